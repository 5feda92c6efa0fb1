/- A part of the proofs of this seat: G24M1 G24M2 G24M3 G24M4 G24M5 G24M6 G24M Pln PlnB T18a T18b T18c PlnM. -/
import Derived.Test.YtaamkoofmojajaaGreatP0b7949f52b
import Derived.IntWalk
import Derived.Sort.AssemblyPlain
set_option linter.unusedVariables false
set_option linter.unusedSimpArgs false
set_option linter.unusedSectionVars false
set_option maxRecDepth 100000
section
namespace Go.Pev
noncomputable section
attribute [local irreducible] L6 I6 NZ Ks AVQ AVR AVS PV Vn VY Xf I9 AQ many IntKind.wrap AM An AN A8 Bo Da JY AE Bh Bz imax AR Ai
abbrev U0:Ty:=(.int .i64)
abbrev U1:Ty:=(.prod U0 (.prod U0 (.prod U0 (.prod .bool .unit))))
abbrev U2:=(Int×Int×Int×Bool×Unit)
abbrev U3:=(List Int)
abbrev U4:=(Int×Int×Unit)
abbrev U5:Ty:=(.slice U0)
abbrev U6:Ty:=(.prod U0 (.prod U0 .unit))
abbrev U7:=(List Int×Int×Int×Int×Unit)
abbrev U8:=(List U3×Int×Int×Int×Unit)
abbrev U9:=(Int×Unit)
abbrev Ua:=(List Int×Unit)
abbrev Ub:Ty:=(.prod U0 (.prod (.slice U1) .unit))
abbrev Uc:=(List Int×Int×Int×Unit)
abbrev Ud:=(List U3×Int×Int×Unit)
abbrev Ue:=(Int×(List U2)×Unit)
abbrev Uf:=(Bool×Unit)
abbrev Ug:=(List U3×Int×Int×Int×Int×Unit)
abbrev Uh:=(Int×(List U3)×Unit)
abbrev Ui:Ty:=(.slice U5)
abbrev Uj:=(List Int×Int×Int×Int×Int×Unit)
abbrev Uk:=(List U3×Unit)
abbrev Ul:Ty:=(.slice U1)
abbrev Um:=(Int×List U2×Bool×Bool×Int×Int×Int×Int×Int×List (Int×Int)×List Int×Int×Int×Unit)
abbrev Un:=(List Int×Int×Unit)
abbrev Uo:Ty:=(.prod U0 (.prod Ui .unit))
abbrev Up:=(Bool×Bool×U4×Int×Unit)
abbrev Uq:=(List Int×Int×Int×Int×Int×Int×Unit)
abbrev Ur:=(Int×Int)
abbrev Us:=(List U3×Int×Int×Int×Int×Int×Unit)
abbrev Ut:=(Int×List U3×List Bool×Int×Int×Int×List Int×Int×List Int×Int×Bool×Int×List Int×Bool×Bool×List Int×List Int×List U3×List Int×List U3×Bool×Bool×List Int×Int×Int×Bool×Unit)
abbrev Uu:=(Int×List U3×List Ur×Int×List U3×Int×Int×List Int×Int×Int×Bool×List Int×Bool×Bool×List Int×Int×List Int×Int×Bool×Int×List Int×Bool×Bool×List Int×Int×Int×Unit)
abbrev Uv:=(Int×List Int×Int×List Int×Int×Bool×Bool×Bool×Bool×Int×Int×Bool×Int×Int×Int×Int×Int×Bool×Int×Int×Int×Int×Int×Int×Int×Int×Int×Bool×Unit)
abbrev Uw:=(List Int×Int×Int×Int×Bool×Bool×Unit)
abbrev Ux:Ty:=(.prod .bool (.prod .bool (.prod U6 (.prod U0 .unit))))
abbrev Uy:=(Int×List U3×Int×Unit)
abbrev Uz:Ty:=(.slice U6)
abbrev V0:=(Int×List U2×List U4×Int×Unit)
abbrev V1:=(List U4×List (U4×Int)×Int×Int×Unit)
abbrev V2:=(Int×Bool×Bool×Int×Int×Int×Int×Int×Int×Bool×Int×List U2×Bool×Bool×Int×Int×Int×Int×Int×Unit)
abbrev V3:=(Ue×Int×Int×Unit)
abbrev V4:=(List Int×Int×List U3×Int×Int×Unit)
abbrev V5:=(List Int×Int×List U3×Unit)
abbrev V6:=(List U4×List (U4×Int)×Int×Unit)
abbrev V7:=(List Int×Int×List U3×Int×Unit)
abbrev V8:=(List U4×Unit)
abbrev V9:=(Int×Int×Int×List U2×Int×List U2×Bool×Bool×Int×Int×Int×List U4×List U4×Int×Unit)
abbrev Va:=(Uh×Int×Unit)
abbrev Vb:=(List U3×Int×Unit)
abbrev Vc:=(Int×List U2×Int×Int×Unit)
abbrev Vd:=(Int×List U2×Bool×Bool×Int×Int×Int×Int×List Ur×List Int×Int×Int×Unit)
abbrev Ve:=(List Int×Bool×Unit)
abbrev Vf:=(Int×List Int×Unit)
abbrev Vg:=(Int×List U2×Int×List U2×Bool×Bool×Int×Int×Int×Int×Int×Unit)
abbrev Vh:=(U8⊕U8⊕Unit)
abbrev Vi:=(U7⊕U7⊕Unit)
abbrev Vj:=(List Int×List U3×Int×List U3×Int×List U3×List U3×Int×Int×Unit)
abbrev Vk:=(Int×List U4×List Int×Bool×Unit)
abbrev Vl:=(Int×List U2×Int×List Up×Int×List U2×List U4×Int×Int×Unit)
abbrev Zj:AF:=[(.tmp 0,.dat U5),(.tmp 1,.dat U5)]
abbrev Zi:AF:=[(.tmp 0,.dat .bool)]
abbrev Zh:List RS:=[.one]
abbrev ADa:AF:=[(.tmp 0,.dat U5),(.tmp 1,.dat U5),(.tmp 5,.di)]
abbrev ADZ:A1:=[(.ret,[(.tmp 4,.dat .bool)]),(.exit 0,[])]
def Ek[Lk]:(List Int×List Int×Int×Unit)→Option ((List Int×List Int×Int×Unit)⊕Uf⊕(Unit)⊕Unit):=fun(a0,a1,a2,_)=>
 match(ilt a2 (AM a0))with
 |true=>match idx a0 a2 with|none=>none|some x0=>match idx a1 a2 with|none=>none|some x1=>match(!(ieq x0 x1))with
  |true=>some (.inr (.inl (false,())))
  |false=>some (.inl (a0,a1,(IntKind.wrap .i64 (a2+1)),()))
 |false=>some (.inr (.inr (.inl ())))
def Pz[Lk]:(List Int×List Int×Unit)→Option (Uf):=fun(a0,a1,_)=>
 match(!(ieq (AM a0) (AM a1)))with
 |true=>some (false,())
 |false=>match AT Ek many (a0,a1,0,())with|none=>none|some r=>match r with
 |.inl (o0,_)=>some (o0,())
 |.inr r=>match r with
 |.inl _=>some (true,())
 |.inr _=>none
def Si[Lk]:=fun v=>Lk.f (Pz v)
theorem ADb v:Si v=Pz v:=AI _
abbrev XD:AF:=[(.tmp 0,.di)]
abbrev XC:AF:=[(.tmp 0,.dat .bool)]
abbrev XB:List RS:=[.one]
def PH[Lk]:U9→Option (Uf):=fun(a0,_)=>
 match(ile 1 a0)with
 |true=>some ((ile a0 64),())
 |false=>some (false,())
def LD[Lk]:=fun v=>Lk.f (PH v)
theorem ACj v:LD v=PH v:=AI _
abbrev AW4:AF:=[(.tmp 0,.di),(.tmp 1,.di)]
abbrev AW3:AF:=[(.tmp 0,.dat .bool)]
abbrev AW2:List RS:=[.one]
def ARn[Lk]:U4→Option (Uf):=fun(a0,a1,_)=>
 match LD (a0,())with|none=>none|some (y0,_)=>match y0 with
 |true=>match(ile 0 a1)with
  |true=>some ((ilt a1 a0),())
  |false=>some (false,())
 |false=>some (false,())
def tin[Lk]:=fun v=>Lk.f (ARn v)
theorem AW5 v:tin v=ARn v:=AI _
abbrev ANO:AF:=[(.tmp 0,.di),(.tmp 1,.di),(.tmp 2,.di)]
abbrev ANN:AF:=[(.tmp 0,.di)]
abbrev ANM:List RS:=[.one]
def AEq[Lk]:(Int×Int×Int×Unit)→Option (U9):=fun(a0,a1,a2,_)=>
 match(ieq a1 a2)with
 |true=>some ((-1:Int),())
 |false=>match tin (a0,a1,())with|none=>none|some (y0,_)=>match(!y0)with
 |true=>some ((-1:Int),())
 |false=>match tin (a0,a2,())with|none=>none|some (y1,_)=>match(!y1)with
 |true=>some ((-1:Int),())
 |false=>some ((IntKind.wrap .i64 ((IntKind.wrap .i64 (a0*(IntKind.wrap .i64 (a1+1))))+a2)),())
def ATZ[Lk]:=fun v=>Lk.f (AEq v)
theorem ARo v:ATZ v=AEq v:=AI _
abbrev W9:AF:=[(.tmp 0,.di),(.tmp 1,.di)]
abbrev W8:AF:=[(.tmp 0,.di),(.tmp 1,.di),(.tmp 2,.dat .bool),(.tmp 3,.dat .bool)]
abbrev W7:List RS:=[.one,.one,.one,.one]
def PG[Lk]:U4→Option ((Int×Int×Bool×Bool×Unit)):=fun(a0,a1,_)=>
 match LD (a0,())with|none=>none|some (y0,_)=>match(!y0)with
 |true=>some (0,0,false,false,())
 |false=>match(ilt a1 0)with
 |true=>some (0,0,false,false,())
 |false=>match(ile (IntKind.wrap .i64 (a0*(IntKind.wrap .i64 (a0+1)))) a1)with
 |true=>some (0,0,false,false,())
 |false=>match(ilt a1 a0)with
 |true=>some (a1,0,false,true,())
 |false=>match quo? .i64 a1 a0 with|none=>none|some x1=>match rem? a1 a0 with|none=>none|some x2=>match(ieq (IntKind.wrap .i64 (x1-1)) x2)with
 |true=>some (0,0,false,false,())
 |false=>some ((IntKind.wrap .i64 (x1-1)),x2,true,true,())
def XA[Lk]:=fun v=>Lk.f (PG v)
theorem ACi v:XA v=PG v:=AI _
abbrev AEk:AF:=[(.tmp 0,.di)]
abbrev AEj:AF:=[(.tmp 0,.di),(.tmp 1,.own 55 U5),(.tmp 2,.di)]
abbrev AEi:List RS:=[.agg 2,.one]
abbrev AIv:AF:=[(.tmp 2,.box 2),(.cell 0 0,.di),(.cell 0 1,.nil U5),(.tmp 4,.box 2),(.cell 1 0,.di),(.cell 1 1,.own 55 U5),(.tmp 12,.di),(.tmp 13,.di)]
abbrev AIu:A1:=[(.exit 0,[(.tmp 2,.box 2),(.cell 0 0,.di),(.cell 0 1,.nil U5),(.tmp 4,.box 2),(.cell 1 0,.di),(.cell 1 1,.own 55 U5)])]
def HX[Lk]:(Int×Int×List U3×Int×Int×Unit)→Option ((Int×Int×List U3×Int×Int×Unit)⊕(Int×Int×List U3×Unit)⊕Unit):=fun(a0,a1,a2,a3,a4,_)=>
 match(ilt a4 a3)with
 |true=>match(fits ((AM a2)+(AM ([([a4]:List (Int))]:List U3))))with
  |true=>some (.inl (a0,a1,(A8 a2 ([([a4]:List (Int))]:List U3)),a3,(IntKind.wrap .i64 (a4+1)),()))
  |false=>none
 |false=>some (.inr (.inl (a0,a1,a2,())))
def WT[Lk]:U9→Option (Uy):=fun(a0,_)=>
 match LD (a0,())with|none=>none|some (y0,_)=>match(!y0)with
 |true=>some (0,([]:List U3),1,())
 |false=>match AT HX many (0,a0,([]:List U3),a0,0,())with|none=>none|some r=>match r with
 |.inl (o1,o2,o3,_)=>some (o2,o3,0,())
 |.inr _=>none
def AIx[Lk]:=fun v=>Lk.f (WT v)
theorem AIw v:AIx v=WT v:=AI _
abbrev Zq:AF:=[(.tmp 0,.dat U5),(.tmp 1,.di)]
abbrev Zp:AF:=[(.tmp 0,.di)]
abbrev Zo:List RS:=[.one]
abbrev ADd:AF:=[(.tmp 0,.dat U5),(.tmp 1,.di),(.tmp 7,.di),(.tmp 8,.di)]
abbrev ADc:A1:=[(.ret,[(.tmp 4,.di)]),(.exit 0,[])]
def Fg[Lk]:U7→Option (U7⊕U9⊕(Unit)⊕Unit):=fun(a0,a1,a2,a3,_)=>
 match(ilt a3 a2)with
 |true=>match idx a0 a3 with|none=>none|some x0=>match(ieq a1 x0)with
  |true=>some (.inr (.inl (a3,())))
  |false=>some (.inl (a0,a1,a2,(IntKind.wrap .i64 (a3+1)),()))
 |false=>some (.inr (.inr (.inl ())))
def P6[Lk]:Un→Option (U9):=fun(a0,a1,_)=>
 match AT Fg many (a0,a1,(AM a0),0,())with|none=>none|some r=>match r with
 |.inl (o0,_)=>some (o0,())
 |.inr r=>match r with
 |.inl _=>some ((-1:Int),())
 |.inr _=>none
def OZ[Lk]:=fun v=>Lk.f (P6 v)
theorem ADe v:OZ v=P6 v:=AI _
abbrev MF:AF:=[(.tmp 0,.dat U5),(.tmp 1,.di)]
abbrev ME:AF:=[(.tmp 0,.dat .bool)]
abbrev MD:List RS:=[.one]
def Il[Lk]:Un→Option (Uf):=fun(a0,a1,_)=>
 match OZ (a0,a1,())with|none=>none|some (y0,_)=>some ((ile 0 y0),())
def El[Lk]:=fun v=>Lk.f (Il v)
theorem QW v:El v=Il v:=AI _
abbrev APY:AF:=[(.tmp 0,.dat U5)]
abbrev APX:AF:=[(.tmp 0,.di)]
abbrev APW:List RS:=[.one]
abbrev ASQ:AF:=[(.tmp 0,.dat U5),(.tmp 3,.di),(.tmp 4,.di)]
abbrev ASP:A1:=[(.exit 0,[(.tmp 3,.di)])]
def J6[Lk]:Uc→Option (Uc⊕U9⊕Unit):=fun(a0,a1,a2,_)=>
 match(ilt a2 (AM a0))with
 |true=>match idx a0 a2 with|none=>none|some x0=>some (.inl (a0,(Bz a1 x0),(IntKind.wrap .i64 (a2+1)),()))
 |false=>some (.inr (.inl (a1,())))
def AGK[Lk]:Ua→Option (U9):=fun(a0,_)=>
 match(ilt (AM a0) 1)with
 |true=>none
 |false=>match idx a0 0 with|none=>none|some x0=>match AT J6 many (a0,x0,1,())with|none=>none|some r=>match r with
 |.inl (o1,_)=>some (o1,())
 |.inr _=>none
def AUl[Lk]:=fun v=>Lk.f (AGK v)
theorem ASR v:AUl v=AGK v:=AI _
abbrev AHC:AF:=[(.tmp 0,.nil U0),(.tmp 1,.di)]
abbrev AHB:AF:=[(.tmp 0,.own 3 U0)]
abbrev AHA:List RS:=[.one]
def Wr[Lk]:U9→Option (Ua):=fun(a0,_)=>
 match(ilt a0 0)with
 |true=>none
 |false=>match(ilt 0 (IntKind.wrap .i64 (a0-(IntKind.wrap .i64 (0-0)))))with
 |true=>match CH ([]:List Unit) 0 0 with|none=>none|some _u0=>match(Kz (IntKind.wrap .i64 (a0-(IntKind.wrap .i64 (0-0)))))with
  |true=>match CH (JY (AE (IntKind.wrap .i64 (a0-(IntKind.wrap .i64 ((0:Int)-(0:Int)))))) (0:Int)) (0:Int) (0:Int)with|none=>none|some x1=>some ((Bo (AE (AM x1)) (JY (AE (IntKind.wrap .i64 (a0-(IntKind.wrap .i64 ((0:Int)-(0:Int)))))) (0:Int))),())
  |false=>none
 |false=>some (([]:List (Int)),())
def ALw[Lk]:=fun v=>Lk.f (Wr v)
theorem ALv v:ALw v=Wr v:=AI _
abbrev TC:AF:=[(.tmp 0,.dat Ui)]
abbrev TB:AF:=[(.tmp 0,.own 3 U0)]
abbrev TA:List RS:=[.one]
abbrev AAW:AF:=[(.tmp 6,.own 3 U0),(.tmp 25,.dat Ui),(.tmp 26,.di),(.tmp 27,.di)]
abbrev AAU:A1:=[(.exit 2,[(.tmp 6,.own 3 U0)])]
def EU[Lk]:(List Int×List U3×Int×Int×Unit)→Option ((List Int×List U3×Int×Int×Unit)⊕Ua⊕Unit):=fun(a0,a1,a2,a3,_)=>
 match(ilt a3 a2)with
 |true=>match idx a1 a3 with|none=>none|some x0=>match(fits ((AM a0)+(AM x0)))with
  |true=>some (.inl ((A8 a0 x0),a1,a2,(IntKind.wrap .i64 (a3+1)),()))
  |false=>none
 |false=>some (.inr (.inl (a0,())))
abbrev AAX:AF:=[(.tmp 0,.dat Ui),(.tmp 3,.di),(.tmp 9,.dat Ui),(.tmp 10,.di),(.tmp 11,.di)]
abbrev AAV:A1:=[(.exit 0,[(.tmp 0,.dat Ui),(.tmp 3,.di)])]
def EV[Lk]:(List U3×Int×List U3×Int×Int×Unit)→Option ((List U3×Int×List U3×Int×Int×Unit)⊕Vb⊕Unit):=fun(a0,a1,a2,a3,a4,_)=>
 match(ilt a4 a3)with
 |true=>match idx a2 a4 with|none=>none|some x0=>match(ilt (IntKind.wrap .i64 (a1+(AM x0))) 0)with
  |true=>none
  |false=>some (.inl (a0,(IntKind.wrap .i64 (a1+(AM x0))),a2,a3,(IntKind.wrap .i64 (a4+1)),()))
 |false=>some (.inr (.inl (a0,a1,())))
def NH[Lk]:Uk→Option (Ua):=fun(a0,_)=>
 match AT EV many (a0,0,a0,(AM a0),0,())with|none=>none|some r=>match r with
 |.inl (o0,o1,_)=>match ALw (o1,())with|none=>none|some (y2,_)=>match AT EU many (y2,o0,(AM o0),0,())with|none=>none|some r=>match r with
  |.inl (o3,_)=>some (o3,())
  |.inr _=>none
 |.inr _=>none
def Im[Lk]:=fun v=>Lk.f (NH v)
theorem AAY v:Im v=NH v:=AI _
abbrev Ht:AF:=[(.tmp 0,.dat U5),(.tmp 1,.clo 195 [])]
abbrev Hs:AF:=[(.tmp 0,.di)]
abbrev Hr:List RS:=[.one]
abbrev Ku:AF:=[(.tmp 0,.dat U5),(.tmp 1,.clo 195 []),(.tmp 7,.di),(.tmp 8,.di)]
abbrev Kt:A1:=[(.ret,[(.tmp 4,.di)]),(.exit 0,[])]
def B5[Lk]:Uc→Option (Uc⊕U9⊕(Unit)⊕Unit):=fun(a0,a1,a2,_)=>
 match(ilt a2 a1)with
 |true=>match idx a0 a2 with|none=>none|some x0=>match(ilt x0 0)with
  |true=>some (.inr (.inl (a2,())))
  |false=>match(ilt 10000 x0)with
  |true=>some (.inr (.inl (a2,())))
  |false=>some (.inl (a0,a1,(IntKind.wrap .i64 (a2+1)),()))
 |false=>some (.inr (.inr (.inl ())))
def E6[Lk]:Ua→Option (U9):=fun(a0,_)=>
 match AT B5 many (a0,(AM a0),0,())with|none=>none|some r=>match r with
 |.inl (o0,_)=>some (o0,())
 |.inr r=>match r with
 |.inl _=>some ((-1:Int),())
 |.inr _=>none
def G3[Lk]:=fun v=>Lk.f (E6 v)
theorem Kv v:G3 v=E6 v:=AI _
abbrev Gq:AF:=[(.tmp 0,.dat U5),(.tmp 1,.clo 195 [])]
abbrev Gp:AF:=[(.tmp 0,.dat .bool)]
abbrev Gn:List RS:=[.one]
def EC[Lk]:Ua→Option (Uf):=fun(a0,_)=>
 match G3 (a0,())with|none=>none|some (y0,_)=>some ((ile 0 y0),())
def D5[Lk]:=fun v=>Lk.f (EC v)
theorem Ja v:D5 v=EC v:=AI _
abbrev APJ:AF:=[(.tmp 0,.dat U5)]
abbrev API:AF:=[(.tmp 0,.dat .bool)]
abbrev APH:List RS:=[.one]
abbrev ASI:AF:=[(.tmp 0,.dat U5),(.tmp 3,.map U0 U0),(.tmp 7,.dat U5),(.tmp 8,.di),(.tmp 9,.di)]
abbrev ASH:A1:=[(.exit 0,[(.tmp 0,.dat U5),(.tmp 3,.map U0 U0)])]
def J1[Lk]:(List Int×List Ur×List Int×Int×Int×Unit)→Option ((List Int×List Ur×List Int×Int×Int×Unit)⊕(List Int×List Ur×Unit)⊕Unit):=fun(a0,a1,a2,a3,a4,_)=>
 match(ilt a4 a3)with
 |true=>match idx a2 a4 with|none=>none|some x0=>some (.inl (a0,(Ai a1 x0 (IntKind.wrap .i64 (((AR a1 x0).getD 0)+1))),a2,a3,(IntKind.wrap .i64 (a4+1)),()))
 |false=>some (.inr (.inl (a0,a1,())))
def AGE[Lk]:Ua→Option (Uf):=fun(a0,_)=>
 match AT J1 many (a0,([]:List Ur),a0,(AM a0),0,())with|none=>none|some r=>match r with
 |.inl (o0,o1,_)=>some ((ieq (AM o1) (AM o0)),())
 |.inr _=>none
def once[Lk]:=fun v=>Lk.f (AGE v)
theorem ASJ v:once v=AGE v:=AI _
abbrev Xs:AF:=[(.tmp 0,.dat U5)]
abbrev Xr:AF:=[(.tmp 0,.dat .bool)]
abbrev Xq:List RS:=[.one]
def PO[Lk]:Ua→Option (Uf):=fun(a0,_)=>
 match(ilt 1000 (AM a0))with
 |true=>some (false,())
 |false=>match D5 (a0,())with|none=>none|some (y0,_)=>match(!y0)with
 |true=>match once (a0,())with|none=>none|some (y1,_)=>some (y1,())
 |false=>some (false,())
def OC[Lk]:=fun v=>Lk.f (PO v)
theorem AC7 v:OC v=PO v:=AI _
abbrev W6:AF:=[(.tmp 0,.dat U5),(.tmp 1,.di)]
abbrev W5:AF:=[(.tmp 0,.own 3 U0)]
abbrev W4:List RS:=[.one]
def PF[Lk]:Un→Option (Ua):=fun(a0,a1,_)=>
 match CH a0 a1 (AM a0)with|none=>none|some x0=>match CH a0 0 a1 with|none=>none|some x1=>match Im (([x0,x1]:List U3),())with|none=>none|some (y2,_)=>some (y2,())
def RL[Lk]:=fun v=>Lk.f (PF v)
theorem ACh v:RL v=PF v:=AI _
abbrev YM:AF:=[(.tmp 0,.dat U5),(.tmp 1,.dat U5)]
abbrev YL:AF:=[(.tmp 0,.own 3 U0),(.tmp 1,.dat .bool)]
abbrev YK:List RS:=[.one,.one]
abbrev ADF:AF:=[(.tmp 0,.dat U5),(.tmp 6,.own 3 U0),(.tmp 12,.dat U5),(.tmp 13,.di),(.tmp 14,.di)]
abbrev ADE:A1:=[(.exit 0,[(.tmp 6,.own 3 U0)])]
def Ef[Lk]:(List Int×List Int×List Int×Int×Int×Unit)→Option ((List Int×List Int×List Int×Int×Int×Unit)⊕Ua⊕Unit):=fun(a0,a1,a2,a3,a4,_)=>
 match(ilt a4 a3)with
 |true=>match idx a2 a4 with|none=>none|some x0=>match OZ (a0,x0,())with|none=>none|some (y1,_)=>match(fits ((AM a1)+(AM ([y1]:List (Int)))))with
  |true=>some (.inl (a0,(A8 a1 ([y1]:List (Int))),a2,a3,(IntKind.wrap .i64 (a4+1)),()))
  |false=>none
 |false=>some (.inr (.inl (a1,())))
def Pa[Lk]:(List Int×List Int×Unit)→Option (Ve):=fun(a0,a1,_)=>
 match OC (a0,())with|none=>none|some (y0,_)=>match(!y0)with
 |true=>some (([]:List (Int)),false,())
 |false=>match AT Ef many (a0,([]:List (Int)),a1,(AM a1),0,())with|none=>none|some r=>match r with
 |.inl (o1,_)=>match El (o1,(-1:Int),())with|none=>none|some (y2,_)=>some (o1,(!y2),())
 |.inr _=>none
def AFZ[Lk]:=fun v=>Lk.f (Pa v)
theorem ADG v:AFZ v=Pa v:=AI _
abbrev AFI:AF:=[(.tmp 0,.dat U5),(.tmp 1,.di)]
abbrev AFH:AF:=[(.tmp 0,.own 3 U0),(.tmp 1,.dat .bool)]
abbrev AFG:List RS:=[.one,.one]
def Wb[Lk]:Un→Option (Ve):=fun(a0,a1,_)=>
 match AFZ (a0,([a1]:List (Int)),())with|none=>none|some (y0,y1,_)=>match(!y1)with
 |true=>some (([]:List (Int)),false,())
 |false=>match idx y0 0 with|none=>none|some x2=>match RL (a0,(AN y0 0 0),())with|none=>none|some (y3,_)=>some (y3,true,())
def ADA[Lk]:=fun v=>Lk.f (Wb v)
theorem AJa v:ADA v=Wb v:=AI _
abbrev Xv:AF:=[(.tmp 0,.dat U5)]
abbrev Xu:AF:=[(.tmp 0,.own 3 U0)]
abbrev Xt:List RS:=[.one]
def PQ[Lk]:Ua→Option (Ua):=fun(a0,_)=>
 match OC (a0,())with|none=>none|some (y0,_)=>match(!y0)with
 |true=>some (([]:List (Int)),())
 |false=>match(ieq (AM a0) 0)with
 |true=>some (([]:List (Int)),())
 |false=>match AUl (a0,())with|none=>none|some (y1,_)=>match OZ (a0,y1,())with|none=>none|some (y2,_)=>match RL (a0,y2,())with|none=>none|some (y3,_)=>some (y3,())
def Xw[Lk]:=fun v=>Lk.f (PQ v)
theorem AC8 v:Xw v=PQ v:=AI _
abbrev Fj:AF:=[(.tmp 0,.dat Ui),(.cap 1 0,.box 1),(.cell 0 0,.di),(.tmp 1,.clo 180 [(0,0)])]
abbrev Fi:AF:=[(.obj 0,.box 1),(.cell 0 0,.di),(.tmp 0,.di)]
abbrev Fh:List RS:=[.one]
abbrev IZ:AF:=[(.obj 0,.box 1),(.cell 0 0,.di),(.tmp 0,.dat Ui),(.tmp 1,.clo 180 [(0,0)]),(.tmp 7,.di),(.tmp 8,.di)]
abbrev IY:A1:=[(.ret,[(.obj 0,.box 1),(.cell 0 0,.di),(.tmp 4,.di)]),(.exit 0,[(.obj 0,.box 1),(.cell 0 0,.di)])]
def Bf[Lk]:(Int×List U3×Int×Int×Unit)→Option ((Int×List U3×Int×Int×Unit)⊕U4⊕U9⊕Unit):=fun(a0,a1,a2,a3,_)=>
 match(ilt a3 a2)with
 |true=>match idx a1 a3 with|none=>none|some x0=>match El (x0,a0,())with|none=>none|some (y1,_)=>match y1 with
  |true=>some (.inr (.inl (a0,a3,())))
  |false=>some (.inl (a0,a1,a2,(IntKind.wrap .i64 (a3+1)),()))
 |false=>some (.inr (.inr (.inl (a0,()))))
def Dq[Lk]:Vb→Option (U4):=fun(a0,a1,_)=>
 match AT Bf many (a1,a0,(AM a0),0,())with|none=>none|some r=>match r with
 |.inl (o0,o1,_)=>some (o0,o1,())
 |.inr r=>match r with
 |.inl (o2,_)=>some (o2,(-1:Int),())
 |.inr _=>none
def E4[Lk]:=fun v=>Lk.f (Dq v)
theorem Ia v:E4 v=Dq v:=AI _
abbrev XQ:AF:=[(.tmp 0,.dat Uo),(.tmp 1,.di)]
abbrev XP:AF:=[(.tmp 0,.di)]
abbrev XO:List RS:=[.one]
def PK[Lk]:Va→Option (U9):=fun(a0,a1,_)=>
 match E4 (a0.2.1,a1,())with|none=>none|some (y0,y1,_)=>some (y1,())
def N4[Lk]:=fun v=>Lk.f (PK v)
theorem ACr v:N4 v=PK v:=AI _
abbrev AQY:AF:=[(.tmp 0,.di),(.tmp 1,.dat U5)]
abbrev AQX:AF:=[(.tmp 0,.dat .bool)]
abbrev AQW:List RS:=[.one]
abbrev ASl:AF:=[(.tmp 0,.di),(.tmp 5,.box 3),(.cell 0 0,.own 3 U0),(.cell 0 1,.map U0 U0),(.cell 0 2,.map U0 U0),(.tmp 30,.dat U5),(.tmp 31,.di),(.tmp 32,.di)]
abbrev ASk:A1:=[(.ret,[(.tmp 4,.dat .bool)]),(.exit 0,[(.tmp 5,.box 3),(.cell 0 0,.own 3 U0),(.cell 0 1,.map U0 U0),(.cell 0 2,.map U0 U0)])]
def Ig[Lk]:(Int×List Int×List Ur×List Ur×List Int×Int×Int×Unit)→Option ((Int×List Int×List Ur×List Ur×List Int×Int×Int×Unit)⊕Uf⊕(List Int×List Ur×List Ur×Unit)⊕Unit):=fun(a0,a1,a2,a3,a4,a5,a6,_)=>
 match(ilt a6 a5)with
 |true=>match idx a4 a6 with|none=>none|some x0=>match XA (a0,x0,())with|none=>none|some (y1,y2,y3,y4,_)=>match(!y4)with
  |true=>some (.inr (.inl (false,())))
  |false=>match y3 with
  |true=>match idx a1 (IntKind.wrap .i64 ((AM a1)-1))with|none=>none|some x5=>match(!(ieq (AN a1 (AE (IntKind.wrap .i64 ((AM a1)-1))) 0) y1))with
   |true=>some (.inr (.inl (false,())))
   |false=>match(ilt 0 (IntKind.wrap .i64 ((AM a1)-1)))with
   |true=>match idx a1 (IntKind.wrap .i64 ((IntKind.wrap .i64 ((AM a1)-1))-1))with|none=>none|some x6=>match(ieq (AN a1 (AE (IntKind.wrap .i64 ((IntKind.wrap .i64 ((AM a1)-1))-1))) 0) y2)with
    |true=>match CH a1 0 (IntKind.wrap .i64 ((AM a1)-1))with|none=>none|some x7=>match(!y3)with
     |true=>match idx (Da 0 (AE (AM x7)) a1) (IntKind.wrap .i64 ((((AE (AM x7)):Nat):Int)-1))with|none=>none|some x8=>match(!(ieq (AN a1 (0+(AE (IntKind.wrap .i64 ((((AE (AM x7)):Nat):Int)-1)))) 0) y1))with
      |true=>some (.inr (.inl (false,())))
      |false=>match(!y3)with
      |true=>some (.inl (a0,(Bo (AE (AM x7)) a1),a2,(Ai a3 y1 (IntKind.wrap .i64 (((AR a3 y1).getD 0)+1))),a4,a5,(IntKind.wrap .i64 (a6+1)),()))
      |false=>some (.inl (a0,(Bo (AE (AM x7)) a1),a2,a3,a4,a5,(IntKind.wrap .i64 (a6+1)),()))
     |false=>match(!y3)with
     |true=>some (.inl (a0,(Bo (AE (AM x7)) a1),a2,(Ai a3 y1 (IntKind.wrap .i64 (((AR a3 y1).getD 0)+1))),a4,a5,(IntKind.wrap .i64 (a6+1)),()))
     |false=>some (.inl (a0,(Bo (AE (AM x7)) a1),a2,a3,a4,a5,(IntKind.wrap .i64 (a6+1)),()))
    |false=>match(ilt 0 ((AR a2 y2).getD 0))with
    |true=>some (.inr (.inl (false,())))
    |false=>match(fits ((AM a1)+(AM ([y2]:List (Int)))))with
    |true=>match(!y3)with
     |true=>match idx (A8 a1 ([y2]:List (Int))) (IntKind.wrap .i64 ((AM (A8 a1 ([y2]:List (Int))))-1))with|none=>none|some x9=>match(!(ieq (AN (A8 a1 ([y2]:List (Int))) (AE (IntKind.wrap .i64 ((AM (A8 a1 ([y2]:List (Int))))-1))) 0) y1))with
      |true=>some (.inr (.inl (false,())))
      |false=>match(!y3)with
      |true=>some (.inl (a0,(A8 a1 ([y2]:List (Int))),(Ai a2 y2 (IntKind.wrap .i64 (((AR a2 y2).getD 0)+1))),(Ai a3 y1 (IntKind.wrap .i64 (((AR a3 y1).getD 0)+1))),a4,a5,(IntKind.wrap .i64 (a6+1)),()))
      |false=>some (.inl (a0,(A8 a1 ([y2]:List (Int))),(Ai a2 y2 (IntKind.wrap .i64 (((AR a2 y2).getD 0)+1))),a3,a4,a5,(IntKind.wrap .i64 (a6+1)),()))
     |false=>match(!y3)with
     |true=>some (.inl (a0,(A8 a1 ([y2]:List (Int))),(Ai a2 y2 (IntKind.wrap .i64 (((AR a2 y2).getD 0)+1))),(Ai a3 y1 (IntKind.wrap .i64 (((AR a3 y1).getD 0)+1))),a4,a5,(IntKind.wrap .i64 (a6+1)),()))
     |false=>some (.inl (a0,(A8 a1 ([y2]:List (Int))),(Ai a2 y2 (IntKind.wrap .i64 (((AR a2 y2).getD 0)+1))),a3,a4,a5,(IntKind.wrap .i64 (a6+1)),()))
    |false=>none
   |false=>match(ilt 0 ((AR a2 y2).getD 0))with
   |true=>some (.inr (.inl (false,())))
   |false=>match(fits ((AM a1)+(AM ([y2]:List (Int)))))with
   |true=>match(!y3)with
    |true=>match idx (A8 a1 ([y2]:List (Int))) (IntKind.wrap .i64 ((AM (A8 a1 ([y2]:List (Int))))-1))with|none=>none|some x10=>match(!(ieq (AN (A8 a1 ([y2]:List (Int))) (AE (IntKind.wrap .i64 ((AM (A8 a1 ([y2]:List (Int))))-1))) 0) y1))with
     |true=>some (.inr (.inl (false,())))
     |false=>match(!y3)with
     |true=>some (.inl (a0,(A8 a1 ([y2]:List (Int))),(Ai a2 y2 (IntKind.wrap .i64 (((AR a2 y2).getD 0)+1))),(Ai a3 y1 (IntKind.wrap .i64 (((AR a3 y1).getD 0)+1))),a4,a5,(IntKind.wrap .i64 (a6+1)),()))
     |false=>some (.inl (a0,(A8 a1 ([y2]:List (Int))),(Ai a2 y2 (IntKind.wrap .i64 (((AR a2 y2).getD 0)+1))),a3,a4,a5,(IntKind.wrap .i64 (a6+1)),()))
    |false=>match(!y3)with
    |true=>some (.inl (a0,(A8 a1 ([y2]:List (Int))),(Ai a2 y2 (IntKind.wrap .i64 (((AR a2 y2).getD 0)+1))),(Ai a3 y1 (IntKind.wrap .i64 (((AR a3 y1).getD 0)+1))),a4,a5,(IntKind.wrap .i64 (a6+1)),()))
    |false=>some (.inl (a0,(A8 a1 ([y2]:List (Int))),(Ai a2 y2 (IntKind.wrap .i64 (((AR a2 y2).getD 0)+1))),a3,a4,a5,(IntKind.wrap .i64 (a6+1)),()))
   |false=>none
  |false=>match(!y3)with
  |true=>match idx a1 (IntKind.wrap .i64 ((AM a1)-1))with|none=>none|some x11=>match(!(ieq (AN a1 (AE (IntKind.wrap .i64 ((AM a1)-1))) 0) y1))with
   |true=>some (.inr (.inl (false,())))
   |false=>match(!y3)with
   |true=>some (.inl (a0,a1,a2,(Ai a3 y1 (IntKind.wrap .i64 (((AR a3 y1).getD 0)+1))),a4,a5,(IntKind.wrap .i64 (a6+1)),()))
   |false=>some (.inl (a0,a1,a2,a3,a4,a5,(IntKind.wrap .i64 (a6+1)),()))
  |false=>match(!y3)with
  |true=>some (.inl (a0,a1,a2,(Ai a3 y1 (IntKind.wrap .i64 (((AR a3 y1).getD 0)+1))),a4,a5,(IntKind.wrap .i64 (a6+1)),()))
  |false=>some (.inl (a0,a1,a2,a3,a4,a5,(IntKind.wrap .i64 (a6+1)),()))
 |false=>some (.inr (.inr (.inl (a1,a2,a3,()))))
def AHE[Lk]:Vf→Option (Uf):=fun(a0,a1,_)=>
 match idx a1 0 with|none=>none|some x0=>match tin (a0,x0,())with|none=>none|some (y1,_)=>match(!y1)with
 |true=>some (false,())
 |false=>match idx a1 0 with|none=>none|some x2=>match idx a1 0 with|none=>none|some x3=>match AT Ig many (a0,([x2]:List (Int)),(Ai ([]:List Ur) x3 1),([]:List Ur),a1,(AM a1),0,())with|none=>none|some r=>match r with
 |.inl (o4,_)=>some (o4,())
 |.inr r=>match r with
 |.inl (o5,o6,o7,_)=>match(ieq (AM o5) 1)with
  |true=>some ((ieq (AM o7) (AM o6)),())
  |false=>some (false,())
 |.inr _=>none
def AZc[Lk]:=fun v=>Lk.f (AHE v)
theorem ASm v:AZc v=AHE v:=AI _
abbrev XJ:AF:=[(.tmp 0,.dat Uo)]
abbrev XI:AF:=[(.tmp 0,.dat .bool)]
abbrev XH:List RS:=[.one]
abbrev ACn:AF:=[(.tmp 3,.map U0 U0),(.tmp 78,.di),(.tmp 79,.di)]
abbrev ACk:A1:=[(.ret,[(.tmp 2,.dat .bool)]),(.exit 4,[])]
def Eb[Lk]:(List Ur×Int×Int×Unit)→Option ((List Ur×Int×Int×Unit)⊕Uf⊕(Unit)⊕Unit):=fun(a0,a1,a2,_)=>
 match(ilt a2 a1)with
 |true=>match(ieq ((AR a0 a2).getD 0) 0)with
  |true=>some (.inr (.inl (false,())))
  |false=>some (.inl (a0,a1,(IntKind.wrap .i64 (a2+1)),()))
 |false=>some (.inr (.inr (.inl ())))
abbrev ACo:AF:=[(.tmp 1,.box 2),(.cell 0 0,.di),(.cell 0 1,.dat Ui),(.tmp 3,.map U0 U0),(.tmp 4,.di),(.tmp 16,.dat Ui),(.tmp 17,.di),(.tmp 18,.di),(.tmp 26,.dat U5),(.tmp 28,.di),(.tmp 29,.di),(.tmp 30,.dat .bool),(.tmp 33,.dat U5),(.tmp 34,.dat .bool),(.tmp 35,.dat .bool),(.tmp 38,.dat U5),(.tmp 39,.di),(.tmp 40,.dat U5),(.tmp 42,.di),(.tmp 43,.dat .bool),(.tmp 46,.ptr' 0 0),(.tmp 47,.di),(.tmp 48,.dat U5),(.tmp 49,.dat .bool),(.tmp 50,.dat .bool),(.tmp 55,.dat U5),(.tmp 56,.di),(.tmp 57,.di)]
abbrev ACl:A1:=[(.ret,[(.tmp 2,.dat .bool)]),(.exit 2,[(.tmp 1,.box 2),(.cell 0 0,.di),(.cell 0 1,.dat Ui),(.tmp 3,.map U0 U0),(.tmp 4,.di),(.tmp 16,.dat Ui),(.tmp 17,.di),(.tmp 18,.di),(.tmp 26,.dat U5),(.tmp 28,.di),(.tmp 29,.di),(.tmp 30,.dat .bool),(.tmp 33,.dat U5),(.tmp 34,.dat .bool),(.tmp 35,.dat .bool),(.tmp 38,.dat U5),(.tmp 39,.di),(.tmp 40,.dat U5),(.tmp 42,.di),(.tmp 43,.dat .bool),(.tmp 46,.ptr' 0 0),(.tmp 47,.di),(.tmp 48,.dat U5),(.tmp 49,.dat .bool),(.tmp 50,.dat .bool)])]
def Dd[Lk]:Uu→Option (Uu⊕Uf⊕(Int×List U3×List Ur×Int×List U3×Int×Int×List Int×Int×Int×Bool×List Int×Bool×Bool×List Int×Int×List Int×Int×Bool×Int×List Int×Bool×Bool×Unit)⊕Unit):=fun(a0,a1,a2,a3,a4,a5,a6,a7,a8,a9,a10,a11,a12,a13,a14,a15,a16,a17,a18,a19,a20,a21,a22,a23,a24,a25,_)=>
 match(ilt a25 a24)with
 |true=>match idx a23 a25 with|none=>none|some x0=>match(ilt x0 a0)with
  |true=>match(ilt 0 ((AR a2 x0).getD 0))with
   |true=>some (.inr (.inl (false,())))
   |false=>some (.inl (a0,a1,(Ai a2 x0 (IntKind.wrap .i64 (((AR a2 x0).getD 0)+1))),a3,a4,a5,a6,a7,a8,a9,a10,a11,a12,a13,a14,a15,a16,a17,a18,a19,a20,a21,a22,a23,a24,(IntKind.wrap .i64 (a25+1)),()))
  |false=>some (.inl (a0,a1,(Ai a2 x0 (IntKind.wrap .i64 (((AR a2 x0).getD 0)+1))),a3,a4,a5,a6,a7,a8,a9,a10,a11,a12,a13,a14,a15,a16,a17,a18,a19,a20,a21,a22,a23,a24,(IntKind.wrap .i64 (a25+1)),()))
 |false=>some (.inr (.inr (.inl (a0,a1,a2,a3,a4,a5,a6,a7,a8,a9,a10,a11,a12,a13,a14,a15,a16,a17,a18,a19,a20,a21,a22,()))))
abbrev ACp:AF:=[(.tmp 1,.box 2),(.cell 0 0,.di),(.cell 0 1,.dat Ui),(.tmp 3,.map U0 U0),(.tmp 4,.di),(.tmp 16,.dat Ui),(.tmp 17,.di),(.tmp 18,.di)]
abbrev ACm:A1:=[(.ret,[(.tmp 2,.dat .bool)]),(.exit 0,[(.tmp 1,.box 2),(.cell 0 0,.di),(.cell 0 1,.dat Ui),(.tmp 3,.map U0 U0)])]
def De[Lk]:(Int×List U3×List Ur×Int×List U3×Int×Int×Unit)→Option ((Int×List U3×List Ur×Int×List U3×Int×Int×Unit)⊕Uf⊕(Int×List U3×List Ur×Unit)⊕Unit):=fun(a0,a1,a2,a3,a4,a5,a6,_)=>
 match(ilt a6 a5)with
 |true=>match idx a4 a6 with|none=>none|some x0=>match(ieq (AM x0) 0)with
  |true=>some (.inr (.inl (false,())))
  |false=>match idx x0 0 with|none=>none|some x1=>match(ile x1 a3)with
  |true=>some (.inr (.inl (false,())))
  |false=>match OC (x0,())with|none=>none|some (y2,_)=>match(!y2)with
  |true=>some (.inr (.inl (false,())))
  |false=>match AUl (x0,())with|none=>none|some (y3,_)=>match idx x0 0 with|none=>none|some x4=>match(!(ieq y3 x4))with
  |true=>some (.inr (.inl (false,())))
  |false=>match AZc (a0,x0,())with|none=>none|some (y5,_)=>match(!y5)with
  |true=>some (.inr (.inl (false,())))
  |false=>match idx x0 0 with|none=>none|some x6=>match AT Dd many (a0,a1,a2,x6,a4,a5,a6,x0,x1,a3,(ile x1 a3),x0,y2,(!y2),x0,y3,x0,x4,(!(ieq y3 x4)),a0,x0,y5,(!y5),x0,(AM x0),0,())with|none=>none|some r=>match r with
  |.inl (o7,_)=>some (.inr (.inl (o7,())))
  |.inr r=>match r with
  |.inl (o8,o9,o10,o11,o12,o13,o14,o15,o16,o17,o18,o19,o20,o21,o22,o23,o24,o25,o26,o27,o28,o29,o30,_)=>some (.inl (o8,o9,o10,o11,o12,o13,(IntKind.wrap .i64 (o14+1)),()))
  |.inr _=>none
 |false=>some (.inr (.inr (.inl (a0,a1,a2,()))))
def PJ[Lk]:(Uh×Unit)→Option (Uf):=fun(a0,_)=>
 match LD (a0.1,())with|none=>none|some (y0,_)=>match(!y0)with
 |true=>some (false,())
 |false=>match AT De many (a0.1,a0.2.1,([]:List Ur),(-1:Int),a0.2.1,(AM a0.2.1),0,())with|none=>none|some r=>match r with
 |.inl (o1,_)=>some (o1,())
 |.inr r=>match r with
 |.inl (o2,o3,o4,_)=>match AT Eb many (o4,o2,0,())with|none=>none|some r=>match r with
  |.inl (o5,_)=>some (o5,())
  |.inr r=>match r with
  |.inl _=>some (true,())
  |.inr _=>none
 |.inr _=>none
def N3[Lk]:=fun v=>Lk.f (PJ v)
theorem ACq v:N3 v=PJ v:=AI _
abbrev AH0:AF:=[(.tmp 0,.dat Uo),(.tmp 1,.di),(.tmp 2,.di)]
abbrev AHz:AF:=[(.tmp 0,.di)]
abbrev AHy:List RS:=[.one]
def Wv[Lk]:(Uh×Int×Int×Unit)→Option (U9):=fun(a0,a1,a2,_)=>
 match N3 ((a0.1,(a0.2.1,())),())with|none=>none|some (y0,_)=>match(!y0)with
 |true=>some (1,())
 |false=>match tin (a0.1,a1,())with|none=>none|some (y1,_)=>match(!y1)with
 |true=>some (10,())
 |false=>match tin (a0.1,a2,())with|none=>none|some (y2,_)=>match(!y2)with
 |true=>some (10,())
 |false=>some (0,())
def asked[Lk]:=fun v=>Lk.f (Wv v)
theorem AMm v:asked v=Wv v:=AI _
abbrev APT:AF:=[(.tmp 0,.di)]
abbrev APS:AF:=[(.tmp 0,.dat .bool)]
abbrev APR:List RS:=[.one]
def SC[Lk]:U9→Option (Uf):=fun(a0,_)=>
 some ((!(ieq a0 a0)),())
def APU[Lk]:=fun v=>Lk.f (SC v)
theorem Wj v:APU v=SC v:=AI _
abbrev Oy:AF:=[(.tmp 0,.di),(.tmp 1,.di)]
abbrev Ox:AF:=[(.tmp 0,.di)]
abbrev Ow:List RS:=[.one]
def IC[Lk]:U4→Option (U9):=fun(a0,a1,_)=>
 match APU (a0,())with|none=>none|some (y0,_)=>match APU (a1,())with|none=>none|some (y1,_)=>match y0 with
 |true=>match y1 with
  |true=>some (0,())
  |false=>some ((-1:Int),())
 |false=>match y1 with
 |true=>some (1,())
 |false=>match(ilt a0 a1)with
 |true=>some ((-1:Int),())
 |false=>match(ilt a1 a0)with
 |true=>some (1,())
 |false=>some (0,())
def FI[Lk]:=fun v=>Lk.f (IC v)
theorem MJ v:FI v=IC v:=AI _
abbrev AEK:AF:=[(.tmp 0,.dat U5),(.tmp 1,.dat U5)]
abbrev AEJ:AF:=[(.tmp 0,.di)]
abbrev AEI:List RS:=[.one]
def WQ[Lk]:(List Int×List Int×Unit)→Option (U9):=fun(a0,a1,_)=>
 match idx a0 0 with|none=>none|some x0=>match idx a1 0 with|none=>none|some x1=>match FI (x0,x1,())with|none=>none|some (y2,_)=>some (y2,())
def BF[Lk]:=fun v=>Lk.f (WQ v)
theorem AIU v:BF v=WQ v:=AI _
def Gm:List Int:=[0,1,2,2,3,3,3,3,4,4,4,4,4,4,4,4,5,5,5,5,5,5,5,5,5,5,5,5,5,5,5,5,6,6,6,6,6,6,6,6,6,6,6,6,6,6,6,6,6,6,6,6,6,6,6,6,6,6,6,6,6,6,6,6,7,7,7,7,7,7,7,7,7,7,7,7,7,7,7,7,7,7,7,7,7,7,7,7,7,7,7,7,7,7,7,7,7,7,7,7,7,7,7,7,7,7,7,7,7,7,7,7,7,7,7,7,7,7,7,7,7,7,7,7,7,7,7,7,8,8,8,8,8,8,8,8,8,8,8,8,8,8,8,8,8,8,8,8,8,8,8,8,8,8,8,8,8,8,8,8,8,8,8,8,8,8,8,8,8,8,8,8,8,8,8,8,8,8,8,8,8,8,8,8,8,8,8,8,8,8,8,8,8,8,8,8,8,8,8,8,8,8,8,8,8,8,8,8,8,8,8,8,8,8,8,8,8,8,8,8,8,8,8,8,8,8,8,8,8,8,8,8,8,8,8,8,8,8,8,8,8,8,8,8,8,8,8,8,8,8,8,8,8,8,8,8]
abbrev AGk:AF:=[(.tmp 0,.dat (.int .u64))]
abbrev AGj:AF:=[(.tmp 0,.di)]
abbrev AGi:List RS:=[.one]
def Wn[Lk]:U9→Option (U9):=fun(a0,_)=>
 match(ile 4294967296 a0)with
 |true=>match shr? .u64 a0 32 with|none=>none|some x0=>match(ile 65536 x0)with
  |true=>match shr? .u64 x0 16 with|none=>none|some x1=>match(ile 256 x1)with
   |true=>match shr? .u64 x1 8 with|none=>none|some x2=>match idx Gm (IntKind.wrap .u8 x2)with|none=>none|some x3=>some ((IntKind.wrap .i64 ((IntKind.wrap .i64 ((IntKind.wrap .i64 (32+16))+8))+(IntKind.wrap .i64 x3))),())
   |false=>match idx Gm (IntKind.wrap .u8 x1)with|none=>none|some x4=>some ((IntKind.wrap .i64 ((IntKind.wrap .i64 (32+16))+(IntKind.wrap .i64 x4))),())
  |false=>match(ile 256 x0)with
  |true=>match shr? .u64 x0 8 with|none=>none|some x5=>match idx Gm (IntKind.wrap .u8 x5)with|none=>none|some x6=>some ((IntKind.wrap .i64 ((IntKind.wrap .i64 (32+8))+(IntKind.wrap .i64 x6))),())
  |false=>match idx Gm (IntKind.wrap .u8 x0)with|none=>none|some x7=>some ((IntKind.wrap .i64 (32+(IntKind.wrap .i64 x7))),())
 |false=>match(ile 65536 a0)with
 |true=>match shr? .u64 a0 16 with|none=>none|some x8=>match(ile 256 x8)with
  |true=>match shr? .u64 x8 8 with|none=>none|some x9=>match idx Gm (IntKind.wrap .u8 x9)with|none=>none|some x10=>some ((IntKind.wrap .i64 ((IntKind.wrap .i64 ((IntKind.wrap .i64 (0+16))+8))+(IntKind.wrap .i64 x10))),())
  |false=>match idx Gm (IntKind.wrap .u8 x8)with|none=>none|some x11=>some ((IntKind.wrap .i64 ((IntKind.wrap .i64 (0+16))+(IntKind.wrap .i64 x11))),())
 |false=>match(ile 256 a0)with
 |true=>match shr? .u64 a0 8 with|none=>none|some x12=>match idx Gm (IntKind.wrap .u8 x12)with|none=>none|some x13=>some ((IntKind.wrap .i64 ((IntKind.wrap .i64 (0+8))+(IntKind.wrap .i64 x13))),())
 |false=>match idx Gm (IntKind.wrap .u8 a0)with|none=>none|some x14=>some ((IntKind.wrap .i64 (0+(IntKind.wrap .i64 x14))),())
def ALR[Lk]:=fun v=>Lk.f (Wn v)
theorem ALQ v:ALR v=Wn v:=AI _
abbrev TK:AF:=[(.tmp 0,.dat (.int .u64))]
abbrev TJ:AF:=[(.tmp 0,.di)]
abbrev TH:List RS:=[.one]
def NK[Lk]:U9→Option (U9):=fun(a0,_)=>
 match ALR (a0,())with|none=>none|some (y0,_)=>some (y0,())
def bitsLen[Lk]:=fun v=>Lk.f (NK v)
theorem AAq v:bitsLen v=NK v:=AI _
abbrev RK:AF:=[(.tmp 0,.box 1),(.cell 0 0,.dat (.int .u64))]
abbrev RJ:AF:=[(.obj 0,.box 1),(.cell 0 0,.dat (.int .u64)),(.tmp 0,.dat (.int .u64))]
abbrev RI:List RS:=[.one]
def Mb[Lk]:U9→Option (U4):=fun(a0,_)=>
 match shl? .u64 a0 13 with|none=>none|some x0=>match shr? .u64 (IntKind.wrap .u64 ((BitVec.ofInt (IntKind.bits .u64) a0 ^^^ BitVec.ofInt (IntKind.bits .u64) x0).toNat)) 7 with|none=>none|some x1=>match shl? .u64 (IntKind.wrap .u64 ((BitVec.ofInt (IntKind.bits .u64) (IntKind.wrap .u64 ((BitVec.ofInt (IntKind.bits .u64) a0 ^^^ BitVec.ofInt (IntKind.bits .u64) x0).toNat)) ^^^ BitVec.ofInt (IntKind.bits .u64) x1).toNat)) 17 with|none=>none|some x2=>some ((IntKind.wrap .u64 ((BitVec.ofInt (IntKind.bits .u64) (IntKind.wrap .u64 ((BitVec.ofInt (IntKind.bits .u64) (IntKind.wrap .u64 ((BitVec.ofInt (IntKind.bits .u64) a0 ^^^ BitVec.ofInt (IntKind.bits .u64) x0).toNat)) ^^^ BitVec.ofInt (IntKind.bits .u64) x1).toNat)) ^^^ BitVec.ofInt (IntKind.bits .u64) x2).toNat)),(IntKind.wrap .u64 ((BitVec.ofInt (IntKind.bits .u64) (IntKind.wrap .u64 ((BitVec.ofInt (IntKind.bits .u64) (IntKind.wrap .u64 ((BitVec.ofInt (IntKind.bits .u64) a0 ^^^ BitVec.ofInt (IntKind.bits .u64) x0).toNat)) ^^^ BitVec.ofInt (IntKind.bits .u64) x1).toNat)) ^^^ BitVec.ofInt (IntKind.bits .u64) x2).toNat)),())
def xorNext[Lk]:=fun v=>Lk.f (Mb v)
theorem W1 v:xorNext v=Mb v:=AI _
abbrev SB:AF:=[(.tmp 0,.di)]
abbrev SA:AF:=[(.tmp 0,.dat (.int .u64))]
abbrev R9:List RS:=[.one]
def Mt[Lk]:U9→Option (U9):=fun(a0,_)=>
 match bitsLen ((IntKind.wrap .u64 a0),())with|none=>none|some (y0,_)=>match shl? .u64 1 y0 with|none=>none|some x1=>some (x1,())
def Mu[Lk]:=fun v=>Lk.f (Mt v)
theorem ZE v:Mu v=Mt v:=AI _
def P2[Lk]{α:Type}(z:α)(c:α×α×Unit→Option U9):(List α×Int×Int×Int×Int×Unit)→Option ((List α×Int×Int×Int×Int×Unit)⊕(List α×Int×Int×Int×Unit)⊕Unit):=fun(a0,a1,a2,a3,a4,_)=>
 match(ilt a1 a4)with
 |true=>match idx a0 a4 with|none=>none|some x0=>match idx a0 (IntKind.wrap .i64 (a4-1))with|none=>none|some x1=>match c ((AN a0 (AE a4) z),(AN a0 (AE (IntKind.wrap .i64 (a4-1))) z),())with|none=>none|some (y2,_)=>match(ilt y2 0)with
  |true=>match idx a0 (IntKind.wrap .i64 (a4-1))with|none=>none|some x3=>match idx a0 a4 with|none=>none|some x4=>match idx a0 a4 with|none=>none|some x5=>match idx (An a0 (AE a4) (AN a0 (AE (IntKind.wrap .i64 (a4-1))) z)) (IntKind.wrap .i64 (a4-1))with|none=>none|some x6=>some (.inl ((An (An a0 (AE a4) (AN a0 (AE (IntKind.wrap .i64 (a4-1))) z)) (AE (IntKind.wrap .i64 (a4-1))) (AN a0 (AE a4) z)),a1,a2,a3,(IntKind.wrap .i64 (a4-1)),()))
  |false=>some (.inr (.inl (a0,a1,a2,a3,())))
 |false=>some (.inr (.inl (a0,a1,a2,a3,())))
def P5[Lk]{α:Type}(z:α)(c:α×α×Unit→Option U9):(List α×Int×Int×Int×Unit)→Option ((List α×Int×Int×Int×Unit)⊕(List α×Unit)⊕Unit):=fun(a0,a1,a2,a3,_)=>
 match(ilt a3 a2)with
 |true=>match AT (P2 z c) many (a0,a1,a2,a3,a3,())with|none=>none|some r=>match r with
  |.inl (o0,o1,o2,o3,_)=>some (.inl (o0,o1,o2,(IntKind.wrap .i64 (o3+1)),()))
  |.inr _=>none
 |false=>some (.inr (.inl (a0,())))
def AGt[Lk]{α:Type}(z:α)(c:α×α×Unit→Option U9):(List α×Int×Int×Unit)→Option ((List α×Unit)):=fun(a0,a1,a2,_)=>
 match AT (P5 z c) many (a0,a1,a2,(IntKind.wrap .i64 (a1+1)),())with|none=>none|some r=>match r with
 |.inl (o0,_)=>some (o0,())
 |.inr _=>none
def Abn[Lk]{α:Type}(z:α)(c:α×α×Unit→Option U9)(v:(List α×Int×Int×Unit)):Option ((List α×Unit)):=Lk.f ((AGt z c) v)
theorem Abm{α:Type}(z:α)(c:α×α×Unit→Option U9)(v:(List α×Int×Int×Unit)):(Abn z c) v=(AGt z c) v:=AI _
def LK[Lk]{α:Type}(z:α)(c:α×α×Unit→Option U9):(List α×Int×Int×Int×Unit)→Option ((List α×Int×Int×Int×Unit)⊕(List α×Unit)⊕(List α×Unit)⊕Unit):=fun(a0,a1,a2,a3,_)=>
 match(ile a1 (IntKind.wrap .i64 ((IntKind.wrap .i64 (2*a3))+1)))with
 |true=>some (.inr (.inl (a0,())))
 |false=>match(ilt (IntKind.wrap .i64 ((IntKind.wrap .i64 ((IntKind.wrap .i64 (2*a3))+1))+1)) a1)with
 |true=>match idx a0 (IntKind.wrap .i64 (a2+(IntKind.wrap .i64 ((IntKind.wrap .i64 (2*a3))+1))))with|none=>none|some x0=>match idx a0 (IntKind.wrap .i64 ((IntKind.wrap .i64 (a2+(IntKind.wrap .i64 ((IntKind.wrap .i64 (2*a3))+1))))+1))with|none=>none|some x1=>match c ((AN a0 (AE (IntKind.wrap .i64 (a2+(IntKind.wrap .i64 ((IntKind.wrap .i64 (2*a3))+1))))) z),(AN a0 (AE (IntKind.wrap .i64 ((IntKind.wrap .i64 (a2+(IntKind.wrap .i64 ((IntKind.wrap .i64 (2*a3))+1))))+1))) z),())with|none=>none|some (y2,_)=>match(ilt y2 0)with
  |true=>match idx a0 (IntKind.wrap .i64 (a2+a3))with|none=>none|some x3=>match idx a0 (IntKind.wrap .i64 (a2+(IntKind.wrap .i64 ((IntKind.wrap .i64 ((IntKind.wrap .i64 (2*a3))+1))+1))))with|none=>none|some x4=>match c ((AN a0 (AE (IntKind.wrap .i64 (a2+a3))) z),(AN a0 (AE (IntKind.wrap .i64 (a2+(IntKind.wrap .i64 ((IntKind.wrap .i64 ((IntKind.wrap .i64 (2*a3))+1))+1))))) z),())with|none=>none|some (y5,_)=>match(!(ilt y5 0))with
   |true=>some (.inr (.inr (.inl (a0,()))))
   |false=>match idx a0 (IntKind.wrap .i64 (a2+(IntKind.wrap .i64 ((IntKind.wrap .i64 ((IntKind.wrap .i64 (2*a3))+1))+1))))with|none=>none|some x6=>match idx a0 (IntKind.wrap .i64 (a2+a3))with|none=>none|some x7=>match idx a0 (IntKind.wrap .i64 (a2+a3))with|none=>none|some x8=>match idx (An a0 (AE (IntKind.wrap .i64 (a2+a3))) (AN a0 (AE (IntKind.wrap .i64 (a2+(IntKind.wrap .i64 ((IntKind.wrap .i64 ((IntKind.wrap .i64 (2*a3))+1))+1))))) z)) (IntKind.wrap .i64 (a2+(IntKind.wrap .i64 ((IntKind.wrap .i64 ((IntKind.wrap .i64 (2*a3))+1))+1))))with|none=>none|some x9=>some (.inl ((An (An a0 (AE (IntKind.wrap .i64 (a2+a3))) (AN a0 (AE (IntKind.wrap .i64 (a2+(IntKind.wrap .i64 ((IntKind.wrap .i64 ((IntKind.wrap .i64 (2*a3))+1))+1))))) z)) (AE (IntKind.wrap .i64 (a2+(IntKind.wrap .i64 ((IntKind.wrap .i64 ((IntKind.wrap .i64 (2*a3))+1))+1))))) (AN a0 (AE (IntKind.wrap .i64 (a2+a3))) z)),a1,a2,(IntKind.wrap .i64 ((IntKind.wrap .i64 ((IntKind.wrap .i64 (2*a3))+1))+1)),()))
  |false=>match idx a0 (IntKind.wrap .i64 (a2+a3))with|none=>none|some x10=>match idx a0 (IntKind.wrap .i64 (a2+(IntKind.wrap .i64 ((IntKind.wrap .i64 (2*a3))+1))))with|none=>none|some x11=>match c ((AN a0 (AE (IntKind.wrap .i64 (a2+a3))) z),(AN a0 (AE (IntKind.wrap .i64 (a2+(IntKind.wrap .i64 ((IntKind.wrap .i64 (2*a3))+1))))) z),())with|none=>none|some (y12,_)=>match(!(ilt y12 0))with
  |true=>some (.inr (.inr (.inl (a0,()))))
  |false=>match idx a0 (IntKind.wrap .i64 (a2+(IntKind.wrap .i64 ((IntKind.wrap .i64 (2*a3))+1))))with|none=>none|some x13=>match idx a0 (IntKind.wrap .i64 (a2+a3))with|none=>none|some x14=>match idx a0 (IntKind.wrap .i64 (a2+a3))with|none=>none|some x15=>match idx (An a0 (AE (IntKind.wrap .i64 (a2+a3))) (AN a0 (AE (IntKind.wrap .i64 (a2+(IntKind.wrap .i64 ((IntKind.wrap .i64 (2*a3))+1))))) z)) (IntKind.wrap .i64 (a2+(IntKind.wrap .i64 ((IntKind.wrap .i64 (2*a3))+1))))with|none=>none|some x16=>some (.inl ((An (An a0 (AE (IntKind.wrap .i64 (a2+a3))) (AN a0 (AE (IntKind.wrap .i64 (a2+(IntKind.wrap .i64 ((IntKind.wrap .i64 (2*a3))+1))))) z)) (AE (IntKind.wrap .i64 (a2+(IntKind.wrap .i64 ((IntKind.wrap .i64 (2*a3))+1))))) (AN a0 (AE (IntKind.wrap .i64 (a2+a3))) z)),a1,a2,(IntKind.wrap .i64 ((IntKind.wrap .i64 (2*a3))+1)),()))
 |false=>match idx a0 (IntKind.wrap .i64 (a2+a3))with|none=>none|some x17=>match idx a0 (IntKind.wrap .i64 (a2+(IntKind.wrap .i64 ((IntKind.wrap .i64 (2*a3))+1))))with|none=>none|some x18=>match c ((AN a0 (AE (IntKind.wrap .i64 (a2+a3))) z),(AN a0 (AE (IntKind.wrap .i64 (a2+(IntKind.wrap .i64 ((IntKind.wrap .i64 (2*a3))+1))))) z),())with|none=>none|some (y19,_)=>match(!(ilt y19 0))with
 |true=>some (.inr (.inr (.inl (a0,()))))
 |false=>match idx a0 (IntKind.wrap .i64 (a2+(IntKind.wrap .i64 ((IntKind.wrap .i64 (2*a3))+1))))with|none=>none|some x20=>match idx a0 (IntKind.wrap .i64 (a2+a3))with|none=>none|some x21=>match idx a0 (IntKind.wrap .i64 (a2+a3))with|none=>none|some x22=>match idx (An a0 (AE (IntKind.wrap .i64 (a2+a3))) (AN a0 (AE (IntKind.wrap .i64 (a2+(IntKind.wrap .i64 ((IntKind.wrap .i64 (2*a3))+1))))) z)) (IntKind.wrap .i64 (a2+(IntKind.wrap .i64 ((IntKind.wrap .i64 (2*a3))+1))))with|none=>none|some x23=>some (.inl ((An (An a0 (AE (IntKind.wrap .i64 (a2+a3))) (AN a0 (AE (IntKind.wrap .i64 (a2+(IntKind.wrap .i64 ((IntKind.wrap .i64 (2*a3))+1))))) z)) (AE (IntKind.wrap .i64 (a2+(IntKind.wrap .i64 ((IntKind.wrap .i64 (2*a3))+1))))) (AN a0 (AE (IntKind.wrap .i64 (a2+a3))) z)),a1,a2,(IntKind.wrap .i64 ((IntKind.wrap .i64 (2*a3))+1)),()))
def WY[Lk]{α:Type}(z:α)(c:α×α×Unit→Option U9):(List α×Int×Int×Int×Unit)→Option ((List α×Unit)):=fun(a0,a1,a2,a3,_)=>
 match AT (LK z c) many (a0,a2,a3,a1,())with|none=>none|some r=>match r with
 |.inl (o0,_)=>some (o0,())
 |.inr r=>match r with
 |.inl (o1,_)=>some (o1,())
 |.inr _=>none
def AJH[Lk]{α:Type}(z:α)(c:α×α×Unit→Option U9)(v:(List α×Int×Int×Int×Unit)):Option ((List α×Unit)):=Lk.f ((WY z c) v)
theorem AXL{α:Type}(z:α)(c:α×α×Unit→Option U9)(v:(List α×Int×Int×Int×Unit)):(AJH z c) v=(WY z c) v:=AI _
def L0[Lk]{α:Type}(z:α)(c:α×α×Unit→Option U9):(List α×Int×Int×Int×Unit)→Option ((List α×Int×Int×Int×Unit)⊕(List α×Unit)⊕Unit):=fun(a0,a1,a2,a3,_)=>
 match(ile 0 a3)with
 |true=>match idx a0 (IntKind.wrap .i64 (a1+a3))with|none=>none|some x0=>match idx a0 a1 with|none=>none|some x1=>match idx a0 a1 with|none=>none|some x2=>match idx (An a0 (AE a1) (AN a0 (AE (IntKind.wrap .i64 (a1+a3))) z)) (IntKind.wrap .i64 (a1+a3))with|none=>none|some x3=>match(AJH z c) ((An (An a0 (AE a1) (AN a0 (AE (IntKind.wrap .i64 (a1+a3))) z)) (AE (IntKind.wrap .i64 (a1+a3))) (AN a0 (AE a1) z)),a2,a3,a1,())with|none=>none|some (y4,_)=>some (.inl (y4,a1,a2,(IntKind.wrap .i64 (a3-1)),()))
 |false=>some (.inr (.inl (a0,())))
def L3[Lk]{α:Type}(z:α)(c:α×α×Unit→Option U9):(List α×Int×Int×Int×Int×Unit)→Option ((List α×Int×Int×Int×Int×Unit)⊕(List α×Int×Int×Int×Unit)⊕Unit):=fun(a0,a1,a2,a3,a4,_)=>
 match(ile 0 a4)with
 |true=>match(AJH z c) (a0,a4,a3,a1,())with|none=>none|some (y0,_)=>some (.inl (y0,a1,a2,a3,(IntKind.wrap .i64 (a4-1)),()))
 |false=>some (.inr (.inl (a0,a1,a2,a3,())))
def Wp[Lk]{α:Type}(z:α)(c:α×α×Unit→Option U9):(List α×Int×Int×Unit)→Option ((List α×Unit)):=fun(a0,a1,a2,_)=>
 match quo? .i64 (IntKind.wrap .i64 ((IntKind.wrap .i64 (a2-a1))-1)) 2 with|none=>none|some x0=>match AT (L3 z c) many (a0,a1,0,(IntKind.wrap .i64 (a2-a1)),x0,())with|none=>none|some r=>match r with
 |.inl (o1,o2,o3,o4,_)=>match AT (L0 z c) many (o1,o2,o3,(IntKind.wrap .i64 (o4-1)),())with|none=>none|some r=>match r with
  |.inl (o5,_)=>some (o5,())
  |.inr _=>none
 |.inr _=>none
def ASi[Lk]{α:Type}(z:α)(c:α×α×Unit→Option U9)(v:(List α×Int×Int×Unit)):Option ((List α×Unit)):=Lk.f ((Wp z c) v)
theorem AZV{α:Type}(z:α)(c:α×α×Unit→Option U9)(v:(List α×Int×Int×Unit)):(ASi z c) v=(Wp z c) v:=AI _
def HL[Lk]{α:Type}(z:α)(c:α×α×Unit→Option U9):(List α×Int×Int×Int×Int×Int×Unit)→Option ((List α×Int×Int×Int×Int×Int×Unit)⊕(List α×Unit)⊕Unit):=fun(a0,a1,a2,a3,a4,a5,_)=>
 match quo? .i64 a2 4 with|none=>none|some x0=>match(ile a5 (IntKind.wrap .i64 ((IntKind.wrap .i64 (a1+(IntKind.wrap .i64 (x0*2))))+1)))with
 |true=>match xorNext (a3,())with|none=>none|some (y1,y2,_)=>match(ile a2 (IntKind.wrap .i64 (IntKind.wrap .u64 ((BitVec.ofInt (IntKind.bits .u64) y2 &&& BitVec.ofInt (IntKind.bits .u64) (IntKind.wrap .u64 (a4-1))).toNat))))with
  |true=>match idx a0 (IntKind.wrap .i64 (a1+(IntKind.wrap .i64 ((IntKind.wrap .i64 (IntKind.wrap .u64 ((BitVec.ofInt (IntKind.bits .u64) y2 &&& BitVec.ofInt (IntKind.bits .u64) (IntKind.wrap .u64 (a4-1))).toNat)))-a2))))with|none=>none|some x3=>match idx a0 a5 with|none=>none|some x4=>match idx a0 a5 with|none=>none|some x5=>match idx (An a0 (AE a5) (AN a0 (AE (IntKind.wrap .i64 (a1+(IntKind.wrap .i64 ((IntKind.wrap .i64 (IntKind.wrap .u64 ((BitVec.ofInt (IntKind.bits .u64) y2 &&& BitVec.ofInt (IntKind.bits .u64) (IntKind.wrap .u64 (a4-1))).toNat)))-a2))))) z)) (IntKind.wrap .i64 (a1+(IntKind.wrap .i64 ((IntKind.wrap .i64 (IntKind.wrap .u64 ((BitVec.ofInt (IntKind.bits .u64) y2 &&& BitVec.ofInt (IntKind.bits .u64) (IntKind.wrap .u64 (a4-1))).toNat)))-a2))))with|none=>none|some x6=>some (.inl ((An (An a0 (AE a5) (AN a0 (AE (IntKind.wrap .i64 (a1+(IntKind.wrap .i64 ((IntKind.wrap .i64 (IntKind.wrap .u64 ((BitVec.ofInt (IntKind.bits .u64) y2 &&& BitVec.ofInt (IntKind.bits .u64) (IntKind.wrap .u64 (a4-1))).toNat)))-a2))))) z)) (AE (IntKind.wrap .i64 (a1+(IntKind.wrap .i64 ((IntKind.wrap .i64 (IntKind.wrap .u64 ((BitVec.ofInt (IntKind.bits .u64) y2 &&& BitVec.ofInt (IntKind.bits .u64) (IntKind.wrap .u64 (a4-1))).toNat)))-a2))))) (AN a0 (AE a5) z)),a1,a2,y1,a4,(IntKind.wrap .i64 (a5+1)),()))
  |false=>match idx a0 (IntKind.wrap .i64 (a1+(IntKind.wrap .i64 (IntKind.wrap .u64 ((BitVec.ofInt (IntKind.bits .u64) y2 &&& BitVec.ofInt (IntKind.bits .u64) (IntKind.wrap .u64 (a4-1))).toNat)))))with|none=>none|some x7=>match idx a0 a5 with|none=>none|some x8=>match idx a0 a5 with|none=>none|some x9=>match idx (An a0 (AE a5) (AN a0 (AE (IntKind.wrap .i64 (a1+(IntKind.wrap .i64 (IntKind.wrap .u64 ((BitVec.ofInt (IntKind.bits .u64) y2 &&& BitVec.ofInt (IntKind.bits .u64) (IntKind.wrap .u64 (a4-1))).toNat)))))) z)) (IntKind.wrap .i64 (a1+(IntKind.wrap .i64 (IntKind.wrap .u64 ((BitVec.ofInt (IntKind.bits .u64) y2 &&& BitVec.ofInt (IntKind.bits .u64) (IntKind.wrap .u64 (a4-1))).toNat)))))with|none=>none|some x10=>some (.inl ((An (An a0 (AE a5) (AN a0 (AE (IntKind.wrap .i64 (a1+(IntKind.wrap .i64 (IntKind.wrap .u64 ((BitVec.ofInt (IntKind.bits .u64) y2 &&& BitVec.ofInt (IntKind.bits .u64) (IntKind.wrap .u64 (a4-1))).toNat)))))) z)) (AE (IntKind.wrap .i64 (a1+(IntKind.wrap .i64 (IntKind.wrap .u64 ((BitVec.ofInt (IntKind.bits .u64) y2 &&& BitVec.ofInt (IntKind.bits .u64) (IntKind.wrap .u64 (a4-1))).toNat)))))) (AN a0 (AE a5) z)),a1,a2,y1,a4,(IntKind.wrap .i64 (a5+1)),()))
 |false=>some (.inr (.inl (a0,())))
def Qi[Lk]{α:Type}(z:α)(c:α×α×Unit→Option U9):(List α×Int×Int×Unit)→Option ((List α×Unit)):=fun(a0,a1,a2,_)=>
 match(ile 8 (IntKind.wrap .i64 (a2-a1)))with
 |true=>match Mu ((IntKind.wrap .i64 (a2-a1)),())with|none=>none|some (y0,_)=>match quo? .i64 (IntKind.wrap .i64 (a2-a1)) 4 with|none=>none|some x1=>match AT (HL z c) many (a0,a1,(IntKind.wrap .i64 (a2-a1)),(IntKind.wrap .u64 (IntKind.wrap .i64 (a2-a1))),y0,(IntKind.wrap .i64 ((IntKind.wrap .i64 (a1+(IntKind.wrap .i64 (x1*2))))-1)),())with|none=>none|some r=>match r with
  |.inl (o2,_)=>some (o2,())
  |.inr _=>none
 |false=>some (a0,())
def AHu[Lk]{α:Type}(z:α)(c:α×α×Unit→Option U9)(v:(List α×Int×Int×Unit)):Option ((List α×Unit)):=Lk.f ((Qi z c) v)
theorem AWO{α:Type}(z:α)(c:α×α×Unit→Option U9)(v:(List α×Int×Int×Unit)):(AHu z c) v=(Qi z c) v:=AI _
def Mr[Lk]{α:Type}(z:α)(c:α×α×Unit→Option U9):(List α×Int×Int×Int×Unit)→Option ((List α×Int×Int×Int×Unit)):=fun(a0,a1,a2,a3,_)=>
 match idx a0 a2 with|none=>none|some x0=>match idx a0 a1 with|none=>none|some x1=>match c ((AN a0 (AE a2) z),(AN a0 (AE a1) z),())with|none=>none|some (y2,_)=>match(ilt y2 0)with
 |true=>some (a0,(IntKind.wrap .i64 (a3+1)),a2,a1,())
 |false=>some (a0,a3,a1,a2,())
def Ms[Lk]{α:Type}(z:α)(c:α×α×Unit→Option U9)(v:(List α×Int×Int×Int×Unit)):Option ((List α×Int×Int×Int×Unit)):=Lk.f ((Mr z c) v)
theorem APF{α:Type}(z:α)(c:α×α×Unit→Option U9)(v:(List α×Int×Int×Int×Unit)):(Ms z c) v=(Mr z c) v:=AI _
def Mx[Lk]{α:Type}(z:α)(c:α×α×Unit→Option U9):(List α×Int×Int×Int×Int×Unit)→Option ((List α×Int×Int×Unit)):=fun(a0,a1,a2,a3,a4,_)=>
 match(Ms z c) (a0,a1,a2,a4,())with|none=>none|some (y0,y1,y2,y3,_)=>match(Ms z c) (y0,y3,a3,y1,())with|none=>none|some (y4,y5,y6,y7,_)=>match(Ms z c) (y4,y2,y6,y5,())with|none=>none|some (y8,y9,y10,y11,_)=>some (y8,y9,y11,())
def My[Lk]{α:Type}(z:α)(c:α×α×Unit→Option U9)(v:(List α×Int×Int×Int×Int×Unit)):Option ((List α×Int×Int×Unit)):=Lk.f ((Mx z c) v)
theorem APf{α:Type}(z:α)(c:α×α×Unit→Option U9)(v:(List α×Int×Int×Int×Int×Unit)):(My z c) v=(Mx z c) v:=AI _
def M0[Lk]{α:Type}(z:α)(c:α×α×Unit→Option U9):(List α×Int×Int×Unit)→Option ((List α×Int×Int×Unit)):=fun(a0,a1,a2,_)=>
 match(My z c) (a0,(IntKind.wrap .i64 (a1-1)),a1,(IntKind.wrap .i64 (a1+1)),a2,())with|none=>none|some (y0,y1,y2,_)=>some (y0,y1,y2,())
def M3[Lk]{α:Type}(z:α)(c:α×α×Unit→Option U9)(v:(List α×Int×Int×Unit)):Option ((List α×Int×Int×Unit)):=Lk.f ((M0 z c) v)
theorem APh{α:Type}(z:α)(c:α×α×Unit→Option U9)(v:(List α×Int×Int×Unit)):(M3 z c) v=(M0 z c) v:=AI _
def Pc[Lk]{α:Type}(z:α)(c:α×α×Unit→Option U9):(List α×Int×Int×Unit)→Option ((List α×Int×Int×Unit)):=fun(a0,a1,a2,_)=>
 match quo? .i64 (IntKind.wrap .i64 (a2-a1)) 4 with|none=>none|some x0=>match quo? .i64 (IntKind.wrap .i64 (a2-a1)) 4 with|none=>none|some x1=>match quo? .i64 (IntKind.wrap .i64 (a2-a1)) 4 with|none=>none|some x2=>match(ile 8 (IntKind.wrap .i64 (a2-a1)))with
 |true=>match(ile 50 (IntKind.wrap .i64 (a2-a1)))with
  |true=>match(M3 z c) (a0,(IntKind.wrap .i64 (a1+(IntKind.wrap .i64 (x0*1)))),0,())with|none=>none|some (y3,y4,y5,_)=>match(M3 z c) (y3,(IntKind.wrap .i64 (a1+(IntKind.wrap .i64 (x1*2)))),y4,())with|none=>none|some (y6,y7,y8,_)=>match(M3 z c) (y6,(IntKind.wrap .i64 (a1+(IntKind.wrap .i64 (x2*3)))),y7,())with|none=>none|some (y9,y10,y11,_)=>match(My z c) (y9,y5,y8,y11,y10,())with|none=>none|some (y12,y13,y14,_)=>match(ieq y13 0)with
   |true=>some (y12,y14,1,())
   |false=>match(ieq y13 12)with
   |true=>some (y12,y14,2,())
   |false=>some (y12,y14,0,())
  |false=>match(My z c) (a0,(IntKind.wrap .i64 (a1+(IntKind.wrap .i64 (x0*1)))),(IntKind.wrap .i64 (a1+(IntKind.wrap .i64 (x1*2)))),(IntKind.wrap .i64 (a1+(IntKind.wrap .i64 (x2*3)))),0,())with|none=>none|some (y15,y16,y17,_)=>match(ieq y16 0)with
  |true=>some (y15,y17,1,())
  |false=>match(ieq y16 12)with
  |true=>some (y15,y17,2,())
  |false=>some (y15,y17,0,())
 |false=>match(ieq 0 0)with
 |true=>some (a0,(IntKind.wrap .i64 (a1+(IntKind.wrap .i64 (x1*2)))),1,())
 |false=>match(ieq 0 12)with
 |true=>some (a0,(IntKind.wrap .i64 (a1+(IntKind.wrap .i64 (x1*2)))),2,())
 |false=>some (a0,(IntKind.wrap .i64 (a1+(IntKind.wrap .i64 (x1*2)))),0,())
def AFa[Lk]{α:Type}(z:α)(c:α×α×Unit→Option U9)(v:(List α×Int×Int×Unit)):Option ((List α×Int×Int×Unit)):=Lk.f ((Pc z c) v)
theorem AUB{α:Type}(z:α)(c:α×α×Unit→Option U9)(v:(List α×Int×Int×Unit)):(AFa z c) v=(Pc z c) v:=AI _
def Wc[Lk]{α:Type}(z:α)(c:α×α×Unit→Option U9):(List α×Int×Int×Unit)→Option ((List α×Int×Int×Unit)⊕(List α×Unit)⊕Unit):=fun(a0,a1,a2,_)=>
 match(ilt a1 a2)with
 |true=>match idx a0 a2 with|none=>none|some x0=>match idx a0 a1 with|none=>none|some x1=>match idx a0 a1 with|none=>none|some x2=>match idx (An a0 (AE a1) (AN a0 (AE a2) z)) a2 with|none=>none|some x3=>some (.inl ((An (An a0 (AE a1) (AN a0 (AE a2) z)) (AE a2) (AN a0 (AE a1) z)),(IntKind.wrap .i64 (a1+1)),(IntKind.wrap .i64 (a2-1)),()))
 |false=>some (.inr (.inl (a0,())))
def AFK[Lk]{α:Type}(z:α)(c:α×α×Unit→Option U9):(List α×Int×Int×Unit)→Option ((List α×Unit)):=fun(a0,a1,a2,_)=>
 match AT (Wc z c) many (a0,a1,(IntKind.wrap .i64 (a2-1)),())with|none=>none|some r=>match r with
 |.inl (o0,_)=>some (o0,())
 |.inr _=>none
def Aax[Lk]{α:Type}(z:α)(c:α×α×Unit→Option U9)(v:(List α×Int×Int×Unit)):Option ((List α×Unit)):=Lk.f ((AFK z c) v)
theorem Aaw{α:Type}(z:α)(c:α×α×Unit→Option U9)(v:(List α×Int×Int×Unit)):(Aax z c) v=(AFK z c) v:=AI _
def GS[Lk]{α:Type}(z:α)(c:α×α×Unit→Option U9):(List α×Int×Int×Int×Int×Int×Unit)→Option ((List α×Int×Int×Int×Int×Int×Unit)⊕(List α×Int×Int×Int×Int×Unit)⊕Unit):=fun(a0,a1,a2,a3,a4,a5,_)=>
 match(ilt a5 a2)with
 |true=>match idx a0 a5 with|none=>none|some x0=>match idx a0 (IntKind.wrap .i64 (a5-1))with|none=>none|some x1=>match c ((AN a0 (AE a5) z),(AN a0 (AE (IntKind.wrap .i64 (a5-1))) z),())with|none=>none|some (y2,_)=>match(!(ilt y2 0))with
  |true=>some (.inr (.inl (a0,a1,a2,a3,a4,())))
  |false=>match idx a0 (IntKind.wrap .i64 (a5-1))with|none=>none|some x3=>match idx a0 a5 with|none=>none|some x4=>match idx a0 a5 with|none=>none|some x5=>match idx (An a0 (AE a5) (AN a0 (AE (IntKind.wrap .i64 (a5-1))) z)) (IntKind.wrap .i64 (a5-1))with|none=>none|some x6=>some (.inl ((An (An a0 (AE a5) (AN a0 (AE (IntKind.wrap .i64 (a5-1))) z)) (AE (IntKind.wrap .i64 (a5-1))) (AN a0 (AE a5) z)),a1,a2,a3,a4,(IntKind.wrap .i64 (a5+1)),()))
 |false=>some (.inr (.inl (a0,a1,a2,a3,a4,())))
def GU[Lk]{α:Type}(z:α)(c:α×α×Unit→Option U9):(List α×Int×Int×Int×Int×Int×Unit)→Option ((List α×Int×Int×Int×Int×Int×Unit)⊕(List α×Int×Int×Int×Int×Unit)⊕Unit):=fun(a0,a1,a2,a3,a4,a5,_)=>
 match(ile 1 a5)with
 |true=>match idx a0 a5 with|none=>none|some x0=>match idx a0 (IntKind.wrap .i64 (a5-1))with|none=>none|some x1=>match c ((AN a0 (AE a5) z),(AN a0 (AE (IntKind.wrap .i64 (a5-1))) z),())with|none=>none|some (y2,_)=>match(!(ilt y2 0))with
  |true=>some (.inr (.inl (a0,a1,a2,a3,a4,())))
  |false=>match idx a0 (IntKind.wrap .i64 (a5-1))with|none=>none|some x3=>match idx a0 a5 with|none=>none|some x4=>match idx a0 a5 with|none=>none|some x5=>match idx (An a0 (AE a5) (AN a0 (AE (IntKind.wrap .i64 (a5-1))) z)) (IntKind.wrap .i64 (a5-1))with|none=>none|some x6=>some (.inl ((An (An a0 (AE a5) (AN a0 (AE (IntKind.wrap .i64 (a5-1))) z)) (AE (IntKind.wrap .i64 (a5-1))) (AN a0 (AE a5) z)),a1,a2,a3,a4,(IntKind.wrap .i64 (a5-1)),()))
 |false=>some (.inr (.inl (a0,a1,a2,a3,a4,())))
def IU[Lk]{α:Type}(z:α)(c:α×α×Unit→Option U9):(List α×Int×Int×Int×Int×Unit)→Option ((List α×Int×Int×Int×Int×Unit)⊕(List α×Int×Int×Int×Int×Unit)⊕Unit):=fun(a0,a1,a2,a3,a4,_)=>
 match(ilt a3 a2)with
 |true=>match idx a0 a3 with|none=>none|some x0=>match idx a0 (IntKind.wrap .i64 (a3-1))with|none=>none|some x1=>match c ((AN a0 (AE a3) z),(AN a0 (AE (IntKind.wrap .i64 (a3-1))) z),())with|none=>none|some (y2,_)=>match(!(ilt y2 0))with
  |true=>some (.inl (a0,a1,a2,(IntKind.wrap .i64 (a3+1)),a4,()))
  |false=>some (.inr (.inl (a0,a1,a2,a3,a4,())))
 |false=>some (.inr (.inl (a0,a1,a2,a3,a4,())))
def Cl[Lk]{α:Type}(z:α)(c:α×α×Unit→Option U9):(List α×Int×Int×Int×Int×Unit)→Option ((List α×Int×Int×Int×Int×Unit)⊕(List α×Bool×Unit)⊕(List α×Unit)⊕Unit):=fun(a0,a1,a2,a3,a4,_)=>
 match(ilt a4 5)with
 |true=>match AT (IU z c) many (a0,a1,a2,a3,a4,())with|none=>none|some r=>match r with
  |.inl (o0,o1,o2,o3,o4,_)=>match(ieq o3 o2)with
   |true=>some (.inr (.inl (o0,true,())))
   |false=>match(ilt (IntKind.wrap .i64 (o2-o1)) 50)with
   |true=>some (.inr (.inl (o0,false,())))
   |false=>match idx o0 (IntKind.wrap .i64 (o3-1))with|none=>none|some x5=>match idx o0 o3 with|none=>none|some x6=>match idx o0 o3 with|none=>none|some x7=>match idx (An o0 (AE o3) (AN o0 (AE (IntKind.wrap .i64 (o3-1))) z)) (IntKind.wrap .i64 (o3-1))with|none=>none|some x8=>match(ile 2 (IntKind.wrap .i64 (o3-o1)))with
   |true=>match AT (GU z c) many ((An (An o0 (AE o3) (AN o0 (AE (IntKind.wrap .i64 (o3-1))) z)) (AE (IntKind.wrap .i64 (o3-1))) (AN o0 (AE o3) z)),o1,o2,o3,o4,(IntKind.wrap .i64 (o3-1)),())with|none=>none|some r=>match r with
    |.inl (o9,o10,o11,o12,o13,_)=>match(ile 2 (IntKind.wrap .i64 (o11-o12)))with
     |true=>match AT (GS z c) many (o9,o10,o11,o12,o13,(IntKind.wrap .i64 (o12+1)),())with|none=>none|some r=>match r with
      |.inl (o14,o15,o16,o17,o18,_)=>some (.inl (o14,o15,o16,o17,(IntKind.wrap .i64 (o18+1)),()))
      |.inr _=>none
     |false=>some (.inl (o9,o10,o11,o12,(IntKind.wrap .i64 (o13+1)),()))
    |.inr _=>none
   |false=>match(ile 2 (IntKind.wrap .i64 (o2-o3)))with
   |true=>match AT (GS z c) many ((An (An o0 (AE o3) (AN o0 (AE (IntKind.wrap .i64 (o3-1))) z)) (AE (IntKind.wrap .i64 (o3-1))) (AN o0 (AE o3) z)),o1,o2,o3,o4,(IntKind.wrap .i64 (o3+1)),())with|none=>none|some r=>match r with
    |.inl (o19,o20,o21,o22,o23,_)=>some (.inl (o19,o20,o21,o22,(IntKind.wrap .i64 (o23+1)),()))
    |.inr _=>none
   |false=>some (.inl ((An (An o0 (AE o3) (AN o0 (AE (IntKind.wrap .i64 (o3-1))) z)) (AE (IntKind.wrap .i64 (o3-1))) (AN o0 (AE o3) z)),o1,o2,o3,(IntKind.wrap .i64 (o4+1)),()))
  |.inr _=>none
 |false=>some (.inr (.inr (.inl (a0,()))))
def Jw[Lk]{α:Type}(z:α)(c:α×α×Unit→Option U9):(List α×Int×Int×Unit)→Option ((List α×Bool×Unit)):=fun(a0,a1,a2,_)=>
 match AT (Cl z c) many (a0,a1,a2,(IntKind.wrap .i64 (a1+1)),0,())with|none=>none|some r=>match r with
 |.inl (o0,o1,_)=>some (o0,o1,())
 |.inr r=>match r with
 |.inl (o2,_)=>some (o2,false,())
 |.inr _=>none
def Pg[Lk]{α:Type}(z:α)(c:α×α×Unit→Option U9)(v:(List α×Int×Int×Unit)):Option ((List α×Bool×Unit)):=Lk.f ((Jw z c) v)
theorem AKX{α:Type}(z:α)(c:α×α×Unit→Option U9)(v:(List α×Int×Int×Unit)):(Pg z c) v=(Jw z c) v:=AI _
def Jx[Lk]{α:Type}(z:α)(c:α×α×Unit→Option U9):(List α×Int×Int×Int×Unit)→Option ((List α×Int×Int×Int×Unit)⊕(List α×Int×Int×Int×Unit)⊕Unit):=fun(a0,a1,a2,a3,_)=>
 match(ile a2 a3)with
 |true=>match idx a0 a1 with|none=>none|some x0=>match idx a0 a3 with|none=>none|some x1=>match c ((AN a0 (AE a1) z),(AN a0 (AE a3) z),())with|none=>none|some (y2,_)=>match(ilt y2 0)with
  |true=>some (.inl (a0,a1,a2,(IntKind.wrap .i64 (a3-1)),()))
  |false=>some (.inr (.inl (a0,a1,a2,a3,())))
 |false=>some (.inr (.inl (a0,a1,a2,a3,())))
def Jy[Lk]{α:Type}(z:α)(c:α×α×Unit→Option U9):(List α×Int×Int×Int×Unit)→Option ((List α×Int×Int×Int×Unit)⊕(List α×Int×Int×Int×Unit)⊕Unit):=fun(a0,a1,a2,a3,_)=>
 match(ile a2 a3)with
 |true=>match idx a0 a1 with|none=>none|some x0=>match idx a0 a2 with|none=>none|some x1=>match c ((AN a0 (AE a1) z),(AN a0 (AE a2) z),())with|none=>none|some (y2,_)=>match(!(ilt y2 0))with
  |true=>some (.inl (a0,a1,(IntKind.wrap .i64 (a2+1)),a3,()))
  |false=>some (.inr (.inl (a0,a1,a2,a3,())))
 |false=>some (.inr (.inl (a0,a1,a2,a3,())))
def Jz[Lk]{α:Type}(z:α)(c:α×α×Unit→Option U9):(List α×Int×Int×Int×Unit)→Option ((List α×Int×Int×Int×Unit)⊕(List α×Int×Unit)⊕Unit):=fun(a0,a1,a2,a3,_)=>
 match AT (Jy z c) many (a0,a1,a2,a3,())with|none=>none|some r=>match r with
 |.inl (o0,o1,o2,o3,_)=>match AT (Jx z c) many (o0,o1,o2,o3,())with|none=>none|some r=>match r with
  |.inl (o4,o5,o6,o7,_)=>match(ilt o7 o6)with
   |true=>some (.inr (.inl (o4,o6,())))
   |false=>match idx o4 o7 with|none=>none|some x8=>match idx o4 o6 with|none=>none|some x9=>match idx o4 o6 with|none=>none|some x10=>match idx (An o4 (AE o6) (AN o4 (AE o7) z)) o7 with|none=>none|some x11=>some (.inl ((An (An o4 (AE o6) (AN o4 (AE o7) z)) (AE o7) (AN o4 (AE o6) z)),o5,(IntKind.wrap .i64 (o6+1)),(IntKind.wrap .i64 (o7-1)),()))
  |.inr _=>none
 |.inr _=>none
def Mo[Lk]{α:Type}(z:α)(c:α×α×Unit→Option U9):(List α×Int×Int×Int×Unit)→Option ((List α×Int×Unit)):=fun(a0,a1,a2,a3,_)=>
 match idx a0 a3 with|none=>none|some x0=>match idx a0 a1 with|none=>none|some x1=>match idx a0 a1 with|none=>none|some x2=>match idx (An a0 (AE a1) (AN a0 (AE a3) z)) a3 with|none=>none|some x3=>match AT (Jz z c) many ((An (An a0 (AE a1) (AN a0 (AE a3) z)) (AE a3) (AN a0 (AE a1) z)),a1,(IntKind.wrap .i64 (a1+1)),(IntKind.wrap .i64 (a2-1)),())with|none=>none|some r=>match r with
 |.inl (o4,o5,_)=>some (o4,o5,())
 |.inr _=>none
def Wh[Lk]{α:Type}(z:α)(c:α×α×Unit→Option U9)(v:(List α×Int×Int×Int×Unit)):Option ((List α×Int×Unit)):=Lk.f ((Mo z c) v)
theorem APD{α:Type}(z:α)(c:α×α×Unit→Option U9)(v:(List α×Int×Int×Int×Unit)):(Wh z c) v=(Mo z c) v:=AI _
def Pj[Lk]{α:Type}(z:α)(c:α×α×Unit→Option U9):(List α×Int×Int×Int×Unit)→Option ((List α×Int×Int×Int×Unit)⊕(List α×Int×Int×Int×Unit)⊕Unit):=fun(a0,a1,a2,a3,_)=>
 match(ile a2 a3)with
 |true=>match idx a0 a3 with|none=>none|some x0=>match idx a0 a1 with|none=>none|some x1=>match c ((AN a0 (AE a3) z),(AN a0 (AE a1) z),())with|none=>none|some (y2,_)=>match(!(ilt y2 0))with
  |true=>some (.inl (a0,a1,a2,(IntKind.wrap .i64 (a3-1)),()))
  |false=>some (.inr (.inl (a0,a1,a2,a3,())))
 |false=>some (.inr (.inl (a0,a1,a2,a3,())))
def Pk[Lk]{α:Type}(z:α)(c:α×α×Unit→Option U9):(List α×Int×Int×Int×Unit)→Option ((List α×Int×Int×Int×Unit)⊕(List α×Int×Int×Int×Unit)⊕Unit):=fun(a0,a1,a2,a3,_)=>
 match(ile a2 a3)with
 |true=>match idx a0 a2 with|none=>none|some x0=>match idx a0 a1 with|none=>none|some x1=>match c ((AN a0 (AE a2) z),(AN a0 (AE a1) z),())with|none=>none|some (y2,_)=>match(ilt y2 0)with
  |true=>some (.inl (a0,a1,(IntKind.wrap .i64 (a2+1)),a3,()))
  |false=>some (.inr (.inl (a0,a1,a2,a3,())))
 |false=>some (.inr (.inl (a0,a1,a2,a3,())))
def Pm[Lk]{α:Type}(z:α)(c:α×α×Unit→Option U9):(List α×Int×Int×Int×Unit)→Option ((List α×Int×Int×Int×Unit)⊕(List α×Int×Int×Unit)⊕Unit):=fun(a0,a1,a2,a3,_)=>
 match AT (Pk z c) many (a0,a1,a2,a3,())with|none=>none|some r=>match r with
 |.inl (o0,o1,o2,o3,_)=>match AT (Pj z c) many (o0,o1,o2,o3,())with|none=>none|some r=>match r with
  |.inl (o4,o5,o6,o7,_)=>match(ilt o7 o6)with
   |true=>some (.inr (.inl (o4,o5,o7,())))
   |false=>match idx o4 o7 with|none=>none|some x8=>match idx o4 o6 with|none=>none|some x9=>match idx o4 o6 with|none=>none|some x10=>match idx (An o4 (AE o6) (AN o4 (AE o7) z)) o7 with|none=>none|some x11=>some (.inl ((An (An o4 (AE o6) (AN o4 (AE o7) z)) (AE o7) (AN o4 (AE o6) z)),o5,(IntKind.wrap .i64 (o6+1)),(IntKind.wrap .i64 (o7-1)),()))
  |.inr _=>none
 |.inr _=>none
def Pn[Lk]{α:Type}(z:α)(c:α×α×Unit→Option U9):(List α×Int×Int×Int×Unit)→Option ((List α×Int×Int×Int×Unit)⊕(List α×Int×Int×Int×Unit)⊕Unit):=fun(a0,a1,a2,a3,_)=>
 match(ile a2 a3)with
 |true=>match idx a0 a3 with|none=>none|some x0=>match idx a0 a1 with|none=>none|some x1=>match c ((AN a0 (AE a3) z),(AN a0 (AE a1) z),())with|none=>none|some (y2,_)=>match(!(ilt y2 0))with
  |true=>some (.inl (a0,a1,a2,(IntKind.wrap .i64 (a3-1)),()))
  |false=>some (.inr (.inl (a0,a1,a2,a3,())))
 |false=>some (.inr (.inl (a0,a1,a2,a3,())))
def Po[Lk]{α:Type}(z:α)(c:α×α×Unit→Option U9):(List α×Int×Int×Int×Unit)→Option ((List α×Int×Int×Int×Unit)⊕(List α×Int×Int×Int×Unit)⊕Unit):=fun(a0,a1,a2,a3,_)=>
 match(ile a2 a3)with
 |true=>match idx a0 a2 with|none=>none|some x0=>match idx a0 a1 with|none=>none|some x1=>match c ((AN a0 (AE a2) z),(AN a0 (AE a1) z),())with|none=>none|some (y2,_)=>match(ilt y2 0)with
  |true=>some (.inl (a0,a1,(IntKind.wrap .i64 (a2+1)),a3,()))
  |false=>some (.inr (.inl (a0,a1,a2,a3,())))
 |false=>some (.inr (.inl (a0,a1,a2,a3,())))
def Wg[Lk]{α:Type}(z:α)(c:α×α×Unit→Option U9):(List α×Int×Int×Int×Unit)→Option ((List α×Int×Bool×Unit)):=fun(a0,a1,a2,a3,_)=>
 match idx a0 a3 with|none=>none|some x0=>match idx a0 a1 with|none=>none|some x1=>match idx a0 a1 with|none=>none|some x2=>match idx (An a0 (AE a1) (AN a0 (AE a3) z)) a3 with|none=>none|some x3=>match AT (Po z c) many ((An (An a0 (AE a1) (AN a0 (AE a3) z)) (AE a3) (AN a0 (AE a1) z)),a1,(IntKind.wrap .i64 (a1+1)),(IntKind.wrap .i64 (a2-1)),())with|none=>none|some r=>match r with
 |.inl (o4,o5,o6,o7,_)=>match AT (Pn z c) many (o4,o5,o6,o7,())with|none=>none|some r=>match r with
  |.inl (o8,o9,o10,o11,_)=>match(ilt o11 o10)with
   |true=>match idx o8 o9 with|none=>none|some x12=>match idx o8 o11 with|none=>none|some x13=>match idx o8 o11 with|none=>none|some x14=>match idx (An o8 (AE o11) (AN o8 (AE o9) z)) o9 with|none=>none|some x15=>some ((An (An o8 (AE o11) (AN o8 (AE o9) z)) (AE o9) (AN o8 (AE o11) z)),o11,true,())
   |false=>match idx o8 o11 with|none=>none|some x16=>match idx o8 o10 with|none=>none|some x17=>match idx o8 o10 with|none=>none|some x18=>match idx (An o8 (AE o10) (AN o8 (AE o11) z)) o11 with|none=>none|some x19=>match AT (Pm z c) many ((An (An o8 (AE o10) (AN o8 (AE o11) z)) (AE o11) (AN o8 (AE o10) z)),o9,(IntKind.wrap .i64 (o10+1)),(IntKind.wrap .i64 (o11-1)),())with|none=>none|some r=>match r with
   |.inl (o20,o21,o22,_)=>match idx o20 o21 with|none=>none|some x23=>match idx o20 o22 with|none=>none|some x24=>match idx o20 o22 with|none=>none|some x25=>match idx (An o20 (AE o22) (AN o20 (AE o21) z)) o21 with|none=>none|some x26=>some ((An (An o20 (AE o22) (AN o20 (AE o21) z)) (AE o21) (AN o20 (AE o22) z)),o22,false,())
   |.inr _=>none
  |.inr _=>none
 |.inr _=>none
def ADJ[Lk]{α:Type}(z:α)(c:α×α×Unit→Option U9)(v:(List α×Int×Int×Int×Unit)):Option ((List α×Int×Bool×Unit)):=Lk.f ((Wg z c) v)
theorem AYe{α:Type}(z:α)(c:α×α×Unit→Option U9)(v:(List α×Int×Int×Int×Unit)):(ADJ z c) v=(Wg z c) v:=AI _
def Rw[Lk]{α:Type}(z:α)(c:α×α×Unit→Option U9)(self:(List α×Int×Int×Int×Unit)→Option ((List α×Unit)))(y7:List α)(a1 a2 p l:Int)(a4 a5:Bool):Option ((List α×Int×Int×Int×Bool×Bool×Unit)⊕(List α×Unit)⊕Unit):=
 match(ilt 0 a1)with
 |true=>match idx y7 (IntKind.wrap .i64 (a1-1))with|none=>none|some x9=>match idx y7 p with|none=>none|some x10=>match c ((AN y7 (AE (IntKind.wrap .i64 (a1-1))) z),(AN y7 (AE p) z),())with|none=>none|some (y11,_)=>match(!(ilt y11 0))with
  |true=>match(Wh z c) (y7,a1,a2,p,())with|none=>none|some (y12,y13,_)=>some (.inl (y12,y13,a2,l,a4,a5,()))
  |false=>match(ADJ z c) (y7,a1,a2,p,())with|none=>none|some (y14,y15,y16,_)=>match quo? .i64 (IntKind.wrap .i64 (a2-a1)) 8 with|none=>none|some x17=>match(ilt (IntKind.wrap .i64 (y15-a1)) (IntKind.wrap .i64 (a2-y15)))with
  |true=>match self (y14,a1,y15,l,())with|none=>none|some (y18,_)=>some (.inl (y18,(IntKind.wrap .i64 (y15+1)),a2,l,(ile x17 (IntKind.wrap .i64 (y15-a1))),y16,()))
  |false=>match self (y14,(IntKind.wrap .i64 (y15+1)),a2,l,())with|none=>none|some (y19,_)=>some (.inl (y19,a1,y15,l,(ile x17 (IntKind.wrap .i64 (a2-y15))),y16,()))
 |false=>match(ADJ z c) (y7,a1,a2,p,())with|none=>none|some (y20,y21,y22,_)=>match quo? .i64 (IntKind.wrap .i64 (a2-a1)) 8 with|none=>none|some x23=>match(ilt (IntKind.wrap .i64 (y21-a1)) (IntKind.wrap .i64 (a2-y21)))with
 |true=>match self (y20,a1,y21,l,())with|none=>none|some (y24,_)=>some (.inl (y24,(IntKind.wrap .i64 (y21+1)),a2,l,(ile x23 (IntKind.wrap .i64 (y21-a1))),y22,()))
 |false=>match self (y20,(IntKind.wrap .i64 (y21+1)),a2,l,())with|none=>none|some (y25,_)=>some (.inl (y25,a1,y21,l,(ile x23 (IntKind.wrap .i64 (a2-y21))),y22,()))
def AFs[Lk]{α:Type}(z:α)(c:α×α×Unit→Option U9)(self:(List α×Int×Int×Int×Unit)→Option ((List α×Unit)))(y6:List α)(a1 a2 p h l:Int)(a4 a5:Bool):Option ((List α×Int×Int×Int×Bool×Bool×Unit)⊕(List α×Unit)⊕Unit):=
 match a4 with
 |true=>match a5 with
  |true=>match(ieq h 1)with
   |true=>match(Pg z c) (y6,a1,a2,())with|none=>none|some (y7,y8,_)=>match y8 with
    |true=>some (.inr (.inl (y7,())))
    |false=>(Rw z c) self y7 a1 a2 p l a4 a5
   |false=>(Rw z c) self y6 a1 a2 p l a4 a5
  |false=>(Rw z c) self y6 a1 a2 p l a4 a5
 |false=>(Rw z c) self y6 a1 a2 p l a4 a5
def AFr[Lk]{α:Type}(z:α)(c:α×α×Unit→Option U9)(self:(List α×Int×Int×Int×Unit)→Option ((List α×Unit)))(y2:List α)(a1 a2 l:Int)(a4 a5:Bool):Option ((List α×Int×Int×Int×Bool×Bool×Unit)⊕(List α×Unit)⊕Unit):=
 match(AFa z c) (y2,a1,a2,())with|none=>none|some (y3,y4,y5,_)=>match(ieq y5 2)with
 |true=>match(Aax z c) (y3,a1,a2,())with|none=>none|some (y6,_)=>(AFs z c) self y6 a1 a2 (IntKind.wrap .i64 ((IntKind.wrap .i64 (a2-1))-(IntKind.wrap .i64 (y4-a1)))) 1 l a4 a5
 |false=>(AFs z c) self y3 a1 a2 y4 y5 l a4 a5
def Pf[Lk]{α:Type}(z:α)(c:α×α×Unit→Option U9)(self:(List α×Int×Int×Int×Unit)→Option ((List α×Unit))):(List α×Int×Int×Int×Bool×Bool×Unit)→Option ((List α×Int×Int×Int×Bool×Bool×Unit)⊕(List α×Unit)⊕Unit):=fun(a0,a1,a2,a3,a4,a5,_)=>
 match(ile (IntKind.wrap .i64 (a2-a1)) 12)with
 |true=>match(Abn z c) (a0,a1,a2,())with|none=>none|some (y0,_)=>some (.inr (.inl (y0,())))
 |false=>match(ieq a3 0)with
 |true=>match(ASi z c) (a0,a1,a2,())with|none=>none|some (y1,_)=>some (.inr (.inl (y1,())))
 |false=>match(!a4)with
 |true=>match(AHu z c) (a0,a1,a2,())with|none=>none|some (y2,_)=>(AFr z c) self y2 a1 a2 (IntKind.wrap .i64 (a3-1)) a4 a5
 |false=>(AFr z c) self a0 a1 a2 a3 a4 a5
def AFt[Lk]{α:Type}(z:α)(c:α×α×Unit→Option U9)(self:(List α×Int×Int×Int×Unit)→Option ((List α×Unit))):(List α×Int×Int×Int×Unit)→Option ((List α×Unit)):=fun(a0,a1,a2,a3,_)=>
 match AT ((Pf z c) self) many (a0,a1,a2,a3,true,true,())with|none=>none|some r=>match r with
 |.inl (o0,_)=>some (o0,())
 |.inr _=>none
def LY[Lk]{α:Type}(z:α)(c:α×α×Unit→Option U9):Nat→(List α×Int×Int×Int×Unit)→Option ((List α×Unit))
 |0,_=>none
 |n+1,v=>(AFt z c) ((LY z c) n) v
def AbC[Lk]{α:Type}(z:α)(c:α×α×Unit→Option U9)(v:(List α×Int×Int×Int×Unit)):Option ((List α×Unit)):=Lk.f ((LY z c) 100 v)
theorem AbB{α:Type}(z:α)(c:α×α×Unit→Option U9)(v:(List α×Int×Int×Int×Unit)):(AbC z c) v=(LY z c) 100 v:=AI _
def WW[Lk]{α:Type}(z:α)(c:α×α×Unit→Option U9):(List α×Unit)→Option ((List α×Unit)):=fun(a0,_)=>
 match bitsLen ((IntKind.wrap .u64 (AM a0)),())with|none=>none|some (y0,_)=>match(AbC z c) (a0,0,(AM a0),y0,())with|none=>none|some (y1,_)=>some (y1,())
def AXE[Lk]{α:Type}(z:α)(c:α×α×Unit→Option U9)(v:(List α×Unit)):Option ((List α×Unit)):=Lk.f ((WW z c) v)
theorem AXD{α:Type}(z:α)(c:α×α×Unit→Option U9)(v:(List α×Unit)):(AXE z c) v=(WW z c) v:=AI _
abbrev AQG:AF:=[(.tmp 0,.own 55 U5),(.tmp 1,.di),(.tmp 2,.di),(.tmp 3,.clo 204 [])]
abbrev AQF:AF:=[(.obj 0,.own 55 U5)]
abbrev AQE:List RS:=[]
abbrev ASZ:AF:=[(.obj 0,.own 55 U5),(.tmp 0,.own' 0),(.tmp 1,.di),(.tmp 2,.di),(.tmp 3,.clo 204 []),(.tmp 8,.di),(.tmp 9,.di)]
abbrev ASX:A1:=[(.exit 2,[(.obj 0,.own 55 U5),(.tmp 0,.own' 0),(.tmp 1,.di),(.tmp 2,.di),(.tmp 3,.clo 204 []),(.tmp 8,.di)])]
def ASV[Lk]:Ug→Option (Ug⊕U8⊕Unit):=P2 (([]:List (Int)):U3) BF
abbrev ASa:AF:=[(.obj 0,.own 55 U5),(.tmp 0,.own' 0),(.tmp 1,.di),(.tmp 2,.di),(.tmp 3,.clo 204 []),(.tmp 8,.di)]
abbrev ASY:A1:=[(.exit 0,[(.obj 0,.own 55 U5)])]
def ASW[Lk]:U8→Option (U8⊕Uk⊕Unit):=P5 (([]:List (Int)):U3) BF
def AZB[Lk]:Ud→Option (Uk):=AGt (([]:List (Int)):U3) BF
def AdE[Lk](v:Ud):Option (Uk):=Abn (([]:List (Int)):U3) BF v
theorem Abf v:AdE v=AZB v:=AI _
abbrev AE1:AF:=[(.tmp 0,.own 55 U5),(.tmp 1,.di),(.tmp 2,.di),(.tmp 3,.di),(.tmp 4,.clo 204 [])]
abbrev AE0:AF:=[(.obj 0,.own 55 U5)]
abbrev AEz:List RS:=[]
abbrev AJC:AF:=[(.obj 0,.own 55 U5),(.tmp 0,.own' 0),(.tmp 2,.di),(.tmp 3,.di),(.tmp 4,.clo 204 []),(.tmp 10,.di)]
abbrev AJB:A1:=[(.exit 0,[(.obj 0,.own 55 U5)]),(.ret,[(.obj 0,.own 55 U5)])]
def AJA[Lk]:U8→Option (U8⊕Uk⊕Uk⊕Unit):=LK (([]:List (Int)):U3) BF
def ARt[Lk]:U8→Option (Uk):=WY (([]:List (Int)):U3) BF
def AXI[Lk](v:U8):Option (Uk):=AJH (([]:List (Int)):U3) BF v
theorem AXH v:AXI v=ARt v:=AI _
abbrev AG0:AF:=[(.tmp 0,.own 55 U5),(.tmp 1,.di),(.tmp 2,.di),(.tmp 3,.clo 204 [])]
abbrev AGz:AF:=[(.obj 0,.own 55 U5)]
abbrev AGy:List RS:=[]
abbrev ALg:AF:=[(.obj 0,.own 55 U5),(.tmp 0,.own' 0),(.tmp 3,.clo 204 []),(.tmp 8,.di),(.tmp 9,.di),(.tmp 12,.di)]
abbrev ALe:A1:=[(.exit 2,[(.obj 0,.own 55 U5)])]
def ALb[Lk]:U8→Option (U8⊕Uk⊕Unit):=L0 (([]:List (Int)):U3) BF
abbrev ALh:AF:=[(.obj 0,.own 55 U5),(.tmp 0,.own' 0),(.tmp 3,.clo 204 []),(.tmp 8,.di),(.tmp 9,.di),(.tmp 10,.di),(.tmp 11,.di)]
abbrev ALf:A1:=[(.exit 0,[(.obj 0,.own 55 U5),(.tmp 0,.own' 0),(.tmp 3,.clo 204 []),(.tmp 8,.di),(.tmp 9,.di),(.tmp 10,.di)])]
def ALd[Lk]:Ug→Option (Ug⊕U8⊕Unit):=L3 (([]:List (Int)):U3) BF
def ASh[Lk]:Ud→Option (Uk):=Wp (([]:List (Int)):U3) BF
def AZQ[Lk](v:Ud):Option (Uk):=ASi (([]:List (Int)):U3) BF v
theorem AZP v:AZQ v=ASh v:=AI _
abbrev AAj:AF:=[(.tmp 0,.own 55 U5),(.tmp 1,.di),(.tmp 2,.di),(.tmp 3,.clo 204 [])]
abbrev AAi:AF:=[(.obj 0,.own 55 U5)]
abbrev AAh:List RS:=[]
abbrev ADv:AF:=[(.obj 0,.own 55 U5),(.tmp 0,.own' 0),(.tmp 1,.di),(.tmp 8,.di),(.tmp 9,.box 1),(.cell 1 0,.dat (.int .u64)),(.tmp 10,.dat (.int .u64)),(.tmp 11,.di)]
abbrev ADu:A1:=[(.exit 0,[(.obj 0,.own 55 U5)])]
def ADt[Lk]:Us→Option (Us⊕Uk⊕Unit):=HL (([]:List (Int)):U3) BF
def AMh[Lk]:Ud→Option (Uk):=Qi (([]:List (Int)):U3) BF
def ARJ[Lk](v:Ud):Option (Uk):=AHu (([]:List (Int)):U3) BF v
theorem AWL v:ARJ v=AMh v:=AI _
abbrev R5:AF:=[(.tmp 0,.own 55 U5),(.tmp 1,.di),(.tmp 2,.di),(.tmp 3,.box 1),(.cell 1 0,.di),(.tmp 4,.clo 204 [])]
abbrev R4:AF:=[(.obj 0,.own 55 U5),(.obj 1,.box 1),(.cell 1 0,.di),(.tmp 0,.di),(.tmp 1,.di)]
abbrev R3:List RS:=[.one,.one]
def ADN[Lk]:U8→Option (U8):=Mr (([]:List (Int)):U3) BF
def AGB[Lk](v:U8):Option (U8):=Ms (([]:List (Int)):U3) BF v
theorem APE v:AGB v=ADN v:=AI _
abbrev SJ:AF:=[(.tmp 0,.own 55 U5),(.tmp 1,.di),(.tmp 2,.di),(.tmp 3,.di),(.tmp 4,.box 1),(.cell 1 0,.di),(.tmp 5,.clo 204 [])]
abbrev SH:AF:=[(.obj 0,.own 55 U5),(.obj 1,.box 1),(.cell 1 0,.di),(.tmp 0,.di)]
abbrev SF:List RS:=[.one]
def ADO[Lk]:Ug→Option (Ud):=Mx (([]:List (Int)):U3) BF
def AGO[Lk](v:Ug):Option (Ud):=My (([]:List (Int)):U3) BF v
theorem APe v:AGO v=ADO v:=AI _
abbrev SR:AF:=[(.tmp 0,.own 55 U5),(.tmp 1,.di),(.tmp 2,.box 1),(.cell 1 0,.di),(.tmp 3,.clo 204 [])]
abbrev SQ:AF:=[(.obj 0,.own 55 U5),(.obj 1,.box 1),(.cell 1 0,.di),(.tmp 0,.di)]
abbrev SO:List RS:=[.one]
def ADP[Lk]:Ud→Option (Ud):=M0 (([]:List (Int)):U3) BF
def AGR[Lk](v:Ud):Option (Ud):=M3 (([]:List (Int)):U3) BF v
theorem APg v:AGR v=ADP v:=AI _
abbrev YQ:AF:=[(.tmp 0,.own 55 U5),(.tmp 1,.di),(.tmp 2,.di),(.tmp 3,.clo 204 [])]
abbrev YP:AF:=[(.obj 0,.own 55 U5),(.tmp 0,.di),(.tmp 1,.di)]
abbrev YO:List RS:=[.one,.one]
def AJj[Lk]:Ud→Option (Ud):=Pc (([]:List (Int)):U3) BF
def AOd[Lk](v:Ud):Option (Ud):=AFa (([]:List (Int)):U3) BF v
theorem AUA v:AOd v=AJj v:=AI _
abbrev AN7:AF:=[(.tmp 0,.own 55 U5),(.tmp 1,.di),(.tmp 2,.di),(.tmp 3,.clo 204 [])]
abbrev AN6:AF:=[(.obj 0,.own 55 U5)]
abbrev AN5:List RS:=[]
abbrev ARx:AF:=[(.obj 0,.own 55 U5),(.tmp 0,.own' 0),(.tmp 8,.di),(.tmp 9,.di)]
abbrev ARw:A1:=[(.exit 0,[(.obj 0,.own 55 U5)])]
def ARv[Lk]:Ud→Option (Ud⊕Uk⊕Unit):=Wc (([]:List (Int)):U3) BF
def AXW[Lk]:Ud→Option (Uk):=AFK (([]:List (Int)):U3) BF
def Acj[Lk](v:Ud):Option (Uk):=Aax (([]:List (Int)):U3) BF v
theorem Aat v:Acj v=AXW v:=AI _
abbrev OI:AF:=[(.tmp 0,.own 55 U5),(.tmp 1,.di),(.tmp 2,.di),(.tmp 3,.clo 204 [])]
abbrev OH:AF:=[(.obj 0,.own 55 U5),(.tmp 0,.dat .bool)]
abbrev OG:List RS:=[.one]
abbrev T5:AF:=[(.obj 0,.own 55 U5),(.tmp 0,.own' 0),(.tmp 1,.di),(.tmp 2,.di),(.tmp 3,.clo 204 []),(.tmp 9,.di),(.tmp 10,.di),(.tmp 12,.di)]
abbrev T1:A1:=[(.exit 6,[(.obj 0,.own 55 U5),(.tmp 0,.own' 0),(.tmp 1,.di),(.tmp 2,.di),(.tmp 3,.clo 204 []),(.tmp 9,.di),(.tmp 10,.di)])]
def Tv[Lk]:Us→Option (Us⊕Ug⊕Unit):=GS (([]:List (Int)):U3) BF
abbrev T6:AF:=[(.obj 0,.own 55 U5),(.tmp 0,.own' 0),(.tmp 1,.di),(.tmp 2,.di),(.tmp 3,.clo 204 []),(.tmp 9,.di),(.tmp 10,.di),(.tmp 11,.di)]
abbrev T2:A1:=[(.exit 4,[(.obj 0,.own 55 U5),(.tmp 0,.own' 0),(.tmp 1,.di),(.tmp 2,.di),(.tmp 3,.clo 204 []),(.tmp 9,.di),(.tmp 10,.di)])]
def Tw[Lk]:Us→Option (Us⊕Ug⊕Unit):=GU (([]:List (Int)):U3) BF
abbrev T7:AF:=[(.obj 0,.own 55 U5),(.tmp 0,.own' 0),(.tmp 1,.di),(.tmp 2,.di),(.tmp 3,.clo 204 []),(.tmp 9,.di),(.tmp 10,.di)]
abbrev T3:A1:=[(.exit 2,[(.obj 0,.own 55 U5),(.tmp 0,.own' 0),(.tmp 1,.di),(.tmp 2,.di),(.tmp 3,.clo 204 []),(.tmp 9,.di),(.tmp 10,.di)])]
def Tx[Lk]:Ug→Option (Ug⊕Ug⊕Unit):=IU (([]:List (Int)):U3) BF
abbrev T8:AF:=[(.obj 0,.own 55 U5),(.tmp 0,.own' 0),(.tmp 1,.di),(.tmp 2,.di),(.tmp 3,.clo 204 []),(.tmp 9,.di),(.tmp 10,.di)]
abbrev T4:A1:=[(.ret,[(.obj 0,.own 55 U5),(.tmp 8,.dat .bool)]),(.exit 0,[(.obj 0,.own 55 U5)])]
def Tz[Lk]:Ug→Option (Ug⊕(List U3×Bool×Unit)⊕Uk⊕Unit):=Cl (([]:List (Int)):U3) BF
def Ym[Lk]:Ud→Option ((List U3×Bool×Unit)):=Jw (([]:List (Int)):U3) BF
def Yn[Lk](v:Ud):Option ((List U3×Bool×Unit)):=Pg (([]:List (Int)):U3) BF v
theorem AKO v:Yn v=Ym v:=AI _
abbrev Rz:AF:=[(.tmp 0,.own 55 U5),(.tmp 1,.di),(.tmp 2,.di),(.tmp 3,.di),(.tmp 4,.clo 204 [])]
abbrev Ry:AF:=[(.obj 0,.own 55 U5),(.tmp 0,.di)]
abbrev Rx:List RS:=[.one]
abbrev Yy:AF:=[(.obj 0,.own 55 U5),(.tmp 0,.own' 0),(.tmp 1,.di),(.tmp 4,.clo 204 []),(.tmp 11,.di),(.tmp 12,.di)]
abbrev Yv:A1:=[(.exit 4,[(.obj 0,.own 55 U5),(.tmp 0,.own' 0),(.tmp 1,.di),(.tmp 4,.clo 204 []),(.tmp 11,.di),(.tmp 12,.di)])]
def Ys[Lk]:U8→Option Vh:=Jx (([]:List (Int)):U3) BF
abbrev Yz:AF:=[(.obj 0,.own 55 U5),(.tmp 0,.own' 0),(.tmp 1,.di),(.tmp 4,.clo 204 []),(.tmp 11,.di),(.tmp 12,.di)]
abbrev Yw:A1:=[(.exit 2,[(.obj 0,.own 55 U5),(.tmp 0,.own' 0),(.tmp 1,.di),(.tmp 4,.clo 204 []),(.tmp 11,.di),(.tmp 12,.di)])]
def Yt[Lk]:U8→Option Vh:=Jy (([]:List (Int)):U3) BF
abbrev Y0:AF:=[(.obj 0,.own 55 U5),(.tmp 0,.own' 0),(.tmp 1,.di),(.tmp 4,.clo 204 []),(.tmp 11,.di),(.tmp 12,.di)]
abbrev Yx:A1:=[(.exit 0,[(.obj 0,.own 55 U5),(.tmp 11,.di)])]
def Yu[Lk]:U8→Option (U8⊕Vb⊕Unit):=Jz (([]:List (Int)):U3) BF
def ADK[Lk]:U8→Option (Vb):=Mo (([]:List (Int)):U3) BF
def AF6[Lk](v:U8):Option (Vb):=Wh (([]:List (Int)):U3) BF v
theorem AO6 v:AF6 v=ADK v:=AI _
end
end Go.Pev
end
section
namespace Go.Pev
noncomputable section
attribute [local irreducible] L6 I6 NZ Ks AVQ AVR AVS PV Vn VY Xf I9 AQ many IntKind.wrap AM An AN A8 Bo Da JY AE Bh Bz imax AR Ai
abbrev AFx:AF:=[(.tmp 0,.own 55 U5),(.tmp 1,.di),(.tmp 2,.di),(.tmp 3,.di),(.tmp 4,.clo 204 [])]
abbrev AFw:AF:=[(.obj 0,.own 55 U5),(.tmp 0,.di),(.tmp 1,.dat .bool)]
abbrev AFv:List RS:=[.one,.one]
abbrev AKB:AF:=[(.obj 0,.own 55 U5),(.tmp 0,.own' 0),(.tmp 1,.di),(.tmp 4,.clo 204 []),(.tmp 12,.di),(.tmp 13,.di)]
abbrev AJ6:A1:=[(.exit 8,[(.obj 0,.own 55 U5),(.tmp 0,.own' 0),(.tmp 1,.di),(.tmp 4,.clo 204 []),(.tmp 12,.di),(.tmp 13,.di)])]
def AJx[Lk]:U8→Option Vh:=Pj (([]:List (Int)):U3) BF
abbrev AKC:AF:=[(.obj 0,.own 55 U5),(.tmp 0,.own' 0),(.tmp 1,.di),(.tmp 4,.clo 204 []),(.tmp 12,.di),(.tmp 13,.di)]
abbrev AJ7:A1:=[(.exit 6,[(.obj 0,.own 55 U5),(.tmp 0,.own' 0),(.tmp 1,.di),(.tmp 4,.clo 204 []),(.tmp 12,.di),(.tmp 13,.di)])]
def AJz[Lk]:U8→Option Vh:=Pk (([]:List (Int)):U3) BF
abbrev AKD:AF:=[(.obj 0,.own 55 U5),(.tmp 0,.own' 0),(.tmp 1,.di),(.tmp 4,.clo 204 []),(.tmp 12,.di),(.tmp 13,.di)]
abbrev AJ8:A1:=[(.exit 4,[(.obj 0,.own 55 U5),(.tmp 0,.own' 0),(.tmp 1,.di),(.tmp 13,.di)])]
def AJ1[Lk]:U8→Option (U8⊕Ud⊕Unit):=Pm (([]:List (Int)):U3) BF
abbrev AKE:AF:=[(.obj 0,.own 55 U5),(.tmp 0,.own' 0),(.tmp 1,.di),(.tmp 4,.clo 204 []),(.tmp 12,.di),(.tmp 13,.di)]
abbrev AJ9:A1:=[(.exit 2,[(.obj 0,.own 55 U5),(.tmp 0,.own' 0),(.tmp 1,.di),(.tmp 4,.clo 204 []),(.tmp 12,.di),(.tmp 13,.di)])]
def AJ3[Lk]:U8→Option Vh:=Pn (([]:List (Int)):U3) BF
abbrev AKF:AF:=[(.obj 0,.own 55 U5),(.tmp 0,.own' 0),(.tmp 1,.di),(.tmp 4,.clo 204 []),(.tmp 12,.di),(.tmp 13,.di)]
abbrev AKA:A1:=[(.exit 0,[(.obj 0,.own 55 U5),(.tmp 0,.own' 0),(.tmp 1,.di),(.tmp 4,.clo 204 []),(.tmp 12,.di),(.tmp 13,.di)])]
def AJ5[Lk]:U8→Option Vh:=Po (([]:List (Int)):U3) BF
def ASE[Lk]:U8→Option ((List U3×Int×Bool×Unit)):=Wg (([]:List (Int)):U3) BF
def AYT[Lk](v:U8):Option ((List U3×Int×Bool×Unit)):=ADJ (([]:List (Int)):U3) BF v
theorem AYS v:AYT v=ASE v:=AI _
abbrev Yc:AF:=[(.tmp 0,.own 55 U5),(.tmp 1,.di),(.tmp 2,.di),(.tmp 3,.di),(.tmp 4,.clo 204 [])]
abbrev Yb:AF:=[(.obj 0,.own 55 U5)]
abbrev Ya:List RS:=[]
abbrev AR9:AF:=[(.obj 0,.own 55 U5),(.tmp 0,.own' 0),(.tmp 1,.di),(.tmp 2,.di),(.tmp 3,.di),(.tmp 4,.clo 204 []),(.tmp 10,.dat .bool),(.tmp 11,.dat .bool)]
abbrev AR8:A1:=[(.ret,[(.obj 0,.own 55 U5)])]
def AR7[Lk](self:U8→Option (Uk)):(List U3×Int×Int×Int×Bool×Bool×Unit)→Option ((List U3×Int×Int×Int×Bool×Bool×Unit)⊕Uk⊕Unit):=Pf (([]:List (Int)):U3) BF self
def Acp[Lk](self:U8→Option (Uk)):U8→Option (Uk):=AFt (([]:List (Int)):U3) BF self
def Yd[Lk]:Nat→U8→Option (Uk):=LY (([]:List (Int)):U3) BF
def Aa8[Lk](v:U8):Option (Uk):=AbC (([]:List (Int)):U3) BF v
theorem Aa7 v:Aa8 v=Yd 100 v:=AI _
abbrev AEv:AF:=[(.tmp 0,.own 55 U5),(.tmp 1,.clo 204 [])]
abbrev AEu:AF:=[(.obj 0,.own 55 U5)]
abbrev AEt:List RS:=[]
def ARs[Lk]:Uk→Option (Uk):=WW (([]:List (Int)):U3) BF
def AI5[Lk](v:Uk):Option (Uk):=AXE (([]:List (Int)):U3) BF v
theorem AXC v:AI5 v=ARs v:=AI _
abbrev AEQ:AF:=[(.tmp 0,.dat Uo),(.tmp 1,.dat U5),(.tmp 2,.dat Ui)]
abbrev AEP:AF:=[(.tmp 0,.di),(.tmp 1,.own 55 U5)]
abbrev AEO:List RS:=[.agg 2]
abbrev AIc:AF:=[(.tmp 3,.box 2),(.cell 0 0,.di),(.cell 0 1,.dat Ui),(.tmp 6,.box 2),(.cell 1 0,.di),(.cell 1 1,.nil U5),(.tmp 7,.own 55 U5),(.tmp 29,.dat Ui),(.tmp 30,.di),(.tmp 31,.di)]
abbrev AIa:A1:=[(.exit 2,[(.tmp 3,.box 2),(.cell 0 0,.di),(.cell 0 1,.dat Ui),(.tmp 6,.box 2),(.cell 1 0,.di),(.cell 1 1,.nil U5),(.tmp 7,.own 55 U5)])]
def HQ[Lk]:(Int×List U3×Int×List U3×List U3×Int×Int×Unit)→Option ((Int×List U3×Int×List U3×List U3×Int×Int×Unit)⊕(Int×List U3×Int×List U3×Unit)⊕Unit):=fun(a0,a1,a2,a3,a4,a5,a6,_)=>
 match(ilt a6 a5)with
 |true=>match idx a4 a6 with|none=>none|some x0=>match Xw (x0,())with|none=>none|some (y1,_)=>match(fits ((AM a3)+(AM ([y1]:List U3))))with
  |true=>some (.inl (a0,a1,a2,(A8 a3 ([y1]:List U3)),a4,a5,(IntKind.wrap .i64 (a6+1)),()))
  |false=>none
 |false=>some (.inr (.inl (a0,a1,a2,a3,())))
abbrev AId:AF:=[(.tmp 1,.dat U5),(.tmp 2,.dat Ui),(.tmp 3,.box 2),(.cell 0 0,.di),(.cell 0 1,.dat Ui),(.tmp 6,.box 2),(.cell 1 0,.di),(.cell 1 1,.nil U5),(.tmp 7,.own 55 U5),(.tmp 13,.dat Ui),(.tmp 14,.di),(.tmp 15,.di)]
abbrev AIb:A1:=[(.exit 0,[(.tmp 2,.dat Ui),(.tmp 3,.box 2),(.cell 0 0,.di),(.cell 0 1,.dat Ui),(.tmp 6,.box 2),(.cell 1 0,.di),(.cell 1 1,.nil U5),(.tmp 7,.own 55 U5)])]
def HR[Lk]:Vj→Option (Vj⊕(List U3×Int×List U3×Int×List U3×Unit)⊕Unit):=fun(a0,a1,a2,a3,a4,a5,a6,a7,a8,_)=>
 match(ilt a8 a7)with
 |true=>match idx a6 a8 with|none=>none|some x0=>match El (a0,a8,())with|none=>none|some (y1,_)=>match(!y1)with
  |true=>match(fits ((AM a5)+(AM ([x0]:List U3))))with
   |true=>some (.inl (a0,a1,a2,a3,a4,(A8 a5 ([x0]:List U3)),a6,a7,(IntKind.wrap .i64 (a8+1)),()))
   |false=>none
  |false=>some (.inl (a0,a1,a2,a3,a4,a5,a6,a7,(IntKind.wrap .i64 (a8+1)),()))
 |false=>some (.inr (.inl (a1,a2,a3,a4,a5,())))
def WR[Lk]:(Uh×List Int×List U3×Unit)→Option ((Int×List U3×Unit)):=fun(a0,a1,a2,_)=>
 match AT HR many (a1,a2,a0.1,a0.2.1,0,([]:List U3),a0.2.1,(AM a0.2.1),0,())with|none=>none|some r=>match r with
 |.inl (o0,o1,o2,o3,o4,_)=>match AT HQ many (o1,o2,o3,o4,o0,(AM o0),0,())with|none=>none|some r=>match r with
  |.inl (o5,o6,o7,o8,_)=>match AI5 (o8,())with|none=>none|some (y9,_)=>some (o5,y9,())
  |.inr _=>none
 |.inr _=>none
def AIf[Lk]:=fun v=>Lk.f (WR v)
theorem AIe v:AIf v=WR v:=AI _
abbrev AEo:AF:=[(.tmp 0,.dat Uo),(.tmp 1,.di),(.tmp 2,.di)]
abbrev AEn:AF:=[(.tmp 0,.di),(.tmp 1,.dat Ui),(.tmp 2,.di)]
abbrev AEm:List RS:=[.agg 2,.one]
def Gz[Lk]:(Uh×Int×Int×Unit)→Option (Uy):=fun(a0,a1,a2,_)=>
 match asked ((a0.1,(a0.2.1,())),a1,a2,())with|none=>none|some (y0,_)=>match(!(ieq y0 0))with
 |true=>some (a0.1,a0.2.1,y0,())
 |false=>match N4 ((a0.1,(a0.2.1,())),a1,())with|none=>none|some (y1,_)=>match N4 ((a0.1,(a0.2.1,())),a2,())with|none=>none|some (y2,_)=>match(ieq y1 y2)with
 |true=>some (a0.1,a0.2.1,5,())
 |false=>match idx a0.2.1 y1 with|none=>none|some x3=>match ADA (x3,a1,())with|none=>none|some (y4,y5,_)=>match idx a0.2.1 y2 with|none=>none|some x6=>match ADA (x6,a2,())with|none=>none|some (y7,y8,_)=>match CH y4 0 1 with|none=>none|some x9=>match ATZ (a0.1,a1,a2,())with|none=>none|some (y10,_)=>match ATZ (a0.1,a2,a1,())with|none=>none|some (y11,_)=>match CH y4 1 (AM y4)with|none=>none|some x12=>match Im (([(Da 0 (AE (AM x9)) y4),([y10]:List (Int)),y7,([y11]:List (Int)),(Da 1 (AE (AM x12)) y4)]:List U3),())with|none=>none|some (y13,_)=>match AIf ((a0.1,(a0.2.1,())),([y1,y2]:List (Int)),([y13]:List U3),())with|none=>none|some (y14,y15,_)=>some (y14,y15,0,())
def LH[Lk]:=fun v=>Lk.f (Gz v)
theorem HY v:LH v=Gz v:=AI _
abbrev Fp:AF:=[(.tmp 0,.dat U5),(.cap 1 0,.box 2),(.cell 0 0,.di),(.cell 0 1,.dat Ui),(.tmp 1,.clo 155 [(0,0)])]
abbrev Fm:AF:=[(.obj 0,.box 2),(.cell 0 0,.di),(.cell 0 1,.dat Ui),(.tmp 0,.di)]
abbrev Fl:List RS:=[.one]
abbrev Ic:AF:=[(.obj 0,.box 2),(.cell 0 0,.di),(.cell 0 1,.dat Ui),(.tmp 0,.dat U5),(.tmp 1,.clo 155 [(0,0)]),(.tmp 7,.di),(.tmp 8,.di)]
abbrev Ib:A1:=[(.ret,[(.obj 0,.box 2),(.cell 0 0,.di),(.cell 0 1,.dat Ui),(.tmp 4,.di)]),(.exit 0,[(.obj 0,.box 2),(.cell 0 0,.di),(.cell 0 1,.dat Ui)])]
def Bg[Lk]:(Int×List U3×List Int×Int×Int×Unit)→Option ((Int×List U3×List Int×Int×Int×Unit)⊕Uy⊕(Int×List U3×Unit)⊕Unit):=fun(a0,a1,a2,a3,a4,_)=>
 match(ilt a4 a3)with
 |true=>match idx a2 a4 with|none=>none|some x0=>match(ilt x0 0)with
  |true=>some (.inr (.inl (a0,a1,a4,())))
  |false=>match(ile a0 x0)with
  |true=>some (.inr (.inl (a0,a1,a4,())))
  |false=>some (.inl (a0,a1,a2,a3,(IntKind.wrap .i64 (a4+1)),()))
 |false=>some (.inr (.inr (.inl (a0,a1,()))))
def Dr[Lk]:V5→Option (Uy):=fun(a0,a1,a2,_)=>
 match AT Bg many (a1,a2,a0,(AM a0),0,())with|none=>none|some r=>match r with
 |.inl (o0,o1,o2,_)=>some (o0,o1,o2,())
 |.inr r=>match r with
 |.inl (o3,o4,_)=>some (o3,o4,(-1:Int),())
 |.inr _=>none
def E5[Lk]:=fun v=>Lk.f (Dr v)
theorem Ie v:E5 v=Dr v:=AI _
abbrev FH:AF:=[(.tmp 0,.dat U5),(.cap 1 0,.box 2),(.cell 0 0,.di),(.cell 0 1,.dat Ui),(.tmp 1,.clo 155 [(0,0)])]
abbrev FG:AF:=[(.obj 0,.box 2),(.cell 0 0,.di),(.cell 0 1,.dat Ui),(.tmp 0,.dat .bool)]
abbrev FF:List RS:=[.one]
def DF[Lk]:V5→Option ((Int×List U3×Bool×Unit)):=fun(a0,a1,a2,_)=>
 match E5 (a0,a1,a2,())with|none=>none|some (y0,y1,y2,_)=>some (y0,y1,(ile 0 y2),())
def C4[Lk]:=fun v=>Lk.f (DF v)
theorem IA v:C4 v=DF v:=AI _
abbrev Z0:AF:=[(.tmp 0,.dat Uo),(.tmp 1,.dat U5)]
abbrev Zz:AF:=[(.tmp 0,.di)]
abbrev Zy:List RS:=[.one]
def QM[Lk]:(Uh×List Int×Unit)→Option (U9):=fun(a0,a1,_)=>
 match N3 ((a0.1,(a0.2.1,())),())with|none=>none|some (y0,_)=>match(!y0)with
 |true=>some (1,())
 |false=>match C4 (a1,a0.1,a0.2.1,())with|none=>none|some (y1,y2,y3,_)=>match y3 with
 |true=>some (10,())
 |false=>some (0,())
def KJ[Lk]:=fun v=>Lk.f (QM v)
theorem ADk v:KJ v=QM v:=AI _
abbrev AQn:AF:=[(.tmp 0,.dat Uz)]
abbrev AQm:AF:=[(.tmp 0,.own 3 U0)]
abbrev AQl:List RS:=[.one]
abbrev ASq:AF:=[(.tmp 3,.own 3 U0),(.tmp 6,.dat Uz),(.tmp 7,.di),(.tmp 8,.di)]
abbrev ASp:A1:=[(.exit 0,[(.tmp 3,.own 3 U0)])]
def KM[Lk]:(List Int×List U4×Int×Int×Unit)→Option ((List Int×List U4×Int×Int×Unit)⊕Ua⊕Unit):=fun(a0,a1,a2,a3,_)=>
 match(ilt a3 a2)with
 |true=>match idx a1 a3 with|none=>none|some x0=>match(fits ((AM a0)+(AM ([x0.1,x0.2.1]:List (Int)))))with
  |true=>some (.inl ((A8 a0 ([x0.1,x0.2.1]:List (Int))),a1,a2,(IntKind.wrap .i64 (a3+1)),()))
  |false=>none
 |false=>some (.inr (.inl (a0,())))
def AHP[Lk]:V8→Option (Ua):=fun(a0,_)=>
 match AT KM many (([]:List (Int)),a0,(AM a0),0,())with|none=>none|some r=>match r with
 |.inl (o0,_)=>some (o0,())
 |.inr _=>none
def ends[Lk]:=fun v=>Lk.f (AHP v)
theorem ASr v:ends v=AHP v:=AI _
abbrev Oq:AF:=[(.tmp 0,.dat Uo),(.tmp 1,.dat Uz),(.tmp 2,.clo 161 [])]
abbrev Oo:AF:=[(.tmp 0,.dat Uo),(.tmp 1,.own 4 .bool),(.tmp 2,.di)]
abbrev On:List RS:=[.one,.one,.one]
abbrev UZ:AF:=[(.tmp 2,.clo 161 []),(.tmp 3,.box 2),(.cell 0 0,.di),(.cell 0 1,.dat Ui),(.tmp 6,.box 2),(.cell 1 0,.di),(.cell 1 1,.nil U5),(.tmp 10,.own 4 .bool),(.tmp 23,.dat Uz),(.tmp 24,.di),(.tmp 25,.di)]
abbrev UY:A1:=[(.exit 0,[(.tmp 3,.box 2),(.cell 0 0,.di),(.cell 0 1,.dat Ui),(.tmp 6,.box 2),(.cell 1 0,.di),(.cell 1 1,.nil U5),(.tmp 10,.own 4 .bool)])]
def By[Lk]:(Int×List U3×Int×List Bool×List U4×Int×Int×Unit)→Option ((Int×List U3×Int×List Bool×List U4×Int×Int×Unit)⊕(Int×List U3×Int×List Bool×Unit)⊕Unit):=fun(a0,a1,a2,a3,a4,a5,a6,_)=>
 match(ilt a6 a5)with
 |true=>match idx a4 a6 with|none=>none|some x0=>match LH ((a0,(a1,())),x0.1,x0.2.1,())with|none=>none|some (y1,y2,y3,_)=>match(fits ((AM a3)+(AM ([(ieq y3 0)]:List (Bool)))))with
  |true=>some (.inl (y1,y2,a2,(A8 a3 ([(ieq y3 0)]:List (Bool))),a4,a5,(IntKind.wrap .i64 (a6+1)),()))
  |false=>none
 |false=>some (.inr (.inl (a0,a1,a2,a3,())))
def H5[Lk]:(Uh×List U4×Unit)→Option ((Uh×List Bool×Int×Unit)):=fun(a0,a1,_)=>
 match ends (a1,())with|none=>none|some (y0,_)=>match KJ ((a0.1,(a0.2.1,())),y0,())with|none=>none|some (y1,_)=>match(!(ieq y1 0))with
 |true=>some ((a0.1,(a0.2.1,())),([]:List (Bool)),y1,())
 |false=>match AT By many (a0.1,a0.2.1,0,([]:List (Bool)),a1,(AM a1),0,())with|none=>none|some r=>match r with
 |.inl (o2,o3,o4,o5,_)=>some ((o2,(o3,())),o5,0,())
 |.inr _=>none
def QT[Lk]:=fun v=>Lk.f (H5 v)
theorem MC v:QT v=H5 v:=AI _
abbrev Z5:AF:=[(.tmp 0,.dat Uo),(.tmp 1,.dat Uz)]
abbrev Z4:AF:=[(.tmp 0,.dat Uo),(.tmp 1,.own 4 .bool),(.tmp 2,.di)]
abbrev Z3:List RS:=[.one,.one,.one]
def L5[Lk]:(Uh×List U4×Unit)→Option ((Uh×List Bool×Int×Unit)):=fun(a0,a1,_)=>
 match QT ((a0.1,(a0.2.1,())),a1,())with|none=>none|some (y0,y1,y2,_)=>some ((y0.1,(y0.2.1,())),y1,y2,())
def AHJ[Lk]:=fun v=>Lk.f (L5 v)
theorem Ss v:AHJ v=L5 v:=AI _
abbrev AZj:AF:=[(.tmp 0,.di),(.tmp 1,.dat Uz)]
abbrev AZi:AF:=[(.tmp 0,.dat Uo),(.tmp 1,.di)]
abbrev AZh:List RS:=[.one,.one]
def AL4[Lk]:(Int×List U4×Unit)→Option (Va):=fun(a0,a1,_)=>
 match AIx (a0,())with|none=>none|some (y0,y1,y2,_)=>match(!(ieq y2 0))with
 |true=>some ((0,(([]:List U3),())),y2,())
 |false=>match AHJ ((y0,(y1,())),a1,())with|none=>none|some (y3,y4,y5,_)=>match(!(ieq y5 0))with
 |true=>some ((0,(([]:List U3),())),y5,())
 |false=>some ((y3.1,(y3.2.1,())),0,())
def fof[Lk]:=fun v=>Lk.f (AL4 v)
theorem AQc v:fof v=AL4 v:=AI _
abbrev AYm:AF:=[(.tmp 0,.dat U5)]
abbrev AYk:AF:=[(.tmp 0,.di)]
abbrev AYi:List RS:=[.one]
abbrev AYl:AF:=[(.tmp 3,.di),(.tmp 6,.dat U5),(.tmp 7,.di),(.tmp 8,.di)]
abbrev AYj:A1:=[(.ret,[(.tmp 2,.di)]),(.exit 0,[(.tmp 3,.di)])]
def OM[Lk]:(Int×List Int×Int×Int×Unit)→Option ((Int×List Int×Int×Int×Unit)⊕U9⊕U9⊕Unit):=fun(a0,a1,a2,a3,_)=>
 match(ilt a3 a2)with
 |true=>match idx a1 a3 with|none=>none|some x0=>match(!(ieq x0 a0))with
  |true=>some (.inr (.inl (x0,())))
  |false=>some (.inl (a0,a1,a2,(IntKind.wrap .i64 (a3+1)),()))
 |false=>some (.inr (.inr (.inl (a0,()))))
def ASF[Lk]:Ua→Option (U9):=fun(a0,_)=>
 match AT OM many (0,a0,(AM a0),0,())with|none=>none|some r=>match r with
 |.inl (o0,_)=>some (o0,())
 |.inr r=>match r with
 |.inl (o1,_)=>some (o1,())
 |.inr _=>none
def orI[Lk]:=fun v=>Lk.f (ASF v)
theorem AYo v:orI v=ASF v:=AI _
abbrev ZR:AF:=[(.tmp 0,.di)]
abbrev ZQ:AF:=[(.tmp 0,.dat .bool)]
abbrev ZP:List RS:=[.one]
def Lu[Lk]:U9→Option (Uf):=fun(a0,_)=>
 match(ile 1 a0)with
 |true=>some ((ile a0 64),())
 |false=>some (false,())
def SY[Lk]:=fun v=>Lk.f (Lu v)
theorem SX v:SY v=Lu v:=AI _
abbrev APn:AF:=[(.tmp 0,.di)]
abbrev APm:AF:=[(.tmp 0,.di)]
abbrev APl:List RS:=[.one]
def APo[Lk]:U9→Option (U9):=fun(a0,_)=>
 match SY (a0,())with|none=>none|some (y0,_)=>match(!y0)with
 |true=>some (0,())
 |false=>match bitsLen ((IntKind.wrap .u64 (IntKind.wrap .i64 (a0-1))),())with|none=>none|some (y1,_)=>some (y1,())
def ACA[Lk]:=fun v=>Lk.f (APo v)
theorem AbS v:ACA v=APo v:=AI _
abbrev OU:AF:=[(.tmp 0,.dat U1),(.tmp 1,.dat U1)]
abbrev OT:AF:=[(.tmp 0,.di)]
abbrev OS:List RS:=[.one]
def Hp[Lk]:(U2×U2×Unit)→Option (U9):=fun(a0,a1,_)=>
 match FI (a0.1,a1.1,())with|none=>none|some (y0,_)=>match FI (a0.2.1,a1.2.1,())with|none=>none|some (y1,_)=>match orI (([y0,y1]:List (Int)),())with|none=>none|some (y2,_)=>some (y2,())
def DV[Lk]:=fun v=>Lk.f (Hp v)
theorem Lv v:DV v=Hp v:=AI _
abbrev ZM:AF:=[(.tmp 0,.dat Ub),(.tmp 1,.di)]
abbrev ZL:AF:=[(.tmp 0,.own 42 U6)]
abbrev ZK:List RS:=[.one]
abbrev ADR:AF:=[(.tmp 1,.di),(.tmp 5,.own 42 U6),(.tmp 9,.dat Ul),(.tmp 10,.di),(.tmp 11,.di)]
abbrev ADQ:A1:=[(.exit 0,[(.tmp 5,.own 42 U6)])]
def Cf[Lk]:(Int×List U4×List U2×Int×Int×Unit)→Option ((Int×List U4×List U2×Int×Int×Unit)⊕V8⊕Unit):=fun(a0,a1,a2,a3,a4,_)=>
 match(ilt a4 a3)with
 |true=>match idx a2 a4 with|none=>none|some x0=>match x0.2.2.2.1 with
  |true=>match(ile a0 x0.2.2.1)with
   |true=>match(fits ((AM a1)+(AM ([(x0.1,(x0.2.1,()))]:List U4))))with
    |true=>some (.inl (a0,(A8 a1 ([(x0.1,(x0.2.1,()))]:List U4)),a2,a3,(IntKind.wrap .i64 (a4+1)),()))
    |false=>none
   |false=>some (.inl (a0,a1,a2,a3,(IntKind.wrap .i64 (a4+1)),()))
  |false=>some (.inl (a0,a1,a2,a3,(IntKind.wrap .i64 (a4+1)),()))
 |false=>some (.inr (.inl (a1,())))
def Ls[Lk]:(Ue×Int×Unit)→Option (V8):=fun(a0,a1,_)=>
 match AT Cf many (a1,([]:List U4),a0.2.1,(AM a0.2.1),0,())with|none=>none|some r=>match r with
 |.inl (o0,_)=>some (o0,())
 |.inr _=>none
def OQ[Lk]:=fun v=>Lk.f (Ls v)
theorem SW v:OQ v=Ls v:=AI _
abbrev ZU:AF:=[(.tmp 0,.dat Ub)]
abbrev ZT:AF:=[(.tmp 0,.dat .bool)]
abbrev ZS:List RS:=[.one]
abbrev ADT:AF:=[(.tmp 1,.box 2),(.cell 0 0,.di),(.cell 0 1,.dat Ul),(.tmp 3,.di),(.tmp 23,.dat Ul),(.tmp 24,.di),(.tmp 25,.di)]
abbrev ADS:A1:=[(.ret,[(.tmp 2,.dat .bool)]),(.exit 0,[(.tmp 1,.box 2),(.cell 0 0,.di),(.cell 0 1,.dat Ul)])]
def Dl[Lk]:(Int×List U2×Int×List U2×Int×Int×Unit)→Option ((Int×List U2×Int×List U2×Int×Int×Unit)⊕Uf⊕(Int×List U2×Unit)⊕Unit):=fun(a0,a1,a2,a3,a4,a5,_)=>
 match(ilt a5 a4)with
 |true=>match idx a3 a5 with|none=>none|some x0=>match(ilt x0.1 0)with
  |true=>some (.inr (.inl (false,())))
  |false=>match(ile x0.2.1 x0.1)with
  |true=>some (.inr (.inl (false,())))
  |false=>match(ile a0 x0.2.1)with
  |true=>some (.inr (.inl (false,())))
  |false=>match(ilt x0.2.2.1 0)with
  |true=>some (.inr (.inl (false,())))
  |false=>match(ilt a2 x0.2.2.1)with
  |true=>some (.inr (.inl (false,())))
  |false=>match(ilt 0 a5)with
  |true=>match idx a1 (IntKind.wrap .i64 (a5-1))with|none=>none|some x1=>match DV ((x1.1,(x1.2.1,(x1.2.2.1,(x1.2.2.2.1,())))),(x0.1,(x0.2.1,(x0.2.2.1,(x0.2.2.2.1,())))),())with|none=>none|some (y2,_)=>match(ile 0 y2)with
   |true=>some (.inr (.inl (false,())))
   |false=>some (.inl (a0,a1,a2,a3,a4,(IntKind.wrap .i64 (a5+1)),()))
  |false=>some (.inl (a0,a1,a2,a3,a4,(IntKind.wrap .i64 (a5+1)),()))
 |false=>some (.inr (.inr (.inl (a0,a1,()))))
def Hm[Lk]:(Ue×Unit)→Option (Uf):=fun(a0,_)=>
 match SY (a0.1,())with|none=>none|some (y0,_)=>match(!y0)with
 |true=>some (false,())
 |false=>match(ilt 400 (AM a0.2.1))with
 |true=>some (false,())
 |false=>match ACA (a0.1,())with|none=>none|some (y1,_)=>match AT Dl many (a0.1,a0.2.1,y1,a0.2.1,(AM a0.2.1),0,())with|none=>none|some r=>match r with
 |.inl (o2,_)=>some (o2,())
 |.inr r=>match r with
 |.inl (o3,o4,_)=>match OQ ((o3,(o4,())),0,())with|none=>none|some (y5,_)=>match fof (o3,y5,())with|none=>none|some (y6,y7,_)=>match(ieq y7 0)with
  |true=>some ((ieq (AM y6.2.1) (IntKind.wrap .i64 (o3-(AM y5)))),())
  |false=>some (false,())
 |.inr _=>none
def Gl[Lk]:=fun v=>Lk.f (Hm v)
theorem JN v:Gl v=Hm v:=AI _
abbrev Zd:AF:=[(.tmp 0,.dat Ub)]
abbrev Zc:AF:=[(.tmp 0,.own 42 U6)]
abbrev Zb:List RS:=[.one]
abbrev ADX:AF:=[(.tmp 3,.own 42 U6),(.tmp 10,.dat Ul),(.tmp 11,.di),(.tmp 12,.di)]
abbrev ADW:A1:=[(.exit 0,[(.tmp 3,.own 42 U6)])]
def Sg[Lk]:(List U4×List U2×Int×Int×Unit)→Option ((List U4×List U2×Int×Int×Unit)⊕V8⊕Unit):=fun(a0,a1,a2,a3,_)=>
 match(ilt a3 a2)with
 |true=>match idx a1 a3 with|none=>none|some x0=>match(fits ((AM a0)+(AM ([(x0.1,(x0.2.1,()))]:List U4))))with
  |true=>some (.inl ((A8 a0 ([(x0.1,(x0.2.1,()))]:List U4)),a1,a2,(IntKind.wrap .i64 (a3+1)),()))
  |false=>none
 |false=>some (.inr (.inl (a0,())))
def Zf[Lk]:(Ue×Unit)→Option (V8):=fun(a0,_)=>
 match Gl ((a0.1,(a0.2.1,())),())with|none=>none|some (y0,_)=>match(!y0)with
 |true=>some (([]:List U4),())
 |false=>match AT Sg many (([]:List U4),a0.2.1,(AM a0.2.1),0,())with|none=>none|some r=>match r with
 |.inl (o1,_)=>some (o1,())
 |.inr _=>none
def AGm[Lk]:=fun v=>Lk.f (Zf v)
theorem AVG v:AGm v=Zf v:=AI _
abbrev MM:AF:=[(.tmp 0,.di),(.tmp 1,.dat Uz)]
abbrev ML:AF:=[(.tmp 0,.own 3 U0)]
abbrev MK:List RS:=[.one]
abbrev Qd:AF:=[(.tmp 0,.di),(.tmp 1,.dat Uz),(.tmp 5,.own 3 U0),(.tmp 7,.dat .bool),(.tmp 8,.di)]
abbrev Qa:A1:=[(.exit 4,[(.tmp 0,.di),(.tmp 1,.dat Uz),(.tmp 5,.own 3 U0),(.tmp 7,.dat .bool)])]
def Cx[Lk]:(Int×List U4×List Int×Bool×Int×Unit)→Option ((Int×List U4×List Int×Bool×Int×Unit)⊕Vk⊕Unit):=fun(a0,a1,a2,a3,a4,_)=>
 match(ilt a4 (AM a1))with
 |true=>match idx a1 a4 with|none=>none|some x0=>match idx a1 a4 with|none=>none|some x1=>match(ilt x0.1 0)with
  |true=>some (.inl (a0,a1,a2,a3,(IntKind.wrap .i64 (a4+1)),()))
  |false=>match(ilt x1.2.1 0)with
  |true=>some (.inl (a0,a1,a2,a3,(IntKind.wrap .i64 (a4+1)),()))
  |false=>match(ile a0 x0.1)with
  |true=>some (.inl (a0,a1,a2,a3,(IntKind.wrap .i64 (a4+1)),()))
  |false=>match(ile a0 x1.2.1)with
  |true=>some (.inl (a0,a1,a2,a3,(IntKind.wrap .i64 (a4+1)),()))
  |false=>match idx a2 x0.1 with|none=>none|some x2=>match idx a2 x1.2.1 with|none=>none|some x3=>match(ieq (AN a2 (AE x0.1) 0) (AN a2 (AE x1.2.1) 0))with
  |true=>some (.inl (a0,a1,a2,a3,(IntKind.wrap .i64 (a4+1)),()))
  |false=>match idx a2 x0.1 with|none=>none|some x4=>match idx a2 x1.2.1 with|none=>none|some x5=>match idx a2 x0.1 with|none=>none|some x6=>match idx (An a2 (AE x0.1) (Bz (AN a2 (AE x0.1) 0) (AN a2 (AE x1.2.1) 0))) x1.2.1 with|none=>none|some x7=>some (.inl (a0,a1,(An (An a2 (AE x0.1) (Bz (AN a2 (AE x0.1) 0) (AN a2 (AE x1.2.1) 0))) (AE x1.2.1) (Bz (AN a2 (AE x0.1) 0) (AN a2 (AE x1.2.1) 0))),true,(IntKind.wrap .i64 (a4+1)),()))
 |false=>some (.inr (.inl (a0,a1,a2,a3,())))
abbrev Qe:AF:=[(.tmp 0,.di),(.tmp 1,.dat Uz),(.tmp 5,.own 3 U0),(.tmp 7,.dat .bool)]
abbrev Qb:A1:=[(.exit 2,[(.tmp 5,.own 3 U0)])]
def Dt[Lk]:Vk→Option (Vk⊕Ua⊕Unit):=fun(a0,a1,a2,a3,_)=>
 match a3 with
 |true=>match AT Cx many (a0,a1,a2,false,0,())with|none=>none|some r=>match r with
  |.inl (o0,o1,o2,o3,_)=>some (.inl (o0,o1,o2,o3,()))
  |.inr _=>none
 |false=>some (.inr (.inl (a2,())))
abbrev Qf:AF:=[(.tmp 0,.di),(.tmp 1,.dat Uz),(.tmp 5,.own 3 U0),(.tmp 6,.di)]
abbrev Qc:A1:=[(.exit 0,[(.tmp 0,.di),(.tmp 1,.dat Uz),(.tmp 5,.own 3 U0)])]
def Cy[Lk]:(Int×List U4×List Int×Int×Unit)→Option ((Int×List U4×List Int×Int×Unit)⊕(Int×List U4×List Int×Unit)⊕Unit):=fun(a0,a1,a2,a3,_)=>
 match(ilt a3 a0)with
 |true=>match(fits ((AM a2)+(AM ([a3]:List (Int)))))with
  |true=>some (.inl (a0,a1,(A8 a2 ([a3]:List (Int))),(IntKind.wrap .i64 (a3+1)),()))
  |false=>none
 |false=>some (.inr (.inl (a0,a1,a2,())))
def Io[Lk]:(Int×List U4×Unit)→Option (Ua):=fun(a0,a1,_)=>
 match AT Cy many (a0,a1,([]:List (Int)),0,())with|none=>none|some r=>match r with
 |.inl (o0,o1,o2,_)=>match AT Dt many (o0,o1,o2,true,())with|none=>none|some r=>match r with
  |.inl (o3,_)=>some (o3,())
  |.inr _=>none
 |.inr _=>none
def Cj[Lk]:=fun v=>Lk.f (Io v)
theorem Qg v:Cj v=Io v:=AI _
abbrev AEe:AF:=[(.tmp 0,.di)]
abbrev AEd:AF:=[(.tmp 0,.di)]
abbrev AEc:List RS:=[.one]
abbrev AIs:AF:=[(.tmp 3,.di),(.tmp 4,.di)]
abbrev AIr:A1:=[(.exit 0,[(.tmp 3,.di)])]
def XR[Lk]:U4→Option (U4⊕U9⊕Unit):=fun(a0,a1,_)=>
 match(ilt 0 a1)with
 |true=>match quo? .i64 a1 2 with|none=>none|some x0=>some (.inl ((IntKind.wrap .i64 (a0+1)),x0,()))
 |false=>some (.inr (.inl (a0,())))
def AEg[Lk]:U9→Option (U9):=fun(a0,_)=>
 match(ilt a0 1)with
 |true=>some (0,())
 |false=>match(ilt 64 a0)with
 |true=>some (0,())
 |false=>match AT XR many (0,(IntKind.wrap .i64 (a0-1)),())with|none=>none|some r=>match r with
 |.inl (o0,_)=>some (o0,())
 |.inr _=>none
def LG[Lk]:=fun v=>Lk.f (AEg v)
theorem AWs v:LG v=AEg v:=AI _
abbrev Rh:AF:=[(.tmp 0,.dat Ub)]
abbrev Rg:AF:=[(.tmp 0,.dat .bool)]
abbrev Rf:List RS:=[.one]
abbrev X2:AF:=[(.tmp 1,.box 2),(.cell 0 0,.di),(.cell 0 1,.dat Ul),(.tmp 3,.own 42 U6),(.tmp 6,.own 3 U0),(.tmp 7,.di),(.tmp 8,.di)]
abbrev X0:A1:=[(.exit 2,[(.tmp 1,.box 2),(.cell 0 0,.di),(.cell 0 1,.dat Ul),(.tmp 3,.own 42 U6),(.tmp 7,.di)])]
def DQ[Lk]:(Int×List U2×List U4×List Int×Int×Int×Unit)→Option ((Int×List U2×List U4×List Int×Int×Int×Unit)⊕V0⊕Unit):=fun(a0,a1,a2,a3,a4,a5,_)=>
 match(ilt a5 a0)with
 |true=>match idx a3 a5 with|none=>none|some x0=>match(ieq (AN a3 (AE a5) 0) a5)with
  |true=>some (.inl (a0,a1,a2,a3,(IntKind.wrap .i64 (a4+1)),(IntKind.wrap .i64 (a5+1)),()))
  |false=>some (.inl (a0,a1,a2,a3,a4,(IntKind.wrap .i64 (a5+1)),()))
 |false=>some (.inr (.inl (a0,a1,a2,a4,())))
abbrev X3:AF:=[(.tmp 1,.box 2),(.cell 0 0,.di),(.cell 0 1,.dat Ul),(.tmp 3,.own 42 U6),(.tmp 4,.di)]
abbrev X1:A1:=[(.ret,[(.tmp 2,.dat .bool)]),(.exit 0,[(.tmp 1,.box 2),(.cell 0 0,.di),(.cell 0 1,.dat Ul),(.tmp 3,.own 42 U6)])]
def Cq[Lk]:V0→Option (V0⊕Uf⊕(Int×List U2×List U4×Unit)⊕Unit):=fun(a0,a1,a2,a3,_)=>
 match(ilt a3 (AM a1))with
 |true=>match idx a1 a3 with|none=>none|some x0=>match(ilt x0.1 0)with
  |true=>some (.inr (.inl (false,())))
  |false=>match(ile x0.2.1 x0.1)with
  |true=>some (.inr (.inl (false,())))
  |false=>match(ile a0 x0.2.1)with
  |true=>some (.inr (.inl (false,())))
  |false=>match(ilt x0.2.2.1 0)with
  |true=>some (.inr (.inl (false,())))
  |false=>match LG (a0,())with|none=>none|some (y1,_)=>match(ilt y1 x0.2.2.1)with
  |true=>some (.inr (.inl (false,())))
  |false=>match(ilt 0 a3)with
  |true=>match idx a1 (IntKind.wrap .i64 (a3-1))with|none=>none|some x2=>match(ilt x0.1 x2.1)with
   |true=>some (.inr (.inl (false,())))
   |false=>match idx a1 (IntKind.wrap .i64 (a3-1))with|none=>none|some x3=>match(ieq x3.1 x0.1)with
   |true=>match idx a1 (IntKind.wrap .i64 (a3-1))with|none=>none|some x4=>match(ile x0.2.1 x4.2.1)with
    |true=>some (.inr (.inl (false,())))
    |false=>match x0.2.2.2.1 with
    |true=>match(fits ((AM a2)+(AM ([(x0.1,(x0.2.1,()))]:List U4))))with
     |true=>some (.inl (a0,a1,(A8 a2 ([(x0.1,(x0.2.1,()))]:List U4)),(IntKind.wrap .i64 (a3+1)),()))
     |false=>none
    |false=>some (.inl (a0,a1,a2,(IntKind.wrap .i64 (a3+1)),()))
   |false=>match x0.2.2.2.1 with
   |true=>match(fits ((AM a2)+(AM ([(x0.1,(x0.2.1,()))]:List U4))))with
    |true=>some (.inl (a0,a1,(A8 a2 ([(x0.1,(x0.2.1,()))]:List U4)),(IntKind.wrap .i64 (a3+1)),()))
    |false=>none
   |false=>some (.inl (a0,a1,a2,(IntKind.wrap .i64 (a3+1)),()))
  |false=>match x0.2.2.2.1 with
  |true=>match(fits ((AM a2)+(AM ([(x0.1,(x0.2.1,()))]:List U4))))with
   |true=>some (.inl (a0,a1,(A8 a2 ([(x0.1,(x0.2.1,()))]:List U4)),(IntKind.wrap .i64 (a3+1)),()))
   |false=>none
  |false=>some (.inl (a0,a1,a2,(IntKind.wrap .i64 (a3+1)),()))
 |false=>some (.inr (.inr (.inl (a0,a1,a2,()))))
def Ee[Lk]:(Ue×Unit)→Option (Uf):=fun(a0,_)=>
 match(ilt a0.1 1)with
 |true=>some (false,())
 |false=>match(ilt 64 a0.1)with
 |true=>some (false,())
 |false=>match(ilt 400 (AM a0.2.1))with
 |true=>some (false,())
 |false=>match AT Cq many (a0.1,a0.2.1,([]:List U4),0,())with|none=>none|some r=>match r with
 |.inl (o0,_)=>some (o0,())
 |.inr r=>match r with
 |.inl (o1,o2,o3,_)=>match Cj (o1,o3,())with|none=>none|some (y4,_)=>match AT DQ many (o1,o2,o3,y4,0,0,())with|none=>none|some r=>match r with
  |.inl (o5,o6,o7,o8,_)=>some ((ieq o8 (IntKind.wrap .i64 (o5-(AM o7)))),())
  |.inr _=>none
 |.inr _=>none
def DC[Lk]:=fun v=>Lk.f (Ee v)
theorem FT v:DC v=Ee v:=AI _
abbrev S1:AF:=[(.tmp 0,.dat Ub)]
abbrev S0:AF:=[(.tmp 0,.own 42 U6)]
abbrev Sy:List RS:=[.one]
abbrev AAF:AF:=[(.tmp 1,.box 2),(.cell 0 0,.di),(.cell 0 1,.dat Ul),(.tmp 3,.own 42 U6),(.tmp 4,.di)]
abbrev AAE:A1:=[(.exit 0,[(.tmp 3,.own 42 U6)])]
def ER[Lk]:V0→Option (V0⊕V8⊕Unit):=fun(a0,a1,a2,a3,_)=>
 match(ilt a3 (AM a1))with
 |true=>match idx a1 a3 with|none=>none|some x0=>match idx a1 a3 with|none=>none|some x1=>match(fits ((AM a2)+(AM ([(x0.1,(x1.2.1,()))]:List U4))))with
  |true=>some (.inl (a0,a1,(A8 a2 ([(x0.1,(x1.2.1,()))]:List U4)),(IntKind.wrap .i64 (a3+1)),()))
  |false=>none
 |false=>some (.inr (.inl (a2,())))
def NC[Lk]:(Ue×Unit)→Option (V8):=fun(a0,_)=>
 match DC ((a0.1,(a0.2.1,())),())with|none=>none|some (y0,_)=>match(!y0)with
 |true=>some (([]:List U4),())
 |false=>match AT ER many (a0.1,a0.2.1,([]:List U4),0,())with|none=>none|some r=>match r with
 |.inl (o1,_)=>some (o1,())
 |.inr _=>none
def Ik[Lk]:=fun v=>Lk.f (NC v)
theorem AAG v:Ik v=NC v:=AI _
def AQO[Lk]:U4→Option (Uf):=fun(a0,a1,_)=>
 match(ile 1 a0)with
 |true=>match(ile a0 64)with
  |true=>match(ile 0 a1)with
   |true=>some ((ilt a1 a0),())
   |false=>some (false,())
  |false=>some (false,())
 |false=>some (false,())
def ALZ[Lk]:=fun v=>Lk.f (AQO v)
theorem Abq v:ALZ v=AQO v:=AI _
def RT[Lk]:U4→Option ((Int×Int×Bool×Bool×Unit)):=fun(a0,a1,_)=>
 match ALZ (a0,a1,())with|none=>none|some (y0,_)=>match y0 with
 |true=>some (a1,0,false,true,())
 |false=>match(ilt a0 1)with
 |true=>some (0,0,false,false,())
 |false=>match(ilt 64 a0)with
 |true=>some (0,0,false,false,())
 |false=>match(ilt a1 a0)with
 |true=>some (0,0,false,false,())
 |false=>match(ile (IntKind.wrap .i64 (a0+(IntKind.wrap .i64 (a0*a0)))) a1)with
 |true=>some (0,0,false,false,())
 |false=>match quo? .i64 (IntKind.wrap .i64 (a1-a0)) a0 with|none=>none|some x1=>match rem? (IntKind.wrap .i64 (a1-a0)) a0 with|none=>none|some x2=>match(ieq x1 x2)with
 |true=>some (0,0,false,false,())
 |false=>some (x1,x2,true,true,())
def WS[Lk]:=fun v=>Lk.f (RT v)
theorem ANH v:WS v=RT v:=AI _
def AH3[Lk]:(Int×Int×Int×Unit)→Option (U9):=fun(a0,a1,a2,_)=>
 match ALZ (a0,a1,())with|none=>none|some (y0,_)=>match(!y0)with
 |true=>some ((-1:Int),())
 |false=>match ALZ (a0,a2,())with|none=>none|some (y1,_)=>match(!y1)with
 |true=>some ((-1:Int),())
 |false=>match(ieq a1 a2)with
 |true=>some ((-1:Int),())
 |false=>some ((IntKind.wrap .i64 ((IntKind.wrap .i64 (a0+(IntKind.wrap .i64 (a1*a0))))+a2)),())
def AMn[Lk]:=fun v=>Lk.f (AH3 v)
theorem AaE v:AMn v=AH3 v:=AI _
def JM[Lk]:(Int×Int×Int×List U3×Int×Unit)→Option ((Int×Int×Int×List U3×Int×Unit)⊕(Int×Int×List U3×Unit)⊕Unit):=fun(a0,a1,a2,a3,a4,_)=>
 match(ilt a4 a0)with
 |true=>match(fits ((AM a3)+(AM ([([a4]:List (Int))]:List U3))))with
  |true=>some (.inl (a0,a1,a2,(A8 a3 ([([a4]:List (Int))]:List U3)),(IntKind.wrap .i64 (a4+1)),()))
  |false=>none
 |false=>some (.inr (.inl (a1,a2,a3,())))
def ZJ[Lk]:U9→Option (Uy):=fun(a0,_)=>
 match(ilt a0 1)with
 |true=>some (0,([]:List U3),1,())
 |false=>match(ilt 64 a0)with
 |true=>some (0,([]:List U3),1,())
 |false=>match AT JM many (a0,0,a0,([]:List U3),0,())with|none=>none|some r=>match r with
 |.inl (o0,o1,o2,_)=>some (o1,o2,0,())
 |.inr _=>none
def AGU[Lk]:=fun v=>Lk.f (ZJ v)
theorem AUv v:AGU v=ZJ v:=AI _
def N7[Lk]:(Int×Int×Int×Unit)→Option (Uf):=fun(a0,a1,a2,_)=>
 match WS (a0,a1,())with|none=>none|some (y0,y1,y2,y3,_)=>match y3 with
 |true=>match(!y2)with
  |true=>match(ieq y0 a2)with
   |true=>some (true,())
   |false=>match y2 with
   |true=>some ((ieq y1 a2),())
   |false=>some (false,())
  |false=>match y2 with
  |true=>some ((ieq y1 a2),())
  |false=>some (false,())
 |false=>some (false,())
def XV[Lk]:=fun v=>Lk.f (N7 v)
theorem AI0 v:XV v=N7 v:=AI _
def JD[Lk]:Uv→Option (Uv⊕(Int×Int×List Int×Bool×Bool×Bool×Bool×Int×Int×Bool×Int×Int×Int×Int×Int×Bool×Int×List Int×Int×Int×Int×Int×Int×Int×Int×Int×Bool×Unit)⊕Unit):=fun(a0,a1,a2,a3,a4,a5,a6,a7,a8,a9,a10,a11,a12,a13,a14,a15,a16,a17,a18,a19,a20,a21,a22,a23,a24,a25,a26,a27,_)=>
 match(ilt a4 (AM a1))with
 |true=>match rem? (IntKind.wrap .i64 (a2+a4)) (AM a1)with|none=>none|some x0=>match idx a1 x0 with|none=>none|some x1=>match(fits ((AM a3)+(AM ([(AN a1 (AE x0) 0)]:List (Int)))))with
  |true=>some (.inl (a0,a1,a2,(A8 a3 ([(AN a1 (AE x0) 0)]:List (Int))),(IntKind.wrap .i64 (a4+1)),a5,a6,a7,a8,a9,a10,a11,a12,a13,a14,a15,a16,a17,a18,a19,a20,a21,a22,a23,a24,a25,a26,a27,()))
  |false=>none
 |false=>some (.inr (.inl (a0,a2,a3,a5,a6,a7,a8,a9,a10,a11,a12,a13,a14,a15,a16,a17,a18,a1,a19,a20,a21,a22,a23,a24,a25,a26,a27,())))
def Df[Lk]:(Int×List Int×Bool×Int×Unit)→Option ((Int×List Int×Bool×Int×Unit)⊕(Int×List Int×Bool×Unit)⊕Unit):=fun(a0,a1,a2,a3,_)=>
 match(ilt a3 (AM a1))with
 |true=>match(!a2)with
  |true=>match idx a1 a3 with|none=>none|some x0=>match rem? (IntKind.wrap .i64 (a3+1)) (AM a1)with|none=>none|some x1=>match idx a1 x1 with|none=>none|some x2=>match rem? (IntKind.wrap .i64 (a3+2)) (AM a1)with|none=>none|some x3=>match idx a1 x3 with|none=>none|some x4=>match WS (a0,(AN a1 (AE a3) 0),())with|none=>none|some (y5,y6,y7,y8,_)=>match(ile 4 (AM a1))with
   |true=>match y8 with
    |true=>match y7 with
     |true=>match(ieq (AN a1 (AE x1) 0) y6)with
      |true=>match AMn (a0,y6,y5,())with|none=>none|some (y9,_)=>match(ieq (AN a1 (AE x3) 0) y9)with
       |true=>match rem? (IntKind.wrap .i64 ((IntKind.wrap .i64 (a3+(AM a1)))-1)) (AM a1)with|none=>none|some x10=>match idx a1 x10 with|none=>none|some x11=>match XV (a0,(AN a1 (AE x10) 0),y5,())with|none=>none|some (y12,_)=>match y12 with
        |true=>match AT JD many (a0,a1,a3,([]:List (Int)),3,a2,(!a2),y8,y7,(AN a1 (AE x1) 0),y6,(ieq (AN a1 (AE x1) 0) y6),(AN a1 (AE x3) 0),a0,y6,y5,y9,(ieq (AN a1 (AE x3) 0) y9),a0,a3,(AM a1),(IntKind.wrap .i64 (a3+(AM a1))),(IntKind.wrap .i64 ((IntKind.wrap .i64 (a3+(AM a1)))-1)),(AM a1),x10,(AN a1 (AE x10) 0),y5,y12,())with|none=>none|some r=>match r with
         |.inl (o13,o14,o15,o16,o17,o18,o19,o20,o21,o22,o23,o24,o25,o26,o27,o28,o29,o30,o31,o32,o33,o34,o35,o36,o37,o38,o39,_)=>some (.inl (o13,o15,true,(IntKind.wrap .i64 (o14+1)),()))
         |.inr _=>none
        |false=>some (.inl (a0,a1,a2,(IntKind.wrap .i64 (a3+1)),()))
       |false=>some (.inl (a0,a1,a2,(IntKind.wrap .i64 (a3+1)),()))
      |false=>some (.inl (a0,a1,a2,(IntKind.wrap .i64 (a3+1)),()))
     |false=>some (.inl (a0,a1,a2,(IntKind.wrap .i64 (a3+1)),()))
    |false=>some (.inl (a0,a1,a2,(IntKind.wrap .i64 (a3+1)),()))
   |false=>some (.inl (a0,a1,a2,(IntKind.wrap .i64 (a3+1)),()))
  |false=>some (.inr (.inl (a0,a1,a2,())))
 |false=>some (.inr (.inl (a0,a1,a2,())))
def Me[Lk]:Vf→Option (Vf⊕Uf⊕Vf⊕Unit):=fun(a0,a1,_)=>
 match(ilt 1 (AM a1))with
 |true=>match AT Df many (a0,a1,false,0,())with|none=>none|some r=>match r with
  |.inl (o0,o1,o2,_)=>match(!o2)with
   |true=>some (.inr (.inl (false,())))
   |false=>some (.inl (o0,o1,()))
  |.inr _=>none
 |false=>some (.inr (.inr (.inl (a0,a1,()))))
def XN[Lk]:Vf→Option (Uf):=fun(a0,a1,_)=>
 match(fits ((AM ([]:List (Int)))+(AM a1)))with
 |true=>match AT Me many (a0,(A8 ([]:List (Int)) a1),())with|none=>none|some r=>match r with
  |.inl (o0,_)=>some (o0,())
  |.inr r=>match r with
  |.inl (o1,o2,_)=>match(ieq (AM o2) 1)with
   |true=>match idx o2 0 with|none=>none|some x3=>match ALZ (o1,(AN o2 0 0),())with|none=>none|some (y4,_)=>some (y4,())
   |false=>some (false,())
  |.inr _=>none
 |false=>none
def ANE[Lk]:=fun v=>Lk.f (XN v)
theorem ATQ v:ANE v=XN v:=AI _
def Hg[Lk]:Uc→Option (Uc⊕U9⊕(Unit)⊕Unit):=fun(a0,a1,a2,_)=>
 match(ilt a2 (AM a0))with
 |true=>match idx a0 a2 with|none=>none|some x0=>match(ieq x0 a1)with
  |true=>some (.inr (.inl (a2,())))
  |false=>some (.inl (a0,a1,(IntKind.wrap .i64 (a2+1)),()))
 |false=>some (.inr (.inr (.inl ())))
def Rq[Lk]:Un→Option (U9):=fun(a0,a1,_)=>
 match AT Hg many (a0,a1,0,())with|none=>none|some r=>match r with
 |.inl (o0,_)=>some (o0,())
 |.inr r=>match r with
 |.inl _=>some ((-1:Int),())
 |.inr _=>none
def Mj[Lk]:=fun v=>Lk.f (Rq v)
theorem AOb v:Mj v=Rq v:=AI _
def FU[Lk]:Un→Option (Un⊕Uf⊕(Unit)⊕Unit):=fun(a0,a1,_)=>
 match(ilt a1 (AM a0))with
 |true=>match idx a0 a1 with|none=>none|some x0=>match(ilt x0 0)with
  |true=>some (.inr (.inl (false,())))
  |false=>match idx a0 a1 with|none=>none|some x1=>match(ilt 10000 x1)with
  |true=>some (.inr (.inl (false,())))
  |false=>match CH a0 0 a1 with|none=>none|some x2=>match idx a0 a1 with|none=>none|some x3=>match Mj (x2,x3,())with|none=>none|some (y4,_)=>match(ile 0 y4)with
  |true=>some (.inr (.inl (false,())))
  |false=>some (.inl (a0,(IntKind.wrap .i64 (a1+1)),()))
 |false=>some (.inr (.inr (.inl ())))
def Rj[Lk]:Ua→Option (Uf):=fun(a0,_)=>
 match(ilt 1000 (AM a0))with
 |true=>some (false,())
 |false=>match AT FU many (a0,0,())with|none=>none|some r=>match r with
 |.inl (o0,_)=>some (o0,())
 |.inr r=>match r with
 |.inl _=>some (true,())
 |.inr _=>none
def PS[Lk]:=fun v=>Lk.f (Rj v)
theorem AN2 v:PS v=Rj v:=AI _
def Z1[Lk]:Un→Option (Ve):=fun(a0,a1,_)=>
 match Mj (a0,a1,())with|none=>none|some (y0,_)=>match PS (a0,())with|none=>none|some (y1,_)=>match(!y1)with
 |true=>some (([]:List (Int)),false,())
 |false=>match(ilt y0 0)with
 |true=>some (([]:List (Int)),false,())
 |false=>match CH a0 y0 (AM a0)with|none=>none|some x2=>match(fits ((AM ([]:List (Int)))+(AM x2)))with
 |true=>match CH a0 0 y0 with|none=>none|some x3=>match(fits ((AM (A8 ([]:List (Int)) x2))+(AM x3)))with
  |true=>some ((A8 (A8 ([]:List (Int)) x2) x3),true,())
  |false=>none
 |false=>none
def Z2[Lk]:=fun v=>Lk.f (Z1 v)
theorem AVs v:Z2 v=Z1 v:=AI _
def He[Lk]:Uc→Option (Uc⊕Un⊕Unit):=fun(a0,a1,a2,_)=>
 match(ilt a2 (AM a0))with
 |true=>match idx a0 a2 with|none=>none|some x0=>some (.inl (a0,(Bz a1 x0),(IntKind.wrap .i64 (a2+1)),()))
 |false=>some (.inr (.inl (a0,a1,())))
def Ro[Lk]:Ua→Option (Ua):=fun(a0,_)=>
 match PS (a0,())with|none=>none|some (y0,_)=>match(!y0)with
 |true=>some (([]:List (Int)),())
 |false=>match(ieq (AM a0) 0)with
 |true=>some (([]:List (Int)),())
 |false=>match idx a0 0 with|none=>none|some x1=>match AT He many (a0,x1,0,())with|none=>none|some r=>match r with
 |.inl (o2,o3,_)=>match Z2 (o2,o3,())with|none=>none|some (y4,y5,_)=>some (y4,())
 |.inr _=>none
def We[Lk]:=fun v=>Lk.f (Ro v)
theorem AOW v:We v=Ro v:=AI _
def Fe[Lk]:(List U3×List U3×Int×Unit)→Option ((List U3×List U3×Int×Unit)⊕Uf⊕(Unit)⊕Unit):=fun(a0,a1,a2,_)=>
 match(ilt a2 (AM a0))with
 |true=>match idx a0 a2 with|none=>none|some x0=>match idx a1 a2 with|none=>none|some x1=>match Si (x0,x1,())with|none=>none|some (y2,_)=>match(!y2)with
  |true=>some (.inr (.inl (false,())))
  |false=>some (.inl (a0,a1,(IntKind.wrap .i64 (a2+1)),()))
 |false=>some (.inr (.inr (.inl ())))
def Sa[Lk]:(List U3×List U3×Unit)→Option (Uf):=fun(a0,a1,_)=>
 match(!(ieq (AM a0) (AM a1)))with
 |true=>some (false,())
 |false=>match AT Fe many (a0,a1,0,())with|none=>none|some r=>match r with
 |.inl (o0,_)=>some (o0,())
 |.inr r=>match r with
 |.inl _=>some (true,())
 |.inr _=>none
def AGZ[Lk]:=fun v=>Lk.f (Sa v)
theorem APt v:AGZ v=Sa v:=AI _
def EJ[Lk]:Ut→Option (Ut⊕Uf⊕(Int×List U3×List Bool×Int×Int×Int×List Int×Int×Bool×Int×List Int×Bool×Bool×List Int×List Int×List U3×List Int×List U3×Bool×Bool×List Int×Int×Int×Bool×Unit)⊕Unit):=fun(a0,a1,a2,a3,a4,a5,a6,a7,a8,a9,a10,a11,a12,a13,a14,a15,a16,a17,a18,a19,a20,a21,a22,a23,a24,a25,_)=>
 match(ilt a7 (AM a6))with
 |true=>match idx a6 a7 with|none=>none|some x0=>match(ilt x0 a0)with
  |true=>match idx a6 a7 with|none=>none|some x1=>match idx a2 x1 with|none=>none|some x2=>match(AN a2 (AE x1) false)with
   |true=>some (.inr (.inl (false,())))
   |false=>match idx a6 a7 with|none=>none|some x3=>match idx a2 x3 with|none=>none|some x4=>some (.inl (a0,a1,(An a2 (AE x3) true),a3,(IntKind.wrap .i64 (a4+1)),a5,a6,(IntKind.wrap .i64 (a7+1)),a8,a9,a10,a11,a12,a13,a14,a15,a16,a17,a18,a19,a20,a21,a22,a23,a24,a25,()))
  |false=>some (.inl (a0,a1,a2,a3,a4,a5,a6,(IntKind.wrap .i64 (a7+1)),a8,a9,a10,a11,a12,a13,a14,a15,a16,a17,a18,a19,a20,a21,a22,a23,a24,a25,()))
 |false=>some (.inr (.inr (.inl (a0,a1,a2,a3,a4,a5,a8,a9,a10,a11,a12,a13,a14,a15,a16,a17,a18,a19,a20,a21,a22,a23,a24,a25,()))))
def EK[Lk]:(Int×List U3×List Bool×Int×Int×Int×Unit)→Option ((Int×List U3×List Bool×Int×Int×Int×Unit)⊕Uf⊕Uy⊕Unit):=fun(a0,a1,a2,a3,a4,a5,_)=>
 match(ilt a5 (AM a1))with
 |true=>match idx a1 a5 with|none=>none|some x0=>match PS (x0,())with|none=>none|some (y1,_)=>match(!y1)with
  |true=>some (.inr (.inl (false,())))
  |false=>match(ieq (AM x0) 0)with
  |true=>some (.inr (.inl (false,())))
  |false=>match ANE (a0,x0,())with|none=>none|some (y2,_)=>match(!y2)with
  |true=>some (.inr (.inl (false,())))
  |false=>match We (x0,())with|none=>none|some (y3,_)=>match AGZ (([y3]:List U3),([x0]:List U3),())with|none=>none|some (y4,_)=>match(!y4)with
  |true=>some (.inr (.inl (false,())))
  |false=>match idx x0 0 with|none=>none|some x5=>match(ile x5 a3)with
  |true=>some (.inr (.inl (false,())))
  |false=>match idx x0 0 with|none=>none|some x6=>match AT EJ many (a0,a1,a2,x6,a4,a5,x0,0,x0,(AM x0),(ieq (AM x0) 0),a0,x0,y2,(!y2),x0,y3,([y3]:List U3),x0,([x0]:List U3),y4,(!y4),x0,x5,a3,(ile x5 a3),())with|none=>none|some r=>match r with
  |.inl (o7,_)=>some (.inr (.inl (o7,())))
  |.inr r=>match r with
  |.inl (o8,o9,o10,o11,o12,o13,o14,o15,o16,o17,o18,o19,o20,o21,o22,o23,o24,o25,o26,o27,o28,o29,o30,o31,_)=>some (.inl (o8,o9,o10,o11,o12,(IntKind.wrap .i64 (o13+1)),()))
  |.inr _=>none
 |false=>some (.inr (.inr (.inl (a0,a1,a4,()))))
def Ri[Lk]:(Uh×Unit)→Option (Uf):=fun(a0,_)=>
 match(ilt a0.1 1)with
 |true=>some (false,())
 |false=>match(ilt 64 a0.1)with
 |true=>some (false,())
 |false=>match(ilt a0.1 (AM a0.2.1))with
 |true=>some (false,())
 |false=>match(Kz a0.1&&Kz a0.1&&ile a0.1 a0.1&&true)with
 |true=>match AT EK many (a0.1,a0.2.1,(JY (AE a0.1) false),(-1:Int),(0:Int),(0:Int),())with|none=>none|some r=>match r with
  |.inl (o0,_)=>some (o0,())
  |.inr r=>match r with
  |.inl (o1,o2,o3,_)=>some ((ieq o3 o1),())
  |.inr _=>none
 |false=>none
def Wa[Lk]:=fun v=>Lk.f (Ri v)
theorem AN1 v:Wa v=Ri v:=AI _
def Hf[Lk]:(Int×Int×List U3×Int×Unit)→Option ((Int×Int×List U3×Int×Unit)⊕U9⊕(Unit)⊕Unit):=fun(a0,a1,a2,a3,_)=>
 match(ilt a3 (AM a2))with
 |true=>match idx a2 a3 with|none=>none|some x0=>match Mj (x0,a0,())with|none=>none|some (y1,_)=>match(ile 0 y1)with
  |true=>some (.inr (.inl (a3,())))
  |false=>some (.inl (a0,a1,a2,(IntKind.wrap .i64 (a3+1)),()))
 |false=>some (.inr (.inr (.inl ())))
def Rp[Lk]:Va→Option (U9):=fun(a0,a1,_)=>
 match AT Hf many (a1,a0.1,a0.2.1,0,())with|none=>none|some r=>match r with
 |.inl (o0,_)=>some (o0,())
 |.inr r=>match r with
 |.inl _=>some ((-1:Int),())
 |.inr _=>none
def Mi[Lk]:=fun v=>Lk.f (Rp v)
theorem AOa v:Mi v=Rp v:=AI _
def LR[Lk]:(List U3×List Int×Int×Unit)→Option ((List U3×List Int×Int×Unit)⊕(List U3×List Int×Int×Unit)⊕Unit):=fun(a0,a1,a2,_)=>
 match(ilt a2 (AM a0))with
 |true=>match idx a0 a2 with|none=>none|some x0=>match idx x0 0 with|none=>none|some x1=>match idx a1 0 with|none=>none|some x2=>match(ilt x1 (AN a1 0 0))with
  |true=>some (.inl (a0,a1,(IntKind.wrap .i64 (a2+1)),()))
  |false=>some (.inr (.inl (a0,a1,a2,())))
 |false=>some (.inr (.inl (a0,a1,a2,())))
def AFR[Lk]:(List U3×List Int×Unit)→Option (Uk):=fun(a0,a1,_)=>
 match We (a1,())with|none=>none|some (y0,_)=>match AT LR many (a0,y0,0,())with|none=>none|some r=>match r with
 |.inl (o1,o2,o3,_)=>match CH o1 0 o3 with|none=>none|some x4=>match(fits ((AM ([]:List U3))+(AM x4)))with
  |true=>match(fits ((AM (A8 ([]:List U3) x4))+(AM ([o2]:List U3))))with
   |true=>match CH o1 o3 (AM o1)with|none=>none|some x5=>match(fits ((AM (A8 (A8 ([]:List U3) x4) ([o2]:List U3)))+(AM x5)))with
    |true=>some ((A8 (A8 (A8 ([]:List U3) x4) ([o2]:List U3)) x5),())
    |false=>none
   |false=>none
  |false=>none
 |.inr _=>none
def AR2[Lk]:=fun v=>Lk.f (AFR v)
theorem AXg v:AR2 v=AFR v:=AI _
def LA[Lk]:Vb→Option (Uk):=fun(a0,a1,_)=>
 match CH a0 0 a1 with|none=>none|some x0=>match(fits ((AM ([]:List U3))+(AM x0)))with
 |true=>match CH a0 (IntKind.wrap .i64 (a1+1)) (AM a0)with|none=>none|some x1=>match(fits ((AM (A8 ([]:List U3) x0))+(AM x1)))with
  |true=>some ((A8 (A8 ([]:List U3) x0) x1),())
  |false=>none
 |false=>none
def HE[Lk]:=fun v=>Lk.f (LA v)
theorem AEH v:HE v=LA v:=AI _
def JO[Lk]:(Uh×Int×Int×Unit)→Option (Uy):=fun(a0,a1,a2,_)=>
 match Wa ((a0.1,(a0.2.1,())),())with|none=>none|some (y0,_)=>match(!y0)with
 |true=>some (a0.1,a0.2.1,1,())
 |false=>match ALZ (a0.1,a1,())with|none=>none|some (y1,_)=>match(!y1)with
 |true=>some (a0.1,a0.2.1,10,())
 |false=>match ALZ (a0.1,a2,())with|none=>none|some (y2,_)=>match(!y2)with
 |true=>some (a0.1,a0.2.1,10,())
 |false=>match Mi ((a0.1,(a0.2.1,())),a1,())with|none=>none|some (y3,_)=>match Mi ((a0.1,(a0.2.1,())),a2,())with|none=>none|some (y4,_)=>match(ieq y3 y4)with
 |true=>some (a0.1,a0.2.1,5,())
 |false=>match Mi ((a0.1,(a0.2.1,())),a1,())with|none=>none|some (y5,_)=>match Mi ((a0.1,(a0.2.1,())),a2,())with|none=>none|some (y6,_)=>match idx a0.2.1 y5 with|none=>none|some x7=>match Z2 (x7,a1,())with|none=>none|some (y8,y9,_)=>match idx a0.2.1 y6 with|none=>none|some x10=>match Z2 (x10,a2,())with|none=>none|some (y11,y12,_)=>match AMn (a0.1,a1,a2,())with|none=>none|some (y13,_)=>match(fits ((AM ([a1,y13]:List (Int)))+(AM y11)))with
 |true=>match AMn (a0.1,a2,a1,())with|none=>none|some (y14,_)=>match(fits ((AM (A8 ([a1,y13]:List (Int)) y11))+(AM ([y14]:List (Int)))))with
  |true=>match CH y8 1 (AM y8)with|none=>none|some x15=>match(fits ((AM (A8 (A8 ([a1,y13]:List (Int)) y11) ([y14]:List (Int))))+(AM (Da 1 (AE (AM x15)) y8))))with
   |true=>match HE (a0.2.1,(imax y5 y6),())with|none=>none|some (y16,_)=>match HE (y16,(Bz y5 y6),())with|none=>none|some (y17,_)=>match AR2 (y17,(A8 (A8 (A8 ([a1,y13]:List (Int)) y11) ([y14]:List (Int))) (Da 1 (AE (AM x15)) y8)),())with|none=>none|some (y18,_)=>some (a0.1,y18,0,())
   |false=>none
  |false=>none
 |false=>none
def Sc[Lk]:=fun v=>Lk.f (JO v)
theorem M5 v:Sc v=JO v:=AI _
abbrev Xn:AF:=[(.tmp 0,.dat Uz),(.tmp 1,.dat Uz)]
abbrev Xm:AF:=[(.tmp 0,.dat .bool)]
abbrev Xl:List RS:=[.one]
abbrev AC5:AF:=[(.tmp 0,.dat Uz),(.tmp 1,.dat Uz),(.tmp 5,.di)]
abbrev AC4:A1:=[(.ret,[(.tmp 4,.dat .bool)]),(.exit 0,[])]
def FQ[Lk]:(List U4×List U4×Int×Unit)→Option ((List U4×List U4×Int×Unit)⊕Uf⊕(Unit)⊕Unit):=fun(a0,a1,a2,_)=>
 match(ilt a2 (AM a0))with
 |true=>match idx a0 a2 with|none=>none|some x0=>match idx a1 a2 with|none=>none|some x1=>match(!(ieq x0.1 x1.1&&(ieq x0.2.1 x1.2.1&&true)))with
  |true=>some (.inr (.inl (false,())))
  |false=>some (.inl (a0,a1,(IntKind.wrap .i64 (a2+1)),()))
 |false=>some (.inr (.inr (.inl ())))
def PN[Lk]:(List U4×List U4×Unit)→Option (Uf):=fun(a0,a1,_)=>
 match(!(ieq (AM a0) (AM a1)))with
 |true=>some (false,())
 |false=>match AT FQ many (a0,a1,0,())with|none=>none|some r=>match r with
 |.inl (o0,_)=>some (o0,())
 |.inr r=>match r with
 |.inl _=>some (true,())
 |.inr _=>none
def Re[Lk]:=fun v=>Lk.f (PN v)
theorem AC6 v:Re v=PN v:=AI _
abbrev AWw:AF:=[(.tmp 0,.dat Uo),(.tmp 1,.di)]
abbrev AWv:AF:=[(.tmp 0,.di)]
abbrev AWu:List RS:=[.one]
def ARl[Lk]:Va→Option (U9):=fun(a0,a1,_)=>
 match tin (a0.1,a1,())with|none=>none|some (y0,_)=>match(!y0)with
 |true=>some ((-1:Int),())
 |false=>match N3 ((a0.1,(a0.2.1,())),())with|none=>none|some (y1,_)=>match(!y1)with
 |true=>some ((-1:Int),())
 |false=>match N4 ((a0.1,(a0.2.1,())),a1,())with|none=>none|some (y2,_)=>some (y2,())
def tof[Lk]:=fun v=>Lk.f (ARl v)
theorem AWx v:tof v=ARl v:=AI _
def HZ[Lk]:(List U4×Int×List U3×Int×Unit)→Option ((List U4×Int×List U3×Int×Unit)⊕U9⊕(Unit)⊕Unit):=fun(a0,a1,a2,a3,_)=>
 match(ilt a3 (AM a0))with
 |true=>match idx a0 a3 with|none=>none|some x0=>match(ilt x0.1 0)with
  |true=>some (.inr (.inl (10,())))
  |false=>match idx a0 a3 with|none=>none|some x1=>match(ile a1 x1.1)with
  |true=>some (.inr (.inl (10,())))
  |false=>match idx a0 a3 with|none=>none|some x2=>match(ilt x2.2.1 0)with
  |true=>some (.inr (.inl (10,())))
  |false=>match idx a0 a3 with|none=>none|some x3=>match(ile a1 x3.2.1)with
  |true=>some (.inr (.inl (10,())))
  |false=>some (.inl (a0,a1,a2,(IntKind.wrap .i64 (a3+1)),()))
 |false=>some (.inr (.inr (.inl ())))
def RU[Lk]:(Uh×List U4×Unit)→Option (U9):=fun(a0,a1,_)=>
 match Wa ((a0.1,(a0.2.1,())),())with|none=>none|some (y0,_)=>match(!y0)with
 |true=>some (1,())
 |false=>match AT HZ many (a1,a0.1,a0.2.1,0,())with|none=>none|some r=>match r with
 |.inl (o1,_)=>some (o1,())
 |.inr r=>match r with
 |.inl _=>some (0,())
 |.inr _=>none
def AEp[Lk]:=fun v=>Lk.f (RU v)
theorem ANL v:AEp v=RU v:=AI _
def Ho[Lk]:(List U4×Int×List U3×Int×List Bool×Int×Unit)→Option ((List U4×Int×List U3×Int×List Bool×Int×Unit)⊕(Int×List U3×Int×List Bool×Unit)⊕Unit):=fun(a0,a1,a2,a3,a4,a5,_)=>
 match(ilt a5 (AM a0))with
 |true=>match idx a0 a5 with|none=>none|some x0=>match idx a0 a5 with|none=>none|some x1=>match Sc ((a1,(a2,())),x0.1,x1.2.1,())with|none=>none|some (y2,y3,y4,_)=>match(fits ((AM a4)+(AM ([(ieq y4 0)]:List (Bool)))))with
  |true=>some (.inl (a0,y2,y3,a3,(A8 a4 ([(ieq y4 0)]:List (Bool))),(IntKind.wrap .i64 (a5+1)),()))
  |false=>none
 |false=>some (.inr (.inl (a1,a2,a3,a4,())))
def Sb[Lk]:(Uh×List U4×Unit)→Option ((Uh×List Bool×Int×Unit)):=fun(a0,a1,_)=>
 match AEp ((a0.1,(a0.2.1,())),a1,())with|none=>none|some (y0,_)=>match(!(ieq y0 0))with
 |true=>some ((a0.1,(a0.2.1,())),([]:List (Bool)),y0,())
 |false=>match AT Ho many (a1,a0.1,a0.2.1,0,([]:List (Bool)),0,())with|none=>none|some r=>match r with
 |.inl (o1,o2,o3,o4,_)=>some ((o1,(o2,())),o4,0,())
 |.inr _=>none
def AGa[Lk]:=fun v=>Lk.f (Sb v)
theorem APv v:AGa v=Sb v:=AI _
def APO[Lk]:(Int×List U4×Unit)→Option (Va):=fun(a0,a1,_)=>
 match AGU (a0,())with|none=>none|some (y0,y1,y2,_)=>match(!(ieq y2 0))with
 |true=>some ((0,(([]:List U3),())),y2,())
 |false=>match AGa ((y0,(y1,())),a1,())with|none=>none|some (y3,y4,y5,_)=>match(!(ieq y5 0))with
 |true=>some ((0,(([]:List U3),())),y5,())
 |false=>some ((y3.1,(y3.2.1,())),0,())
def Ac6[Lk]:=fun v=>Lk.f (APO v)
theorem AbN v:Ac6 v=APO v:=AI _
abbrev Z8:AF:=[(.tmp 0,.dat Ub),(.tmp 1,.di),(.tmp 2,.di)]
abbrev Z7:AF:=[(.tmp 0,.di)]
abbrev Z6:List RS:=[.one]
abbrev ADm:AF:=[(.tmp 1,.di),(.tmp 2,.di),(.tmp 3,.box 2),(.cell 0 0,.di),(.cell 0 1,.dat Ul),(.tmp 7,.di)]
abbrev ADl:A1:=[(.ret,[(.tmp 6,.di)]),(.exit 0,[])]
def Fs[Lk]:(Int×Int×Int×List U2×Int×Unit)→Option ((Int×Int×Int×List U2×Int×Unit)⊕U9⊕(Unit)⊕Unit):=fun(a0,a1,a2,a3,a4,_)=>
 match(ilt a4 (AM a3))with
 |true=>match idx a3 a4 with|none=>none|some x0=>match(ieq x0.1 (Bz a0 a1))with
  |true=>match idx a3 a4 with|none=>none|some x1=>match(ieq x1.2.1 (imax a0 a1))with
   |true=>some (.inr (.inl (a4,())))
   |false=>some (.inl (a0,a1,a2,a3,(IntKind.wrap .i64 (a4+1)),()))
  |false=>some (.inl (a0,a1,a2,a3,(IntKind.wrap .i64 (a4+1)),()))
 |false=>some (.inr (.inr (.inl ())))
def QO[Lk]:V3→Option (U9):=fun(a0,a1,a2,_)=>
 match DC ((a0.1,(a0.2.1,())),())with|none=>none|some (y0,_)=>match(!y0)with
 |true=>some ((-1:Int),())
 |false=>match AT Fs many (a1,a2,a0.1,a0.2.1,0,())with|none=>none|some r=>match r with
 |.inl (o1,_)=>some (o1,())
 |.inr r=>match r with
 |.inl _=>some ((-1:Int),())
 |.inr _=>none
def Sv[Lk]:=fun v=>Lk.f (QO v)
theorem ADn v:Sv v=QO v:=AI _
abbrev RP:AF:=[(.tmp 0,.dat Ub),(.tmp 1,.di)]
abbrev RO:AF:=[(.tmp 0,.own 42 U6)]
abbrev RN:List RS:=[.one]
abbrev XL:AF:=[(.tmp 1,.di),(.tmp 2,.box 2),(.cell 0 0,.di),(.cell 0 1,.dat Ul),(.tmp 5,.own 42 U6),(.tmp 6,.di)]
abbrev XK:A1:=[(.exit 0,[(.tmp 5,.own 42 U6)])]
def EF[Lk]:(Int×Int×List U2×List U4×Int×Unit)→Option ((Int×Int×List U2×List U4×Int×Unit)⊕V8⊕Unit):=fun(a0,a1,a2,a3,a4,_)=>
 match(ilt a4 (AM a2))with
 |true=>match idx a2 a4 with|none=>none|some x0=>match x0.2.2.2.1 with
  |true=>match idx a2 a4 with|none=>none|some x1=>match(ile a0 x1.2.2.1)with
   |true=>match idx a2 a4 with|none=>none|some x2=>match idx a2 a4 with|none=>none|some x3=>match(fits ((AM a3)+(AM ([(x2.1,(x3.2.1,()))]:List U4))))with
    |true=>some (.inl (a0,a1,a2,(A8 a3 ([(x2.1,(x3.2.1,()))]:List U4)),(IntKind.wrap .i64 (a4+1)),()))
    |false=>none
   |false=>some (.inl (a0,a1,a2,a3,(IntKind.wrap .i64 (a4+1)),()))
  |false=>some (.inl (a0,a1,a2,a3,(IntKind.wrap .i64 (a4+1)),()))
 |false=>some (.inr (.inl (a3,())))
def Md[Lk]:(Ue×Int×Unit)→Option (V8):=fun(a0,a1,_)=>
 match AT EF many (a1,a0.1,a0.2.1,([]:List U4),0,())with|none=>none|some r=>match r with
 |.inl (o0,_)=>some (o0,())
 |.inr _=>none
def IP[Lk]:=fun v=>Lk.f (Md v)
theorem XM v:IP v=Md v:=AI _
def Oh[Lk]:(Ue×Int×Unit)→Option (Va):=fun(a0,a1,_)=>
 match DC ((a0.1,(a0.2.1,())),())with|none=>none|some (y0,_)=>match(!y0)with
 |true=>some ((0,(([]:List U3),())),1,())
 |false=>match IP ((a0.1,(a0.2.1,())),a1,())with|none=>none|some (y1,_)=>match Ac6 (a0.1,y1,())with|none=>none|some (y2,y3,_)=>some ((y2.1,(y2.2.1,())),y3,())
def AL3[Lk]:=fun v=>Lk.f (Oh v)
theorem AL2 v:AL3 v=Oh v:=AI _
abbrev Xj:AF:=[(.tmp 0,.dat Ub),(.tmp 1,.dat Ub)]
abbrev Xi:AF:=[(.tmp 0,.dat .bool)]
abbrev Xh:List RS:=[.one]
abbrev AC2:AF:=[(.tmp 2,.box 2),(.cell 0 0,.di),(.cell 0 1,.dat Ul),(.tmp 3,.box 2),(.cell 1 0,.di),(.cell 1 1,.dat Ul),(.tmp 5,.di)]
abbrev AC1:A1:=[(.ret,[(.tmp 4,.dat .bool)]),(.exit 0,[])]
def Ec[Lk]:(Int×List U2×Int×List U2×Int×Unit)→Option ((Int×List U2×Int×List U2×Int×Unit)⊕Uf⊕(Unit)⊕Unit):=fun(a0,a1,a2,a3,a4,_)=>
 match(ilt a4 (AM a1))with
 |true=>match idx a1 a4 with|none=>none|some x0=>match idx a3 a4 with|none=>none|some x1=>match(!(ieq x0.1 x1.1&&(ieq x0.2.1 x1.2.1&&(ieq x0.2.2.1 x1.2.2.1&&((x0.2.2.2.1==x1.2.2.2.1)&&true)))))with
  |true=>some (.inr (.inl (false,())))
  |false=>some (.inl (a0,a1,a2,a3,(IntKind.wrap .i64 (a4+1)),()))
 |false=>some (.inr (.inr (.inl ())))
def PM[Lk]:(Ue×Ue×Unit)→Option (Uf):=fun(a0,a1,_)=>
 match(!(ieq a0.1 a1.1))with
 |true=>some (false,())
 |false=>match(!(ieq (AM a0.2.1) (AM a1.2.1)))with
 |true=>some (false,())
 |false=>match AT Ec many (a0.1,a0.2.1,a1.1,a1.2.1,0,())with|none=>none|some r=>match r with
 |.inl (o0,_)=>some (o0,())
 |.inr r=>match r with
 |.inl _=>some (true,())
 |.inr _=>none
def Rd[Lk]:=fun v=>Lk.f (PM v)
theorem AC3 v:Rd v=PM v:=AI _
end
end Go.Pev
end
section
namespace Go.Pev
noncomputable section
attribute [local irreducible] L6 I6 NZ Ks AVQ AVR AVS PV Vn VY Xf I9 AQ many IntKind.wrap AM An AN A8 Bo Da JY AE Bh Bz imax AR Ai
abbrev Sf:AF:=[(.tmp 0,.dat Ub),(.tmp 1,.di)]
abbrev Se:AF:=[(.tmp 0,.dat Uo),(.tmp 1,.di)]
abbrev Sd:List RS:=[.one,.one]
def JP[Lk]:(Ue×Int×Unit)→Option (Va):=fun(a0,a1,_)=>
 match Gl ((a0.1,(a0.2.1,())),())with|none=>none|some (y0,_)=>match(!y0)with
 |true=>some ((0,(([]:List U3),())),1,())
 |false=>match OQ ((a0.1,(a0.2.1,())),a1,())with|none=>none|some (y1,_)=>match fof (a0.1,y1,())with|none=>none|some (y2,y3,_)=>some ((y2.1,(y2.2.1,())),y3,())
def M6[Lk]:=fun v=>Lk.f (JP v)
theorem OR v:M6 v=JP v:=AI _
abbrev AGh:AF:=[(.tmp 0,.di),(.tmp 1,.di)]
abbrev AGg:AF:=[(.tmp 0,.dat .bool)]
abbrev AGf:List RS:=[.one]
def Wm[Lk]:U4→Option (Uf):=fun(a0,a1,_)=>
 match APU (a0,())with|none=>none|some (y0,_)=>match y0 with
 |true=>match APU (a1,())with|none=>none|some (y1,_)=>match(!y1)with
  |true=>some (true,())
  |false=>some ((ilt a0 a1),())
 |false=>some ((ilt a0 a1),())
def D4[Lk]:=fun v=>Lk.f (Wm v)
theorem ALP v:D4 v=Wm v:=AI _
abbrev AQL:AF:=[(.tmp 0,.own 3 U0),(.tmp 1,.di),(.tmp 2,.di)]
abbrev AQK:AF:=[(.obj 0,.own 3 U0)]
abbrev AQJ:List RS:=[]
abbrev ASd:AF:=[(.obj 0,.own 3 U0),(.tmp 0,.own' 0),(.tmp 1,.di),(.tmp 2,.di),(.tmp 6,.di),(.tmp 7,.di)]
abbrev ASb:A1:=[(.exit 2,[(.obj 0,.own 3 U0),(.tmp 0,.own' 0),(.tmp 1,.di),(.tmp 2,.di),(.tmp 6,.di)])]
def M7[Lk]:Uj→Option (Uj⊕U7⊕Unit):=fun(a0,a1,a2,a3,a4,_)=>
 match(ilt a1 a4)with
 |true=>match idx a0 a4 with|none=>none|some x0=>match idx a0 (IntKind.wrap .i64 (a4-1))with|none=>none|some x1=>match D4 ((AN a0 (AE a4) 0),(AN a0 (AE (IntKind.wrap .i64 (a4-1))) 0),())with|none=>none|some (y2,_)=>match y2 with
  |true=>match idx a0 (IntKind.wrap .i64 (a4-1))with|none=>none|some x3=>match idx a0 a4 with|none=>none|some x4=>match idx a0 a4 with|none=>none|some x5=>match idx (An a0 (AE a4) (AN a0 (AE (IntKind.wrap .i64 (a4-1))) 0)) (IntKind.wrap .i64 (a4-1))with|none=>none|some x6=>some (.inl ((An (An a0 (AE a4) (AN a0 (AE (IntKind.wrap .i64 (a4-1))) 0)) (AE (IntKind.wrap .i64 (a4-1))) (AN a0 (AE a4) 0)),a1,a2,a3,(IntKind.wrap .i64 (a4-1)),()))
  |false=>some (.inr (.inl (a0,a1,a2,a3,())))
 |false=>some (.inr (.inl (a0,a1,a2,a3,())))
abbrev ASe:AF:=[(.obj 0,.own 3 U0),(.tmp 0,.own' 0),(.tmp 1,.di),(.tmp 2,.di),(.tmp 6,.di)]
abbrev ASc:A1:=[(.exit 0,[(.obj 0,.own 3 U0)])]
def M8[Lk]:U7→Option (U7⊕Ua⊕Unit):=fun(a0,a1,a2,a3,_)=>
 match(ilt a3 a2)with
 |true=>match AT M7 many (a0,a1,a2,a3,a3,())with|none=>none|some r=>match r with
  |.inl (o0,o1,o2,o3,_)=>some (.inl (o0,o1,o2,(IntKind.wrap .i64 (o3+1)),()))
  |.inr _=>none
 |false=>some (.inr (.inl (a0,())))
def AGs[Lk]:Uc→Option (Ua):=fun(a0,a1,a2,_)=>
 match AT M8 many (a0,a1,a2,(IntKind.wrap .i64 (a1+1)),())with|none=>none|some r=>match r with
 |.inl (o0,_)=>some (o0,())
 |.inr _=>none
def AVL[Lk]:=fun v=>Lk.f (AGs v)
theorem ASf v:AVL v=AGs v:=AI _
abbrev AE5:AF:=[(.tmp 0,.own 3 U0),(.tmp 1,.di),(.tmp 2,.di),(.tmp 3,.di)]
abbrev AE4:AF:=[(.obj 0,.own 3 U0)]
abbrev AE3:List RS:=[]
abbrev AJF:AF:=[(.obj 0,.own 3 U0),(.tmp 0,.own' 0),(.tmp 2,.di),(.tmp 3,.di),(.tmp 8,.di)]
abbrev AJE:A1:=[(.exit 0,[(.obj 0,.own 3 U0)]),(.ret,[(.obj 0,.own 3 U0)])]
def JG[Lk]:U7→Option (U7⊕Ua⊕Ua⊕Unit):=fun(a0,a1,a2,a3,_)=>
 match(ile a1 (IntKind.wrap .i64 ((IntKind.wrap .i64 (2*a3))+1)))with
 |true=>some (.inr (.inl (a0,())))
 |false=>match(ilt (IntKind.wrap .i64 ((IntKind.wrap .i64 ((IntKind.wrap .i64 (2*a3))+1))+1)) a1)with
 |true=>match idx a0 (IntKind.wrap .i64 (a2+(IntKind.wrap .i64 ((IntKind.wrap .i64 (2*a3))+1))))with|none=>none|some x0=>match idx a0 (IntKind.wrap .i64 ((IntKind.wrap .i64 (a2+(IntKind.wrap .i64 ((IntKind.wrap .i64 (2*a3))+1))))+1))with|none=>none|some x1=>match D4 ((AN a0 (AE (IntKind.wrap .i64 (a2+(IntKind.wrap .i64 ((IntKind.wrap .i64 (2*a3))+1))))) 0),(AN a0 (AE (IntKind.wrap .i64 ((IntKind.wrap .i64 (a2+(IntKind.wrap .i64 ((IntKind.wrap .i64 (2*a3))+1))))+1))) 0),())with|none=>none|some (y2,_)=>match y2 with
  |true=>match idx a0 (IntKind.wrap .i64 (a2+a3))with|none=>none|some x3=>match idx a0 (IntKind.wrap .i64 (a2+(IntKind.wrap .i64 ((IntKind.wrap .i64 ((IntKind.wrap .i64 (2*a3))+1))+1))))with|none=>none|some x4=>match D4 ((AN a0 (AE (IntKind.wrap .i64 (a2+a3))) 0),(AN a0 (AE (IntKind.wrap .i64 (a2+(IntKind.wrap .i64 ((IntKind.wrap .i64 ((IntKind.wrap .i64 (2*a3))+1))+1))))) 0),())with|none=>none|some (y5,_)=>match(!y5)with
   |true=>some (.inr (.inr (.inl (a0,()))))
   |false=>match idx a0 (IntKind.wrap .i64 (a2+(IntKind.wrap .i64 ((IntKind.wrap .i64 ((IntKind.wrap .i64 (2*a3))+1))+1))))with|none=>none|some x6=>match idx a0 (IntKind.wrap .i64 (a2+a3))with|none=>none|some x7=>match idx a0 (IntKind.wrap .i64 (a2+a3))with|none=>none|some x8=>match idx (An a0 (AE (IntKind.wrap .i64 (a2+a3))) (AN a0 (AE (IntKind.wrap .i64 (a2+(IntKind.wrap .i64 ((IntKind.wrap .i64 ((IntKind.wrap .i64 (2*a3))+1))+1))))) 0)) (IntKind.wrap .i64 (a2+(IntKind.wrap .i64 ((IntKind.wrap .i64 ((IntKind.wrap .i64 (2*a3))+1))+1))))with|none=>none|some x9=>some (.inl ((An (An a0 (AE (IntKind.wrap .i64 (a2+a3))) (AN a0 (AE (IntKind.wrap .i64 (a2+(IntKind.wrap .i64 ((IntKind.wrap .i64 ((IntKind.wrap .i64 (2*a3))+1))+1))))) 0)) (AE (IntKind.wrap .i64 (a2+(IntKind.wrap .i64 ((IntKind.wrap .i64 ((IntKind.wrap .i64 (2*a3))+1))+1))))) (AN a0 (AE (IntKind.wrap .i64 (a2+a3))) 0)),a1,a2,(IntKind.wrap .i64 ((IntKind.wrap .i64 ((IntKind.wrap .i64 (2*a3))+1))+1)),()))
  |false=>match idx a0 (IntKind.wrap .i64 (a2+a3))with|none=>none|some x10=>match idx a0 (IntKind.wrap .i64 (a2+(IntKind.wrap .i64 ((IntKind.wrap .i64 (2*a3))+1))))with|none=>none|some x11=>match D4 ((AN a0 (AE (IntKind.wrap .i64 (a2+a3))) 0),(AN a0 (AE (IntKind.wrap .i64 (a2+(IntKind.wrap .i64 ((IntKind.wrap .i64 (2*a3))+1))))) 0),())with|none=>none|some (y12,_)=>match(!y12)with
  |true=>some (.inr (.inr (.inl (a0,()))))
  |false=>match idx a0 (IntKind.wrap .i64 (a2+(IntKind.wrap .i64 ((IntKind.wrap .i64 (2*a3))+1))))with|none=>none|some x13=>match idx a0 (IntKind.wrap .i64 (a2+a3))with|none=>none|some x14=>match idx a0 (IntKind.wrap .i64 (a2+a3))with|none=>none|some x15=>match idx (An a0 (AE (IntKind.wrap .i64 (a2+a3))) (AN a0 (AE (IntKind.wrap .i64 (a2+(IntKind.wrap .i64 ((IntKind.wrap .i64 (2*a3))+1))))) 0)) (IntKind.wrap .i64 (a2+(IntKind.wrap .i64 ((IntKind.wrap .i64 (2*a3))+1))))with|none=>none|some x16=>some (.inl ((An (An a0 (AE (IntKind.wrap .i64 (a2+a3))) (AN a0 (AE (IntKind.wrap .i64 (a2+(IntKind.wrap .i64 ((IntKind.wrap .i64 (2*a3))+1))))) 0)) (AE (IntKind.wrap .i64 (a2+(IntKind.wrap .i64 ((IntKind.wrap .i64 (2*a3))+1))))) (AN a0 (AE (IntKind.wrap .i64 (a2+a3))) 0)),a1,a2,(IntKind.wrap .i64 ((IntKind.wrap .i64 (2*a3))+1)),()))
 |false=>match idx a0 (IntKind.wrap .i64 (a2+a3))with|none=>none|some x17=>match idx a0 (IntKind.wrap .i64 (a2+(IntKind.wrap .i64 ((IntKind.wrap .i64 (2*a3))+1))))with|none=>none|some x18=>match D4 ((AN a0 (AE (IntKind.wrap .i64 (a2+a3))) 0),(AN a0 (AE (IntKind.wrap .i64 (a2+(IntKind.wrap .i64 ((IntKind.wrap .i64 (2*a3))+1))))) 0),())with|none=>none|some (y19,_)=>match(!y19)with
 |true=>some (.inr (.inr (.inl (a0,()))))
 |false=>match idx a0 (IntKind.wrap .i64 (a2+(IntKind.wrap .i64 ((IntKind.wrap .i64 (2*a3))+1))))with|none=>none|some x20=>match idx a0 (IntKind.wrap .i64 (a2+a3))with|none=>none|some x21=>match idx a0 (IntKind.wrap .i64 (a2+a3))with|none=>none|some x22=>match idx (An a0 (AE (IntKind.wrap .i64 (a2+a3))) (AN a0 (AE (IntKind.wrap .i64 (a2+(IntKind.wrap .i64 ((IntKind.wrap .i64 (2*a3))+1))))) 0)) (IntKind.wrap .i64 (a2+(IntKind.wrap .i64 ((IntKind.wrap .i64 (2*a3))+1))))with|none=>none|some x23=>some (.inl ((An (An a0 (AE (IntKind.wrap .i64 (a2+a3))) (AN a0 (AE (IntKind.wrap .i64 (a2+(IntKind.wrap .i64 ((IntKind.wrap .i64 (2*a3))+1))))) 0)) (AE (IntKind.wrap .i64 (a2+(IntKind.wrap .i64 ((IntKind.wrap .i64 (2*a3))+1))))) (AN a0 (AE (IntKind.wrap .i64 (a2+a3))) 0)),a1,a2,(IntKind.wrap .i64 ((IntKind.wrap .i64 (2*a3))+1)),()))
def WX[Lk]:U7→Option (Ua):=fun(a0,a1,a2,a3,_)=>
 match AT JG many (a0,a2,a3,a1,())with|none=>none|some r=>match r with
 |.inl (o0,_)=>some (o0,())
 |.inr r=>match r with
 |.inl (o1,_)=>some (o1,())
 |.inr _=>none
def ACy[Lk]:=fun v=>Lk.f (WX v)
theorem AJG v:ACy v=WX v:=AI _
abbrev AG3:AF:=[(.tmp 0,.own 3 U0),(.tmp 1,.di),(.tmp 2,.di)]
abbrev AG2:AF:=[(.obj 0,.own 3 U0)]
abbrev AG1:List RS:=[]
abbrev ALm:AF:=[(.obj 0,.own 3 U0),(.tmp 0,.own' 0),(.tmp 6,.di),(.tmp 7,.di),(.tmp 10,.di)]
abbrev ALk:A1:=[(.exit 2,[(.obj 0,.own 3 U0)])]
def JS[Lk]:U7→Option (U7⊕Ua⊕Unit):=fun(a0,a1,a2,a3,_)=>
 match(ile 0 a3)with
 |true=>match idx a0 (IntKind.wrap .i64 (a1+a3))with|none=>none|some x0=>match idx a0 a1 with|none=>none|some x1=>match idx a0 a1 with|none=>none|some x2=>match idx (An a0 (AE a1) (AN a0 (AE (IntKind.wrap .i64 (a1+a3))) 0)) (IntKind.wrap .i64 (a1+a3))with|none=>none|some x3=>match ACy ((An (An a0 (AE a1) (AN a0 (AE (IntKind.wrap .i64 (a1+a3))) 0)) (AE (IntKind.wrap .i64 (a1+a3))) (AN a0 (AE a1) 0)),a2,a3,a1,())with|none=>none|some (y4,_)=>some (.inl (y4,a1,a2,(IntKind.wrap .i64 (a3-1)),()))
 |false=>some (.inr (.inl (a0,())))
abbrev ALn:AF:=[(.obj 0,.own 3 U0),(.tmp 0,.own' 0),(.tmp 6,.di),(.tmp 7,.di),(.tmp 8,.di),(.tmp 9,.di)]
abbrev ALl:A1:=[(.exit 0,[(.obj 0,.own 3 U0),(.tmp 0,.own' 0),(.tmp 6,.di),(.tmp 7,.di),(.tmp 8,.di)])]
def JT[Lk]:Uj→Option (Uj⊕U7⊕Unit):=fun(a0,a1,a2,a3,a4,_)=>
 match(ile 0 a4)with
 |true=>match ACy (a0,a4,a3,a1,())with|none=>none|some (y0,_)=>some (.inl (y0,a1,a2,a3,(IntKind.wrap .i64 (a4-1)),()))
 |false=>some (.inr (.inl (a0,a1,a2,a3,())))
def Wo[Lk]:Uc→Option (Ua):=fun(a0,a1,a2,_)=>
 match quo? .i64 (IntKind.wrap .i64 ((IntKind.wrap .i64 (a2-a1))-1)) 2 with|none=>none|some x0=>match AT JT many (a0,a1,0,(IntKind.wrap .i64 (a2-a1)),x0,())with|none=>none|some r=>match r with
 |.inl (o1,o2,o3,o4,_)=>match AT JS many (o1,o2,o3,(IntKind.wrap .i64 (o4-1)),())with|none=>none|some r=>match r with
  |.inl (o5,_)=>some (o5,())
  |.inr _=>none
 |.inr _=>none
def ADh[Lk]:=fun v=>Lk.f (Wo v)
theorem ALo v:ADh v=Wo v:=AI _
abbrev AAn:AF:=[(.tmp 0,.own 3 U0),(.tmp 1,.di),(.tmp 2,.di)]
abbrev AAm:AF:=[(.obj 0,.own 3 U0)]
abbrev AAl:List RS:=[]
abbrev ADx:AF:=[(.obj 0,.own 3 U0),(.tmp 0,.own' 0),(.tmp 1,.di),(.tmp 6,.di),(.tmp 7,.box 1),(.cell 1 0,.dat (.int .u64)),(.tmp 8,.dat (.int .u64)),(.tmp 9,.di)]
abbrev ADw:A1:=[(.exit 0,[(.obj 0,.own 3 U0)])]
def Fy[Lk]:Uq→Option (Uq⊕Ua⊕Unit):=fun(a0,a1,a2,a3,a4,a5,_)=>
 match quo? .i64 a2 4 with|none=>none|some x0=>match(ile a5 (IntKind.wrap .i64 ((IntKind.wrap .i64 (a1+(IntKind.wrap .i64 (x0*2))))+1)))with
 |true=>match xorNext (a3,())with|none=>none|some (y1,y2,_)=>match(ile a2 (IntKind.wrap .i64 (IntKind.wrap .u64 ((BitVec.ofInt (IntKind.bits .u64) y2 &&& BitVec.ofInt (IntKind.bits .u64) (IntKind.wrap .u64 (a4-1))).toNat))))with
  |true=>match idx a0 (IntKind.wrap .i64 (a1+(IntKind.wrap .i64 ((IntKind.wrap .i64 (IntKind.wrap .u64 ((BitVec.ofInt (IntKind.bits .u64) y2 &&& BitVec.ofInt (IntKind.bits .u64) (IntKind.wrap .u64 (a4-1))).toNat)))-a2))))with|none=>none|some x3=>match idx a0 a5 with|none=>none|some x4=>match idx a0 a5 with|none=>none|some x5=>match idx (An a0 (AE a5) (AN a0 (AE (IntKind.wrap .i64 (a1+(IntKind.wrap .i64 ((IntKind.wrap .i64 (IntKind.wrap .u64 ((BitVec.ofInt (IntKind.bits .u64) y2 &&& BitVec.ofInt (IntKind.bits .u64) (IntKind.wrap .u64 (a4-1))).toNat)))-a2))))) 0)) (IntKind.wrap .i64 (a1+(IntKind.wrap .i64 ((IntKind.wrap .i64 (IntKind.wrap .u64 ((BitVec.ofInt (IntKind.bits .u64) y2 &&& BitVec.ofInt (IntKind.bits .u64) (IntKind.wrap .u64 (a4-1))).toNat)))-a2))))with|none=>none|some x6=>some (.inl ((An (An a0 (AE a5) (AN a0 (AE (IntKind.wrap .i64 (a1+(IntKind.wrap .i64 ((IntKind.wrap .i64 (IntKind.wrap .u64 ((BitVec.ofInt (IntKind.bits .u64) y2 &&& BitVec.ofInt (IntKind.bits .u64) (IntKind.wrap .u64 (a4-1))).toNat)))-a2))))) 0)) (AE (IntKind.wrap .i64 (a1+(IntKind.wrap .i64 ((IntKind.wrap .i64 (IntKind.wrap .u64 ((BitVec.ofInt (IntKind.bits .u64) y2 &&& BitVec.ofInt (IntKind.bits .u64) (IntKind.wrap .u64 (a4-1))).toNat)))-a2))))) (AN a0 (AE a5) 0)),a1,a2,y1,a4,(IntKind.wrap .i64 (a5+1)),()))
  |false=>match idx a0 (IntKind.wrap .i64 (a1+(IntKind.wrap .i64 (IntKind.wrap .u64 ((BitVec.ofInt (IntKind.bits .u64) y2 &&& BitVec.ofInt (IntKind.bits .u64) (IntKind.wrap .u64 (a4-1))).toNat)))))with|none=>none|some x7=>match idx a0 a5 with|none=>none|some x8=>match idx a0 a5 with|none=>none|some x9=>match idx (An a0 (AE a5) (AN a0 (AE (IntKind.wrap .i64 (a1+(IntKind.wrap .i64 (IntKind.wrap .u64 ((BitVec.ofInt (IntKind.bits .u64) y2 &&& BitVec.ofInt (IntKind.bits .u64) (IntKind.wrap .u64 (a4-1))).toNat)))))) 0)) (IntKind.wrap .i64 (a1+(IntKind.wrap .i64 (IntKind.wrap .u64 ((BitVec.ofInt (IntKind.bits .u64) y2 &&& BitVec.ofInt (IntKind.bits .u64) (IntKind.wrap .u64 (a4-1))).toNat)))))with|none=>none|some x10=>some (.inl ((An (An a0 (AE a5) (AN a0 (AE (IntKind.wrap .i64 (a1+(IntKind.wrap .i64 (IntKind.wrap .u64 ((BitVec.ofInt (IntKind.bits .u64) y2 &&& BitVec.ofInt (IntKind.bits .u64) (IntKind.wrap .u64 (a4-1))).toNat)))))) 0)) (AE (IntKind.wrap .i64 (a1+(IntKind.wrap .i64 (IntKind.wrap .u64 ((BitVec.ofInt (IntKind.bits .u64) y2 &&& BitVec.ofInt (IntKind.bits .u64) (IntKind.wrap .u64 (a4-1))).toNat)))))) (AN a0 (AE a5) 0)),a1,a2,y1,a4,(IntKind.wrap .i64 (a5+1)),()))
 |false=>some (.inr (.inl (a0,())))
def Qh[Lk]:Uc→Option (Ua):=fun(a0,a1,a2,_)=>
 match(ile 8 (IntKind.wrap .i64 (a2-a1)))with
 |true=>match Mu ((IntKind.wrap .i64 (a2-a1)),())with|none=>none|some (y0,_)=>match quo? .i64 (IntKind.wrap .i64 (a2-a1)) 4 with|none=>none|some x1=>match AT Fy many (a0,a1,(IntKind.wrap .i64 (a2-a1)),(IntKind.wrap .u64 (IntKind.wrap .i64 (a2-a1))),y0,(IntKind.wrap .i64 ((IntKind.wrap .i64 (a1+(IntKind.wrap .i64 (x1*2))))-1)),())with|none=>none|some r=>match r with
  |.inl (o2,_)=>some (o2,())
  |.inr _=>none
 |false=>some (a0,())
def TG[Lk]:=fun v=>Lk.f (Qh v)
theorem ADy v:TG v=Qh v:=AI _
abbrev R8:AF:=[(.tmp 0,.own 3 U0),(.tmp 1,.di),(.tmp 2,.di),(.tmp 3,.box 1),(.cell 1 0,.di)]
abbrev R7:AF:=[(.obj 0,.own 3 U0),(.obj 1,.box 1),(.cell 1 0,.di),(.tmp 0,.di),(.tmp 1,.di)]
abbrev R6:List RS:=[.one,.one]
def Mq[Lk]:U7→Option (U7):=fun(a0,a1,a2,a3,_)=>
 match idx a0 a2 with|none=>none|some x0=>match idx a0 a1 with|none=>none|some x1=>match D4 ((AN a0 (AE a2) 0),(AN a0 (AE a1) 0),())with|none=>none|some (y2,_)=>match y2 with
 |true=>some (a0,(IntKind.wrap .i64 (a3+1)),a2,a1,())
 |false=>some (a0,a3,a1,a2,())
def J0[Lk]:=fun v=>Lk.f (Mq v)
theorem Y9 v:J0 v=Mq v:=AI _
abbrev SN:AF:=[(.tmp 0,.own 3 U0),(.tmp 1,.di),(.tmp 2,.di),(.tmp 3,.di),(.tmp 4,.box 1),(.cell 1 0,.di)]
abbrev SM:AF:=[(.obj 0,.own 3 U0),(.obj 1,.box 1),(.cell 1 0,.di),(.tmp 0,.di)]
abbrev SK:List RS:=[.one]
def Mw[Lk]:Uj→Option (Uc):=fun(a0,a1,a2,a3,a4,_)=>
 match J0 (a0,a1,a2,a4,())with|none=>none|some (y0,y1,y2,y3,_)=>match J0 (y0,y3,a3,y1,())with|none=>none|some (y4,y5,y6,y7,_)=>match J0 (y4,y2,y6,y5,())with|none=>none|some (y8,y9,y10,y11,_)=>some (y8,y9,y11,())
def J7[Lk]:=fun v=>Lk.f (Mw v)
theorem ZH v:J7 v=Mw v:=AI _
abbrev SV:AF:=[(.tmp 0,.own 3 U0),(.tmp 1,.di),(.tmp 2,.box 1),(.cell 1 0,.di)]
abbrev SU:AF:=[(.obj 0,.own 3 U0),(.obj 1,.box 1),(.cell 1 0,.di),(.tmp 0,.di)]
abbrev SS:List RS:=[.one]
def Mz[Lk]:Uc→Option (Uc):=fun(a0,a1,a2,_)=>
 match J7 (a0,(IntKind.wrap .i64 (a1-1)),a1,(IntKind.wrap .i64 (a1+1)),a2,())with|none=>none|some (y0,y1,y2,_)=>some (y0,y1,y2,())
def J8[Lk]:=fun v=>Lk.f (Mz v)
theorem ZI v:J8 v=Mz v:=AI _
abbrev YT:AF:=[(.tmp 0,.own 3 U0),(.tmp 1,.di),(.tmp 2,.di)]
abbrev YS:AF:=[(.obj 0,.own 3 U0),(.tmp 0,.di),(.tmp 1,.di)]
abbrev YR:List RS:=[.one,.one]
def Pb[Lk]:Uc→Option (Uc):=fun(a0,a1,a2,_)=>
 match quo? .i64 (IntKind.wrap .i64 (a2-a1)) 4 with|none=>none|some x0=>match quo? .i64 (IntKind.wrap .i64 (a2-a1)) 4 with|none=>none|some x1=>match quo? .i64 (IntKind.wrap .i64 (a2-a1)) 4 with|none=>none|some x2=>match(ile 8 (IntKind.wrap .i64 (a2-a1)))with
 |true=>match(ile 50 (IntKind.wrap .i64 (a2-a1)))with
  |true=>match J8 (a0,(IntKind.wrap .i64 (a1+(IntKind.wrap .i64 (x0*1)))),0,())with|none=>none|some (y3,y4,y5,_)=>match J8 (y3,(IntKind.wrap .i64 (a1+(IntKind.wrap .i64 (x1*2)))),y4,())with|none=>none|some (y6,y7,y8,_)=>match J8 (y6,(IntKind.wrap .i64 (a1+(IntKind.wrap .i64 (x2*3)))),y7,())with|none=>none|some (y9,y10,y11,_)=>match J7 (y9,y5,y8,y11,y10,())with|none=>none|some (y12,y13,y14,_)=>match(ieq y13 0)with
   |true=>some (y12,y14,1,())
   |false=>match(ieq y13 12)with
   |true=>some (y12,y14,2,())
   |false=>some (y12,y14,0,())
  |false=>match J7 (a0,(IntKind.wrap .i64 (a1+(IntKind.wrap .i64 (x0*1)))),(IntKind.wrap .i64 (a1+(IntKind.wrap .i64 (x1*2)))),(IntKind.wrap .i64 (a1+(IntKind.wrap .i64 (x2*3)))),0,())with|none=>none|some (y15,y16,y17,_)=>match(ieq y16 0)with
  |true=>some (y15,y17,1,())
  |false=>match(ieq y16 12)with
  |true=>some (y15,y17,2,())
  |false=>some (y15,y17,0,())
 |false=>match(ieq 0 0)with
 |true=>some (a0,(IntKind.wrap .i64 (a1+(IntKind.wrap .i64 (x1*2)))),1,())
 |false=>match(ieq 0 12)with
 |true=>some (a0,(IntKind.wrap .i64 (a1+(IntKind.wrap .i64 (x1*2)))),2,())
 |false=>some (a0,(IntKind.wrap .i64 (a1+(IntKind.wrap .i64 (x1*2)))),0,())
def Rr[Lk]:=fun v=>Lk.f (Pb v)
theorem ADH v:Rr v=Pb v:=AI _
abbrev AOC:AF:=[(.tmp 0,.own 3 U0),(.tmp 1,.di),(.tmp 2,.di)]
abbrev AOB:AF:=[(.obj 0,.own 3 U0)]
abbrev AOA:List RS:=[]
abbrev ARz:AF:=[(.obj 0,.own 3 U0),(.tmp 0,.own' 0),(.tmp 6,.di),(.tmp 7,.di)]
abbrev ARy:A1:=[(.exit 0,[(.obj 0,.own 3 U0)])]
def PT[Lk]:Uc→Option (Uc⊕Ua⊕Unit):=fun(a0,a1,a2,_)=>
 match(ilt a1 a2)with
 |true=>match idx a0 a2 with|none=>none|some x0=>match idx a0 a1 with|none=>none|some x1=>match idx a0 a1 with|none=>none|some x2=>match idx (An a0 (AE a1) (AN a0 (AE a2) 0)) a2 with|none=>none|some x3=>some (.inl ((An (An a0 (AE a1) (AN a0 (AE a2) 0)) (AE a2) (AN a0 (AE a1) 0)),(IntKind.wrap .i64 (a1+1)),(IntKind.wrap .i64 (a2-1)),()))
 |false=>some (.inr (.inl (a0,())))
def AFJ[Lk]:Uc→Option (Ua):=fun(a0,a1,a2,_)=>
 match AT PT many (a0,a1,(IntKind.wrap .i64 (a2-1)),())with|none=>none|some r=>match r with
 |.inl (o0,_)=>some (o0,())
 |.inr _=>none
def AT0[Lk]:=fun v=>Lk.f (AFJ v)
theorem AR0 v:AT0 v=AFJ v:=AI _
abbrev OL:AF:=[(.tmp 0,.own 3 U0),(.tmp 1,.di),(.tmp 2,.di)]
abbrev OK:AF:=[(.obj 0,.own 3 U0),(.tmp 0,.dat .bool)]
abbrev OJ:List RS:=[.one]
abbrev UE:AF:=[(.obj 0,.own 3 U0),(.tmp 0,.own' 0),(.tmp 1,.di),(.tmp 2,.di),(.tmp 7,.di),(.tmp 8,.di),(.tmp 10,.di)]
abbrev UA:A1:=[(.exit 6,[(.obj 0,.own 3 U0),(.tmp 0,.own' 0),(.tmp 1,.di),(.tmp 2,.di),(.tmp 7,.di),(.tmp 8,.di)])]
def Eg[Lk]:Uq→Option (Uq⊕Uj⊕Unit):=fun(a0,a1,a2,a3,a4,a5,_)=>
 match(ilt a5 a2)with
 |true=>match idx a0 a5 with|none=>none|some x0=>match idx a0 (IntKind.wrap .i64 (a5-1))with|none=>none|some x1=>match D4 ((AN a0 (AE a5) 0),(AN a0 (AE (IntKind.wrap .i64 (a5-1))) 0),())with|none=>none|some (y2,_)=>match(!y2)with
  |true=>some (.inr (.inl (a0,a1,a2,a3,a4,())))
  |false=>match idx a0 (IntKind.wrap .i64 (a5-1))with|none=>none|some x3=>match idx a0 a5 with|none=>none|some x4=>match idx a0 a5 with|none=>none|some x5=>match idx (An a0 (AE a5) (AN a0 (AE (IntKind.wrap .i64 (a5-1))) 0)) (IntKind.wrap .i64 (a5-1))with|none=>none|some x6=>some (.inl ((An (An a0 (AE a5) (AN a0 (AE (IntKind.wrap .i64 (a5-1))) 0)) (AE (IntKind.wrap .i64 (a5-1))) (AN a0 (AE a5) 0)),a1,a2,a3,a4,(IntKind.wrap .i64 (a5+1)),()))
 |false=>some (.inr (.inl (a0,a1,a2,a3,a4,())))
abbrev UG:AF:=[(.obj 0,.own 3 U0),(.tmp 0,.own' 0),(.tmp 1,.di),(.tmp 2,.di),(.tmp 7,.di),(.tmp 8,.di),(.tmp 9,.di)]
abbrev UB:A1:=[(.exit 4,[(.obj 0,.own 3 U0),(.tmp 0,.own' 0),(.tmp 1,.di),(.tmp 2,.di),(.tmp 7,.di),(.tmp 8,.di)])]
def Eh[Lk]:Uq→Option (Uq⊕Uj⊕Unit):=fun(a0,a1,a2,a3,a4,a5,_)=>
 match(ile 1 a5)with
 |true=>match idx a0 a5 with|none=>none|some x0=>match idx a0 (IntKind.wrap .i64 (a5-1))with|none=>none|some x1=>match D4 ((AN a0 (AE a5) 0),(AN a0 (AE (IntKind.wrap .i64 (a5-1))) 0),())with|none=>none|some (y2,_)=>match(!y2)with
  |true=>some (.inr (.inl (a0,a1,a2,a3,a4,())))
  |false=>match idx a0 (IntKind.wrap .i64 (a5-1))with|none=>none|some x3=>match idx a0 a5 with|none=>none|some x4=>match idx a0 a5 with|none=>none|some x5=>match idx (An a0 (AE a5) (AN a0 (AE (IntKind.wrap .i64 (a5-1))) 0)) (IntKind.wrap .i64 (a5-1))with|none=>none|some x6=>some (.inl ((An (An a0 (AE a5) (AN a0 (AE (IntKind.wrap .i64 (a5-1))) 0)) (AE (IntKind.wrap .i64 (a5-1))) (AN a0 (AE a5) 0)),a1,a2,a3,a4,(IntKind.wrap .i64 (a5-1)),()))
 |false=>some (.inr (.inl (a0,a1,a2,a3,a4,())))
abbrev UH:AF:=[(.obj 0,.own 3 U0),(.tmp 0,.own' 0),(.tmp 1,.di),(.tmp 2,.di),(.tmp 7,.di),(.tmp 8,.di)]
abbrev UC:A1:=[(.exit 2,[(.obj 0,.own 3 U0),(.tmp 0,.own' 0),(.tmp 1,.di),(.tmp 2,.di),(.tmp 7,.di),(.tmp 8,.di)])]
def GR[Lk]:Uj→Option (Uj⊕Uj⊕Unit):=fun(a0,a1,a2,a3,a4,_)=>
 match(ilt a3 a2)with
 |true=>match idx a0 a3 with|none=>none|some x0=>match idx a0 (IntKind.wrap .i64 (a3-1))with|none=>none|some x1=>match D4 ((AN a0 (AE a3) 0),(AN a0 (AE (IntKind.wrap .i64 (a3-1))) 0),())with|none=>none|some (y2,_)=>match(!y2)with
  |true=>some (.inl (a0,a1,a2,(IntKind.wrap .i64 (a3+1)),a4,()))
  |false=>some (.inr (.inl (a0,a1,a2,a3,a4,())))
 |false=>some (.inr (.inl (a0,a1,a2,a3,a4,())))
abbrev UI:AF:=[(.obj 0,.own 3 U0),(.tmp 0,.own' 0),(.tmp 1,.di),(.tmp 2,.di),(.tmp 7,.di),(.tmp 8,.di)]
abbrev UD:A1:=[(.ret,[(.obj 0,.own 3 U0),(.tmp 6,.dat .bool)]),(.exit 0,[(.obj 0,.own 3 U0)])]
def CP[Lk]:Uj→Option (Uj⊕Ve⊕Ua⊕Unit):=fun(a0,a1,a2,a3,a4,_)=>
 match(ilt a4 5)with
 |true=>match AT GR many (a0,a1,a2,a3,a4,())with|none=>none|some r=>match r with
  |.inl (o0,o1,o2,o3,o4,_)=>match(ieq o3 o2)with
   |true=>some (.inr (.inl (o0,true,())))
   |false=>match(ilt (IntKind.wrap .i64 (o2-o1)) 50)with
   |true=>some (.inr (.inl (o0,false,())))
   |false=>match idx o0 (IntKind.wrap .i64 (o3-1))with|none=>none|some x5=>match idx o0 o3 with|none=>none|some x6=>match idx o0 o3 with|none=>none|some x7=>match idx (An o0 (AE o3) (AN o0 (AE (IntKind.wrap .i64 (o3-1))) 0)) (IntKind.wrap .i64 (o3-1))with|none=>none|some x8=>match(ile 2 (IntKind.wrap .i64 (o3-o1)))with
   |true=>match AT Eh many ((An (An o0 (AE o3) (AN o0 (AE (IntKind.wrap .i64 (o3-1))) 0)) (AE (IntKind.wrap .i64 (o3-1))) (AN o0 (AE o3) 0)),o1,o2,o3,o4,(IntKind.wrap .i64 (o3-1)),())with|none=>none|some r=>match r with
    |.inl (o9,o10,o11,o12,o13,_)=>match(ile 2 (IntKind.wrap .i64 (o11-o12)))with
     |true=>match AT Eg many (o9,o10,o11,o12,o13,(IntKind.wrap .i64 (o12+1)),())with|none=>none|some r=>match r with
      |.inl (o14,o15,o16,o17,o18,_)=>some (.inl (o14,o15,o16,o17,(IntKind.wrap .i64 (o18+1)),()))
      |.inr _=>none
     |false=>some (.inl (o9,o10,o11,o12,(IntKind.wrap .i64 (o13+1)),()))
    |.inr _=>none
   |false=>match(ile 2 (IntKind.wrap .i64 (o2-o3)))with
   |true=>match AT Eg many ((An (An o0 (AE o3) (AN o0 (AE (IntKind.wrap .i64 (o3-1))) 0)) (AE (IntKind.wrap .i64 (o3-1))) (AN o0 (AE o3) 0)),o1,o2,o3,o4,(IntKind.wrap .i64 (o3+1)),())with|none=>none|some r=>match r with
    |.inl (o19,o20,o21,o22,o23,_)=>some (.inl (o19,o20,o21,o22,(IntKind.wrap .i64 (o23+1)),()))
    |.inr _=>none
   |false=>some (.inl ((An (An o0 (AE o3) (AN o0 (AE (IntKind.wrap .i64 (o3-1))) 0)) (AE (IntKind.wrap .i64 (o3-1))) (AN o0 (AE o3) 0)),o1,o2,o3,(IntKind.wrap .i64 (o4+1)),()))
  |.inr _=>none
 |false=>some (.inr (.inr (.inl (a0,()))))
def Jv[Lk]:Uc→Option (Ve):=fun(a0,a1,a2,_)=>
 match AT CP many (a0,a1,a2,(IntKind.wrap .i64 (a1+1)),0,())with|none=>none|some r=>match r with
 |.inl (o0,o1,_)=>some (o0,o1,())
 |.inr r=>match r with
 |.inl (o2,_)=>some (o2,false,())
 |.inr _=>none
def JK[Lk]:=fun v=>Lk.f (Jv v)
theorem UJ v:JK v=Jv v:=AI _
abbrev R2:AF:=[(.tmp 0,.own 3 U0),(.tmp 1,.di),(.tmp 2,.di),(.tmp 3,.di)]
abbrev R1:AF:=[(.obj 0,.own 3 U0),(.tmp 0,.di)]
abbrev R0:List RS:=[.one]
abbrev Y4:AF:=[(.obj 0,.own 3 U0),(.tmp 0,.own' 0),(.tmp 1,.di),(.tmp 9,.di),(.tmp 10,.di)]
abbrev Y1:A1:=[(.exit 4,[(.obj 0,.own 3 U0),(.tmp 0,.own' 0),(.tmp 1,.di),(.tmp 9,.di),(.tmp 10,.di)])]
def Hi[Lk]:U7→Option Vi:=fun(a0,a1,a2,a3,_)=>
 match(ile a2 a3)with
 |true=>match idx a0 a1 with|none=>none|some x0=>match idx a0 a3 with|none=>none|some x1=>match D4 ((AN a0 (AE a1) 0),(AN a0 (AE a3) 0),())with|none=>none|some (y2,_)=>match y2 with
  |true=>some (.inl (a0,a1,a2,(IntKind.wrap .i64 (a3-1)),()))
  |false=>some (.inr (.inl (a0,a1,a2,a3,())))
 |false=>some (.inr (.inl (a0,a1,a2,a3,())))
abbrev Y5:AF:=[(.obj 0,.own 3 U0),(.tmp 0,.own' 0),(.tmp 1,.di),(.tmp 9,.di),(.tmp 10,.di)]
abbrev Y2:A1:=[(.exit 2,[(.obj 0,.own 3 U0),(.tmp 0,.own' 0),(.tmp 1,.di),(.tmp 9,.di),(.tmp 10,.di)])]
def Hj[Lk]:U7→Option Vi:=fun(a0,a1,a2,a3,_)=>
 match(ile a2 a3)with
 |true=>match idx a0 a1 with|none=>none|some x0=>match idx a0 a2 with|none=>none|some x1=>match D4 ((AN a0 (AE a1) 0),(AN a0 (AE a2) 0),())with|none=>none|some (y2,_)=>match(!y2)with
  |true=>some (.inl (a0,a1,(IntKind.wrap .i64 (a2+1)),a3,()))
  |false=>some (.inr (.inl (a0,a1,a2,a3,())))
 |false=>some (.inr (.inl (a0,a1,a2,a3,())))
abbrev Y6:AF:=[(.obj 0,.own 3 U0),(.tmp 0,.own' 0),(.tmp 1,.di),(.tmp 9,.di),(.tmp 10,.di)]
abbrev Y3:A1:=[(.exit 0,[(.obj 0,.own 3 U0),(.tmp 9,.di)])]
def Hk[Lk]:U7→Option (U7⊕Un⊕Unit):=fun(a0,a1,a2,a3,_)=>
 match AT Hj many (a0,a1,a2,a3,())with|none=>none|some r=>match r with
 |.inl (o0,o1,o2,o3,_)=>match AT Hi many (o0,o1,o2,o3,())with|none=>none|some r=>match r with
  |.inl (o4,o5,o6,o7,_)=>match(ilt o7 o6)with
   |true=>some (.inr (.inl (o4,o6,())))
   |false=>match idx o4 o7 with|none=>none|some x8=>match idx o4 o6 with|none=>none|some x9=>match idx o4 o6 with|none=>none|some x10=>match idx (An o4 (AE o6) (AN o4 (AE o7) 0)) o7 with|none=>none|some x11=>some (.inl ((An (An o4 (AE o6) (AN o4 (AE o7) 0)) (AE o7) (AN o4 (AE o6) 0)),o5,(IntKind.wrap .i64 (o6+1)),(IntKind.wrap .i64 (o7-1)),()))
  |.inr _=>none
 |.inr _=>none
def Mm[Lk]:U7→Option (Un):=fun(a0,a1,a2,a3,_)=>
 match idx a0 a3 with|none=>none|some x0=>match idx a0 a1 with|none=>none|some x1=>match idx a0 a1 with|none=>none|some x2=>match idx (An a0 (AE a1) (AN a0 (AE a3) 0)) a3 with|none=>none|some x3=>match AT Hk many ((An (An a0 (AE a1) (AN a0 (AE a3) 0)) (AE a3) (AN a0 (AE a1) 0)),a1,(IntKind.wrap .i64 (a1+1)),(IntKind.wrap .i64 (a2-1)),())with|none=>none|some r=>match r with
 |.inl (o4,o5,_)=>some (o4,o5,())
 |.inr _=>none
def Mn[Lk]:=fun v=>Lk.f (Mm v)
theorem Y7 v:Mn v=Mm v:=AI _
abbrev AF4:AF:=[(.tmp 0,.own 3 U0),(.tmp 1,.di),(.tmp 2,.di),(.tmp 3,.di)]
abbrev AF3:AF:=[(.obj 0,.own 3 U0),(.tmp 0,.di),(.tmp 1,.dat .bool)]
abbrev AF2:List RS:=[.one,.one]
abbrev AKm:AF:=[(.obj 0,.own 3 U0),(.tmp 0,.own' 0),(.tmp 1,.di),(.tmp 10,.di),(.tmp 11,.di)]
abbrev AKh:A1:=[(.exit 8,[(.obj 0,.own 3 U0),(.tmp 0,.own' 0),(.tmp 1,.di),(.tmp 10,.di),(.tmp 11,.di)])]
def Lc[Lk]:U7→Option Vi:=fun(a0,a1,a2,a3,_)=>
 match(ile a2 a3)with
 |true=>match idx a0 a3 with|none=>none|some x0=>match idx a0 a1 with|none=>none|some x1=>match D4 ((AN a0 (AE a3) 0),(AN a0 (AE a1) 0),())with|none=>none|some (y2,_)=>match(!y2)with
  |true=>some (.inl (a0,a1,a2,(IntKind.wrap .i64 (a3-1)),()))
  |false=>some (.inr (.inl (a0,a1,a2,a3,())))
 |false=>some (.inr (.inl (a0,a1,a2,a3,())))
abbrev AKn:AF:=[(.obj 0,.own 3 U0),(.tmp 0,.own' 0),(.tmp 1,.di),(.tmp 10,.di),(.tmp 11,.di)]
abbrev AKi:A1:=[(.exit 6,[(.obj 0,.own 3 U0),(.tmp 0,.own' 0),(.tmp 1,.di),(.tmp 10,.di),(.tmp 11,.di)])]
def Ld[Lk]:U7→Option Vi:=fun(a0,a1,a2,a3,_)=>
 match(ile a2 a3)with
 |true=>match idx a0 a2 with|none=>none|some x0=>match idx a0 a1 with|none=>none|some x1=>match D4 ((AN a0 (AE a2) 0),(AN a0 (AE a1) 0),())with|none=>none|some (y2,_)=>match y2 with
  |true=>some (.inl (a0,a1,(IntKind.wrap .i64 (a2+1)),a3,()))
  |false=>some (.inr (.inl (a0,a1,a2,a3,())))
 |false=>some (.inr (.inl (a0,a1,a2,a3,())))
abbrev AKo:AF:=[(.obj 0,.own 3 U0),(.tmp 0,.own' 0),(.tmp 1,.di),(.tmp 10,.di),(.tmp 11,.di)]
abbrev AKj:A1:=[(.exit 4,[(.obj 0,.own 3 U0),(.tmp 0,.own' 0),(.tmp 1,.di),(.tmp 11,.di)])]
def Le[Lk]:U7→Option (U7⊕Uc⊕Unit):=fun(a0,a1,a2,a3,_)=>
 match AT Ld many (a0,a1,a2,a3,())with|none=>none|some r=>match r with
 |.inl (o0,o1,o2,o3,_)=>match AT Lc many (o0,o1,o2,o3,())with|none=>none|some r=>match r with
  |.inl (o4,o5,o6,o7,_)=>match(ilt o7 o6)with
   |true=>some (.inr (.inl (o4,o5,o7,())))
   |false=>match idx o4 o7 with|none=>none|some x8=>match idx o4 o6 with|none=>none|some x9=>match idx o4 o6 with|none=>none|some x10=>match idx (An o4 (AE o6) (AN o4 (AE o7) 0)) o7 with|none=>none|some x11=>some (.inl ((An (An o4 (AE o6) (AN o4 (AE o7) 0)) (AE o7) (AN o4 (AE o6) 0)),o5,(IntKind.wrap .i64 (o6+1)),(IntKind.wrap .i64 (o7-1)),()))
  |.inr _=>none
 |.inr _=>none
abbrev AKp:AF:=[(.obj 0,.own 3 U0),(.tmp 0,.own' 0),(.tmp 1,.di),(.tmp 10,.di),(.tmp 11,.di)]
abbrev AKk:A1:=[(.exit 2,[(.obj 0,.own 3 U0),(.tmp 0,.own' 0),(.tmp 1,.di),(.tmp 10,.di),(.tmp 11,.di)])]
def Lf[Lk]:U7→Option Vi:=fun(a0,a1,a2,a3,_)=>
 match(ile a2 a3)with
 |true=>match idx a0 a3 with|none=>none|some x0=>match idx a0 a1 with|none=>none|some x1=>match D4 ((AN a0 (AE a3) 0),(AN a0 (AE a1) 0),())with|none=>none|some (y2,_)=>match(!y2)with
  |true=>some (.inl (a0,a1,a2,(IntKind.wrap .i64 (a3-1)),()))
  |false=>some (.inr (.inl (a0,a1,a2,a3,())))
 |false=>some (.inr (.inl (a0,a1,a2,a3,())))
abbrev AKq:AF:=[(.obj 0,.own 3 U0),(.tmp 0,.own' 0),(.tmp 1,.di),(.tmp 10,.di),(.tmp 11,.di)]
abbrev AKl:A1:=[(.exit 0,[(.obj 0,.own 3 U0),(.tmp 0,.own' 0),(.tmp 1,.di),(.tmp 10,.di),(.tmp 11,.di)])]
def Lg[Lk]:U7→Option Vi:=fun(a0,a1,a2,a3,_)=>
 match(ile a2 a3)with
 |true=>match idx a0 a2 with|none=>none|some x0=>match idx a0 a1 with|none=>none|some x1=>match D4 ((AN a0 (AE a2) 0),(AN a0 (AE a1) 0),())with|none=>none|some (y2,_)=>match y2 with
  |true=>some (.inl (a0,a1,(IntKind.wrap .i64 (a2+1)),a3,()))
  |false=>some (.inr (.inl (a0,a1,a2,a3,())))
 |false=>some (.inr (.inl (a0,a1,a2,a3,())))
def Wf[Lk]:U7→Option ((List Int×Int×Bool×Unit)):=fun(a0,a1,a2,a3,_)=>
 match idx a0 a3 with|none=>none|some x0=>match idx a0 a1 with|none=>none|some x1=>match idx a0 a1 with|none=>none|some x2=>match idx (An a0 (AE a1) (AN a0 (AE a3) 0)) a3 with|none=>none|some x3=>match AT Lg many ((An (An a0 (AE a1) (AN a0 (AE a3) 0)) (AE a3) (AN a0 (AE a1) 0)),a1,(IntKind.wrap .i64 (a1+1)),(IntKind.wrap .i64 (a2-1)),())with|none=>none|some r=>match r with
 |.inl (o4,o5,o6,o7,_)=>match AT Lf many (o4,o5,o6,o7,())with|none=>none|some r=>match r with
  |.inl (o8,o9,o10,o11,_)=>match(ilt o11 o10)with
   |true=>match idx o8 o9 with|none=>none|some x12=>match idx o8 o11 with|none=>none|some x13=>match idx o8 o11 with|none=>none|some x14=>match idx (An o8 (AE o11) (AN o8 (AE o9) 0)) o9 with|none=>none|some x15=>some ((An (An o8 (AE o11) (AN o8 (AE o9) 0)) (AE o9) (AN o8 (AE o11) 0)),o11,true,())
   |false=>match idx o8 o11 with|none=>none|some x16=>match idx o8 o10 with|none=>none|some x17=>match idx o8 o10 with|none=>none|some x18=>match idx (An o8 (AE o10) (AN o8 (AE o11) 0)) o11 with|none=>none|some x19=>match AT Le many ((An (An o8 (AE o10) (AN o8 (AE o11) 0)) (AE o11) (AN o8 (AE o10) 0)),o9,(IntKind.wrap .i64 (o10+1)),(IntKind.wrap .i64 (o11-1)),())with|none=>none|some r=>match r with
   |.inl (o20,o21,o22,_)=>match idx o20 o21 with|none=>none|some x23=>match idx o20 o22 with|none=>none|some x24=>match idx o20 o22 with|none=>none|some x25=>match idx (An o20 (AE o22) (AN o20 (AE o21) 0)) o21 with|none=>none|some x26=>some ((An (An o20 (AE o22) (AN o20 (AE o21) 0)) (AE o21) (AN o20 (AE o22) 0)),o22,false,())
   |.inr _=>none
  |.inr _=>none
 |.inr _=>none
def Ph[Lk]:=fun v=>Lk.f (Wf v)
theorem AKr v:Ph v=Wf v:=AI _
abbrev Yg:AF:=[(.tmp 0,.own 3 U0),(.tmp 1,.di),(.tmp 2,.di),(.tmp 3,.di)]
abbrev Yf:AF:=[(.obj 0,.own 3 U0)]
abbrev Ye:List RS:=[]
abbrev ASB:AF:=[(.obj 0,.own 3 U0),(.tmp 0,.own' 0),(.tmp 1,.di),(.tmp 2,.di),(.tmp 3,.di),(.tmp 8,.dat .bool),(.tmp 9,.dat .bool)]
abbrev ASA:A1:=[(.ret,[(.obj 0,.own 3 U0)])]
def AFo[Lk](self:U7→Option (Ua))(y7:List Int)(a1 a2 p l:Int)(a4 a5:Bool):Option (Uw⊕Ua⊕Unit):=
 match(ilt 0 a1)with
 |true=>match idx y7 (IntKind.wrap .i64 (a1-1))with|none=>none|some x9=>match idx y7 p with|none=>none|some x10=>match D4 ((AN y7 (AE (IntKind.wrap .i64 (a1-1))) 0),(AN y7 (AE p) 0),())with|none=>none|some (y11,_)=>match(!y11)with
  |true=>match Mn (y7,a1,a2,p,())with|none=>none|some (y12,y13,_)=>some (.inl (y12,y13,a2,l,a4,a5,()))
  |false=>match Ph (y7,a1,a2,p,())with|none=>none|some (y14,y15,y16,_)=>match quo? .i64 (IntKind.wrap .i64 (a2-a1)) 8 with|none=>none|some x17=>match(ilt (IntKind.wrap .i64 (y15-a1)) (IntKind.wrap .i64 (a2-y15)))with
  |true=>match self (y14,a1,y15,l,())with|none=>none|some (y18,_)=>some (.inl (y18,(IntKind.wrap .i64 (y15+1)),a2,l,(ile x17 (IntKind.wrap .i64 (y15-a1))),y16,()))
  |false=>match self (y14,(IntKind.wrap .i64 (y15+1)),a2,l,())with|none=>none|some (y19,_)=>some (.inl (y19,a1,y15,l,(ile x17 (IntKind.wrap .i64 (a2-y15))),y16,()))
 |false=>match Ph (y7,a1,a2,p,())with|none=>none|some (y20,y21,y22,_)=>match quo? .i64 (IntKind.wrap .i64 (a2-a1)) 8 with|none=>none|some x23=>match(ilt (IntKind.wrap .i64 (y21-a1)) (IntKind.wrap .i64 (a2-y21)))with
 |true=>match self (y20,a1,y21,l,())with|none=>none|some (y24,_)=>some (.inl (y24,(IntKind.wrap .i64 (y21+1)),a2,l,(ile x23 (IntKind.wrap .i64 (y21-a1))),y22,()))
 |false=>match self (y20,(IntKind.wrap .i64 (y21+1)),a2,l,())with|none=>none|some (y25,_)=>some (.inl (y25,a1,y21,l,(ile x23 (IntKind.wrap .i64 (a2-y21))),y22,()))
def AX5[Lk](self:U7→Option (Ua))(y6:List Int)(a1 a2 p h l:Int)(a4 a5:Bool):Option (Uw⊕Ua⊕Unit):=
 match a4 with
 |true=>match a5 with
  |true=>match(ieq h 1)with
   |true=>match JK (y6,a1,a2,())with|none=>none|some (y7,y8,_)=>match y8 with
    |true=>some (.inr (.inl (y7,())))
    |false=>AFo self y7 a1 a2 p l a4 a5
   |false=>AFo self y6 a1 a2 p l a4 a5
  |false=>AFo self y6 a1 a2 p l a4 a5
 |false=>AFo self y6 a1 a2 p l a4 a5
def AX4[Lk](self:U7→Option (Ua))(y2:List Int)(a1 a2 l:Int)(a4 a5:Bool):Option (Uw⊕Ua⊕Unit):=
 match Rr (y2,a1,a2,())with|none=>none|some (y3,y4,y5,_)=>match(ieq y5 2)with
 |true=>match AT0 (y3,a1,a2,())with|none=>none|some (y6,_)=>AX5 self y6 a1 a2 (IntKind.wrap .i64 ((IntKind.wrap .i64 (a2-1))-(IntKind.wrap .i64 (y4-a1)))) 1 l a4 a5
 |false=>AX5 self y3 a1 a2 y4 y5 l a4 a5
def Ml[Lk](self:U7→Option (Ua)):Uw→Option (Uw⊕Ua⊕Unit):=fun(a0,a1,a2,a3,a4,a5,_)=>
 match(ile (IntKind.wrap .i64 (a2-a1)) 12)with
 |true=>match AVL (a0,a1,a2,())with|none=>none|some (y0,_)=>some (.inr (.inl (y0,())))
 |false=>match(ieq a3 0)with
 |true=>match ADh (a0,a1,a2,())with|none=>none|some (y1,_)=>some (.inr (.inl (y1,())))
 |false=>match(!a4)with
 |true=>match TG (a0,a1,a2,())with|none=>none|some (y2,_)=>AX4 self y2 a1 a2 (IntKind.wrap .i64 (a3-1)) a4 a5
 |false=>AX4 self a0 a1 a2 a3 a4 a5
def AFp[Lk](self:U7→Option (Ua)):U7→Option (Ua):=fun(a0,a1,a2,a3,_)=>
 match AT (Ml self) many (a0,a1,a2,a3,true,true,())with|none=>none|some r=>match r with
 |.inl (o0,_)=>some (o0,())
 |.inr _=>none
def Hh[Lk]:Nat→U7→Option (Ua)
 |0,_=>none
 |n+1,v=>AFp (Hh n) v
def AUI[Lk]:=fun v=>Lk.f (Hh 100 v)
theorem ASC v:AUI v=Hh 100 v:=AI _
abbrev AEy:AF:=[(.tmp 0,.own 3 U0)]
abbrev AEx:AF:=[(.obj 0,.own 3 U0)]
abbrev AEw:List RS:=[]
def WV[Lk]:Ua→Option (Ua):=fun(a0,_)=>
 match bitsLen ((IntKind.wrap .u64 (AM a0)),())with|none=>none|some (y0,_)=>match AUI (a0,0,(AM a0),y0,())with|none=>none|some (y1,_)=>some (y1,())
def AI7[Lk]:=fun v=>Lk.f (WV v)
theorem AI6 v:AI7 v=WV v:=AI _
end
end Go.Pev
end
section
namespace Go.Pev
noncomputable section
attribute [local irreducible] L6 I6 NZ Ks AVQ AVR AVS PV Vn VY Xf I9 AQ many IntKind.wrap AM An AN A8 Bo Da JY AE Bh Bz imax AR Ai
def AQN[Lk]:(Ue×Int×Unit)→Option (Uf):=fun(a0,a1,_)=>
 match(ile 0 a1)with
 |true=>some ((ilt a1 a0.1),())
 |false=>some (false,())
def Abp[Lk]:=fun v=>Lk.f (AQN v)
theorem Abo v:Abp v=AQN v:=AI _
abbrev Lm:AF:=[(.tmp 0,.dat Ub),(.tmp 1,.di),(.tmp 2,.di)]
abbrev Ll:AF:=[(.tmp 0,.own 3 U0)]
abbrev Lj:List RS:=[.one]
abbrev Pt:AF:=[(.tmp 1,.di),(.tmp 3,.box 2),(.cell 0 0,.di),(.cell 0 1,.dat Ul),(.tmp 7,.own 3 U0),(.tmp 8,.own 3 U0),(.tmp 9,.di)]
abbrev Ps:A1:=[(.exit 0,[(.tmp 8,.own 3 U0)])]
def Ct[Lk]:(Int×Int×List U2×List Int×List Int×Int×Unit)→Option ((Int×Int×List U2×List Int×List Int×Int×Unit)⊕Ua⊕Unit):=fun(a0,a1,a2,a3,a4,a5,_)=>
 match(ilt a5 a1)with
 |true=>match idx a3 a5 with|none=>none|some x0=>match idx a3 a0 with|none=>none|some x1=>match(ieq (AN a3 (AE a5) 0) (AN a3 (AE a0) 0))with
  |true=>match(fits ((AM a4)+(AM ([a5]:List (Int)))))with
   |true=>some (.inl (a0,a1,a2,a3,(A8 a4 ([a5]:List (Int))),(IntKind.wrap .i64 (a5+1)),()))
   |false=>none
  |false=>some (.inl (a0,a1,a2,a3,a4,(IntKind.wrap .i64 (a5+1)),()))
 |false=>some (.inr (.inl (a4,())))
def IW[Lk]:V3→Option (Ua):=fun(a0,a1,a2,_)=>
 match IP ((a0.1,(a0.2.1,())),a2,())with|none=>none|some (y0,_)=>match Cj (a0.1,y0,())with|none=>none|some (y1,_)=>match AT Ct many (a1,a0.1,a0.2.1,y1,([]:List (Int)),0,())with|none=>none|some r=>match r with
 |.inl (o2,_)=>some (o2,())
 |.inr _=>none
def Fc[Lk]:=fun v=>Lk.f (IW v)
theorem Pu v:Fc v=IW v:=AI _
def L4[Lk]:Uc→Option (Uc⊕Uf⊕(Unit)⊕Unit):=fun(a0,a1,a2,_)=>
 match(ilt a2 (AM a0))with
 |true=>match idx a0 a2 with|none=>none|some x0=>match(ieq x0 a1)with
  |true=>some (.inr (.inl (true,())))
  |false=>some (.inl (a0,a1,(IntKind.wrap .i64 (a2+1)),()))
 |false=>some (.inr (.inr (.inl ())))
def AG5[Lk]:Un→Option (Uf):=fun(a0,a1,_)=>
 match AT L4 many (a0,a1,0,())with|none=>none|some r=>match r with
 |.inl (o0,_)=>some (o0,())
 |.inr r=>match r with
 |.inl _=>some (false,())
 |.inr _=>none
def AZX[Lk]:=fun v=>Lk.f (AG5 v)
theorem AZW v:AZX v=AG5 v:=AI _
def LL[Lk]:(Ue×Int×Int×Int×Unit)→Option (Un):=fun(a0,a1,a2,a3,_)=>
 match DC ((a0.1,(a0.2.1,())),())with|none=>none|some (y0,_)=>match(!y0)with
 |true=>some (([]:List (Int)),1,())
 |false=>match Abp ((a0.1,(a0.2.1,())),a1,())with|none=>none|some (y1,_)=>match(!y1)with
 |true=>some (([]:List (Int)),10,())
 |false=>match Abp ((a0.1,(a0.2.1,())),a2,())with|none=>none|some (y2,_)=>match(!y2)with
 |true=>some (([]:List (Int)),10,())
 |false=>match Fc ((a0.1,(a0.2.1,())),a1,a3,())with|none=>none|some (y3,_)=>match Fc ((a0.1,(a0.2.1,())),a2,a3,())with|none=>none|some (y4,_)=>match AZX (y3,a2,())with|none=>none|some (y5,_)=>match y5 with
 |true=>some (([]:List (Int)),5,())
 |false=>match(ilt (AM y3) (AM y4))with
 |true=>some (y3,0,())
 |false=>match(ieq (AM y3) (AM y4))with
 |true=>match idx y3 0 with|none=>none|some x6=>match idx y4 0 with|none=>none|some x7=>match(ilt (AN y3 0 0) (AN y4 0 0))with
  |true=>some (y3,0,())
  |false=>some (y4,0,())
 |false=>some (y4,0,())
def ANk[Lk]:=fun v=>Lk.f (LL v)
theorem Ra v:ANk v=LL v:=AI _
abbrev RZ:AF:=[(.tmp 0,.dat Ub)]
abbrev RY:AF:=[(.tmp 0,.dat .bool)]
abbrev RX:List RS:=[.one]
abbrev Xa:AF:=[(.tmp 1,.box 2),(.cell 0 0,.di),(.cell 0 1,.dat Ul),(.tmp 6,.di),(.tmp 7,.di),(.tmp 11,.di)]
abbrev XW:A1:=[(.ret,[(.tmp 2,.dat .bool)]),(.exit 6,[(.tmp 1,.box 2),(.cell 0 0,.di),(.cell 0 1,.dat Ul),(.tmp 6,.di),(.tmp 7,.di)])]
def DK[Lk]:(Int×List U2×Int×Int×Int×Unit)→Option ((Int×List U2×Int×Int×Int×Unit)⊕Uf⊕Vc⊕Unit):=fun(a0,a1,a2,a3,a4,_)=>
 match(ilt a4 a0)with
 |true=>match Fc ((a0,(a1,())),a4,a3,())with|none=>none|some (y0,_)=>match(ilt (imax 1 a2) (AM y0))with
  |true=>some (.inr (.inl (false,())))
  |false=>some (.inl (a0,a1,a2,a3,(IntKind.wrap .i64 (a4+1)),()))
 |false=>some (.inr (.inr (.inl (a0,a1,a2,a3,()))))
abbrev Xb:AF:=[(.tmp 1,.box 2),(.cell 0 0,.di),(.cell 0 1,.dat Ul),(.tmp 6,.di),(.tmp 7,.di),(.tmp 8,.own 3 U0),(.tmp 9,.di)]
abbrev XX:A1:=[(.ret,[(.tmp 2,.dat .bool)]),(.exit 4,[(.tmp 1,.box 2),(.cell 0 0,.di),(.cell 0 1,.dat Ul),(.tmp 6,.di),(.tmp 7,.di)])]
def DL[Lk]:(Int×List U2×Int×Int×List Int×Int×Unit)→Option ((Int×List U2×Int×Int×List Int×Int×Unit)⊕Uf⊕Vc⊕Unit):=fun(a0,a1,a2,a3,a4,a5,_)=>
 match(ilt a5 (AM a1))with
 |true=>match idx a1 a5 with|none=>none|some x0=>match(!x0.2.2.2.1)with
  |true=>match(ieq x0.2.2.1 a3)with
   |true=>match idx a4 x0.1 with|none=>none|some x1=>match idx a4 x0.2.1 with|none=>none|some x2=>match(!(ieq (AN a4 (AE x0.1) 0) (AN a4 (AE x0.2.1) 0)))with
    |true=>some (.inr (.inl (false,())))
    |false=>some (.inl (a0,a1,a2,a3,a4,(IntKind.wrap .i64 (a5+1)),()))
   |false=>some (.inl (a0,a1,a2,a3,a4,(IntKind.wrap .i64 (a5+1)),()))
  |false=>some (.inl (a0,a1,a2,a3,a4,(IntKind.wrap .i64 (a5+1)),()))
 |false=>some (.inr (.inr (.inl (a0,a1,a2,a3,()))))
abbrev Xc:AF:=[(.tmp 1,.box 2),(.cell 0 0,.di),(.cell 0 1,.dat Ul),(.tmp 6,.di),(.tmp 7,.di)]
abbrev XY:A1:=[(.ret,[(.tmp 2,.dat .bool)]),(.exit 2,[])]
def EG[Lk]:Vc→Option (Vc⊕Uf⊕(Unit)⊕Unit):=fun(a0,a1,a2,a3,_)=>
 match LG (a0,())with|none=>none|some (y0,_)=>match(ile a3 y0)with
 |true=>match IP ((a0,(a1,())),a3,())with|none=>none|some (y1,_)=>match Cj (a0,y1,())with|none=>none|some (y2,_)=>match AT DL many (a0,a1,a2,a3,y2,0,())with|none=>none|some r=>match r with
  |.inl (o3,_)=>some (.inr (.inl (o3,())))
  |.inr r=>match r with
  |.inl (o4,o5,o6,o7,_)=>match AT DK many (o4,o5,o6,o7,0,())with|none=>none|some r=>match r with
   |.inl (o8,_)=>some (.inr (.inl (o8,())))
   |.inr r=>match r with
   |.inl (o9,o10,o11,o12,_)=>match quo? .i64 o11 2 with|none=>none|some x13=>some (.inl (o9,o10,x13,(IntKind.wrap .i64 (o12+1)),()))
   |.inr _=>none
  |.inr _=>none
 |false=>some (.inr (.inr (.inl ())))
abbrev Xd:AF:=[(.tmp 1,.box 2),(.cell 0 0,.di),(.cell 0 1,.dat Ul),(.tmp 3,.own 3 U0),(.tmp 4,.own 3 U0),(.tmp 5,.di)]
abbrev XZ:A1:=[(.ret,[(.tmp 2,.dat .bool)]),(.exit 0,[(.tmp 1,.box 2),(.cell 0 0,.di),(.cell 0 1,.dat Ul)])]
def EH[Lk]:(Int×List U2×List Int×List Int×Int×Unit)→Option ((Int×List U2×List Int×List Int×Int×Unit)⊕Uf⊕(Int×List U2×Unit)⊕Unit):=fun(a0,a1,a2,a3,a4,_)=>
 match(ilt a4 a0)with
 |true=>match idx a2 a4 with|none=>none|some x0=>match idx a3 a4 with|none=>none|some x1=>match(!(ieq (AN a2 (AE a4) 0) (AN a3 (AE a4) 0)))with
  |true=>some (.inr (.inl (false,())))
  |false=>some (.inl (a0,a1,a2,a3,(IntKind.wrap .i64 (a4+1)),()))
 |false=>some (.inr (.inr (.inl (a0,a1,()))))
def JF[Lk]:(Ue×Unit)→Option (Uf):=fun(a0,_)=>
 match DC ((a0.1,(a0.2.1,())),())with|none=>none|some (y0,_)=>match(!y0)with
 |true=>some (false,())
 |false=>match Ik ((a0.1,(a0.2.1,())),())with|none=>none|some (y1,_)=>match Cj (a0.1,y1,())with|none=>none|some (y2,_)=>match IP ((a0.1,(a0.2.1,())),0,())with|none=>none|some (y3,_)=>match Cj (a0.1,y3,())with|none=>none|some (y4,_)=>match AT EH many (a0.1,a0.2.1,y2,y4,0,())with|none=>none|some r=>match r with
 |.inl (o5,_)=>some (o5,())
 |.inr r=>match r with
 |.inl (o6,o7,_)=>match AT EG many (o6,o7,o6,0,())with|none=>none|some r=>match r with
  |.inl (o8,_)=>some (o8,())
  |.inr r=>match r with
  |.inl _=>some (true,())
  |.inr _=>none
 |.inr _=>none
def Et[Lk]:=fun v=>Lk.f (JF v)
theorem N8 v:Et v=JF v:=AI _
end
end Go.Pev
end
section
namespace Go.Pev
noncomputable section
attribute [local irreducible] L6 I6 NZ Ks AVQ AVR AVS PV Vn VY Xf I9 AQ many IntKind.wrap AM An AN A8 Bo Da JY AE Bh Bz imax AR Ai
abbrev ARS:AF:=[(.tmp 0,.dat Ul),(.tmp 1,.dat U1),(.tmp 2,.clo 98 [])]
abbrev ARR:AF:=[(.tmp 0,.di),(.tmp 1,.dat .bool)]
abbrev ARQ:List RS:=[.one,.one]
abbrev ASz:AF:=[(.tmp 0,.dat Ul),(.tmp 2,.clo 98 []),(.tmp 4,.box 4),(.cell 0 0,.di),(.cell 0 1,.di),(.cell 0 2,.di),(.cell 0 3,.dat .bool),(.tmp 8,.di),(.tmp 9,.di),(.tmp 10,.di)]
abbrev ASy:A1:=[(.exit 0,[(.tmp 0,.dat Ul),(.tmp 2,.clo 98 []),(.tmp 4,.box 4),(.cell 0 0,.di),(.cell 0 1,.di),(.cell 0 2,.di),(.cell 0 3,.dat .bool),(.tmp 8,.di),(.tmp 9,.di)])]
def KX[Lk]:(List U2×Int×Int×Int×Bool×Int×Int×Int×Unit)→Option ((List U2×Int×Int×Int×Bool×Int×Int×Int×Unit)⊕(List U2×Int×Int×Int×Bool×Int×Int×Unit)⊕Unit):=fun(a0,a1,a2,a3,a4,a5,a6,a7,_)=>
 match(ilt a6 a7)with
 |true=>match shr? .u64 (IntKind.wrap .u64 (IntKind.wrap .i64 (a6+a7))) 1 with|none=>none|some x0=>match idx a0 (IntKind.wrap .i64 x0)with|none=>none|some x1=>match DV ((x1.1,(x1.2.1,(x1.2.2.1,(x1.2.2.2.1,())))),(a1,(a2,(a3,(a4,())))),())with|none=>none|some (y2,_)=>match(ilt y2 0)with
  |true=>some (.inl (a0,a1,a2,a3,a4,a5,(IntKind.wrap .i64 ((IntKind.wrap .i64 x0)+1)),a7,()))
  |false=>some (.inl (a0,a1,a2,a3,a4,a5,a6,(IntKind.wrap .i64 x0),()))
 |false=>some (.inr (.inl (a0,a1,a2,a3,a4,a5,a6,())))
def AHw[Lk]:(List U2×U2×Unit)→Option ((Int×Bool×Unit)):=fun(a0,a1,_)=>
 match AT KX many (a0,a1.1,a1.2.1,a1.2.2.1,a1.2.2.2.1,(AM a0),0,(AM a0),())with|none=>none|some r=>match r with
 |.inl (o0,o1,o2,o3,o4,o5,o6,_)=>match(ilt o6 o5)with
  |true=>match idx o0 o6 with|none=>none|some x7=>match DV ((x7.1,(x7.2.1,(x7.2.2.1,(x7.2.2.2.1,())))),(o1,(o2,(o3,(o4,())))),())with|none=>none|some (y8,_)=>some (o6,(ieq y8 0),())
  |false=>some (o6,false,())
 |.inr _=>none
def AWS[Lk]:=fun v=>Lk.f (AHw v)
theorem AS0 v:AWS v=AHw v:=AI _
abbrev ZY:AF:=[(.tmp 0,.dat Ub),(.tmp 1,.di),(.tmp 2,.di)]
abbrev ZX:AF:=[(.tmp 0,.di),(.tmp 1,.dat .bool)]
abbrev ZW:List RS:=[.one,.one]
def Pw[Lk]:V3→Option ((Int×Bool×Unit)):=fun(a0,a1,a2,_)=>
 match AWS (a0.2.1,((Bz a1 a2),((imax a1 a2),(0,(false,())))),())with|none=>none|some (y0,y1,_)=>some (y0,y1,())
def AGX[Lk]:=fun v=>Lk.f (Pw v)
theorem ADU v:AGX v=Pw v:=AI _
abbrev AGe:AF:=[(.tmp 0,.dat Ub),(.tmp 1,.di),(.tmp 2,.di)]
abbrev AGd:AF:=[(.tmp 0,.di)]
abbrev AGc:List RS:=[.one]
def Wl[Lk]:V3→Option (U9):=fun(a0,a1,a2,_)=>
 match Gl ((a0.1,(a0.2.1,())),())with|none=>none|some (y0,_)=>match(!y0)with
 |true=>some ((-1:Int),())
 |false=>match AGX ((a0.1,(a0.2.1,())),a1,a2,())with|none=>none|some (y1,y2,_)=>match(!y2)with
 |true=>some ((-1:Int),())
 |false=>some (y1,())
def ALO[Lk]:=fun v=>Lk.f (Wl v)
theorem ALN v:ALO v=Wl v:=AI _
abbrev Hx:AF:=[(.tmp 0,.own 3 U0),(.cap 1 0,.box 2),(.cell 1 0,.di),(.cell 1 1,.dat Ui),(.tmp 1,.clo 145 [(1,0)])]
abbrev Hw:AF:=[(.obj 0,.own 3 U0),(.obj 1,.box 2),(.cell 1 0,.di),(.cell 1 1,.dat Ui),(.tmp 0,.di)]
abbrev Hv:List RS:=[.one]
abbrev Kx:AF:=[(.obj 0,.own 3 U0),(.obj 1,.box 2),(.cell 1 0,.di),(.cell 1 1,.dat Ui),(.tmp 0,.own' 0),(.tmp 1,.clo 145 [(1,0)]),(.tmp 7,.di),(.tmp 8,.di)]
abbrev Kw:A1:=[(.ret,[(.obj 0,.own 3 U0),(.obj 1,.box 2),(.cell 1 0,.di),(.cell 1 1,.dat Ui),(.tmp 4,.di)]),(.exit 0,[(.obj 0,.own 3 U0),(.obj 1,.box 2),(.cell 1 0,.di),(.cell 1 1,.dat Ui)])]
def Bk[Lk]:V4→Option (V4⊕V7⊕V5⊕Unit):=fun(a0,a1,a2,a3,a4,_)=>
 match(ilt a4 a3)with
 |true=>match idx a0 a4 with|none=>none|some x0=>match(ile a1 (AN a0 (AE a4) 0))with
  |true=>some (.inr (.inl (a0,a1,a2,a4,())))
  |false=>some (.inl (a0,a1,a2,a3,(IntKind.wrap .i64 (a4+1)),()))
 |false=>some (.inr (.inr (.inl (a0,a1,a2,()))))
def E7[Lk]:V5→Option (V7):=fun(a0,a1,a2,_)=>
 match AT Bk many (a0,a1,a2,(AM a0),0,())with|none=>none|some r=>match r with
 |.inl (o0,o1,o2,o3,_)=>some (o0,o1,o2,o3,())
 |.inr r=>match r with
 |.inl (o4,o5,o6,_)=>some (o4,o5,o6,(-1:Int),())
 |.inr _=>none
def G4[Lk]:=fun v=>Lk.f (E7 v)
theorem Ky v:G4 v=E7 v:=AI _
abbrev H8:AF:=[(.tmp 0,.own 3 U0),(.cap 1 0,.box 2),(.cell 1 0,.di),(.cell 1 1,.dat Ui),(.tmp 1,.clo 145 [(1,0)])]
abbrev H7:AF:=[(.obj 0,.own 3 U0),(.obj 1,.box 2),(.cell 1 0,.di),(.cell 1 1,.dat Ui),(.tmp 0,.win' 0)]
abbrev H6:List RS:=[.one]
abbrev K4:AF:=[(.obj 0,.own 3 U0),(.obj 1,.box 2),(.cell 1 0,.di),(.cell 1 1,.dat Ui),(.tmp 0,.own' 0),(.tmp 1,.clo 145 [(1,0)]),(.tmp 5,.di),(.tmp 6,.di)]
abbrev K0:A1:=[(.exit 0,[(.obj 0,.own 3 U0),(.obj 1,.box 2),(.cell 1 0,.di),(.cell 1 1,.dat Ui),(.tmp 0,.own' 0),(.tmp 5,.di)])]
def CM[Lk]:V4→Option (V4⊕V7⊕Unit):=fun(a0,a1,a2,a3,a4,_)=>
 match(ilt a4 (AM a0))with
 |true=>match idx a0 a4 with|none=>none|some x0=>match(!(ile a1 (AN a0 (AE a4) 0)))with
  |true=>match idx a0 a3 with|none=>none|some x1=>some (.inl ((An a0 (AE a3) (AN a0 (AE a4) 0)),a1,a2,(IntKind.wrap .i64 (a3+1)),(IntKind.wrap .i64 (a4+1)),()))
  |false=>some (.inl (a0,a1,a2,a3,(IntKind.wrap .i64 (a4+1)),()))
 |false=>some (.inr (.inl (a0,a1,a2,a3,())))
def FD[Lk]:V5→Option (V7):=fun(a0,a1,a2,_)=>
 match G4 (a0,a1,a2,())with|none=>none|some (y0,y1,y2,y3,_)=>match(ieq y3 (-1:Int))with
 |true=>some (y0,y1,y2,(AM y0),())
 |false=>match AT CM many (y0,y1,y2,y3,(IntKind.wrap .i64 (y3+1)),())with|none=>none|some r=>match r with
 |.inl (o4,o5,o6,o7,_)=>match CH o4 o7 (AM o4)with|none=>none|some x8=>match CH (Bh (AE o7) (AE (AM x8)) 0 o4) 0 o7 with|none=>none|some x9=>some ((Bh (AE o7) (AE (AM x8)) 0 o4),o5,o6,(((AE (AM x9)):Nat):Int),())
 |.inr _=>none
def FE[Lk]:=fun v=>Lk.f (FD v)
theorem K5 v:FE v=FD v:=AI _
abbrev Ol:AF:=[(.tmp 0,.dat Uo),(.tmp 1,.di)]
abbrev Oj:AF:=[(.tmp 0,.own 3 U0),(.tmp 1,.di)]
abbrev Oi:List RS:=[.one,.one]
def KK[Lk]:Va→Option (Un):=fun(a0,a1,_)=>
 match KJ ((a0.1,(a0.2.1,())),([a1]:List (Int)),())with|none=>none|some (y0,_)=>match(!(ieq y0 0))with
 |true=>some (([]:List (Int)),y0,())
 |false=>match tof ((a0.1,(a0.2.1,())),a1,())with|none=>none|some (y1,_)=>match idx a0.2.1 y1 with|none=>none|some x2=>match AHd x2 with|none=>none|some x3=>match FE (x3,a0.1,a0.2.1,())with|none=>none|some (y4,y5,y6,y7,_)=>match AI7 ((Bo (AE y7) y4),())with|none=>none|some (y8,_)=>some (y8,0,())
def Hz[Lk]:=fun v=>Lk.f (KK v)
theorem UU v:Hz v=KK v:=AI _
abbrev AG9:AF:=[(.tmp 0,.nil U1),(.tmp 1,.di)]
abbrev AG8:AF:=[(.tmp 0,.own 44 U1)]
abbrev AG7:List RS:=[.one]
def Wq[Lk]:U9→Option ((List U2×Unit)):=fun(a0,_)=>
 match(ilt a0 0)with
 |true=>none
 |false=>match(ilt 0 (IntKind.wrap .i64 (a0-(IntKind.wrap .i64 (0-0)))))with
 |true=>match CH ([]:List Unit) 0 0 with|none=>none|some _u0=>match(Kz (IntKind.wrap .i64 (a0-(IntKind.wrap .i64 (0-0)))))with
  |true=>match CH (JY (AE (IntKind.wrap .i64 (a0-(IntKind.wrap .i64 ((0:Int)-(0:Int)))))) ((0:Int),((0:Int),((0:Int),(false,()))))) (0:Int) (0:Int)with|none=>none|some x1=>some ((Bo (AE (AM x1)) (JY (AE (IntKind.wrap .i64 (a0-(IntKind.wrap .i64 ((0:Int)-(0:Int)))))) ((0:Int),((0:Int),((0:Int),(false,())))))),())
  |false=>none
 |false=>some (([]:List U2),())
def ALu[Lk]:=fun v=>Lk.f (Wq v)
theorem ALt v:ALu v=Wq v:=AI _
abbrev S9:AF:=[(.tmp 0,.dat (.slice Ul))]
abbrev S8:AF:=[(.tmp 0,.own 44 U1)]
abbrev S7:List RS:=[.one]
abbrev AAR:AF:=[(.tmp 6,.own 44 U1),(.tmp 25,.dat (.slice Ul)),(.tmp 26,.di),(.tmp 27,.di)]
abbrev AAP:A1:=[(.exit 2,[(.tmp 6,.own 44 U1)])]
def ES[Lk]:(List U2×List (List U2)×Int×Int×Unit)→Option ((List U2×List (List U2)×Int×Int×Unit)⊕(List U2×Unit)⊕Unit):=fun(a0,a1,a2,a3,_)=>
 match(ilt a3 a2)with
 |true=>match idx a1 a3 with|none=>none|some x0=>match(fits ((AM a0)+(AM x0)))with
  |true=>some (.inl ((A8 a0 x0),a1,a2,(IntKind.wrap .i64 (a3+1)),()))
  |false=>none
 |false=>some (.inr (.inl (a0,())))
abbrev AAS:AF:=[(.tmp 0,.dat (.slice Ul)),(.tmp 3,.di),(.tmp 9,.dat (.slice Ul)),(.tmp 10,.di),(.tmp 11,.di)]
abbrev AAQ:A1:=[(.exit 0,[(.tmp 0,.dat (.slice Ul)),(.tmp 3,.di)])]
def ET[Lk]:(List (List U2)×Int×List (List U2)×Int×Int×Unit)→Option ((List (List U2)×Int×List (List U2)×Int×Int×Unit)⊕(List (List U2)×Int×Unit)⊕Unit):=fun(a0,a1,a2,a3,a4,_)=>
 match(ilt a4 a3)with
 |true=>match idx a2 a4 with|none=>none|some x0=>match(ilt (IntKind.wrap .i64 (a1+(AM x0))) 0)with
  |true=>none
  |false=>some (.inl (a0,(IntKind.wrap .i64 (a1+(AM x0))),a2,a3,(IntKind.wrap .i64 (a4+1)),()))
 |false=>some (.inr (.inl (a0,a1,())))
def NF[Lk]:(List (List U2)×Unit)→Option ((List U2×Unit)):=fun(a0,_)=>
 match AT ET many (a0,0,a0,(AM a0),0,())with|none=>none|some r=>match r with
 |.inl (o0,o1,_)=>match ALu (o1,())with|none=>none|some (y2,_)=>match AT ES many (y2,o0,(AM o0),0,())with|none=>none|some r=>match r with
  |.inl (o3,_)=>some (o3,())
  |.inr _=>none
 |.inr _=>none
def NG[Lk]:=fun v=>Lk.f (NF v)
theorem AAT v:NG v=NF v:=AI _
abbrev KE:AF:=[(.tmp 0,.own 42 U6),(.cap 1 0,.box 1),(.cell 1 0,.map U6 U0),(.tmp 1,.clo 116 [(1,0)])]
abbrev KD:AF:=[(.obj 0,.own 42 U6),(.obj 1,.box 1),(.cell 1 0,.map U6 U0),(.obj 2,.map' 2),(.tmp 0,.di)]
abbrev KC:List RS:=[.one]
abbrev No:AF:=[(.obj 0,.own 42 U6),(.obj 1,.box 1),(.cell 1 0,.map U6 U0),(.obj 2,.map' 2),(.tmp 0,.own' 0),(.tmp 1,.clo 116 [(1,0)]),(.tmp 7,.di),(.tmp 8,.di)]
abbrev Nn:A1:=[(.ret,[(.obj 0,.own 42 U6),(.obj 1,.box 1),(.cell 1 0,.map U6 U0),(.obj 2,.map' 2),(.tmp 4,.di)]),(.exit 0,[(.obj 0,.own 42 U6),(.obj 1,.box 1),(.cell 1 0,.map U6 U0),(.obj 2,.map' 2)])]
def I5[Lk]:V1→Option (V1⊕V6⊕(List U4×List (U4×Int)×Unit)⊕Unit):=fun(a0,a1,a2,a3,_)=>
 match(ilt a3 a2)with
 |true=>match idx a0 a3 with|none=>none|some x0=>match(ieq ((AR a1 ((AN a0 (AE a3) (0,(0,()))).1,((AN a0 (AE a3) (0,(0,()))).2.1,()))).getD 0) 0)with
  |true=>some (.inr (.inl (a0,a1,a3,())))
  |false=>some (.inl (a0,a1,a2,(IntKind.wrap .i64 (a3+1)),()))
 |false=>some (.inr (.inr (.inl (a0,a1,()))))
def KG[Lk]:(List U4×List (U4×Int)×Unit)→Option (V6):=fun(a0,a1,_)=>
 match AT I5 many (a0,a1,(AM a0),0,())with|none=>none|some r=>match r with
 |.inl (o0,o1,o2,_)=>some (o0,o1,o2,())
 |.inr r=>match r with
 |.inl (o3,o4,_)=>some (o3,o4,(-1:Int),())
 |.inr _=>none
def KH[Lk]:=fun v=>Lk.f (KG v)
theorem ACG v:KH v=KG v:=AI _
abbrev KS:AF:=[(.tmp 0,.own 42 U6),(.cap 1 0,.box 1),(.cell 1 0,.map U6 U0),(.tmp 1,.clo 116 [(1,0)])]
abbrev KR:AF:=[(.obj 0,.own 42 U6),(.obj 1,.box 1),(.cell 1 0,.map U6 U0),(.obj 2,.map' 2),(.tmp 0,.win' 0)]
abbrev KQ:List RS:=[.one]
abbrev Ns:AF:=[(.obj 0,.own 42 U6),(.obj 1,.box 1),(.cell 1 0,.map U6 U0),(.obj 2,.map' 2),(.tmp 0,.own' 0),(.tmp 1,.clo 116 [(1,0)]),(.tmp 5,.di),(.tmp 6,.di)]
abbrev Nr:A1:=[(.exit 0,[(.obj 0,.own 42 U6),(.obj 1,.box 1),(.cell 1 0,.map U6 U0),(.obj 2,.map' 2),(.tmp 0,.own' 0),(.tmp 5,.di)])]
def I8[Lk]:V1→Option (V1⊕V6⊕Unit):=fun(a0,a1,a2,a3,_)=>
 match(ilt a3 (AM a0))with
 |true=>match idx a0 a3 with|none=>none|some x0=>match(!(ieq ((AR a1 ((AN a0 (AE a3) (0,(0,()))).1,((AN a0 (AE a3) (0,(0,()))).2.1,()))).getD 0) 0))with
  |true=>match idx a0 a2 with|none=>none|some x1=>some (.inl ((An a0 (AE a2) ((AN a0 (AE a3) (0,(0,()))).1,((AN a0 (AE a3) (0,(0,()))).2.1,()))),a1,(IntKind.wrap .i64 (a2+1)),(IntKind.wrap .i64 (a3+1)),()))
  |false=>some (.inl (a0,a1,a2,(IntKind.wrap .i64 (a3+1)),()))
 |false=>some (.inr (.inl (a0,a1,a2,())))
def KU[Lk]:(List U4×List (U4×Int)×Unit)→Option (V6):=fun(a0,a1,_)=>
 match KH (a0,a1,())with|none=>none|some (y0,y1,y2,_)=>match(ieq y2 (-1:Int))with
 |true=>some (y0,y1,(AM y0),())
 |false=>match AT I8 many (y0,y1,y2,(IntKind.wrap .i64 (y2+1)),())with|none=>none|some r=>match r with
 |.inl (o3,o4,o5,_)=>match CH o3 o5 (AM o3)with|none=>none|some x6=>match CH (Bh (AE o5) (AE (AM x6)) (0,(0,())) o3) 0 o5 with|none=>none|some x7=>some ((Bh (AE o5) (AE (AM x6)) (0,(0,())) o3),o4,(((AE (AM x7)):Nat):Int),())
 |.inr _=>none
def KV[Lk]:=fun v=>Lk.f (KU v)
theorem ACO v:KV v=KU v:=AI _
abbrev AFd:AF:=[(.tmp 0,.dat Ub),(.tmp 1,.dat Uz)]
abbrev AFc:AF:=[(.tmp 0,.own 42 U6),(.tmp 1,.di)]
abbrev AFb:List RS:=[.one,.one]
abbrev AJo:AF:=[(.tmp 2,.box 2),(.cell 0 0,.di),(.cell 0 1,.dat Ul),(.tmp 6,.box 1),(.cell 1 0,.map U6 U0),(.tmp 13,.dat Uz),(.tmp 14,.di),(.tmp 15,.di)]
abbrev AJn:A1:=[(.ret,[(.tmp 4,.nil U6),(.tmp 5,.di)]),(.exit 0,[(.tmp 2,.box 2),(.cell 0 0,.di),(.cell 0 1,.dat Ul),(.tmp 6,.box 1),(.cell 1 0,.map U6 U0)])]
def YU[Lk]:(Int×List U2×List (U4×Int)×List U4×Int×Int×Unit)→Option ((Int×List U2×List (U4×Int)×List U4×Int×Int×Unit)⊕U9⊕(Int×List U2×List (U4×Int)×Unit)⊕Unit):=fun(a0,a1,a2,a3,a4,a5,_)=>
 match(ilt a5 a4)with
 |true=>match idx a3 a5 with|none=>none|some x0=>match(ilt (Bz x0.1 x0.2.1) 0)with
  |true=>some (.inr (.inl (10,())))
  |false=>match(ile a0 (imax x0.1 x0.2.1))with
  |true=>some (.inr (.inl (10,())))
  |false=>match(ile 0 (AJe a2 ((Bz x0.1 x0.2.1),((imax x0.1 x0.2.1),())))&&ilt (AJe a2 ((Bz x0.1 x0.2.1),((imax x0.1 x0.2.1),()))) (AM (Ai a2 ((Bz x0.1 x0.2.1),((imax x0.1 x0.2.1),())) ((AR a2 ((Bz x0.1 x0.2.1),((imax x0.1 x0.2.1),()))).getD 0))))with
  |true=>some (.inl (a0,a1,(AbO (Ai a2 ((Bz x0.1 x0.2.1),((imax x0.1 x0.2.1),())) ((AR a2 ((Bz x0.1 x0.2.1),((imax x0.1 x0.2.1),()))).getD 0)) (AJe a2 ((Bz x0.1 x0.2.1),((imax x0.1 x0.2.1),()))) (IntKind.wrap .i64 (((AR a2 ((Bz x0.1 x0.2.1),((imax x0.1 x0.2.1),()))).getD 0)+1))),a3,a4,(IntKind.wrap .i64 (a5+1)),()))
  |false=>none
 |false=>some (.inr (.inr (.inl (a0,a1,a2,()))))
def AFf[Lk]:(Ue×List U4×Unit)→Option ((List U4×Int×Unit)):=fun(a0,a1,_)=>
 match Gl ((a0.1,(a0.2.1,())),())with|none=>none|some (y0,_)=>match(!y0)with
 |true=>some (([]:List U4),1,())
 |false=>match AT YU many (a0.1,a0.2.1,([]:List (U4×Int)),a1,(AM a1),0,())with|none=>none|some r=>match r with
 |.inl (o1,_)=>some (([]:List U4),o1,())
 |.inr r=>match r with
 |.inl (o2,o3,o4,_)=>match AGm ((o2,(o3,())),())with|none=>none|some (y5,_)=>match KV (y5,o4,())with|none=>none|some (y6,y7,y8,_)=>some ((Bo (AE y8) y6),0,())
 |.inr _=>none
def AJp[Lk]:=fun v=>Lk.f (AFf v)
theorem AXv v:AJp v=AFf v:=AI _
abbrev YY:AF:=[(.tmp 0,.dat Ub),(.tmp 1,.di),(.tmp 2,.di)]
abbrev YX:AF:=[(.tmp 0,.di),(.tmp 1,.di)]
abbrev YW:List RS:=[.one,.one]
def LV[Lk]:V3→Option (U4):=fun(a0,a1,a2,_)=>
 match Gl ((a0.1,(a0.2.1,())),())with|none=>none|some (y0,_)=>match(!y0)with
 |true=>some (0,1,())
 |false=>match(ilt (Bz a1 a2) 0)with
 |true=>some (0,10,())
 |false=>match(ile a0.1 (imax a1 a2))with
 |true=>some (0,10,())
 |false=>match ALO ((a0.1,(a0.2.1,())),a1,a2,())with|none=>none|some (y1,_)=>match(ilt y1 0)with
 |true=>some (0,6,())
 |false=>some (y1,0,())
def OE[Lk]:=fun v=>Lk.f (LV v)
theorem Rs v:OE v=LV v:=AI _
abbrev AFU:AF:=[(.tmp 0,.dat Ub),(.tmp 1,.di),(.tmp 2,.di),(.tmp 3,.di)]
abbrev AFT:AF:=[(.tmp 0,.own 3 U0),(.tmp 1,.di)]
abbrev AFS:List RS:=[.one,.one]
def PW[Lk]:(Ue×Int×Int×Int×Unit)→Option (Un):=fun(a0,a1,a2,a3,_)=>
 match OE ((a0.1,(a0.2.1,())),a1,a2,())with|none=>none|some (y0,y1,_)=>match(ieq y1 1)with
 |true=>some (([]:List (Int)),y1,())
 |false=>match(ieq y1 10)with
 |true=>some (([]:List (Int)),y1,())
 |false=>match M6 ((a0.1,(a0.2.1,())),a3,())with|none=>none|some (y2,y3,_)=>match Hz ((y2.1,(y2.2.1,())),a1,())with|none=>none|some (y4,y5,_)=>match Hz ((y2.1,(y2.2.1,())),a2,())with|none=>none|some (y6,y7,_)=>match El (y4,a2,())with|none=>none|some (y8,_)=>match y8 with
 |true=>some (([]:List (Int)),5,())
 |false=>match FI ((AM y4),(AM y6),())with|none=>none|some (y9,_)=>match idx y4 0 with|none=>none|some x10=>match idx y6 0 with|none=>none|some x11=>match FI ((AN y4 0 0),(AN y6 0 0),())with|none=>none|some (y12,_)=>match orI (([y9,y12]:List (Int)),())with|none=>none|some (y13,_)=>match(ilt y13 0)with
 |true=>some (y4,0,())
 |false=>some (y6,0,())
def Tr[Lk]:=fun v=>Lk.f (PW v)
theorem YA v:Tr v=PW v:=AI _
abbrev AYF:AF:=[(.tmp 0,.box 8),(.cell 0 0,.di),(.cell 0 1,.own 44 U1),(.cell 0 2,.dat .bool),(.cell 0 3,.dat .bool),(.cell 0 4,.di),(.cell 0 5,.di),(.cell 0 6,.di),(.cell 0 7,.di),(.tmp 1,.di),(.tmp 2,.di),(.tmp 3,.di)]
abbrev AYB:AF:=[(.obj 0,.box 8),(.cell 0 0,.di),(.cell 0 1,.own 44 U1),(.cell 0 2,.dat .bool),(.cell 0 3,.dat .bool),(.cell 0 4,.di),(.cell 0 5,.di),(.cell 0 6,.di),(.cell 0 7,.di),(.obj 1,.own' 1),(.tmp 0,.dat .bool)]
abbrev AX7:List RS:=[.one]
abbrev AYC:AF:=[(.obj 0,.box 8),(.cell 0 0,.di),(.cell 0 1,.own 44 U1),(.cell 0 2,.dat .bool),(.cell 0 3,.dat .bool),(.cell 0 4,.di),(.cell 0 5,.di),(.cell 0 6,.di),(.cell 0 7,.di),(.obj 1,.own' 1),(.tmp 0,.ptr' 0 0),(.cap 14 0,.box 1),(.cell 2 0,.map U0 U0),(.tmp 14,.clo 141 [(2,0)]),(.tmp 86,.prs 157 1),(.tmp 87,.di),(.tmp 88,.di)]
abbrev AX8:A1:=[(.exit 5,[(.obj 0,.box 8),(.cell 0 0,.di),(.cell 0 1,.own 44 U1),(.cell 0 2,.dat .bool),(.cell 0 3,.dat .bool),(.cell 0 4,.di),(.cell 0 5,.di),(.cell 0 6,.di),(.cell 0 7,.di),(.obj 1,.own' 1)]),(.ret,[(.obj 0,.box 8),(.cell 0 0,.di),(.cell 0 1,.own 44 U1),(.cell 0 2,.dat .bool),(.cell 0 3,.dat .bool),(.cell 0 4,.di),(.cell 0 5,.di),(.cell 0 6,.di),(.cell 0 7,.di),(.obj 1,.own' 1),(.tmp 8,.dat .bool)])]
def LZ[Lk]:Vd→Option (Vd⊕(Int×List U2×Bool×Bool×Int×Int×Int×Int×Unit)⊕(Int×List U2×Bool×Bool×Int×Int×Int×Int×Bool×Unit)⊕Unit):=fun(a0,a1,a2,a3,a4,a5,a6,a7,a8,a9,a10,a11,_)=>
 match(ilt a11 a10)with
 |true=>match idx a9 a11 with|none=>none|some x0=>match(ieq (IntKind.wrap .i64 (((AR a8 (AN a1 (AE (AN a9 (AE a11) 0)) (0,(0,(0,(false,()))))).1).getD 0)+((AR a8 (AN a1 (AE (AN a9 (AE a11) 0)) (0,(0,(0,(false,()))))).2.1).getD 0))) 0)with
  |true=>some (.inl (a0,a1,a2,a3,a4,a5,a6,a7,a8,a9,a10,(IntKind.wrap .i64 (a11+1)),()))
  |false=>match(ieq (IntKind.wrap .i64 (((AR a8 (AN a1 (AE (AN a9 (AE a11) 0)) (0,(0,(0,(false,()))))).1).getD 0)+((AR a8 (AN a1 (AE (AN a9 (AE a11) 0)) (0,(0,(0,(false,()))))).2.1).getD 0))) 2)with
  |true=>some (.inl (a0,(An a1 (AE (AN a9 (AE a11) 0)) ((AN a1 (AE (AN a9 (AE a11) 0)) (0,(0,(0,(false,()))))).1,((AN a1 (AE (AN a9 (AE a11) 0)) (0,(0,(0,(false,()))))).2.1,((Bz a7 (IntKind.wrap .i64 ((AN a1 (AE (AN a9 (AE a11) 0)) (0,(0,(0,(false,()))))).2.2.1+1))),((AN a1 (AE (AN a9 (AE a11) 0)) (0,(0,(0,(false,()))))).2.2.2.1,()))))),a2,a3,a4,a5,(IntKind.wrap .i64 (a6+1)),a7,a8,a9,a10,(IntKind.wrap .i64 (a11+1)),()))
  |false=>match(ieq (IntKind.wrap .i64 (((AR a8 (AN a1 (AE (AN a9 (AE a11) 0)) (0,(0,(0,(false,()))))).1).getD 0)+((AR a8 (AN a1 (AE (AN a9 (AE a11) 0)) (0,(0,(0,(false,()))))).2.1).getD 0))) 1)with
  |true=>some (.inr (.inr (.inl (a0,(An a1 (AE (AN a9 (AE a11) 0)) ((AN a1 (AE (AN a9 (AE a11) 0)) (0,(0,(0,(false,()))))).1,((AN a1 (AE (AN a9 (AE a11) 0)) (0,(0,(0,(false,()))))).2.1,((AN a1 (AE (AN a9 (AE a11) 0)) (0,(0,(0,(false,()))))).2.2.1,(true,()))))),a2,true,(AN (An a1 (AE (AN a9 (AE a11) 0)) ((AN a1 (AE (AN a9 (AE a11) 0)) (0,(0,(0,(false,()))))).1,((AN a1 (AE (AN a9 (AE a11) 0)) (0,(0,(0,(false,()))))).2.1,((AN a1 (AE (AN a9 (AE a11) 0)) (0,(0,(0,(false,()))))).2.2.1,(true,()))))) (AE (AN a9 (AE a11) 0)) (0,(0,(0,(false,()))))).1,(AN (An a1 (AE (AN a9 (AE a11) 0)) ((AN a1 (AE (AN a9 (AE a11) 0)) (0,(0,(0,(false,()))))).1,((AN a1 (AE (AN a9 (AE a11) 0)) (0,(0,(0,(false,()))))).2.1,((AN a1 (AE (AN a9 (AE a11) 0)) (0,(0,(0,(false,()))))).2.2.1,(true,()))))) (AE (AN a9 (AE a11) 0)) (0,(0,(0,(false,()))))).2.1,a6,a7,true,()))))
  |false=>some (.inl (a0,a1,a2,a3,a4,a5,a6,a7,a8,a9,a10,(IntKind.wrap .i64 (a11+1)),()))
 |false=>some (.inr (.inl (a0,a1,a2,a3,a4,a5,a6,a7,())))
abbrev AYD:AF:=[(.obj 0,.box 8),(.cell 0 0,.di),(.cell 0 1,.own 44 U1),(.cell 0 2,.dat .bool),(.cell 0 3,.dat .bool),(.cell 0 4,.di),(.cell 0 5,.di),(.cell 0 6,.di),(.cell 0 7,.di),(.obj 1,.own' 1),(.tmp 0,.ptr' 0 0),(.tmp 3,.di),(.cap 14 0,.box 1),(.cell 2 0,.map U0 U0),(.tmp 14,.clo 141 [(2,0)]),(.tmp 15,.prs 157 1),(.tmp 47,.di),(.tmp 48,.di)]
abbrev AX9:A1:=[(.exit 2,[(.obj 0,.box 8),(.cell 0 0,.di),(.cell 0 1,.own 44 U1),(.cell 0 2,.dat .bool),(.cell 0 3,.dat .bool),(.cell 0 4,.di),(.cell 0 5,.di),(.cell 0 6,.di),(.cell 0 7,.di),(.obj 1,.own' 1),(.tmp 0,.ptr' 0 0),(.cap 14 0,.box 1),(.cell 2 0,.map U0 U0),(.tmp 14,.clo 141 [(2,0)]),(.tmp 15,.prs 157 1)])]
def La[Lk]:Um→Option (Um⊕(Int×List U2×Bool×Bool×Int×Int×Int×Int×List Ur×List Int×Unit)⊕Unit):=fun(a0,a1,a2,a3,a4,a5,a6,a7,a8,a9,a10,a11,a12,_)=>
 match(ilt a12 a11)with
 |true=>match idx a1 a12 with|none=>none|some x0=>match(!(ieq (AN a1 (AE a12) (0,(0,(0,(false,()))))).2.2.1 a8))with
  |true=>some (.inl (a0,a1,a2,a3,a4,a5,a6,a7,a8,a9,a10,a11,(IntKind.wrap .i64 (a12+1)),()))
  |false=>match(!(AN a1 (AE a12) (0,(0,(0,(false,()))))).2.2.2.1)with
  |true=>match(fits ((AM a10)+(AM ([(Int.ofNat (AE a12))]:List (Int)))))with
   |true=>some (.inl (a0,a1,a2,a3,a4,a5,a6,a7,a8,a9,(A8 a10 ([(Int.ofNat (AE a12))]:List (Int))),a11,(IntKind.wrap .i64 (a12+1)),()))
   |false=>none
  |false=>match(ieq (IntKind.wrap .i64 (((AR a9 (AN a1 (AE a12) (0,(0,(0,(false,()))))).1).getD 0)+((AR a9 (AN a1 (AE a12) (0,(0,(0,(false,()))))).2.1).getD 0))) 2)with
  |true=>some (.inl (a0,(An a1 (AE a12) ((AN a1 (AE a12) (0,(0,(0,(false,()))))).1,((AN a1 (AE a12) (0,(0,(0,(false,()))))).2.1,((Bz a7 (IntKind.wrap .i64 ((AN a1 (AE a12) (0,(0,(0,(false,()))))).2.2.1+1))),((AN a1 (AE a12) (0,(0,(0,(false,()))))).2.2.2.1,()))))),a2,a3,a4,a5,(IntKind.wrap .i64 (a6+1)),a7,a8,a9,a10,a11,(IntKind.wrap .i64 (a12+1)),()))
  |false=>some (.inl (a0,a1,a2,a3,a4,a5,a6,a7,a8,a9,a10,a11,(IntKind.wrap .i64 (a12+1)),()))
 |false=>some (.inr (.inl (a0,a1,a2,a3,a4,a5,a6,a7,a9,a10,())))
abbrev AYE:AF:=[(.obj 0,.box 8),(.cell 0 0,.di),(.cell 0 1,.own 44 U1),(.cell 0 2,.dat .bool),(.cell 0 3,.dat .bool),(.cell 0 4,.di),(.cell 0 5,.di),(.cell 0 6,.di),(.cell 0 7,.di),(.obj 1,.own' 1),(.tmp 0,.ptr' 0 0),(.tmp 3,.di),(.tmp 11,.box 1),(.cell 2 0,.map U0 U0),(.tmp 32,.own 3 U0),(.tmp 33,.di),(.tmp 34,.di)]
abbrev AYA:A1:=[(.exit 0,[(.obj 0,.box 8),(.cell 0 0,.di),(.cell 0 1,.own 44 U1),(.cell 0 2,.dat .bool),(.cell 0 3,.dat .bool),(.cell 0 4,.di),(.cell 0 5,.di),(.cell 0 6,.di),(.cell 0 7,.di),(.obj 1,.own' 1),(.tmp 0,.ptr' 0 0),(.tmp 3,.di),(.tmp 11,.box 1),(.cell 2 0,.map U0 U0)])]
def Lb[Lk]:Um→Option (Um⊕(Int×List U2×Bool×Bool×Int×Int×Int×Int×Int×List Ur×Unit)⊕Unit):=fun(a0,a1,a2,a3,a4,a5,a6,a7,a8,a9,a10,a11,a12,_)=>
 match(ilt a12 a11)with
 |true=>match idx a10 a12 with|none=>none|some x0=>some (.inl (a0,a1,a2,a3,a4,a5,a6,a7,a8,(Ai a9 (AN a10 (AE a12) 0) 1),a10,a11,(IntKind.wrap .i64 (a12+1)),()))
 |false=>some (.inr (.inl (a0,a1,a2,a3,a4,a5,a6,a7,a8,a9,())))
def ASD[Lk]:(Int×List U2×Bool×Bool×Int×Int×Int×Int×Int×Int×Int×Unit)→Option ((Int×List U2×Bool×Bool×Int×Int×Int×Int×Bool×Unit)):=fun(a0,a1,a2,a3,a4,a5,a6,a7,a8,a9,a10,_)=>
 match Tr ((a0,(a1,())),a8,a9,a10,())with|none=>none|some (y0,y1,_)=>match AT Lb many (a0,a1,a2,a3,a4,a5,a6,a7,a10,([]:List Ur),y0,(AM y0),0,())with|none=>none|some r=>match r with
 |.inl (o2,o3,o4,o5,o6,o7,o8,o9,o10,o11,_)=>match AT La many (o2,o3,o4,o5,o6,o7,o8,o9,o10,o11,([]:List (Int)),(AM o3),0,())with|none=>none|some r=>match r with
  |.inl (o12,o13,o14,o15,o16,o17,o18,o19,o20,o21,_)=>match AT LZ many (o12,o13,o14,o15,o16,o17,o18,o19,o20,o21,(AM o21),0,())with|none=>none|some r=>match r with
   |.inl (o22,o23,o24,o25,o26,o27,o28,o29,_)=>some (o22,o23,o24,o25,o26,o27,o28,o29,false,())
   |.inr r=>match r with
   |.inl (o30,o31,o32,o33,o34,o35,o36,o37,o38,_)=>some (o30,o31,o32,o33,o34,o35,o36,o37,o38,())
   |.inr _=>none
  |.inr _=>none
 |.inr _=>none
def pat[Lk]:=fun v=>Lk.f (ASD v)
theorem AYG v:pat v=ASD v:=AI _
abbrev AOT:AF:=[(.tmp 0,.dat Ub),(.tmp 1,.di),(.tmp 2,.di)]
abbrev AOS:AF:=[(.tmp 0,.di),(.tmp 1,.dat Ul),(.tmp 2,.dat Ux),(.tmp 3,.di)]
abbrev AOR:List RS:=[.agg 2,.one,.one]
abbrev AR4:AF:=[(.tmp 6,.box 2),(.cell 0 0,.di),(.cell 0 1,.nil U1),(.tmp 7,.box 5),(.cell 1 0,.dat .bool),(.cell 1 1,.dat .bool),(.cell 1 2,.di),(.cell 1 3,.di),(.cell 1 4,.di),(.tmp 11,.box 4),(.cell 2 0,.di),(.cell 2 1,.di),(.cell 2 2,.di),(.cell 2 3,.dat .bool),(.tmp 12,.box 8),(.cell 3 0,.di),(.cell 3 1,.own 44 U1),(.cell 3 2,.dat .bool),(.cell 3 3,.dat .bool),(.cell 3 4,.di),(.cell 3 5,.di),(.cell 3 6,.di),(.cell 3 7,.di),(.tmp 13,.di)]
abbrev AR3:A1:=[(.exit 0,[(.tmp 6,.box 2),(.cell 0 0,.di),(.cell 0 1,.nil U1),(.tmp 7,.box 5),(.cell 1 0,.dat .bool),(.cell 1 1,.dat .bool),(.cell 1 2,.di),(.cell 1 3,.di),(.cell 1 4,.di),(.tmp 12,.box 8),(.cell 2 0,.di),(.cell 2 1,.own 44 U1),(.cell 2 2,.dat .bool),(.cell 2 3,.dat .bool),(.cell 2 4,.di),(.cell 2 5,.di),(.cell 2 6,.di),(.cell 2 7,.di)])]
def EA[Lk]:V2→Option (V2⊕(Int×Bool×Bool×Int×Int×Int×Int×List U2×Bool×Bool×Int×Int×Int×Int×Unit)⊕Unit):=fun(a0,a1,a2,a3,a4,a5,a6,a7,a8,a9,a10,a11,a12,a13,a14,a15,a16,a17,a18,_)=>
 match a9 with
 |true=>match(ile 0 a18)with
  |true=>match pat (a10,a11,a12,a13,a14,a15,a16,a17,a6,a7,a18,())with|none=>none|some (y0,y1,y2,y3,y4,y5,y6,y7,y8,_)=>match(!y8)with
   |true=>some (.inl (a0,a1,a2,a3,a4,a5,a6,a7,a8,a9,y0,y1,y2,y3,y4,y5,y6,y7,(IntKind.wrap .i64 (a18-1)),()))
   |false=>some (.inr (.inl (a0,a1,a2,a3,a4,a5,y0,y1,y2,y3,y4,y5,y6,y7,())))
  |false=>some (.inr (.inl (a0,a1,a2,a3,a4,a5,a10,a11,a12,a13,a14,a15,a16,a17,())))
 |false=>some (.inr (.inl (a0,a1,a2,a3,a4,a5,a10,a11,a12,a13,a14,a15,a16,a17,())))
def AFX[Lk]:V3→Option ((Int×List U2×Up×Int×Unit)):=fun(a0,a1,a2,_)=>
 match OE ((a0.1,(a0.2.1,())),a1,a2,())with|none=>none|some (y0,y1,_)=>match(!(ieq y1 0))with
 |true=>some (a0.1,a0.2.1,(false,(false,((0,(0,())),(0,())))),y1,())
 |false=>match idx a0.2.1 y0 with|none=>none|some x2=>match CH a0.2.1 0 y0 with|none=>none|some x3=>match CH a0.2.1 (IntKind.wrap .i64 (y0+1)) (AM a0.2.1)with|none=>none|some x4=>match NG (([x3,x4]:List (List U2)),())with|none=>none|some (y5,_)=>match ACA (a0.1,())with|none=>none|some (y6,_)=>match AT EA many (0,false,false,0,0,0,x2.1,x2.2.1,x2.2.2.1,x2.2.2.2.1,a0.1,y5,x2.2.2.2.1,false,0,0,0,y6,x2.2.2.1,())with|none=>none|some r=>match r with
 |.inl (o7,o8,o9,o10,o11,o12,o13,o14,o15,o16,o17,o18,o19,o20,_)=>some (o13,o14,(o15,(o16,((o17,(o18,())),(o19,())))),0,())
 |.inr _=>none
def ABl[Lk]:=fun v=>Lk.f (AFX v)
theorem AR5 v:ABl v=AFX v:=AI _
abbrev AFj:AF:=[(.tmp 0,.dat Ub),(.tmp 1,.dat Uz)]
abbrev AFi:AF:=[(.tmp 0,.dat Ub),(.tmp 1,.own 71 Ux),(.tmp 2,.di)]
abbrev AFh:List RS:=[.one,.one,.one]
abbrev AJu:AF:=[(.tmp 2,.box 2),(.cell 0 0,.di),(.cell 0 1,.dat Ul),(.tmp 4,.box 2),(.cell 1 0,.di),(.cell 1 1,.nil U1),(.tmp 9,.own 71 Ux),(.tmp 10,.box 2),(.cell 3 0,.di),(.cell 3 1,.dat Ul),(.tmp 27,.own 42 U6),(.tmp 28,.di),(.tmp 29,.di)]
abbrev AJt:A1:=[(.ret,[(.tmp 4,.box 2),(.cell 0 0,.di),(.cell 0 1,.dat Ul),(.tmp 5,.nil Ux),(.tmp 6,.di)]),(.exit 0,[(.tmp 4,.box 2),(.cell 0 0,.di),(.cell 0 1,.nil U1),(.tmp 9,.own 71 Ux),(.tmp 10,.box 2),(.cell 2 0,.di),(.cell 2 1,.dat Ul)])]
def YZ[Lk]:Vl→Option (Vl⊕(Int×List U2×Int×Unit)⊕(Int×List Up×Int×List U2×Unit)⊕Unit):=fun(a0,a1,a2,a3,a4,a5,a6,a7,a8,_)=>
 match(ilt a8 a7)with
 |true=>match idx a6 a8 with|none=>none|some x0=>match ABl ((a4,(a5,())),(AN a6 (AE a8) (0,(0,()))).1,(AN a6 (AE a8) (0,(0,()))).2.1,())with|none=>none|some (y1,y2,y3,y4,_)=>match(!(ieq y4 0))with
  |true=>some (.inr (.inl (a0,a1,y4,())))
  |false=>match(fits ((AM a3)+(AM ([(y3.1,(y3.2.1,((y3.2.2.1.1,(y3.2.2.1.2.1,())),(y3.2.2.2.1,()))))]:List Up))))with
  |true=>some (.inl (a0,a1,a2,(A8 a3 ([(y3.1,(y3.2.1,((y3.2.2.1.1,(y3.2.2.1.2.1,())),(y3.2.2.2.1,()))))]:List Up)),y1,y2,a6,a7,(IntKind.wrap .i64 (a8+1)),()))
  |false=>none
 |false=>some (.inr (.inr (.inl (a2,a3,a4,a5,()))))
def AFl[Lk]:(Ue×List U4×Unit)→Option ((Ue×List Up×Int×Unit)):=fun(a0,a1,_)=>
 match AJp ((a0.1,(a0.2.1,())),a1,())with|none=>none|some (y0,y1,_)=>match(!(ieq y1 0))with
 |true=>some ((a0.1,(a0.2.1,())),([]:List Up),y1,())
 |false=>match AT YZ many (a0.1,a0.2.1,0,([]:List Up),a0.1,a0.2.1,y0,(AM y0),0,())with|none=>none|some r=>match r with
 |.inl (o2,o3,o4,_)=>some ((o2,(o3,())),([]:List Up),o4,())
 |.inr r=>match r with
 |.inl (o5,o6,o7,o8,_)=>some ((o7,(o8,())),o6,0,())
 |.inr _=>none
def AR6[Lk]:=fun v=>Lk.f (AFl v)
theorem AX1 v:AR6 v=AFl v:=AI _
abbrev TN:AF:=[]
abbrev TM:AF:=[(.tmp 0,.dat .bool)]
abbrev TL:List RS:=[.one]
def TO[Lk]:(Unit)→Option (Uf):=fun _=>
 match ABl ((4,(([(0,(1,(0,(true,())))),(0,(2,(0,(true,())))),(1,(2,(0,(false,())))),(2,(3,(0,(true,()))))]:List U2),())),1,0,())with|none=>none|some (y0,y1,y2,y3,_)=>match AR6 ((4,(([(0,(1,(0,(true,())))),(0,(2,(0,(true,())))),(1,(2,(0,(false,())))),(2,(3,(0,(true,()))))]:List U2),())),([(3,(2,())),(0,(1,())),(1,(3,())),(1,(0,()))]:List U4),())with|none=>none|some (y4,y5,y6,_)=>match Tr ((y0,(y1,())),0,3,1,())with|none=>none|some (y7,y8,_)=>match AJp ((4,(([(0,(1,(0,(true,())))),(0,(2,(0,(true,())))),(1,(2,(0,(false,())))),(2,(3,(0,(true,()))))]:List U2),())),([(2,(1,())),(3,(0,()))]:List U4),())with|none=>none|some (y9,y10,_)=>match ABl ((4,(([(0,(1,(0,(true,())))),(0,(2,(0,(true,())))),(1,(2,(0,(false,())))),(2,(3,(0,(true,()))))]:List U2),())),0,3,())with|none=>none|some (y11,y12,y13,y14,_)=>match Tr ((4,(([(0,(1,(0,(true,())))),(0,(2,(0,(true,())))),(1,(2,(0,(false,())))),(2,(3,(0,(true,()))))]:List U2),())),0,3,0,())with|none=>none|some (y15,y16,_)=>match(ieq y3 0)with
 |true=>match(ieq y6 0)with
  |true=>match(ieq y8 0)with
   |true=>match(ieq y10 0)with
    |true=>match(ieq y14 6)with
     |true=>match(ieq y16 5)with
      |true=>match((y2.1==true)&&((y2.2.1==true)&&(ieq y2.2.2.1.1 1&&(ieq y2.2.2.1.2.1 2&&(ieq y2.2.2.2.1 0&&true)))))with
       |true=>match Rd ((y0,(y1,())),(4,(([(0,(2,(0,(true,())))),(1,(2,(0,(true,())))),(2,(3,(0,(true,()))))]:List U2),())),())with|none=>none|some (y17,_)=>match y17 with
        |true=>match(ieq (AM y5) 2)with
         |true=>match idx y5 1 with|none=>none|some x18=>match(((AN y5 1 (false,(false,((0,(0,())),(0,()))))).1==true)&&(((AN y5 1 (false,(false,((0,(0,())),(0,()))))).2.1==false)&&(ieq (AN y5 1 (false,(false,((0,(0,())),(0,()))))).2.2.1.1 0&&(ieq (AN y5 1 (false,(false,((0,(0,())),(0,()))))).2.2.1.2.1 0&&(ieq (AN y5 1 (false,(false,((0,(0,())),(0,()))))).2.2.2.1 0&&true)))))with
          |true=>match(ieq (AM y4.2.1) 2)with
           |true=>match Si (y7,([0]:List (Int)),())with|none=>none|some (y19,_)=>match y19 with
            |true=>match Re (y9,([(1,(2,()))]:List U4),())with|none=>none|some (y20,_)=>some (y20,())
            |false=>some (false,())
           |false=>some (false,())
          |false=>some (false,())
         |false=>some (false,())
        |false=>some (false,())
       |false=>some (false,())
      |false=>some (false,())
     |false=>some (false,())
    |false=>some (false,())
   |false=>some (false,())
  |false=>some (false,())
 |false=>some (false,())
def Iq[Lk]:=fun v=>Lk.f (TO v)
theorem ARW v:Iq v=TO v:=AI _
abbrev Sr:AF:=[(.tmp 0,.dat Ub),(.tmp 1,.dat Uz)]
abbrev Sq:AF:=[(.tmp 0,.dat .bool)]
abbrev Sp:List RS:=[.one]
def NA[Lk]:(Ue×List U4×Unit)→Option (Uf):=fun(a0,a1,_)=>
 match(ilt 30 (AM a0.2.1))with
 |true=>some (true,())
 |false=>match(ilt 12 a0.1)with
 |true=>some (true,())
 |false=>some ((ilt 12 (AM a1)),())
def NB[Lk]:=fun v=>Lk.f (NA v)
theorem Zw v:NB v=NA v:=AI _
end
end Go.Pev
end
section
namespace Go.Pev
noncomputable section
attribute [local irreducible] L6 I6 NZ Ks AVQ AVR AVS PV Vn VY Xf I9 AQ many IntKind.wrap AM An AN A8 Bo Da JY AE Bh Bz imax AR Ai
abbrev Ju:AF:=[(.tmp 0,.dat Ub),(.tmp 1,.di),(.tmp 2,.di)]
abbrev Jt:AF:=[(.tmp 0,.dat .bool)]
abbrev Js:List RS:=[.one]
abbrev Nj:AF:=[(.tmp 3,.box 2),(.cell 0 0,.di),(.cell 0 1,.dat Ul),(.tmp 7,.box 2),(.cell 1 0,.di),(.cell 1 1,.dat Ul),(.tmp 8,.box 5),(.cell 2 0,.dat .bool),(.cell 2 1,.dat .bool),(.cell 2 2,.di),(.cell 2 3,.di),(.cell 2 4,.di),(.tmp 14,.di),(.tmp 15,.di)]
abbrev Nh:A1:=[(.ret,[(.tmp 6,.dat .bool)]),(.exit 2,[(.tmp 8,.box 5),(.cell 0 0,.dat .bool),(.cell 0 1,.dat .bool),(.cell 0 2,.di),(.cell 0 3,.di),(.cell 0 4,.di),(.tmp 14,.di)])]
def BS[Lk]:Vg→Option (Vg⊕Uf⊕(Bool×Bool×Int×Int×Int×Int×Unit)⊕Unit):=fun(a0,a1,a2,a3,a4,a5,a6,a7,a8,a9,a10,_)=>
 match(ilt a10 (AM a3))with
 |true=>match idx a3 a10 with|none=>none|some x0=>match idx a3 a10 with|none=>none|some x1=>match Sv ((a0,(a1,())),x0.1,x1.2.1,())with|none=>none|some (y2,_)=>match idx a1 y2 with|none=>none|some x3=>match idx a3 a10 with|none=>none|some x4=>match(ilt x4.2.2.1 x3.2.2.1)with
  |true=>some (.inr (.inl (false,())))
  |false=>match x3.2.2.2.1 with
  |true=>match idx a3 a10 with|none=>none|some x5=>match(!x5.2.2.2.1)with
   |true=>some (.inr (.inl (false,())))
   |false=>match idx a3 a10 with|none=>none|some x6=>match x6.2.2.2.1 with
   |true=>match(!x3.2.2.2.1)with
    |true=>match(!(ieq a6 x3.1&&(ieq a7 x3.2.1&&true)))with
     |true=>some (.inr (.inl (false,())))
     |false=>match idx a3 a10 with|none=>none|some x7=>some (.inl (a0,a1,a2,a3,a4,a5,a6,a7,a8,(IntKind.wrap .i64 ((IntKind.wrap .i64 (a9+x7.2.2.1))-x3.2.2.1)),(IntKind.wrap .i64 (a10+1)),()))
    |false=>match idx a3 a10 with|none=>none|some x8=>some (.inl (a0,a1,a2,a3,a4,a5,a6,a7,a8,(IntKind.wrap .i64 ((IntKind.wrap .i64 (a9+x8.2.2.1))-x3.2.2.1)),(IntKind.wrap .i64 (a10+1)),()))
   |false=>match idx a3 a10 with|none=>none|some x9=>some (.inl (a0,a1,a2,a3,a4,a5,a6,a7,a8,(IntKind.wrap .i64 ((IntKind.wrap .i64 (a9+x9.2.2.1))-x3.2.2.1)),(IntKind.wrap .i64 (a10+1)),()))
  |false=>match idx a3 a10 with|none=>none|some x10=>match x10.2.2.2.1 with
  |true=>match(!x3.2.2.2.1)with
   |true=>match(!(ieq a6 x3.1&&(ieq a7 x3.2.1&&true)))with
    |true=>some (.inr (.inl (false,())))
    |false=>match idx a3 a10 with|none=>none|some x11=>some (.inl (a0,a1,a2,a3,a4,a5,a6,a7,a8,(IntKind.wrap .i64 ((IntKind.wrap .i64 (a9+x11.2.2.1))-x3.2.2.1)),(IntKind.wrap .i64 (a10+1)),()))
   |false=>match idx a3 a10 with|none=>none|some x12=>some (.inl (a0,a1,a2,a3,a4,a5,a6,a7,a8,(IntKind.wrap .i64 ((IntKind.wrap .i64 (a9+x12.2.2.1))-x3.2.2.1)),(IntKind.wrap .i64 (a10+1)),()))
  |false=>match idx a3 a10 with|none=>none|some x13=>some (.inl (a0,a1,a2,a3,a4,a5,a6,a7,a8,(IntKind.wrap .i64 ((IntKind.wrap .i64 (a9+x13.2.2.1))-x3.2.2.1)),(IntKind.wrap .i64 (a10+1)),()))
 |false=>some (.inr (.inr (.inl (a4,a5,a6,a7,a8,a9,()))))
abbrev Nk:AF:=[(.tmp 1,.di),(.tmp 2,.di),(.tmp 3,.box 2),(.cell 0 0,.di),(.cell 0 1,.dat Ul),(.tmp 7,.box 2),(.cell 1 0,.di),(.cell 1 1,.dat Ul),(.tmp 8,.box 5),(.cell 2 0,.dat .bool),(.cell 2 1,.dat .bool),(.cell 2 2,.di),(.cell 2 3,.di),(.cell 2 4,.di),(.tmp 10,.own 42 U6),(.tmp 11,.own 42 U6),(.tmp 12,.di)]
abbrev Ni:A1:=[(.exit 0,[(.tmp 1,.di),(.tmp 2,.di),(.tmp 3,.box 2),(.cell 0 0,.di),(.cell 0 1,.dat Ul),(.tmp 7,.box 2),(.cell 1 0,.di),(.cell 1 1,.dat Ul),(.tmp 8,.box 5),(.cell 2 0,.dat .bool),(.cell 2 1,.dat .bool),(.cell 2 2,.di),(.cell 2 3,.di),(.cell 2 4,.di),(.tmp 11,.own 42 U6)])]
def CD[Lk]:V9→Option (V9⊕(Int×Int×Int×List U2×Int×List U2×Bool×Bool×Int×Int×Int×List U4×Unit)⊕Unit):=fun(a0,a1,a2,a3,a4,a5,a6,a7,a8,a9,a10,a11,a12,a13,_)=>
 match(ilt a13 (AM a11))with
 |true=>match idx a11 a13 with|none=>none|some x0=>match(!(ieq (AN a11 (AE a13) (0,(0,()))).1 (Bz a0 a1)&&(ieq (AN a11 (AE a13) (0,(0,()))).2.1 (imax a0 a1)&&true)))with
  |true=>match idx a11 a13 with|none=>none|some x1=>match(fits ((AM a12)+(AM ([((AN a11 (AE a13) (0,(0,()))).1,((AN a11 (AE a13) (0,(0,()))).2.1,()))]:List U4))))with
   |true=>some (.inl (a0,a1,a2,a3,a4,a5,a6,a7,a8,a9,a10,a11,(A8 a12 ([((AN a11 (AE a13) (0,(0,()))).1,((AN a11 (AE a13) (0,(0,()))).2.1,()))]:List U4)),(IntKind.wrap .i64 (a13+1)),()))
   |false=>none
  |false=>some (.inl (a0,a1,a2,a3,a4,a5,a6,a7,a8,a9,a10,a11,a12,(IntKind.wrap .i64 (a13+1)),()))
 |false=>some (.inr (.inl (a0,a1,a2,a3,a4,a5,a6,a7,a8,a9,a10,a12,())))
def G0[Lk]:V3→Option (Uf):=fun(a0,a1,a2,_)=>
 match Iq ()with|none=>none|some (y0,_)=>match(!y0)with
 |true=>some (false,())
 |false=>match NB ((a0.1,(a0.2.1,())),([]:List U4),())with|none=>none|some (y1,_)=>match y1 with
 |true=>some (true,())
 |false=>match Et ((a0.1,(a0.2.1,())),())with|none=>none|some (y2,_)=>match(!y2)with
 |true=>some (true,())
 |false=>match ABl ((a0.1,(a0.2.1,())),a1,a2,())with|none=>none|some (y3,y4,y5,y6,_)=>match(!(ieq y6 0))with
 |true=>match Rd ((y3,(y4,())),(a0.1,(a0.2.1,())),())with|none=>none|some (y7,_)=>match y7 with
  |true=>some (((y5.1==false)&&((y5.2.1==false)&&(ieq y5.2.2.1.1 0&&(ieq y5.2.2.1.2.1 0&&(ieq y5.2.2.2.1 0&&true))))),())
  |false=>some (false,())
 |false=>match Ik ((a0.1,(a0.2.1,())),())with|none=>none|some (y8,_)=>match AT CD many (a1,a2,a0.1,a0.2.1,y3,y4,y5.1,y5.2.1,y5.2.2.1.1,y5.2.2.1.2.1,y5.2.2.2.1,y8,([]:List U4),0,())with|none=>none|some r=>match r with
 |.inl (o9,o10,o11,o12,o13,o14,o15,o16,o17,o18,o19,o20,_)=>match Cj (o11,o20,())with|none=>none|some (y21,_)=>match Ik ((o13,(o14,())),())with|none=>none|some (y22,_)=>match Re (y22,o20,())with|none=>none|some (y23,_)=>match(!y23)with
  |true=>some (false,())
  |false=>match o15 with
  |true=>match idx y21 o9 with|none=>none|some x24=>match idx y21 o10 with|none=>none|some x25=>match(!(o16==(ieq (AN y21 (AE o9) 0) (AN y21 (AE o10) 0))))with
   |true=>some (false,())
   |false=>match(!o15)with
   |true=>match o16 with
    |true=>some (false,())
    |false=>match(ilt 0 o19)with
    |true=>some (false,())
    |false=>match Et ((o13,(o14,())),())with|none=>none|some (y26,_)=>match(!y26)with
    |true=>some (false,())
    |false=>match AT BS many (o11,o12,o13,o14,o15,o16,o17,o18,o19,0,0,())with|none=>none|some r=>match r with
    |.inl (o27,_)=>some (o27,())
    |.inr r=>match r with
    |.inl (o28,o29,o30,o31,o32,o33,_)=>some ((ieq o33 o32),())
    |.inr _=>none
   |false=>match Et ((o13,(o14,())),())with|none=>none|some (y34,_)=>match(!y34)with
   |true=>some (false,())
   |false=>match AT BS many (o11,o12,o13,o14,o15,o16,o17,o18,o19,0,0,())with|none=>none|some r=>match r with
   |.inl (o35,_)=>some (o35,())
   |.inr r=>match r with
   |.inl (o36,o37,o38,o39,o40,o41,_)=>some ((ieq o41 o40),())
   |.inr _=>none
  |false=>match(!o15)with
  |true=>match o16 with
   |true=>some (false,())
   |false=>match(ilt 0 o19)with
   |true=>some (false,())
   |false=>match Et ((o13,(o14,())),())with|none=>none|some (y42,_)=>match(!y42)with
   |true=>some (false,())
   |false=>match AT BS many (o11,o12,o13,o14,o15,o16,o17,o18,o19,0,0,())with|none=>none|some r=>match r with
   |.inl (o43,_)=>some (o43,())
   |.inr r=>match r with
   |.inl (o44,o45,o46,o47,o48,o49,_)=>some ((ieq o49 o48),())
   |.inr _=>none
  |false=>match Et ((o13,(o14,())),())with|none=>none|some (y50,_)=>match(!y50)with
  |true=>some (false,())
  |false=>match AT BS many (o11,o12,o13,o14,o15,o16,o17,o18,o19,0,0,())with|none=>none|some r=>match r with
  |.inl (o51,_)=>some (o51,())
  |.inr r=>match r with
  |.inl (o52,o53,o54,o55,o56,o57,_)=>some ((ieq o57 o56),())
  |.inr _=>none
 |.inr _=>none
def FY[Lk]:=fun v=>Lk.f (G0 v)
theorem Nl v:FY v=G0 v:=AI _
end
end Go.Pev
end
section

end
section
namespace Go.Pev.Pl
theorem Af{n:Int}(h:-9223372036854775808≤n∧n≤9223372036854775807):IntKind.wrap .i64 n=n:=IntWalk.i64_in n h
section
variable {α:Type} [Inhabited α]
theorem Ad{d:Array α}{n:Nat}(h:n<d.size):idx d.toList (n:Int)=some d[n]! := by
 rw[idx_eq,NZ,Ad3 (by omega)]
 simp[h]
theorem Ap{d:Array α}{n:Nat}{z:α}(h:n<d.size):AN d.toList (AE (n:Int)) z=d[n]! := by
 simp[AN,AE,h]
theorem Cv{d:Array α}{n:Nat}{x:α}:An d.toList (AE (n:Int)) x=(d.setIfInBounds n x).toList:=by
 simp[An,AE]
theorem AHT{d:Array α}:AM d.toList=(d.size:Int):=by simp[AM]
theorem C2(d:Array α)(i j:Nat):(d.setIfInBounds i d[j]!).setIfInBounds j d[i]! = Go.Sort.swp d i j:=rfl
theorem size_swp(d:Array α)(i j:Nat):(Go.Sort.swp d i j).size=d.size:=by simp[Go.Sort.swp]
end
theorem AK(a b:Nat):ilt (a:Int) (b:Int)=decide (a<b):=by rw[Am];simp
theorem Bm(a b:Nat):ile (a:Int) (b:Int)=decide (a≤b):=by rw[Aq];simp
theorem QA(a b:Nat):ieq (a:Int) (b:Int)=decide (a=b):=by
 rw[D0]
 by_cases h:a=b
 ·simp[h]
 ·simp[h];omega
section
theorem wrap_add{a b:Nat}(h:a+b<9223372036854775808):IntKind.wrap .i64 ((a:Int)+(b:Int))=((a+b:Nat):Int):=by rw[Af (by omega)];omega
theorem AH{a:Nat}(h:a+1<9223372036854775808):IntKind.wrap .i64 ((a:Int)+1)=((a+1:Nat):Int):=by rw[Af (by omega)];omega
theorem ACf{a:Nat}(h:2*a<9223372036854775808):IntKind.wrap .i64 ((2:Int)*(a:Int))=((2*a:Nat):Int):=by rw[Af (by omega)];omega
theorem ACe{a:Nat}(h:a<9223372036854775808):IntKind.wrap .i64 ((a:Int)*1)=((a*1:Nat):Int):=by rw[Af (by omega)];omega
theorem Ea{a:Nat}(h:a*2<9223372036854775808):IntKind.wrap .i64 ((a:Int)*2)=((a*2:Nat):Int):=by rw[Af (by omega)];omega
theorem ACd{a:Nat}(h:a*3<9223372036854775808):IntKind.wrap .i64 ((a:Int)*3)=((a*3:Nat):Int):=by rw[Af (by omega)];omega
theorem Bd{a b:Nat}(h:b≤a∧a<9223372036854775808):IntKind.wrap .i64 ((a:Int)-(b:Int))=((a-b:Nat):Int):=by rw[Af (by omega)];omega
theorem Al{a:Nat}(h:1≤a∧a<9223372036854775808):IntKind.wrap .i64 ((a:Int)-1)=((a-1:Nat):Int):=by rw[Af (by omega)];omega
theorem AXf{a:Nat}(h:a<9223372036854775808):quo? .i64 (a:Int) 2=some ((a/2:Nat):Int):=by
 rw[Rl,PV,Ad3 (by omega),Afk (by omega),Af (by omega)];rfl
theorem Tq{a:Nat}(h:a<9223372036854775808):quo? .i64 (a:Int) 4=some ((a/4:Nat):Int):=by
 rw[Rl,PV,Ad3 (by omega),Afk (by omega),Af (by omega)];rfl
theorem AcV{a:Nat}(h:a<9223372036854775808):quo? .i64 (a:Int) 8=some ((a/8:Nat):Int):=by
 rw[Rl,PV,Ad3 (by omega),Afk (by omega),Af (by omega)];rfl
end
end Go.Pev.Pl
end
section
namespace Go.Pev.Pl
section
variable {α:Type}
theorem Ch{xs:List α}{n:Nat}(z:α)(h:n<xs.length):idx xs (n:Int)=some (xs.getD n z):=by
 rw[idx_eq,NZ,Ad3 (by omega)]
 simp[h]
theorem AGw(xs:List α)(n:Nat):idx xs (n:Int)=xs[n]? := by
 rw[idx_eq,NZ,Ad3 (by omega)]
 simp
theorem E3(xs:List α):idx xs (0:Int)=xs.head? := by
 rw[idx_eq,NZ,Ad3 (by omega)]
 cases xs<;>rfl
theorem Fv(xs:List α)(n:Nat)(z:α):AN xs (AE (n:Int)) z=xs.getD n z:=by simp[AN,AE]
theorem AHS(xs:List α)(n:Nat)(x:α):An xs (AE (n:Int)) x=xs.set n x:=by simp[An,AE]
theorem AO(xs:List α):AM xs=(xs.length:Int):=rfl
theorem KP(n:Nat):AE (n:Int)=n:=by simp[AE]
theorem Cw(xs ys:List α):A8 xs ys=xs++ys:=rfl
theorem RV{xs:List α}{l h:Nat}(h1:l≤h)(h2:h≤xs.length):CH xs (l:Int) (h:Int)=some ((xs.take h).drop l):=by
 rw[Mg,Ks,Ad6 (by omega)]
 simp
end
theorem BW{n:Int}(h:n≤4294967296):fits n=true:=(H0 n).2 h
theorem ARB{α:Type}{xs:List α}(h:xs.length≤4294967296):AHd xs=some xs:=by
 rw[ADs,I9,(Su _).2 (by rw[AO];omega)]
theorem QB{α β:Type}(xs:List α)(ys:List β):ieq (AM xs) (AM ys)=decide (xs.length=ys.length):=by rw[AO,AO,QA]
theorem Ak(a b:Int):ieq a b=decide (a=b):=by
 rw[D0]
 by_cases h:a=b<;>simp[h]
def walk{α β ρ:Type}(f:β→α→α⊕ρ)(fin:α→ρ):List β→α→ρ
 |[],a=>fin a
 |x::xs,a=>match f x a with
  |.inl a=>walk f fin xs a
  |.inr r=>r
theorem ATG{σ ρ α β:Type}{step:σ→Option (σ⊕ρ)}(st:Nat→α→σ)(xs:List β)(f:β→α→α⊕ρ)(fin:α→ρ)(I:Nat→α→Prop)
  (h:∀ i x a,i<xs.length→xs[i]? = some x→I i a→(∀ a',f x a = .inl a'→step (st i a)=some (.inl (st (i+1) a'))∧I (i+1) a')∧(∀ r,f x a = .inr r→step (st i a)=some (.inr r)))
  (hN:∀ a,I xs.length a→step (st xs.length a)=some (.inr (fin a))) :
  ∀ (m i n:Nat) (a:α),xs.length-i=m→i≤xs.length→m<n→I i a→AQ step n (st i a)=some (walk f fin (xs.drop i) a):=by
 intro m
 induction m with
 |zero=>
  intro i n a hk hi hn hI
  obtain⟨n,rfl⟩:∃ k,n=k+1:=⟨n-1,by omega⟩
  have e:i=xs.length:=by omega
  subst e
  rw[AQ,hN a hI,List.drop_length]
  rfl
 |succ m ih=>
  intro i n a hk hi hn hI
  obtain⟨n,rfl⟩:∃ k,n=k+1:=⟨n-1,by omega⟩
  have hi':i<xs.length:=by omega
  obtain⟨g1,g2⟩:=h i xs[i] a hi' (by simp[hi']) hI
  rw[Aea hi',walk,AQ]
  cases hf:f xs[i] a with
  |inl a'=>
   obtain⟨e,hI'⟩:=g1 a' hf
   rw[e]
   exact ih (i+1) n a' (by omega) (by omega) (by omega) hI'
  |inr r=>rw[g2 r hf]
theorem DH{σ ρ α β:Type}{step:σ→Option (σ⊕ρ)}(st:Nat→α→σ)(xs:List β)(f:β→α→α⊕ρ)(fin:α→ρ)(I:Nat→α→Prop)(hs:xs.length<9223372036854775808)
  (h:∀ i x a,i<xs.length→xs[i]? = some x→I i a→(∀ a',f x a = .inl a'→step (st i a)=some (.inl (st (i+1) a'))∧I (i+1) a')∧(∀ r,f x a = .inr r→step (st i a)=some (.inr r)))
  (hN:∀ a,I xs.length a→step (st xs.length a)=some (.inr (fin a))) (a:α) (h0:I 0 a):AT step many (st 0 a)=some (walk f fin xs a):=by
 have hm:9223372036854775808<many:=by simp only[many];omega
 rw[Ag,ATG st xs f fin I h hN xs.length 0 many a (by omega) (by omega) (by omega) h0]
 rfl
theorem FA{α:Type}{xs ys:List α}(z:α)(hl:xs.length=ys.length)(h:∀ j,j<xs.length→xs.getD j z=ys.getD j z):xs=ys:=by
 apply Agq hl
 intro i h1 h2
 have:=h i h1
 simpa [h1,h2]using this
theorem UM{α:Type}{xs ys:List α}(z:α){j:Nat}(h:xs.getD j z≠ys.getD j z):xs≠ys:=fun e=>h (by rw[e])
theorem ATl{σ ρ:Type}{step:σ→Option (σ⊕ρ)}(st:Nat→σ)(N:Nat)(P:Nat→Bool)(rt:Nat→ρ)(rf:ρ)
  (h:∀ i,i<N→step (st i)=if P i then some (.inr (rt i))else some (.inl (st (i+1)))) (hN:step (st N)=some (.inr rf)) :
  ∀ (m i n:Nat),N-i=m→i≤N→m<n→(∃ k,i≤k∧k<N∧P k=true∧(∀ j,i≤j→j<k→P j=false)∧AQ step n (st i)=some (rt k))∨((∀ j,i≤j→j<N→P j=false)∧AQ step n (st i)=some rf):=by
 intro m
 induction m with
 |zero=>
  intro i n hk hi hn
  obtain⟨n,rfl⟩:∃ k,n=k+1:=⟨n-1,by omega⟩
  have e:i=N:=by omega
  subst e
  exact .inr ⟨fun j h1 h2=>by omega,by rw[AQ,hN]⟩
 |succ m ih=>
  intro i n hk hi hn
  obtain⟨n,rfl⟩:∃ k,n=k+1:=⟨n-1,by omega⟩
  have hi':i<N:=by omega
  cases hP:P i
  ·have e:AQ step (n+1) (st i)=AQ step n (st (i+1)):=by rw[AQ,h i hi',hP];rfl
   rw[e]
   rcases ih (i+1) n (by omega) (by omega) (by omega)with⟨k,h1,h2,h3,h4,h5⟩|⟨h1,h2⟩
   ·refine .inl ⟨k,by omega,h2,h3,fun j a1 a2 => ?_,h5⟩
    by_cases ej:j=i
    ·subst ej;exact hP
    ·exact h4 j (by omega) a2
   ·refine .inr ⟨fun j a1 a2 => ?_,h2⟩
    by_cases ej:j=i
    ·subst ej;exact hP
    ·exact h1 j (by omega) a2
  ·exact .inl ⟨i,Ad5 _,hi',hP,fun j a1 a2=>by omega,by rw[AQ,h i hi',hP];rfl⟩
theorem AC0{σ ρ:Type}{step:σ→Option (σ⊕ρ)}(st:Nat→σ)(N:Nat)(P:Nat→Bool)(rt:Nat→ρ)(rf:ρ)(hs:N<9223372036854775808)
  (h:∀ i,i<N→step (st i)=if P i then some (.inr (rt i))else some (.inl (st (i+1)))) (hN:step (st N)=some (.inr rf)) :
  (∃ k,k<N∧P k=true∧(∀ j,j<k→P j=false)∧AT step many (st 0)=some (rt k))∨((∀ j,j<N→P j=false)∧AT step many (st 0)=some rf):=by
 have hm:9223372036854775808<many:=by simp only[many];omega
 rw[Ag]
 rcases ATl st N P rt rf h hN N 0 many rfl (by omega) (by omega)with⟨k,h1,h2,h3,h4,h5⟩|⟨h1,h2⟩
 ·exact .inl ⟨k,h2,h3,fun j a=>h4 j (by omega) a,h5⟩
 ·exact .inr ⟨fun j a=>h1 j (by omega) a,h2⟩
end Go.Pev.Pl
end
section
namespace Go.Pev.Pl
inductive Tok where
 |ver (v:Int)
 |arc (u v:Int)
 deriving DecidableEq
namespace Tok
def st:Tok→Int
 |.ver v=>v
 |.arc _ v=>v
def step(s:List Int×List Int):Tok→Option (List Int×List Int)
 |.ver v=>match s.1 with
  |w::_=>if w=v then some s else none
  |[]=>none
 |.arc u v=>match s.1 with
  |w::r=>if w=u then match r with
    |p::r'=>if p=v then some (p::r',s.2)else if v∈s.2 then none else some (v::w::r,v::s.2)
    |[]=>if v∈s.2 then none else some (v::w::r,v::s.2)
   else none
  |[]=>none
def run:List Int×List Int→List Tok→Option (List Int×List Int)
 |s,[]=>some s
 |s,t::l=>match step s t with
  |some s=>run s l
  |none=>none
theorem DP(s:List Int×List Int)(a b:List Tok):run s (a++b)=(run s a).bind fun s=>run s b:=by
 induction a generalizing s with
 |nil=>rfl
 |cons t a ih=>
  simp only[AeN,run]
  cases step s t with
  |none=>rfl
  |some s=>exact ih s
theorem B2{s s':List Int×List Int}{t:Tok}(h:step s t=some s'):
  (∃ v r,t = .ver v∧s.1=v::r∧s'=s) ∨
  (∃ u v r,t = .arc u v∧s.1=u::v::r∧s'=(v::r,s.2)) ∨
  (∃ u v r,t = .arc u v∧s.1=u::r∧r.head?≠some v∧v∉s.2∧s'=(v::u::r,v::s.2)):=by
 obtain⟨way,c⟩:=s
 cases t with
 |ver v=>
  cases way with
  |nil=>simp[step]at h
  |cons w r=>
   simp only[step]at h
   split at h
   ·rename_i e;cases h;exact .inl ⟨v,r,rfl,by simp[e],rfl⟩
   ·cases h
 |arc u v=>
  cases way with
  |nil=>simp[step]at h
  |cons w r=>
   simp only[step]at h
   split at h
   ·rename_i e
    subst e
    cases r with
    |nil=>
     simp only at h
     split at h
     ·cases h
     ·rename_i hc;cases h;exact .inr (.inr ⟨w,v,[],rfl,rfl,by simp,hc,rfl⟩)
    |cons p r=>
     simp only at h
     split at h
     ·rename_i e;subst e;cases h;exact .inr (.inl ⟨w,p,r,rfl,rfl,rfl⟩)
     ·split at h
      ·cases h
      ·rename_i e hc;cases h;exact .inr (.inr ⟨w,v,p::r,rfl,rfl,by simpa using e,hc,rfl⟩)
   ·cases h
theorem DJ(v:Int)(r c:List Int):step (v::r,c) (.ver v)=some (v::r,c):=by simp[step]
theorem GM(u v:Int)(r c:List Int):step (u::v::r,c) (.arc u v)=some (v::r,c):=by simp[step]
theorem FP(u v:Int)(r c:List Int)(h1:r.head?≠some v)(h2:v∉c):step (u::r,c) (.arc u v)=some (v::u::r,v::c):=by
 cases r with
 |nil=>simp[step,h2]
 |cons p r=>
  have:p≠v:=by simpa using h1
  simp[step,h2,this]
def Inv(s:List Int×List Int):Prop:=s.1.Nodup∧(∀ x∈s.1,x∈s.2)
theorem XT{s s':List Int×List Int}{t:Tok}(h:step s t=some s')(hi:Inv s):Inv s'∧(∀ x∈s.2,x∈s'.2)∧s'.1.head? = some t.st:=by
 obtain⟨way,c⟩:=s
 obtain⟨h1,h2⟩:=hi
 rcases B2 h with⟨v,r,rfl,hw,rfl⟩|⟨u,v,r,rfl,hw,rfl⟩|⟨u,v,r,rfl,hw,_,hn,rfl⟩
 ·exact⟨⟨h1,h2⟩,fun x hx=>hx,by rw[hw];rfl⟩
 ·simp only at hw h1 h2
  subst hw
  refine⟨⟨?_,?_⟩,fun x hx=>hx,rfl⟩
  ·exact(AeP.1 h1).2
  ·intro x hx;exact h2 x (by simp only at hx;simp[Adx.1 hx])
 ·simp only at hw h1 h2 hn
  subst hw
  refine⟨⟨?_,?_⟩,fun x hx=>by simp[hx],rfl⟩
  ·exact AeP.2 ⟨fun hm=>hn (h2 _ hm),h1⟩
  ·intro x hx
   rcases Adx.1 hx with rfl|hx
   ·simp
   ·exact AeH _ (h2 x hx)
theorem IQ{l:List Tok}:∀ {s s':List Int×List Int},run s l=some s'→Inv s→Inv s'∧(∀ x∈s.2,x∈s'.2)∧∀ t,l.getLast? = some t→s'.1.head? = some t.st:=by
 induction l with
 |nil=>intro s s' h hi;cases h;exact⟨hi,fun x hx=>hx,fun t ht=>by simp at ht⟩
 |cons t l ih=>
  intro s s' h hi
  simp only[run]at h
  split at h
  ·rename_i s1 h1
   obtain⟨q1,q2,q3⟩:=XT h1 hi
   obtain⟨p1,p2,p3⟩:=ih h q1
   refine⟨p1,fun x hx=>p2 x (q2 x hx),fun t' ht' => ?_⟩
   cases l with
   |nil=>simp at ht';subst ht';simp only[run]at h;cases h;exact q3
   |cons y l=>exact p3 t' (by rw[Agh]at ht';exact ht')
  ·cases h
theorem HF{Z:Int→Prop}:∀ {l:List Tok} {way way' c d c2 low:List Int},run (way,c) l=some (way',d)→way≠[]→(∀ x,x∈c2↔x∈c∨Z x) →
  (∀ u v,.arc u v∈l→¬ Z v)→(∀ y∈low,Z y)→∃ d2,run (way++low,c2) l=some (way'++low,d2)∧(∀ x,x∈d2↔x∈d∨Z x):=by
 intro l
 induction l with
 |nil=>intro way way' c d c2 low h _ hc _ _;cases h;exact⟨c2,rfl,hc⟩
 |cons t l ih=>
  intro way way' c d c2 low h hne hc hz hl
  simp only[run]at h
  split at h
  ·rename_i s1 h1
   have hz':∀ u v,Tok.arc u v∈l→¬ Z v:=fun u v hm=>hz u v (AeH _ hm)
   rcases B2 h1 with⟨v,r,rfl,hw,rfl⟩|⟨u,v,r,rfl,hw,rfl⟩|⟨u,v,r,rfl,hw,hh,hn,rfl⟩
   ·simp only at hw
    subst hw
    obtain⟨d2,e1,e2⟩:=ih h hne hc hz' hl
    exact⟨d2,by simp only[run,AeN,DJ];exact e1,e2⟩
   ·simp only at hw
    subst hw
    obtain⟨d2,e1,e2⟩:=ih h (by simp) hc hz' hl
    exact⟨d2,by simp only[run,AeN,GM];exact e1,e2⟩
   ·simp only at hw hn
    subst hw
    have hzv:=hz u v (by simp)
    have hn2:v∉c2:=by rw[hc];rintro (h|h);exact hn h;exact hzv h
    have hh2:(r++low).head?≠some v:=by
     cases r with
     |nil=>
      cases low with
      |nil=>simp
      |cons y low=>
       simp only[AeQ,List.head?_cons,ne_eq,Adr]
       rintro rfl
       exact hzv (hl _ (by simp))
     |cons p r=>simpa using hh
    obtain⟨d2,e1,e2⟩:=ih (c2:=v::c2) h (by simp) (by intro x;simp only[Adx,hc,or_assoc]) hz' hl
    exact⟨d2,by simp only[run,AeN,FP _ _ _ _ hh2 hn2];exact e1,e2⟩
  ·cases h
theorem Xp{z:Int}:∀ {l:List Tok} {way way' c2 d2 c:List Int},run (way,c2) l=some (way',d2)→z∉way→(∀ x,x∈c2↔x∈c∨x=z)→z∉c →
  .ver z∉l∧∃ d,run (way,c) l=some (way',d)∧(∀ x,x∈d2↔x∈d∨x=z)∧z∉d:=by
 intro l
 induction l with
 |nil=>intro way way' c2 d2 c h _ hc hz;cases h;exact⟨by simp,c,rfl,hc,hz⟩
 |cons t l ih=>
  intro way way' c2 d2 c h hzw hc hz
  simp only[run]at h
  split at h
  ·rename_i s1 h1
   rcases B2 h1 with⟨v,r,rfl,hw,rfl⟩|⟨u,v,r,rfl,hw,rfl⟩|⟨u,v,r,rfl,hw,hh,hn,rfl⟩
   ·simp only at hw
    subst hw
    obtain⟨e0,d,e1,e2,e3⟩:=ih h hzw hc hz
    refine⟨?_,d,by simp only[run,DJ];exact e1,e2,e3⟩
    rintro hm
    rcases Adx.1 hm with hm|hm
    ·cases hm;exact hzw (by simp)
    ·exact e0 hm
   ·simp only at hw
    subst hw
    obtain⟨e0,d,e1,e2,e3⟩:=ih h (fun hm=>hzw (AeH _ hm)) hc hz
    refine⟨?_,d,by simp only[run,GM];exact e1,e2,e3⟩
    rintro hm
    rcases Adx.1 hm with hm|hm
    ·cases hm
    ·exact e0 hm
   ·simp only at hw hn
    subst hw
    have hvz:v≠z:=by rintro rfl;exact hn ((hc v).2 (.inr rfl))
    have hn':v∉c:=fun hm=>hn ((hc v).2 (.inl hm))
    obtain⟨e0,d,e1,e2,e3⟩:=ih (c:=v::c) h (by intro hm;rcases Adx.1 hm with hm|hm;exact hvz hm.symm;exact hzw hm)
     (by intro x;simp only[Adx,hc,or_assoc])
     (by intro hm;rcases Adx.1 hm with hm|hm;exact hvz hm.symm;exact hz hm)
    refine⟨?_,d,by simp only[run,FP _ _ _ _ hh hn'];exact e1,e2,e3⟩
    rintro hm
    rcases Adx.1 hm with hm|hm
    ·cases hm
    ·exact e0 hm
  ·cases h
def Rot(a b:List Tok):Prop:=∃ x y,a=x++y∧b=y++x
theorem Rot.refl(a:List Tok):Rot a a:=⟨[],a,rfl,by simp⟩
theorem Rot.symm{a b:List Tok}(h:Rot a b):Rot b a:=by obtain⟨x,y,h1,h2⟩:=h;exact⟨y,x,h2,h1⟩
theorem Rot.trans{a b c:List Tok}(h:Rot a b)(g:Rot b c):Rot a c:=by
 obtain⟨x,y,rfl,h2⟩:=h
 obtain⟨z,w,h3,rfl⟩:=g
 rw[h2]at h3
 rcases List.append_eq_append_iff.1 h3 with⟨k,h4,h5⟩|⟨k,h4,h5⟩
 ·subst h4 h5
  exact⟨k,w++y,by simp,by simp⟩
 ·subst h4 h5
  exact⟨x++z,k,by simp,by simp⟩
theorem Rot.perm{a b:List Tok}(h:Rot a b):a.Perm b:=by
 obtain⟨x,y,rfl,rfl⟩:=h
 exact AfP
theorem Rot.mem{a b:List Tok}(h:Rot a b)(t:Tok):t∈a↔t∈b:=h.perm.mem_iff
theorem Rot.nodup{a b:List Tok}(h:Rot a b):a.Nodup↔b.Nodup:=h.perm.nodup_iff
theorem Rot.length{a b:List Tok}(h:Rot a b):a.length=b.length:=h.perm.length_eq
inductive T:List Tok→Prop
 |one (v:Int):T [.ver v]
 |add (x:Tok) (l:List Tok) (v:Int):T (x::l)→x.st≠v→.ver v∉x::l→T (x :: .arc x.st v :: .ver v :: .arc v x.st::l)
 |rot (a b:List Tok):T (a++b)→T (b++a)
theorem T.APN{a b:List Tok}(h:T a)(r:Rot a b):T b:=by obtain⟨x,y,rfl,rfl⟩:=r;exact T.rot x y h
theorem T.facts{l:List Tok}(h:T l):l≠[]∧(∀ t∈l,.ver t.st∈l)∧(∀ u v,.arc u v∈l→.ver u∈l∧.ver v∈l∧.arc v u∈l∧u≠v):=by
 induction h with
 |one v=>exact⟨by simp,by simp[st],by simp⟩
 |add x l v h hne hv ih=>
  obtain⟨_,i2,i3⟩:=ih
  have hsub:∀ t,t∈x::l→t∈x::Tok.arc x.st v :: .ver v :: .arc v x.st::l:=by
   intro t ht
   rcases Adx.1 ht with rfl|ht
   ·simp
   ·simp[ht]
  have hx:=hsub _ (i2 x (by simp))
  have cases3:∀ t,t∈x::Tok.arc x.st v :: .ver v :: .arc v x.st::l→t∈x::l∨t = .arc x.st v∨t = .ver v∨t = .arc v x.st:=by
   intro t ht
   simp only[Adx]at ht ⊢
   rcases ht with h|h|h|h|h<;>simp[h]
  refine⟨by simp,fun t ht => ?_,fun a b hab => ?_⟩
  ·rcases cases3 t ht with h|rfl|rfl|rfl
   ·exact hsub _ (i2 t h)
   ·simp[st]
   ·simp[st]
   ·exact hx
  ·rcases cases3 _ hab with h|h|h|h
   ·obtain⟨p1,p2,p3,p4⟩:=i3 a b h
    exact⟨hsub _ p1,hsub _ p2,hsub _ p3,p4⟩
   ·cases h;exact⟨hx,by simp,by simp,hne⟩
   ·cases h
   ·cases h;exact⟨by simp,hx,by simp,Aej hne⟩
 |rot a b h ih=>
  obtain⟨i1,i2,i3⟩:=ih
  have hm:∀ t,t∈a++b↔t∈b++a:=fun t=>List.perm_append_comm.mem_iff
  refine⟨by intro e;simp only[List.append_eq_nil_iff]at e;exact i1 (by simp[e.1,e.2]),fun t ht=>(hm _).1 (i2 t ((hm _).2 ht)),fun u v huv => ?_⟩
  obtain⟨p1,p2,p3,p4⟩:=i3 u v ((hm _).2 huv)
  exact⟨(hm _).1 p1,(hm _).1 p2,(hm _).1 p3,p4⟩
theorem T.nodup{l:List Tok}(h:T l):l.Nodup:=by
 induction h with
 |one v=>simp
 |add x l v h hne hv ih=>
  obtain⟨_,_,f3⟩:=h.facts
  have h1:Tok.arc x.st v∉x::l:=fun hm=>hv (f3 _ _ hm).2.1
  have h2:Tok.arc v x.st∉x::l:=fun hm=>hv (f3 _ _ hm).1
  simp only[Adx,not_or]at h1 h2 hv
  have ih':=AeP.1 ih
  simp only[AeP,Adx,not_or]
  refine⟨⟨fun e=>h1.1 e.symm,fun e=>hv.1 e.symm,fun e=>h2.1 e.symm,ih'.1⟩,⟨by simp,?_,h1.2⟩,⟨by simp,hv.2⟩,h2.2,ih'.2⟩
  intro e
  simp only[Tok.arc.injEq]at e
  exact hne e.1
 |rot a b h ih=>exact(List.perm_append_comm.nodup_iff).1 ih
def C(l:List Tok):Prop:=∀ r,Rot l r→∀ t,r.getLast? = some t→∃ c,run ([t.st],[t.st]) r=some ([t.st],c)∧∀ x,x∈c↔.ver x∈l
end Tok
end Go.Pev.Pl
end
section
namespace Go.Pev.Pl.Tok
theorem getLast?_app{a b:List Tok}{t:Tok}(h:b.getLast? = some t):(a++b).getLast? = some t:=by
 rw[Af7,h];rfl
theorem Az(s:List Int×List Int)(t:Tok)(l:List Tok):run s (t::l)=(step s t).bind fun s=>run s l:=by
 rw[run]
 cases step s t<;>rfl
theorem NQ(v:Int):Inv ([v],[v]):=⟨by simp,by simp⟩
theorem T.toC{l:List Tok}(h:T l):C l:=by
 induction h with
 |one v=>
  intro r hr t ht
  have:r=[.ver v]:=List.perm_singleton.1 hr.perm.symm
  subst this
  simp at ht
  subst ht
  exact⟨[v],by simp[run,st,step],by simp⟩
 |rot a b h ih=>
  intro r hr t ht
  obtain⟨c,h1,h2⟩:=ih r (Rot.trans ⟨a,b,rfl,rfl⟩ hr) t ht
  exact⟨c,h1,fun x=>(h2 x).trans (List.perm_append_comm.mem_iff)⟩
 |add x l v h hne hv ih=>
  obtain⟨_,f2,f3⟩:=h.facts
  have hnz:∀ u w,Tok.arc u w∈x::l→¬ (w=v):=fun u w hm e=>hv (e▸(f3 u w hm).2.1)
  have fin:∀ {d2 c:List Int},(∀ y,y∈d2↔y∈c∨y=v)→(∀ y,y∈c↔.ver y∈x::l)→∀ y,y∈d2↔Tok.ver y∈x :: .arc x.st v :: .ver v :: .arc v x.st::l:=by
   intro d2 c e1 e2 y
   rw[e1,e2]
   simp only[Adx,reduceCtorEq,false_or,Tok.ver.injEq]
   constructor
   ·rintro ((h|h)|h)<;>simp[h]
   ·rintro (h|h|h)<;>simp[h]
  have triple:∀ {w' c1:List Int},Inv (x.st::w',c1)→v∉c1→∀ p,run (x.st::w',c1) (.arc x.st v :: .ver v :: .arc v x.st::p)=run (x.st::w',v::c1) p:=by
   intro w' c1 hi hn p
   have hh:w'.head?≠some v:=by
    intro e
    exact hn (hi.2 v (AeH _ (List.mem_of_head? e)))
   rw[Az,FP _ _ _ _ hh hn,AeX,Az,DJ,AeX,Az,GM,AeX]
  have G:∀ q1 p1,l=p1++q1→∀ t,(q1++x :: .arc x.st v :: .ver v :: .arc v x.st::p1).getLast? = some t→∃ c,run ([t.st],[t.st]) (q1++x :: .arc x.st v :: .ver v :: .arc v x.st::p1)=some ([t.st],c)∧∀ y,y∈c↔.ver y∈x :: .arc x.st v :: .ver v :: .arc v x.st::l:=by
   intro q1 p1 hl t ht
   have hrot:Rot (x::l) (q1++x::p1):=⟨x::p1,q1,by simp[hl],rfl⟩
   have ht0:∃ t0,(q1++x::p1).getLast? = some t0∧t0.st=t.st:=by
    cases p1 with
    |nil=>
     refine⟨x,getLast?_app (by simp),?_⟩
     rw[show q1++[x,Tok.arc x.st v,.ver v,.arc v x.st]=(q1++[x,Tok.arc x.st v,.ver v])++[Tok.arc v x.st] by simp,Aff]at ht
     cases ht;rfl
    |cons y p1=>
     refine⟨t,?_,rfl⟩
     rw[show q1++x::Tok.arc x.st v :: .ver v :: .arc v x.st::y::p1=(q1++[x,Tok.arc x.st v,.ver v,.arc v x.st])++y::p1 by simp,Af7]at ht
     rw[show q1++x::y::p1=(q1++[x])++y::p1 by simp,Af7]
     exact ht
   obtain⟨t0,e0,e1⟩:=ht0
   obtain⟨c,h1,h2⟩:=ih _ hrot t0 e0
   rw[e1,show q1++x::p1=(q1++[x])++p1 by simp,DP,AeW]at h1
   obtain⟨⟨w1,c1⟩,g1,g2⟩:=h1
   obtain⟨i1,i2,i3⟩:=IQ g1 (NQ _)
   obtain⟨j1,j2,j3⟩:=IQ g2 i1
   have i3':=i3 x (by simp)
   simp only at i3'
   cases w1 with
   |nil=>simp at i3'
   |cons w0 w'=>
    simp at i3'
    subst i3'
    have hn:v∉c1:=fun hm=>hv ((h2 v).1 (j2 v hm))
    obtain⟨d2,k1,k2⟩:=HF (Z:=(· = v)) (c2:=v::c1) (low:=[]) g2 (by simp) (fun y=>by simp[or_comm]) (fun u w hm=>hnz u w (by simp[hl,hm])) (by simp)
    refine⟨d2,?_,fin k2 h2⟩
    rw[show q1++x::Tok.arc x.st v :: .ver v :: .arc v x.st::p1=(q1++[x])++Tok.arc x.st v :: .ver v :: .arc v x.st::p1 by simp,DP,g1,AeX,triple i1 hn]
    simpa using k1
  intro r hr t ht
  obtain⟨p,q,hpq,rfl⟩:=hr
  have base:∀ t0:Tok,(l++[x]).getLast? = some t0→t0=x:=fun t0 h=>by rw[Aff]at h;exact(AfJ h).symm
  obtain⟨c,h1,h2⟩:=ih (l++[x]) ⟨[x],l,rfl,rfl⟩ x (by simp)
  match p with
  |[]=>
   simp only[AeQ]at hpq
   subst hpq
   have:=G [] l (by simp) t (by simpa using ht)
   simpa using this
  |[y]=>
   simp only[AeN,AeQ,AeJ]at hpq
   obtain⟨rfl,rfl⟩:=hpq
   have:t=x:=by
    rw[Aff]at ht
    exact(AfJ ht).symm
   subst this
   have hn:v∉[t.st]:=by simp;exact Aej hne
   obtain⟨d2,k1,k2⟩:=HF (Z:=(· = v)) (c2:=[v,t.st]) (low:=[]) h1 (by simp) (fun y=>by simp[or_comm]) (fun u w hm=>hnz u w (by simpa [or_comm]using hm)) (by simp)
   refine⟨d2,?_,fin k2 h2⟩
   rw[show(Tok.arc t.st v :: .ver v :: .arc v t.st::l)++[t]=Tok.arc t.st v :: .ver v :: .arc v t.st::(l++[t]) by simp,triple (NQ _) hn]
   simpa using k1
  |[y,z]=>
   simp only[AeN,AeQ,AeJ]at hpq
   obtain⟨rfl,rfl,rfl⟩:=hpq
   have:t = .arc x.st v:=by
    rw[show(Tok.ver v :: .arc v x.st::l)++[x,.arc x.st v]=(Tok.ver v :: .arc v x.st::l++[x])++[.arc x.st v] by simp,Aff]at ht
    exact(AfJ ht).symm
   subst this
   obtain⟨d2,k1,k2⟩:=HF (Z:=(· = v)) (c2:=[x.st,v]) (low:=[v]) h1 (by simp) (fun y=>by simp) (fun u w hm=>hnz u w (by simpa [or_comm]using hm)) (by simp)
   refine⟨d2,?_,fin k2 h2⟩
   rw[show(Tok.ver v :: .arc v x.st::l)++[x,.arc x.st v]=Tok.ver v :: .arc v x.st::((l++[x])++[.arc x.st v]) by simp]
   rw[Az]
   show(step ([v],[v]) _).bind _=_
   rw[DJ,AeX,Az,FP _ _ _ _ (by simp) (by simp;exact hne),AeX,DP]
   rw[show([x.st]++[v]:List Int)=[x.st,v]from rfl]at k1
   rw[k1,AeX,Az,GM]
   rfl
  |[y,z,w]=>
   simp only[AeN,AeQ,AeJ]at hpq
   obtain⟨rfl,rfl,rfl,rfl⟩:=hpq
   have:t = .ver v:=by
    rw[show(Tok.arc v x.st::l)++[x,.arc x.st v,.ver v]=(Tok.arc v x.st::l++[x,.arc x.st v])++[.ver v] by simp,Aff]at ht
    exact(AfJ ht).symm
   subst this
   obtain⟨d2,k1,k2⟩:=HF (Z:=(· = v)) (c2:=[x.st,v]) (low:=[v]) h1 (by simp) (fun y=>by simp) (fun u w hm=>hnz u w (by simpa [or_comm]using hm)) (by simp)
   refine⟨d2,?_,fin k2 h2⟩
   rw[show(Tok.arc v x.st::l)++[x,.arc x.st v,.ver v]=Tok.arc v x.st::((l++[x])++[.arc x.st v,.ver v]) by simp]
   rw[Az]
   show(step ([v],[v]) _).bind _=_
   rw[FP _ _ _ _ (by simp) (by simp;exact hne),AeX,DP]
   rw[show([x.st]++[v]:List Int)=[x.st,v]from rfl]at k1
   rw[k1,AeX,Az,GM,AeX,Az,DJ]
   rfl
  |y::z::w::w2::p1=>
   simp only[AeN,AeJ]at hpq
   obtain⟨rfl,rfl,rfl,rfl,rfl⟩:=hpq
   exact G q p1 rfl t ht
def comp(P:List Tok):List Int→List Tok
 |[]=>[]
 |w::r=>(if .ver w∈P then []else [.ver w])++match r with
  |[]=>[]
  |p::_=>.arc w p::comp P r
theorem Oz{P P':List Tok}:∀ {way:List Int},(∀ w∈way,(Tok.ver w∈P↔Tok.ver w∈P'))→comp P way=comp P' way:=by
 intro way
 induction way with
 |nil=>intro _;rfl
 |cons w r ih=>
  intro h
  have h1:=h w (by simp)
  have h2:=ih fun x hx=>h x (AeH _ hx)
  simp only[comp,h1,h2]
theorem AZb:∀ (M P:List Tok) (way c c':List Int) (r:Int) (t0:Tok),run (way,c) M=some ([r],c')→Inv (way,c)→P.getLast? = some t0→way.head? = some t0.st →
  T (P++comp P way)→(∀ x,.ver x∈P++comp P way→x∈c)→(∀ x∈c',Tok.ver x∈P++M)→(P++M).Nodup→T (P++M):=by
 intro M
 induction M with
 |nil=>
  intro P way c c' r t0 h hi hl hh hT hc hc' hn
  cases h
  have:=hc' r (hi.2 r (by simp))
  rw[AfH]at this
  simpa [comp,this]using hT
 |cons t M ih=>
  intro P way c c' r t0 h hi hl hh hT hc hc' hn
  rw[Az,AeW]at h
  obtain⟨⟨w1,c1⟩,h1,h2⟩:=h
  obtain⟨hi1,hsub,hhd⟩:=XT h1 hi
  have asso:P++t::M=(P++[t])++M:=by simp
  rw[asso]at hn hc' ⊢
  have hnt:t∉P:=by
   have:=(Aft.1 (Aft.1 hn).1)
   intro hm
   exact this.2.2 t hm t (by simp) rfl
  rcases B2 h1 with⟨v,rr,rfl,hw,e⟩|⟨u,v,rr,rfl,hw,e⟩|⟨u,v,rr,rfl,hw,hh2,hn2,e⟩
  ·cases e
   simp only at hw
   subst hw
   have key:comp P (v::rr) = .ver v::comp (P++[.ver v]) (v::rr):=by
    have e2:comp P rr=comp (P++[.ver v]) rr:=Oz fun w hwm=>by
     have:w≠v:=by rintro rfl;exact(AeP.1 hi.1).1 hwm
     simp[this]
    simp only[comp,hnt,e2]
    simp
   rw[key]at hT hc
   exact ih _ _ _ _ _ (.ver v) h2 hi1 (by simp) hhd (by simpa using hT) (fun x hx=>hc x (by simpa using hx)) hc' hn
  ·cases e
   simp only at hw
   subst hw
   have hu:Tok.ver u∈P:=by
    have hun:=(AeP.1 hi.1).1
    obtain⟨g1,_⟩:=Xp (z:=u) (c:=c.filter (·≠u)) h2 hun (fun x=>by
     simp only[Aei,Adt]
     constructor
     ·intro h
      by_cases e:x=u
      ·exact .inr e
      ·exact .inl ⟨h,by simpa using e⟩
     ·rintro (h|rfl)
      ·exact h.1
      ·exact hi.2 x (by simp)) (by simp)
    have hmono:=(IQ h2 hi1).2.1 u (hi.2 u (by simp))
    have:=hc' u hmono
    simp only[Adu,AeK,reduceCtorEq,AgT]at this
    rcases this with h|h
    ·exact h
    ·exact absurd h g1
   have key:comp P (u::v::rr) = .arc u v::comp (P++[.arc u v]) (v::rr):=by
    have e2:comp P (v::rr)=comp (P++[.arc u v]) (v::rr):=Oz fun w hwm=>by simp
    rw[← e2]
    simp only[comp,hu]
    simp
   rw[key]at hT hc
   exact ih _ _ _ _ _ (.arc u v) h2 hi1 (by simp) hhd (by simpa using hT) (fun x hx=>hc x (by simpa using hx)) hc' hn
  ·cases e
   simp only at hw hn2
   subst hw
   have hu:u=t0.st:=by simpa using hh
   subst hu
   have hvc:∀ x,Tok.ver x∈P++comp P (t0.st::rr)→x≠v:=by rintro x hx rfl;exact hn2 (hc x hx)
   have hvP:Tok.ver v∉P++comp P (t0.st::rr):=fun hm=>hvc v hm rfl
   have hvP':Tok.ver v∉P:=fun hm=>hvP (by simp[hm])
   have key:comp (P++[.arc t0.st v]) (v::t0.st::rr) = .ver v :: .arc v t0.st::comp P (t0.st::rr):=by
    have e2:comp (P++[.arc t0.st v]) (t0.st::rr)=comp P (t0.st::rr):=Oz fun w hwm=>by simp
    rw[← e2]
    simp only[comp,Adu,hvP',AeK,reduceCtorEq,AgT,Ad7]
    rfl
   have hne:t0.st≠v:=by rintro e;exact hn2 (e▸hi.2 t0.st (by simp))
   refine ih _ _ _ _ _ (.arc t0.st v) h2 hi1 (by simp) hhd ?_ ?_ hc' hn
   ·rw[key]
    obtain⟨P0,rfl⟩:∃ P0,P=P0++[t0]:=List.getLast?_eq_some_iff.1 hl
    have hT1:T (t0::(comp (P0++[t0]) (t0.st::rr)++P0)):=hT.APN ⟨P0,t0::comp (P0++[t0]) (t0.st::rr),by simp,by simp⟩
    have hT2:=T.add t0 _ v hT1 hne (by
     intro hm
     apply hvP
     simp only[Adu,Adx,Afm,AgT]at hm ⊢
     rcases hm with h|h|h<;>simp[h])
    exact hT2.APN ⟨t0 :: .arc t0.st v :: .ver v :: .arc v t0.st::comp (P0++[t0]) (t0.st::rr),P0,by simp,by simp⟩
   ·intro x hx
    rw[key]at hx
    simp only[Adu,Adx,Afm,AgT,reduceCtorEq,Tok.ver.injEq,false_or]at hx
    rcases hx with h|h|h
    ·exact AeH _ (hc x (by simp[h]))
    ·simp[h]
    ·exact AeH _ (hc x (by simp[h]))
def Ay(l:List Tok):Prop:=∃ r l' c,l = .ver r::l'∧run ([r],[r]) l=some ([r],c)∧∀ x∈c,Tok.ver x∈l
theorem Ay.toT{l:List Tok}(h:Ay l)(hn:l.Nodup):T l:=by
 obtain⟨r,l',c,rfl,h1,h2⟩:=h
 rw[Az,DJ,AeX]at h1
 have:=AZb l' [.ver r] [r] [r] c r (.ver r) h1 (NQ r) (by simp) (by simp[st]) (by simp[comp];exact T.one r) (by simp[comp]) (by simpa using h2) (by simpa using hn)
 simpa using this
theorem T.AEh{r:Int}{l:List Tok}(h:T (.ver r::l)):Ay (.ver r::l):=by
 obtain⟨t,ht⟩:∃ t,(Tok.ver r::l).getLast? = some t:=⟨_,AgL (by simp)⟩
 obtain⟨c,h1,h2⟩:=h.toC _ (Rot.refl _) t ht
 have h1':=h1
 rw[Az,AeW]at h1'
 obtain⟨s,g1,_⟩:=h1'
 have e:t.st=r:=by
  simp only[step]at g1
  split at g1
  ·assumption
  ·cases g1
 rw[e]at h1
 exact⟨r,l,c,rfl,h1,fun x hx=>(h2 x).1 hx⟩
end Go.Pev.Pl.Tok
end
section
namespace Go.Pev.Pl.Tok
theorem T.AMQ{l:List Tok}(h:T l):∃ v r,Rot l (.ver v::r):=by
 obtain⟨f1,f2,_⟩:=h.facts
 obtain⟨t,ht⟩:=List.exists_mem_of_ne_nil l f1
 obtain⟨a,b,rfl⟩:=Agc (f2 t ht)
 exact⟨t.st,b++a,a,.ver t.st::b,rfl,rfl⟩
theorem T.less{x:Tok}{v:Int}{l:List Tok}(h:T (x :: .arc x.st v :: .ver v :: .arc v x.st::l)):T (x::l):=by
 have hC:=h.toC
 have hn:=h.nodup
 obtain⟨_,f2,f3⟩:=h.facts
 have hne:x.st≠v:=(f3 x.st v (by simp)).2.2.2
 have hvl:Tok.ver v∉l:=by
  intro hm
  simp only[AeP,Adx,not_or]at hn
  exact hn.2.2.1.2 hm
 have hvx:x≠.ver v:=by rintro rfl;exact hne rfl
 have key:∀ p q,l=p++q→∀ t0,(q++x::p).getLast? = some t0→∃ c,run ([t0.st],[t0.st]) (q++x::p)=some ([t0.st],c)∧∀ y,y∈c↔.ver y∈x::l:=by
  intro p q hl t0 ht0
  have hrot:Rot (x :: .arc x.st v :: .ver v :: .arc v x.st::l) (q++x :: .arc x.st v :: .ver v :: .arc v x.st::p):=⟨x :: .arc x.st v :: .ver v :: .arc v x.st::p,q,by simp[hl],rfl⟩
  have ht:∃ t,(q++x::Tok.arc x.st v :: .ver v :: .arc v x.st::p).getLast? = some t∧t.st=t0.st:=by
   cases p with
   |nil=>
    rw[Aff]at ht0
    cases ht0
    exact⟨.arc v x.st,by rw[show q++[x,Tok.arc x.st v,.ver v,.arc v x.st]=(q++[x,Tok.arc x.st v,.ver v])++[Tok.arc v x.st] by simp,Aff],rfl⟩
   |cons y p=>
    refine⟨t0,?_,rfl⟩
    rw[show q++x::Tok.arc x.st v :: .ver v :: .arc v x.st::y::p=(q++[x,Tok.arc x.st v,.ver v,.arc v x.st])++y::p by simp,Af7]
    rw[show q++x::y::p=(q++[x])++y::p by simp,Af7]at ht0
    exact ht0
  obtain⟨t,e0,e1⟩:=ht
  obtain⟨c,h1,h2⟩:=hC _ hrot t e0
  rw[e1,show q++x::Tok.arc x.st v :: .ver v :: .arc v x.st::p=(q++[x])++Tok.arc x.st v :: .ver v :: .arc v x.st::p by simp,DP,AeW]at h1
  obtain⟨⟨w1,c1⟩,g1,g2⟩:=h1
  obtain⟨i1,i2,i3⟩:=IQ g1 (NQ _)
  have i3':=i3 x (by simp)
  simp only at i3'
  cases w1 with
  |nil=>simp at i3'
  |cons w0 w'=>
   simp at i3'
   subst i3'
   rw[Az,AeW]at g2
   obtain⟨s1,k1,k2⟩:=g2
   rcases B2 k1 with⟨v',r,e,_⟩|⟨u',v',r,e,hw,rfl⟩|⟨u',v',r,e,hw,hh,hnc,rfl⟩
   ·cases e
   ·cases e
    simp only[AeJ]at hw
    obtain⟨_,rfl⟩:=hw
    exfalso
    rw[Az,DJ,AeX,Az,AeW]at k2
    obtain⟨s2,m1,_⟩:=k2
    have hnd:=i1.1
    rcases B2 m1 with⟨v',r',e,_⟩|⟨u',v',r',e,hw,rfl⟩|⟨u',v',r',e,hw,hh,hnc,rfl⟩
    ·cases e
    ·cases e
     simp only[AeJ]at hw
     obtain⟨_,rfl⟩:=hw
     simp at hnd
    ·cases e
     exact hnc (i1.2 _ (by simp))
   ·cases e
    simp only[AeJ,AfX]at hw
    subst hw
    simp only at hnc
    rw[Az,DJ,AeX,Az,GM,AeX]at k2
    have hvw:v∉x.st::w':=fun hm=>hnc (i1.2 v hm)
    obtain⟨_,d,m1,m2,m3⟩:=Xp (z:=v) (c:=c1) k2 hvw (fun y=>by simp[or_comm]) hnc
    refine⟨d,?_,fun y => ?_⟩
    ·rw[show q++x::p=(q++[x])++p by simp,DP,g1,AeX,m1]
    ·have q1:=m2 y
     have q2:=h2 y
     by_cases e:y=v
     ·subst e
      refine⟨fun h=>absurd h m3,fun h => ?_⟩
      rcases Adx.1 h with h|h
      ·exact absurd h.symm hvx
      ·exact absurd h hvl
     ·rw[q2]at q1
      simp only[e,AgT]at q1
      rw[← q1]
      simp[e]
 obtain⟨s,b,a,hsb⟩:∃ s a b,x::l=a ++ .ver s::b:=by
  have:=f2 x (by simp)
  simp only[Adx,reduceCtorEq,false_or,Tok.ver.injEq,hne]at this
  rcases this with h|h
  ·exact⟨x.st,[],l,by rw[← h];rfl⟩
  ·obtain⟨a,b,rfl⟩:=Agc h
   exact⟨x.st,x::a,b,rfl⟩
 have hg:Ay (.ver s::a++b):=by
  have hr:∃ p q,l=p++q∧q++x::p = .ver s::a++b:=by
   cases b with
   |nil=>
    simp only[AeQ,AeJ]at hsb
    obtain⟨rfl,rfl⟩:=hsb
    exact⟨l,[],by simp,by simp⟩
   |cons y b=>
    simp only[AeN,AeJ]at hsb
    obtain⟨rfl,rfl⟩:=hsb
    exact⟨b,.ver s::a,rfl,by simp⟩
  obtain⟨p,q,hl,e⟩:=hr
  obtain⟨t0,ht0⟩:∃ t0,(q++x::p).getLast? = some t0:=⟨_,AgL (by simp)⟩
  obtain⟨c,h1,h2⟩:=key p q hl t0 ht0
  rw[e]at h1
  have h1':=h1
  rw[AeN,Az,AeW]at h1'
  obtain⟨s',g1,_⟩:=h1'
  have e':t0.st=s:=by
   simp only[step]at g1
   split at g1
   ·assumption
   ·cases g1
  rw[e']at h1
  refine⟨s,a++b,c,rfl,h1,fun y hy => ?_⟩
  have:=(h2 y).1 hy
  rw[hsb]at this
  simp only[Adu,Adx]at this ⊢
  rcases this with h|h|h<;>simp[h]
 have hrot2:Rot (.ver s::a++b) (x::l):=⟨.ver s::a,b,rfl,hsb⟩
 have hnx:(x::l).Nodup:=by
  simp only[AeP,Adx,not_or]at hn ⊢
  exact⟨hn.1.2.2.2,hn.2.2.2.2⟩
 exact(hg.toT (hrot2.nodup.2 hnx)).APN hrot2
theorem T.leaf{l:List Tok}(h:T l):(∃ v,l=[.ver v])∨∃ x v r,Rot l (x :: .arc x.st v :: .ver v :: .arc v x.st::r):=by
 induction h with
 |one v=>exact .inl ⟨v,rfl⟩
 |add x l v h hne hv ih=>exact .inr ⟨x,v,l,Rot.refl _⟩
 |rot a b h ih=>
  rcases ih with⟨v,e⟩|⟨x,v,r,hr⟩
  ·have hr:Rot [.ver v] (b++a):=⟨a,b,e.symm,rfl⟩
   exact .inl ⟨v,List.perm_singleton.1 hr.perm.symm⟩
  ·exact .inr ⟨x,v,r,Rot.trans ⟨b,a,rfl,rfl⟩ hr⟩
def LC:List Tok→List Int
 |[]=>[]
 |.ver v::l=>v::LC l
 |.arc _ _::l=>LC l
theorem Pv{v:Int}:∀ {l:List Tok},v∈LC l↔.ver v∈l
 |[]=>by simp[LC]
 |.ver w::l=>by simp[LC,Pv (l:=l)]
 |.arc _ _::l=>by simp[LC,Pv (l:=l)]
theorem AIX(a b:List Tok):LC (a++b)=LC a++LC b:=by
 induction a with
 |nil=>rfl
 |cons t a ih=>cases t<;>simp[LC,ih]
theorem T.len{l:List Tok}(h:T l):l.length+2=3*(LC l).length:=by
 induction h with
 |one v=>rfl
 |add x l v h hne hv ih=>
  cases x<;>simp[LC]at ih ⊢<;>omega
 |rot a b h ih=>
  simp only[AIX,Ad0]at ih ⊢
  omega
end Go.Pev.Pl.Tok
end
section
namespace Go.Pev.Pl
section
variable {β:Type}
def BA(es:List (Int×β)):List Int:=es.map Prod.fst
theorem Sh(es:List (Int×β)):(BA es).length=es.length:=by simp[BA]
theorem G2(es:List (Int×β))(k:Int)(v:β)(j:Int):AR (Ai es k v) j=if j=k then some v else AR es j:=by
 induction es with
 |nil=>
  simp only[Ai,AR]
  by_cases h:k=j
  ·simp[h]
  ·simp[h,Aej h]
 |cons e es ih=>
  obtain⟨a,b⟩:=e
  simp only[Ai]
  by_cases h:a=k
  ·subst h
   simp only[AeL,AR]
   by_cases h2:a=j
   ·simp[h2]
   ·simp[h2,Aej h2]
  ·simp only[h,Ad7,AR,ih]
   by_cases h2:a=j
   ·subst h2;simp[h]
   ·simp[h2]
theorem OV(es:List (Int×β))(k:Int)(v:β):BA (Ai es k v)=if k∈BA es then BA es else BA es++[k]:=by
 induction es with
 |nil=>rfl
 |cons e es ih=>
  obtain⟨a,b⟩:=e
  simp only[Ai]
  by_cases h:a=k
  ·subst h;simp[BA]
  ·simp only[h,Ad7]
   show a::BA (Ai es k v)=_
   rw[ih]
   have:k∈BA ((a,b)::es)↔k∈BA es:=by simp[BA,Aej h]
   simp only[this]
   split<;>rfl
theorem UO(es:List (Int×β))(k:Int):AR es k=none↔k∉BA es:=by
 induction es with
 |nil=>simp[AR,BA]
 |cons e es ih=>
  obtain⟨a,b⟩:=e
  simp only[AR]
  by_cases h:a=k
  ·simp[h,BA]
  ·simp only[h,Ad7,ih]
   simp[BA,Aej h]
theorem E2(es:List (Int×β))(k:Int)(v:β)(j:Int):j∈BA (Ai es k v)↔j=k∨j∈BA es:=by
 rw[OV]
 split
 ·rename_i h
  constructor
  ·exact .inr
  ·rintro (rfl|h2)
   ·exact h
   ·exact h2
 ·simp[or_comm]
theorem JL{es:List (Int×β)}(h:(BA es).Nodup)(k:Int)(v:β):(BA (Ai es k v)).Nodup:=by
 rw[OV]
 split
 ·exact h
 ·rename_i hk
  rw[Aft]
  exact⟨h,by simp,fun a ha b hb=>by rintro rfl;simp at hb;exact hk (hb▸ha)⟩
end
def dd:List Int→List Int→List Int
 |ks,[]=>ks
 |ks,x::xs=>dd (if x∈ks then ks else ks++[x]) xs
theorem AdL:∀ (xs ks:List Int),(dd ks xs).length≤ks.length+xs.length∧((dd ks xs).length=ks.length+xs.length↔xs.Nodup∧∀ x∈xs,x∉ks):=by
 intro xs
 induction xs with
 |nil=>intro ks;simp[dd]
 |cons x xs ih=>
  intro ks
  rw[dd]
  by_cases h:x∈ks
  ·obtain⟨h1,_⟩:=ih ks
   rw[Ad6 h]
   refine⟨by simp only[Ad1];omega,?_,fun hh=>absurd h (hh.2 x (by simp))⟩
   intro e
   simp only[Ad1]at e
   omega
  ·obtain⟨h1,h2⟩:=ih (ks++[x])
   rw[Ad3 h]
   simp only[Ad0,Ad1,AeF,Aev]at h1 h2 ⊢
   refine⟨by omega,?_⟩
   rw[show ks.length+(xs.length+1)=ks.length+1+xs.length by omega,h2,AeP]
   constructor
   ·rintro⟨g1,g2⟩
    refine⟨⟨fun hx=>g2 x hx (by simp),g1⟩,fun y hy => ?_⟩
    rcases Adx.1 hy with rfl|hy
    ·exact h
    ·exact fun hk=>g2 y hy (by simp[hk])
   ·rintro⟨⟨g1,g2⟩,g3⟩
    refine⟨g2,fun y hy hk => ?_⟩
    simp only[Adu,AeK]at hk
    rcases hk with hk|rfl
    ·exact g3 y (by simp[hy]) hk
    ·exact g1 hy
theorem AZy(xs:List Int):(dd [] xs).length=xs.length↔xs.Nodup:=by
 have:=(AdL xs []).2
 simpa using this
theorem BZ{α β ρ:Type}(g:β→α→α)(fin:α→ρ):∀ (xs:List β) (a:α),walk (fun x a=>.inl (g x a)) fin xs a=fin (xs.foldl (fun a x=>g x a) a):=by
 intro xs
 induction xs with
 |nil=>intro a;rfl
 |cons x xs ih=>intro a;rw[walk,Aep];exact ih _
theorem Gw{σ ρ β:Type}{step:σ→Option (σ⊕ρ)}(st:Nat→σ)(xs:List β)(P:β→Bool)(rt:Nat→ρ)(rf:ρ)(hs:xs.length<9223372036854775808)
  (h:∀ i x,i<xs.length→xs[i]? = some x→step (st i)=if P x then some (.inr (rt i))else some (.inl (st (i+1)))) (hN:step (st xs.length)=some (.inr rf)) :
  AT step many (st 0)=some (if xs.any P then rt (xs.findIdx P)else rf):=by
 have key:∀ (l:List β) (a:Nat),walk (fun x (a:Nat)=>if P x then .inr (rt a)else .inl (a+1)) (fun _=>rf) l a=if l.any P then rt (a+l.findIdx P)else rf:=by
  intro l
  induction l with
  |nil=>intro a;rfl
  |cons x l ih=>
   intro a
   rw[walk,List.any_cons,AgN]
   by_cases hx:P x=true
   ·simp[hx]
   ·simp only[hx,Ad4,Ad7,Bool.false_or,cond_false]
    rw[ih,show a+1+List.findIdx P l=a+(List.findIdx P l+1) by omega]
 have:=DH (step:=step) (fun i (a:Nat)=>st a) xs (fun x (a:Nat)=>if P x then .inr (rt a)else .inl (a+1)) (fun _=>rf) (fun i a=>a=i) hs
  (fun i x a hi hx ha=>by
   subst ha
   refine⟨fun a' h' => ?_,fun r h' => ?_⟩
   ·rw[h a x hi hx]
    split at h'
    ·cases h'
    ·rename_i hp
     cases h'
     simp[hp]
   ·rw[h a x hi hx]
    split at h'
    ·rename_i hp
     cases h'
     simp[hp]
    ·cases h')
  (fun a ha=>by subst ha;exact hN) 0 rfl
 rw[this,key,Aev]
theorem Ah{α:Type}{xs:List α}{n:Nat}{x:α}(h:xs[n]? = some x):idx xs (n:Int)=some x:=by rw[AGw,h]
theorem HJ{α:Type}{xs:List α}{n:Nat}{x z:α}(h:xs[n]? = some x):AN xs (AE (n:Int)) z=x:=by
 rw[Fv,Ads,h];rfl
theorem N6{α:Type}{xs:List α}{h:Nat}(h2:h≤xs.length):CH xs (0:Int) (h:Int)=some (xs.take h):=by
 have:=RV (xs:=xs) (l:=0) (AgJ h) h2
 simpa using this
theorem GL{α:Type}{xs:List α}{l:Nat}(h1:l≤xs.length):CH xs (l:Int) (AM xs)=some (xs.drop l):=by
 have:=RV (xs:=xs) h1 (Ad5 _)
 rw[AfR]at this
 exact this
def pos(xs:List Int)(t:Int):Int:=if t∈xs then((xs.findIdx (fun x=>decide (x=t)):Nat):Int)else -1
theorem AH4(xs:List Int)(t:Int):(xs.any fun x=>decide (x=t))=decide (t∈xs):=by
 induction xs with
 |nil=>rfl
 |cons x xs ih=>simp only[List.any_cons,ih,Adx,Bool.decide_or];congr 1;exact Afc.2 eq_comm
theorem AFW{xs:List Int}{t:Int}(h:t∈xs):∃ k:Nat,pos xs t=(k:Int)∧k<xs.length∧xs[k]? = some t∧xs=xs.take k++t::xs.drop (k+1)∧t∉xs.take k:=by
 have hk:xs.findIdx (fun x=>decide (x=t))<xs.length:=Ae8.2 ⟨t,h,by simp⟩
 have hg:xs[xs.findIdx (fun x=>decide (x=t))]'hk=t:=by
  have:=Af8 (xs:=xs) (p:=fun x=>decide (x=t)) (w:=hk)
  simpa using this
 refine⟨_,by rw[pos,Ad6 h],hk,by rw[Adw hk,hg],?_,?_⟩
 ·conv=>lhs;rw[← Aef (xs.findIdx (fun x=>decide (x=t))) xs,Aea hk,hg]
 ·intro hm
  obtain⟨j,hj,e⟩:=Af9.1 hm
  have:=List.not_of_lt_findIdx (p:=fun x=>decide (x=t)) (xs:=xs) (i:=j) (by omega)
  simp[e]at this
theorem PZ{xs:List Int}{t:Int}(h:t∉xs):pos xs t = -1:=by rw[pos,Ad3 h]
end Go.Pev.Pl
end
