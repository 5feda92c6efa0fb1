/- A part of the proofs of this seat: G24M1 G24M2 G24M3 G24M4 G24M5 G24M6 G24M Pln PlnB T18a T18b T18c PlnM. -/
import Derived.Test.YtaamkoofmojajaaGreatPc2981a115b
import Derived.IntWalk
import Derived.Sort.AssemblyPlain
set_option linter.unusedVariables false
set_option linter.unusedSimpArgs false
set_option linter.unusedSectionVars false
set_option maxRecDepth 100000
section
namespace Go.Pev
noncomputable section
attribute [local irreducible] MC JA Nh Kx AW1 AW2 AW3 Pb WE WA X3 JC AQ many IntKind.wrap AO Am AM A6 Bi DT Jd AE BV Bt imax AU Ah
abbrev U0:Ty:=(.int .i64)
abbrev U1:Ty:=(.prod U0 (.prod U0 (.prod U0 (.prod .bool .unit))))
abbrev U2:=(Int×Int×Int×Bool×Unit)
abbrev U3:=(Int×Int×Unit)
abbrev U4:=(List Int)
abbrev U5:Ty:=(.prod U0 (.prod U0 .unit))
abbrev U6:Ty:=(.slice U0)
abbrev U7:=(List Int×Int×Int×Int×Unit)
abbrev U8:=(List U4×Int×Int×Int×Unit)
abbrev U9:=(Int×Unit)
abbrev Ua:Ty:=(.prod U0 (.prod (.slice U1) .unit))
abbrev Ub:=(Bool×Bool×U3×Int×Unit)
abbrev Uc:=(List Int×Unit)
abbrev Ud:Ty:=(.prod .bool (.prod .bool (.prod U5 (.prod U0 .unit))))
abbrev Ue:=(List Int×Int×Int×Unit)
abbrev Uf:=(Int×(List U2)×Unit)
abbrev Ug:=(List U4×Int×Int×Unit)
abbrev Uh:=(Bool×Unit)
abbrev Ui:=(Int×Bool×Bool×Int×Int×Int×Int×Int×Int×Bool×Int×List U2×Bool×Bool×Int×Int×Int×Int×Int×List Int×Int×Bool×Unit)
abbrev Uj:=(List U4×Int×Int×Int×Int×Unit)
abbrev Uk:=(Int×(List U4)×Unit)
abbrev Ul:Ty:=(.slice U6)
abbrev Um:=(List Int×Int×Int×Int×Int×Unit)
abbrev Un:=(Int×Bool×Bool×Int×Int×Int×Int×Int×Int×Bool×Int×List U2×Bool×Bool×Int×Int×Int×Int×Int×Unit)
abbrev Uo:=(List U4×Unit)
abbrev Up:=(Int×List U2×Bool×Bool×Int×Int×Int×Int×Int×List (Int×Int)×List Int×Int×Int×Unit)
abbrev Uq:=(List Int×Int×Unit)
abbrev Ur:Ty:=(.prod U0 (.prod Ul .unit))
abbrev Us:Ty:=(.slice U1)
abbrev Ut:Ty:=(.slice U5)
abbrev Uu:=(List Int×Int×Int×Int×Int×Int×Unit)
abbrev Uv:=(Int×Int)
abbrev Uw:=(List U4×Int×Int×Int×Int×Int×Unit)
abbrev Ux:=(Int×List U4×List Bool×Int×Int×Int×List Int×Int×List Int×Int×Bool×Int×List Int×Bool×Bool×List Int×List Int×List U4×List Int×List U4×Bool×Bool×List Int×Int×Int×Bool×Unit)
abbrev Uy:=(Int×List U4×List Uv×Int×List U4×Int×Int×List Int×Int×Int×Bool×List Int×Bool×Bool×List Int×Int×List Int×Int×Bool×Int×List Int×Bool×Bool×List Int×Int×Int×Unit)
abbrev Uz:=(Int×List Int×Int×List Int×Int×Bool×Bool×Bool×Bool×Int×Int×Bool×Int×Int×Int×Int×Int×Bool×Int×Int×Int×Int×Int×Int×Int×Int×Int×Bool×Unit)
abbrev V0:=(List Int×Int×Int×Int×Bool×Bool×Unit)
abbrev V1:=(Int×List U4×Int×Unit)
abbrev V2:=(List U3×Unit)
abbrev V3:=(Int×List U2×List U3×Int×Unit)
abbrev V4:=(List U3×List (U3×Int)×Int×Int×Unit)
abbrev V5:=(Uf×Int×Int×Unit)
abbrev V6:=(List Int×Int×List U4×Int×Int×Unit)
abbrev V7:=(List Int×Int×List U4×Unit)
abbrev V8:=(Int×List U2×Bool×Bool×Int×Int×Int×Int×Unit)
abbrev V9:=(List U3×List (U3×Int)×Int×Unit)
abbrev Va:=(List Int×Int×List U4×Int×Unit)
abbrev Vb:=(Uk×Int×Unit)
abbrev Vc:=(List U4×Int×Unit)
abbrev Vd:=(Uf×List U3×Unit)
abbrev Ve:=(Int×List U2×Bool×Bool×Int×Int×Int×Int×List Uv×List Int×Int×Int×Unit)
abbrev Vf:=(List Int×Bool×Unit)
abbrev Vg:=(Int×List Int×Unit)
abbrev Vh:=(U8⊕U8⊕Unit)
abbrev Vi:=(U7⊕U7⊕Unit)
abbrev Vj:=(List Int×List U4×Int×List U4×Int×List U4×List U4×Int×Int×Unit)
abbrev Vk:=(Int×List U3×List Int×Bool×Unit)
abbrev Vl:=(Int×List U2×Int×List Ub×Int×List U2×List U3×Int×Int×Unit)
abbrev Vm:=(Int×List U3×List U3×Int×Unit)
abbrev AAL:AF:=[(.tmp 0,.dat U6),(.tmp 1,.dat U6)]
abbrev AAK:AF:=[(.tmp 0,.dat .bool)]
abbrev AAJ:List RS:=[.one]
abbrev AER:AF:=[(.tmp 0,.dat U6),(.tmp 1,.dat U6),(.tmp 5,.di)]
abbrev AEQ:Az:=[(.ret,[(.tmp 4,.dat .bool)]),(.exit 0,[])]
def Ec[Lk]:(List Int×List Int×Int×Unit)→Option ((List Int×List Int×Int×Unit)⊕Uh⊕(Unit)⊕Unit):=fun(a0,a1,a2,_)=>
 match(ilt a2 (AO a0))with
 |true=>match idx a0 a2 with|none=>none|some x0=>match idx a1 a2 with|none=>none|some x1=>match(!(ieq x0 x1))with
  |true=>some (.inr (.inl (false,())))
  |false=>some (.inl (a0,a1,(IntKind.wrap .i64 (a2+1)),()))
 |false=>some (.inr (.inr (.inl ())))
def QB[Lk]:(List Int×List Int×Unit)→Option (Uh):=fun(a0,a1,_)=>
 match(!(ieq (AO a0) (AO a1)))with
 |true=>some (false,())
 |false=>match AR Ec many (a0,a1,0,())with|none=>none|some r=>match r with
 |.inl (o0,_)=>some (o0,())
 |.inr r=>match r with
 |.inl _=>some (true,())
 |.inr _=>none
def Sv[Lk]:=fun v=>Lk.f (QB v)
theorem AES v:Sv v=QB v:=AJ _
abbrev Xf:AF:=[(.tmp 0,.di)]
abbrev Xe:AF:=[(.tmp 0,.dat .bool)]
abbrev Xd:List RS:=[.one]
def PO[Lk]:U9→Option (Uh):=fun(a0,_)=>
 match(ile 1 a0)with
 |true=>some ((ile a0 64),())
 |false=>some (false,())
def LK[Lk]:=fun v=>Lk.f (PO v)
theorem ADR v:LK v=PO v:=AJ _
abbrev AYm:AF:=[(.tmp 0,.di),(.tmp 1,.di)]
abbrev AYl:AF:=[(.tmp 0,.dat .bool)]
abbrev AYk:List RS:=[.one]
def ATM[Lk]:U3→Option (Uh):=fun(a0,a1,_)=>
 match LK (a0,())with|none=>none|some (y0,_)=>match y0 with
 |true=>match(ile 0 a1)with
  |true=>some ((ilt a1 a0),())
  |false=>some (false,())
 |false=>some (false,())
def tin[Lk]:=fun v=>Lk.f (ATM v)
theorem AYn v:tin v=ATM v:=AJ _
abbrev AOt:AF:=[(.tmp 0,.di),(.tmp 1,.di),(.tmp 2,.di)]
abbrev AOs:AF:=[(.tmp 0,.di)]
abbrev AOr:List RS:=[.one]
def AFl[Lk]:(Int×Int×Int×Unit)→Option (U9):=fun(a0,a1,a2,_)=>
 match(ieq a1 a2)with
 |true=>some ((-1:Int),())
 |false=>match tin (a0,a1,())with|none=>none|some (y0,_)=>match(!y0)with
 |true=>some ((-1:Int),())
 |false=>match tin (a0,a2,())with|none=>none|some (y1,_)=>match(!y1)with
 |true=>some ((-1:Int),())
 |false=>some ((IntKind.wrap .i64 ((IntKind.wrap .i64 (a0*(IntKind.wrap .i64 (a1+1))))+a2)),())
def AU6[Lk]:=fun v=>Lk.f (AFl v)
theorem ATN v:AU6 v=AFl v:=AJ _
abbrev Xb:AF:=[(.tmp 0,.di),(.tmp 1,.di)]
abbrev Xa:AF:=[(.tmp 0,.di),(.tmp 1,.di),(.tmp 2,.dat .bool),(.tmp 3,.dat .bool)]
abbrev XZ:List RS:=[.one,.one,.one,.one]
def PN[Lk]:U3→Option ((Int×Int×Bool×Bool×Unit)):=fun(a0,a1,_)=>
 match LK (a0,())with|none=>none|some (y0,_)=>match(!y0)with
 |true=>some (0,0,false,false,())
 |false=>match(ilt a1 0)with
 |true=>some (0,0,false,false,())
 |false=>match(ile (IntKind.wrap .i64 (a0*(IntKind.wrap .i64 (a0+1)))) a1)with
 |true=>some (0,0,false,false,())
 |false=>match(ilt a1 a0)with
 |true=>some (a1,0,false,true,())
 |false=>match quo? .i64 a1 a0 with|none=>none|some x1=>match rem? a1 a0 with|none=>none|some x2=>match(ieq (IntKind.wrap .i64 (x1-1)) x2)with
 |true=>some (0,0,false,false,())
 |false=>some ((IntKind.wrap .i64 (x1-1)),x2,true,true,())
def Xc[Lk]:=fun v=>Lk.f (PN v)
theorem ADQ v:Xc v=PN v:=AJ _
abbrev AFf:AF:=[(.tmp 0,.di)]
abbrev AFe:AF:=[(.tmp 0,.di),(.tmp 1,.own 55 U6),(.tmp 2,.di)]
abbrev AFd:List RS:=[.agg 2,.one]
abbrev AJ6:AF:=[(.tmp 2,.box 2),(.cell 0 0,.di),(.cell 0 1,.nil U6),(.tmp 4,.box 2),(.cell 1 0,.di),(.cell 1 1,.own 55 U6),(.tmp 12,.di),(.tmp 13,.di)]
abbrev AJ5:Az:=[(.exit 0,[(.tmp 2,.box 2),(.cell 0 0,.di),(.cell 0 1,.nil U6),(.tmp 4,.box 2),(.cell 1 0,.di),(.cell 1 1,.own 55 U6)])]
def HY[Lk]:(Int×Int×List U4×Int×Int×Unit)→Option ((Int×Int×List U4×Int×Int×Unit)⊕(Int×Int×List U4×Unit)⊕Unit):=fun(a0,a1,a2,a3,a4,_)=>
 match(ilt a4 a3)with
 |true=>match(fits ((AO a2)+(AO ([([a4]:List (Int))]:List U4))))with
  |true=>some (.inl (a0,a1,(A6 a2 ([([a4]:List (Int))]:List U4)),a3,(IntKind.wrap .i64 (a4+1)),()))
  |false=>none
 |false=>some (.inr (.inl (a0,a1,a2,())))
def Wp[Lk]:U9→Option (V1):=fun(a0,_)=>
 match LK (a0,())with|none=>none|some (y0,_)=>match(!y0)with
 |true=>some (0,([]:List U4),1,())
 |false=>match AR HY many (0,a0,([]:List U4),a0,0,())with|none=>none|some r=>match r with
 |.inl (o1,o2,o3,_)=>some (o2,o3,0,())
 |.inr _=>none
def AJ8[Lk]:=fun v=>Lk.f (Wp v)
theorem AJ7 v:AJ8 v=Wp v:=AJ _
abbrev AAS:AF:=[(.tmp 0,.dat U6),(.tmp 1,.di)]
abbrev AAR:AF:=[(.tmp 0,.di)]
abbrev AAQ:List RS:=[.one]
abbrev AEU:AF:=[(.tmp 0,.dat U6),(.tmp 1,.di),(.tmp 7,.di),(.tmp 8,.di)]
abbrev AET:Az:=[(.ret,[(.tmp 4,.di)]),(.exit 0,[])]
def FY[Lk]:U7→Option (U7⊕U9⊕(Unit)⊕Unit):=fun(a0,a1,a2,a3,_)=>
 match(ilt a3 a2)with
 |true=>match idx a0 a3 with|none=>none|some x0=>match(ieq a1 x0)with
  |true=>some (.inr (.inl (a3,())))
  |false=>some (.inl (a0,a1,a2,(IntKind.wrap .i64 (a3+1)),()))
 |false=>some (.inr (.inr (.inl ())))
def QF[Lk]:Uq→Option (U9):=fun(a0,a1,_)=>
 match AR FY many (a0,a1,(AO a0),0,())with|none=>none|some r=>match r with
 |.inl (o0,_)=>some (o0,())
 |.inr r=>match r with
 |.inl _=>some ((-1:Int),())
 |.inr _=>none
def Oe[Lk]:=fun v=>Lk.f (QF v)
theorem AEV v:Oe v=QF v:=AJ _
abbrev MK:AF:=[(.tmp 0,.dat U6),(.tmp 1,.di)]
abbrev MJ:AF:=[(.tmp 0,.dat .bool)]
abbrev MH:List RS:=[.one]
def Ir[Lk]:Uq→Option (Uh):=fun(a0,a1,_)=>
 match Oe (a0,a1,())with|none=>none|some (y0,_)=>some ((ile 0 y0),())
def Ed[Lk]:=fun v=>Lk.f (Ir v)
theorem Qh v:Ed v=Ir v:=AJ _
abbrev AQ0:AF:=[(.tmp 0,.dat U6)]
abbrev AQz:AF:=[(.tmp 0,.di)]
abbrev AQy:List RS:=[.one]
abbrev ATy:AF:=[(.tmp 0,.dat U6),(.tmp 3,.di),(.tmp 4,.di)]
abbrev ATx:Az:=[(.exit 0,[(.tmp 3,.di)])]
def KE[Lk]:Ue→Option (Ue⊕U9⊕Unit):=fun(a0,a1,a2,_)=>
 match(ilt a2 (AO a0))with
 |true=>match idx a0 a2 with|none=>none|some x0=>some (.inl (a0,(Bt a1 x0),(IntKind.wrap .i64 (a2+1)),()))
 |false=>some (.inr (.inl (a1,())))
def AHK[Lk]:Uc→Option (U9):=fun(a0,_)=>
 match(ilt (AO a0) 1)with
 |true=>none
 |false=>match idx a0 0 with|none=>none|some x0=>match AR KE many (a0,x0,1,())with|none=>none|some r=>match r with
 |.inl (o1,_)=>some (o1,())
 |.inr _=>none
def AWM[Lk]:=fun v=>Lk.f (AHK v)
theorem ATz v:AWM v=AHK v:=AJ _
abbrev AIK:AF:=[(.tmp 0,.nil U0),(.tmp 1,.di)]
abbrev AIJ:AF:=[(.tmp 0,.own 3 U0)]
abbrev AII:List RS:=[.one]
def XI[Lk]:U9→Option (Uc):=fun(a0,_)=>
 match(ilt a0 0)with
 |true=>none
 |false=>match(ilt 0 (IntKind.wrap .i64 (a0-(IntKind.wrap .i64 (0-0)))))with
 |true=>match Bz ([]:List Unit) 0 0 with|none=>none|some _u0=>match(K7 (IntKind.wrap .i64 (a0-(IntKind.wrap .i64 (0-0)))))with
  |true=>match Bz (Jd (AE (IntKind.wrap .i64 (a0-(IntKind.wrap .i64 ((0:Int)-(0:Int)))))) (0:Int)) (0:Int) (0:Int)with|none=>none|some x1=>some ((Bi (AE (AO x1)) (Jd (AE (IntKind.wrap .i64 (a0-(IntKind.wrap .i64 ((0:Int)-(0:Int)))))) (0:Int))),())
  |false=>none
 |false=>some (([]:List (Int)),())
def ANO[Lk]:=fun v=>Lk.f (XI v)
theorem ANN v:ANO v=XI v:=AJ _
abbrev TP:AF:=[(.tmp 0,.dat Ul)]
abbrev TO:AF:=[(.tmp 0,.own 3 U0)]
abbrev TN:List RS:=[.one]
abbrev ABK:AF:=[(.tmp 6,.own 3 U0),(.tmp 25,.dat Ul),(.tmp 26,.di),(.tmp 27,.di)]
abbrev ABI:Az:=[(.exit 2,[(.tmp 6,.own 3 U0)])]
def EK[Lk]:(List Int×List U4×Int×Int×Unit)→Option ((List Int×List U4×Int×Int×Unit)⊕Uc⊕Unit):=fun(a0,a1,a2,a3,_)=>
 match(ilt a3 a2)with
 |true=>match idx a1 a3 with|none=>none|some x0=>match(fits ((AO a0)+(AO x0)))with
  |true=>some (.inl ((A6 a0 x0),a1,a2,(IntKind.wrap .i64 (a3+1)),()))
  |false=>none
 |false=>some (.inr (.inl (a0,())))
abbrev ABL:AF:=[(.tmp 0,.dat Ul),(.tmp 3,.di),(.tmp 9,.dat Ul),(.tmp 10,.di),(.tmp 11,.di)]
abbrev ABJ:Az:=[(.exit 0,[(.tmp 0,.dat Ul),(.tmp 3,.di)])]
def EM[Lk]:(List U4×Int×List U4×Int×Int×Unit)→Option ((List U4×Int×List U4×Int×Int×Unit)⊕Vc⊕Unit):=fun(a0,a1,a2,a3,a4,_)=>
 match(ilt a4 a3)with
 |true=>match idx a2 a4 with|none=>none|some x0=>match(ilt (IntKind.wrap .i64 (a1+(AO x0))) 0)with
  |true=>none
  |false=>some (.inl (a0,(IntKind.wrap .i64 (a1+(AO x0))),a2,a3,(IntKind.wrap .i64 (a4+1)),()))
 |false=>some (.inr (.inl (a0,a1,())))
def NP[Lk]:Uo→Option (Uc):=fun(a0,_)=>
 match AR EM many (a0,0,a0,(AO a0),0,())with|none=>none|some r=>match r with
 |.inl (o0,o1,_)=>match ANO (o1,())with|none=>none|some (y2,_)=>match AR EK many (y2,o0,(AO o0),0,())with|none=>none|some r=>match r with
  |.inl (o3,_)=>some (o3,())
  |.inr _=>none
 |.inr _=>none
def Is[Lk]:=fun v=>Lk.f (NP v)
theorem ABM v:Is v=NP v:=AJ _
abbrev Hu:AF:=[(.tmp 0,.dat U6),(.tmp 1,.clo 195 [])]
abbrev Ht:AF:=[(.tmp 0,.di)]
abbrev Hs:List RS:=[.one]
abbrev Kz:AF:=[(.tmp 0,.dat U6),(.tmp 1,.clo 195 []),(.tmp 7,.di),(.tmp 8,.di)]
abbrev Ky:Az:=[(.ret,[(.tmp 4,.di)]),(.exit 0,[])]
def B2[Lk]:Ue→Option (Ue⊕U9⊕(Unit)⊕Unit):=fun(a0,a1,a2,_)=>
 match(ilt a2 a1)with
 |true=>match idx a0 a2 with|none=>none|some x0=>match(ilt x0 0)with
  |true=>some (.inr (.inl (a2,())))
  |false=>match(ilt 10000 x0)with
  |true=>some (.inr (.inl (a2,())))
  |false=>some (.inl (a0,a1,(IntKind.wrap .i64 (a2+1)),()))
 |false=>some (.inr (.inr (.inl ())))
def Ex[Lk]:Uc→Option (U9):=fun(a0,_)=>
 match AR B2 many (a0,(AO a0),0,())with|none=>none|some r=>match r with
 |.inl (o0,_)=>some (o0,())
 |.inr r=>match r with
 |.inl _=>some ((-1:Int),())
 |.inr _=>none
def G1[Lk]:=fun v=>Lk.f (Ex v)
theorem K0 v:G1 v=Ex v:=AJ _
abbrev Gp:AF:=[(.tmp 0,.dat U6),(.tmp 1,.clo 195 [])]
abbrev Gn:AF:=[(.tmp 0,.dat .bool)]
abbrev Gm:List RS:=[.one]
def D6[Lk]:Uc→Option (Uh):=fun(a0,_)=>
 match G1 (a0,())with|none=>none|some (y0,_)=>some ((ile 0 y0),())
def Dy[Lk]:=fun v=>Lk.f (D6 v)
theorem Jf v:Dy v=D6 v:=AJ _
abbrev AQl:AF:=[(.tmp 0,.dat U6)]
abbrev AQk:AF:=[(.tmp 0,.dat .bool)]
abbrev AQj:List RS:=[.one]
abbrev ATq:AF:=[(.tmp 0,.dat U6),(.tmp 3,.map U0 U0),(.tmp 7,.dat U6),(.tmp 8,.di),(.tmp 9,.di)]
abbrev ATp:Az:=[(.exit 0,[(.tmp 0,.dat U6),(.tmp 3,.map U0 U0)])]
def KA[Lk]:(List Int×List Uv×List Int×Int×Int×Unit)→Option ((List Int×List Uv×List Int×Int×Int×Unit)⊕(List Int×List Uv×Unit)⊕Unit):=fun(a0,a1,a2,a3,a4,_)=>
 match(ilt a4 a3)with
 |true=>match idx a2 a4 with|none=>none|some x0=>some (.inl (a0,(Ah a1 x0 (IntKind.wrap .i64 (((AU a1 x0).getD 0)+1))),a2,a3,(IntKind.wrap .i64 (a4+1)),()))
 |false=>some (.inr (.inl (a0,a1,())))
def AHE[Lk]:Uc→Option (Uh):=fun(a0,_)=>
 match AR KA many (a0,([]:List Uv),a0,(AO a0),0,())with|none=>none|some r=>match r with
 |.inl (o0,o1,_)=>some ((ieq (AO o1) (AO o0)),())
 |.inr _=>none
def once[Lk]:=fun v=>Lk.f (AHE v)
theorem ATr v:once v=AHE v:=AJ _
abbrev YN:AF:=[(.tmp 0,.dat U6)]
abbrev YM:AF:=[(.tmp 0,.dat .bool)]
abbrev YL:List RS:=[.one]
def PV[Lk]:Uc→Option (Uh):=fun(a0,_)=>
 match(ilt 1000 (AO a0))with
 |true=>some (false,())
 |false=>match Dy (a0,())with|none=>none|some (y0,_)=>match(!y0)with
 |true=>match once (a0,())with|none=>none|some (y1,_)=>some (y1,())
 |false=>some (false,())
def OG[Lk]:=fun v=>Lk.f (PV v)
theorem ADt v:OG v=PV v:=AJ _
abbrev XY:AF:=[(.tmp 0,.dat U6),(.tmp 1,.di)]
abbrev XX:AF:=[(.tmp 0,.own 3 U0)]
abbrev XW:List RS:=[.one]
def PM[Lk]:Uq→Option (Uc):=fun(a0,a1,_)=>
 match Bz a0 a1 (AO a0)with|none=>none|some x0=>match Bz a0 0 a1 with|none=>none|some x1=>match Is (([x0,x1]:List U4),())with|none=>none|some (y2,_)=>some (y2,())
def Rb[Lk]:=fun v=>Lk.f (PM v)
theorem ADP v:Rb v=PM v:=AJ _
abbrev Yv:AF:=[(.tmp 0,.dat U6),(.tmp 1,.dat U6)]
abbrev Yu:AF:=[(.tmp 0,.own 3 U0),(.tmp 1,.dat .bool)]
abbrev Yt:List RS:=[.one,.one]
abbrev AD5:AF:=[(.tmp 0,.dat U6),(.tmp 6,.own 3 U0),(.tmp 12,.dat U6),(.tmp 13,.di),(.tmp 14,.di)]
abbrev AD4:Az:=[(.exit 0,[(.tmp 6,.own 3 U0)])]
def EX[Lk]:(List Int×List Int×List Int×Int×Int×Unit)→Option ((List Int×List Int×List Int×Int×Int×Unit)⊕Uc⊕Unit):=fun(a0,a1,a2,a3,a4,_)=>
 match(ilt a4 a3)with
 |true=>match idx a2 a4 with|none=>none|some x0=>match Oe (a0,x0,())with|none=>none|some (y1,_)=>match(fits ((AO a1)+(AO ([y1]:List (Int)))))with
  |true=>some (.inl (a0,(A6 a1 ([y1]:List (Int))),a2,a3,(IntKind.wrap .i64 (a4+1)),()))
  |false=>none
 |false=>some (.inr (.inl (a1,())))
def Pg[Lk]:(List Int×List Int×Unit)→Option (Vf):=fun(a0,a1,_)=>
 match OG (a0,())with|none=>none|some (y0,_)=>match(!y0)with
 |true=>some (([]:List (Int)),false,())
 |false=>match AR EX many (a0,([]:List (Int)),a1,(AO a1),0,())with|none=>none|some r=>match r with
 |.inl (o1,_)=>match Ed (o1,(-1:Int),())with|none=>none|some (y2,_)=>some (o1,(!y2),())
 |.inr _=>none
def AGW[Lk]:=fun v=>Lk.f (Pg v)
theorem AD6 v:AGW v=Pg v:=AJ _
abbrev AGD:AF:=[(.tmp 0,.dat U6),(.tmp 1,.di)]
abbrev AGC:AF:=[(.tmp 0,.own 3 U0),(.tmp 1,.dat .bool)]
abbrev AGB:List RS:=[.one,.one]
def Wx[Lk]:Uq→Option (Vf):=fun(a0,a1,_)=>
 match AGW (a0,([a1]:List (Int)),())with|none=>none|some (y0,y1,_)=>match(!y1)with
 |true=>some (([]:List (Int)),false,())
 |false=>match idx y0 0 with|none=>none|some x2=>match Rb (a0,(AM y0 0 0),())with|none=>none|some (y3,_)=>some (y3,true,())
def ADw[Lk]:=fun v=>Lk.f (Wx v)
theorem AKl v:ADw v=Wx v:=AJ _
abbrev YQ:AF:=[(.tmp 0,.dat U6)]
abbrev YP:AF:=[(.tmp 0,.own 3 U0)]
abbrev YO:List RS:=[.one]
def PW[Lk]:Uc→Option (Uc):=fun(a0,_)=>
 match OG (a0,())with|none=>none|some (y0,_)=>match(!y0)with
 |true=>some (([]:List (Int)),())
 |false=>match(ieq (AO a0) 0)with
 |true=>some (([]:List (Int)),())
 |false=>match AWM (a0,())with|none=>none|some (y1,_)=>match Oe (a0,y1,())with|none=>none|some (y2,_)=>match Rb (a0,y2,())with|none=>none|some (y3,_)=>some (y3,())
def YR[Lk]:=fun v=>Lk.f (PW v)
theorem ADu v:YR v=PW v:=AJ _
abbrev Fb:AF:=[(.tmp 0,.dat Ul),(.cap 1 0,.box 1),(.cell 0 0,.di),(.tmp 1,.clo 180 [(0,0)])]
abbrev Fa:AF:=[(.obj 0,.box 1),(.cell 0 0,.di),(.tmp 0,.di)]
abbrev FZ:List RS:=[.one]
abbrev Ig:AF:=[(.obj 0,.box 1),(.cell 0 0,.di),(.tmp 0,.dat Ul),(.tmp 1,.clo 180 [(0,0)]),(.tmp 7,.di),(.tmp 8,.di)]
abbrev Ie:Az:=[(.ret,[(.obj 0,.box 1),(.cell 0 0,.di),(.tmp 4,.di)]),(.exit 0,[(.obj 0,.box 1),(.cell 0 0,.di)])]
def Bd[Lk]:(Int×List U4×Int×Int×Unit)→Option ((Int×List U4×Int×Int×Unit)⊕U3⊕U9⊕Unit):=fun(a0,a1,a2,a3,_)=>
 match(ilt a3 a2)with
 |true=>match idx a1 a3 with|none=>none|some x0=>match Ed (x0,a0,())with|none=>none|some (y1,_)=>match y1 with
  |true=>some (.inr (.inl (a0,a3,())))
  |false=>some (.inl (a0,a1,a2,(IntKind.wrap .i64 (a3+1)),()))
 |false=>some (.inr (.inr (.inl (a0,()))))
def Dg[Lk]:Vc→Option (U3):=fun(a0,a1,_)=>
 match AR Bd many (a1,a0,(AO a0),0,())with|none=>none|some r=>match r with
 |.inl (o0,o1,_)=>some (o0,o1,())
 |.inr r=>match r with
 |.inl (o2,_)=>some (o2,(-1:Int),())
 |.inr _=>none
def Ev[Lk]:=fun v=>Lk.f (Dg v)
theorem Ih v:Ev v=Dg v:=AJ _
abbrev Xs:AF:=[(.tmp 0,.dat Ur),(.tmp 1,.di)]
abbrev Xr:AF:=[(.tmp 0,.di)]
abbrev Xq:List RS:=[.one]
def PR[Lk]:Vb→Option (U9):=fun(a0,a1,_)=>
 match Ev (a0.2.1,a1,())with|none=>none|some (y0,y1,_)=>some (y1,())
def OA[Lk]:=fun v=>Lk.f (PR v)
theorem ADa v:OA v=PR v:=AJ _
abbrev AR3:AF:=[(.tmp 0,.di),(.tmp 1,.dat U6)]
abbrev AR2:AF:=[(.tmp 0,.dat .bool)]
abbrev AR1:List RS:=[.one]
abbrev AUK:AF:=[(.tmp 0,.di),(.tmp 5,.box 3),(.cell 0 0,.own 3 U0),(.cell 0 1,.map U0 U0),(.cell 0 2,.map U0 U0),(.tmp 30,.dat U6),(.tmp 31,.di),(.tmp 32,.di)]
abbrev AUJ:Az:=[(.ret,[(.tmp 4,.dat .bool)]),(.exit 0,[(.tmp 5,.box 3),(.cell 0 0,.own 3 U0),(.cell 0 1,.map U0 U0),(.cell 0 2,.map U0 U0)])]
def Il[Lk]:(Int×List Int×List Uv×List Uv×List Int×Int×Int×Unit)→Option ((Int×List Int×List Uv×List Uv×List Int×Int×Int×Unit)⊕Uh⊕(List Int×List Uv×List Uv×Unit)⊕Unit):=fun(a0,a1,a2,a3,a4,a5,a6,_)=>
 match(ilt a6 a5)with
 |true=>match idx a4 a6 with|none=>none|some x0=>match Xc (a0,x0,())with|none=>none|some (y1,y2,y3,y4,_)=>match(!y4)with
  |true=>some (.inr (.inl (false,())))
  |false=>match y3 with
  |true=>match idx a1 (IntKind.wrap .i64 ((AO a1)-1))with|none=>none|some x5=>match(!(ieq (AM a1 (AE (IntKind.wrap .i64 ((AO a1)-1))) 0) y1))with
   |true=>some (.inr (.inl (false,())))
   |false=>match(ilt 0 (IntKind.wrap .i64 ((AO a1)-1)))with
   |true=>match idx a1 (IntKind.wrap .i64 ((IntKind.wrap .i64 ((AO a1)-1))-1))with|none=>none|some x6=>match(ieq (AM a1 (AE (IntKind.wrap .i64 ((IntKind.wrap .i64 ((AO a1)-1))-1))) 0) y2)with
    |true=>match Bz a1 0 (IntKind.wrap .i64 ((AO a1)-1))with|none=>none|some x7=>match(!y3)with
     |true=>match idx (DT 0 (AE (AO x7)) a1) (IntKind.wrap .i64 ((((AE (AO x7)):Nat):Int)-1))with|none=>none|some x8=>match(!(ieq (AM a1 (0+(AE (IntKind.wrap .i64 ((((AE (AO x7)):Nat):Int)-1)))) 0) y1))with
      |true=>some (.inr (.inl (false,())))
      |false=>match(!y3)with
      |true=>some (.inl (a0,(Bi (AE (AO x7)) a1),a2,(Ah a3 y1 (IntKind.wrap .i64 (((AU a3 y1).getD 0)+1))),a4,a5,(IntKind.wrap .i64 (a6+1)),()))
      |false=>some (.inl (a0,(Bi (AE (AO x7)) a1),a2,a3,a4,a5,(IntKind.wrap .i64 (a6+1)),()))
     |false=>match(!y3)with
     |true=>some (.inl (a0,(Bi (AE (AO x7)) a1),a2,(Ah a3 y1 (IntKind.wrap .i64 (((AU a3 y1).getD 0)+1))),a4,a5,(IntKind.wrap .i64 (a6+1)),()))
     |false=>some (.inl (a0,(Bi (AE (AO x7)) a1),a2,a3,a4,a5,(IntKind.wrap .i64 (a6+1)),()))
    |false=>match(ilt 0 ((AU a2 y2).getD 0))with
    |true=>some (.inr (.inl (false,())))
    |false=>match(fits ((AO a1)+(AO ([y2]:List (Int)))))with
    |true=>match(!y3)with
     |true=>match idx (A6 a1 ([y2]:List (Int))) (IntKind.wrap .i64 ((AO (A6 a1 ([y2]:List (Int))))-1))with|none=>none|some x9=>match(!(ieq (AM (A6 a1 ([y2]:List (Int))) (AE (IntKind.wrap .i64 ((AO (A6 a1 ([y2]:List (Int))))-1))) 0) y1))with
      |true=>some (.inr (.inl (false,())))
      |false=>match(!y3)with
      |true=>some (.inl (a0,(A6 a1 ([y2]:List (Int))),(Ah a2 y2 (IntKind.wrap .i64 (((AU a2 y2).getD 0)+1))),(Ah a3 y1 (IntKind.wrap .i64 (((AU a3 y1).getD 0)+1))),a4,a5,(IntKind.wrap .i64 (a6+1)),()))
      |false=>some (.inl (a0,(A6 a1 ([y2]:List (Int))),(Ah a2 y2 (IntKind.wrap .i64 (((AU a2 y2).getD 0)+1))),a3,a4,a5,(IntKind.wrap .i64 (a6+1)),()))
     |false=>match(!y3)with
     |true=>some (.inl (a0,(A6 a1 ([y2]:List (Int))),(Ah a2 y2 (IntKind.wrap .i64 (((AU a2 y2).getD 0)+1))),(Ah a3 y1 (IntKind.wrap .i64 (((AU a3 y1).getD 0)+1))),a4,a5,(IntKind.wrap .i64 (a6+1)),()))
     |false=>some (.inl (a0,(A6 a1 ([y2]:List (Int))),(Ah a2 y2 (IntKind.wrap .i64 (((AU a2 y2).getD 0)+1))),a3,a4,a5,(IntKind.wrap .i64 (a6+1)),()))
    |false=>none
   |false=>match(ilt 0 ((AU a2 y2).getD 0))with
   |true=>some (.inr (.inl (false,())))
   |false=>match(fits ((AO a1)+(AO ([y2]:List (Int)))))with
   |true=>match(!y3)with
    |true=>match idx (A6 a1 ([y2]:List (Int))) (IntKind.wrap .i64 ((AO (A6 a1 ([y2]:List (Int))))-1))with|none=>none|some x10=>match(!(ieq (AM (A6 a1 ([y2]:List (Int))) (AE (IntKind.wrap .i64 ((AO (A6 a1 ([y2]:List (Int))))-1))) 0) y1))with
     |true=>some (.inr (.inl (false,())))
     |false=>match(!y3)with
     |true=>some (.inl (a0,(A6 a1 ([y2]:List (Int))),(Ah a2 y2 (IntKind.wrap .i64 (((AU a2 y2).getD 0)+1))),(Ah a3 y1 (IntKind.wrap .i64 (((AU a3 y1).getD 0)+1))),a4,a5,(IntKind.wrap .i64 (a6+1)),()))
     |false=>some (.inl (a0,(A6 a1 ([y2]:List (Int))),(Ah a2 y2 (IntKind.wrap .i64 (((AU a2 y2).getD 0)+1))),a3,a4,a5,(IntKind.wrap .i64 (a6+1)),()))
    |false=>match(!y3)with
    |true=>some (.inl (a0,(A6 a1 ([y2]:List (Int))),(Ah a2 y2 (IntKind.wrap .i64 (((AU a2 y2).getD 0)+1))),(Ah a3 y1 (IntKind.wrap .i64 (((AU a3 y1).getD 0)+1))),a4,a5,(IntKind.wrap .i64 (a6+1)),()))
    |false=>some (.inl (a0,(A6 a1 ([y2]:List (Int))),(Ah a2 y2 (IntKind.wrap .i64 (((AU a2 y2).getD 0)+1))),a3,a4,a5,(IntKind.wrap .i64 (a6+1)),()))
   |false=>none
  |false=>match(!y3)with
  |true=>match idx a1 (IntKind.wrap .i64 ((AO a1)-1))with|none=>none|some x11=>match(!(ieq (AM a1 (AE (IntKind.wrap .i64 ((AO a1)-1))) 0) y1))with
   |true=>some (.inr (.inl (false,())))
   |false=>match(!y3)with
   |true=>some (.inl (a0,a1,a2,(Ah a3 y1 (IntKind.wrap .i64 (((AU a3 y1).getD 0)+1))),a4,a5,(IntKind.wrap .i64 (a6+1)),()))
   |false=>some (.inl (a0,a1,a2,a3,a4,a5,(IntKind.wrap .i64 (a6+1)),()))
  |false=>match(!y3)with
  |true=>some (.inl (a0,a1,a2,(Ah a3 y1 (IntKind.wrap .i64 (((AU a3 y1).getD 0)+1))),a4,a5,(IntKind.wrap .i64 (a6+1)),()))
  |false=>some (.inl (a0,a1,a2,a3,a4,a5,(IntKind.wrap .i64 (a6+1)),()))
 |false=>some (.inr (.inr (.inl (a1,a2,a3,()))))
def AIO[Lk]:Vg→Option (Uh):=fun(a0,a1,_)=>
 match idx a1 0 with|none=>none|some x0=>match tin (a0,x0,())with|none=>none|some (y1,_)=>match(!y1)with
 |true=>some (false,())
 |false=>match idx a1 0 with|none=>none|some x2=>match idx a1 0 with|none=>none|some x3=>match AR Il many (a0,([x2]:List (Int)),(Ah ([]:List Uv) x3 1),([]:List Uv),a1,(AO a1),0,())with|none=>none|some r=>match r with
 |.inl (o4,_)=>some (o4,())
 |.inr r=>match r with
 |.inl (o5,o6,o7,_)=>match(ieq (AO o5) 1)with
  |true=>some ((ieq (AO o7) (AO o6)),())
  |false=>some (false,())
 |.inr _=>none
def AbS[Lk]:=fun v=>Lk.f (AIO v)
theorem AUL v:AbS v=AIO v:=AJ _
abbrev Xl:AF:=[(.tmp 0,.dat Ur)]
abbrev Xk:AF:=[(.tmp 0,.dat .bool)]
abbrev Xj:List RS:=[.one]
abbrev ADV:AF:=[(.tmp 3,.map U0 U0),(.tmp 78,.di),(.tmp 79,.di)]
abbrev ADS:Az:=[(.ret,[(.tmp 2,.dat .bool)]),(.exit 4,[])]
def ES[Lk]:(List Uv×Int×Int×Unit)→Option ((List Uv×Int×Int×Unit)⊕Uh⊕(Unit)⊕Unit):=fun(a0,a1,a2,_)=>
 match(ilt a2 a1)with
 |true=>match(ieq ((AU a0 a2).getD 0) 0)with
  |true=>some (.inr (.inl (false,())))
  |false=>some (.inl (a0,a1,(IntKind.wrap .i64 (a2+1)),()))
 |false=>some (.inr (.inr (.inl ())))
abbrev ADW:AF:=[(.tmp 1,.box 2),(.cell 0 0,.di),(.cell 0 1,.dat Ul),(.tmp 3,.map U0 U0),(.tmp 4,.di),(.tmp 16,.dat Ul),(.tmp 17,.di),(.tmp 18,.di),(.tmp 26,.dat U6),(.tmp 28,.di),(.tmp 29,.di),(.tmp 30,.dat .bool),(.tmp 33,.dat U6),(.tmp 34,.dat .bool),(.tmp 35,.dat .bool),(.tmp 38,.dat U6),(.tmp 39,.di),(.tmp 40,.dat U6),(.tmp 42,.di),(.tmp 43,.dat .bool),(.tmp 46,.ptr' 0 0),(.tmp 47,.di),(.tmp 48,.dat U6),(.tmp 49,.dat .bool),(.tmp 50,.dat .bool),(.tmp 55,.dat U6),(.tmp 56,.di),(.tmp 57,.di)]
abbrev ADT:Az:=[(.ret,[(.tmp 2,.dat .bool)]),(.exit 2,[(.tmp 1,.box 2),(.cell 0 0,.di),(.cell 0 1,.dat Ul),(.tmp 3,.map U0 U0),(.tmp 4,.di),(.tmp 16,.dat Ul),(.tmp 17,.di),(.tmp 18,.di),(.tmp 26,.dat U6),(.tmp 28,.di),(.tmp 29,.di),(.tmp 30,.dat .bool),(.tmp 33,.dat U6),(.tmp 34,.dat .bool),(.tmp 35,.dat .bool),(.tmp 38,.dat U6),(.tmp 39,.di),(.tmp 40,.dat U6),(.tmp 42,.di),(.tmp 43,.dat .bool),(.tmp 46,.ptr' 0 0),(.tmp 47,.di),(.tmp 48,.dat U6),(.tmp 49,.dat .bool),(.tmp 50,.dat .bool)])]
def DV[Lk]:Uy→Option (Uy⊕Uh⊕(Int×List U4×List Uv×Int×List U4×Int×Int×List Int×Int×Int×Bool×List Int×Bool×Bool×List Int×Int×List Int×Int×Bool×Int×List Int×Bool×Bool×Unit)⊕Unit):=fun(a0,a1,a2,a3,a4,a5,a6,a7,a8,a9,a10,a11,a12,a13,a14,a15,a16,a17,a18,a19,a20,a21,a22,a23,a24,a25,_)=>
 match(ilt a25 a24)with
 |true=>match idx a23 a25 with|none=>none|some x0=>match(ilt x0 a0)with
  |true=>match(ilt 0 ((AU a2 x0).getD 0))with
   |true=>some (.inr (.inl (false,())))
   |false=>some (.inl (a0,a1,(Ah a2 x0 (IntKind.wrap .i64 (((AU a2 x0).getD 0)+1))),a3,a4,a5,a6,a7,a8,a9,a10,a11,a12,a13,a14,a15,a16,a17,a18,a19,a20,a21,a22,a23,a24,(IntKind.wrap .i64 (a25+1)),()))
  |false=>some (.inl (a0,a1,(Ah a2 x0 (IntKind.wrap .i64 (((AU a2 x0).getD 0)+1))),a3,a4,a5,a6,a7,a8,a9,a10,a11,a12,a13,a14,a15,a16,a17,a18,a19,a20,a21,a22,a23,a24,(IntKind.wrap .i64 (a25+1)),()))
 |false=>some (.inr (.inr (.inl (a0,a1,a2,a3,a4,a5,a6,a7,a8,a9,a10,a11,a12,a13,a14,a15,a16,a17,a18,a19,a20,a21,a22,()))))
abbrev ADX:AF:=[(.tmp 1,.box 2),(.cell 0 0,.di),(.cell 0 1,.dat Ul),(.tmp 3,.map U0 U0),(.tmp 4,.di),(.tmp 16,.dat Ul),(.tmp 17,.di),(.tmp 18,.di)]
abbrev ADU:Az:=[(.ret,[(.tmp 2,.dat .bool)]),(.exit 0,[(.tmp 1,.box 2),(.cell 0 0,.di),(.cell 0 1,.dat Ul),(.tmp 3,.map U0 U0)])]
def DW[Lk]:(Int×List U4×List Uv×Int×List U4×Int×Int×Unit)→Option ((Int×List U4×List Uv×Int×List U4×Int×Int×Unit)⊕Uh⊕(Int×List U4×List Uv×Unit)⊕Unit):=fun(a0,a1,a2,a3,a4,a5,a6,_)=>
 match(ilt a6 a5)with
 |true=>match idx a4 a6 with|none=>none|some x0=>match(ieq (AO x0) 0)with
  |true=>some (.inr (.inl (false,())))
  |false=>match idx x0 0 with|none=>none|some x1=>match(ile x1 a3)with
  |true=>some (.inr (.inl (false,())))
  |false=>match OG (x0,())with|none=>none|some (y2,_)=>match(!y2)with
  |true=>some (.inr (.inl (false,())))
  |false=>match AWM (x0,())with|none=>none|some (y3,_)=>match idx x0 0 with|none=>none|some x4=>match(!(ieq y3 x4))with
  |true=>some (.inr (.inl (false,())))
  |false=>match AbS (a0,x0,())with|none=>none|some (y5,_)=>match(!y5)with
  |true=>some (.inr (.inl (false,())))
  |false=>match idx x0 0 with|none=>none|some x6=>match AR DV many (a0,a1,a2,x6,a4,a5,a6,x0,x1,a3,(ile x1 a3),x0,y2,(!y2),x0,y3,x0,x4,(!(ieq y3 x4)),a0,x0,y5,(!y5),x0,(AO x0),0,())with|none=>none|some r=>match r with
  |.inl (o7,_)=>some (.inr (.inl (o7,())))
  |.inr r=>match r with
  |.inl (o8,o9,o10,o11,o12,o13,o14,o15,o16,o17,o18,o19,o20,o21,o22,o23,o24,o25,o26,o27,o28,o29,o30,_)=>some (.inl (o8,o9,o10,o11,o12,o13,(IntKind.wrap .i64 (o14+1)),()))
  |.inr _=>none
 |false=>some (.inr (.inr (.inl (a0,a1,a2,()))))
def PQ[Lk]:(Uk×Unit)→Option (Uh):=fun(a0,_)=>
 match LK (a0.1,())with|none=>none|some (y0,_)=>match(!y0)with
 |true=>some (false,())
 |false=>match AR DW many (a0.1,a0.2.1,([]:List Uv),(-1:Int),a0.2.1,(AO a0.2.1),0,())with|none=>none|some r=>match r with
 |.inl (o1,_)=>some (o1,())
 |.inr r=>match r with
 |.inl (o2,o3,o4,_)=>match AR ES many (o4,o2,0,())with|none=>none|some r=>match r with
  |.inl (o5,_)=>some (o5,())
  |.inr r=>match r with
  |.inl _=>some (true,())
  |.inr _=>none
 |.inr _=>none
def N9[Lk]:=fun v=>Lk.f (PQ v)
theorem ADY v:N9 v=PQ v:=AJ _
abbrev AJA:AF:=[(.tmp 0,.dat Ur),(.tmp 1,.di),(.tmp 2,.di)]
abbrev AI9:AF:=[(.tmp 0,.di)]
abbrev AI8:List RS:=[.one]
def XM[Lk]:(Uk×Int×Int×Unit)→Option (U9):=fun(a0,a1,a2,_)=>
 match N9 ((a0.1,(a0.2.1,())),())with|none=>none|some (y0,_)=>match(!y0)with
 |true=>some (1,())
 |false=>match tin (a0.1,a1,())with|none=>none|some (y1,_)=>match(!y1)with
 |true=>some (10,())
 |false=>match tin (a0.1,a2,())with|none=>none|some (y2,_)=>match(!y2)with
 |true=>some (10,())
 |false=>some (0,())
def asked[Lk]:=fun v=>Lk.f (XM v)
theorem AOH v:asked v=XM v:=AJ _
abbrev AQu:AF:=[(.tmp 0,.di)]
abbrev AQt:AF:=[(.tmp 0,.dat .bool)]
abbrev AQs:List RS:=[.one]
def SV[Lk]:U9→Option (Uh):=fun(a0,_)=>
 some ((!(ieq a0 a0)),())
def AQv[Lk]:=fun v=>Lk.f (SV v)
theorem W7 v:AQv v=SV v:=AJ _
abbrev O2:AF:=[(.tmp 0,.di),(.tmp 1,.di)]
abbrev O1:AF:=[(.tmp 0,.di)]
abbrev O0:List RS:=[.one]
def IH[Lk]:U3→Option (U9):=fun(a0,a1,_)=>
 match AQv (a0,())with|none=>none|some (y0,_)=>match AQv (a1,())with|none=>none|some (y1,_)=>match y0 with
 |true=>match y1 with
  |true=>some (0,())
  |false=>some ((-1:Int),())
 |false=>match y1 with
 |true=>some (1,())
 |false=>match(ilt a0 a1)with
 |true=>some ((-1:Int),())
 |false=>match(ilt a1 a0)with
 |true=>some (1,())
 |false=>some (0,())
def E7[Lk]:=fun v=>Lk.f (IH v)
theorem MN v:E7 v=IH v:=AJ _
abbrev AFK:AF:=[(.tmp 0,.dat U6),(.tmp 1,.dat U6)]
abbrev AFJ:AF:=[(.tmp 0,.di)]
abbrev AFI:List RS:=[.one]
def Wk[Lk]:(List Int×List Int×Unit)→Option (U9):=fun(a0,a1,_)=>
 match idx a0 0 with|none=>none|some x0=>match idx a1 0 with|none=>none|some x1=>match E7 (x0,x1,())with|none=>none|some (y2,_)=>some (y2,())
def BE[Lk]:=fun v=>Lk.f (Wk v)
theorem AJe v:BE v=Wk v:=AJ _
def Gl:List Int:=[0,1,2,2,3,3,3,3,4,4,4,4,4,4,4,4,5,5,5,5,5,5,5,5,5,5,5,5,5,5,5,5,6,6,6,6,6,6,6,6,6,6,6,6,6,6,6,6,6,6,6,6,6,6,6,6,6,6,6,6,6,6,6,6,7,7,7,7,7,7,7,7,7,7,7,7,7,7,7,7,7,7,7,7,7,7,7,7,7,7,7,7,7,7,7,7,7,7,7,7,7,7,7,7,7,7,7,7,7,7,7,7,7,7,7,7,7,7,7,7,7,7,7,7,7,7,7,7,8,8,8,8,8,8,8,8,8,8,8,8,8,8,8,8,8,8,8,8,8,8,8,8,8,8,8,8,8,8,8,8,8,8,8,8,8,8,8,8,8,8,8,8,8,8,8,8,8,8,8,8,8,8,8,8,8,8,8,8,8,8,8,8,8,8,8,8,8,8,8,8,8,8,8,8,8,8,8,8,8,8,8,8,8,8,8,8,8,8,8,8,8,8,8,8,8,8,8,8,8,8,8,8,8,8,8,8,8,8,8,8,8,8,8,8,8,8,8,8,8,8,8,8,8,8,8,8]
abbrev AHk:AF:=[(.tmp 0,.dat (.int .u64))]
abbrev AHj:AF:=[(.tmp 0,.di)]
abbrev AHi:List RS:=[.one]
def XB[Lk]:U9→Option (U9):=fun(a0,_)=>
 match(ile 4294967296 a0)with
 |true=>match shr? .u64 a0 32 with|none=>none|some x0=>match(ile 65536 x0)with
  |true=>match shr? .u64 x0 16 with|none=>none|some x1=>match(ile 256 x1)with
   |true=>match shr? .u64 x1 8 with|none=>none|some x2=>match idx Gl (IntKind.wrap .u8 x2)with|none=>none|some x3=>some ((IntKind.wrap .i64 ((IntKind.wrap .i64 ((IntKind.wrap .i64 (32+16))+8))+(IntKind.wrap .i64 x3))),())
   |false=>match idx Gl (IntKind.wrap .u8 x1)with|none=>none|some x4=>some ((IntKind.wrap .i64 ((IntKind.wrap .i64 (32+16))+(IntKind.wrap .i64 x4))),())
  |false=>match(ile 256 x0)with
  |true=>match shr? .u64 x0 8 with|none=>none|some x5=>match idx Gl (IntKind.wrap .u8 x5)with|none=>none|some x6=>some ((IntKind.wrap .i64 ((IntKind.wrap .i64 (32+8))+(IntKind.wrap .i64 x6))),())
  |false=>match idx Gl (IntKind.wrap .u8 x0)with|none=>none|some x7=>some ((IntKind.wrap .i64 (32+(IntKind.wrap .i64 x7))),())
 |false=>match(ile 65536 a0)with
 |true=>match shr? .u64 a0 16 with|none=>none|some x8=>match(ile 256 x8)with
  |true=>match shr? .u64 x8 8 with|none=>none|some x9=>match idx Gl (IntKind.wrap .u8 x9)with|none=>none|some x10=>some ((IntKind.wrap .i64 ((IntKind.wrap .i64 ((IntKind.wrap .i64 (0+16))+8))+(IntKind.wrap .i64 x10))),())
  |false=>match idx Gl (IntKind.wrap .u8 x8)with|none=>none|some x11=>some ((IntKind.wrap .i64 ((IntKind.wrap .i64 (0+16))+(IntKind.wrap .i64 x11))),())
 |false=>match(ile 256 a0)with
 |true=>match shr? .u64 a0 8 with|none=>none|some x12=>match idx Gl (IntKind.wrap .u8 x12)with|none=>none|some x13=>some ((IntKind.wrap .i64 ((IntKind.wrap .i64 (0+8))+(IntKind.wrap .i64 x13))),())
 |false=>match idx Gl (IntKind.wrap .u8 a0)with|none=>none|some x14=>some ((IntKind.wrap .i64 (0+(IntKind.wrap .i64 x14))),())
def AMn[Lk]:=fun v=>Lk.f (XB v)
theorem AMm v:AMn v=XB v:=AJ _
abbrev TW:AF:=[(.tmp 0,.dat (.int .u64))]
abbrev TV:AF:=[(.tmp 0,.di)]
abbrev TU:List RS:=[.one]
def NS[Lk]:U9→Option (U9):=fun(a0,_)=>
 match AMn (a0,())with|none=>none|some (y0,_)=>some (y0,())
def bitsLen[Lk]:=fun v=>Lk.f (NS v)
theorem ABe v:bitsLen v=NS v:=AJ _
abbrev Ra:AF:=[(.tmp 0,.box 1),(.cell 0 0,.dat (.int .u64))]
abbrev RZ:AF:=[(.obj 0,.box 1),(.cell 0 0,.dat (.int .u64)),(.tmp 0,.dat (.int .u64))]
abbrev RY:List RS:=[.one]
def Mh[Lk]:U9→Option (U3):=fun(a0,_)=>
 match shl? .u64 a0 13 with|none=>none|some x0=>match shr? .u64 (IntKind.wrap .u64 ((BitVec.ofInt (IntKind.bits .u64) a0 ^^^ BitVec.ofInt (IntKind.bits .u64) x0).toNat)) 7 with|none=>none|some x1=>match shl? .u64 (IntKind.wrap .u64 ((BitVec.ofInt (IntKind.bits .u64) (IntKind.wrap .u64 ((BitVec.ofInt (IntKind.bits .u64) a0 ^^^ BitVec.ofInt (IntKind.bits .u64) x0).toNat)) ^^^ BitVec.ofInt (IntKind.bits .u64) x1).toNat)) 17 with|none=>none|some x2=>some ((IntKind.wrap .u64 ((BitVec.ofInt (IntKind.bits .u64) (IntKind.wrap .u64 ((BitVec.ofInt (IntKind.bits .u64) (IntKind.wrap .u64 ((BitVec.ofInt (IntKind.bits .u64) a0 ^^^ BitVec.ofInt (IntKind.bits .u64) x0).toNat)) ^^^ BitVec.ofInt (IntKind.bits .u64) x1).toNat)) ^^^ BitVec.ofInt (IntKind.bits .u64) x2).toNat)),(IntKind.wrap .u64 ((BitVec.ofInt (IntKind.bits .u64) (IntKind.wrap .u64 ((BitVec.ofInt (IntKind.bits .u64) (IntKind.wrap .u64 ((BitVec.ofInt (IntKind.bits .u64) a0 ^^^ BitVec.ofInt (IntKind.bits .u64) x0).toNat)) ^^^ BitVec.ofInt (IntKind.bits .u64) x1).toNat)) ^^^ BitVec.ofInt (IntKind.bits .u64) x2).toNat)),())
def xorNext[Lk]:=fun v=>Lk.f (Mh v)
theorem XT v:xorNext v=Mh v:=AJ _
abbrev SU:AF:=[(.tmp 0,.di)]
abbrev SS:AF:=[(.tmp 0,.dat (.int .u64))]
abbrev SR:List RS:=[.one]
def M4[Lk]:U9→Option (U9):=fun(a0,_)=>
 match bitsLen ((IntKind.wrap .u64 a0),())with|none=>none|some (y0,_)=>match shl? .u64 1 y0 with|none=>none|some x1=>some (x1,())
def M5[Lk]:=fun v=>Lk.f (M4 v)
theorem Zp v:M5 v=M4 v:=AJ _
def QD[Lk]{α:Type}(z:α)(c:α×α×Unit→Option U9):(List α×Int×Int×Int×Int×Unit)→Option ((List α×Int×Int×Int×Int×Unit)⊕(List α×Int×Int×Int×Unit)⊕Unit):=fun(a0,a1,a2,a3,a4,_)=>
 match(ilt a1 a4)with
 |true=>match idx a0 a4 with|none=>none|some x0=>match idx a0 (IntKind.wrap .i64 (a4-1))with|none=>none|some x1=>match c ((AM a0 (AE a4) z),(AM a0 (AE (IntKind.wrap .i64 (a4-1))) z),())with|none=>none|some (y2,_)=>match(ilt y2 0)with
  |true=>match idx a0 (IntKind.wrap .i64 (a4-1))with|none=>none|some x3=>match idx a0 a4 with|none=>none|some x4=>match idx a0 a4 with|none=>none|some x5=>match idx (Am a0 (AE a4) (AM a0 (AE (IntKind.wrap .i64 (a4-1))) z)) (IntKind.wrap .i64 (a4-1))with|none=>none|some x6=>some (.inl ((Am (Am a0 (AE a4) (AM a0 (AE (IntKind.wrap .i64 (a4-1))) z)) (AE (IntKind.wrap .i64 (a4-1))) (AM a0 (AE a4) z)),a1,a2,a3,(IntKind.wrap .i64 (a4-1)),()))
  |false=>some (.inr (.inl (a0,a1,a2,a3,())))
 |false=>some (.inr (.inl (a0,a1,a2,a3,())))
def QE[Lk]{α:Type}(z:α)(c:α×α×Unit→Option U9):(List α×Int×Int×Int×Unit)→Option ((List α×Int×Int×Int×Unit)⊕(List α×Unit)⊕Unit):=fun(a0,a1,a2,a3,_)=>
 match(ilt a3 a2)with
 |true=>match AR (QD z c) many (a0,a1,a2,a3,a3,())with|none=>none|some r=>match r with
  |.inl (o0,o1,o2,o3,_)=>some (.inl (o0,o1,o2,(IntKind.wrap .i64 (o3+1)),()))
  |.inr _=>none
 |false=>some (.inr (.inl (a0,())))
def AHs[Lk]{α:Type}(z:α)(c:α×α×Unit→Option U9):(List α×Int×Int×Unit)→Option ((List α×Unit)):=fun(a0,a1,a2,_)=>
 match AR (QE z c) many (a0,a1,a2,(IntKind.wrap .i64 (a1+1)),())with|none=>none|some r=>match r with
 |.inl (o0,_)=>some (o0,())
 |.inr _=>none
def Adc[Lk]{α:Type}(z:α)(c:α×α×Unit→Option U9)(v:(List α×Int×Int×Unit)):Option ((List α×Unit)):=Lk.f ((AHs z c) v)
theorem Adb{α:Type}(z:α)(c:α×α×Unit→Option U9)(v:(List α×Int×Int×Unit)):(Adc z c) v=(AHs z c) v:=AJ _
def LP[Lk]{α:Type}(z:α)(c:α×α×Unit→Option U9):(List α×Int×Int×Int×Unit)→Option ((List α×Int×Int×Int×Unit)⊕(List α×Unit)⊕(List α×Unit)⊕Unit):=fun(a0,a1,a2,a3,_)=>
 match(ile a1 (IntKind.wrap .i64 ((IntKind.wrap .i64 (2*a3))+1)))with
 |true=>some (.inr (.inl (a0,())))
 |false=>match(ilt (IntKind.wrap .i64 ((IntKind.wrap .i64 ((IntKind.wrap .i64 (2*a3))+1))+1)) a1)with
 |true=>match idx a0 (IntKind.wrap .i64 (a2+(IntKind.wrap .i64 ((IntKind.wrap .i64 (2*a3))+1))))with|none=>none|some x0=>match idx a0 (IntKind.wrap .i64 ((IntKind.wrap .i64 (a2+(IntKind.wrap .i64 ((IntKind.wrap .i64 (2*a3))+1))))+1))with|none=>none|some x1=>match c ((AM a0 (AE (IntKind.wrap .i64 (a2+(IntKind.wrap .i64 ((IntKind.wrap .i64 (2*a3))+1))))) z),(AM a0 (AE (IntKind.wrap .i64 ((IntKind.wrap .i64 (a2+(IntKind.wrap .i64 ((IntKind.wrap .i64 (2*a3))+1))))+1))) z),())with|none=>none|some (y2,_)=>match(ilt y2 0)with
  |true=>match idx a0 (IntKind.wrap .i64 (a2+a3))with|none=>none|some x3=>match idx a0 (IntKind.wrap .i64 (a2+(IntKind.wrap .i64 ((IntKind.wrap .i64 ((IntKind.wrap .i64 (2*a3))+1))+1))))with|none=>none|some x4=>match c ((AM a0 (AE (IntKind.wrap .i64 (a2+a3))) z),(AM a0 (AE (IntKind.wrap .i64 (a2+(IntKind.wrap .i64 ((IntKind.wrap .i64 ((IntKind.wrap .i64 (2*a3))+1))+1))))) z),())with|none=>none|some (y5,_)=>match(!(ilt y5 0))with
   |true=>some (.inr (.inr (.inl (a0,()))))
   |false=>match idx a0 (IntKind.wrap .i64 (a2+(IntKind.wrap .i64 ((IntKind.wrap .i64 ((IntKind.wrap .i64 (2*a3))+1))+1))))with|none=>none|some x6=>match idx a0 (IntKind.wrap .i64 (a2+a3))with|none=>none|some x7=>match idx a0 (IntKind.wrap .i64 (a2+a3))with|none=>none|some x8=>match idx (Am a0 (AE (IntKind.wrap .i64 (a2+a3))) (AM a0 (AE (IntKind.wrap .i64 (a2+(IntKind.wrap .i64 ((IntKind.wrap .i64 ((IntKind.wrap .i64 (2*a3))+1))+1))))) z)) (IntKind.wrap .i64 (a2+(IntKind.wrap .i64 ((IntKind.wrap .i64 ((IntKind.wrap .i64 (2*a3))+1))+1))))with|none=>none|some x9=>some (.inl ((Am (Am a0 (AE (IntKind.wrap .i64 (a2+a3))) (AM a0 (AE (IntKind.wrap .i64 (a2+(IntKind.wrap .i64 ((IntKind.wrap .i64 ((IntKind.wrap .i64 (2*a3))+1))+1))))) z)) (AE (IntKind.wrap .i64 (a2+(IntKind.wrap .i64 ((IntKind.wrap .i64 ((IntKind.wrap .i64 (2*a3))+1))+1))))) (AM a0 (AE (IntKind.wrap .i64 (a2+a3))) z)),a1,a2,(IntKind.wrap .i64 ((IntKind.wrap .i64 ((IntKind.wrap .i64 (2*a3))+1))+1)),()))
  |false=>match idx a0 (IntKind.wrap .i64 (a2+a3))with|none=>none|some x10=>match idx a0 (IntKind.wrap .i64 (a2+(IntKind.wrap .i64 ((IntKind.wrap .i64 (2*a3))+1))))with|none=>none|some x11=>match c ((AM a0 (AE (IntKind.wrap .i64 (a2+a3))) z),(AM a0 (AE (IntKind.wrap .i64 (a2+(IntKind.wrap .i64 ((IntKind.wrap .i64 (2*a3))+1))))) z),())with|none=>none|some (y12,_)=>match(!(ilt y12 0))with
  |true=>some (.inr (.inr (.inl (a0,()))))
  |false=>match idx a0 (IntKind.wrap .i64 (a2+(IntKind.wrap .i64 ((IntKind.wrap .i64 (2*a3))+1))))with|none=>none|some x13=>match idx a0 (IntKind.wrap .i64 (a2+a3))with|none=>none|some x14=>match idx a0 (IntKind.wrap .i64 (a2+a3))with|none=>none|some x15=>match idx (Am a0 (AE (IntKind.wrap .i64 (a2+a3))) (AM a0 (AE (IntKind.wrap .i64 (a2+(IntKind.wrap .i64 ((IntKind.wrap .i64 (2*a3))+1))))) z)) (IntKind.wrap .i64 (a2+(IntKind.wrap .i64 ((IntKind.wrap .i64 (2*a3))+1))))with|none=>none|some x16=>some (.inl ((Am (Am a0 (AE (IntKind.wrap .i64 (a2+a3))) (AM a0 (AE (IntKind.wrap .i64 (a2+(IntKind.wrap .i64 ((IntKind.wrap .i64 (2*a3))+1))))) z)) (AE (IntKind.wrap .i64 (a2+(IntKind.wrap .i64 ((IntKind.wrap .i64 (2*a3))+1))))) (AM a0 (AE (IntKind.wrap .i64 (a2+a3))) z)),a1,a2,(IntKind.wrap .i64 ((IntKind.wrap .i64 (2*a3))+1)),()))
 |false=>match idx a0 (IntKind.wrap .i64 (a2+a3))with|none=>none|some x17=>match idx a0 (IntKind.wrap .i64 (a2+(IntKind.wrap .i64 ((IntKind.wrap .i64 (2*a3))+1))))with|none=>none|some x18=>match c ((AM a0 (AE (IntKind.wrap .i64 (a2+a3))) z),(AM a0 (AE (IntKind.wrap .i64 (a2+(IntKind.wrap .i64 ((IntKind.wrap .i64 (2*a3))+1))))) z),())with|none=>none|some (y19,_)=>match(!(ilt y19 0))with
 |true=>some (.inr (.inr (.inl (a0,()))))
 |false=>match idx a0 (IntKind.wrap .i64 (a2+(IntKind.wrap .i64 ((IntKind.wrap .i64 (2*a3))+1))))with|none=>none|some x20=>match idx a0 (IntKind.wrap .i64 (a2+a3))with|none=>none|some x21=>match idx a0 (IntKind.wrap .i64 (a2+a3))with|none=>none|some x22=>match idx (Am a0 (AE (IntKind.wrap .i64 (a2+a3))) (AM a0 (AE (IntKind.wrap .i64 (a2+(IntKind.wrap .i64 ((IntKind.wrap .i64 (2*a3))+1))))) z)) (IntKind.wrap .i64 (a2+(IntKind.wrap .i64 ((IntKind.wrap .i64 (2*a3))+1))))with|none=>none|some x23=>some (.inl ((Am (Am a0 (AE (IntKind.wrap .i64 (a2+a3))) (AM a0 (AE (IntKind.wrap .i64 (a2+(IntKind.wrap .i64 ((IntKind.wrap .i64 (2*a3))+1))))) z)) (AE (IntKind.wrap .i64 (a2+(IntKind.wrap .i64 ((IntKind.wrap .i64 (2*a3))+1))))) (AM a0 (AE (IntKind.wrap .i64 (a2+a3))) z)),a1,a2,(IntKind.wrap .i64 ((IntKind.wrap .i64 (2*a3))+1)),()))
def Wu[Lk]{α:Type}(z:α)(c:α×α×Unit→Option U9):(List α×Int×Int×Int×Unit)→Option ((List α×Unit)):=fun(a0,a1,a2,a3,_)=>
 match AR (LP z c) many (a0,a2,a3,a1,())with|none=>none|some r=>match r with
 |.inl (o0,_)=>some (o0,())
 |.inr r=>match r with
 |.inl (o1,_)=>some (o1,())
 |.inr _=>none
def AKP[Lk]{α:Type}(z:α)(c:α×α×Unit→Option U9)(v:(List α×Int×Int×Int×Unit)):Option ((List α×Unit)):=Lk.f ((Wu z c) v)
theorem AY3{α:Type}(z:α)(c:α×α×Unit→Option U9)(v:(List α×Int×Int×Int×Unit)):(AKP z c) v=(Wu z c) v:=AJ _
def L6[Lk]{α:Type}(z:α)(c:α×α×Unit→Option U9):(List α×Int×Int×Int×Unit)→Option ((List α×Int×Int×Int×Unit)⊕(List α×Unit)⊕Unit):=fun(a0,a1,a2,a3,_)=>
 match(ile 0 a3)with
 |true=>match idx a0 (IntKind.wrap .i64 (a1+a3))with|none=>none|some x0=>match idx a0 a1 with|none=>none|some x1=>match idx a0 a1 with|none=>none|some x2=>match idx (Am a0 (AE a1) (AM a0 (AE (IntKind.wrap .i64 (a1+a3))) z)) (IntKind.wrap .i64 (a1+a3))with|none=>none|some x3=>match(AKP z c) ((Am (Am a0 (AE a1) (AM a0 (AE (IntKind.wrap .i64 (a1+a3))) z)) (AE (IntKind.wrap .i64 (a1+a3))) (AM a0 (AE a1) z)),a2,a3,a1,())with|none=>none|some (y4,_)=>some (.inl (y4,a1,a2,(IntKind.wrap .i64 (a3-1)),()))
 |false=>some (.inr (.inl (a0,())))
def L7[Lk]{α:Type}(z:α)(c:α×α×Unit→Option U9):(List α×Int×Int×Int×Int×Unit)→Option ((List α×Int×Int×Int×Int×Unit)⊕(List α×Int×Int×Int×Unit)⊕Unit):=fun(a0,a1,a2,a3,a4,_)=>
 match(ile 0 a4)with
 |true=>match(AKP z c) (a0,a4,a3,a1,())with|none=>none|some (y0,_)=>some (.inl (y0,a1,a2,a3,(IntKind.wrap .i64 (a4-1)),()))
 |false=>some (.inr (.inl (a0,a1,a2,a3,())))
def XE[Lk]{α:Type}(z:α)(c:α×α×Unit→Option U9):(List α×Int×Int×Unit)→Option ((List α×Unit)):=fun(a0,a1,a2,_)=>
 match quo? .i64 (IntKind.wrap .i64 ((IntKind.wrap .i64 (a2-a1))-1)) 2 with|none=>none|some x0=>match AR (L7 z c) many (a0,a1,0,(IntKind.wrap .i64 (a2-a1)),x0,())with|none=>none|some r=>match r with
 |.inl (o1,o2,o3,o4,_)=>match AR (L6 z c) many (o1,o2,o3,(IntKind.wrap .i64 (o4-1)),())with|none=>none|some r=>match r with
  |.inl (o5,_)=>some (o5,())
  |.inr _=>none
 |.inr _=>none
def AUH[Lk]{α:Type}(z:α)(c:α×α×Unit→Option U9)(v:(List α×Int×Int×Unit)):Option ((List α×Unit)):=Lk.f ((XE z c) v)
theorem AbI{α:Type}(z:α)(c:α×α×Unit→Option U9)(v:(List α×Int×Int×Unit)):(AUH z c) v=(XE z c) v:=AJ _
def HM[Lk]{α:Type}(z:α)(c:α×α×Unit→Option U9):(List α×Int×Int×Int×Int×Int×Unit)→Option ((List α×Int×Int×Int×Int×Int×Unit)⊕(List α×Unit)⊕Unit):=fun(a0,a1,a2,a3,a4,a5,_)=>
 match quo? .i64 a2 4 with|none=>none|some x0=>match(ile a5 (IntKind.wrap .i64 ((IntKind.wrap .i64 (a1+(IntKind.wrap .i64 (x0*2))))+1)))with
 |true=>match xorNext (a3,())with|none=>none|some (y1,y2,_)=>match(ile a2 (IntKind.wrap .i64 (IntKind.wrap .u64 ((BitVec.ofInt (IntKind.bits .u64) y2 &&& BitVec.ofInt (IntKind.bits .u64) (IntKind.wrap .u64 (a4-1))).toNat))))with
  |true=>match idx a0 (IntKind.wrap .i64 (a1+(IntKind.wrap .i64 ((IntKind.wrap .i64 (IntKind.wrap .u64 ((BitVec.ofInt (IntKind.bits .u64) y2 &&& BitVec.ofInt (IntKind.bits .u64) (IntKind.wrap .u64 (a4-1))).toNat)))-a2))))with|none=>none|some x3=>match idx a0 a5 with|none=>none|some x4=>match idx a0 a5 with|none=>none|some x5=>match idx (Am a0 (AE a5) (AM a0 (AE (IntKind.wrap .i64 (a1+(IntKind.wrap .i64 ((IntKind.wrap .i64 (IntKind.wrap .u64 ((BitVec.ofInt (IntKind.bits .u64) y2 &&& BitVec.ofInt (IntKind.bits .u64) (IntKind.wrap .u64 (a4-1))).toNat)))-a2))))) z)) (IntKind.wrap .i64 (a1+(IntKind.wrap .i64 ((IntKind.wrap .i64 (IntKind.wrap .u64 ((BitVec.ofInt (IntKind.bits .u64) y2 &&& BitVec.ofInt (IntKind.bits .u64) (IntKind.wrap .u64 (a4-1))).toNat)))-a2))))with|none=>none|some x6=>some (.inl ((Am (Am a0 (AE a5) (AM a0 (AE (IntKind.wrap .i64 (a1+(IntKind.wrap .i64 ((IntKind.wrap .i64 (IntKind.wrap .u64 ((BitVec.ofInt (IntKind.bits .u64) y2 &&& BitVec.ofInt (IntKind.bits .u64) (IntKind.wrap .u64 (a4-1))).toNat)))-a2))))) z)) (AE (IntKind.wrap .i64 (a1+(IntKind.wrap .i64 ((IntKind.wrap .i64 (IntKind.wrap .u64 ((BitVec.ofInt (IntKind.bits .u64) y2 &&& BitVec.ofInt (IntKind.bits .u64) (IntKind.wrap .u64 (a4-1))).toNat)))-a2))))) (AM a0 (AE a5) z)),a1,a2,y1,a4,(IntKind.wrap .i64 (a5+1)),()))
  |false=>match idx a0 (IntKind.wrap .i64 (a1+(IntKind.wrap .i64 (IntKind.wrap .u64 ((BitVec.ofInt (IntKind.bits .u64) y2 &&& BitVec.ofInt (IntKind.bits .u64) (IntKind.wrap .u64 (a4-1))).toNat)))))with|none=>none|some x7=>match idx a0 a5 with|none=>none|some x8=>match idx a0 a5 with|none=>none|some x9=>match idx (Am a0 (AE a5) (AM a0 (AE (IntKind.wrap .i64 (a1+(IntKind.wrap .i64 (IntKind.wrap .u64 ((BitVec.ofInt (IntKind.bits .u64) y2 &&& BitVec.ofInt (IntKind.bits .u64) (IntKind.wrap .u64 (a4-1))).toNat)))))) z)) (IntKind.wrap .i64 (a1+(IntKind.wrap .i64 (IntKind.wrap .u64 ((BitVec.ofInt (IntKind.bits .u64) y2 &&& BitVec.ofInt (IntKind.bits .u64) (IntKind.wrap .u64 (a4-1))).toNat)))))with|none=>none|some x10=>some (.inl ((Am (Am a0 (AE a5) (AM a0 (AE (IntKind.wrap .i64 (a1+(IntKind.wrap .i64 (IntKind.wrap .u64 ((BitVec.ofInt (IntKind.bits .u64) y2 &&& BitVec.ofInt (IntKind.bits .u64) (IntKind.wrap .u64 (a4-1))).toNat)))))) z)) (AE (IntKind.wrap .i64 (a1+(IntKind.wrap .i64 (IntKind.wrap .u64 ((BitVec.ofInt (IntKind.bits .u64) y2 &&& BitVec.ofInt (IntKind.bits .u64) (IntKind.wrap .u64 (a4-1))).toNat)))))) (AM a0 (AE a5) z)),a1,a2,y1,a4,(IntKind.wrap .i64 (a5+1)),()))
 |false=>some (.inr (.inl (a0,())))
def Qt[Lk]{α:Type}(z:α)(c:α×α×Unit→Option U9):(List α×Int×Int×Unit)→Option ((List α×Unit)):=fun(a0,a1,a2,_)=>
 match(ile 8 (IntKind.wrap .i64 (a2-a1)))with
 |true=>match M5 ((IntKind.wrap .i64 (a2-a1)),())with|none=>none|some (y0,_)=>match quo? .i64 (IntKind.wrap .i64 (a2-a1)) 4 with|none=>none|some x1=>match AR (HM z c) many (a0,a1,(IntKind.wrap .i64 (a2-a1)),(IntKind.wrap .u64 (IntKind.wrap .i64 (a2-a1))),y0,(IntKind.wrap .i64 ((IntKind.wrap .i64 (a1+(IntKind.wrap .i64 (x1*2))))-1)),())with|none=>none|some r=>match r with
  |.inl (o2,_)=>some (o2,())
  |.inr _=>none
 |false=>some (a0,())
def AI5[Lk]{α:Type}(z:α)(c:α×α×Unit→Option U9)(v:(List α×Int×Int×Unit)):Option ((List α×Unit)):=Lk.f ((Qt z c) v)
theorem AX6{α:Type}(z:α)(c:α×α×Unit→Option U9)(v:(List α×Int×Int×Unit)):(AI5 z c) v=(Qt z c) v:=AJ _
def M0[Lk]{α:Type}(z:α)(c:α×α×Unit→Option U9):(List α×Int×Int×Int×Unit)→Option ((List α×Int×Int×Int×Unit)):=fun(a0,a1,a2,a3,_)=>
 match idx a0 a2 with|none=>none|some x0=>match idx a0 a1 with|none=>none|some x1=>match c ((AM a0 (AE a2) z),(AM a0 (AE a1) z),())with|none=>none|some (y2,_)=>match(ilt y2 0)with
 |true=>some (a0,(IntKind.wrap .i64 (a3+1)),a2,a1,())
 |false=>some (a0,a3,a1,a2,())
def M3[Lk]{α:Type}(z:α)(c:α×α×Unit→Option U9)(v:(List α×Int×Int×Int×Unit)):Option ((List α×Int×Int×Int×Unit)):=Lk.f ((M0 z c) v)
theorem AQg{α:Type}(z:α)(c:α×α×Unit→Option U9)(v:(List α×Int×Int×Int×Unit)):(M3 z c) v=(M0 z c) v:=AJ _
def M8[Lk]{α:Type}(z:α)(c:α×α×Unit→Option U9):(List α×Int×Int×Int×Int×Unit)→Option ((List α×Int×Int×Unit)):=fun(a0,a1,a2,a3,a4,_)=>
 match(M3 z c) (a0,a1,a2,a4,())with|none=>none|some (y0,y1,y2,y3,_)=>match(M3 z c) (y0,y3,a3,y1,())with|none=>none|some (y4,y5,y6,y7,_)=>match(M3 z c) (y4,y2,y6,y5,())with|none=>none|some (y8,y9,y10,y11,_)=>some (y8,y9,y11,())
def M9[Lk]{α:Type}(z:α)(c:α×α×Unit→Option U9)(v:(List α×Int×Int×Int×Int×Unit)):Option ((List α×Int×Int×Unit)):=Lk.f ((M8 z c) v)
theorem AQ6{α:Type}(z:α)(c:α×α×Unit→Option U9)(v:(List α×Int×Int×Int×Int×Unit)):(M9 z c) v=(M8 z c) v:=AJ _
def NB[Lk]{α:Type}(z:α)(c:α×α×Unit→Option U9):(List α×Int×Int×Unit)→Option ((List α×Int×Int×Unit)):=fun(a0,a1,a2,_)=>
 match(M9 z c) (a0,(IntKind.wrap .i64 (a1-1)),a1,(IntKind.wrap .i64 (a1+1)),a2,())with|none=>none|some (y0,y1,y2,_)=>some (y0,y1,y2,())
def NC[Lk]{α:Type}(z:α)(c:α×α×Unit→Option U9)(v:(List α×Int×Int×Unit)):Option ((List α×Int×Int×Unit)):=Lk.f ((NB z c) v)
theorem AQ8{α:Type}(z:α)(c:α×α×Unit→Option U9)(v:(List α×Int×Int×Unit)):(NC z c) v=(NB z c) v:=AJ _
def Pj[Lk]{α:Type}(z:α)(c:α×α×Unit→Option U9):(List α×Int×Int×Unit)→Option ((List α×Int×Int×Unit)):=fun(a0,a1,a2,_)=>
 match quo? .i64 (IntKind.wrap .i64 (a2-a1)) 4 with|none=>none|some x0=>match quo? .i64 (IntKind.wrap .i64 (a2-a1)) 4 with|none=>none|some x1=>match quo? .i64 (IntKind.wrap .i64 (a2-a1)) 4 with|none=>none|some x2=>match(ile 8 (IntKind.wrap .i64 (a2-a1)))with
 |true=>match(ile 50 (IntKind.wrap .i64 (a2-a1)))with
  |true=>match(NC z c) (a0,(IntKind.wrap .i64 (a1+(IntKind.wrap .i64 (x0*1)))),0,())with|none=>none|some (y3,y4,y5,_)=>match(NC z c) (y3,(IntKind.wrap .i64 (a1+(IntKind.wrap .i64 (x1*2)))),y4,())with|none=>none|some (y6,y7,y8,_)=>match(NC z c) (y6,(IntKind.wrap .i64 (a1+(IntKind.wrap .i64 (x2*3)))),y7,())with|none=>none|some (y9,y10,y11,_)=>match(M9 z c) (y9,y5,y8,y11,y10,())with|none=>none|some (y12,y13,y14,_)=>match(ieq y13 0)with
   |true=>some (y12,y14,1,())
   |false=>match(ieq y13 12)with
   |true=>some (y12,y14,2,())
   |false=>some (y12,y14,0,())
  |false=>match(M9 z c) (a0,(IntKind.wrap .i64 (a1+(IntKind.wrap .i64 (x0*1)))),(IntKind.wrap .i64 (a1+(IntKind.wrap .i64 (x1*2)))),(IntKind.wrap .i64 (a1+(IntKind.wrap .i64 (x2*3)))),0,())with|none=>none|some (y15,y16,y17,_)=>match(ieq y16 0)with
  |true=>some (y15,y17,1,())
  |false=>match(ieq y16 12)with
  |true=>some (y15,y17,2,())
  |false=>some (y15,y17,0,())
 |false=>match(ieq 0 0)with
 |true=>some (a0,(IntKind.wrap .i64 (a1+(IntKind.wrap .i64 (x1*2)))),1,())
 |false=>match(ieq 0 12)with
 |true=>some (a0,(IntKind.wrap .i64 (a1+(IntKind.wrap .i64 (x1*2)))),2,())
 |false=>some (a0,(IntKind.wrap .i64 (a1+(IntKind.wrap .i64 (x1*2)))),0,())
def AGX[Lk]{α:Type}(z:α)(c:α×α×Unit→Option U9)(v:(List α×Int×Int×Unit)):Option ((List α×Int×Int×Unit)):=Lk.f ((Pj z c) v)
theorem AVj{α:Type}(z:α)(c:α×α×Unit→Option U9)(v:(List α×Int×Int×Unit)):(AGX z c) v=(Pj z c) v:=AJ _
def Wy[Lk]{α:Type}(z:α)(c:α×α×Unit→Option U9):(List α×Int×Int×Unit)→Option ((List α×Int×Int×Unit)⊕(List α×Unit)⊕Unit):=fun(a0,a1,a2,_)=>
 match(ilt a1 a2)with
 |true=>match idx a0 a2 with|none=>none|some x0=>match idx a0 a1 with|none=>none|some x1=>match idx a0 a1 with|none=>none|some x2=>match idx (Am a0 (AE a1) (AM a0 (AE a2) z)) a2 with|none=>none|some x3=>some (.inl ((Am (Am a0 (AE a1) (AM a0 (AE a2) z)) (AE a2) (AM a0 (AE a1) z)),(IntKind.wrap .i64 (a1+1)),(IntKind.wrap .i64 (a2-1)),()))
 |false=>some (.inr (.inl (a0,())))
def AGF[Lk]{α:Type}(z:α)(c:α×α×Unit→Option U9):(List α×Int×Int×Unit)→Option ((List α×Unit)):=fun(a0,a1,a2,_)=>
 match AR (Wy z c) many (a0,a1,(IntKind.wrap .i64 (a2-1)),())with|none=>none|some r=>match r with
 |.inl (o0,_)=>some (o0,())
 |.inr _=>none
def Acn[Lk]{α:Type}(z:α)(c:α×α×Unit→Option U9)(v:(List α×Int×Int×Unit)):Option ((List α×Unit)):=Lk.f ((AGF z c) v)
theorem Acm{α:Type}(z:α)(c:α×α×Unit→Option U9)(v:(List α×Int×Int×Unit)):(Acn z c) v=(AGF z c) v:=AJ _
def GO[Lk]{α:Type}(z:α)(c:α×α×Unit→Option U9):(List α×Int×Int×Int×Int×Int×Unit)→Option ((List α×Int×Int×Int×Int×Int×Unit)⊕(List α×Int×Int×Int×Int×Unit)⊕Unit):=fun(a0,a1,a2,a3,a4,a5,_)=>
 match(ilt a5 a2)with
 |true=>match idx a0 a5 with|none=>none|some x0=>match idx a0 (IntKind.wrap .i64 (a5-1))with|none=>none|some x1=>match c ((AM a0 (AE a5) z),(AM a0 (AE (IntKind.wrap .i64 (a5-1))) z),())with|none=>none|some (y2,_)=>match(!(ilt y2 0))with
  |true=>some (.inr (.inl (a0,a1,a2,a3,a4,())))
  |false=>match idx a0 (IntKind.wrap .i64 (a5-1))with|none=>none|some x3=>match idx a0 a5 with|none=>none|some x4=>match idx a0 a5 with|none=>none|some x5=>match idx (Am a0 (AE a5) (AM a0 (AE (IntKind.wrap .i64 (a5-1))) z)) (IntKind.wrap .i64 (a5-1))with|none=>none|some x6=>some (.inl ((Am (Am a0 (AE a5) (AM a0 (AE (IntKind.wrap .i64 (a5-1))) z)) (AE (IntKind.wrap .i64 (a5-1))) (AM a0 (AE a5) z)),a1,a2,a3,a4,(IntKind.wrap .i64 (a5+1)),()))
 |false=>some (.inr (.inl (a0,a1,a2,a3,a4,())))
def GP[Lk]{α:Type}(z:α)(c:α×α×Unit→Option U9):(List α×Int×Int×Int×Int×Int×Unit)→Option ((List α×Int×Int×Int×Int×Int×Unit)⊕(List α×Int×Int×Int×Int×Unit)⊕Unit):=fun(a0,a1,a2,a3,a4,a5,_)=>
 match(ile 1 a5)with
 |true=>match idx a0 a5 with|none=>none|some x0=>match idx a0 (IntKind.wrap .i64 (a5-1))with|none=>none|some x1=>match c ((AM a0 (AE a5) z),(AM a0 (AE (IntKind.wrap .i64 (a5-1))) z),())with|none=>none|some (y2,_)=>match(!(ilt y2 0))with
  |true=>some (.inr (.inl (a0,a1,a2,a3,a4,())))
  |false=>match idx a0 (IntKind.wrap .i64 (a5-1))with|none=>none|some x3=>match idx a0 a5 with|none=>none|some x4=>match idx a0 a5 with|none=>none|some x5=>match idx (Am a0 (AE a5) (AM a0 (AE (IntKind.wrap .i64 (a5-1))) z)) (IntKind.wrap .i64 (a5-1))with|none=>none|some x6=>some (.inl ((Am (Am a0 (AE a5) (AM a0 (AE (IntKind.wrap .i64 (a5-1))) z)) (AE (IntKind.wrap .i64 (a5-1))) (AM a0 (AE a5) z)),a1,a2,a3,a4,(IntKind.wrap .i64 (a5-1)),()))
 |false=>some (.inr (.inl (a0,a1,a2,a3,a4,())))
def IY[Lk]{α:Type}(z:α)(c:α×α×Unit→Option U9):(List α×Int×Int×Int×Int×Unit)→Option ((List α×Int×Int×Int×Int×Unit)⊕(List α×Int×Int×Int×Int×Unit)⊕Unit):=fun(a0,a1,a2,a3,a4,_)=>
 match(ilt a3 a2)with
 |true=>match idx a0 a3 with|none=>none|some x0=>match idx a0 (IntKind.wrap .i64 (a3-1))with|none=>none|some x1=>match c ((AM a0 (AE a3) z),(AM a0 (AE (IntKind.wrap .i64 (a3-1))) z),())with|none=>none|some (y2,_)=>match(!(ilt y2 0))with
  |true=>some (.inl (a0,a1,a2,(IntKind.wrap .i64 (a3+1)),a4,()))
  |false=>some (.inr (.inl (a0,a1,a2,a3,a4,())))
 |false=>some (.inr (.inl (a0,a1,a2,a3,a4,())))
def Ci[Lk]{α:Type}(z:α)(c:α×α×Unit→Option U9):(List α×Int×Int×Int×Int×Unit)→Option ((List α×Int×Int×Int×Int×Unit)⊕(List α×Bool×Unit)⊕(List α×Unit)⊕Unit):=fun(a0,a1,a2,a3,a4,_)=>
 match(ilt a4 5)with
 |true=>match AR (IY z c) many (a0,a1,a2,a3,a4,())with|none=>none|some r=>match r with
  |.inl (o0,o1,o2,o3,o4,_)=>match(ieq o3 o2)with
   |true=>some (.inr (.inl (o0,true,())))
   |false=>match(ilt (IntKind.wrap .i64 (o2-o1)) 50)with
   |true=>some (.inr (.inl (o0,false,())))
   |false=>match idx o0 (IntKind.wrap .i64 (o3-1))with|none=>none|some x5=>match idx o0 o3 with|none=>none|some x6=>match idx o0 o3 with|none=>none|some x7=>match idx (Am o0 (AE o3) (AM o0 (AE (IntKind.wrap .i64 (o3-1))) z)) (IntKind.wrap .i64 (o3-1))with|none=>none|some x8=>match(ile 2 (IntKind.wrap .i64 (o3-o1)))with
   |true=>match AR (GP z c) many ((Am (Am o0 (AE o3) (AM o0 (AE (IntKind.wrap .i64 (o3-1))) z)) (AE (IntKind.wrap .i64 (o3-1))) (AM o0 (AE o3) z)),o1,o2,o3,o4,(IntKind.wrap .i64 (o3-1)),())with|none=>none|some r=>match r with
    |.inl (o9,o10,o11,o12,o13,_)=>match(ile 2 (IntKind.wrap .i64 (o11-o12)))with
     |true=>match AR (GO z c) many (o9,o10,o11,o12,o13,(IntKind.wrap .i64 (o12+1)),())with|none=>none|some r=>match r with
      |.inl (o14,o15,o16,o17,o18,_)=>some (.inl (o14,o15,o16,o17,(IntKind.wrap .i64 (o18+1)),()))
      |.inr _=>none
     |false=>some (.inl (o9,o10,o11,o12,(IntKind.wrap .i64 (o13+1)),()))
    |.inr _=>none
   |false=>match(ile 2 (IntKind.wrap .i64 (o2-o3)))with
   |true=>match AR (GO z c) many ((Am (Am o0 (AE o3) (AM o0 (AE (IntKind.wrap .i64 (o3-1))) z)) (AE (IntKind.wrap .i64 (o3-1))) (AM o0 (AE o3) z)),o1,o2,o3,o4,(IntKind.wrap .i64 (o3+1)),())with|none=>none|some r=>match r with
    |.inl (o19,o20,o21,o22,o23,_)=>some (.inl (o19,o20,o21,o22,(IntKind.wrap .i64 (o23+1)),()))
    |.inr _=>none
   |false=>some (.inl ((Am (Am o0 (AE o3) (AM o0 (AE (IntKind.wrap .i64 (o3-1))) z)) (AE (IntKind.wrap .i64 (o3-1))) (AM o0 (AE o3) z)),o1,o2,o3,(IntKind.wrap .i64 (o4+1)),()))
  |.inr _=>none
 |false=>some (.inr (.inr (.inl (a0,()))))
def J4[Lk]{α:Type}(z:α)(c:α×α×Unit→Option U9):(List α×Int×Int×Unit)→Option ((List α×Bool×Unit)):=fun(a0,a1,a2,_)=>
 match AR (Ci z c) many (a0,a1,a2,(IntKind.wrap .i64 (a1+1)),0,())with|none=>none|some r=>match r with
 |.inl (o0,o1,_)=>some (o0,o1,())
 |.inr r=>match r with
 |.inl (o2,_)=>some (o2,false,())
 |.inr _=>none
def Pp[Lk]{α:Type}(z:α)(c:α×α×Unit→Option U9)(v:(List α×Int×Int×Unit)):Option ((List α×Bool×Unit)):=Lk.f ((J4 z c) v)
theorem ALj{α:Type}(z:α)(c:α×α×Unit→Option U9)(v:(List α×Int×Int×Unit)):(Pp z c) v=(J4 z c) v:=AJ _
def J5[Lk]{α:Type}(z:α)(c:α×α×Unit→Option U9):(List α×Int×Int×Int×Unit)→Option ((List α×Int×Int×Int×Unit)⊕(List α×Int×Int×Int×Unit)⊕Unit):=fun(a0,a1,a2,a3,_)=>
 match(ile a2 a3)with
 |true=>match idx a0 a1 with|none=>none|some x0=>match idx a0 a3 with|none=>none|some x1=>match c ((AM a0 (AE a1) z),(AM a0 (AE a3) z),())with|none=>none|some (y2,_)=>match(ilt y2 0)with
  |true=>some (.inl (a0,a1,a2,(IntKind.wrap .i64 (a3-1)),()))
  |false=>some (.inr (.inl (a0,a1,a2,a3,())))
 |false=>some (.inr (.inl (a0,a1,a2,a3,())))
def J6[Lk]{α:Type}(z:α)(c:α×α×Unit→Option U9):(List α×Int×Int×Int×Unit)→Option ((List α×Int×Int×Int×Unit)⊕(List α×Int×Int×Int×Unit)⊕Unit):=fun(a0,a1,a2,a3,_)=>
 match(ile a2 a3)with
 |true=>match idx a0 a1 with|none=>none|some x0=>match idx a0 a2 with|none=>none|some x1=>match c ((AM a0 (AE a1) z),(AM a0 (AE a2) z),())with|none=>none|some (y2,_)=>match(!(ilt y2 0))with
  |true=>some (.inl (a0,a1,(IntKind.wrap .i64 (a2+1)),a3,()))
  |false=>some (.inr (.inl (a0,a1,a2,a3,())))
 |false=>some (.inr (.inl (a0,a1,a2,a3,())))
def J7[Lk]{α:Type}(z:α)(c:α×α×Unit→Option U9):(List α×Int×Int×Int×Unit)→Option ((List α×Int×Int×Int×Unit)⊕(List α×Int×Unit)⊕Unit):=fun(a0,a1,a2,a3,_)=>
 match AR (J6 z c) many (a0,a1,a2,a3,())with|none=>none|some r=>match r with
 |.inl (o0,o1,o2,o3,_)=>match AR (J5 z c) many (o0,o1,o2,o3,())with|none=>none|some r=>match r with
  |.inl (o4,o5,o6,o7,_)=>match(ilt o7 o6)with
   |true=>some (.inr (.inl (o4,o6,())))
   |false=>match idx o4 o7 with|none=>none|some x8=>match idx o4 o6 with|none=>none|some x9=>match idx o4 o6 with|none=>none|some x10=>match idx (Am o4 (AE o6) (AM o4 (AE o7) z)) o7 with|none=>none|some x11=>some (.inl ((Am (Am o4 (AE o6) (AM o4 (AE o7) z)) (AE o7) (AM o4 (AE o6) z)),o5,(IntKind.wrap .i64 (o6+1)),(IntKind.wrap .i64 (o7-1)),()))
  |.inr _=>none
 |.inr _=>none
def My[Lk]{α:Type}(z:α)(c:α×α×Unit→Option U9):(List α×Int×Int×Int×Unit)→Option ((List α×Int×Unit)):=fun(a0,a1,a2,a3,_)=>
 match idx a0 a3 with|none=>none|some x0=>match idx a0 a1 with|none=>none|some x1=>match idx a0 a1 with|none=>none|some x2=>match idx (Am a0 (AE a1) (AM a0 (AE a3) z)) a3 with|none=>none|some x3=>match AR (J7 z c) many ((Am (Am a0 (AE a1) (AM a0 (AE a3) z)) (AE a3) (AM a0 (AE a1) z)),a1,(IntKind.wrap .i64 (a1+1)),(IntKind.wrap .i64 (a2-1)),())with|none=>none|some r=>match r with
 |.inl (o4,o5,_)=>some (o4,o5,())
 |.inr _=>none
def W4[Lk]{α:Type}(z:α)(c:α×α×Unit→Option U9)(v:(List α×Int×Int×Int×Unit)):Option ((List α×Int×Unit)):=Lk.f ((My z c) v)
theorem AQe{α:Type}(z:α)(c:α×α×Unit→Option U9)(v:(List α×Int×Int×Int×Unit)):(W4 z c) v=(My z c) v:=AJ _
def Pr[Lk]{α:Type}(z:α)(c:α×α×Unit→Option U9):(List α×Int×Int×Int×Unit)→Option ((List α×Int×Int×Int×Unit)⊕(List α×Int×Int×Int×Unit)⊕Unit):=fun(a0,a1,a2,a3,_)=>
 match(ile a2 a3)with
 |true=>match idx a0 a3 with|none=>none|some x0=>match idx a0 a1 with|none=>none|some x1=>match c ((AM a0 (AE a3) z),(AM a0 (AE a1) z),())with|none=>none|some (y2,_)=>match(!(ilt y2 0))with
  |true=>some (.inl (a0,a1,a2,(IntKind.wrap .i64 (a3-1)),()))
  |false=>some (.inr (.inl (a0,a1,a2,a3,())))
 |false=>some (.inr (.inl (a0,a1,a2,a3,())))
def Ps[Lk]{α:Type}(z:α)(c:α×α×Unit→Option U9):(List α×Int×Int×Int×Unit)→Option ((List α×Int×Int×Int×Unit)⊕(List α×Int×Int×Int×Unit)⊕Unit):=fun(a0,a1,a2,a3,_)=>
 match(ile a2 a3)with
 |true=>match idx a0 a2 with|none=>none|some x0=>match idx a0 a1 with|none=>none|some x1=>match c ((AM a0 (AE a2) z),(AM a0 (AE a1) z),())with|none=>none|some (y2,_)=>match(ilt y2 0)with
  |true=>some (.inl (a0,a1,(IntKind.wrap .i64 (a2+1)),a3,()))
  |false=>some (.inr (.inl (a0,a1,a2,a3,())))
 |false=>some (.inr (.inl (a0,a1,a2,a3,())))
def Pt[Lk]{α:Type}(z:α)(c:α×α×Unit→Option U9):(List α×Int×Int×Int×Unit)→Option ((List α×Int×Int×Int×Unit)⊕(List α×Int×Int×Unit)⊕Unit):=fun(a0,a1,a2,a3,_)=>
 match AR (Ps z c) many (a0,a1,a2,a3,())with|none=>none|some r=>match r with
 |.inl (o0,o1,o2,o3,_)=>match AR (Pr z c) many (o0,o1,o2,o3,())with|none=>none|some r=>match r with
  |.inl (o4,o5,o6,o7,_)=>match(ilt o7 o6)with
   |true=>some (.inr (.inl (o4,o5,o7,())))
   |false=>match idx o4 o7 with|none=>none|some x8=>match idx o4 o6 with|none=>none|some x9=>match idx o4 o6 with|none=>none|some x10=>match idx (Am o4 (AE o6) (AM o4 (AE o7) z)) o7 with|none=>none|some x11=>some (.inl ((Am (Am o4 (AE o6) (AM o4 (AE o7) z)) (AE o7) (AM o4 (AE o6) z)),o5,(IntKind.wrap .i64 (o6+1)),(IntKind.wrap .i64 (o7-1)),()))
  |.inr _=>none
 |.inr _=>none
def Pu[Lk]{α:Type}(z:α)(c:α×α×Unit→Option U9):(List α×Int×Int×Int×Unit)→Option ((List α×Int×Int×Int×Unit)⊕(List α×Int×Int×Int×Unit)⊕Unit):=fun(a0,a1,a2,a3,_)=>
 match(ile a2 a3)with
 |true=>match idx a0 a3 with|none=>none|some x0=>match idx a0 a1 with|none=>none|some x1=>match c ((AM a0 (AE a3) z),(AM a0 (AE a1) z),())with|none=>none|some (y2,_)=>match(!(ilt y2 0))with
  |true=>some (.inl (a0,a1,a2,(IntKind.wrap .i64 (a3-1)),()))
  |false=>some (.inr (.inl (a0,a1,a2,a3,())))
 |false=>some (.inr (.inl (a0,a1,a2,a3,())))
def Pv[Lk]{α:Type}(z:α)(c:α×α×Unit→Option U9):(List α×Int×Int×Int×Unit)→Option ((List α×Int×Int×Int×Unit)⊕(List α×Int×Int×Int×Unit)⊕Unit):=fun(a0,a1,a2,a3,_)=>
 match(ile a2 a3)with
 |true=>match idx a0 a2 with|none=>none|some x0=>match idx a0 a1 with|none=>none|some x1=>match c ((AM a0 (AE a2) z),(AM a0 (AE a1) z),())with|none=>none|some (y2,_)=>match(ilt y2 0)with
  |true=>some (.inl (a0,a1,(IntKind.wrap .i64 (a2+1)),a3,()))
  |false=>some (.inr (.inl (a0,a1,a2,a3,())))
 |false=>some (.inr (.inl (a0,a1,a2,a3,())))
def W3[Lk]{α:Type}(z:α)(c:α×α×Unit→Option U9):(List α×Int×Int×Int×Unit)→Option ((List α×Int×Bool×Unit)):=fun(a0,a1,a2,a3,_)=>
 match idx a0 a3 with|none=>none|some x0=>match idx a0 a1 with|none=>none|some x1=>match idx a0 a1 with|none=>none|some x2=>match idx (Am a0 (AE a1) (AM a0 (AE a3) z)) a3 with|none=>none|some x3=>match AR (Pv z c) many ((Am (Am a0 (AE a1) (AM a0 (AE a3) z)) (AE a3) (AM a0 (AE a1) z)),a1,(IntKind.wrap .i64 (a1+1)),(IntKind.wrap .i64 (a2-1)),())with|none=>none|some r=>match r with
 |.inl (o4,o5,o6,o7,_)=>match AR (Pu z c) many (o4,o5,o6,o7,())with|none=>none|some r=>match r with
  |.inl (o8,o9,o10,o11,_)=>match(ilt o11 o10)with
   |true=>match idx o8 o9 with|none=>none|some x12=>match idx o8 o11 with|none=>none|some x13=>match idx o8 o11 with|none=>none|some x14=>match idx (Am o8 (AE o11) (AM o8 (AE o9) z)) o9 with|none=>none|some x15=>some ((Am (Am o8 (AE o11) (AM o8 (AE o9) z)) (AE o9) (AM o8 (AE o11) z)),o11,true,())
   |false=>match idx o8 o11 with|none=>none|some x16=>match idx o8 o10 with|none=>none|some x17=>match idx o8 o10 with|none=>none|some x18=>match idx (Am o8 (AE o10) (AM o8 (AE o11) z)) o11 with|none=>none|some x19=>match AR (Pt z c) many ((Am (Am o8 (AE o10) (AM o8 (AE o11) z)) (AE o11) (AM o8 (AE o10) z)),o9,(IntKind.wrap .i64 (o10+1)),(IntKind.wrap .i64 (o11-1)),())with|none=>none|some r=>match r with
   |.inl (o20,o21,o22,_)=>match idx o20 o21 with|none=>none|some x23=>match idx o20 o22 with|none=>none|some x24=>match idx o20 o22 with|none=>none|some x25=>match idx (Am o20 (AE o22) (AM o20 (AE o21) z)) o21 with|none=>none|some x26=>some ((Am (Am o20 (AE o22) (AM o20 (AE o21) z)) (AE o21) (AM o20 (AE o22) z)),o22,false,())
   |.inr _=>none
  |.inr _=>none
 |.inr _=>none
def AD9[Lk]{α:Type}(z:α)(c:α×α×Unit→Option U9)(v:(List α×Int×Int×Int×Unit)):Option ((List α×Int×Bool×Unit)):=Lk.f ((W3 z c) v)
theorem AaK{α:Type}(z:α)(c:α×α×Unit→Option U9)(v:(List α×Int×Int×Int×Unit)):(AD9 z c) v=(W3 z c) v:=AJ _
def R7[Lk]{α:Type}(z:α)(c:α×α×Unit→Option U9)(self:(List α×Int×Int×Int×Unit)→Option ((List α×Unit)))(y7:List α)(a1 a2 p l:Int)(a4 a5:Bool):Option ((List α×Int×Int×Int×Bool×Bool×Unit)⊕(List α×Unit)⊕Unit):=
 match(ilt 0 a1)with
 |true=>match idx y7 (IntKind.wrap .i64 (a1-1))with|none=>none|some x9=>match idx y7 p with|none=>none|some x10=>match c ((AM y7 (AE (IntKind.wrap .i64 (a1-1))) z),(AM y7 (AE p) z),())with|none=>none|some (y11,_)=>match(!(ilt y11 0))with
  |true=>match(W4 z c) (y7,a1,a2,p,())with|none=>none|some (y12,y13,_)=>some (.inl (y12,y13,a2,l,a4,a5,()))
  |false=>match(AD9 z c) (y7,a1,a2,p,())with|none=>none|some (y14,y15,y16,_)=>match quo? .i64 (IntKind.wrap .i64 (a2-a1)) 8 with|none=>none|some x17=>match(ilt (IntKind.wrap .i64 (y15-a1)) (IntKind.wrap .i64 (a2-y15)))with
  |true=>match self (y14,a1,y15,l,())with|none=>none|some (y18,_)=>some (.inl (y18,(IntKind.wrap .i64 (y15+1)),a2,l,(ile x17 (IntKind.wrap .i64 (y15-a1))),y16,()))
  |false=>match self (y14,(IntKind.wrap .i64 (y15+1)),a2,l,())with|none=>none|some (y19,_)=>some (.inl (y19,a1,y15,l,(ile x17 (IntKind.wrap .i64 (a2-y15))),y16,()))
 |false=>match(AD9 z c) (y7,a1,a2,p,())with|none=>none|some (y20,y21,y22,_)=>match quo? .i64 (IntKind.wrap .i64 (a2-a1)) 8 with|none=>none|some x23=>match(ilt (IntKind.wrap .i64 (y21-a1)) (IntKind.wrap .i64 (a2-y21)))with
 |true=>match self (y20,a1,y21,l,())with|none=>none|some (y24,_)=>some (.inl (y24,(IntKind.wrap .i64 (y21+1)),a2,l,(ile x23 (IntKind.wrap .i64 (y21-a1))),y22,()))
 |false=>match self (y20,(IntKind.wrap .i64 (y21+1)),a2,l,())with|none=>none|some (y25,_)=>some (.inl (y25,a1,y21,l,(ile x23 (IntKind.wrap .i64 (a2-y21))),y22,()))
def AGn[Lk]{α:Type}(z:α)(c:α×α×Unit→Option U9)(self:(List α×Int×Int×Int×Unit)→Option ((List α×Unit)))(y6:List α)(a1 a2 p h l:Int)(a4 a5:Bool):Option ((List α×Int×Int×Int×Bool×Bool×Unit)⊕(List α×Unit)⊕Unit):=
 match a4 with
 |true=>match a5 with
  |true=>match(ieq h 1)with
   |true=>match(Pp z c) (y6,a1,a2,())with|none=>none|some (y7,y8,_)=>match y8 with
    |true=>some (.inr (.inl (y7,())))
    |false=>(R7 z c) self y7 a1 a2 p l a4 a5
   |false=>(R7 z c) self y6 a1 a2 p l a4 a5
  |false=>(R7 z c) self y6 a1 a2 p l a4 a5
 |false=>(R7 z c) self y6 a1 a2 p l a4 a5
def AGm[Lk]{α:Type}(z:α)(c:α×α×Unit→Option U9)(self:(List α×Int×Int×Int×Unit)→Option ((List α×Unit)))(y2:List α)(a1 a2 l:Int)(a4 a5:Bool):Option ((List α×Int×Int×Int×Bool×Bool×Unit)⊕(List α×Unit)⊕Unit):=
 match(AGX z c) (y2,a1,a2,())with|none=>none|some (y3,y4,y5,_)=>match(ieq y5 2)with
 |true=>match(Acn z c) (y3,a1,a2,())with|none=>none|some (y6,_)=>(AGn z c) self y6 a1 a2 (IntKind.wrap .i64 ((IntKind.wrap .i64 (a2-1))-(IntKind.wrap .i64 (y4-a1)))) 1 l a4 a5
 |false=>(AGn z c) self y3 a1 a2 y4 y5 l a4 a5
def Po[Lk]{α:Type}(z:α)(c:α×α×Unit→Option U9)(self:(List α×Int×Int×Int×Unit)→Option ((List α×Unit))):(List α×Int×Int×Int×Bool×Bool×Unit)→Option ((List α×Int×Int×Int×Bool×Bool×Unit)⊕(List α×Unit)⊕Unit):=fun(a0,a1,a2,a3,a4,a5,_)=>
 match(ile (IntKind.wrap .i64 (a2-a1)) 12)with
 |true=>match(Adc z c) (a0,a1,a2,())with|none=>none|some (y0,_)=>some (.inr (.inl (y0,())))
 |false=>match(ieq a3 0)with
 |true=>match(AUH z c) (a0,a1,a2,())with|none=>none|some (y1,_)=>some (.inr (.inl (y1,())))
 |false=>match(!a4)with
 |true=>match(AI5 z c) (a0,a1,a2,())with|none=>none|some (y2,_)=>(AGm z c) self y2 a1 a2 (IntKind.wrap .i64 (a3-1)) a4 a5
 |false=>(AGm z c) self a0 a1 a2 a3 a4 a5
def AGo[Lk]{α:Type}(z:α)(c:α×α×Unit→Option U9)(self:(List α×Int×Int×Int×Unit)→Option ((List α×Unit))):(List α×Int×Int×Int×Unit)→Option ((List α×Unit)):=fun(a0,a1,a2,a3,_)=>
 match AR ((Po z c) self) many (a0,a1,a2,a3,true,true,())with|none=>none|some r=>match r with
 |.inl (o0,_)=>some (o0,())
 |.inr _=>none
def Lc[Lk]{α:Type}(z:α)(c:α×α×Unit→Option U9):Nat→(List α×Int×Int×Int×Unit)→Option ((List α×Unit))
 |0,_=>none
 |n+1,v=>(AGo z c) ((Lc z c) n) v
def Ac3[Lk]{α:Type}(z:α)(c:α×α×Unit→Option U9)(v:(List α×Int×Int×Int×Unit)):Option ((List α×Unit)):=Lk.f ((Lc z c) 100 v)
theorem Ac2{α:Type}(z:α)(c:α×α×Unit→Option U9)(v:(List α×Int×Int×Int×Unit)):(Ac3 z c) v=(Lc z c) 100 v:=AJ _
def Ws[Lk]{α:Type}(z:α)(c:α×α×Unit→Option U9):(List α×Unit)→Option ((List α×Unit)):=fun(a0,_)=>
 match bitsLen ((IntKind.wrap .u64 (AO a0)),())with|none=>none|some (y0,_)=>match(Ac3 z c) (a0,0,(AO a0),y0,())with|none=>none|some (y1,_)=>some (y1,())
def AYw[Lk]{α:Type}(z:α)(c:α×α×Unit→Option U9)(v:(List α×Unit)):Option ((List α×Unit)):=Lk.f ((Ws z c) v)
theorem AYv{α:Type}(z:α)(c:α×α×Unit→Option U9)(v:(List α×Unit)):(AYw z c) v=(Ws z c) v:=AJ _
abbrev ARe:AF:=[(.tmp 0,.own 55 U6),(.tmp 1,.di),(.tmp 2,.di),(.tmp 3,.clo 204 [])]
abbrev ARd:AF:=[(.obj 0,.own 55 U6)]
abbrev ARc:List RS:=[]
abbrev AT7:AF:=[(.obj 0,.own 55 U6),(.tmp 0,.own' 0),(.tmp 1,.di),(.tmp 2,.di),(.tmp 3,.clo 204 []),(.tmp 8,.di),(.tmp 9,.di)]
abbrev AT5:Az:=[(.exit 2,[(.obj 0,.own 55 U6),(.tmp 0,.own' 0),(.tmp 1,.di),(.tmp 2,.di),(.tmp 3,.clo 204 []),(.tmp 8,.di)])]
def AT3[Lk]:Uj→Option (Uj⊕U8⊕Unit):=QD (([]:List (Int)):U4) BE
abbrev AT8:AF:=[(.obj 0,.own 55 U6),(.tmp 0,.own' 0),(.tmp 1,.di),(.tmp 2,.di),(.tmp 3,.clo 204 []),(.tmp 8,.di)]
abbrev AT6:Az:=[(.exit 0,[(.obj 0,.own 55 U6)])]
def AT4[Lk]:U8→Option (U8⊕Uo⊕Unit):=QE (([]:List (Int)):U4) BE
def Aax[Lk]:Ug→Option (Uo):=AHs (([]:List (Int)):U4) BE
def Ae3[Lk](v:Ug):Option (Uo):=Adc (([]:List (Int)):U4) BE v
theorem AdU v:Ae3 v=Aax v:=AJ _
abbrev AFv:AF:=[(.tmp 0,.own 55 U6),(.tmp 1,.di),(.tmp 2,.di),(.tmp 3,.di),(.tmp 4,.clo 204 [])]
abbrev AFu:AF:=[(.obj 0,.own 55 U6)]
abbrev AFt:List RS:=[]
abbrev AKK:AF:=[(.obj 0,.own 55 U6),(.tmp 0,.own' 0),(.tmp 2,.di),(.tmp 3,.di),(.tmp 4,.clo 204 []),(.tmp 10,.di)]
abbrev AKJ:Az:=[(.exit 0,[(.obj 0,.own 55 U6)]),(.ret,[(.obj 0,.own 55 U6)])]
def AKI[Lk]:U8→Option (U8⊕Uo⊕Uo⊕Unit):=LP (([]:List (Int)):U4) BE
def ATS[Lk]:U8→Option (Uo):=Wu (([]:List (Int)):U4) BE
def AY0[Lk](v:U8):Option (Uo):=AKP (([]:List (Int)):U4) BE v
theorem AYz v:AY0 v=ATS v:=AJ _
abbrev AH0:AF:=[(.tmp 0,.own 55 U6),(.tmp 1,.di),(.tmp 2,.di),(.tmp 3,.clo 204 [])]
abbrev AHz:AF:=[(.obj 0,.own 55 U6)]
abbrev AHy:List RS:=[]
abbrev AM0:AF:=[(.obj 0,.own 55 U6),(.tmp 0,.own' 0),(.tmp 3,.clo 204 []),(.tmp 8,.di),(.tmp 9,.di),(.tmp 12,.di)]
abbrev AMy:Az:=[(.exit 2,[(.obj 0,.own 55 U6)])]
def AMv[Lk]:U8→Option (U8⊕Uo⊕Unit):=L6 (([]:List (Int)):U4) BE
abbrev AM1:AF:=[(.obj 0,.own 55 U6),(.tmp 0,.own' 0),(.tmp 3,.clo 204 []),(.tmp 8,.di),(.tmp 9,.di),(.tmp 10,.di),(.tmp 11,.di)]
abbrev AMz:Az:=[(.exit 0,[(.obj 0,.own 55 U6),(.tmp 0,.own' 0),(.tmp 3,.clo 204 []),(.tmp 8,.di),(.tmp 9,.di),(.tmp 10,.di)])]
def AMx[Lk]:Uj→Option (Uj⊕U8⊕Unit):=L7 (([]:List (Int)):U4) BE
def AUG[Lk]:Ug→Option (Uo):=XE (([]:List (Int)):U4) BE
def AbD[Lk](v:Ug):Option (Uo):=AUH (([]:List (Int)):U4) BE v
theorem AbC v:AbD v=AUG v:=AJ _
abbrev ABX:AF:=[(.tmp 0,.own 55 U6),(.tmp 1,.di),(.tmp 2,.di),(.tmp 3,.clo 204 [])]
abbrev ABW:AF:=[(.obj 0,.own 55 U6)]
abbrev ABV:List RS:=[]
abbrev AEu:AF:=[(.obj 0,.own 55 U6),(.tmp 0,.own' 0),(.tmp 1,.di),(.tmp 8,.di),(.tmp 9,.box 1),(.cell 1 0,.dat (.int .u64)),(.tmp 10,.dat (.int .u64)),(.tmp 11,.di)]
abbrev AEt:Az:=[(.exit 0,[(.obj 0,.own 55 U6)])]
def AEs[Lk]:Uw→Option (Uw⊕Uo⊕Unit):=HM (([]:List (Int)):U4) BE
def AOC[Lk]:Ug→Option (Uo):=Qt (([]:List (Int)):U4) BE
def ASq[Lk](v:Ug):Option (Uo):=AI5 (([]:List (Int)):U4) BE v
theorem AX3 v:ASq v=AOC v:=AJ _
abbrev SK:AF:=[(.tmp 0,.own 55 U6),(.tmp 1,.di),(.tmp 2,.di),(.tmp 3,.box 1),(.cell 1 0,.di),(.tmp 4,.clo 204 [])]
abbrev SJ:AF:=[(.obj 0,.own 55 U6),(.obj 1,.box 1),(.cell 1 0,.di),(.tmp 0,.di),(.tmp 1,.di)]
abbrev SH:List RS:=[.one,.one]
def AED[Lk]:U8→Option (U8):=M0 (([]:List (Int)):U4) BE
def AG6[Lk](v:U8):Option (U8):=M3 (([]:List (Int)):U4) BE v
theorem AQf v:AG6 v=AED v:=AJ _
abbrev SZ:AF:=[(.tmp 0,.own 55 U6),(.tmp 1,.di),(.tmp 2,.di),(.tmp 3,.di),(.tmp 4,.box 1),(.cell 1 0,.di),(.tmp 5,.clo 204 [])]
abbrev SY:AF:=[(.obj 0,.own 55 U6),(.obj 1,.box 1),(.cell 1 0,.di),(.tmp 0,.di)]
abbrev SX:List RS:=[.one]
def AEE[Lk]:Uj→Option (Ug):=M8 (([]:List (Int)):U4) BE
def AHO[Lk](v:Uj):Option (Ug):=M9 (([]:List (Int)):U4) BE v
theorem AQ5 v:AHO v=AEE v:=AJ _
abbrev Sf:AF:=[(.tmp 0,.own 55 U6),(.tmp 1,.di),(.tmp 2,.box 1),(.cell 1 0,.di),(.tmp 3,.clo 204 [])]
abbrev Se:AF:=[(.obj 0,.own 55 U6),(.obj 1,.box 1),(.cell 1 0,.di),(.tmp 0,.di)]
abbrev Sd:List RS:=[.one]
def AEF[Lk]:Ug→Option (Ug):=NB (([]:List (Int)):U4) BE
def AHR[Lk](v:Ug):Option (Ug):=NC (([]:List (Int)):U4) BE v
theorem AQ7 v:AHR v=AEF v:=AJ _
abbrev Yz:AF:=[(.tmp 0,.own 55 U6),(.tmp 1,.di),(.tmp 2,.di),(.tmp 3,.clo 204 [])]
abbrev Yy:AF:=[(.obj 0,.own 55 U6),(.tmp 0,.di),(.tmp 1,.di)]
abbrev Yx:List RS:=[.one,.one]
def AKv[Lk]:Ug→Option (Ug):=Pj (([]:List (Int)):U4) BE
def AP3[Lk](v:Ug):Option (Ug):=AGX (([]:List (Int)):U4) BE v
theorem AVi v:AP3 v=AKv v:=AJ _
abbrev APT:AF:=[(.tmp 0,.own 55 U6),(.tmp 1,.di),(.tmp 2,.di),(.tmp 3,.clo 204 [])]
abbrev APS:AF:=[(.obj 0,.own 55 U6)]
abbrev APR:List RS:=[]
abbrev ATW:AF:=[(.obj 0,.own 55 U6),(.tmp 0,.own' 0),(.tmp 8,.di),(.tmp 9,.di)]
abbrev ATV:Az:=[(.exit 0,[(.obj 0,.own 55 U6)])]
def ATU[Lk]:Ug→Option (Ug⊕Uo⊕Unit):=Wy (([]:List (Int)):U4) BE
def AZG[Lk]:Ug→Option (Uo):=AGF (([]:List (Int)):U4) BE
def AeZ[Lk](v:Ug):Option (Uo):=Acn (([]:List (Int)):U4) BE v
theorem Acj v:AeZ v=AZG v:=AJ _
abbrev OM:AF:=[(.tmp 0,.own 55 U6),(.tmp 1,.di),(.tmp 2,.di),(.tmp 3,.clo 204 [])]
abbrev OL:AF:=[(.obj 0,.own 55 U6),(.tmp 0,.dat .bool)]
abbrev OK:List RS:=[.one]
abbrev UK:AF:=[(.obj 0,.own 55 U6),(.tmp 0,.own' 0),(.tmp 1,.di),(.tmp 2,.di),(.tmp 3,.clo 204 []),(.tmp 9,.di),(.tmp 10,.di),(.tmp 12,.di)]
abbrev UG:Az:=[(.exit 6,[(.obj 0,.own 55 U6),(.tmp 0,.own' 0),(.tmp 1,.di),(.tmp 2,.di),(.tmp 3,.clo 204 []),(.tmp 9,.di),(.tmp 10,.di)])]
def UB[Lk]:Uw→Option (Uw⊕Uj⊕Unit):=GO (([]:List (Int)):U4) BE
abbrev UL:AF:=[(.obj 0,.own 55 U6),(.tmp 0,.own' 0),(.tmp 1,.di),(.tmp 2,.di),(.tmp 3,.clo 204 []),(.tmp 9,.di),(.tmp 10,.di),(.tmp 11,.di)]
abbrev UH:Az:=[(.exit 4,[(.obj 0,.own 55 U6),(.tmp 0,.own' 0),(.tmp 1,.di),(.tmp 2,.di),(.tmp 3,.clo 204 []),(.tmp 9,.di),(.tmp 10,.di)])]
def UC[Lk]:Uw→Option (Uw⊕Uj⊕Unit):=GP (([]:List (Int)):U4) BE
abbrev UM:AF:=[(.obj 0,.own 55 U6),(.tmp 0,.own' 0),(.tmp 1,.di),(.tmp 2,.di),(.tmp 3,.clo 204 []),(.tmp 9,.di),(.tmp 10,.di)]
abbrev UI:Az:=[(.exit 2,[(.obj 0,.own 55 U6),(.tmp 0,.own' 0),(.tmp 1,.di),(.tmp 2,.di),(.tmp 3,.clo 204 []),(.tmp 9,.di),(.tmp 10,.di)])]
def UD[Lk]:Uj→Option (Uj⊕Uj⊕Unit):=IY (([]:List (Int)):U4) BE
abbrev UN:AF:=[(.obj 0,.own 55 U6),(.tmp 0,.own' 0),(.tmp 1,.di),(.tmp 2,.di),(.tmp 3,.clo 204 []),(.tmp 9,.di),(.tmp 10,.di)]
abbrev UJ:Az:=[(.ret,[(.obj 0,.own 55 U6),(.tmp 8,.dat .bool)]),(.exit 0,[(.obj 0,.own 55 U6)])]
def UE[Lk]:Uj→Option (Uj⊕(List U4×Bool×Unit)⊕Uo⊕Unit):=Ci (([]:List (Int)):U4) BE
def ZM[Lk]:Ug→Option ((List U4×Bool×Unit)):=J4 (([]:List (Int)):U4) BE
def ZN[Lk](v:Ug):Option ((List U4×Bool×Unit)):=Pp (([]:List (Int)):U4) BE v
theorem ALa v:ZN v=ZM v:=AJ _
abbrev SB:AF:=[(.tmp 0,.own 55 U6),(.tmp 1,.di),(.tmp 2,.di),(.tmp 3,.di),(.tmp 4,.clo 204 [])]
abbrev SA:AF:=[(.obj 0,.own 55 U6),(.tmp 0,.di)]
abbrev R9:List RS:=[.one]
abbrev ZY:AF:=[(.obj 0,.own 55 U6),(.tmp 0,.own' 0),(.tmp 1,.di),(.tmp 4,.clo 204 []),(.tmp 11,.di),(.tmp 12,.di)]
abbrev ZV:Az:=[(.exit 4,[(.obj 0,.own 55 U6),(.tmp 0,.own' 0),(.tmp 1,.di),(.tmp 4,.clo 204 []),(.tmp 11,.di),(.tmp 12,.di)])]
def ZS[Lk]:U8→Option Vh:=J5 (([]:List (Int)):U4) BE
abbrev ZZ:AF:=[(.obj 0,.own 55 U6),(.tmp 0,.own' 0),(.tmp 1,.di),(.tmp 4,.clo 204 []),(.tmp 11,.di),(.tmp 12,.di)]
abbrev ZW:Az:=[(.exit 2,[(.obj 0,.own 55 U6),(.tmp 0,.own' 0),(.tmp 1,.di),(.tmp 4,.clo 204 []),(.tmp 11,.di),(.tmp 12,.di)])]
def ZT[Lk]:U8→Option Vh:=J6 (([]:List (Int)):U4) BE
abbrev Za:AF:=[(.obj 0,.own 55 U6),(.tmp 0,.own' 0),(.tmp 1,.di),(.tmp 4,.clo 204 []),(.tmp 11,.di),(.tmp 12,.di)]
abbrev ZX:Az:=[(.exit 0,[(.obj 0,.own 55 U6),(.tmp 11,.di)])]
def ZU[Lk]:U8→Option (U8⊕Vc⊕Unit):=J7 (([]:List (Int)):U4) BE
def AEA[Lk]:U8→Option (Vc):=My (([]:List (Int)):U4) BE
def AG1[Lk](v:U8):Option (Vc):=W4 (([]:List (Int)):U4) BE v
theorem AQX v:AG1 v=AEA v:=AJ _
end
end Go.Pev
end
section
namespace Go.Pev
noncomputable section
attribute [local irreducible] MC JA Nh Kx AW1 AW2 AW3 Pb WE WA X3 JC AQ many IntKind.wrap AO Am AM A6 Bi DT Jd AE BV Bt imax AU Ah
abbrev AGs:AF:=[(.tmp 0,.own 55 U6),(.tmp 1,.di),(.tmp 2,.di),(.tmp 3,.di),(.tmp 4,.clo 204 [])]
abbrev AGr:AF:=[(.obj 0,.own 55 U6),(.tmp 0,.di),(.tmp 1,.dat .bool)]
abbrev AGq:List RS:=[.one,.one]
abbrev ALN:AF:=[(.obj 0,.own 55 U6),(.tmp 0,.own' 0),(.tmp 1,.di),(.tmp 4,.clo 204 []),(.tmp 12,.di),(.tmp 13,.di)]
abbrev ALI:Az:=[(.exit 8,[(.obj 0,.own 55 U6),(.tmp 0,.own' 0),(.tmp 1,.di),(.tmp 4,.clo 204 []),(.tmp 12,.di),(.tmp 13,.di)])]
def AK9[Lk]:U8→Option Vh:=Pr (([]:List (Int)):U4) BE
abbrev ALO:AF:=[(.obj 0,.own 55 U6),(.tmp 0,.own' 0),(.tmp 1,.di),(.tmp 4,.clo 204 []),(.tmp 12,.di),(.tmp 13,.di)]
abbrev ALJ:Az:=[(.exit 6,[(.obj 0,.own 55 U6),(.tmp 0,.own' 0),(.tmp 1,.di),(.tmp 4,.clo 204 []),(.tmp 12,.di),(.tmp 13,.di)])]
def ALB[Lk]:U8→Option Vh:=Ps (([]:List (Int)):U4) BE
abbrev ALP:AF:=[(.obj 0,.own 55 U6),(.tmp 0,.own' 0),(.tmp 1,.di),(.tmp 4,.clo 204 []),(.tmp 12,.di),(.tmp 13,.di)]
abbrev ALK:Az:=[(.exit 4,[(.obj 0,.own 55 U6),(.tmp 0,.own' 0),(.tmp 1,.di),(.tmp 13,.di)])]
def ALD[Lk]:U8→Option (U8⊕Ug⊕Unit):=Pt (([]:List (Int)):U4) BE
abbrev ALQ:AF:=[(.obj 0,.own 55 U6),(.tmp 0,.own' 0),(.tmp 1,.di),(.tmp 4,.clo 204 []),(.tmp 12,.di),(.tmp 13,.di)]
abbrev ALL:Az:=[(.exit 2,[(.obj 0,.own 55 U6),(.tmp 0,.own' 0),(.tmp 1,.di),(.tmp 4,.clo 204 []),(.tmp 12,.di),(.tmp 13,.di)])]
def ALF[Lk]:U8→Option Vh:=Pu (([]:List (Int)):U4) BE
abbrev ALR:AF:=[(.obj 0,.own 55 U6),(.tmp 0,.own' 0),(.tmp 1,.di),(.tmp 4,.clo 204 []),(.tmp 12,.di),(.tmp 13,.di)]
abbrev ALM:Az:=[(.exit 0,[(.obj 0,.own 55 U6),(.tmp 0,.own' 0),(.tmp 1,.di),(.tmp 4,.clo 204 []),(.tmp 12,.di),(.tmp 13,.di)])]
def ALH[Lk]:U8→Option Vh:=Pv (([]:List (Int)):U4) BE
def ATm[Lk]:U8→Option ((List U4×Int×Bool×Unit)):=W3 (([]:List (Int)):U4) BE
def AZ9[Lk](v:U8):Option ((List U4×Int×Bool×Unit)):=AD9 (([]:List (Int)):U4) BE v
theorem AZ8 v:AZ9 v=ATm v:=AJ _
abbrev ZC:AF:=[(.tmp 0,.own 55 U6),(.tmp 1,.di),(.tmp 2,.di),(.tmp 3,.di),(.tmp 4,.clo 204 [])]
abbrev ZB:AF:=[(.obj 0,.own 55 U6)]
abbrev ZA:List RS:=[]
abbrev ATh:AF:=[(.obj 0,.own 55 U6),(.tmp 0,.own' 0),(.tmp 1,.di),(.tmp 2,.di),(.tmp 3,.di),(.tmp 4,.clo 204 []),(.tmp 10,.dat .bool),(.tmp 11,.dat .bool)]
abbrev ATg:Az:=[(.ret,[(.obj 0,.own 55 U6)])]
def ATf[Lk](self:U8→Option (Uo)):(List U4×Int×Int×Int×Bool×Bool×Unit)→Option ((List U4×Int×Int×Int×Bool×Bool×Unit)⊕Uo⊕Unit):=Po (([]:List (Int)):U4) BE self
def Aef[Lk](self:U8→Option (Uo)):U8→Option (Uo):=AGo (([]:List (Int)):U4) BE self
def ZD[Lk]:Nat→U8→Option (Uo):=Lc (([]:List (Int)):U4) BE
def Acz[Lk](v:U8):Option (Uo):=Ac3 (([]:List (Int)):U4) BE v
theorem Acy v:Acz v=ZD 100 v:=AJ _
abbrev AFp:AF:=[(.tmp 0,.own 55 U6),(.tmp 1,.clo 204 [])]
abbrev AFo:AF:=[(.obj 0,.own 55 U6)]
abbrev AFn:List RS:=[]
def ATR[Lk]:Uo→Option (Uo):=Ws (([]:List (Int)):U4) BE
def AKD[Lk](v:Uo):Option (Uo):=AYw (([]:List (Int)):U4) BE v
theorem AYu v:AKD v=ATR v:=AJ _
abbrev AFO:AF:=[(.tmp 0,.dat Ur),(.tmp 1,.dat U6),(.tmp 2,.dat Ul)]
abbrev AFN:AF:=[(.tmp 0,.di),(.tmp 1,.own 55 U6)]
abbrev AFM:List RS:=[.agg 2]
abbrev AJn:AF:=[(.tmp 3,.box 2),(.cell 0 0,.di),(.cell 0 1,.dat Ul),(.tmp 6,.box 2),(.cell 1 0,.di),(.cell 1 1,.nil U6),(.tmp 7,.own 55 U6),(.tmp 29,.dat Ul),(.tmp 30,.di),(.tmp 31,.di)]
abbrev AJl:Az:=[(.exit 2,[(.tmp 3,.box 2),(.cell 0 0,.di),(.cell 0 1,.dat Ul),(.tmp 6,.box 2),(.cell 1 0,.di),(.cell 1 1,.nil U6),(.tmp 7,.own 55 U6)])]
def HR[Lk]:(Int×List U4×Int×List U4×List U4×Int×Int×Unit)→Option ((Int×List U4×Int×List U4×List U4×Int×Int×Unit)⊕(Int×List U4×Int×List U4×Unit)⊕Unit):=fun(a0,a1,a2,a3,a4,a5,a6,_)=>
 match(ilt a6 a5)with
 |true=>match idx a4 a6 with|none=>none|some x0=>match YR (x0,())with|none=>none|some (y1,_)=>match(fits ((AO a3)+(AO ([y1]:List U4))))with
  |true=>some (.inl (a0,a1,a2,(A6 a3 ([y1]:List U4)),a4,a5,(IntKind.wrap .i64 (a6+1)),()))
  |false=>none
 |false=>some (.inr (.inl (a0,a1,a2,a3,())))
abbrev AJo:AF:=[(.tmp 1,.dat U6),(.tmp 2,.dat Ul),(.tmp 3,.box 2),(.cell 0 0,.di),(.cell 0 1,.dat Ul),(.tmp 6,.box 2),(.cell 1 0,.di),(.cell 1 1,.nil U6),(.tmp 7,.own 55 U6),(.tmp 13,.dat Ul),(.tmp 14,.di),(.tmp 15,.di)]
abbrev AJm:Az:=[(.exit 0,[(.tmp 2,.dat Ul),(.tmp 3,.box 2),(.cell 0 0,.di),(.cell 0 1,.dat Ul),(.tmp 6,.box 2),(.cell 1 0,.di),(.cell 1 1,.nil U6),(.tmp 7,.own 55 U6)])]
def HS[Lk]:Vj→Option (Vj⊕(List U4×Int×List U4×Int×List U4×Unit)⊕Unit):=fun(a0,a1,a2,a3,a4,a5,a6,a7,a8,_)=>
 match(ilt a8 a7)with
 |true=>match idx a6 a8 with|none=>none|some x0=>match Ed (a0,a8,())with|none=>none|some (y1,_)=>match(!y1)with
  |true=>match(fits ((AO a5)+(AO ([x0]:List U4))))with
   |true=>some (.inl (a0,a1,a2,a3,a4,(A6 a5 ([x0]:List U4)),a6,a7,(IntKind.wrap .i64 (a8+1)),()))
   |false=>none
  |false=>some (.inl (a0,a1,a2,a3,a4,a5,a6,a7,(IntKind.wrap .i64 (a8+1)),()))
 |false=>some (.inr (.inl (a1,a2,a3,a4,a5,())))
def Wl[Lk]:(Uk×List Int×List U4×Unit)→Option ((Int×List U4×Unit)):=fun(a0,a1,a2,_)=>
 match AR HS many (a1,a2,a0.1,a0.2.1,0,([]:List U4),a0.2.1,(AO a0.2.1),0,())with|none=>none|some r=>match r with
 |.inl (o0,o1,o2,o3,o4,_)=>match AR HR many (o1,o2,o3,o4,o0,(AO o0),0,())with|none=>none|some r=>match r with
  |.inl (o5,o6,o7,o8,_)=>match AKD (o8,())with|none=>none|some (y9,_)=>some (o5,y9,())
  |.inr _=>none
 |.inr _=>none
def AJq[Lk]:=fun v=>Lk.f (Wl v)
theorem AJp v:AJq v=Wl v:=AJ _
abbrev AFj:AF:=[(.tmp 0,.dat Ur),(.tmp 1,.di),(.tmp 2,.di)]
abbrev AFi:AF:=[(.tmp 0,.di),(.tmp 1,.dat Ul),(.tmp 2,.di)]
abbrev AFh:List RS:=[.agg 2,.one]
def Gx[Lk]:(Uk×Int×Int×Unit)→Option (V1):=fun(a0,a1,a2,_)=>
 match asked ((a0.1,(a0.2.1,())),a1,a2,())with|none=>none|some (y0,_)=>match(!(ieq y0 0))with
 |true=>some (a0.1,a0.2.1,y0,())
 |false=>match OA ((a0.1,(a0.2.1,())),a1,())with|none=>none|some (y1,_)=>match OA ((a0.1,(a0.2.1,())),a2,())with|none=>none|some (y2,_)=>match(ieq y1 y2)with
 |true=>some (a0.1,a0.2.1,5,())
 |false=>match idx a0.2.1 y1 with|none=>none|some x3=>match ADw (x3,a1,())with|none=>none|some (y4,y5,_)=>match idx a0.2.1 y2 with|none=>none|some x6=>match ADw (x6,a2,())with|none=>none|some (y7,y8,_)=>match Bz y4 0 1 with|none=>none|some x9=>match AU6 (a0.1,a1,a2,())with|none=>none|some (y10,_)=>match AU6 (a0.1,a2,a1,())with|none=>none|some (y11,_)=>match Bz y4 1 (AO y4)with|none=>none|some x12=>match Is (([(DT 0 (AE (AO x9)) y4),([y10]:List (Int)),y7,([y11]:List (Int)),(DT 1 (AE (AO x12)) y4)]:List U4),())with|none=>none|some (y13,_)=>match AJq ((a0.1,(a0.2.1,())),([y1,y2]:List (Int)),([y13]:List U4),())with|none=>none|some (y14,y15,_)=>some (y14,y15,0,())
def LN[Lk]:=fun v=>Lk.f (Gx v)
theorem HZ v:LN v=Gx v:=AJ _
abbrev Fg:AF:=[(.tmp 0,.dat U6),(.cap 1 0,.box 2),(.cell 0 0,.di),(.cell 0 1,.dat Ul),(.tmp 1,.clo 155 [(0,0)])]
abbrev Ff:AF:=[(.obj 0,.box 2),(.cell 0 0,.di),(.cell 0 1,.dat Ul),(.tmp 0,.di)]
abbrev Fe:List RS:=[.one]
abbrev Ij:AF:=[(.obj 0,.box 2),(.cell 0 0,.di),(.cell 0 1,.dat Ul),(.tmp 0,.dat U6),(.tmp 1,.clo 155 [(0,0)]),(.tmp 7,.di),(.tmp 8,.di)]
abbrev Ii:Az:=[(.ret,[(.obj 0,.box 2),(.cell 0 0,.di),(.cell 0 1,.dat Ul),(.tmp 4,.di)]),(.exit 0,[(.obj 0,.box 2),(.cell 0 0,.di),(.cell 0 1,.dat Ul)])]
def Be[Lk]:(Int×List U4×List Int×Int×Int×Unit)→Option ((Int×List U4×List Int×Int×Int×Unit)⊕V1⊕(Int×List U4×Unit)⊕Unit):=fun(a0,a1,a2,a3,a4,_)=>
 match(ilt a4 a3)with
 |true=>match idx a2 a4 with|none=>none|some x0=>match(ilt x0 0)with
  |true=>some (.inr (.inl (a0,a1,a4,())))
  |false=>match(ile a0 x0)with
  |true=>some (.inr (.inl (a0,a1,a4,())))
  |false=>some (.inl (a0,a1,a2,a3,(IntKind.wrap .i64 (a4+1)),()))
 |false=>some (.inr (.inr (.inl (a0,a1,()))))
def Dh[Lk]:V7→Option (V1):=fun(a0,a1,a2,_)=>
 match AR Be many (a1,a2,a0,(AO a0),0,())with|none=>none|some r=>match r with
 |.inl (o0,o1,o2,_)=>some (o0,o1,o2,())
 |.inr r=>match r with
 |.inl (o3,o4,_)=>some (o3,o4,(-1:Int),())
 |.inr _=>none
def Ew[Lk]:=fun v=>Lk.f (Dh v)
theorem Ik v:Ew v=Dh v:=AJ _
abbrev E6:AF:=[(.tmp 0,.dat U6),(.cap 1 0,.box 2),(.cell 0 0,.di),(.cell 0 1,.dat Ul),(.tmp 1,.clo 155 [(0,0)])]
abbrev E5:AF:=[(.obj 0,.box 2),(.cell 0 0,.di),(.cell 0 1,.dat Ul),(.tmp 0,.dat .bool)]
abbrev E4:List RS:=[.one]
def DC[Lk]:V7→Option ((Int×List U4×Bool×Unit)):=fun(a0,a1,a2,_)=>
 match Ew (a0,a1,a2,())with|none=>none|some (y0,y1,y2,_)=>some (y0,y1,(ile 0 y2),())
def C1[Lk]:=fun v=>Lk.f (DC v)
theorem IF v:C1 v=DC v:=AJ _
abbrev AAh:AF:=[(.tmp 0,.dat Ur),(.tmp 1,.dat U6)]
abbrev AAg:AF:=[(.tmp 0,.di)]
abbrev AAf:List RS:=[.one]
def QV[Lk]:(Uk×List Int×Unit)→Option (U9):=fun(a0,a1,_)=>
 match N9 ((a0.1,(a0.2.1,())),())with|none=>none|some (y0,_)=>match(!y0)with
 |true=>some (1,())
 |false=>match C1 (a1,a0.1,a0.2.1,())with|none=>none|some (y1,y2,y3,_)=>match y3 with
 |true=>some (10,())
 |false=>some (0,())
def KQ[Lk]:=fun v=>Lk.f (QV v)
theorem AEf v:KQ v=QV v:=AJ _
abbrev ASI:AF:=[(.tmp 0,.dat Ut)]
abbrev ASH:AF:=[(.tmp 0,.own 3 U0)]
abbrev ASG:List RS:=[.one]
abbrev AUP:AF:=[(.tmp 3,.own 3 U0),(.tmp 6,.dat Ut),(.tmp 7,.di),(.tmp 8,.di)]
abbrev AUO:Az:=[(.exit 0,[(.tmp 3,.own 3 U0)])]
def KU[Lk]:(List Int×List U3×Int×Int×Unit)→Option ((List Int×List U3×Int×Int×Unit)⊕Uc⊕Unit):=fun(a0,a1,a2,a3,_)=>
 match(ilt a3 a2)with
 |true=>match idx a1 a3 with|none=>none|some x0=>match(fits ((AO a0)+(AO ([x0.1,x0.2.1]:List (Int)))))with
  |true=>some (.inl ((A6 a0 ([x0.1,x0.2.1]:List (Int))),a1,a2,(IntKind.wrap .i64 (a3+1)),()))
  |false=>none
 |false=>some (.inr (.inl (a0,())))
def AIZ[Lk]:V2→Option (Uc):=fun(a0,_)=>
 match AR KU many (([]:List (Int)),a0,(AO a0),0,())with|none=>none|some r=>match r with
 |.inl (o0,_)=>some (o0,())
 |.inr _=>none
def ends[Lk]:=fun v=>Lk.f (AIZ v)
theorem AUQ v:ends v=AIZ v:=AJ _
abbrev Ow:AF:=[(.tmp 0,.dat Ur),(.tmp 1,.dat Ut),(.tmp 2,.clo 161 [])]
abbrev Ov:AF:=[(.tmp 0,.dat Ur),(.tmp 1,.own 4 .bool),(.tmp 2,.di)]
abbrev Ou:List RS:=[.one,.one,.one]
abbrev VP:AF:=[(.tmp 2,.clo 161 []),(.tmp 3,.box 2),(.cell 0 0,.di),(.cell 0 1,.dat Ul),(.tmp 6,.box 2),(.cell 1 0,.di),(.cell 1 1,.nil U6),(.tmp 10,.own 4 .bool),(.tmp 23,.dat Ut),(.tmp 24,.di),(.tmp 25,.di)]
abbrev VO:Az:=[(.exit 0,[(.tmp 3,.box 2),(.cell 0 0,.di),(.cell 0 1,.dat Ul),(.tmp 6,.box 2),(.cell 1 0,.di),(.cell 1 1,.nil U6),(.tmp 10,.own 4 .bool)])]
def Bv[Lk]:(Int×List U4×Int×List Bool×List U3×Int×Int×Unit)→Option ((Int×List U4×Int×List Bool×List U3×Int×Int×Unit)⊕(Int×List U4×Int×List Bool×Unit)⊕Unit):=fun(a0,a1,a2,a3,a4,a5,a6,_)=>
 match(ilt a6 a5)with
 |true=>match idx a4 a6 with|none=>none|some x0=>match LN ((a0,(a1,())),x0.1,x0.2.1,())with|none=>none|some (y1,y2,y3,_)=>match(fits ((AO a3)+(AO ([(ieq y3 0)]:List (Bool)))))with
  |true=>some (.inl (y1,y2,a2,(A6 a3 ([(ieq y3 0)]:List (Bool))),a4,a5,(IntKind.wrap .i64 (a6+1)),()))
  |false=>none
 |false=>some (.inr (.inl (a0,a1,a2,a3,())))
def H8[Lk]:(Uk×List U3×Unit)→Option ((Uk×List Bool×Int×Unit)):=fun(a0,a1,_)=>
 match ends (a1,())with|none=>none|some (y0,_)=>match KQ ((a0.1,(a0.2.1,())),y0,())with|none=>none|some (y1,_)=>match(!(ieq y1 0))with
 |true=>some ((a0.1,(a0.2.1,())),([]:List (Bool)),y1,())
 |false=>match AR Bv many (a0.1,a0.2.1,0,([]:List (Bool)),a1,(AO a1),0,())with|none=>none|some r=>match r with
 |.inl (o2,o3,o4,o5,_)=>some ((o2,(o3,())),o5,0,())
 |.inr _=>none
def Qc[Lk]:=fun v=>Lk.f (H8 v)
theorem MG v:Qc v=H8 v:=AJ _
abbrev AAm:AF:=[(.tmp 0,.dat Ur),(.tmp 1,.dat Ut)]
abbrev AAl:AF:=[(.tmp 0,.dat Ur),(.tmp 1,.own 4 .bool),(.tmp 2,.di)]
abbrev AAk:List RS:=[.one,.one,.one]
def MA[Lk]:(Uk×List U3×Unit)→Option ((Uk×List Bool×Int×Unit)):=fun(a0,a1,_)=>
 match Qc ((a0.1,(a0.2.1,())),a1,())with|none=>none|some (y0,y1,y2,_)=>some ((y0.1,(y0.2.1,())),y1,y2,())
def AIT[Lk]:=fun v=>Lk.f (MA v)
theorem S8 v:AIT v=MA v:=AJ _
abbrev AbZ:AF:=[(.tmp 0,.di),(.tmp 1,.dat Ut)]
abbrev AbY:AF:=[(.tmp 0,.dat Ur),(.tmp 1,.di)]
abbrev AbX:List RS:=[.one,.one]
def ANX[Lk]:(Int×List U3×Unit)→Option (Vb):=fun(a0,a1,_)=>
 match AJ8 (a0,())with|none=>none|some (y0,y1,y2,_)=>match(!(ieq y2 0))with
 |true=>some ((0,(([]:List U4),())),y2,())
 |false=>match AIT ((y0,(y1,())),a1,())with|none=>none|some (y3,y4,y5,_)=>match(!(ieq y5 0))with
 |true=>some ((0,(([]:List U4),())),y5,())
 |false=>some ((y3.1,(y3.2.1,())),0,())
def fof[Lk]:=fun v=>Lk.f (ANX v)
theorem AR7 v:fof v=ANX v:=AJ _
abbrev AaS:AF:=[(.tmp 0,.dat U6)]
abbrev AaQ:AF:=[(.tmp 0,.di)]
abbrev AaO:List RS:=[.one]
abbrev AaR:AF:=[(.tmp 3,.di),(.tmp 6,.dat U6),(.tmp 7,.di),(.tmp 8,.di)]
abbrev AaP:Az:=[(.ret,[(.tmp 2,.di)]),(.exit 0,[(.tmp 3,.di)])]
def OQ[Lk]:(Int×List Int×Int×Int×Unit)→Option ((Int×List Int×Int×Int×Unit)⊕U9⊕U9⊕Unit):=fun(a0,a1,a2,a3,_)=>
 match(ilt a3 a2)with
 |true=>match idx a1 a3 with|none=>none|some x0=>match(!(ieq x0 a0))with
  |true=>some (.inr (.inl (x0,())))
  |false=>some (.inl (a0,a1,a2,(IntKind.wrap .i64 (a3+1)),()))
 |false=>some (.inr (.inr (.inl (a0,()))))
def ATn[Lk]:Uc→Option (U9):=fun(a0,_)=>
 match AR OQ many (0,a0,(AO a0),0,())with|none=>none|some r=>match r with
 |.inl (o0,_)=>some (o0,())
 |.inr r=>match r with
 |.inl (o1,_)=>some (o1,())
 |.inr _=>none
def orI[Lk]:=fun v=>Lk.f (ATn v)
theorem AaU v:orI v=ATn v:=AJ _
abbrev Z2:AF:=[(.tmp 0,.di)]
abbrev Z1:AF:=[(.tmp 0,.dat .bool)]
abbrev Z0:List RS:=[.one]
def Ly[Lk]:U9→Option (Uh):=fun(a0,_)=>
 match(ile 1 a0)with
 |true=>some ((ile a0 64),())
 |false=>some (false,())
def Sl[Lk]:=fun v=>Lk.f (Ly v)
theorem Sk v:Sl v=Ly v:=AJ _
abbrev ARE:AF:=[(.tmp 0,.di)]
abbrev ARD:AF:=[(.tmp 0,.di)]
abbrev ARC:List RS:=[.one]
def ARF[Lk]:U9→Option (U9):=fun(a0,_)=>
 match Sl (a0,())with|none=>none|some (y0,_)=>match(!y0)with
 |true=>some (0,())
 |false=>match bitsLen ((IntKind.wrap .u64 (IntKind.wrap .i64 (a0-1))),())with|none=>none|some (y1,_)=>some (y1,())
def ACu[Lk]:=fun v=>Lk.f (ARF v)
theorem AdH v:ACu v=ARF v:=AJ _
abbrev OY:AF:=[(.tmp 0,.dat U1),(.tmp 1,.dat U1)]
abbrev OX:AF:=[(.tmp 0,.di)]
abbrev OW:List RS:=[.one]
def Hq[Lk]:(U2×U2×Unit)→Option (U9):=fun(a0,a1,_)=>
 match E7 (a0.1,a1.1,())with|none=>none|some (y0,_)=>match E7 (a0.2.1,a1.2.1,())with|none=>none|some (y1,_)=>match orI (([y0,y1]:List (Int)),())with|none=>none|some (y2,_)=>some (y2,())
def DP[Lk]:=fun v=>Lk.f (Hq v)
theorem Lz v:DP v=Hq v:=AJ _
abbrev Zx:AF:=[(.tmp 0,.dat Ua),(.tmp 1,.di)]
abbrev Zw:AF:=[(.tmp 0,.own 42 U5)]
abbrev Zv:List RS:=[.one]
abbrev AEH:AF:=[(.tmp 1,.di),(.tmp 5,.own 42 U5),(.tmp 9,.dat Us),(.tmp 10,.di),(.tmp 11,.di)]
abbrev AEG:Az:=[(.exit 0,[(.tmp 5,.own 42 U5)])]
def Ca[Lk]:(Int×List U3×List U2×Int×Int×Unit)→Option ((Int×List U3×List U2×Int×Int×Unit)⊕V2⊕Unit):=fun(a0,a1,a2,a3,a4,_)=>
 match(ilt a4 a3)with
 |true=>match idx a2 a4 with|none=>none|some x0=>match x0.2.2.2.1 with
  |true=>match(ile a0 x0.2.2.1)with
   |true=>match(fits ((AO a1)+(AO ([(x0.1,(x0.2.1,()))]:List U3))))with
    |true=>some (.inl (a0,(A6 a1 ([(x0.1,(x0.2.1,()))]:List U3)),a2,a3,(IntKind.wrap .i64 (a4+1)),()))
    |false=>none
   |false=>some (.inl (a0,a1,a2,a3,(IntKind.wrap .i64 (a4+1)),()))
  |false=>some (.inl (a0,a1,a2,a3,(IntKind.wrap .i64 (a4+1)),()))
 |false=>some (.inr (.inl (a1,())))
def Lw[Lk]:(Uf×Int×Unit)→Option (V2):=fun(a0,a1,_)=>
 match AR Ca many (a1,([]:List U3),a0.2.1,(AO a0.2.1),0,())with|none=>none|some r=>match r with
 |.inl (o0,_)=>some (o0,())
 |.inr _=>none
def OU[Lk]:=fun v=>Lk.f (Lw v)
theorem Sj v:OU v=Lw v:=AJ _
abbrev Z5:AF:=[(.tmp 0,.dat Ua)]
abbrev Z4:AF:=[(.tmp 0,.dat .bool)]
abbrev Z3:List RS:=[.one]
abbrev AEJ:AF:=[(.tmp 1,.box 2),(.cell 0 0,.di),(.cell 0 1,.dat Us),(.tmp 3,.di),(.tmp 23,.dat Us),(.tmp 24,.di),(.tmp 25,.di)]
abbrev AEI:Az:=[(.ret,[(.tmp 2,.dat .bool)]),(.exit 0,[(.tmp 1,.box 2),(.cell 0 0,.di),(.cell 0 1,.dat Us)])]
def Dc[Lk]:(Int×List U2×Int×List U2×Int×Int×Unit)→Option ((Int×List U2×Int×List U2×Int×Int×Unit)⊕Uh⊕(Int×List U2×Unit)⊕Unit):=fun(a0,a1,a2,a3,a4,a5,_)=>
 match(ilt a5 a4)with
 |true=>match idx a3 a5 with|none=>none|some x0=>match(ilt x0.1 0)with
  |true=>some (.inr (.inl (false,())))
  |false=>match(ile x0.2.1 x0.1)with
  |true=>some (.inr (.inl (false,())))
  |false=>match(ile a0 x0.2.1)with
  |true=>some (.inr (.inl (false,())))
  |false=>match(ilt x0.2.2.1 0)with
  |true=>some (.inr (.inl (false,())))
  |false=>match(ilt a2 x0.2.2.1)with
  |true=>some (.inr (.inl (false,())))
  |false=>match(ilt 0 a5)with
  |true=>match idx a1 (IntKind.wrap .i64 (a5-1))with|none=>none|some x1=>match DP ((x1.1,(x1.2.1,(x1.2.2.1,(x1.2.2.2.1,())))),(x0.1,(x0.2.1,(x0.2.2.1,(x0.2.2.2.1,())))),())with|none=>none|some (y2,_)=>match(ile 0 y2)with
   |true=>some (.inr (.inl (false,())))
   |false=>some (.inl (a0,a1,a2,a3,a4,(IntKind.wrap .i64 (a5+1)),()))
  |false=>some (.inl (a0,a1,a2,a3,a4,(IntKind.wrap .i64 (a5+1)),()))
 |false=>some (.inr (.inr (.inl (a0,a1,()))))
def Hn[Lk]:(Uf×Unit)→Option (Uh):=fun(a0,_)=>
 match Sl (a0.1,())with|none=>none|some (y0,_)=>match(!y0)with
 |true=>some (false,())
 |false=>match(ilt 400 (AO a0.2.1))with
 |true=>some (false,())
 |false=>match ACu (a0.1,())with|none=>none|some (y1,_)=>match AR Dc many (a0.1,a0.2.1,y1,a0.2.1,(AO a0.2.1),0,())with|none=>none|some r=>match r with
 |.inl (o2,_)=>some (o2,())
 |.inr r=>match r with
 |.inl (o3,o4,_)=>match OU ((o3,(o4,())),0,())with|none=>none|some (y5,_)=>match fof (o3,y5,())with|none=>none|some (y6,y7,_)=>match(ieq y7 0)with
  |true=>some ((ieq (AO y6.2.1) (IntKind.wrap .i64 (o3-(AO y5)))),())
  |false=>some (false,())
 |.inr _=>none
def FU[Lk]:=fun v=>Lk.f (Hn v)
theorem JR v:FU v=Hn v:=AJ _
abbrev AAF:AF:=[(.tmp 0,.dat Ua)]
abbrev AAE:AF:=[(.tmp 0,.own 42 U5)]
abbrev AAD:List RS:=[.one]
abbrev AEN:AF:=[(.tmp 3,.own 42 U5),(.tmp 10,.dat Us),(.tmp 11,.di),(.tmp 12,.di)]
abbrev AEM:Az:=[(.exit 0,[(.tmp 3,.own 42 U5)])]
def FW[Lk]:(List U3×List U2×Int×Int×Unit)→Option ((List U3×List U2×Int×Int×Unit)⊕V2⊕Unit):=fun(a0,a1,a2,a3,_)=>
 match(ilt a3 a2)with
 |true=>match idx a1 a3 with|none=>none|some x0=>match(fits ((AO a0)+(AO ([(x0.1,(x0.2.1,()))]:List U3))))with
  |true=>some (.inl ((A6 a0 ([(x0.1,(x0.2.1,()))]:List U3)),a1,a2,(IntKind.wrap .i64 (a3+1)),()))
  |false=>none
 |false=>some (.inr (.inl (a0,())))
def P8[Lk]:(Uf×Unit)→Option (V2):=fun(a0,_)=>
 match FU ((a0.1,(a0.2.1,())),())with|none=>none|some (y0,_)=>match(!y0)with
 |true=>some (([]:List U3),())
 |false=>match AR FW many (([]:List U3),a0.2.1,(AO a0.2.1),0,())with|none=>none|some r=>match r with
 |.inl (o1,_)=>some (o1,())
 |.inr _=>none
def AAH[Lk]:=fun v=>Lk.f (P8 v)
theorem AEO v:AAH v=P8 v:=AJ _
abbrev MQ:AF:=[(.tmp 0,.di),(.tmp 1,.dat Ut)]
abbrev MP:AF:=[(.tmp 0,.own 3 U0)]
abbrev MO:List RS:=[.one]
abbrev Qo:AF:=[(.tmp 0,.di),(.tmp 1,.dat Ut),(.tmp 5,.own 3 U0),(.tmp 7,.dat .bool),(.tmp 8,.di)]
abbrev Ql:Az:=[(.exit 4,[(.tmp 0,.di),(.tmp 1,.dat Ut),(.tmp 5,.own 3 U0),(.tmp 7,.dat .bool)])]
def Cv[Lk]:(Int×List U3×List Int×Bool×Int×Unit)→Option ((Int×List U3×List Int×Bool×Int×Unit)⊕Vk⊕Unit):=fun(a0,a1,a2,a3,a4,_)=>
 match(ilt a4 (AO a1))with
 |true=>match idx a1 a4 with|none=>none|some x0=>match idx a1 a4 with|none=>none|some x1=>match(ilt x0.1 0)with
  |true=>some (.inl (a0,a1,a2,a3,(IntKind.wrap .i64 (a4+1)),()))
  |false=>match(ilt x1.2.1 0)with
  |true=>some (.inl (a0,a1,a2,a3,(IntKind.wrap .i64 (a4+1)),()))
  |false=>match(ile a0 x0.1)with
  |true=>some (.inl (a0,a1,a2,a3,(IntKind.wrap .i64 (a4+1)),()))
  |false=>match(ile a0 x1.2.1)with
  |true=>some (.inl (a0,a1,a2,a3,(IntKind.wrap .i64 (a4+1)),()))
  |false=>match idx a2 x0.1 with|none=>none|some x2=>match idx a2 x1.2.1 with|none=>none|some x3=>match(ieq (AM a2 (AE x0.1) 0) (AM a2 (AE x1.2.1) 0))with
  |true=>some (.inl (a0,a1,a2,a3,(IntKind.wrap .i64 (a4+1)),()))
  |false=>match idx a2 x0.1 with|none=>none|some x4=>match idx a2 x1.2.1 with|none=>none|some x5=>match idx a2 x0.1 with|none=>none|some x6=>match idx (Am a2 (AE x0.1) (Bt (AM a2 (AE x0.1) 0) (AM a2 (AE x1.2.1) 0))) x1.2.1 with|none=>none|some x7=>some (.inl (a0,a1,(Am (Am a2 (AE x0.1) (Bt (AM a2 (AE x0.1) 0) (AM a2 (AE x1.2.1) 0))) (AE x1.2.1) (Bt (AM a2 (AE x0.1) 0) (AM a2 (AE x1.2.1) 0))),true,(IntKind.wrap .i64 (a4+1)),()))
 |false=>some (.inr (.inl (a0,a1,a2,a3,())))
abbrev Qp:AF:=[(.tmp 0,.di),(.tmp 1,.dat Ut),(.tmp 5,.own 3 U0),(.tmp 7,.dat .bool)]
abbrev Qm:Az:=[(.exit 2,[(.tmp 5,.own 3 U0)])]
def Di[Lk]:Vk→Option (Vk⊕Uc⊕Unit):=fun(a0,a1,a2,a3,_)=>
 match a3 with
 |true=>match AR Cv many (a0,a1,a2,false,0,())with|none=>none|some r=>match r with
  |.inl (o0,o1,o2,o3,_)=>some (.inl (o0,o1,o2,o3,()))
  |.inr _=>none
 |false=>some (.inr (.inl (a2,())))
abbrev Qq:AF:=[(.tmp 0,.di),(.tmp 1,.dat Ut),(.tmp 5,.own 3 U0),(.tmp 6,.di)]
abbrev Qn:Az:=[(.exit 0,[(.tmp 0,.di),(.tmp 1,.dat Ut),(.tmp 5,.own 3 U0)])]
def Cw[Lk]:(Int×List U3×List Int×Int×Unit)→Option ((Int×List U3×List Int×Int×Unit)⊕(Int×List U3×List Int×Unit)⊕Unit):=fun(a0,a1,a2,a3,_)=>
 match(ilt a3 a0)with
 |true=>match(fits ((AO a2)+(AO ([a3]:List (Int)))))with
  |true=>some (.inl (a0,a1,(A6 a2 ([a3]:List (Int))),(IntKind.wrap .i64 (a3+1)),()))
  |false=>none
 |false=>some (.inr (.inl (a0,a1,a2,())))
def It[Lk]:(Int×List U3×Unit)→Option (Uc):=fun(a0,a1,_)=>
 match AR Cw many (a0,a1,([]:List (Int)),0,())with|none=>none|some r=>match r with
 |.inl (o0,o1,o2,_)=>match AR Di many (o0,o1,o2,true,())with|none=>none|some r=>match r with
  |.inl (o3,_)=>some (o3,())
  |.inr _=>none
 |.inr _=>none
def Fs[Lk]:=fun v=>Lk.f (It v)
theorem Qr v:Fs v=It v:=AJ _
abbrev AFZ:AF:=[(.tmp 0,.di)]
abbrev AFY:AF:=[(.tmp 0,.di)]
abbrev AFX:List RS:=[.one]
abbrev AJ3:AF:=[(.tmp 3,.di),(.tmp 4,.di)]
abbrev AJ2:Az:=[(.exit 0,[(.tmp 3,.di)])]
def Xt[Lk]:U3→Option (U3⊕U9⊕Unit):=fun(a0,a1,_)=>
 match(ilt 0 a1)with
 |true=>match quo? .i64 a1 2 with|none=>none|some x0=>some (.inl ((IntKind.wrap .i64 (a0+1)),x0,()))
 |false=>some (.inr (.inl (a0,())))
def AFb[Lk]:U9→Option (U9):=fun(a0,_)=>
 match(ilt a0 1)with
 |true=>some (0,())
 |false=>match(ilt 64 a0)with
 |true=>some (0,())
 |false=>match AR Xt many (0,(IntKind.wrap .i64 (a0-1)),())with|none=>none|some r=>match r with
 |.inl (o0,_)=>some (o0,())
 |.inr _=>none
def LM[Lk]:=fun v=>Lk.f (AFb v)
theorem AYa v:LM v=AFb v:=AJ _
abbrev Rs:AF:=[(.tmp 0,.dat Ua)]
abbrev Rr:AF:=[(.tmp 0,.dat .bool)]
abbrev Rq:List RS:=[.one]
abbrev YX:AF:=[(.tmp 1,.box 2),(.cell 0 0,.di),(.cell 0 1,.dat Us),(.tmp 3,.own 42 U5),(.tmp 6,.own 3 U0),(.tmp 7,.di),(.tmp 8,.di)]
abbrev YV:Az:=[(.exit 2,[(.tmp 1,.box 2),(.cell 0 0,.di),(.cell 0 1,.dat Us),(.tmp 3,.own 42 U5),(.tmp 7,.di)])]
def DL[Lk]:(Int×List U2×List U3×List Int×Int×Int×Unit)→Option ((Int×List U2×List U3×List Int×Int×Int×Unit)⊕V3⊕Unit):=fun(a0,a1,a2,a3,a4,a5,_)=>
 match(ilt a5 a0)with
 |true=>match idx a3 a5 with|none=>none|some x0=>match(ieq (AM a3 (AE a5) 0) a5)with
  |true=>some (.inl (a0,a1,a2,a3,(IntKind.wrap .i64 (a4+1)),(IntKind.wrap .i64 (a5+1)),()))
  |false=>some (.inl (a0,a1,a2,a3,a4,(IntKind.wrap .i64 (a5+1)),()))
 |false=>some (.inr (.inl (a0,a1,a2,a4,())))
abbrev YY:AF:=[(.tmp 1,.box 2),(.cell 0 0,.di),(.cell 0 1,.dat Us),(.tmp 3,.own 42 U5),(.tmp 4,.di)]
abbrev YW:Az:=[(.ret,[(.tmp 2,.dat .bool)]),(.exit 0,[(.tmp 1,.box 2),(.cell 0 0,.di),(.cell 0 1,.dat Us),(.tmp 3,.own 42 U5)])]
def Co[Lk]:V3→Option (V3⊕Uh⊕(Int×List U2×List U3×Unit)⊕Unit):=fun(a0,a1,a2,a3,_)=>
 match(ilt a3 (AO a1))with
 |true=>match idx a1 a3 with|none=>none|some x0=>match(ilt x0.1 0)with
  |true=>some (.inr (.inl (false,())))
  |false=>match(ile x0.2.1 x0.1)with
  |true=>some (.inr (.inl (false,())))
  |false=>match(ile a0 x0.2.1)with
  |true=>some (.inr (.inl (false,())))
  |false=>match(ilt x0.2.2.1 0)with
  |true=>some (.inr (.inl (false,())))
  |false=>match LM (a0,())with|none=>none|some (y1,_)=>match(ilt y1 x0.2.2.1)with
  |true=>some (.inr (.inl (false,())))
  |false=>match(ilt 0 a3)with
  |true=>match idx a1 (IntKind.wrap .i64 (a3-1))with|none=>none|some x2=>match(ilt x0.1 x2.1)with
   |true=>some (.inr (.inl (false,())))
   |false=>match idx a1 (IntKind.wrap .i64 (a3-1))with|none=>none|some x3=>match(ieq x3.1 x0.1)with
   |true=>match idx a1 (IntKind.wrap .i64 (a3-1))with|none=>none|some x4=>match(ile x0.2.1 x4.2.1)with
    |true=>some (.inr (.inl (false,())))
    |false=>match x0.2.2.2.1 with
    |true=>match(fits ((AO a2)+(AO ([(x0.1,(x0.2.1,()))]:List U3))))with
     |true=>some (.inl (a0,a1,(A6 a2 ([(x0.1,(x0.2.1,()))]:List U3)),(IntKind.wrap .i64 (a3+1)),()))
     |false=>none
    |false=>some (.inl (a0,a1,a2,(IntKind.wrap .i64 (a3+1)),()))
   |false=>match x0.2.2.2.1 with
   |true=>match(fits ((AO a2)+(AO ([(x0.1,(x0.2.1,()))]:List U3))))with
    |true=>some (.inl (a0,a1,(A6 a2 ([(x0.1,(x0.2.1,()))]:List U3)),(IntKind.wrap .i64 (a3+1)),()))
    |false=>none
   |false=>some (.inl (a0,a1,a2,(IntKind.wrap .i64 (a3+1)),()))
  |false=>match x0.2.2.2.1 with
  |true=>match(fits ((AO a2)+(AO ([(x0.1,(x0.2.1,()))]:List U3))))with
   |true=>some (.inl (a0,a1,(A6 a2 ([(x0.1,(x0.2.1,()))]:List U3)),(IntKind.wrap .i64 (a3+1)),()))
   |false=>none
  |false=>some (.inl (a0,a1,a2,(IntKind.wrap .i64 (a3+1)),()))
 |false=>some (.inr (.inr (.inl (a0,a1,a2,()))))
def EV[Lk]:(Uf×Unit)→Option (Uh):=fun(a0,_)=>
 match(ilt a0.1 1)with
 |true=>some (false,())
 |false=>match(ilt 64 a0.1)with
 |true=>some (false,())
 |false=>match(ilt 400 (AO a0.2.1))with
 |true=>some (false,())
 |false=>match AR Co many (a0.1,a0.2.1,([]:List U3),0,())with|none=>none|some r=>match r with
 |.inl (o0,_)=>some (o0,())
 |.inr r=>match r with
 |.inl (o1,o2,o3,_)=>match Fs (o1,o3,())with|none=>none|some (y4,_)=>match AR DL many (o1,o2,o3,y4,0,0,())with|none=>none|some r=>match r with
  |.inl (o5,o6,o7,o8,_)=>some ((ieq o8 (IntKind.wrap .i64 (o5-(AO o7)))),())
  |.inr _=>none
 |.inr _=>none
def Cp[Lk]:=fun v=>Lk.f (EV v)
theorem FK v:Cp v=EV v:=AJ _
abbrev TE:AF:=[(.tmp 0,.dat Ua)]
abbrev TD:AF:=[(.tmp 0,.own 42 U5)]
abbrev TC:List RS:=[.one]
abbrev AAx:AF:=[(.tmp 1,.box 2),(.cell 0 0,.di),(.cell 0 1,.dat Us),(.tmp 3,.own 42 U5),(.tmp 4,.di)]
abbrev AAw:Az:=[(.exit 0,[(.tmp 3,.own 42 U5)])]
def EH[Lk]:V3→Option (V3⊕V2⊕Unit):=fun(a0,a1,a2,a3,_)=>
 match(ilt a3 (AO a1))with
 |true=>match idx a1 a3 with|none=>none|some x0=>match idx a1 a3 with|none=>none|some x1=>match(fits ((AO a2)+(AO ([(x0.1,(x1.2.1,()))]:List U3))))with
  |true=>some (.inl (a0,a1,(A6 a2 ([(x0.1,(x1.2.1,()))]:List U3)),(IntKind.wrap .i64 (a3+1)),()))
  |false=>none
 |false=>some (.inr (.inl (a2,())))
def NM[Lk]:(Uf×Unit)→Option (V2):=fun(a0,_)=>
 match Cp ((a0.1,(a0.2.1,())),())with|none=>none|some (y0,_)=>match(!y0)with
 |true=>some (([]:List U3),())
 |false=>match AR EH many (a0.1,a0.2.1,([]:List U3),0,())with|none=>none|some r=>match r with
 |.inl (o1,_)=>some (o1,())
 |.inr _=>none
def Qb[Lk]:=fun v=>Lk.f (NM v)
theorem AAy v:Qb v=NM v:=AJ _
def ARo[Lk]:U3→Option (Uh):=fun(a0,a1,_)=>
 match(ile 1 a0)with
 |true=>match(ile a0 64)with
  |true=>match(ile 0 a1)with
   |true=>some ((ilt a1 a0),())
   |false=>some (false,())
  |false=>some (false,())
 |false=>some (false,())
def AMt[Lk]:=fun v=>Lk.f (ARo v)
theorem Ade v:AMt v=ARo v:=AJ _
def Rh[Lk]:U3→Option ((Int×Int×Bool×Bool×Unit)):=fun(a0,a1,_)=>
 match AMt (a0,a1,())with|none=>none|some (y0,_)=>match y0 with
 |true=>some (a1,0,false,true,())
 |false=>match(ilt a0 1)with
 |true=>some (0,0,false,false,())
 |false=>match(ilt 64 a0)with
 |true=>some (0,0,false,false,())
 |false=>match(ilt a1 a0)with
 |true=>some (0,0,false,false,())
 |false=>match(ile (IntKind.wrap .i64 (a0+(IntKind.wrap .i64 (a0*a0)))) a1)with
 |true=>some (0,0,false,false,())
 |false=>match quo? .i64 (IntKind.wrap .i64 (a1-a0)) a0 with|none=>none|some x1=>match rem? (IntKind.wrap .i64 (a1-a0)) a0 with|none=>none|some x2=>match(ieq x1 x2)with
 |true=>some (0,0,false,false,())
 |false=>some (x1,x2,true,true,())
def Wo[Lk]:=fun v=>Lk.f (Rh v)
theorem AOm v:Wo v=Rh v:=AJ _
def AJD[Lk]:(Int×Int×Int×Unit)→Option (U9):=fun(a0,a1,a2,_)=>
 match AMt (a0,a1,())with|none=>none|some (y0,_)=>match(!y0)with
 |true=>some ((-1:Int),())
 |false=>match AMt (a0,a2,())with|none=>none|some (y1,_)=>match(!y1)with
 |true=>some ((-1:Int),())
 |false=>match(ieq a1 a2)with
 |true=>some ((-1:Int),())
 |false=>some ((IntKind.wrap .i64 ((IntKind.wrap .i64 (a0+(IntKind.wrap .i64 (a1*a0))))+a2)),())
def AOI[Lk]:=fun v=>Lk.f (AJD v)
theorem Ab5 v:AOI v=AJD v:=AJ _
def JQ[Lk]:(Int×Int×Int×List U4×Int×Unit)→Option ((Int×Int×Int×List U4×Int×Unit)⊕(Int×Int×List U4×Unit)⊕Unit):=fun(a0,a1,a2,a3,a4,_)=>
 match(ilt a4 a0)with
 |true=>match(fits ((AO a3)+(AO ([([a4]:List (Int))]:List U4))))with
  |true=>some (.inl (a0,a1,a2,(A6 a3 ([([a4]:List (Int))]:List U4)),(IntKind.wrap .i64 (a4+1)),()))
  |false=>none
 |false=>some (.inr (.inl (a1,a2,a3,())))
def Zu[Lk]:U9→Option (V1):=fun(a0,_)=>
 match(ilt a0 1)with
 |true=>some (0,([]:List U4),1,())
 |false=>match(ilt 64 a0)with
 |true=>some (0,([]:List U4),1,())
 |false=>match AR JQ many (a0,0,a0,([]:List U4),0,())with|none=>none|some r=>match r with
 |.inl (o0,o1,o2,_)=>some (o1,o2,0,())
 |.inr _=>none
def AHU[Lk]:=fun v=>Lk.f (Zu v)
theorem AWW v:AHU v=Zu v:=AJ _
def OC[Lk]:(Int×Int×Int×Unit)→Option (Uh):=fun(a0,a1,a2,_)=>
 match Wo (a0,a1,())with|none=>none|some (y0,y1,y2,y3,_)=>match y3 with
 |true=>match(!y2)with
  |true=>match(ieq y0 a2)with
   |true=>some (true,())
   |false=>match y2 with
   |true=>some ((ieq y1 a2),())
   |false=>some (false,())
  |false=>match y2 with
  |true=>some ((ieq y1 a2),())
  |false=>some (false,())
 |false=>some (false,())
def Xx[Lk]:=fun v=>Lk.f (OC v)
theorem AKB v:Xx v=OC v:=AJ _
def JF[Lk]:Uz→Option (Uz⊕(Int×Int×List Int×Bool×Bool×Bool×Bool×Int×Int×Bool×Int×Int×Int×Int×Int×Bool×Int×List Int×Int×Int×Int×Int×Int×Int×Int×Int×Bool×Unit)⊕Unit):=fun(a0,a1,a2,a3,a4,a5,a6,a7,a8,a9,a10,a11,a12,a13,a14,a15,a16,a17,a18,a19,a20,a21,a22,a23,a24,a25,a26,a27,_)=>
 match(ilt a4 (AO a1))with
 |true=>match rem? (IntKind.wrap .i64 (a2+a4)) (AO a1)with|none=>none|some x0=>match idx a1 x0 with|none=>none|some x1=>match(fits ((AO a3)+(AO ([(AM a1 (AE x0) 0)]:List (Int)))))with
  |true=>some (.inl (a0,a1,a2,(A6 a3 ([(AM a1 (AE x0) 0)]:List (Int))),(IntKind.wrap .i64 (a4+1)),a5,a6,a7,a8,a9,a10,a11,a12,a13,a14,a15,a16,a17,a18,a19,a20,a21,a22,a23,a24,a25,a26,a27,()))
  |false=>none
 |false=>some (.inr (.inl (a0,a2,a3,a5,a6,a7,a8,a9,a10,a11,a12,a13,a14,a15,a16,a17,a18,a1,a19,a20,a21,a22,a23,a24,a25,a26,a27,())))
def DX[Lk]:(Int×List Int×Bool×Int×Unit)→Option ((Int×List Int×Bool×Int×Unit)⊕(Int×List Int×Bool×Unit)⊕Unit):=fun(a0,a1,a2,a3,_)=>
 match(ilt a3 (AO a1))with
 |true=>match(!a2)with
  |true=>match idx a1 a3 with|none=>none|some x0=>match rem? (IntKind.wrap .i64 (a3+1)) (AO a1)with|none=>none|some x1=>match idx a1 x1 with|none=>none|some x2=>match rem? (IntKind.wrap .i64 (a3+2)) (AO a1)with|none=>none|some x3=>match idx a1 x3 with|none=>none|some x4=>match Wo (a0,(AM a1 (AE a3) 0),())with|none=>none|some (y5,y6,y7,y8,_)=>match(ile 4 (AO a1))with
   |true=>match y8 with
    |true=>match y7 with
     |true=>match(ieq (AM a1 (AE x1) 0) y6)with
      |true=>match AOI (a0,y6,y5,())with|none=>none|some (y9,_)=>match(ieq (AM a1 (AE x3) 0) y9)with
       |true=>match rem? (IntKind.wrap .i64 ((IntKind.wrap .i64 (a3+(AO a1)))-1)) (AO a1)with|none=>none|some x10=>match idx a1 x10 with|none=>none|some x11=>match Xx (a0,(AM a1 (AE x10) 0),y5,())with|none=>none|some (y12,_)=>match y12 with
        |true=>match AR JF many (a0,a1,a3,([]:List (Int)),3,a2,(!a2),y8,y7,(AM a1 (AE x1) 0),y6,(ieq (AM a1 (AE x1) 0) y6),(AM a1 (AE x3) 0),a0,y6,y5,y9,(ieq (AM a1 (AE x3) 0) y9),a0,a3,(AO a1),(IntKind.wrap .i64 (a3+(AO a1))),(IntKind.wrap .i64 ((IntKind.wrap .i64 (a3+(AO a1)))-1)),(AO a1),x10,(AM a1 (AE x10) 0),y5,y12,())with|none=>none|some r=>match r with
         |.inl (o13,o14,o15,o16,o17,o18,o19,o20,o21,o22,o23,o24,o25,o26,o27,o28,o29,o30,o31,o32,o33,o34,o35,o36,o37,o38,o39,_)=>some (.inl (o13,o15,true,(IntKind.wrap .i64 (o14+1)),()))
         |.inr _=>none
        |false=>some (.inl (a0,a1,a2,(IntKind.wrap .i64 (a3+1)),()))
       |false=>some (.inl (a0,a1,a2,(IntKind.wrap .i64 (a3+1)),()))
      |false=>some (.inl (a0,a1,a2,(IntKind.wrap .i64 (a3+1)),()))
     |false=>some (.inl (a0,a1,a2,(IntKind.wrap .i64 (a3+1)),()))
    |false=>some (.inl (a0,a1,a2,(IntKind.wrap .i64 (a3+1)),()))
   |false=>some (.inl (a0,a1,a2,(IntKind.wrap .i64 (a3+1)),()))
  |false=>some (.inr (.inl (a0,a1,a2,())))
 |false=>some (.inr (.inl (a0,a1,a2,())))
def Mk[Lk]:Vg→Option (Vg⊕Uh⊕Vg⊕Unit):=fun(a0,a1,_)=>
 match(ilt 1 (AO a1))with
 |true=>match AR DX many (a0,a1,false,0,())with|none=>none|some r=>match r with
  |.inl (o0,o1,o2,_)=>match(!o2)with
   |true=>some (.inr (.inl (false,())))
   |false=>some (.inl (o0,o1,()))
  |.inr _=>none
 |false=>some (.inr (.inr (.inl (a0,a1,()))))
def Xp[Lk]:Vg→Option (Uh):=fun(a0,a1,_)=>
 match(fits ((AO ([]:List (Int)))+(AO a1)))with
 |true=>match AR Mk many (a0,(A6 ([]:List (Int)) a1),())with|none=>none|some r=>match r with
  |.inl (o0,_)=>some (o0,())
  |.inr r=>match r with
  |.inl (o1,o2,_)=>match(ieq (AO o2) 1)with
   |true=>match idx o2 0 with|none=>none|some x3=>match AMt (o1,(AM o2 0 0),())with|none=>none|some (y4,_)=>some (y4,())
   |false=>some (false,())
  |.inr _=>none
 |false=>none
def AOj[Lk]:=fun v=>Lk.f (Xp v)
theorem AUx v:AOj v=Xp v:=AJ _
def Hi[Lk]:Ue→Option (Ue⊕U9⊕(Unit)⊕Unit):=fun(a0,a1,a2,_)=>
 match(ilt a2 (AO a0))with
 |true=>match idx a0 a2 with|none=>none|some x0=>match(ieq x0 a1)with
  |true=>some (.inr (.inl (a2,())))
  |false=>some (.inl (a0,a1,(IntKind.wrap .i64 (a2+1)),()))
 |false=>some (.inr (.inr (.inl ())))
def R2[Lk]:Uq→Option (U9):=fun(a0,a1,_)=>
 match AR Hi many (a0,a1,0,())with|none=>none|some r=>match r with
 |.inl (o0,_)=>some (o0,())
 |.inr r=>match r with
 |.inl _=>some ((-1:Int),())
 |.inr _=>none
def Mt[Lk]:=fun v=>Lk.f (R2 v)
theorem AP1 v:Mt v=R2 v:=AJ _
def FL[Lk]:Uq→Option (Uq⊕Uh⊕(Unit)⊕Unit):=fun(a0,a1,_)=>
 match(ilt a1 (AO a0))with
 |true=>match idx a0 a1 with|none=>none|some x0=>match(ilt x0 0)with
  |true=>some (.inr (.inl (false,())))
  |false=>match idx a0 a1 with|none=>none|some x1=>match(ilt 10000 x1)with
  |true=>some (.inr (.inl (false,())))
  |false=>match Bz a0 0 a1 with|none=>none|some x2=>match idx a0 a1 with|none=>none|some x3=>match Mt (x2,x3,())with|none=>none|some (y4,_)=>match(ile 0 y4)with
  |true=>some (.inr (.inl (false,())))
  |false=>some (.inl (a0,(IntKind.wrap .i64 (a1+1)),()))
 |false=>some (.inr (.inr (.inl ())))
def Rv[Lk]:Uc→Option (Uh):=fun(a0,_)=>
 match(ilt 1000 (AO a0))with
 |true=>some (false,())
 |false=>match AR FL many (a0,0,())with|none=>none|some r=>match r with
 |.inl (o0,_)=>some (o0,())
 |.inr r=>match r with
 |.inl _=>some (true,())
 |.inr _=>none
def PY[Lk]:=fun v=>Lk.f (Rv v)
theorem APO v:PY v=Rv v:=AJ _
def AAi[Lk]:Uq→Option (Vf):=fun(a0,a1,_)=>
 match Mt (a0,a1,())with|none=>none|some (y0,_)=>match PY (a0,())with|none=>none|some (y1,_)=>match(!y1)with
 |true=>some (([]:List (Int)),false,())
 |false=>match(ilt y0 0)with
 |true=>some (([]:List (Int)),false,())
 |false=>match Bz a0 y0 (AO a0)with|none=>none|some x2=>match(fits ((AO ([]:List (Int)))+(AO x2)))with
 |true=>match Bz a0 0 y0 with|none=>none|some x3=>match(fits ((AO (A6 ([]:List (Int)) x2))+(AO x3)))with
  |true=>some ((A6 (A6 ([]:List (Int)) x2) x3),true,())
  |false=>none
 |false=>none
def AAj[Lk]:=fun v=>Lk.f (AAi v)
theorem AXa v:AAj v=AAi v:=AJ _
def Hg[Lk]:Ue→Option (Ue⊕Uq⊕Unit):=fun(a0,a1,a2,_)=>
 match(ilt a2 (AO a0))with
 |true=>match idx a0 a2 with|none=>none|some x0=>some (.inl (a0,(Bt a1 x0),(IntKind.wrap .i64 (a2+1)),()))
 |false=>some (.inr (.inl (a0,a1,())))
def R0[Lk]:Uc→Option (Uc):=fun(a0,_)=>
 match PY (a0,())with|none=>none|some (y0,_)=>match(!y0)with
 |true=>some (([]:List (Int)),())
 |false=>match(ieq (AO a0) 0)with
 |true=>some (([]:List (Int)),())
 |false=>match idx a0 0 with|none=>none|some x1=>match AR Hg many (a0,x1,0,())with|none=>none|some r=>match r with
 |.inl (o2,o3,_)=>match AAj (o2,o3,())with|none=>none|some (y4,y5,_)=>some (y4,())
 |.inr _=>none
def W0[Lk]:=fun v=>Lk.f (R0 v)
theorem APw v:W0 v=R0 v:=AJ _
def FV[Lk]:(List U4×List U4×Int×Unit)→Option ((List U4×List U4×Int×Unit)⊕Uh⊕(Unit)⊕Unit):=fun(a0,a1,a2,_)=>
 match(ilt a2 (AO a0))with
 |true=>match idx a0 a2 with|none=>none|some x0=>match idx a1 a2 with|none=>none|some x1=>match Sv (x0,x1,())with|none=>none|some (y2,_)=>match(!y2)with
  |true=>some (.inr (.inl (false,())))
  |false=>some (.inl (a0,a1,(IntKind.wrap .i64 (a2+1)),()))
 |false=>some (.inr (.inr (.inl ())))
def Sn[Lk]:(List U4×List U4×Unit)→Option (Uh):=fun(a0,a1,_)=>
 match(!(ieq (AO a0) (AO a1)))with
 |true=>some (false,())
 |false=>match AR FV many (a0,a1,0,())with|none=>none|some r=>match r with
 |.inl (o0,_)=>some (o0,())
 |.inr r=>match r with
 |.inl _=>some (true,())
 |.inr _=>none
def AHZ[Lk]:=fun v=>Lk.f (Sn v)
theorem ARJ v:AHZ v=Sn v:=AJ _
def EB[Lk]:Ux→Option (Ux⊕Uh⊕(Int×List U4×List Bool×Int×Int×Int×List Int×Int×Bool×Int×List Int×Bool×Bool×List Int×List Int×List U4×List Int×List U4×Bool×Bool×List Int×Int×Int×Bool×Unit)⊕Unit):=fun(a0,a1,a2,a3,a4,a5,a6,a7,a8,a9,a10,a11,a12,a13,a14,a15,a16,a17,a18,a19,a20,a21,a22,a23,a24,a25,_)=>
 match(ilt a7 (AO a6))with
 |true=>match idx a6 a7 with|none=>none|some x0=>match(ilt x0 a0)with
  |true=>match idx a6 a7 with|none=>none|some x1=>match idx a2 x1 with|none=>none|some x2=>match(AM a2 (AE x1) false)with
   |true=>some (.inr (.inl (false,())))
   |false=>match idx a6 a7 with|none=>none|some x3=>match idx a2 x3 with|none=>none|some x4=>some (.inl (a0,a1,(Am a2 (AE x3) true),a3,(IntKind.wrap .i64 (a4+1)),a5,a6,(IntKind.wrap .i64 (a7+1)),a8,a9,a10,a11,a12,a13,a14,a15,a16,a17,a18,a19,a20,a21,a22,a23,a24,a25,()))
  |false=>some (.inl (a0,a1,a2,a3,a4,a5,a6,(IntKind.wrap .i64 (a7+1)),a8,a9,a10,a11,a12,a13,a14,a15,a16,a17,a18,a19,a20,a21,a22,a23,a24,a25,()))
 |false=>some (.inr (.inr (.inl (a0,a1,a2,a3,a4,a5,a8,a9,a10,a11,a12,a13,a14,a15,a16,a17,a18,a19,a20,a21,a22,a23,a24,a25,()))))
def EC[Lk]:(Int×List U4×List Bool×Int×Int×Int×Unit)→Option ((Int×List U4×List Bool×Int×Int×Int×Unit)⊕Uh⊕V1⊕Unit):=fun(a0,a1,a2,a3,a4,a5,_)=>
 match(ilt a5 (AO a1))with
 |true=>match idx a1 a5 with|none=>none|some x0=>match PY (x0,())with|none=>none|some (y1,_)=>match(!y1)with
  |true=>some (.inr (.inl (false,())))
  |false=>match(ieq (AO x0) 0)with
  |true=>some (.inr (.inl (false,())))
  |false=>match AOj (a0,x0,())with|none=>none|some (y2,_)=>match(!y2)with
  |true=>some (.inr (.inl (false,())))
  |false=>match W0 (x0,())with|none=>none|some (y3,_)=>match AHZ (([y3]:List U4),([x0]:List U4),())with|none=>none|some (y4,_)=>match(!y4)with
  |true=>some (.inr (.inl (false,())))
  |false=>match idx x0 0 with|none=>none|some x5=>match(ile x5 a3)with
  |true=>some (.inr (.inl (false,())))
  |false=>match idx x0 0 with|none=>none|some x6=>match AR EB many (a0,a1,a2,x6,a4,a5,x0,0,x0,(AO x0),(ieq (AO x0) 0),a0,x0,y2,(!y2),x0,y3,([y3]:List U4),x0,([x0]:List U4),y4,(!y4),x0,x5,a3,(ile x5 a3),())with|none=>none|some r=>match r with
  |.inl (o7,_)=>some (.inr (.inl (o7,())))
  |.inr r=>match r with
  |.inl (o8,o9,o10,o11,o12,o13,o14,o15,o16,o17,o18,o19,o20,o21,o22,o23,o24,o25,o26,o27,o28,o29,o30,o31,_)=>some (.inl (o8,o9,o10,o11,o12,(IntKind.wrap .i64 (o13+1)),()))
  |.inr _=>none
 |false=>some (.inr (.inr (.inl (a0,a1,a4,()))))
def Ru[Lk]:(Uk×Unit)→Option (Uh):=fun(a0,_)=>
 match(ilt a0.1 1)with
 |true=>some (false,())
 |false=>match(ilt 64 a0.1)with
 |true=>some (false,())
 |false=>match(ilt a0.1 (AO a0.2.1))with
 |true=>some (false,())
 |false=>match(K7 a0.1&&K7 a0.1&&ile a0.1 a0.1&&true)with
 |true=>match AR EC many (a0.1,a0.2.1,(Jd (AE a0.1) false),(-1:Int),(0:Int),(0:Int),())with|none=>none|some r=>match r with
  |.inl (o0,_)=>some (o0,())
  |.inr r=>match r with
  |.inl (o1,o2,o3,_)=>some ((ieq o3 o1),())
  |.inr _=>none
 |false=>none
def Ww[Lk]:=fun v=>Lk.f (Ru v)
theorem APN v:Ww v=Ru v:=AJ _
def Hh[Lk]:(Int×Int×List U4×Int×Unit)→Option ((Int×Int×List U4×Int×Unit)⊕U9⊕(Unit)⊕Unit):=fun(a0,a1,a2,a3,_)=>
 match(ilt a3 (AO a2))with
 |true=>match idx a2 a3 with|none=>none|some x0=>match Mt (x0,a0,())with|none=>none|some (y1,_)=>match(ile 0 y1)with
  |true=>some (.inr (.inl (a3,())))
  |false=>some (.inl (a0,a1,a2,(IntKind.wrap .i64 (a3+1)),()))
 |false=>some (.inr (.inr (.inl ())))
def R1[Lk]:Vb→Option (U9):=fun(a0,a1,_)=>
 match AR Hh many (a1,a0.1,a0.2.1,0,())with|none=>none|some r=>match r with
 |.inl (o0,_)=>some (o0,())
 |.inr r=>match r with
 |.inl _=>some ((-1:Int),())
 |.inr _=>none
def Ms[Lk]:=fun v=>Lk.f (R1 v)
theorem AP0 v:Ms v=R1 v:=AJ _
def LW[Lk]:(List U4×List Int×Int×Unit)→Option ((List U4×List Int×Int×Unit)⊕(List U4×List Int×Int×Unit)⊕Unit):=fun(a0,a1,a2,_)=>
 match(ilt a2 (AO a0))with
 |true=>match idx a0 a2 with|none=>none|some x0=>match idx x0 0 with|none=>none|some x1=>match idx a1 0 with|none=>none|some x2=>match(ilt x1 (AM a1 0 0))with
  |true=>some (.inl (a0,a1,(IntKind.wrap .i64 (a2+1)),()))
  |false=>some (.inr (.inl (a0,a1,a2,())))
 |false=>some (.inr (.inl (a0,a1,a2,())))
def AGM[Lk]:(List U4×List Int×Unit)→Option (Uo):=fun(a0,a1,_)=>
 match W0 (a1,())with|none=>none|some (y0,_)=>match AR LW many (a0,y0,0,())with|none=>none|some r=>match r with
 |.inl (o1,o2,o3,_)=>match Bz o1 0 o3 with|none=>none|some x4=>match(fits ((AO ([]:List U4))+(AO x4)))with
  |true=>match(fits ((AO (A6 ([]:List U4) x4))+(AO ([o2]:List U4))))with
   |true=>match Bz o1 o3 (AO o1)with|none=>none|some x5=>match(fits ((AO (A6 (A6 ([]:List U4) x4) ([o2]:List U4)))+(AO x5)))with
    |true=>some ((A6 (A6 (A6 ([]:List U4) x4) ([o2]:List U4)) x5),())
    |false=>none
   |false=>none
  |false=>none
 |.inr _=>none
def ATb[Lk]:=fun v=>Lk.f (AGM v)
theorem AZP v:ATb v=AGM v:=AJ _
def LH[Lk]:Vc→Option (Uo):=fun(a0,a1,_)=>
 match Bz a0 0 a1 with|none=>none|some x0=>match(fits ((AO ([]:List U4))+(AO x0)))with
 |true=>match Bz a0 (IntKind.wrap .i64 (a1+1)) (AO a0)with|none=>none|some x1=>match(fits ((AO (A6 ([]:List U4) x0))+(AO x1)))with
  |true=>some ((A6 (A6 ([]:List U4) x0) x1),())
  |false=>none
 |false=>none
def HF[Lk]:=fun v=>Lk.f (LH v)
theorem AFH v:HF v=LH v:=AJ _
def JS[Lk]:(Uk×Int×Int×Unit)→Option (V1):=fun(a0,a1,a2,_)=>
 match Ww ((a0.1,(a0.2.1,())),())with|none=>none|some (y0,_)=>match(!y0)with
 |true=>some (a0.1,a0.2.1,1,())
 |false=>match AMt (a0.1,a1,())with|none=>none|some (y1,_)=>match(!y1)with
 |true=>some (a0.1,a0.2.1,10,())
 |false=>match AMt (a0.1,a2,())with|none=>none|some (y2,_)=>match(!y2)with
 |true=>some (a0.1,a0.2.1,10,())
 |false=>match Ms ((a0.1,(a0.2.1,())),a1,())with|none=>none|some (y3,_)=>match Ms ((a0.1,(a0.2.1,())),a2,())with|none=>none|some (y4,_)=>match(ieq y3 y4)with
 |true=>some (a0.1,a0.2.1,5,())
 |false=>match Ms ((a0.1,(a0.2.1,())),a1,())with|none=>none|some (y5,_)=>match Ms ((a0.1,(a0.2.1,())),a2,())with|none=>none|some (y6,_)=>match idx a0.2.1 y5 with|none=>none|some x7=>match AAj (x7,a1,())with|none=>none|some (y8,y9,_)=>match idx a0.2.1 y6 with|none=>none|some x10=>match AAj (x10,a2,())with|none=>none|some (y11,y12,_)=>match AOI (a0.1,a1,a2,())with|none=>none|some (y13,_)=>match(fits ((AO ([a1,y13]:List (Int)))+(AO y11)))with
 |true=>match AOI (a0.1,a2,a1,())with|none=>none|some (y14,_)=>match(fits ((AO (A6 ([a1,y13]:List (Int)) y11))+(AO ([y14]:List (Int)))))with
  |true=>match Bz y8 1 (AO y8)with|none=>none|some x15=>match(fits ((AO (A6 (A6 ([a1,y13]:List (Int)) y11) ([y14]:List (Int))))+(AO (DT 1 (AE (AO x15)) y8))))with
   |true=>match HF (a0.2.1,(imax y5 y6),())with|none=>none|some (y16,_)=>match HF (y16,(Bt y5 y6),())with|none=>none|some (y17,_)=>match ATb (y17,(A6 (A6 (A6 ([a1,y13]:List (Int)) y11) ([y14]:List (Int))) (DT 1 (AE (AO x15)) y8)),())with|none=>none|some (y18,_)=>some (a0.1,y18,0,())
   |false=>none
  |false=>none
 |false=>none
def Sp[Lk]:=fun v=>Lk.f (JS v)
theorem NF v:Sp v=JS v:=AJ _
abbrev YH:AF:=[(.tmp 0,.dat Ut),(.tmp 1,.dat Ut)]
abbrev YG:AF:=[(.tmp 0,.dat .bool)]
abbrev YF:List RS:=[.one]
abbrev ADs:AF:=[(.tmp 0,.dat Ut),(.tmp 1,.dat Ut),(.tmp 5,.di)]
abbrev ADr:Az:=[(.ret,[(.tmp 4,.dat .bool)]),(.exit 0,[])]
def Rp[Lk]:(List U3×List U3×Int×Unit)→Option ((List U3×List U3×Int×Unit)⊕Uh⊕(Unit)⊕Unit):=fun(a0,a1,a2,_)=>
 match(ilt a2 (AO a0))with
 |true=>match idx a0 a2 with|none=>none|some x0=>match idx a1 a2 with|none=>none|some x1=>match(!(ieq x0.1 x1.1&&(ieq x0.2.1 x1.2.1&&true)))with
  |true=>some (.inr (.inl (false,())))
  |false=>some (.inl (a0,a1,(IntKind.wrap .i64 (a2+1)),()))
 |false=>some (.inr (.inr (.inl ())))
def YJ[Lk]:(List U3×List U3×Unit)→Option (Uh):=fun(a0,a1,_)=>
 match(!(ieq (AO a0) (AO a1)))with
 |true=>some (false,())
 |false=>match AR Rp many (a0,a1,0,())with|none=>none|some r=>match r with
 |.inl (o0,_)=>some (o0,())
 |.inr r=>match r with
 |.inl _=>some (true,())
 |.inr _=>none
def AF9[Lk]:=fun v=>Lk.f (YJ v)
theorem AVN v:AF9 v=YJ v:=AJ _
abbrev AYe:AF:=[(.tmp 0,.dat Ur),(.tmp 1,.di)]
abbrev AYd:AF:=[(.tmp 0,.di)]
abbrev AYc:List RS:=[.one]
def ATK[Lk]:Vb→Option (U9):=fun(a0,a1,_)=>
 match tin (a0.1,a1,())with|none=>none|some (y0,_)=>match(!y0)with
 |true=>some ((-1:Int),())
 |false=>match N9 ((a0.1,(a0.2.1,())),())with|none=>none|some (y1,_)=>match(!y1)with
 |true=>some ((-1:Int),())
 |false=>match OA ((a0.1,(a0.2.1,())),a1,())with|none=>none|some (y2,_)=>some (y2,())
def tof[Lk]:=fun v=>Lk.f (ATK v)
theorem AYf v:tof v=ATK v:=AJ _
def Ha[Lk]:(List U3×Int×List U4×Int×Unit)→Option ((List U3×Int×List U4×Int×Unit)⊕U9⊕(Unit)⊕Unit):=fun(a0,a1,a2,a3,_)=>
 match(ilt a3 (AO a0))with
 |true=>match idx a0 a3 with|none=>none|some x0=>match(ilt x0.1 0)with
  |true=>some (.inr (.inl (10,())))
  |false=>match idx a0 a3 with|none=>none|some x1=>match(ile a1 x1.1)with
  |true=>some (.inr (.inl (10,())))
  |false=>match idx a0 a3 with|none=>none|some x2=>match(ilt x2.2.1 0)with
  |true=>some (.inr (.inl (10,())))
  |false=>match idx a0 a3 with|none=>none|some x3=>match(ile a1 x3.2.1)with
  |true=>some (.inr (.inl (10,())))
  |false=>some (.inl (a0,a1,a2,(IntKind.wrap .i64 (a3+1)),()))
 |false=>some (.inr (.inr (.inl ())))
def Ri[Lk]:(Uk×List U3×Unit)→Option (U9):=fun(a0,a1,_)=>
 match Ww ((a0.1,(a0.2.1,())),())with|none=>none|some (y0,_)=>match(!y0)with
 |true=>some (1,())
 |false=>match AR Ha many (a1,a0.1,a0.2.1,0,())with|none=>none|some r=>match r with
 |.inl (o1,_)=>some (o1,())
 |.inr r=>match r with
 |.inl _=>some (0,())
 |.inr _=>none
def AFk[Lk]:=fun v=>Lk.f (Ri v)
theorem AOq v:AFk v=Ri v:=AJ _
def Hp[Lk]:(List U3×Int×List U4×Int×List Bool×Int×Unit)→Option ((List U3×Int×List U4×Int×List Bool×Int×Unit)⊕(Int×List U4×Int×List Bool×Unit)⊕Unit):=fun(a0,a1,a2,a3,a4,a5,_)=>
 match(ilt a5 (AO a0))with
 |true=>match idx a0 a5 with|none=>none|some x0=>match idx a0 a5 with|none=>none|some x1=>match Sp ((a1,(a2,())),x0.1,x1.2.1,())with|none=>none|some (y2,y3,y4,_)=>match(fits ((AO a4)+(AO ([(ieq y4 0)]:List (Bool)))))with
  |true=>some (.inl (a0,y2,y3,a3,(A6 a4 ([(ieq y4 0)]:List (Bool))),(IntKind.wrap .i64 (a5+1)),()))
  |false=>none
 |false=>some (.inr (.inl (a1,a2,a3,a4,())))
def So[Lk]:(Uk×List U3×Unit)→Option ((Uk×List Bool×Int×Unit)):=fun(a0,a1,_)=>
 match AFk ((a0.1,(a0.2.1,())),a1,())with|none=>none|some (y0,_)=>match(!(ieq y0 0))with
 |true=>some ((a0.1,(a0.2.1,())),([]:List (Bool)),y0,())
 |false=>match AR Hp many (a1,a0.1,a0.2.1,0,([]:List (Bool)),0,())with|none=>none|some r=>match r with
 |.inl (o1,o2,o3,o4,_)=>some ((o1,(o2,())),o4,0,())
 |.inr _=>none
def AHa[Lk]:=fun v=>Lk.f (So v)
theorem ARL v:AHa v=So v:=AJ _
def AQp[Lk]:(Int×List U3×Unit)→Option (Vb):=fun(a0,a1,_)=>
 match AHU (a0,())with|none=>none|some (y0,y1,y2,_)=>match(!(ieq y2 0))with
 |true=>some ((0,(([]:List U4),())),y2,())
 |false=>match AHa ((y0,(y1,())),a1,())with|none=>none|some (y3,y4,y5,_)=>match(!(ieq y5 0))with
 |true=>some ((0,(([]:List U4),())),y5,())
 |false=>some ((y3.1,(y3.2.1,())),0,())
def Aev[Lk]:=fun v=>Lk.f (AQp v)
theorem AdD v:Aev v=AQp v:=AJ _
abbrev AAp:AF:=[(.tmp 0,.dat Ua),(.tmp 1,.di),(.tmp 2,.di)]
abbrev AAo:AF:=[(.tmp 0,.di)]
abbrev AAn:List RS:=[.one]
abbrev AEi:AF:=[(.tmp 1,.di),(.tmp 2,.di),(.tmp 3,.box 2),(.cell 0 0,.di),(.cell 0 1,.dat Us),(.tmp 7,.di)]
abbrev AEh:Az:=[(.ret,[(.tmp 6,.di)]),(.exit 0,[])]
def Fk[Lk]:(Int×Int×Int×List U2×Int×Unit)→Option ((Int×Int×Int×List U2×Int×Unit)⊕U9⊕(Unit)⊕Unit):=fun(a0,a1,a2,a3,a4,_)=>
 match(ilt a4 (AO a3))with
 |true=>match idx a3 a4 with|none=>none|some x0=>match(ieq x0.1 (Bt a0 a1))with
  |true=>match idx a3 a4 with|none=>none|some x1=>match(ieq x1.2.1 (imax a0 a1))with
   |true=>some (.inr (.inl (a4,())))
   |false=>some (.inl (a0,a1,a2,a3,(IntKind.wrap .i64 (a4+1)),()))
  |false=>some (.inl (a0,a1,a2,a3,(IntKind.wrap .i64 (a4+1)),()))
 |false=>some (.inr (.inr (.inl ())))
def QW[Lk]:V5→Option (U9):=fun(a0,a1,a2,_)=>
 match Cp ((a0.1,(a0.2.1,())),())with|none=>none|some (y0,_)=>match(!y0)with
 |true=>some ((-1:Int),())
 |false=>match AR Fk many (a1,a2,a0.1,a0.2.1,0,())with|none=>none|some r=>match r with
 |.inl (o1,_)=>some (o1,())
 |.inr r=>match r with
 |.inl _=>some ((-1:Int),())
 |.inr _=>none
def AAr[Lk]:=fun v=>Lk.f (QW v)
theorem AEj v:AAr v=QW v:=AJ _
abbrev Rf:AF:=[(.tmp 0,.dat Ua),(.tmp 1,.di)]
abbrev Re:AF:=[(.tmp 0,.own 42 U5)]
abbrev Rd:List RS:=[.one]
abbrev Xn:AF:=[(.tmp 1,.di),(.tmp 2,.box 2),(.cell 0 0,.di),(.cell 0 1,.dat Us),(.tmp 5,.own 42 U5),(.tmp 6,.di)]
abbrev Xm:Az:=[(.exit 0,[(.tmp 5,.own 42 U5)])]
def D9[Lk]:(Int×Int×List U2×List U3×Int×Unit)→Option ((Int×Int×List U2×List U3×Int×Unit)⊕V2⊕Unit):=fun(a0,a1,a2,a3,a4,_)=>
 match(ilt a4 (AO a2))with
 |true=>match idx a2 a4 with|none=>none|some x0=>match x0.2.2.2.1 with
  |true=>match idx a2 a4 with|none=>none|some x1=>match(ile a0 x1.2.2.1)with
   |true=>match idx a2 a4 with|none=>none|some x2=>match idx a2 a4 with|none=>none|some x3=>match(fits ((AO a3)+(AO ([(x2.1,(x3.2.1,()))]:List U3))))with
    |true=>some (.inl (a0,a1,a2,(A6 a3 ([(x2.1,(x3.2.1,()))]:List U3)),(IntKind.wrap .i64 (a4+1)),()))
    |false=>none
   |false=>some (.inl (a0,a1,a2,a3,(IntKind.wrap .i64 (a4+1)),()))
  |false=>some (.inl (a0,a1,a2,a3,(IntKind.wrap .i64 (a4+1)),()))
 |false=>some (.inr (.inl (a3,())))
def Mi[Lk]:(Uf×Int×Unit)→Option (V2):=fun(a0,a1,_)=>
 match AR D9 many (a1,a0.1,a0.2.1,([]:List U3),0,())with|none=>none|some r=>match r with
 |.inl (o0,_)=>some (o0,())
 |.inr _=>none
def Mj[Lk]:=fun v=>Lk.f (Mi v)
theorem Xo v:Mj v=Mi v:=AJ _
def Om[Lk]:(Uf×Int×Unit)→Option (Vb):=fun(a0,a1,_)=>
 match Cp ((a0.1,(a0.2.1,())),())with|none=>none|some (y0,_)=>match(!y0)with
 |true=>some ((0,(([]:List U4),())),1,())
 |false=>match Mj ((a0.1,(a0.2.1,())),a1,())with|none=>none|some (y1,_)=>match Aev (a0.1,y1,())with|none=>none|some (y2,y3,_)=>some ((y2.1,(y2.2.1,())),y3,())
def ANW[Lk]:=fun v=>Lk.f (Om v)
theorem ANV v:ANW v=Om v:=AJ _
abbrev YD:AF:=[(.tmp 0,.dat Ua),(.tmp 1,.dat Ua)]
abbrev YC:AF:=[(.tmp 0,.dat .bool)]
abbrev YB:List RS:=[.one]
abbrev ADp:AF:=[(.tmp 2,.box 2),(.cell 0 0,.di),(.cell 0 1,.dat Us),(.tmp 3,.box 2),(.cell 1 0,.di),(.cell 1 1,.dat Us),(.tmp 5,.di)]
abbrev ADo:Az:=[(.ret,[(.tmp 4,.dat .bool)]),(.exit 0,[])]
def ET[Lk]:(Int×List U2×Int×List U2×Int×Unit)→Option ((Int×List U2×Int×List U2×Int×Unit)⊕Uh⊕(Unit)⊕Unit):=fun(a0,a1,a2,a3,a4,_)=>
 match(ilt a4 (AO a1))with
 |true=>match idx a1 a4 with|none=>none|some x0=>match idx a3 a4 with|none=>none|some x1=>match(!(ieq x0.1 x1.1&&(ieq x0.2.1 x1.2.1&&(ieq x0.2.2.1 x1.2.2.1&&((x0.2.2.2.1==x1.2.2.2.1)&&true)))))with
  |true=>some (.inr (.inl (false,())))
  |false=>some (.inl (a0,a1,a2,a3,(IntKind.wrap .i64 (a4+1)),()))
 |false=>some (.inr (.inr (.inl ())))
def PU[Lk]:(Uf×Uf×Unit)→Option (Uh):=fun(a0,a1,_)=>
 match(!(ieq a0.1 a1.1))with
 |true=>some (false,())
 |false=>match(!(ieq (AO a0.2.1) (AO a1.2.1)))with
 |true=>some (false,())
 |false=>match AR ET many (a0.1,a0.2.1,a1.1,a1.2.1,0,())with|none=>none|some r=>match r with
 |.inl (o0,_)=>some (o0,())
 |.inr r=>match r with
 |.inl _=>some (true,())
 |.inr _=>none
def Ro[Lk]:=fun v=>Lk.f (PU v)
theorem ADq v:Ro v=PU v:=AJ _
abbrev AIB:AF:=[(.tmp 0,.dat Ut),(.tmp 1,.dat U5)]
abbrev AIA:AF:=[(.tmp 0,.dat .bool)]
abbrev AH9:List RS:=[.one]
abbrev ANI:AF:=[(.tmp 0,.dat Ut),(.tmp 3,.box 2),(.cell 0 0,.di),(.cell 0 1,.di),(.tmp 5,.di)]
abbrev ANH:Az:=[(.ret,[(.tmp 4,.dat .bool)]),(.exit 0,[])]
def H3[Lk]:(List U3×Int×Int×Int×Unit)→Option ((List U3×Int×Int×Int×Unit)⊕Uh⊕(Unit)⊕Unit):=fun(a0,a1,a2,a3,_)=>
 match(ilt a3 (AO a0))with
 |true=>match idx a0 a3 with|none=>none|some x0=>match(ieq x0.1 a1&&(ieq x0.2.1 a2&&true))with
  |true=>some (.inr (.inl (true,())))
  |false=>some (.inl (a0,a1,a2,(IntKind.wrap .i64 (a3+1)),()))
 |false=>some (.inr (.inr (.inl ())))
def XG[Lk]:(List U3×U3×Unit)→Option (Uh):=fun(a0,a1,_)=>
 match AR H3 many (a0,a1.1,a1.2.1,0,())with|none=>none|some r=>match r with
 |.inl (o0,_)=>some (o0,())
 |.inr r=>match r with
 |.inl _=>some (false,())
 |.inr _=>none
def AAY[Lk]:=fun v=>Lk.f (XG v)
theorem ANJ v:AAY v=XG v:=AJ _
end
end Go.Pev
end
section
namespace Go.Pev
noncomputable section
attribute [local irreducible] MC JA Nh Kx AW1 AW2 AW3 Pb WE WA X3 JC AQ many IntKind.wrap AO Am AM A6 Bi DT Jd AE BV Bt imax AU Ah
abbrev Rz:AF:=[(.tmp 0,.di),(.tmp 1,.dat Ut)]
abbrev Ry:AF:=[(.tmp 0,.own 42 U5)]
abbrev Rx:List RS:=[.one]
abbrev Yq:AF:=[(.tmp 0,.di),(.tmp 1,.dat Ut),(.tmp 5,.own 42 U5),(.tmp 6,.di),(.tmp 7,.di)]
abbrev Yo:Az:=[(.exit 2,[(.tmp 0,.di),(.tmp 1,.dat Ut),(.tmp 5,.own 42 U5),(.tmp 6,.di)])]
def DM[Lk]:(Int×List U3×List U3×Int×Int×Unit)→Option ((Int×List U3×List U3×Int×Int×Unit)⊕Vm⊕Unit):=fun(a0,a1,a2,a3,a4,_)=>
 match(ilt a4 a0)with
 |true=>match AAY (a1,(a3,(a4,())),())with|none=>none|some (y0,_)=>match y0 with
  |true=>match(fits ((AO a2)+(AO ([(a3,(a4,()))]:List U3))))with
   |true=>some (.inl (a0,a1,(A6 a2 ([(a3,(a4,()))]:List U3)),a3,(IntKind.wrap .i64 (a4+1)),()))
   |false=>none
  |false=>match AAY (a1,(a4,(a3,())),())with|none=>none|some (y1,_)=>match y1 with
  |true=>match(fits ((AO a2)+(AO ([(a3,(a4,()))]:List U3))))with
   |true=>some (.inl (a0,a1,(A6 a2 ([(a3,(a4,()))]:List U3)),a3,(IntKind.wrap .i64 (a4+1)),()))
   |false=>none
  |false=>some (.inl (a0,a1,a2,a3,(IntKind.wrap .i64 (a4+1)),()))
 |false=>some (.inr (.inl (a0,a1,a2,a3,())))
abbrev Yr:AF:=[(.tmp 0,.di),(.tmp 1,.dat Ut),(.tmp 5,.own 42 U5),(.tmp 6,.di)]
abbrev Yp:Az:=[(.exit 0,[(.tmp 5,.own 42 U5)])]
def EE[Lk]:Vm→Option (Vm⊕V2⊕Unit):=fun(a0,a1,a2,a3,_)=>
 match(ilt a3 a0)with
 |true=>match AR DM many (a0,a1,a2,a3,(IntKind.wrap .i64 (a3+1)),())with|none=>none|some r=>match r with
  |.inl (o0,o1,o2,o3,_)=>some (.inl (o0,o1,o2,(IntKind.wrap .i64 (o3+1)),()))
  |.inr _=>none
 |false=>some (.inr (.inl (a2,())))
def Mr[Lk]:(Int×List U3×Unit)→Option (V2):=fun(a0,a1,_)=>
 match AR EE many (a0,a1,([]:List U3),0,())with|none=>none|some r=>match r with
 |.inl (o0,_)=>some (o0,())
 |.inr _=>none
def Pf[Lk]:=fun v=>Lk.f (Mr v)
theorem Ys v:Pf v=Mr v:=AJ _
abbrev Ss:AF:=[(.tmp 0,.dat Ua),(.tmp 1,.di)]
abbrev Sr:AF:=[(.tmp 0,.dat Ur),(.tmp 1,.di)]
abbrev Sq:List RS:=[.one,.one]
def JT[Lk]:(Uf×Int×Unit)→Option (Vb):=fun(a0,a1,_)=>
 match FU ((a0.1,(a0.2.1,())),())with|none=>none|some (y0,_)=>match(!y0)with
 |true=>some ((0,(([]:List U4),())),1,())
 |false=>match OU ((a0.1,(a0.2.1,())),a1,())with|none=>none|some (y1,_)=>match fof (a0.1,y1,())with|none=>none|some (y2,y3,_)=>some ((y2.1,(y2.2.1,())),y3,())
def NG[Lk]:=fun v=>Lk.f (JT v)
theorem OV v:NG v=JT v:=AJ _
abbrev AHh:AF:=[(.tmp 0,.di),(.tmp 1,.di)]
abbrev AHg:AF:=[(.tmp 0,.dat .bool)]
abbrev AHf:List RS:=[.one]
def XA[Lk]:U3→Option (Uh):=fun(a0,a1,_)=>
 match AQv (a0,())with|none=>none|some (y0,_)=>match y0 with
 |true=>match AQv (a1,())with|none=>none|some (y1,_)=>match(!y1)with
  |true=>some (true,())
  |false=>some ((ilt a0 a1),())
 |false=>some ((ilt a0 a1),())
def Dx[Lk]:=fun v=>Lk.f (XA v)
theorem AMl v:Dx v=XA v:=AJ _
abbrev ARj:AF:=[(.tmp 0,.own 3 U0),(.tmp 1,.di),(.tmp 2,.di)]
abbrev ARi:AF:=[(.obj 0,.own 3 U0)]
abbrev ARh:List RS:=[]
abbrev AUB:AF:=[(.obj 0,.own 3 U0),(.tmp 0,.own' 0),(.tmp 1,.di),(.tmp 2,.di),(.tmp 6,.di),(.tmp 7,.di)]
abbrev AT9:Az:=[(.exit 2,[(.obj 0,.own 3 U0),(.tmp 0,.own' 0),(.tmp 1,.di),(.tmp 2,.di),(.tmp 6,.di)])]
def NH[Lk]:Um→Option (Um⊕U7⊕Unit):=fun(a0,a1,a2,a3,a4,_)=>
 match(ilt a1 a4)with
 |true=>match idx a0 a4 with|none=>none|some x0=>match idx a0 (IntKind.wrap .i64 (a4-1))with|none=>none|some x1=>match Dx ((AM a0 (AE a4) 0),(AM a0 (AE (IntKind.wrap .i64 (a4-1))) 0),())with|none=>none|some (y2,_)=>match y2 with
  |true=>match idx a0 (IntKind.wrap .i64 (a4-1))with|none=>none|some x3=>match idx a0 a4 with|none=>none|some x4=>match idx a0 a4 with|none=>none|some x5=>match idx (Am a0 (AE a4) (AM a0 (AE (IntKind.wrap .i64 (a4-1))) 0)) (IntKind.wrap .i64 (a4-1))with|none=>none|some x6=>some (.inl ((Am (Am a0 (AE a4) (AM a0 (AE (IntKind.wrap .i64 (a4-1))) 0)) (AE (IntKind.wrap .i64 (a4-1))) (AM a0 (AE a4) 0)),a1,a2,a3,(IntKind.wrap .i64 (a4-1)),()))
  |false=>some (.inr (.inl (a0,a1,a2,a3,())))
 |false=>some (.inr (.inl (a0,a1,a2,a3,())))
abbrev AUC:AF:=[(.obj 0,.own 3 U0),(.tmp 0,.own' 0),(.tmp 1,.di),(.tmp 2,.di),(.tmp 6,.di)]
abbrev AUA:Az:=[(.exit 0,[(.obj 0,.own 3 U0)])]
def NI[Lk]:U7→Option (U7⊕Uc⊕Unit):=fun(a0,a1,a2,a3,_)=>
 match(ilt a3 a2)with
 |true=>match AR NH many (a0,a1,a2,a3,a3,())with|none=>none|some r=>match r with
  |.inl (o0,o1,o2,o3,_)=>some (.inl (o0,o1,o2,(IntKind.wrap .i64 (o3+1)),()))
  |.inr _=>none
 |false=>some (.inr (.inl (a0,())))
def AHr[Lk]:Ue→Option (Uc):=fun(a0,a1,a2,_)=>
 match AR NI many (a0,a1,a2,(IntKind.wrap .i64 (a1+1)),())with|none=>none|some r=>match r with
 |.inl (o0,_)=>some (o0,())
 |.inr _=>none
def AWv[Lk]:=fun v=>Lk.f (AHr v)
theorem AUD v:AWv v=AHr v:=AJ _
abbrev AFz:AF:=[(.tmp 0,.own 3 U0),(.tmp 1,.di),(.tmp 2,.di),(.tmp 3,.di)]
abbrev AFy:AF:=[(.obj 0,.own 3 U0)]
abbrev AFx:List RS:=[]
abbrev AKN:AF:=[(.obj 0,.own 3 U0),(.tmp 0,.own' 0),(.tmp 2,.di),(.tmp 3,.di),(.tmp 8,.di)]
abbrev AKM:Az:=[(.exit 0,[(.obj 0,.own 3 U0)]),(.ret,[(.obj 0,.own 3 U0)])]
def JH[Lk]:U7→Option (U7⊕Uc⊕Uc⊕Unit):=fun(a0,a1,a2,a3,_)=>
 match(ile a1 (IntKind.wrap .i64 ((IntKind.wrap .i64 (2*a3))+1)))with
 |true=>some (.inr (.inl (a0,())))
 |false=>match(ilt (IntKind.wrap .i64 ((IntKind.wrap .i64 ((IntKind.wrap .i64 (2*a3))+1))+1)) a1)with
 |true=>match idx a0 (IntKind.wrap .i64 (a2+(IntKind.wrap .i64 ((IntKind.wrap .i64 (2*a3))+1))))with|none=>none|some x0=>match idx a0 (IntKind.wrap .i64 ((IntKind.wrap .i64 (a2+(IntKind.wrap .i64 ((IntKind.wrap .i64 (2*a3))+1))))+1))with|none=>none|some x1=>match Dx ((AM a0 (AE (IntKind.wrap .i64 (a2+(IntKind.wrap .i64 ((IntKind.wrap .i64 (2*a3))+1))))) 0),(AM a0 (AE (IntKind.wrap .i64 ((IntKind.wrap .i64 (a2+(IntKind.wrap .i64 ((IntKind.wrap .i64 (2*a3))+1))))+1))) 0),())with|none=>none|some (y2,_)=>match y2 with
  |true=>match idx a0 (IntKind.wrap .i64 (a2+a3))with|none=>none|some x3=>match idx a0 (IntKind.wrap .i64 (a2+(IntKind.wrap .i64 ((IntKind.wrap .i64 ((IntKind.wrap .i64 (2*a3))+1))+1))))with|none=>none|some x4=>match Dx ((AM a0 (AE (IntKind.wrap .i64 (a2+a3))) 0),(AM a0 (AE (IntKind.wrap .i64 (a2+(IntKind.wrap .i64 ((IntKind.wrap .i64 ((IntKind.wrap .i64 (2*a3))+1))+1))))) 0),())with|none=>none|some (y5,_)=>match(!y5)with
   |true=>some (.inr (.inr (.inl (a0,()))))
   |false=>match idx a0 (IntKind.wrap .i64 (a2+(IntKind.wrap .i64 ((IntKind.wrap .i64 ((IntKind.wrap .i64 (2*a3))+1))+1))))with|none=>none|some x6=>match idx a0 (IntKind.wrap .i64 (a2+a3))with|none=>none|some x7=>match idx a0 (IntKind.wrap .i64 (a2+a3))with|none=>none|some x8=>match idx (Am a0 (AE (IntKind.wrap .i64 (a2+a3))) (AM a0 (AE (IntKind.wrap .i64 (a2+(IntKind.wrap .i64 ((IntKind.wrap .i64 ((IntKind.wrap .i64 (2*a3))+1))+1))))) 0)) (IntKind.wrap .i64 (a2+(IntKind.wrap .i64 ((IntKind.wrap .i64 ((IntKind.wrap .i64 (2*a3))+1))+1))))with|none=>none|some x9=>some (.inl ((Am (Am a0 (AE (IntKind.wrap .i64 (a2+a3))) (AM a0 (AE (IntKind.wrap .i64 (a2+(IntKind.wrap .i64 ((IntKind.wrap .i64 ((IntKind.wrap .i64 (2*a3))+1))+1))))) 0)) (AE (IntKind.wrap .i64 (a2+(IntKind.wrap .i64 ((IntKind.wrap .i64 ((IntKind.wrap .i64 (2*a3))+1))+1))))) (AM a0 (AE (IntKind.wrap .i64 (a2+a3))) 0)),a1,a2,(IntKind.wrap .i64 ((IntKind.wrap .i64 ((IntKind.wrap .i64 (2*a3))+1))+1)),()))
  |false=>match idx a0 (IntKind.wrap .i64 (a2+a3))with|none=>none|some x10=>match idx a0 (IntKind.wrap .i64 (a2+(IntKind.wrap .i64 ((IntKind.wrap .i64 (2*a3))+1))))with|none=>none|some x11=>match Dx ((AM a0 (AE (IntKind.wrap .i64 (a2+a3))) 0),(AM a0 (AE (IntKind.wrap .i64 (a2+(IntKind.wrap .i64 ((IntKind.wrap .i64 (2*a3))+1))))) 0),())with|none=>none|some (y12,_)=>match(!y12)with
  |true=>some (.inr (.inr (.inl (a0,()))))
  |false=>match idx a0 (IntKind.wrap .i64 (a2+(IntKind.wrap .i64 ((IntKind.wrap .i64 (2*a3))+1))))with|none=>none|some x13=>match idx a0 (IntKind.wrap .i64 (a2+a3))with|none=>none|some x14=>match idx a0 (IntKind.wrap .i64 (a2+a3))with|none=>none|some x15=>match idx (Am a0 (AE (IntKind.wrap .i64 (a2+a3))) (AM a0 (AE (IntKind.wrap .i64 (a2+(IntKind.wrap .i64 ((IntKind.wrap .i64 (2*a3))+1))))) 0)) (IntKind.wrap .i64 (a2+(IntKind.wrap .i64 ((IntKind.wrap .i64 (2*a3))+1))))with|none=>none|some x16=>some (.inl ((Am (Am a0 (AE (IntKind.wrap .i64 (a2+a3))) (AM a0 (AE (IntKind.wrap .i64 (a2+(IntKind.wrap .i64 ((IntKind.wrap .i64 (2*a3))+1))))) 0)) (AE (IntKind.wrap .i64 (a2+(IntKind.wrap .i64 ((IntKind.wrap .i64 (2*a3))+1))))) (AM a0 (AE (IntKind.wrap .i64 (a2+a3))) 0)),a1,a2,(IntKind.wrap .i64 ((IntKind.wrap .i64 (2*a3))+1)),()))
 |false=>match idx a0 (IntKind.wrap .i64 (a2+a3))with|none=>none|some x17=>match idx a0 (IntKind.wrap .i64 (a2+(IntKind.wrap .i64 ((IntKind.wrap .i64 (2*a3))+1))))with|none=>none|some x18=>match Dx ((AM a0 (AE (IntKind.wrap .i64 (a2+a3))) 0),(AM a0 (AE (IntKind.wrap .i64 (a2+(IntKind.wrap .i64 ((IntKind.wrap .i64 (2*a3))+1))))) 0),())with|none=>none|some (y19,_)=>match(!y19)with
 |true=>some (.inr (.inr (.inl (a0,()))))
 |false=>match idx a0 (IntKind.wrap .i64 (a2+(IntKind.wrap .i64 ((IntKind.wrap .i64 (2*a3))+1))))with|none=>none|some x20=>match idx a0 (IntKind.wrap .i64 (a2+a3))with|none=>none|some x21=>match idx a0 (IntKind.wrap .i64 (a2+a3))with|none=>none|some x22=>match idx (Am a0 (AE (IntKind.wrap .i64 (a2+a3))) (AM a0 (AE (IntKind.wrap .i64 (a2+(IntKind.wrap .i64 ((IntKind.wrap .i64 (2*a3))+1))))) 0)) (IntKind.wrap .i64 (a2+(IntKind.wrap .i64 ((IntKind.wrap .i64 (2*a3))+1))))with|none=>none|some x23=>some (.inl ((Am (Am a0 (AE (IntKind.wrap .i64 (a2+a3))) (AM a0 (AE (IntKind.wrap .i64 (a2+(IntKind.wrap .i64 ((IntKind.wrap .i64 (2*a3))+1))))) 0)) (AE (IntKind.wrap .i64 (a2+(IntKind.wrap .i64 ((IntKind.wrap .i64 (2*a3))+1))))) (AM a0 (AE (IntKind.wrap .i64 (a2+a3))) 0)),a1,a2,(IntKind.wrap .i64 ((IntKind.wrap .i64 (2*a3))+1)),()))
def Wt[Lk]:U7→Option (Uc):=fun(a0,a1,a2,a3,_)=>
 match AR JH many (a0,a2,a3,a1,())with|none=>none|some r=>match r with
 |.inl (o0,_)=>some (o0,())
 |.inr r=>match r with
 |.inl (o1,_)=>some (o1,())
 |.inr _=>none
def ADi[Lk]:=fun v=>Lk.f (Wt v)
theorem AKO v:ADi v=Wt v:=AJ _
abbrev AH3:AF:=[(.tmp 0,.own 3 U0),(.tmp 1,.di),(.tmp 2,.di)]
abbrev AH2:AF:=[(.obj 0,.own 3 U0)]
abbrev AH1:List RS:=[]
abbrev AM6:AF:=[(.obj 0,.own 3 U0),(.tmp 0,.own' 0),(.tmp 6,.di),(.tmp 7,.di),(.tmp 10,.di)]
abbrev AM4:Az:=[(.exit 2,[(.obj 0,.own 3 U0)])]
def JW[Lk]:U7→Option (U7⊕Uc⊕Unit):=fun(a0,a1,a2,a3,_)=>
 match(ile 0 a3)with
 |true=>match idx a0 (IntKind.wrap .i64 (a1+a3))with|none=>none|some x0=>match idx a0 a1 with|none=>none|some x1=>match idx a0 a1 with|none=>none|some x2=>match idx (Am a0 (AE a1) (AM a0 (AE (IntKind.wrap .i64 (a1+a3))) 0)) (IntKind.wrap .i64 (a1+a3))with|none=>none|some x3=>match ADi ((Am (Am a0 (AE a1) (AM a0 (AE (IntKind.wrap .i64 (a1+a3))) 0)) (AE (IntKind.wrap .i64 (a1+a3))) (AM a0 (AE a1) 0)),a2,a3,a1,())with|none=>none|some (y4,_)=>some (.inl (y4,a1,a2,(IntKind.wrap .i64 (a3-1)),()))
 |false=>some (.inr (.inl (a0,())))
abbrev AM7:AF:=[(.obj 0,.own 3 U0),(.tmp 0,.own' 0),(.tmp 6,.di),(.tmp 7,.di),(.tmp 8,.di),(.tmp 9,.di)]
abbrev AM5:Az:=[(.exit 0,[(.obj 0,.own 3 U0),(.tmp 0,.own' 0),(.tmp 6,.di),(.tmp 7,.di),(.tmp 8,.di)])]
def JX[Lk]:Um→Option (Um⊕U7⊕Unit):=fun(a0,a1,a2,a3,a4,_)=>
 match(ile 0 a4)with
 |true=>match ADi (a0,a4,a3,a1,())with|none=>none|some (y0,_)=>some (.inl (y0,a1,a2,a3,(IntKind.wrap .i64 (a4-1)),()))
 |false=>some (.inr (.inl (a0,a1,a2,a3,())))
def XD[Lk]:Ue→Option (Uc):=fun(a0,a1,a2,_)=>
 match quo? .i64 (IntKind.wrap .i64 ((IntKind.wrap .i64 (a2-a1))-1)) 2 with|none=>none|some x0=>match AR JX many (a0,a1,0,(IntKind.wrap .i64 (a2-a1)),x0,())with|none=>none|some r=>match r with
 |.inl (o1,o2,o3,o4,_)=>match AR JW many (o1,o2,o3,(IntKind.wrap .i64 (o4-1)),())with|none=>none|some r=>match r with
  |.inl (o5,_)=>some (o5,())
  |.inr _=>none
 |.inr _=>none
def AEY[Lk]:=fun v=>Lk.f (XD v)
theorem AM8 v:AEY v=XD v:=AJ _
abbrev ABb:AF:=[(.tmp 0,.own 3 U0),(.tmp 1,.di),(.tmp 2,.di)]
abbrev ABa:AF:=[(.obj 0,.own 3 U0)]
abbrev ABZ:List RS:=[]
abbrev AEw:AF:=[(.obj 0,.own 3 U0),(.tmp 0,.own' 0),(.tmp 1,.di),(.tmp 6,.di),(.tmp 7,.box 1),(.cell 1 0,.dat (.int .u64)),(.tmp 8,.dat (.int .u64)),(.tmp 9,.di)]
abbrev AEv:Az:=[(.exit 0,[(.obj 0,.own 3 U0)])]
def Fv[Lk]:Uu→Option (Uu⊕Uc⊕Unit):=fun(a0,a1,a2,a3,a4,a5,_)=>
 match quo? .i64 a2 4 with|none=>none|some x0=>match(ile a5 (IntKind.wrap .i64 ((IntKind.wrap .i64 (a1+(IntKind.wrap .i64 (x0*2))))+1)))with
 |true=>match xorNext (a3,())with|none=>none|some (y1,y2,_)=>match(ile a2 (IntKind.wrap .i64 (IntKind.wrap .u64 ((BitVec.ofInt (IntKind.bits .u64) y2 &&& BitVec.ofInt (IntKind.bits .u64) (IntKind.wrap .u64 (a4-1))).toNat))))with
  |true=>match idx a0 (IntKind.wrap .i64 (a1+(IntKind.wrap .i64 ((IntKind.wrap .i64 (IntKind.wrap .u64 ((BitVec.ofInt (IntKind.bits .u64) y2 &&& BitVec.ofInt (IntKind.bits .u64) (IntKind.wrap .u64 (a4-1))).toNat)))-a2))))with|none=>none|some x3=>match idx a0 a5 with|none=>none|some x4=>match idx a0 a5 with|none=>none|some x5=>match idx (Am a0 (AE a5) (AM a0 (AE (IntKind.wrap .i64 (a1+(IntKind.wrap .i64 ((IntKind.wrap .i64 (IntKind.wrap .u64 ((BitVec.ofInt (IntKind.bits .u64) y2 &&& BitVec.ofInt (IntKind.bits .u64) (IntKind.wrap .u64 (a4-1))).toNat)))-a2))))) 0)) (IntKind.wrap .i64 (a1+(IntKind.wrap .i64 ((IntKind.wrap .i64 (IntKind.wrap .u64 ((BitVec.ofInt (IntKind.bits .u64) y2 &&& BitVec.ofInt (IntKind.bits .u64) (IntKind.wrap .u64 (a4-1))).toNat)))-a2))))with|none=>none|some x6=>some (.inl ((Am (Am a0 (AE a5) (AM a0 (AE (IntKind.wrap .i64 (a1+(IntKind.wrap .i64 ((IntKind.wrap .i64 (IntKind.wrap .u64 ((BitVec.ofInt (IntKind.bits .u64) y2 &&& BitVec.ofInt (IntKind.bits .u64) (IntKind.wrap .u64 (a4-1))).toNat)))-a2))))) 0)) (AE (IntKind.wrap .i64 (a1+(IntKind.wrap .i64 ((IntKind.wrap .i64 (IntKind.wrap .u64 ((BitVec.ofInt (IntKind.bits .u64) y2 &&& BitVec.ofInt (IntKind.bits .u64) (IntKind.wrap .u64 (a4-1))).toNat)))-a2))))) (AM a0 (AE a5) 0)),a1,a2,y1,a4,(IntKind.wrap .i64 (a5+1)),()))
  |false=>match idx a0 (IntKind.wrap .i64 (a1+(IntKind.wrap .i64 (IntKind.wrap .u64 ((BitVec.ofInt (IntKind.bits .u64) y2 &&& BitVec.ofInt (IntKind.bits .u64) (IntKind.wrap .u64 (a4-1))).toNat)))))with|none=>none|some x7=>match idx a0 a5 with|none=>none|some x8=>match idx a0 a5 with|none=>none|some x9=>match idx (Am a0 (AE a5) (AM a0 (AE (IntKind.wrap .i64 (a1+(IntKind.wrap .i64 (IntKind.wrap .u64 ((BitVec.ofInt (IntKind.bits .u64) y2 &&& BitVec.ofInt (IntKind.bits .u64) (IntKind.wrap .u64 (a4-1))).toNat)))))) 0)) (IntKind.wrap .i64 (a1+(IntKind.wrap .i64 (IntKind.wrap .u64 ((BitVec.ofInt (IntKind.bits .u64) y2 &&& BitVec.ofInt (IntKind.bits .u64) (IntKind.wrap .u64 (a4-1))).toNat)))))with|none=>none|some x10=>some (.inl ((Am (Am a0 (AE a5) (AM a0 (AE (IntKind.wrap .i64 (a1+(IntKind.wrap .i64 (IntKind.wrap .u64 ((BitVec.ofInt (IntKind.bits .u64) y2 &&& BitVec.ofInt (IntKind.bits .u64) (IntKind.wrap .u64 (a4-1))).toNat)))))) 0)) (AE (IntKind.wrap .i64 (a1+(IntKind.wrap .i64 (IntKind.wrap .u64 ((BitVec.ofInt (IntKind.bits .u64) y2 &&& BitVec.ofInt (IntKind.bits .u64) (IntKind.wrap .u64 (a4-1))).toNat)))))) (AM a0 (AE a5) 0)),a1,a2,y1,a4,(IntKind.wrap .i64 (a5+1)),()))
 |false=>some (.inr (.inl (a0,())))
def Qs[Lk]:Ue→Option (Uc):=fun(a0,a1,a2,_)=>
 match(ile 8 (IntKind.wrap .i64 (a2-a1)))with
 |true=>match M5 ((IntKind.wrap .i64 (a2-a1)),())with|none=>none|some (y0,_)=>match quo? .i64 (IntKind.wrap .i64 (a2-a1)) 4 with|none=>none|some x1=>match AR Fv many (a0,a1,(IntKind.wrap .i64 (a2-a1)),(IntKind.wrap .u64 (IntKind.wrap .i64 (a2-a1))),y0,(IntKind.wrap .i64 ((IntKind.wrap .i64 (a1+(IntKind.wrap .i64 (x1*2))))-1)),())with|none=>none|some r=>match r with
  |.inl (o2,_)=>some (o2,())
  |.inr _=>none
 |false=>some (a0,())
def TT[Lk]:=fun v=>Lk.f (Qs v)
theorem AEx v:TT v=Qs v:=AJ _
abbrev SO:AF:=[(.tmp 0,.own 3 U0),(.tmp 1,.di),(.tmp 2,.di),(.tmp 3,.box 1),(.cell 1 0,.di)]
abbrev SN:AF:=[(.obj 0,.own 3 U0),(.obj 1,.box 1),(.cell 1 0,.di),(.tmp 0,.di),(.tmp 1,.di)]
abbrev SM:List RS:=[.one,.one]
def Mz[Lk]:U7→Option (U7):=fun(a0,a1,a2,a3,_)=>
 match idx a0 a2 with|none=>none|some x0=>match idx a0 a1 with|none=>none|some x1=>match Dx ((AM a0 (AE a2) 0),(AM a0 (AE a1) 0),())with|none=>none|some (y2,_)=>match y2 with
 |true=>some (a0,(IntKind.wrap .i64 (a3+1)),a2,a1,())
 |false=>some (a0,a3,a1,a2,())
def J8[Lk]:=fun v=>Lk.f (Mz v)
theorem Zj v:J8 v=Mz v:=AJ _
abbrev Sc:AF:=[(.tmp 0,.own 3 U0),(.tmp 1,.di),(.tmp 2,.di),(.tmp 3,.di),(.tmp 4,.box 1),(.cell 1 0,.di)]
abbrev Sb:AF:=[(.obj 0,.own 3 U0),(.obj 1,.box 1),(.cell 1 0,.di),(.tmp 0,.di)]
abbrev Sa:List RS:=[.one]
def M7[Lk]:Um→Option (Ue):=fun(a0,a1,a2,a3,a4,_)=>
 match J8 (a0,a1,a2,a4,())with|none=>none|some (y0,y1,y2,y3,_)=>match J8 (y0,y3,a3,y1,())with|none=>none|some (y4,y5,y6,y7,_)=>match J8 (y4,y2,y6,y5,())with|none=>none|some (y8,y9,y10,y11,_)=>some (y8,y9,y11,())
def KF[Lk]:=fun v=>Lk.f (M7 v)
theorem Zs v:KF v=M7 v:=AJ _
abbrev Si:AF:=[(.tmp 0,.own 3 U0),(.tmp 1,.di),(.tmp 2,.box 1),(.cell 1 0,.di)]
abbrev Sh:AF:=[(.obj 0,.own 3 U0),(.obj 1,.box 1),(.cell 1 0,.di),(.tmp 0,.di)]
abbrev Sg:List RS:=[.one]
def NA[Lk]:Ue→Option (Ue):=fun(a0,a1,a2,_)=>
 match KF (a0,(IntKind.wrap .i64 (a1-1)),a1,(IntKind.wrap .i64 (a1+1)),a2,())with|none=>none|some (y0,y1,y2,_)=>some (y0,y1,y2,())
def KG[Lk]:=fun v=>Lk.f (NA v)
theorem Zt v:KG v=NA v:=AJ _
abbrev Y2:AF:=[(.tmp 0,.own 3 U0),(.tmp 1,.di),(.tmp 2,.di)]
abbrev Y1:AF:=[(.obj 0,.own 3 U0),(.tmp 0,.di),(.tmp 1,.di)]
abbrev Y0:List RS:=[.one,.one]
def Ph[Lk]:Ue→Option (Ue):=fun(a0,a1,a2,_)=>
 match quo? .i64 (IntKind.wrap .i64 (a2-a1)) 4 with|none=>none|some x0=>match quo? .i64 (IntKind.wrap .i64 (a2-a1)) 4 with|none=>none|some x1=>match quo? .i64 (IntKind.wrap .i64 (a2-a1)) 4 with|none=>none|some x2=>match(ile 8 (IntKind.wrap .i64 (a2-a1)))with
 |true=>match(ile 50 (IntKind.wrap .i64 (a2-a1)))with
  |true=>match KG (a0,(IntKind.wrap .i64 (a1+(IntKind.wrap .i64 (x0*1)))),0,())with|none=>none|some (y3,y4,y5,_)=>match KG (y3,(IntKind.wrap .i64 (a1+(IntKind.wrap .i64 (x1*2)))),y4,())with|none=>none|some (y6,y7,y8,_)=>match KG (y6,(IntKind.wrap .i64 (a1+(IntKind.wrap .i64 (x2*3)))),y7,())with|none=>none|some (y9,y10,y11,_)=>match KF (y9,y5,y8,y11,y10,())with|none=>none|some (y12,y13,y14,_)=>match(ieq y13 0)with
   |true=>some (y12,y14,1,())
   |false=>match(ieq y13 12)with
   |true=>some (y12,y14,2,())
   |false=>some (y12,y14,0,())
  |false=>match KF (a0,(IntKind.wrap .i64 (a1+(IntKind.wrap .i64 (x0*1)))),(IntKind.wrap .i64 (a1+(IntKind.wrap .i64 (x1*2)))),(IntKind.wrap .i64 (a1+(IntKind.wrap .i64 (x2*3)))),0,())with|none=>none|some (y15,y16,y17,_)=>match(ieq y16 0)with
  |true=>some (y15,y17,1,())
  |false=>match(ieq y16 12)with
  |true=>some (y15,y17,2,())
  |false=>some (y15,y17,0,())
 |false=>match(ieq 0 0)with
 |true=>some (a0,(IntKind.wrap .i64 (a1+(IntKind.wrap .i64 (x1*2)))),1,())
 |false=>match(ieq 0 12)with
 |true=>some (a0,(IntKind.wrap .i64 (a1+(IntKind.wrap .i64 (x1*2)))),2,())
 |false=>some (a0,(IntKind.wrap .i64 (a1+(IntKind.wrap .i64 (x1*2)))),0,())
def R3[Lk]:=fun v=>Lk.f (Ph v)
theorem AD7 v:R3 v=Ph v:=AJ _
abbrev APY:AF:=[(.tmp 0,.own 3 U0),(.tmp 1,.di),(.tmp 2,.di)]
abbrev APX:AF:=[(.obj 0,.own 3 U0)]
abbrev APW:List RS:=[]
abbrev ATY:AF:=[(.obj 0,.own 3 U0),(.tmp 0,.own' 0),(.tmp 6,.di),(.tmp 7,.di)]
abbrev ATX:Az:=[(.exit 0,[(.obj 0,.own 3 U0)])]
def PZ[Lk]:Ue→Option (Ue⊕Uc⊕Unit):=fun(a0,a1,a2,_)=>
 match(ilt a1 a2)with
 |true=>match idx a0 a2 with|none=>none|some x0=>match idx a0 a1 with|none=>none|some x1=>match idx a0 a1 with|none=>none|some x2=>match idx (Am a0 (AE a1) (AM a0 (AE a2) 0)) a2 with|none=>none|some x3=>some (.inl ((Am (Am a0 (AE a1) (AM a0 (AE a2) 0)) (AE a2) (AM a0 (AE a1) 0)),(IntKind.wrap .i64 (a1+1)),(IntKind.wrap .i64 (a2-1)),()))
 |false=>some (.inr (.inl (a0,())))
def AGE[Lk]:Ue→Option (Uc):=fun(a0,a1,a2,_)=>
 match AR PZ many (a0,a1,(IntKind.wrap .i64 (a2-1)),())with|none=>none|some r=>match r with
 |.inl (o0,_)=>some (o0,())
 |.inr _=>none
def AVW[Lk]:=fun v=>Lk.f (AGE v)
theorem ATZ v:AVW v=AGE v:=AJ _
abbrev OP:AF:=[(.tmp 0,.own 3 U0),(.tmp 1,.di),(.tmp 2,.di)]
abbrev OO:AF:=[(.obj 0,.own 3 U0),(.tmp 0,.dat .bool)]
abbrev ON:List RS:=[.one]
abbrev UT:AF:=[(.obj 0,.own 3 U0),(.tmp 0,.own' 0),(.tmp 1,.di),(.tmp 2,.di),(.tmp 7,.di),(.tmp 8,.di),(.tmp 10,.di)]
abbrev UP:Az:=[(.exit 6,[(.obj 0,.own 3 U0),(.tmp 0,.own' 0),(.tmp 1,.di),(.tmp 2,.di),(.tmp 7,.di),(.tmp 8,.di)])]
def EY[Lk]:Uu→Option (Uu⊕Um⊕Unit):=fun(a0,a1,a2,a3,a4,a5,_)=>
 match(ilt a5 a2)with
 |true=>match idx a0 a5 with|none=>none|some x0=>match idx a0 (IntKind.wrap .i64 (a5-1))with|none=>none|some x1=>match Dx ((AM a0 (AE a5) 0),(AM a0 (AE (IntKind.wrap .i64 (a5-1))) 0),())with|none=>none|some (y2,_)=>match(!y2)with
  |true=>some (.inr (.inl (a0,a1,a2,a3,a4,())))
  |false=>match idx a0 (IntKind.wrap .i64 (a5-1))with|none=>none|some x3=>match idx a0 a5 with|none=>none|some x4=>match idx a0 a5 with|none=>none|some x5=>match idx (Am a0 (AE a5) (AM a0 (AE (IntKind.wrap .i64 (a5-1))) 0)) (IntKind.wrap .i64 (a5-1))with|none=>none|some x6=>some (.inl ((Am (Am a0 (AE a5) (AM a0 (AE (IntKind.wrap .i64 (a5-1))) 0)) (AE (IntKind.wrap .i64 (a5-1))) (AM a0 (AE a5) 0)),a1,a2,a3,a4,(IntKind.wrap .i64 (a5+1)),()))
 |false=>some (.inr (.inl (a0,a1,a2,a3,a4,())))
abbrev UU:AF:=[(.obj 0,.own 3 U0),(.tmp 0,.own' 0),(.tmp 1,.di),(.tmp 2,.di),(.tmp 7,.di),(.tmp 8,.di),(.tmp 9,.di)]
abbrev UQ:Az:=[(.exit 4,[(.obj 0,.own 3 U0),(.tmp 0,.own' 0),(.tmp 1,.di),(.tmp 2,.di),(.tmp 7,.di),(.tmp 8,.di)])]
def EZ[Lk]:Uu→Option (Uu⊕Um⊕Unit):=fun(a0,a1,a2,a3,a4,a5,_)=>
 match(ile 1 a5)with
 |true=>match idx a0 a5 with|none=>none|some x0=>match idx a0 (IntKind.wrap .i64 (a5-1))with|none=>none|some x1=>match Dx ((AM a0 (AE a5) 0),(AM a0 (AE (IntKind.wrap .i64 (a5-1))) 0),())with|none=>none|some (y2,_)=>match(!y2)with
  |true=>some (.inr (.inl (a0,a1,a2,a3,a4,())))
  |false=>match idx a0 (IntKind.wrap .i64 (a5-1))with|none=>none|some x3=>match idx a0 a5 with|none=>none|some x4=>match idx a0 a5 with|none=>none|some x5=>match idx (Am a0 (AE a5) (AM a0 (AE (IntKind.wrap .i64 (a5-1))) 0)) (IntKind.wrap .i64 (a5-1))with|none=>none|some x6=>some (.inl ((Am (Am a0 (AE a5) (AM a0 (AE (IntKind.wrap .i64 (a5-1))) 0)) (AE (IntKind.wrap .i64 (a5-1))) (AM a0 (AE a5) 0)),a1,a2,a3,a4,(IntKind.wrap .i64 (a5-1)),()))
 |false=>some (.inr (.inl (a0,a1,a2,a3,a4,())))
abbrev UW:AF:=[(.obj 0,.own 3 U0),(.tmp 0,.own' 0),(.tmp 1,.di),(.tmp 2,.di),(.tmp 7,.di),(.tmp 8,.di)]
abbrev UR:Az:=[(.exit 2,[(.obj 0,.own 3 U0),(.tmp 0,.own' 0),(.tmp 1,.di),(.tmp 2,.di),(.tmp 7,.di),(.tmp 8,.di)])]
def GN[Lk]:Um→Option (Um⊕Um⊕Unit):=fun(a0,a1,a2,a3,a4,_)=>
 match(ilt a3 a2)with
 |true=>match idx a0 a3 with|none=>none|some x0=>match idx a0 (IntKind.wrap .i64 (a3-1))with|none=>none|some x1=>match Dx ((AM a0 (AE a3) 0),(AM a0 (AE (IntKind.wrap .i64 (a3-1))) 0),())with|none=>none|some (y2,_)=>match(!y2)with
  |true=>some (.inl (a0,a1,a2,(IntKind.wrap .i64 (a3+1)),a4,()))
  |false=>some (.inr (.inl (a0,a1,a2,a3,a4,())))
 |false=>some (.inr (.inl (a0,a1,a2,a3,a4,())))
abbrev UX:AF:=[(.obj 0,.own 3 U0),(.tmp 0,.own' 0),(.tmp 1,.di),(.tmp 2,.di),(.tmp 7,.di),(.tmp 8,.di)]
abbrev US:Az:=[(.ret,[(.obj 0,.own 3 U0),(.tmp 6,.dat .bool)]),(.exit 0,[(.obj 0,.own 3 U0)])]
def CL[Lk]:Um→Option (Um⊕Vf⊕Uc⊕Unit):=fun(a0,a1,a2,a3,a4,_)=>
 match(ilt a4 5)with
 |true=>match AR GN many (a0,a1,a2,a3,a4,())with|none=>none|some r=>match r with
  |.inl (o0,o1,o2,o3,o4,_)=>match(ieq o3 o2)with
   |true=>some (.inr (.inl (o0,true,())))
   |false=>match(ilt (IntKind.wrap .i64 (o2-o1)) 50)with
   |true=>some (.inr (.inl (o0,false,())))
   |false=>match idx o0 (IntKind.wrap .i64 (o3-1))with|none=>none|some x5=>match idx o0 o3 with|none=>none|some x6=>match idx o0 o3 with|none=>none|some x7=>match idx (Am o0 (AE o3) (AM o0 (AE (IntKind.wrap .i64 (o3-1))) 0)) (IntKind.wrap .i64 (o3-1))with|none=>none|some x8=>match(ile 2 (IntKind.wrap .i64 (o3-o1)))with
   |true=>match AR EZ many ((Am (Am o0 (AE o3) (AM o0 (AE (IntKind.wrap .i64 (o3-1))) 0)) (AE (IntKind.wrap .i64 (o3-1))) (AM o0 (AE o3) 0)),o1,o2,o3,o4,(IntKind.wrap .i64 (o3-1)),())with|none=>none|some r=>match r with
    |.inl (o9,o10,o11,o12,o13,_)=>match(ile 2 (IntKind.wrap .i64 (o11-o12)))with
     |true=>match AR EY many (o9,o10,o11,o12,o13,(IntKind.wrap .i64 (o12+1)),())with|none=>none|some r=>match r with
      |.inl (o14,o15,o16,o17,o18,_)=>some (.inl (o14,o15,o16,o17,(IntKind.wrap .i64 (o18+1)),()))
      |.inr _=>none
     |false=>some (.inl (o9,o10,o11,o12,(IntKind.wrap .i64 (o13+1)),()))
    |.inr _=>none
   |false=>match(ile 2 (IntKind.wrap .i64 (o2-o3)))with
   |true=>match AR EY many ((Am (Am o0 (AE o3) (AM o0 (AE (IntKind.wrap .i64 (o3-1))) 0)) (AE (IntKind.wrap .i64 (o3-1))) (AM o0 (AE o3) 0)),o1,o2,o3,o4,(IntKind.wrap .i64 (o3+1)),())with|none=>none|some r=>match r with
    |.inl (o19,o20,o21,o22,o23,_)=>some (.inl (o19,o20,o21,o22,(IntKind.wrap .i64 (o23+1)),()))
    |.inr _=>none
   |false=>some (.inl ((Am (Am o0 (AE o3) (AM o0 (AE (IntKind.wrap .i64 (o3-1))) 0)) (AE (IntKind.wrap .i64 (o3-1))) (AM o0 (AE o3) 0)),o1,o2,o3,(IntKind.wrap .i64 (o4+1)),()))
  |.inr _=>none
 |false=>some (.inr (.inr (.inl (a0,()))))
def J3[Lk]:Ue→Option (Vf):=fun(a0,a1,a2,_)=>
 match AR CL many (a0,a1,a2,(IntKind.wrap .i64 (a1+1)),0,())with|none=>none|some r=>match r with
 |.inl (o0,o1,_)=>some (o0,o1,())
 |.inr r=>match r with
 |.inl (o2,_)=>some (o2,false,())
 |.inr _=>none
def JN[Lk]:=fun v=>Lk.f (J3 v)
theorem UY v:JN v=J3 v:=AJ _
abbrev SF:AF:=[(.tmp 0,.own 3 U0),(.tmp 1,.di),(.tmp 2,.di),(.tmp 3,.di)]
abbrev SD:AF:=[(.obj 0,.own 3 U0),(.tmp 0,.di)]
abbrev SC:List RS:=[.one]
abbrev Ze:AF:=[(.obj 0,.own 3 U0),(.tmp 0,.own' 0),(.tmp 1,.di),(.tmp 9,.di),(.tmp 10,.di)]
abbrev Zb:Az:=[(.exit 4,[(.obj 0,.own 3 U0),(.tmp 0,.own' 0),(.tmp 1,.di),(.tmp 9,.di),(.tmp 10,.di)])]
def Hk[Lk]:U7→Option Vi:=fun(a0,a1,a2,a3,_)=>
 match(ile a2 a3)with
 |true=>match idx a0 a1 with|none=>none|some x0=>match idx a0 a3 with|none=>none|some x1=>match Dx ((AM a0 (AE a1) 0),(AM a0 (AE a3) 0),())with|none=>none|some (y2,_)=>match y2 with
  |true=>some (.inl (a0,a1,a2,(IntKind.wrap .i64 (a3-1)),()))
  |false=>some (.inr (.inl (a0,a1,a2,a3,())))
 |false=>some (.inr (.inl (a0,a1,a2,a3,())))
abbrev Zf:AF:=[(.obj 0,.own 3 U0),(.tmp 0,.own' 0),(.tmp 1,.di),(.tmp 9,.di),(.tmp 10,.di)]
abbrev Zc:Az:=[(.exit 2,[(.obj 0,.own 3 U0),(.tmp 0,.own' 0),(.tmp 1,.di),(.tmp 9,.di),(.tmp 10,.di)])]
def Hl[Lk]:U7→Option Vi:=fun(a0,a1,a2,a3,_)=>
 match(ile a2 a3)with
 |true=>match idx a0 a1 with|none=>none|some x0=>match idx a0 a2 with|none=>none|some x1=>match Dx ((AM a0 (AE a1) 0),(AM a0 (AE a2) 0),())with|none=>none|some (y2,_)=>match(!y2)with
  |true=>some (.inl (a0,a1,(IntKind.wrap .i64 (a2+1)),a3,()))
  |false=>some (.inr (.inl (a0,a1,a2,a3,())))
 |false=>some (.inr (.inl (a0,a1,a2,a3,())))
abbrev Zg:AF:=[(.obj 0,.own 3 U0),(.tmp 0,.own' 0),(.tmp 1,.di),(.tmp 9,.di),(.tmp 10,.di)]
abbrev Zd:Az:=[(.exit 0,[(.obj 0,.own 3 U0),(.tmp 9,.di)])]
def Hm[Lk]:U7→Option (U7⊕Uq⊕Unit):=fun(a0,a1,a2,a3,_)=>
 match AR Hl many (a0,a1,a2,a3,())with|none=>none|some r=>match r with
 |.inl (o0,o1,o2,o3,_)=>match AR Hk many (o0,o1,o2,o3,())with|none=>none|some r=>match r with
  |.inl (o4,o5,o6,o7,_)=>match(ilt o7 o6)with
   |true=>some (.inr (.inl (o4,o6,())))
   |false=>match idx o4 o7 with|none=>none|some x8=>match idx o4 o6 with|none=>none|some x9=>match idx o4 o6 with|none=>none|some x10=>match idx (Am o4 (AE o6) (AM o4 (AE o7) 0)) o7 with|none=>none|some x11=>some (.inl ((Am (Am o4 (AE o6) (AM o4 (AE o7) 0)) (AE o7) (AM o4 (AE o6) 0)),o5,(IntKind.wrap .i64 (o6+1)),(IntKind.wrap .i64 (o7-1)),()))
  |.inr _=>none
 |.inr _=>none
def Mw[Lk]:U7→Option (Uq):=fun(a0,a1,a2,a3,_)=>
 match idx a0 a3 with|none=>none|some x0=>match idx a0 a1 with|none=>none|some x1=>match idx a0 a1 with|none=>none|some x2=>match idx (Am a0 (AE a1) (AM a0 (AE a3) 0)) a3 with|none=>none|some x3=>match AR Hm many ((Am (Am a0 (AE a1) (AM a0 (AE a3) 0)) (AE a3) (AM a0 (AE a1) 0)),a1,(IntKind.wrap .i64 (a1+1)),(IntKind.wrap .i64 (a2-1)),())with|none=>none|some r=>match r with
 |.inl (o4,o5,_)=>some (o4,o5,())
 |.inr _=>none
def Mx[Lk]:=fun v=>Lk.f (Mw v)
theorem Zh v:Mx v=Mw v:=AJ _
abbrev AGz:AF:=[(.tmp 0,.own 3 U0),(.tmp 1,.di),(.tmp 2,.di),(.tmp 3,.di)]
abbrev AGy:AF:=[(.obj 0,.own 3 U0),(.tmp 0,.di),(.tmp 1,.dat .bool)]
abbrev AGx:List RS:=[.one,.one]
abbrev ALy:AF:=[(.obj 0,.own 3 U0),(.tmp 0,.own' 0),(.tmp 1,.di),(.tmp 10,.di),(.tmp 11,.di)]
abbrev ALt:Az:=[(.exit 8,[(.obj 0,.own 3 U0),(.tmp 0,.own' 0),(.tmp 1,.di),(.tmp 10,.di),(.tmp 11,.di)])]
def Lg[Lk]:U7→Option Vi:=fun(a0,a1,a2,a3,_)=>
 match(ile a2 a3)with
 |true=>match idx a0 a3 with|none=>none|some x0=>match idx a0 a1 with|none=>none|some x1=>match Dx ((AM a0 (AE a3) 0),(AM a0 (AE a1) 0),())with|none=>none|some (y2,_)=>match(!y2)with
  |true=>some (.inl (a0,a1,a2,(IntKind.wrap .i64 (a3-1)),()))
  |false=>some (.inr (.inl (a0,a1,a2,a3,())))
 |false=>some (.inr (.inl (a0,a1,a2,a3,())))
abbrev ALz:AF:=[(.obj 0,.own 3 U0),(.tmp 0,.own' 0),(.tmp 1,.di),(.tmp 10,.di),(.tmp 11,.di)]
abbrev ALu:Az:=[(.exit 6,[(.obj 0,.own 3 U0),(.tmp 0,.own' 0),(.tmp 1,.di),(.tmp 10,.di),(.tmp 11,.di)])]
def Lh[Lk]:U7→Option Vi:=fun(a0,a1,a2,a3,_)=>
 match(ile a2 a3)with
 |true=>match idx a0 a2 with|none=>none|some x0=>match idx a0 a1 with|none=>none|some x1=>match Dx ((AM a0 (AE a2) 0),(AM a0 (AE a1) 0),())with|none=>none|some (y2,_)=>match y2 with
  |true=>some (.inl (a0,a1,(IntKind.wrap .i64 (a2+1)),a3,()))
  |false=>some (.inr (.inl (a0,a1,a2,a3,())))
 |false=>some (.inr (.inl (a0,a1,a2,a3,())))
abbrev AL0:AF:=[(.obj 0,.own 3 U0),(.tmp 0,.own' 0),(.tmp 1,.di),(.tmp 10,.di),(.tmp 11,.di)]
abbrev ALv:Az:=[(.exit 4,[(.obj 0,.own 3 U0),(.tmp 0,.own' 0),(.tmp 1,.di),(.tmp 11,.di)])]
def Li[Lk]:U7→Option (U7⊕Ue⊕Unit):=fun(a0,a1,a2,a3,_)=>
 match AR Lh many (a0,a1,a2,a3,())with|none=>none|some r=>match r with
 |.inl (o0,o1,o2,o3,_)=>match AR Lg many (o0,o1,o2,o3,())with|none=>none|some r=>match r with
  |.inl (o4,o5,o6,o7,_)=>match(ilt o7 o6)with
   |true=>some (.inr (.inl (o4,o5,o7,())))
   |false=>match idx o4 o7 with|none=>none|some x8=>match idx o4 o6 with|none=>none|some x9=>match idx o4 o6 with|none=>none|some x10=>match idx (Am o4 (AE o6) (AM o4 (AE o7) 0)) o7 with|none=>none|some x11=>some (.inl ((Am (Am o4 (AE o6) (AM o4 (AE o7) 0)) (AE o7) (AM o4 (AE o6) 0)),o5,(IntKind.wrap .i64 (o6+1)),(IntKind.wrap .i64 (o7-1)),()))
  |.inr _=>none
 |.inr _=>none
abbrev AL1:AF:=[(.obj 0,.own 3 U0),(.tmp 0,.own' 0),(.tmp 1,.di),(.tmp 10,.di),(.tmp 11,.di)]
abbrev ALw:Az:=[(.exit 2,[(.obj 0,.own 3 U0),(.tmp 0,.own' 0),(.tmp 1,.di),(.tmp 10,.di),(.tmp 11,.di)])]
def Lj[Lk]:U7→Option Vi:=fun(a0,a1,a2,a3,_)=>
 match(ile a2 a3)with
 |true=>match idx a0 a3 with|none=>none|some x0=>match idx a0 a1 with|none=>none|some x1=>match Dx ((AM a0 (AE a3) 0),(AM a0 (AE a1) 0),())with|none=>none|some (y2,_)=>match(!y2)with
  |true=>some (.inl (a0,a1,a2,(IntKind.wrap .i64 (a3-1)),()))
  |false=>some (.inr (.inl (a0,a1,a2,a3,())))
 |false=>some (.inr (.inl (a0,a1,a2,a3,())))
abbrev AL2:AF:=[(.obj 0,.own 3 U0),(.tmp 0,.own' 0),(.tmp 1,.di),(.tmp 10,.di),(.tmp 11,.di)]
abbrev ALx:Az:=[(.exit 0,[(.obj 0,.own 3 U0),(.tmp 0,.own' 0),(.tmp 1,.di),(.tmp 10,.di),(.tmp 11,.di)])]
def Ll[Lk]:U7→Option Vi:=fun(a0,a1,a2,a3,_)=>
 match(ile a2 a3)with
 |true=>match idx a0 a2 with|none=>none|some x0=>match idx a0 a1 with|none=>none|some x1=>match Dx ((AM a0 (AE a2) 0),(AM a0 (AE a1) 0),())with|none=>none|some (y2,_)=>match y2 with
  |true=>some (.inl (a0,a1,(IntKind.wrap .i64 (a2+1)),a3,()))
  |false=>some (.inr (.inl (a0,a1,a2,a3,())))
 |false=>some (.inr (.inl (a0,a1,a2,a3,())))
def W2[Lk]:U7→Option ((List Int×Int×Bool×Unit)):=fun(a0,a1,a2,a3,_)=>
 match idx a0 a3 with|none=>none|some x0=>match idx a0 a1 with|none=>none|some x1=>match idx a0 a1 with|none=>none|some x2=>match idx (Am a0 (AE a1) (AM a0 (AE a3) 0)) a3 with|none=>none|some x3=>match AR Ll many ((Am (Am a0 (AE a1) (AM a0 (AE a3) 0)) (AE a3) (AM a0 (AE a1) 0)),a1,(IntKind.wrap .i64 (a1+1)),(IntKind.wrap .i64 (a2-1)),())with|none=>none|some r=>match r with
 |.inl (o4,o5,o6,o7,_)=>match AR Lj many (o4,o5,o6,o7,())with|none=>none|some r=>match r with
  |.inl (o8,o9,o10,o11,_)=>match(ilt o11 o10)with
   |true=>match idx o8 o9 with|none=>none|some x12=>match idx o8 o11 with|none=>none|some x13=>match idx o8 o11 with|none=>none|some x14=>match idx (Am o8 (AE o11) (AM o8 (AE o9) 0)) o9 with|none=>none|some x15=>some ((Am (Am o8 (AE o11) (AM o8 (AE o9) 0)) (AE o9) (AM o8 (AE o11) 0)),o11,true,())
   |false=>match idx o8 o11 with|none=>none|some x16=>match idx o8 o10 with|none=>none|some x17=>match idx o8 o10 with|none=>none|some x18=>match idx (Am o8 (AE o10) (AM o8 (AE o11) 0)) o11 with|none=>none|some x19=>match AR Li many ((Am (Am o8 (AE o10) (AM o8 (AE o11) 0)) (AE o11) (AM o8 (AE o10) 0)),o9,(IntKind.wrap .i64 (o10+1)),(IntKind.wrap .i64 (o11-1)),())with|none=>none|some r=>match r with
   |.inl (o20,o21,o22,_)=>match idx o20 o21 with|none=>none|some x23=>match idx o20 o22 with|none=>none|some x24=>match idx o20 o22 with|none=>none|some x25=>match idx (Am o20 (AE o22) (AM o20 (AE o21) 0)) o21 with|none=>none|some x26=>some ((Am (Am o20 (AE o22) (AM o20 (AE o21) 0)) (AE o21) (AM o20 (AE o22) 0)),o22,false,())
   |.inr _=>none
  |.inr _=>none
 |.inr _=>none
def Pq[Lk]:=fun v=>Lk.f (W2 v)
theorem AL3 v:Pq v=W2 v:=AJ _
abbrev ZG:AF:=[(.tmp 0,.own 3 U0),(.tmp 1,.di),(.tmp 2,.di),(.tmp 3,.di)]
abbrev ZF:AF:=[(.obj 0,.own 3 U0)]
abbrev ZE:List RS:=[]
abbrev ATj:AF:=[(.obj 0,.own 3 U0),(.tmp 0,.own' 0),(.tmp 1,.di),(.tmp 2,.di),(.tmp 3,.di),(.tmp 8,.dat .bool),(.tmp 9,.dat .bool)]
abbrev ATi:Az:=[(.ret,[(.obj 0,.own 3 U0)])]
def AGj[Lk](self:U7→Option (Uc))(y7:List Int)(a1 a2 p l:Int)(a4 a5:Bool):Option (V0⊕Uc⊕Unit):=
 match(ilt 0 a1)with
 |true=>match idx y7 (IntKind.wrap .i64 (a1-1))with|none=>none|some x9=>match idx y7 p with|none=>none|some x10=>match Dx ((AM y7 (AE (IntKind.wrap .i64 (a1-1))) 0),(AM y7 (AE p) 0),())with|none=>none|some (y11,_)=>match(!y11)with
  |true=>match Mx (y7,a1,a2,p,())with|none=>none|some (y12,y13,_)=>some (.inl (y12,y13,a2,l,a4,a5,()))
  |false=>match Pq (y7,a1,a2,p,())with|none=>none|some (y14,y15,y16,_)=>match quo? .i64 (IntKind.wrap .i64 (a2-a1)) 8 with|none=>none|some x17=>match(ilt (IntKind.wrap .i64 (y15-a1)) (IntKind.wrap .i64 (a2-y15)))with
  |true=>match self (y14,a1,y15,l,())with|none=>none|some (y18,_)=>some (.inl (y18,(IntKind.wrap .i64 (y15+1)),a2,l,(ile x17 (IntKind.wrap .i64 (y15-a1))),y16,()))
  |false=>match self (y14,(IntKind.wrap .i64 (y15+1)),a2,l,())with|none=>none|some (y19,_)=>some (.inl (y19,a1,y15,l,(ile x17 (IntKind.wrap .i64 (a2-y15))),y16,()))
 |false=>match Pq (y7,a1,a2,p,())with|none=>none|some (y20,y21,y22,_)=>match quo? .i64 (IntKind.wrap .i64 (a2-a1)) 8 with|none=>none|some x23=>match(ilt (IntKind.wrap .i64 (y21-a1)) (IntKind.wrap .i64 (a2-y21)))with
 |true=>match self (y20,a1,y21,l,())with|none=>none|some (y24,_)=>some (.inl (y24,(IntKind.wrap .i64 (y21+1)),a2,l,(ile x23 (IntKind.wrap .i64 (y21-a1))),y22,()))
 |false=>match self (y20,(IntKind.wrap .i64 (y21+1)),a2,l,())with|none=>none|some (y25,_)=>some (.inl (y25,a1,y21,l,(ile x23 (IntKind.wrap .i64 (a2-y21))),y22,()))
def AZm[Lk](self:U7→Option (Uc))(y6:List Int)(a1 a2 p h l:Int)(a4 a5:Bool):Option (V0⊕Uc⊕Unit):=
 match a4 with
 |true=>match a5 with
  |true=>match(ieq h 1)with
   |true=>match JN (y6,a1,a2,())with|none=>none|some (y7,y8,_)=>match y8 with
    |true=>some (.inr (.inl (y7,())))
    |false=>AGj self y7 a1 a2 p l a4 a5
   |false=>AGj self y6 a1 a2 p l a4 a5
  |false=>AGj self y6 a1 a2 p l a4 a5
 |false=>AGj self y6 a1 a2 p l a4 a5
def AZl[Lk](self:U7→Option (Uc))(y2:List Int)(a1 a2 l:Int)(a4 a5:Bool):Option (V0⊕Uc⊕Unit):=
 match R3 (y2,a1,a2,())with|none=>none|some (y3,y4,y5,_)=>match(ieq y5 2)with
 |true=>match AVW (y3,a1,a2,())with|none=>none|some (y6,_)=>AZm self y6 a1 a2 (IntKind.wrap .i64 ((IntKind.wrap .i64 (a2-1))-(IntKind.wrap .i64 (y4-a1)))) 1 l a4 a5
 |false=>AZm self y3 a1 a2 y4 y5 l a4 a5
def Mv[Lk](self:U7→Option (Uc)):V0→Option (V0⊕Uc⊕Unit):=fun(a0,a1,a2,a3,a4,a5,_)=>
 match(ile (IntKind.wrap .i64 (a2-a1)) 12)with
 |true=>match AWv (a0,a1,a2,())with|none=>none|some (y0,_)=>some (.inr (.inl (y0,())))
 |false=>match(ieq a3 0)with
 |true=>match AEY (a0,a1,a2,())with|none=>none|some (y1,_)=>some (.inr (.inl (y1,())))
 |false=>match(!a4)with
 |true=>match TT (a0,a1,a2,())with|none=>none|some (y2,_)=>AZl self y2 a1 a2 (IntKind.wrap .i64 (a3-1)) a4 a5
 |false=>AZl self a0 a1 a2 a3 a4 a5
def AGk[Lk](self:U7→Option (Uc)):U7→Option (Uc):=fun(a0,a1,a2,a3,_)=>
 match AR (Mv self) many (a0,a1,a2,a3,true,true,())with|none=>none|some r=>match r with
 |.inl (o0,_)=>some (o0,())
 |.inr _=>none
def Hj[Lk]:Nat→U7→Option (Uc)
 |0,_=>none
 |n+1,v=>AGk (Hj n) v
def AVr[Lk]:=fun v=>Lk.f (Hj 100 v)
theorem ATk v:AVr v=Hj 100 v:=AJ _
abbrev AFs:AF:=[(.tmp 0,.own 3 U0)]
abbrev AFr:AF:=[(.obj 0,.own 3 U0)]
abbrev AFq:List RS:=[]
def Wr[Lk]:Uc→Option (Uc):=fun(a0,_)=>
 match bitsLen ((IntKind.wrap .u64 (AO a0)),())with|none=>none|some (y0,_)=>match AVr (a0,0,(AO a0),y0,())with|none=>none|some (y1,_)=>some (y1,())
def AKF[Lk]:=fun v=>Lk.f (Wr v)
theorem AKE v:AKF v=Wr v:=AJ _
end
end Go.Pev
end
section
namespace Go.Pev
noncomputable section
attribute [local irreducible] MC JA Nh Kx AW1 AW2 AW3 Pb WE WA X3 JC AQ many IntKind.wrap AO Am AM A6 Bi DT Jd AE BV Bt imax AU Ah
abbrev ARn:AF:=[(.tmp 0,.dat Ua),(.tmp 1,.di)]
abbrev ARm:AF:=[(.tmp 0,.dat .bool)]
abbrev ARl:List RS:=[.one]
def AHu[Lk]:(Uf×Int×Unit)→Option (Uh):=fun(a0,a1,_)=>
 match(ile 0 a1)with
 |true=>some ((ilt a1 a0.1),())
 |false=>some (false,())
def ACy[Lk]:=fun v=>Lk.f (AHu v)
theorem AUE v:ACy v=AHu v:=AJ _
abbrev AAc:AF:=[(.tmp 0,.dat Ua),(.tmp 1,.dat Ut)]
abbrev AAb:AF:=[(.tmp 0,.own 42 U5),(.tmp 1,.di)]
abbrev AAa:List RS:=[.one,.one]
abbrev AEc:AF:=[(.tmp 7,.own 42 U5),(.tmp 8,.own 42 U5),(.tmp 9,.own 42 U5),(.tmp 10,.di)]
abbrev AEa:Az:=[(.exit 2,[(.tmp 9,.own 42 U5)])]
def Fi[Lk]:(List U3×List U3×List U3×Int×Unit)→Option ((List U3×List U3×List U3×Int×Unit)⊕V2⊕Unit):=fun(a0,a1,a2,a3,_)=>
 match(ilt a3 (AO a1))with
 |true=>match idx a1 a3 with|none=>none|some x0=>match AAY (a0,((AM a1 (AE a3) (0,(0,()))).1,((AM a1 (AE a3) (0,(0,()))).2.1,())),())with|none=>none|some (y1,_)=>match y1 with
  |true=>match idx a1 a3 with|none=>none|some x2=>match(fits ((AO a2)+(AO ([((AM a1 (AE a3) (0,(0,()))).1,((AM a1 (AE a3) (0,(0,()))).2.1,()))]:List U3))))with
   |true=>some (.inl (a0,a1,(A6 a2 ([((AM a1 (AE a3) (0,(0,()))).1,((AM a1 (AE a3) (0,(0,()))).2.1,()))]:List U3)),(IntKind.wrap .i64 (a3+1)),()))
   |false=>none
  |false=>some (.inl (a0,a1,a2,(IntKind.wrap .i64 (a3+1)),()))
 |false=>some (.inr (.inl (a2,())))
abbrev AEd:AF:=[(.tmp 1,.dat Ut),(.tmp 2,.box 2),(.cell 0 0,.di),(.cell 0 1,.dat Us),(.tmp 6,.di)]
abbrev AEb:Az:=[(.ret,[(.tmp 4,.nil U5),(.tmp 5,.di)]),(.exit 0,[(.tmp 1,.dat Ut),(.tmp 2,.box 2),(.cell 0 0,.di),(.cell 0 1,.dat Us)])]
def Fj[Lk]:(List U3×Int×List U2×Int×Unit)→Option ((List U3×Int×List U2×Int×Unit)⊕U9⊕(List U3×Int×List U2×Unit)⊕Unit):=fun(a0,a1,a2,a3,_)=>
 match(ilt a3 (AO a0))with
 |true=>match idx a0 a3 with|none=>none|some x0=>match ACy ((a1,(a2,())),x0.1,())with|none=>none|some (y1,_)=>match(!y1)with
  |true=>some (.inr (.inl (10,())))
  |false=>match idx a0 a3 with|none=>none|some x2=>match ACy ((a1,(a2,())),x2.2.1,())with|none=>none|some (y3,_)=>match(!y3)with
  |true=>some (.inr (.inl (10,())))
  |false=>some (.inl (a0,a1,a2,(IntKind.wrap .i64 (a3+1)),()))
 |false=>some (.inr (.inr (.inl (a0,a1,a2,()))))
def L9[Lk]:Vd→Option ((List U3×Int×Unit)):=fun(a0,a1,_)=>
 match Cp ((a0.1,(a0.2.1,())),())with|none=>none|some (y0,_)=>match(!y0)with
 |true=>some (([]:List U3),1,())
 |false=>match AR Fj many (a1,a0.1,a0.2.1,0,())with|none=>none|some r=>match r with
 |.inl (o1,_)=>some (([]:List U3),o1,())
 |.inr r=>match r with
 |.inl (o2,o3,o4,_)=>match Qb ((o3,(o4,())),())with|none=>none|some (y5,_)=>match Pf (o3,o2,())with|none=>none|some (y6,_)=>match AR Fi many (y5,y6,([]:List U3),0,())with|none=>none|some r=>match r with
  |.inl (o7,_)=>some (o7,0,())
  |.inr _=>none
 |.inr _=>none
def S7[Lk]:=fun v=>Lk.f (L9 v)
theorem S6 v:S7 v=L9 v:=AJ _
abbrev Lq:AF:=[(.tmp 0,.dat Ua),(.tmp 1,.di),(.tmp 2,.di)]
abbrev Lp:AF:=[(.tmp 0,.own 3 U0)]
abbrev Lo:List RS:=[.one]
abbrev P2:AF:=[(.tmp 1,.di),(.tmp 3,.box 2),(.cell 0 0,.di),(.cell 0 1,.dat Us),(.tmp 7,.own 3 U0),(.tmp 8,.own 3 U0),(.tmp 9,.di)]
abbrev P1:Az:=[(.exit 0,[(.tmp 8,.own 3 U0)])]
def Cs[Lk]:(Int×Int×List U2×List Int×List Int×Int×Unit)→Option ((Int×Int×List U2×List Int×List Int×Int×Unit)⊕Uc⊕Unit):=fun(a0,a1,a2,a3,a4,a5,_)=>
 match(ilt a5 a1)with
 |true=>match idx a3 a5 with|none=>none|some x0=>match idx a3 a0 with|none=>none|some x1=>match(ieq (AM a3 (AE a5) 0) (AM a3 (AE a0) 0))with
  |true=>match(fits ((AO a4)+(AO ([a5]:List (Int)))))with
   |true=>some (.inl (a0,a1,a2,a3,(A6 a4 ([a5]:List (Int))),(IntKind.wrap .i64 (a5+1)),()))
   |false=>none
  |false=>some (.inl (a0,a1,a2,a3,a4,(IntKind.wrap .i64 (a5+1)),()))
 |false=>some (.inr (.inl (a4,())))
def Ia[Lk]:V5→Option (Uc):=fun(a0,a1,a2,_)=>
 match Mj ((a0.1,(a0.2.1,())),a2,())with|none=>none|some (y0,_)=>match Fs (a0.1,y0,())with|none=>none|some (y1,_)=>match AR Cs many (a1,a0.1,a0.2.1,y1,([]:List (Int)),0,())with|none=>none|some r=>match r with
 |.inl (o2,_)=>some (o2,())
 |.inr _=>none
def HJ[Lk]:=fun v=>Lk.f (Ia v)
theorem P5 v:HJ v=Ia v:=AJ _
abbrev AH7:AF:=[(.tmp 0,.dat U6),(.tmp 1,.di)]
abbrev AH6:AF:=[(.tmp 0,.dat .bool)]
abbrev AH5:List RS:=[.one]
abbrev ANE:AF:=[(.tmp 0,.dat U6),(.tmp 1,.di),(.tmp 5,.di)]
abbrev AND:Az:=[(.ret,[(.tmp 4,.dat .bool)]),(.exit 0,[])]
def H0[Lk]:Ue→Option (Ue⊕Uh⊕(Unit)⊕Unit):=fun(a0,a1,a2,_)=>
 match(ilt a2 (AO a0))with
 |true=>match idx a0 a2 with|none=>none|some x0=>match(ieq x0 a1)with
  |true=>some (.inr (.inl (true,())))
  |false=>some (.inl (a0,a1,(IntKind.wrap .i64 (a2+1)),()))
 |false=>some (.inr (.inr (.inl ())))
def XF[Lk]:Uq→Option (Uh):=fun(a0,a1,_)=>
 match AR H0 many (a0,a1,0,())with|none=>none|some r=>match r with
 |.inl (o0,_)=>some (o0,())
 |.inr r=>match r with
 |.inl _=>some (false,())
 |.inr _=>none
def JY[Lk]:=fun v=>Lk.f (XF v)
theorem ANF v:JY v=XF v:=AJ _
abbrev X2:AF:=[(.tmp 0,.dat Ua),(.tmp 1,.di),(.tmp 2,.di),(.tmp 3,.di)]
abbrev X1:AF:=[(.tmp 0,.own 3 U0),(.tmp 1,.di)]
abbrev X0:List RS:=[.one,.one]
def JI[Lk]:(Uf×Int×Int×Int×Unit)→Option (Uq):=fun(a0,a1,a2,a3,_)=>
 match Cp ((a0.1,(a0.2.1,())),())with|none=>none|some (y0,_)=>match(!y0)with
 |true=>some (([]:List (Int)),1,())
 |false=>match ACy ((a0.1,(a0.2.1,())),a1,())with|none=>none|some (y1,_)=>match(!y1)with
 |true=>some (([]:List (Int)),10,())
 |false=>match ACy ((a0.1,(a0.2.1,())),a2,())with|none=>none|some (y2,_)=>match(!y2)with
 |true=>some (([]:List (Int)),10,())
 |false=>match HJ ((a0.1,(a0.2.1,())),a1,a3,())with|none=>none|some (y3,_)=>match HJ ((a0.1,(a0.2.1,())),a2,a3,())with|none=>none|some (y4,_)=>match JY (y3,a2,())with|none=>none|some (y5,_)=>match y5 with
 |true=>some (([]:List (Int)),5,())
 |false=>match(ilt (AO y3) (AO y4))with
 |true=>some (y3,0,())
 |false=>match(ieq (AO y3) (AO y4))with
 |true=>match idx y3 0 with|none=>none|some x6=>match idx y4 0 with|none=>none|some x7=>match(ilt (AM y3 0 0) (AM y4 0 0))with
  |true=>some (y3,0,())
  |false=>some (y4,0,())
 |false=>some (y4,0,())
def Rl[Lk]:=fun v=>Lk.f (JI v)
theorem Mn v:Rl v=JI v:=AJ _
abbrev AHD:AF:=[(.tmp 0,.dat Ua),(.tmp 1,.di),(.tmp 2,.di)]
abbrev AHC:AF:=[(.tmp 0,.di),(.tmp 1,.dat Us),(.tmp 2,.dat Ud),(.tmp 3,.di)]
abbrev AHA:List RS:=[.agg 2,.one,.one]
abbrev AMM:AF:=[(.tmp 6,.box 2),(.cell 0 0,.di),(.cell 0 1,.nil U1),(.tmp 7,.box 5),(.cell 1 0,.dat .bool),(.cell 1 1,.dat .bool),(.cell 1 2,.di),(.cell 1 3,.di),(.cell 1 4,.di),(.tmp 10,.box 4),(.cell 2 0,.di),(.cell 2 1,.di),(.cell 2 2,.di),(.cell 2 3,.dat .bool),(.tmp 11,.box 2),(.cell 3 0,.di),(.cell 3 1,.own 44 U1),(.tmp 12,.box 5),(.cell 5 0,.dat .bool),(.cell 5 1,.dat .bool),(.cell 5 2,.di),(.cell 5 3,.di),(.cell 5 4,.di),(.tmp 13,.di),(.tmp 14,.di),(.tmp 15,.own 3 U0),(.tmp 19,.di),(.tmp 79,.ptr' 2 3),(.tmp 80,.dat .bool)]
abbrev AMJ:Az:=[(.ret,[(.tmp 6,.box 2),(.cell 0 0,.di),(.cell 0 1,.own 44 U1),(.tmp 7,.box 5),(.cell 2 0,.dat .bool),(.cell 2 1,.dat .bool),(.cell 2 2,.di),(.cell 2 3,.di),(.cell 2 4,.di),(.tmp 8,.di)]),(.exit 5,[(.tmp 6,.box 2),(.cell 0 0,.di),(.cell 0 1,.nil U1),(.tmp 7,.box 5),(.cell 1 0,.dat .bool),(.cell 1 1,.dat .bool),(.cell 1 2,.di),(.cell 1 3,.di),(.cell 1 4,.di),(.tmp 10,.box 4),(.cell 2 0,.di),(.cell 2 1,.di),(.cell 2 2,.di),(.cell 2 3,.dat .bool),(.tmp 11,.box 2),(.cell 3 0,.di),(.cell 3 1,.own 44 U1),(.tmp 12,.box 5),(.cell 5 0,.dat .bool),(.cell 5 1,.dat .bool),(.cell 5 2,.di),(.cell 5 3,.di),(.cell 5 4,.di),(.tmp 13,.di),(.tmp 14,.di),(.tmp 79,.ptr' 2 3),(.tmp 80,.dat .bool)])]
def GS[Lk]:Ui→Option (Ui⊕V8⊕(Int×Bool×Bool×Int×Int×Int×Int×Int×Int×Bool×Int×List U2×Bool×Bool×Int×Int×Int×Int×Int×Bool×Unit)⊕Unit):=fun(a0,a1,a2,a3,a4,a5,a6,a7,a8,a9,a10,a11,a12,a13,a14,a15,a16,a17,a18,a19,a20,a21,_)=>
 match(ilt a20 (AO a11))with
 |true=>match idx a11 a20 with|none=>none|some x0=>match(AM a11 (AE a20) (0,(0,(0,(false,()))))).2.2.2.1 with
  |true=>some (.inl (a0,a1,a2,a3,a4,a5,a6,a7,a8,a9,a10,a11,a12,a13,a14,a15,a16,a17,a18,a19,(IntKind.wrap .i64 (a20+1)),a21,()))
  |false=>match(!(ieq (AM a11 (AE a20) (0,(0,(0,(false,()))))).2.2.1 a18))with
  |true=>some (.inl (a0,a1,a2,a3,a4,a5,a6,a7,a8,a9,a10,a11,a12,a13,a14,a15,a16,a17,a18,a19,(IntKind.wrap .i64 (a20+1)),a21,()))
  |false=>match JY (a19,(AM a11 (AE a20) (0,(0,(0,(false,()))))).1,())with|none=>none|some (y1,_)=>match y1 with
  |true=>match JY (a19,(AM a11 (AE a20) (0,(0,(0,(false,()))))).2.1,())with|none=>none|some (y2,_)=>match y2 with
   |true=>match idx a11 a20 with|none=>none|some x3=>some (.inl (a0,a1,a2,a3,a4,a5,a6,a7,a8,a9,a10,(Am a11 (AE a20) ((AM a11 (AE a20) (0,(0,(0,(false,()))))).1,((AM a11 (AE a20) (0,(0,(0,(false,()))))).2.1,((Bt a17 (IntKind.wrap .i64 (a18+1))),((AM a11 (AE a20) (0,(0,(0,(false,()))))).2.2.2.1,()))))),a12,a13,a14,a15,(IntKind.wrap .i64 (a16+1)),a17,a18,a19,(IntKind.wrap .i64 (a20+1)),a21,()))
   |false=>match JY (a19,(AM a11 (AE a20) (0,(0,(0,(false,()))))).1,())with|none=>none|some (y4,_)=>match y4 with
   |true=>match idx a11 a20 with|none=>none|some x5=>some (.inr (.inl (a10,(Am a11 (AE a20) ((AM a11 (AE a20) (0,(0,(0,(false,()))))).1,((AM a11 (AE a20) (0,(0,(0,(false,()))))).2.1,((AM a11 (AE a20) (0,(0,(0,(false,()))))).2.2.1,(true,()))))),a12,true,(AM a11 (AE a20) (0,(0,(0,(false,()))))).1,(AM a11 (AE a20) (0,(0,(0,(false,()))))).2.1,a16,0,())))
   |false=>match JY (a19,(AM a11 (AE a20) (0,(0,(0,(false,()))))).2.1,())with|none=>none|some (y6,_)=>match y6 with
   |true=>match idx a11 a20 with|none=>none|some x7=>some (.inr (.inl (a10,(Am a11 (AE a20) ((AM a11 (AE a20) (0,(0,(0,(false,()))))).1,((AM a11 (AE a20) (0,(0,(0,(false,()))))).2.1,((AM a11 (AE a20) (0,(0,(0,(false,()))))).2.2.1,(true,()))))),a12,true,(AM a11 (AE a20) (0,(0,(0,(false,()))))).1,(AM a11 (AE a20) (0,(0,(0,(false,()))))).2.1,a16,0,())))
   |false=>some (.inl (a0,a1,a2,a3,a4,a5,a6,a7,a8,a9,a10,a11,a12,a13,a14,a15,a16,a17,a18,a19,(IntKind.wrap .i64 (a20+1)),a21,()))
  |false=>match JY (a19,(AM a11 (AE a20) (0,(0,(0,(false,()))))).1,())with|none=>none|some (y8,_)=>match y8 with
  |true=>match idx a11 a20 with|none=>none|some x9=>some (.inr (.inl (a10,(Am a11 (AE a20) ((AM a11 (AE a20) (0,(0,(0,(false,()))))).1,((AM a11 (AE a20) (0,(0,(0,(false,()))))).2.1,((AM a11 (AE a20) (0,(0,(0,(false,()))))).2.2.1,(true,()))))),a12,true,(AM a11 (AE a20) (0,(0,(0,(false,()))))).1,(AM a11 (AE a20) (0,(0,(0,(false,()))))).2.1,a16,0,())))
  |false=>match JY (a19,(AM a11 (AE a20) (0,(0,(0,(false,()))))).2.1,())with|none=>none|some (y10,_)=>match y10 with
  |true=>match idx a11 a20 with|none=>none|some x11=>some (.inr (.inl (a10,(Am a11 (AE a20) ((AM a11 (AE a20) (0,(0,(0,(false,()))))).1,((AM a11 (AE a20) (0,(0,(0,(false,()))))).2.1,((AM a11 (AE a20) (0,(0,(0,(false,()))))).2.2.1,(true,()))))),a12,true,(AM a11 (AE a20) (0,(0,(0,(false,()))))).1,(AM a11 (AE a20) (0,(0,(0,(false,()))))).2.1,a16,0,())))
  |false=>some (.inl (a0,a1,a2,a3,a4,a5,a6,a7,a8,a9,a10,a11,a12,a13,a14,a15,a16,a17,a18,a19,(IntKind.wrap .i64 (a20+1)),a21,()))
 |false=>some (.inr (.inr (.inl (a0,a1,a2,a3,a4,a5,a6,a7,a8,a9,a10,a11,a12,a13,a14,a15,a16,a17,a18,a21,()))))
abbrev AMN:AF:=[(.tmp 6,.box 2),(.cell 0 0,.di),(.cell 0 1,.nil U1),(.tmp 7,.box 5),(.cell 1 0,.dat .bool),(.cell 1 1,.dat .bool),(.cell 1 2,.di),(.cell 1 3,.di),(.cell 1 4,.di),(.tmp 10,.box 4),(.cell 2 0,.di),(.cell 2 1,.di),(.cell 2 2,.di),(.cell 2 3,.dat .bool),(.tmp 11,.box 2),(.cell 3 0,.di),(.cell 3 1,.own 44 U1),(.tmp 12,.box 5),(.cell 5 0,.dat .bool),(.cell 5 1,.dat .bool),(.cell 5 2,.di),(.cell 5 3,.di),(.cell 5 4,.di),(.tmp 13,.di),(.tmp 14,.di),(.tmp 15,.own 3 U0),(.tmp 17,.di),(.tmp 79,.ptr' 2 3),(.tmp 80,.dat .bool)]
abbrev AMK:Az:=[(.exit 3,[(.tmp 6,.box 2),(.cell 0 0,.di),(.cell 0 1,.nil U1),(.tmp 7,.box 5),(.cell 1 0,.dat .bool),(.cell 1 1,.dat .bool),(.cell 1 2,.di),(.cell 1 3,.di),(.cell 1 4,.di),(.tmp 10,.box 4),(.cell 2 0,.di),(.cell 2 1,.di),(.cell 2 2,.di),(.cell 2 3,.dat .bool),(.tmp 11,.box 2),(.cell 3 0,.di),(.cell 3 1,.own 44 U1),(.tmp 12,.box 5),(.cell 5 0,.dat .bool),(.cell 5 1,.dat .bool),(.cell 5 2,.di),(.cell 5 3,.di),(.cell 5 4,.di),(.tmp 13,.di),(.tmp 14,.di),(.tmp 15,.own 3 U0),(.tmp 79,.ptr' 2 3),(.tmp 80,.dat .bool)])]
def GU[Lk]:Ui→Option (Ui⊕(Int×Bool×Bool×Int×Int×Int×Int×Int×Int×Bool×Int×List U2×Bool×Bool×Int×Int×Int×Int×Int×List Int×Bool×Unit)⊕Unit):=fun(a0,a1,a2,a3,a4,a5,a6,a7,a8,a9,a10,a11,a12,a13,a14,a15,a16,a17,a18,a19,a20,a21,_)=>
 match(ilt a20 (AO a11))with
 |true=>match idx a11 a20 with|none=>none|some x0=>match(AM a11 (AE a20) (0,(0,(0,(false,()))))).2.2.2.1 with
  |true=>match(ieq (AM a11 (AE a20) (0,(0,(0,(false,()))))).2.2.1 a18)with
   |true=>match JY (a19,(AM a11 (AE a20) (0,(0,(0,(false,()))))).1,())with|none=>none|some (y1,_)=>match y1 with
    |true=>match JY (a19,(AM a11 (AE a20) (0,(0,(0,(false,()))))).2.1,())with|none=>none|some (y2,_)=>match y2 with
     |true=>match idx a11 a20 with|none=>none|some x3=>some (.inl (a0,a1,a2,a3,a4,a5,a6,a7,a8,a9,a10,(Am a11 (AE a20) ((AM a11 (AE a20) (0,(0,(0,(false,()))))).1,((AM a11 (AE a20) (0,(0,(0,(false,()))))).2.1,((Bt a17 (IntKind.wrap .i64 (a18+1))),((AM a11 (AE a20) (0,(0,(0,(false,()))))).2.2.2.1,()))))),a12,a13,a14,a15,(IntKind.wrap .i64 (a16+1)),a17,a18,a19,(IntKind.wrap .i64 (a20+1)),a21,()))
     |false=>some (.inl (a0,a1,a2,a3,a4,a5,a6,a7,a8,a9,a10,a11,a12,a13,a14,a15,a16,a17,a18,a19,(IntKind.wrap .i64 (a20+1)),a21,()))
    |false=>some (.inl (a0,a1,a2,a3,a4,a5,a6,a7,a8,a9,a10,a11,a12,a13,a14,a15,a16,a17,a18,a19,(IntKind.wrap .i64 (a20+1)),a21,()))
   |false=>some (.inl (a0,a1,a2,a3,a4,a5,a6,a7,a8,a9,a10,a11,a12,a13,a14,a15,a16,a17,a18,a19,(IntKind.wrap .i64 (a20+1)),a21,()))
  |false=>some (.inl (a0,a1,a2,a3,a4,a5,a6,a7,a8,a9,a10,a11,a12,a13,a14,a15,a16,a17,a18,a19,(IntKind.wrap .i64 (a20+1)),a21,()))
 |false=>some (.inr (.inl (a0,a1,a2,a3,a4,a5,a6,a7,a8,a9,a10,a11,a12,a13,a14,a15,a16,a17,a18,a19,a21,())))
abbrev AMO:AF:=[(.tmp 6,.box 2),(.cell 0 0,.di),(.cell 0 1,.nil U1),(.tmp 7,.box 5),(.cell 1 0,.dat .bool),(.cell 1 1,.dat .bool),(.cell 1 2,.di),(.cell 1 3,.di),(.cell 1 4,.di),(.tmp 10,.box 4),(.cell 2 0,.di),(.cell 2 1,.di),(.cell 2 2,.di),(.cell 2 3,.dat .bool),(.tmp 11,.box 2),(.cell 3 0,.di),(.cell 3 1,.own 44 U1),(.tmp 12,.box 5),(.cell 5 0,.dat .bool),(.cell 5 1,.dat .bool),(.cell 5 2,.di),(.cell 5 3,.di),(.cell 5 4,.di),(.tmp 13,.di),(.tmp 14,.di)]
abbrev AML:Az:=[(.ret,[(.tmp 6,.box 2),(.cell 0 0,.di),(.cell 0 1,.own 44 U1),(.tmp 7,.box 5),(.cell 2 0,.dat .bool),(.cell 2 1,.dat .bool),(.cell 2 2,.di),(.cell 2 3,.di),(.cell 2 4,.di),(.tmp 8,.di)]),(.exit 1,[(.tmp 6,.box 2),(.cell 0 0,.di),(.cell 0 1,.nil U1),(.tmp 7,.box 5),(.cell 1 0,.dat .bool),(.cell 1 1,.dat .bool),(.cell 1 2,.di),(.cell 1 3,.di),(.cell 1 4,.di),(.tmp 11,.box 2),(.cell 2 0,.di),(.cell 2 1,.own 44 U1),(.tmp 12,.box 5),(.cell 4 0,.dat .bool),(.cell 4 1,.dat .bool),(.cell 4 2,.di),(.cell 4 3,.di),(.cell 4 4,.di)])]
def Ep[Lk]:Un→Option (Un⊕V8⊕(Int×Bool×Bool×Int×Int×Int×Int×List U2×Bool×Bool×Int×Int×Int×Unit)⊕Unit):=fun(a0,a1,a2,a3,a4,a5,a6,a7,a8,a9,a10,a11,a12,a13,a14,a15,a16,a17,a18,_)=>
 match(ile 0 a18)with
 |true=>match a9 with
  |true=>match Rl ((a10,(a11,())),a6,a7,a18,())with|none=>none|some (y0,y1,_)=>match AR GU many (a0,a1,a2,a3,a4,a5,a6,a7,a8,a9,a10,a11,a12,a13,a14,a15,a16,a17,a18,y0,0,a9,())with|none=>none|some r=>match r with
   |.inl (o2,o3,o4,o5,o6,o7,o8,o9,o10,o11,o12,o13,o14,o15,o16,o17,o18,o19,o20,o21,o22,_)=>match AR GS many (o2,o3,o4,o5,o6,o7,o8,o9,o10,o11,o12,o13,o14,o15,o16,o17,o18,o19,o20,o21,0,o22,())with|none=>none|some r=>match r with
    |.inl (o23,o24,o25,o26,o27,o28,o29,o30,_)=>some (.inr (.inl (o23,o24,o25,o26,o27,o28,o29,o30,())))
    |.inr r=>match r with
    |.inl (o31,o32,o33,o34,o35,o36,o37,o38,o39,o40,o41,o42,o43,o44,o45,o46,o47,o48,o49,o50,_)=>some (.inl (o31,o32,o33,o34,o35,o36,o37,o38,o39,o40,o41,o42,o43,o44,o45,o46,o47,o48,(IntKind.wrap .i64 (o49-1)),()))
    |.inr _=>none
   |.inr _=>none
  |false=>some (.inr (.inr (.inl (a0,a1,a2,a3,a4,a5,a10,a11,a12,a13,a14,a15,a16,()))))
 |false=>some (.inr (.inr (.inl (a0,a1,a2,a3,a4,a5,a10,a11,a12,a13,a14,a15,a16,()))))
def Px[Lk]:V5→Option ((Int×List U2×Ub×Int×Unit)):=fun(a0,a1,a2,_)=>
 match Cp ((a0.1,(a0.2.1,())),())with|none=>none|some (y0,_)=>match(!y0)with
 |true=>some (a0.1,a0.2.1,(false,(false,((0,(0,())),(0,())))),1,())
 |false=>match ACy ((a0.1,(a0.2.1,())),a1,())with|none=>none|some (y1,_)=>match(!y1)with
 |true=>some (a0.1,a0.2.1,(false,(false,((0,(0,())),(0,())))),10,())
 |false=>match ACy ((a0.1,(a0.2.1,())),a2,())with|none=>none|some (y2,_)=>match(!y2)with
 |true=>some (a0.1,a0.2.1,(false,(false,((0,(0,())),(0,())))),10,())
 |false=>match AAr ((a0.1,(a0.2.1,())),a1,a2,())with|none=>none|some (y3,_)=>match(ilt y3 0)with
 |true=>some (a0.1,a0.2.1,(false,(false,((0,(0,())),(0,())))),6,())
 |false=>match idx a0.2.1 y3 with|none=>none|some x4=>match Bz a0.2.1 0 y3 with|none=>none|some x5=>match(fits ((AO ([]:List U2))+(AO x5)))with
 |true=>match Bz a0.2.1 (IntKind.wrap .i64 (y3+1)) (AO a0.2.1)with|none=>none|some x6=>match(fits ((AO (A6 ([]:List U2) x5))+(AO x6)))with
  |true=>match LM (a0.1,())with|none=>none|some (y7,_)=>match AR Ep many (0,false,false,0,0,0,x4.1,x4.2.1,x4.2.2.1,x4.2.2.2.1,a0.1,(A6 (A6 ([]:List U2) x5) x6),x4.2.2.2.1,false,0,0,0,y7,x4.2.2.1,())with|none=>none|some r=>match r with
   |.inl (o8,o9,o10,o11,o12,o13,o14,o15,_)=>some (o8,o9,(o10,(o11,((o12,(o13,())),(o14,())))),o15,())
   |.inr r=>match r with
   |.inl (o16,o17,o18,o19,o20,o21,o22,o23,o24,o25,o26,o27,o28,_)=>some (o22,o23,(o24,(o25,((o26,(o27,())),(o28,())))),0,())
   |.inr _=>none
  |false=>none
 |false=>none
def VA[Lk]:=fun v=>Lk.f (Px v)
theorem Zm v:VA v=Px v:=AJ _
abbrev AA3:AF:=[(.tmp 0,.dat Ua),(.tmp 1,.dat Ut)]
abbrev AA2:AF:=[(.tmp 0,.dat Ua),(.tmp 1,.own 71 Ud),(.tmp 2,.di)]
abbrev AA1:List RS:=[.one,.one,.one]
abbrev AEo:AF:=[(.tmp 2,.box 2),(.cell 0 0,.di),(.cell 0 1,.dat Us),(.tmp 4,.box 2),(.cell 1 0,.di),(.cell 1 1,.nil U1),(.tmp 7,.own 42 U5),(.tmp 9,.own 71 Ud),(.tmp 10,.box 2),(.cell 4 0,.di),(.cell 4 1,.dat Us),(.tmp 11,.di)]
abbrev AEn:Az:=[(.ret,[(.tmp 4,.box 2),(.cell 0 0,.di),(.cell 0 1,.dat Us),(.tmp 5,.nil Ud),(.tmp 6,.di)]),(.exit 0,[(.tmp 4,.box 2),(.cell 0 0,.di),(.cell 0 1,.nil U1),(.tmp 9,.own 71 Ud),(.tmp 10,.box 2),(.cell 2 0,.di),(.cell 2 1,.dat Us)])]
def C7[Lk]:(Int×List U2×Int×List U3×List Ub×Int×List U2×Int×Unit)→Option ((Int×List U2×Int×List U3×List Ub×Int×List U2×Int×Unit)⊕(Int×List U2×Int×Unit)⊕(Int×List Ub×Int×List U2×Unit)⊕Unit):=fun(a0,a1,a2,a3,a4,a5,a6,a7,_)=>
 match(ilt a7 (AO a3))with
 |true=>match idx a3 a7 with|none=>none|some x0=>match idx a3 a7 with|none=>none|some x1=>match VA ((a5,(a6,())),(AM a3 (AE a7) (0,(0,()))).1,(AM a3 (AE a7) (0,(0,()))).2.1,())with|none=>none|some (y2,y3,y4,y5,_)=>match(!(ieq y5 0))with
  |true=>some (.inr (.inl (a0,a1,y5,())))
  |false=>match(fits ((AO a4)+(AO ([(y4.1,(y4.2.1,((y4.2.2.1.1,(y4.2.2.1.2.1,())),(y4.2.2.2.1,()))))]:List Ub))))with
  |true=>some (.inl (a0,a1,a2,a3,(A6 a4 ([(y4.1,(y4.2.1,((y4.2.2.1.1,(y4.2.2.1.2.1,())),(y4.2.2.2.1,()))))]:List Ub)),y2,y3,(IntKind.wrap .i64 (a7+1)),()))
  |false=>none
 |false=>some (.inr (.inr (.inl (a2,a4,a5,a6,()))))
def Qd[Lk]:Vd→Option ((Uf×List Ub×Int×Unit)):=fun(a0,a1,_)=>
 match S7 ((a0.1,(a0.2.1,())),a1,())with|none=>none|some (y0,y1,_)=>match(!(ieq y1 0))with
 |true=>some ((a0.1,(a0.2.1,())),([]:List Ub),y1,())
 |false=>match AR C7 many (a0.1,a0.2.1,0,y0,([]:List Ub),a0.1,a0.2.1,0,())with|none=>none|some r=>match r with
 |.inl (o2,o3,o4,_)=>some ((o2,(o3,())),([]:List Ub),o4,())
 |.inr r=>match r with
 |.inl (o5,o6,o7,o8,_)=>some ((o7,(o8,())),o6,0,())
 |.inr _=>none
def AA5[Lk]:=fun v=>Lk.f (Qd v)
theorem AEp v:AA5 v=Qd v:=AJ _
end
end Go.Pev
end
section
namespace Go.Pev
noncomputable section
attribute [local irreducible] MC JA Nh Kx AW1 AW2 AW3 Pb WE WA X3 JC AQ many IntKind.wrap AO Am AM A6 Bi DT Jd AE BV Bt imax AU Ah
abbrev ASy:AF:=[(.tmp 0,.dat Us),(.tmp 1,.dat U1),(.tmp 2,.clo 98 [])]
abbrev ASx:AF:=[(.tmp 0,.di),(.tmp 1,.dat .bool)]
abbrev ASw:List RS:=[.one,.one]
abbrev AUW:AF:=[(.tmp 0,.dat Us),(.tmp 2,.clo 98 []),(.tmp 4,.box 4),(.cell 0 0,.di),(.cell 0 1,.di),(.cell 0 2,.di),(.cell 0 3,.dat .bool),(.tmp 8,.di),(.tmp 9,.di),(.tmp 10,.di)]
abbrev AUV:Az:=[(.exit 0,[(.tmp 0,.dat Us),(.tmp 2,.clo 98 []),(.tmp 4,.box 4),(.cell 0 0,.di),(.cell 0 1,.di),(.cell 0 2,.di),(.cell 0 3,.dat .bool),(.tmp 8,.di),(.tmp 9,.di)])]
def Kc[Lk]:(List U2×Int×Int×Int×Bool×Int×Int×Int×Unit)→Option ((List U2×Int×Int×Int×Bool×Int×Int×Int×Unit)⊕(List U2×Int×Int×Int×Bool×Int×Int×Unit)⊕Unit):=fun(a0,a1,a2,a3,a4,a5,a6,a7,_)=>
 match(ilt a6 a7)with
 |true=>match shr? .u64 (IntKind.wrap .u64 (IntKind.wrap .i64 (a6+a7))) 1 with|none=>none|some x0=>match idx a0 (IntKind.wrap .i64 x0)with|none=>none|some x1=>match DP ((x1.1,(x1.2.1,(x1.2.2.1,(x1.2.2.2.1,())))),(a1,(a2,(a3,(a4,())))),())with|none=>none|some (y2,_)=>match(ilt y2 0)with
  |true=>some (.inl (a0,a1,a2,a3,a4,a5,(IntKind.wrap .i64 ((IntKind.wrap .i64 x0)+1)),a7,()))
  |false=>some (.inl (a0,a1,a2,a3,a4,a5,a6,(IntKind.wrap .i64 x0),()))
 |false=>some (.inr (.inl (a0,a1,a2,a3,a4,a5,a6,())))
def AI7[Lk]:(List U2×U2×Unit)→Option ((Int×Bool×Unit)):=fun(a0,a1,_)=>
 match AR Kc many (a0,a1.1,a1.2.1,a1.2.2.1,a1.2.2.2.1,(AO a0),0,(AO a0),())with|none=>none|some r=>match r with
 |.inl (o0,o1,o2,o3,o4,o5,o6,_)=>match(ilt o6 o5)with
  |true=>match idx o0 o6 with|none=>none|some x7=>match DP ((x7.1,(x7.2.1,(x7.2.2.1,(x7.2.2.2.1,())))),(o1,(o2,(o3,(o4,())))),())with|none=>none|some (y8,_)=>some (o6,(ieq y8 0),())
  |false=>some (o6,false,())
 |.inr _=>none
def AYA[Lk]:=fun v=>Lk.f (AI7 v)
theorem AUX v:AYA v=AI7 v:=AJ _
abbrev Z9:AF:=[(.tmp 0,.dat Ua),(.tmp 1,.di),(.tmp 2,.di)]
abbrev Z8:AF:=[(.tmp 0,.di),(.tmp 1,.dat .bool)]
abbrev Z7:List RS:=[.one,.one]
def P7[Lk]:V5→Option ((Int×Bool×Unit)):=fun(a0,a1,a2,_)=>
 match AYA (a0.2.1,((Bt a1 a2),((imax a1 a2),(0,(false,())))),())with|none=>none|some (y0,y1,_)=>some (y0,y1,())
def AHX[Lk]:=fun v=>Lk.f (P7 v)
theorem AEK v:AHX v=P7 v:=AJ _
abbrev AHe:AF:=[(.tmp 0,.dat Ua),(.tmp 1,.di),(.tmp 2,.di)]
abbrev AHd:AF:=[(.tmp 0,.di)]
abbrev AHc:List RS:=[.one]
def W9[Lk]:V5→Option (U9):=fun(a0,a1,a2,_)=>
 match FU ((a0.1,(a0.2.1,())),())with|none=>none|some (y0,_)=>match(!y0)with
 |true=>some ((-1:Int),())
 |false=>match AHX ((a0.1,(a0.2.1,())),a1,a2,())with|none=>none|some (y1,y2,_)=>match(!y2)with
 |true=>some ((-1:Int),())
 |false=>some (y1,())
def AMk[Lk]:=fun v=>Lk.f (W9 v)
theorem AMj v:AMk v=W9 v:=AJ _
abbrev Hy:AF:=[(.tmp 0,.own 3 U0),(.cap 1 0,.box 2),(.cell 1 0,.di),(.cell 1 1,.dat Ul),(.tmp 1,.clo 145 [(1,0)])]
abbrev Hx:AF:=[(.obj 0,.own 3 U0),(.obj 1,.box 2),(.cell 1 0,.di),(.cell 1 1,.dat Ul),(.tmp 0,.di)]
abbrev Hw:List RS:=[.one]
abbrev K5:AF:=[(.obj 0,.own 3 U0),(.obj 1,.box 2),(.cell 1 0,.di),(.cell 1 1,.dat Ul),(.tmp 0,.own' 0),(.tmp 1,.clo 145 [(1,0)]),(.tmp 7,.di),(.tmp 8,.di)]
abbrev K4:Az:=[(.ret,[(.obj 0,.own 3 U0),(.obj 1,.box 2),(.cell 1 0,.di),(.cell 1 1,.dat Ul),(.tmp 4,.di)]),(.exit 0,[(.obj 0,.own 3 U0),(.obj 1,.box 2),(.cell 1 0,.di),(.cell 1 1,.dat Ul)])]
def Bh[Lk]:V6→Option (V6⊕Va⊕V7⊕Unit):=fun(a0,a1,a2,a3,a4,_)=>
 match(ilt a4 a3)with
 |true=>match idx a0 a4 with|none=>none|some x0=>match(ile a1 (AM a0 (AE a4) 0))with
  |true=>some (.inr (.inl (a0,a1,a2,a4,())))
  |false=>some (.inl (a0,a1,a2,a3,(IntKind.wrap .i64 (a4+1)),()))
 |false=>some (.inr (.inr (.inl (a0,a1,a2,()))))
def Ey[Lk]:V7→Option (Va):=fun(a0,a1,a2,_)=>
 match AR Bh many (a0,a1,a2,(AO a0),0,())with|none=>none|some r=>match r with
 |.inl (o0,o1,o2,o3,_)=>some (o0,o1,o2,o3,())
 |.inr r=>match r with
 |.inl (o4,o5,o6,_)=>some (o4,o5,o6,(-1:Int),())
 |.inr _=>none
def G2[Lk]:=fun v=>Lk.f (Ey v)
theorem K6 v:G2 v=Ey v:=AJ _
abbrev IC:AF:=[(.tmp 0,.own 3 U0),(.cap 1 0,.box 2),(.cell 1 0,.di),(.cell 1 1,.dat Ul),(.tmp 1,.clo 145 [(1,0)])]
abbrev IB:AF:=[(.obj 0,.own 3 U0),(.obj 1,.box 2),(.cell 1 0,.di),(.cell 1 1,.dat Ul),(.tmp 0,.win' 0)]
abbrev IA:List RS:=[.one]
abbrev K9:AF:=[(.obj 0,.own 3 U0),(.obj 1,.box 2),(.cell 1 0,.di),(.cell 1 1,.dat Ul),(.tmp 0,.own' 0),(.tmp 1,.clo 145 [(1,0)]),(.tmp 5,.di),(.tmp 6,.di)]
abbrev K8:Az:=[(.exit 0,[(.obj 0,.own 3 U0),(.obj 1,.box 2),(.cell 1 0,.di),(.cell 1 1,.dat Ul),(.tmp 0,.own' 0),(.tmp 5,.di)])]
def CH[Lk]:V6→Option (V6⊕Va⊕Unit):=fun(a0,a1,a2,a3,a4,_)=>
 match(ilt a4 (AO a0))with
 |true=>match idx a0 a4 with|none=>none|some x0=>match(!(ile a1 (AM a0 (AE a4) 0)))with
  |true=>match idx a0 a3 with|none=>none|some x1=>some (.inl ((Am a0 (AE a3) (AM a0 (AE a4) 0)),a1,a2,(IntKind.wrap .i64 (a3+1)),(IntKind.wrap .i64 (a4+1)),()))
  |false=>some (.inl (a0,a1,a2,a3,(IntKind.wrap .i64 (a4+1)),()))
 |false=>some (.inr (.inl (a0,a1,a2,a3,())))
def E2[Lk]:V7→Option (Va):=fun(a0,a1,a2,_)=>
 match G2 (a0,a1,a2,())with|none=>none|some (y0,y1,y2,y3,_)=>match(ieq y3 (-1:Int))with
 |true=>some (y0,y1,y2,(AO y0),())
 |false=>match AR CH many (y0,y1,y2,y3,(IntKind.wrap .i64 (y3+1)),())with|none=>none|some r=>match r with
 |.inl (o4,o5,o6,o7,_)=>match Bz o4 o7 (AO o4)with|none=>none|some x8=>match Bz (BV (AE o7) (AE (AO x8)) 0 o4) 0 o7 with|none=>none|some x9=>some ((BV (AE o7) (AE (AO x8)) 0 o4),o5,o6,(((AE (AO x9)):Nat):Int),())
 |.inr _=>none
def E3[Lk]:=fun v=>Lk.f (E2 v)
theorem LA v:E3 v=E2 v:=AJ _
abbrev Oq:AF:=[(.tmp 0,.dat Ur),(.tmp 1,.di)]
abbrev Oo:AF:=[(.tmp 0,.own 3 U0),(.tmp 1,.di)]
abbrev On:List RS:=[.one,.one]
def KS[Lk]:Vb→Option (Uq):=fun(a0,a1,_)=>
 match KQ ((a0.1,(a0.2.1,())),([a1]:List (Int)),())with|none=>none|some (y0,_)=>match(!(ieq y0 0))with
 |true=>some (([]:List (Int)),y0,())
 |false=>match tof ((a0.1,(a0.2.1,())),a1,())with|none=>none|some (y1,_)=>match idx a0.2.1 y1 with|none=>none|some x2=>match AIp x2 with|none=>none|some x3=>match E3 (x3,a0.1,a0.2.1,())with|none=>none|some (y4,y5,y6,y7,_)=>match AKF ((Bi (AE y7) y4),())with|none=>none|some (y8,_)=>some (y8,0,())
def H4[Lk]:=fun v=>Lk.f (KS v)
theorem VL v:H4 v=KS v:=AJ _
abbrev AIH:AF:=[(.tmp 0,.nil U1),(.tmp 1,.di)]
abbrev AIF:AF:=[(.tmp 0,.own 44 U1)]
abbrev AIE:List RS:=[.one]
def XH[Lk]:U9→Option ((List U2×Unit)):=fun(a0,_)=>
 match(ilt a0 0)with
 |true=>none
 |false=>match(ilt 0 (IntKind.wrap .i64 (a0-(IntKind.wrap .i64 (0-0)))))with
 |true=>match Bz ([]:List Unit) 0 0 with|none=>none|some _u0=>match(K7 (IntKind.wrap .i64 (a0-(IntKind.wrap .i64 (0-0)))))with
  |true=>match Bz (Jd (AE (IntKind.wrap .i64 (a0-(IntKind.wrap .i64 ((0:Int)-(0:Int)))))) ((0:Int),((0:Int),((0:Int),(false,()))))) (0:Int) (0:Int)with|none=>none|some x1=>some ((Bi (AE (AO x1)) (Jd (AE (IntKind.wrap .i64 (a0-(IntKind.wrap .i64 ((0:Int)-(0:Int)))))) ((0:Int),((0:Int),((0:Int),(false,())))))),())
  |false=>none
 |false=>some (([]:List U2),())
def ANM[Lk]:=fun v=>Lk.f (XH v)
theorem ANL v:ANM v=XH v:=AJ _
abbrev TM:AF:=[(.tmp 0,.dat (.slice Us))]
abbrev TL:AF:=[(.tmp 0,.own 44 U1)]
abbrev TK:List RS:=[.one]
abbrev ABF:AF:=[(.tmp 6,.own 44 U1),(.tmp 25,.dat (.slice Us)),(.tmp 26,.di),(.tmp 27,.di)]
abbrev ABD:Az:=[(.exit 2,[(.tmp 6,.own 44 U1)])]
def EI[Lk]:(List U2×List (List U2)×Int×Int×Unit)→Option ((List U2×List (List U2)×Int×Int×Unit)⊕(List U2×Unit)⊕Unit):=fun(a0,a1,a2,a3,_)=>
 match(ilt a3 a2)with
 |true=>match idx a1 a3 with|none=>none|some x0=>match(fits ((AO a0)+(AO x0)))with
  |true=>some (.inl ((A6 a0 x0),a1,a2,(IntKind.wrap .i64 (a3+1)),()))
  |false=>none
 |false=>some (.inr (.inl (a0,())))
abbrev ABG:AF:=[(.tmp 0,.dat (.slice Us)),(.tmp 3,.di),(.tmp 9,.dat (.slice Us)),(.tmp 10,.di),(.tmp 11,.di)]
abbrev ABE:Az:=[(.exit 0,[(.tmp 0,.dat (.slice Us)),(.tmp 3,.di)])]
def EJ[Lk]:(List (List U2)×Int×List (List U2)×Int×Int×Unit)→Option ((List (List U2)×Int×List (List U2)×Int×Int×Unit)⊕(List (List U2)×Int×Unit)⊕Unit):=fun(a0,a1,a2,a3,a4,_)=>
 match(ilt a4 a3)with
 |true=>match idx a2 a4 with|none=>none|some x0=>match(ilt (IntKind.wrap .i64 (a1+(AO x0))) 0)with
  |true=>none
  |false=>some (.inl (a0,(IntKind.wrap .i64 (a1+(AO x0))),a2,a3,(IntKind.wrap .i64 (a4+1)),()))
 |false=>some (.inr (.inl (a0,a1,())))
def NN[Lk]:(List (List U2)×Unit)→Option ((List U2×Unit)):=fun(a0,_)=>
 match AR EJ many (a0,0,a0,(AO a0),0,())with|none=>none|some r=>match r with
 |.inl (o0,o1,_)=>match ANM (o1,())with|none=>none|some (y2,_)=>match AR EI many (y2,o0,(AO o0),0,())with|none=>none|some r=>match r with
  |.inl (o3,_)=>some (o3,())
  |.inr _=>none
 |.inr _=>none
def NO[Lk]:=fun v=>Lk.f (NN v)
theorem ABH v:NO v=NN v:=AJ _
abbrev KM:AF:=[(.tmp 0,.own 42 U5),(.cap 1 0,.box 1),(.cell 1 0,.map U5 U0),(.tmp 1,.clo 116 [(1,0)])]
abbrev KL:AF:=[(.obj 0,.own 42 U5),(.obj 1,.box 1),(.cell 1 0,.map U5 U0),(.obj 2,.map' 2),(.tmp 0,.di)]
abbrev KK:List RS:=[.one]
abbrev Nr:AF:=[(.obj 0,.own 42 U5),(.obj 1,.box 1),(.cell 1 0,.map U5 U0),(.obj 2,.map' 2),(.tmp 0,.own' 0),(.tmp 1,.clo 116 [(1,0)]),(.tmp 7,.di),(.tmp 8,.di)]
abbrev Nq:Az:=[(.ret,[(.obj 0,.own 42 U5),(.obj 1,.box 1),(.cell 1 0,.map U5 U0),(.obj 2,.map' 2),(.tmp 4,.di)]),(.exit 0,[(.obj 0,.own 42 U5),(.obj 1,.box 1),(.cell 1 0,.map U5 U0),(.obj 2,.map' 2)])]
def CA[Lk]:V4→Option (V4⊕V9⊕(List U3×List (U3×Int)×Unit)⊕Unit):=fun(a0,a1,a2,a3,_)=>
 match(ilt a3 a2)with
 |true=>match idx a0 a3 with|none=>none|some x0=>match(ieq ((AU a1 ((AM a0 (AE a3) (0,(0,()))).1,((AM a0 (AE a3) (0,(0,()))).2.1,()))).getD 0) 0)with
  |true=>some (.inr (.inl (a0,a1,a3,())))
  |false=>some (.inl (a0,a1,a2,(IntKind.wrap .i64 (a3+1)),()))
 |false=>some (.inr (.inr (.inl (a0,a1,()))))
def G3[Lk]:(List U3×List (U3×Int)×Unit)→Option (V9):=fun(a0,a1,_)=>
 match AR CA many (a0,a1,(AO a0),0,())with|none=>none|some r=>match r with
 |.inl (o0,o1,o2,_)=>some (o0,o1,o2,())
 |.inr r=>match r with
 |.inl (o3,o4,_)=>some (o3,o4,(-1:Int),())
 |.inr _=>none
def KO[Lk]:=fun v=>Lk.f (G3 v)
theorem Ns v:KO v=G3 v:=AJ _
abbrev KZ:AF:=[(.tmp 0,.own 42 U5),(.cap 1 0,.box 1),(.cell 1 0,.map U5 U0),(.tmp 1,.clo 116 [(1,0)])]
abbrev KY:AF:=[(.obj 0,.own 42 U5),(.obj 1,.box 1),(.cell 1 0,.map U5 U0),(.obj 2,.map' 2),(.tmp 0,.win' 0)]
abbrev KX:List RS:=[.one]
abbrev Nx:AF:=[(.obj 0,.own 42 U5),(.obj 1,.box 1),(.cell 1 0,.map U5 U0),(.obj 2,.map' 2),(.tmp 0,.own' 0),(.tmp 1,.clo 116 [(1,0)]),(.tmp 5,.di),(.tmp 6,.di)]
abbrev Nw:Az:=[(.exit 0,[(.obj 0,.own 42 U5),(.obj 1,.box 1),(.cell 1 0,.map U5 U0),(.obj 2,.map' 2),(.tmp 0,.own' 0),(.tmp 5,.di)])]
def C8[Lk]:V4→Option (V4⊕V9⊕Unit):=fun(a0,a1,a2,a3,_)=>
 match(ilt a3 (AO a0))with
 |true=>match idx a0 a3 with|none=>none|some x0=>match(!(ieq ((AU a1 ((AM a0 (AE a3) (0,(0,()))).1,((AM a0 (AE a3) (0,(0,()))).2.1,()))).getD 0) 0))with
  |true=>match idx a0 a2 with|none=>none|some x1=>some (.inl ((Am a0 (AE a2) ((AM a0 (AE a3) (0,(0,()))).1,((AM a0 (AE a3) (0,(0,()))).2.1,()))),a1,(IntKind.wrap .i64 (a2+1)),(IntKind.wrap .i64 (a3+1)),()))
  |false=>some (.inl (a0,a1,a2,(IntKind.wrap .i64 (a3+1)),()))
 |false=>some (.inr (.inl (a0,a1,a2,())))
def G6[Lk]:(List U3×List (U3×Int)×Unit)→Option (V9):=fun(a0,a1,_)=>
 match KO (a0,a1,())with|none=>none|some (y0,y1,y2,_)=>match(ieq y2 (-1:Int))with
 |true=>some (y0,y1,(AO y0),())
 |false=>match AR C8 many (y0,y1,y2,(IntKind.wrap .i64 (y2+1)),())with|none=>none|some r=>match r with
 |.inl (o3,o4,o5,_)=>match Bz o3 o5 (AO o3)with|none=>none|some x6=>match Bz (BV (AE o5) (AE (AO x6)) (0,(0,())) o3) 0 o5 with|none=>none|some x7=>some ((BV (AE o5) (AE (AO x6)) (0,(0,())) o3),o4,(((AE (AO x7)):Nat):Int),())
 |.inr _=>none
def IE[Lk]:=fun v=>Lk.f (G6 v)
theorem Ny v:IE v=G6 v:=AJ _
abbrev AGa:AF:=[(.tmp 0,.dat Ua),(.tmp 1,.dat Ut)]
abbrev AGZ:AF:=[(.tmp 0,.own 42 U5),(.tmp 1,.di)]
abbrev AGY:List RS:=[.one,.one]
abbrev AK0:AF:=[(.tmp 2,.box 2),(.cell 0 0,.di),(.cell 0 1,.dat Us),(.tmp 6,.box 1),(.cell 1 0,.map U5 U0),(.tmp 13,.dat Ut),(.tmp 14,.di),(.tmp 15,.di)]
abbrev AKz:Az:=[(.ret,[(.tmp 4,.nil U5),(.tmp 5,.di)]),(.exit 0,[(.tmp 2,.box 2),(.cell 0 0,.di),(.cell 0 1,.dat Us),(.tmp 6,.box 1),(.cell 1 0,.map U5 U0)])]
def Dv[Lk]:(Int×List U2×List (U3×Int)×List U3×Int×Int×Unit)→Option ((Int×List U2×List (U3×Int)×List U3×Int×Int×Unit)⊕U9⊕(Int×List U2×List (U3×Int)×Unit)⊕Unit):=fun(a0,a1,a2,a3,a4,a5,_)=>
 match(ilt a5 a4)with
 |true=>match idx a3 a5 with|none=>none|some x0=>match(ilt (Bt x0.1 x0.2.1) 0)with
  |true=>some (.inr (.inl (10,())))
  |false=>match(ile a0 (imax x0.1 x0.2.1))with
  |true=>some (.inr (.inl (10,())))
  |false=>match(ile 0 (WI a2 ((Bt x0.1 x0.2.1),((imax x0.1 x0.2.1),())))&&ilt (WI a2 ((Bt x0.1 x0.2.1),((imax x0.1 x0.2.1),()))) (AO (Ah a2 ((Bt x0.1 x0.2.1),((imax x0.1 x0.2.1),())) ((AU a2 ((Bt x0.1 x0.2.1),((imax x0.1 x0.2.1),()))).getD 0))))with
  |true=>some (.inl (a0,a1,(AWI (Ah a2 ((Bt x0.1 x0.2.1),((imax x0.1 x0.2.1),())) ((AU a2 ((Bt x0.1 x0.2.1),((imax x0.1 x0.2.1),()))).getD 0)) (WI a2 ((Bt x0.1 x0.2.1),((imax x0.1 x0.2.1),()))) (IntKind.wrap .i64 (((AU a2 ((Bt x0.1 x0.2.1),((imax x0.1 x0.2.1),()))).getD 0)+1))),a3,a4,(IntKind.wrap .i64 (a5+1)),()))
  |false=>none
 |false=>some (.inr (.inr (.inl (a0,a1,a2,()))))
def Pk[Lk]:Vd→Option ((List U3×Int×Unit)):=fun(a0,a1,_)=>
 match FU ((a0.1,(a0.2.1,())),())with|none=>none|some (y0,_)=>match(!y0)with
 |true=>some (([]:List U3),1,())
 |false=>match AR Dv many (a0.1,a0.2.1,([]:List (U3×Int)),a1,(AO a1),0,())with|none=>none|some r=>match r with
 |.inl (o1,_)=>some (([]:List U3),o1,())
 |.inr r=>match r with
 |.inl (o2,o3,o4,_)=>match AAH ((o2,(o3,())),())with|none=>none|some (y5,_)=>match IE (y5,o4,())with|none=>none|some (y6,y7,y8,_)=>some ((Bi (AE y8) y6),0,())
 |.inr _=>none
def Y4[Lk]:=fun v=>Lk.f (Pk v)
theorem Y3 v:Y4 v=Pk v:=AJ _
abbrev Y8:AF:=[(.tmp 0,.dat Ua),(.tmp 1,.di),(.tmp 2,.di)]
abbrev Y7:AF:=[(.tmp 0,.di),(.tmp 1,.di)]
abbrev Y6:List RS:=[.one,.one]
def LZ[Lk]:V5→Option (U3):=fun(a0,a1,a2,_)=>
 match FU ((a0.1,(a0.2.1,())),())with|none=>none|some (y0,_)=>match(!y0)with
 |true=>some (0,1,())
 |false=>match(ilt (Bt a1 a2) 0)with
 |true=>some (0,10,())
 |false=>match(ile a0.1 (imax a1 a2))with
 |true=>some (0,10,())
 |false=>match AMk ((a0.1,(a0.2.1,())),a1,a2,())with|none=>none|some (y1,_)=>match(ilt y1 0)with
 |true=>some (0,6,())
 |false=>some (y1,0,())
def OI[Lk]:=fun v=>Lk.f (LZ v)
theorem R4 v:OI v=LZ v:=AJ _
abbrev AGP:AF:=[(.tmp 0,.dat Ua),(.tmp 1,.di),(.tmp 2,.di),(.tmp 3,.di)]
abbrev AGO:AF:=[(.tmp 0,.own 3 U0),(.tmp 1,.di)]
abbrev AGN:List RS:=[.one,.one]
def Pc[Lk]:(Uf×Int×Int×Int×Unit)→Option (Uq):=fun(a0,a1,a2,a3,_)=>
 match OI ((a0.1,(a0.2.1,())),a1,a2,())with|none=>none|some (y0,y1,_)=>match(ieq y1 1)with
 |true=>some (([]:List (Int)),y1,())
 |false=>match(ieq y1 10)with
 |true=>some (([]:List (Int)),y1,())
 |false=>match NG ((a0.1,(a0.2.1,())),a3,())with|none=>none|some (y2,y3,_)=>match H4 ((y2.1,(y2.2.1,())),a1,())with|none=>none|some (y4,y5,_)=>match H4 ((y2.1,(y2.2.1,())),a2,())with|none=>none|some (y6,y7,_)=>match Ed (y4,a2,())with|none=>none|some (y8,_)=>match y8 with
 |true=>some (([]:List (Int)),5,())
 |false=>match E7 ((AO y4),(AO y6),())with|none=>none|some (y9,_)=>match idx y4 0 with|none=>none|some x10=>match idx y6 0 with|none=>none|some x11=>match E7 ((AM y4 0 0),(AM y6 0 0),())with|none=>none|some (y12,_)=>match orI (([y9,y12]:List (Int)),())with|none=>none|some (y13,_)=>match(ilt y13 0)with
 |true=>some (y4,0,())
 |false=>some (y6,0,())
def T6[Lk]:=fun v=>Lk.f (Pc v)
theorem Ye v:T6 v=Pc v:=AJ _
abbrev AZw:AF:=[(.tmp 0,.box 8),(.cell 0 0,.di),(.cell 0 1,.own 44 U1),(.cell 0 2,.dat .bool),(.cell 0 3,.dat .bool),(.cell 0 4,.di),(.cell 0 5,.di),(.cell 0 6,.di),(.cell 0 7,.di),(.tmp 1,.di),(.tmp 2,.di),(.tmp 3,.di)]
abbrev AZs:AF:=[(.obj 0,.box 8),(.cell 0 0,.di),(.cell 0 1,.own 44 U1),(.cell 0 2,.dat .bool),(.cell 0 3,.dat .bool),(.cell 0 4,.di),(.cell 0 5,.di),(.cell 0 6,.di),(.cell 0 7,.di),(.obj 1,.own' 1),(.tmp 0,.dat .bool)]
abbrev AZo:List RS:=[.one]
abbrev AZt:AF:=[(.obj 0,.box 8),(.cell 0 0,.di),(.cell 0 1,.own 44 U1),(.cell 0 2,.dat .bool),(.cell 0 3,.dat .bool),(.cell 0 4,.di),(.cell 0 5,.di),(.cell 0 6,.di),(.cell 0 7,.di),(.obj 1,.own' 1),(.tmp 0,.ptr' 0 0),(.cap 14 0,.box 1),(.cell 2 0,.map U0 U0),(.tmp 14,.clo 141 [(2,0)]),(.tmp 86,.prs 157 1),(.tmp 87,.di),(.tmp 88,.di)]
abbrev AZp:Az:=[(.exit 5,[(.obj 0,.box 8),(.cell 0 0,.di),(.cell 0 1,.own 44 U1),(.cell 0 2,.dat .bool),(.cell 0 3,.dat .bool),(.cell 0 4,.di),(.cell 0 5,.di),(.cell 0 6,.di),(.cell 0 7,.di),(.obj 1,.own' 1)]),(.ret,[(.obj 0,.box 8),(.cell 0 0,.di),(.cell 0 1,.own 44 U1),(.cell 0 2,.dat .bool),(.cell 0 3,.dat .bool),(.cell 0 4,.di),(.cell 0 5,.di),(.cell 0 6,.di),(.cell 0 7,.di),(.obj 1,.own' 1),(.tmp 8,.dat .bool)])]
def Ld[Lk]:Ve→Option (Ve⊕V8⊕(Int×List U2×Bool×Bool×Int×Int×Int×Int×Bool×Unit)⊕Unit):=fun(a0,a1,a2,a3,a4,a5,a6,a7,a8,a9,a10,a11,_)=>
 match(ilt a11 a10)with
 |true=>match idx a9 a11 with|none=>none|some x0=>match(ieq (IntKind.wrap .i64 (((AU a8 (AM a1 (AE (AM a9 (AE a11) 0)) (0,(0,(0,(false,()))))).1).getD 0)+((AU a8 (AM a1 (AE (AM a9 (AE a11) 0)) (0,(0,(0,(false,()))))).2.1).getD 0))) 0)with
  |true=>some (.inl (a0,a1,a2,a3,a4,a5,a6,a7,a8,a9,a10,(IntKind.wrap .i64 (a11+1)),()))
  |false=>match(ieq (IntKind.wrap .i64 (((AU a8 (AM a1 (AE (AM a9 (AE a11) 0)) (0,(0,(0,(false,()))))).1).getD 0)+((AU a8 (AM a1 (AE (AM a9 (AE a11) 0)) (0,(0,(0,(false,()))))).2.1).getD 0))) 2)with
  |true=>some (.inl (a0,(Am a1 (AE (AM a9 (AE a11) 0)) ((AM a1 (AE (AM a9 (AE a11) 0)) (0,(0,(0,(false,()))))).1,((AM a1 (AE (AM a9 (AE a11) 0)) (0,(0,(0,(false,()))))).2.1,((Bt a7 (IntKind.wrap .i64 ((AM a1 (AE (AM a9 (AE a11) 0)) (0,(0,(0,(false,()))))).2.2.1+1))),((AM a1 (AE (AM a9 (AE a11) 0)) (0,(0,(0,(false,()))))).2.2.2.1,()))))),a2,a3,a4,a5,(IntKind.wrap .i64 (a6+1)),a7,a8,a9,a10,(IntKind.wrap .i64 (a11+1)),()))
  |false=>match(ieq (IntKind.wrap .i64 (((AU a8 (AM a1 (AE (AM a9 (AE a11) 0)) (0,(0,(0,(false,()))))).1).getD 0)+((AU a8 (AM a1 (AE (AM a9 (AE a11) 0)) (0,(0,(0,(false,()))))).2.1).getD 0))) 1)with
  |true=>some (.inr (.inr (.inl (a0,(Am a1 (AE (AM a9 (AE a11) 0)) ((AM a1 (AE (AM a9 (AE a11) 0)) (0,(0,(0,(false,()))))).1,((AM a1 (AE (AM a9 (AE a11) 0)) (0,(0,(0,(false,()))))).2.1,((AM a1 (AE (AM a9 (AE a11) 0)) (0,(0,(0,(false,()))))).2.2.1,(true,()))))),a2,true,(AM (Am a1 (AE (AM a9 (AE a11) 0)) ((AM a1 (AE (AM a9 (AE a11) 0)) (0,(0,(0,(false,()))))).1,((AM a1 (AE (AM a9 (AE a11) 0)) (0,(0,(0,(false,()))))).2.1,((AM a1 (AE (AM a9 (AE a11) 0)) (0,(0,(0,(false,()))))).2.2.1,(true,()))))) (AE (AM a9 (AE a11) 0)) (0,(0,(0,(false,()))))).1,(AM (Am a1 (AE (AM a9 (AE a11) 0)) ((AM a1 (AE (AM a9 (AE a11) 0)) (0,(0,(0,(false,()))))).1,((AM a1 (AE (AM a9 (AE a11) 0)) (0,(0,(0,(false,()))))).2.1,((AM a1 (AE (AM a9 (AE a11) 0)) (0,(0,(0,(false,()))))).2.2.1,(true,()))))) (AE (AM a9 (AE a11) 0)) (0,(0,(0,(false,()))))).2.1,a6,a7,true,()))))
  |false=>some (.inl (a0,a1,a2,a3,a4,a5,a6,a7,a8,a9,a10,(IntKind.wrap .i64 (a11+1)),()))
 |false=>some (.inr (.inl (a0,a1,a2,a3,a4,a5,a6,a7,())))
abbrev AZu:AF:=[(.obj 0,.box 8),(.cell 0 0,.di),(.cell 0 1,.own 44 U1),(.cell 0 2,.dat .bool),(.cell 0 3,.dat .bool),(.cell 0 4,.di),(.cell 0 5,.di),(.cell 0 6,.di),(.cell 0 7,.di),(.obj 1,.own' 1),(.tmp 0,.ptr' 0 0),(.tmp 3,.di),(.cap 14 0,.box 1),(.cell 2 0,.map U0 U0),(.tmp 14,.clo 141 [(2,0)]),(.tmp 15,.prs 157 1),(.tmp 47,.di),(.tmp 48,.di)]
abbrev AZq:Az:=[(.exit 2,[(.obj 0,.box 8),(.cell 0 0,.di),(.cell 0 1,.own 44 U1),(.cell 0 2,.dat .bool),(.cell 0 3,.dat .bool),(.cell 0 4,.di),(.cell 0 5,.di),(.cell 0 6,.di),(.cell 0 7,.di),(.obj 1,.own' 1),(.tmp 0,.ptr' 0 0),(.cap 14 0,.box 1),(.cell 2 0,.map U0 U0),(.tmp 14,.clo 141 [(2,0)]),(.tmp 15,.prs 157 1)])]
def Le[Lk]:Up→Option (Up⊕(Int×List U2×Bool×Bool×Int×Int×Int×Int×List Uv×List Int×Unit)⊕Unit):=fun(a0,a1,a2,a3,a4,a5,a6,a7,a8,a9,a10,a11,a12,_)=>
 match(ilt a12 a11)with
 |true=>match idx a1 a12 with|none=>none|some x0=>match(!(ieq (AM a1 (AE a12) (0,(0,(0,(false,()))))).2.2.1 a8))with
  |true=>some (.inl (a0,a1,a2,a3,a4,a5,a6,a7,a8,a9,a10,a11,(IntKind.wrap .i64 (a12+1)),()))
  |false=>match(!(AM a1 (AE a12) (0,(0,(0,(false,()))))).2.2.2.1)with
  |true=>match(fits ((AO a10)+(AO ([(Int.ofNat (AE a12))]:List (Int)))))with
   |true=>some (.inl (a0,a1,a2,a3,a4,a5,a6,a7,a8,a9,(A6 a10 ([(Int.ofNat (AE a12))]:List (Int))),a11,(IntKind.wrap .i64 (a12+1)),()))
   |false=>none
  |false=>match(ieq (IntKind.wrap .i64 (((AU a9 (AM a1 (AE a12) (0,(0,(0,(false,()))))).1).getD 0)+((AU a9 (AM a1 (AE a12) (0,(0,(0,(false,()))))).2.1).getD 0))) 2)with
  |true=>some (.inl (a0,(Am a1 (AE a12) ((AM a1 (AE a12) (0,(0,(0,(false,()))))).1,((AM a1 (AE a12) (0,(0,(0,(false,()))))).2.1,((Bt a7 (IntKind.wrap .i64 ((AM a1 (AE a12) (0,(0,(0,(false,()))))).2.2.1+1))),((AM a1 (AE a12) (0,(0,(0,(false,()))))).2.2.2.1,()))))),a2,a3,a4,a5,(IntKind.wrap .i64 (a6+1)),a7,a8,a9,a10,a11,(IntKind.wrap .i64 (a12+1)),()))
  |false=>some (.inl (a0,a1,a2,a3,a4,a5,a6,a7,a8,a9,a10,a11,(IntKind.wrap .i64 (a12+1)),()))
 |false=>some (.inr (.inl (a0,a1,a2,a3,a4,a5,a6,a7,a9,a10,())))
abbrev AZv:AF:=[(.obj 0,.box 8),(.cell 0 0,.di),(.cell 0 1,.own 44 U1),(.cell 0 2,.dat .bool),(.cell 0 3,.dat .bool),(.cell 0 4,.di),(.cell 0 5,.di),(.cell 0 6,.di),(.cell 0 7,.di),(.obj 1,.own' 1),(.tmp 0,.ptr' 0 0),(.tmp 3,.di),(.tmp 11,.box 1),(.cell 2 0,.map U0 U0),(.tmp 32,.own 3 U0),(.tmp 33,.di),(.tmp 34,.di)]
abbrev AZr:Az:=[(.exit 0,[(.obj 0,.box 8),(.cell 0 0,.di),(.cell 0 1,.own 44 U1),(.cell 0 2,.dat .bool),(.cell 0 3,.dat .bool),(.cell 0 4,.di),(.cell 0 5,.di),(.cell 0 6,.di),(.cell 0 7,.di),(.obj 1,.own' 1),(.tmp 0,.ptr' 0 0),(.tmp 3,.di),(.tmp 11,.box 1),(.cell 2 0,.map U0 U0)])]
def Lf[Lk]:Up→Option (Up⊕(Int×List U2×Bool×Bool×Int×Int×Int×Int×Int×List Uv×Unit)⊕Unit):=fun(a0,a1,a2,a3,a4,a5,a6,a7,a8,a9,a10,a11,a12,_)=>
 match(ilt a12 a11)with
 |true=>match idx a10 a12 with|none=>none|some x0=>some (.inl (a0,a1,a2,a3,a4,a5,a6,a7,a8,(Ah a9 (AM a10 (AE a12) 0) 1),a10,a11,(IntKind.wrap .i64 (a12+1)),()))
 |false=>some (.inr (.inl (a0,a1,a2,a3,a4,a5,a6,a7,a8,a9,())))
def ATl[Lk]:(Int×List U2×Bool×Bool×Int×Int×Int×Int×Int×Int×Int×Unit)→Option ((Int×List U2×Bool×Bool×Int×Int×Int×Int×Bool×Unit)):=fun(a0,a1,a2,a3,a4,a5,a6,a7,a8,a9,a10,_)=>
 match T6 ((a0,(a1,())),a8,a9,a10,())with|none=>none|some (y0,y1,_)=>match AR Lf many (a0,a1,a2,a3,a4,a5,a6,a7,a10,([]:List Uv),y0,(AO y0),0,())with|none=>none|some r=>match r with
 |.inl (o2,o3,o4,o5,o6,o7,o8,o9,o10,o11,_)=>match AR Le many (o2,o3,o4,o5,o6,o7,o8,o9,o10,o11,([]:List (Int)),(AO o3),0,())with|none=>none|some r=>match r with
  |.inl (o12,o13,o14,o15,o16,o17,o18,o19,o20,o21,_)=>match AR Ld many (o12,o13,o14,o15,o16,o17,o18,o19,o20,o21,(AO o21),0,())with|none=>none|some r=>match r with
   |.inl (o22,o23,o24,o25,o26,o27,o28,o29,_)=>some (o22,o23,o24,o25,o26,o27,o28,o29,false,())
   |.inr r=>match r with
   |.inl (o30,o31,o32,o33,o34,o35,o36,o37,o38,_)=>some (o30,o31,o32,o33,o34,o35,o36,o37,o38,())
   |.inr _=>none
  |.inr _=>none
 |.inr _=>none
def pat[Lk]:=fun v=>Lk.f (ATl v)
theorem AZx v:pat v=ATl v:=AJ _
abbrev APp:AF:=[(.tmp 0,.dat Ua),(.tmp 1,.di),(.tmp 2,.di)]
abbrev APo:AF:=[(.tmp 0,.di),(.tmp 1,.dat Us),(.tmp 2,.dat Ud),(.tmp 3,.di)]
abbrev APn:List RS:=[.agg 2,.one,.one]
abbrev ATe:AF:=[(.tmp 6,.box 2),(.cell 0 0,.di),(.cell 0 1,.nil U1),(.tmp 7,.box 5),(.cell 1 0,.dat .bool),(.cell 1 1,.dat .bool),(.cell 1 2,.di),(.cell 1 3,.di),(.cell 1 4,.di),(.tmp 11,.box 4),(.cell 2 0,.di),(.cell 2 1,.di),(.cell 2 2,.di),(.cell 2 3,.dat .bool),(.tmp 12,.box 8),(.cell 3 0,.di),(.cell 3 1,.own 44 U1),(.cell 3 2,.dat .bool),(.cell 3 3,.dat .bool),(.cell 3 4,.di),(.cell 3 5,.di),(.cell 3 6,.di),(.cell 3 7,.di),(.tmp 13,.di)]
abbrev ATd:Az:=[(.exit 0,[(.tmp 6,.box 2),(.cell 0 0,.di),(.cell 0 1,.nil U1),(.tmp 7,.box 5),(.cell 1 0,.dat .bool),(.cell 1 1,.dat .bool),(.cell 1 2,.di),(.cell 1 3,.di),(.cell 1 4,.di),(.tmp 12,.box 8),(.cell 2 0,.di),(.cell 2 1,.own 44 U1),(.cell 2 2,.dat .bool),(.cell 2 3,.dat .bool),(.cell 2 4,.di),(.cell 2 5,.di),(.cell 2 6,.di),(.cell 2 7,.di)])]
def D4[Lk]:Un→Option (Un⊕(Int×Bool×Bool×Int×Int×Int×Int×List U2×Bool×Bool×Int×Int×Int×Int×Unit)⊕Unit):=fun(a0,a1,a2,a3,a4,a5,a6,a7,a8,a9,a10,a11,a12,a13,a14,a15,a16,a17,a18,_)=>
 match a9 with
 |true=>match(ile 0 a18)with
  |true=>match pat (a10,a11,a12,a13,a14,a15,a16,a17,a6,a7,a18,())with|none=>none|some (y0,y1,y2,y3,y4,y5,y6,y7,y8,_)=>match(!y8)with
   |true=>some (.inl (a0,a1,a2,a3,a4,a5,a6,a7,a8,a9,y0,y1,y2,y3,y4,y5,y6,y7,(IntKind.wrap .i64 (a18-1)),()))
   |false=>some (.inr (.inl (a0,a1,a2,a3,a4,a5,y0,y1,y2,y3,y4,y5,y6,y7,())))
  |false=>some (.inr (.inl (a0,a1,a2,a3,a4,a5,a10,a11,a12,a13,a14,a15,a16,a17,())))
 |false=>some (.inr (.inl (a0,a1,a2,a3,a4,a5,a10,a11,a12,a13,a14,a15,a16,a17,())))
def Yk[Lk]:V5→Option ((Int×List U2×Ub×Int×Unit)):=fun(a0,a1,a2,_)=>
 match OI ((a0.1,(a0.2.1,())),a1,a2,())with|none=>none|some (y0,y1,_)=>match(!(ieq y1 0))with
 |true=>some (a0.1,a0.2.1,(false,(false,((0,(0,())),(0,())))),y1,())
 |false=>match idx a0.2.1 y0 with|none=>none|some x2=>match Bz a0.2.1 0 y0 with|none=>none|some x3=>match Bz a0.2.1 (IntKind.wrap .i64 (y0+1)) (AO a0.2.1)with|none=>none|some x4=>match NO (([x3,x4]:List (List U2)),())with|none=>none|some (y5,_)=>match ACu (a0.1,())with|none=>none|some (y6,_)=>match AR D4 many (0,false,false,0,0,0,x2.1,x2.2.1,x2.2.2.1,x2.2.2.2.1,a0.1,y5,x2.2.2.2.1,false,0,0,0,y6,x2.2.2.1,())with|none=>none|some r=>match r with
 |.inl (o7,o8,o9,o10,o11,o12,o13,o14,o15,o16,o17,o18,o19,o20,_)=>some (o13,o14,(o15,(o16,((o17,(o18,())),(o19,())))),0,())
 |.inr _=>none
def ACT[Lk]:=fun v=>Lk.f (Yk v)
theorem AGT v:ACT v=Yk v:=AJ _
abbrev AGf:AF:=[(.tmp 0,.dat Ua),(.tmp 1,.dat Ut)]
abbrev AGe:AF:=[(.tmp 0,.dat Ua),(.tmp 1,.own 71 Ud),(.tmp 2,.di)]
abbrev AGd:List RS:=[.one,.one,.one]
abbrev AK5:AF:=[(.tmp 2,.box 2),(.cell 0 0,.di),(.cell 0 1,.dat Us),(.tmp 4,.box 2),(.cell 1 0,.di),(.cell 1 1,.nil U1),(.tmp 9,.own 71 Ud),(.tmp 10,.box 2),(.cell 3 0,.di),(.cell 3 1,.dat Us),(.tmp 27,.own 42 U5),(.tmp 28,.di),(.tmp 29,.di)]
abbrev AK4:Az:=[(.ret,[(.tmp 4,.box 2),(.cell 0 0,.di),(.cell 0 1,.dat Us),(.tmp 5,.nil Ud),(.tmp 6,.di)]),(.exit 0,[(.tmp 4,.box 2),(.cell 0 0,.di),(.cell 0 1,.nil U1),(.tmp 9,.own 71 Ud),(.tmp 10,.box 2),(.cell 2 0,.di),(.cell 2 1,.dat Us)])]
def Dw[Lk]:Vl→Option (Vl⊕(Int×List U2×Int×Unit)⊕(Int×List Ub×Int×List U2×Unit)⊕Unit):=fun(a0,a1,a2,a3,a4,a5,a6,a7,a8,_)=>
 match(ilt a8 a7)with
 |true=>match idx a6 a8 with|none=>none|some x0=>match ACT ((a4,(a5,())),(AM a6 (AE a8) (0,(0,()))).1,(AM a6 (AE a8) (0,(0,()))).2.1,())with|none=>none|some (y1,y2,y3,y4,_)=>match(!(ieq y4 0))with
  |true=>some (.inr (.inl (a0,a1,y4,())))
  |false=>match(fits ((AO a3)+(AO ([(y3.1,(y3.2.1,((y3.2.2.1.1,(y3.2.2.1.2.1,())),(y3.2.2.2.1,()))))]:List Ub))))with
  |true=>some (.inl (a0,a1,a2,(A6 a3 ([(y3.1,(y3.2.1,((y3.2.2.1.1,(y3.2.2.1.2.1,())),(y3.2.2.2.1,()))))]:List Ub)),y1,y2,a6,a7,(IntKind.wrap .i64 (a8+1)),()))
  |false=>none
 |false=>some (.inr (.inr (.inl (a2,a3,a4,a5,()))))
def W1[Lk]:Vd→Option ((Uf×List Ub×Int×Unit)):=fun(a0,a1,_)=>
 match Y4 ((a0.1,(a0.2.1,())),a1,())with|none=>none|some (y0,y1,_)=>match(!(ieq y1 0))with
 |true=>some ((a0.1,(a0.2.1,())),([]:List Ub),y1,())
 |false=>match AR Dw many (a0.1,a0.2.1,0,([]:List Ub),a0.1,a0.2.1,y0,(AO y0),0,())with|none=>none|some r=>match r with
 |.inl (o2,o3,o4,_)=>some ((o2,(o3,())),([]:List Ub),o4,())
 |.inr r=>match r with
 |.inl (o5,o6,o7,o8,_)=>some ((o7,(o8,())),o6,0,())
 |.inr _=>none
def AD8[Lk]:=fun v=>Lk.f (W1 v)
theorem AK6 v:AD8 v=W1 v:=AJ _
abbrev X8:AF:=[(.tmp 0,.dat (.slice Ud)),(.tmp 1,.dat (.slice Ud))]
abbrev X7:AF:=[(.tmp 0,.dat .bool)]
abbrev X6:List RS:=[.one]
abbrev ADm:AF:=[(.tmp 0,.dat (.slice Ud)),(.tmp 1,.dat (.slice Ud)),(.tmp 5,.di)]
abbrev ADl:Az:=[(.ret,[(.tmp 4,.dat .bool)]),(.exit 0,[])]
def FJ[Lk]:(List Ub×List Ub×Int×Unit)→Option ((List Ub×List Ub×Int×Unit)⊕Uh⊕(Unit)⊕Unit):=fun(a0,a1,a2,_)=>
 match(ilt a2 (AO a0))with
 |true=>match idx a0 a2 with|none=>none|some x0=>match idx a1 a2 with|none=>none|some x1=>match(!((x0.1==x1.1)&&((x0.2.1==x1.2.1)&&(ieq x0.2.2.1.1 x1.2.2.1.1&&(ieq x0.2.2.1.2.1 x1.2.2.1.2.1&&(ieq x0.2.2.2.1 x1.2.2.2.1&&true))))))with
  |true=>some (.inr (.inl (false,())))
  |false=>some (.inl (a0,a1,(IntKind.wrap .i64 (a2+1)),()))
 |false=>some (.inr (.inr (.inl ())))
def PT[Lk]:(List Ub×List Ub×Unit)→Option (Uh):=fun(a0,a1,_)=>
 match(!(ieq (AO a0) (AO a1)))with
 |true=>some (false,())
 |false=>match AR FJ many (a0,a1,0,())with|none=>none|some r=>match r with
 |.inl (o0,_)=>some (o0,())
 |.inr r=>match r with
 |.inl _=>some (true,())
 |.inr _=>none
def YA[Lk]:=fun v=>Lk.f (PT v)
theorem ADn v:YA v=PT v:=AJ _
abbrev TZ:AF:=[]
abbrev TY:AF:=[(.tmp 0,.dat .bool)]
abbrev TX:List RS:=[.one]
def Ta[Lk]:(Unit)→Option (Uh):=fun _=>
 match ACT ((4,(([(0,(1,(0,(true,())))),(0,(2,(0,(true,())))),(1,(2,(0,(false,())))),(2,(3,(0,(true,()))))]:List U2),())),1,0,())with|none=>none|some (y0,y1,y2,y3,_)=>match AD8 ((4,(([(0,(1,(0,(true,())))),(0,(2,(0,(true,())))),(1,(2,(0,(false,())))),(2,(3,(0,(true,()))))]:List U2),())),([(3,(2,())),(0,(1,())),(1,(3,())),(1,(0,()))]:List U3),())with|none=>none|some (y4,y5,y6,_)=>match T6 ((y0,(y1,())),0,3,1,())with|none=>none|some (y7,y8,_)=>match Y4 ((4,(([(0,(1,(0,(true,())))),(0,(2,(0,(true,())))),(1,(2,(0,(false,())))),(2,(3,(0,(true,()))))]:List U2),())),([(2,(1,())),(3,(0,()))]:List U3),())with|none=>none|some (y9,y10,_)=>match ACT ((4,(([(0,(1,(0,(true,())))),(0,(2,(0,(true,())))),(1,(2,(0,(false,())))),(2,(3,(0,(true,()))))]:List U2),())),0,3,())with|none=>none|some (y11,y12,y13,y14,_)=>match T6 ((4,(([(0,(1,(0,(true,())))),(0,(2,(0,(true,())))),(1,(2,(0,(false,())))),(2,(3,(0,(true,()))))]:List U2),())),0,3,0,())with|none=>none|some (y15,y16,_)=>match(ieq y3 0)with
 |true=>match(ieq y6 0)with
  |true=>match(ieq y8 0)with
   |true=>match(ieq y10 0)with
    |true=>match(ieq y14 6)with
     |true=>match(ieq y16 5)with
      |true=>match((y2.1==true)&&((y2.2.1==true)&&(ieq y2.2.2.1.1 1&&(ieq y2.2.2.1.2.1 2&&(ieq y2.2.2.2.1 0&&true)))))with
       |true=>match Ro ((y0,(y1,())),(4,(([(0,(2,(0,(true,())))),(1,(2,(0,(true,())))),(2,(3,(0,(true,()))))]:List U2),())),())with|none=>none|some (y17,_)=>match y17 with
        |true=>match(ieq (AO y5) 2)with
         |true=>match idx y5 1 with|none=>none|some x18=>match(((AM y5 1 (false,(false,((0,(0,())),(0,()))))).1==true)&&(((AM y5 1 (false,(false,((0,(0,())),(0,()))))).2.1==false)&&(ieq (AM y5 1 (false,(false,((0,(0,())),(0,()))))).2.2.1.1 0&&(ieq (AM y5 1 (false,(false,((0,(0,())),(0,()))))).2.2.1.2.1 0&&(ieq (AM y5 1 (false,(false,((0,(0,())),(0,()))))).2.2.2.1 0&&true)))))with
          |true=>match(ieq (AO y4.2.1) 2)with
           |true=>match Sv (y7,([0]:List (Int)),())with|none=>none|some (y19,_)=>match y19 with
            |true=>match AF9 (y9,([(1,(2,()))]:List U3),())with|none=>none|some (y20,_)=>some (y20,())
            |false=>some (false,())
           |false=>some (false,())
          |false=>some (false,())
         |false=>some (false,())
        |false=>some (false,())
       |false=>some (false,())
      |false=>some (false,())
     |false=>some (false,())
    |false=>some (false,())
   |false=>some (false,())
  |false=>some (false,())
 |false=>some (false,())
def Iv[Lk]:=fun v=>Lk.f (Ta v)
theorem AS2 v:Iv v=Ta v:=AJ _
abbrev S5:AF:=[(.tmp 0,.dat Ua),(.tmp 1,.dat Ut)]
abbrev S4:AF:=[(.tmp 0,.dat .bool)]
abbrev S3:List RS:=[.one]
def NK[Lk]:Vd→Option (Uh):=fun(a0,a1,_)=>
 match(ilt 30 (AO a0.2.1))with
 |true=>some (true,())
 |false=>match(ilt 12 a0.1)with
 |true=>some (true,())
 |false=>some ((ilt 12 (AO a1)),())
def NL[Lk]:=fun v=>Lk.f (NK v)
theorem AAZ v:NL v=NK v:=AJ _
abbrev J2:AF:=[(.tmp 0,.dat Ua),(.tmp 1,.dat Ut)]
abbrev J1:AF:=[(.tmp 0,.dat .bool)]
abbrev J0:List RS:=[.one]
def Gy[Lk]:Vd→Option (Uh):=fun(a0,a1,_)=>
 match Iv ()with|none=>none|some (y0,_)=>match(!y0)with
 |true=>some (false,())
 |false=>match NL ((a0.1,(a0.2.1,())),a1,())with|none=>none|some (y1,_)=>match y1 with
 |true=>some (true,())
 |false=>match AD8 ((a0.1,(a0.2.1,())),a1,())with|none=>none|some (y2,y3,y4,_)=>match AA5 ((a0.1,(a0.2.1,())),a1,())with|none=>none|some (y5,y6,y7,_)=>match Ro ((y2.1,(y2.2.1,())),(y5.1,(y5.2.1,())),())with|none=>none|some (y8,_)=>match y8 with
 |true=>match YA (y3,y6,())with|none=>none|some (y9,_)=>match y9 with
  |true=>some ((ieq y4 y7),())
  |false=>some (false,())
 |false=>some (false,())
def FO[Lk]:=fun v=>Lk.f (Gy v)
theorem No v:FO v=Gy v:=AJ _
end
end Go.Pev
end
section
namespace Go.Pev
noncomputable section
attribute [local irreducible] MC JA Nh Kx AW1 AW2 AW3 Pb WE WA X3 JC AQ many IntKind.wrap AO Am AM A6 Bi DT Jd AE BV Bt imax AU Ah
end
end Go.Pev
end
section

end
section
namespace Go.Pev.Pl
theorem Aj{n:Int}(h:-9223372036854775808≤n∧n≤9223372036854775807):IntKind.wrap .i64 n=n:=IntWalk.i64_in n h
section
variable {α:Type} [Inhabited α]
theorem Ai{d:Array α}{n:Nat}(h:n<d.size):idx d.toList (n:Int)=some d[n]! := by
 rw[idx_eq,Nh,Afv (by omega)]
 simp[h]
theorem Aq{d:Array α}{n:Nat}{z:α}(h:n<d.size):AM d.toList (AE (n:Int)) z=d[n]! := by
 simp[AM,AE,h]
theorem Cu{d:Array α}{n:Nat}{x:α}:Am d.toList (AE (n:Int)) x=(d.setIfInBounds n x).toList:=by
 simp[Am,AE]
theorem AId{d:Array α}:AO d.toList=(d.size:Int):=by simp[AO]
theorem Cz(d:Array α)(i j:Nat):(d.setIfInBounds i d[j]!).setIfInBounds j d[i]! = Go.Sort.swp d i j:=rfl
theorem size_swp(d:Array α)(i j:Nat):(Go.Sort.swp d i j).size=d.size:=by simp[Go.Sort.swp]
end
theorem AI(a b:Nat):ilt (a:Int) (b:Int)=decide (a<b):=by rw[Al];simp
theorem Bx(a b:Nat):ile (a:Int) (b:Int)=decide (a≤b):=by rw[Ap];simp
theorem QJ(a b:Nat):ieq (a:Int) (b:Int)=decide (a=b):=by
 rw[Dr]
 by_cases h:a=b
 ·simp[h]
 ·simp[h];omega
section
theorem wrap_add{a b:Nat}(h:a+b<9223372036854775808):IntKind.wrap .i64 ((a:Int)+(b:Int))=((a+b:Nat):Int):=by rw[Aj (by omega)];omega
theorem AH{a:Nat}(h:a+1<9223372036854775808):IntKind.wrap .i64 ((a:Int)+1)=((a+1:Nat):Int):=by rw[Aj (by omega)];omega
theorem ADN{a:Nat}(h:2*a<9223372036854775808):IntKind.wrap .i64 ((2:Int)*(a:Int))=((2*a:Nat):Int):=by rw[Aj (by omega)];omega
theorem ADM{a:Nat}(h:a<9223372036854775808):IntKind.wrap .i64 ((a:Int)*1)=((a*1:Nat):Int):=by rw[Aj (by omega)];omega
theorem ER{a:Nat}(h:a*2<9223372036854775808):IntKind.wrap .i64 ((a:Int)*2)=((a*2:Nat):Int):=by rw[Aj (by omega)];omega
theorem ADL{a:Nat}(h:a*3<9223372036854775808):IntKind.wrap .i64 ((a:Int)*3)=((a*3:Nat):Int):=by rw[Aj (by omega)];omega
theorem Bc{a b:Nat}(h:b≤a∧a<9223372036854775808):IntKind.wrap .i64 ((a:Int)-(b:Int))=((a-b:Nat):Int):=by rw[Aj (by omega)];omega
theorem An{a:Nat}(h:1≤a∧a<9223372036854775808):IntKind.wrap .i64 ((a:Int)-1)=((a-1:Nat):Int):=by rw[Aj (by omega)];omega
theorem AeL{a:Nat}(h:a<9223372036854775808):quo? .i64 (a:Int) 2=some ((a/2:Nat):Int):=by
 rw[Rw,Pb,Afv (by omega),Ahg (by omega),Aj (by omega)];rfl
theorem T5{a:Nat}(h:a<9223372036854775808):quo? .i64 (a:Int) 4=some ((a/4:Nat):Int):=by
 rw[Rw,Pb,Afv (by omega),Ahg (by omega),Aj (by omega)];rfl
theorem AeK{a:Nat}(h:a<9223372036854775808):quo? .i64 (a:Int) 8=some ((a/8:Nat):Int):=by
 rw[Rw,Pb,Afv (by omega),Ahg (by omega),Aj (by omega)];rfl
end
end Go.Pev.Pl
end
section
namespace Go.Pev.Pl
section
variable {α:Type}
theorem Ck{xs:List α}{n:Nat}(z:α)(h:n<xs.length):idx xs (n:Int)=some (xs.getD n z):=by
 rw[idx_eq,Nh,Afv (by omega)]
 simp[h]
theorem AHw(xs:List α)(n:Nat):idx xs (n:Int)=xs[n]? := by
 rw[idx_eq,Nh,Afv (by omega)]
 simp
theorem Eu(xs:List α):idx xs (0:Int)=xs.head? := by
 rw[idx_eq,Nh,Afv (by omega)]
 cases xs<;>rfl
theorem E1(xs:List α)(n:Nat)(z:α):AM xs (AE (n:Int)) z=xs.getD n z:=by simp[AM,AE]
theorem AA0(xs:List α)(n:Nat)(x:α):Am xs (AE (n:Int)) x=xs.set n x:=by simp[Am,AE]
theorem AN(xs:List α):AO xs=(xs.length:Int):=rfl
theorem H9(n:Nat):AE (n:Int)=n:=by simp[AE]
theorem Cf(xs ys:List α):A6 xs ys=xs++ys:=rfl
theorem Rj{xs:List α}{l h:Nat}(h1:l≤h)(h2:h≤xs.length):Bz xs (l:Int) (h:Int)=some ((xs.take h).drop l):=by
 rw[Mm,Kx,Af0 (by omega)]
 simp
end
theorem BI{n:Int}(h:n≤4294967296):fits n=true:=(H5 n).2 h
theorem ASh{α:Type}{xs:List α}(h:xs.length≤4294967296):AIp xs=some xs:=by
 rw[AEr,JC,(S9 _).2 (by rw[AN];omega)]
theorem QK{α β:Type}(xs:List α)(ys:List β):ieq (AO xs) (AO ys)=decide (xs.length=ys.length):=by rw[AN,AN,QJ]
theorem Ao(a b:Int):ieq a b=decide (a=b):=by
 rw[Dr]
 by_cases h:a=b<;>simp[h]
def walk{α β ρ:Type}(f:β→α→α⊕ρ)(fin:α→ρ):List β→α→ρ
 |[],a=>fin a
 |x::xs,a=>match f x a with
  |.inl a=>walk f fin xs a
  |.inr r=>r
theorem AUn{σ ρ α β:Type}{step:σ→Option (σ⊕ρ)}(st:Nat→α→σ)(xs:List β)(f:β→α→α⊕ρ)(fin:α→ρ)(I:Nat→α→Prop)
  (h:∀ i x a,i<xs.length→xs[i]? = some x→I i a→(∀ a',f x a = .inl a'→step (st i a)=some (.inl (st (i+1) a'))∧I (i+1) a')∧(∀ r,f x a = .inr r→step (st i a)=some (.inr r)))
  (hN:∀ a,I xs.length a→step (st xs.length a)=some (.inr (fin a))) :
  ∀ (m i n:Nat) (a:α),xs.length-i=m→i≤xs.length→m<n→I i a→AQ step n (st i a)=some (walk f fin (xs.drop i) a):=by
 intro m
 induction m with
 |zero=>
  intro i n a hk hi hn hI
  obtain⟨n,rfl⟩:∃ k,n=k+1:=⟨n-1,by omega⟩
  have e:i=xs.length:=by omega
  subst e
  rw[AQ,hN a hI,List.drop_length]
  rfl
 |succ m ih=>
  intro i n a hk hi hn hI
  obtain⟨n,rfl⟩:∃ k,n=k+1:=⟨n-1,by omega⟩
  have hi':i<xs.length:=by omega
  obtain⟨g1,g2⟩:=h i xs[i] a hi' (by simp[hi']) hI
  rw[AgX hi',walk,AQ]
  cases hf:f xs[i] a with
  |inl a'=>
   obtain⟨e,hI'⟩:=g1 a' hf
   rw[e]
   exact ih (i+1) n a' (by omega) (by omega) (by omega) hI'
  |inr r=>rw[g2 r hf]
theorem Ch{σ ρ α β:Type}{step:σ→Option (σ⊕ρ)}(st:Nat→α→σ)(xs:List β)(f:β→α→α⊕ρ)(fin:α→ρ)(I:Nat→α→Prop)(hs:xs.length<9223372036854775808)
  (h:∀ i x a,i<xs.length→xs[i]? = some x→I i a→(∀ a',f x a = .inl a'→step (st i a)=some (.inl (st (i+1) a'))∧I (i+1) a')∧(∀ r,f x a = .inr r→step (st i a)=some (.inr r)))
  (hN:∀ a,I xs.length a→step (st xs.length a)=some (.inr (fin a))) (a:α) (h0:I 0 a):AR step many (st 0 a)=some (walk f fin xs a):=by
 have hm:9223372036854775808<many:=by simp only[many];omega
 rw[Ae,AUn st xs f fin I h hN xs.length 0 many a (by omega) (by omega) (by omega) h0]
 rfl
theorem G5{α:Type}{xs ys:List α}(z:α)(hl:xs.length=ys.length)(h:∀ j,j<xs.length→xs.getD j z=ys.getD j z):xs=ys:=by
 apply Aij hl
 intro i h1 h2
 have:=h i h1
 simpa [h1,h2]using this
theorem VC{α:Type}{xs ys:List α}(z:α){j:Nat}(h:xs.getD j z≠ys.getD j z):xs≠ys:=fun e=>h (by rw[e])
theorem AVG{σ ρ:Type}{step:σ→Option (σ⊕ρ)}(st:Nat→σ)(N:Nat)(P:Nat→Bool)(rt:Nat→ρ)(rf:ρ)
  (h:∀ i,i<N→step (st i)=if P i then some (.inr (rt i))else some (.inl (st (i+1)))) (hN:step (st N)=some (.inr rf)) :
  ∀ (m i n:Nat),N-i=m→i≤N→m<n→(∃ k,i≤k∧k<N∧P k=true∧(∀ j,i≤j→j<k→P j=false)∧AQ step n (st i)=some (rt k))∨((∀ j,i≤j→j<N→P j=false)∧AQ step n (st i)=some rf):=by
 intro m
 induction m with
 |zero=>
  intro i n hk hi hn
  obtain⟨n,rfl⟩:∃ k,n=k+1:=⟨n-1,by omega⟩
  have e:i=N:=by omega
  subst e
  exact .inr ⟨fun j h1 h2=>by omega,by rw[AQ,hN]⟩
 |succ m ih=>
  intro i n hk hi hn
  obtain⟨n,rfl⟩:∃ k,n=k+1:=⟨n-1,by omega⟩
  have hi':i<N:=by omega
  cases hP:P i
  ·have e:AQ step (n+1) (st i)=AQ step n (st (i+1)):=by rw[AQ,h i hi',hP];rfl
   rw[e]
   rcases ih (i+1) n (by omega) (by omega) (by omega)with⟨k,h1,h2,h3,h4,h5⟩|⟨h1,h2⟩
   ·refine .inl ⟨k,by omega,h2,h3,fun j a1 a2 => ?_,h5⟩
    by_cases ej:j=i
    ·subst ej;exact hP
    ·exact h4 j (by omega) a2
   ·refine .inr ⟨fun j a1 a2 => ?_,h2⟩
    by_cases ej:j=i
    ·subst ej;exact hP
    ·exact h1 j (by omega) a2
  ·exact .inl ⟨i,Afw _,hi',hP,fun j a1 a2=>by omega,by rw[AQ,h i hi',hP];rfl⟩
theorem X4{σ ρ:Type}{step:σ→Option (σ⊕ρ)}(st:Nat→σ)(N:Nat)(P:Nat→Bool)(rt:Nat→ρ)(rf:ρ)(hs:N<9223372036854775808)
  (h:∀ i,i<N→step (st i)=if P i then some (.inr (rt i))else some (.inl (st (i+1)))) (hN:step (st N)=some (.inr rf)) :
  (∃ k,k<N∧P k=true∧(∀ j,j<k→P j=false)∧AR step many (st 0)=some (rt k))∨((∀ j,j<N→P j=false)∧AR step many (st 0)=some rf):=by
 have hm:9223372036854775808<many:=by simp only[many];omega
 rw[Ae]
 rcases AVG st N P rt rf h hN N 0 many rfl (by omega) (by omega)with⟨k,h1,h2,h3,h4,h5⟩|⟨h1,h2⟩
 ·exact .inl ⟨k,h2,h3,fun j a=>h4 j (by omega) a,h5⟩
 ·exact .inr ⟨fun j a=>h1 j (by omega) a,h2⟩
end Go.Pev.Pl
end
section
namespace Go.Pev.Pl
inductive Tok where
 |ver (v:Int)
 |arc (u v:Int)
 deriving DecidableEq
namespace Tok
def st:Tok→Int
 |.ver v=>v
 |.arc _ v=>v
def step(s:List Int×List Int):Tok→Option (List Int×List Int)
 |.ver v=>match s.1 with
  |w::_=>if w=v then some s else none
  |[]=>none
 |.arc u v=>match s.1 with
  |w::r=>if w=u then match r with
    |p::r'=>if p=v then some (p::r',s.2)else if v∈s.2 then none else some (v::w::r,v::s.2)
    |[]=>if v∈s.2 then none else some (v::w::r,v::s.2)
   else none
  |[]=>none
def run:List Int×List Int→List Tok→Option (List Int×List Int)
 |s,[]=>some s
 |s,t::l=>match step s t with
  |some s=>run s l
  |none=>none
theorem DK(s:List Int×List Int)(a b:List Tok):run s (a++b)=(run s a).bind fun s=>run s b:=by
 induction a generalizing s with
 |nil=>rfl
 |cons t a ih=>
  simp only[AgE,run]
  cases step s t with
  |none=>rfl
  |some s=>exact ih s
theorem B0{s s':List Int×List Int}{t:Tok}(h:step s t=some s'):
  (∃ v r,t = .ver v∧s.1=v::r∧s'=s) ∨
  (∃ u v r,t = .arc u v∧s.1=u::v::r∧s'=(v::r,s.2)) ∨
  (∃ u v r,t = .arc u v∧s.1=u::r∧r.head?≠some v∧v∉s.2∧s'=(v::u::r,v::s.2)):=by
 obtain⟨way,c⟩:=s
 cases t with
 |ver v=>
  cases way with
  |nil=>simp[step]at h
  |cons w r=>
   simp only[step]at h
   split at h
   ·rename_i e;cases h;exact .inl ⟨v,r,rfl,by simp[e],rfl⟩
   ·cases h
 |arc u v=>
  cases way with
  |nil=>simp[step]at h
  |cons w r=>
   simp only[step]at h
   split at h
   ·rename_i e
    subst e
    cases r with
    |nil=>
     simp only at h
     split at h
     ·cases h
     ·rename_i hc;cases h;exact .inr (.inr ⟨w,v,[],rfl,rfl,by simp,hc,rfl⟩)
    |cons p r=>
     simp only at h
     split at h
     ·rename_i e;subst e;cases h;exact .inr (.inl ⟨w,p,r,rfl,rfl,rfl⟩)
     ·split at h
      ·cases h
      ·rename_i e hc;cases h;exact .inr (.inr ⟨w,v,p::r,rfl,rfl,by simpa using e,hc,rfl⟩)
   ·cases h
theorem DG(v:Int)(r c:List Int):step (v::r,c) (.ver v)=some (v::r,c):=by simp[step]
theorem GJ(u v:Int)(r c:List Int):step (u::v::r,c) (.arc u v)=some (v::r,c):=by simp[step]
theorem FI(u v:Int)(r c:List Int)(h1:r.head?≠some v)(h2:v∉c):step (u::r,c) (.arc u v)=some (v::u::r,v::c):=by
 cases r with
 |nil=>simp[step,h2]
 |cons p r=>
  have:p≠v:=by simpa using h1
  simp[step,h2,this]
def Inv(s:List Int×List Int):Prop:=s.1.Nodup∧(∀ x∈s.1,x∈s.2)
theorem Xv{s s':List Int×List Int}{t:Tok}(h:step s t=some s')(hi:Inv s):Inv s'∧(∀ x∈s.2,x∈s'.2)∧s'.1.head? = some t.st:=by
 obtain⟨way,c⟩:=s
 obtain⟨h1,h2⟩:=hi
 rcases B0 h with⟨v,r,rfl,hw,rfl⟩|⟨u,v,r,rfl,hw,rfl⟩|⟨u,v,r,rfl,hw,_,hn,rfl⟩
 ·exact⟨⟨h1,h2⟩,fun x hx=>hx,by rw[hw];rfl⟩
 ·simp only at hw h1 h2
  subst hw
  refine⟨⟨?_,?_⟩,fun x hx=>hx,rfl⟩
  ·exact(AgG.1 h1).2
  ·intro x hx;exact h2 x (by simp only at hx;simp[Afr.1 hx])
 ·simp only at hw h1 h2 hn
  subst hw
  refine⟨⟨?_,?_⟩,fun x hx=>by simp[hx],rfl⟩
  ·exact AgG.2 ⟨fun hm=>hn (h2 _ hm),h1⟩
  ·intro x hx
   rcases Afr.1 hx with rfl|hx
   ·simp
   ·exact AgA _ (h2 x hx)
theorem IW{l:List Tok}:∀ {s s':List Int×List Int},run s l=some s'→Inv s→Inv s'∧(∀ x∈s.2,x∈s'.2)∧∀ t,l.getLast? = some t→s'.1.head? = some t.st:=by
 induction l with
 |nil=>intro s s' h hi;cases h;exact⟨hi,fun x hx=>hx,fun t ht=>by simp at ht⟩
 |cons t l ih=>
  intro s s' h hi
  simp only[run]at h
  split at h
  ·rename_i s1 h1
   obtain⟨q1,q2,q3⟩:=Xv h1 hi
   obtain⟨p1,p2,p3⟩:=ih h q1
   refine⟨p1,fun x hx=>p2 x (q2 x hx),fun t' ht' => ?_⟩
   cases l with
   |nil=>simp at ht';subst ht';simp only[run]at h;cases h;exact q3
   |cons y l=>exact p3 t' (by rw[AiY]at ht';exact ht')
  ·cases h
theorem HG{Z:Int→Prop}:∀ {l:List Tok} {way way' c d c2 low:List Int},run (way,c) l=some (way',d)→way≠[]→(∀ x,x∈c2↔x∈c∨Z x) →
  (∀ u v,.arc u v∈l→¬ Z v)→(∀ y∈low,Z y)→∃ d2,run (way++low,c2) l=some (way'++low,d2)∧(∀ x,x∈d2↔x∈d∨Z x):=by
 intro l
 induction l with
 |nil=>intro way way' c d c2 low h _ hc _ _;cases h;exact⟨c2,rfl,hc⟩
 |cons t l ih=>
  intro way way' c d c2 low h hne hc hz hl
  simp only[run]at h
  split at h
  ·rename_i s1 h1
   have hz':∀ u v,Tok.arc u v∈l→¬ Z v:=fun u v hm=>hz u v (AgA _ hm)
   rcases B0 h1 with⟨v,r,rfl,hw,rfl⟩|⟨u,v,r,rfl,hw,rfl⟩|⟨u,v,r,rfl,hw,hh,hn,rfl⟩
   ·simp only at hw
    subst hw
    obtain⟨d2,e1,e2⟩:=ih h hne hc hz' hl
    exact⟨d2,by simp only[run,AgE,DG];exact e1,e2⟩
   ·simp only at hw
    subst hw
    obtain⟨d2,e1,e2⟩:=ih h (by simp) hc hz' hl
    exact⟨d2,by simp only[run,AgE,GJ];exact e1,e2⟩
   ·simp only at hw hn
    subst hw
    have hzv:=hz u v (by simp)
    have hn2:v∉c2:=by rw[hc];rintro (h|h);exact hn h;exact hzv h
    have hh2:(r++low).head?≠some v:=by
     cases r with
     |nil=>
      cases low with
      |nil=>simp
      |cons y low=>
       simp only[AgJ,List.head?_cons,ne_eq,Afl]
       rintro rfl
       exact hzv (hl _ (by simp))
     |cons p r=>simpa using hh
    obtain⟨d2,e1,e2⟩:=ih (c2:=v::c2) h (by simp) (by intro x;simp only[Afr,hc,or_assoc]) hz' hl
    exact⟨d2,by simp only[run,AgE,FI _ _ _ _ hh2 hn2];exact e1,e2⟩
  ·cases h
theorem YK{z:Int}:∀ {l:List Tok} {way way' c2 d2 c:List Int},run (way,c2) l=some (way',d2)→z∉way→(∀ x,x∈c2↔x∈c∨x=z)→z∉c →
  .ver z∉l∧∃ d,run (way,c) l=some (way',d)∧(∀ x,x∈d2↔x∈d∨x=z)∧z∉d:=by
 intro l
 induction l with
 |nil=>intro way way' c2 d2 c h _ hc hz;cases h;exact⟨by simp,c,rfl,hc,hz⟩
 |cons t l ih=>
  intro way way' c2 d2 c h hzw hc hz
  simp only[run]at h
  split at h
  ·rename_i s1 h1
   rcases B0 h1 with⟨v,r,rfl,hw,rfl⟩|⟨u,v,r,rfl,hw,rfl⟩|⟨u,v,r,rfl,hw,hh,hn,rfl⟩
   ·simp only at hw
    subst hw
    obtain⟨e0,d,e1,e2,e3⟩:=ih h hzw hc hz
    refine⟨?_,d,by simp only[run,DG];exact e1,e2,e3⟩
    rintro hm
    rcases Afr.1 hm with hm|hm
    ·cases hm;exact hzw (by simp)
    ·exact e0 hm
   ·simp only at hw
    subst hw
    obtain⟨e0,d,e1,e2,e3⟩:=ih h (fun hm=>hzw (AgA _ hm)) hc hz
    refine⟨?_,d,by simp only[run,GJ];exact e1,e2,e3⟩
    rintro hm
    rcases Afr.1 hm with hm|hm
    ·cases hm
    ·exact e0 hm
   ·simp only at hw hn
    subst hw
    have hvz:v≠z:=by rintro rfl;exact hn ((hc v).2 (.inr rfl))
    have hn':v∉c:=fun hm=>hn ((hc v).2 (.inl hm))
    obtain⟨e0,d,e1,e2,e3⟩:=ih (c:=v::c) h (by intro hm;rcases Afr.1 hm with hm|hm;exact hvz hm.symm;exact hzw hm)
     (by intro x;simp only[Afr,hc,or_assoc])
     (by intro hm;rcases Afr.1 hm with hm|hm;exact hvz hm.symm;exact hz hm)
    refine⟨?_,d,by simp only[run,FI _ _ _ _ hh hn'];exact e1,e2,e3⟩
    rintro hm
    rcases Afr.1 hm with hm|hm
    ·cases hm
    ·exact e0 hm
  ·cases h
def Rot(a b:List Tok):Prop:=∃ x y,a=x++y∧b=y++x
theorem Rot.refl(a:List Tok):Rot a a:=⟨[],a,rfl,by simp⟩
theorem Rot.symm{a b:List Tok}(h:Rot a b):Rot b a:=by obtain⟨x,y,h1,h2⟩:=h;exact⟨y,x,h2,h1⟩
theorem Rot.trans{a b c:List Tok}(h:Rot a b)(g:Rot b c):Rot a c:=by
 obtain⟨x,y,rfl,h2⟩:=h
 obtain⟨z,w,h3,rfl⟩:=g
 rw[h2]at h3
 rcases List.append_eq_append_iff.1 h3 with⟨k,h4,h5⟩|⟨k,h4,h5⟩
 ·subst h4 h5
  exact⟨k,w++y,by simp,by simp⟩
 ·subst h4 h5
  exact⟨x++z,k,by simp,by simp⟩
theorem Rot.perm{a b:List Tok}(h:Rot a b):a.Perm b:=by
 obtain⟨x,y,rfl,rfl⟩:=h
 exact AhW
theorem Rot.mem{a b:List Tok}(h:Rot a b)(t:Tok):t∈a↔t∈b:=h.perm.mem_iff
theorem Rot.nodup{a b:List Tok}(h:Rot a b):a.Nodup↔b.Nodup:=h.perm.nodup_iff
theorem Rot.length{a b:List Tok}(h:Rot a b):a.length=b.length:=h.perm.length_eq
inductive T:List Tok→Prop
 |one (v:Int):T [.ver v]
 |add (x:Tok) (l:List Tok) (v:Int):T (x::l)→x.st≠v→.ver v∉x::l→T (x :: .arc x.st v :: .ver v :: .arc v x.st::l)
 |rot (a b:List Tok):T (a++b)→T (b++a)
theorem T.AQo{a b:List Tok}(h:T a)(r:Rot a b):T b:=by obtain⟨x,y,rfl,rfl⟩:=r;exact T.rot x y h
theorem T.facts{l:List Tok}(h:T l):l≠[]∧(∀ t∈l,.ver t.st∈l)∧(∀ u v,.arc u v∈l→.ver u∈l∧.ver v∈l∧.arc v u∈l∧u≠v):=by
 induction h with
 |one v=>exact⟨by simp,by simp[st],by simp⟩
 |add x l v h hne hv ih=>
  obtain⟨_,i2,i3⟩:=ih
  have hsub:∀ t,t∈x::l→t∈x::Tok.arc x.st v :: .ver v :: .arc v x.st::l:=by
   intro t ht
   rcases Afr.1 ht with rfl|ht
   ·simp
   ·simp[ht]
  have hx:=hsub _ (i2 x (by simp))
  have cases3:∀ t,t∈x::Tok.arc x.st v :: .ver v :: .arc v x.st::l→t∈x::l∨t = .arc x.st v∨t = .ver v∨t = .arc v x.st:=by
   intro t ht
   simp only[Afr]at ht ⊢
   rcases ht with h|h|h|h|h<;>simp[h]
  refine⟨by simp,fun t ht => ?_,fun a b hab => ?_⟩
  ·rcases cases3 t ht with h|rfl|rfl|rfl
   ·exact hsub _ (i2 t h)
   ·simp[st]
   ·simp[st]
   ·exact hx
  ·rcases cases3 _ hab with h|h|h|h
   ·obtain⟨p1,p2,p3,p4⟩:=i3 a b h
    exact⟨hsub _ p1,hsub _ p2,hsub _ p3,p4⟩
   ·cases h;exact⟨hx,by simp,by simp,hne⟩
   ·cases h
   ·cases h;exact⟨by simp,hx,by simp,Agb hne⟩
 |rot a b h ih=>
  obtain⟨i1,i2,i3⟩:=ih
  have hm:∀ t,t∈a++b↔t∈b++a:=fun t=>List.perm_append_comm.mem_iff
  refine⟨by intro e;simp only[List.append_eq_nil_iff]at e;exact i1 (by simp[e.1,e.2]),fun t ht=>(hm _).1 (i2 t ((hm _).2 ht)),fun u v huv => ?_⟩
  obtain⟨p1,p2,p3,p4⟩:=i3 u v ((hm _).2 huv)
  exact⟨(hm _).1 p1,(hm _).1 p2,(hm _).1 p3,p4⟩
theorem T.nodup{l:List Tok}(h:T l):l.Nodup:=by
 induction h with
 |one v=>simp
 |add x l v h hne hv ih=>
  obtain⟨_,_,f3⟩:=h.facts
  have h1:Tok.arc x.st v∉x::l:=fun hm=>hv (f3 _ _ hm).2.1
  have h2:Tok.arc v x.st∉x::l:=fun hm=>hv (f3 _ _ hm).1
  simp only[Afr,not_or]at h1 h2 hv
  have ih':=AgG.1 ih
  simp only[AgG,Afr,not_or]
  refine⟨⟨fun e=>h1.1 e.symm,fun e=>hv.1 e.symm,fun e=>h2.1 e.symm,ih'.1⟩,⟨by simp,?_,h1.2⟩,⟨by simp,hv.2⟩,h2.2,ih'.2⟩
  intro e
  simp only[Tok.arc.injEq]at e
  exact hne e.1
 |rot a b h ih=>exact(List.perm_append_comm.nodup_iff).1 ih
def C(l:List Tok):Prop:=∀ r,Rot l r→∀ t,r.getLast? = some t→∃ c,run ([t.st],[t.st]) r=some ([t.st],c)∧∀ x,x∈c↔.ver x∈l
end Tok
end Go.Pev.Pl
end
section
namespace Go.Pev.Pl.Tok
theorem getLast?_app{a b:List Tok}{t:Tok}(h:b.getLast? = some t):(a++b).getLast? = some t:=by
 rw[Ahy,h];rfl
theorem A1(s:List Int×List Int)(t:Tok)(l:List Tok):run s (t::l)=(step s t).bind fun s=>run s l:=by
 rw[run]
 cases step s t<;>rfl
theorem NY(v:Int):Inv ([v],[v]):=⟨by simp,by simp⟩
theorem T.toC{l:List Tok}(h:T l):C l:=by
 induction h with
 |one v=>
  intro r hr t ht
  have:r=[.ver v]:=List.perm_singleton.1 hr.perm.symm
  subst this
  simp at ht
  subst ht
  exact⟨[v],by simp[run,st,step],by simp⟩
 |rot a b h ih=>
  intro r hr t ht
  obtain⟨c,h1,h2⟩:=ih r (Rot.trans ⟨a,b,rfl,rfl⟩ hr) t ht
  exact⟨c,h1,fun x=>(h2 x).trans (List.perm_append_comm.mem_iff)⟩
 |add x l v h hne hv ih=>
  obtain⟨_,f2,f3⟩:=h.facts
  have hnz:∀ u w,Tok.arc u w∈x::l→¬ (w=v):=fun u w hm e=>hv (e▸(f3 u w hm).2.1)
  have fin:∀ {d2 c:List Int},(∀ y,y∈d2↔y∈c∨y=v)→(∀ y,y∈c↔.ver y∈x::l)→∀ y,y∈d2↔Tok.ver y∈x :: .arc x.st v :: .ver v :: .arc v x.st::l:=by
   intro d2 c e1 e2 y
   rw[e1,e2]
   simp only[Afr,reduceCtorEq,false_or,Tok.ver.injEq]
   constructor
   ·rintro ((h|h)|h)<;>simp[h]
   ·rintro (h|h|h)<;>simp[h]
  have triple:∀ {w' c1:List Int},Inv (x.st::w',c1)→v∉c1→∀ p,run (x.st::w',c1) (.arc x.st v :: .ver v :: .arc v x.st::p)=run (x.st::w',v::c1) p:=by
   intro w' c1 hi hn p
   have hh:w'.head?≠some v:=by
    intro e
    exact hn (hi.2 v (AgA _ (List.mem_of_head? e)))
   rw[A1,FI _ _ _ _ hh hn,AgS,A1,DG,AgS,A1,GJ,AgS]
  have G:∀ q1 p1,l=p1++q1→∀ t,(q1++x :: .arc x.st v :: .ver v :: .arc v x.st::p1).getLast? = some t→∃ c,run ([t.st],[t.st]) (q1++x :: .arc x.st v :: .ver v :: .arc v x.st::p1)=some ([t.st],c)∧∀ y,y∈c↔.ver y∈x :: .arc x.st v :: .ver v :: .arc v x.st::l:=by
   intro q1 p1 hl t ht
   have hrot:Rot (x::l) (q1++x::p1):=⟨x::p1,q1,by simp[hl],rfl⟩
   have ht0:∃ t0,(q1++x::p1).getLast? = some t0∧t0.st=t.st:=by
    cases p1 with
    |nil=>
     refine⟨x,getLast?_app (by simp),?_⟩
     rw[show q1++[x,Tok.arc x.st v,.ver v,.arc v x.st]=(q1++[x,Tok.arc x.st v,.ver v])++[Tok.arc v x.st] by simp,Ahc]at ht
     cases ht;rfl
    |cons y p1=>
     refine⟨t,?_,rfl⟩
     rw[show q1++x::Tok.arc x.st v :: .ver v :: .arc v x.st::y::p1=(q1++[x,Tok.arc x.st v,.ver v,.arc v x.st])++y::p1 by simp,Ahy]at ht
     rw[show q1++x::y::p1=(q1++[x])++y::p1 by simp,Ahy]
     exact ht
   obtain⟨t0,e0,e1⟩:=ht0
   obtain⟨c,h1,h2⟩:=ih _ hrot t0 e0
   rw[e1,show q1++x::p1=(q1++[x])++p1 by simp,DK,AgR]at h1
   obtain⟨⟨w1,c1⟩,g1,g2⟩:=h1
   obtain⟨i1,i2,i3⟩:=IW g1 (NY _)
   obtain⟨j1,j2,j3⟩:=IW g2 i1
   have i3':=i3 x (by simp)
   simp only at i3'
   cases w1 with
   |nil=>simp at i3'
   |cons w0 w'=>
    simp at i3'
    subst i3'
    have hn:v∉c1:=fun hm=>hv ((h2 v).1 (j2 v hm))
    obtain⟨d2,k1,k2⟩:=HG (Z:=(· = v)) (c2:=v::c1) (low:=[]) g2 (by simp) (fun y=>by simp[or_comm]) (fun u w hm=>hnz u w (by simp[hl,hm])) (by simp)
    refine⟨d2,?_,fin k2 h2⟩
    rw[show q1++x::Tok.arc x.st v :: .ver v :: .arc v x.st::p1=(q1++[x])++Tok.arc x.st v :: .ver v :: .arc v x.st::p1 by simp,DK,g1,AgS,triple i1 hn]
    simpa using k1
  intro r hr t ht
  obtain⟨p,q,hpq,rfl⟩:=hr
  have base:∀ t0:Tok,(l++[x]).getLast? = some t0→t0=x:=fun t0 h=>by rw[Ahc]at h;exact(Ag9 h).symm
  obtain⟨c,h1,h2⟩:=ih (l++[x]) ⟨[x],l,rfl,rfl⟩ x (by simp)
  match p with
  |[]=>
   simp only[AgJ]at hpq
   subst hpq
   have:=G [] l (by simp) t (by simpa using ht)
   simpa using this
  |[y]=>
   simp only[AgE,AgJ,AgB]at hpq
   obtain⟨rfl,rfl⟩:=hpq
   have:t=x:=by
    rw[Ahc]at ht
    exact(Ag9 ht).symm
   subst this
   have hn:v∉[t.st]:=by simp;exact Agb hne
   obtain⟨d2,k1,k2⟩:=HG (Z:=(· = v)) (c2:=[v,t.st]) (low:=[]) h1 (by simp) (fun y=>by simp[or_comm]) (fun u w hm=>hnz u w (by simpa [or_comm]using hm)) (by simp)
   refine⟨d2,?_,fin k2 h2⟩
   rw[show(Tok.arc t.st v :: .ver v :: .arc v t.st::l)++[t]=Tok.arc t.st v :: .ver v :: .arc v t.st::(l++[t]) by simp,triple (NY _) hn]
   simpa using k1
  |[y,z]=>
   simp only[AgE,AgJ,AgB]at hpq
   obtain⟨rfl,rfl,rfl⟩:=hpq
   have:t = .arc x.st v:=by
    rw[show(Tok.ver v :: .arc v x.st::l)++[x,.arc x.st v]=(Tok.ver v :: .arc v x.st::l++[x])++[.arc x.st v] by simp,Ahc]at ht
    exact(Ag9 ht).symm
   subst this
   obtain⟨d2,k1,k2⟩:=HG (Z:=(· = v)) (c2:=[x.st,v]) (low:=[v]) h1 (by simp) (fun y=>by simp) (fun u w hm=>hnz u w (by simpa [or_comm]using hm)) (by simp)
   refine⟨d2,?_,fin k2 h2⟩
   rw[show(Tok.ver v :: .arc v x.st::l)++[x,.arc x.st v]=Tok.ver v :: .arc v x.st::((l++[x])++[.arc x.st v]) by simp]
   rw[A1]
   show(step ([v],[v]) _).bind _=_
   rw[DG,AgS,A1,FI _ _ _ _ (by simp) (by simp;exact hne),AgS,DK]
   rw[show([x.st]++[v]:List Int)=[x.st,v]from rfl]at k1
   rw[k1,AgS,A1,GJ]
   rfl
  |[y,z,w]=>
   simp only[AgE,AgJ,AgB]at hpq
   obtain⟨rfl,rfl,rfl,rfl⟩:=hpq
   have:t = .ver v:=by
    rw[show(Tok.arc v x.st::l)++[x,.arc x.st v,.ver v]=(Tok.arc v x.st::l++[x,.arc x.st v])++[.ver v] by simp,Ahc]at ht
    exact(Ag9 ht).symm
   subst this
   obtain⟨d2,k1,k2⟩:=HG (Z:=(· = v)) (c2:=[x.st,v]) (low:=[v]) h1 (by simp) (fun y=>by simp) (fun u w hm=>hnz u w (by simpa [or_comm]using hm)) (by simp)
   refine⟨d2,?_,fin k2 h2⟩
   rw[show(Tok.arc v x.st::l)++[x,.arc x.st v,.ver v]=Tok.arc v x.st::((l++[x])++[.arc x.st v,.ver v]) by simp]
   rw[A1]
   show(step ([v],[v]) _).bind _=_
   rw[FI _ _ _ _ (by simp) (by simp;exact hne),AgS,DK]
   rw[show([x.st]++[v]:List Int)=[x.st,v]from rfl]at k1
   rw[k1,AgS,A1,GJ,AgS,A1,DG]
   rfl
  |y::z::w::w2::p1=>
   simp only[AgE,AgB]at hpq
   obtain⟨rfl,rfl,rfl,rfl,rfl⟩:=hpq
   exact G q p1 rfl t ht
def comp(P:List Tok):List Int→List Tok
 |[]=>[]
 |w::r=>(if .ver w∈P then []else [.ver w])++match r with
  |[]=>[]
  |p::_=>.arc w p::comp P r
theorem O3{P P':List Tok}:∀ {way:List Int},(∀ w∈way,(Tok.ver w∈P↔Tok.ver w∈P'))→comp P way=comp P' way:=by
 intro way
 induction way with
 |nil=>intro _;rfl
 |cons w r ih=>
  intro h
  have h1:=h w (by simp)
  have h2:=ih fun x hx=>h x (AgA _ hx)
  simp only[comp,h1,h2]
theorem AbR:∀ (M P:List Tok) (way c c':List Int) (r:Int) (t0:Tok),run (way,c) M=some ([r],c')→Inv (way,c)→P.getLast? = some t0→way.head? = some t0.st →
  T (P++comp P way)→(∀ x,.ver x∈P++comp P way→x∈c)→(∀ x∈c',Tok.ver x∈P++M)→(P++M).Nodup→T (P++M):=by
 intro M
 induction M with
 |nil=>
  intro P way c c' r t0 h hi hl hh hT hc hc' hn
  cases h
  have:=hc' r (hi.2 r (by simp))
  rw[Agw]at this
  simpa [comp,this]using hT
 |cons t M ih=>
  intro P way c c' r t0 h hi hl hh hT hc hc' hn
  rw[A1,AgR]at h
  obtain⟨⟨w1,c1⟩,h1,h2⟩:=h
  obtain⟨hi1,hsub,hhd⟩:=Xv h1 hi
  have asso:P++t::M=(P++[t])++M:=by simp
  rw[asso]at hn hc' ⊢
  have hnt:t∉P:=by
   have:=(Ahq.1 (Ahq.1 hn).1)
   intro hm
   exact this.2.2 t hm t (by simp) rfl
  rcases B0 h1 with⟨v,rr,rfl,hw,e⟩|⟨u,v,rr,rfl,hw,e⟩|⟨u,v,rr,rfl,hw,hh2,hn2,e⟩
  ·cases e
   simp only at hw
   subst hw
   have key:comp P (v::rr) = .ver v::comp (P++[.ver v]) (v::rr):=by
    have e2:comp P rr=comp (P++[.ver v]) rr:=O3 fun w hwm=>by
     have:w≠v:=by rintro rfl;exact(AgG.1 hi.1).1 hwm
     simp[this]
    simp only[comp,hnt,e2]
    simp
   rw[key]at hT hc
   exact ih _ _ _ _ _ (.ver v) h2 hi1 (by simp) hhd (by simpa using hT) (fun x hx=>hc x (by simpa using hx)) hc' hn
  ·cases e
   simp only at hw
   subst hw
   have hu:Tok.ver u∈P:=by
    have hun:=(AgG.1 hi.1).1
    obtain⟨g1,_⟩:=YK (z:=u) (c:=c.filter (·≠u)) h2 hun (fun x=>by
     simp only[AgW,Afn]
     constructor
     ·intro h
      by_cases e:x=u
      ·exact .inr e
      ·exact .inl ⟨h,by simpa using e⟩
     ·rintro (h|rfl)
      ·exact h.1
      ·exact hi.2 x (by simp)) (by simp)
    have hmono:=(IW h2 hi1).2.1 u (hi.2 u (by simp))
    have:=hc' u hmono
    simp only[Afo,AgF,reduceCtorEq,AiK]at this
    rcases this with h|h
    ·exact h
    ·exact absurd h g1
   have key:comp P (u::v::rr) = .arc u v::comp (P++[.arc u v]) (v::rr):=by
    have e2:comp P (v::rr)=comp (P++[.arc u v]) (v::rr):=O3 fun w hwm=>by simp
    rw[← e2]
    simp only[comp,hu]
    simp
   rw[key]at hT hc
   exact ih _ _ _ _ _ (.arc u v) h2 hi1 (by simp) hhd (by simpa using hT) (fun x hx=>hc x (by simpa using hx)) hc' hn
  ·cases e
   simp only at hw hn2
   subst hw
   have hu:u=t0.st:=by simpa using hh
   subst hu
   have hvc:∀ x,Tok.ver x∈P++comp P (t0.st::rr)→x≠v:=by rintro x hx rfl;exact hn2 (hc x hx)
   have hvP:Tok.ver v∉P++comp P (t0.st::rr):=fun hm=>hvc v hm rfl
   have hvP':Tok.ver v∉P:=fun hm=>hvP (by simp[hm])
   have key:comp (P++[.arc t0.st v]) (v::t0.st::rr) = .ver v :: .arc v t0.st::comp P (t0.st::rr):=by
    have e2:comp (P++[.arc t0.st v]) (t0.st::rr)=comp P (t0.st::rr):=O3 fun w hwm=>by simp
    rw[← e2]
    simp only[comp,Afo,hvP',AgF,reduceCtorEq,AiK,Af1]
    rfl
   have hne:t0.st≠v:=by rintro e;exact hn2 (e▸hi.2 t0.st (by simp))
   refine ih _ _ _ _ _ (.arc t0.st v) h2 hi1 (by simp) hhd ?_ ?_ hc' hn
   ·rw[key]
    obtain⟨P0,rfl⟩:∃ P0,P=P0++[t0]:=List.getLast?_eq_some_iff.1 hl
    have hT1:T (t0::(comp (P0++[t0]) (t0.st::rr)++P0)):=hT.AQo ⟨P0,t0::comp (P0++[t0]) (t0.st::rr),by simp,by simp⟩
    have hT2:=T.add t0 _ v hT1 hne (by
     intro hm
     apply hvP
     simp only[Afo,Afr,Ahi,AiK]at hm ⊢
     rcases hm with h|h|h<;>simp[h])
    exact hT2.AQo ⟨t0 :: .arc t0.st v :: .ver v :: .arc v t0.st::comp (P0++[t0]) (t0.st::rr),P0,by simp,by simp⟩
   ·intro x hx
    rw[key]at hx
    simp only[Afo,Afr,Ahi,AiK,reduceCtorEq,Tok.ver.injEq,false_or]at hx
    rcases hx with h|h|h
    ·exact AgA _ (hc x (by simp[h]))
    ·simp[h]
    ·exact AgA _ (hc x (by simp[h]))
def A0(l:List Tok):Prop:=∃ r l' c,l = .ver r::l'∧run ([r],[r]) l=some ([r],c)∧∀ x∈c,Tok.ver x∈l
theorem A0.toT{l:List Tok}(h:A0 l)(hn:l.Nodup):T l:=by
 obtain⟨r,l',c,rfl,h1,h2⟩:=h
 rw[A1,DG,AgS]at h1
 have:=AbR l' [.ver r] [r] [r] c r (.ver r) h1 (NY r) (by simp) (by simp[st]) (by simp[comp];exact T.one r) (by simp[comp]) (by simpa using h2) (by simpa using hn)
 simpa using this
theorem T.AFc{r:Int}{l:List Tok}(h:T (.ver r::l)):A0 (.ver r::l):=by
 obtain⟨t,ht⟩:∃ t,(Tok.ver r::l).getLast? = some t:=⟨_,AiB (by simp)⟩
 obtain⟨c,h1,h2⟩:=h.toC _ (Rot.refl _) t ht
 have h1':=h1
 rw[A1,AgR]at h1'
 obtain⟨s,g1,_⟩:=h1'
 have e:t.st=r:=by
  simp only[step]at g1
  split at g1
  ·assumption
  ·cases g1
 rw[e]at h1
 exact⟨r,l,c,rfl,h1,fun x hx=>(h2 x).1 hx⟩
end Go.Pev.Pl.Tok
end
section
namespace Go.Pev.Pl.Tok
theorem T.ANv{l:List Tok}(h:T l):∃ v r,Rot l (.ver v::r):=by
 obtain⟨f1,f2,_⟩:=h.facts
 obtain⟨t,ht⟩:=List.exists_mem_of_ne_nil l f1
 obtain⟨a,b,rfl⟩:=AiS (f2 t ht)
 exact⟨t.st,b++a,a,.ver t.st::b,rfl,rfl⟩
theorem T.less{x:Tok}{v:Int}{l:List Tok}(h:T (x :: .arc x.st v :: .ver v :: .arc v x.st::l)):T (x::l):=by
 have hC:=h.toC
 have hn:=h.nodup
 obtain⟨_,f2,f3⟩:=h.facts
 have hne:x.st≠v:=(f3 x.st v (by simp)).2.2.2
 have hvl:Tok.ver v∉l:=by
  intro hm
  simp only[AgG,Afr,not_or]at hn
  exact hn.2.2.1.2 hm
 have hvx:x≠.ver v:=by rintro rfl;exact hne rfl
 have key:∀ p q,l=p++q→∀ t0,(q++x::p).getLast? = some t0→∃ c,run ([t0.st],[t0.st]) (q++x::p)=some ([t0.st],c)∧∀ y,y∈c↔.ver y∈x::l:=by
  intro p q hl t0 ht0
  have hrot:Rot (x :: .arc x.st v :: .ver v :: .arc v x.st::l) (q++x :: .arc x.st v :: .ver v :: .arc v x.st::p):=⟨x :: .arc x.st v :: .ver v :: .arc v x.st::p,q,by simp[hl],rfl⟩
  have ht:∃ t,(q++x::Tok.arc x.st v :: .ver v :: .arc v x.st::p).getLast? = some t∧t.st=t0.st:=by
   cases p with
   |nil=>
    rw[Ahc]at ht0
    cases ht0
    exact⟨.arc v x.st,by rw[show q++[x,Tok.arc x.st v,.ver v,.arc v x.st]=(q++[x,Tok.arc x.st v,.ver v])++[Tok.arc v x.st] by simp,Ahc],rfl⟩
   |cons y p=>
    refine⟨t0,?_,rfl⟩
    rw[show q++x::Tok.arc x.st v :: .ver v :: .arc v x.st::y::p=(q++[x,Tok.arc x.st v,.ver v,.arc v x.st])++y::p by simp,Ahy]
    rw[show q++x::y::p=(q++[x])++y::p by simp,Ahy]at ht0
    exact ht0
  obtain⟨t,e0,e1⟩:=ht
  obtain⟨c,h1,h2⟩:=hC _ hrot t e0
  rw[e1,show q++x::Tok.arc x.st v :: .ver v :: .arc v x.st::p=(q++[x])++Tok.arc x.st v :: .ver v :: .arc v x.st::p by simp,DK,AgR]at h1
  obtain⟨⟨w1,c1⟩,g1,g2⟩:=h1
  obtain⟨i1,i2,i3⟩:=IW g1 (NY _)
  have i3':=i3 x (by simp)
  simp only at i3'
  cases w1 with
  |nil=>simp at i3'
  |cons w0 w'=>
   simp at i3'
   subst i3'
   rw[A1,AgR]at g2
   obtain⟨s1,k1,k2⟩:=g2
   rcases B0 k1 with⟨v',r,e,_⟩|⟨u',v',r,e,hw,rfl⟩|⟨u',v',r,e,hw,hh,hnc,rfl⟩
   ·cases e
   ·cases e
    simp only[AgB]at hw
    obtain⟨_,rfl⟩:=hw
    exfalso
    rw[A1,DG,AgS,A1,AgR]at k2
    obtain⟨s2,m1,_⟩:=k2
    have hnd:=i1.1
    rcases B0 m1 with⟨v',r',e,_⟩|⟨u',v',r',e,hw,rfl⟩|⟨u',v',r',e,hw,hh,hnc,rfl⟩
    ·cases e
    ·cases e
     simp only[AgB]at hw
     obtain⟨_,rfl⟩:=hw
     simp at hnd
    ·cases e
     exact hnc (i1.2 _ (by simp))
   ·cases e
    simp only[AgB,AhT]at hw
    subst hw
    simp only at hnc
    rw[A1,DG,AgS,A1,GJ,AgS]at k2
    have hvw:v∉x.st::w':=fun hm=>hnc (i1.2 v hm)
    obtain⟨_,d,m1,m2,m3⟩:=YK (z:=v) (c:=c1) k2 hvw (fun y=>by simp[or_comm]) hnc
    refine⟨d,?_,fun y => ?_⟩
    ·rw[show q++x::p=(q++[x])++p by simp,DK,g1,AgS,m1]
    ·have q1:=m2 y
     have q2:=h2 y
     by_cases e:y=v
     ·subst e
      refine⟨fun h=>absurd h m3,fun h => ?_⟩
      rcases Afr.1 h with h|h
      ·exact absurd h.symm hvx
      ·exact absurd h hvl
     ·rw[q2]at q1
      simp only[e,AiK]at q1
      rw[← q1]
      simp[e]
 obtain⟨s,b,a,hsb⟩:∃ s a b,x::l=a ++ .ver s::b:=by
  have:=f2 x (by simp)
  simp only[Afr,reduceCtorEq,false_or,Tok.ver.injEq,hne]at this
  rcases this with h|h
  ·exact⟨x.st,[],l,by rw[← h];rfl⟩
  ·obtain⟨a,b,rfl⟩:=AiS h
   exact⟨x.st,x::a,b,rfl⟩
 have hg:A0 (.ver s::a++b):=by
  have hr:∃ p q,l=p++q∧q++x::p = .ver s::a++b:=by
   cases b with
   |nil=>
    simp only[AgJ,AgB]at hsb
    obtain⟨rfl,rfl⟩:=hsb
    exact⟨l,[],by simp,by simp⟩
   |cons y b=>
    simp only[AgE,AgB]at hsb
    obtain⟨rfl,rfl⟩:=hsb
    exact⟨b,.ver s::a,rfl,by simp⟩
  obtain⟨p,q,hl,e⟩:=hr
  obtain⟨t0,ht0⟩:∃ t0,(q++x::p).getLast? = some t0:=⟨_,AiB (by simp)⟩
  obtain⟨c,h1,h2⟩:=key p q hl t0 ht0
  rw[e]at h1
  have h1':=h1
  rw[AgE,A1,AgR]at h1'
  obtain⟨s',g1,_⟩:=h1'
  have e':t0.st=s:=by
   simp only[step]at g1
   split at g1
   ·assumption
   ·cases g1
  rw[e']at h1
  refine⟨s,a++b,c,rfl,h1,fun y hy => ?_⟩
  have:=(h2 y).1 hy
  rw[hsb]at this
  simp only[Afo,Afr]at this ⊢
  rcases this with h|h|h<;>simp[h]
 have hrot2:Rot (.ver s::a++b) (x::l):=⟨.ver s::a,b,rfl,hsb⟩
 have hnx:(x::l).Nodup:=by
  simp only[AgG,Afr,not_or]at hn ⊢
  exact⟨hn.1.2.2.2,hn.2.2.2.2⟩
 exact(hg.toT (hrot2.nodup.2 hnx)).AQo hrot2
theorem T.leaf{l:List Tok}(h:T l):(∃ v,l=[.ver v])∨∃ x v r,Rot l (x :: .arc x.st v :: .ver v :: .arc v x.st::r):=by
 induction h with
 |one v=>exact .inl ⟨v,rfl⟩
 |add x l v h hne hv ih=>exact .inr ⟨x,v,l,Rot.refl _⟩
 |rot a b h ih=>
  rcases ih with⟨v,e⟩|⟨x,v,r,hr⟩
  ·have hr:Rot [.ver v] (b++a):=⟨a,b,e.symm,rfl⟩
   exact .inl ⟨v,List.perm_singleton.1 hr.perm.symm⟩
  ·exact .inr ⟨x,v,r,Rot.trans ⟨b,a,rfl,rfl⟩ hr⟩
def LJ:List Tok→List Int
 |[]=>[]
 |.ver v::l=>v::LJ l
 |.arc _ _::l=>LJ l
theorem P6{v:Int}:∀ {l:List Tok},v∈LJ l↔.ver v∈l
 |[]=>by simp[LJ]
 |.ver w::l=>by simp[LJ,P6 (l:=l)]
 |.arc _ _::l=>by simp[LJ,P6 (l:=l)]
theorem AJi(a b:List Tok):LJ (a++b)=LJ a++LJ b:=by
 induction a with
 |nil=>rfl
 |cons t a ih=>cases t<;>simp[LJ,ih]
theorem T.len{l:List Tok}(h:T l):l.length+2=3*(LJ l).length:=by
 induction h with
 |one v=>rfl
 |add x l v h hne hv ih=>
  cases x<;>simp[LJ]at ih ⊢<;>omega
 |rot a b h ih=>
  simp only[AJi,Afs]at ih ⊢
  omega
end Go.Pev.Pl.Tok
end
section
namespace Go.Pev.Pl
section
variable {β:Type}
def BA(es:List (Int×β)):List Int:=es.map Prod.fst
theorem Su(es:List (Int×β)):(BA es).length=es.length:=by simp[BA]
theorem G0(es:List (Int×β))(k:Int)(v:β)(j:Int):AU (Ah es k v) j=if j=k then some v else AU es j:=by
 induction es with
 |nil=>
  simp only[Ah,AU]
  by_cases h:k=j
  ·simp[h]
  ·simp[h,Agb h]
 |cons e es ih=>
  obtain⟨a,b⟩:=e
  simp only[Ah]
  by_cases h:a=k
  ·subst h
   simp only[AgC,AU]
   by_cases h2:a=j
   ·simp[h2]
   ·simp[h2,Agb h2]
  ·simp only[h,Af1,AU,ih]
   by_cases h2:a=j
   ·subst h2;simp[h]
   ·simp[h2]
theorem OZ(es:List (Int×β))(k:Int)(v:β):BA (Ah es k v)=if k∈BA es then BA es else BA es++[k]:=by
 induction es with
 |nil=>rfl
 |cons e es ih=>
  obtain⟨a,b⟩:=e
  simp only[Ah]
  by_cases h:a=k
  ·subst h;simp[BA]
  ·simp only[h,Af1]
   show a::BA (Ah es k v)=_
   rw[ih]
   have:k∈BA ((a,b)::es)↔k∈BA es:=by simp[BA,Agb h]
   simp only[this]
   split<;>rfl
theorem VE(es:List (Int×β))(k:Int):AU es k=none↔k∉BA es:=by
 induction es with
 |nil=>simp[AU,BA]
 |cons e es ih=>
  obtain⟨a,b⟩:=e
  simp only[AU]
  by_cases h:a=k
  ·simp[h,BA]
  ·simp only[h,Af1,ih]
   simp[BA,Agb h]
theorem Et(es:List (Int×β))(k:Int)(v:β)(j:Int):j∈BA (Ah es k v)↔j=k∨j∈BA es:=by
 rw[OZ]
 split
 ·rename_i h
  constructor
  ·exact .inr
  ·rintro (rfl|h2)
   ·exact h
   ·exact h2
 ·simp[or_comm]
theorem JO{es:List (Int×β)}(h:(BA es).Nodup)(k:Int)(v:β):(BA (Ah es k v)).Nodup:=by
 rw[OZ]
 split
 ·exact h
 ·rename_i hk
  rw[Ahq]
  exact⟨h,by simp,fun a ha b hb=>by rintro rfl;simp at hb;exact hk (hb▸ha)⟩
end
def dd:List Int→List Int→List Int
 |ks,[]=>ks
 |ks,x::xs=>dd (if x∈ks then ks else ks++[x]) xs
theorem AfD:∀ (xs ks:List Int),(dd ks xs).length≤ks.length+xs.length∧((dd ks xs).length=ks.length+xs.length↔xs.Nodup∧∀ x∈xs,x∉ks):=by
 intro xs
 induction xs with
 |nil=>intro ks;simp[dd]
 |cons x xs ih=>
  intro ks
  rw[dd]
  by_cases h:x∈ks
  ·obtain⟨h1,_⟩:=ih ks
   rw[Af0 h]
   refine⟨by simp only[Afu];omega,?_,fun hh=>absurd h (hh.2 x (by simp))⟩
   intro e
   simp only[Afu]at e
   omega
  ·obtain⟨h1,h2⟩:=ih (ks++[x])
   rw[Afv h]
   simp only[Afs,Afu,Af6,Ago]at h1 h2 ⊢
   refine⟨by omega,?_⟩
   rw[show ks.length+(xs.length+1)=ks.length+1+xs.length by omega,h2,AgG]
   constructor
   ·rintro⟨g1,g2⟩
    refine⟨⟨fun hx=>g2 x hx (by simp),g1⟩,fun y hy => ?_⟩
    rcases Afr.1 hy with rfl|hy
    ·exact h
    ·exact fun hk=>g2 y hy (by simp[hk])
   ·rintro⟨⟨g1,g2⟩,g3⟩
    refine⟨g2,fun y hy hk => ?_⟩
    simp only[Afo,AgF]at hk
    rcases hk with hk|rfl
    ·exact g3 y (by simp[hy]) hk
    ·exact g1 hy
theorem Abq(xs:List Int):(dd [] xs).length=xs.length↔xs.Nodup:=by
 have:=(AfD xs []).2
 simpa using this
theorem BL{α β ρ:Type}(g:β→α→α)(fin:α→ρ):∀ (xs:List β) (a:α),walk (fun x a=>.inl (g x a)) fin xs a=fin (xs.foldl (fun a x=>g x a) a):=by
 intro xs
 induction xs with
 |nil=>intro a;rfl
 |cons x xs ih=>intro a;rw[walk,Agg];exact ih _
theorem Ip{σ ρ β:Type}{step:σ→Option (σ⊕ρ)}(st:Nat→σ)(xs:List β)(P:β→Bool)(rt:Nat→ρ)(rf:ρ)(hs:xs.length<9223372036854775808)
  (h:∀ i x,i<xs.length→xs[i]? = some x→step (st i)=if P x then some (.inr (rt i))else some (.inl (st (i+1)))) (hN:step (st xs.length)=some (.inr rf)) :
  AR step many (st 0)=some (if xs.any P then rt (xs.findIdx P)else rf):=by
 have key:∀ (l:List β) (a:Nat),walk (fun x (a:Nat)=>if P x then .inr (rt a)else .inl (a+1)) (fun _=>rf) l a=if l.any P then rt (a+l.findIdx P)else rf:=by
  intro l
  induction l with
  |nil=>intro a;rfl
  |cons x l ih=>
   intro a
   rw[walk,List.any_cons,AiD]
   by_cases hx:P x=true
   ·simp[hx]
   ·simp only[hx,Afz,Af1,Bool.false_or,cond_false]
    rw[ih,show a+1+List.findIdx P l=a+(List.findIdx P l+1) by omega]
 have:=Ch (step:=step) (fun i (a:Nat)=>st a) xs (fun x (a:Nat)=>if P x then .inr (rt a)else .inl (a+1)) (fun _=>rf) (fun i a=>a=i) hs
  (fun i x a hi hx ha=>by
   subst ha
   refine⟨fun a' h' => ?_,fun r h' => ?_⟩
   ·rw[h a x hi hx]
    split at h'
    ·cases h'
    ·rename_i hp
     cases h'
     simp[hp]
   ·rw[h a x hi hx]
    split at h'
    ·rename_i hp
     cases h'
     simp[hp]
    ·cases h')
  (fun a ha=>by subst ha;exact hN) 0 rfl
 rw[this,key,Ago]
theorem Ag{α:Type}{xs:List α}{n:Nat}{x:α}(h:xs[n]? = some x):idx xs (n:Int)=some x:=by rw[AHw,h]
theorem Ce{α:Type}{xs:List α}{n:Nat}{x z:α}(h:xs[n]? = some x):AM xs (AE (n:Int)) z=x:=by
 rw[E1,Afm,h];rfl
theorem Jv{α:Type}{xs:List α}{h:Nat}(h2:h≤xs.length):Bz xs (0:Int) (h:Int)=some (xs.take h):=by
 have:=Rj (xs:=xs) (l:=0) (Ah9 h) h2
 simpa using this
theorem Du{α:Type}{xs:List α}{l:Nat}(h1:l≤xs.length):Bz xs (l:Int) (AO xs)=some (xs.drop l):=by
 have:=Rj (xs:=xs) h1 (Afw _)
 rw[Ags]at this
 exact this
def pos(xs:List Int)(t:Int):Int:=if t∈xs then((xs.findIdx (fun x=>decide (x=t)):Nat):Int)else -1
theorem AJE(xs:List Int)(t:Int):(xs.any fun x=>decide (x=t))=decide (t∈xs):=by
 induction xs with
 |nil=>rfl
 |cons x xs ih=>simp only[List.any_cons,ih,Afr,Bool.decide_or];congr 1;exact AhM.2 eq_comm
theorem AGS{xs:List Int}{t:Int}(h:t∈xs):∃ k:Nat,pos xs t=(k:Int)∧k<xs.length∧xs[k]? = some t∧xs=xs.take k++t::xs.drop (k+1)∧t∉xs.take k:=by
 have hk:xs.findIdx (fun x=>decide (x=t))<xs.length:=AhP.2 ⟨t,h,by simp⟩
 have hg:xs[xs.findIdx (fun x=>decide (x=t))]'hk=t:=by
  have:=List.findIdx_getElem (xs:=xs) (p:=fun x=>decide (x=t)) (w:=hk)
  simpa using this
 refine⟨_,by rw[pos,Af0 h],hk,by rw[Afp hk,hg],?_,?_⟩
 ·conv=>lhs;rw[← Agc (xs.findIdx (fun x=>decide (x=t))) xs,AgX hk,hg]
 ·intro hm
  obtain⟨j,hj,e⟩:=Ahn.1 hm
  have:=List.not_of_lt_findIdx (p:=fun x=>decide (x=t)) (xs:=xs) (i:=j) (by omega)
  simp[e]at this
theorem Pe{xs:List Int}{t:Int}(h:t∉xs):pos xs t = -1:=by rw[pos,Afv h]
end Go.Pev.Pl
end
