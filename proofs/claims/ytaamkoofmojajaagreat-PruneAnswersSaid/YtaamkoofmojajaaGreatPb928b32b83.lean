/- A part of the proofs of this seat: G24M1 G24M2 G24M3 G24M4 G24M5 G24M6 G24M Pln PlnB T18a T18b T18c PlnM. -/
import Derived.Test.YtaamkoofmojajaaGreatP22f4213abc
import Derived.IntWalk
import Derived.Sort.AssemblyPlain
set_option linter.unusedVariables false
set_option linter.unusedSimpArgs false
set_option linter.unusedSectionVars false
set_option maxRecDepth 100000
section
namespace Go.Pev
noncomputable section
attribute [local irreducible] MA JB Ng Kv AWT AWU AWV Pc WH WC X1 JD AQ many IntKind.wrap AO Am AM A4 Bi DR Je AE BV Bt imax AT Af
abbrev U0:Ty:=(.int .i64)
abbrev U1:Ty:=(.prod U0 (.prod U0 (.prod U0 (.prod .bool .unit))))
abbrev U2:=(Int×Int×Int×Bool×Unit)
abbrev U3:=(Int×Int×Unit)
abbrev U4:=(List Int)
abbrev U5:Ty:=(.prod U0 (.prod U0 .unit))
abbrev U6:Ty:=(.slice U0)
abbrev U7:=(List Int×Int×Int×Int×Unit)
abbrev U8:=(List U4×Int×Int×Int×Unit)
abbrev U9:=(Int×Unit)
abbrev Ua:Ty:=(.prod U0 (.prod (.slice U1) .unit))
abbrev Ub:=(List Int×Unit)
abbrev Uc:=(List Int×Int×Int×Unit)
abbrev Ud:=(List U4×Int×Int×Unit)
abbrev Ue:=(Int×(List U2)×Unit)
abbrev Uf:=(Int×Bool×Bool×Int×Int×Int×Int×Int×Int×Bool×Int×List U2×Bool×Bool×Int×Int×Int×Int×Int×List Int×Int×Bool×Unit)
abbrev Ug:=(Bool×Unit)
abbrev Uh:=(List U4×Int×Int×Int×Int×Unit)
abbrev Ui:=(Int×(List U4)×Unit)
abbrev Uj:Ty:=(.slice U6)
abbrev Uk:=(List Int×Int×Int×Int×Int×Unit)
abbrev Ul:=(Int×Bool×Bool×Int×Int×Int×Int×Int×Int×Bool×Int×List U2×Bool×Bool×Int×Int×Int×Int×Int×Unit)
abbrev Um:=(List U4×Unit)
abbrev Un:=(Int×List U2×Bool×Bool×Int×Int×Int×Int×Int×List (Int×Int)×List Int×Int×Int×Unit)
abbrev Uo:=(Bool×Bool×U3×Int×Unit)
abbrev Up:=(List Int×Int×Unit)
abbrev Uq:Ty:=(.prod U0 (.prod Uj .unit))
abbrev Ur:Ty:=(.slice U1)
abbrev Us:Ty:=(.prod .bool (.prod .bool (.prod U5 (.prod U0 .unit))))
abbrev Ut:Ty:=(.slice U5)
abbrev Uu:=(List Int×Int×Int×Int×Int×Int×Unit)
abbrev Uv:=(Int×Int)
abbrev Uw:=(List U4×Int×Int×Int×Int×Int×Unit)
abbrev Ux:=(Int×List U4×List Bool×Int×Int×Int×List Int×Int×List Int×Int×Bool×Int×List Int×Bool×Bool×List Int×List Int×List U4×List Int×List U4×Bool×Bool×List Int×Int×Int×Bool×Unit)
abbrev Uy:=(Int×List U4×List Uv×Int×List U4×Int×Int×List Int×Int×Int×Bool×List Int×Bool×Bool×List Int×Int×List Int×Int×Bool×Int×List Int×Bool×Bool×List Int×Int×Int×Unit)
abbrev Uz:=(Int×List Int×Int×List Int×Int×Bool×Bool×Bool×Bool×Int×Int×Bool×Int×Int×Int×Int×Int×Bool×Int×Int×Int×Int×Int×Int×Int×Int×Int×Bool×Unit)
abbrev V0:=(List Int×Int×Int×Int×Bool×Bool×Unit)
abbrev V1:=(Int×List U4×Int×Unit)
abbrev V2:=(List U3×Unit)
abbrev V3:=(Int×List U2×List U3×Int×Unit)
abbrev V4:=(List U3×List (U3×Int)×Int×Int×Unit)
abbrev V5:=(Ue×Int×Int×Unit)
abbrev V6:=(List Int×Int×List U4×Int×Int×Unit)
abbrev V7:=(List Int×Int×List U4×Unit)
abbrev V8:=(Int×List U2×Bool×Bool×Int×Int×Int×Int×Unit)
abbrev V9:=(List U3×List (U3×Int)×Int×Unit)
abbrev Va:=(List Int×Int×List U4×Int×Unit)
abbrev Vb:=(Ui×Int×Unit)
abbrev Vc:=(List U4×Int×Unit)
abbrev Vd:=(Int×List U2×Bool×Bool×Int×Int×Int×Int×List Uv×List Int×Int×Int×Unit)
abbrev Ve:=(List Int×Bool×Unit)
abbrev Vf:=(Int×List Int×Unit)
abbrev Vg:=(U8⊕U8⊕Unit)
abbrev Vh:=(U7⊕U7⊕Unit)
abbrev Vi:=(List Int×List U4×Int×List U4×Int×List U4×List U4×Int×Int×Unit)
abbrev Vj:=(Int×List U3×List Int×Bool×Unit)
abbrev Vk:=(Int×List U2×Int×List Uo×Int×List U2×List U3×Int×Int×Unit)
abbrev Vl:=(Int×List U3×List U3×Int×Unit)
abbrev AAE:AF:=[(.tmp 0,.dat U6),(.tmp 1,.dat U6)]
abbrev AAD:AF:=[(.tmp 0,.dat .bool)]
abbrev AAC:List RS:=[.one]
abbrev AEB:AF:=[(.tmp 0,.dat U6),(.tmp 1,.dat U6),(.tmp 5,.di)]
abbrev AEA:A0:=[(.ret,[(.tmp 4,.dat .bool)]),(.exit 0,[])]
def Eb[Lk]:(List Int×List Int×Int×Unit)→Option ((List Int×List Int×Int×Unit)⊕Ug⊕(Unit)⊕Unit):=fun(a0,a1,a2,_)=>
 match(ilt a2 (AO a0))with
 |true=>match idx a0 a2 with|none=>none|some x0=>match idx a1 a2 with|none=>none|some x1=>match(!(ieq x0 x1))with
  |true=>some (.inr (.inl (false,())))
  |false=>some (.inl (a0,a1,(IntKind.wrap .i64 (a2+1)),()))
 |false=>some (.inr (.inr (.inl ())))
def QE[Lk]:(List Int×List Int×Unit)→Option (Ug):=fun(a0,a1,_)=>
 match(!(ieq (AO a0) (AO a1)))with
 |true=>some (false,())
 |false=>match AS Eb many (a0,a1,0,())with|none=>none|some r=>match r with
 |.inl (o0,_)=>some (o0,())
 |.inr r=>match r with
 |.inl _=>some (true,())
 |.inr _=>none
def Oe[Lk]:=fun v=>Lk.f (QE v)
theorem AEC v:Oe v=QE v:=AI _
abbrev Xd:AF:=[(.tmp 0,.di)]
abbrev Xc:AF:=[(.tmp 0,.dat .bool)]
abbrev Xb:List RS:=[.one]
def PQ[Lk]:U9→Option (Ug):=fun(a0,_)=>
 match(ile 1 a0)with
 |true=>some ((ile a0 64),())
 |false=>some (false,())
def LJ[Lk]:=fun v=>Lk.f (PQ v)
theorem ADE v:LJ v=PQ v:=AI _
abbrev AYC:AF:=[(.tmp 0,.di),(.tmp 1,.di)]
abbrev AYB:AF:=[(.tmp 0,.dat .bool)]
abbrev AYA:List RS:=[.one]
def ASq[Lk]:U3→Option (Ug):=fun(a0,a1,_)=>
 match LJ (a0,())with|none=>none|some (y0,_)=>match y0 with
 |true=>match(ile 0 a1)with
  |true=>some ((ilt a1 a0),())
  |false=>some (false,())
 |false=>some (false,())
def tin[Lk]:=fun v=>Lk.f (ASq v)
theorem AYD v:tin v=ASq v:=AI _
abbrev AOT:AF:=[(.tmp 0,.di),(.tmp 1,.di),(.tmp 2,.di)]
abbrev AOS:AF:=[(.tmp 0,.di)]
abbrev AOR:List RS:=[.one]
def AFS[Lk]:(Int×Int×Int×Unit)→Option (U9):=fun(a0,a1,a2,_)=>
 match(ieq a1 a2)with
 |true=>some ((-1:Int),())
 |false=>match tin (a0,a1,())with|none=>none|some (y0,_)=>match(!y0)with
 |true=>some ((-1:Int),())
 |false=>match tin (a0,a2,())with|none=>none|some (y1,_)=>match(!y1)with
 |true=>some ((-1:Int),())
 |false=>some ((IntKind.wrap .i64 ((IntKind.wrap .i64 (a0*(IntKind.wrap .i64 (a1+1))))+a2)),())
def AUb[Lk]:=fun v=>Lk.f (AFS v)
theorem ASr v:AUb v=AFS v:=AI _
abbrev XZ:AF:=[(.tmp 0,.di),(.tmp 1,.di)]
abbrev XY:AF:=[(.tmp 0,.di),(.tmp 1,.di),(.tmp 2,.dat .bool),(.tmp 3,.dat .bool)]
abbrev XX:List RS:=[.one,.one,.one,.one]
def PO[Lk]:U3→Option ((Int×Int×Bool×Bool×Unit)):=fun(a0,a1,_)=>
 match LJ (a0,())with|none=>none|some (y0,_)=>match(!y0)with
 |true=>some (0,0,false,false,())
 |false=>match(ilt a1 0)with
 |true=>some (0,0,false,false,())
 |false=>match(ile (IntKind.wrap .i64 (a0*(IntKind.wrap .i64 (a0+1)))) a1)with
 |true=>some (0,0,false,false,())
 |false=>match(ilt a1 a0)with
 |true=>some (a1,0,false,true,())
 |false=>match quo? .i64 a1 a0 with|none=>none|some x1=>match rem? a1 a0 with|none=>none|some x2=>match(ieq (IntKind.wrap .i64 (x1-1)) x2)with
 |true=>some (0,0,false,false,())
 |false=>some ((IntKind.wrap .i64 (x1-1)),x2,true,true,())
def Xa[Lk]:=fun v=>Lk.f (PO v)
theorem ADD v:Xa v=PO v:=AI _
abbrev AFM:AF:=[(.tmp 0,.di)]
abbrev AFL:AF:=[(.tmp 0,.di),(.tmp 1,.own 55 U6),(.tmp 2,.di)]
abbrev AFK:List RS:=[.agg 2,.one]
abbrev AJj:AF:=[(.tmp 2,.box 2),(.cell 0 0,.di),(.cell 0 1,.nil U6),(.tmp 4,.box 2),(.cell 1 0,.di),(.cell 1 1,.own 55 U6),(.tmp 12,.di),(.tmp 13,.di)]
abbrev AJi:A0:=[(.exit 0,[(.tmp 2,.box 2),(.cell 0 0,.di),(.cell 0 1,.nil U6),(.tmp 4,.box 2),(.cell 1 0,.di),(.cell 1 1,.own 55 U6)])]
def HX[Lk]:(Int×Int×List U4×Int×Int×Unit)→Option ((Int×Int×List U4×Int×Int×Unit)⊕(Int×Int×List U4×Unit)⊕Unit):=fun(a0,a1,a2,a3,a4,_)=>
 match(ilt a4 a3)with
 |true=>match(fits ((AO a2)+(AO ([([a4]:List (Int))]:List U4))))with
  |true=>some (.inl (a0,a1,(A4 a2 ([([a4]:List (Int))]:List U4)),a3,(IntKind.wrap .i64 (a4+1)),()))
  |false=>none
 |false=>some (.inr (.inl (a0,a1,a2,())))
def Wp[Lk]:U9→Option (V1):=fun(a0,_)=>
 match LJ (a0,())with|none=>none|some (y0,_)=>match(!y0)with
 |true=>some (0,([]:List U4),1,())
 |false=>match AS HX many (0,a0,([]:List U4),a0,0,())with|none=>none|some r=>match r with
 |.inl (o1,o2,o3,_)=>some (o2,o3,0,())
 |.inr _=>none
def AJl[Lk]:=fun v=>Lk.f (Wp v)
theorem AJk v:AJl v=Wp v:=AI _
abbrev AAL:AF:=[(.tmp 0,.dat U6),(.tmp 1,.di)]
abbrev AAK:AF:=[(.tmp 0,.di)]
abbrev AAJ:List RS:=[.one]
abbrev AEE:AF:=[(.tmp 0,.dat U6),(.tmp 1,.di),(.tmp 7,.di),(.tmp 8,.di)]
abbrev AED:A0:=[(.ret,[(.tmp 4,.di)]),(.exit 0,[])]
def FZ[Lk]:U7→Option (U7⊕U9⊕(Unit)⊕Unit):=fun(a0,a1,a2,a3,_)=>
 match(ilt a3 a2)with
 |true=>match idx a0 a3 with|none=>none|some x0=>match(ieq a1 x0)with
  |true=>some (.inr (.inl (a3,())))
  |false=>some (.inl (a0,a1,a2,(IntKind.wrap .i64 (a3+1)),()))
 |false=>some (.inr (.inr (.inl ())))
def QI[Lk]:Up→Option (U9):=fun(a0,a1,_)=>
 match AS FZ many (a0,a1,(AO a0),0,())with|none=>none|some r=>match r with
 |.inl (o0,_)=>some (o0,())
 |.inr r=>match r with
 |.inl _=>some ((-1:Int),())
 |.inr _=>none
def Og[Lk]:=fun v=>Lk.f (QI v)
theorem AEF v:Og v=QI v:=AI _
abbrev MJ:AF:=[(.tmp 0,.dat U6),(.tmp 1,.di)]
abbrev MH:AF:=[(.tmp 0,.dat .bool)]
abbrev MG:List RS:=[.one]
def Is[Lk]:Up→Option (Ug):=fun(a0,a1,_)=>
 match Og (a0,a1,())with|none=>none|some (y0,_)=>some ((ile 0 y0),())
def Ed[Lk]:=fun v=>Lk.f (Is v)
theorem Qj v:Ed v=Is v:=AI _
abbrev AQW:AF:=[(.tmp 0,.dat U6)]
abbrev AQV:AF:=[(.tmp 0,.di)]
abbrev AQU:List RS:=[.one]
abbrev ATT:AF:=[(.tmp 0,.dat U6),(.tmp 3,.di),(.tmp 4,.di)]
abbrev ATS:A0:=[(.exit 0,[(.tmp 3,.di)])]
def KC[Lk]:Uc→Option (Uc⊕U9⊕Unit):=fun(a0,a1,a2,_)=>
 match(ilt a2 (AO a0))with
 |true=>match idx a0 a2 with|none=>none|some x0=>some (.inl (a0,(Bt a1 x0),(IntKind.wrap .i64 (a2+1)),()))
 |false=>some (.inr (.inl (a1,())))
def AGy[Lk]:Ub→Option (U9):=fun(a0,_)=>
 match(ilt (AO a0) 1)with
 |true=>none
 |false=>match idx a0 0 with|none=>none|some x0=>match AS KC many (a0,x0,1,())with|none=>none|some r=>match r with
 |.inl (o1,_)=>some (o1,())
 |.inr _=>none
def AVo[Lk]:=fun v=>Lk.f (AGy v)
theorem ATU v:AVo v=AGy v:=AI _
abbrev AHx:AF:=[(.tmp 0,.nil U0),(.tmp 1,.di)]
abbrev AHw:AF:=[(.tmp 0,.own 3 U0)]
abbrev AHv:List RS:=[.one]
def XH[Lk]:U9→Option (Ub):=fun(a0,_)=>
 match(ilt a0 0)with
 |true=>none
 |false=>match(ilt 0 (IntKind.wrap .i64 (a0-(IntKind.wrap .i64 (0-0)))))with
 |true=>match Bz ([]:List Unit) 0 0 with|none=>none|some _u0=>match(K6 (IntKind.wrap .i64 (a0-(IntKind.wrap .i64 (0-0)))))with
  |true=>match Bz (Je (AE (IntKind.wrap .i64 (a0-(IntKind.wrap .i64 ((0:Int)-(0:Int)))))) (0:Int)) (0:Int) (0:Int)with|none=>none|some x1=>some ((Bi (AE (AO x1)) (Je (AE (IntKind.wrap .i64 (a0-(IntKind.wrap .i64 ((0:Int)-(0:Int)))))) (0:Int))),())
  |false=>none
 |false=>some (([]:List (Int)),())
def AMz[Lk]:=fun v=>Lk.f (XH v)
theorem AMy v:AMz v=XH v:=AI _
abbrev TT:AF:=[(.tmp 0,.dat Uj)]
abbrev TS:AF:=[(.tmp 0,.own 3 U0)]
abbrev TR:List RS:=[.one]
abbrev AA8:AF:=[(.tmp 6,.own 3 U0),(.tmp 25,.dat Uj),(.tmp 26,.di),(.tmp 27,.di)]
abbrev AA6:A0:=[(.exit 2,[(.tmp 6,.own 3 U0)])]
def EJ[Lk]:(List Int×List U4×Int×Int×Unit)→Option ((List Int×List U4×Int×Int×Unit)⊕Ub⊕Unit):=fun(a0,a1,a2,a3,_)=>
 match(ilt a3 a2)with
 |true=>match idx a1 a3 with|none=>none|some x0=>match(fits ((AO a0)+(AO x0)))with
  |true=>some (.inl ((A4 a0 x0),a1,a2,(IntKind.wrap .i64 (a3+1)),()))
  |false=>none
 |false=>some (.inr (.inl (a0,())))
abbrev AA9:AF:=[(.tmp 0,.dat Uj),(.tmp 3,.di),(.tmp 9,.dat Uj),(.tmp 10,.di),(.tmp 11,.di)]
abbrev AA7:A0:=[(.exit 0,[(.tmp 0,.dat Uj),(.tmp 3,.di)])]
def EK[Lk]:(List U4×Int×List U4×Int×Int×Unit)→Option ((List U4×Int×List U4×Int×Int×Unit)⊕Vc⊕Unit):=fun(a0,a1,a2,a3,a4,_)=>
 match(ilt a4 a3)with
 |true=>match idx a2 a4 with|none=>none|some x0=>match(ilt (IntKind.wrap .i64 (a1+(AO x0))) 0)with
  |true=>none
  |false=>some (.inl (a0,(IntKind.wrap .i64 (a1+(AO x0))),a2,a3,(IntKind.wrap .i64 (a4+1)),()))
 |false=>some (.inr (.inl (a0,a1,())))
def NN[Lk]:Um→Option (Ub):=fun(a0,_)=>
 match AS EK many (a0,0,a0,(AO a0),0,())with|none=>none|some r=>match r with
 |.inl (o0,o1,_)=>match AMz (o1,())with|none=>none|some (y2,_)=>match AS EJ many (y2,o0,(AO o0),0,())with|none=>none|some r=>match r with
  |.inl (o3,_)=>some (o3,())
  |.inr _=>none
 |.inr _=>none
def It[Lk]:=fun v=>Lk.f (NN v)
theorem ABA v:It v=NN v:=AI _
abbrev Hv:AF:=[(.tmp 0,.dat U6),(.tmp 1,.clo 195 [])]
abbrev Hu:AF:=[(.tmp 0,.di)]
abbrev Ht:List RS:=[.one]
abbrev Ky:AF:=[(.tmp 0,.dat U6),(.tmp 1,.clo 195 []),(.tmp 7,.di),(.tmp 8,.di)]
abbrev Kx:A0:=[(.ret,[(.tmp 4,.di)]),(.exit 0,[])]
def B2[Lk]:Uc→Option (Uc⊕U9⊕(Unit)⊕Unit):=fun(a0,a1,a2,_)=>
 match(ilt a2 a1)with
 |true=>match idx a0 a2 with|none=>none|some x0=>match(ilt x0 0)with
  |true=>some (.inr (.inl (a2,())))
  |false=>match(ilt 10000 x0)with
  |true=>some (.inr (.inl (a2,())))
  |false=>some (.inl (a0,a1,(IntKind.wrap .i64 (a2+1)),()))
 |false=>some (.inr (.inr (.inl ())))
def Ey[Lk]:Ub→Option (U9):=fun(a0,_)=>
 match AS B2 many (a0,(AO a0),0,())with|none=>none|some r=>match r with
 |.inl (o0,_)=>some (o0,())
 |.inr r=>match r with
 |.inl _=>some ((-1:Int),())
 |.inr _=>none
def G0[Lk]:=fun v=>Lk.f (Ey v)
theorem Kz v:G0 v=Ey v:=AI _
abbrev Gp:AF:=[(.tmp 0,.dat U6),(.tmp 1,.clo 195 [])]
abbrev Gn:AF:=[(.tmp 0,.dat .bool)]
abbrev Gm:List RS:=[.one]
def D5[Lk]:Ub→Option (Ug):=fun(a0,_)=>
 match G0 (a0,())with|none=>none|some (y0,_)=>some ((ile 0 y0),())
def Dx[Lk]:=fun v=>Lk.f (D5 v)
theorem Jg v:Dx v=D5 v:=AI _
abbrev AQH:AF:=[(.tmp 0,.dat U6)]
abbrev AQG:AF:=[(.tmp 0,.dat .bool)]
abbrev AQF:List RS:=[.one]
abbrev ATL:AF:=[(.tmp 0,.dat U6),(.tmp 3,.map U0 U0),(.tmp 7,.dat U6),(.tmp 8,.di),(.tmp 9,.di)]
abbrev ATK:A0:=[(.exit 0,[(.tmp 0,.dat U6),(.tmp 3,.map U0 U0)])]
def J8[Lk]:(List Int×List Uv×List Int×Int×Int×Unit)→Option ((List Int×List Uv×List Int×Int×Int×Unit)⊕(List Int×List Uv×Unit)⊕Unit):=fun(a0,a1,a2,a3,a4,_)=>
 match(ilt a4 a3)with
 |true=>match idx a2 a4 with|none=>none|some x0=>some (.inl (a0,(Af a1 x0 (IntKind.wrap .i64 (((AT a1 x0).getD 0)+1))),a2,a3,(IntKind.wrap .i64 (a4+1)),()))
 |false=>some (.inr (.inl (a0,a1,())))
def AGs[Lk]:Ub→Option (Ug):=fun(a0,_)=>
 match AS J8 many (a0,([]:List Uv),a0,(AO a0),0,())with|none=>none|some r=>match r with
 |.inl (o0,o1,_)=>some ((ieq (AO o1) (AO o0)),())
 |.inr _=>none
def once[Lk]:=fun v=>Lk.f (AGs v)
theorem ATM v:once v=AGs v:=AI _
abbrev YG:AF:=[(.tmp 0,.dat U6)]
abbrev YF:AF:=[(.tmp 0,.dat .bool)]
abbrev YE:List RS:=[.one]
def PW[Lk]:Ub→Option (Ug):=fun(a0,_)=>
 match(ilt 1000 (AO a0))with
 |true=>some (false,())
 |false=>match Dx (a0,())with|none=>none|some (y0,_)=>match(!y0)with
 |true=>match once (a0,())with|none=>none|some (y1,_)=>some (y1,())
 |false=>some (false,())
def OH[Lk]:=fun v=>Lk.f (PW v)
theorem ADe v:OH v=PW v:=AI _
abbrev XW:AF:=[(.tmp 0,.dat U6),(.tmp 1,.di)]
abbrev XV:AF:=[(.tmp 0,.own 3 U0)]
abbrev XU:List RS:=[.one]
def PN[Lk]:Up→Option (Ub):=fun(a0,a1,_)=>
 match Bz a0 a1 (AO a0)with|none=>none|some x0=>match Bz a0 0 a1 with|none=>none|some x1=>match It (([x0,x1]:List U4),())with|none=>none|some (y2,_)=>some (y2,())
def Rc[Lk]:=fun v=>Lk.f (PN v)
theorem ADC v:Rc v=PN v:=AI _
abbrev Yn:AF:=[(.tmp 0,.dat U6),(.tmp 1,.dat U6)]
abbrev Ym:AF:=[(.tmp 0,.own 3 U0),(.tmp 1,.dat .bool)]
abbrev Yl:List RS:=[.one,.one]
abbrev ADq:AF:=[(.tmp 0,.dat U6),(.tmp 6,.own 3 U0),(.tmp 12,.dat U6),(.tmp 13,.di),(.tmp 14,.di)]
abbrev ADp:A0:=[(.exit 0,[(.tmp 6,.own 3 U0)])]
def EW[Lk]:(List Int×List Int×List Int×Int×Int×Unit)→Option ((List Int×List Int×List Int×Int×Int×Unit)⊕Ub⊕Unit):=fun(a0,a1,a2,a3,a4,_)=>
 match(ilt a4 a3)with
 |true=>match idx a2 a4 with|none=>none|some x0=>match Og (a0,x0,())with|none=>none|some (y1,_)=>match(fits ((AO a1)+(AO ([y1]:List (Int)))))with
  |true=>some (.inl (a0,(A4 a1 ([y1]:List (Int))),a2,a3,(IntKind.wrap .i64 (a4+1)),()))
  |false=>none
 |false=>some (.inr (.inl (a1,())))
def Pk[Lk]:(List Int×List Int×Unit)→Option (Ve):=fun(a0,a1,_)=>
 match OH (a0,())with|none=>none|some (y0,_)=>match(!y0)with
 |true=>some (([]:List (Int)),false,())
 |false=>match AS EW many (a0,([]:List (Int)),a1,(AO a1),0,())with|none=>none|some r=>match r with
 |.inl (o1,_)=>match Ed (o1,(-1:Int),())with|none=>none|some (y2,_)=>some (o1,(!y2),())
 |.inr _=>none
def AF9[Lk]:=fun v=>Lk.f (Pk v)
theorem ADr v:AF9 v=Pk v:=AI _
abbrev AFs:AF:=[(.tmp 0,.dat U6),(.tmp 1,.di)]
abbrev AFr:AF:=[(.tmp 0,.own 3 U0),(.tmp 1,.dat .bool)]
abbrev AFq:List RS:=[.one,.one]
def Wx[Lk]:Up→Option (Ve):=fun(a0,a1,_)=>
 match AF9 (a0,([a1]:List (Int)),())with|none=>none|some (y0,y1,_)=>match(!y1)with
 |true=>some (([]:List (Int)),false,())
 |false=>match idx y0 0 with|none=>none|some x2=>match Rc (a0,(AM y0 0 0),())with|none=>none|some (y3,_)=>some (y3,true,())
def ADh[Lk]:=fun v=>Lk.f (Wx v)
theorem AKN v:ADh v=Wx v:=AI _
abbrev YJ:AF:=[(.tmp 0,.dat U6)]
abbrev YI:AF:=[(.tmp 0,.own 3 U0)]
abbrev YH:List RS:=[.one]
def PX[Lk]:Ub→Option (Ub):=fun(a0,_)=>
 match OH (a0,())with|none=>none|some (y0,_)=>match(!y0)with
 |true=>some (([]:List (Int)),())
 |false=>match(ieq (AO a0) 0)with
 |true=>some (([]:List (Int)),())
 |false=>match AVo (a0,())with|none=>none|some (y1,_)=>match Og (a0,y1,())with|none=>none|some (y2,_)=>match Rc (a0,y2,())with|none=>none|some (y3,_)=>some (y3,())
def YK[Lk]:=fun v=>Lk.f (PX v)
theorem ADf v:YK v=PX v:=AI _
abbrev Fc:AF:=[(.tmp 0,.dat Uj),(.cap 1 0,.box 1),(.cell 0 0,.di),(.tmp 1,.clo 180 [(0,0)])]
abbrev Fb:AF:=[(.obj 0,.box 1),(.cell 0 0,.di),(.tmp 0,.di)]
abbrev Fa:List RS:=[.one]
abbrev Ih:AF:=[(.obj 0,.box 1),(.cell 0 0,.di),(.tmp 0,.dat Uj),(.tmp 1,.clo 180 [(0,0)]),(.tmp 7,.di),(.tmp 8,.di)]
abbrev Ig:A0:=[(.ret,[(.obj 0,.box 1),(.cell 0 0,.di),(.tmp 4,.di)]),(.exit 0,[(.obj 0,.box 1),(.cell 0 0,.di)])]
def Bd[Lk]:(Int×List U4×Int×Int×Unit)→Option ((Int×List U4×Int×Int×Unit)⊕U3⊕U9⊕Unit):=fun(a0,a1,a2,a3,_)=>
 match(ilt a3 a2)with
 |true=>match idx a1 a3 with|none=>none|some x0=>match Ed (x0,a0,())with|none=>none|some (y1,_)=>match y1 with
  |true=>some (.inr (.inl (a0,a3,())))
  |false=>some (.inl (a0,a1,a2,(IntKind.wrap .i64 (a3+1)),()))
 |false=>some (.inr (.inr (.inl (a0,()))))
def Dg[Lk]:Vc→Option (U3):=fun(a0,a1,_)=>
 match AS Bd many (a1,a0,(AO a0),0,())with|none=>none|some r=>match r with
 |.inl (o0,o1,_)=>some (o0,o1,())
 |.inr r=>match r with
 |.inl (o2,_)=>some (o2,(-1:Int),())
 |.inr _=>none
def Ew[Lk]:=fun v=>Lk.f (Dg v)
theorem Ii v:Ew v=Dg v:=AI _
abbrev Xq:AF:=[(.tmp 0,.dat Uq),(.tmp 1,.di)]
abbrev Xp:AF:=[(.tmp 0,.di)]
abbrev Xo:List RS:=[.one]
def PS[Lk]:Vb→Option (U9):=fun(a0,a1,_)=>
 match Ew (a0.2.1,a1,())with|none=>none|some (y0,y1,_)=>some (y1,())
def N9[Lk]:=fun v=>Lk.f (PS v)
theorem ADN v:N9 v=PS v:=AI _
abbrev ARY:AF:=[(.tmp 0,.di),(.tmp 1,.dat U6)]
abbrev ARX:AF:=[(.tmp 0,.dat .bool)]
abbrev ARW:List RS:=[.one]
abbrev ATp:AF:=[(.tmp 0,.di),(.tmp 5,.box 3),(.cell 0 0,.own 3 U0),(.cell 0 1,.map U0 U0),(.cell 0 2,.map U0 U0),(.tmp 30,.dat U6),(.tmp 31,.di),(.tmp 32,.di)]
abbrev ATo:A0:=[(.ret,[(.tmp 4,.dat .bool)]),(.exit 0,[(.tmp 5,.box 3),(.cell 0 0,.own 3 U0),(.cell 0 1,.map U0 U0),(.cell 0 2,.map U0 U0)])]
def Im[Lk]:(Int×List Int×List Uv×List Uv×List Int×Int×Int×Unit)→Option ((Int×List Int×List Uv×List Uv×List Int×Int×Int×Unit)⊕Ug⊕(List Int×List Uv×List Uv×Unit)⊕Unit):=fun(a0,a1,a2,a3,a4,a5,a6,_)=>
 match(ilt a6 a5)with
 |true=>match idx a4 a6 with|none=>none|some x0=>match Xa (a0,x0,())with|none=>none|some (y1,y2,y3,y4,_)=>match(!y4)with
  |true=>some (.inr (.inl (false,())))
  |false=>match y3 with
  |true=>match idx a1 (IntKind.wrap .i64 ((AO a1)-1))with|none=>none|some x5=>match(!(ieq (AM a1 (AE (IntKind.wrap .i64 ((AO a1)-1))) 0) y1))with
   |true=>some (.inr (.inl (false,())))
   |false=>match(ilt 0 (IntKind.wrap .i64 ((AO a1)-1)))with
   |true=>match idx a1 (IntKind.wrap .i64 ((IntKind.wrap .i64 ((AO a1)-1))-1))with|none=>none|some x6=>match(ieq (AM a1 (AE (IntKind.wrap .i64 ((IntKind.wrap .i64 ((AO a1)-1))-1))) 0) y2)with
    |true=>match Bz a1 0 (IntKind.wrap .i64 ((AO a1)-1))with|none=>none|some x7=>match(!y3)with
     |true=>match idx (DR 0 (AE (AO x7)) a1) (IntKind.wrap .i64 ((((AE (AO x7)):Nat):Int)-1))with|none=>none|some x8=>match(!(ieq (AM a1 (0+(AE (IntKind.wrap .i64 ((((AE (AO x7)):Nat):Int)-1)))) 0) y1))with
      |true=>some (.inr (.inl (false,())))
      |false=>match(!y3)with
      |true=>some (.inl (a0,(Bi (AE (AO x7)) a1),a2,(Af a3 y1 (IntKind.wrap .i64 (((AT a3 y1).getD 0)+1))),a4,a5,(IntKind.wrap .i64 (a6+1)),()))
      |false=>some (.inl (a0,(Bi (AE (AO x7)) a1),a2,a3,a4,a5,(IntKind.wrap .i64 (a6+1)),()))
     |false=>match(!y3)with
     |true=>some (.inl (a0,(Bi (AE (AO x7)) a1),a2,(Af a3 y1 (IntKind.wrap .i64 (((AT a3 y1).getD 0)+1))),a4,a5,(IntKind.wrap .i64 (a6+1)),()))
     |false=>some (.inl (a0,(Bi (AE (AO x7)) a1),a2,a3,a4,a5,(IntKind.wrap .i64 (a6+1)),()))
    |false=>match(ilt 0 ((AT a2 y2).getD 0))with
    |true=>some (.inr (.inl (false,())))
    |false=>match(fits ((AO a1)+(AO ([y2]:List (Int)))))with
    |true=>match(!y3)with
     |true=>match idx (A4 a1 ([y2]:List (Int))) (IntKind.wrap .i64 ((AO (A4 a1 ([y2]:List (Int))))-1))with|none=>none|some x9=>match(!(ieq (AM (A4 a1 ([y2]:List (Int))) (AE (IntKind.wrap .i64 ((AO (A4 a1 ([y2]:List (Int))))-1))) 0) y1))with
      |true=>some (.inr (.inl (false,())))
      |false=>match(!y3)with
      |true=>some (.inl (a0,(A4 a1 ([y2]:List (Int))),(Af a2 y2 (IntKind.wrap .i64 (((AT a2 y2).getD 0)+1))),(Af a3 y1 (IntKind.wrap .i64 (((AT a3 y1).getD 0)+1))),a4,a5,(IntKind.wrap .i64 (a6+1)),()))
      |false=>some (.inl (a0,(A4 a1 ([y2]:List (Int))),(Af a2 y2 (IntKind.wrap .i64 (((AT a2 y2).getD 0)+1))),a3,a4,a5,(IntKind.wrap .i64 (a6+1)),()))
     |false=>match(!y3)with
     |true=>some (.inl (a0,(A4 a1 ([y2]:List (Int))),(Af a2 y2 (IntKind.wrap .i64 (((AT a2 y2).getD 0)+1))),(Af a3 y1 (IntKind.wrap .i64 (((AT a3 y1).getD 0)+1))),a4,a5,(IntKind.wrap .i64 (a6+1)),()))
     |false=>some (.inl (a0,(A4 a1 ([y2]:List (Int))),(Af a2 y2 (IntKind.wrap .i64 (((AT a2 y2).getD 0)+1))),a3,a4,a5,(IntKind.wrap .i64 (a6+1)),()))
    |false=>none
   |false=>match(ilt 0 ((AT a2 y2).getD 0))with
   |true=>some (.inr (.inl (false,())))
   |false=>match(fits ((AO a1)+(AO ([y2]:List (Int)))))with
   |true=>match(!y3)with
    |true=>match idx (A4 a1 ([y2]:List (Int))) (IntKind.wrap .i64 ((AO (A4 a1 ([y2]:List (Int))))-1))with|none=>none|some x10=>match(!(ieq (AM (A4 a1 ([y2]:List (Int))) (AE (IntKind.wrap .i64 ((AO (A4 a1 ([y2]:List (Int))))-1))) 0) y1))with
     |true=>some (.inr (.inl (false,())))
     |false=>match(!y3)with
     |true=>some (.inl (a0,(A4 a1 ([y2]:List (Int))),(Af a2 y2 (IntKind.wrap .i64 (((AT a2 y2).getD 0)+1))),(Af a3 y1 (IntKind.wrap .i64 (((AT a3 y1).getD 0)+1))),a4,a5,(IntKind.wrap .i64 (a6+1)),()))
     |false=>some (.inl (a0,(A4 a1 ([y2]:List (Int))),(Af a2 y2 (IntKind.wrap .i64 (((AT a2 y2).getD 0)+1))),a3,a4,a5,(IntKind.wrap .i64 (a6+1)),()))
    |false=>match(!y3)with
    |true=>some (.inl (a0,(A4 a1 ([y2]:List (Int))),(Af a2 y2 (IntKind.wrap .i64 (((AT a2 y2).getD 0)+1))),(Af a3 y1 (IntKind.wrap .i64 (((AT a3 y1).getD 0)+1))),a4,a5,(IntKind.wrap .i64 (a6+1)),()))
    |false=>some (.inl (a0,(A4 a1 ([y2]:List (Int))),(Af a2 y2 (IntKind.wrap .i64 (((AT a2 y2).getD 0)+1))),a3,a4,a5,(IntKind.wrap .i64 (a6+1)),()))
   |false=>none
  |false=>match(!y3)with
  |true=>match idx a1 (IntKind.wrap .i64 ((AO a1)-1))with|none=>none|some x11=>match(!(ieq (AM a1 (AE (IntKind.wrap .i64 ((AO a1)-1))) 0) y1))with
   |true=>some (.inr (.inl (false,())))
   |false=>match(!y3)with
   |true=>some (.inl (a0,a1,a2,(Af a3 y1 (IntKind.wrap .i64 (((AT a3 y1).getD 0)+1))),a4,a5,(IntKind.wrap .i64 (a6+1)),()))
   |false=>some (.inl (a0,a1,a2,a3,a4,a5,(IntKind.wrap .i64 (a6+1)),()))
  |false=>match(!y3)with
  |true=>some (.inl (a0,a1,a2,(Af a3 y1 (IntKind.wrap .i64 (((AT a3 y1).getD 0)+1))),a4,a5,(IntKind.wrap .i64 (a6+1)),()))
  |false=>some (.inl (a0,a1,a2,a3,a4,a5,(IntKind.wrap .i64 (a6+1)),()))
 |false=>some (.inr (.inr (.inl (a1,a2,a3,()))))
def AH1[Lk]:Vf→Option (Ug):=fun(a0,a1,_)=>
 match idx a1 0 with|none=>none|some x0=>match tin (a0,x0,())with|none=>none|some (y1,_)=>match(!y1)with
 |true=>some (false,())
 |false=>match idx a1 0 with|none=>none|some x2=>match idx a1 0 with|none=>none|some x3=>match AS Im many (a0,([x2]:List (Int)),(Af ([]:List Uv) x3 1),([]:List Uv),a1,(AO a1),0,())with|none=>none|some r=>match r with
 |.inl (o4,_)=>some (o4,())
 |.inr r=>match r with
 |.inl (o5,o6,o7,_)=>match(ieq (AO o5) 1)with
  |true=>some ((ieq (AO o7) (AO o6)),())
  |false=>some (false,())
 |.inr _=>none
def Aas[Lk]:=fun v=>Lk.f (AH1 v)
theorem ATq v:Aas v=AH1 v:=AI _
abbrev Xj:AF:=[(.tmp 0,.dat Uq)]
abbrev Xi:AF:=[(.tmp 0,.dat .bool)]
abbrev Xh:List RS:=[.one]
abbrev ADI:AF:=[(.tmp 3,.map U0 U0),(.tmp 78,.di),(.tmp 79,.di)]
abbrev ADF:A0:=[(.ret,[(.tmp 2,.dat .bool)]),(.exit 4,[])]
def ER[Lk]:(List Uv×Int×Int×Unit)→Option ((List Uv×Int×Int×Unit)⊕Ug⊕(Unit)⊕Unit):=fun(a0,a1,a2,_)=>
 match(ilt a2 a1)with
 |true=>match(ieq ((AT a0 a2).getD 0) 0)with
  |true=>some (.inr (.inl (false,())))
  |false=>some (.inl (a0,a1,(IntKind.wrap .i64 (a2+1)),()))
 |false=>some (.inr (.inr (.inl ())))
abbrev ADJ:AF:=[(.tmp 1,.box 2),(.cell 0 0,.di),(.cell 0 1,.dat Uj),(.tmp 3,.map U0 U0),(.tmp 4,.di),(.tmp 16,.dat Uj),(.tmp 17,.di),(.tmp 18,.di),(.tmp 26,.dat U6),(.tmp 28,.di),(.tmp 29,.di),(.tmp 30,.dat .bool),(.tmp 33,.dat U6),(.tmp 34,.dat .bool),(.tmp 35,.dat .bool),(.tmp 38,.dat U6),(.tmp 39,.di),(.tmp 40,.dat U6),(.tmp 42,.di),(.tmp 43,.dat .bool),(.tmp 46,.ptr' 0 0),(.tmp 47,.di),(.tmp 48,.dat U6),(.tmp 49,.dat .bool),(.tmp 50,.dat .bool),(.tmp 55,.dat U6),(.tmp 56,.di),(.tmp 57,.di)]
abbrev ADG:A0:=[(.ret,[(.tmp 2,.dat .bool)]),(.exit 2,[(.tmp 1,.box 2),(.cell 0 0,.di),(.cell 0 1,.dat Uj),(.tmp 3,.map U0 U0),(.tmp 4,.di),(.tmp 16,.dat Uj),(.tmp 17,.di),(.tmp 18,.di),(.tmp 26,.dat U6),(.tmp 28,.di),(.tmp 29,.di),(.tmp 30,.dat .bool),(.tmp 33,.dat U6),(.tmp 34,.dat .bool),(.tmp 35,.dat .bool),(.tmp 38,.dat U6),(.tmp 39,.di),(.tmp 40,.dat U6),(.tmp 42,.di),(.tmp 43,.dat .bool),(.tmp 46,.ptr' 0 0),(.tmp 47,.di),(.tmp 48,.dat U6),(.tmp 49,.dat .bool),(.tmp 50,.dat .bool)])]
def DT[Lk]:Uy→Option (Uy⊕Ug⊕(Int×List U4×List Uv×Int×List U4×Int×Int×List Int×Int×Int×Bool×List Int×Bool×Bool×List Int×Int×List Int×Int×Bool×Int×List Int×Bool×Bool×Unit)⊕Unit):=fun(a0,a1,a2,a3,a4,a5,a6,a7,a8,a9,a10,a11,a12,a13,a14,a15,a16,a17,a18,a19,a20,a21,a22,a23,a24,a25,_)=>
 match(ilt a25 a24)with
 |true=>match idx a23 a25 with|none=>none|some x0=>match(ilt x0 a0)with
  |true=>match(ilt 0 ((AT a2 x0).getD 0))with
   |true=>some (.inr (.inl (false,())))
   |false=>some (.inl (a0,a1,(Af a2 x0 (IntKind.wrap .i64 (((AT a2 x0).getD 0)+1))),a3,a4,a5,a6,a7,a8,a9,a10,a11,a12,a13,a14,a15,a16,a17,a18,a19,a20,a21,a22,a23,a24,(IntKind.wrap .i64 (a25+1)),()))
  |false=>some (.inl (a0,a1,(Af a2 x0 (IntKind.wrap .i64 (((AT a2 x0).getD 0)+1))),a3,a4,a5,a6,a7,a8,a9,a10,a11,a12,a13,a14,a15,a16,a17,a18,a19,a20,a21,a22,a23,a24,(IntKind.wrap .i64 (a25+1)),()))
 |false=>some (.inr (.inr (.inl (a0,a1,a2,a3,a4,a5,a6,a7,a8,a9,a10,a11,a12,a13,a14,a15,a16,a17,a18,a19,a20,a21,a22,()))))
abbrev ADK:AF:=[(.tmp 1,.box 2),(.cell 0 0,.di),(.cell 0 1,.dat Uj),(.tmp 3,.map U0 U0),(.tmp 4,.di),(.tmp 16,.dat Uj),(.tmp 17,.di),(.tmp 18,.di)]
abbrev ADH:A0:=[(.ret,[(.tmp 2,.dat .bool)]),(.exit 0,[(.tmp 1,.box 2),(.cell 0 0,.di),(.cell 0 1,.dat Uj),(.tmp 3,.map U0 U0)])]
def DU[Lk]:(Int×List U4×List Uv×Int×List U4×Int×Int×Unit)→Option ((Int×List U4×List Uv×Int×List U4×Int×Int×Unit)⊕Ug⊕(Int×List U4×List Uv×Unit)⊕Unit):=fun(a0,a1,a2,a3,a4,a5,a6,_)=>
 match(ilt a6 a5)with
 |true=>match idx a4 a6 with|none=>none|some x0=>match(ieq (AO x0) 0)with
  |true=>some (.inr (.inl (false,())))
  |false=>match idx x0 0 with|none=>none|some x1=>match(ile x1 a3)with
  |true=>some (.inr (.inl (false,())))
  |false=>match OH (x0,())with|none=>none|some (y2,_)=>match(!y2)with
  |true=>some (.inr (.inl (false,())))
  |false=>match AVo (x0,())with|none=>none|some (y3,_)=>match idx x0 0 with|none=>none|some x4=>match(!(ieq y3 x4))with
  |true=>some (.inr (.inl (false,())))
  |false=>match Aas (a0,x0,())with|none=>none|some (y5,_)=>match(!y5)with
  |true=>some (.inr (.inl (false,())))
  |false=>match idx x0 0 with|none=>none|some x6=>match AS DT many (a0,a1,a2,x6,a4,a5,a6,x0,x1,a3,(ile x1 a3),x0,y2,(!y2),x0,y3,x0,x4,(!(ieq y3 x4)),a0,x0,y5,(!y5),x0,(AO x0),0,())with|none=>none|some r=>match r with
  |.inl (o7,_)=>some (.inr (.inl (o7,())))
  |.inr r=>match r with
  |.inl (o8,o9,o10,o11,o12,o13,o14,o15,o16,o17,o18,o19,o20,o21,o22,o23,o24,o25,o26,o27,o28,o29,o30,_)=>some (.inl (o8,o9,o10,o11,o12,o13,(IntKind.wrap .i64 (o14+1)),()))
  |.inr _=>none
 |false=>some (.inr (.inr (.inl (a0,a1,a2,()))))
def PR[Lk]:(Ui×Unit)→Option (Ug):=fun(a0,_)=>
 match LJ (a0.1,())with|none=>none|some (y0,_)=>match(!y0)with
 |true=>some (false,())
 |false=>match AS DU many (a0.1,a0.2.1,([]:List Uv),(-1:Int),a0.2.1,(AO a0.2.1),0,())with|none=>none|some r=>match r with
 |.inl (o1,_)=>some (o1,())
 |.inr r=>match r with
 |.inl (o2,o3,o4,_)=>match AS ER many (o4,o2,0,())with|none=>none|some r=>match r with
  |.inl (o5,_)=>some (o5,())
  |.inr r=>match r with
  |.inl _=>some (true,())
  |.inr _=>none
 |.inr _=>none
def N8[Lk]:=fun v=>Lk.f (PR v)
theorem ADL v:N8 v=PR v:=AI _
abbrev AIn:AF:=[(.tmp 0,.dat Uq),(.tmp 1,.di),(.tmp 2,.di)]
abbrev AIm:AF:=[(.tmp 0,.di)]
abbrev AIl:List RS:=[.one]
def XL[Lk]:(Ui×Int×Int×Unit)→Option (U9):=fun(a0,a1,a2,_)=>
 match N8 ((a0.1,(a0.2.1,())),())with|none=>none|some (y0,_)=>match(!y0)with
 |true=>some (1,())
 |false=>match tin (a0.1,a1,())with|none=>none|some (y1,_)=>match(!y1)with
 |true=>some (10,())
 |false=>match tin (a0.1,a2,())with|none=>none|some (y2,_)=>match(!y2)with
 |true=>some (10,())
 |false=>some (0,())
def asked[Lk]:=fun v=>Lk.f (XL v)
theorem ANr v:asked v=XL v:=AI _
abbrev AQQ:AF:=[(.tmp 0,.di)]
abbrev AQP:AF:=[(.tmp 0,.dat .bool)]
abbrev AQO:List RS:=[.one]
def Sa[Lk]:U9→Option (Ug):=fun(a0,_)=>
 some ((!(ieq a0 a0)),())
def AQR[Lk]:=fun v=>Lk.f (Sa v)
theorem W6 v:AQR v=Sa v:=AI _
abbrev O4:AF:=[(.tmp 0,.di),(.tmp 1,.di)]
abbrev O3:AF:=[(.tmp 0,.di)]
abbrev O2:List RS:=[.one]
def II[Lk]:U3→Option (U9):=fun(a0,a1,_)=>
 match AQR (a0,())with|none=>none|some (y0,_)=>match AQR (a1,())with|none=>none|some (y1,_)=>match y0 with
 |true=>match y1 with
  |true=>some (0,())
  |false=>some ((-1:Int),())
 |false=>match y1 with
 |true=>some (1,())
 |false=>match(ilt a0 a1)with
 |true=>some ((-1:Int),())
 |false=>match(ilt a1 a0)with
 |true=>some (1,())
 |false=>some (0,())
def E8[Lk]:=fun v=>Lk.f (II v)
theorem MM v:E8 v=II v:=AI _
abbrev AE1:AF:=[(.tmp 0,.dat U6),(.tmp 1,.dat U6)]
abbrev AE0:AF:=[(.tmp 0,.di)]
abbrev AEz:List RS:=[.one]
def Wk[Lk]:(List Int×List Int×Unit)→Option (U9):=fun(a0,a1,_)=>
 match idx a0 0 with|none=>none|some x0=>match idx a1 0 with|none=>none|some x1=>match E8 (x0,x1,())with|none=>none|some (y2,_)=>some (y2,())
def BE[Lk]:=fun v=>Lk.f (Wk v)
theorem AJI v:BE v=Wk v:=AI _
def Gl:List Int:=[0,1,2,2,3,3,3,3,4,4,4,4,4,4,4,4,5,5,5,5,5,5,5,5,5,5,5,5,5,5,5,5,6,6,6,6,6,6,6,6,6,6,6,6,6,6,6,6,6,6,6,6,6,6,6,6,6,6,6,6,6,6,6,6,7,7,7,7,7,7,7,7,7,7,7,7,7,7,7,7,7,7,7,7,7,7,7,7,7,7,7,7,7,7,7,7,7,7,7,7,7,7,7,7,7,7,7,7,7,7,7,7,7,7,7,7,7,7,7,7,7,7,7,7,7,7,7,7,8,8,8,8,8,8,8,8,8,8,8,8,8,8,8,8,8,8,8,8,8,8,8,8,8,8,8,8,8,8,8,8,8,8,8,8,8,8,8,8,8,8,8,8,8,8,8,8,8,8,8,8,8,8,8,8,8,8,8,8,8,8,8,8,8,8,8,8,8,8,8,8,8,8,8,8,8,8,8,8,8,8,8,8,8,8,8,8,8,8,8,8,8,8,8,8,8,8,8,8,8,8,8,8,8,8,8,8,8,8,8,8,8,8,8,8,8,8,8,8,8,8,8,8,8,8,8,8]
abbrev AHO:AF:=[(.tmp 0,.dat (.int .u64))]
abbrev AHN:AF:=[(.tmp 0,.di)]
abbrev AHM:List RS:=[.one]
def XA[Lk]:U9→Option (U9):=fun(a0,_)=>
 match(ile 4294967296 a0)with
 |true=>match shr? .u64 a0 32 with|none=>none|some x0=>match(ile 65536 x0)with
  |true=>match shr? .u64 x0 16 with|none=>none|some x1=>match(ile 256 x1)with
   |true=>match shr? .u64 x1 8 with|none=>none|some x2=>match idx Gl (IntKind.wrap .u8 x2)with|none=>none|some x3=>some ((IntKind.wrap .i64 ((IntKind.wrap .i64 ((IntKind.wrap .i64 (32+16))+8))+(IntKind.wrap .i64 x3))),())
   |false=>match idx Gl (IntKind.wrap .u8 x1)with|none=>none|some x4=>some ((IntKind.wrap .i64 ((IntKind.wrap .i64 (32+16))+(IntKind.wrap .i64 x4))),())
  |false=>match(ile 256 x0)with
  |true=>match shr? .u64 x0 8 with|none=>none|some x5=>match idx Gl (IntKind.wrap .u8 x5)with|none=>none|some x6=>some ((IntKind.wrap .i64 ((IntKind.wrap .i64 (32+8))+(IntKind.wrap .i64 x6))),())
  |false=>match idx Gl (IntKind.wrap .u8 x0)with|none=>none|some x7=>some ((IntKind.wrap .i64 (32+(IntKind.wrap .i64 x7))),())
 |false=>match(ile 65536 a0)with
 |true=>match shr? .u64 a0 16 with|none=>none|some x8=>match(ile 256 x8)with
  |true=>match shr? .u64 x8 8 with|none=>none|some x9=>match idx Gl (IntKind.wrap .u8 x9)with|none=>none|some x10=>some ((IntKind.wrap .i64 ((IntKind.wrap .i64 ((IntKind.wrap .i64 (0+16))+8))+(IntKind.wrap .i64 x10))),())
  |false=>match idx Gl (IntKind.wrap .u8 x8)with|none=>none|some x11=>some ((IntKind.wrap .i64 ((IntKind.wrap .i64 (0+16))+(IntKind.wrap .i64 x11))),())
 |false=>match(ile 256 a0)with
 |true=>match shr? .u64 a0 8 with|none=>none|some x12=>match idx Gl (IntKind.wrap .u8 x12)with|none=>none|some x13=>some ((IntKind.wrap .i64 ((IntKind.wrap .i64 (0+8))+(IntKind.wrap .i64 x13))),())
 |false=>match idx Gl (IntKind.wrap .u8 a0)with|none=>none|some x14=>some ((IntKind.wrap .i64 (0+(IntKind.wrap .i64 x14))),())
def AMO[Lk]:=fun v=>Lk.f (XA v)
theorem AMN v:AMO v=XA v:=AI _
abbrev Ta:AF:=[(.tmp 0,.dat (.int .u64))]
abbrev TZ:AF:=[(.tmp 0,.di)]
abbrev TY:List RS:=[.one]
def NQ[Lk]:U9→Option (U9):=fun(a0,_)=>
 match AMO (a0,())with|none=>none|some (y0,_)=>some (y0,())
def bitsLen[Lk]:=fun v=>Lk.f (NQ v)
theorem ABS v:bitsLen v=NQ v:=AI _
abbrev Rb:AF:=[(.tmp 0,.box 1),(.cell 0 0,.dat (.int .u64))]
abbrev Ra:AF:=[(.obj 0,.box 1),(.cell 0 0,.dat (.int .u64)),(.tmp 0,.dat (.int .u64))]
abbrev RZ:List RS:=[.one]
def Mf[Lk]:U9→Option (U3):=fun(a0,_)=>
 match shl? .u64 a0 13 with|none=>none|some x0=>match shr? .u64 (IntKind.wrap .u64 ((BitVec.ofInt (IntKind.bits .u64) a0 ^^^ BitVec.ofInt (IntKind.bits .u64) x0).toNat)) 7 with|none=>none|some x1=>match shl? .u64 (IntKind.wrap .u64 ((BitVec.ofInt (IntKind.bits .u64) (IntKind.wrap .u64 ((BitVec.ofInt (IntKind.bits .u64) a0 ^^^ BitVec.ofInt (IntKind.bits .u64) x0).toNat)) ^^^ BitVec.ofInt (IntKind.bits .u64) x1).toNat)) 17 with|none=>none|some x2=>some ((IntKind.wrap .u64 ((BitVec.ofInt (IntKind.bits .u64) (IntKind.wrap .u64 ((BitVec.ofInt (IntKind.bits .u64) (IntKind.wrap .u64 ((BitVec.ofInt (IntKind.bits .u64) a0 ^^^ BitVec.ofInt (IntKind.bits .u64) x0).toNat)) ^^^ BitVec.ofInt (IntKind.bits .u64) x1).toNat)) ^^^ BitVec.ofInt (IntKind.bits .u64) x2).toNat)),(IntKind.wrap .u64 ((BitVec.ofInt (IntKind.bits .u64) (IntKind.wrap .u64 ((BitVec.ofInt (IntKind.bits .u64) (IntKind.wrap .u64 ((BitVec.ofInt (IntKind.bits .u64) a0 ^^^ BitVec.ofInt (IntKind.bits .u64) x0).toNat)) ^^^ BitVec.ofInt (IntKind.bits .u64) x1).toNat)) ^^^ BitVec.ofInt (IntKind.bits .u64) x2).toNat)),())
def xorNext[Lk]:=fun v=>Lk.f (Mf v)
theorem XR v:xorNext v=Mf v:=AI _
abbrev SZ:AF:=[(.tmp 0,.di)]
abbrev SY:AF:=[(.tmp 0,.dat (.int .u64))]
abbrev SX:List RS:=[.one]
def M0[Lk]:U9→Option (U9):=fun(a0,_)=>
 match bitsLen ((IntKind.wrap .u64 a0),())with|none=>none|some (y0,_)=>match shl? .u64 1 y0 with|none=>none|some x1=>some (x1,())
def M3[Lk]:=fun v=>Lk.f (M0 v)
theorem Zh v:M3 v=M0 v:=AI _
def QG[Lk]{α:Type}(z:α)(c:α×α×Unit→Option U9):(List α×Int×Int×Int×Int×Unit)→Option ((List α×Int×Int×Int×Int×Unit)⊕(List α×Int×Int×Int×Unit)⊕Unit):=fun(a0,a1,a2,a3,a4,_)=>
 match(ilt a1 a4)with
 |true=>match idx a0 a4 with|none=>none|some x0=>match idx a0 (IntKind.wrap .i64 (a4-1))with|none=>none|some x1=>match c ((AM a0 (AE a4) z),(AM a0 (AE (IntKind.wrap .i64 (a4-1))) z),())with|none=>none|some (y2,_)=>match(ilt y2 0)with
  |true=>match idx a0 (IntKind.wrap .i64 (a4-1))with|none=>none|some x3=>match idx a0 a4 with|none=>none|some x4=>match idx a0 a4 with|none=>none|some x5=>match idx (Am a0 (AE a4) (AM a0 (AE (IntKind.wrap .i64 (a4-1))) z)) (IntKind.wrap .i64 (a4-1))with|none=>none|some x6=>some (.inl ((Am (Am a0 (AE a4) (AM a0 (AE (IntKind.wrap .i64 (a4-1))) z)) (AE (IntKind.wrap .i64 (a4-1))) (AM a0 (AE a4) z)),a1,a2,a3,(IntKind.wrap .i64 (a4-1)),()))
  |false=>some (.inr (.inl (a0,a1,a2,a3,())))
 |false=>some (.inr (.inl (a0,a1,a2,a3,())))
def QH[Lk]{α:Type}(z:α)(c:α×α×Unit→Option U9):(List α×Int×Int×Int×Unit)→Option ((List α×Int×Int×Int×Unit)⊕(List α×Unit)⊕Unit):=fun(a0,a1,a2,a3,_)=>
 match(ilt a3 a2)with
 |true=>match AS (QG z c) many (a0,a1,a2,a3,a3,())with|none=>none|some r=>match r with
  |.inl (o0,o1,o2,o3,_)=>some (.inl (o0,o1,o2,(IntKind.wrap .i64 (o3+1)),()))
  |.inr _=>none
 |false=>some (.inr (.inl (a0,())))
def AHW[Lk]{α:Type}(z:α)(c:α×α×Unit→Option U9):(List α×Int×Int×Unit)→Option ((List α×Unit)):=fun(a0,a1,a2,_)=>
 match AS (QH z c) many (a0,a1,a2,(IntKind.wrap .i64 (a1+1)),())with|none=>none|some r=>match r with
 |.inl (o0,_)=>some (o0,())
 |.inr _=>none
def Ac1[Lk]{α:Type}(z:α)(c:α×α×Unit→Option U9)(v:(List α×Int×Int×Unit)):Option ((List α×Unit)):=Lk.f ((AHW z c) v)
theorem Ac0{α:Type}(z:α)(c:α×α×Unit→Option U9)(v:(List α×Int×Int×Unit)):(Ac1 z c) v=(AHW z c) v:=AI _
def LO[Lk]{α:Type}(z:α)(c:α×α×Unit→Option U9):(List α×Int×Int×Int×Unit)→Option ((List α×Int×Int×Int×Unit)⊕(List α×Unit)⊕(List α×Unit)⊕Unit):=fun(a0,a1,a2,a3,_)=>
 match(ile a1 (IntKind.wrap .i64 ((IntKind.wrap .i64 (2*a3))+1)))with
 |true=>some (.inr (.inl (a0,())))
 |false=>match(ilt (IntKind.wrap .i64 ((IntKind.wrap .i64 ((IntKind.wrap .i64 (2*a3))+1))+1)) a1)with
 |true=>match idx a0 (IntKind.wrap .i64 (a2+(IntKind.wrap .i64 ((IntKind.wrap .i64 (2*a3))+1))))with|none=>none|some x0=>match idx a0 (IntKind.wrap .i64 ((IntKind.wrap .i64 (a2+(IntKind.wrap .i64 ((IntKind.wrap .i64 (2*a3))+1))))+1))with|none=>none|some x1=>match c ((AM a0 (AE (IntKind.wrap .i64 (a2+(IntKind.wrap .i64 ((IntKind.wrap .i64 (2*a3))+1))))) z),(AM a0 (AE (IntKind.wrap .i64 ((IntKind.wrap .i64 (a2+(IntKind.wrap .i64 ((IntKind.wrap .i64 (2*a3))+1))))+1))) z),())with|none=>none|some (y2,_)=>match(ilt y2 0)with
  |true=>match idx a0 (IntKind.wrap .i64 (a2+a3))with|none=>none|some x3=>match idx a0 (IntKind.wrap .i64 (a2+(IntKind.wrap .i64 ((IntKind.wrap .i64 ((IntKind.wrap .i64 (2*a3))+1))+1))))with|none=>none|some x4=>match c ((AM a0 (AE (IntKind.wrap .i64 (a2+a3))) z),(AM a0 (AE (IntKind.wrap .i64 (a2+(IntKind.wrap .i64 ((IntKind.wrap .i64 ((IntKind.wrap .i64 (2*a3))+1))+1))))) z),())with|none=>none|some (y5,_)=>match(!(ilt y5 0))with
   |true=>some (.inr (.inr (.inl (a0,()))))
   |false=>match idx a0 (IntKind.wrap .i64 (a2+(IntKind.wrap .i64 ((IntKind.wrap .i64 ((IntKind.wrap .i64 (2*a3))+1))+1))))with|none=>none|some x6=>match idx a0 (IntKind.wrap .i64 (a2+a3))with|none=>none|some x7=>match idx a0 (IntKind.wrap .i64 (a2+a3))with|none=>none|some x8=>match idx (Am a0 (AE (IntKind.wrap .i64 (a2+a3))) (AM a0 (AE (IntKind.wrap .i64 (a2+(IntKind.wrap .i64 ((IntKind.wrap .i64 ((IntKind.wrap .i64 (2*a3))+1))+1))))) z)) (IntKind.wrap .i64 (a2+(IntKind.wrap .i64 ((IntKind.wrap .i64 ((IntKind.wrap .i64 (2*a3))+1))+1))))with|none=>none|some x9=>some (.inl ((Am (Am a0 (AE (IntKind.wrap .i64 (a2+a3))) (AM a0 (AE (IntKind.wrap .i64 (a2+(IntKind.wrap .i64 ((IntKind.wrap .i64 ((IntKind.wrap .i64 (2*a3))+1))+1))))) z)) (AE (IntKind.wrap .i64 (a2+(IntKind.wrap .i64 ((IntKind.wrap .i64 ((IntKind.wrap .i64 (2*a3))+1))+1))))) (AM a0 (AE (IntKind.wrap .i64 (a2+a3))) z)),a1,a2,(IntKind.wrap .i64 ((IntKind.wrap .i64 ((IntKind.wrap .i64 (2*a3))+1))+1)),()))
  |false=>match idx a0 (IntKind.wrap .i64 (a2+a3))with|none=>none|some x10=>match idx a0 (IntKind.wrap .i64 (a2+(IntKind.wrap .i64 ((IntKind.wrap .i64 (2*a3))+1))))with|none=>none|some x11=>match c ((AM a0 (AE (IntKind.wrap .i64 (a2+a3))) z),(AM a0 (AE (IntKind.wrap .i64 (a2+(IntKind.wrap .i64 ((IntKind.wrap .i64 (2*a3))+1))))) z),())with|none=>none|some (y12,_)=>match(!(ilt y12 0))with
  |true=>some (.inr (.inr (.inl (a0,()))))
  |false=>match idx a0 (IntKind.wrap .i64 (a2+(IntKind.wrap .i64 ((IntKind.wrap .i64 (2*a3))+1))))with|none=>none|some x13=>match idx a0 (IntKind.wrap .i64 (a2+a3))with|none=>none|some x14=>match idx a0 (IntKind.wrap .i64 (a2+a3))with|none=>none|some x15=>match idx (Am a0 (AE (IntKind.wrap .i64 (a2+a3))) (AM a0 (AE (IntKind.wrap .i64 (a2+(IntKind.wrap .i64 ((IntKind.wrap .i64 (2*a3))+1))))) z)) (IntKind.wrap .i64 (a2+(IntKind.wrap .i64 ((IntKind.wrap .i64 (2*a3))+1))))with|none=>none|some x16=>some (.inl ((Am (Am a0 (AE (IntKind.wrap .i64 (a2+a3))) (AM a0 (AE (IntKind.wrap .i64 (a2+(IntKind.wrap .i64 ((IntKind.wrap .i64 (2*a3))+1))))) z)) (AE (IntKind.wrap .i64 (a2+(IntKind.wrap .i64 ((IntKind.wrap .i64 (2*a3))+1))))) (AM a0 (AE (IntKind.wrap .i64 (a2+a3))) z)),a1,a2,(IntKind.wrap .i64 ((IntKind.wrap .i64 (2*a3))+1)),()))
 |false=>match idx a0 (IntKind.wrap .i64 (a2+a3))with|none=>none|some x17=>match idx a0 (IntKind.wrap .i64 (a2+(IntKind.wrap .i64 ((IntKind.wrap .i64 (2*a3))+1))))with|none=>none|some x18=>match c ((AM a0 (AE (IntKind.wrap .i64 (a2+a3))) z),(AM a0 (AE (IntKind.wrap .i64 (a2+(IntKind.wrap .i64 ((IntKind.wrap .i64 (2*a3))+1))))) z),())with|none=>none|some (y19,_)=>match(!(ilt y19 0))with
 |true=>some (.inr (.inr (.inl (a0,()))))
 |false=>match idx a0 (IntKind.wrap .i64 (a2+(IntKind.wrap .i64 ((IntKind.wrap .i64 (2*a3))+1))))with|none=>none|some x20=>match idx a0 (IntKind.wrap .i64 (a2+a3))with|none=>none|some x21=>match idx a0 (IntKind.wrap .i64 (a2+a3))with|none=>none|some x22=>match idx (Am a0 (AE (IntKind.wrap .i64 (a2+a3))) (AM a0 (AE (IntKind.wrap .i64 (a2+(IntKind.wrap .i64 ((IntKind.wrap .i64 (2*a3))+1))))) z)) (IntKind.wrap .i64 (a2+(IntKind.wrap .i64 ((IntKind.wrap .i64 (2*a3))+1))))with|none=>none|some x23=>some (.inl ((Am (Am a0 (AE (IntKind.wrap .i64 (a2+a3))) (AM a0 (AE (IntKind.wrap .i64 (a2+(IntKind.wrap .i64 ((IntKind.wrap .i64 (2*a3))+1))))) z)) (AE (IntKind.wrap .i64 (a2+(IntKind.wrap .i64 ((IntKind.wrap .i64 (2*a3))+1))))) (AM a0 (AE (IntKind.wrap .i64 (a2+a3))) z)),a1,a2,(IntKind.wrap .i64 ((IntKind.wrap .i64 (2*a3))+1)),()))
def Wu[Lk]{α:Type}(z:α)(c:α×α×Unit→Option U9):(List α×Int×Int×Int×Unit)→Option ((List α×Unit)):=fun(a0,a1,a2,a3,_)=>
 match AS (LO z c) many (a0,a2,a3,a1,())with|none=>none|some r=>match r with
 |.inl (o0,_)=>some (o0,())
 |.inr r=>match r with
 |.inl (o1,_)=>some (o1,())
 |.inr _=>none
def AJ2[Lk]{α:Type}(z:α)(c:α×α×Unit→Option U9)(v:(List α×Int×Int×Int×Unit)):Option ((List α×Unit)):=Lk.f ((Wu z c) v)
theorem AYT{α:Type}(z:α)(c:α×α×Unit→Option U9)(v:(List α×Int×Int×Int×Unit)):(AJ2 z c) v=(Wu z c) v:=AI _
def L5[Lk]{α:Type}(z:α)(c:α×α×Unit→Option U9):(List α×Int×Int×Int×Unit)→Option ((List α×Int×Int×Int×Unit)⊕(List α×Unit)⊕Unit):=fun(a0,a1,a2,a3,_)=>
 match(ile 0 a3)with
 |true=>match idx a0 (IntKind.wrap .i64 (a1+a3))with|none=>none|some x0=>match idx a0 a1 with|none=>none|some x1=>match idx a0 a1 with|none=>none|some x2=>match idx (Am a0 (AE a1) (AM a0 (AE (IntKind.wrap .i64 (a1+a3))) z)) (IntKind.wrap .i64 (a1+a3))with|none=>none|some x3=>match(AJ2 z c) ((Am (Am a0 (AE a1) (AM a0 (AE (IntKind.wrap .i64 (a1+a3))) z)) (AE (IntKind.wrap .i64 (a1+a3))) (AM a0 (AE a1) z)),a2,a3,a1,())with|none=>none|some (y4,_)=>some (.inl (y4,a1,a2,(IntKind.wrap .i64 (a3-1)),()))
 |false=>some (.inr (.inl (a0,())))
def L6[Lk]{α:Type}(z:α)(c:α×α×Unit→Option U9):(List α×Int×Int×Int×Int×Unit)→Option ((List α×Int×Int×Int×Int×Unit)⊕(List α×Int×Int×Int×Unit)⊕Unit):=fun(a0,a1,a2,a3,a4,_)=>
 match(ile 0 a4)with
 |true=>match(AJ2 z c) (a0,a4,a3,a1,())with|none=>none|some (y0,_)=>some (.inl (y0,a1,a2,a3,(IntKind.wrap .i64 (a4-1)),()))
 |false=>some (.inr (.inl (a0,a1,a2,a3,())))
def XD[Lk]{α:Type}(z:α)(c:α×α×Unit→Option U9):(List α×Int×Int×Unit)→Option ((List α×Unit)):=fun(a0,a1,a2,_)=>
 match quo? .i64 (IntKind.wrap .i64 ((IntKind.wrap .i64 (a2-a1))-1)) 2 with|none=>none|some x0=>match AS (L6 z c) many (a0,a1,0,(IntKind.wrap .i64 (a2-a1)),x0,())with|none=>none|some r=>match r with
 |.inl (o1,o2,o3,o4,_)=>match AS (L5 z c) many (o1,o2,o3,(IntKind.wrap .i64 (o4-1)),())with|none=>none|some r=>match r with
  |.inl (o5,_)=>some (o5,())
  |.inr _=>none
 |.inr _=>none
def ATm[Lk]{α:Type}(z:α)(c:α×α×Unit→Option U9)(v:(List α×Int×Int×Unit)):Option ((List α×Unit)):=Lk.f ((XD z c) v)
theorem Aai{α:Type}(z:α)(c:α×α×Unit→Option U9)(v:(List α×Int×Int×Unit)):(ATm z c) v=(XD z c) v:=AI _
def HL[Lk]{α:Type}(z:α)(c:α×α×Unit→Option U9):(List α×Int×Int×Int×Int×Int×Unit)→Option ((List α×Int×Int×Int×Int×Int×Unit)⊕(List α×Unit)⊕Unit):=fun(a0,a1,a2,a3,a4,a5,_)=>
 match quo? .i64 a2 4 with|none=>none|some x0=>match(ile a5 (IntKind.wrap .i64 ((IntKind.wrap .i64 (a1+(IntKind.wrap .i64 (x0*2))))+1)))with
 |true=>match xorNext (a3,())with|none=>none|some (y1,y2,_)=>match(ile a2 (IntKind.wrap .i64 (IntKind.wrap .u64 ((BitVec.ofInt (IntKind.bits .u64) y2 &&& BitVec.ofInt (IntKind.bits .u64) (IntKind.wrap .u64 (a4-1))).toNat))))with
  |true=>match idx a0 (IntKind.wrap .i64 (a1+(IntKind.wrap .i64 ((IntKind.wrap .i64 (IntKind.wrap .u64 ((BitVec.ofInt (IntKind.bits .u64) y2 &&& BitVec.ofInt (IntKind.bits .u64) (IntKind.wrap .u64 (a4-1))).toNat)))-a2))))with|none=>none|some x3=>match idx a0 a5 with|none=>none|some x4=>match idx a0 a5 with|none=>none|some x5=>match idx (Am a0 (AE a5) (AM a0 (AE (IntKind.wrap .i64 (a1+(IntKind.wrap .i64 ((IntKind.wrap .i64 (IntKind.wrap .u64 ((BitVec.ofInt (IntKind.bits .u64) y2 &&& BitVec.ofInt (IntKind.bits .u64) (IntKind.wrap .u64 (a4-1))).toNat)))-a2))))) z)) (IntKind.wrap .i64 (a1+(IntKind.wrap .i64 ((IntKind.wrap .i64 (IntKind.wrap .u64 ((BitVec.ofInt (IntKind.bits .u64) y2 &&& BitVec.ofInt (IntKind.bits .u64) (IntKind.wrap .u64 (a4-1))).toNat)))-a2))))with|none=>none|some x6=>some (.inl ((Am (Am a0 (AE a5) (AM a0 (AE (IntKind.wrap .i64 (a1+(IntKind.wrap .i64 ((IntKind.wrap .i64 (IntKind.wrap .u64 ((BitVec.ofInt (IntKind.bits .u64) y2 &&& BitVec.ofInt (IntKind.bits .u64) (IntKind.wrap .u64 (a4-1))).toNat)))-a2))))) z)) (AE (IntKind.wrap .i64 (a1+(IntKind.wrap .i64 ((IntKind.wrap .i64 (IntKind.wrap .u64 ((BitVec.ofInt (IntKind.bits .u64) y2 &&& BitVec.ofInt (IntKind.bits .u64) (IntKind.wrap .u64 (a4-1))).toNat)))-a2))))) (AM a0 (AE a5) z)),a1,a2,y1,a4,(IntKind.wrap .i64 (a5+1)),()))
  |false=>match idx a0 (IntKind.wrap .i64 (a1+(IntKind.wrap .i64 (IntKind.wrap .u64 ((BitVec.ofInt (IntKind.bits .u64) y2 &&& BitVec.ofInt (IntKind.bits .u64) (IntKind.wrap .u64 (a4-1))).toNat)))))with|none=>none|some x7=>match idx a0 a5 with|none=>none|some x8=>match idx a0 a5 with|none=>none|some x9=>match idx (Am a0 (AE a5) (AM a0 (AE (IntKind.wrap .i64 (a1+(IntKind.wrap .i64 (IntKind.wrap .u64 ((BitVec.ofInt (IntKind.bits .u64) y2 &&& BitVec.ofInt (IntKind.bits .u64) (IntKind.wrap .u64 (a4-1))).toNat)))))) z)) (IntKind.wrap .i64 (a1+(IntKind.wrap .i64 (IntKind.wrap .u64 ((BitVec.ofInt (IntKind.bits .u64) y2 &&& BitVec.ofInt (IntKind.bits .u64) (IntKind.wrap .u64 (a4-1))).toNat)))))with|none=>none|some x10=>some (.inl ((Am (Am a0 (AE a5) (AM a0 (AE (IntKind.wrap .i64 (a1+(IntKind.wrap .i64 (IntKind.wrap .u64 ((BitVec.ofInt (IntKind.bits .u64) y2 &&& BitVec.ofInt (IntKind.bits .u64) (IntKind.wrap .u64 (a4-1))).toNat)))))) z)) (AE (IntKind.wrap .i64 (a1+(IntKind.wrap .i64 (IntKind.wrap .u64 ((BitVec.ofInt (IntKind.bits .u64) y2 &&& BitVec.ofInt (IntKind.bits .u64) (IntKind.wrap .u64 (a4-1))).toNat)))))) (AM a0 (AE a5) z)),a1,a2,y1,a4,(IntKind.wrap .i64 (a5+1)),()))
 |false=>some (.inr (.inl (a0,())))
def Qv[Lk]{α:Type}(z:α)(c:α×α×Unit→Option U9):(List α×Int×Int×Unit)→Option ((List α×Unit)):=fun(a0,a1,a2,_)=>
 match(ile 8 (IntKind.wrap .i64 (a2-a1)))with
 |true=>match M3 ((IntKind.wrap .i64 (a2-a1)),())with|none=>none|some (y0,_)=>match quo? .i64 (IntKind.wrap .i64 (a2-a1)) 4 with|none=>none|some x1=>match AS (HL z c) many (a0,a1,(IntKind.wrap .i64 (a2-a1)),(IntKind.wrap .u64 (IntKind.wrap .i64 (a2-a1))),y0,(IntKind.wrap .i64 ((IntKind.wrap .i64 (a1+(IntKind.wrap .i64 (x1*2))))-1)),())with|none=>none|some r=>match r with
  |.inl (o2,_)=>some (o2,())
  |.inr _=>none
 |false=>some (a0,())
def AIi[Lk]{α:Type}(z:α)(c:α×α×Unit→Option U9)(v:(List α×Int×Int×Unit)):Option ((List α×Unit)):=Lk.f ((Qv z c) v)
theorem AXW{α:Type}(z:α)(c:α×α×Unit→Option U9)(v:(List α×Int×Int×Unit)):(AIi z c) v=(Qv z c) v:=AI _
def My[Lk]{α:Type}(z:α)(c:α×α×Unit→Option U9):(List α×Int×Int×Int×Unit)→Option ((List α×Int×Int×Int×Unit)):=fun(a0,a1,a2,a3,_)=>
 match idx a0 a2 with|none=>none|some x0=>match idx a0 a1 with|none=>none|some x1=>match c ((AM a0 (AE a2) z),(AM a0 (AE a1) z),())with|none=>none|some (y2,_)=>match(ilt y2 0)with
 |true=>some (a0,(IntKind.wrap .i64 (a3+1)),a2,a1,())
 |false=>some (a0,a3,a1,a2,())
def Mz[Lk]{α:Type}(z:α)(c:α×α×Unit→Option U9)(v:(List α×Int×Int×Int×Unit)):Option ((List α×Int×Int×Int×Unit)):=Lk.f ((My z c) v)
theorem AQC{α:Type}(z:α)(c:α×α×Unit→Option U9)(v:(List α×Int×Int×Int×Unit)):(Mz z c) v=(My z c) v:=AI _
def M6[Lk]{α:Type}(z:α)(c:α×α×Unit→Option U9):(List α×Int×Int×Int×Int×Unit)→Option ((List α×Int×Int×Unit)):=fun(a0,a1,a2,a3,a4,_)=>
 match(Mz z c) (a0,a1,a2,a4,())with|none=>none|some (y0,y1,y2,y3,_)=>match(Mz z c) (y0,y3,a3,y1,())with|none=>none|some (y4,y5,y6,y7,_)=>match(Mz z c) (y4,y2,y6,y5,())with|none=>none|some (y8,y9,y10,y11,_)=>some (y8,y9,y11,())
def M7[Lk]{α:Type}(z:α)(c:α×α×Unit→Option U9)(v:(List α×Int×Int×Int×Int×Unit)):Option ((List α×Int×Int×Unit)):=Lk.f ((M6 z c) v)
theorem AQc{α:Type}(z:α)(c:α×α×Unit→Option U9)(v:(List α×Int×Int×Int×Int×Unit)):(M7 z c) v=(M6 z c) v:=AI _
def M9[Lk]{α:Type}(z:α)(c:α×α×Unit→Option U9):(List α×Int×Int×Unit)→Option ((List α×Int×Int×Unit)):=fun(a0,a1,a2,_)=>
 match(M7 z c) (a0,(IntKind.wrap .i64 (a1-1)),a1,(IntKind.wrap .i64 (a1+1)),a2,())with|none=>none|some (y0,y1,y2,_)=>some (y0,y1,y2,())
def NA[Lk]{α:Type}(z:α)(c:α×α×Unit→Option U9)(v:(List α×Int×Int×Unit)):Option ((List α×Int×Int×Unit)):=Lk.f ((M9 z c) v)
theorem AQe{α:Type}(z:α)(c:α×α×Unit→Option U9)(v:(List α×Int×Int×Unit)):(NA z c) v=(M9 z c) v:=AI _
def Pn[Lk]{α:Type}(z:α)(c:α×α×Unit→Option U9):(List α×Int×Int×Unit)→Option ((List α×Int×Int×Unit)):=fun(a0,a1,a2,_)=>
 match quo? .i64 (IntKind.wrap .i64 (a2-a1)) 4 with|none=>none|some x0=>match quo? .i64 (IntKind.wrap .i64 (a2-a1)) 4 with|none=>none|some x1=>match quo? .i64 (IntKind.wrap .i64 (a2-a1)) 4 with|none=>none|some x2=>match(ile 8 (IntKind.wrap .i64 (a2-a1)))with
 |true=>match(ile 50 (IntKind.wrap .i64 (a2-a1)))with
  |true=>match(NA z c) (a0,(IntKind.wrap .i64 (a1+(IntKind.wrap .i64 (x0*1)))),0,())with|none=>none|some (y3,y4,y5,_)=>match(NA z c) (y3,(IntKind.wrap .i64 (a1+(IntKind.wrap .i64 (x1*2)))),y4,())with|none=>none|some (y6,y7,y8,_)=>match(NA z c) (y6,(IntKind.wrap .i64 (a1+(IntKind.wrap .i64 (x2*3)))),y7,())with|none=>none|some (y9,y10,y11,_)=>match(M7 z c) (y9,y5,y8,y11,y10,())with|none=>none|some (y12,y13,y14,_)=>match(ieq y13 0)with
   |true=>some (y12,y14,1,())
   |false=>match(ieq y13 12)with
   |true=>some (y12,y14,2,())
   |false=>some (y12,y14,0,())
  |false=>match(M7 z c) (a0,(IntKind.wrap .i64 (a1+(IntKind.wrap .i64 (x0*1)))),(IntKind.wrap .i64 (a1+(IntKind.wrap .i64 (x1*2)))),(IntKind.wrap .i64 (a1+(IntKind.wrap .i64 (x2*3)))),0,())with|none=>none|some (y15,y16,y17,_)=>match(ieq y16 0)with
  |true=>some (y15,y17,1,())
  |false=>match(ieq y16 12)with
  |true=>some (y15,y17,2,())
  |false=>some (y15,y17,0,())
 |false=>match(ieq 0 0)with
 |true=>some (a0,(IntKind.wrap .i64 (a1+(IntKind.wrap .i64 (x1*2)))),1,())
 |false=>match(ieq 0 12)with
 |true=>some (a0,(IntKind.wrap .i64 (a1+(IntKind.wrap .i64 (x1*2)))),2,())
 |false=>some (a0,(IntKind.wrap .i64 (a1+(IntKind.wrap .i64 (x1*2)))),0,())
def AGA[Lk]{α:Type}(z:α)(c:α×α×Unit→Option U9)(v:(List α×Int×Int×Unit)):Option ((List α×Int×Int×Unit)):=Lk.f ((Pn z c) v)
theorem AVB{α:Type}(z:α)(c:α×α×Unit→Option U9)(v:(List α×Int×Int×Unit)):(AGA z c) v=(Pn z c) v:=AI _
def Wy[Lk]{α:Type}(z:α)(c:α×α×Unit→Option U9):(List α×Int×Int×Unit)→Option ((List α×Int×Int×Unit)⊕(List α×Unit)⊕Unit):=fun(a0,a1,a2,_)=>
 match(ilt a1 a2)with
 |true=>match idx a0 a2 with|none=>none|some x0=>match idx a0 a1 with|none=>none|some x1=>match idx a0 a1 with|none=>none|some x2=>match idx (Am a0 (AE a1) (AM a0 (AE a2) z)) a2 with|none=>none|some x3=>some (.inl ((Am (Am a0 (AE a1) (AM a0 (AE a2) z)) (AE a2) (AM a0 (AE a1) z)),(IntKind.wrap .i64 (a1+1)),(IntKind.wrap .i64 (a2-1)),()))
 |false=>some (.inr (.inl (a0,())))
def AFu[Lk]{α:Type}(z:α)(c:α×α×Unit→Option U9):(List α×Int×Int×Unit)→Option ((List α×Unit)):=fun(a0,a1,a2,_)=>
 match AS (Wy z c) many (a0,a1,(IntKind.wrap .i64 (a2-1)),())with|none=>none|some r=>match r with
 |.inl (o0,_)=>some (o0,())
 |.inr _=>none
def AcB[Lk]{α:Type}(z:α)(c:α×α×Unit→Option U9)(v:(List α×Int×Int×Unit)):Option ((List α×Unit)):=Lk.f ((AFu z c) v)
theorem AcA{α:Type}(z:α)(c:α×α×Unit→Option U9)(v:(List α×Int×Int×Unit)):(AcB z c) v=(AFu z c) v:=AI _
def GP[Lk]{α:Type}(z:α)(c:α×α×Unit→Option U9):(List α×Int×Int×Int×Int×Int×Unit)→Option ((List α×Int×Int×Int×Int×Int×Unit)⊕(List α×Int×Int×Int×Int×Unit)⊕Unit):=fun(a0,a1,a2,a3,a4,a5,_)=>
 match(ilt a5 a2)with
 |true=>match idx a0 a5 with|none=>none|some x0=>match idx a0 (IntKind.wrap .i64 (a5-1))with|none=>none|some x1=>match c ((AM a0 (AE a5) z),(AM a0 (AE (IntKind.wrap .i64 (a5-1))) z),())with|none=>none|some (y2,_)=>match(!(ilt y2 0))with
  |true=>some (.inr (.inl (a0,a1,a2,a3,a4,())))
  |false=>match idx a0 (IntKind.wrap .i64 (a5-1))with|none=>none|some x3=>match idx a0 a5 with|none=>none|some x4=>match idx a0 a5 with|none=>none|some x5=>match idx (Am a0 (AE a5) (AM a0 (AE (IntKind.wrap .i64 (a5-1))) z)) (IntKind.wrap .i64 (a5-1))with|none=>none|some x6=>some (.inl ((Am (Am a0 (AE a5) (AM a0 (AE (IntKind.wrap .i64 (a5-1))) z)) (AE (IntKind.wrap .i64 (a5-1))) (AM a0 (AE a5) z)),a1,a2,a3,a4,(IntKind.wrap .i64 (a5+1)),()))
 |false=>some (.inr (.inl (a0,a1,a2,a3,a4,())))
def GQ[Lk]{α:Type}(z:α)(c:α×α×Unit→Option U9):(List α×Int×Int×Int×Int×Int×Unit)→Option ((List α×Int×Int×Int×Int×Int×Unit)⊕(List α×Int×Int×Int×Int×Unit)⊕Unit):=fun(a0,a1,a2,a3,a4,a5,_)=>
 match(ile 1 a5)with
 |true=>match idx a0 a5 with|none=>none|some x0=>match idx a0 (IntKind.wrap .i64 (a5-1))with|none=>none|some x1=>match c ((AM a0 (AE a5) z),(AM a0 (AE (IntKind.wrap .i64 (a5-1))) z),())with|none=>none|some (y2,_)=>match(!(ilt y2 0))with
  |true=>some (.inr (.inl (a0,a1,a2,a3,a4,())))
  |false=>match idx a0 (IntKind.wrap .i64 (a5-1))with|none=>none|some x3=>match idx a0 a5 with|none=>none|some x4=>match idx a0 a5 with|none=>none|some x5=>match idx (Am a0 (AE a5) (AM a0 (AE (IntKind.wrap .i64 (a5-1))) z)) (IntKind.wrap .i64 (a5-1))with|none=>none|some x6=>some (.inl ((Am (Am a0 (AE a5) (AM a0 (AE (IntKind.wrap .i64 (a5-1))) z)) (AE (IntKind.wrap .i64 (a5-1))) (AM a0 (AE a5) z)),a1,a2,a3,a4,(IntKind.wrap .i64 (a5-1)),()))
 |false=>some (.inr (.inl (a0,a1,a2,a3,a4,())))
def IZ[Lk]{α:Type}(z:α)(c:α×α×Unit→Option U9):(List α×Int×Int×Int×Int×Unit)→Option ((List α×Int×Int×Int×Int×Unit)⊕(List α×Int×Int×Int×Int×Unit)⊕Unit):=fun(a0,a1,a2,a3,a4,_)=>
 match(ilt a3 a2)with
 |true=>match idx a0 a3 with|none=>none|some x0=>match idx a0 (IntKind.wrap .i64 (a3-1))with|none=>none|some x1=>match c ((AM a0 (AE a3) z),(AM a0 (AE (IntKind.wrap .i64 (a3-1))) z),())with|none=>none|some (y2,_)=>match(!(ilt y2 0))with
  |true=>some (.inl (a0,a1,a2,(IntKind.wrap .i64 (a3+1)),a4,()))
  |false=>some (.inr (.inl (a0,a1,a2,a3,a4,())))
 |false=>some (.inr (.inl (a0,a1,a2,a3,a4,())))
def Cg[Lk]{α:Type}(z:α)(c:α×α×Unit→Option U9):(List α×Int×Int×Int×Int×Unit)→Option ((List α×Int×Int×Int×Int×Unit)⊕(List α×Bool×Unit)⊕(List α×Unit)⊕Unit):=fun(a0,a1,a2,a3,a4,_)=>
 match(ilt a4 5)with
 |true=>match AS (IZ z c) many (a0,a1,a2,a3,a4,())with|none=>none|some r=>match r with
  |.inl (o0,o1,o2,o3,o4,_)=>match(ieq o3 o2)with
   |true=>some (.inr (.inl (o0,true,())))
   |false=>match(ilt (IntKind.wrap .i64 (o2-o1)) 50)with
   |true=>some (.inr (.inl (o0,false,())))
   |false=>match idx o0 (IntKind.wrap .i64 (o3-1))with|none=>none|some x5=>match idx o0 o3 with|none=>none|some x6=>match idx o0 o3 with|none=>none|some x7=>match idx (Am o0 (AE o3) (AM o0 (AE (IntKind.wrap .i64 (o3-1))) z)) (IntKind.wrap .i64 (o3-1))with|none=>none|some x8=>match(ile 2 (IntKind.wrap .i64 (o3-o1)))with
   |true=>match AS (GQ z c) many ((Am (Am o0 (AE o3) (AM o0 (AE (IntKind.wrap .i64 (o3-1))) z)) (AE (IntKind.wrap .i64 (o3-1))) (AM o0 (AE o3) z)),o1,o2,o3,o4,(IntKind.wrap .i64 (o3-1)),())with|none=>none|some r=>match r with
    |.inl (o9,o10,o11,o12,o13,_)=>match(ile 2 (IntKind.wrap .i64 (o11-o12)))with
     |true=>match AS (GP z c) many (o9,o10,o11,o12,o13,(IntKind.wrap .i64 (o12+1)),())with|none=>none|some r=>match r with
      |.inl (o14,o15,o16,o17,o18,_)=>some (.inl (o14,o15,o16,o17,(IntKind.wrap .i64 (o18+1)),()))
      |.inr _=>none
     |false=>some (.inl (o9,o10,o11,o12,(IntKind.wrap .i64 (o13+1)),()))
    |.inr _=>none
   |false=>match(ile 2 (IntKind.wrap .i64 (o2-o3)))with
   |true=>match AS (GP z c) many ((Am (Am o0 (AE o3) (AM o0 (AE (IntKind.wrap .i64 (o3-1))) z)) (AE (IntKind.wrap .i64 (o3-1))) (AM o0 (AE o3) z)),o1,o2,o3,o4,(IntKind.wrap .i64 (o3+1)),())with|none=>none|some r=>match r with
    |.inl (o19,o20,o21,o22,o23,_)=>some (.inl (o19,o20,o21,o22,(IntKind.wrap .i64 (o23+1)),()))
    |.inr _=>none
   |false=>some (.inl ((Am (Am o0 (AE o3) (AM o0 (AE (IntKind.wrap .i64 (o3-1))) z)) (AE (IntKind.wrap .i64 (o3-1))) (AM o0 (AE o3) z)),o1,o2,o3,(IntKind.wrap .i64 (o4+1)),()))
  |.inr _=>none
 |false=>some (.inr (.inr (.inl (a0,()))))
def J2[Lk]{α:Type}(z:α)(c:α×α×Unit→Option U9):(List α×Int×Int×Unit)→Option ((List α×Bool×Unit)):=fun(a0,a1,a2,_)=>
 match AS (Cg z c) many (a0,a1,a2,(IntKind.wrap .i64 (a1+1)),0,())with|none=>none|some r=>match r with
 |.inl (o0,o1,_)=>some (o0,o1,())
 |.inr r=>match r with
 |.inl (o2,_)=>some (o2,false,())
 |.inr _=>none
def Ps[Lk]{α:Type}(z:α)(c:α×α×Unit→Option U9)(v:(List α×Int×Int×Unit)):Option ((List α×Bool×Unit)):=Lk.f ((J2 z c) v)
theorem ALK{α:Type}(z:α)(c:α×α×Unit→Option U9)(v:(List α×Int×Int×Unit)):(Ps z c) v=(J2 z c) v:=AI _
def J3[Lk]{α:Type}(z:α)(c:α×α×Unit→Option U9):(List α×Int×Int×Int×Unit)→Option ((List α×Int×Int×Int×Unit)⊕(List α×Int×Int×Int×Unit)⊕Unit):=fun(a0,a1,a2,a3,_)=>
 match(ile a2 a3)with
 |true=>match idx a0 a1 with|none=>none|some x0=>match idx a0 a3 with|none=>none|some x1=>match c ((AM a0 (AE a1) z),(AM a0 (AE a3) z),())with|none=>none|some (y2,_)=>match(ilt y2 0)with
  |true=>some (.inl (a0,a1,a2,(IntKind.wrap .i64 (a3-1)),()))
  |false=>some (.inr (.inl (a0,a1,a2,a3,())))
 |false=>some (.inr (.inl (a0,a1,a2,a3,())))
def J4[Lk]{α:Type}(z:α)(c:α×α×Unit→Option U9):(List α×Int×Int×Int×Unit)→Option ((List α×Int×Int×Int×Unit)⊕(List α×Int×Int×Int×Unit)⊕Unit):=fun(a0,a1,a2,a3,_)=>
 match(ile a2 a3)with
 |true=>match idx a0 a1 with|none=>none|some x0=>match idx a0 a2 with|none=>none|some x1=>match c ((AM a0 (AE a1) z),(AM a0 (AE a2) z),())with|none=>none|some (y2,_)=>match(!(ilt y2 0))with
  |true=>some (.inl (a0,a1,(IntKind.wrap .i64 (a2+1)),a3,()))
  |false=>some (.inr (.inl (a0,a1,a2,a3,())))
 |false=>some (.inr (.inl (a0,a1,a2,a3,())))
def J5[Lk]{α:Type}(z:α)(c:α×α×Unit→Option U9):(List α×Int×Int×Int×Unit)→Option ((List α×Int×Int×Int×Unit)⊕(List α×Int×Unit)⊕Unit):=fun(a0,a1,a2,a3,_)=>
 match AS (J4 z c) many (a0,a1,a2,a3,())with|none=>none|some r=>match r with
 |.inl (o0,o1,o2,o3,_)=>match AS (J3 z c) many (o0,o1,o2,o3,())with|none=>none|some r=>match r with
  |.inl (o4,o5,o6,o7,_)=>match(ilt o7 o6)with
   |true=>some (.inr (.inl (o4,o6,())))
   |false=>match idx o4 o7 with|none=>none|some x8=>match idx o4 o6 with|none=>none|some x9=>match idx o4 o6 with|none=>none|some x10=>match idx (Am o4 (AE o6) (AM o4 (AE o7) z)) o7 with|none=>none|some x11=>some (.inl ((Am (Am o4 (AE o6) (AM o4 (AE o7) z)) (AE o7) (AM o4 (AE o6) z)),o5,(IntKind.wrap .i64 (o6+1)),(IntKind.wrap .i64 (o7-1)),()))
  |.inr _=>none
 |.inr _=>none
def Mw[Lk]{α:Type}(z:α)(c:α×α×Unit→Option U9):(List α×Int×Int×Int×Unit)→Option ((List α×Int×Unit)):=fun(a0,a1,a2,a3,_)=>
 match idx a0 a3 with|none=>none|some x0=>match idx a0 a1 with|none=>none|some x1=>match idx a0 a1 with|none=>none|some x2=>match idx (Am a0 (AE a1) (AM a0 (AE a3) z)) a3 with|none=>none|some x3=>match AS (J5 z c) many ((Am (Am a0 (AE a1) (AM a0 (AE a3) z)) (AE a3) (AM a0 (AE a1) z)),a1,(IntKind.wrap .i64 (a1+1)),(IntKind.wrap .i64 (a2-1)),())with|none=>none|some r=>match r with
 |.inl (o4,o5,_)=>some (o4,o5,())
 |.inr _=>none
def W3[Lk]{α:Type}(z:α)(c:α×α×Unit→Option U9)(v:(List α×Int×Int×Int×Unit)):Option ((List α×Int×Unit)):=Lk.f ((Mw z c) v)
theorem AQA{α:Type}(z:α)(c:α×α×Unit→Option U9)(v:(List α×Int×Int×Int×Unit)):(W3 z c) v=(Mw z c) v:=AI _
def Pu[Lk]{α:Type}(z:α)(c:α×α×Unit→Option U9):(List α×Int×Int×Int×Unit)→Option ((List α×Int×Int×Int×Unit)⊕(List α×Int×Int×Int×Unit)⊕Unit):=fun(a0,a1,a2,a3,_)=>
 match(ile a2 a3)with
 |true=>match idx a0 a3 with|none=>none|some x0=>match idx a0 a1 with|none=>none|some x1=>match c ((AM a0 (AE a3) z),(AM a0 (AE a1) z),())with|none=>none|some (y2,_)=>match(!(ilt y2 0))with
  |true=>some (.inl (a0,a1,a2,(IntKind.wrap .i64 (a3-1)),()))
  |false=>some (.inr (.inl (a0,a1,a2,a3,())))
 |false=>some (.inr (.inl (a0,a1,a2,a3,())))
def Pv[Lk]{α:Type}(z:α)(c:α×α×Unit→Option U9):(List α×Int×Int×Int×Unit)→Option ((List α×Int×Int×Int×Unit)⊕(List α×Int×Int×Int×Unit)⊕Unit):=fun(a0,a1,a2,a3,_)=>
 match(ile a2 a3)with
 |true=>match idx a0 a2 with|none=>none|some x0=>match idx a0 a1 with|none=>none|some x1=>match c ((AM a0 (AE a2) z),(AM a0 (AE a1) z),())with|none=>none|some (y2,_)=>match(ilt y2 0)with
  |true=>some (.inl (a0,a1,(IntKind.wrap .i64 (a2+1)),a3,()))
  |false=>some (.inr (.inl (a0,a1,a2,a3,())))
 |false=>some (.inr (.inl (a0,a1,a2,a3,())))
def Pw[Lk]{α:Type}(z:α)(c:α×α×Unit→Option U9):(List α×Int×Int×Int×Unit)→Option ((List α×Int×Int×Int×Unit)⊕(List α×Int×Int×Unit)⊕Unit):=fun(a0,a1,a2,a3,_)=>
 match AS (Pv z c) many (a0,a1,a2,a3,())with|none=>none|some r=>match r with
 |.inl (o0,o1,o2,o3,_)=>match AS (Pu z c) many (o0,o1,o2,o3,())with|none=>none|some r=>match r with
  |.inl (o4,o5,o6,o7,_)=>match(ilt o7 o6)with
   |true=>some (.inr (.inl (o4,o5,o7,())))
   |false=>match idx o4 o7 with|none=>none|some x8=>match idx o4 o6 with|none=>none|some x9=>match idx o4 o6 with|none=>none|some x10=>match idx (Am o4 (AE o6) (AM o4 (AE o7) z)) o7 with|none=>none|some x11=>some (.inl ((Am (Am o4 (AE o6) (AM o4 (AE o7) z)) (AE o7) (AM o4 (AE o6) z)),o5,(IntKind.wrap .i64 (o6+1)),(IntKind.wrap .i64 (o7-1)),()))
  |.inr _=>none
 |.inr _=>none
def Px[Lk]{α:Type}(z:α)(c:α×α×Unit→Option U9):(List α×Int×Int×Int×Unit)→Option ((List α×Int×Int×Int×Unit)⊕(List α×Int×Int×Int×Unit)⊕Unit):=fun(a0,a1,a2,a3,_)=>
 match(ile a2 a3)with
 |true=>match idx a0 a3 with|none=>none|some x0=>match idx a0 a1 with|none=>none|some x1=>match c ((AM a0 (AE a3) z),(AM a0 (AE a1) z),())with|none=>none|some (y2,_)=>match(!(ilt y2 0))with
  |true=>some (.inl (a0,a1,a2,(IntKind.wrap .i64 (a3-1)),()))
  |false=>some (.inr (.inl (a0,a1,a2,a3,())))
 |false=>some (.inr (.inl (a0,a1,a2,a3,())))
def Py[Lk]{α:Type}(z:α)(c:α×α×Unit→Option U9):(List α×Int×Int×Int×Unit)→Option ((List α×Int×Int×Int×Unit)⊕(List α×Int×Int×Int×Unit)⊕Unit):=fun(a0,a1,a2,a3,_)=>
 match(ile a2 a3)with
 |true=>match idx a0 a2 with|none=>none|some x0=>match idx a0 a1 with|none=>none|some x1=>match c ((AM a0 (AE a2) z),(AM a0 (AE a1) z),())with|none=>none|some (y2,_)=>match(ilt y2 0)with
  |true=>some (.inl (a0,a1,(IntKind.wrap .i64 (a2+1)),a3,()))
  |false=>some (.inr (.inl (a0,a1,a2,a3,())))
 |false=>some (.inr (.inl (a0,a1,a2,a3,())))
def W2[Lk]{α:Type}(z:α)(c:α×α×Unit→Option U9):(List α×Int×Int×Int×Unit)→Option ((List α×Int×Bool×Unit)):=fun(a0,a1,a2,a3,_)=>
 match idx a0 a3 with|none=>none|some x0=>match idx a0 a1 with|none=>none|some x1=>match idx a0 a1 with|none=>none|some x2=>match idx (Am a0 (AE a1) (AM a0 (AE a3) z)) a3 with|none=>none|some x3=>match AS (Py z c) many ((Am (Am a0 (AE a1) (AM a0 (AE a3) z)) (AE a3) (AM a0 (AE a1) z)),a1,(IntKind.wrap .i64 (a1+1)),(IntKind.wrap .i64 (a2-1)),())with|none=>none|some r=>match r with
 |.inl (o4,o5,o6,o7,_)=>match AS (Px z c) many (o4,o5,o6,o7,())with|none=>none|some r=>match r with
  |.inl (o8,o9,o10,o11,_)=>match(ilt o11 o10)with
   |true=>match idx o8 o9 with|none=>none|some x12=>match idx o8 o11 with|none=>none|some x13=>match idx o8 o11 with|none=>none|some x14=>match idx (Am o8 (AE o11) (AM o8 (AE o9) z)) o9 with|none=>none|some x15=>some ((Am (Am o8 (AE o11) (AM o8 (AE o9) z)) (AE o9) (AM o8 (AE o11) z)),o11,true,())
   |false=>match idx o8 o11 with|none=>none|some x16=>match idx o8 o10 with|none=>none|some x17=>match idx o8 o10 with|none=>none|some x18=>match idx (Am o8 (AE o10) (AM o8 (AE o11) z)) o11 with|none=>none|some x19=>match AS (Pw z c) many ((Am (Am o8 (AE o10) (AM o8 (AE o11) z)) (AE o11) (AM o8 (AE o10) z)),o9,(IntKind.wrap .i64 (o10+1)),(IntKind.wrap .i64 (o11-1)),())with|none=>none|some r=>match r with
   |.inl (o20,o21,o22,_)=>match idx o20 o21 with|none=>none|some x23=>match idx o20 o22 with|none=>none|some x24=>match idx o20 o22 with|none=>none|some x25=>match idx (Am o20 (AE o22) (AM o20 (AE o21) z)) o21 with|none=>none|some x26=>some ((Am (Am o20 (AE o22) (AM o20 (AE o21) z)) (AE o21) (AM o20 (AE o22) z)),o22,false,())
   |.inr _=>none
  |.inr _=>none
 |.inr _=>none
def ADt[Lk]{α:Type}(z:α)(c:α×α×Unit→Option U9)(v:(List α×Int×Int×Int×Unit)):Option ((List α×Int×Bool×Unit)):=Lk.f ((W2 z c) v)
theorem AZk{α:Type}(z:α)(c:α×α×Unit→Option U9)(v:(List α×Int×Int×Int×Unit)):(ADt z c) v=(W2 z c) v:=AI _
def SC[Lk]{α:Type}(z:α)(c:α×α×Unit→Option U9)(self:(List α×Int×Int×Int×Unit)→Option ((List α×Unit)))(y7:List α)(a1 a2 p l:Int)(a4 a5:Bool):Option ((List α×Int×Int×Int×Bool×Bool×Unit)⊕(List α×Unit)⊕Unit):=
 match(ilt 0 a1)with
 |true=>match idx y7 (IntKind.wrap .i64 (a1-1))with|none=>none|some x9=>match idx y7 p with|none=>none|some x10=>match c ((AM y7 (AE (IntKind.wrap .i64 (a1-1))) z),(AM y7 (AE p) z),())with|none=>none|some (y11,_)=>match(!(ilt y11 0))with
  |true=>match(W3 z c) (y7,a1,a2,p,())with|none=>none|some (y12,y13,_)=>some (.inl (y12,y13,a2,l,a4,a5,()))
  |false=>match(ADt z c) (y7,a1,a2,p,())with|none=>none|some (y14,y15,y16,_)=>match quo? .i64 (IntKind.wrap .i64 (a2-a1)) 8 with|none=>none|some x17=>match(ilt (IntKind.wrap .i64 (y15-a1)) (IntKind.wrap .i64 (a2-y15)))with
  |true=>match self (y14,a1,y15,l,())with|none=>none|some (y18,_)=>some (.inl (y18,(IntKind.wrap .i64 (y15+1)),a2,l,(ile x17 (IntKind.wrap .i64 (y15-a1))),y16,()))
  |false=>match self (y14,(IntKind.wrap .i64 (y15+1)),a2,l,())with|none=>none|some (y19,_)=>some (.inl (y19,a1,y15,l,(ile x17 (IntKind.wrap .i64 (a2-y15))),y16,()))
 |false=>match(ADt z c) (y7,a1,a2,p,())with|none=>none|some (y20,y21,y22,_)=>match quo? .i64 (IntKind.wrap .i64 (a2-a1)) 8 with|none=>none|some x23=>match(ilt (IntKind.wrap .i64 (y21-a1)) (IntKind.wrap .i64 (a2-y21)))with
 |true=>match self (y20,a1,y21,l,())with|none=>none|some (y24,_)=>some (.inl (y24,(IntKind.wrap .i64 (y21+1)),a2,l,(ile x23 (IntKind.wrap .i64 (y21-a1))),y22,()))
 |false=>match self (y20,(IntKind.wrap .i64 (y21+1)),a2,l,())with|none=>none|some (y25,_)=>some (.inl (y25,a1,y21,l,(ile x23 (IntKind.wrap .i64 (a2-y21))),y22,()))
def AGR[Lk]{α:Type}(z:α)(c:α×α×Unit→Option U9)(self:(List α×Int×Int×Int×Unit)→Option ((List α×Unit)))(y6:List α)(a1 a2 p h l:Int)(a4 a5:Bool):Option ((List α×Int×Int×Int×Bool×Bool×Unit)⊕(List α×Unit)⊕Unit):=
 match a4 with
 |true=>match a5 with
  |true=>match(ieq h 1)with
   |true=>match(Ps z c) (y6,a1,a2,())with|none=>none|some (y7,y8,_)=>match y8 with
    |true=>some (.inr (.inl (y7,())))
    |false=>(SC z c) self y7 a1 a2 p l a4 a5
   |false=>(SC z c) self y6 a1 a2 p l a4 a5
  |false=>(SC z c) self y6 a1 a2 p l a4 a5
 |false=>(SC z c) self y6 a1 a2 p l a4 a5
def AGQ[Lk]{α:Type}(z:α)(c:α×α×Unit→Option U9)(self:(List α×Int×Int×Int×Unit)→Option ((List α×Unit)))(y2:List α)(a1 a2 l:Int)(a4 a5:Bool):Option ((List α×Int×Int×Int×Bool×Bool×Unit)⊕(List α×Unit)⊕Unit):=
 match(AGA z c) (y2,a1,a2,())with|none=>none|some (y3,y4,y5,_)=>match(ieq y5 2)with
 |true=>match(AcB z c) (y3,a1,a2,())with|none=>none|some (y6,_)=>(AGR z c) self y6 a1 a2 (IntKind.wrap .i64 ((IntKind.wrap .i64 (a2-1))-(IntKind.wrap .i64 (y4-a1)))) 1 l a4 a5
 |false=>(AGR z c) self y3 a1 a2 y4 y5 l a4 a5
def Pr[Lk]{α:Type}(z:α)(c:α×α×Unit→Option U9)(self:(List α×Int×Int×Int×Unit)→Option ((List α×Unit))):(List α×Int×Int×Int×Bool×Bool×Unit)→Option ((List α×Int×Int×Int×Bool×Bool×Unit)⊕(List α×Unit)⊕Unit):=fun(a0,a1,a2,a3,a4,a5,_)=>
 match(ile (IntKind.wrap .i64 (a2-a1)) 12)with
 |true=>match(Ac1 z c) (a0,a1,a2,())with|none=>none|some (y0,_)=>some (.inr (.inl (y0,())))
 |false=>match(ieq a3 0)with
 |true=>match(ATm z c) (a0,a1,a2,())with|none=>none|some (y1,_)=>some (.inr (.inl (y1,())))
 |false=>match(!a4)with
 |true=>match(AIi z c) (a0,a1,a2,())with|none=>none|some (y2,_)=>(AGQ z c) self y2 a1 a2 (IntKind.wrap .i64 (a3-1)) a4 a5
 |false=>(AGQ z c) self a0 a1 a2 a3 a4 a5
def AGS[Lk]{α:Type}(z:α)(c:α×α×Unit→Option U9)(self:(List α×Int×Int×Int×Unit)→Option ((List α×Unit))):(List α×Int×Int×Int×Unit)→Option ((List α×Unit)):=fun(a0,a1,a2,a3,_)=>
 match AS ((Pr z c) self) many (a0,a1,a2,a3,true,true,())with|none=>none|some r=>match r with
 |.inl (o0,_)=>some (o0,())
 |.inr _=>none
def Lb[Lk]{α:Type}(z:α)(c:α×α×Unit→Option U9):Nat→(List α×Int×Int×Int×Unit)→Option ((List α×Unit))
 |0,_=>none
 |n+1,v=>(AGS z c) ((Lb z c) n) v
def AcQ[Lk]{α:Type}(z:α)(c:α×α×Unit→Option U9)(v:(List α×Int×Int×Int×Unit)):Option ((List α×Unit)):=Lk.f ((Lb z c) 100 v)
theorem AcP{α:Type}(z:α)(c:α×α×Unit→Option U9)(v:(List α×Int×Int×Int×Unit)):(AcQ z c) v=(Lb z c) 100 v:=AI _
def Ws[Lk]{α:Type}(z:α)(c:α×α×Unit→Option U9):(List α×Unit)→Option ((List α×Unit)):=fun(a0,_)=>
 match bitsLen ((IntKind.wrap .u64 (AO a0)),())with|none=>none|some (y0,_)=>match(AcQ z c) (a0,0,(AO a0),y0,())with|none=>none|some (y1,_)=>some (y1,())
def AYM[Lk]{α:Type}(z:α)(c:α×α×Unit→Option U9)(v:(List α×Unit)):Option ((List α×Unit)):=Lk.f ((Ws z c) v)
theorem AYL{α:Type}(z:α)(c:α×α×Unit→Option U9)(v:(List α×Unit)):(AYM z c) v=(Ws z c) v:=AI _
abbrev AQ9:AF:=[(.tmp 0,.own 55 U6),(.tmp 1,.di),(.tmp 2,.di),(.tmp 3,.clo 204 [])]
abbrev AQ8:AF:=[(.obj 0,.own 55 U6)]
abbrev AQ7:List RS:=[]
abbrev ATc:AF:=[(.obj 0,.own 55 U6),(.tmp 0,.own' 0),(.tmp 1,.di),(.tmp 2,.di),(.tmp 3,.clo 204 []),(.tmp 8,.di),(.tmp 9,.di)]
abbrev ATa:A0:=[(.exit 2,[(.obj 0,.own 55 U6),(.tmp 0,.own' 0),(.tmp 1,.di),(.tmp 2,.di),(.tmp 3,.clo 204 []),(.tmp 8,.di)])]
def ATY[Lk]:Uh→Option (Uh⊕U8⊕Unit):=QG (([]:List (Int)):U4) BE
abbrev ATd:AF:=[(.obj 0,.own 55 U6),(.tmp 0,.own' 0),(.tmp 1,.di),(.tmp 2,.di),(.tmp 3,.clo 204 []),(.tmp 8,.di)]
abbrev ATb:A0:=[(.exit 0,[(.obj 0,.own 55 U6)])]
def ATZ[Lk]:U8→Option (U8⊕Um⊕Unit):=QH (([]:List (Int)):U4) BE
def AaN[Lk]:Ud→Option (Um):=AHW (([]:List (Int)):U4) BE
def AeS[Lk](v:Ud):Option (Um):=Ac1 (([]:List (Int)):U4) BE v
theorem Acs v:AeS v=AaN v:=AI _
abbrev AFc:AF:=[(.tmp 0,.own 55 U6),(.tmp 1,.di),(.tmp 2,.di),(.tmp 3,.di),(.tmp 4,.clo 204 [])]
abbrev AFb:AF:=[(.obj 0,.own 55 U6)]
abbrev AFa:List RS:=[]
abbrev AJx:AF:=[(.obj 0,.own 55 U6),(.tmp 0,.own' 0),(.tmp 2,.di),(.tmp 3,.di),(.tmp 4,.clo 204 []),(.tmp 10,.di)]
abbrev AJw:A0:=[(.exit 0,[(.obj 0,.own 55 U6)]),(.ret,[(.obj 0,.own 55 U6)])]
def AJv[Lk]:U8→Option (U8⊕Um⊕Um⊕Unit):=LO (([]:List (Int)):U4) BE
def ASw[Lk]:U8→Option (Um):=Wu (([]:List (Int)):U4) BE
def AYQ[Lk](v:U8):Option (Um):=AJ2 (([]:List (Int)):U4) BE v
theorem AYP v:AYQ v=ASw v:=AI _
abbrev AHe:AF:=[(.tmp 0,.own 55 U6),(.tmp 1,.di),(.tmp 2,.di),(.tmp 3,.clo 204 [])]
abbrev AHd:AF:=[(.obj 0,.own 55 U6)]
abbrev AHc:List RS:=[]
abbrev AMb:AF:=[(.obj 0,.own 55 U6),(.tmp 0,.own' 0),(.tmp 3,.clo 204 []),(.tmp 8,.di),(.tmp 9,.di),(.tmp 12,.di)]
abbrev AMZ:A0:=[(.exit 2,[(.obj 0,.own 55 U6)])]
def AMW[Lk]:U8→Option (U8⊕Um⊕Unit):=L5 (([]:List (Int)):U4) BE
abbrev AMc:AF:=[(.obj 0,.own 55 U6),(.tmp 0,.own' 0),(.tmp 3,.clo 204 []),(.tmp 8,.di),(.tmp 9,.di),(.tmp 10,.di),(.tmp 11,.di)]
abbrev AMa:A0:=[(.exit 0,[(.obj 0,.own 55 U6),(.tmp 0,.own' 0),(.tmp 3,.clo 204 []),(.tmp 8,.di),(.tmp 9,.di),(.tmp 10,.di)])]
def AMY[Lk]:Uh→Option (Uh⊕U8⊕Unit):=L6 (([]:List (Int)):U4) BE
def ATl[Lk]:Ud→Option (Um):=XD (([]:List (Int)):U4) BE
def Aad[Lk](v:Ud):Option (Um):=ATm (([]:List (Int)):U4) BE v
theorem Aac v:Aad v=ATl v:=AI _
abbrev ABL:AF:=[(.tmp 0,.own 55 U6),(.tmp 1,.di),(.tmp 2,.di),(.tmp 3,.clo 204 [])]
abbrev ABK:AF:=[(.obj 0,.own 55 U6)]
abbrev ABJ:List RS:=[]
abbrev AEb:AF:=[(.obj 0,.own 55 U6),(.tmp 0,.own' 0),(.tmp 1,.di),(.tmp 8,.di),(.tmp 9,.box 1),(.cell 1 0,.dat (.int .u64)),(.tmp 10,.dat (.int .u64)),(.tmp 11,.di)]
abbrev AEa:A0:=[(.exit 0,[(.obj 0,.own 55 U6)])]
def AEZ[Lk]:Uw→Option (Uw⊕Um⊕Unit):=HL (([]:List (Int)):U4) BE
def ANm[Lk]:Ud→Option (Um):=Qv (([]:List (Int)):U4) BE
def ASK[Lk](v:Ud):Option (Um):=AIi (([]:List (Int)):U4) BE v
theorem AXT v:ASK v=ANm v:=AI _
abbrev SR:AF:=[(.tmp 0,.own 55 U6),(.tmp 1,.di),(.tmp 2,.di),(.tmp 3,.box 1),(.cell 1 0,.di),(.tmp 4,.clo 204 [])]
abbrev SQ:AF:=[(.obj 0,.own 55 U6),(.obj 1,.box 1),(.cell 1 0,.di),(.tmp 0,.di),(.tmp 1,.di)]
abbrev SO:List RS:=[.one,.one]
def ADx[Lk]:U8→Option (U8):=My (([]:List (Int)):U4) BE
def AGk[Lk](v:U8):Option (U8):=Mz (([]:List (Int)):U4) BE v
theorem AQB v:AGk v=ADx v:=AI _
abbrev Se:AF:=[(.tmp 0,.own 55 U6),(.tmp 1,.di),(.tmp 2,.di),(.tmp 3,.di),(.tmp 4,.box 1),(.cell 1 0,.di),(.tmp 5,.clo 204 [])]
abbrev Sd:AF:=[(.obj 0,.own 55 U6),(.obj 1,.box 1),(.cell 1 0,.di),(.tmp 0,.di)]
abbrev Sc:List RS:=[.one]
def ADy[Lk]:Uh→Option (Ud):=M6 (([]:List (Int)):U4) BE
def AG2[Lk](v:Uh):Option (Ud):=M7 (([]:List (Int)):U4) BE v
theorem AQb v:AG2 v=ADy v:=AI _
abbrev Sk:AF:=[(.tmp 0,.own 55 U6),(.tmp 1,.di),(.tmp 2,.box 1),(.cell 1 0,.di),(.tmp 3,.clo 204 [])]
abbrev Sj:AF:=[(.obj 0,.own 55 U6),(.obj 1,.box 1),(.cell 1 0,.di),(.tmp 0,.di)]
abbrev Si:List RS:=[.one]
def ADz[Lk]:Ud→Option (Ud):=M9 (([]:List (Int)):U4) BE
def AG5[Lk](v:Ud):Option (Ud):=NA (([]:List (Int)):U4) BE v
theorem AQd v:AG5 v=ADz v:=AI _
abbrev Yr:AF:=[(.tmp 0,.own 55 U6),(.tmp 1,.di),(.tmp 2,.di),(.tmp 3,.clo 204 [])]
abbrev Yq:AF:=[(.obj 0,.own 55 U6),(.tmp 0,.di),(.tmp 1,.di)]
abbrev Yp:List RS:=[.one,.one]
def AKX[Lk]:Ud→Option (Ud):=Pn (([]:List (Int)):U4) BE
def APa[Lk](v:Ud):Option (Ud):=AGA (([]:List (Int)):U4) BE v
theorem AVA v:APa v=AKX v:=AI _
abbrev AO1:AF:=[(.tmp 0,.own 55 U6),(.tmp 1,.di),(.tmp 2,.di),(.tmp 3,.clo 204 [])]
abbrev AO0:AF:=[(.obj 0,.own 55 U6)]
abbrev AOz:List RS:=[]
abbrev AS0:AF:=[(.obj 0,.own 55 U6),(.tmp 0,.own' 0),(.tmp 8,.di),(.tmp 9,.di)]
abbrev ASz:A0:=[(.exit 0,[(.obj 0,.own 55 U6)])]
def ASy[Lk]:Ud→Option (Ud⊕Um⊕Unit):=Wy (([]:List (Int)):U4) BE
def AYf[Lk]:Ud→Option (Um):=AFu (([]:List (Int)):U4) BE
def Ady[Lk](v:Ud):Option (Um):=AcB (([]:List (Int)):U4) BE v
theorem Ab7 v:Ady v=AYf v:=AI _
abbrev ON:AF:=[(.tmp 0,.own 55 U6),(.tmp 1,.di),(.tmp 2,.di),(.tmp 3,.clo 204 [])]
abbrev OM:AF:=[(.obj 0,.own 55 U6),(.tmp 0,.dat .bool)]
abbrev OL:List RS:=[.one]
abbrev UO:AF:=[(.obj 0,.own 55 U6),(.tmp 0,.own' 0),(.tmp 1,.di),(.tmp 2,.di),(.tmp 3,.clo 204 []),(.tmp 9,.di),(.tmp 10,.di),(.tmp 12,.di)]
abbrev UK:A0:=[(.exit 6,[(.obj 0,.own 55 U6),(.tmp 0,.own' 0),(.tmp 1,.di),(.tmp 2,.di),(.tmp 3,.clo 204 []),(.tmp 9,.di),(.tmp 10,.di)])]
def UG[Lk]:Uw→Option (Uw⊕Uh⊕Unit):=GP (([]:List (Int)):U4) BE
abbrev UP:AF:=[(.obj 0,.own 55 U6),(.tmp 0,.own' 0),(.tmp 1,.di),(.tmp 2,.di),(.tmp 3,.clo 204 []),(.tmp 9,.di),(.tmp 10,.di),(.tmp 11,.di)]
abbrev UL:A0:=[(.exit 4,[(.obj 0,.own 55 U6),(.tmp 0,.own' 0),(.tmp 1,.di),(.tmp 2,.di),(.tmp 3,.clo 204 []),(.tmp 9,.di),(.tmp 10,.di)])]
def UH[Lk]:Uw→Option (Uw⊕Uh⊕Unit):=GQ (([]:List (Int)):U4) BE
abbrev UQ:AF:=[(.obj 0,.own 55 U6),(.tmp 0,.own' 0),(.tmp 1,.di),(.tmp 2,.di),(.tmp 3,.clo 204 []),(.tmp 9,.di),(.tmp 10,.di)]
abbrev UM:A0:=[(.exit 2,[(.obj 0,.own 55 U6),(.tmp 0,.own' 0),(.tmp 1,.di),(.tmp 2,.di),(.tmp 3,.clo 204 []),(.tmp 9,.di),(.tmp 10,.di)])]
def UI[Lk]:Uh→Option (Uh⊕Uh⊕Unit):=IZ (([]:List (Int)):U4) BE
abbrev UR:AF:=[(.obj 0,.own 55 U6),(.tmp 0,.own' 0),(.tmp 1,.di),(.tmp 2,.di),(.tmp 3,.clo 204 []),(.tmp 9,.di),(.tmp 10,.di)]
abbrev UN:A0:=[(.ret,[(.obj 0,.own 55 U6),(.tmp 8,.dat .bool)]),(.exit 0,[(.obj 0,.own 55 U6)])]
def UJ[Lk]:Uh→Option (Uh⊕(List U4×Bool×Unit)⊕Um⊕Unit):=Cg (([]:List (Int)):U4) BE
def ZE[Lk]:Ud→Option ((List U4×Bool×Unit)):=J2 (([]:List (Int)):U4) BE
def ZF[Lk](v:Ud):Option ((List U4×Bool×Unit)):=Ps (([]:List (Int)):U4) BE v
theorem ALB v:ZF v=ZE v:=AI _
abbrev SJ:AF:=[(.tmp 0,.own 55 U6),(.tmp 1,.di),(.tmp 2,.di),(.tmp 3,.di),(.tmp 4,.clo 204 [])]
abbrev SH:AF:=[(.obj 0,.own 55 U6),(.tmp 0,.di)]
abbrev SF:List RS:=[.one]
abbrev ZQ:AF:=[(.obj 0,.own 55 U6),(.tmp 0,.own' 0),(.tmp 1,.di),(.tmp 4,.clo 204 []),(.tmp 11,.di),(.tmp 12,.di)]
abbrev ZN:A0:=[(.exit 4,[(.obj 0,.own 55 U6),(.tmp 0,.own' 0),(.tmp 1,.di),(.tmp 4,.clo 204 []),(.tmp 11,.di),(.tmp 12,.di)])]
def ZK[Lk]:U8→Option Vg:=J3 (([]:List (Int)):U4) BE
abbrev ZR:AF:=[(.obj 0,.own 55 U6),(.tmp 0,.own' 0),(.tmp 1,.di),(.tmp 4,.clo 204 []),(.tmp 11,.di),(.tmp 12,.di)]
abbrev ZO:A0:=[(.exit 2,[(.obj 0,.own 55 U6),(.tmp 0,.own' 0),(.tmp 1,.di),(.tmp 4,.clo 204 []),(.tmp 11,.di),(.tmp 12,.di)])]
def ZL[Lk]:U8→Option Vg:=J4 (([]:List (Int)):U4) BE
abbrev ZS:AF:=[(.obj 0,.own 55 U6),(.tmp 0,.own' 0),(.tmp 1,.di),(.tmp 4,.clo 204 []),(.tmp 11,.di),(.tmp 12,.di)]
abbrev ZP:A0:=[(.exit 0,[(.obj 0,.own 55 U6),(.tmp 11,.di)])]
def ZM[Lk]:U8→Option (U8⊕Vc⊕Unit):=J5 (([]:List (Int)):U4) BE
def ADu[Lk]:U8→Option (Vc):=Mw (([]:List (Int)):U4) BE
def AGf[Lk](v:U8):Option (Vc):=W3 (([]:List (Int)):U4) BE v
theorem AP3 v:AGf v=ADu v:=AI _
end
end Go.Pev
end
section
namespace Go.Pev
noncomputable section
attribute [local irreducible] MA JB Ng Kv AWT AWU AWV Pc WH WC X1 JD AQ many IntKind.wrap AO Am AM A4 Bi DR Je AE BV Bt imax AT Af
abbrev AGW:AF:=[(.tmp 0,.own 55 U6),(.tmp 1,.di),(.tmp 2,.di),(.tmp 3,.di),(.tmp 4,.clo 204 [])]
abbrev AGV:AF:=[(.obj 0,.own 55 U6),(.tmp 0,.di),(.tmp 1,.dat .bool)]
abbrev AGU:List RS:=[.one,.one]
abbrev AKy:AF:=[(.obj 0,.own 55 U6),(.tmp 0,.own' 0),(.tmp 1,.di),(.tmp 4,.clo 204 []),(.tmp 12,.di),(.tmp 13,.di)]
abbrev AKt:A0:=[(.exit 8,[(.obj 0,.own 55 U6),(.tmp 0,.own' 0),(.tmp 1,.di),(.tmp 4,.clo 204 []),(.tmp 12,.di),(.tmp 13,.di)])]
def AKk[Lk]:U8→Option Vg:=Pu (([]:List (Int)):U4) BE
abbrev AKz:AF:=[(.obj 0,.own 55 U6),(.tmp 0,.own' 0),(.tmp 1,.di),(.tmp 4,.clo 204 []),(.tmp 12,.di),(.tmp 13,.di)]
abbrev AKu:A0:=[(.exit 6,[(.obj 0,.own 55 U6),(.tmp 0,.own' 0),(.tmp 1,.di),(.tmp 4,.clo 204 []),(.tmp 12,.di),(.tmp 13,.di)])]
def AKm[Lk]:U8→Option Vg:=Pv (([]:List (Int)):U4) BE
abbrev AK0:AF:=[(.obj 0,.own 55 U6),(.tmp 0,.own' 0),(.tmp 1,.di),(.tmp 4,.clo 204 []),(.tmp 12,.di),(.tmp 13,.di)]
abbrev AKv:A0:=[(.exit 4,[(.obj 0,.own 55 U6),(.tmp 0,.own' 0),(.tmp 1,.di),(.tmp 13,.di)])]
def AKo[Lk]:U8→Option (U8⊕Ud⊕Unit):=Pw (([]:List (Int)):U4) BE
abbrev AK1:AF:=[(.obj 0,.own 55 U6),(.tmp 0,.own' 0),(.tmp 1,.di),(.tmp 4,.clo 204 []),(.tmp 12,.di),(.tmp 13,.di)]
abbrev AKw:A0:=[(.exit 2,[(.obj 0,.own 55 U6),(.tmp 0,.own' 0),(.tmp 1,.di),(.tmp 4,.clo 204 []),(.tmp 12,.di),(.tmp 13,.di)])]
def AKq[Lk]:U8→Option Vg:=Px (([]:List (Int)):U4) BE
abbrev AK2:AF:=[(.obj 0,.own 55 U6),(.tmp 0,.own' 0),(.tmp 1,.di),(.tmp 4,.clo 204 []),(.tmp 12,.di),(.tmp 13,.di)]
abbrev AKx:A0:=[(.exit 0,[(.obj 0,.own 55 U6),(.tmp 0,.own' 0),(.tmp 1,.di),(.tmp 4,.clo 204 []),(.tmp 12,.di),(.tmp 13,.di)])]
def AKs[Lk]:U8→Option Vg:=Py (([]:List (Int)):U4) BE
def ATH[Lk]:U8→Option ((List U4×Int×Bool×Unit)):=W2 (([]:List (Int)):U4) BE
def AZZ[Lk](v:U8):Option ((List U4×Int×Bool×Unit)):=ADt (([]:List (Int)):U4) BE v
theorem AZY v:AZZ v=ATH v:=AI _
abbrev Y4:AF:=[(.tmp 0,.own 55 U6),(.tmp 1,.di),(.tmp 2,.di),(.tmp 3,.di),(.tmp 4,.clo 204 [])]
abbrev Y3:AF:=[(.obj 0,.own 55 U6)]
abbrev Y2:List RS:=[]
abbrev ATC:AF:=[(.obj 0,.own 55 U6),(.tmp 0,.own' 0),(.tmp 1,.di),(.tmp 2,.di),(.tmp 3,.di),(.tmp 4,.clo 204 []),(.tmp 10,.dat .bool),(.tmp 11,.dat .bool)]
abbrev ATB:A0:=[(.ret,[(.obj 0,.own 55 U6)])]
def ATA[Lk](self:U8→Option (Um)):(List U4×Int×Int×Int×Bool×Bool×Unit)→Option ((List U4×Int×Int×Int×Bool×Bool×Unit)⊕Um⊕Unit):=Pr (([]:List (Int)):U4) BE self
def Ad4[Lk](self:U8→Option (Um)):U8→Option (Um):=AGS (([]:List (Int)):U4) BE self
def Y5[Lk]:Nat→U8→Option (Um):=Lb (([]:List (Int)):U4) BE
def AcM[Lk](v:U8):Option (Um):=AcQ (([]:List (Int)):U4) BE v
theorem AcL v:AcM v=Y5 100 v:=AI _
abbrev AFW:AF:=[(.tmp 0,.own 55 U6),(.tmp 1,.clo 204 [])]
abbrev AFV:AF:=[(.obj 0,.own 55 U6)]
abbrev AFU:List RS:=[]
def ASv[Lk]:Um→Option (Um):=Ws (([]:List (Int)):U4) BE
def AJq[Lk](v:Um):Option (Um):=AYM (([]:List (Int)):U4) BE v
theorem AYK v:AJq v=ASv v:=AI _
abbrev AE5:AF:=[(.tmp 0,.dat Uq),(.tmp 1,.dat U6),(.tmp 2,.dat Uj)]
abbrev AE4:AF:=[(.tmp 0,.di),(.tmp 1,.own 55 U6)]
abbrev AE3:List RS:=[.agg 2]
abbrev AJR:AF:=[(.tmp 3,.box 2),(.cell 0 0,.di),(.cell 0 1,.dat Uj),(.tmp 6,.box 2),(.cell 1 0,.di),(.cell 1 1,.nil U6),(.tmp 7,.own 55 U6),(.tmp 29,.dat Uj),(.tmp 30,.di),(.tmp 31,.di)]
abbrev AJP:A0:=[(.exit 2,[(.tmp 3,.box 2),(.cell 0 0,.di),(.cell 0 1,.dat Uj),(.tmp 6,.box 2),(.cell 1 0,.di),(.cell 1 1,.nil U6),(.tmp 7,.own 55 U6)])]
def HQ[Lk]:(Int×List U4×Int×List U4×List U4×Int×Int×Unit)→Option ((Int×List U4×Int×List U4×List U4×Int×Int×Unit)⊕(Int×List U4×Int×List U4×Unit)⊕Unit):=fun(a0,a1,a2,a3,a4,a5,a6,_)=>
 match(ilt a6 a5)with
 |true=>match idx a4 a6 with|none=>none|some x0=>match YK (x0,())with|none=>none|some (y1,_)=>match(fits ((AO a3)+(AO ([y1]:List U4))))with
  |true=>some (.inl (a0,a1,a2,(A4 a3 ([y1]:List U4)),a4,a5,(IntKind.wrap .i64 (a6+1)),()))
  |false=>none
 |false=>some (.inr (.inl (a0,a1,a2,a3,())))
abbrev AJS:AF:=[(.tmp 1,.dat U6),(.tmp 2,.dat Uj),(.tmp 3,.box 2),(.cell 0 0,.di),(.cell 0 1,.dat Uj),(.tmp 6,.box 2),(.cell 1 0,.di),(.cell 1 1,.nil U6),(.tmp 7,.own 55 U6),(.tmp 13,.dat Uj),(.tmp 14,.di),(.tmp 15,.di)]
abbrev AJQ:A0:=[(.exit 0,[(.tmp 2,.dat Uj),(.tmp 3,.box 2),(.cell 0 0,.di),(.cell 0 1,.dat Uj),(.tmp 6,.box 2),(.cell 1 0,.di),(.cell 1 1,.nil U6),(.tmp 7,.own 55 U6)])]
def HR[Lk]:Vi→Option (Vi⊕(List U4×Int×List U4×Int×List U4×Unit)⊕Unit):=fun(a0,a1,a2,a3,a4,a5,a6,a7,a8,_)=>
 match(ilt a8 a7)with
 |true=>match idx a6 a8 with|none=>none|some x0=>match Ed (a0,a8,())with|none=>none|some (y1,_)=>match(!y1)with
  |true=>match(fits ((AO a5)+(AO ([x0]:List U4))))with
   |true=>some (.inl (a0,a1,a2,a3,a4,(A4 a5 ([x0]:List U4)),a6,a7,(IntKind.wrap .i64 (a8+1)),()))
   |false=>none
  |false=>some (.inl (a0,a1,a2,a3,a4,a5,a6,a7,(IntKind.wrap .i64 (a8+1)),()))
 |false=>some (.inr (.inl (a1,a2,a3,a4,a5,())))
def Wl[Lk]:(Ui×List Int×List U4×Unit)→Option ((Int×List U4×Unit)):=fun(a0,a1,a2,_)=>
 match AS HR many (a1,a2,a0.1,a0.2.1,0,([]:List U4),a0.2.1,(AO a0.2.1),0,())with|none=>none|some r=>match r with
 |.inl (o0,o1,o2,o3,o4,_)=>match AS HQ many (o1,o2,o3,o4,o0,(AO o0),0,())with|none=>none|some r=>match r with
  |.inl (o5,o6,o7,o8,_)=>match AJq (o8,())with|none=>none|some (y9,_)=>some (o5,y9,())
  |.inr _=>none
 |.inr _=>none
def AJU[Lk]:=fun v=>Lk.f (Wl v)
theorem AJT v:AJU v=Wl v:=AI _
abbrev AFQ:AF:=[(.tmp 0,.dat Uq),(.tmp 1,.di),(.tmp 2,.di)]
abbrev AFP:AF:=[(.tmp 0,.di),(.tmp 1,.dat Uj),(.tmp 2,.di)]
abbrev AFO:List RS:=[.agg 2,.one]
def Gx[Lk]:(Ui×Int×Int×Unit)→Option (V1):=fun(a0,a1,a2,_)=>
 match asked ((a0.1,(a0.2.1,())),a1,a2,())with|none=>none|some (y0,_)=>match(!(ieq y0 0))with
 |true=>some (a0.1,a0.2.1,y0,())
 |false=>match N9 ((a0.1,(a0.2.1,())),a1,())with|none=>none|some (y1,_)=>match N9 ((a0.1,(a0.2.1,())),a2,())with|none=>none|some (y2,_)=>match(ieq y1 y2)with
 |true=>some (a0.1,a0.2.1,5,())
 |false=>match idx a0.2.1 y1 with|none=>none|some x3=>match ADh (x3,a1,())with|none=>none|some (y4,y5,_)=>match idx a0.2.1 y2 with|none=>none|some x6=>match ADh (x6,a2,())with|none=>none|some (y7,y8,_)=>match Bz y4 0 1 with|none=>none|some x9=>match AUb (a0.1,a1,a2,())with|none=>none|some (y10,_)=>match AUb (a0.1,a2,a1,())with|none=>none|some (y11,_)=>match Bz y4 1 (AO y4)with|none=>none|some x12=>match It (([(DR 0 (AE (AO x9)) y4),([y10]:List (Int)),y7,([y11]:List (Int)),(DR 1 (AE (AO x12)) y4)]:List U4),())with|none=>none|some (y13,_)=>match AJU ((a0.1,(a0.2.1,())),([y1,y2]:List (Int)),([y13]:List U4),())with|none=>none|some (y14,y15,_)=>some (y14,y15,0,())
def LM[Lk]:=fun v=>Lk.f (Gx v)
theorem HY v:LM v=Gx v:=AI _
abbrev Fh:AF:=[(.tmp 0,.dat U6),(.cap 1 0,.box 2),(.cell 0 0,.di),(.cell 0 1,.dat Uj),(.tmp 1,.clo 155 [(0,0)])]
abbrev Fg:AF:=[(.obj 0,.box 2),(.cell 0 0,.di),(.cell 0 1,.dat Uj),(.tmp 0,.di)]
abbrev Ff:List RS:=[.one]
abbrev Ik:AF:=[(.obj 0,.box 2),(.cell 0 0,.di),(.cell 0 1,.dat Uj),(.tmp 0,.dat U6),(.tmp 1,.clo 155 [(0,0)]),(.tmp 7,.di),(.tmp 8,.di)]
abbrev Ij:A0:=[(.ret,[(.obj 0,.box 2),(.cell 0 0,.di),(.cell 0 1,.dat Uj),(.tmp 4,.di)]),(.exit 0,[(.obj 0,.box 2),(.cell 0 0,.di),(.cell 0 1,.dat Uj)])]
def Be[Lk]:(Int×List U4×List Int×Int×Int×Unit)→Option ((Int×List U4×List Int×Int×Int×Unit)⊕V1⊕(Int×List U4×Unit)⊕Unit):=fun(a0,a1,a2,a3,a4,_)=>
 match(ilt a4 a3)with
 |true=>match idx a2 a4 with|none=>none|some x0=>match(ilt x0 0)with
  |true=>some (.inr (.inl (a0,a1,a4,())))
  |false=>match(ile a0 x0)with
  |true=>some (.inr (.inl (a0,a1,a4,())))
  |false=>some (.inl (a0,a1,a2,a3,(IntKind.wrap .i64 (a4+1)),()))
 |false=>some (.inr (.inr (.inl (a0,a1,()))))
def Dh[Lk]:V7→Option (V1):=fun(a0,a1,a2,_)=>
 match AS Be many (a1,a2,a0,(AO a0),0,())with|none=>none|some r=>match r with
 |.inl (o0,o1,o2,_)=>some (o0,o1,o2,())
 |.inr r=>match r with
 |.inl (o3,o4,_)=>some (o3,o4,(-1:Int),())
 |.inr _=>none
def Ex[Lk]:=fun v=>Lk.f (Dh v)
theorem Il v:Ex v=Dh v:=AI _
abbrev E7:AF:=[(.tmp 0,.dat U6),(.cap 1 0,.box 2),(.cell 0 0,.di),(.cell 0 1,.dat Uj),(.tmp 1,.clo 155 [(0,0)])]
abbrev E6:AF:=[(.obj 0,.box 2),(.cell 0 0,.di),(.cell 0 1,.dat Uj),(.tmp 0,.dat .bool)]
abbrev E5:List RS:=[.one]
def C9[Lk]:V7→Option ((Int×List U4×Bool×Unit)):=fun(a0,a1,a2,_)=>
 match Ex (a0,a1,a2,())with|none=>none|some (y0,y1,y2,_)=>some (y0,y1,(ile 0 y2),())
def Cz[Lk]:=fun v=>Lk.f (C9 v)
theorem IG v:Cz v=C9 v:=AI _
abbrev AAa:AF:=[(.tmp 0,.dat Uq),(.tmp 1,.dat U6)]
abbrev AAZ:AF:=[(.tmp 0,.di)]
abbrev AAY:List RS:=[.one]
def QY[Lk]:(Ui×List Int×Unit)→Option (U9):=fun(a0,a1,_)=>
 match N8 ((a0.1,(a0.2.1,())),())with|none=>none|some (y0,_)=>match(!y0)with
 |true=>some (1,())
 |false=>match Cz (a1,a0.1,a0.2.1,())with|none=>none|some (y1,y2,y3,_)=>match y3 with
 |true=>some (10,())
 |false=>some (0,())
def KO[Lk]:=fun v=>Lk.f (QY v)
theorem AEP v:KO v=QY v:=AI _
abbrev ARn:AF:=[(.tmp 0,.dat Ut)]
abbrev ARm:AF:=[(.tmp 0,.own 3 U0)]
abbrev ARl:List RS:=[.one]
abbrev ATu:AF:=[(.tmp 3,.own 3 U0),(.tmp 6,.dat Ut),(.tmp 7,.di),(.tmp 8,.di)]
abbrev ATt:A0:=[(.exit 0,[(.tmp 3,.own 3 U0)])]
def KS[Lk]:(List Int×List U3×Int×Int×Unit)→Option ((List Int×List U3×Int×Int×Unit)⊕Ub⊕Unit):=fun(a0,a1,a2,a3,_)=>
 match(ilt a3 a2)with
 |true=>match idx a1 a3 with|none=>none|some x0=>match(fits ((AO a0)+(AO ([x0.1,x0.2.1]:List (Int)))))with
  |true=>some (.inl ((A4 a0 ([x0.1,x0.2.1]:List (Int))),a1,a2,(IntKind.wrap .i64 (a3+1)),()))
  |false=>none
 |false=>some (.inr (.inl (a0,())))
def AIC[Lk]:V2→Option (Ub):=fun(a0,_)=>
 match AS KS many (([]:List (Int)),a0,(AO a0),0,())with|none=>none|some r=>match r with
 |.inl (o0,_)=>some (o0,())
 |.inr _=>none
def ends[Lk]:=fun v=>Lk.f (AIC v)
theorem ATv v:ends v=AIC v:=AI _
abbrev Oy:AF:=[(.tmp 0,.dat Uq),(.tmp 1,.dat Ut),(.tmp 2,.clo 161 [])]
abbrev Ox:AF:=[(.tmp 0,.dat Uq),(.tmp 1,.own 4 .bool),(.tmp 2,.di)]
abbrev Ow:List RS:=[.one,.one,.one]
abbrev VT:AF:=[(.tmp 2,.clo 161 []),(.tmp 3,.box 2),(.cell 0 0,.di),(.cell 0 1,.dat Uj),(.tmp 6,.box 2),(.cell 1 0,.di),(.cell 1 1,.nil U6),(.tmp 10,.own 4 .bool),(.tmp 23,.dat Ut),(.tmp 24,.di),(.tmp 25,.di)]
abbrev VS:A0:=[(.exit 0,[(.tmp 3,.box 2),(.cell 0 0,.di),(.cell 0 1,.dat Uj),(.tmp 6,.box 2),(.cell 1 0,.di),(.cell 1 1,.nil U6),(.tmp 10,.own 4 .bool)])]
def Bv[Lk]:(Int×List U4×Int×List Bool×List U3×Int×Int×Unit)→Option ((Int×List U4×Int×List Bool×List U3×Int×Int×Unit)⊕(Int×List U4×Int×List Bool×Unit)⊕Unit):=fun(a0,a1,a2,a3,a4,a5,a6,_)=>
 match(ilt a6 a5)with
 |true=>match idx a4 a6 with|none=>none|some x0=>match LM ((a0,(a1,())),x0.1,x0.2.1,())with|none=>none|some (y1,y2,y3,_)=>match(fits ((AO a3)+(AO ([(ieq y3 0)]:List (Bool)))))with
  |true=>some (.inl (y1,y2,a2,(A4 a3 ([(ieq y3 0)]:List (Bool))),a4,a5,(IntKind.wrap .i64 (a6+1)),()))
  |false=>none
 |false=>some (.inr (.inl (a0,a1,a2,a3,())))
def H9[Lk]:(Ui×List U3×Unit)→Option ((Ui×List Bool×Int×Unit)):=fun(a0,a1,_)=>
 match ends (a1,())with|none=>none|some (y0,_)=>match KO ((a0.1,(a0.2.1,())),y0,())with|none=>none|some (y1,_)=>match(!(ieq y1 0))with
 |true=>some ((a0.1,(a0.2.1,())),([]:List (Bool)),y1,())
 |false=>match AS Bv many (a0.1,a0.2.1,0,([]:List (Bool)),a1,(AO a1),0,())with|none=>none|some r=>match r with
 |.inl (o2,o3,o4,o5,_)=>some ((o2,(o3,())),o5,0,())
 |.inr _=>none
def Qf[Lk]:=fun v=>Lk.f (H9 v)
theorem MF v:Qf v=H9 v:=AI _
abbrev AAf:AF:=[(.tmp 0,.dat Uq),(.tmp 1,.dat Ut)]
abbrev AAe:AF:=[(.tmp 0,.dat Uq),(.tmp 1,.own 4 .bool),(.tmp 2,.di)]
abbrev AAd:List RS:=[.one,.one,.one]
def L9[Lk]:(Ui×List U3×Unit)→Option ((Ui×List Bool×Int×Unit)):=fun(a0,a1,_)=>
 match Qf ((a0.1,(a0.2.1,())),a1,())with|none=>none|some (y0,y1,y2,_)=>some ((y0.1,(y0.2.1,())),y1,y2,())
def AH6[Lk]:=fun v=>Lk.f (L9 v)
theorem TC v:AH6 v=L9 v:=AI _
abbrev Aaz:AF:=[(.tmp 0,.di),(.tmp 1,.dat Ut)]
abbrev Aay:AF:=[(.tmp 0,.dat Uq),(.tmp 1,.di)]
abbrev Aax:List RS:=[.one,.one]
def AM8[Lk]:(Int×List U3×Unit)→Option (Vb):=fun(a0,a1,_)=>
 match AJl (a0,())with|none=>none|some (y0,y1,y2,_)=>match(!(ieq y2 0))with
 |true=>some ((0,(([]:List U4),())),y2,())
 |false=>match AH6 ((y0,(y1,())),a1,())with|none=>none|some (y3,y4,y5,_)=>match(!(ieq y5 0))with
 |true=>some ((0,(([]:List U4),())),y5,())
 |false=>some ((y3.1,(y3.2.1,())),0,())
def fof[Lk]:=fun v=>Lk.f (AM8 v)
theorem ARc v:fof v=AM8 v:=AI _
abbrev AZs:AF:=[(.tmp 0,.dat U6)]
abbrev AZq:AF:=[(.tmp 0,.di)]
abbrev AZo:List RS:=[.one]
abbrev AZr:AF:=[(.tmp 3,.di),(.tmp 6,.dat U6),(.tmp 7,.di),(.tmp 8,.di)]
abbrev AZp:A0:=[(.ret,[(.tmp 2,.di)]),(.exit 0,[(.tmp 3,.di)])]
def OR[Lk]:(Int×List Int×Int×Int×Unit)→Option ((Int×List Int×Int×Int×Unit)⊕U9⊕U9⊕Unit):=fun(a0,a1,a2,a3,_)=>
 match(ilt a3 a2)with
 |true=>match idx a1 a3 with|none=>none|some x0=>match(!(ieq x0 a0))with
  |true=>some (.inr (.inl (x0,())))
  |false=>some (.inl (a0,a1,a2,(IntKind.wrap .i64 (a3+1)),()))
 |false=>some (.inr (.inr (.inl (a0,()))))
def ATI[Lk]:Ub→Option (U9):=fun(a0,_)=>
 match AS OR many (0,a0,(AO a0),0,())with|none=>none|some r=>match r with
 |.inl (o0,_)=>some (o0,())
 |.inr r=>match r with
 |.inl (o1,_)=>some (o1,())
 |.inr _=>none
def orI[Lk]:=fun v=>Lk.f (ATI v)
theorem AZu v:orI v=ATI v:=AI _
abbrev Zu:AF:=[(.tmp 0,.di)]
abbrev Zt:AF:=[(.tmp 0,.dat .bool)]
abbrev Zs:List RS:=[.one]
def Lx[Lk]:U9→Option (Ug):=fun(a0,_)=>
 match(ile 1 a0)with
 |true=>some ((ile a0 64),())
 |false=>some (false,())
def Sq[Lk]:=fun v=>Lk.f (Lx v)
theorem Sp v:Sq v=Lx v:=AI _
abbrev AQk:AF:=[(.tmp 0,.di)]
abbrev AQj:AF:=[(.tmp 0,.di)]
abbrev AQi:List RS:=[.one]
def AQl[Lk]:U9→Option (U9):=fun(a0,_)=>
 match Sq (a0,())with|none=>none|some (y0,_)=>match(!y0)with
 |true=>some (0,())
 |false=>match bitsLen ((IntKind.wrap .u64 (IntKind.wrap .i64 (a0-1))),())with|none=>none|some (y1,_)=>some (y1,())
def ACh[Lk]:=fun v=>Lk.f (AQl v)
theorem Acf v:ACh v=AQl v:=AI _
abbrev OZ:AF:=[(.tmp 0,.dat U1),(.tmp 1,.dat U1)]
abbrev OY:AF:=[(.tmp 0,.di)]
abbrev OX:List RS:=[.one]
def Hr[Lk]:(U2×U2×Unit)→Option (U9):=fun(a0,a1,_)=>
 match E8 (a0.1,a1.1,())with|none=>none|some (y0,_)=>match E8 (a0.2.1,a1.2.1,())with|none=>none|some (y1,_)=>match orI (([y0,y1]:List (Int)),())with|none=>none|some (y2,_)=>some (y2,())
def DN[Lk]:=fun v=>Lk.f (Hr v)
theorem Ly v:DN v=Hr v:=AI _
abbrev Zp:AF:=[(.tmp 0,.dat Ua),(.tmp 1,.di)]
abbrev Zo:AF:=[(.tmp 0,.own 42 U5)]
abbrev Zn:List RS:=[.one]
abbrev AD1:AF:=[(.tmp 1,.di),(.tmp 5,.own 42 U5),(.tmp 9,.dat Ur),(.tmp 10,.di),(.tmp 11,.di)]
abbrev AD0:A0:=[(.exit 0,[(.tmp 5,.own 42 U5)])]
def Ca[Lk]:(Int×List U3×List U2×Int×Int×Unit)→Option ((Int×List U3×List U2×Int×Int×Unit)⊕V2⊕Unit):=fun(a0,a1,a2,a3,a4,_)=>
 match(ilt a4 a3)with
 |true=>match idx a2 a4 with|none=>none|some x0=>match x0.2.2.2.1 with
  |true=>match(ile a0 x0.2.2.1)with
   |true=>match(fits ((AO a1)+(AO ([(x0.1,(x0.2.1,()))]:List U3))))with
    |true=>some (.inl (a0,(A4 a1 ([(x0.1,(x0.2.1,()))]:List U3)),a2,a3,(IntKind.wrap .i64 (a4+1)),()))
    |false=>none
   |false=>some (.inl (a0,a1,a2,a3,(IntKind.wrap .i64 (a4+1)),()))
  |false=>some (.inl (a0,a1,a2,a3,(IntKind.wrap .i64 (a4+1)),()))
 |false=>some (.inr (.inl (a1,())))
def Lv[Lk]:(Ue×Int×Unit)→Option (V2):=fun(a0,a1,_)=>
 match AS Ca many (a1,([]:List U3),a0.2.1,(AO a0.2.1),0,())with|none=>none|some r=>match r with
 |.inl (o0,_)=>some (o0,())
 |.inr _=>none
def OV[Lk]:=fun v=>Lk.f (Lv v)
theorem So v:OV v=Lv v:=AI _
abbrev Zx:AF:=[(.tmp 0,.dat Ua)]
abbrev Zw:AF:=[(.tmp 0,.dat .bool)]
abbrev Zv:List RS:=[.one]
abbrev AD3:AF:=[(.tmp 1,.box 2),(.cell 0 0,.di),(.cell 0 1,.dat Ur),(.tmp 3,.di),(.tmp 23,.dat Ur),(.tmp 24,.di),(.tmp 25,.di)]
abbrev AD2:A0:=[(.ret,[(.tmp 2,.dat .bool)]),(.exit 0,[(.tmp 1,.box 2),(.cell 0 0,.di),(.cell 0 1,.dat Ur)])]
def Db[Lk]:(Int×List U2×Int×List U2×Int×Int×Unit)→Option ((Int×List U2×Int×List U2×Int×Int×Unit)⊕Ug⊕(Int×List U2×Unit)⊕Unit):=fun(a0,a1,a2,a3,a4,a5,_)=>
 match(ilt a5 a4)with
 |true=>match idx a3 a5 with|none=>none|some x0=>match(ilt x0.1 0)with
  |true=>some (.inr (.inl (false,())))
  |false=>match(ile x0.2.1 x0.1)with
  |true=>some (.inr (.inl (false,())))
  |false=>match(ile a0 x0.2.1)with
  |true=>some (.inr (.inl (false,())))
  |false=>match(ilt x0.2.2.1 0)with
  |true=>some (.inr (.inl (false,())))
  |false=>match(ilt a2 x0.2.2.1)with
  |true=>some (.inr (.inl (false,())))
  |false=>match(ilt 0 a5)with
  |true=>match idx a1 (IntKind.wrap .i64 (a5-1))with|none=>none|some x1=>match DN ((x1.1,(x1.2.1,(x1.2.2.1,(x1.2.2.2.1,())))),(x0.1,(x0.2.1,(x0.2.2.1,(x0.2.2.2.1,())))),())with|none=>none|some (y2,_)=>match(ile 0 y2)with
   |true=>some (.inr (.inl (false,())))
   |false=>some (.inl (a0,a1,a2,a3,a4,(IntKind.wrap .i64 (a5+1)),()))
  |false=>some (.inl (a0,a1,a2,a3,a4,(IntKind.wrap .i64 (a5+1)),()))
 |false=>some (.inr (.inr (.inl (a0,a1,()))))
def Ho[Lk]:(Ue×Unit)→Option (Ug):=fun(a0,_)=>
 match Sq (a0.1,())with|none=>none|some (y0,_)=>match(!y0)with
 |true=>some (false,())
 |false=>match(ilt 400 (AO a0.2.1))with
 |true=>some (false,())
 |false=>match ACh (a0.1,())with|none=>none|some (y1,_)=>match AS Db many (a0.1,a0.2.1,y1,a0.2.1,(AO a0.2.1),0,())with|none=>none|some r=>match r with
 |.inl (o2,_)=>some (o2,())
 |.inr r=>match r with
 |.inl (o3,o4,_)=>match OV ((o3,(o4,())),0,())with|none=>none|some (y5,_)=>match fof (o3,y5,())with|none=>none|some (y6,y7,_)=>match(ieq y7 0)with
  |true=>some ((ieq (AO y6.2.1) (IntKind.wrap .i64 (o3-(AO y5)))),())
  |false=>some (false,())
 |.inr _=>none
def FV[Lk]:=fun v=>Lk.f (Ho v)
theorem JS v:FV v=Ho v:=AI _
abbrev Z7:AF:=[(.tmp 0,.dat Ua)]
abbrev Z6:AF:=[(.tmp 0,.own 42 U5)]
abbrev Z5:List RS:=[.one]
abbrev AD7:AF:=[(.tmp 3,.own 42 U5),(.tmp 10,.dat Ur),(.tmp 11,.di),(.tmp 12,.di)]
abbrev AD6:A0:=[(.exit 0,[(.tmp 3,.own 42 U5)])]
def FX[Lk]:(List U3×List U2×Int×Int×Unit)→Option ((List U3×List U2×Int×Int×Unit)⊕V2⊕Unit):=fun(a0,a1,a2,a3,_)=>
 match(ilt a3 a2)with
 |true=>match idx a1 a3 with|none=>none|some x0=>match(fits ((AO a0)+(AO ([(x0.1,(x0.2.1,()))]:List U3))))with
  |true=>some (.inl ((A4 a0 ([(x0.1,(x0.2.1,()))]:List U3)),a1,a2,(IntKind.wrap .i64 (a3+1)),()))
  |false=>none
 |false=>some (.inr (.inl (a0,())))
def QB[Lk]:(Ue×Unit)→Option (V2):=fun(a0,_)=>
 match FV ((a0.1,(a0.2.1,())),())with|none=>none|some (y0,_)=>match(!y0)with
 |true=>some (([]:List U3),())
 |false=>match AS FX many (([]:List U3),a0.2.1,(AO a0.2.1),0,())with|none=>none|some r=>match r with
 |.inl (o1,_)=>some (o1,())
 |.inr _=>none
def Z9[Lk]:=fun v=>Lk.f (QB v)
theorem AD8 v:Z9 v=QB v:=AI _
abbrev MP:AF:=[(.tmp 0,.di),(.tmp 1,.dat Ut)]
abbrev MO:AF:=[(.tmp 0,.own 3 U0)]
abbrev MN:List RS:=[.one]
abbrev Qq:AF:=[(.tmp 0,.di),(.tmp 1,.dat Ut),(.tmp 5,.own 3 U0),(.tmp 7,.dat .bool),(.tmp 8,.di)]
abbrev Qn:A0:=[(.exit 4,[(.tmp 0,.di),(.tmp 1,.dat Ut),(.tmp 5,.own 3 U0),(.tmp 7,.dat .bool)])]
def Ct[Lk]:(Int×List U3×List Int×Bool×Int×Unit)→Option ((Int×List U3×List Int×Bool×Int×Unit)⊕Vj⊕Unit):=fun(a0,a1,a2,a3,a4,_)=>
 match(ilt a4 (AO a1))with
 |true=>match idx a1 a4 with|none=>none|some x0=>match idx a1 a4 with|none=>none|some x1=>match(ilt x0.1 0)with
  |true=>some (.inl (a0,a1,a2,a3,(IntKind.wrap .i64 (a4+1)),()))
  |false=>match(ilt x1.2.1 0)with
  |true=>some (.inl (a0,a1,a2,a3,(IntKind.wrap .i64 (a4+1)),()))
  |false=>match(ile a0 x0.1)with
  |true=>some (.inl (a0,a1,a2,a3,(IntKind.wrap .i64 (a4+1)),()))
  |false=>match(ile a0 x1.2.1)with
  |true=>some (.inl (a0,a1,a2,a3,(IntKind.wrap .i64 (a4+1)),()))
  |false=>match idx a2 x0.1 with|none=>none|some x2=>match idx a2 x1.2.1 with|none=>none|some x3=>match(ieq (AM a2 (AE x0.1) 0) (AM a2 (AE x1.2.1) 0))with
  |true=>some (.inl (a0,a1,a2,a3,(IntKind.wrap .i64 (a4+1)),()))
  |false=>match idx a2 x0.1 with|none=>none|some x4=>match idx a2 x1.2.1 with|none=>none|some x5=>match idx a2 x0.1 with|none=>none|some x6=>match idx (Am a2 (AE x0.1) (Bt (AM a2 (AE x0.1) 0) (AM a2 (AE x1.2.1) 0))) x1.2.1 with|none=>none|some x7=>some (.inl (a0,a1,(Am (Am a2 (AE x0.1) (Bt (AM a2 (AE x0.1) 0) (AM a2 (AE x1.2.1) 0))) (AE x1.2.1) (Bt (AM a2 (AE x0.1) 0) (AM a2 (AE x1.2.1) 0))),true,(IntKind.wrap .i64 (a4+1)),()))
 |false=>some (.inr (.inl (a0,a1,a2,a3,())))
abbrev Qr:AF:=[(.tmp 0,.di),(.tmp 1,.dat Ut),(.tmp 5,.own 3 U0),(.tmp 7,.dat .bool)]
abbrev Qo:A0:=[(.exit 2,[(.tmp 5,.own 3 U0)])]
def Di[Lk]:Vj→Option (Vj⊕Ub⊕Unit):=fun(a0,a1,a2,a3,_)=>
 match a3 with
 |true=>match AS Ct many (a0,a1,a2,false,0,())with|none=>none|some r=>match r with
  |.inl (o0,o1,o2,o3,_)=>some (.inl (o0,o1,o2,o3,()))
  |.inr _=>none
 |false=>some (.inr (.inl (a2,())))
abbrev Qs:AF:=[(.tmp 0,.di),(.tmp 1,.dat Ut),(.tmp 5,.own 3 U0),(.tmp 6,.di)]
abbrev Qp:A0:=[(.exit 0,[(.tmp 0,.di),(.tmp 1,.dat Ut),(.tmp 5,.own 3 U0)])]
def Cu[Lk]:(Int×List U3×List Int×Int×Unit)→Option ((Int×List U3×List Int×Int×Unit)⊕(Int×List U3×List Int×Unit)⊕Unit):=fun(a0,a1,a2,a3,_)=>
 match(ilt a3 a0)with
 |true=>match(fits ((AO a2)+(AO ([a3]:List (Int)))))with
  |true=>some (.inl (a0,a1,(A4 a2 ([a3]:List (Int))),(IntKind.wrap .i64 (a3+1)),()))
  |false=>none
 |false=>some (.inr (.inl (a0,a1,a2,())))
def Iu[Lk]:(Int×List U3×Unit)→Option (Ub):=fun(a0,a1,_)=>
 match AS Cu many (a0,a1,([]:List (Int)),0,())with|none=>none|some r=>match r with
 |.inl (o0,o1,o2,_)=>match AS Di many (o0,o1,o2,true,())with|none=>none|some r=>match r with
  |.inl (o3,_)=>some (o3,())
  |.inr _=>none
 |.inr _=>none
def Ft[Lk]:=fun v=>Lk.f (Iu v)
theorem Qt v:Ft v=Iu v:=AI _
abbrev AFG:AF:=[(.tmp 0,.di)]
abbrev AFF:AF:=[(.tmp 0,.di)]
abbrev AFE:List RS:=[.one]
abbrev AJg:AF:=[(.tmp 3,.di),(.tmp 4,.di)]
abbrev AJf:A0:=[(.exit 0,[(.tmp 3,.di)])]
def Xr[Lk]:U3→Option (U3⊕U9⊕Unit):=fun(a0,a1,_)=>
 match(ilt 0 a1)with
 |true=>match quo? .i64 a1 2 with|none=>none|some x0=>some (.inl ((IntKind.wrap .i64 (a0+1)),x0,()))
 |false=>some (.inr (.inl (a0,())))
def AFI[Lk]:U9→Option (U9):=fun(a0,_)=>
 match(ilt a0 1)with
 |true=>some (0,())
 |false=>match(ilt 64 a0)with
 |true=>some (0,())
 |false=>match AS Xr many (0,(IntKind.wrap .i64 (a0-1)),())with|none=>none|some r=>match r with
 |.inl (o0,_)=>some (o0,())
 |.inr _=>none
def LL[Lk]:=fun v=>Lk.f (AFI v)
theorem AX0 v:LL v=AFI v:=AI _
abbrev Rr:AF:=[(.tmp 0,.dat Ua)]
abbrev Rq:AF:=[(.tmp 0,.dat .bool)]
abbrev Rp:List RS:=[.one]
abbrev YQ:AF:=[(.tmp 1,.box 2),(.cell 0 0,.di),(.cell 0 1,.dat Ur),(.tmp 3,.own 42 U5),(.tmp 6,.own 3 U0),(.tmp 7,.di),(.tmp 8,.di)]
abbrev YO:A0:=[(.exit 2,[(.tmp 1,.box 2),(.cell 0 0,.di),(.cell 0 1,.dat Ur),(.tmp 3,.own 42 U5),(.tmp 7,.di)])]
def DI[Lk]:(Int×List U2×List U3×List Int×Int×Int×Unit)→Option ((Int×List U2×List U3×List Int×Int×Int×Unit)⊕V3⊕Unit):=fun(a0,a1,a2,a3,a4,a5,_)=>
 match(ilt a5 a0)with
 |true=>match idx a3 a5 with|none=>none|some x0=>match(ieq (AM a3 (AE a5) 0) a5)with
  |true=>some (.inl (a0,a1,a2,a3,(IntKind.wrap .i64 (a4+1)),(IntKind.wrap .i64 (a5+1)),()))
  |false=>some (.inl (a0,a1,a2,a3,a4,(IntKind.wrap .i64 (a5+1)),()))
 |false=>some (.inr (.inl (a0,a1,a2,a4,())))
abbrev YR:AF:=[(.tmp 1,.box 2),(.cell 0 0,.di),(.cell 0 1,.dat Ur),(.tmp 3,.own 42 U5),(.tmp 4,.di)]
abbrev YP:A0:=[(.ret,[(.tmp 2,.dat .bool)]),(.exit 0,[(.tmp 1,.box 2),(.cell 0 0,.di),(.cell 0 1,.dat Ur),(.tmp 3,.own 42 U5)])]
def Cm[Lk]:V3→Option (V3⊕Ug⊕(Int×List U2×List U3×Unit)⊕Unit):=fun(a0,a1,a2,a3,_)=>
 match(ilt a3 (AO a1))with
 |true=>match idx a1 a3 with|none=>none|some x0=>match(ilt x0.1 0)with
  |true=>some (.inr (.inl (false,())))
  |false=>match(ile x0.2.1 x0.1)with
  |true=>some (.inr (.inl (false,())))
  |false=>match(ile a0 x0.2.1)with
  |true=>some (.inr (.inl (false,())))
  |false=>match(ilt x0.2.2.1 0)with
  |true=>some (.inr (.inl (false,())))
  |false=>match LL (a0,())with|none=>none|some (y1,_)=>match(ilt y1 x0.2.2.1)with
  |true=>some (.inr (.inl (false,())))
  |false=>match(ilt 0 a3)with
  |true=>match idx a1 (IntKind.wrap .i64 (a3-1))with|none=>none|some x2=>match(ilt x0.1 x2.1)with
   |true=>some (.inr (.inl (false,())))
   |false=>match idx a1 (IntKind.wrap .i64 (a3-1))with|none=>none|some x3=>match(ieq x3.1 x0.1)with
   |true=>match idx a1 (IntKind.wrap .i64 (a3-1))with|none=>none|some x4=>match(ile x0.2.1 x4.2.1)with
    |true=>some (.inr (.inl (false,())))
    |false=>match x0.2.2.2.1 with
    |true=>match(fits ((AO a2)+(AO ([(x0.1,(x0.2.1,()))]:List U3))))with
     |true=>some (.inl (a0,a1,(A4 a2 ([(x0.1,(x0.2.1,()))]:List U3)),(IntKind.wrap .i64 (a3+1)),()))
     |false=>none
    |false=>some (.inl (a0,a1,a2,(IntKind.wrap .i64 (a3+1)),()))
   |false=>match x0.2.2.2.1 with
   |true=>match(fits ((AO a2)+(AO ([(x0.1,(x0.2.1,()))]:List U3))))with
    |true=>some (.inl (a0,a1,(A4 a2 ([(x0.1,(x0.2.1,()))]:List U3)),(IntKind.wrap .i64 (a3+1)),()))
    |false=>none
   |false=>some (.inl (a0,a1,a2,(IntKind.wrap .i64 (a3+1)),()))
  |false=>match x0.2.2.2.1 with
  |true=>match(fits ((AO a2)+(AO ([(x0.1,(x0.2.1,()))]:List U3))))with
   |true=>some (.inl (a0,a1,(A4 a2 ([(x0.1,(x0.2.1,()))]:List U3)),(IntKind.wrap .i64 (a3+1)),()))
   |false=>none
  |false=>some (.inl (a0,a1,a2,(IntKind.wrap .i64 (a3+1)),()))
 |false=>some (.inr (.inr (.inl (a0,a1,a2,()))))
def EU[Lk]:(Ue×Unit)→Option (Ug):=fun(a0,_)=>
 match(ilt a0.1 1)with
 |true=>some (false,())
 |false=>match(ilt 64 a0.1)with
 |true=>some (false,())
 |false=>match(ilt 400 (AO a0.2.1))with
 |true=>some (false,())
 |false=>match AS Cm many (a0.1,a0.2.1,([]:List U3),0,())with|none=>none|some r=>match r with
 |.inl (o0,_)=>some (o0,())
 |.inr r=>match r with
 |.inl (o1,o2,o3,_)=>match Ft (o1,o3,())with|none=>none|some (y4,_)=>match AS DI many (o1,o2,o3,y4,0,0,())with|none=>none|some r=>match r with
  |.inl (o5,o6,o7,o8,_)=>some ((ieq o8 (IntKind.wrap .i64 (o5-(AO o7)))),())
  |.inr _=>none
 |.inr _=>none
def Cn[Lk]:=fun v=>Lk.f (EU v)
theorem FL v:Cn v=EU v:=AI _
abbrev TJ:AF:=[(.tmp 0,.dat Ua)]
abbrev TH:AF:=[(.tmp 0,.own 42 U5)]
abbrev TG:List RS:=[.one]
abbrev AAq:AF:=[(.tmp 1,.box 2),(.cell 0 0,.di),(.cell 0 1,.dat Ur),(.tmp 3,.own 42 U5),(.tmp 4,.di)]
abbrev AAp:A0:=[(.exit 0,[(.tmp 3,.own 42 U5)])]
def EG[Lk]:V3→Option (V3⊕V2⊕Unit):=fun(a0,a1,a2,a3,_)=>
 match(ilt a3 (AO a1))with
 |true=>match idx a1 a3 with|none=>none|some x0=>match idx a1 a3 with|none=>none|some x1=>match(fits ((AO a2)+(AO ([(x0.1,(x1.2.1,()))]:List U3))))with
  |true=>some (.inl (a0,a1,(A4 a2 ([(x0.1,(x1.2.1,()))]:List U3)),(IntKind.wrap .i64 (a3+1)),()))
  |false=>none
 |false=>some (.inr (.inl (a2,())))
def NK[Lk]:(Ue×Unit)→Option (V2):=fun(a0,_)=>
 match Cn ((a0.1,(a0.2.1,())),())with|none=>none|some (y0,_)=>match(!y0)with
 |true=>some (([]:List U3),())
 |false=>match AS EG many (a0.1,a0.2.1,([]:List U3),0,())with|none=>none|some r=>match r with
 |.inl (o1,_)=>some (o1,())
 |.inr _=>none
def Qe[Lk]:=fun v=>Lk.f (NK v)
theorem AAr v:Qe v=NK v:=AI _
def ARJ[Lk]:U3→Option (Ug):=fun(a0,a1,_)=>
 match(ile 1 a0)with
 |true=>match(ile a0 64)with
  |true=>match(ile 0 a1)with
   |true=>some ((ilt a1 a0),())
   |false=>some (false,())
  |false=>some (false,())
 |false=>some (false,())
def AMU[Lk]:=fun v=>Lk.f (ARJ v)
theorem Ac2 v:AMU v=ARJ v:=AI _
def Ri[Lk]:U3→Option ((Int×Int×Bool×Bool×Unit)):=fun(a0,a1,_)=>
 match AMU (a0,a1,())with|none=>none|some (y0,_)=>match y0 with
 |true=>some (a1,0,false,true,())
 |false=>match(ilt a0 1)with
 |true=>some (0,0,false,false,())
 |false=>match(ilt 64 a0)with
 |true=>some (0,0,false,false,())
 |false=>match(ilt a1 a0)with
 |true=>some (0,0,false,false,())
 |false=>match(ile (IntKind.wrap .i64 (a0+(IntKind.wrap .i64 (a0*a0)))) a1)with
 |true=>some (0,0,false,false,())
 |false=>match quo? .i64 (IntKind.wrap .i64 (a1-a0)) a0 with|none=>none|some x1=>match rem? (IntKind.wrap .i64 (a1-a0)) a0 with|none=>none|some x2=>match(ieq x1 x2)with
 |true=>some (0,0,false,false,())
 |false=>some (x1,x2,true,true,())
def Wo[Lk]:=fun v=>Lk.f (Ri v)
theorem AOM v:Wo v=Ri v:=AI _
def AIq[Lk]:(Int×Int×Int×Unit)→Option (U9):=fun(a0,a1,a2,_)=>
 match AMU (a0,a1,())with|none=>none|some (y0,_)=>match(!y0)with
 |true=>some ((-1:Int),())
 |false=>match AMU (a0,a2,())with|none=>none|some (y1,_)=>match(!y1)with
 |true=>some ((-1:Int),())
 |false=>match(ieq a1 a2)with
 |true=>some ((-1:Int),())
 |false=>some ((IntKind.wrap .i64 ((IntKind.wrap .i64 (a0+(IntKind.wrap .i64 (a1*a0))))+a2)),())
def ANs[Lk]:=fun v=>Lk.f (AIq v)
theorem AbU v:ANs v=AIq v:=AI _
def JR[Lk]:(Int×Int×Int×List U4×Int×Unit)→Option ((Int×Int×Int×List U4×Int×Unit)⊕(Int×Int×List U4×Unit)⊕Unit):=fun(a0,a1,a2,a3,a4,_)=>
 match(ilt a4 a0)with
 |true=>match(fits ((AO a3)+(AO ([([a4]:List (Int))]:List U4))))with
  |true=>some (.inl (a0,a1,a2,(A4 a3 ([([a4]:List (Int))]:List U4)),(IntKind.wrap .i64 (a4+1)),()))
  |false=>none
 |false=>some (.inr (.inl (a1,a2,a3,())))
def Zm[Lk]:U9→Option (V1):=fun(a0,_)=>
 match(ilt a0 1)with
 |true=>some (0,([]:List U4),1,())
 |false=>match(ilt 64 a0)with
 |true=>some (0,([]:List U4),1,())
 |false=>match AS JR many (a0,0,a0,([]:List U4),0,())with|none=>none|some r=>match r with
 |.inl (o0,o1,o2,_)=>some (o1,o2,0,())
 |.inr _=>none
def AG8[Lk]:=fun v=>Lk.f (Zm v)
theorem AVy v:AG8 v=Zm v:=AI _
def OB[Lk]:(Int×Int×Int×Unit)→Option (Ug):=fun(a0,a1,a2,_)=>
 match Wo (a0,a1,())with|none=>none|some (y0,y1,y2,y3,_)=>match y3 with
 |true=>match(!y2)with
  |true=>match(ieq y0 a2)with
   |true=>some (true,())
   |false=>match y2 with
   |true=>some ((ieq y1 a2),())
   |false=>some (false,())
  |false=>match y2 with
  |true=>some ((ieq y1 a2),())
  |false=>some (false,())
 |false=>some (false,())
def Xv[Lk]:=fun v=>Lk.f (OB v)
theorem AJo v:Xv v=OB v:=AI _
def JG[Lk]:Uz→Option (Uz⊕(Int×Int×List Int×Bool×Bool×Bool×Bool×Int×Int×Bool×Int×Int×Int×Int×Int×Bool×Int×List Int×Int×Int×Int×Int×Int×Int×Int×Int×Bool×Unit)⊕Unit):=fun(a0,a1,a2,a3,a4,a5,a6,a7,a8,a9,a10,a11,a12,a13,a14,a15,a16,a17,a18,a19,a20,a21,a22,a23,a24,a25,a26,a27,_)=>
 match(ilt a4 (AO a1))with
 |true=>match rem? (IntKind.wrap .i64 (a2+a4)) (AO a1)with|none=>none|some x0=>match idx a1 x0 with|none=>none|some x1=>match(fits ((AO a3)+(AO ([(AM a1 (AE x0) 0)]:List (Int)))))with
  |true=>some (.inl (a0,a1,a2,(A4 a3 ([(AM a1 (AE x0) 0)]:List (Int))),(IntKind.wrap .i64 (a4+1)),a5,a6,a7,a8,a9,a10,a11,a12,a13,a14,a15,a16,a17,a18,a19,a20,a21,a22,a23,a24,a25,a26,a27,()))
  |false=>none
 |false=>some (.inr (.inl (a0,a2,a3,a5,a6,a7,a8,a9,a10,a11,a12,a13,a14,a15,a16,a17,a18,a1,a19,a20,a21,a22,a23,a24,a25,a26,a27,())))
def DV[Lk]:(Int×List Int×Bool×Int×Unit)→Option ((Int×List Int×Bool×Int×Unit)⊕(Int×List Int×Bool×Unit)⊕Unit):=fun(a0,a1,a2,a3,_)=>
 match(ilt a3 (AO a1))with
 |true=>match(!a2)with
  |true=>match idx a1 a3 with|none=>none|some x0=>match rem? (IntKind.wrap .i64 (a3+1)) (AO a1)with|none=>none|some x1=>match idx a1 x1 with|none=>none|some x2=>match rem? (IntKind.wrap .i64 (a3+2)) (AO a1)with|none=>none|some x3=>match idx a1 x3 with|none=>none|some x4=>match Wo (a0,(AM a1 (AE a3) 0),())with|none=>none|some (y5,y6,y7,y8,_)=>match(ile 4 (AO a1))with
   |true=>match y8 with
    |true=>match y7 with
     |true=>match(ieq (AM a1 (AE x1) 0) y6)with
      |true=>match ANs (a0,y6,y5,())with|none=>none|some (y9,_)=>match(ieq (AM a1 (AE x3) 0) y9)with
       |true=>match rem? (IntKind.wrap .i64 ((IntKind.wrap .i64 (a3+(AO a1)))-1)) (AO a1)with|none=>none|some x10=>match idx a1 x10 with|none=>none|some x11=>match Xv (a0,(AM a1 (AE x10) 0),y5,())with|none=>none|some (y12,_)=>match y12 with
        |true=>match AS JG many (a0,a1,a3,([]:List (Int)),3,a2,(!a2),y8,y7,(AM a1 (AE x1) 0),y6,(ieq (AM a1 (AE x1) 0) y6),(AM a1 (AE x3) 0),a0,y6,y5,y9,(ieq (AM a1 (AE x3) 0) y9),a0,a3,(AO a1),(IntKind.wrap .i64 (a3+(AO a1))),(IntKind.wrap .i64 ((IntKind.wrap .i64 (a3+(AO a1)))-1)),(AO a1),x10,(AM a1 (AE x10) 0),y5,y12,())with|none=>none|some r=>match r with
         |.inl (o13,o14,o15,o16,o17,o18,o19,o20,o21,o22,o23,o24,o25,o26,o27,o28,o29,o30,o31,o32,o33,o34,o35,o36,o37,o38,o39,_)=>some (.inl (o13,o15,true,(IntKind.wrap .i64 (o14+1)),()))
         |.inr _=>none
        |false=>some (.inl (a0,a1,a2,(IntKind.wrap .i64 (a3+1)),()))
       |false=>some (.inl (a0,a1,a2,(IntKind.wrap .i64 (a3+1)),()))
      |false=>some (.inl (a0,a1,a2,(IntKind.wrap .i64 (a3+1)),()))
     |false=>some (.inl (a0,a1,a2,(IntKind.wrap .i64 (a3+1)),()))
    |false=>some (.inl (a0,a1,a2,(IntKind.wrap .i64 (a3+1)),()))
   |false=>some (.inl (a0,a1,a2,(IntKind.wrap .i64 (a3+1)),()))
  |false=>some (.inr (.inl (a0,a1,a2,())))
 |false=>some (.inr (.inl (a0,a1,a2,())))
def Mi[Lk]:Vf→Option (Vf⊕Ug⊕Vf⊕Unit):=fun(a0,a1,_)=>
 match(ilt 1 (AO a1))with
 |true=>match AS DV many (a0,a1,false,0,())with|none=>none|some r=>match r with
  |.inl (o0,o1,o2,_)=>match(!o2)with
   |true=>some (.inr (.inl (false,())))
   |false=>some (.inl (o0,o1,()))
  |.inr _=>none
 |false=>some (.inr (.inr (.inl (a0,a1,()))))
def Xn[Lk]:Vf→Option (Ug):=fun(a0,a1,_)=>
 match(fits ((AO ([]:List (Int)))+(AO a1)))with
 |true=>match AS Mi many (a0,(A4 ([]:List (Int)) a1),())with|none=>none|some r=>match r with
  |.inl (o0,_)=>some (o0,())
  |.inr r=>match r with
  |.inl (o1,o2,_)=>match(ieq (AO o2) 1)with
   |true=>match idx o2 0 with|none=>none|some x3=>match AMU (o1,(AM o2 0 0),())with|none=>none|some (y4,_)=>some (y4,())
   |false=>some (false,())
  |.inr _=>none
 |false=>none
def AOJ[Lk]:=fun v=>Lk.f (Xn v)
theorem AUS v:AOJ v=Xn v:=AI _
def Hj[Lk]:Uc→Option (Uc⊕U9⊕(Unit)⊕Unit):=fun(a0,a1,a2,_)=>
 match(ilt a2 (AO a0))with
 |true=>match idx a0 a2 with|none=>none|some x0=>match(ieq x0 a1)with
  |true=>some (.inr (.inl (a2,())))
  |false=>some (.inl (a0,a1,(IntKind.wrap .i64 (a2+1)),()))
 |false=>some (.inr (.inr (.inl ())))
def R7[Lk]:Up→Option (U9):=fun(a0,a1,_)=>
 match AS Hj many (a0,a1,0,())with|none=>none|some r=>match r with
 |.inl (o0,_)=>some (o0,())
 |.inr r=>match r with
 |.inl _=>some ((-1:Int),())
 |.inr _=>none
def Mr[Lk]:=fun v=>Lk.f (R7 v)
theorem APY v:Mr v=R7 v:=AI _
def FM[Lk]:Up→Option (Up⊕Ug⊕(Unit)⊕Unit):=fun(a0,a1,_)=>
 match(ilt a1 (AO a0))with
 |true=>match idx a0 a1 with|none=>none|some x0=>match(ilt x0 0)with
  |true=>some (.inr (.inl (false,())))
  |false=>match idx a0 a1 with|none=>none|some x1=>match(ilt 10000 x1)with
  |true=>some (.inr (.inl (false,())))
  |false=>match Bz a0 0 a1 with|none=>none|some x2=>match idx a0 a1 with|none=>none|some x3=>match Mr (x2,x3,())with|none=>none|some (y4,_)=>match(ile 0 y4)with
  |true=>some (.inr (.inl (false,())))
  |false=>some (.inl (a0,(IntKind.wrap .i64 (a1+1)),()))
 |false=>some (.inr (.inr (.inl ())))
def Ru[Lk]:Ub→Option (Ug):=fun(a0,_)=>
 match(ilt 1000 (AO a0))with
 |true=>some (false,())
 |false=>match AS FM many (a0,0,())with|none=>none|some r=>match r with
 |.inl (o0,_)=>some (o0,())
 |.inr r=>match r with
 |.inl _=>some (true,())
 |.inr _=>none
def PZ[Lk]:=fun v=>Lk.f (Ru v)
theorem AOw v:PZ v=Ru v:=AI _
def AAb[Lk]:Up→Option (Ve):=fun(a0,a1,_)=>
 match Mr (a0,a1,())with|none=>none|some (y0,_)=>match PZ (a0,())with|none=>none|some (y1,_)=>match(!y1)with
 |true=>some (([]:List (Int)),false,())
 |false=>match(ilt y0 0)with
 |true=>some (([]:List (Int)),false,())
 |false=>match Bz a0 y0 (AO a0)with|none=>none|some x2=>match(fits ((AO ([]:List (Int)))+(AO x2)))with
 |true=>match Bz a0 0 y0 with|none=>none|some x3=>match(fits ((AO (A4 ([]:List (Int)) x2))+(AO x3)))with
  |true=>some ((A4 (A4 ([]:List (Int)) x2) x3),true,())
  |false=>none
 |false=>none
def AAc[Lk]:=fun v=>Lk.f (AAb v)
theorem AW2 v:AAc v=AAb v:=AI _
def Hh[Lk]:Uc→Option (Uc⊕Up⊕Unit):=fun(a0,a1,a2,_)=>
 match(ilt a2 (AO a0))with
 |true=>match idx a0 a2 with|none=>none|some x0=>some (.inl (a0,(Bt a1 x0),(IntKind.wrap .i64 (a2+1)),()))
 |false=>some (.inr (.inl (a0,a1,())))
def R5[Lk]:Ub→Option (Ub):=fun(a0,_)=>
 match PZ (a0,())with|none=>none|some (y0,_)=>match(!y0)with
 |true=>some (([]:List (Int)),())
 |false=>match(ieq (AO a0) 0)with
 |true=>some (([]:List (Int)),())
 |false=>match idx a0 0 with|none=>none|some x1=>match AS Hh many (a0,x1,0,())with|none=>none|some r=>match r with
 |.inl (o2,o3,_)=>match AAc (o2,o3,())with|none=>none|some (y4,y5,_)=>some (y4,())
 |.inr _=>none
def W0[Lk]:=fun v=>Lk.f (R5 v)
theorem APT v:W0 v=R5 v:=AI _
def FW[Lk]:(List U4×List U4×Int×Unit)→Option ((List U4×List U4×Int×Unit)⊕Ug⊕(Unit)⊕Unit):=fun(a0,a1,a2,_)=>
 match(ilt a2 (AO a0))with
 |true=>match idx a0 a2 with|none=>none|some x0=>match idx a1 a2 with|none=>none|some x1=>match Oe (x0,x1,())with|none=>none|some (y2,_)=>match(!y2)with
  |true=>some (.inr (.inl (false,())))
  |false=>some (.inl (a0,a1,(IntKind.wrap .i64 (a2+1)),()))
 |false=>some (.inr (.inr (.inl ())))
def Ss[Lk]:(List U4×List U4×Unit)→Option (Ug):=fun(a0,a1,_)=>
 match(!(ieq (AO a0) (AO a1)))with
 |true=>some (false,())
 |false=>match AS FW many (a0,a1,0,())with|none=>none|some r=>match r with
 |.inl (o0,_)=>some (o0,())
 |.inr r=>match r with
 |.inl _=>some (true,())
 |.inr _=>none
def AHD[Lk]:=fun v=>Lk.f (Ss v)
theorem AQp v:AHD v=Ss v:=AI _
def EA[Lk]:Ux→Option (Ux⊕Ug⊕(Int×List U4×List Bool×Int×Int×Int×List Int×Int×Bool×Int×List Int×Bool×Bool×List Int×List Int×List U4×List Int×List U4×Bool×Bool×List Int×Int×Int×Bool×Unit)⊕Unit):=fun(a0,a1,a2,a3,a4,a5,a6,a7,a8,a9,a10,a11,a12,a13,a14,a15,a16,a17,a18,a19,a20,a21,a22,a23,a24,a25,_)=>
 match(ilt a7 (AO a6))with
 |true=>match idx a6 a7 with|none=>none|some x0=>match(ilt x0 a0)with
  |true=>match idx a6 a7 with|none=>none|some x1=>match idx a2 x1 with|none=>none|some x2=>match(AM a2 (AE x1) false)with
   |true=>some (.inr (.inl (false,())))
   |false=>match idx a6 a7 with|none=>none|some x3=>match idx a2 x3 with|none=>none|some x4=>some (.inl (a0,a1,(Am a2 (AE x3) true),a3,(IntKind.wrap .i64 (a4+1)),a5,a6,(IntKind.wrap .i64 (a7+1)),a8,a9,a10,a11,a12,a13,a14,a15,a16,a17,a18,a19,a20,a21,a22,a23,a24,a25,()))
  |false=>some (.inl (a0,a1,a2,a3,a4,a5,a6,(IntKind.wrap .i64 (a7+1)),a8,a9,a10,a11,a12,a13,a14,a15,a16,a17,a18,a19,a20,a21,a22,a23,a24,a25,()))
 |false=>some (.inr (.inr (.inl (a0,a1,a2,a3,a4,a5,a8,a9,a10,a11,a12,a13,a14,a15,a16,a17,a18,a19,a20,a21,a22,a23,a24,a25,()))))
def EB[Lk]:(Int×List U4×List Bool×Int×Int×Int×Unit)→Option ((Int×List U4×List Bool×Int×Int×Int×Unit)⊕Ug⊕V1⊕Unit):=fun(a0,a1,a2,a3,a4,a5,_)=>
 match(ilt a5 (AO a1))with
 |true=>match idx a1 a5 with|none=>none|some x0=>match PZ (x0,())with|none=>none|some (y1,_)=>match(!y1)with
  |true=>some (.inr (.inl (false,())))
  |false=>match(ieq (AO x0) 0)with
  |true=>some (.inr (.inl (false,())))
  |false=>match AOJ (a0,x0,())with|none=>none|some (y2,_)=>match(!y2)with
  |true=>some (.inr (.inl (false,())))
  |false=>match W0 (x0,())with|none=>none|some (y3,_)=>match AHD (([y3]:List U4),([x0]:List U4),())with|none=>none|some (y4,_)=>match(!y4)with
  |true=>some (.inr (.inl (false,())))
  |false=>match idx x0 0 with|none=>none|some x5=>match(ile x5 a3)with
  |true=>some (.inr (.inl (false,())))
  |false=>match idx x0 0 with|none=>none|some x6=>match AS EA many (a0,a1,a2,x6,a4,a5,x0,0,x0,(AO x0),(ieq (AO x0) 0),a0,x0,y2,(!y2),x0,y3,([y3]:List U4),x0,([x0]:List U4),y4,(!y4),x0,x5,a3,(ile x5 a3),())with|none=>none|some r=>match r with
  |.inl (o7,_)=>some (.inr (.inl (o7,())))
  |.inr r=>match r with
  |.inl (o8,o9,o10,o11,o12,o13,o14,o15,o16,o17,o18,o19,o20,o21,o22,o23,o24,o25,o26,o27,o28,o29,o30,o31,_)=>some (.inl (o8,o9,o10,o11,o12,(IntKind.wrap .i64 (o13+1)),()))
  |.inr _=>none
 |false=>some (.inr (.inr (.inl (a0,a1,a4,()))))
def Rs[Lk]:(Ui×Unit)→Option (Ug):=fun(a0,_)=>
 match(ilt a0.1 1)with
 |true=>some (false,())
 |false=>match(ilt 64 a0.1)with
 |true=>some (false,())
 |false=>match(ilt a0.1 (AO a0.2.1))with
 |true=>some (false,())
 |false=>match(K6 a0.1&&K6 a0.1&&ile a0.1 a0.1&&true)with
 |true=>match AS EB many (a0.1,a0.2.1,(Je (AE a0.1) false),(-1:Int),(0:Int),(0:Int),())with|none=>none|some r=>match r with
  |.inl (o0,_)=>some (o0,())
  |.inr r=>match r with
  |.inl (o1,o2,o3,_)=>some ((ieq o3 o1),())
  |.inr _=>none
 |false=>none
def Ww[Lk]:=fun v=>Lk.f (Rs v)
theorem AOv v:Ww v=Rs v:=AI _
def Hi[Lk]:(Int×Int×List U4×Int×Unit)→Option ((Int×Int×List U4×Int×Unit)⊕U9⊕(Unit)⊕Unit):=fun(a0,a1,a2,a3,_)=>
 match(ilt a3 (AO a2))with
 |true=>match idx a2 a3 with|none=>none|some x0=>match Mr (x0,a0,())with|none=>none|some (y1,_)=>match(ile 0 y1)with
  |true=>some (.inr (.inl (a3,())))
  |false=>some (.inl (a0,a1,a2,(IntKind.wrap .i64 (a3+1)),()))
 |false=>some (.inr (.inr (.inl ())))
def R6[Lk]:Vb→Option (U9):=fun(a0,a1,_)=>
 match AS Hi many (a1,a0.1,a0.2.1,0,())with|none=>none|some r=>match r with
 |.inl (o0,_)=>some (o0,())
 |.inr r=>match r with
 |.inl _=>some ((-1:Int),())
 |.inr _=>none
def Mq[Lk]:=fun v=>Lk.f (R6 v)
theorem APX v:Mq v=R6 v:=AI _
def LV[Lk]:(List U4×List Int×Int×Unit)→Option ((List U4×List Int×Int×Unit)⊕(List U4×List Int×Int×Unit)⊕Unit):=fun(a0,a1,a2,_)=>
 match(ilt a2 (AO a0))with
 |true=>match idx a0 a2 with|none=>none|some x0=>match idx x0 0 with|none=>none|some x1=>match idx a1 0 with|none=>none|some x2=>match(ilt x1 (AM a1 0 0))with
  |true=>some (.inl (a0,a1,(IntKind.wrap .i64 (a2+1)),()))
  |false=>some (.inr (.inl (a0,a1,a2,())))
 |false=>some (.inr (.inl (a0,a1,a2,())))
def AF1[Lk]:(List U4×List Int×Unit)→Option (Um):=fun(a0,a1,_)=>
 match W0 (a1,())with|none=>none|some (y0,_)=>match AS LV many (a0,y0,0,())with|none=>none|some r=>match r with
 |.inl (o1,o2,o3,_)=>match Bz o1 0 o3 with|none=>none|some x4=>match(fits ((AO ([]:List U4))+(AO x4)))with
  |true=>match(fits ((AO (A4 ([]:List U4) x4))+(AO ([o2]:List U4))))with
   |true=>match Bz o1 o3 (AO o1)with|none=>none|some x5=>match(fits ((AO (A4 (A4 ([]:List U4) x4) ([o2]:List U4)))+(AO x5)))with
    |true=>some ((A4 (A4 (A4 ([]:List U4) x4) ([o2]:List U4)) x5),())
    |false=>none
   |false=>none
  |false=>none
 |.inr _=>none
def AS5[Lk]:=fun v=>Lk.f (AF1 v)
theorem AYo v:AS5 v=AF1 v:=AI _
def LG[Lk]:Vc→Option (Um):=fun(a0,a1,_)=>
 match Bz a0 0 a1 with|none=>none|some x0=>match(fits ((AO ([]:List U4))+(AO x0)))with
 |true=>match Bz a0 (IntKind.wrap .i64 (a1+1)) (AO a0)with|none=>none|some x1=>match(fits ((AO (A4 ([]:List U4) x0))+(AO x1)))with
  |true=>some ((A4 (A4 ([]:List U4) x0) x1),())
  |false=>none
 |false=>none
def HE[Lk]:=fun v=>Lk.f (LG v)
theorem AEy v:HE v=LG v:=AI _
def JT[Lk]:(Ui×Int×Int×Unit)→Option (V1):=fun(a0,a1,a2,_)=>
 match Ww ((a0.1,(a0.2.1,())),())with|none=>none|some (y0,_)=>match(!y0)with
 |true=>some (a0.1,a0.2.1,1,())
 |false=>match AMU (a0.1,a1,())with|none=>none|some (y1,_)=>match(!y1)with
 |true=>some (a0.1,a0.2.1,10,())
 |false=>match AMU (a0.1,a2,())with|none=>none|some (y2,_)=>match(!y2)with
 |true=>some (a0.1,a0.2.1,10,())
 |false=>match Mq ((a0.1,(a0.2.1,())),a1,())with|none=>none|some (y3,_)=>match Mq ((a0.1,(a0.2.1,())),a2,())with|none=>none|some (y4,_)=>match(ieq y3 y4)with
 |true=>some (a0.1,a0.2.1,5,())
 |false=>match Mq ((a0.1,(a0.2.1,())),a1,())with|none=>none|some (y5,_)=>match Mq ((a0.1,(a0.2.1,())),a2,())with|none=>none|some (y6,_)=>match idx a0.2.1 y5 with|none=>none|some x7=>match AAc (x7,a1,())with|none=>none|some (y8,y9,_)=>match idx a0.2.1 y6 with|none=>none|some x10=>match AAc (x10,a2,())with|none=>none|some (y11,y12,_)=>match ANs (a0.1,a1,a2,())with|none=>none|some (y13,_)=>match(fits ((AO ([a1,y13]:List (Int)))+(AO y11)))with
 |true=>match ANs (a0.1,a2,a1,())with|none=>none|some (y14,_)=>match(fits ((AO (A4 ([a1,y13]:List (Int)) y11))+(AO ([y14]:List (Int)))))with
  |true=>match Bz y8 1 (AO y8)with|none=>none|some x15=>match(fits ((AO (A4 (A4 ([a1,y13]:List (Int)) y11) ([y14]:List (Int))))+(AO (DR 1 (AE (AO x15)) y8))))with
   |true=>match HE (a0.2.1,(imax y5 y6),())with|none=>none|some (y16,_)=>match HE (y16,(Bt y5 y6),())with|none=>none|some (y17,_)=>match AS5 (y17,(A4 (A4 (A4 ([a1,y13]:List (Int)) y11) ([y14]:List (Int))) (DR 1 (AE (AO x15)) y8)),())with|none=>none|some (y18,_)=>some (a0.1,y18,0,())
   |false=>none
  |false=>none
 |false=>none
def Sv[Lk]:=fun v=>Lk.f (JT v)
theorem NC v:Sv v=JT v:=AI _
abbrev YB:AF:=[(.tmp 0,.dat Ut),(.tmp 1,.dat Ut)]
abbrev YA:AF:=[(.tmp 0,.dat .bool)]
abbrev X9:List RS:=[.one]
abbrev ADc:AF:=[(.tmp 0,.dat Ut),(.tmp 1,.dat Ut),(.tmp 5,.di)]
abbrev ADb:A0:=[(.ret,[(.tmp 4,.dat .bool)]),(.exit 0,[])]
def FK[Lk]:(List U3×List U3×Int×Unit)→Option ((List U3×List U3×Int×Unit)⊕Ug⊕(Unit)⊕Unit):=fun(a0,a1,a2,_)=>
 match(ilt a2 (AO a0))with
 |true=>match idx a0 a2 with|none=>none|some x0=>match idx a1 a2 with|none=>none|some x1=>match(!(ieq x0.1 x1.1&&(ieq x0.2.1 x1.2.1&&true)))with
  |true=>some (.inr (.inl (false,())))
  |false=>some (.inl (a0,a1,(IntKind.wrap .i64 (a2+1)),()))
 |false=>some (.inr (.inr (.inl ())))
def PV[Lk]:(List U3×List U3×Unit)→Option (Ug):=fun(a0,a1,_)=>
 match(!(ieq (AO a0) (AO a1)))with
 |true=>some (false,())
 |false=>match AS FK many (a0,a1,0,())with|none=>none|some r=>match r with
 |.inl (o0,_)=>some (o0,())
 |.inr r=>match r with
 |.inl _=>some (true,())
 |.inr _=>none
def Ro[Lk]:=fun v=>Lk.f (PV v)
theorem ADd v:Ro v=PV v:=AI _
abbrev AX4:AF:=[(.tmp 0,.dat Uq),(.tmp 1,.di)]
abbrev AX3:AF:=[(.tmp 0,.di)]
abbrev AX2:List RS:=[.one]
def ASo[Lk]:Vb→Option (U9):=fun(a0,a1,_)=>
 match tin (a0.1,a1,())with|none=>none|some (y0,_)=>match(!y0)with
 |true=>some ((-1:Int),())
 |false=>match N8 ((a0.1,(a0.2.1,())),())with|none=>none|some (y1,_)=>match(!y1)with
 |true=>some ((-1:Int),())
 |false=>match N9 ((a0.1,(a0.2.1,())),a1,())with|none=>none|some (y2,_)=>some (y2,())
def tof[Lk]:=fun v=>Lk.f (ASo v)
theorem AX5 v:tof v=ASo v:=AI _
def HZ[Lk]:(List U3×Int×List U4×Int×Unit)→Option ((List U3×Int×List U4×Int×Unit)⊕U9⊕(Unit)⊕Unit):=fun(a0,a1,a2,a3,_)=>
 match(ilt a3 (AO a0))with
 |true=>match idx a0 a3 with|none=>none|some x0=>match(ilt x0.1 0)with
  |true=>some (.inr (.inl (10,())))
  |false=>match idx a0 a3 with|none=>none|some x1=>match(ile a1 x1.1)with
  |true=>some (.inr (.inl (10,())))
  |false=>match idx a0 a3 with|none=>none|some x2=>match(ilt x2.2.1 0)with
  |true=>some (.inr (.inl (10,())))
  |false=>match idx a0 a3 with|none=>none|some x3=>match(ile a1 x3.2.1)with
  |true=>some (.inr (.inl (10,())))
  |false=>some (.inl (a0,a1,a2,(IntKind.wrap .i64 (a3+1)),()))
 |false=>some (.inr (.inr (.inl ())))
def Rj[Lk]:(Ui×List U3×Unit)→Option (U9):=fun(a0,a1,_)=>
 match Ww ((a0.1,(a0.2.1,())),())with|none=>none|some (y0,_)=>match(!y0)with
 |true=>some (1,())
 |false=>match AS HZ many (a1,a0.1,a0.2.1,0,())with|none=>none|some r=>match r with
 |.inl (o1,_)=>some (o1,())
 |.inr r=>match r with
 |.inl _=>some (0,())
 |.inr _=>none
def AFR[Lk]:=fun v=>Lk.f (Rj v)
theorem AOQ v:AFR v=Rj v:=AI _
def Hq[Lk]:(List U3×Int×List U4×Int×List Bool×Int×Unit)→Option ((List U3×Int×List U4×Int×List Bool×Int×Unit)⊕(Int×List U4×Int×List Bool×Unit)⊕Unit):=fun(a0,a1,a2,a3,a4,a5,_)=>
 match(ilt a5 (AO a0))with
 |true=>match idx a0 a5 with|none=>none|some x0=>match idx a0 a5 with|none=>none|some x1=>match Sv ((a1,(a2,())),x0.1,x1.2.1,())with|none=>none|some (y2,y3,y4,_)=>match(fits ((AO a4)+(AO ([(ieq y4 0)]:List (Bool)))))with
  |true=>some (.inl (a0,y2,y3,a3,(A4 a4 ([(ieq y4 0)]:List (Bool))),(IntKind.wrap .i64 (a5+1)),()))
  |false=>none
 |false=>some (.inr (.inl (a1,a2,a3,a4,())))
def Su[Lk]:(Ui×List U3×Unit)→Option ((Ui×List Bool×Int×Unit)):=fun(a0,a1,_)=>
 match AFR ((a0.1,(a0.2.1,())),a1,())with|none=>none|some (y0,_)=>match(!(ieq y0 0))with
 |true=>some ((a0.1,(a0.2.1,())),([]:List (Bool)),y0,())
 |false=>match AS Hq many (a1,a0.1,a0.2.1,0,([]:List (Bool)),0,())with|none=>none|some r=>match r with
 |.inl (o1,o2,o3,o4,_)=>some ((o1,(o2,())),o4,0,())
 |.inr _=>none
def AHE[Lk]:=fun v=>Lk.f (Su v)
theorem AQr v:AHE v=Su v:=AI _
def AQL[Lk]:(Int×List U3×Unit)→Option (Vb):=fun(a0,a1,_)=>
 match AG8 (a0,())with|none=>none|some (y0,y1,y2,_)=>match(!(ieq y2 0))with
 |true=>some ((0,(([]:List U4),())),y2,())
 |false=>match AHE ((y0,(y1,())),a1,())with|none=>none|some (y3,y4,y5,_)=>match(!(ieq y5 0))with
 |true=>some ((0,(([]:List U4),())),y5,())
 |false=>some ((y3.1,(y3.2.1,())),0,())
def AeK[Lk]:=fun v=>Lk.f (AQL v)
theorem Aca v:AeK v=AQL v:=AI _
abbrev AAi:AF:=[(.tmp 0,.dat Ua),(.tmp 1,.di),(.tmp 2,.di)]
abbrev AAh:AF:=[(.tmp 0,.di)]
abbrev AAg:List RS:=[.one]
abbrev AES:AF:=[(.tmp 1,.di),(.tmp 2,.di),(.tmp 3,.box 2),(.cell 0 0,.di),(.cell 0 1,.dat Ur),(.tmp 7,.di)]
abbrev AER:A0:=[(.ret,[(.tmp 6,.di)]),(.exit 0,[])]
def Fl[Lk]:(Int×Int×Int×List U2×Int×Unit)→Option ((Int×Int×Int×List U2×Int×Unit)⊕U9⊕(Unit)⊕Unit):=fun(a0,a1,a2,a3,a4,_)=>
 match(ilt a4 (AO a3))with
 |true=>match idx a3 a4 with|none=>none|some x0=>match(ieq x0.1 (Bt a0 a1))with
  |true=>match idx a3 a4 with|none=>none|some x1=>match(ieq x1.2.1 (imax a0 a1))with
   |true=>some (.inr (.inl (a4,())))
   |false=>some (.inl (a0,a1,a2,a3,(IntKind.wrap .i64 (a4+1)),()))
  |false=>some (.inl (a0,a1,a2,a3,(IntKind.wrap .i64 (a4+1)),()))
 |false=>some (.inr (.inr (.inl ())))
def QZ[Lk]:V5→Option (U9):=fun(a0,a1,a2,_)=>
 match Cn ((a0.1,(a0.2.1,())),())with|none=>none|some (y0,_)=>match(!y0)with
 |true=>some ((-1:Int),())
 |false=>match AS Fl many (a1,a2,a0.1,a0.2.1,0,())with|none=>none|some r=>match r with
 |.inl (o1,_)=>some (o1,())
 |.inr r=>match r with
 |.inl _=>some ((-1:Int),())
 |.inr _=>none
def AAk[Lk]:=fun v=>Lk.f (QZ v)
theorem AET v:AAk v=QZ v:=AI _
abbrev Rg:AF:=[(.tmp 0,.dat Ua),(.tmp 1,.di)]
abbrev Rf:AF:=[(.tmp 0,.own 42 U5)]
abbrev Re:List RS:=[.one]
abbrev Xl:AF:=[(.tmp 1,.di),(.tmp 2,.box 2),(.cell 0 0,.di),(.cell 0 1,.dat Ur),(.tmp 5,.own 42 U5),(.tmp 6,.di)]
abbrev Xk:A0:=[(.exit 0,[(.tmp 5,.own 42 U5)])]
def D8[Lk]:(Int×Int×List U2×List U3×Int×Unit)→Option ((Int×Int×List U2×List U3×Int×Unit)⊕V2⊕Unit):=fun(a0,a1,a2,a3,a4,_)=>
 match(ilt a4 (AO a2))with
 |true=>match idx a2 a4 with|none=>none|some x0=>match x0.2.2.2.1 with
  |true=>match idx a2 a4 with|none=>none|some x1=>match(ile a0 x1.2.2.1)with
   |true=>match idx a2 a4 with|none=>none|some x2=>match idx a2 a4 with|none=>none|some x3=>match(fits ((AO a3)+(AO ([(x2.1,(x3.2.1,()))]:List U3))))with
    |true=>some (.inl (a0,a1,a2,(A4 a3 ([(x2.1,(x3.2.1,()))]:List U3)),(IntKind.wrap .i64 (a4+1)),()))
    |false=>none
   |false=>some (.inl (a0,a1,a2,a3,(IntKind.wrap .i64 (a4+1)),()))
  |false=>some (.inl (a0,a1,a2,a3,(IntKind.wrap .i64 (a4+1)),()))
 |false=>some (.inr (.inl (a3,())))
def Mg[Lk]:(Ue×Int×Unit)→Option (V2):=fun(a0,a1,_)=>
 match AS D8 many (a1,a0.1,a0.2.1,([]:List U3),0,())with|none=>none|some r=>match r with
 |.inl (o0,_)=>some (o0,())
 |.inr _=>none
def Mh[Lk]:=fun v=>Lk.f (Mg v)
theorem Xm v:Mh v=Mg v:=AI _
def Oo[Lk]:(Ue×Int×Unit)→Option (Vb):=fun(a0,a1,_)=>
 match Cn ((a0.1,(a0.2.1,())),())with|none=>none|some (y0,_)=>match(!y0)with
 |true=>some ((0,(([]:List U4),())),1,())
 |false=>match Mh ((a0.1,(a0.2.1,())),a1,())with|none=>none|some (y1,_)=>match AeK (a0.1,y1,())with|none=>none|some (y2,y3,_)=>some ((y2.1,(y2.2.1,())),y3,())
def AM7[Lk]:=fun v=>Lk.f (Oo v)
theorem AM6 v:AM7 v=Oo v:=AI _
abbrev X7:AF:=[(.tmp 0,.dat Ua),(.tmp 1,.dat Ua)]
abbrev X6:AF:=[(.tmp 0,.dat .bool)]
abbrev X5:List RS:=[.one]
abbrev ADZ:AF:=[(.tmp 2,.box 2),(.cell 0 0,.di),(.cell 0 1,.dat Ur),(.tmp 3,.box 2),(.cell 1 0,.di),(.cell 1 1,.dat Ur),(.tmp 5,.di)]
abbrev ADY:A0:=[(.ret,[(.tmp 4,.dat .bool)]),(.exit 0,[])]
def ES[Lk]:(Int×List U2×Int×List U2×Int×Unit)→Option ((Int×List U2×Int×List U2×Int×Unit)⊕Ug⊕(Unit)⊕Unit):=fun(a0,a1,a2,a3,a4,_)=>
 match(ilt a4 (AO a1))with
 |true=>match idx a1 a4 with|none=>none|some x0=>match idx a3 a4 with|none=>none|some x1=>match(!(ieq x0.1 x1.1&&(ieq x0.2.1 x1.2.1&&(ieq x0.2.2.1 x1.2.2.1&&((x0.2.2.2.1==x1.2.2.2.1)&&true)))))with
  |true=>some (.inr (.inl (false,())))
  |false=>some (.inl (a0,a1,a2,a3,(IntKind.wrap .i64 (a4+1)),()))
 |false=>some (.inr (.inr (.inl ())))
def PU[Lk]:(Ue×Ue×Unit)→Option (Ug):=fun(a0,a1,_)=>
 match(!(ieq a0.1 a1.1))with
 |true=>some (false,())
 |false=>match(!(ieq (AO a0.2.1) (AO a1.2.1)))with
 |true=>some (false,())
 |false=>match AS ES many (a0.1,a0.2.1,a1.1,a1.2.1,0,())with|none=>none|some r=>match r with
 |.inl (o0,_)=>some (o0,())
 |.inr r=>match r with
 |.inl _=>some (true,())
 |.inr _=>none
def OF[Lk]:=fun v=>Lk.f (PU v)
theorem ADa v:OF v=PU v:=AI _
abbrev AHp:AF:=[(.tmp 0,.dat Ut),(.tmp 1,.dat U5)]
abbrev AHo:AF:=[(.tmp 0,.dat .bool)]
abbrev AHn:List RS:=[.one]
abbrev AMt:AF:=[(.tmp 0,.dat Ut),(.tmp 3,.box 2),(.cell 0 0,.di),(.cell 0 1,.di),(.tmp 5,.di)]
abbrev AMs:A0:=[(.ret,[(.tmp 4,.dat .bool)]),(.exit 0,[])]
def H4[Lk]:(List U3×Int×Int×Int×Unit)→Option ((List U3×Int×Int×Int×Unit)⊕Ug⊕(Unit)⊕Unit):=fun(a0,a1,a2,a3,_)=>
 match(ilt a3 (AO a0))with
 |true=>match idx a0 a3 with|none=>none|some x0=>match(ieq x0.1 a1&&(ieq x0.2.1 a2&&true))with
  |true=>some (.inr (.inl (true,())))
  |false=>some (.inl (a0,a1,a2,(IntKind.wrap .i64 (a3+1)),()))
 |false=>some (.inr (.inr (.inl ())))
def XF[Lk]:(List U3×U3×Unit)→Option (Ug):=fun(a0,a1,_)=>
 match AS H4 many (a0,a1.1,a1.2.1,0,())with|none=>none|some r=>match r with
 |.inl (o0,_)=>some (o0,())
 |.inr r=>match r with
 |.inl _=>some (false,())
 |.inr _=>none
def AAR[Lk]:=fun v=>Lk.f (XF v)
theorem AMu v:AAR v=XF v:=AI _
end
end Go.Pev
end
section
namespace Go.Pev
noncomputable section
attribute [local irreducible] MA JB Ng Kv AWT AWU AWV Pc WH WC X1 JD AQ many IntKind.wrap AO Am AM A4 Bi DR Je AE BV Bt imax AT Af
abbrev R4:AF:=[(.tmp 0,.di),(.tmp 1,.dat Ut)]
abbrev R3:AF:=[(.tmp 0,.own 42 U5)]
abbrev R2:List RS:=[.one]
abbrev Yi:AF:=[(.tmp 0,.di),(.tmp 1,.dat Ut),(.tmp 5,.own 42 U5),(.tmp 6,.di),(.tmp 7,.di)]
abbrev Yg:A0:=[(.exit 2,[(.tmp 0,.di),(.tmp 1,.dat Ut),(.tmp 5,.own 42 U5),(.tmp 6,.di)])]
def DK[Lk]:(Int×List U3×List U3×Int×Int×Unit)→Option ((Int×List U3×List U3×Int×Int×Unit)⊕Vl⊕Unit):=fun(a0,a1,a2,a3,a4,_)=>
 match(ilt a4 a0)with
 |true=>match AAR (a1,(a3,(a4,())),())with|none=>none|some (y0,_)=>match y0 with
  |true=>match(fits ((AO a2)+(AO ([(a3,(a4,()))]:List U3))))with
   |true=>some (.inl (a0,a1,(A4 a2 ([(a3,(a4,()))]:List U3)),a3,(IntKind.wrap .i64 (a4+1)),()))
   |false=>none
  |false=>match AAR (a1,(a4,(a3,())),())with|none=>none|some (y1,_)=>match y1 with
  |true=>match(fits ((AO a2)+(AO ([(a3,(a4,()))]:List U3))))with
   |true=>some (.inl (a0,a1,(A4 a2 ([(a3,(a4,()))]:List U3)),a3,(IntKind.wrap .i64 (a4+1)),()))
   |false=>none
  |false=>some (.inl (a0,a1,a2,a3,(IntKind.wrap .i64 (a4+1)),()))
 |false=>some (.inr (.inl (a0,a1,a2,a3,())))
abbrev Yj:AF:=[(.tmp 0,.di),(.tmp 1,.dat Ut),(.tmp 5,.own 42 U5),(.tmp 6,.di)]
abbrev Yh:A0:=[(.exit 0,[(.tmp 5,.own 42 U5)])]
def ED[Lk]:Vl→Option (Vl⊕V2⊕Unit):=fun(a0,a1,a2,a3,_)=>
 match(ilt a3 a0)with
 |true=>match AS DK many (a0,a1,a2,a3,(IntKind.wrap .i64 (a3+1)),())with|none=>none|some r=>match r with
  |.inl (o0,o1,o2,o3,_)=>some (.inl (o0,o1,o2,(IntKind.wrap .i64 (o3+1)),()))
  |.inr _=>none
 |false=>some (.inr (.inl (a2,())))
def Mo[Lk]:(Int×List U3×Unit)→Option (V2):=fun(a0,a1,_)=>
 match AS ED many (a0,a1,([]:List U3),0,())with|none=>none|some r=>match r with
 |.inl (o0,_)=>some (o0,())
 |.inr _=>none
def Pj[Lk]:=fun v=>Lk.f (Mo v)
theorem Yk v:Pj v=Mo v:=AI _
abbrev Sy:AF:=[(.tmp 0,.dat Ua),(.tmp 1,.di)]
abbrev Sx:AF:=[(.tmp 0,.dat Uq),(.tmp 1,.di)]
abbrev Sw:List RS:=[.one,.one]
def JU[Lk]:(Ue×Int×Unit)→Option (Vb):=fun(a0,a1,_)=>
 match FV ((a0.1,(a0.2.1,())),())with|none=>none|some (y0,_)=>match(!y0)with
 |true=>some ((0,(([]:List U4),())),1,())
 |false=>match OV ((a0.1,(a0.2.1,())),a1,())with|none=>none|some (y1,_)=>match fof (a0.1,y1,())with|none=>none|some (y2,y3,_)=>some ((y2.1,(y2.2.1,())),y3,())
def ND[Lk]:=fun v=>Lk.f (JU v)
theorem OW v:ND v=JU v:=AI _
abbrev AHL:AF:=[(.tmp 0,.di),(.tmp 1,.di)]
abbrev AHK:AF:=[(.tmp 0,.dat .bool)]
abbrev AHJ:List RS:=[.one]
def W9[Lk]:U3→Option (Ug):=fun(a0,a1,_)=>
 match AQR (a0,())with|none=>none|some (y0,_)=>match y0 with
 |true=>match AQR (a1,())with|none=>none|some (y1,_)=>match(!y1)with
  |true=>some (true,())
  |false=>some ((ilt a0 a1),())
 |false=>some ((ilt a0 a1),())
def Dw[Lk]:=fun v=>Lk.f (W9 v)
theorem AMM v:Dw v=W9 v:=AI _
abbrev ARE:AF:=[(.tmp 0,.own 3 U0),(.tmp 1,.di),(.tmp 2,.di)]
abbrev ARD:AF:=[(.obj 0,.own 3 U0)]
abbrev ARC:List RS:=[]
abbrev ATg:AF:=[(.obj 0,.own 3 U0),(.tmp 0,.own' 0),(.tmp 1,.di),(.tmp 2,.di),(.tmp 6,.di),(.tmp 7,.di)]
abbrev ATe:A0:=[(.exit 2,[(.obj 0,.own 3 U0),(.tmp 0,.own' 0),(.tmp 1,.di),(.tmp 2,.di),(.tmp 6,.di)])]
def NF[Lk]:Uk→Option (Uk⊕U7⊕Unit):=fun(a0,a1,a2,a3,a4,_)=>
 match(ilt a1 a4)with
 |true=>match idx a0 a4 with|none=>none|some x0=>match idx a0 (IntKind.wrap .i64 (a4-1))with|none=>none|some x1=>match Dw ((AM a0 (AE a4) 0),(AM a0 (AE (IntKind.wrap .i64 (a4-1))) 0),())with|none=>none|some (y2,_)=>match y2 with
  |true=>match idx a0 (IntKind.wrap .i64 (a4-1))with|none=>none|some x3=>match idx a0 a4 with|none=>none|some x4=>match idx a0 a4 with|none=>none|some x5=>match idx (Am a0 (AE a4) (AM a0 (AE (IntKind.wrap .i64 (a4-1))) 0)) (IntKind.wrap .i64 (a4-1))with|none=>none|some x6=>some (.inl ((Am (Am a0 (AE a4) (AM a0 (AE (IntKind.wrap .i64 (a4-1))) 0)) (AE (IntKind.wrap .i64 (a4-1))) (AM a0 (AE a4) 0)),a1,a2,a3,(IntKind.wrap .i64 (a4-1)),()))
  |false=>some (.inr (.inl (a0,a1,a2,a3,())))
 |false=>some (.inr (.inl (a0,a1,a2,a3,())))
abbrev ATh:AF:=[(.obj 0,.own 3 U0),(.tmp 0,.own' 0),(.tmp 1,.di),(.tmp 2,.di),(.tmp 6,.di)]
abbrev ATf:A0:=[(.exit 0,[(.obj 0,.own 3 U0)])]
def NG[Lk]:U7→Option (U7⊕Ub⊕Unit):=fun(a0,a1,a2,a3,_)=>
 match(ilt a3 a2)with
 |true=>match AS NF many (a0,a1,a2,a3,a3,())with|none=>none|some r=>match r with
  |.inl (o0,o1,o2,o3,_)=>some (.inl (o0,o1,o2,(IntKind.wrap .i64 (o3+1)),()))
  |.inr _=>none
 |false=>some (.inr (.inl (a0,())))
def AHV[Lk]:Uc→Option (Ub):=fun(a0,a1,a2,_)=>
 match AS NG many (a0,a1,a2,(IntKind.wrap .i64 (a1+1)),())with|none=>none|some r=>match r with
 |.inl (o0,_)=>some (o0,())
 |.inr _=>none
def AWN[Lk]:=fun v=>Lk.f (AHV v)
theorem ATi v:AWN v=AHV v:=AI _
abbrev AFg:AF:=[(.tmp 0,.own 3 U0),(.tmp 1,.di),(.tmp 2,.di),(.tmp 3,.di)]
abbrev AFf:AF:=[(.obj 0,.own 3 U0)]
abbrev AFe:List RS:=[]
abbrev AJ0:AF:=[(.obj 0,.own 3 U0),(.tmp 0,.own' 0),(.tmp 2,.di),(.tmp 3,.di),(.tmp 8,.di)]
abbrev AJz:A0:=[(.exit 0,[(.obj 0,.own 3 U0)]),(.ret,[(.obj 0,.own 3 U0)])]
def JI[Lk]:U7→Option (U7⊕Ub⊕Ub⊕Unit):=fun(a0,a1,a2,a3,_)=>
 match(ile a1 (IntKind.wrap .i64 ((IntKind.wrap .i64 (2*a3))+1)))with
 |true=>some (.inr (.inl (a0,())))
 |false=>match(ilt (IntKind.wrap .i64 ((IntKind.wrap .i64 ((IntKind.wrap .i64 (2*a3))+1))+1)) a1)with
 |true=>match idx a0 (IntKind.wrap .i64 (a2+(IntKind.wrap .i64 ((IntKind.wrap .i64 (2*a3))+1))))with|none=>none|some x0=>match idx a0 (IntKind.wrap .i64 ((IntKind.wrap .i64 (a2+(IntKind.wrap .i64 ((IntKind.wrap .i64 (2*a3))+1))))+1))with|none=>none|some x1=>match Dw ((AM a0 (AE (IntKind.wrap .i64 (a2+(IntKind.wrap .i64 ((IntKind.wrap .i64 (2*a3))+1))))) 0),(AM a0 (AE (IntKind.wrap .i64 ((IntKind.wrap .i64 (a2+(IntKind.wrap .i64 ((IntKind.wrap .i64 (2*a3))+1))))+1))) 0),())with|none=>none|some (y2,_)=>match y2 with
  |true=>match idx a0 (IntKind.wrap .i64 (a2+a3))with|none=>none|some x3=>match idx a0 (IntKind.wrap .i64 (a2+(IntKind.wrap .i64 ((IntKind.wrap .i64 ((IntKind.wrap .i64 (2*a3))+1))+1))))with|none=>none|some x4=>match Dw ((AM a0 (AE (IntKind.wrap .i64 (a2+a3))) 0),(AM a0 (AE (IntKind.wrap .i64 (a2+(IntKind.wrap .i64 ((IntKind.wrap .i64 ((IntKind.wrap .i64 (2*a3))+1))+1))))) 0),())with|none=>none|some (y5,_)=>match(!y5)with
   |true=>some (.inr (.inr (.inl (a0,()))))
   |false=>match idx a0 (IntKind.wrap .i64 (a2+(IntKind.wrap .i64 ((IntKind.wrap .i64 ((IntKind.wrap .i64 (2*a3))+1))+1))))with|none=>none|some x6=>match idx a0 (IntKind.wrap .i64 (a2+a3))with|none=>none|some x7=>match idx a0 (IntKind.wrap .i64 (a2+a3))with|none=>none|some x8=>match idx (Am a0 (AE (IntKind.wrap .i64 (a2+a3))) (AM a0 (AE (IntKind.wrap .i64 (a2+(IntKind.wrap .i64 ((IntKind.wrap .i64 ((IntKind.wrap .i64 (2*a3))+1))+1))))) 0)) (IntKind.wrap .i64 (a2+(IntKind.wrap .i64 ((IntKind.wrap .i64 ((IntKind.wrap .i64 (2*a3))+1))+1))))with|none=>none|some x9=>some (.inl ((Am (Am a0 (AE (IntKind.wrap .i64 (a2+a3))) (AM a0 (AE (IntKind.wrap .i64 (a2+(IntKind.wrap .i64 ((IntKind.wrap .i64 ((IntKind.wrap .i64 (2*a3))+1))+1))))) 0)) (AE (IntKind.wrap .i64 (a2+(IntKind.wrap .i64 ((IntKind.wrap .i64 ((IntKind.wrap .i64 (2*a3))+1))+1))))) (AM a0 (AE (IntKind.wrap .i64 (a2+a3))) 0)),a1,a2,(IntKind.wrap .i64 ((IntKind.wrap .i64 ((IntKind.wrap .i64 (2*a3))+1))+1)),()))
  |false=>match idx a0 (IntKind.wrap .i64 (a2+a3))with|none=>none|some x10=>match idx a0 (IntKind.wrap .i64 (a2+(IntKind.wrap .i64 ((IntKind.wrap .i64 (2*a3))+1))))with|none=>none|some x11=>match Dw ((AM a0 (AE (IntKind.wrap .i64 (a2+a3))) 0),(AM a0 (AE (IntKind.wrap .i64 (a2+(IntKind.wrap .i64 ((IntKind.wrap .i64 (2*a3))+1))))) 0),())with|none=>none|some (y12,_)=>match(!y12)with
  |true=>some (.inr (.inr (.inl (a0,()))))
  |false=>match idx a0 (IntKind.wrap .i64 (a2+(IntKind.wrap .i64 ((IntKind.wrap .i64 (2*a3))+1))))with|none=>none|some x13=>match idx a0 (IntKind.wrap .i64 (a2+a3))with|none=>none|some x14=>match idx a0 (IntKind.wrap .i64 (a2+a3))with|none=>none|some x15=>match idx (Am a0 (AE (IntKind.wrap .i64 (a2+a3))) (AM a0 (AE (IntKind.wrap .i64 (a2+(IntKind.wrap .i64 ((IntKind.wrap .i64 (2*a3))+1))))) 0)) (IntKind.wrap .i64 (a2+(IntKind.wrap .i64 ((IntKind.wrap .i64 (2*a3))+1))))with|none=>none|some x16=>some (.inl ((Am (Am a0 (AE (IntKind.wrap .i64 (a2+a3))) (AM a0 (AE (IntKind.wrap .i64 (a2+(IntKind.wrap .i64 ((IntKind.wrap .i64 (2*a3))+1))))) 0)) (AE (IntKind.wrap .i64 (a2+(IntKind.wrap .i64 ((IntKind.wrap .i64 (2*a3))+1))))) (AM a0 (AE (IntKind.wrap .i64 (a2+a3))) 0)),a1,a2,(IntKind.wrap .i64 ((IntKind.wrap .i64 (2*a3))+1)),()))
 |false=>match idx a0 (IntKind.wrap .i64 (a2+a3))with|none=>none|some x17=>match idx a0 (IntKind.wrap .i64 (a2+(IntKind.wrap .i64 ((IntKind.wrap .i64 (2*a3))+1))))with|none=>none|some x18=>match Dw ((AM a0 (AE (IntKind.wrap .i64 (a2+a3))) 0),(AM a0 (AE (IntKind.wrap .i64 (a2+(IntKind.wrap .i64 ((IntKind.wrap .i64 (2*a3))+1))))) 0),())with|none=>none|some (y19,_)=>match(!y19)with
 |true=>some (.inr (.inr (.inl (a0,()))))
 |false=>match idx a0 (IntKind.wrap .i64 (a2+(IntKind.wrap .i64 ((IntKind.wrap .i64 (2*a3))+1))))with|none=>none|some x20=>match idx a0 (IntKind.wrap .i64 (a2+a3))with|none=>none|some x21=>match idx a0 (IntKind.wrap .i64 (a2+a3))with|none=>none|some x22=>match idx (Am a0 (AE (IntKind.wrap .i64 (a2+a3))) (AM a0 (AE (IntKind.wrap .i64 (a2+(IntKind.wrap .i64 ((IntKind.wrap .i64 (2*a3))+1))))) 0)) (IntKind.wrap .i64 (a2+(IntKind.wrap .i64 ((IntKind.wrap .i64 (2*a3))+1))))with|none=>none|some x23=>some (.inl ((Am (Am a0 (AE (IntKind.wrap .i64 (a2+a3))) (AM a0 (AE (IntKind.wrap .i64 (a2+(IntKind.wrap .i64 ((IntKind.wrap .i64 (2*a3))+1))))) 0)) (AE (IntKind.wrap .i64 (a2+(IntKind.wrap .i64 ((IntKind.wrap .i64 (2*a3))+1))))) (AM a0 (AE (IntKind.wrap .i64 (a2+a3))) 0)),a1,a2,(IntKind.wrap .i64 ((IntKind.wrap .i64 (2*a3))+1)),()))
def Wt[Lk]:U7→Option (Ub):=fun(a0,a1,a2,a3,_)=>
 match AS JI many (a0,a2,a3,a1,())with|none=>none|some r=>match r with
 |.inl (o0,_)=>some (o0,())
 |.inr r=>match r with
 |.inl (o1,_)=>some (o1,())
 |.inr _=>none
def ADV[Lk]:=fun v=>Lk.f (Wt v)
theorem AJ1 v:ADV v=Wt v:=AI _
abbrev AHh:AF:=[(.tmp 0,.own 3 U0),(.tmp 1,.di),(.tmp 2,.di)]
abbrev AHg:AF:=[(.obj 0,.own 3 U0)]
abbrev AHf:List RS:=[]
abbrev AMh:AF:=[(.obj 0,.own 3 U0),(.tmp 0,.own' 0),(.tmp 6,.di),(.tmp 7,.di),(.tmp 10,.di)]
abbrev AMf:A0:=[(.exit 2,[(.obj 0,.own 3 U0)])]
def JX[Lk]:U7→Option (U7⊕Ub⊕Unit):=fun(a0,a1,a2,a3,_)=>
 match(ile 0 a3)with
 |true=>match idx a0 (IntKind.wrap .i64 (a1+a3))with|none=>none|some x0=>match idx a0 a1 with|none=>none|some x1=>match idx a0 a1 with|none=>none|some x2=>match idx (Am a0 (AE a1) (AM a0 (AE (IntKind.wrap .i64 (a1+a3))) 0)) (IntKind.wrap .i64 (a1+a3))with|none=>none|some x3=>match ADV ((Am (Am a0 (AE a1) (AM a0 (AE (IntKind.wrap .i64 (a1+a3))) 0)) (AE (IntKind.wrap .i64 (a1+a3))) (AM a0 (AE a1) 0)),a2,a3,a1,())with|none=>none|some (y4,_)=>some (.inl (y4,a1,a2,(IntKind.wrap .i64 (a3-1)),()))
 |false=>some (.inr (.inl (a0,())))
abbrev AMi:AF:=[(.obj 0,.own 3 U0),(.tmp 0,.own' 0),(.tmp 6,.di),(.tmp 7,.di),(.tmp 8,.di),(.tmp 9,.di)]
abbrev AMg:A0:=[(.exit 0,[(.obj 0,.own 3 U0),(.tmp 0,.own' 0),(.tmp 6,.di),(.tmp 7,.di),(.tmp 8,.di)])]
def JY[Lk]:Uk→Option (Uk⊕U7⊕Unit):=fun(a0,a1,a2,a3,a4,_)=>
 match(ile 0 a4)with
 |true=>match ADV (a0,a4,a3,a1,())with|none=>none|some (y0,_)=>some (.inl (y0,a1,a2,a3,(IntKind.wrap .i64 (a4-1)),()))
 |false=>some (.inr (.inl (a0,a1,a2,a3,())))
def XC[Lk]:Uc→Option (Ub):=fun(a0,a1,a2,_)=>
 match quo? .i64 (IntKind.wrap .i64 ((IntKind.wrap .i64 (a2-a1))-1)) 2 with|none=>none|some x0=>match AS JY many (a0,a1,0,(IntKind.wrap .i64 (a2-a1)),x0,())with|none=>none|some r=>match r with
 |.inl (o1,o2,o3,o4,_)=>match AS JX many (o1,o2,o3,(IntKind.wrap .i64 (o4-1)),())with|none=>none|some r=>match r with
  |.inl (o5,_)=>some (o5,())
  |.inr _=>none
 |.inr _=>none
def AEI[Lk]:=fun v=>Lk.f (XC v)
theorem AMj v:AEI v=XC v:=AI _
abbrev ABP:AF:=[(.tmp 0,.own 3 U0),(.tmp 1,.di),(.tmp 2,.di)]
abbrev ABO:AF:=[(.obj 0,.own 3 U0)]
abbrev ABN:List RS:=[]
abbrev AEd:AF:=[(.obj 0,.own 3 U0),(.tmp 0,.own' 0),(.tmp 1,.di),(.tmp 6,.di),(.tmp 7,.box 1),(.cell 1 0,.dat (.int .u64)),(.tmp 8,.dat (.int .u64)),(.tmp 9,.di)]
abbrev AEc:A0:=[(.exit 0,[(.obj 0,.own 3 U0)])]
def Fw[Lk]:Uu→Option (Uu⊕Ub⊕Unit):=fun(a0,a1,a2,a3,a4,a5,_)=>
 match quo? .i64 a2 4 with|none=>none|some x0=>match(ile a5 (IntKind.wrap .i64 ((IntKind.wrap .i64 (a1+(IntKind.wrap .i64 (x0*2))))+1)))with
 |true=>match xorNext (a3,())with|none=>none|some (y1,y2,_)=>match(ile a2 (IntKind.wrap .i64 (IntKind.wrap .u64 ((BitVec.ofInt (IntKind.bits .u64) y2 &&& BitVec.ofInt (IntKind.bits .u64) (IntKind.wrap .u64 (a4-1))).toNat))))with
  |true=>match idx a0 (IntKind.wrap .i64 (a1+(IntKind.wrap .i64 ((IntKind.wrap .i64 (IntKind.wrap .u64 ((BitVec.ofInt (IntKind.bits .u64) y2 &&& BitVec.ofInt (IntKind.bits .u64) (IntKind.wrap .u64 (a4-1))).toNat)))-a2))))with|none=>none|some x3=>match idx a0 a5 with|none=>none|some x4=>match idx a0 a5 with|none=>none|some x5=>match idx (Am a0 (AE a5) (AM a0 (AE (IntKind.wrap .i64 (a1+(IntKind.wrap .i64 ((IntKind.wrap .i64 (IntKind.wrap .u64 ((BitVec.ofInt (IntKind.bits .u64) y2 &&& BitVec.ofInt (IntKind.bits .u64) (IntKind.wrap .u64 (a4-1))).toNat)))-a2))))) 0)) (IntKind.wrap .i64 (a1+(IntKind.wrap .i64 ((IntKind.wrap .i64 (IntKind.wrap .u64 ((BitVec.ofInt (IntKind.bits .u64) y2 &&& BitVec.ofInt (IntKind.bits .u64) (IntKind.wrap .u64 (a4-1))).toNat)))-a2))))with|none=>none|some x6=>some (.inl ((Am (Am a0 (AE a5) (AM a0 (AE (IntKind.wrap .i64 (a1+(IntKind.wrap .i64 ((IntKind.wrap .i64 (IntKind.wrap .u64 ((BitVec.ofInt (IntKind.bits .u64) y2 &&& BitVec.ofInt (IntKind.bits .u64) (IntKind.wrap .u64 (a4-1))).toNat)))-a2))))) 0)) (AE (IntKind.wrap .i64 (a1+(IntKind.wrap .i64 ((IntKind.wrap .i64 (IntKind.wrap .u64 ((BitVec.ofInt (IntKind.bits .u64) y2 &&& BitVec.ofInt (IntKind.bits .u64) (IntKind.wrap .u64 (a4-1))).toNat)))-a2))))) (AM a0 (AE a5) 0)),a1,a2,y1,a4,(IntKind.wrap .i64 (a5+1)),()))
  |false=>match idx a0 (IntKind.wrap .i64 (a1+(IntKind.wrap .i64 (IntKind.wrap .u64 ((BitVec.ofInt (IntKind.bits .u64) y2 &&& BitVec.ofInt (IntKind.bits .u64) (IntKind.wrap .u64 (a4-1))).toNat)))))with|none=>none|some x7=>match idx a0 a5 with|none=>none|some x8=>match idx a0 a5 with|none=>none|some x9=>match idx (Am a0 (AE a5) (AM a0 (AE (IntKind.wrap .i64 (a1+(IntKind.wrap .i64 (IntKind.wrap .u64 ((BitVec.ofInt (IntKind.bits .u64) y2 &&& BitVec.ofInt (IntKind.bits .u64) (IntKind.wrap .u64 (a4-1))).toNat)))))) 0)) (IntKind.wrap .i64 (a1+(IntKind.wrap .i64 (IntKind.wrap .u64 ((BitVec.ofInt (IntKind.bits .u64) y2 &&& BitVec.ofInt (IntKind.bits .u64) (IntKind.wrap .u64 (a4-1))).toNat)))))with|none=>none|some x10=>some (.inl ((Am (Am a0 (AE a5) (AM a0 (AE (IntKind.wrap .i64 (a1+(IntKind.wrap .i64 (IntKind.wrap .u64 ((BitVec.ofInt (IntKind.bits .u64) y2 &&& BitVec.ofInt (IntKind.bits .u64) (IntKind.wrap .u64 (a4-1))).toNat)))))) 0)) (AE (IntKind.wrap .i64 (a1+(IntKind.wrap .i64 (IntKind.wrap .u64 ((BitVec.ofInt (IntKind.bits .u64) y2 &&& BitVec.ofInt (IntKind.bits .u64) (IntKind.wrap .u64 (a4-1))).toNat)))))) (AM a0 (AE a5) 0)),a1,a2,y1,a4,(IntKind.wrap .i64 (a5+1)),()))
 |false=>some (.inr (.inl (a0,())))
def Qu[Lk]:Uc→Option (Ub):=fun(a0,a1,a2,_)=>
 match(ile 8 (IntKind.wrap .i64 (a2-a1)))with
 |true=>match M3 ((IntKind.wrap .i64 (a2-a1)),())with|none=>none|some (y0,_)=>match quo? .i64 (IntKind.wrap .i64 (a2-a1)) 4 with|none=>none|some x1=>match AS Fw many (a0,a1,(IntKind.wrap .i64 (a2-a1)),(IntKind.wrap .u64 (IntKind.wrap .i64 (a2-a1))),y0,(IntKind.wrap .i64 ((IntKind.wrap .i64 (a1+(IntKind.wrap .i64 (x1*2))))-1)),())with|none=>none|some r=>match r with
  |.inl (o2,_)=>some (o2,())
  |.inr _=>none
 |false=>some (a0,())
def TX[Lk]:=fun v=>Lk.f (Qu v)
theorem AEe v:TX v=Qu v:=AI _
abbrev SV:AF:=[(.tmp 0,.own 3 U0),(.tmp 1,.di),(.tmp 2,.di),(.tmp 3,.box 1),(.cell 1 0,.di)]
abbrev SU:AF:=[(.obj 0,.own 3 U0),(.obj 1,.box 1),(.cell 1 0,.di),(.tmp 0,.di),(.tmp 1,.di)]
abbrev SS:List RS:=[.one,.one]
def Mx[Lk]:U7→Option (U7):=fun(a0,a1,a2,a3,_)=>
 match idx a0 a2 with|none=>none|some x0=>match idx a0 a1 with|none=>none|some x1=>match Dw ((AM a0 (AE a2) 0),(AM a0 (AE a1) 0),())with|none=>none|some (y2,_)=>match y2 with
 |true=>some (a0,(IntKind.wrap .i64 (a3+1)),a2,a1,())
 |false=>some (a0,a3,a1,a2,())
def J6[Lk]:=fun v=>Lk.f (Mx v)
theorem Zb v:J6 v=Mx v:=AI _
abbrev Sh:AF:=[(.tmp 0,.own 3 U0),(.tmp 1,.di),(.tmp 2,.di),(.tmp 3,.di),(.tmp 4,.box 1),(.cell 1 0,.di)]
abbrev Sg:AF:=[(.obj 0,.own 3 U0),(.obj 1,.box 1),(.cell 1 0,.di),(.tmp 0,.di)]
abbrev Sf:List RS:=[.one]
def M5[Lk]:Uk→Option (Uc):=fun(a0,a1,a2,a3,a4,_)=>
 match J6 (a0,a1,a2,a4,())with|none=>none|some (y0,y1,y2,y3,_)=>match J6 (y0,y3,a3,y1,())with|none=>none|some (y4,y5,y6,y7,_)=>match J6 (y4,y2,y6,y5,())with|none=>none|some (y8,y9,y10,y11,_)=>some (y8,y9,y11,())
def KD[Lk]:=fun v=>Lk.f (M5 v)
theorem Zk v:KD v=M5 v:=AI _
abbrev Sn:AF:=[(.tmp 0,.own 3 U0),(.tmp 1,.di),(.tmp 2,.box 1),(.cell 1 0,.di)]
abbrev Sm:AF:=[(.obj 0,.own 3 U0),(.obj 1,.box 1),(.cell 1 0,.di),(.tmp 0,.di)]
abbrev Sl:List RS:=[.one]
def M8[Lk]:Uc→Option (Uc):=fun(a0,a1,a2,_)=>
 match KD (a0,(IntKind.wrap .i64 (a1-1)),a1,(IntKind.wrap .i64 (a1+1)),a2,())with|none=>none|some (y0,y1,y2,_)=>some (y0,y1,y2,())
def KE[Lk]:=fun v=>Lk.f (M8 v)
theorem Zl v:KE v=M8 v:=AI _
abbrev Yu:AF:=[(.tmp 0,.own 3 U0),(.tmp 1,.di),(.tmp 2,.di)]
abbrev Yt:AF:=[(.obj 0,.own 3 U0),(.tmp 0,.di),(.tmp 1,.di)]
abbrev Ys:List RS:=[.one,.one]
def Pm[Lk]:Uc→Option (Uc):=fun(a0,a1,a2,_)=>
 match quo? .i64 (IntKind.wrap .i64 (a2-a1)) 4 with|none=>none|some x0=>match quo? .i64 (IntKind.wrap .i64 (a2-a1)) 4 with|none=>none|some x1=>match quo? .i64 (IntKind.wrap .i64 (a2-a1)) 4 with|none=>none|some x2=>match(ile 8 (IntKind.wrap .i64 (a2-a1)))with
 |true=>match(ile 50 (IntKind.wrap .i64 (a2-a1)))with
  |true=>match KE (a0,(IntKind.wrap .i64 (a1+(IntKind.wrap .i64 (x0*1)))),0,())with|none=>none|some (y3,y4,y5,_)=>match KE (y3,(IntKind.wrap .i64 (a1+(IntKind.wrap .i64 (x1*2)))),y4,())with|none=>none|some (y6,y7,y8,_)=>match KE (y6,(IntKind.wrap .i64 (a1+(IntKind.wrap .i64 (x2*3)))),y7,())with|none=>none|some (y9,y10,y11,_)=>match KD (y9,y5,y8,y11,y10,())with|none=>none|some (y12,y13,y14,_)=>match(ieq y13 0)with
   |true=>some (y12,y14,1,())
   |false=>match(ieq y13 12)with
   |true=>some (y12,y14,2,())
   |false=>some (y12,y14,0,())
  |false=>match KD (a0,(IntKind.wrap .i64 (a1+(IntKind.wrap .i64 (x0*1)))),(IntKind.wrap .i64 (a1+(IntKind.wrap .i64 (x1*2)))),(IntKind.wrap .i64 (a1+(IntKind.wrap .i64 (x2*3)))),0,())with|none=>none|some (y15,y16,y17,_)=>match(ieq y16 0)with
  |true=>some (y15,y17,1,())
  |false=>match(ieq y16 12)with
  |true=>some (y15,y17,2,())
  |false=>some (y15,y17,0,())
 |false=>match(ieq 0 0)with
 |true=>some (a0,(IntKind.wrap .i64 (a1+(IntKind.wrap .i64 (x1*2)))),1,())
 |false=>match(ieq 0 12)with
 |true=>some (a0,(IntKind.wrap .i64 (a1+(IntKind.wrap .i64 (x1*2)))),2,())
 |false=>some (a0,(IntKind.wrap .i64 (a1+(IntKind.wrap .i64 (x1*2)))),0,())
def R8[Lk]:=fun v=>Lk.f (Pm v)
theorem ADs v:R8 v=Pm v:=AI _
abbrev AO6:AF:=[(.tmp 0,.own 3 U0),(.tmp 1,.di),(.tmp 2,.di)]
abbrev AO5:AF:=[(.obj 0,.own 3 U0)]
abbrev AO4:List RS:=[]
abbrev AS2:AF:=[(.obj 0,.own 3 U0),(.tmp 0,.own' 0),(.tmp 6,.di),(.tmp 7,.di)]
abbrev AS1:A0:=[(.exit 0,[(.obj 0,.own 3 U0)])]
def Pa[Lk]:Uc→Option (Uc⊕Ub⊕Unit):=fun(a0,a1,a2,_)=>
 match(ilt a1 a2)with
 |true=>match idx a0 a2 with|none=>none|some x0=>match idx a0 a1 with|none=>none|some x1=>match idx a0 a1 with|none=>none|some x2=>match idx (Am a0 (AE a1) (AM a0 (AE a2) 0)) a2 with|none=>none|some x3=>some (.inl ((Am (Am a0 (AE a1) (AM a0 (AE a2) 0)) (AE a2) (AM a0 (AE a1) 0)),(IntKind.wrap .i64 (a1+1)),(IntKind.wrap .i64 (a2-1)),()))
 |false=>some (.inr (.inl (a0,())))
def AFt[Lk]:Uc→Option (Ub):=fun(a0,a1,a2,_)=>
 match AS Pa many (a0,a1,(IntKind.wrap .i64 (a2-1)),())with|none=>none|some r=>match r with
 |.inl (o0,_)=>some (o0,())
 |.inr _=>none
def AUy[Lk]:=fun v=>Lk.f (AFt v)
theorem AS3 v:AUy v=AFt v:=AI _
abbrev OQ:AF:=[(.tmp 0,.own 3 U0),(.tmp 1,.di),(.tmp 2,.di)]
abbrev OP:AF:=[(.obj 0,.own 3 U0),(.tmp 0,.dat .bool)]
abbrev OO:List RS:=[.one]
abbrev UY:AF:=[(.obj 0,.own 3 U0),(.tmp 0,.own' 0),(.tmp 1,.di),(.tmp 2,.di),(.tmp 7,.di),(.tmp 8,.di),(.tmp 10,.di)]
abbrev UT:A0:=[(.exit 6,[(.obj 0,.own 3 U0),(.tmp 0,.own' 0),(.tmp 1,.di),(.tmp 2,.di),(.tmp 7,.di),(.tmp 8,.di)])]
def EX[Lk]:Uu→Option (Uu⊕Uk⊕Unit):=fun(a0,a1,a2,a3,a4,a5,_)=>
 match(ilt a5 a2)with
 |true=>match idx a0 a5 with|none=>none|some x0=>match idx a0 (IntKind.wrap .i64 (a5-1))with|none=>none|some x1=>match Dw ((AM a0 (AE a5) 0),(AM a0 (AE (IntKind.wrap .i64 (a5-1))) 0),())with|none=>none|some (y2,_)=>match(!y2)with
  |true=>some (.inr (.inl (a0,a1,a2,a3,a4,())))
  |false=>match idx a0 (IntKind.wrap .i64 (a5-1))with|none=>none|some x3=>match idx a0 a5 with|none=>none|some x4=>match idx a0 a5 with|none=>none|some x5=>match idx (Am a0 (AE a5) (AM a0 (AE (IntKind.wrap .i64 (a5-1))) 0)) (IntKind.wrap .i64 (a5-1))with|none=>none|some x6=>some (.inl ((Am (Am a0 (AE a5) (AM a0 (AE (IntKind.wrap .i64 (a5-1))) 0)) (AE (IntKind.wrap .i64 (a5-1))) (AM a0 (AE a5) 0)),a1,a2,a3,a4,(IntKind.wrap .i64 (a5+1)),()))
 |false=>some (.inr (.inl (a0,a1,a2,a3,a4,())))
abbrev UZ:AF:=[(.obj 0,.own 3 U0),(.tmp 0,.own' 0),(.tmp 1,.di),(.tmp 2,.di),(.tmp 7,.di),(.tmp 8,.di),(.tmp 9,.di)]
abbrev UU:A0:=[(.exit 4,[(.obj 0,.own 3 U0),(.tmp 0,.own' 0),(.tmp 1,.di),(.tmp 2,.di),(.tmp 7,.di),(.tmp 8,.di)])]
def EY[Lk]:Uu→Option (Uu⊕Uk⊕Unit):=fun(a0,a1,a2,a3,a4,a5,_)=>
 match(ile 1 a5)with
 |true=>match idx a0 a5 with|none=>none|some x0=>match idx a0 (IntKind.wrap .i64 (a5-1))with|none=>none|some x1=>match Dw ((AM a0 (AE a5) 0),(AM a0 (AE (IntKind.wrap .i64 (a5-1))) 0),())with|none=>none|some (y2,_)=>match(!y2)with
  |true=>some (.inr (.inl (a0,a1,a2,a3,a4,())))
  |false=>match idx a0 (IntKind.wrap .i64 (a5-1))with|none=>none|some x3=>match idx a0 a5 with|none=>none|some x4=>match idx a0 a5 with|none=>none|some x5=>match idx (Am a0 (AE a5) (AM a0 (AE (IntKind.wrap .i64 (a5-1))) 0)) (IntKind.wrap .i64 (a5-1))with|none=>none|some x6=>some (.inl ((Am (Am a0 (AE a5) (AM a0 (AE (IntKind.wrap .i64 (a5-1))) 0)) (AE (IntKind.wrap .i64 (a5-1))) (AM a0 (AE a5) 0)),a1,a2,a3,a4,(IntKind.wrap .i64 (a5-1)),()))
 |false=>some (.inr (.inl (a0,a1,a2,a3,a4,())))
abbrev VA:AF:=[(.obj 0,.own 3 U0),(.tmp 0,.own' 0),(.tmp 1,.di),(.tmp 2,.di),(.tmp 7,.di),(.tmp 8,.di)]
abbrev UW:A0:=[(.exit 2,[(.obj 0,.own 3 U0),(.tmp 0,.own' 0),(.tmp 1,.di),(.tmp 2,.di),(.tmp 7,.di),(.tmp 8,.di)])]
def GO[Lk]:Uk→Option (Uk⊕Uk⊕Unit):=fun(a0,a1,a2,a3,a4,_)=>
 match(ilt a3 a2)with
 |true=>match idx a0 a3 with|none=>none|some x0=>match idx a0 (IntKind.wrap .i64 (a3-1))with|none=>none|some x1=>match Dw ((AM a0 (AE a3) 0),(AM a0 (AE (IntKind.wrap .i64 (a3-1))) 0),())with|none=>none|some (y2,_)=>match(!y2)with
  |true=>some (.inl (a0,a1,a2,(IntKind.wrap .i64 (a3+1)),a4,()))
  |false=>some (.inr (.inl (a0,a1,a2,a3,a4,())))
 |false=>some (.inr (.inl (a0,a1,a2,a3,a4,())))
abbrev VB:AF:=[(.obj 0,.own 3 U0),(.tmp 0,.own' 0),(.tmp 1,.di),(.tmp 2,.di),(.tmp 7,.di),(.tmp 8,.di)]
abbrev UX:A0:=[(.ret,[(.obj 0,.own 3 U0),(.tmp 6,.dat .bool)]),(.exit 0,[(.obj 0,.own 3 U0)])]
def CL[Lk]:Uk→Option (Uk⊕Ve⊕Ub⊕Unit):=fun(a0,a1,a2,a3,a4,_)=>
 match(ilt a4 5)with
 |true=>match AS GO many (a0,a1,a2,a3,a4,())with|none=>none|some r=>match r with
  |.inl (o0,o1,o2,o3,o4,_)=>match(ieq o3 o2)with
   |true=>some (.inr (.inl (o0,true,())))
   |false=>match(ilt (IntKind.wrap .i64 (o2-o1)) 50)with
   |true=>some (.inr (.inl (o0,false,())))
   |false=>match idx o0 (IntKind.wrap .i64 (o3-1))with|none=>none|some x5=>match idx o0 o3 with|none=>none|some x6=>match idx o0 o3 with|none=>none|some x7=>match idx (Am o0 (AE o3) (AM o0 (AE (IntKind.wrap .i64 (o3-1))) 0)) (IntKind.wrap .i64 (o3-1))with|none=>none|some x8=>match(ile 2 (IntKind.wrap .i64 (o3-o1)))with
   |true=>match AS EY many ((Am (Am o0 (AE o3) (AM o0 (AE (IntKind.wrap .i64 (o3-1))) 0)) (AE (IntKind.wrap .i64 (o3-1))) (AM o0 (AE o3) 0)),o1,o2,o3,o4,(IntKind.wrap .i64 (o3-1)),())with|none=>none|some r=>match r with
    |.inl (o9,o10,o11,o12,o13,_)=>match(ile 2 (IntKind.wrap .i64 (o11-o12)))with
     |true=>match AS EX many (o9,o10,o11,o12,o13,(IntKind.wrap .i64 (o12+1)),())with|none=>none|some r=>match r with
      |.inl (o14,o15,o16,o17,o18,_)=>some (.inl (o14,o15,o16,o17,(IntKind.wrap .i64 (o18+1)),()))
      |.inr _=>none
     |false=>some (.inl (o9,o10,o11,o12,(IntKind.wrap .i64 (o13+1)),()))
    |.inr _=>none
   |false=>match(ile 2 (IntKind.wrap .i64 (o2-o3)))with
   |true=>match AS EX many ((Am (Am o0 (AE o3) (AM o0 (AE (IntKind.wrap .i64 (o3-1))) 0)) (AE (IntKind.wrap .i64 (o3-1))) (AM o0 (AE o3) 0)),o1,o2,o3,o4,(IntKind.wrap .i64 (o3+1)),())with|none=>none|some r=>match r with
    |.inl (o19,o20,o21,o22,o23,_)=>some (.inl (o19,o20,o21,o22,(IntKind.wrap .i64 (o23+1)),()))
    |.inr _=>none
   |false=>some (.inl ((Am (Am o0 (AE o3) (AM o0 (AE (IntKind.wrap .i64 (o3-1))) 0)) (AE (IntKind.wrap .i64 (o3-1))) (AM o0 (AE o3) 0)),o1,o2,o3,(IntKind.wrap .i64 (o4+1)),()))
  |.inr _=>none
 |false=>some (.inr (.inr (.inl (a0,()))))
def J1[Lk]:Uc→Option (Ve):=fun(a0,a1,a2,_)=>
 match AS CL many (a0,a1,a2,(IntKind.wrap .i64 (a1+1)),0,())with|none=>none|some r=>match r with
 |.inl (o0,o1,_)=>some (o0,o1,())
 |.inr r=>match r with
 |.inl (o2,_)=>some (o2,false,())
 |.inr _=>none
def JO[Lk]:=fun v=>Lk.f (J1 v)
theorem VC v:JO v=J1 v:=AI _
abbrev SN:AF:=[(.tmp 0,.own 3 U0),(.tmp 1,.di),(.tmp 2,.di),(.tmp 3,.di)]
abbrev SM:AF:=[(.obj 0,.own 3 U0),(.tmp 0,.di)]
abbrev SK:List RS:=[.one]
abbrev ZW:AF:=[(.obj 0,.own 3 U0),(.tmp 0,.own' 0),(.tmp 1,.di),(.tmp 9,.di),(.tmp 10,.di)]
abbrev ZT:A0:=[(.exit 4,[(.obj 0,.own 3 U0),(.tmp 0,.own' 0),(.tmp 1,.di),(.tmp 9,.di),(.tmp 10,.di)])]
def Hl[Lk]:U7→Option Vh:=fun(a0,a1,a2,a3,_)=>
 match(ile a2 a3)with
 |true=>match idx a0 a1 with|none=>none|some x0=>match idx a0 a3 with|none=>none|some x1=>match Dw ((AM a0 (AE a1) 0),(AM a0 (AE a3) 0),())with|none=>none|some (y2,_)=>match y2 with
  |true=>some (.inl (a0,a1,a2,(IntKind.wrap .i64 (a3-1)),()))
  |false=>some (.inr (.inl (a0,a1,a2,a3,())))
 |false=>some (.inr (.inl (a0,a1,a2,a3,())))
abbrev ZX:AF:=[(.obj 0,.own 3 U0),(.tmp 0,.own' 0),(.tmp 1,.di),(.tmp 9,.di),(.tmp 10,.di)]
abbrev ZU:A0:=[(.exit 2,[(.obj 0,.own 3 U0),(.tmp 0,.own' 0),(.tmp 1,.di),(.tmp 9,.di),(.tmp 10,.di)])]
def Hm[Lk]:U7→Option Vh:=fun(a0,a1,a2,a3,_)=>
 match(ile a2 a3)with
 |true=>match idx a0 a1 with|none=>none|some x0=>match idx a0 a2 with|none=>none|some x1=>match Dw ((AM a0 (AE a1) 0),(AM a0 (AE a2) 0),())with|none=>none|some (y2,_)=>match(!y2)with
  |true=>some (.inl (a0,a1,(IntKind.wrap .i64 (a2+1)),a3,()))
  |false=>some (.inr (.inl (a0,a1,a2,a3,())))
 |false=>some (.inr (.inl (a0,a1,a2,a3,())))
abbrev ZY:AF:=[(.obj 0,.own 3 U0),(.tmp 0,.own' 0),(.tmp 1,.di),(.tmp 9,.di),(.tmp 10,.di)]
abbrev ZV:A0:=[(.exit 0,[(.obj 0,.own 3 U0),(.tmp 9,.di)])]
def Hn[Lk]:U7→Option (U7⊕Up⊕Unit):=fun(a0,a1,a2,a3,_)=>
 match AS Hm many (a0,a1,a2,a3,())with|none=>none|some r=>match r with
 |.inl (o0,o1,o2,o3,_)=>match AS Hl many (o0,o1,o2,o3,())with|none=>none|some r=>match r with
  |.inl (o4,o5,o6,o7,_)=>match(ilt o7 o6)with
   |true=>some (.inr (.inl (o4,o6,())))
   |false=>match idx o4 o7 with|none=>none|some x8=>match idx o4 o6 with|none=>none|some x9=>match idx o4 o6 with|none=>none|some x10=>match idx (Am o4 (AE o6) (AM o4 (AE o7) 0)) o7 with|none=>none|some x11=>some (.inl ((Am (Am o4 (AE o6) (AM o4 (AE o7) 0)) (AE o7) (AM o4 (AE o6) 0)),o5,(IntKind.wrap .i64 (o6+1)),(IntKind.wrap .i64 (o7-1)),()))
  |.inr _=>none
 |.inr _=>none
def Mu[Lk]:U7→Option (Up):=fun(a0,a1,a2,a3,_)=>
 match idx a0 a3 with|none=>none|some x0=>match idx a0 a1 with|none=>none|some x1=>match idx a0 a1 with|none=>none|some x2=>match idx (Am a0 (AE a1) (AM a0 (AE a3) 0)) a3 with|none=>none|some x3=>match AS Hn many ((Am (Am a0 (AE a1) (AM a0 (AE a3) 0)) (AE a3) (AM a0 (AE a1) 0)),a1,(IntKind.wrap .i64 (a1+1)),(IntKind.wrap .i64 (a2-1)),())with|none=>none|some r=>match r with
 |.inl (o4,o5,_)=>some (o4,o5,())
 |.inr _=>none
def Mv[Lk]:=fun v=>Lk.f (Mu v)
theorem ZZ v:Mv v=Mu v:=AI _
abbrev AGd:AF:=[(.tmp 0,.own 3 U0),(.tmp 1,.di),(.tmp 2,.di),(.tmp 3,.di)]
abbrev AGc:AF:=[(.obj 0,.own 3 U0),(.tmp 0,.di),(.tmp 1,.dat .bool)]
abbrev AGb:List RS:=[.one,.one]
abbrev ALZ:AF:=[(.obj 0,.own 3 U0),(.tmp 0,.own' 0),(.tmp 1,.di),(.tmp 10,.di),(.tmp 11,.di)]
abbrev ALU:A0:=[(.exit 8,[(.obj 0,.own 3 U0),(.tmp 0,.own' 0),(.tmp 1,.di),(.tmp 10,.di),(.tmp 11,.di)])]
def Lf[Lk]:U7→Option Vh:=fun(a0,a1,a2,a3,_)=>
 match(ile a2 a3)with
 |true=>match idx a0 a3 with|none=>none|some x0=>match idx a0 a1 with|none=>none|some x1=>match Dw ((AM a0 (AE a3) 0),(AM a0 (AE a1) 0),())with|none=>none|some (y2,_)=>match(!y2)with
  |true=>some (.inl (a0,a1,a2,(IntKind.wrap .i64 (a3-1)),()))
  |false=>some (.inr (.inl (a0,a1,a2,a3,())))
 |false=>some (.inr (.inl (a0,a1,a2,a3,())))
abbrev ALa:AF:=[(.obj 0,.own 3 U0),(.tmp 0,.own' 0),(.tmp 1,.di),(.tmp 10,.di),(.tmp 11,.di)]
abbrev ALV:A0:=[(.exit 6,[(.obj 0,.own 3 U0),(.tmp 0,.own' 0),(.tmp 1,.di),(.tmp 10,.di),(.tmp 11,.di)])]
def Lg[Lk]:U7→Option Vh:=fun(a0,a1,a2,a3,_)=>
 match(ile a2 a3)with
 |true=>match idx a0 a2 with|none=>none|some x0=>match idx a0 a1 with|none=>none|some x1=>match Dw ((AM a0 (AE a2) 0),(AM a0 (AE a1) 0),())with|none=>none|some (y2,_)=>match y2 with
  |true=>some (.inl (a0,a1,(IntKind.wrap .i64 (a2+1)),a3,()))
  |false=>some (.inr (.inl (a0,a1,a2,a3,())))
 |false=>some (.inr (.inl (a0,a1,a2,a3,())))
abbrev ALb:AF:=[(.obj 0,.own 3 U0),(.tmp 0,.own' 0),(.tmp 1,.di),(.tmp 10,.di),(.tmp 11,.di)]
abbrev ALW:A0:=[(.exit 4,[(.obj 0,.own 3 U0),(.tmp 0,.own' 0),(.tmp 1,.di),(.tmp 11,.di)])]
def Lh[Lk]:U7→Option (U7⊕Uc⊕Unit):=fun(a0,a1,a2,a3,_)=>
 match AS Lg many (a0,a1,a2,a3,())with|none=>none|some r=>match r with
 |.inl (o0,o1,o2,o3,_)=>match AS Lf many (o0,o1,o2,o3,())with|none=>none|some r=>match r with
  |.inl (o4,o5,o6,o7,_)=>match(ilt o7 o6)with
   |true=>some (.inr (.inl (o4,o5,o7,())))
   |false=>match idx o4 o7 with|none=>none|some x8=>match idx o4 o6 with|none=>none|some x9=>match idx o4 o6 with|none=>none|some x10=>match idx (Am o4 (AE o6) (AM o4 (AE o7) 0)) o7 with|none=>none|some x11=>some (.inl ((Am (Am o4 (AE o6) (AM o4 (AE o7) 0)) (AE o7) (AM o4 (AE o6) 0)),o5,(IntKind.wrap .i64 (o6+1)),(IntKind.wrap .i64 (o7-1)),()))
  |.inr _=>none
 |.inr _=>none
abbrev ALc:AF:=[(.obj 0,.own 3 U0),(.tmp 0,.own' 0),(.tmp 1,.di),(.tmp 10,.di),(.tmp 11,.di)]
abbrev ALX:A0:=[(.exit 2,[(.obj 0,.own 3 U0),(.tmp 0,.own' 0),(.tmp 1,.di),(.tmp 10,.di),(.tmp 11,.di)])]
def Li[Lk]:U7→Option Vh:=fun(a0,a1,a2,a3,_)=>
 match(ile a2 a3)with
 |true=>match idx a0 a3 with|none=>none|some x0=>match idx a0 a1 with|none=>none|some x1=>match Dw ((AM a0 (AE a3) 0),(AM a0 (AE a1) 0),())with|none=>none|some (y2,_)=>match(!y2)with
  |true=>some (.inl (a0,a1,a2,(IntKind.wrap .i64 (a3-1)),()))
  |false=>some (.inr (.inl (a0,a1,a2,a3,())))
 |false=>some (.inr (.inl (a0,a1,a2,a3,())))
abbrev ALd:AF:=[(.obj 0,.own 3 U0),(.tmp 0,.own' 0),(.tmp 1,.di),(.tmp 10,.di),(.tmp 11,.di)]
abbrev ALY:A0:=[(.exit 0,[(.obj 0,.own 3 U0),(.tmp 0,.own' 0),(.tmp 1,.di),(.tmp 10,.di),(.tmp 11,.di)])]
def Lj[Lk]:U7→Option Vh:=fun(a0,a1,a2,a3,_)=>
 match(ile a2 a3)with
 |true=>match idx a0 a2 with|none=>none|some x0=>match idx a0 a1 with|none=>none|some x1=>match Dw ((AM a0 (AE a2) 0),(AM a0 (AE a1) 0),())with|none=>none|some (y2,_)=>match y2 with
  |true=>some (.inl (a0,a1,(IntKind.wrap .i64 (a2+1)),a3,()))
  |false=>some (.inr (.inl (a0,a1,a2,a3,())))
 |false=>some (.inr (.inl (a0,a1,a2,a3,())))
def W1[Lk]:U7→Option ((List Int×Int×Bool×Unit)):=fun(a0,a1,a2,a3,_)=>
 match idx a0 a3 with|none=>none|some x0=>match idx a0 a1 with|none=>none|some x1=>match idx a0 a1 with|none=>none|some x2=>match idx (Am a0 (AE a1) (AM a0 (AE a3) 0)) a3 with|none=>none|some x3=>match AS Lj many ((Am (Am a0 (AE a1) (AM a0 (AE a3) 0)) (AE a3) (AM a0 (AE a1) 0)),a1,(IntKind.wrap .i64 (a1+1)),(IntKind.wrap .i64 (a2-1)),())with|none=>none|some r=>match r with
 |.inl (o4,o5,o6,o7,_)=>match AS Li many (o4,o5,o6,o7,())with|none=>none|some r=>match r with
  |.inl (o8,o9,o10,o11,_)=>match(ilt o11 o10)with
   |true=>match idx o8 o9 with|none=>none|some x12=>match idx o8 o11 with|none=>none|some x13=>match idx o8 o11 with|none=>none|some x14=>match idx (Am o8 (AE o11) (AM o8 (AE o9) 0)) o9 with|none=>none|some x15=>some ((Am (Am o8 (AE o11) (AM o8 (AE o9) 0)) (AE o9) (AM o8 (AE o11) 0)),o11,true,())
   |false=>match idx o8 o11 with|none=>none|some x16=>match idx o8 o10 with|none=>none|some x17=>match idx o8 o10 with|none=>none|some x18=>match idx (Am o8 (AE o10) (AM o8 (AE o11) 0)) o11 with|none=>none|some x19=>match AS Lh many ((Am (Am o8 (AE o10) (AM o8 (AE o11) 0)) (AE o11) (AM o8 (AE o10) 0)),o9,(IntKind.wrap .i64 (o10+1)),(IntKind.wrap .i64 (o11-1)),())with|none=>none|some r=>match r with
   |.inl (o20,o21,o22,_)=>match idx o20 o21 with|none=>none|some x23=>match idx o20 o22 with|none=>none|some x24=>match idx o20 o22 with|none=>none|some x25=>match idx (Am o20 (AE o22) (AM o20 (AE o21) 0)) o21 with|none=>none|some x26=>some ((Am (Am o20 (AE o22) (AM o20 (AE o21) 0)) (AE o21) (AM o20 (AE o22) 0)),o22,false,())
   |.inr _=>none
  |.inr _=>none
 |.inr _=>none
def Pt[Lk]:=fun v=>Lk.f (W1 v)
theorem ALe v:Pt v=W1 v:=AI _
abbrev Y8:AF:=[(.tmp 0,.own 3 U0),(.tmp 1,.di),(.tmp 2,.di),(.tmp 3,.di)]
abbrev Y7:AF:=[(.obj 0,.own 3 U0)]
abbrev Y6:List RS:=[]
abbrev ATE:AF:=[(.obj 0,.own 3 U0),(.tmp 0,.own' 0),(.tmp 1,.di),(.tmp 2,.di),(.tmp 3,.di),(.tmp 8,.dat .bool),(.tmp 9,.dat .bool)]
abbrev ATD:A0:=[(.ret,[(.obj 0,.own 3 U0)])]
def AGN[Lk](self:U7→Option (Ub))(y7:List Int)(a1 a2 p l:Int)(a4 a5:Bool):Option (V0⊕Ub⊕Unit):=
 match(ilt 0 a1)with
 |true=>match idx y7 (IntKind.wrap .i64 (a1-1))with|none=>none|some x9=>match idx y7 p with|none=>none|some x10=>match Dw ((AM y7 (AE (IntKind.wrap .i64 (a1-1))) 0),(AM y7 (AE p) 0),())with|none=>none|some (y11,_)=>match(!y11)with
  |true=>match Mv (y7,a1,a2,p,())with|none=>none|some (y12,y13,_)=>some (.inl (y12,y13,a2,l,a4,a5,()))
  |false=>match Pt (y7,a1,a2,p,())with|none=>none|some (y14,y15,y16,_)=>match quo? .i64 (IntKind.wrap .i64 (a2-a1)) 8 with|none=>none|some x17=>match(ilt (IntKind.wrap .i64 (y15-a1)) (IntKind.wrap .i64 (a2-y15)))with
  |true=>match self (y14,a1,y15,l,())with|none=>none|some (y18,_)=>some (.inl (y18,(IntKind.wrap .i64 (y15+1)),a2,l,(ile x17 (IntKind.wrap .i64 (y15-a1))),y16,()))
  |false=>match self (y14,(IntKind.wrap .i64 (y15+1)),a2,l,())with|none=>none|some (y19,_)=>some (.inl (y19,a1,y15,l,(ile x17 (IntKind.wrap .i64 (a2-y15))),y16,()))
 |false=>match Pt (y7,a1,a2,p,())with|none=>none|some (y20,y21,y22,_)=>match quo? .i64 (IntKind.wrap .i64 (a2-a1)) 8 with|none=>none|some x23=>match(ilt (IntKind.wrap .i64 (y21-a1)) (IntKind.wrap .i64 (a2-y21)))with
 |true=>match self (y20,a1,y21,l,())with|none=>none|some (y24,_)=>some (.inl (y24,(IntKind.wrap .i64 (y21+1)),a2,l,(ile x23 (IntKind.wrap .i64 (y21-a1))),y22,()))
 |false=>match self (y20,(IntKind.wrap .i64 (y21+1)),a2,l,())with|none=>none|some (y25,_)=>some (.inl (y25,a1,y21,l,(ile x23 (IntKind.wrap .i64 (a2-y21))),y22,()))
def AZC[Lk](self:U7→Option (Ub))(y6:List Int)(a1 a2 p h l:Int)(a4 a5:Bool):Option (V0⊕Ub⊕Unit):=
 match a4 with
 |true=>match a5 with
  |true=>match(ieq h 1)with
   |true=>match JO (y6,a1,a2,())with|none=>none|some (y7,y8,_)=>match y8 with
    |true=>some (.inr (.inl (y7,())))
    |false=>AGN self y7 a1 a2 p l a4 a5
   |false=>AGN self y6 a1 a2 p l a4 a5
  |false=>AGN self y6 a1 a2 p l a4 a5
 |false=>AGN self y6 a1 a2 p l a4 a5
def AZB[Lk](self:U7→Option (Ub))(y2:List Int)(a1 a2 l:Int)(a4 a5:Bool):Option (V0⊕Ub⊕Unit):=
 match R8 (y2,a1,a2,())with|none=>none|some (y3,y4,y5,_)=>match(ieq y5 2)with
 |true=>match AUy (y3,a1,a2,())with|none=>none|some (y6,_)=>AZC self y6 a1 a2 (IntKind.wrap .i64 ((IntKind.wrap .i64 (a2-1))-(IntKind.wrap .i64 (y4-a1)))) 1 l a4 a5
 |false=>AZC self y3 a1 a2 y4 y5 l a4 a5
def Mt[Lk](self:U7→Option (Ub)):V0→Option (V0⊕Ub⊕Unit):=fun(a0,a1,a2,a3,a4,a5,_)=>
 match(ile (IntKind.wrap .i64 (a2-a1)) 12)with
 |true=>match AWN (a0,a1,a2,())with|none=>none|some (y0,_)=>some (.inr (.inl (y0,())))
 |false=>match(ieq a3 0)with
 |true=>match AEI (a0,a1,a2,())with|none=>none|some (y1,_)=>some (.inr (.inl (y1,())))
 |false=>match(!a4)with
 |true=>match TX (a0,a1,a2,())with|none=>none|some (y2,_)=>AZB self y2 a1 a2 (IntKind.wrap .i64 (a3-1)) a4 a5
 |false=>AZB self a0 a1 a2 a3 a4 a5
def AGO[Lk](self:U7→Option (Ub)):U7→Option (Ub):=fun(a0,a1,a2,a3,_)=>
 match AS (Mt self) many (a0,a1,a2,a3,true,true,())with|none=>none|some r=>match r with
 |.inl (o0,_)=>some (o0,())
 |.inr _=>none
def Hk[Lk]:Nat→U7→Option (Ub)
 |0,_=>none
 |n+1,v=>AGO (Hk n) v
def AVJ[Lk]:=fun v=>Lk.f (Hk 100 v)
theorem ATF v:AVJ v=Hk 100 v:=AI _
abbrev AFZ:AF:=[(.tmp 0,.own 3 U0)]
abbrev AFY:AF:=[(.obj 0,.own 3 U0)]
abbrev AFX:List RS:=[]
def Wr[Lk]:Ub→Option (Ub):=fun(a0,_)=>
 match bitsLen ((IntKind.wrap .u64 (AO a0)),())with|none=>none|some (y0,_)=>match AVJ (a0,0,(AO a0),y0,())with|none=>none|some (y1,_)=>some (y1,())
def AJs[Lk]:=fun v=>Lk.f (Wr v)
theorem AJr v:AJs v=Wr v:=AI _
end
end Go.Pev
end
section
namespace Go.Pev
noncomputable section
attribute [local irreducible] MA JB Ng Kv AWT AWU AWV Pc WH WC X1 JD AQ many IntKind.wrap AO Am AM A4 Bi DR Je AE BV Bt imax AT Af
abbrev ARI:AF:=[(.tmp 0,.dat Ua),(.tmp 1,.di)]
abbrev ARH:AF:=[(.tmp 0,.dat .bool)]
abbrev ARG:List RS:=[.one]
def AHY[Lk]:(Ue×Int×Unit)→Option (Ug):=fun(a0,a1,_)=>
 match(ile 0 a1)with
 |true=>some ((ilt a1 a0.1),())
 |false=>some (false,())
def ACl[Lk]:=fun v=>Lk.f (AHY v)
theorem ATj v:ACl v=AHY v:=AI _
abbrev AAV:AF:=[(.tmp 0,.dat Ua),(.tmp 1,.dat Ut)]
abbrev AAU:AF:=[(.tmp 0,.own 42 U5),(.tmp 1,.di)]
abbrev AAT:List RS:=[.one,.one]
abbrev AEM:AF:=[(.tmp 7,.own 42 U5),(.tmp 8,.own 42 U5),(.tmp 9,.own 42 U5),(.tmp 10,.di)]
abbrev AEK:A0:=[(.exit 2,[(.tmp 9,.own 42 U5)])]
def Fj[Lk]:(List U3×List U3×List U3×Int×Unit)→Option ((List U3×List U3×List U3×Int×Unit)⊕V2⊕Unit):=fun(a0,a1,a2,a3,_)=>
 match(ilt a3 (AO a1))with
 |true=>match idx a1 a3 with|none=>none|some x0=>match AAR (a0,((AM a1 (AE a3) (0,(0,()))).1,((AM a1 (AE a3) (0,(0,()))).2.1,())),())with|none=>none|some (y1,_)=>match y1 with
  |true=>match idx a1 a3 with|none=>none|some x2=>match(fits ((AO a2)+(AO ([((AM a1 (AE a3) (0,(0,()))).1,((AM a1 (AE a3) (0,(0,()))).2.1,()))]:List U3))))with
   |true=>some (.inl (a0,a1,(A4 a2 ([((AM a1 (AE a3) (0,(0,()))).1,((AM a1 (AE a3) (0,(0,()))).2.1,()))]:List U3)),(IntKind.wrap .i64 (a3+1)),()))
   |false=>none
  |false=>some (.inl (a0,a1,a2,(IntKind.wrap .i64 (a3+1)),()))
 |false=>some (.inr (.inl (a2,())))
abbrev AEN:AF:=[(.tmp 1,.dat Ut),(.tmp 2,.box 2),(.cell 0 0,.di),(.cell 0 1,.dat Ur),(.tmp 6,.di)]
abbrev AEL:A0:=[(.ret,[(.tmp 4,.nil U5),(.tmp 5,.di)]),(.exit 0,[(.tmp 1,.dat Ut),(.tmp 2,.box 2),(.cell 0 0,.di),(.cell 0 1,.dat Ur)])]
def Fk[Lk]:(List U3×Int×List U2×Int×Unit)→Option ((List U3×Int×List U2×Int×Unit)⊕U9⊕(List U3×Int×List U2×Unit)⊕Unit):=fun(a0,a1,a2,a3,_)=>
 match(ilt a3 (AO a0))with
 |true=>match idx a0 a3 with|none=>none|some x0=>match ACl ((a1,(a2,())),x0.1,())with|none=>none|some (y1,_)=>match(!y1)with
  |true=>some (.inr (.inl (10,())))
  |false=>match idx a0 a3 with|none=>none|some x2=>match ACl ((a1,(a2,())),x2.2.1,())with|none=>none|some (y3,_)=>match(!y3)with
  |true=>some (.inr (.inl (10,())))
  |false=>some (.inl (a0,a1,a2,(IntKind.wrap .i64 (a3+1)),()))
 |false=>some (.inr (.inr (.inl (a0,a1,a2,()))))
def L8[Lk]:(Ue×List U3×Unit)→Option ((List U3×Int×Unit)):=fun(a0,a1,_)=>
 match Cn ((a0.1,(a0.2.1,())),())with|none=>none|some (y0,_)=>match(!y0)with
 |true=>some (([]:List U3),1,())
 |false=>match AS Fk many (a1,a0.1,a0.2.1,0,())with|none=>none|some r=>match r with
 |.inl (o1,_)=>some (([]:List U3),o1,())
 |.inr r=>match r with
 |.inl (o2,o3,o4,_)=>match Qe ((o3,(o4,())),())with|none=>none|some (y5,_)=>match Pj (o3,o2,())with|none=>none|some (y6,_)=>match AS Fj many (y5,y6,([]:List U3),0,())with|none=>none|some r=>match r with
  |.inl (o7,_)=>some (o7,0,())
  |.inr _=>none
 |.inr _=>none
def TB[Lk]:=fun v=>Lk.f (L8 v)
theorem TA v:TB v=L8 v:=AI _
abbrev Lp:AF:=[(.tmp 0,.dat Ua),(.tmp 1,.di),(.tmp 2,.di)]
abbrev Lo:AF:=[(.tmp 0,.own 3 U0)]
abbrev Ln:List RS:=[.one]
abbrev P7:AF:=[(.tmp 1,.di),(.tmp 3,.box 2),(.cell 0 0,.di),(.cell 0 1,.dat Ur),(.tmp 7,.own 3 U0),(.tmp 8,.own 3 U0),(.tmp 9,.di)]
abbrev P6:A0:=[(.exit 0,[(.tmp 8,.own 3 U0)])]
def Cq[Lk]:(Int×Int×List U2×List Int×List Int×Int×Unit)→Option ((Int×Int×List U2×List Int×List Int×Int×Unit)⊕Ub⊕Unit):=fun(a0,a1,a2,a3,a4,a5,_)=>
 match(ilt a5 a1)with
 |true=>match idx a3 a5 with|none=>none|some x0=>match idx a3 a0 with|none=>none|some x1=>match(ieq (AM a3 (AE a5) 0) (AM a3 (AE a0) 0))with
  |true=>match(fits ((AO a4)+(AO ([a5]:List (Int)))))with
   |true=>some (.inl (a0,a1,a2,a3,(A4 a4 ([a5]:List (Int))),(IntKind.wrap .i64 (a5+1)),()))
   |false=>none
  |false=>some (.inl (a0,a1,a2,a3,a4,(IntKind.wrap .i64 (a5+1)),()))
 |false=>some (.inr (.inl (a4,())))
def Ib[Lk]:V5→Option (Ub):=fun(a0,a1,a2,_)=>
 match Mh ((a0.1,(a0.2.1,())),a2,())with|none=>none|some (y0,_)=>match Ft (a0.1,y0,())with|none=>none|some (y1,_)=>match AS Cq many (a1,a0.1,a0.2.1,y1,([]:List (Int)),0,())with|none=>none|some r=>match r with
 |.inl (o2,_)=>some (o2,())
 |.inr _=>none
def HH[Lk]:=fun v=>Lk.f (Ib v)
theorem P8 v:HH v=Ib v:=AI _
abbrev AHl:AF:=[(.tmp 0,.dat U6),(.tmp 1,.di)]
abbrev AHk:AF:=[(.tmp 0,.dat .bool)]
abbrev AHj:List RS:=[.one]
abbrev AMp:AF:=[(.tmp 0,.dat U6),(.tmp 1,.di),(.tmp 5,.di)]
abbrev AMo:A0:=[(.ret,[(.tmp 4,.dat .bool)]),(.exit 0,[])]
def H3[Lk]:Uc→Option (Uc⊕Ug⊕(Unit)⊕Unit):=fun(a0,a1,a2,_)=>
 match(ilt a2 (AO a0))with
 |true=>match idx a0 a2 with|none=>none|some x0=>match(ieq x0 a1)with
  |true=>some (.inr (.inl (true,())))
  |false=>some (.inl (a0,a1,(IntKind.wrap .i64 (a2+1)),()))
 |false=>some (.inr (.inr (.inl ())))
def XE[Lk]:Up→Option (Ug):=fun(a0,a1,_)=>
 match AS H3 many (a0,a1,0,())with|none=>none|some r=>match r with
 |.inl (o0,_)=>some (o0,())
 |.inr r=>match r with
 |.inl _=>some (false,())
 |.inr _=>none
def JZ[Lk]:=fun v=>Lk.f (XE v)
theorem AMq v:JZ v=XE v:=AI _
abbrev X0:AF:=[(.tmp 0,.dat Ua),(.tmp 1,.di),(.tmp 2,.di),(.tmp 3,.di)]
abbrev Xz:AF:=[(.tmp 0,.own 3 U0),(.tmp 1,.di)]
abbrev Xy:List RS:=[.one,.one]
def JJ[Lk]:(Ue×Int×Int×Int×Unit)→Option (Up):=fun(a0,a1,a2,a3,_)=>
 match Cn ((a0.1,(a0.2.1,())),())with|none=>none|some (y0,_)=>match(!y0)with
 |true=>some (([]:List (Int)),1,())
 |false=>match ACl ((a0.1,(a0.2.1,())),a1,())with|none=>none|some (y1,_)=>match(!y1)with
 |true=>some (([]:List (Int)),10,())
 |false=>match ACl ((a0.1,(a0.2.1,())),a2,())with|none=>none|some (y2,_)=>match(!y2)with
 |true=>some (([]:List (Int)),10,())
 |false=>match HH ((a0.1,(a0.2.1,())),a1,a3,())with|none=>none|some (y3,_)=>match HH ((a0.1,(a0.2.1,())),a2,a3,())with|none=>none|some (y4,_)=>match JZ (y3,a2,())with|none=>none|some (y5,_)=>match y5 with
 |true=>some (([]:List (Int)),5,())
 |false=>match(ilt (AO y3) (AO y4))with
 |true=>some (y3,0,())
 |false=>match(ieq (AO y3) (AO y4))with
 |true=>match idx y3 0 with|none=>none|some x6=>match idx y4 0 with|none=>none|some x7=>match(ilt (AM y3 0 0) (AM y4 0 0))with
  |true=>some (y3,0,())
  |false=>some (y4,0,())
 |false=>some (y4,0,())
def OD[Lk]:=fun v=>Lk.f (JJ v)
theorem Ml v:OD v=JJ v:=AI _
abbrev AGr:AF:=[(.tmp 0,.dat Ua),(.tmp 1,.di),(.tmp 2,.di)]
abbrev AGq:AF:=[(.tmp 0,.di),(.tmp 1,.dat Ur),(.tmp 2,.dat Us),(.tmp 3,.di)]
abbrev AGo:List RS:=[.agg 2,.one,.one]
abbrev ALx:AF:=[(.tmp 6,.box 2),(.cell 0 0,.di),(.cell 0 1,.nil U1),(.tmp 7,.box 5),(.cell 1 0,.dat .bool),(.cell 1 1,.dat .bool),(.cell 1 2,.di),(.cell 1 3,.di),(.cell 1 4,.di),(.tmp 10,.box 4),(.cell 2 0,.di),(.cell 2 1,.di),(.cell 2 2,.di),(.cell 2 3,.dat .bool),(.tmp 11,.box 2),(.cell 3 0,.di),(.cell 3 1,.own 44 U1),(.tmp 12,.box 5),(.cell 5 0,.dat .bool),(.cell 5 1,.dat .bool),(.cell 5 2,.di),(.cell 5 3,.di),(.cell 5 4,.di),(.tmp 13,.di),(.tmp 14,.di),(.tmp 15,.own 3 U0),(.tmp 19,.di),(.tmp 79,.ptr' 2 3),(.tmp 80,.dat .bool)]
abbrev ALu:A0:=[(.ret,[(.tmp 6,.box 2),(.cell 0 0,.di),(.cell 0 1,.own 44 U1),(.tmp 7,.box 5),(.cell 2 0,.dat .bool),(.cell 2 1,.dat .bool),(.cell 2 2,.di),(.cell 2 3,.di),(.cell 2 4,.di),(.tmp 8,.di)]),(.exit 5,[(.tmp 6,.box 2),(.cell 0 0,.di),(.cell 0 1,.nil U1),(.tmp 7,.box 5),(.cell 1 0,.dat .bool),(.cell 1 1,.dat .bool),(.cell 1 2,.di),(.cell 1 3,.di),(.cell 1 4,.di),(.tmp 10,.box 4),(.cell 2 0,.di),(.cell 2 1,.di),(.cell 2 2,.di),(.cell 2 3,.dat .bool),(.tmp 11,.box 2),(.cell 3 0,.di),(.cell 3 1,.own 44 U1),(.tmp 12,.box 5),(.cell 5 0,.dat .bool),(.cell 5 1,.dat .bool),(.cell 5 2,.di),(.cell 5 3,.di),(.cell 5 4,.di),(.tmp 13,.di),(.tmp 14,.di),(.tmp 79,.ptr' 2 3),(.tmp 80,.dat .bool)])]
def GU[Lk]:Uf→Option (Uf⊕V8⊕(Int×Bool×Bool×Int×Int×Int×Int×Int×Int×Bool×Int×List U2×Bool×Bool×Int×Int×Int×Int×Int×Bool×Unit)⊕Unit):=fun(a0,a1,a2,a3,a4,a5,a6,a7,a8,a9,a10,a11,a12,a13,a14,a15,a16,a17,a18,a19,a20,a21,_)=>
 match(ilt a20 (AO a11))with
 |true=>match idx a11 a20 with|none=>none|some x0=>match(AM a11 (AE a20) (0,(0,(0,(false,()))))).2.2.2.1 with
  |true=>some (.inl (a0,a1,a2,a3,a4,a5,a6,a7,a8,a9,a10,a11,a12,a13,a14,a15,a16,a17,a18,a19,(IntKind.wrap .i64 (a20+1)),a21,()))
  |false=>match(!(ieq (AM a11 (AE a20) (0,(0,(0,(false,()))))).2.2.1 a18))with
  |true=>some (.inl (a0,a1,a2,a3,a4,a5,a6,a7,a8,a9,a10,a11,a12,a13,a14,a15,a16,a17,a18,a19,(IntKind.wrap .i64 (a20+1)),a21,()))
  |false=>match JZ (a19,(AM a11 (AE a20) (0,(0,(0,(false,()))))).1,())with|none=>none|some (y1,_)=>match y1 with
  |true=>match JZ (a19,(AM a11 (AE a20) (0,(0,(0,(false,()))))).2.1,())with|none=>none|some (y2,_)=>match y2 with
   |true=>match idx a11 a20 with|none=>none|some x3=>some (.inl (a0,a1,a2,a3,a4,a5,a6,a7,a8,a9,a10,(Am a11 (AE a20) ((AM a11 (AE a20) (0,(0,(0,(false,()))))).1,((AM a11 (AE a20) (0,(0,(0,(false,()))))).2.1,((Bt a17 (IntKind.wrap .i64 (a18+1))),((AM a11 (AE a20) (0,(0,(0,(false,()))))).2.2.2.1,()))))),a12,a13,a14,a15,(IntKind.wrap .i64 (a16+1)),a17,a18,a19,(IntKind.wrap .i64 (a20+1)),a21,()))
   |false=>match JZ (a19,(AM a11 (AE a20) (0,(0,(0,(false,()))))).1,())with|none=>none|some (y4,_)=>match y4 with
   |true=>match idx a11 a20 with|none=>none|some x5=>some (.inr (.inl (a10,(Am a11 (AE a20) ((AM a11 (AE a20) (0,(0,(0,(false,()))))).1,((AM a11 (AE a20) (0,(0,(0,(false,()))))).2.1,((AM a11 (AE a20) (0,(0,(0,(false,()))))).2.2.1,(true,()))))),a12,true,(AM a11 (AE a20) (0,(0,(0,(false,()))))).1,(AM a11 (AE a20) (0,(0,(0,(false,()))))).2.1,a16,0,())))
   |false=>match JZ (a19,(AM a11 (AE a20) (0,(0,(0,(false,()))))).2.1,())with|none=>none|some (y6,_)=>match y6 with
   |true=>match idx a11 a20 with|none=>none|some x7=>some (.inr (.inl (a10,(Am a11 (AE a20) ((AM a11 (AE a20) (0,(0,(0,(false,()))))).1,((AM a11 (AE a20) (0,(0,(0,(false,()))))).2.1,((AM a11 (AE a20) (0,(0,(0,(false,()))))).2.2.1,(true,()))))),a12,true,(AM a11 (AE a20) (0,(0,(0,(false,()))))).1,(AM a11 (AE a20) (0,(0,(0,(false,()))))).2.1,a16,0,())))
   |false=>some (.inl (a0,a1,a2,a3,a4,a5,a6,a7,a8,a9,a10,a11,a12,a13,a14,a15,a16,a17,a18,a19,(IntKind.wrap .i64 (a20+1)),a21,()))
  |false=>match JZ (a19,(AM a11 (AE a20) (0,(0,(0,(false,()))))).1,())with|none=>none|some (y8,_)=>match y8 with
  |true=>match idx a11 a20 with|none=>none|some x9=>some (.inr (.inl (a10,(Am a11 (AE a20) ((AM a11 (AE a20) (0,(0,(0,(false,()))))).1,((AM a11 (AE a20) (0,(0,(0,(false,()))))).2.1,((AM a11 (AE a20) (0,(0,(0,(false,()))))).2.2.1,(true,()))))),a12,true,(AM a11 (AE a20) (0,(0,(0,(false,()))))).1,(AM a11 (AE a20) (0,(0,(0,(false,()))))).2.1,a16,0,())))
  |false=>match JZ (a19,(AM a11 (AE a20) (0,(0,(0,(false,()))))).2.1,())with|none=>none|some (y10,_)=>match y10 with
  |true=>match idx a11 a20 with|none=>none|some x11=>some (.inr (.inl (a10,(Am a11 (AE a20) ((AM a11 (AE a20) (0,(0,(0,(false,()))))).1,((AM a11 (AE a20) (0,(0,(0,(false,()))))).2.1,((AM a11 (AE a20) (0,(0,(0,(false,()))))).2.2.1,(true,()))))),a12,true,(AM a11 (AE a20) (0,(0,(0,(false,()))))).1,(AM a11 (AE a20) (0,(0,(0,(false,()))))).2.1,a16,0,())))
  |false=>some (.inl (a0,a1,a2,a3,a4,a5,a6,a7,a8,a9,a10,a11,a12,a13,a14,a15,a16,a17,a18,a19,(IntKind.wrap .i64 (a20+1)),a21,()))
 |false=>some (.inr (.inr (.inl (a0,a1,a2,a3,a4,a5,a6,a7,a8,a9,a10,a11,a12,a13,a14,a15,a16,a17,a18,a21,()))))
abbrev ALy:AF:=[(.tmp 6,.box 2),(.cell 0 0,.di),(.cell 0 1,.nil U1),(.tmp 7,.box 5),(.cell 1 0,.dat .bool),(.cell 1 1,.dat .bool),(.cell 1 2,.di),(.cell 1 3,.di),(.cell 1 4,.di),(.tmp 10,.box 4),(.cell 2 0,.di),(.cell 2 1,.di),(.cell 2 2,.di),(.cell 2 3,.dat .bool),(.tmp 11,.box 2),(.cell 3 0,.di),(.cell 3 1,.own 44 U1),(.tmp 12,.box 5),(.cell 5 0,.dat .bool),(.cell 5 1,.dat .bool),(.cell 5 2,.di),(.cell 5 3,.di),(.cell 5 4,.di),(.tmp 13,.di),(.tmp 14,.di),(.tmp 15,.own 3 U0),(.tmp 17,.di),(.tmp 79,.ptr' 2 3),(.tmp 80,.dat .bool)]
abbrev ALv:A0:=[(.exit 3,[(.tmp 6,.box 2),(.cell 0 0,.di),(.cell 0 1,.nil U1),(.tmp 7,.box 5),(.cell 1 0,.dat .bool),(.cell 1 1,.dat .bool),(.cell 1 2,.di),(.cell 1 3,.di),(.cell 1 4,.di),(.tmp 10,.box 4),(.cell 2 0,.di),(.cell 2 1,.di),(.cell 2 2,.di),(.cell 2 3,.dat .bool),(.tmp 11,.box 2),(.cell 3 0,.di),(.cell 3 1,.own 44 U1),(.tmp 12,.box 5),(.cell 5 0,.dat .bool),(.cell 5 1,.dat .bool),(.cell 5 2,.di),(.cell 5 3,.di),(.cell 5 4,.di),(.tmp 13,.di),(.tmp 14,.di),(.tmp 15,.own 3 U0),(.tmp 79,.ptr' 2 3),(.tmp 80,.dat .bool)])]
def GV[Lk]:Uf→Option (Uf⊕(Int×Bool×Bool×Int×Int×Int×Int×Int×Int×Bool×Int×List U2×Bool×Bool×Int×Int×Int×Int×Int×List Int×Bool×Unit)⊕Unit):=fun(a0,a1,a2,a3,a4,a5,a6,a7,a8,a9,a10,a11,a12,a13,a14,a15,a16,a17,a18,a19,a20,a21,_)=>
 match(ilt a20 (AO a11))with
 |true=>match idx a11 a20 with|none=>none|some x0=>match(AM a11 (AE a20) (0,(0,(0,(false,()))))).2.2.2.1 with
  |true=>match(ieq (AM a11 (AE a20) (0,(0,(0,(false,()))))).2.2.1 a18)with
   |true=>match JZ (a19,(AM a11 (AE a20) (0,(0,(0,(false,()))))).1,())with|none=>none|some (y1,_)=>match y1 with
    |true=>match JZ (a19,(AM a11 (AE a20) (0,(0,(0,(false,()))))).2.1,())with|none=>none|some (y2,_)=>match y2 with
     |true=>match idx a11 a20 with|none=>none|some x3=>some (.inl (a0,a1,a2,a3,a4,a5,a6,a7,a8,a9,a10,(Am a11 (AE a20) ((AM a11 (AE a20) (0,(0,(0,(false,()))))).1,((AM a11 (AE a20) (0,(0,(0,(false,()))))).2.1,((Bt a17 (IntKind.wrap .i64 (a18+1))),((AM a11 (AE a20) (0,(0,(0,(false,()))))).2.2.2.1,()))))),a12,a13,a14,a15,(IntKind.wrap .i64 (a16+1)),a17,a18,a19,(IntKind.wrap .i64 (a20+1)),a21,()))
     |false=>some (.inl (a0,a1,a2,a3,a4,a5,a6,a7,a8,a9,a10,a11,a12,a13,a14,a15,a16,a17,a18,a19,(IntKind.wrap .i64 (a20+1)),a21,()))
    |false=>some (.inl (a0,a1,a2,a3,a4,a5,a6,a7,a8,a9,a10,a11,a12,a13,a14,a15,a16,a17,a18,a19,(IntKind.wrap .i64 (a20+1)),a21,()))
   |false=>some (.inl (a0,a1,a2,a3,a4,a5,a6,a7,a8,a9,a10,a11,a12,a13,a14,a15,a16,a17,a18,a19,(IntKind.wrap .i64 (a20+1)),a21,()))
  |false=>some (.inl (a0,a1,a2,a3,a4,a5,a6,a7,a8,a9,a10,a11,a12,a13,a14,a15,a16,a17,a18,a19,(IntKind.wrap .i64 (a20+1)),a21,()))
 |false=>some (.inr (.inl (a0,a1,a2,a3,a4,a5,a6,a7,a8,a9,a10,a11,a12,a13,a14,a15,a16,a17,a18,a19,a21,())))
abbrev ALz:AF:=[(.tmp 6,.box 2),(.cell 0 0,.di),(.cell 0 1,.nil U1),(.tmp 7,.box 5),(.cell 1 0,.dat .bool),(.cell 1 1,.dat .bool),(.cell 1 2,.di),(.cell 1 3,.di),(.cell 1 4,.di),(.tmp 10,.box 4),(.cell 2 0,.di),(.cell 2 1,.di),(.cell 2 2,.di),(.cell 2 3,.dat .bool),(.tmp 11,.box 2),(.cell 3 0,.di),(.cell 3 1,.own 44 U1),(.tmp 12,.box 5),(.cell 5 0,.dat .bool),(.cell 5 1,.dat .bool),(.cell 5 2,.di),(.cell 5 3,.di),(.cell 5 4,.di),(.tmp 13,.di),(.tmp 14,.di)]
abbrev ALw:A0:=[(.ret,[(.tmp 6,.box 2),(.cell 0 0,.di),(.cell 0 1,.own 44 U1),(.tmp 7,.box 5),(.cell 2 0,.dat .bool),(.cell 2 1,.dat .bool),(.cell 2 2,.di),(.cell 2 3,.di),(.cell 2 4,.di),(.tmp 8,.di)]),(.exit 1,[(.tmp 6,.box 2),(.cell 0 0,.di),(.cell 0 1,.nil U1),(.tmp 7,.box 5),(.cell 1 0,.dat .bool),(.cell 1 1,.dat .bool),(.cell 1 2,.di),(.cell 1 3,.di),(.cell 1 4,.di),(.tmp 11,.box 2),(.cell 2 0,.di),(.cell 2 1,.own 44 U1),(.tmp 12,.box 5),(.cell 4 0,.dat .bool),(.cell 4 1,.dat .bool),(.cell 4 2,.di),(.cell 4 3,.di),(.cell 4 4,.di)])]
def Er[Lk]:Ul→Option (Ul⊕V8⊕(Int×Bool×Bool×Int×Int×Int×Int×List U2×Bool×Bool×Int×Int×Int×Unit)⊕Unit):=fun(a0,a1,a2,a3,a4,a5,a6,a7,a8,a9,a10,a11,a12,a13,a14,a15,a16,a17,a18,_)=>
 match(ile 0 a18)with
 |true=>match a9 with
  |true=>match OD ((a10,(a11,())),a6,a7,a18,())with|none=>none|some (y0,y1,_)=>match AS GV many (a0,a1,a2,a3,a4,a5,a6,a7,a8,a9,a10,a11,a12,a13,a14,a15,a16,a17,a18,y0,0,a9,())with|none=>none|some r=>match r with
   |.inl (o2,o3,o4,o5,o6,o7,o8,o9,o10,o11,o12,o13,o14,o15,o16,o17,o18,o19,o20,o21,o22,_)=>match AS GU many (o2,o3,o4,o5,o6,o7,o8,o9,o10,o11,o12,o13,o14,o15,o16,o17,o18,o19,o20,o21,0,o22,())with|none=>none|some r=>match r with
    |.inl (o23,o24,o25,o26,o27,o28,o29,o30,_)=>some (.inr (.inl (o23,o24,o25,o26,o27,o28,o29,o30,())))
    |.inr r=>match r with
    |.inl (o31,o32,o33,o34,o35,o36,o37,o38,o39,o40,o41,o42,o43,o44,o45,o46,o47,o48,o49,o50,_)=>some (.inl (o31,o32,o33,o34,o35,o36,o37,o38,o39,o40,o41,o42,o43,o44,o45,o46,o47,o48,(IntKind.wrap .i64 (o49-1)),()))
    |.inr _=>none
   |.inr _=>none
  |false=>some (.inr (.inr (.inl (a0,a1,a2,a3,a4,a5,a10,a11,a12,a13,a14,a15,a16,()))))
 |false=>some (.inr (.inr (.inl (a0,a1,a2,a3,a4,a5,a10,a11,a12,a13,a14,a15,a16,()))))
def P1[Lk]:V5→Option ((Int×List U2×Uo×Int×Unit)):=fun(a0,a1,a2,_)=>
 match Cn ((a0.1,(a0.2.1,())),())with|none=>none|some (y0,_)=>match(!y0)with
 |true=>some (a0.1,a0.2.1,(false,(false,((0,(0,())),(0,())))),1,())
 |false=>match ACl ((a0.1,(a0.2.1,())),a1,())with|none=>none|some (y1,_)=>match(!y1)with
 |true=>some (a0.1,a0.2.1,(false,(false,((0,(0,())),(0,())))),10,())
 |false=>match ACl ((a0.1,(a0.2.1,())),a2,())with|none=>none|some (y2,_)=>match(!y2)with
 |true=>some (a0.1,a0.2.1,(false,(false,((0,(0,())),(0,())))),10,())
 |false=>match AAk ((a0.1,(a0.2.1,())),a1,a2,())with|none=>none|some (y3,_)=>match(ilt y3 0)with
 |true=>some (a0.1,a0.2.1,(false,(false,((0,(0,())),(0,())))),6,())
 |false=>match idx a0.2.1 y3 with|none=>none|some x4=>match Bz a0.2.1 0 y3 with|none=>none|some x5=>match(fits ((AO ([]:List U2))+(AO x5)))with
 |true=>match Bz a0.2.1 (IntKind.wrap .i64 (y3+1)) (AO a0.2.1)with|none=>none|some x6=>match(fits ((AO (A4 ([]:List U2) x5))+(AO x6)))with
  |true=>match LL (a0.1,())with|none=>none|some (y7,_)=>match AS Er many (0,false,false,0,0,0,x4.1,x4.2.1,x4.2.2.1,x4.2.2.2.1,a0.1,(A4 (A4 ([]:List U2) x5) x6),x4.2.2.2.1,false,0,0,0,y7,x4.2.2.1,())with|none=>none|some r=>match r with
   |.inl (o8,o9,o10,o11,o12,o13,o14,o15,_)=>some (o8,o9,(o10,(o11,((o12,(o13,())),(o14,())))),o15,())
   |.inr r=>match r with
   |.inl (o16,o17,o18,o19,o20,o21,o22,o23,o24,o25,o26,o27,o28,_)=>some (o22,o23,(o24,(o25,((o26,(o27,())),(o28,())))),0,())
   |.inr _=>none
  |false=>none
 |false=>none
def VE[Lk]:=fun v=>Lk.f (P1 v)
theorem Ze v:VE v=P1 v:=AI _
end
end Go.Pev
end
section
namespace Go.Pev
noncomputable section
attribute [local irreducible] MA JB Ng Kv AWT AWU AWV Pc WH WC X1 JD AQ many IntKind.wrap AO Am AM A4 Bi DR Je AE BV Bt imax AT Af
abbrev ASS:AF:=[(.tmp 0,.dat Ur),(.tmp 1,.dat U1),(.tmp 2,.clo 98 [])]
abbrev ASR:AF:=[(.tmp 0,.di),(.tmp 1,.dat .bool)]
abbrev ASQ:List RS:=[.one,.one]
abbrev AT1:AF:=[(.tmp 0,.dat Ur),(.tmp 2,.clo 98 []),(.tmp 4,.box 4),(.cell 0 0,.di),(.cell 0 1,.di),(.cell 0 2,.di),(.cell 0 3,.dat .bool),(.tmp 8,.di),(.tmp 9,.di),(.tmp 10,.di)]
abbrev AT0:A0:=[(.exit 0,[(.tmp 0,.dat Ur),(.tmp 2,.clo 98 []),(.tmp 4,.box 4),(.cell 0 0,.di),(.cell 0 1,.di),(.cell 0 2,.di),(.cell 0 3,.dat .bool),(.tmp 8,.di),(.tmp 9,.di)])]
def Ka[Lk]:(List U2×Int×Int×Int×Bool×Int×Int×Int×Unit)→Option ((List U2×Int×Int×Int×Bool×Int×Int×Int×Unit)⊕(List U2×Int×Int×Int×Bool×Int×Int×Unit)⊕Unit):=fun(a0,a1,a2,a3,a4,a5,a6,a7,_)=>
 match(ilt a6 a7)with
 |true=>match shr? .u64 (IntKind.wrap .u64 (IntKind.wrap .i64 (a6+a7))) 1 with|none=>none|some x0=>match idx a0 (IntKind.wrap .i64 x0)with|none=>none|some x1=>match DN ((x1.1,(x1.2.1,(x1.2.2.1,(x1.2.2.2.1,())))),(a1,(a2,(a3,(a4,())))),())with|none=>none|some (y2,_)=>match(ilt y2 0)with
  |true=>some (.inl (a0,a1,a2,a3,a4,a5,(IntKind.wrap .i64 ((IntKind.wrap .i64 x0)+1)),a7,()))
  |false=>some (.inl (a0,a1,a2,a3,a4,a5,a6,(IntKind.wrap .i64 x0),()))
 |false=>some (.inr (.inl (a0,a1,a2,a3,a4,a5,a6,())))
def AIk[Lk]:(List U2×U2×Unit)→Option ((Int×Bool×Unit)):=fun(a0,a1,_)=>
 match AS Ka many (a0,a1.1,a1.2.1,a1.2.2.1,a1.2.2.2.1,(AO a0),0,(AO a0),())with|none=>none|some r=>match r with
 |.inl (o0,o1,o2,o3,o4,o5,o6,_)=>match(ilt o6 o5)with
  |true=>match idx o0 o6 with|none=>none|some x7=>match DN ((x7.1,(x7.2.1,(x7.2.2.1,(x7.2.2.2.1,())))),(o1,(o2,(o3,(o4,())))),())with|none=>none|some (y8,_)=>some (o6,(ieq y8 0),())
  |false=>some (o6,false,())
 |.inr _=>none
def AXa[Lk]:=fun v=>Lk.f (AIk v)
theorem AT2 v:AXa v=AIk v:=AI _
abbrev Z1:AF:=[(.tmp 0,.dat Ua),(.tmp 1,.di),(.tmp 2,.di)]
abbrev Z0:AF:=[(.tmp 0,.di),(.tmp 1,.dat .bool)]
abbrev Zz:List RS:=[.one,.one]
def QA[Lk]:V5→Option ((Int×Bool×Unit)):=fun(a0,a1,a2,_)=>
 match AXa (a0.2.1,((Bt a1 a2),((imax a1 a2),(0,(false,())))),())with|none=>none|some (y0,y1,_)=>some (y0,y1,())
def AHB[Lk]:=fun v=>Lk.f (QA v)
theorem AD4 v:AHB v=QA v:=AI _
abbrev AHI:AF:=[(.tmp 0,.dat Ua),(.tmp 1,.di),(.tmp 2,.di)]
abbrev AHH:AF:=[(.tmp 0,.di)]
abbrev AHG:List RS:=[.one]
def W8[Lk]:V5→Option (U9):=fun(a0,a1,a2,_)=>
 match FV ((a0.1,(a0.2.1,())),())with|none=>none|some (y0,_)=>match(!y0)with
 |true=>some ((-1:Int),())
 |false=>match AHB ((a0.1,(a0.2.1,())),a1,a2,())with|none=>none|some (y1,y2,_)=>match(!y2)with
 |true=>some ((-1:Int),())
 |false=>some (y1,())
def AML[Lk]:=fun v=>Lk.f (W8 v)
theorem AMK v:AML v=W8 v:=AI _
abbrev Hz:AF:=[(.tmp 0,.own 3 U0),(.cap 1 0,.box 2),(.cell 1 0,.di),(.cell 1 1,.dat Uj),(.tmp 1,.clo 145 [(1,0)])]
abbrev Hy:AF:=[(.obj 0,.own 3 U0),(.obj 1,.box 2),(.cell 1 0,.di),(.cell 1 1,.dat Uj),(.tmp 0,.di)]
abbrev Hx:List RS:=[.one]
abbrev K4:AF:=[(.obj 0,.own 3 U0),(.obj 1,.box 2),(.cell 1 0,.di),(.cell 1 1,.dat Uj),(.tmp 0,.own' 0),(.tmp 1,.clo 145 [(1,0)]),(.tmp 7,.di),(.tmp 8,.di)]
abbrev K0:A0:=[(.ret,[(.obj 0,.own 3 U0),(.obj 1,.box 2),(.cell 1 0,.di),(.cell 1 1,.dat Uj),(.tmp 4,.di)]),(.exit 0,[(.obj 0,.own 3 U0),(.obj 1,.box 2),(.cell 1 0,.di),(.cell 1 1,.dat Uj)])]
def Bh[Lk]:V6→Option (V6⊕Va⊕V7⊕Unit):=fun(a0,a1,a2,a3,a4,_)=>
 match(ilt a4 a3)with
 |true=>match idx a0 a4 with|none=>none|some x0=>match(ile a1 (AM a0 (AE a4) 0))with
  |true=>some (.inr (.inl (a0,a1,a2,a4,())))
  |false=>some (.inl (a0,a1,a2,a3,(IntKind.wrap .i64 (a4+1)),()))
 |false=>some (.inr (.inr (.inl (a0,a1,a2,()))))
def Ez[Lk]:V7→Option (Va):=fun(a0,a1,a2,_)=>
 match AS Bh many (a0,a1,a2,(AO a0),0,())with|none=>none|some r=>match r with
 |.inl (o0,o1,o2,o3,_)=>some (o0,o1,o2,o3,())
 |.inr r=>match r with
 |.inl (o4,o5,o6,_)=>some (o4,o5,o6,(-1:Int),())
 |.inr _=>none
def G1[Lk]:=fun v=>Lk.f (Ez v)
theorem K5 v:G1 v=Ez v:=AI _
abbrev ID:AF:=[(.tmp 0,.own 3 U0),(.cap 1 0,.box 2),(.cell 1 0,.di),(.cell 1 1,.dat Uj),(.tmp 1,.clo 145 [(1,0)])]
abbrev IC:AF:=[(.obj 0,.own 3 U0),(.obj 1,.box 2),(.cell 1 0,.di),(.cell 1 1,.dat Uj),(.tmp 0,.win' 0)]
abbrev IB:List RS:=[.one]
abbrev K8:AF:=[(.obj 0,.own 3 U0),(.obj 1,.box 2),(.cell 1 0,.di),(.cell 1 1,.dat Uj),(.tmp 0,.own' 0),(.tmp 1,.clo 145 [(1,0)]),(.tmp 5,.di),(.tmp 6,.di)]
abbrev K7:A0:=[(.exit 0,[(.obj 0,.own 3 U0),(.obj 1,.box 2),(.cell 1 0,.di),(.cell 1 1,.dat Uj),(.tmp 0,.own' 0),(.tmp 5,.di)])]
def CH[Lk]:V6→Option (V6⊕Va⊕Unit):=fun(a0,a1,a2,a3,a4,_)=>
 match(ilt a4 (AO a0))with
 |true=>match idx a0 a4 with|none=>none|some x0=>match(!(ile a1 (AM a0 (AE a4) 0)))with
  |true=>match idx a0 a3 with|none=>none|some x1=>some (.inl ((Am a0 (AE a3) (AM a0 (AE a4) 0)),a1,a2,(IntKind.wrap .i64 (a3+1)),(IntKind.wrap .i64 (a4+1)),()))
  |false=>some (.inl (a0,a1,a2,a3,(IntKind.wrap .i64 (a4+1)),()))
 |false=>some (.inr (.inl (a0,a1,a2,a3,())))
def E3[Lk]:V7→Option (Va):=fun(a0,a1,a2,_)=>
 match G1 (a0,a1,a2,())with|none=>none|some (y0,y1,y2,y3,_)=>match(ieq y3 (-1:Int))with
 |true=>some (y0,y1,y2,(AO y0),())
 |false=>match AS CH many (y0,y1,y2,y3,(IntKind.wrap .i64 (y3+1)),())with|none=>none|some r=>match r with
 |.inl (o4,o5,o6,o7,_)=>match Bz o4 o7 (AO o4)with|none=>none|some x8=>match Bz (BV (AE o7) (AE (AO x8)) 0 o4) 0 o7 with|none=>none|some x9=>some ((BV (AE o7) (AE (AO x8)) 0 o4),o5,o6,(((AE (AO x9)):Nat):Int),())
 |.inr _=>none
def E4[Lk]:=fun v=>Lk.f (E3 v)
theorem K9 v:E4 v=E3 v:=AI _
abbrev Ou:AF:=[(.tmp 0,.dat Uq),(.tmp 1,.di)]
abbrev Ot:AF:=[(.tmp 0,.own 3 U0),(.tmp 1,.di)]
abbrev Oq:List RS:=[.one,.one]
def KQ[Lk]:Vb→Option (Up):=fun(a0,a1,_)=>
 match KO ((a0.1,(a0.2.1,())),([a1]:List (Int)),())with|none=>none|some (y0,_)=>match(!(ieq y0 0))with
 |true=>some (([]:List (Int)),y0,())
 |false=>match tof ((a0.1,(a0.2.1,())),a1,())with|none=>none|some (y1,_)=>match idx a0.2.1 y1 with|none=>none|some x2=>match AIS x2 with|none=>none|some x3=>match E4 (x3,a0.1,a0.2.1,())with|none=>none|some (y4,y5,y6,y7,_)=>match AJs ((Bi (AE y7) y4),())with|none=>none|some (y8,_)=>some (y8,0,())
def H5[Lk]:=fun v=>Lk.f (KQ v)
theorem VP v:H5 v=KQ v:=AI _
abbrev AHu:AF:=[(.tmp 0,.nil U1),(.tmp 1,.di)]
abbrev AHt:AF:=[(.tmp 0,.own 44 U1)]
abbrev AHs:List RS:=[.one]
def XG[Lk]:U9→Option ((List U2×Unit)):=fun(a0,_)=>
 match(ilt a0 0)with
 |true=>none
 |false=>match(ilt 0 (IntKind.wrap .i64 (a0-(IntKind.wrap .i64 (0-0)))))with
 |true=>match Bz ([]:List Unit) 0 0 with|none=>none|some _u0=>match(K6 (IntKind.wrap .i64 (a0-(IntKind.wrap .i64 (0-0)))))with
  |true=>match Bz (Je (AE (IntKind.wrap .i64 (a0-(IntKind.wrap .i64 ((0:Int)-(0:Int)))))) ((0:Int),((0:Int),((0:Int),(false,()))))) (0:Int) (0:Int)with|none=>none|some x1=>some ((Bi (AE (AO x1)) (Je (AE (IntKind.wrap .i64 (a0-(IntKind.wrap .i64 ((0:Int)-(0:Int)))))) ((0:Int),((0:Int),((0:Int),(false,())))))),())
  |false=>none
 |false=>some (([]:List U2),())
def AMx[Lk]:=fun v=>Lk.f (XG v)
theorem AMw v:AMx v=XG v:=AI _
abbrev TQ:AF:=[(.tmp 0,.dat (.slice Ur))]
abbrev TP:AF:=[(.tmp 0,.own 44 U1)]
abbrev TO:List RS:=[.one]
abbrev AA3:AF:=[(.tmp 6,.own 44 U1),(.tmp 25,.dat (.slice Ur)),(.tmp 26,.di),(.tmp 27,.di)]
abbrev AA1:A0:=[(.exit 2,[(.tmp 6,.own 44 U1)])]
def EH[Lk]:(List U2×List (List U2)×Int×Int×Unit)→Option ((List U2×List (List U2)×Int×Int×Unit)⊕(List U2×Unit)⊕Unit):=fun(a0,a1,a2,a3,_)=>
 match(ilt a3 a2)with
 |true=>match idx a1 a3 with|none=>none|some x0=>match(fits ((AO a0)+(AO x0)))with
  |true=>some (.inl ((A4 a0 x0),a1,a2,(IntKind.wrap .i64 (a3+1)),()))
  |false=>none
 |false=>some (.inr (.inl (a0,())))
abbrev AA4:AF:=[(.tmp 0,.dat (.slice Ur)),(.tmp 3,.di),(.tmp 9,.dat (.slice Ur)),(.tmp 10,.di),(.tmp 11,.di)]
abbrev AA2:A0:=[(.exit 0,[(.tmp 0,.dat (.slice Ur)),(.tmp 3,.di)])]
def EI[Lk]:(List (List U2)×Int×List (List U2)×Int×Int×Unit)→Option ((List (List U2)×Int×List (List U2)×Int×Int×Unit)⊕(List (List U2)×Int×Unit)⊕Unit):=fun(a0,a1,a2,a3,a4,_)=>
 match(ilt a4 a3)with
 |true=>match idx a2 a4 with|none=>none|some x0=>match(ilt (IntKind.wrap .i64 (a1+(AO x0))) 0)with
  |true=>none
  |false=>some (.inl (a0,(IntKind.wrap .i64 (a1+(AO x0))),a2,a3,(IntKind.wrap .i64 (a4+1)),()))
 |false=>some (.inr (.inl (a0,a1,())))
def NL[Lk]:(List (List U2)×Unit)→Option ((List U2×Unit)):=fun(a0,_)=>
 match AS EI many (a0,0,a0,(AO a0),0,())with|none=>none|some r=>match r with
 |.inl (o0,o1,_)=>match AMx (o1,())with|none=>none|some (y2,_)=>match AS EH many (y2,o0,(AO o0),0,())with|none=>none|some r=>match r with
  |.inl (o3,_)=>some (o3,())
  |.inr _=>none
 |.inr _=>none
def NM[Lk]:=fun v=>Lk.f (NL v)
theorem AA5 v:NM v=NL v:=AI _
abbrev KK:AF:=[(.tmp 0,.own 42 U5),(.cap 1 0,.box 1),(.cell 1 0,.map U5 U0),(.tmp 1,.clo 116 [(1,0)])]
abbrev KJ:AF:=[(.obj 0,.own 42 U5),(.obj 1,.box 1),(.cell 1 0,.map U5 U0),(.obj 2,.map' 2),(.tmp 0,.di)]
abbrev KI:List RS:=[.one]
abbrev Np:AF:=[(.obj 0,.own 42 U5),(.obj 1,.box 1),(.cell 1 0,.map U5 U0),(.obj 2,.map' 2),(.tmp 0,.own' 0),(.tmp 1,.clo 116 [(1,0)]),(.tmp 7,.di),(.tmp 8,.di)]
abbrev No:A0:=[(.ret,[(.obj 0,.own 42 U5),(.obj 1,.box 1),(.cell 1 0,.map U5 U0),(.obj 2,.map' 2),(.tmp 4,.di)]),(.exit 0,[(.obj 0,.own 42 U5),(.obj 1,.box 1),(.cell 1 0,.map U5 U0),(.obj 2,.map' 2)])]
def CA[Lk]:V4→Option (V4⊕V9⊕(List U3×List (U3×Int)×Unit)⊕Unit):=fun(a0,a1,a2,a3,_)=>
 match(ilt a3 a2)with
 |true=>match idx a0 a3 with|none=>none|some x0=>match(ieq ((AT a1 ((AM a0 (AE a3) (0,(0,()))).1,((AM a0 (AE a3) (0,(0,()))).2.1,()))).getD 0) 0)with
  |true=>some (.inr (.inl (a0,a1,a3,())))
  |false=>some (.inl (a0,a1,a2,(IntKind.wrap .i64 (a3+1)),()))
 |false=>some (.inr (.inr (.inl (a0,a1,()))))
def G2[Lk]:(List U3×List (U3×Int)×Unit)→Option (V9):=fun(a0,a1,_)=>
 match AS CA many (a0,a1,(AO a0),0,())with|none=>none|some r=>match r with
 |.inl (o0,o1,o2,_)=>some (o0,o1,o2,())
 |.inr r=>match r with
 |.inl (o3,o4,_)=>some (o3,o4,(-1:Int),())
 |.inr _=>none
def KM[Lk]:=fun v=>Lk.f (G2 v)
theorem Nq v:KM v=G2 v:=AI _
abbrev KX:AF:=[(.tmp 0,.own 42 U5),(.cap 1 0,.box 1),(.cell 1 0,.map U5 U0),(.tmp 1,.clo 116 [(1,0)])]
abbrev KW:AF:=[(.obj 0,.own 42 U5),(.obj 1,.box 1),(.cell 1 0,.map U5 U0),(.obj 2,.map' 2),(.tmp 0,.win' 0)]
abbrev KV:List RS:=[.one]
abbrev Nv:AF:=[(.obj 0,.own 42 U5),(.obj 1,.box 1),(.cell 1 0,.map U5 U0),(.obj 2,.map' 2),(.tmp 0,.own' 0),(.tmp 1,.clo 116 [(1,0)]),(.tmp 5,.di),(.tmp 6,.di)]
abbrev Nu:A0:=[(.exit 0,[(.obj 0,.own 42 U5),(.obj 1,.box 1),(.cell 1 0,.map U5 U0),(.obj 2,.map' 2),(.tmp 0,.own' 0),(.tmp 5,.di)])]
def C5[Lk]:V4→Option (V4⊕V9⊕Unit):=fun(a0,a1,a2,a3,_)=>
 match(ilt a3 (AO a0))with
 |true=>match idx a0 a3 with|none=>none|some x0=>match(!(ieq ((AT a1 ((AM a0 (AE a3) (0,(0,()))).1,((AM a0 (AE a3) (0,(0,()))).2.1,()))).getD 0) 0))with
  |true=>match idx a0 a2 with|none=>none|some x1=>some (.inl ((Am a0 (AE a2) ((AM a0 (AE a3) (0,(0,()))).1,((AM a0 (AE a3) (0,(0,()))).2.1,()))),a1,(IntKind.wrap .i64 (a2+1)),(IntKind.wrap .i64 (a3+1)),()))
  |false=>some (.inl (a0,a1,a2,(IntKind.wrap .i64 (a3+1)),()))
 |false=>some (.inr (.inl (a0,a1,a2,())))
def G5[Lk]:(List U3×List (U3×Int)×Unit)→Option (V9):=fun(a0,a1,_)=>
 match KM (a0,a1,())with|none=>none|some (y0,y1,y2,_)=>match(ieq y2 (-1:Int))with
 |true=>some (y0,y1,(AO y0),())
 |false=>match AS C5 many (y0,y1,y2,(IntKind.wrap .i64 (y2+1)),())with|none=>none|some r=>match r with
 |.inl (o3,o4,o5,_)=>match Bz o3 o5 (AO o3)with|none=>none|some x6=>match Bz (BV (AE o5) (AE (AO x6)) (0,(0,())) o3) 0 o5 with|none=>none|some x7=>some ((BV (AE o5) (AE (AO x6)) (0,(0,())) o3),o4,(((AE (AO x7)):Nat):Int),())
 |.inr _=>none
def IF[Lk]:=fun v=>Lk.f (G5 v)
theorem Nw v:IF v=G5 v:=AI _
abbrev AGD:AF:=[(.tmp 0,.dat Ua),(.tmp 1,.dat Ut)]
abbrev AGC:AF:=[(.tmp 0,.own 42 U5),(.tmp 1,.di)]
abbrev AGB:List RS:=[.one,.one]
abbrev AKc:AF:=[(.tmp 2,.box 2),(.cell 0 0,.di),(.cell 0 1,.dat Ur),(.tmp 6,.box 1),(.cell 1 0,.map U5 U0),(.tmp 13,.dat Ut),(.tmp 14,.di),(.tmp 15,.di)]
abbrev AKb:A0:=[(.ret,[(.tmp 4,.nil U5),(.tmp 5,.di)]),(.exit 0,[(.tmp 2,.box 2),(.cell 0 0,.di),(.cell 0 1,.dat Ur),(.tmp 6,.box 1),(.cell 1 0,.map U5 U0)])]
def Dv[Lk]:(Int×List U2×List (U3×Int)×List U3×Int×Int×Unit)→Option ((Int×List U2×List (U3×Int)×List U3×Int×Int×Unit)⊕U9⊕(Int×List U2×List (U3×Int)×Unit)⊕Unit):=fun(a0,a1,a2,a3,a4,a5,_)=>
 match(ilt a5 a4)with
 |true=>match idx a3 a5 with|none=>none|some x0=>match(ilt (Bt x0.1 x0.2.1) 0)with
  |true=>some (.inr (.inl (10,())))
  |false=>match(ile a0 (imax x0.1 x0.2.1))with
  |true=>some (.inr (.inl (10,())))
  |false=>match(ile 0 (WI a2 ((Bt x0.1 x0.2.1),((imax x0.1 x0.2.1),())))&&ilt (WI a2 ((Bt x0.1 x0.2.1),((imax x0.1 x0.2.1),()))) (AO (Af a2 ((Bt x0.1 x0.2.1),((imax x0.1 x0.2.1),())) ((AT a2 ((Bt x0.1 x0.2.1),((imax x0.1 x0.2.1),()))).getD 0))))with
  |true=>some (.inl (a0,a1,(AVk (Af a2 ((Bt x0.1 x0.2.1),((imax x0.1 x0.2.1),())) ((AT a2 ((Bt x0.1 x0.2.1),((imax x0.1 x0.2.1),()))).getD 0)) (WI a2 ((Bt x0.1 x0.2.1),((imax x0.1 x0.2.1),()))) (IntKind.wrap .i64 (((AT a2 ((Bt x0.1 x0.2.1),((imax x0.1 x0.2.1),()))).getD 0)+1))),a3,a4,(IntKind.wrap .i64 (a5+1)),()))
  |false=>none
 |false=>some (.inr (.inr (.inl (a0,a1,a2,()))))
def Po[Lk]:(Ue×List U3×Unit)→Option ((List U3×Int×Unit)):=fun(a0,a1,_)=>
 match FV ((a0.1,(a0.2.1,())),())with|none=>none|some (y0,_)=>match(!y0)with
 |true=>some (([]:List U3),1,())
 |false=>match AS Dv many (a0.1,a0.2.1,([]:List (U3×Int)),a1,(AO a1),0,())with|none=>none|some r=>match r with
 |.inl (o1,_)=>some (([]:List U3),o1,())
 |.inr r=>match r with
 |.inl (o2,o3,o4,_)=>match Z9 ((o2,(o3,())),())with|none=>none|some (y5,_)=>match IF (y5,o4,())with|none=>none|some (y6,y7,y8,_)=>some ((Bi (AE y8) y6),0,())
 |.inr _=>none
def UD[Lk]:=fun v=>Lk.f (Po v)
theorem Yv v:UD v=Po v:=AI _
abbrev Yz:AF:=[(.tmp 0,.dat Ua),(.tmp 1,.di),(.tmp 2,.di)]
abbrev Yy:AF:=[(.tmp 0,.di),(.tmp 1,.di)]
abbrev Yx:List RS:=[.one,.one]
def LY[Lk]:V5→Option (U3):=fun(a0,a1,a2,_)=>
 match FV ((a0.1,(a0.2.1,())),())with|none=>none|some (y0,_)=>match(!y0)with
 |true=>some (0,1,())
 |false=>match(ilt (Bt a1 a2) 0)with
 |true=>some (0,10,())
 |false=>match(ile a0.1 (imax a1 a2))with
 |true=>some (0,10,())
 |false=>match AML ((a0.1,(a0.2.1,())),a1,a2,())with|none=>none|some (y1,_)=>match(ilt y1 0)with
 |true=>some (0,6,())
 |false=>some (y1,0,())
def OJ[Lk]:=fun v=>Lk.f (LY v)
theorem R9 v:OJ v=LY v:=AI _
abbrev AF4:AF:=[(.tmp 0,.dat Ua),(.tmp 1,.di),(.tmp 2,.di),(.tmp 3,.di)]
abbrev AF3:AF:=[(.tmp 0,.own 3 U0),(.tmp 1,.di)]
abbrev AF2:List RS:=[.one,.one]
def Pd[Lk]:(Ue×Int×Int×Int×Unit)→Option (Up):=fun(a0,a1,a2,a3,_)=>
 match OJ ((a0.1,(a0.2.1,())),a1,a2,())with|none=>none|some (y0,y1,_)=>match(ieq y1 1)with
 |true=>some (([]:List (Int)),y1,())
 |false=>match(ieq y1 10)with
 |true=>some (([]:List (Int)),y1,())
 |false=>match ND ((a0.1,(a0.2.1,())),a3,())with|none=>none|some (y2,y3,_)=>match H5 ((y2.1,(y2.2.1,())),a1,())with|none=>none|some (y4,y5,_)=>match H5 ((y2.1,(y2.2.1,())),a2,())with|none=>none|some (y6,y7,_)=>match Ed (y4,a2,())with|none=>none|some (y8,_)=>match y8 with
 |true=>some (([]:List (Int)),5,())
 |false=>match E8 ((AO y4),(AO y6),())with|none=>none|some (y9,_)=>match idx y4 0 with|none=>none|some x10=>match idx y6 0 with|none=>none|some x11=>match E8 ((AM y4 0 0),(AM y6 0 0),())with|none=>none|some (y12,_)=>match orI (([y9,y12]:List (Int)),())with|none=>none|some (y13,_)=>match(ilt y13 0)with
 |true=>some (y4,0,())
 |false=>some (y6,0,())
def Pe[Lk]:=fun v=>Lk.f (Pd v)
theorem YY v:Pe v=Pd v:=AI _
abbrev AZM:AF:=[(.tmp 0,.box 8),(.cell 0 0,.di),(.cell 0 1,.own 44 U1),(.cell 0 2,.dat .bool),(.cell 0 3,.dat .bool),(.cell 0 4,.di),(.cell 0 5,.di),(.cell 0 6,.di),(.cell 0 7,.di),(.tmp 1,.di),(.tmp 2,.di),(.tmp 3,.di)]
abbrev AZI:AF:=[(.obj 0,.box 8),(.cell 0 0,.di),(.cell 0 1,.own 44 U1),(.cell 0 2,.dat .bool),(.cell 0 3,.dat .bool),(.cell 0 4,.di),(.cell 0 5,.di),(.cell 0 6,.di),(.cell 0 7,.di),(.obj 1,.own' 1),(.tmp 0,.dat .bool)]
abbrev AZE:List RS:=[.one]
abbrev AZJ:AF:=[(.obj 0,.box 8),(.cell 0 0,.di),(.cell 0 1,.own 44 U1),(.cell 0 2,.dat .bool),(.cell 0 3,.dat .bool),(.cell 0 4,.di),(.cell 0 5,.di),(.cell 0 6,.di),(.cell 0 7,.di),(.obj 1,.own' 1),(.tmp 0,.ptr' 0 0),(.cap 14 0,.box 1),(.cell 2 0,.map U0 U0),(.tmp 14,.clo 141 [(2,0)]),(.tmp 86,.prs 157 1),(.tmp 87,.di),(.tmp 88,.di)]
abbrev AZF:A0:=[(.exit 5,[(.obj 0,.box 8),(.cell 0 0,.di),(.cell 0 1,.own 44 U1),(.cell 0 2,.dat .bool),(.cell 0 3,.dat .bool),(.cell 0 4,.di),(.cell 0 5,.di),(.cell 0 6,.di),(.cell 0 7,.di),(.obj 1,.own' 1)]),(.ret,[(.obj 0,.box 8),(.cell 0 0,.di),(.cell 0 1,.own 44 U1),(.cell 0 2,.dat .bool),(.cell 0 3,.dat .bool),(.cell 0 4,.di),(.cell 0 5,.di),(.cell 0 6,.di),(.cell 0 7,.di),(.obj 1,.own' 1),(.tmp 8,.dat .bool)])]
def Lc[Lk]:Vd→Option (Vd⊕V8⊕(Int×List U2×Bool×Bool×Int×Int×Int×Int×Bool×Unit)⊕Unit):=fun(a0,a1,a2,a3,a4,a5,a6,a7,a8,a9,a10,a11,_)=>
 match(ilt a11 a10)with
 |true=>match idx a9 a11 with|none=>none|some x0=>match(ieq (IntKind.wrap .i64 (((AT a8 (AM a1 (AE (AM a9 (AE a11) 0)) (0,(0,(0,(false,()))))).1).getD 0)+((AT a8 (AM a1 (AE (AM a9 (AE a11) 0)) (0,(0,(0,(false,()))))).2.1).getD 0))) 0)with
  |true=>some (.inl (a0,a1,a2,a3,a4,a5,a6,a7,a8,a9,a10,(IntKind.wrap .i64 (a11+1)),()))
  |false=>match(ieq (IntKind.wrap .i64 (((AT a8 (AM a1 (AE (AM a9 (AE a11) 0)) (0,(0,(0,(false,()))))).1).getD 0)+((AT a8 (AM a1 (AE (AM a9 (AE a11) 0)) (0,(0,(0,(false,()))))).2.1).getD 0))) 2)with
  |true=>some (.inl (a0,(Am a1 (AE (AM a9 (AE a11) 0)) ((AM a1 (AE (AM a9 (AE a11) 0)) (0,(0,(0,(false,()))))).1,((AM a1 (AE (AM a9 (AE a11) 0)) (0,(0,(0,(false,()))))).2.1,((Bt a7 (IntKind.wrap .i64 ((AM a1 (AE (AM a9 (AE a11) 0)) (0,(0,(0,(false,()))))).2.2.1+1))),((AM a1 (AE (AM a9 (AE a11) 0)) (0,(0,(0,(false,()))))).2.2.2.1,()))))),a2,a3,a4,a5,(IntKind.wrap .i64 (a6+1)),a7,a8,a9,a10,(IntKind.wrap .i64 (a11+1)),()))
  |false=>match(ieq (IntKind.wrap .i64 (((AT a8 (AM a1 (AE (AM a9 (AE a11) 0)) (0,(0,(0,(false,()))))).1).getD 0)+((AT a8 (AM a1 (AE (AM a9 (AE a11) 0)) (0,(0,(0,(false,()))))).2.1).getD 0))) 1)with
  |true=>some (.inr (.inr (.inl (a0,(Am a1 (AE (AM a9 (AE a11) 0)) ((AM a1 (AE (AM a9 (AE a11) 0)) (0,(0,(0,(false,()))))).1,((AM a1 (AE (AM a9 (AE a11) 0)) (0,(0,(0,(false,()))))).2.1,((AM a1 (AE (AM a9 (AE a11) 0)) (0,(0,(0,(false,()))))).2.2.1,(true,()))))),a2,true,(AM (Am a1 (AE (AM a9 (AE a11) 0)) ((AM a1 (AE (AM a9 (AE a11) 0)) (0,(0,(0,(false,()))))).1,((AM a1 (AE (AM a9 (AE a11) 0)) (0,(0,(0,(false,()))))).2.1,((AM a1 (AE (AM a9 (AE a11) 0)) (0,(0,(0,(false,()))))).2.2.1,(true,()))))) (AE (AM a9 (AE a11) 0)) (0,(0,(0,(false,()))))).1,(AM (Am a1 (AE (AM a9 (AE a11) 0)) ((AM a1 (AE (AM a9 (AE a11) 0)) (0,(0,(0,(false,()))))).1,((AM a1 (AE (AM a9 (AE a11) 0)) (0,(0,(0,(false,()))))).2.1,((AM a1 (AE (AM a9 (AE a11) 0)) (0,(0,(0,(false,()))))).2.2.1,(true,()))))) (AE (AM a9 (AE a11) 0)) (0,(0,(0,(false,()))))).2.1,a6,a7,true,()))))
  |false=>some (.inl (a0,a1,a2,a3,a4,a5,a6,a7,a8,a9,a10,(IntKind.wrap .i64 (a11+1)),()))
 |false=>some (.inr (.inl (a0,a1,a2,a3,a4,a5,a6,a7,())))
abbrev AZK:AF:=[(.obj 0,.box 8),(.cell 0 0,.di),(.cell 0 1,.own 44 U1),(.cell 0 2,.dat .bool),(.cell 0 3,.dat .bool),(.cell 0 4,.di),(.cell 0 5,.di),(.cell 0 6,.di),(.cell 0 7,.di),(.obj 1,.own' 1),(.tmp 0,.ptr' 0 0),(.tmp 3,.di),(.cap 14 0,.box 1),(.cell 2 0,.map U0 U0),(.tmp 14,.clo 141 [(2,0)]),(.tmp 15,.prs 157 1),(.tmp 47,.di),(.tmp 48,.di)]
abbrev AZG:A0:=[(.exit 2,[(.obj 0,.box 8),(.cell 0 0,.di),(.cell 0 1,.own 44 U1),(.cell 0 2,.dat .bool),(.cell 0 3,.dat .bool),(.cell 0 4,.di),(.cell 0 5,.di),(.cell 0 6,.di),(.cell 0 7,.di),(.obj 1,.own' 1),(.tmp 0,.ptr' 0 0),(.cap 14 0,.box 1),(.cell 2 0,.map U0 U0),(.tmp 14,.clo 141 [(2,0)]),(.tmp 15,.prs 157 1)])]
def Ld[Lk]:Un→Option (Un⊕(Int×List U2×Bool×Bool×Int×Int×Int×Int×List Uv×List Int×Unit)⊕Unit):=fun(a0,a1,a2,a3,a4,a5,a6,a7,a8,a9,a10,a11,a12,_)=>
 match(ilt a12 a11)with
 |true=>match idx a1 a12 with|none=>none|some x0=>match(!(ieq (AM a1 (AE a12) (0,(0,(0,(false,()))))).2.2.1 a8))with
  |true=>some (.inl (a0,a1,a2,a3,a4,a5,a6,a7,a8,a9,a10,a11,(IntKind.wrap .i64 (a12+1)),()))
  |false=>match(!(AM a1 (AE a12) (0,(0,(0,(false,()))))).2.2.2.1)with
  |true=>match(fits ((AO a10)+(AO ([(Int.ofNat (AE a12))]:List (Int)))))with
   |true=>some (.inl (a0,a1,a2,a3,a4,a5,a6,a7,a8,a9,(A4 a10 ([(Int.ofNat (AE a12))]:List (Int))),a11,(IntKind.wrap .i64 (a12+1)),()))
   |false=>none
  |false=>match(ieq (IntKind.wrap .i64 (((AT a9 (AM a1 (AE a12) (0,(0,(0,(false,()))))).1).getD 0)+((AT a9 (AM a1 (AE a12) (0,(0,(0,(false,()))))).2.1).getD 0))) 2)with
  |true=>some (.inl (a0,(Am a1 (AE a12) ((AM a1 (AE a12) (0,(0,(0,(false,()))))).1,((AM a1 (AE a12) (0,(0,(0,(false,()))))).2.1,((Bt a7 (IntKind.wrap .i64 ((AM a1 (AE a12) (0,(0,(0,(false,()))))).2.2.1+1))),((AM a1 (AE a12) (0,(0,(0,(false,()))))).2.2.2.1,()))))),a2,a3,a4,a5,(IntKind.wrap .i64 (a6+1)),a7,a8,a9,a10,a11,(IntKind.wrap .i64 (a12+1)),()))
  |false=>some (.inl (a0,a1,a2,a3,a4,a5,a6,a7,a8,a9,a10,a11,(IntKind.wrap .i64 (a12+1)),()))
 |false=>some (.inr (.inl (a0,a1,a2,a3,a4,a5,a6,a7,a9,a10,())))
abbrev AZL:AF:=[(.obj 0,.box 8),(.cell 0 0,.di),(.cell 0 1,.own 44 U1),(.cell 0 2,.dat .bool),(.cell 0 3,.dat .bool),(.cell 0 4,.di),(.cell 0 5,.di),(.cell 0 6,.di),(.cell 0 7,.di),(.obj 1,.own' 1),(.tmp 0,.ptr' 0 0),(.tmp 3,.di),(.tmp 11,.box 1),(.cell 2 0,.map U0 U0),(.tmp 32,.own 3 U0),(.tmp 33,.di),(.tmp 34,.di)]
abbrev AZH:A0:=[(.exit 0,[(.obj 0,.box 8),(.cell 0 0,.di),(.cell 0 1,.own 44 U1),(.cell 0 2,.dat .bool),(.cell 0 3,.dat .bool),(.cell 0 4,.di),(.cell 0 5,.di),(.cell 0 6,.di),(.cell 0 7,.di),(.obj 1,.own' 1),(.tmp 0,.ptr' 0 0),(.tmp 3,.di),(.tmp 11,.box 1),(.cell 2 0,.map U0 U0)])]
def Le[Lk]:Un→Option (Un⊕(Int×List U2×Bool×Bool×Int×Int×Int×Int×Int×List Uv×Unit)⊕Unit):=fun(a0,a1,a2,a3,a4,a5,a6,a7,a8,a9,a10,a11,a12,_)=>
 match(ilt a12 a11)with
 |true=>match idx a10 a12 with|none=>none|some x0=>some (.inl (a0,a1,a2,a3,a4,a5,a6,a7,a8,(Af a9 (AM a10 (AE a12) 0) 1),a10,a11,(IntKind.wrap .i64 (a12+1)),()))
 |false=>some (.inr (.inl (a0,a1,a2,a3,a4,a5,a6,a7,a8,a9,())))
def ATG[Lk]:(Int×List U2×Bool×Bool×Int×Int×Int×Int×Int×Int×Int×Unit)→Option ((Int×List U2×Bool×Bool×Int×Int×Int×Int×Bool×Unit)):=fun(a0,a1,a2,a3,a4,a5,a6,a7,a8,a9,a10,_)=>
 match Pe ((a0,(a1,())),a8,a9,a10,())with|none=>none|some (y0,y1,_)=>match AS Le many (a0,a1,a2,a3,a4,a5,a6,a7,a10,([]:List Uv),y0,(AO y0),0,())with|none=>none|some r=>match r with
 |.inl (o2,o3,o4,o5,o6,o7,o8,o9,o10,o11,_)=>match AS Ld many (o2,o3,o4,o5,o6,o7,o8,o9,o10,o11,([]:List (Int)),(AO o3),0,())with|none=>none|some r=>match r with
  |.inl (o12,o13,o14,o15,o16,o17,o18,o19,o20,o21,_)=>match AS Lc many (o12,o13,o14,o15,o16,o17,o18,o19,o20,o21,(AO o21),0,())with|none=>none|some r=>match r with
   |.inl (o22,o23,o24,o25,o26,o27,o28,o29,_)=>some (o22,o23,o24,o25,o26,o27,o28,o29,false,())
   |.inr r=>match r with
   |.inl (o30,o31,o32,o33,o34,o35,o36,o37,o38,_)=>some (o30,o31,o32,o33,o34,o35,o36,o37,o38,())
   |.inr _=>none
  |.inr _=>none
 |.inr _=>none
def pat[Lk]:=fun v=>Lk.f (ATG v)
theorem AZN v:pat v=ATG v:=AI _
abbrev APM:AF:=[(.tmp 0,.dat Ua),(.tmp 1,.di),(.tmp 2,.di)]
abbrev APL:AF:=[(.tmp 0,.di),(.tmp 1,.dat Ur),(.tmp 2,.dat Us),(.tmp 3,.di)]
abbrev APK:List RS:=[.agg 2,.one,.one]
abbrev AS8:AF:=[(.tmp 6,.box 2),(.cell 0 0,.di),(.cell 0 1,.nil U1),(.tmp 7,.box 5),(.cell 1 0,.dat .bool),(.cell 1 1,.dat .bool),(.cell 1 2,.di),(.cell 1 3,.di),(.cell 1 4,.di),(.tmp 11,.box 4),(.cell 2 0,.di),(.cell 2 1,.di),(.cell 2 2,.di),(.cell 2 3,.dat .bool),(.tmp 12,.box 8),(.cell 3 0,.di),(.cell 3 1,.own 44 U1),(.cell 3 2,.dat .bool),(.cell 3 3,.dat .bool),(.cell 3 4,.di),(.cell 3 5,.di),(.cell 3 6,.di),(.cell 3 7,.di),(.tmp 13,.di)]
abbrev AS7:A0:=[(.exit 0,[(.tmp 6,.box 2),(.cell 0 0,.di),(.cell 0 1,.nil U1),(.tmp 7,.box 5),(.cell 1 0,.dat .bool),(.cell 1 1,.dat .bool),(.cell 1 2,.di),(.cell 1 3,.di),(.cell 1 4,.di),(.tmp 12,.box 8),(.cell 2 0,.di),(.cell 2 1,.own 44 U1),(.cell 2 2,.dat .bool),(.cell 2 3,.dat .bool),(.cell 2 4,.di),(.cell 2 5,.di),(.cell 2 6,.di),(.cell 2 7,.di)])]
def D3[Lk]:Ul→Option (Ul⊕(Int×Bool×Bool×Int×Int×Int×Int×List U2×Bool×Bool×Int×Int×Int×Int×Unit)⊕Unit):=fun(a0,a1,a2,a3,a4,a5,a6,a7,a8,a9,a10,a11,a12,a13,a14,a15,a16,a17,a18,_)=>
 match a9 with
 |true=>match(ile 0 a18)with
  |true=>match pat (a10,a11,a12,a13,a14,a15,a16,a17,a6,a7,a18,())with|none=>none|some (y0,y1,y2,y3,y4,y5,y6,y7,y8,_)=>match(!y8)with
   |true=>some (.inl (a0,a1,a2,a3,a4,a5,a6,a7,a8,a9,y0,y1,y2,y3,y4,y5,y6,y7,(IntKind.wrap .i64 (a18-1)),()))
   |false=>some (.inr (.inl (a0,a1,a2,a3,a4,a5,y0,y1,y2,y3,y4,y5,y6,y7,())))
  |false=>some (.inr (.inl (a0,a1,a2,a3,a4,a5,a10,a11,a12,a13,a14,a15,a16,a17,())))
 |false=>some (.inr (.inl (a0,a1,a2,a3,a4,a5,a10,a11,a12,a13,a14,a15,a16,a17,())))
def Yb[Lk]:V5→Option ((Int×List U2×Uo×Int×Unit)):=fun(a0,a1,a2,_)=>
 match OJ ((a0.1,(a0.2.1,())),a1,a2,())with|none=>none|some (y0,y1,_)=>match(!(ieq y1 0))with
 |true=>some (a0.1,a0.2.1,(false,(false,((0,(0,())),(0,())))),y1,())
 |false=>match idx a0.2.1 y0 with|none=>none|some x2=>match Bz a0.2.1 0 y0 with|none=>none|some x3=>match Bz a0.2.1 (IntKind.wrap .i64 (y0+1)) (AO a0.2.1)with|none=>none|some x4=>match NM (([x3,x4]:List (List U2)),())with|none=>none|some (y5,_)=>match ACh (a0.1,())with|none=>none|some (y6,_)=>match AS D3 many (0,false,false,0,0,0,x2.1,x2.2.1,x2.2.2.1,x2.2.2.2.1,a0.1,y5,x2.2.2.2.1,false,0,0,0,y6,x2.2.2.1,())with|none=>none|some r=>match r with
 |.inl (o7,o8,o9,o10,o11,o12,o13,o14,o15,o16,o17,o18,o19,o20,_)=>some (o13,o14,(o15,(o16,((o17,(o18,())),(o19,())))),0,())
 |.inr _=>none
def Yc[Lk]:=fun v=>Lk.f (Yb v)
theorem AF6 v:Yc v=Yb v:=AI _
abbrev AGI:AF:=[(.tmp 0,.dat Ua),(.tmp 1,.dat Ut)]
abbrev AGH:AF:=[(.tmp 0,.dat Ua),(.tmp 1,.own 71 Us),(.tmp 2,.di)]
abbrev AGG:List RS:=[.one,.one,.one]
abbrev AKh:AF:=[(.tmp 2,.box 2),(.cell 0 0,.di),(.cell 0 1,.dat Ur),(.tmp 4,.box 2),(.cell 1 0,.di),(.cell 1 1,.nil U1),(.tmp 9,.own 71 Us),(.tmp 10,.box 2),(.cell 3 0,.di),(.cell 3 1,.dat Ur),(.tmp 27,.own 42 U5),(.tmp 28,.di),(.tmp 29,.di)]
abbrev AKg:A0:=[(.ret,[(.tmp 4,.box 2),(.cell 0 0,.di),(.cell 0 1,.dat Ur),(.tmp 5,.nil Us),(.tmp 6,.di)]),(.exit 0,[(.tmp 4,.box 2),(.cell 0 0,.di),(.cell 0 1,.nil U1),(.tmp 9,.own 71 Us),(.tmp 10,.box 2),(.cell 2 0,.di),(.cell 2 1,.dat Ur)])]
def Y1[Lk]:Vk→Option (Vk⊕(Int×List U2×Int×Unit)⊕(Int×List Uo×Int×List U2×Unit)⊕Unit):=fun(a0,a1,a2,a3,a4,a5,a6,a7,a8,_)=>
 match(ilt a8 a7)with
 |true=>match idx a6 a8 with|none=>none|some x0=>match Yc ((a4,(a5,())),(AM a6 (AE a8) (0,(0,()))).1,(AM a6 (AE a8) (0,(0,()))).2.1,())with|none=>none|some (y1,y2,y3,y4,_)=>match(!(ieq y4 0))with
  |true=>some (.inr (.inl (a0,a1,y4,())))
  |false=>match(fits ((AO a3)+(AO ([(y3.1,(y3.2.1,((y3.2.2.1.1,(y3.2.2.1.2.1,())),(y3.2.2.2.1,()))))]:List Uo))))with
  |true=>some (.inl (a0,a1,a2,(A4 a3 ([(y3.1,(y3.2.1,((y3.2.2.1.1,(y3.2.2.1.2.1,())),(y3.2.2.2.1,()))))]:List Uo)),y1,y2,a6,a7,(IntKind.wrap .i64 (a8+1)),()))
  |false=>none
 |false=>some (.inr (.inr (.inl (a2,a3,a4,a5,()))))
def AGK[Lk]:(Ue×List U3×Unit)→Option ((Ue×List Uo×Int×Unit)):=fun(a0,a1,_)=>
 match UD ((a0.1,(a0.2.1,())),a1,())with|none=>none|some (y0,y1,_)=>match(!(ieq y1 0))with
 |true=>some ((a0.1,(a0.2.1,())),([]:List Uo),y1,())
 |false=>match AS Y1 many (a0.1,a0.2.1,0,([]:List Uo),a0.1,a0.2.1,y0,(AO y0),0,())with|none=>none|some r=>match r with
 |.inl (o2,o3,o4,_)=>some ((o2,(o3,())),([]:List Uo),o4,())
 |.inr r=>match r with
 |.inl (o5,o6,o7,o8,_)=>some ((o7,(o8,())),o6,0,())
 |.inr _=>none
def AS9[Lk]:=fun v=>Lk.f (AGK v)
theorem AY8 v:AS9 v=AGK v:=AI _
abbrev Td:AF:=[]
abbrev Tc:AF:=[(.tmp 0,.dat .bool)]
abbrev Tb:List RS:=[.one]
def Te[Lk]:(Unit)→Option (Ug):=fun _=>
 match Yc ((4,(([(0,(1,(0,(true,())))),(0,(2,(0,(true,())))),(1,(2,(0,(false,())))),(2,(3,(0,(true,()))))]:List U2),())),1,0,())with|none=>none|some (y0,y1,y2,y3,_)=>match AS9 ((4,(([(0,(1,(0,(true,())))),(0,(2,(0,(true,())))),(1,(2,(0,(false,())))),(2,(3,(0,(true,()))))]:List U2),())),([(3,(2,())),(0,(1,())),(1,(3,())),(1,(0,()))]:List U3),())with|none=>none|some (y4,y5,y6,_)=>match Pe ((y0,(y1,())),0,3,1,())with|none=>none|some (y7,y8,_)=>match UD ((4,(([(0,(1,(0,(true,())))),(0,(2,(0,(true,())))),(1,(2,(0,(false,())))),(2,(3,(0,(true,()))))]:List U2),())),([(2,(1,())),(3,(0,()))]:List U3),())with|none=>none|some (y9,y10,_)=>match Yc ((4,(([(0,(1,(0,(true,())))),(0,(2,(0,(true,())))),(1,(2,(0,(false,())))),(2,(3,(0,(true,()))))]:List U2),())),0,3,())with|none=>none|some (y11,y12,y13,y14,_)=>match Pe ((4,(([(0,(1,(0,(true,())))),(0,(2,(0,(true,())))),(1,(2,(0,(false,())))),(2,(3,(0,(true,()))))]:List U2),())),0,3,0,())with|none=>none|some (y15,y16,_)=>match(ieq y3 0)with
 |true=>match(ieq y6 0)with
  |true=>match(ieq y8 0)with
   |true=>match(ieq y10 0)with
    |true=>match(ieq y14 6)with
     |true=>match(ieq y16 5)with
      |true=>match((y2.1==true)&&((y2.2.1==true)&&(ieq y2.2.2.1.1 1&&(ieq y2.2.2.1.2.1 2&&(ieq y2.2.2.2.1 0&&true)))))with
       |true=>match OF ((y0,(y1,())),(4,(([(0,(2,(0,(true,())))),(1,(2,(0,(true,())))),(2,(3,(0,(true,()))))]:List U2),())),())with|none=>none|some (y17,_)=>match y17 with
        |true=>match(ieq (AO y5) 2)with
         |true=>match idx y5 1 with|none=>none|some x18=>match(((AM y5 1 (false,(false,((0,(0,())),(0,()))))).1==true)&&(((AM y5 1 (false,(false,((0,(0,())),(0,()))))).2.1==false)&&(ieq (AM y5 1 (false,(false,((0,(0,())),(0,()))))).2.2.1.1 0&&(ieq (AM y5 1 (false,(false,((0,(0,())),(0,()))))).2.2.1.2.1 0&&(ieq (AM y5 1 (false,(false,((0,(0,())),(0,()))))).2.2.2.1 0&&true)))))with
          |true=>match(ieq (AO y4.2.1) 2)with
           |true=>match Oe (y7,([0]:List (Int)),())with|none=>none|some (y19,_)=>match y19 with
            |true=>match Ro (y9,([(1,(2,()))]:List U3),())with|none=>none|some (y20,_)=>some (y20,())
            |false=>some (false,())
           |false=>some (false,())
          |false=>some (false,())
         |false=>some (false,())
        |false=>some (false,())
       |false=>some (false,())
      |false=>some (false,())
     |false=>some (false,())
    |false=>some (false,())
   |false=>some (false,())
  |false=>some (false,())
 |false=>some (false,())
def Iw[Lk]:=fun v=>Lk.f (Te v)
theorem ASW v:Iw v=Te v:=AI _
abbrev S9:AF:=[(.tmp 0,.dat Ua),(.tmp 1,.dat Ut)]
abbrev S8:AF:=[(.tmp 0,.dat .bool)]
abbrev S7:List RS:=[.one]
def NI[Lk]:(Ue×List U3×Unit)→Option (Ug):=fun(a0,a1,_)=>
 match(ilt 30 (AO a0.2.1))with
 |true=>some (true,())
 |false=>match(ilt 12 a0.1)with
 |true=>some (true,())
 |false=>some ((ilt 12 (AO a1)),())
def NJ[Lk]:=fun v=>Lk.f (NI v)
theorem AAS v:NJ v=NI v:=AI _
abbrev Hf:AF:=[(.tmp 0,.dat Ua),(.tmp 1,.dat Ut),(.tmp 2,.dat (.arr 3 U0))]
abbrev He:AF:=[(.tmp 0,.dat .bool)]
abbrev Hd:List RS:=[.one]
def Em[Lk]:(Ue×List U3×List Int×Unit)→Option (Ug):=fun(a0,a1,a2,_)=>
 match Iw ()with|none=>none|some (y0,_)=>match(!y0)with
 |true=>some (false,())
 |false=>match NJ ((a0.1,(a0.2.1,())),a1,())with|none=>none|some (y1,_)=>match y1 with
 |true=>some (true,())
 |false=>match(fits ((AO ([]:List U2))+(AO a0.2.1)))with
 |true=>match Yc ((a0.1,((A4 ([]:List U2) a0.2.1),())),(AM a2 0 0),(AM a2 1 0),())with|none=>none|some (y2,y3,y4,y5,_)=>match VE ((a0.1,(a0.2.1,())),(AM a2 0 0),(AM a2 1 0),())with|none=>none|some (y6,y7,y8,y9,_)=>match Pe ((a0.1,((A4 ([]:List U2) a0.2.1),())),(AM a2 0 0),(AM a2 1 0),(AM a2 2 0),())with|none=>none|some (y10,y11,_)=>match OD ((a0.1,(a0.2.1,())),(AM a2 0 0),(AM a2 1 0),(AM a2 2 0),())with|none=>none|some (y12,y13,_)=>match UD ((a0.1,((A4 ([]:List U2) a0.2.1),())),a1,())with|none=>none|some (y14,y15,_)=>match TB ((a0.1,(a0.2.1,())),a1,())with|none=>none|some (y16,y17,_)=>match OF ((y2,(y3,())),(y6,(y7,())),())with|none=>none|some (y18,_)=>match y18 with
  |true=>match((y4.1==y8.1)&&((y4.2.1==y8.2.1)&&(ieq y4.2.2.1.1 y8.2.2.1.1&&(ieq y4.2.2.1.2.1 y8.2.2.1.2.1&&(ieq y4.2.2.2.1 y8.2.2.2.1&&true)))))with
   |true=>match(ieq y5 y9)with
    |true=>match Oe (y10,y12,())with|none=>none|some (y19,_)=>match y19 with
     |true=>match(ieq y11 y13)with
      |true=>match Ro (y14,y16,())with|none=>none|some (y20,_)=>match y20 with
       |true=>match(ieq y15 y17)with
        |true=>match OF ((a0.1,((A4 ([]:List U2) a0.2.1),())),(a0.1,(a0.2.1,())),())with|none=>none|some (y21,_)=>some (y21,())
        |false=>some (false,())
       |false=>some (false,())
      |false=>some (false,())
     |false=>some (false,())
    |false=>some (false,())
   |false=>some (false,())
  |false=>some (false,())
 |false=>none
def DZ[Lk]:=fun v=>Lk.f (Em v)
theorem Kw v:DZ v=Em v:=AI _
end
end Go.Pev
end
section
namespace Go.Pev
noncomputable section
attribute [local irreducible] MA JB Ng Kv AWT AWU AWV Pc WH WC X1 JD AQ many IntKind.wrap AO Am AM A4 Bi DR Je AE BV Bt imax AT Af
end
end Go.Pev
end
section

end
section
namespace Go.Pev.Pl
theorem Aj{n:Int}(h:-9223372036854775808≤n∧n≤9223372036854775807):IntKind.wrap .i64 n=n:=IntWalk.i64_in n h
section
variable {α:Type} [Inhabited α]
theorem Ah{d:Array α}{n:Nat}(h:n<d.size):idx d.toList (n:Int)=some d[n]! := by
 rw[idx_eq,Ng,AfM (by omega)]
 simp[h]
theorem Aq{d:Array α}{n:Nat}{z:α}(h:n<d.size):AM d.toList (AE (n:Int)) z=d[n]! := by
 simp[AM,AE,h]
theorem Cs{d:Array α}{n:Nat}{x:α}:Am d.toList (AE (n:Int)) x=(d.setIfInBounds n x).toList:=by
 simp[Am,AE]
theorem AIF{d:Array α}:AO d.toList=(d.size:Int):=by simp[AO]
theorem Cx(d:Array α)(i j:Nat):(d.setIfInBounds i d[j]!).setIfInBounds j d[i]! = Go.Sort.swp d i j:=rfl
theorem size_swp(d:Array α)(i j:Nat):(Go.Sort.swp d i j).size=d.size:=by simp[Go.Sort.swp]
end
theorem AJ(a b:Nat):ilt (a:Int) (b:Int)=decide (a<b):=by rw[Al];simp
theorem Bx(a b:Nat):ile (a:Int) (b:Int)=decide (a≤b):=by rw[Ap];simp
theorem QM(a b:Nat):ieq (a:Int) (b:Int)=decide (a=b):=by
 rw[Dr]
 by_cases h:a=b
 ·simp[h]
 ·simp[h];omega
section
theorem wrap_add{a b:Nat}(h:a+b<9223372036854775808):IntKind.wrap .i64 ((a:Int)+(b:Int))=((a+b:Nat):Int):=by rw[Aj (by omega)];omega
theorem AH{a:Nat}(h:a+1<9223372036854775808):IntKind.wrap .i64 ((a:Int)+1)=((a+1:Nat):Int):=by rw[Aj (by omega)];omega
theorem ADA{a:Nat}(h:2*a<9223372036854775808):IntKind.wrap .i64 ((2:Int)*(a:Int))=((2*a:Nat):Int):=by rw[Aj (by omega)];omega
theorem AC9{a:Nat}(h:a<9223372036854775808):IntKind.wrap .i64 ((a:Int)*1)=((a*1:Nat):Int):=by rw[Aj (by omega)];omega
theorem EP{a:Nat}(h:a*2<9223372036854775808):IntKind.wrap .i64 ((a:Int)*2)=((a*2:Nat):Int):=by rw[Aj (by omega)];omega
theorem AC8{a:Nat}(h:a*3<9223372036854775808):IntKind.wrap .i64 ((a:Int)*3)=((a*3:Nat):Int):=by rw[Aj (by omega)];omega
theorem Bc{a b:Nat}(h:b≤a∧a<9223372036854775808):IntKind.wrap .i64 ((a:Int)-(b:Int))=((a-b:Nat):Int):=by rw[Aj (by omega)];omega
theorem An{a:Nat}(h:1≤a∧a<9223372036854775808):IntKind.wrap .i64 ((a:Int)-1)=((a-1:Nat):Int):=by rw[Aj (by omega)];omega
theorem Adk{a:Nat}(h:a<9223372036854775808):quo? .i64 (a:Int) 2=some ((a/2:Nat):Int):=by
 rw[Rv,Pc,AfM (by omega),Ag5 (by omega),Aj (by omega)];rfl
theorem T9{a:Nat}(h:a<9223372036854775808):quo? .i64 (a:Int) 4=some ((a/4:Nat):Int):=by
 rw[Rv,Pc,AfM (by omega),Ag5 (by omega),Aj (by omega)];rfl
theorem Adj{a:Nat}(h:a<9223372036854775808):quo? .i64 (a:Int) 8=some ((a/8:Nat):Int):=by
 rw[Rv,Pc,AfM (by omega),Ag5 (by omega),Aj (by omega)];rfl
end
end Go.Pev.Pl
end
section
namespace Go.Pev.Pl
section
variable {α:Type}
theorem Ci{xs:List α}{n:Nat}(z:α)(h:n<xs.length):idx xs (n:Int)=some (xs.getD n z):=by
 rw[idx_eq,Ng,AfM (by omega)]
 simp[h]
theorem AHa(xs:List α)(n:Nat):idx xs (n:Int)=xs[n]? := by
 rw[idx_eq,Ng,AfM (by omega)]
 simp
theorem Ev(xs:List α):idx xs (0:Int)=xs.head? := by
 rw[idx_eq,Ng,AfM (by omega)]
 cases xs<;>rfl
theorem E2(xs:List α)(n:Nat)(z:α):AM xs (AE (n:Int)) z=xs.getD n z:=by simp[AM,AE]
theorem AAt(xs:List α)(n:Nat)(x:α):Am xs (AE (n:Int)) x=xs.set n x:=by simp[Am,AE]
theorem AN(xs:List α):AO xs=(xs.length:Int):=rfl
theorem IA(n:Nat):AE (n:Int)=n:=by simp[AE]
theorem Cd(xs ys:List α):A4 xs ys=xs++ys:=rfl
theorem Rk{xs:List α}{l h:Nat}(h1:l≤h)(h2:h≤xs.length):Bz xs (l:Int) (h:Int)=some ((xs.take h).drop l):=by
 rw[Mk,Kv,AfQ (by omega)]
 simp
end
theorem BI{n:Int}(h:n≤4294967296):fits n=true:=(H6 n).2 h
theorem ASB{α:Type}{xs:List α}(h:xs.length≤4294967296):AIS xs=some xs:=by
 rw[AEY,JD,(TD _).2 (by rw[AN];omega)]
theorem QN{α β:Type}(xs:List α)(ys:List β):ieq (AO xs) (AO ys)=decide (xs.length=ys.length):=by rw[AN,AN,QM]
theorem Ao(a b:Int):ieq a b=decide (a=b):=by
 rw[Dr]
 by_cases h:a=b<;>simp[h]
def walk{α β ρ:Type}(f:β→α→α⊕ρ)(fin:α→ρ):List β→α→ρ
 |[],a=>fin a
 |x::xs,a=>match f x a with
  |.inl a=>walk f fin xs a
  |.inr r=>r
theorem AUI{σ ρ α β:Type}{step:σ→Option (σ⊕ρ)}(st:Nat→α→σ)(xs:List β)(f:β→α→α⊕ρ)(fin:α→ρ)(I:Nat→α→Prop)
  (h:∀ i x a,i<xs.length→xs[i]? = some x→I i a→(∀ a',f x a = .inl a'→step (st i a)=some (.inl (st (i+1) a'))∧I (i+1) a')∧(∀ r,f x a = .inr r→step (st i a)=some (.inr r)))
  (hN:∀ a,I xs.length a→step (st xs.length a)=some (.inr (fin a))) :
  ∀ (m i n:Nat) (a:α),xs.length-i=m→i≤xs.length→m<n→I i a→AQ step n (st i a)=some (walk f fin (xs.drop i) a):=by
 intro m
 induction m with
 |zero=>
  intro i n a hk hi hn hI
  obtain⟨n,rfl⟩:∃ k,n=k+1:=⟨n-1,by omega⟩
  have e:i=xs.length:=by omega
  subst e
  rw[AQ,hN a hI,List.drop_length]
  rfl
 |succ m ih=>
  intro i n a hk hi hn hI
  obtain⟨n,rfl⟩:∃ k,n=k+1:=⟨n-1,by omega⟩
  have hi':i<xs.length:=by omega
  obtain⟨g1,g2⟩:=h i xs[i] a hi' (by simp[hi']) hI
  rw[Afw hi',walk,AQ]
  cases hf:f xs[i] a with
  |inl a'=>
   obtain⟨e,hI'⟩:=g1 a' hf
   rw[e]
   exact ih (i+1) n a' (by omega) (by omega) (by omega) hI'
  |inr r=>rw[g2 r hf]
theorem Cf{σ ρ α β:Type}{step:σ→Option (σ⊕ρ)}(st:Nat→α→σ)(xs:List β)(f:β→α→α⊕ρ)(fin:α→ρ)(I:Nat→α→Prop)(hs:xs.length<9223372036854775808)
  (h:∀ i x a,i<xs.length→xs[i]? = some x→I i a→(∀ a',f x a = .inl a'→step (st i a)=some (.inl (st (i+1) a'))∧I (i+1) a')∧(∀ r,f x a = .inr r→step (st i a)=some (.inr r)))
  (hN:∀ a,I xs.length a→step (st xs.length a)=some (.inr (fin a))) (a:α) (h0:I 0 a):AS step many (st 0 a)=some (walk f fin xs a):=by
 have hm:9223372036854775808<many:=by simp only[many];omega
 rw[Ag,AUI st xs f fin I h hN xs.length 0 many a (by omega) (by omega) (by omega) h0]
 rfl
theorem G4{α:Type}{xs ys:List α}(z:α)(hl:xs.length=ys.length)(h:∀ j,j<xs.length→xs.getD j z=ys.getD j z):xs=ys:=by
 apply Ah8 hl
 intro i h1 h2
 have:=h i h1
 simpa [h1,h2]using this
theorem VG{α:Type}{xs ys:List α}(z:α){j:Nat}(h:xs.getD j z≠ys.getD j z):xs≠ys:=fun e=>h (by rw[e])
theorem AUl{σ ρ:Type}{step:σ→Option (σ⊕ρ)}(st:Nat→σ)(N:Nat)(P:Nat→Bool)(rt:Nat→ρ)(rf:ρ)
  (h:∀ i,i<N→step (st i)=if P i then some (.inr (rt i))else some (.inl (st (i+1)))) (hN:step (st N)=some (.inr rf)) :
  ∀ (m i n:Nat),N-i=m→i≤N→m<n→(∃ k,i≤k∧k<N∧P k=true∧(∀ j,i≤j→j<k→P j=false)∧AQ step n (st i)=some (rt k))∨((∀ j,i≤j→j<N→P j=false)∧AQ step n (st i)=some rf):=by
 intro m
 induction m with
 |zero=>
  intro i n hk hi hn
  obtain⟨n,rfl⟩:∃ k,n=k+1:=⟨n-1,by omega⟩
  have e:i=N:=by omega
  subst e
  exact .inr ⟨fun j h1 h2=>by omega,by rw[AQ,hN]⟩
 |succ m ih=>
  intro i n hk hi hn
  obtain⟨n,rfl⟩:∃ k,n=k+1:=⟨n-1,by omega⟩
  have hi':i<N:=by omega
  cases hP:P i
  ·have e:AQ step (n+1) (st i)=AQ step n (st (i+1)):=by rw[AQ,h i hi',hP];rfl
   rw[e]
   rcases ih (i+1) n (by omega) (by omega) (by omega)with⟨k,h1,h2,h3,h4,h5⟩|⟨h1,h2⟩
   ·refine .inl ⟨k,by omega,h2,h3,fun j a1 a2 => ?_,h5⟩
    by_cases ej:j=i
    ·subst ej;exact hP
    ·exact h4 j (by omega) a2
   ·refine .inr ⟨fun j a1 a2 => ?_,h2⟩
    by_cases ej:j=i
    ·subst ej;exact hP
    ·exact h1 j (by omega) a2
  ·exact .inl ⟨i,AfN _,hi',hP,fun j a1 a2=>by omega,by rw[AQ,h i hi',hP];rfl⟩
theorem X2{σ ρ:Type}{step:σ→Option (σ⊕ρ)}(st:Nat→σ)(N:Nat)(P:Nat→Bool)(rt:Nat→ρ)(rf:ρ)(hs:N<9223372036854775808)
  (h:∀ i,i<N→step (st i)=if P i then some (.inr (rt i))else some (.inl (st (i+1)))) (hN:step (st N)=some (.inr rf)) :
  (∃ k,k<N∧P k=true∧(∀ j,j<k→P j=false)∧AS step many (st 0)=some (rt k))∨((∀ j,j<N→P j=false)∧AS step many (st 0)=some rf):=by
 have hm:9223372036854775808<many:=by simp only[many];omega
 rw[Ag]
 rcases AUl st N P rt rf h hN N 0 many rfl (by omega) (by omega)with⟨k,h1,h2,h3,h4,h5⟩|⟨h1,h2⟩
 ·exact .inl ⟨k,h2,h3,fun j a=>h4 j (by omega) a,h5⟩
 ·exact .inr ⟨fun j a=>h1 j (by omega) a,h2⟩
end Go.Pev.Pl
end
section
namespace Go.Pev.Pl
inductive Tok where
 |ver (v:Int)
 |arc (u v:Int)
 deriving DecidableEq
namespace Tok
def st:Tok→Int
 |.ver v=>v
 |.arc _ v=>v
def step(s:List Int×List Int):Tok→Option (List Int×List Int)
 |.ver v=>match s.1 with
  |w::_=>if w=v then some s else none
  |[]=>none
 |.arc u v=>match s.1 with
  |w::r=>if w=u then match r with
    |p::r'=>if p=v then some (p::r',s.2)else if v∈s.2 then none else some (v::w::r,v::s.2)
    |[]=>if v∈s.2 then none else some (v::w::r,v::s.2)
   else none
  |[]=>none
def run:List Int×List Int→List Tok→Option (List Int×List Int)
 |s,[]=>some s
 |s,t::l=>match step s t with
  |some s=>run s l
  |none=>none
theorem DH(s:List Int×List Int)(a b:List Tok):run s (a++b)=(run s a).bind fun s=>run s b:=by
 induction a generalizing s with
 |nil=>rfl
 |cons t a ih=>
  simp only[Afd,run]
  cases step s t with
  |none=>rfl
  |some s=>exact ih s
theorem B0{s s':List Int×List Int}{t:Tok}(h:step s t=some s'):
  (∃ v r,t = .ver v∧s.1=v::r∧s'=s) ∨
  (∃ u v r,t = .arc u v∧s.1=u::v::r∧s'=(v::r,s.2)) ∨
  (∃ u v r,t = .arc u v∧s.1=u::r∧r.head?≠some v∧v∉s.2∧s'=(v::u::r,v::s.2)):=by
 obtain⟨way,c⟩:=s
 cases t with
 |ver v=>
  cases way with
  |nil=>simp[step]at h
  |cons w r=>
   simp only[step]at h
   split at h
   ·rename_i e;cases h;exact .inl ⟨v,r,rfl,by simp[e],rfl⟩
   ·cases h
 |arc u v=>
  cases way with
  |nil=>simp[step]at h
  |cons w r=>
   simp only[step]at h
   split at h
   ·rename_i e
    subst e
    cases r with
    |nil=>
     simp only at h
     split at h
     ·cases h
     ·rename_i hc;cases h;exact .inr (.inr ⟨w,v,[],rfl,rfl,by simp,hc,rfl⟩)
    |cons p r=>
     simp only at h
     split at h
     ·rename_i e;subst e;cases h;exact .inr (.inl ⟨w,p,r,rfl,rfl,rfl⟩)
     ·split at h
      ·cases h
      ·rename_i e hc;cases h;exact .inr (.inr ⟨w,v,p::r,rfl,rfl,by simpa using e,hc,rfl⟩)
   ·cases h
theorem DD(v:Int)(r c:List Int):step (v::r,c) (.ver v)=some (v::r,c):=by simp[step]
theorem GK(u v:Int)(r c:List Int):step (u::v::r,c) (.arc u v)=some (v::r,c):=by simp[step]
theorem FJ(u v:Int)(r c:List Int)(h1:r.head?≠some v)(h2:v∉c):step (u::r,c) (.arc u v)=some (v::u::r,v::c):=by
 cases r with
 |nil=>simp[step,h2]
 |cons p r=>
  have:p≠v:=by simpa using h1
  simp[step,h2,this]
def Inv(s:List Int×List Int):Prop:=s.1.Nodup∧(∀ x∈s.1,x∈s.2)
theorem Xt{s s':List Int×List Int}{t:Tok}(h:step s t=some s')(hi:Inv s):Inv s'∧(∀ x∈s.2,x∈s'.2)∧s'.1.head? = some t.st:=by
 obtain⟨way,c⟩:=s
 obtain⟨h1,h2⟩:=hi
 rcases B0 h with⟨v,r,rfl,hw,rfl⟩|⟨u,v,r,rfl,hw,rfl⟩|⟨u,v,r,rfl,hw,_,hn,rfl⟩
 ·exact⟨⟨h1,h2⟩,fun x hx=>hx,by rw[hw];rfl⟩
 ·simp only at hw h1 h2
  subst hw
  refine⟨⟨?_,?_⟩,fun x hx=>hx,rfl⟩
  ·exact(Aff.1 h1).2
  ·intro x hx;exact h2 x (by simp only at hx;simp[AfG.1 hx])
 ·simp only at hw h1 h2 hn
  subst hw
  refine⟨⟨?_,?_⟩,fun x hx=>by simp[hx],rfl⟩
  ·exact Aff.2 ⟨fun hm=>hn (h2 _ hm),h1⟩
  ·intro x hx
   rcases AfG.1 hx with rfl|hx
   ·simp
   ·exact AfZ _ (h2 x hx)
theorem IX{l:List Tok}:∀ {s s':List Int×List Int},run s l=some s'→Inv s→Inv s'∧(∀ x∈s.2,x∈s'.2)∧∀ t,l.getLast? = some t→s'.1.head? = some t.st:=by
 induction l with
 |nil=>intro s s' h hi;cases h;exact⟨hi,fun x hx=>hx,fun t ht=>by simp at ht⟩
 |cons t l ih=>
  intro s s' h hi
  simp only[run]at h
  split at h
  ·rename_i s1 h1
   obtain⟨q1,q2,q3⟩:=Xt h1 hi
   obtain⟨p1,p2,p3⟩:=ih h q1
   refine⟨p1,fun x hx=>p2 x (q2 x hx),fun t' ht' => ?_⟩
   cases l with
   |nil=>simp at ht';subst ht';simp only[run]at h;cases h;exact q3
   |cons y l=>exact p3 t' (by rw[Ahx]at ht';exact ht')
  ·cases h
theorem HF{Z:Int→Prop}:∀ {l:List Tok} {way way' c d c2 low:List Int},run (way,c) l=some (way',d)→way≠[]→(∀ x,x∈c2↔x∈c∨Z x) →
  (∀ u v,.arc u v∈l→¬ Z v)→(∀ y∈low,Z y)→∃ d2,run (way++low,c2) l=some (way'++low,d2)∧(∀ x,x∈d2↔x∈d∨Z x):=by
 intro l
 induction l with
 |nil=>intro way way' c d c2 low h _ hc _ _;cases h;exact⟨c2,rfl,hc⟩
 |cons t l ih=>
  intro way way' c d c2 low h hne hc hz hl
  simp only[run]at h
  split at h
  ·rename_i s1 h1
   have hz':∀ u v,Tok.arc u v∈l→¬ Z v:=fun u v hm=>hz u v (AfZ _ hm)
   rcases B0 h1 with⟨v,r,rfl,hw,rfl⟩|⟨u,v,r,rfl,hw,rfl⟩|⟨u,v,r,rfl,hw,hh,hn,rfl⟩
   ·simp only at hw
    subst hw
    obtain⟨d2,e1,e2⟩:=ih h hne hc hz' hl
    exact⟨d2,by simp only[run,Afd,DD];exact e1,e2⟩
   ·simp only at hw
    subst hw
    obtain⟨d2,e1,e2⟩:=ih h (by simp) hc hz' hl
    exact⟨d2,by simp only[run,Afd,GK];exact e1,e2⟩
   ·simp only at hw hn
    subst hw
    have hzv:=hz u v (by simp)
    have hn2:v∉c2:=by rw[hc];rintro (h|h);exact hn h;exact hzv h
    have hh2:(r++low).head?≠some v:=by
     cases r with
     |nil=>
      cases low with
      |nil=>simp
      |cons y low=>
       simp only[Afi,List.head?_cons,ne_eq,AfA]
       rintro rfl
       exact hzv (hl _ (by simp))
     |cons p r=>simpa using hh
    obtain⟨d2,e1,e2⟩:=ih (c2:=v::c2) h (by simp) (by intro x;simp only[AfG,hc,or_assoc]) hz' hl
    exact⟨d2,by simp only[run,Afd,FJ _ _ _ _ hh2 hn2];exact e1,e2⟩
  ·cases h
theorem YD{z:Int}:∀ {l:List Tok} {way way' c2 d2 c:List Int},run (way,c2) l=some (way',d2)→z∉way→(∀ x,x∈c2↔x∈c∨x=z)→z∉c →
  .ver z∉l∧∃ d,run (way,c) l=some (way',d)∧(∀ x,x∈d2↔x∈d∨x=z)∧z∉d:=by
 intro l
 induction l with
 |nil=>intro way way' c2 d2 c h _ hc hz;cases h;exact⟨by simp,c,rfl,hc,hz⟩
 |cons t l ih=>
  intro way way' c2 d2 c h hzw hc hz
  simp only[run]at h
  split at h
  ·rename_i s1 h1
   rcases B0 h1 with⟨v,r,rfl,hw,rfl⟩|⟨u,v,r,rfl,hw,rfl⟩|⟨u,v,r,rfl,hw,hh,hn,rfl⟩
   ·simp only at hw
    subst hw
    obtain⟨e0,d,e1,e2,e3⟩:=ih h hzw hc hz
    refine⟨?_,d,by simp only[run,DD];exact e1,e2,e3⟩
    rintro hm
    rcases AfG.1 hm with hm|hm
    ·cases hm;exact hzw (by simp)
    ·exact e0 hm
   ·simp only at hw
    subst hw
    obtain⟨e0,d,e1,e2,e3⟩:=ih h (fun hm=>hzw (AfZ _ hm)) hc hz
    refine⟨?_,d,by simp only[run,GK];exact e1,e2,e3⟩
    rintro hm
    rcases AfG.1 hm with hm|hm
    ·cases hm
    ·exact e0 hm
   ·simp only at hw hn
    subst hw
    have hvz:v≠z:=by rintro rfl;exact hn ((hc v).2 (.inr rfl))
    have hn':v∉c:=fun hm=>hn ((hc v).2 (.inl hm))
    obtain⟨e0,d,e1,e2,e3⟩:=ih (c:=v::c) h (by intro hm;rcases AfG.1 hm with hm|hm;exact hvz hm.symm;exact hzw hm)
     (by intro x;simp only[AfG,hc,or_assoc])
     (by intro hm;rcases AfG.1 hm with hm|hm;exact hvz hm.symm;exact hz hm)
    refine⟨?_,d,by simp only[run,FJ _ _ _ _ hh hn'];exact e1,e2,e3⟩
    rintro hm
    rcases AfG.1 hm with hm|hm
    ·cases hm
    ·exact e0 hm
  ·cases h
def Rot(a b:List Tok):Prop:=∃ x y,a=x++y∧b=y++x
theorem Rot.refl(a:List Tok):Rot a a:=⟨[],a,rfl,by simp⟩
theorem Rot.symm{a b:List Tok}(h:Rot a b):Rot b a:=by obtain⟨x,y,h1,h2⟩:=h;exact⟨y,x,h2,h1⟩
theorem Rot.trans{a b c:List Tok}(h:Rot a b)(g:Rot b c):Rot a c:=by
 obtain⟨x,y,rfl,h2⟩:=h
 obtain⟨z,w,h3,rfl⟩:=g
 rw[h2]at h3
 rcases List.append_eq_append_iff.1 h3 with⟨k,h4,h5⟩|⟨k,h4,h5⟩
 ·subst h4 h5
  exact⟨k,w++y,by simp,by simp⟩
 ·subst h4 h5
  exact⟨x++z,k,by simp,by simp⟩
theorem Rot.perm{a b:List Tok}(h:Rot a b):a.Perm b:=by
 obtain⟨x,y,rfl,rfl⟩:=h
 exact Agv
theorem Rot.mem{a b:List Tok}(h:Rot a b)(t:Tok):t∈a↔t∈b:=h.perm.mem_iff
theorem Rot.nodup{a b:List Tok}(h:Rot a b):a.Nodup↔b.Nodup:=h.perm.nodup_iff
theorem Rot.length{a b:List Tok}(h:Rot a b):a.length=b.length:=h.perm.length_eq
inductive T:List Tok→Prop
 |one (v:Int):T [.ver v]
 |add (x:Tok) (l:List Tok) (v:Int):T (x::l)→x.st≠v→.ver v∉x::l→T (x :: .arc x.st v :: .ver v :: .arc v x.st::l)
 |rot (a b:List Tok):T (a++b)→T (b++a)
theorem T.AQK{a b:List Tok}(h:T a)(r:Rot a b):T b:=by obtain⟨x,y,rfl,rfl⟩:=r;exact T.rot x y h
theorem T.facts{l:List Tok}(h:T l):l≠[]∧(∀ t∈l,.ver t.st∈l)∧(∀ u v,.arc u v∈l→.ver u∈l∧.ver v∈l∧.arc v u∈l∧u≠v):=by
 induction h with
 |one v=>exact⟨by simp,by simp[st],by simp⟩
 |add x l v h hne hv ih=>
  obtain⟨_,i2,i3⟩:=ih
  have hsub:∀ t,t∈x::l→t∈x::Tok.arc x.st v :: .ver v :: .arc v x.st::l:=by
   intro t ht
   rcases AfG.1 ht with rfl|ht
   ·simp
   ·simp[ht]
  have hx:=hsub _ (i2 x (by simp))
  have cases3:∀ t,t∈x::Tok.arc x.st v :: .ver v :: .arc v x.st::l→t∈x::l∨t = .arc x.st v∨t = .ver v∨t = .arc v x.st:=by
   intro t ht
   simp only[AfG]at ht ⊢
   rcases ht with h|h|h|h|h<;>simp[h]
  refine⟨by simp,fun t ht => ?_,fun a b hab => ?_⟩
  ·rcases cases3 t ht with h|rfl|rfl|rfl
   ·exact hsub _ (i2 t h)
   ·simp[st]
   ·simp[st]
   ·exact hx
  ·rcases cases3 _ hab with h|h|h|h
   ·obtain⟨p1,p2,p3,p4⟩:=i3 a b h
    exact⟨hsub _ p1,hsub _ p2,hsub _ p3,p4⟩
   ·cases h;exact⟨hx,by simp,by simp,hne⟩
   ·cases h
   ·cases h;exact⟨by simp,hx,by simp,Af0 hne⟩
 |rot a b h ih=>
  obtain⟨i1,i2,i3⟩:=ih
  have hm:∀ t,t∈a++b↔t∈b++a:=fun t=>List.perm_append_comm.mem_iff
  refine⟨by intro e;simp only[List.append_eq_nil_iff]at e;exact i1 (by simp[e.1,e.2]),fun t ht=>(hm _).1 (i2 t ((hm _).2 ht)),fun u v huv => ?_⟩
  obtain⟨p1,p2,p3,p4⟩:=i3 u v ((hm _).2 huv)
  exact⟨(hm _).1 p1,(hm _).1 p2,(hm _).1 p3,p4⟩
theorem T.nodup{l:List Tok}(h:T l):l.Nodup:=by
 induction h with
 |one v=>simp
 |add x l v h hne hv ih=>
  obtain⟨_,_,f3⟩:=h.facts
  have h1:Tok.arc x.st v∉x::l:=fun hm=>hv (f3 _ _ hm).2.1
  have h2:Tok.arc v x.st∉x::l:=fun hm=>hv (f3 _ _ hm).1
  simp only[AfG,not_or]at h1 h2 hv
  have ih':=Aff.1 ih
  simp only[Aff,AfG,not_or]
  refine⟨⟨fun e=>h1.1 e.symm,fun e=>hv.1 e.symm,fun e=>h2.1 e.symm,ih'.1⟩,⟨by simp,?_,h1.2⟩,⟨by simp,hv.2⟩,h2.2,ih'.2⟩
  intro e
  simp only[Tok.arc.injEq]at e
  exact hne e.1
 |rot a b h ih=>exact(List.perm_append_comm.nodup_iff).1 ih
def C(l:List Tok):Prop:=∀ r,Rot l r→∀ t,r.getLast? = some t→∃ c,run ([t.st],[t.st]) r=some ([t.st],c)∧∀ x,x∈c↔.ver x∈l
end Tok
end Go.Pev.Pl
end
section
namespace Go.Pev.Pl.Tok
theorem getLast?_app{a b:List Tok}{t:Tok}(h:b.getLast? = some t):(a++b).getLast? = some t:=by
 rw[AhN,h];rfl
theorem A1(s:List Int×List Int)(t:Tok)(l:List Tok):run s (t::l)=(step s t).bind fun s=>run s l:=by
 rw[run]
 cases step s t<;>rfl
theorem NW(v:Int):Inv ([v],[v]):=⟨by simp,by simp⟩
theorem T.toC{l:List Tok}(h:T l):C l:=by
 induction h with
 |one v=>
  intro r hr t ht
  have:r=[.ver v]:=List.perm_singleton.1 hr.perm.symm
  subst this
  simp at ht
  subst ht
  exact⟨[v],by simp[run,st,step],by simp⟩
 |rot a b h ih=>
  intro r hr t ht
  obtain⟨c,h1,h2⟩:=ih r (Rot.trans ⟨a,b,rfl,rfl⟩ hr) t ht
  exact⟨c,h1,fun x=>(h2 x).trans (List.perm_append_comm.mem_iff)⟩
 |add x l v h hne hv ih=>
  obtain⟨_,f2,f3⟩:=h.facts
  have hnz:∀ u w,Tok.arc u w∈x::l→¬ (w=v):=fun u w hm e=>hv (e▸(f3 u w hm).2.1)
  have fin:∀ {d2 c:List Int},(∀ y,y∈d2↔y∈c∨y=v)→(∀ y,y∈c↔.ver y∈x::l)→∀ y,y∈d2↔Tok.ver y∈x :: .arc x.st v :: .ver v :: .arc v x.st::l:=by
   intro d2 c e1 e2 y
   rw[e1,e2]
   simp only[AfG,reduceCtorEq,false_or,Tok.ver.injEq]
   constructor
   ·rintro ((h|h)|h)<;>simp[h]
   ·rintro (h|h|h)<;>simp[h]
  have triple:∀ {w' c1:List Int},Inv (x.st::w',c1)→v∉c1→∀ p,run (x.st::w',c1) (.arc x.st v :: .ver v :: .arc v x.st::p)=run (x.st::w',v::c1) p:=by
   intro w' c1 hi hn p
   have hh:w'.head?≠some v:=by
    intro e
    exact hn (hi.2 v (AfZ _ (List.mem_of_head? e)))
   rw[A1,FJ _ _ _ _ hh hn,Afr,A1,DD,Afr,A1,GK,Afr]
  have G:∀ q1 p1,l=p1++q1→∀ t,(q1++x :: .arc x.st v :: .ver v :: .arc v x.st::p1).getLast? = some t→∃ c,run ([t.st],[t.st]) (q1++x :: .arc x.st v :: .ver v :: .arc v x.st::p1)=some ([t.st],c)∧∀ y,y∈c↔.ver y∈x :: .arc x.st v :: .ver v :: .arc v x.st::l:=by
   intro q1 p1 hl t ht
   have hrot:Rot (x::l) (q1++x::p1):=⟨x::p1,q1,by simp[hl],rfl⟩
   have ht0:∃ t0,(q1++x::p1).getLast? = some t0∧t0.st=t.st:=by
    cases p1 with
    |nil=>
     refine⟨x,getLast?_app (by simp),?_⟩
     rw[show q1++[x,Tok.arc x.st v,.ver v,.arc v x.st]=(q1++[x,Tok.arc x.st v,.ver v])++[Tok.arc v x.st] by simp,Ag1]at ht
     cases ht;rfl
    |cons y p1=>
     refine⟨t,?_,rfl⟩
     rw[show q1++x::Tok.arc x.st v :: .ver v :: .arc v x.st::y::p1=(q1++[x,Tok.arc x.st v,.ver v,.arc v x.st])++y::p1 by simp,AhN]at ht
     rw[show q1++x::y::p1=(q1++[x])++y::p1 by simp,AhN]
     exact ht
   obtain⟨t0,e0,e1⟩:=ht0
   obtain⟨c,h1,h2⟩:=ih _ hrot t0 e0
   rw[e1,show q1++x::p1=(q1++[x])++p1 by simp,DH,Afq]at h1
   obtain⟨⟨w1,c1⟩,g1,g2⟩:=h1
   obtain⟨i1,i2,i3⟩:=IX g1 (NW _)
   obtain⟨j1,j2,j3⟩:=IX g2 i1
   have i3':=i3 x (by simp)
   simp only at i3'
   cases w1 with
   |nil=>simp at i3'
   |cons w0 w'=>
    simp at i3'
    subst i3'
    have hn:v∉c1:=fun hm=>hv ((h2 v).1 (j2 v hm))
    obtain⟨d2,k1,k2⟩:=HF (Z:=(· = v)) (c2:=v::c1) (low:=[]) g2 (by simp) (fun y=>by simp[or_comm]) (fun u w hm=>hnz u w (by simp[hl,hm])) (by simp)
    refine⟨d2,?_,fin k2 h2⟩
    rw[show q1++x::Tok.arc x.st v :: .ver v :: .arc v x.st::p1=(q1++[x])++Tok.arc x.st v :: .ver v :: .arc v x.st::p1 by simp,DH,g1,Afr,triple i1 hn]
    simpa using k1
  intro r hr t ht
  obtain⟨p,q,hpq,rfl⟩:=hr
  have base:∀ t0:Tok,(l++[x]).getLast? = some t0→t0=x:=fun t0 h=>by rw[Ag1]at h;exact(AgY h).symm
  obtain⟨c,h1,h2⟩:=ih (l++[x]) ⟨[x],l,rfl,rfl⟩ x (by simp)
  match p with
  |[]=>
   simp only[Afi]at hpq
   subst hpq
   have:=G [] l (by simp) t (by simpa using ht)
   simpa using this
  |[y]=>
   simp only[Afd,Afi,Afa]at hpq
   obtain⟨rfl,rfl⟩:=hpq
   have:t=x:=by
    rw[Ag1]at ht
    exact(AgY ht).symm
   subst this
   have hn:v∉[t.st]:=by simp;exact Af0 hne
   obtain⟨d2,k1,k2⟩:=HF (Z:=(· = v)) (c2:=[v,t.st]) (low:=[]) h1 (by simp) (fun y=>by simp[or_comm]) (fun u w hm=>hnz u w (by simpa [or_comm]using hm)) (by simp)
   refine⟨d2,?_,fin k2 h2⟩
   rw[show(Tok.arc t.st v :: .ver v :: .arc v t.st::l)++[t]=Tok.arc t.st v :: .ver v :: .arc v t.st::(l++[t]) by simp,triple (NW _) hn]
   simpa using k1
  |[y,z]=>
   simp only[Afd,Afi,Afa]at hpq
   obtain⟨rfl,rfl,rfl⟩:=hpq
   have:t = .arc x.st v:=by
    rw[show(Tok.ver v :: .arc v x.st::l)++[x,.arc x.st v]=(Tok.ver v :: .arc v x.st::l++[x])++[.arc x.st v] by simp,Ag1]at ht
    exact(AgY ht).symm
   subst this
   obtain⟨d2,k1,k2⟩:=HF (Z:=(· = v)) (c2:=[x.st,v]) (low:=[v]) h1 (by simp) (fun y=>by simp) (fun u w hm=>hnz u w (by simpa [or_comm]using hm)) (by simp)
   refine⟨d2,?_,fin k2 h2⟩
   rw[show(Tok.ver v :: .arc v x.st::l)++[x,.arc x.st v]=Tok.ver v :: .arc v x.st::((l++[x])++[.arc x.st v]) by simp]
   rw[A1]
   show(step ([v],[v]) _).bind _=_
   rw[DD,Afr,A1,FJ _ _ _ _ (by simp) (by simp;exact hne),Afr,DH]
   rw[show([x.st]++[v]:List Int)=[x.st,v]from rfl]at k1
   rw[k1,Afr,A1,GK]
   rfl
  |[y,z,w]=>
   simp only[Afd,Afi,Afa]at hpq
   obtain⟨rfl,rfl,rfl,rfl⟩:=hpq
   have:t = .ver v:=by
    rw[show(Tok.arc v x.st::l)++[x,.arc x.st v,.ver v]=(Tok.arc v x.st::l++[x,.arc x.st v])++[.ver v] by simp,Ag1]at ht
    exact(AgY ht).symm
   subst this
   obtain⟨d2,k1,k2⟩:=HF (Z:=(· = v)) (c2:=[x.st,v]) (low:=[v]) h1 (by simp) (fun y=>by simp) (fun u w hm=>hnz u w (by simpa [or_comm]using hm)) (by simp)
   refine⟨d2,?_,fin k2 h2⟩
   rw[show(Tok.arc v x.st::l)++[x,.arc x.st v,.ver v]=Tok.arc v x.st::((l++[x])++[.arc x.st v,.ver v]) by simp]
   rw[A1]
   show(step ([v],[v]) _).bind _=_
   rw[FJ _ _ _ _ (by simp) (by simp;exact hne),Afr,DH]
   rw[show([x.st]++[v]:List Int)=[x.st,v]from rfl]at k1
   rw[k1,Afr,A1,GK,Afr,A1,DD]
   rfl
  |y::z::w::w2::p1=>
   simp only[Afd,Afa]at hpq
   obtain⟨rfl,rfl,rfl,rfl,rfl⟩:=hpq
   exact G q p1 rfl t ht
def comp(P:List Tok):List Int→List Tok
 |[]=>[]
 |w::r=>(if .ver w∈P then []else [.ver w])++match r with
  |[]=>[]
  |p::_=>.arc w p::comp P r
theorem O5{P P':List Tok}:∀ {way:List Int},(∀ w∈way,(Tok.ver w∈P↔Tok.ver w∈P'))→comp P way=comp P' way:=by
 intro way
 induction way with
 |nil=>intro _;rfl
 |cons w r ih=>
  intro h
  have h1:=h w (by simp)
  have h2:=ih fun x hx=>h x (AfZ _ hx)
  simp only[comp,h1,h2]
theorem Aar:∀ (M P:List Tok) (way c c':List Int) (r:Int) (t0:Tok),run (way,c) M=some ([r],c')→Inv (way,c)→P.getLast? = some t0→way.head? = some t0.st →
  T (P++comp P way)→(∀ x,.ver x∈P++comp P way→x∈c)→(∀ x∈c',Tok.ver x∈P++M)→(P++M).Nodup→T (P++M):=by
 intro M
 induction M with
 |nil=>
  intro P way c c' r t0 h hi hl hh hT hc hc' hn
  cases h
  have:=hc' r (hi.2 r (by simp))
  rw[AgL]at this
  simpa [comp,this]using hT
 |cons t M ih=>
  intro P way c c' r t0 h hi hl hh hT hc hc' hn
  rw[A1,Afq]at h
  obtain⟨⟨w1,c1⟩,h1,h2⟩:=h
  obtain⟨hi1,hsub,hhd⟩:=Xt h1 hi
  have asso:P++t::M=(P++[t])++M:=by simp
  rw[asso]at hn hc' ⊢
  have hnt:t∉P:=by
   have:=(AhF.1 (AhF.1 hn).1)
   intro hm
   exact this.2.2 t hm t (by simp) rfl
  rcases B0 h1 with⟨v,rr,rfl,hw,e⟩|⟨u,v,rr,rfl,hw,e⟩|⟨u,v,rr,rfl,hw,hh2,hn2,e⟩
  ·cases e
   simp only at hw
   subst hw
   have key:comp P (v::rr) = .ver v::comp (P++[.ver v]) (v::rr):=by
    have e2:comp P rr=comp (P++[.ver v]) rr:=O5 fun w hwm=>by
     have:w≠v:=by rintro rfl;exact(Aff.1 hi.1).1 hwm
     simp[this]
    simp only[comp,hnt,e2]
    simp
   rw[key]at hT hc
   exact ih _ _ _ _ _ (.ver v) h2 hi1 (by simp) hhd (by simpa using hT) (fun x hx=>hc x (by simpa using hx)) hc' hn
  ·cases e
   simp only at hw
   subst hw
   have hu:Tok.ver u∈P:=by
    have hun:=(Aff.1 hi.1).1
    obtain⟨g1,_⟩:=YD (z:=u) (c:=c.filter (·≠u)) h2 hun (fun x=>by
     simp only[Afv,AfC]
     constructor
     ·intro h
      by_cases e:x=u
      ·exact .inr e
      ·exact .inl ⟨h,by simpa using e⟩
     ·rintro (h|rfl)
      ·exact h.1
      ·exact hi.2 x (by simp)) (by simp)
    have hmono:=(IX h2 hi1).2.1 u (hi.2 u (by simp))
    have:=hc' u hmono
    simp only[AfD,Afe,reduceCtorEq,Ahj]at this
    rcases this with h|h
    ·exact h
    ·exact absurd h g1
   have key:comp P (u::v::rr) = .arc u v::comp (P++[.arc u v]) (v::rr):=by
    have e2:comp P (v::rr)=comp (P++[.arc u v]) (v::rr):=O5 fun w hwm=>by simp
    rw[← e2]
    simp only[comp,hu]
    simp
   rw[key]at hT hc
   exact ih _ _ _ _ _ (.arc u v) h2 hi1 (by simp) hhd (by simpa using hT) (fun x hx=>hc x (by simpa using hx)) hc' hn
  ·cases e
   simp only at hw hn2
   subst hw
   have hu:u=t0.st:=by simpa using hh
   subst hu
   have hvc:∀ x,Tok.ver x∈P++comp P (t0.st::rr)→x≠v:=by rintro x hx rfl;exact hn2 (hc x hx)
   have hvP:Tok.ver v∉P++comp P (t0.st::rr):=fun hm=>hvc v hm rfl
   have hvP':Tok.ver v∉P:=fun hm=>hvP (by simp[hm])
   have key:comp (P++[.arc t0.st v]) (v::t0.st::rr) = .ver v :: .arc v t0.st::comp P (t0.st::rr):=by
    have e2:comp (P++[.arc t0.st v]) (t0.st::rr)=comp P (t0.st::rr):=O5 fun w hwm=>by simp
    rw[← e2]
    simp only[comp,AfD,hvP',Afe,reduceCtorEq,Ahj,AfP]
    rfl
   have hne:t0.st≠v:=by rintro e;exact hn2 (e▸hi.2 t0.st (by simp))
   refine ih _ _ _ _ _ (.arc t0.st v) h2 hi1 (by simp) hhd ?_ ?_ hc' hn
   ·rw[key]
    obtain⟨P0,rfl⟩:∃ P0,P=P0++[t0]:=List.getLast?_eq_some_iff.1 hl
    have hT1:T (t0::(comp (P0++[t0]) (t0.st::rr)++P0)):=hT.AQK ⟨P0,t0::comp (P0++[t0]) (t0.st::rr),by simp,by simp⟩
    have hT2:=T.add t0 _ v hT1 hne (by
     intro hm
     apply hvP
     simp only[AfD,AfG,Ag7,Ahj]at hm ⊢
     rcases hm with h|h|h<;>simp[h])
    exact hT2.AQK ⟨t0 :: .arc t0.st v :: .ver v :: .arc v t0.st::comp (P0++[t0]) (t0.st::rr),P0,by simp,by simp⟩
   ·intro x hx
    rw[key]at hx
    simp only[AfD,AfG,Ag7,Ahj,reduceCtorEq,Tok.ver.injEq,false_or]at hx
    rcases hx with h|h|h
    ·exact AfZ _ (hc x (by simp[h]))
    ·simp[h]
    ·exact AfZ _ (hc x (by simp[h]))
def Az(l:List Tok):Prop:=∃ r l' c,l = .ver r::l'∧run ([r],[r]) l=some ([r],c)∧∀ x∈c,Tok.ver x∈l
theorem Az.toT{l:List Tok}(h:Az l)(hn:l.Nodup):T l:=by
 obtain⟨r,l',c,rfl,h1,h2⟩:=h
 rw[A1,DD,Afr]at h1
 have:=Aar l' [.ver r] [r] [r] c r (.ver r) h1 (NW r) (by simp) (by simp[st]) (by simp[comp];exact T.one r) (by simp[comp]) (by simpa using h2) (by simpa using hn)
 simpa using this
theorem T.AFJ{r:Int}{l:List Tok}(h:T (.ver r::l)):Az (.ver r::l):=by
 obtain⟨t,ht⟩:∃ t,(Tok.ver r::l).getLast? = some t:=⟨_,Aha (by simp)⟩
 obtain⟨c,h1,h2⟩:=h.toC _ (Rot.refl _) t ht
 have h1':=h1
 rw[A1,Afq]at h1'
 obtain⟨s,g1,_⟩:=h1'
 have e:t.st=r:=by
  simp only[step]at g1
  split at g1
  ·assumption
  ·cases g1
 rw[e]at h1
 exact⟨r,l,c,rfl,h1,fun x hx=>(h2 x).1 hx⟩
end Go.Pev.Pl.Tok
end
section
namespace Go.Pev.Pl.Tok
theorem T.ANV{l:List Tok}(h:T l):∃ v r,Rot l (.ver v::r):=by
 obtain⟨f1,f2,_⟩:=h.facts
 obtain⟨t,ht⟩:=List.exists_mem_of_ne_nil l f1
 obtain⟨a,b,rfl⟩:=Ahr (f2 t ht)
 exact⟨t.st,b++a,a,.ver t.st::b,rfl,rfl⟩
theorem T.less{x:Tok}{v:Int}{l:List Tok}(h:T (x :: .arc x.st v :: .ver v :: .arc v x.st::l)):T (x::l):=by
 have hC:=h.toC
 have hn:=h.nodup
 obtain⟨_,f2,f3⟩:=h.facts
 have hne:x.st≠v:=(f3 x.st v (by simp)).2.2.2
 have hvl:Tok.ver v∉l:=by
  intro hm
  simp only[Aff,AfG,not_or]at hn
  exact hn.2.2.1.2 hm
 have hvx:x≠.ver v:=by rintro rfl;exact hne rfl
 have key:∀ p q,l=p++q→∀ t0,(q++x::p).getLast? = some t0→∃ c,run ([t0.st],[t0.st]) (q++x::p)=some ([t0.st],c)∧∀ y,y∈c↔.ver y∈x::l:=by
  intro p q hl t0 ht0
  have hrot:Rot (x :: .arc x.st v :: .ver v :: .arc v x.st::l) (q++x :: .arc x.st v :: .ver v :: .arc v x.st::p):=⟨x :: .arc x.st v :: .ver v :: .arc v x.st::p,q,by simp[hl],rfl⟩
  have ht:∃ t,(q++x::Tok.arc x.st v :: .ver v :: .arc v x.st::p).getLast? = some t∧t.st=t0.st:=by
   cases p with
   |nil=>
    rw[Ag1]at ht0
    cases ht0
    exact⟨.arc v x.st,by rw[show q++[x,Tok.arc x.st v,.ver v,.arc v x.st]=(q++[x,Tok.arc x.st v,.ver v])++[Tok.arc v x.st] by simp,Ag1],rfl⟩
   |cons y p=>
    refine⟨t0,?_,rfl⟩
    rw[show q++x::Tok.arc x.st v :: .ver v :: .arc v x.st::y::p=(q++[x,Tok.arc x.st v,.ver v,.arc v x.st])++y::p by simp,AhN]
    rw[show q++x::y::p=(q++[x])++y::p by simp,AhN]at ht0
    exact ht0
  obtain⟨t,e0,e1⟩:=ht
  obtain⟨c,h1,h2⟩:=hC _ hrot t e0
  rw[e1,show q++x::Tok.arc x.st v :: .ver v :: .arc v x.st::p=(q++[x])++Tok.arc x.st v :: .ver v :: .arc v x.st::p by simp,DH,Afq]at h1
  obtain⟨⟨w1,c1⟩,g1,g2⟩:=h1
  obtain⟨i1,i2,i3⟩:=IX g1 (NW _)
  have i3':=i3 x (by simp)
  simp only at i3'
  cases w1 with
  |nil=>simp at i3'
  |cons w0 w'=>
   simp at i3'
   subst i3'
   rw[A1,Afq]at g2
   obtain⟨s1,k1,k2⟩:=g2
   rcases B0 k1 with⟨v',r,e,_⟩|⟨u',v',r,e,hw,rfl⟩|⟨u',v',r,e,hw,hh,hnc,rfl⟩
   ·cases e
   ·cases e
    simp only[Afa]at hw
    obtain⟨_,rfl⟩:=hw
    exfalso
    rw[A1,DD,Afr,A1,Afq]at k2
    obtain⟨s2,m1,_⟩:=k2
    have hnd:=i1.1
    rcases B0 m1 with⟨v',r',e,_⟩|⟨u',v',r',e,hw,rfl⟩|⟨u',v',r',e,hw,hh,hnc,rfl⟩
    ·cases e
    ·cases e
     simp only[Afa]at hw
     obtain⟨_,rfl⟩:=hw
     simp at hnd
    ·cases e
     exact hnc (i1.2 _ (by simp))
   ·cases e
    simp only[Afa,Ags]at hw
    subst hw
    simp only at hnc
    rw[A1,DD,Afr,A1,GK,Afr]at k2
    have hvw:v∉x.st::w':=fun hm=>hnc (i1.2 v hm)
    obtain⟨_,d,m1,m2,m3⟩:=YD (z:=v) (c:=c1) k2 hvw (fun y=>by simp[or_comm]) hnc
    refine⟨d,?_,fun y => ?_⟩
    ·rw[show q++x::p=(q++[x])++p by simp,DH,g1,Afr,m1]
    ·have q1:=m2 y
     have q2:=h2 y
     by_cases e:y=v
     ·subst e
      refine⟨fun h=>absurd h m3,fun h => ?_⟩
      rcases AfG.1 h with h|h
      ·exact absurd h.symm hvx
      ·exact absurd h hvl
     ·rw[q2]at q1
      simp only[e,Ahj]at q1
      rw[← q1]
      simp[e]
 obtain⟨s,b,a,hsb⟩:∃ s a b,x::l=a ++ .ver s::b:=by
  have:=f2 x (by simp)
  simp only[AfG,reduceCtorEq,false_or,Tok.ver.injEq,hne]at this
  rcases this with h|h
  ·exact⟨x.st,[],l,by rw[← h];rfl⟩
  ·obtain⟨a,b,rfl⟩:=Ahr h
   exact⟨x.st,x::a,b,rfl⟩
 have hg:Az (.ver s::a++b):=by
  have hr:∃ p q,l=p++q∧q++x::p = .ver s::a++b:=by
   cases b with
   |nil=>
    simp only[Afi,Afa]at hsb
    obtain⟨rfl,rfl⟩:=hsb
    exact⟨l,[],by simp,by simp⟩
   |cons y b=>
    simp only[Afd,Afa]at hsb
    obtain⟨rfl,rfl⟩:=hsb
    exact⟨b,.ver s::a,rfl,by simp⟩
  obtain⟨p,q,hl,e⟩:=hr
  obtain⟨t0,ht0⟩:∃ t0,(q++x::p).getLast? = some t0:=⟨_,Aha (by simp)⟩
  obtain⟨c,h1,h2⟩:=key p q hl t0 ht0
  rw[e]at h1
  have h1':=h1
  rw[Afd,A1,Afq]at h1'
  obtain⟨s',g1,_⟩:=h1'
  have e':t0.st=s:=by
   simp only[step]at g1
   split at g1
   ·assumption
   ·cases g1
  rw[e']at h1
  refine⟨s,a++b,c,rfl,h1,fun y hy => ?_⟩
  have:=(h2 y).1 hy
  rw[hsb]at this
  simp only[AfD,AfG]at this ⊢
  rcases this with h|h|h<;>simp[h]
 have hrot2:Rot (.ver s::a++b) (x::l):=⟨.ver s::a,b,rfl,hsb⟩
 have hnx:(x::l).Nodup:=by
  simp only[Aff,AfG,not_or]at hn ⊢
  exact⟨hn.1.2.2.2,hn.2.2.2.2⟩
 exact(hg.toT (hrot2.nodup.2 hnx)).AQK hrot2
theorem T.leaf{l:List Tok}(h:T l):(∃ v,l=[.ver v])∨∃ x v r,Rot l (x :: .arc x.st v :: .ver v :: .arc v x.st::r):=by
 induction h with
 |one v=>exact .inl ⟨v,rfl⟩
 |add x l v h hne hv ih=>exact .inr ⟨x,v,l,Rot.refl _⟩
 |rot a b h ih=>
  rcases ih with⟨v,e⟩|⟨x,v,r,hr⟩
  ·have hr:Rot [.ver v] (b++a):=⟨a,b,e.symm,rfl⟩
   exact .inl ⟨v,List.perm_singleton.1 hr.perm.symm⟩
  ·exact .inr ⟨x,v,r,Rot.trans ⟨b,a,rfl,rfl⟩ hr⟩
def LI:List Tok→List Int
 |[]=>[]
 |.ver v::l=>v::LI l
 |.arc _ _::l=>LI l
theorem P9{v:Int}:∀ {l:List Tok},v∈LI l↔.ver v∈l
 |[]=>by simp[LI]
 |.ver w::l=>by simp[LI,P9 (l:=l)]
 |.arc _ _::l=>by simp[LI,P9 (l:=l)]
theorem AJM(a b:List Tok):LI (a++b)=LI a++LI b:=by
 induction a with
 |nil=>rfl
 |cons t a ih=>cases t<;>simp[LI,ih]
theorem T.len{l:List Tok}(h:T l):l.length+2=3*(LI l).length:=by
 induction h with
 |one v=>rfl
 |add x l v h hne hv ih=>
  cases x<;>simp[LI]at ih ⊢<;>omega
 |rot a b h ih=>
  simp only[AJM,AfH]at ih ⊢
  omega
end Go.Pev.Pl.Tok
end
section
namespace Go.Pev.Pl
section
variable {β:Type}
def BA(es:List (Int×β)):List Int:=es.map Prod.fst
theorem S0(es:List (Int×β)):(BA es).length=es.length:=by simp[BA]
theorem Gz(es:List (Int×β))(k:Int)(v:β)(j:Int):AT (Af es k v) j=if j=k then some v else AT es j:=by
 induction es with
 |nil=>
  simp only[Af,AT]
  by_cases h:k=j
  ·simp[h]
  ·simp[h,Af0 h]
 |cons e es ih=>
  obtain⟨a,b⟩:=e
  simp only[Af]
  by_cases h:a=k
  ·subst h
   simp only[Afb,AT]
   by_cases h2:a=j
   ·simp[h2]
   ·simp[h2,Af0 h2]
  ·simp only[h,AfP,AT,ih]
   by_cases h2:a=j
   ·subst h2;simp[h]
   ·simp[h2]
theorem Oa(es:List (Int×β))(k:Int)(v:β):BA (Af es k v)=if k∈BA es then BA es else BA es++[k]:=by
 induction es with
 |nil=>rfl
 |cons e es ih=>
  obtain⟨a,b⟩:=e
  simp only[Af]
  by_cases h:a=k
  ·subst h;simp[BA]
  ·simp only[h,AfP]
   show a::BA (Af es k v)=_
   rw[ih]
   have:k∈BA ((a,b)::es)↔k∈BA es:=by simp[BA,Af0 h]
   simp only[this]
   split<;>rfl
theorem VI(es:List (Int×β))(k:Int):AT es k=none↔k∉BA es:=by
 induction es with
 |nil=>simp[AT,BA]
 |cons e es ih=>
  obtain⟨a,b⟩:=e
  simp only[AT]
  by_cases h:a=k
  ·simp[h,BA]
  ·simp only[h,AfP,ih]
   simp[BA,Af0 h]
theorem Eu(es:List (Int×β))(k:Int)(v:β)(j:Int):j∈BA (Af es k v)↔j=k∨j∈BA es:=by
 rw[Oa]
 split
 ·rename_i h
  constructor
  ·exact .inr
  ·rintro (rfl|h2)
   ·exact h
   ·exact h2
 ·simp[or_comm]
theorem JP{es:List (Int×β)}(h:(BA es).Nodup)(k:Int)(v:β):(BA (Af es k v)).Nodup:=by
 rw[Oa]
 split
 ·exact h
 ·rename_i hk
  rw[AhF]
  exact⟨h,by simp,fun a ha b hb=>by rintro rfl;simp at hb;exact hk (hb▸ha)⟩
end
def dd:List Int→List Int→List Int
 |ks,[]=>ks
 |ks,x::xs=>dd (if x∈ks then ks else ks++[x]) xs
theorem Aec:∀ (xs ks:List Int),(dd ks xs).length≤ks.length+xs.length∧((dd ks xs).length=ks.length+xs.length↔xs.Nodup∧∀ x∈xs,x∉ks):=by
 intro xs
 induction xs with
 |nil=>intro ks;simp[dd]
 |cons x xs ih=>
  intro ks
  rw[dd]
  by_cases h:x∈ks
  ·obtain⟨h1,_⟩:=ih ks
   rw[AfQ h]
   refine⟨by simp only[AfJ];omega,?_,fun hh=>absurd h (hh.2 x (by simp))⟩
   intro e
   simp only[AfJ]at e
   omega
  ·obtain⟨h1,h2⟩:=ih (ks++[x])
   rw[AfM h]
   simp only[AfH,AfJ,AfV,AgD]at h1 h2 ⊢
   refine⟨by omega,?_⟩
   rw[show ks.length+(xs.length+1)=ks.length+1+xs.length by omega,h2,Aff]
   constructor
   ·rintro⟨g1,g2⟩
    refine⟨⟨fun hx=>g2 x hx (by simp),g1⟩,fun y hy => ?_⟩
    rcases AfG.1 hy with rfl|hy
    ·exact h
    ·exact fun hk=>g2 y hy (by simp[hk])
   ·rintro⟨⟨g1,g2⟩,g3⟩
    refine⟨g2,fun y hy hk => ?_⟩
    simp only[AfD,Afe]at hk
    rcases hk with hk|rfl
    ·exact g3 y (by simp[hy]) hk
    ·exact g1 hy
theorem AbF(xs:List Int):(dd [] xs).length=xs.length↔xs.Nodup:=by
 have:=(Aec xs []).2
 simpa using this
theorem BL{α β ρ:Type}(g:β→α→α)(fin:α→ρ):∀ (xs:List β) (a:α),walk (fun x a=>.inl (g x a)) fin xs a=fin (xs.foldl (fun a x=>g x a) a):=by
 intro xs
 induction xs with
 |nil=>intro a;rfl
 |cons x xs ih=>intro a;rw[walk,Af5];exact ih _
theorem Iq{σ ρ β:Type}{step:σ→Option (σ⊕ρ)}(st:Nat→σ)(xs:List β)(P:β→Bool)(rt:Nat→ρ)(rf:ρ)(hs:xs.length<9223372036854775808)
  (h:∀ i x,i<xs.length→xs[i]? = some x→step (st i)=if P x then some (.inr (rt i))else some (.inl (st (i+1)))) (hN:step (st xs.length)=some (.inr rf)) :
  AS step many (st 0)=some (if xs.any P then rt (xs.findIdx P)else rf):=by
 have key:∀ (l:List β) (a:Nat),walk (fun x (a:Nat)=>if P x then .inr (rt a)else .inl (a+1)) (fun _=>rf) l a=if l.any P then rt (a+l.findIdx P)else rf:=by
  intro l
  induction l with
  |nil=>intro a;rfl
  |cons x l ih=>
   intro a
   rw[walk,List.any_cons,Ahc]
   by_cases hx:P x=true
   ·simp[hx]
   ·simp only[hx,AfO,AfP,Bool.false_or,cond_false]
    rw[ih,show a+1+List.findIdx P l=a+(List.findIdx P l+1) by omega]
 have:=Cf (step:=step) (fun i (a:Nat)=>st a) xs (fun x (a:Nat)=>if P x then .inr (rt a)else .inl (a+1)) (fun _=>rf) (fun i a=>a=i) hs
  (fun i x a hi hx ha=>by
   subst ha
   refine⟨fun a' h' => ?_,fun r h' => ?_⟩
   ·rw[h a x hi hx]
    split at h'
    ·cases h'
    ·rename_i hp
     cases h'
     simp[hp]
   ·rw[h a x hi hx]
    split at h'
    ·rename_i hp
     cases h'
     simp[hp]
    ·cases h')
  (fun a ha=>by subst ha;exact hN) 0 rfl
 rw[this,key,AgD]
theorem Ai{α:Type}{xs:List α}{n:Nat}{x:α}(h:xs[n]? = some x):idx xs (n:Int)=some x:=by rw[AHa,h]
theorem Ec{α:Type}{xs:List α}{n:Nat}{x z:α}(h:xs[n]? = some x):AM xs (AE (n:Int)) z=x:=by
 rw[E2,AfB,h];rfl
theorem Jw{α:Type}{xs:List α}{h:Nat}(h2:h≤xs.length):Bz xs (0:Int) (h:Int)=some (xs.take h):=by
 have:=Rk (xs:=xs) (l:=0) (AhY h) h2
 simpa using this
theorem Du{α:Type}{xs:List α}{l:Nat}(h1:l≤xs.length):Bz xs (l:Int) (AO xs)=some (xs.drop l):=by
 have:=Rk (xs:=xs) h1 (AfN _)
 rw[AgH]at this
 exact this
def pos(xs:List Int)(t:Int):Int:=if t∈xs then((xs.findIdx (fun x=>decide (x=t)):Nat):Int)else -1
theorem AIr(xs:List Int)(t:Int):(xs.any fun x=>decide (x=t))=decide (t∈xs):=by
 induction xs with
 |nil=>rfl
 |cons x xs ih=>simp only[List.any_cons,ih,AfG,Bool.decide_or];congr 1;exact Agl.2 eq_comm
theorem AF5{xs:List Int}{t:Int}(h:t∈xs):∃ k:Nat,pos xs t=(k:Int)∧k<xs.length∧xs[k]? = some t∧xs=xs.take k++t::xs.drop (k+1)∧t∉xs.take k:=by
 have hk:xs.findIdx (fun x=>decide (x=t))<xs.length:=Ago.2 ⟨t,h,by simp⟩
 have hg:xs[xs.findIdx (fun x=>decide (x=t))]'hk=t:=by
  have:=List.findIdx_getElem (xs:=xs) (p:=fun x=>decide (x=t)) (w:=hk)
  simpa using this
 refine⟨_,by rw[pos,AfQ h],hk,by rw[AfE hk,hg],?_,?_⟩
 ·conv=>lhs;rw[← Af1 (xs.findIdx (fun x=>decide (x=t))) xs,Afw hk,hg]
 ·intro hm
  obtain⟨j,hj,e⟩:=AhC.1 hm
  have:=List.not_of_lt_findIdx (p:=fun x=>decide (x=t)) (xs:=xs) (i:=j) (by omega)
  simp[e]at this
theorem Ph{xs:List Int}{t:Int}(h:t∉xs):pos xs t = -1:=by rw[pos,AfM h]
end Go.Pev.Pl
end
