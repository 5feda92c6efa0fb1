/- A part of the proofs of this seat: G26M1 G26M2 G26M3 G26M4 G26M5 G26M U26al Pln PlnB PlnM PlnD PlnE T05a T05b T05c U26a. -/
import Derived.Test.YtfojmhgomdbpfaaGreatPa285c6befd
import Derived.KernelRfl
import Derived.IntWalk
import Derived.Sort.AssemblyPlain
set_option linter.unusedVariables false
set_option linter.unusedSimpArgs false
set_option linter.unusedSectionVars false
set_option maxRecDepth 100000
section
namespace Go.Pev
noncomputable section
attribute [local irreducible] Oz LD OR Oc Ajo Ajp Ajq Q9 AGv Qv Yw LO Aj many IntKind.wrap AM Az AY BT Bv F8 D4 AN Bs B7 imax AR Ad
abbrev U0:Ty:=(.int .i64)
abbrev U1:=(Int×Int×Unit)
abbrev U2:Ty:=(.prod U0 (.prod U0 .unit))
abbrev U3:=(Int×Int×Int×Bool×Unit)
abbrev U4:Ty:=(.prod U0 (.prod U0 (.prod U0 (.prod .bool .unit))))
abbrev U5:=(List Int)
abbrev U6:=(Int×Int×Int×Int×Unit)
abbrev U7:Ty:=(.slice U0)
abbrev U8:=(List U5×Int×Int×Int×Unit)
abbrev U9:=(List U1×Int×Int×Int×Unit)
abbrev Ua:=(Int×Int×Int×Unit)
abbrev Ub:=(Int×Unit)
abbrev Uc:Ty:=(.slice (.prod U0 (.prod U0 U2)))
abbrev Ud:=(List U1×Int×Int×Unit)
abbrev Ue:Ty:=(.prod U0 (.prod (.slice U2) (.prod (.slice (.prod U0 U2)) .unit)))
abbrev Uf:=(Bool×Unit)
abbrev Ug:Ty:=(.int .u32)
abbrev Uh:Ty:=(.prod U0 (.prod U0 (.prod (.slice (.arr 2 U0)) .unit)))
abbrev Ui:=(List U5×Int×Int×Unit)
abbrev Uj:Ty:=(.slice U7)
abbrev Uk:=(List U6×Int×List Bool×List U5×Bool×Int×Int×List U3×Int×Unit)
abbrev Ul:=(List U1×Unit)
abbrev Um:=(List U5×Int×Int×Int×Int×Unit)
abbrev Un:=(List U1×Int×Int×Int×Int×Unit)
abbrev Uo:Ty:=(.prod Uc (.prod U0 (.prod (.slice .bool) .unit)))
abbrev Up:=(List Int×Unit)
abbrev Uq:=(Int×(List U1)×(List Ua)×Unit)
abbrev Ur:=(List U5×Unit)
abbrev Us:=(Int×Int×(List U5)×Unit)
abbrev Ut:Ty:=(.prod U0 (.prod (.slice U4) .unit))
abbrev Uu:Ty:=(.slice U2)
abbrev Uv:Ty:=(.prod U0 U2)
abbrev Uw:Ty:=(.slice .bool)
abbrev Ux:=(List U6×Int×List Bool×List U5×Bool×Int×Int×Int×Int×Int×Bool×Int×Unit)
abbrev Uy:=(List Int×Int×Int×Unit)
abbrev Uz:=(Int×Int)
abbrev V0:=(Int×(List U3)×Unit)
abbrev V1:Ty:=(.slice Ug)
abbrev V2:=(List U5×Int×Int×Int×Int×Int×Unit)
abbrev V3:=(List U1×Int×Int×Int×Int×Int×Unit)
abbrev V4:Ty:=(.slice U4)
abbrev V5:Ty:=(.prod U0 (.prod Uj .unit))
abbrev V6:=(Int×(List U5)×Unit)
abbrev V7:=(List Int×List Int×Int×Int×List Int×List Int×Int×Int×Unit)
abbrev V8:=(Int×List U5×List Uz×Int×List U5×Int×Int×List Int×Int×Int×Bool×List Int×Bool×Bool×List Int×Int×List Int×Int×Bool×Int×List Int×Bool×Bool×List Int×Int×Int×Unit)
abbrev V9:=(List U6×Int×List Bool×List U5×Bool×Int×Int×List Uz×List U5×Int×Int×Unit)
abbrev Va:=(List Int×Int×Int×Int×List Int×Int×Int×Unit)
abbrev Vb:=(U1×Int)
abbrev Vc:Ty:=(.prod U0 (.prod U0 (.prod Uh .unit)))
abbrev Vd:=(List Int×Int×List Int×Int×Int×List Int×List Int×Int×Int×Unit)
abbrev Ve:=(List Int×List Int×List Int×Int×Int×Unit)
abbrev Vf:=(List Int×Int×Unit)
abbrev Vg:Ty:=(.slice Uv)
abbrev Vh:Ty:=(.prod Uo (.prod Uj (.prod .bool U2)))
abbrev Vi:Ty:=(.prod U0 Uv)
abbrev Vj:=(Int×Bool×Int×Int×List U6×Int×List Bool×List U5×Bool×Int×Int×List U3×List U5×Int×Int×Unit)
abbrev Vk:=(List U6×Int×List Bool×List U5×Bool×Int×Int×List Uz×List U5×Int×Int×List Int×Int×Int×Unit)
abbrev Vl:=(List U1×List Vb×Int×Int×Unit)
abbrev Vm:=(List Int×Int×List Int×Int×Int×List Int×Int×List Int×Int×Int×List Int×Int×Int×Unit)
abbrev Vn:=(Int×Int×Us×Unit)
abbrev AAR:AE:=[(.tmp 0,.di)]
abbrev AAQ:AE:=[(.tmp 0,.dat .bool)]
abbrev AAP:List RS:=[.one]
def Qj[Lk]:Ub→Option (Uf):=fun(a0,_)=>
 match(ile 1 a0)with
 |true=>some ((ile a0 64),())
 |false=>some (false,())
def MD[Lk]:=fun v=>Lk.f (Qj v)
theorem AH1 v:MD v=Qj v:=AJ _
abbrev AhF:AE:=[(.tmp 0,.di),(.tmp 1,.di)]
abbrev AhE:AE:=[(.tmp 0,.dat .bool)]
abbrev AhD:List RS:=[.one]
def Aad[Lk]:U1→Option (Uf):=fun(a0,a1,_)=>
 match MD (a0,())with|none=>none|some (y0,_)=>match y0 with
 |true=>match(ile 0 a1)with
  |true=>some ((ilt a1 a0),())
  |false=>some (false,())
 |false=>some (false,())
def tin[Lk]:=fun v=>Lk.f (Aad v)
theorem AhG v:tin v=Aad v:=AJ _
abbrev AVh:AE:=[(.tmp 0,.di),(.tmp 1,.di),(.tmp 2,.di)]
abbrev AVg:AE:=[(.tmp 0,.di)]
abbrev AVf:List RS:=[.one]
def AK5[Lk]:Ua→Option (Ub):=fun(a0,a1,a2,_)=>
 match(ieq a1 a2)with
 |true=>some ((-1:Int),())
 |false=>match tin (a0,a1,())with|none=>none|some (y0,_)=>match(!y0)with
 |true=>some ((-1:Int),())
 |false=>match tin (a0,a2,())with|none=>none|some (y1,_)=>match(!y1)with
 |true=>some ((-1:Int),())
 |false=>some ((IntKind.wrap .i64 ((IntKind.wrap .i64 (a0*(IntKind.wrap .i64 (a1+1))))+a2)),())
def Acn[Lk]:=fun v=>Lk.f (AK5 v)
theorem Aae v:Acn v=AK5 v:=AJ _
abbrev AAN:AE:=[(.tmp 0,.di),(.tmp 1,.di)]
abbrev AAM:AE:=[(.tmp 0,.di),(.tmp 1,.di),(.tmp 2,.dat .bool),(.tmp 3,.dat .bool)]
abbrev AAL:List RS:=[.one,.one,.one,.one]
def Qi[Lk]:U1→Option ((Int×Int×Bool×Bool×Unit)):=fun(a0,a1,_)=>
 match MD (a0,())with|none=>none|some (y0,_)=>match(!y0)with
 |true=>some (0,0,false,false,())
 |false=>match(ilt a1 0)with
 |true=>some (0,0,false,false,())
 |false=>match(ile (IntKind.wrap .i64 (a0*(IntKind.wrap .i64 (a0+1)))) a1)with
 |true=>some (0,0,false,false,())
 |false=>match(ilt a1 a0)with
 |true=>some (a1,0,false,true,())
 |false=>match quo? .i64 a1 a0 with|none=>none|some x1=>match rem? a1 a0 with|none=>none|some x2=>match(ieq (IntKind.wrap .i64 (x1-1)) x2)with
 |true=>some (0,0,false,false,())
 |false=>some ((IntKind.wrap .i64 (x1-1)),x2,true,true,())
def AAO[Lk]:=fun v=>Lk.f (Qi v)
theorem AH0 v:AAO v=Qi v:=AJ _
abbrev AKr:AE:=[(.tmp 0,.di)]
abbrev AKq:AE:=[(.tmp 0,.di),(.tmp 1,.own 41 U7),(.tmp 2,.di)]
abbrev AKp:List RS:=[.agg 2,.one]
abbrev APu:AE:=[(.tmp 2,.box 2),(.cell 0 0,.di),(.cell 0 1,.nil U7),(.tmp 4,.box 2),(.cell 1 0,.di),(.cell 1 1,.own 41 U7),(.tmp 12,.di),(.tmp 13,.di)]
abbrev APt:Ao:=[(.exit 0,[(.tmp 2,.box 2),(.cell 0 0,.di),(.cell 0 1,.nil U7),(.tmp 4,.box 2),(.cell 1 0,.di),(.cell 1 1,.own 41 U7)])]
def HW[Lk]:(Int×Int×List U5×Int×Int×Unit)→Option ((Int×Int×List U5×Int×Int×Unit)⊕(Int×Int×List U5×Unit)⊕Unit):=fun(a0,a1,a2,a3,a4,_)=>
 match(ilt a4 a3)with
 |true=>match(fits ((AM a2)+(AM ([([a4]:List (Int))]:List U5))))with
  |true=>some (.inl (a0,a1,(BT a2 ([([a4]:List (Int))]:List U5)),a3,(IntKind.wrap .i64 (a4+1)),()))
  |false=>none
 |false=>some (.inr (.inl (a0,a1,a2,())))
def ZV[Lk]:Ub→Option ((Int×List U5×Int×Unit)):=fun(a0,_)=>
 match MD (a0,())with|none=>none|some (y0,_)=>match(!y0)with
 |true=>some (0,([]:List U5),1,())
 |false=>match AU HW many (0,a0,([]:List U5),a0,0,())with|none=>none|some r=>match r with
 |.inl (o1,o2,o3,_)=>some (o2,o3,0,())
 |.inr _=>none
def APw[Lk]:=fun v=>Lk.f (ZV v)
theorem APv v:APw v=ZV v:=AJ _
abbrev ADt:AE:=[(.tmp 0,.dat U7),(.tmp 1,.di)]
abbrev ADs:AE:=[(.tmp 0,.di)]
abbrev ADr:List RS:=[.one]
abbrev AJC:AE:=[(.tmp 0,.dat U7),(.tmp 1,.di),(.tmp 7,.di),(.tmp 8,.di)]
abbrev AJB:Ao:=[(.ret,[(.tmp 4,.di)]),(.exit 0,[])]
def Fl[Lk]:(List Int×Int×Int×Int×Unit)→Option ((List Int×Int×Int×Int×Unit)⊕Ub⊕(Unit)⊕Unit):=fun(a0,a1,a2,a3,_)=>
 match(ilt a3 a2)with
 |true=>match idx a0 a3 with|none=>none|some x0=>match(ieq a1 x0)with
  |true=>some (.inr (.inl (a3,())))
  |false=>some (.inl (a0,a1,a2,(IntKind.wrap .i64 (a3+1)),()))
 |false=>some (.inr (.inr (.inl ())))
def RR[Lk]:Vf→Option (Ub):=fun(a0,a1,_)=>
 match AU Fl many (a0,a1,(AM a0),0,())with|none=>none|some r=>match r with
 |.inl (o0,_)=>some (o0,())
 |.inr r=>match r with
 |.inl _=>some ((-1:Int),())
 |.inr _=>none
def Pu[Lk]:=fun v=>Lk.f (RR v)
theorem AJD v:Pu v=RR v:=AJ _
abbrev M3:AE:=[(.tmp 0,.dat U7),(.tmp 1,.di)]
abbrev M0:AE:=[(.tmp 0,.dat .bool)]
abbrev Mz:List RS:=[.one]
def Ir[Lk]:Vf→Option (Uf):=fun(a0,a1,_)=>
 match Pu (a0,a1,())with|none=>none|some (y0,_)=>some ((ile 0 y0),())
def GA[Lk]:=fun v=>Lk.f (Ir v)
theorem Rz v:GA v=Ir v:=AJ _
abbrev AXt:AE:=[(.tmp 0,.dat U7)]
abbrev AXs:AE:=[(.tmp 0,.di)]
abbrev AXr:List RS:=[.one]
abbrev AbH:AE:=[(.tmp 0,.dat U7),(.tmp 3,.di),(.tmp 4,.di)]
abbrev AbG:Ao:=[(.exit 0,[(.tmp 3,.di)])]
def Kh[Lk]:Uy→Option (Uy⊕Ub⊕Unit):=fun(a0,a1,a2,_)=>
 match(ilt a2 (AM a0))with
 |true=>match idx a0 a2 with|none=>none|some x0=>some (.inl (a0,(B7 a1 x0),(IntKind.wrap .i64 (a2+1)),()))
 |false=>some (.inr (.inl (a1,())))
def AMh[Lk]:Up→Option (Ub):=fun(a0,_)=>
 match(ilt (AM a0) 1)with
 |true=>none
 |false=>match idx a0 0 with|none=>none|some x0=>match AU Kh many (a0,x0,1,())with|none=>none|some r=>match r with
 |.inl (o1,_)=>some (o1,())
 |.inr _=>none
def AeL[Lk]:=fun v=>Lk.f (AMh v)
theorem AbI v:AeL v=AMh v:=AJ _
abbrev ANM:AE:=[(.tmp 0,.nil U0),(.tmp 1,.di)]
abbrev ANL:AE:=[(.tmp 0,.own 3 U0)]
abbrev ANK:List RS:=[.one]
def Zj[Lk]:Ub→Option (Up):=fun(a0,_)=>
 match(ilt a0 0)with
 |true=>none
 |false=>match(ilt 0 (IntKind.wrap .i64 (a0-(IntKind.wrap .i64 (0-0)))))with
 |true=>match EG ([]:List Unit) 0 0 with|none=>none|some _u0=>match(CM (IntKind.wrap .i64 (a0-(IntKind.wrap .i64 (0-0)))))with
  |true=>match EG (D4 (AN (IntKind.wrap .i64 (a0-(IntKind.wrap .i64 ((0:Int)-(0:Int)))))) (0:Int)) (0:Int) (0:Int)with|none=>none|some x1=>some ((Bv (AN (AM x1)) (D4 (AN (IntKind.wrap .i64 (a0-(IntKind.wrap .i64 ((0:Int)-(0:Int)))))) (0:Int))),())
  |false=>none
 |false=>some (([]:List (Int)),())
def ATE[Lk]:=fun v=>Lk.f (Zj v)
theorem ATD v:ATE v=Zj v:=AJ _
abbrev WZ:AE:=[(.tmp 0,.dat Uj)]
abbrev WY:AE:=[(.tmp 0,.own 3 U0)]
abbrev WX:List RS:=[.one]
abbrev AFB:AE:=[(.tmp 6,.own 3 U0),(.tmp 25,.dat Uj),(.tmp 26,.di),(.tmp 27,.di)]
abbrev AE9:Ao:=[(.exit 2,[(.tmp 6,.own 3 U0)])]
def EU[Lk]:(List Int×List U5×Int×Int×Unit)→Option ((List Int×List U5×Int×Int×Unit)⊕Up⊕Unit):=fun(a0,a1,a2,a3,_)=>
 match(ilt a3 a2)with
 |true=>match idx a1 a3 with|none=>none|some x0=>match(fits ((AM a0)+(AM x0)))with
  |true=>some (.inl ((BT a0 x0),a1,a2,(IntKind.wrap .i64 (a3+1)),()))
  |false=>none
 |false=>some (.inr (.inl (a0,())))
abbrev AFC:AE:=[(.tmp 0,.dat Uj),(.tmp 3,.di),(.tmp 9,.dat Uj),(.tmp 10,.di),(.tmp 11,.di)]
abbrev AFA:Ao:=[(.exit 0,[(.tmp 0,.dat Uj),(.tmp 3,.di)])]
def EV[Lk]:(List U5×Int×List U5×Int×Int×Unit)→Option ((List U5×Int×List U5×Int×Int×Unit)⊕(List U5×Int×Unit)⊕Unit):=fun(a0,a1,a2,a3,a4,_)=>
 match(ilt a4 a3)with
 |true=>match idx a2 a4 with|none=>none|some x0=>match(ilt (IntKind.wrap .i64 (a1+(AM x0))) 0)with
  |true=>none
  |false=>some (.inl (a0,(IntKind.wrap .i64 (a1+(AM x0))),a2,a3,(IntKind.wrap .i64 (a4+1)),()))
 |false=>some (.inr (.inl (a0,a1,())))
def N9[Lk]:Ur→Option (Up):=fun(a0,_)=>
 match AU EV many (a0,0,a0,(AM a0),0,())with|none=>none|some r=>match r with
 |.inl (o0,o1,_)=>match ATE (o1,())with|none=>none|some (y2,_)=>match AU EU many (y2,o0,(AM o0),0,())with|none=>none|some r=>match r with
  |.inl (o3,_)=>some (o3,())
  |.inr _=>none
 |.inr _=>none
def LN[Lk]:=fun v=>Lk.f (N9 v)
theorem AFD v:LN v=N9 v:=AJ _
abbrev Hp:AE:=[(.tmp 0,.dat U7),(.tmp 1,.clo 161 [])]
abbrev Ho:AE:=[(.tmp 0,.di)]
abbrev Hn:List RS:=[.one]
abbrev Lw:AE:=[(.tmp 0,.dat U7),(.tmp 1,.clo 161 []),(.tmp 7,.di),(.tmp 8,.di)]
abbrev Lv:Ao:=[(.ret,[(.tmp 4,.di)]),(.exit 0,[])]
def By[Lk]:Uy→Option (Uy⊕Ub⊕(Unit)⊕Unit):=fun(a0,a1,a2,_)=>
 match(ilt a2 a1)with
 |true=>match idx a0 a2 with|none=>none|some x0=>match(ilt x0 0)with
  |true=>some (.inr (.inl (a2,())))
  |false=>match(ilt 10000 x0)with
  |true=>some (.inr (.inl (a2,())))
  |false=>some (.inl (a0,a1,(IntKind.wrap .i64 (a2+1)),()))
 |false=>some (.inr (.inr (.inl ())))
def E4[Lk]:Up→Option (Ub):=fun(a0,_)=>
 match AU By many (a0,(AM a0),0,())with|none=>none|some r=>match r with
 |.inl (o0,_)=>some (o0,())
 |.inr r=>match r with
 |.inl _=>some ((-1:Int),())
 |.inr _=>none
def G7[Lk]:=fun v=>Lk.f (E4 v)
theorem Lx v:G7 v=E4 v:=AJ _
abbrev Gy:AE:=[(.tmp 0,.dat U7),(.tmp 1,.clo 161 [])]
abbrev Gx:AE:=[(.tmp 0,.dat .bool)]
abbrev Gw:List RS:=[.one]
def EC[Lk]:Up→Option (Uf):=fun(a0,_)=>
 match G7 (a0,())with|none=>none|some (y0,_)=>some ((ile 0 y0),())
def D5[Lk]:=fun v=>Lk.f (EC v)
theorem J6 v:D5 v=EC v:=AJ _
abbrev AXg:AE:=[(.tmp 0,.dat U7)]
abbrev AXf:AE:=[(.tmp 0,.dat .bool)]
abbrev AXe:List RS:=[.one]
abbrev Aa9:AE:=[(.tmp 0,.dat U7),(.tmp 3,.map U0 U0),(.tmp 7,.dat U7),(.tmp 8,.di),(.tmp 9,.di)]
abbrev Aa8:Ao:=[(.exit 0,[(.tmp 0,.dat U7),(.tmp 3,.map U0 U0)])]
def Kb[Lk]:(List Int×List Uz×List Int×Int×Int×Unit)→Option ((List Int×List Uz×List Int×Int×Int×Unit)⊕(List Int×List Uz×Unit)⊕Unit):=fun(a0,a1,a2,a3,a4,_)=>
 match(ilt a4 a3)with
 |true=>match idx a2 a4 with|none=>none|some x0=>some (.inl (a0,(Ad a1 x0 (IntKind.wrap .i64 (((AR a1 x0).getD 0)+1))),a2,a3,(IntKind.wrap .i64 (a4+1)),()))
 |false=>some (.inr (.inl (a0,a1,())))
def AMX[Lk]:Up→Option (Uf):=fun(a0,_)=>
 match AU Kb many (a0,([]:List Uz),a0,(AM a0),0,())with|none=>none|some r=>match r with
 |.inl (o0,o1,_)=>some ((ieq (AM o1) (AM o0)),())
 |.inr _=>none
def once[Lk]:=fun v=>Lk.f (AMX v)
theorem AbA v:once v=AMX v:=AJ _
abbrev ABh:AE:=[(.tmp 0,.dat U7)]
abbrev ABg:AE:=[(.tmp 0,.dat .bool)]
abbrev ABf:List RS:=[.one]
def Q2[Lk]:Up→Option (Uf):=fun(a0,_)=>
 match(ilt 1000 (AM a0))with
 |true=>some (false,())
 |false=>match D5 (a0,())with|none=>none|some (y0,_)=>match(!y0)with
 |true=>match once (a0,())with|none=>none|some (y1,_)=>some (y1,())
 |false=>some (false,())
def PT[Lk]:=fun v=>Lk.f (Q2 v)
theorem AIY v:PT v=Q2 v:=AJ _
abbrev AAK:AE:=[(.tmp 0,.dat U7),(.tmp 1,.di)]
abbrev AAJ:AE:=[(.tmp 0,.own 3 U0)]
abbrev AAI:List RS:=[.one]
def Qh[Lk]:Vf→Option (Up):=fun(a0,a1,_)=>
 match EG a0 a1 (AM a0)with|none=>none|some x0=>match EG a0 0 a1 with|none=>none|some x1=>match LN (([x0,x1]:List U5),())with|none=>none|some (y2,_)=>some (y2,())
def TH[Lk]:=fun v=>Lk.f (Qh v)
theorem AHz v:TH v=Qh v:=AJ _
abbrev ACP:AE:=[(.tmp 0,.dat U7),(.tmp 1,.dat U7)]
abbrev ACO:AE:=[(.tmp 0,.own 3 U0),(.tmp 1,.dat .bool)]
abbrev ACN:List RS:=[.one,.one]
abbrev AIm:AE:=[(.tmp 0,.dat U7),(.tmp 6,.own 3 U0),(.tmp 12,.dat U7),(.tmp 13,.di),(.tmp 14,.di)]
abbrev AIl:Ao:=[(.exit 0,[(.tmp 6,.own 3 U0)])]
def Ee[Lk]:Ve→Option (Ve⊕Up⊕Unit):=fun(a0,a1,a2,a3,a4,_)=>
 match(ilt a4 a3)with
 |true=>match idx a2 a4 with|none=>none|some x0=>match Pu (a0,x0,())with|none=>none|some (y1,_)=>match(fits ((AM a1)+(AM ([y1]:List (Int)))))with
  |true=>some (.inl (a0,(BT a1 ([y1]:List (Int))),a2,a3,(IntKind.wrap .i64 (a4+1)),()))
  |false=>none
 |false=>some (.inr (.inl (a1,())))
def RD[Lk]:(List Int×List Int×Unit)→Option ((List Int×Bool×Unit)):=fun(a0,a1,_)=>
 match PT (a0,())with|none=>none|some (y0,_)=>match(!y0)with
 |true=>some (([]:List (Int)),false,())
 |false=>match AU Ee many (a0,([]:List (Int)),a1,(AM a1),0,())with|none=>none|some r=>match r with
 |.inl (o1,_)=>match GA (o1,(-1:Int),())with|none=>none|some (y2,_)=>some (o1,(!y2),())
 |.inr _=>none
def AL4[Lk]:=fun v=>Lk.f (RD v)
theorem AIn v:AL4 v=RD v:=AJ _
abbrev ALt:AE:=[(.tmp 0,.dat U7),(.tmp 1,.di)]
abbrev ALs:AE:=[(.tmp 0,.own 3 U0),(.tmp 1,.dat .bool)]
abbrev ALr:List RS:=[.one,.one]
def Zb[Lk]:Vf→Option ((List Int×Bool×Unit)):=fun(a0,a1,_)=>
 match AL4 (a0,([a1]:List (Int)),())with|none=>none|some (y0,y1,_)=>match(!y1)with
 |true=>some (([]:List (Int)),false,())
 |false=>match idx y0 0 with|none=>none|some x2=>match TH (a0,(AY y0 0 0),())with|none=>none|some (y3,_)=>some (y3,true,())
def AIa[Lk]:=fun v=>Lk.f (Zb v)
theorem AQ2 v:AIa v=Zb v:=AJ _
abbrev ABk:AE:=[(.tmp 0,.dat U7)]
abbrev ABj:AE:=[(.tmp 0,.own 3 U0)]
abbrev ABi:List RS:=[.one]
def Q3[Lk]:Up→Option (Up):=fun(a0,_)=>
 match PT (a0,())with|none=>none|some (y0,_)=>match(!y0)with
 |true=>some (([]:List (Int)),())
 |false=>match(ieq (AM a0) 0)with
 |true=>some (([]:List (Int)),())
 |false=>match AeL (a0,())with|none=>none|some (y1,_)=>match Pu (a0,y1,())with|none=>none|some (y2,_)=>match TH (a0,y2,())with|none=>none|some (y3,_)=>some (y3,())
def ABl[Lk]:=fun v=>Lk.f (Q3 v)
theorem AIZ v:ABl v=Q3 v:=AJ _
abbrev Fq:AE:=[(.tmp 0,.dat Uj),(.cap 1 0,.box 1),(.cell 0 0,.di),(.tmp 1,.clo 128 [(0,0)])]
abbrev Fp:AE:=[(.obj 0,.box 1),(.cell 0 0,.di),(.tmp 0,.di)]
abbrev Fm:List RS:=[.one]
abbrev Ib:AE:=[(.obj 0,.box 1),(.cell 0 0,.di),(.tmp 0,.dat Uj),(.tmp 1,.clo 128 [(0,0)]),(.tmp 7,.di),(.tmp 8,.di)]
abbrev Ia:Ao:=[(.ret,[(.obj 0,.box 1),(.cell 0 0,.di),(.tmp 4,.di)]),(.exit 0,[(.obj 0,.box 1),(.cell 0 0,.di)])]
def Be[Lk]:(Int×List U5×Int×Int×Unit)→Option ((Int×List U5×Int×Int×Unit)⊕U1⊕Ub⊕Unit):=fun(a0,a1,a2,a3,_)=>
 match(ilt a3 a2)with
 |true=>match idx a1 a3 with|none=>none|some x0=>match GA (x0,a0,())with|none=>none|some (y1,_)=>match y1 with
  |true=>some (.inr (.inl (a0,a3,())))
  |false=>some (.inl (a0,a1,a2,(IntKind.wrap .i64 (a3+1)),()))
 |false=>some (.inr (.inr (.inl (a0,()))))
def Dl[Lk]:(List U5×Int×Unit)→Option (U1):=fun(a0,a1,_)=>
 match AU Be many (a1,a0,(AM a0),0,())with|none=>none|some r=>match r with
 |.inl (o0,o1,_)=>some (o0,o1,())
 |.inr r=>match r with
 |.inl (o2,_)=>some (o2,(-1:Int),())
 |.inr _=>none
def E2[Lk]:=fun v=>Lk.f (Dl v)
theorem Ic v:E2 v=Dl v:=AJ _
abbrev AAc:AE:=[(.tmp 0,.dat V5),(.tmp 1,.di)]
abbrev AAb:AE:=[(.tmp 0,.di)]
abbrev AAa:List RS:=[.one]
def Ql[Lk]:(V6×Int×Unit)→Option (Ub):=fun(a0,a1,_)=>
 match E2 (a0.2.1,a1,())with|none=>none|some (y0,y1,_)=>some (y1,())
def TL[Lk]:=fun v=>Lk.f (Ql v)
theorem AH9 v:TL v=Ql v:=AJ _
abbrev AYf:AE:=[(.tmp 0,.di),(.tmp 1,.dat U7)]
abbrev AYe:AE:=[(.tmp 0,.dat .bool)]
abbrev AYd:List RS:=[.one]
abbrev Abd:AE:=[(.tmp 0,.di),(.tmp 5,.box 3),(.cell 0 0,.own 3 U0),(.cell 0 1,.map U0 U0),(.cell 0 2,.map U0 U0),(.tmp 30,.dat U7),(.tmp 31,.di),(.tmp 32,.di)]
abbrev Abc:Ao:=[(.ret,[(.tmp 4,.dat .bool)]),(.exit 0,[(.tmp 5,.box 3),(.cell 0 0,.own 3 U0),(.cell 0 1,.map U0 U0),(.cell 0 2,.map U0 U0)])]
def Ii[Lk]:(Int×List Int×List Uz×List Uz×List Int×Int×Int×Unit)→Option ((Int×List Int×List Uz×List Uz×List Int×Int×Int×Unit)⊕Uf⊕(List Int×List Uz×List Uz×Unit)⊕Unit):=fun(a0,a1,a2,a3,a4,a5,a6,_)=>
 match(ilt a6 a5)with
 |true=>match idx a4 a6 with|none=>none|some x0=>match AAO (a0,x0,())with|none=>none|some (y1,y2,y3,y4,_)=>match(!y4)with
  |true=>some (.inr (.inl (false,())))
  |false=>match y3 with
  |true=>match idx a1 (IntKind.wrap .i64 ((AM a1)-1))with|none=>none|some x5=>match(!(ieq (AY a1 (AN (IntKind.wrap .i64 ((AM a1)-1))) 0) y1))with
   |true=>some (.inr (.inl (false,())))
   |false=>match(ilt 0 (IntKind.wrap .i64 ((AM a1)-1)))with
   |true=>match idx a1 (IntKind.wrap .i64 ((IntKind.wrap .i64 ((AM a1)-1))-1))with|none=>none|some x6=>match(ieq (AY a1 (AN (IntKind.wrap .i64 ((IntKind.wrap .i64 ((AM a1)-1))-1))) 0) y2)with
    |true=>match EG a1 0 (IntKind.wrap .i64 ((AM a1)-1))with|none=>none|some x7=>match(!y3)with
     |true=>match idx (F8 0 (AN (AM x7)) a1) (IntKind.wrap .i64 ((((AN (AM x7)):Nat):Int)-1))with|none=>none|some x8=>match(!(ieq (AY a1 (0+(AN (IntKind.wrap .i64 ((((AN (AM x7)):Nat):Int)-1)))) 0) y1))with
      |true=>some (.inr (.inl (false,())))
      |false=>match(!y3)with
      |true=>some (.inl (a0,(Bv (AN (AM x7)) a1),a2,(Ad a3 y1 (IntKind.wrap .i64 (((AR a3 y1).getD 0)+1))),a4,a5,(IntKind.wrap .i64 (a6+1)),()))
      |false=>some (.inl (a0,(Bv (AN (AM x7)) a1),a2,a3,a4,a5,(IntKind.wrap .i64 (a6+1)),()))
     |false=>match(!y3)with
     |true=>some (.inl (a0,(Bv (AN (AM x7)) a1),a2,(Ad a3 y1 (IntKind.wrap .i64 (((AR a3 y1).getD 0)+1))),a4,a5,(IntKind.wrap .i64 (a6+1)),()))
     |false=>some (.inl (a0,(Bv (AN (AM x7)) a1),a2,a3,a4,a5,(IntKind.wrap .i64 (a6+1)),()))
    |false=>match(ilt 0 ((AR a2 y2).getD 0))with
    |true=>some (.inr (.inl (false,())))
    |false=>match(fits ((AM a1)+(AM ([y2]:List (Int)))))with
    |true=>match(!y3)with
     |true=>match idx (BT a1 ([y2]:List (Int))) (IntKind.wrap .i64 ((AM (BT a1 ([y2]:List (Int))))-1))with|none=>none|some x9=>match(!(ieq (AY (BT a1 ([y2]:List (Int))) (AN (IntKind.wrap .i64 ((AM (BT a1 ([y2]:List (Int))))-1))) 0) y1))with
      |true=>some (.inr (.inl (false,())))
      |false=>match(!y3)with
      |true=>some (.inl (a0,(BT a1 ([y2]:List (Int))),(Ad a2 y2 (IntKind.wrap .i64 (((AR a2 y2).getD 0)+1))),(Ad a3 y1 (IntKind.wrap .i64 (((AR a3 y1).getD 0)+1))),a4,a5,(IntKind.wrap .i64 (a6+1)),()))
      |false=>some (.inl (a0,(BT a1 ([y2]:List (Int))),(Ad a2 y2 (IntKind.wrap .i64 (((AR a2 y2).getD 0)+1))),a3,a4,a5,(IntKind.wrap .i64 (a6+1)),()))
     |false=>match(!y3)with
     |true=>some (.inl (a0,(BT a1 ([y2]:List (Int))),(Ad a2 y2 (IntKind.wrap .i64 (((AR a2 y2).getD 0)+1))),(Ad a3 y1 (IntKind.wrap .i64 (((AR a3 y1).getD 0)+1))),a4,a5,(IntKind.wrap .i64 (a6+1)),()))
     |false=>some (.inl (a0,(BT a1 ([y2]:List (Int))),(Ad a2 y2 (IntKind.wrap .i64 (((AR a2 y2).getD 0)+1))),a3,a4,a5,(IntKind.wrap .i64 (a6+1)),()))
    |false=>none
   |false=>match(ilt 0 ((AR a2 y2).getD 0))with
   |true=>some (.inr (.inl (false,())))
   |false=>match(fits ((AM a1)+(AM ([y2]:List (Int)))))with
   |true=>match(!y3)with
    |true=>match idx (BT a1 ([y2]:List (Int))) (IntKind.wrap .i64 ((AM (BT a1 ([y2]:List (Int))))-1))with|none=>none|some x10=>match(!(ieq (AY (BT a1 ([y2]:List (Int))) (AN (IntKind.wrap .i64 ((AM (BT a1 ([y2]:List (Int))))-1))) 0) y1))with
     |true=>some (.inr (.inl (false,())))
     |false=>match(!y3)with
     |true=>some (.inl (a0,(BT a1 ([y2]:List (Int))),(Ad a2 y2 (IntKind.wrap .i64 (((AR a2 y2).getD 0)+1))),(Ad a3 y1 (IntKind.wrap .i64 (((AR a3 y1).getD 0)+1))),a4,a5,(IntKind.wrap .i64 (a6+1)),()))
     |false=>some (.inl (a0,(BT a1 ([y2]:List (Int))),(Ad a2 y2 (IntKind.wrap .i64 (((AR a2 y2).getD 0)+1))),a3,a4,a5,(IntKind.wrap .i64 (a6+1)),()))
    |false=>match(!y3)with
    |true=>some (.inl (a0,(BT a1 ([y2]:List (Int))),(Ad a2 y2 (IntKind.wrap .i64 (((AR a2 y2).getD 0)+1))),(Ad a3 y1 (IntKind.wrap .i64 (((AR a3 y1).getD 0)+1))),a4,a5,(IntKind.wrap .i64 (a6+1)),()))
    |false=>some (.inl (a0,(BT a1 ([y2]:List (Int))),(Ad a2 y2 (IntKind.wrap .i64 (((AR a2 y2).getD 0)+1))),a3,a4,a5,(IntKind.wrap .i64 (a6+1)),()))
   |false=>none
  |false=>match(!y3)with
  |true=>match idx a1 (IntKind.wrap .i64 ((AM a1)-1))with|none=>none|some x11=>match(!(ieq (AY a1 (AN (IntKind.wrap .i64 ((AM a1)-1))) 0) y1))with
   |true=>some (.inr (.inl (false,())))
   |false=>match(!y3)with
   |true=>some (.inl (a0,a1,a2,(Ad a3 y1 (IntKind.wrap .i64 (((AR a3 y1).getD 0)+1))),a4,a5,(IntKind.wrap .i64 (a6+1)),()))
   |false=>some (.inl (a0,a1,a2,a3,a4,a5,(IntKind.wrap .i64 (a6+1)),()))
  |false=>match(!y3)with
  |true=>some (.inl (a0,a1,a2,(Ad a3 y1 (IntKind.wrap .i64 (((AR a3 y1).getD 0)+1))),a4,a5,(IntKind.wrap .i64 (a6+1)),()))
  |false=>some (.inl (a0,a1,a2,a3,a4,a5,(IntKind.wrap .i64 (a6+1)),()))
 |false=>some (.inr (.inr (.inl (a1,a2,a3,()))))
def ANO[Lk]:(Int×List Int×Unit)→Option (Uf):=fun(a0,a1,_)=>
 match idx a1 0 with|none=>none|some x0=>match tin (a0,x0,())with|none=>none|some (y1,_)=>match(!y1)with
 |true=>some (false,())
 |false=>match idx a1 0 with|none=>none|some x2=>match idx a1 0 with|none=>none|some x3=>match AU Ii many (a0,([x2]:List (Int)),(Ad ([]:List Uz) x3 1),([]:List Uz),a1,(AM a1),0,())with|none=>none|some r=>match r with
 |.inl (o4,_)=>some (o4,())
 |.inr r=>match r with
 |.inl (o5,o6,o7,_)=>match(ieq (AM o5) 1)with
  |true=>some ((ieq (AM o7) (AM o6)),())
  |false=>some (false,())
 |.inr _=>none
def Aj8[Lk]:=fun v=>Lk.f (ANO v)
theorem Abe v:Aj8 v=ANO v:=AJ _
abbrev AAY:AE:=[(.tmp 0,.dat V5)]
abbrev AAX:AE:=[(.tmp 0,.dat .bool)]
abbrev AAW:List RS:=[.one]
abbrev AH5:AE:=[(.tmp 3,.map U0 U0),(.tmp 78,.di),(.tmp 79,.di)]
abbrev AH2:Ao:=[(.ret,[(.tmp 2,.dat .bool)]),(.exit 4,[])]
def Eb[Lk]:(List Uz×Int×Int×Unit)→Option ((List Uz×Int×Int×Unit)⊕Uf⊕(Unit)⊕Unit):=fun(a0,a1,a2,_)=>
 match(ilt a2 a1)with
 |true=>match(ieq ((AR a0 a2).getD 0) 0)with
  |true=>some (.inr (.inl (false,())))
  |false=>some (.inl (a0,a1,(IntKind.wrap .i64 (a2+1)),()))
 |false=>some (.inr (.inr (.inl ())))
abbrev AH6:AE:=[(.tmp 1,.box 2),(.cell 0 0,.di),(.cell 0 1,.dat Uj),(.tmp 3,.map U0 U0),(.tmp 4,.di),(.tmp 16,.dat Uj),(.tmp 17,.di),(.tmp 18,.di),(.tmp 26,.dat U7),(.tmp 28,.di),(.tmp 29,.di),(.tmp 30,.dat .bool),(.tmp 33,.dat U7),(.tmp 34,.dat .bool),(.tmp 35,.dat .bool),(.tmp 38,.dat U7),(.tmp 39,.di),(.tmp 40,.dat U7),(.tmp 42,.di),(.tmp 43,.dat .bool),(.tmp 46,.ptr' 0 0),(.tmp 47,.di),(.tmp 48,.dat U7),(.tmp 49,.dat .bool),(.tmp 50,.dat .bool),(.tmp 55,.dat U7),(.tmp 56,.di),(.tmp 57,.di)]
abbrev AH3:Ao:=[(.ret,[(.tmp 2,.dat .bool)]),(.exit 2,[(.tmp 1,.box 2),(.cell 0 0,.di),(.cell 0 1,.dat Uj),(.tmp 3,.map U0 U0),(.tmp 4,.di),(.tmp 16,.dat Uj),(.tmp 17,.di),(.tmp 18,.di),(.tmp 26,.dat U7),(.tmp 28,.di),(.tmp 29,.di),(.tmp 30,.dat .bool),(.tmp 33,.dat U7),(.tmp 34,.dat .bool),(.tmp 35,.dat .bool),(.tmp 38,.dat U7),(.tmp 39,.di),(.tmp 40,.dat U7),(.tmp 42,.di),(.tmp 43,.dat .bool),(.tmp 46,.ptr' 0 0),(.tmp 47,.di),(.tmp 48,.dat U7),(.tmp 49,.dat .bool),(.tmp 50,.dat .bool)])]
def Db[Lk]:V8→Option (V8⊕Uf⊕(Int×List U5×List Uz×Int×List U5×Int×Int×List Int×Int×Int×Bool×List Int×Bool×Bool×List Int×Int×List Int×Int×Bool×Int×List Int×Bool×Bool×Unit)⊕Unit):=fun(a0,a1,a2,a3,a4,a5,a6,a7,a8,a9,a10,a11,a12,a13,a14,a15,a16,a17,a18,a19,a20,a21,a22,a23,a24,a25,_)=>
 match(ilt a25 a24)with
 |true=>match idx a23 a25 with|none=>none|some x0=>match(ilt x0 a0)with
  |true=>match(ilt 0 ((AR a2 x0).getD 0))with
   |true=>some (.inr (.inl (false,())))
   |false=>some (.inl (a0,a1,(Ad a2 x0 (IntKind.wrap .i64 (((AR a2 x0).getD 0)+1))),a3,a4,a5,a6,a7,a8,a9,a10,a11,a12,a13,a14,a15,a16,a17,a18,a19,a20,a21,a22,a23,a24,(IntKind.wrap .i64 (a25+1)),()))
  |false=>some (.inl (a0,a1,(Ad a2 x0 (IntKind.wrap .i64 (((AR a2 x0).getD 0)+1))),a3,a4,a5,a6,a7,a8,a9,a10,a11,a12,a13,a14,a15,a16,a17,a18,a19,a20,a21,a22,a23,a24,(IntKind.wrap .i64 (a25+1)),()))
 |false=>some (.inr (.inr (.inl (a0,a1,a2,a3,a4,a5,a6,a7,a8,a9,a10,a11,a12,a13,a14,a15,a16,a17,a18,a19,a20,a21,a22,()))))
abbrev AH7:AE:=[(.tmp 1,.box 2),(.cell 0 0,.di),(.cell 0 1,.dat Uj),(.tmp 3,.map U0 U0),(.tmp 4,.di),(.tmp 16,.dat Uj),(.tmp 17,.di),(.tmp 18,.di)]
abbrev AH4:Ao:=[(.ret,[(.tmp 2,.dat .bool)]),(.exit 0,[(.tmp 1,.box 2),(.cell 0 0,.di),(.cell 0 1,.dat Uj),(.tmp 3,.map U0 U0)])]
def Dc[Lk]:(Int×List U5×List Uz×Int×List U5×Int×Int×Unit)→Option ((Int×List U5×List Uz×Int×List U5×Int×Int×Unit)⊕Uf⊕(Int×List U5×List Uz×Unit)⊕Unit):=fun(a0,a1,a2,a3,a4,a5,a6,_)=>
 match(ilt a6 a5)with
 |true=>match idx a4 a6 with|none=>none|some x0=>match(ieq (AM x0) 0)with
  |true=>some (.inr (.inl (false,())))
  |false=>match idx x0 0 with|none=>none|some x1=>match(ile x1 a3)with
  |true=>some (.inr (.inl (false,())))
  |false=>match PT (x0,())with|none=>none|some (y2,_)=>match(!y2)with
  |true=>some (.inr (.inl (false,())))
  |false=>match AeL (x0,())with|none=>none|some (y3,_)=>match idx x0 0 with|none=>none|some x4=>match(!(ieq y3 x4))with
  |true=>some (.inr (.inl (false,())))
  |false=>match Aj8 (a0,x0,())with|none=>none|some (y5,_)=>match(!y5)with
  |true=>some (.inr (.inl (false,())))
  |false=>match idx x0 0 with|none=>none|some x6=>match AU Db many (a0,a1,a2,x6,a4,a5,a6,x0,x1,a3,(ile x1 a3),x0,y2,(!y2),x0,y3,x0,x4,(!(ieq y3 x4)),a0,x0,y5,(!y5),x0,(AM x0),0,())with|none=>none|some r=>match r with
  |.inl (o7,_)=>some (.inr (.inl (o7,())))
  |.inr r=>match r with
  |.inl (o8,o9,o10,o11,o12,o13,o14,o15,o16,o17,o18,o19,o20,o21,o22,o23,o24,o25,o26,o27,o28,o29,o30,_)=>some (.inl (o8,o9,o10,o11,o12,o13,(IntKind.wrap .i64 (o14+1)),()))
  |.inr _=>none
 |false=>some (.inr (.inr (.inl (a0,a1,a2,()))))
def Qk[Lk]:(V6×Unit)→Option (Uf):=fun(a0,_)=>
 match MD (a0.1,())with|none=>none|some (y0,_)=>match(!y0)with
 |true=>some (false,())
 |false=>match AU Dc many (a0.1,a0.2.1,([]:List Uz),(-1:Int),a0.2.1,(AM a0.2.1),0,())with|none=>none|some r=>match r with
 |.inl (o1,_)=>some (o1,())
 |.inr r=>match r with
 |.inl (o2,o3,o4,_)=>match AU Eb many (o4,o2,0,())with|none=>none|some r=>match r with
  |.inl (o5,_)=>some (o5,())
  |.inr r=>match r with
  |.inl _=>some (true,())
  |.inr _=>none
 |.inr _=>none
def TK[Lk]:=fun v=>Lk.f (Qk v)
theorem AH8 v:TK v=Qk v:=AJ _
abbrev AOk:AE:=[(.tmp 0,.dat V5),(.tmp 1,.di),(.tmp 2,.di)]
abbrev AOj:AE:=[(.tmp 0,.di)]
abbrev AOi:List RS:=[.one]
def Zv[Lk]:(V6×Int×Int×Unit)→Option (Ub):=fun(a0,a1,a2,_)=>
 match TK ((a0.1,(a0.2.1,())),())with|none=>none|some (y0,_)=>match(!y0)with
 |true=>some (1,())
 |false=>match tin (a0.1,a1,())with|none=>none|some (y1,_)=>match(!y1)with
 |true=>some (10,())
 |false=>match tin (a0.1,a2,())with|none=>none|some (y2,_)=>match(!y2)with
 |true=>some (10,())
 |false=>some (0,())
def asked[Lk]:=fun v=>Lk.f (Zv v)
theorem AUm v:asked v=Zv v:=AJ _
abbrev AXo:AE:=[(.tmp 0,.di)]
abbrev AXn:AE:=[(.tmp 0,.dat .bool)]
abbrev AXm:List RS:=[.one]
def Kf[Lk]:Ub→Option (Uf):=fun(a0,_)=>
 some ((!(ieq a0 a0)),())
def AjP[Lk]:=fun v=>Lk.f (Kf v)
theorem Ke v:AjP v=Kf v:=AJ _
abbrev QG:AE:=[(.tmp 0,.di),(.tmp 1,.di)]
abbrev QF:AE:=[(.tmp 0,.di)]
abbrev QE:List RS:=[.one]
def EW[Lk]:U1→Option (Ub):=fun(a0,a1,_)=>
 match AjP (a0,())with|none=>none|some (y0,_)=>match AjP (a1,())with|none=>none|some (y1,_)=>match y0 with
 |true=>match y1 with
  |true=>some (0,())
  |false=>some ((-1:Int),())
 |false=>match y1 with
 |true=>some (1,())
 |false=>match(ilt a0 a1)with
 |true=>some ((-1:Int),())
 |false=>match(ilt a1 a0)with
 |true=>some (1,())
 |false=>some (0,())
def DY[Lk]:=fun v=>Lk.f (EW v)
theorem Gl v:DY v=EW v:=AJ _
abbrev AKT:AE:=[(.tmp 0,.dat U7),(.tmp 1,.dat U7)]
abbrev AKS:AE:=[(.tmp 0,.di)]
abbrev AKR:List RS:=[.one]
def ZR[Lk]:(List Int×List Int×Unit)→Option (Ub):=fun(a0,a1,_)=>
 match idx a0 0 with|none=>none|some x0=>match idx a1 0 with|none=>none|some x1=>match DY (x0,x1,())with|none=>none|some (y2,_)=>some (y2,())
def BG[Lk]:=fun v=>Lk.f (ZR v)
theorem APV v:BG v=ZR v:=AJ _
def Gv:List Int:=[0,1,2,2,3,3,3,3,4,4,4,4,4,4,4,4,5,5,5,5,5,5,5,5,5,5,5,5,5,5,5,5,6,6,6,6,6,6,6,6,6,6,6,6,6,6,6,6,6,6,6,6,6,6,6,6,6,6,6,6,6,6,6,6,7,7,7,7,7,7,7,7,7,7,7,7,7,7,7,7,7,7,7,7,7,7,7,7,7,7,7,7,7,7,7,7,7,7,7,7,7,7,7,7,7,7,7,7,7,7,7,7,7,7,7,7,7,7,7,7,7,7,7,7,7,7,7,7,8,8,8,8,8,8,8,8,8,8,8,8,8,8,8,8,8,8,8,8,8,8,8,8,8,8,8,8,8,8,8,8,8,8,8,8,8,8,8,8,8,8,8,8,8,8,8,8,8,8,8,8,8,8,8,8,8,8,8,8,8,8,8,8,8,8,8,8,8,8,8,8,8,8,8,8,8,8,8,8,8,8,8,8,8,8,8,8,8,8,8,8,8,8,8,8,8,8,8,8,8,8,8,8,8,8,8,8,8,8,8,8,8,8,8,8,8,8,8,8,8,8,8,8,8,8,8,8]
abbrev AMx:AE:=[(.tmp 0,.dat (.int .u64))]
abbrev AMw:AE:=[(.tmp 0,.di)]
abbrev AMv:List RS:=[.one]
def Zg[Lk]:Ub→Option (Ub):=fun(a0,_)=>
 match(ile 4294967296 a0)with
 |true=>match shr? .u64 a0 32 with|none=>none|some x0=>match(ile 65536 x0)with
  |true=>match shr? .u64 x0 16 with|none=>none|some x1=>match(ile 256 x1)with
   |true=>match shr? .u64 x1 8 with|none=>none|some x2=>match idx Gv (IntKind.wrap .u8 x2)with|none=>none|some x3=>some ((IntKind.wrap .i64 ((IntKind.wrap .i64 ((IntKind.wrap .i64 (32+16))+8))+(IntKind.wrap .i64 x3))),())
   |false=>match idx Gv (IntKind.wrap .u8 x1)with|none=>none|some x4=>some ((IntKind.wrap .i64 ((IntKind.wrap .i64 (32+16))+(IntKind.wrap .i64 x4))),())
  |false=>match(ile 256 x0)with
  |true=>match shr? .u64 x0 8 with|none=>none|some x5=>match idx Gv (IntKind.wrap .u8 x5)with|none=>none|some x6=>some ((IntKind.wrap .i64 ((IntKind.wrap .i64 (32+8))+(IntKind.wrap .i64 x6))),())
  |false=>match idx Gv (IntKind.wrap .u8 x0)with|none=>none|some x7=>some ((IntKind.wrap .i64 (32+(IntKind.wrap .i64 x7))),())
 |false=>match(ile 65536 a0)with
 |true=>match shr? .u64 a0 16 with|none=>none|some x8=>match(ile 256 x8)with
  |true=>match shr? .u64 x8 8 with|none=>none|some x9=>match idx Gv (IntKind.wrap .u8 x9)with|none=>none|some x10=>some ((IntKind.wrap .i64 ((IntKind.wrap .i64 ((IntKind.wrap .i64 (0+16))+8))+(IntKind.wrap .i64 x10))),())
  |false=>match idx Gv (IntKind.wrap .u8 x8)with|none=>none|some x11=>some ((IntKind.wrap .i64 ((IntKind.wrap .i64 (0+16))+(IntKind.wrap .i64 x11))),())
 |false=>match(ile 256 a0)with
 |true=>match shr? .u64 a0 8 with|none=>none|some x12=>match idx Gv (IntKind.wrap .u8 x12)with|none=>none|some x13=>some ((IntKind.wrap .i64 ((IntKind.wrap .i64 (0+8))+(IntKind.wrap .i64 x13))),())
 |false=>match idx Gv (IntKind.wrap .u8 a0)with|none=>none|some x14=>some ((IntKind.wrap .i64 (0+(IntKind.wrap .i64 x14))),())
def ASl[Lk]:=fun v=>Lk.f (Zg v)
theorem ASk v:ASl v=Zg v:=AJ _
abbrev Wj:AE:=[(.tmp 0,.dat (.int .u64))]
abbrev Wi:AE:=[(.tmp 0,.di)]
abbrev Wh:List RS:=[.one]
def OE[Lk]:Ub→Option (Ub):=fun(a0,_)=>
 match ASl (a0,())with|none=>none|some (y0,_)=>some (y0,())
def bitsLen[Lk]:=fun v=>Lk.f (OE v)
theorem AFl v:bitsLen v=OE v:=AJ _
abbrev TG:AE:=[(.tmp 0,.box 1),(.cell 0 0,.dat (.int .u64))]
abbrev TF:AE:=[(.obj 0,.box 1),(.cell 0 0,.dat (.int .u64)),(.tmp 0,.dat (.int .u64))]
abbrev TE:List RS:=[.one]
def Nb[Lk]:Ub→Option (U1):=fun(a0,_)=>
 match shl? .u64 a0 13 with|none=>none|some x0=>match shr? .u64 (IntKind.wrap .u64 ((BitVec.ofInt (IntKind.bits .u64) a0 ^^^ BitVec.ofInt (IntKind.bits .u64) x0).toNat)) 7 with|none=>none|some x1=>match shl? .u64 (IntKind.wrap .u64 ((BitVec.ofInt (IntKind.bits .u64) (IntKind.wrap .u64 ((BitVec.ofInt (IntKind.bits .u64) a0 ^^^ BitVec.ofInt (IntKind.bits .u64) x0).toNat)) ^^^ BitVec.ofInt (IntKind.bits .u64) x1).toNat)) 17 with|none=>none|some x2=>some ((IntKind.wrap .u64 ((BitVec.ofInt (IntKind.bits .u64) (IntKind.wrap .u64 ((BitVec.ofInt (IntKind.bits .u64) (IntKind.wrap .u64 ((BitVec.ofInt (IntKind.bits .u64) a0 ^^^ BitVec.ofInt (IntKind.bits .u64) x0).toNat)) ^^^ BitVec.ofInt (IntKind.bits .u64) x1).toNat)) ^^^ BitVec.ofInt (IntKind.bits .u64) x2).toNat)),(IntKind.wrap .u64 ((BitVec.ofInt (IntKind.bits .u64) (IntKind.wrap .u64 ((BitVec.ofInt (IntKind.bits .u64) (IntKind.wrap .u64 ((BitVec.ofInt (IntKind.bits .u64) a0 ^^^ BitVec.ofInt (IntKind.bits .u64) x0).toNat)) ^^^ BitVec.ofInt (IntKind.bits .u64) x1).toNat)) ^^^ BitVec.ofInt (IntKind.bits .u64) x2).toNat)),())
def xorNext[Lk]:=fun v=>Lk.f (Nb v)
theorem Z6 v:xorNext v=Nb v:=AJ _
abbrev UU:AE:=[(.tmp 0,.di)]
abbrev UT:AE:=[(.tmp 0,.dat (.int .u64))]
abbrev US:List RS:=[.one]
def Nv[Lk]:Ub→Option (Ub):=fun(a0,_)=>
 match bitsLen ((IntKind.wrap .u64 a0),())with|none=>none|some (y0,_)=>match shl? .u64 1 y0 with|none=>none|some x1=>some (x1,())
def RK[Lk]:=fun v=>Lk.f (Nv v)
theorem ADM v:RK v=Nv v:=AJ _
def Ny[Lk]{α:Type}(z:α)(c:α×α×Unit→Option Ub):(List α×Int×Int×Int×Int×Unit)→Option ((List α×Int×Int×Int×Int×Unit)⊕(List α×Int×Int×Int×Unit)⊕Unit):=fun(a0,a1,a2,a3,a4,_)=>
 match(ilt a1 a4)with
 |true=>match idx a0 a4 with|none=>none|some x0=>match idx a0 (IntKind.wrap .i64 (a4-1))with|none=>none|some x1=>match c ((AY a0 (AN a4) z),(AY a0 (AN (IntKind.wrap .i64 (a4-1))) z),())with|none=>none|some (y2,_)=>match(ilt y2 0)with
  |true=>match idx a0 (IntKind.wrap .i64 (a4-1))with|none=>none|some x3=>match idx a0 a4 with|none=>none|some x4=>match idx a0 a4 with|none=>none|some x5=>match idx (Az a0 (AN a4) (AY a0 (AN (IntKind.wrap .i64 (a4-1))) z)) (IntKind.wrap .i64 (a4-1))with|none=>none|some x6=>some (.inl ((Az (Az a0 (AN a4) (AY a0 (AN (IntKind.wrap .i64 (a4-1))) z)) (AN (IntKind.wrap .i64 (a4-1))) (AY a0 (AN a4) z)),a1,a2,a3,(IntKind.wrap .i64 (a4-1)),()))
  |false=>some (.inr (.inl (a0,a1,a2,a3,())))
 |false=>some (.inr (.inl (a0,a1,a2,a3,())))
def Nz[Lk]{α:Type}(z:α)(c:α×α×Unit→Option Ub):(List α×Int×Int×Int×Unit)→Option ((List α×Int×Int×Int×Unit)⊕(List α×Unit)⊕Unit):=fun(a0,a1,a2,a3,_)=>
 match(ilt a3 a2)with
 |true=>match AU (Ny z c) many (a0,a1,a2,a3,a3,())with|none=>none|some r=>match r with
  |.inl (o0,o1,o2,o3,_)=>some (.inl (o0,o1,o2,(IntKind.wrap .i64 (o3+1)),()))
  |.inr _=>none
 |false=>some (.inr (.inl (a0,())))
def ADp[Lk]{α:Type}(z:α)(c:α×α×Unit→Option Ub):(List α×Int×Int×Unit)→Option ((List α×Unit)):=fun(a0,a1,a2,_)=>
 match AU (Nz z c) many (a0,a1,a2,(IntKind.wrap .i64 (a1+1)),())with|none=>none|some r=>match r with
 |.inl (o0,_)=>some (o0,())
 |.inr _=>none
def Ajk[Lk]{α:Type}(z:α)(c:α×α×Unit→Option Ub)(v:(List α×Int×Int×Unit)):Option ((List α×Unit)):=Lk.f ((ADp z c) v)
theorem Amu{α:Type}(z:α)(c:α×α×Unit→Option Ub)(v:(List α×Int×Int×Unit)):(Ajk z c) v=(ADp z c) v:=AJ _
def Jd[Lk]{α:Type}(z:α)(c:α×α×Unit→Option Ub):(List α×Int×Int×Int×Unit)→Option ((List α×Int×Int×Int×Unit)⊕(List α×Unit)⊕(List α×Unit)⊕Unit):=fun(a0,a1,a2,a3,_)=>
 match(ile a1 (IntKind.wrap .i64 ((IntKind.wrap .i64 (2*a3))+1)))with
 |true=>some (.inr (.inl (a0,())))
 |false=>match(ilt (IntKind.wrap .i64 ((IntKind.wrap .i64 ((IntKind.wrap .i64 (2*a3))+1))+1)) a1)with
 |true=>match idx a0 (IntKind.wrap .i64 (a2+(IntKind.wrap .i64 ((IntKind.wrap .i64 (2*a3))+1))))with|none=>none|some x0=>match idx a0 (IntKind.wrap .i64 ((IntKind.wrap .i64 (a2+(IntKind.wrap .i64 ((IntKind.wrap .i64 (2*a3))+1))))+1))with|none=>none|some x1=>match c ((AY a0 (AN (IntKind.wrap .i64 (a2+(IntKind.wrap .i64 ((IntKind.wrap .i64 (2*a3))+1))))) z),(AY a0 (AN (IntKind.wrap .i64 ((IntKind.wrap .i64 (a2+(IntKind.wrap .i64 ((IntKind.wrap .i64 (2*a3))+1))))+1))) z),())with|none=>none|some (y2,_)=>match(ilt y2 0)with
  |true=>match idx a0 (IntKind.wrap .i64 (a2+a3))with|none=>none|some x3=>match idx a0 (IntKind.wrap .i64 (a2+(IntKind.wrap .i64 ((IntKind.wrap .i64 ((IntKind.wrap .i64 (2*a3))+1))+1))))with|none=>none|some x4=>match c ((AY a0 (AN (IntKind.wrap .i64 (a2+a3))) z),(AY a0 (AN (IntKind.wrap .i64 (a2+(IntKind.wrap .i64 ((IntKind.wrap .i64 ((IntKind.wrap .i64 (2*a3))+1))+1))))) z),())with|none=>none|some (y5,_)=>match(!(ilt y5 0))with
   |true=>some (.inr (.inr (.inl (a0,()))))
   |false=>match idx a0 (IntKind.wrap .i64 (a2+(IntKind.wrap .i64 ((IntKind.wrap .i64 ((IntKind.wrap .i64 (2*a3))+1))+1))))with|none=>none|some x6=>match idx a0 (IntKind.wrap .i64 (a2+a3))with|none=>none|some x7=>match idx a0 (IntKind.wrap .i64 (a2+a3))with|none=>none|some x8=>match idx (Az a0 (AN (IntKind.wrap .i64 (a2+a3))) (AY a0 (AN (IntKind.wrap .i64 (a2+(IntKind.wrap .i64 ((IntKind.wrap .i64 ((IntKind.wrap .i64 (2*a3))+1))+1))))) z)) (IntKind.wrap .i64 (a2+(IntKind.wrap .i64 ((IntKind.wrap .i64 ((IntKind.wrap .i64 (2*a3))+1))+1))))with|none=>none|some x9=>some (.inl ((Az (Az a0 (AN (IntKind.wrap .i64 (a2+a3))) (AY a0 (AN (IntKind.wrap .i64 (a2+(IntKind.wrap .i64 ((IntKind.wrap .i64 ((IntKind.wrap .i64 (2*a3))+1))+1))))) z)) (AN (IntKind.wrap .i64 (a2+(IntKind.wrap .i64 ((IntKind.wrap .i64 ((IntKind.wrap .i64 (2*a3))+1))+1))))) (AY a0 (AN (IntKind.wrap .i64 (a2+a3))) z)),a1,a2,(IntKind.wrap .i64 ((IntKind.wrap .i64 ((IntKind.wrap .i64 (2*a3))+1))+1)),()))
  |false=>match idx a0 (IntKind.wrap .i64 (a2+a3))with|none=>none|some x10=>match idx a0 (IntKind.wrap .i64 (a2+(IntKind.wrap .i64 ((IntKind.wrap .i64 (2*a3))+1))))with|none=>none|some x11=>match c ((AY a0 (AN (IntKind.wrap .i64 (a2+a3))) z),(AY a0 (AN (IntKind.wrap .i64 (a2+(IntKind.wrap .i64 ((IntKind.wrap .i64 (2*a3))+1))))) z),())with|none=>none|some (y12,_)=>match(!(ilt y12 0))with
  |true=>some (.inr (.inr (.inl (a0,()))))
  |false=>match idx a0 (IntKind.wrap .i64 (a2+(IntKind.wrap .i64 ((IntKind.wrap .i64 (2*a3))+1))))with|none=>none|some x13=>match idx a0 (IntKind.wrap .i64 (a2+a3))with|none=>none|some x14=>match idx a0 (IntKind.wrap .i64 (a2+a3))with|none=>none|some x15=>match idx (Az a0 (AN (IntKind.wrap .i64 (a2+a3))) (AY a0 (AN (IntKind.wrap .i64 (a2+(IntKind.wrap .i64 ((IntKind.wrap .i64 (2*a3))+1))))) z)) (IntKind.wrap .i64 (a2+(IntKind.wrap .i64 ((IntKind.wrap .i64 (2*a3))+1))))with|none=>none|some x16=>some (.inl ((Az (Az a0 (AN (IntKind.wrap .i64 (a2+a3))) (AY a0 (AN (IntKind.wrap .i64 (a2+(IntKind.wrap .i64 ((IntKind.wrap .i64 (2*a3))+1))))) z)) (AN (IntKind.wrap .i64 (a2+(IntKind.wrap .i64 ((IntKind.wrap .i64 (2*a3))+1))))) (AY a0 (AN (IntKind.wrap .i64 (a2+a3))) z)),a1,a2,(IntKind.wrap .i64 ((IntKind.wrap .i64 (2*a3))+1)),()))
 |false=>match idx a0 (IntKind.wrap .i64 (a2+a3))with|none=>none|some x17=>match idx a0 (IntKind.wrap .i64 (a2+(IntKind.wrap .i64 ((IntKind.wrap .i64 (2*a3))+1))))with|none=>none|some x18=>match c ((AY a0 (AN (IntKind.wrap .i64 (a2+a3))) z),(AY a0 (AN (IntKind.wrap .i64 (a2+(IntKind.wrap .i64 ((IntKind.wrap .i64 (2*a3))+1))))) z),())with|none=>none|some (y19,_)=>match(!(ilt y19 0))with
 |true=>some (.inr (.inr (.inl (a0,()))))
 |false=>match idx a0 (IntKind.wrap .i64 (a2+(IntKind.wrap .i64 ((IntKind.wrap .i64 (2*a3))+1))))with|none=>none|some x20=>match idx a0 (IntKind.wrap .i64 (a2+a3))with|none=>none|some x21=>match idx a0 (IntKind.wrap .i64 (a2+a3))with|none=>none|some x22=>match idx (Az a0 (AN (IntKind.wrap .i64 (a2+a3))) (AY a0 (AN (IntKind.wrap .i64 (a2+(IntKind.wrap .i64 ((IntKind.wrap .i64 (2*a3))+1))))) z)) (IntKind.wrap .i64 (a2+(IntKind.wrap .i64 ((IntKind.wrap .i64 (2*a3))+1))))with|none=>none|some x23=>some (.inl ((Az (Az a0 (AN (IntKind.wrap .i64 (a2+a3))) (AY a0 (AN (IntKind.wrap .i64 (a2+(IntKind.wrap .i64 ((IntKind.wrap .i64 (2*a3))+1))))) z)) (AN (IntKind.wrap .i64 (a2+(IntKind.wrap .i64 ((IntKind.wrap .i64 (2*a3))+1))))) (AY a0 (AN (IntKind.wrap .i64 (a2+a3))) z)),a1,a2,(IntKind.wrap .i64 ((IntKind.wrap .i64 (2*a3))+1)),()))
def Qu[Lk]{α:Type}(z:α)(c:α×α×Unit→Option Ub):(List α×Int×Int×Int×Unit)→Option ((List α×Unit)):=fun(a0,a1,a2,a3,_)=>
 match AU (Jd z c) many (a0,a2,a3,a1,())with|none=>none|some r=>match r with
 |.inl (o0,_)=>some (o0,())
 |.inr r=>match r with
 |.inl (o1,_)=>some (o1,())
 |.inr _=>none
def AIL[Lk]{α:Type}(z:α)(c:α×α×Unit→Option Ub)(v:(List α×Int×Int×Int×Unit)):Option ((List α×Unit)):=Lk.f ((Qu z c) v)
theorem Aha{α:Type}(z:α)(c:α×α×Unit→Option Ub)(v:(List α×Int×Int×Int×Unit)):(AIL z c) v=(Qu z c) v:=AJ _
def Jv[Lk]{α:Type}(z:α)(c:α×α×Unit→Option Ub):(List α×Int×Int×Int×Unit)→Option ((List α×Int×Int×Int×Unit)⊕(List α×Unit)⊕Unit):=fun(a0,a1,a2,a3,_)=>
 match(ile 0 a3)with
 |true=>match idx a0 (IntKind.wrap .i64 (a1+a3))with|none=>none|some x0=>match idx a0 a1 with|none=>none|some x1=>match idx a0 a1 with|none=>none|some x2=>match idx (Az a0 (AN a1) (AY a0 (AN (IntKind.wrap .i64 (a1+a3))) z)) (IntKind.wrap .i64 (a1+a3))with|none=>none|some x3=>match(AIL z c) ((Az (Az a0 (AN a1) (AY a0 (AN (IntKind.wrap .i64 (a1+a3))) z)) (AN (IntKind.wrap .i64 (a1+a3))) (AY a0 (AN a1) z)),a2,a3,a1,())with|none=>none|some (y4,_)=>some (.inl (y4,a1,a2,(IntKind.wrap .i64 (a3-1)),()))
 |false=>some (.inr (.inl (a0,())))
def Jw[Lk]{α:Type}(z:α)(c:α×α×Unit→Option Ub):(List α×Int×Int×Int×Int×Unit)→Option ((List α×Int×Int×Int×Int×Unit)⊕(List α×Int×Int×Int×Unit)⊕Unit):=fun(a0,a1,a2,a3,a4,_)=>
 match(ile 0 a4)with
 |true=>match(AIL z c) (a0,a4,a3,a1,())with|none=>none|some (y0,_)=>some (.inl (y0,a1,a2,a3,(IntKind.wrap .i64 (a4-1)),()))
 |false=>some (.inr (.inl (a0,a1,a2,a3,())))
def Rc[Lk]{α:Type}(z:α)(c:α×α×Unit→Option Ub):(List α×Int×Int×Unit)→Option ((List α×Unit)):=fun(a0,a1,a2,_)=>
 match quo? .i64 (IntKind.wrap .i64 ((IntKind.wrap .i64 (a2-a1))-1)) 2 with|none=>none|some x0=>match AU (Jw z c) many (a0,a1,0,(IntKind.wrap .i64 (a2-a1)),x0,())with|none=>none|some r=>match r with
 |.inl (o1,o2,o3,o4,_)=>match AU (Jv z c) many (o1,o2,o3,(IntKind.wrap .i64 (o4-1)),())with|none=>none|some r=>match r with
  |.inl (o5,_)=>some (o5,())
  |.inr _=>none
 |.inr _=>none
def AS2[Lk]{α:Type}(z:α)(c:α×α×Unit→Option Ub)(v:(List α×Int×Int×Unit)):Option ((List α×Unit)):=Lk.f ((Rc z c) v)
theorem Ajx{α:Type}(z:α)(c:α×α×Unit→Option Ub)(v:(List α×Int×Int×Unit)):(AS2 z c) v=(Rc z c) v:=AJ _
def GB[Lk]{α:Type}(z:α)(c:α×α×Unit→Option Ub):(List α×Int×Int×Int×Int×Int×Unit)→Option ((List α×Int×Int×Int×Int×Int×Unit)⊕(List α×Unit)⊕Unit):=fun(a0,a1,a2,a3,a4,a5,_)=>
 match quo? .i64 a2 4 with|none=>none|some x0=>match(ile a5 (IntKind.wrap .i64 ((IntKind.wrap .i64 (a1+(IntKind.wrap .i64 (x0*2))))+1)))with
 |true=>match xorNext (a3,())with|none=>none|some (y1,y2,_)=>match(ile a2 (IntKind.wrap .i64 (IntKind.wrap .u64 ((BitVec.ofInt (IntKind.bits .u64) y2 &&& BitVec.ofInt (IntKind.bits .u64) (IntKind.wrap .u64 (a4-1))).toNat))))with
  |true=>match idx a0 (IntKind.wrap .i64 (a1+(IntKind.wrap .i64 ((IntKind.wrap .i64 (IntKind.wrap .u64 ((BitVec.ofInt (IntKind.bits .u64) y2 &&& BitVec.ofInt (IntKind.bits .u64) (IntKind.wrap .u64 (a4-1))).toNat)))-a2))))with|none=>none|some x3=>match idx a0 a5 with|none=>none|some x4=>match idx a0 a5 with|none=>none|some x5=>match idx (Az a0 (AN a5) (AY a0 (AN (IntKind.wrap .i64 (a1+(IntKind.wrap .i64 ((IntKind.wrap .i64 (IntKind.wrap .u64 ((BitVec.ofInt (IntKind.bits .u64) y2 &&& BitVec.ofInt (IntKind.bits .u64) (IntKind.wrap .u64 (a4-1))).toNat)))-a2))))) z)) (IntKind.wrap .i64 (a1+(IntKind.wrap .i64 ((IntKind.wrap .i64 (IntKind.wrap .u64 ((BitVec.ofInt (IntKind.bits .u64) y2 &&& BitVec.ofInt (IntKind.bits .u64) (IntKind.wrap .u64 (a4-1))).toNat)))-a2))))with|none=>none|some x6=>some (.inl ((Az (Az a0 (AN a5) (AY a0 (AN (IntKind.wrap .i64 (a1+(IntKind.wrap .i64 ((IntKind.wrap .i64 (IntKind.wrap .u64 ((BitVec.ofInt (IntKind.bits .u64) y2 &&& BitVec.ofInt (IntKind.bits .u64) (IntKind.wrap .u64 (a4-1))).toNat)))-a2))))) z)) (AN (IntKind.wrap .i64 (a1+(IntKind.wrap .i64 ((IntKind.wrap .i64 (IntKind.wrap .u64 ((BitVec.ofInt (IntKind.bits .u64) y2 &&& BitVec.ofInt (IntKind.bits .u64) (IntKind.wrap .u64 (a4-1))).toNat)))-a2))))) (AY a0 (AN a5) z)),a1,a2,y1,a4,(IntKind.wrap .i64 (a5+1)),()))
  |false=>match idx a0 (IntKind.wrap .i64 (a1+(IntKind.wrap .i64 (IntKind.wrap .u64 ((BitVec.ofInt (IntKind.bits .u64) y2 &&& BitVec.ofInt (IntKind.bits .u64) (IntKind.wrap .u64 (a4-1))).toNat)))))with|none=>none|some x7=>match idx a0 a5 with|none=>none|some x8=>match idx a0 a5 with|none=>none|some x9=>match idx (Az a0 (AN a5) (AY a0 (AN (IntKind.wrap .i64 (a1+(IntKind.wrap .i64 (IntKind.wrap .u64 ((BitVec.ofInt (IntKind.bits .u64) y2 &&& BitVec.ofInt (IntKind.bits .u64) (IntKind.wrap .u64 (a4-1))).toNat)))))) z)) (IntKind.wrap .i64 (a1+(IntKind.wrap .i64 (IntKind.wrap .u64 ((BitVec.ofInt (IntKind.bits .u64) y2 &&& BitVec.ofInt (IntKind.bits .u64) (IntKind.wrap .u64 (a4-1))).toNat)))))with|none=>none|some x10=>some (.inl ((Az (Az a0 (AN a5) (AY a0 (AN (IntKind.wrap .i64 (a1+(IntKind.wrap .i64 (IntKind.wrap .u64 ((BitVec.ofInt (IntKind.bits .u64) y2 &&& BitVec.ofInt (IntKind.bits .u64) (IntKind.wrap .u64 (a4-1))).toNat)))))) z)) (AN (IntKind.wrap .i64 (a1+(IntKind.wrap .i64 (IntKind.wrap .u64 ((BitVec.ofInt (IntKind.bits .u64) y2 &&& BitVec.ofInt (IntKind.bits .u64) (IntKind.wrap .u64 (a4-1))).toNat)))))) (AY a0 (AN a5) z)),a1,a2,y1,a4,(IntKind.wrap .i64 (a5+1)),()))
 |false=>some (.inr (.inl (a0,())))
def NF[Lk]{α:Type}(z:α)(c:α×α×Unit→Option Ub):(List α×Int×Int×Unit)→Option ((List α×Unit)):=fun(a0,a1,a2,_)=>
 match(ile 8 (IntKind.wrap .i64 (a2-a1)))with
 |true=>match RK ((IntKind.wrap .i64 (a2-a1)),())with|none=>none|some (y0,_)=>match quo? .i64 (IntKind.wrap .i64 (a2-a1)) 4 with|none=>none|some x1=>match AU (GB z c) many (a0,a1,(IntKind.wrap .i64 (a2-a1)),(IntKind.wrap .u64 (IntKind.wrap .i64 (a2-a1))),y0,(IntKind.wrap .i64 ((IntKind.wrap .i64 (a1+(IntKind.wrap .i64 (x1*2))))-1)),())with|none=>none|some r=>match r with
  |.inl (o2,_)=>some (o2,())
  |.inr _=>none
 |false=>some (a0,())
def AFf[Lk]{α:Type}(z:α)(c:α×α×Unit→Option Ub)(v:(List α×Int×Int×Unit)):Option ((List α×Unit)):=Lk.f ((NF z c) v)
theorem AgN{α:Type}(z:α)(c:α×α×Unit→Option Ub)(v:(List α×Int×Int×Unit)):(AFf z c) v=(NF z c) v:=AJ _
def Jm[Lk]{α:Type}(z:α)(c:α×α×Unit→Option Ub):(List α×Int×Int×Int×Unit)→Option ((List α×Int×Int×Int×Unit)):=fun(a0,a1,a2,a3,_)=>
 match idx a0 a2 with|none=>none|some x0=>match idx a0 a1 with|none=>none|some x1=>match c ((AY a0 (AN a2) z),(AY a0 (AN a1) z),())with|none=>none|some (y2,_)=>match(ilt y2 0)with
 |true=>some (a0,(IntKind.wrap .i64 (a3+1)),a2,a1,())
 |false=>some (a0,a3,a1,a2,())
def Ka[Lk]{α:Type}(z:α)(c:α×α×Unit→Option Ub)(v:(List α×Int×Int×Int×Unit)):Option ((List α×Int×Int×Int×Unit)):=Lk.f ((Jm z c) v)
theorem AXb{α:Type}(z:α)(c:α×α×Unit→Option Ub)(v:(List α×Int×Int×Int×Unit)):(Ka z c) v=(Jm z c) v:=AJ _
def Jp[Lk]{α:Type}(z:α)(c:α×α×Unit→Option Ub):(List α×Int×Int×Int×Int×Unit)→Option ((List α×Int×Int×Unit)):=fun(a0,a1,a2,a3,a4,_)=>
 match(Ka z c) (a0,a1,a2,a4,())with|none=>none|some (y0,y1,y2,y3,_)=>match(Ka z c) (y0,y3,a3,y1,())with|none=>none|some (y4,y5,y6,y7,_)=>match(Ka z c) (y4,y2,y6,y5,())with|none=>none|some (y8,y9,y10,y11,_)=>some (y8,y9,y11,())
def Ki[Lk]{α:Type}(z:α)(c:α×α×Unit→Option Ub)(v:(List α×Int×Int×Int×Int×Unit)):Option ((List α×Int×Int×Unit)):=Lk.f ((Jp z c) v)
theorem AXx{α:Type}(z:α)(c:α×α×Unit→Option Ub)(v:(List α×Int×Int×Int×Int×Unit)):(Ki z c) v=(Jp z c) v:=AJ _
def Jq[Lk]{α:Type}(z:α)(c:α×α×Unit→Option Ub):(List α×Int×Int×Unit)→Option ((List α×Int×Int×Unit)):=fun(a0,a1,a2,_)=>
 match(Ki z c) (a0,(IntKind.wrap .i64 (a1-1)),a1,(IntKind.wrap .i64 (a1+1)),a2,())with|none=>none|some (y0,y1,y2,_)=>some (y0,y1,y2,())
def Kj[Lk]{α:Type}(z:α)(c:α×α×Unit→Option Ub)(v:(List α×Int×Int×Unit)):Option ((List α×Int×Int×Unit)):=Lk.f ((Jq z c) v)
theorem AX0{α:Type}(z:α)(c:α×α×Unit→Option Ub)(v:(List α×Int×Int×Unit)):(Kj z c) v=(Jq z c) v:=AJ _
def MY[Lk]{α:Type}(z:α)(c:α×α×Unit→Option Ub):(List α×Int×Int×Unit)→Option ((List α×Int×Int×Unit)):=fun(a0,a1,a2,_)=>
 match quo? .i64 (IntKind.wrap .i64 (a2-a1)) 4 with|none=>none|some x0=>match quo? .i64 (IntKind.wrap .i64 (a2-a1)) 4 with|none=>none|some x1=>match quo? .i64 (IntKind.wrap .i64 (a2-a1)) 4 with|none=>none|some x2=>match(ile 8 (IntKind.wrap .i64 (a2-a1)))with
 |true=>match(ile 50 (IntKind.wrap .i64 (a2-a1)))with
  |true=>match(Kj z c) (a0,(IntKind.wrap .i64 (a1+(IntKind.wrap .i64 (x0*1)))),0,())with|none=>none|some (y3,y4,y5,_)=>match(Kj z c) (y3,(IntKind.wrap .i64 (a1+(IntKind.wrap .i64 (x1*2)))),y4,())with|none=>none|some (y6,y7,y8,_)=>match(Kj z c) (y6,(IntKind.wrap .i64 (a1+(IntKind.wrap .i64 (x2*3)))),y7,())with|none=>none|some (y9,y10,y11,_)=>match(Ki z c) (y9,y5,y8,y11,y10,())with|none=>none|some (y12,y13,y14,_)=>match(ieq y13 0)with
   |true=>some (y12,y14,1,())
   |false=>match(ieq y13 12)with
   |true=>some (y12,y14,2,())
   |false=>some (y12,y14,0,())
  |false=>match(Ki z c) (a0,(IntKind.wrap .i64 (a1+(IntKind.wrap .i64 (x0*1)))),(IntKind.wrap .i64 (a1+(IntKind.wrap .i64 (x1*2)))),(IntKind.wrap .i64 (a1+(IntKind.wrap .i64 (x2*3)))),0,())with|none=>none|some (y15,y16,y17,_)=>match(ieq y16 0)with
  |true=>some (y15,y17,1,())
  |false=>match(ieq y16 12)with
  |true=>some (y15,y17,2,())
  |false=>some (y15,y17,0,())
 |false=>match(ieq 0 0)with
 |true=>some (a0,(IntKind.wrap .i64 (a1+(IntKind.wrap .i64 (x1*2)))),1,())
 |false=>match(ieq 0 12)with
 |true=>some (a0,(IntKind.wrap .i64 (a1+(IntKind.wrap .i64 (x1*2)))),2,())
 |false=>some (a0,(IntKind.wrap .i64 (a1+(IntKind.wrap .i64 (x1*2)))),0,())
def ACU[Lk]{α:Type}(z:α)(c:α×α×Unit→Option Ub)(v:(List α×Int×Int×Unit)):Option ((List α×Int×Int×Unit)):=Lk.f ((MY z c) v)
theorem Adn{α:Type}(z:α)(c:α×α×Unit→Option Ub)(v:(List α×Int×Int×Unit)):(ACU z c) v=(MY z c) v:=AJ _
def Q6[Lk]{α:Type}(z:α)(c:α×α×Unit→Option Ub):(List α×Int×Int×Unit)→Option ((List α×Int×Int×Unit)⊕(List α×Unit)⊕Unit):=fun(a0,a1,a2,_)=>
 match(ilt a1 a2)with
 |true=>match idx a0 a2 with|none=>none|some x0=>match idx a0 a1 with|none=>none|some x1=>match idx a0 a1 with|none=>none|some x2=>match idx (Az a0 (AN a1) (AY a0 (AN a2) z)) a2 with|none=>none|some x3=>some (.inl ((Az (Az a0 (AN a1) (AY a0 (AN a2) z)) (AN a2) (AY a0 (AN a1) z)),(IntKind.wrap .i64 (a1+1)),(IntKind.wrap .i64 (a2-1)),()))
 |false=>some (.inr (.inl (a0,())))
def ABy[Lk]{α:Type}(z:α)(c:α×α×Unit→Option Ub):(List α×Int×Int×Unit)→Option ((List α×Unit)):=fun(a0,a1,a2,_)=>
 match AU (Q6 z c) many (a0,a1,(IntKind.wrap .i64 (a2-1)),())with|none=>none|some r=>match r with
 |.inl (o0,_)=>some (o0,())
 |.inr _=>none
def Ah2[Lk]{α:Type}(z:α)(c:α×α×Unit→Option Ub)(v:(List α×Int×Int×Unit)):Option ((List α×Unit)):=Lk.f ((ABy z c) v)
theorem AmC{α:Type}(z:α)(c:α×α×Unit→Option Ub)(v:(List α×Int×Int×Unit)):(Ah2 z c) v=(ABy z c) v:=AJ _
def Ef[Lk]{α:Type}(z:α)(c:α×α×Unit→Option Ub):(List α×Int×Int×Int×Int×Int×Unit)→Option ((List α×Int×Int×Int×Int×Int×Unit)⊕(List α×Int×Int×Int×Int×Unit)⊕Unit):=fun(a0,a1,a2,a3,a4,a5,_)=>
 match(ilt a5 a2)with
 |true=>match idx a0 a5 with|none=>none|some x0=>match idx a0 (IntKind.wrap .i64 (a5-1))with|none=>none|some x1=>match c ((AY a0 (AN a5) z),(AY a0 (AN (IntKind.wrap .i64 (a5-1))) z),())with|none=>none|some (y2,_)=>match(!(ilt y2 0))with
  |true=>some (.inr (.inl (a0,a1,a2,a3,a4,())))
  |false=>match idx a0 (IntKind.wrap .i64 (a5-1))with|none=>none|some x3=>match idx a0 a5 with|none=>none|some x4=>match idx a0 a5 with|none=>none|some x5=>match idx (Az a0 (AN a5) (AY a0 (AN (IntKind.wrap .i64 (a5-1))) z)) (IntKind.wrap .i64 (a5-1))with|none=>none|some x6=>some (.inl ((Az (Az a0 (AN a5) (AY a0 (AN (IntKind.wrap .i64 (a5-1))) z)) (AN (IntKind.wrap .i64 (a5-1))) (AY a0 (AN a5) z)),a1,a2,a3,a4,(IntKind.wrap .i64 (a5+1)),()))
 |false=>some (.inr (.inl (a0,a1,a2,a3,a4,())))
def Eg[Lk]{α:Type}(z:α)(c:α×α×Unit→Option Ub):(List α×Int×Int×Int×Int×Int×Unit)→Option ((List α×Int×Int×Int×Int×Int×Unit)⊕(List α×Int×Int×Int×Int×Unit)⊕Unit):=fun(a0,a1,a2,a3,a4,a5,_)=>
 match(ile 1 a5)with
 |true=>match idx a0 a5 with|none=>none|some x0=>match idx a0 (IntKind.wrap .i64 (a5-1))with|none=>none|some x1=>match c ((AY a0 (AN a5) z),(AY a0 (AN (IntKind.wrap .i64 (a5-1))) z),())with|none=>none|some (y2,_)=>match(!(ilt y2 0))with
  |true=>some (.inr (.inl (a0,a1,a2,a3,a4,())))
  |false=>match idx a0 (IntKind.wrap .i64 (a5-1))with|none=>none|some x3=>match idx a0 a5 with|none=>none|some x4=>match idx a0 a5 with|none=>none|some x5=>match idx (Az a0 (AN a5) (AY a0 (AN (IntKind.wrap .i64 (a5-1))) z)) (IntKind.wrap .i64 (a5-1))with|none=>none|some x6=>some (.inl ((Az (Az a0 (AN a5) (AY a0 (AN (IntKind.wrap .i64 (a5-1))) z)) (AN (IntKind.wrap .i64 (a5-1))) (AY a0 (AN a5) z)),a1,a2,a3,a4,(IntKind.wrap .i64 (a5-1)),()))
 |false=>some (.inr (.inl (a0,a1,a2,a3,a4,())))
def Gc[Lk]{α:Type}(z:α)(c:α×α×Unit→Option Ub):(List α×Int×Int×Int×Int×Unit)→Option ((List α×Int×Int×Int×Int×Unit)⊕(List α×Int×Int×Int×Int×Unit)⊕Unit):=fun(a0,a1,a2,a3,a4,_)=>
 match(ilt a3 a2)with
 |true=>match idx a0 a3 with|none=>none|some x0=>match idx a0 (IntKind.wrap .i64 (a3-1))with|none=>none|some x1=>match c ((AY a0 (AN a3) z),(AY a0 (AN (IntKind.wrap .i64 (a3-1))) z),())with|none=>none|some (y2,_)=>match(!(ilt y2 0))with
  |true=>some (.inl (a0,a1,a2,(IntKind.wrap .i64 (a3+1)),a4,()))
  |false=>some (.inr (.inl (a0,a1,a2,a3,a4,())))
 |false=>some (.inr (.inl (a0,a1,a2,a3,a4,())))
def CU[Lk]{α:Type}(z:α)(c:α×α×Unit→Option Ub):(List α×Int×Int×Int×Int×Unit)→Option ((List α×Int×Int×Int×Int×Unit)⊕(List α×Bool×Unit)⊕(List α×Unit)⊕Unit):=fun(a0,a1,a2,a3,a4,_)=>
 match(ilt a4 5)with
 |true=>match AU (Gc z c) many (a0,a1,a2,a3,a4,())with|none=>none|some r=>match r with
  |.inl (o0,o1,o2,o3,o4,_)=>match(ieq o3 o2)with
   |true=>some (.inr (.inl (o0,true,())))
   |false=>match(ilt (IntKind.wrap .i64 (o2-o1)) 50)with
   |true=>some (.inr (.inl (o0,false,())))
   |false=>match idx o0 (IntKind.wrap .i64 (o3-1))with|none=>none|some x5=>match idx o0 o3 with|none=>none|some x6=>match idx o0 o3 with|none=>none|some x7=>match idx (Az o0 (AN o3) (AY o0 (AN (IntKind.wrap .i64 (o3-1))) z)) (IntKind.wrap .i64 (o3-1))with|none=>none|some x8=>match(ile 2 (IntKind.wrap .i64 (o3-o1)))with
   |true=>match AU (Eg z c) many ((Az (Az o0 (AN o3) (AY o0 (AN (IntKind.wrap .i64 (o3-1))) z)) (AN (IntKind.wrap .i64 (o3-1))) (AY o0 (AN o3) z)),o1,o2,o3,o4,(IntKind.wrap .i64 (o3-1)),())with|none=>none|some r=>match r with
    |.inl (o9,o10,o11,o12,o13,_)=>match(ile 2 (IntKind.wrap .i64 (o11-o12)))with
     |true=>match AU (Ef z c) many (o9,o10,o11,o12,o13,(IntKind.wrap .i64 (o12+1)),())with|none=>none|some r=>match r with
      |.inl (o14,o15,o16,o17,o18,_)=>some (.inl (o14,o15,o16,o17,(IntKind.wrap .i64 (o18+1)),()))
      |.inr _=>none
     |false=>some (.inl (o9,o10,o11,o12,(IntKind.wrap .i64 (o13+1)),()))
    |.inr _=>none
   |false=>match(ile 2 (IntKind.wrap .i64 (o2-o3)))with
   |true=>match AU (Ef z c) many ((Az (Az o0 (AN o3) (AY o0 (AN (IntKind.wrap .i64 (o3-1))) z)) (AN (IntKind.wrap .i64 (o3-1))) (AY o0 (AN o3) z)),o1,o2,o3,o4,(IntKind.wrap .i64 (o3+1)),())with|none=>none|some r=>match r with
    |.inl (o19,o20,o21,o22,o23,_)=>some (.inl (o19,o20,o21,o22,(IntKind.wrap .i64 (o23+1)),()))
    |.inr _=>none
   |false=>some (.inl ((Az (Az o0 (AN o3) (AY o0 (AN (IntKind.wrap .i64 (o3-1))) z)) (AN (IntKind.wrap .i64 (o3-1))) (AY o0 (AN o3) z)),o1,o2,o3,(IntKind.wrap .i64 (o4+1)),()))
  |.inr _=>none
 |false=>some (.inr (.inr (.inl (a0,()))))
def Hf[Lk]{α:Type}(z:α)(c:α×α×Unit→Option Ub):(List α×Int×Int×Unit)→Option ((List α×Bool×Unit)):=fun(a0,a1,a2,_)=>
 match AU (CU z c) many (a0,a1,a2,(IntKind.wrap .i64 (a1+1)),0,())with|none=>none|some r=>match r with
 |.inl (o0,o1,_)=>some (o0,o1,())
 |.inr r=>match r with
 |.inl (o2,_)=>some (o2,false,())
 |.inr _=>none
def MZ[Lk]{α:Type}(z:α)(c:α×α×Unit→Option Ub)(v:(List α×Int×Int×Unit)):Option ((List α×Bool×Unit)):=Lk.f ((Hf z c) v)
theorem ARs{α:Type}(z:α)(c:α×α×Unit→Option Ub)(v:(List α×Int×Int×Unit)):(MZ z c) v=(Hf z c) v:=AJ _
def Hg[Lk]{α:Type}(z:α)(c:α×α×Unit→Option Ub):(List α×Int×Int×Int×Unit)→Option ((List α×Int×Int×Int×Unit)⊕(List α×Int×Int×Int×Unit)⊕Unit):=fun(a0,a1,a2,a3,_)=>
 match(ile a2 a3)with
 |true=>match idx a0 a1 with|none=>none|some x0=>match idx a0 a3 with|none=>none|some x1=>match c ((AY a0 (AN a1) z),(AY a0 (AN a3) z),())with|none=>none|some (y2,_)=>match(ilt y2 0)with
  |true=>some (.inl (a0,a1,a2,(IntKind.wrap .i64 (a3-1)),()))
  |false=>some (.inr (.inl (a0,a1,a2,a3,())))
 |false=>some (.inr (.inl (a0,a1,a2,a3,())))
def Hh[Lk]{α:Type}(z:α)(c:α×α×Unit→Option Ub):(List α×Int×Int×Int×Unit)→Option ((List α×Int×Int×Int×Unit)⊕(List α×Int×Int×Int×Unit)⊕Unit):=fun(a0,a1,a2,a3,_)=>
 match(ile a2 a3)with
 |true=>match idx a0 a1 with|none=>none|some x0=>match idx a0 a2 with|none=>none|some x1=>match c ((AY a0 (AN a1) z),(AY a0 (AN a2) z),())with|none=>none|some (y2,_)=>match(!(ilt y2 0))with
  |true=>some (.inl (a0,a1,(IntKind.wrap .i64 (a2+1)),a3,()))
  |false=>some (.inr (.inl (a0,a1,a2,a3,())))
 |false=>some (.inr (.inl (a0,a1,a2,a3,())))
def Hi[Lk]{α:Type}(z:α)(c:α×α×Unit→Option Ub):(List α×Int×Int×Int×Unit)→Option ((List α×Int×Int×Int×Unit)⊕(List α×Int×Unit)⊕Unit):=fun(a0,a1,a2,a3,_)=>
 match AU (Hh z c) many (a0,a1,a2,a3,())with|none=>none|some r=>match r with
 |.inl (o0,o1,o2,o3,_)=>match AU (Hg z c) many (o0,o1,o2,o3,())with|none=>none|some r=>match r with
  |.inl (o4,o5,o6,o7,_)=>match(ilt o7 o6)with
   |true=>some (.inr (.inl (o4,o6,())))
   |false=>match idx o4 o7 with|none=>none|some x8=>match idx o4 o6 with|none=>none|some x9=>match idx o4 o6 with|none=>none|some x10=>match idx (Az o4 (AN o6) (AY o4 (AN o7) z)) o7 with|none=>none|some x11=>some (.inl ((Az (Az o4 (AN o6) (AY o4 (AN o7) z)) (AN o7) (AY o4 (AN o6) z)),o5,(IntKind.wrap .i64 (o6+1)),(IntKind.wrap .i64 (o7-1)),()))
  |.inr _=>none
 |.inr _=>none
def Jl[Lk]{α:Type}(z:α)(c:α×α×Unit→Option Ub):(List α×Int×Int×Int×Unit)→Option ((List α×Int×Unit)):=fun(a0,a1,a2,a3,_)=>
 match idx a0 a3 with|none=>none|some x0=>match idx a0 a1 with|none=>none|some x1=>match idx a0 a1 with|none=>none|some x2=>match idx (Az a0 (AN a1) (AY a0 (AN a3) z)) a3 with|none=>none|some x3=>match AU (Hi z c) many ((Az (Az a0 (AN a1) (AY a0 (AN a3) z)) (AN a3) (AY a0 (AN a1) z)),a1,(IntKind.wrap .i64 (a1+1)),(IntKind.wrap .i64 (a2-1)),())with|none=>none|some r=>match r with
 |.inl (o4,o5,_)=>some (o4,o5,())
 |.inr _=>none
def RI[Lk]{α:Type}(z:α)(c:α×α×Unit→Option Ub)(v:(List α×Int×Int×Int×Unit)):Option ((List α×Int×Unit)):=Lk.f ((Jl z c) v)
theorem AXR{α:Type}(z:α)(c:α×α×Unit→Option Ub)(v:(List α×Int×Int×Int×Unit)):(RI z c) v=(Jl z c) v:=AJ _
def Ma[Lk]{α:Type}(z:α)(c:α×α×Unit→Option Ub):(List α×Int×Int×Int×Unit)→Option ((List α×Int×Int×Int×Unit)⊕(List α×Int×Int×Int×Unit)⊕Unit):=fun(a0,a1,a2,a3,_)=>
 match(ile a2 a3)with
 |true=>match idx a0 a3 with|none=>none|some x0=>match idx a0 a1 with|none=>none|some x1=>match c ((AY a0 (AN a3) z),(AY a0 (AN a1) z),())with|none=>none|some (y2,_)=>match(!(ilt y2 0))with
  |true=>some (.inl (a0,a1,a2,(IntKind.wrap .i64 (a3-1)),()))
  |false=>some (.inr (.inl (a0,a1,a2,a3,())))
 |false=>some (.inr (.inl (a0,a1,a2,a3,())))
def Mb[Lk]{α:Type}(z:α)(c:α×α×Unit→Option Ub):(List α×Int×Int×Int×Unit)→Option ((List α×Int×Int×Int×Unit)⊕(List α×Int×Int×Int×Unit)⊕Unit):=fun(a0,a1,a2,a3,_)=>
 match(ile a2 a3)with
 |true=>match idx a0 a2 with|none=>none|some x0=>match idx a0 a1 with|none=>none|some x1=>match c ((AY a0 (AN a2) z),(AY a0 (AN a1) z),())with|none=>none|some (y2,_)=>match(ilt y2 0)with
  |true=>some (.inl (a0,a1,(IntKind.wrap .i64 (a2+1)),a3,()))
  |false=>some (.inr (.inl (a0,a1,a2,a3,())))
 |false=>some (.inr (.inl (a0,a1,a2,a3,())))
def Mc[Lk]{α:Type}(z:α)(c:α×α×Unit→Option Ub):(List α×Int×Int×Int×Unit)→Option ((List α×Int×Int×Int×Unit)⊕(List α×Int×Int×Unit)⊕Unit):=fun(a0,a1,a2,a3,_)=>
 match AU (Mb z c) many (a0,a1,a2,a3,())with|none=>none|some r=>match r with
 |.inl (o0,o1,o2,o3,_)=>match AU (Ma z c) many (o0,o1,o2,o3,())with|none=>none|some r=>match r with
  |.inl (o4,o5,o6,o7,_)=>match(ilt o7 o6)with
   |true=>some (.inr (.inl (o4,o5,o7,())))
   |false=>match idx o4 o7 with|none=>none|some x8=>match idx o4 o6 with|none=>none|some x9=>match idx o4 o6 with|none=>none|some x10=>match idx (Az o4 (AN o6) (AY o4 (AN o7) z)) o7 with|none=>none|some x11=>some (.inl ((Az (Az o4 (AN o6) (AY o4 (AN o7) z)) (AN o7) (AY o4 (AN o6) z)),o5,(IntKind.wrap .i64 (o6+1)),(IntKind.wrap .i64 (o7-1)),()))
  |.inr _=>none
 |.inr _=>none
def Md[Lk]{α:Type}(z:α)(c:α×α×Unit→Option Ub):(List α×Int×Int×Int×Unit)→Option ((List α×Int×Int×Int×Unit)⊕(List α×Int×Int×Int×Unit)⊕Unit):=fun(a0,a1,a2,a3,_)=>
 match(ile a2 a3)with
 |true=>match idx a0 a3 with|none=>none|some x0=>match idx a0 a1 with|none=>none|some x1=>match c ((AY a0 (AN a3) z),(AY a0 (AN a1) z),())with|none=>none|some (y2,_)=>match(!(ilt y2 0))with
  |true=>some (.inl (a0,a1,a2,(IntKind.wrap .i64 (a3-1)),()))
  |false=>some (.inr (.inl (a0,a1,a2,a3,())))
 |false=>some (.inr (.inl (a0,a1,a2,a3,())))
def Me[Lk]{α:Type}(z:α)(c:α×α×Unit→Option Ub):(List α×Int×Int×Int×Unit)→Option ((List α×Int×Int×Int×Unit)⊕(List α×Int×Int×Int×Unit)⊕Unit):=fun(a0,a1,a2,a3,_)=>
 match(ile a2 a3)with
 |true=>match idx a0 a2 with|none=>none|some x0=>match idx a0 a1 with|none=>none|some x1=>match c ((AY a0 (AN a2) z),(AY a0 (AN a1) z),())with|none=>none|some (y2,_)=>match(ilt y2 0)with
  |true=>some (.inl (a0,a1,(IntKind.wrap .i64 (a2+1)),a3,()))
  |false=>some (.inr (.inl (a0,a1,a2,a3,())))
 |false=>some (.inr (.inl (a0,a1,a2,a3,())))
def RH[Lk]{α:Type}(z:α)(c:α×α×Unit→Option Ub):(List α×Int×Int×Int×Unit)→Option ((List α×Int×Bool×Unit)):=fun(a0,a1,a2,a3,_)=>
 match idx a0 a3 with|none=>none|some x0=>match idx a0 a1 with|none=>none|some x1=>match idx a0 a1 with|none=>none|some x2=>match idx (Az a0 (AN a1) (AY a0 (AN a3) z)) a3 with|none=>none|some x3=>match AU (Me z c) many ((Az (Az a0 (AN a1) (AY a0 (AN a3) z)) (AN a3) (AY a0 (AN a1) z)),a1,(IntKind.wrap .i64 (a1+1)),(IntKind.wrap .i64 (a2-1)),())with|none=>none|some r=>match r with
 |.inl (o4,o5,o6,o7,_)=>match AU (Md z c) many (o4,o5,o6,o7,())with|none=>none|some r=>match r with
  |.inl (o8,o9,o10,o11,_)=>match(ilt o11 o10)with
   |true=>match idx o8 o9 with|none=>none|some x12=>match idx o8 o11 with|none=>none|some x13=>match idx o8 o11 with|none=>none|some x14=>match idx (Az o8 (AN o11) (AY o8 (AN o9) z)) o9 with|none=>none|some x15=>some ((Az (Az o8 (AN o11) (AY o8 (AN o9) z)) (AN o9) (AY o8 (AN o11) z)),o11,true,())
   |false=>match idx o8 o11 with|none=>none|some x16=>match idx o8 o10 with|none=>none|some x17=>match idx o8 o10 with|none=>none|some x18=>match idx (Az o8 (AN o10) (AY o8 (AN o11) z)) o11 with|none=>none|some x19=>match AU (Mc z c) many ((Az (Az o8 (AN o10) (AY o8 (AN o11) z)) (AN o11) (AY o8 (AN o10) z)),o9,(IntKind.wrap .i64 (o10+1)),(IntKind.wrap .i64 (o11-1)),())with|none=>none|some r=>match r with
   |.inl (o20,o21,o22,_)=>match idx o20 o21 with|none=>none|some x23=>match idx o20 o22 with|none=>none|some x24=>match idx o20 o22 with|none=>none|some x25=>match idx (Az o20 (AN o22) (AY o20 (AN o21) z)) o21 with|none=>none|some x26=>some ((Az (Az o20 (AN o22) (AY o20 (AN o21) z)) (AN o21) (AY o20 (AN o22) z)),o22,false,())
   |.inr _=>none
  |.inr _=>none
 |.inr _=>none
def ACt[Lk]{α:Type}(z:α)(c:α×α×Unit→Option Ub)(v:(List α×Int×Int×Int×Unit)):Option ((List α×Int×Bool×Unit)):=Lk.f ((RH z c) v)
theorem Ais{α:Type}(z:α)(c:α×α×Unit→Option Ub)(v:(List α×Int×Int×Int×Unit)):(ACt z c) v=(RH z c) v:=AJ _
def UC[Lk]{α:Type}(z:α)(c:α×α×Unit→Option Ub)(self:(List α×Int×Int×Int×Unit)→Option ((List α×Unit)))(y7:List α)(a1 a2 p l:Int)(a4 a5:Bool):Option ((List α×Int×Int×Int×Bool×Bool×Unit)⊕(List α×Unit)⊕Unit):=
 match(ilt 0 a1)with
 |true=>match idx y7 (IntKind.wrap .i64 (a1-1))with|none=>none|some x9=>match idx y7 p with|none=>none|some x10=>match c ((AY y7 (AN (IntKind.wrap .i64 (a1-1))) z),(AY y7 (AN p) z),())with|none=>none|some (y11,_)=>match(!(ilt y11 0))with
  |true=>match(RI z c) (y7,a1,a2,p,())with|none=>none|some (y12,y13,_)=>some (.inl (y12,y13,a2,l,a4,a5,()))
  |false=>match(ACt z c) (y7,a1,a2,p,())with|none=>none|some (y14,y15,y16,_)=>match quo? .i64 (IntKind.wrap .i64 (a2-a1)) 8 with|none=>none|some x17=>match(ilt (IntKind.wrap .i64 (y15-a1)) (IntKind.wrap .i64 (a2-y15)))with
  |true=>match self (y14,a1,y15,l,())with|none=>none|some (y18,_)=>some (.inl (y18,(IntKind.wrap .i64 (y15+1)),a2,l,(ile x17 (IntKind.wrap .i64 (y15-a1))),y16,()))
  |false=>match self (y14,(IntKind.wrap .i64 (y15+1)),a2,l,())with|none=>none|some (y19,_)=>some (.inl (y19,a1,y15,l,(ile x17 (IntKind.wrap .i64 (a2-y15))),y16,()))
 |false=>match(ACt z c) (y7,a1,a2,p,())with|none=>none|some (y20,y21,y22,_)=>match quo? .i64 (IntKind.wrap .i64 (a2-a1)) 8 with|none=>none|some x23=>match(ilt (IntKind.wrap .i64 (y21-a1)) (IntKind.wrap .i64 (a2-y21)))with
 |true=>match self (y20,a1,y21,l,())with|none=>none|some (y24,_)=>some (.inl (y24,(IntKind.wrap .i64 (y21+1)),a2,l,(ile x23 (IntKind.wrap .i64 (y21-a1))),y22,()))
 |false=>match self (y20,(IntKind.wrap .i64 (y21+1)),a2,l,())with|none=>none|some (y25,_)=>some (.inl (y25,a1,y21,l,(ile x23 (IntKind.wrap .i64 (a2-y21))),y22,()))
def AMC[Lk]{α:Type}(z:α)(c:α×α×Unit→Option Ub)(self:(List α×Int×Int×Int×Unit)→Option ((List α×Unit)))(y6:List α)(a1 a2 p h l:Int)(a4 a5:Bool):Option ((List α×Int×Int×Int×Bool×Bool×Unit)⊕(List α×Unit)⊕Unit):=
 match a4 with
 |true=>match a5 with
  |true=>match(ieq h 1)with
   |true=>match(MZ z c) (y6,a1,a2,())with|none=>none|some (y7,y8,_)=>match y8 with
    |true=>some (.inr (.inl (y7,())))
    |false=>(UC z c) self y7 a1 a2 p l a4 a5
   |false=>(UC z c) self y6 a1 a2 p l a4 a5
  |false=>(UC z c) self y6 a1 a2 p l a4 a5
 |false=>(UC z c) self y6 a1 a2 p l a4 a5
def AMB[Lk]{α:Type}(z:α)(c:α×α×Unit→Option Ub)(self:(List α×Int×Int×Int×Unit)→Option ((List α×Unit)))(y2:List α)(a1 a2 l:Int)(a4 a5:Bool):Option ((List α×Int×Int×Int×Bool×Bool×Unit)⊕(List α×Unit)⊕Unit):=
 match(ACU z c) (y2,a1,a2,())with|none=>none|some (y3,y4,y5,_)=>match(ieq y5 2)with
 |true=>match(Ah2 z c) (y3,a1,a2,())with|none=>none|some (y6,_)=>(AMC z c) self y6 a1 a2 (IntKind.wrap .i64 ((IntKind.wrap .i64 (a2-1))-(IntKind.wrap .i64 (y4-a1)))) 1 l a4 a5
 |false=>(AMC z c) self y3 a1 a2 y4 y5 l a4 a5
def Nt[Lk]{α:Type}(z:α)(c:α×α×Unit→Option Ub)(self:(List α×Int×Int×Int×Unit)→Option ((List α×Unit))):(List α×Int×Int×Int×Bool×Bool×Unit)→Option ((List α×Int×Int×Int×Bool×Bool×Unit)⊕(List α×Unit)⊕Unit):=fun(a0,a1,a2,a3,a4,a5,_)=>
 match(ile (IntKind.wrap .i64 (a2-a1)) 12)with
 |true=>match(Ajk z c) (a0,a1,a2,())with|none=>none|some (y0,_)=>some (.inr (.inl (y0,())))
 |false=>match(ieq a3 0)with
 |true=>match(AS2 z c) (a0,a1,a2,())with|none=>none|some (y1,_)=>some (.inr (.inl (y1,())))
 |false=>match(!a4)with
 |true=>match(AFf z c) (a0,a1,a2,())with|none=>none|some (y2,_)=>(AMB z c) self y2 a1 a2 (IntKind.wrap .i64 (a3-1)) a4 a5
 |false=>(AMB z c) self a0 a1 a2 a3 a4 a5
def ACc[Lk]{α:Type}(z:α)(c:α×α×Unit→Option Ub)(self:(List α×Int×Int×Int×Unit)→Option ((List α×Unit))):(List α×Int×Int×Int×Unit)→Option ((List α×Unit)):=fun(a0,a1,a2,a3,_)=>
 match AU ((Nt z c) self) many (a0,a1,a2,a3,true,true,())with|none=>none|some r=>match r with
 |.inl (o0,_)=>some (o0,())
 |.inr _=>none
def KZ[Lk]{α:Type}(z:α)(c:α×α×Unit→Option Ub):Nat→(List α×Int×Int×Int×Unit)→Option ((List α×Unit))
 |0,_=>none
 |n+1,v=>(ACc z c) ((KZ z c) n) v
def Aie[Lk]{α:Type}(z:α)(c:α×α×Unit→Option Ub)(v:(List α×Int×Int×Int×Unit)):Option ((List α×Unit)):=Lk.f ((KZ z c) 100 v)
theorem AmQ{α:Type}(z:α)(c:α×α×Unit→Option Ub)(v:(List α×Int×Int×Int×Unit)):(Aie z c) v=(KZ z c) 100 v:=AJ _
def Qt[Lk]{α:Type}(z:α)(c:α×α×Unit→Option Ub):(List α×Unit)→Option ((List α×Unit)):=fun(a0,_)=>
 match bitsLen ((IntKind.wrap .u64 (AM a0)),())with|none=>none|some (y0,_)=>match(Aie z c) (a0,0,(AM a0),y0,())with|none=>none|some (y1,_)=>some (y1,())
def Aai[Lk]{α:Type}(z:α)(c:α×α×Unit→Option Ub)(v:(List α×Unit)):Option ((List α×Unit)):=Lk.f ((Qt z c) v)
theorem AhT{α:Type}(z:α)(c:α×α×Unit→Option Ub)(v:(List α×Unit)):(Aai z c) v=(Qt z c) v:=AJ _
abbrev AYP:AE:=[(.tmp 0,.own 41 U7),(.tmp 1,.di),(.tmp 2,.di),(.tmp 3,.clo 135 [])]
abbrev AYO:AE:=[(.obj 0,.own 41 U7)]
abbrev AYN:List RS:=[]
abbrev AbO:AE:=[(.obj 0,.own 41 U7),(.tmp 0,.own' 0),(.tmp 1,.di),(.tmp 2,.di),(.tmp 3,.clo 135 []),(.tmp 8,.di),(.tmp 9,.di)]
abbrev AbM:Ao:=[(.exit 2,[(.obj 0,.own 41 U7),(.tmp 0,.own' 0),(.tmp 1,.di),(.tmp 2,.di),(.tmp 3,.clo 135 []),(.tmp 8,.di)])]
def AbK[Lk]:Um→Option (Um⊕U8⊕Unit):=Ny (([]:List (Int)):U5) BG
abbrev AbP:AE:=[(.obj 0,.own 41 U7),(.tmp 0,.own' 0),(.tmp 1,.di),(.tmp 2,.di),(.tmp 3,.clo 135 []),(.tmp 8,.di)]
abbrev AbN:Ao:=[(.exit 0,[(.obj 0,.own 41 U7)])]
def AbL[Lk]:U8→Option (U8⊕Ur⊕Unit):=Nz (([]:List (Int)):U5) BG
def Ajh[Lk]:Ui→Option (Ur):=ADp (([]:List (Int)):U5) BG
def Aoj[Lk](v:Ui):Option (Ur):=Ajk (([]:List (Int)):U5) BG v
theorem Ams v:Aoj v=Ajh v:=AJ _
abbrev ALP:AE:=[(.tmp 0,.own 41 U7),(.tmp 1,.di),(.tmp 2,.di),(.tmp 3,.di),(.tmp 4,.clo 135 [])]
abbrev ALO:AE:=[(.obj 0,.own 41 U7)]
abbrev ALN:List RS:=[]
abbrev AQK:AE:=[(.obj 0,.own 41 U7),(.tmp 0,.own' 0),(.tmp 2,.di),(.tmp 3,.di),(.tmp 4,.clo 135 []),(.tmp 10,.di)]
abbrev AQJ:Ao:=[(.exit 0,[(.obj 0,.own 41 U7)]),(.ret,[(.obj 0,.own 41 U7)])]
def AQI[Lk]:U8→Option (U8⊕Ur⊕Ur⊕Unit):=Jd (([]:List (Int)):U5) BG
def Aal[Lk]:U8→Option (Ur):=Qu (([]:List (Int)):U5) BG
def AhZ[Lk](v:U8):Option (Ur):=AIL (([]:List (Int)):U5) BG v
theorem AhY v:AhZ v=Aal v:=AJ _
abbrev AND:AE:=[(.tmp 0,.own 41 U7),(.tmp 1,.di),(.tmp 2,.di),(.tmp 3,.clo 135 [])]
abbrev ANC:AE:=[(.obj 0,.own 41 U7)]
abbrev ANB:List RS:=[]
abbrev ASz:AE:=[(.obj 0,.own 41 U7),(.tmp 0,.own' 0),(.tmp 3,.clo 135 []),(.tmp 8,.di),(.tmp 9,.di),(.tmp 12,.di)]
abbrev ASx:Ao:=[(.exit 2,[(.obj 0,.own 41 U7)])]
def ASu[Lk]:U8→Option (U8⊕Ur⊕Unit):=Jv (([]:List (Int)):U5) BG
abbrev AS0:AE:=[(.obj 0,.own 41 U7),(.tmp 0,.own' 0),(.tmp 3,.clo 135 []),(.tmp 8,.di),(.tmp 9,.di),(.tmp 10,.di),(.tmp 11,.di)]
abbrev ASy:Ao:=[(.exit 0,[(.obj 0,.own 41 U7),(.tmp 0,.own' 0),(.tmp 3,.clo 135 []),(.tmp 8,.di),(.tmp 9,.di),(.tmp 10,.di)])]
def ASw[Lk]:Um→Option (Um⊕U8⊕Unit):=Jw (([]:List (Int)):U5) BG
def AbZ[Lk]:Ui→Option (Ur):=Rc (([]:List (Int)):U5) BG
def Ajw[Lk](v:Ui):Option (Ur):=AS2 (([]:List (Int)):U5) BG v
theorem Ajv v:Ajw v=AbZ v:=AJ _
abbrev AFd:AE:=[(.tmp 0,.own 41 U7),(.tmp 1,.di),(.tmp 2,.di),(.tmp 3,.clo 135 [])]
abbrev AFc:AE:=[(.obj 0,.own 41 U7)]
abbrev AFb:List RS:=[]
abbrev AJt:AE:=[(.obj 0,.own 41 U7),(.tmp 0,.own' 0),(.tmp 1,.di),(.tmp 8,.di),(.tmp 9,.box 1),(.cell 1 0,.dat (.int .u64)),(.tmp 10,.dat (.int .u64)),(.tmp 11,.di)]
abbrev AJs:Ao:=[(.exit 0,[(.obj 0,.own 41 U7)])]
def AJr[Lk]:V2→Option (V2⊕Ur⊕Unit):=GB (([]:List (Int)):U5) BG
def AUX[Lk]:Ui→Option (Ur):=NF (([]:List (Int)):U5) BG
def AZ5[Lk](v:Ui):Option (Ur):=AFf (([]:List (Int)):U5) BG v
theorem AgM v:AZ5 v=AUX v:=AJ _
abbrev UM:AE:=[(.tmp 0,.own 41 U7),(.tmp 1,.di),(.tmp 2,.di),(.tmp 3,.box 1),(.cell 1 0,.di),(.tmp 4,.clo 135 [])]
abbrev UL:AE:=[(.obj 0,.own 41 U7),(.obj 1,.box 1),(.cell 1 0,.di),(.tmp 0,.di),(.tmp 1,.di)]
abbrev UK:List RS:=[.one,.one]
def AIs[Lk]:U8→Option (U8):=Jm (([]:List (Int)):U5) BG
def AMT[Lk](v:U8):Option (U8):=Ka (([]:List (Int)):U5) BG v
theorem AXa v:AMT v=AIs v:=AJ _
abbrev UY:AE:=[(.tmp 0,.own 41 U7),(.tmp 1,.di),(.tmp 2,.di),(.tmp 3,.di),(.tmp 4,.box 1),(.cell 1 0,.di),(.tmp 5,.clo 135 [])]
abbrev UX:AE:=[(.obj 0,.own 41 U7),(.obj 1,.box 1),(.cell 1 0,.di),(.tmp 0,.di)]
abbrev UW:List RS:=[.one]
def AIw[Lk]:Um→Option (Ui):=Jp (([]:List (Int)):U5) BG
def AMj[Lk](v:Um):Option (Ui):=Ki (([]:List (Int)):U5) BG v
theorem AXw v:AMj v=AIw v:=AJ _
abbrev VE:AE:=[(.tmp 0,.own 41 U7),(.tmp 1,.di),(.tmp 2,.box 1),(.cell 1 0,.di),(.tmp 3,.clo 135 [])]
abbrev VD:AE:=[(.obj 0,.own 41 U7),(.obj 1,.box 1),(.cell 1 0,.di),(.tmp 0,.di)]
abbrev VC:List RS:=[.one]
def AIy[Lk]:Ui→Option (Ui):=Jq (([]:List (Int)):U5) BG
def AMn[Lk](v:Ui):Option (Ui):=Kj (([]:List (Int)):U5) BG v
theorem AXz v:AMn v=AIy v:=AJ _
abbrev ACT:AE:=[(.tmp 0,.own 41 U7),(.tmp 1,.di),(.tmp 2,.di),(.tmp 3,.clo 135 [])]
abbrev ACS:AE:=[(.obj 0,.own 41 U7),(.tmp 0,.di),(.tmp 1,.di)]
abbrev ACR:List RS:=[.one,.one]
def ARD[Lk]:Ui→Option (Ui):=MY (([]:List (Int)):U5) BG
def AW2[Lk](v:Ui):Option (Ui):=ACU (([]:List (Int)):U5) BG v
theorem Adm v:AW2 v=ARD v:=AJ _
abbrev AWY:AE:=[(.tmp 0,.own 41 U7),(.tmp 1,.di),(.tmp 2,.di),(.tmp 3,.clo 135 [])]
abbrev AWX:AE:=[(.obj 0,.own 41 U7)]
abbrev AWW:List RS:=[]
abbrev Aaq:AE:=[(.obj 0,.own 41 U7),(.tmp 0,.own' 0),(.tmp 8,.di),(.tmp 9,.di)]
abbrev Aap:Ao:=[(.exit 0,[(.obj 0,.own 41 U7)])]
def Aao[Lk]:Ui→Option (Ui⊕Ur⊕Unit):=Q6 (([]:List (Int)):U5) BG
def Ah0[Lk]:Ui→Option (Ur):=ABy (([]:List (Int)):U5) BG
def AoJ[Lk](v:Ui):Option (Ur):=Ah2 (([]:List (Int)):U5) BG v
theorem AmB v:AoJ v=Ah0 v:=AJ _
abbrev Pe:AE:=[(.tmp 0,.own 41 U7),(.tmp 1,.di),(.tmp 2,.di),(.tmp 3,.clo 135 [])]
abbrev Pd:AE:=[(.obj 0,.own 41 U7),(.tmp 0,.dat .bool)]
abbrev Pc:List RS:=[.one]
abbrev Xn:AE:=[(.obj 0,.own 41 U7),(.tmp 0,.own' 0),(.tmp 1,.di),(.tmp 2,.di),(.tmp 3,.clo 135 []),(.tmp 9,.di),(.tmp 10,.di),(.tmp 12,.di)]
abbrev Xj:Ao:=[(.exit 6,[(.obj 0,.own 41 U7),(.tmp 0,.own' 0),(.tmp 1,.di),(.tmp 2,.di),(.tmp 3,.clo 135 []),(.tmp 9,.di),(.tmp 10,.di)])]
def Xf[Lk]:V2→Option (V2⊕Um⊕Unit):=Ef (([]:List (Int)):U5) BG
abbrev Xo:AE:=[(.obj 0,.own 41 U7),(.tmp 0,.own' 0),(.tmp 1,.di),(.tmp 2,.di),(.tmp 3,.clo 135 []),(.tmp 9,.di),(.tmp 10,.di),(.tmp 11,.di)]
abbrev Xk:Ao:=[(.exit 4,[(.obj 0,.own 41 U7),(.tmp 0,.own' 0),(.tmp 1,.di),(.tmp 2,.di),(.tmp 3,.clo 135 []),(.tmp 9,.di),(.tmp 10,.di)])]
def Xg[Lk]:V2→Option (V2⊕Um⊕Unit):=Eg (([]:List (Int)):U5) BG
abbrev Xp:AE:=[(.obj 0,.own 41 U7),(.tmp 0,.own' 0),(.tmp 1,.di),(.tmp 2,.di),(.tmp 3,.clo 135 []),(.tmp 9,.di),(.tmp 10,.di)]
abbrev Xl:Ao:=[(.exit 2,[(.obj 0,.own 41 U7),(.tmp 0,.own' 0),(.tmp 1,.di),(.tmp 2,.di),(.tmp 3,.clo 135 []),(.tmp 9,.di),(.tmp 10,.di)])]
def Xh[Lk]:Um→Option (Um⊕Um⊕Unit):=Gc (([]:List (Int)):U5) BG
abbrev Xq:AE:=[(.obj 0,.own 41 U7),(.tmp 0,.own' 0),(.tmp 1,.di),(.tmp 2,.di),(.tmp 3,.clo 135 []),(.tmp 9,.di),(.tmp 10,.di)]
abbrev Xm:Ao:=[(.ret,[(.obj 0,.own 41 U7),(.tmp 8,.dat .bool)]),(.exit 0,[(.obj 0,.own 41 U7)])]
def Xi[Lk]:Um→Option (Um⊕(List U5×Bool×Unit)⊕Ur⊕Unit):=CU (([]:List (Int)):U5) BG
def ACl[Lk]:Ui→Option ((List U5×Bool×Unit)):=Hf (([]:List (Int)):U5) BG
def ACm[Lk](v:Ui):Option ((List U5×Bool×Unit)):=MZ (([]:List (Int)):U5) BG v
theorem ARr v:ACm v=ACl v:=AJ _
abbrev UG:AE:=[(.tmp 0,.own 41 U7),(.tmp 1,.di),(.tmp 2,.di),(.tmp 3,.di),(.tmp 4,.clo 135 [])]
abbrev UE:AE:=[(.obj 0,.own 41 U7),(.tmp 0,.di)]
abbrev UD:List RS:=[.one]
abbrev AC0:AE:=[(.obj 0,.own 41 U7),(.tmp 0,.own' 0),(.tmp 1,.di),(.tmp 4,.clo 135 []),(.tmp 11,.di),(.tmp 12,.di)]
abbrev ACx:Ao:=[(.exit 4,[(.obj 0,.own 41 U7),(.tmp 0,.own' 0),(.tmp 1,.di),(.tmp 4,.clo 135 []),(.tmp 11,.di),(.tmp 12,.di)])]
def ACu[Lk]:U8→Option (U8⊕U8⊕Unit):=Hg (([]:List (Int)):U5) BG
abbrev AC1:AE:=[(.obj 0,.own 41 U7),(.tmp 0,.own' 0),(.tmp 1,.di),(.tmp 4,.clo 135 []),(.tmp 11,.di),(.tmp 12,.di)]
abbrev ACy:Ao:=[(.exit 2,[(.obj 0,.own 41 U7),(.tmp 0,.own' 0),(.tmp 1,.di),(.tmp 4,.clo 135 []),(.tmp 11,.di),(.tmp 12,.di)])]
def ACv[Lk]:U8→Option (U8⊕U8⊕Unit):=Hh (([]:List (Int)):U5) BG
abbrev AC2:AE:=[(.obj 0,.own 41 U7),(.tmp 0,.own' 0),(.tmp 1,.di),(.tmp 4,.clo 135 []),(.tmp 11,.di),(.tmp 12,.di)]
abbrev ACz:Ao:=[(.exit 0,[(.obj 0,.own 41 U7),(.tmp 11,.di)])]
def ACw[Lk]:U8→Option (U8⊕(List U5×Int×Unit)⊕Unit):=Hi (([]:List (Int)):U5) BG
def AIo[Lk]:U8→Option ((List U5×Int×Unit)):=Jl (([]:List (Int)):U5) BG
def AML[Lk](v:U8):Option ((List U5×Int×Unit)):=RI (([]:List (Int)):U5) BG v
theorem AXQ v:AML v=AIo v:=AJ _
end
end Go.Pev
end
section
namespace Go.Pev
noncomputable section
attribute [local irreducible] Oz LD OR Oc Ajo Ajp Ajq Q9 AGv Qv Yw LO Aj many IntKind.wrap AM Az AY BT Bv F8 D4 AN Bs B7 imax AR Ad
abbrev AMG:AE:=[(.tmp 0,.own 41 U7),(.tmp 1,.di),(.tmp 2,.di),(.tmp 3,.di),(.tmp 4,.clo 135 [])]
abbrev AMF:AE:=[(.obj 0,.own 41 U7),(.tmp 0,.di),(.tmp 1,.dat .bool)]
abbrev AME:List RS:=[.one,.one]
abbrev ARe:AE:=[(.obj 0,.own 41 U7),(.tmp 0,.own' 0),(.tmp 1,.di),(.tmp 4,.clo 135 []),(.tmp 12,.di),(.tmp 13,.di)]
abbrev ARZ:Ao:=[(.exit 8,[(.obj 0,.own 41 U7),(.tmp 0,.own' 0),(.tmp 1,.di),(.tmp 4,.clo 135 []),(.tmp 12,.di),(.tmp 13,.di)])]
def ARQ[Lk]:U8→Option (U8⊕U8⊕Unit):=Ma (([]:List (Int)):U5) BG
abbrev ARf:AE:=[(.obj 0,.own 41 U7),(.tmp 0,.own' 0),(.tmp 1,.di),(.tmp 4,.clo 135 []),(.tmp 12,.di),(.tmp 13,.di)]
abbrev ARa:Ao:=[(.exit 6,[(.obj 0,.own 41 U7),(.tmp 0,.own' 0),(.tmp 1,.di),(.tmp 4,.clo 135 []),(.tmp 12,.di),(.tmp 13,.di)])]
def ARS[Lk]:U8→Option (U8⊕U8⊕Unit):=Mb (([]:List (Int)):U5) BG
abbrev ARg:AE:=[(.obj 0,.own 41 U7),(.tmp 0,.own' 0),(.tmp 1,.di),(.tmp 4,.clo 135 []),(.tmp 12,.di),(.tmp 13,.di)]
abbrev ARb:Ao:=[(.exit 4,[(.obj 0,.own 41 U7),(.tmp 0,.own' 0),(.tmp 1,.di),(.tmp 13,.di)])]
def ARU[Lk]:U8→Option (U8⊕Ui⊕Unit):=Mc (([]:List (Int)):U5) BG
abbrev ARh:AE:=[(.obj 0,.own 41 U7),(.tmp 0,.own' 0),(.tmp 1,.di),(.tmp 4,.clo 135 []),(.tmp 12,.di),(.tmp 13,.di)]
abbrev ARc:Ao:=[(.exit 2,[(.obj 0,.own 41 U7),(.tmp 0,.own' 0),(.tmp 1,.di),(.tmp 4,.clo 135 []),(.tmp 12,.di),(.tmp 13,.di)])]
def ARW[Lk]:U8→Option (U8⊕U8⊕Unit):=Md (([]:List (Int)):U5) BG
abbrev ARi:AE:=[(.obj 0,.own 41 U7),(.tmp 0,.own' 0),(.tmp 1,.di),(.tmp 4,.clo 135 []),(.tmp 12,.di),(.tmp 13,.di)]
abbrev ARd:Ao:=[(.exit 0,[(.obj 0,.own 41 U7),(.tmp 0,.own' 0),(.tmp 1,.di),(.tmp 4,.clo 135 []),(.tmp 12,.di),(.tmp 13,.di)])]
def ARY[Lk]:U8→Option (U8⊕U8⊕Unit):=Me (([]:List (Int)):U5) BG
def Aa5[Lk]:U8→Option ((List U5×Int×Bool×Unit)):=RH (([]:List (Int)):U5) BG
def Air[Lk](v:U8):Option ((List U5×Int×Bool×Unit)):=ACt (([]:List (Int)):U5) BG v
theorem Aiq v:Air v=Aa5 v:=AJ _
abbrev ACa:AE:=[(.tmp 0,.own 41 U7),(.tmp 1,.di),(.tmp 2,.di),(.tmp 3,.di),(.tmp 4,.clo 135 [])]
abbrev ACZ:AE:=[(.obj 0,.own 41 U7)]
abbrev ACY:List RS:=[]
abbrev Aa1:AE:=[(.obj 0,.own 41 U7),(.tmp 0,.own' 0),(.tmp 1,.di),(.tmp 2,.di),(.tmp 3,.di),(.tmp 4,.clo 135 []),(.tmp 10,.dat .bool),(.tmp 11,.dat .bool)]
abbrev Aa0:Ao:=[(.ret,[(.obj 0,.own 41 U7)])]
def Aaz[Lk](self:U8→Option (Ur)):(List U5×Int×Int×Int×Bool×Bool×Unit)→Option ((List U5×Int×Int×Int×Bool×Bool×Unit)⊕Ur⊕Unit):=Nt (([]:List (Int)):U5) BG self
def AoW[Lk](self:U8→Option (Ur)):U8→Option (Ur):=ACc (([]:List (Int)):U5) BG self
def ACb[Lk]:Nat→U8→Option (Ur):=KZ (([]:List (Int)):U5) BG
def AmP[Lk](v:U8):Option (Ur):=Aie (([]:List (Int)):U5) BG v
theorem AmO v:AmP v=ACb 100 v:=AJ _
abbrev ALH:AE:=[(.tmp 0,.own 41 U7),(.tmp 1,.clo 135 [])]
abbrev ALG:AE:=[(.obj 0,.own 41 U7)]
abbrev ALF:List RS:=[]
def Aah[Lk]:Ur→Option (Ur):=Qt (([]:List (Int)):U5) BG
def AQD[Lk](v:Ur):Option (Ur):=Aai (([]:List (Int)):U5) BG v
theorem AhS v:AQD v=Aah v:=AJ _
abbrev AKb:AE:=[(.tmp 0,.dat V5),(.tmp 1,.dat U7),(.tmp 2,.dat Uj)]
abbrev AKa:AE:=[(.tmp 0,.di),(.tmp 1,.own 41 U7)]
abbrev AKZ:List RS:=[.agg 2]
abbrev APd:AE:=[(.tmp 3,.box 2),(.cell 0 0,.di),(.cell 0 1,.dat Uj),(.tmp 6,.box 2),(.cell 1 0,.di),(.cell 1 1,.nil U7),(.tmp 7,.own 41 U7),(.tmp 29,.dat Uj),(.tmp 30,.di),(.tmp 31,.di)]
abbrev APb:Ao:=[(.exit 2,[(.tmp 3,.box 2),(.cell 0 0,.di),(.cell 0 1,.dat Uj),(.tmp 6,.box 2),(.cell 1 0,.di),(.cell 1 1,.nil U7),(.tmp 7,.own 41 U7)])]
def HS[Lk]:(Int×List U5×Int×List U5×List U5×Int×Int×Unit)→Option ((Int×List U5×Int×List U5×List U5×Int×Int×Unit)⊕(Int×List U5×Int×List U5×Unit)⊕Unit):=fun(a0,a1,a2,a3,a4,a5,a6,_)=>
 match(ilt a6 a5)with
 |true=>match idx a4 a6 with|none=>none|some x0=>match ABl (x0,())with|none=>none|some (y1,_)=>match(fits ((AM a3)+(AM ([y1]:List U5))))with
  |true=>some (.inl (a0,a1,a2,(BT a3 ([y1]:List U5)),a4,a5,(IntKind.wrap .i64 (a6+1)),()))
  |false=>none
 |false=>some (.inr (.inl (a0,a1,a2,a3,())))
abbrev APe:AE:=[(.tmp 1,.dat U7),(.tmp 2,.dat Uj),(.tmp 3,.box 2),(.cell 0 0,.di),(.cell 0 1,.dat Uj),(.tmp 6,.box 2),(.cell 1 0,.di),(.cell 1 1,.nil U7),(.tmp 7,.own 41 U7),(.tmp 13,.dat Uj),(.tmp 14,.di),(.tmp 15,.di)]
abbrev APc:Ao:=[(.exit 0,[(.tmp 2,.dat Uj),(.tmp 3,.box 2),(.cell 0 0,.di),(.cell 0 1,.dat Uj),(.tmp 6,.box 2),(.cell 1 0,.di),(.cell 1 1,.nil U7),(.tmp 7,.own 41 U7)])]
def HT[Lk]:(List Int×List U5×Int×List U5×Int×List U5×List U5×Int×Int×Unit)→Option ((List Int×List U5×Int×List U5×Int×List U5×List U5×Int×Int×Unit)⊕(List U5×Int×List U5×Int×List U5×Unit)⊕Unit):=fun(a0,a1,a2,a3,a4,a5,a6,a7,a8,_)=>
 match(ilt a8 a7)with
 |true=>match idx a6 a8 with|none=>none|some x0=>match GA (a0,a8,())with|none=>none|some (y1,_)=>match(!y1)with
  |true=>match(fits ((AM a5)+(AM ([x0]:List U5))))with
   |true=>some (.inl (a0,a1,a2,a3,a4,(BT a5 ([x0]:List U5)),a6,a7,(IntKind.wrap .i64 (a8+1)),()))
   |false=>none
  |false=>some (.inl (a0,a1,a2,a3,a4,a5,a6,a7,(IntKind.wrap .i64 (a8+1)),()))
 |false=>some (.inr (.inl (a1,a2,a3,a4,a5,())))
def ZT[Lk]:(V6×List Int×List U5×Unit)→Option ((Int×List U5×Unit)):=fun(a0,a1,a2,_)=>
 match AU HT many (a1,a2,a0.1,a0.2.1,0,([]:List U5),a0.2.1,(AM a0.2.1),0,())with|none=>none|some r=>match r with
 |.inl (o0,o1,o2,o3,o4,_)=>match AU HS many (o1,o2,o3,o4,o0,(AM o0),0,())with|none=>none|some r=>match r with
  |.inl (o5,o6,o7,o8,_)=>match AQD (o8,())with|none=>none|some (y9,_)=>some (o5,y9,())
  |.inr _=>none
 |.inr _=>none
def APg[Lk]:=fun v=>Lk.f (ZT v)
theorem APf v:APg v=ZT v:=AJ _
abbrev AKv:AE:=[(.tmp 0,.dat V5),(.tmp 1,.di),(.tmp 2,.di)]
abbrev AKu:AE:=[(.tmp 0,.di),(.tmp 1,.dat Uj),(.tmp 2,.di)]
abbrev AKt:List RS:=[.agg 2,.one]
def Qm[Lk]:(V6×Int×Int×Unit)→Option ((Int×List U5×Int×Unit)):=fun(a0,a1,a2,_)=>
 match asked ((a0.1,(a0.2.1,())),a1,a2,())with|none=>none|some (y0,_)=>match(!(ieq y0 0))with
 |true=>some (a0.1,a0.2.1,y0,())
 |false=>match TL ((a0.1,(a0.2.1,())),a1,())with|none=>none|some (y1,_)=>match TL ((a0.1,(a0.2.1,())),a2,())with|none=>none|some (y2,_)=>match(ieq y1 y2)with
 |true=>some (a0.1,a0.2.1,5,())
 |false=>match idx a0.2.1 y1 with|none=>none|some x3=>match AIa (x3,a1,())with|none=>none|some (y4,y5,_)=>match idx a0.2.1 y2 with|none=>none|some x6=>match AIa (x6,a2,())with|none=>none|some (y7,y8,_)=>match EG y4 0 1 with|none=>none|some x9=>match Acn (a0.1,a1,a2,())with|none=>none|some (y10,_)=>match Acn (a0.1,a2,a1,())with|none=>none|some (y11,_)=>match EG y4 1 (AM y4)with|none=>none|some x12=>match LN (([(F8 0 (AN (AM x9)) y4),([y10]:List (Int)),y7,([y11]:List (Int)),(F8 1 (AN (AM x12)) y4)]:List U5),())with|none=>none|some (y13,_)=>match APg ((a0.1,(a0.2.1,())),([y1,y2]:List (Int)),([y13]:List U5),())with|none=>none|some (y14,y15,_)=>some (y14,y15,0,())
def AAf[Lk]:=fun v=>Lk.f (Qm v)
theorem AAe v:AAf v=Qm v:=AJ _
abbrev Fv:AE:=[(.tmp 0,.dat U7),(.cap 1 0,.box 2),(.cell 0 0,.di),(.cell 0 1,.dat Uj),(.tmp 1,.clo 125 [(0,0)])]
abbrev Fu:AE:=[(.obj 0,.box 2),(.cell 0 0,.di),(.cell 0 1,.dat Uj),(.tmp 0,.di)]
abbrev Ft:List RS:=[.one]
abbrev Ig:AE:=[(.obj 0,.box 2),(.cell 0 0,.di),(.cell 0 1,.dat Uj),(.tmp 0,.dat U7),(.tmp 1,.clo 125 [(0,0)]),(.tmp 7,.di),(.tmp 8,.di)]
abbrev Ie:Ao:=[(.ret,[(.obj 0,.box 2),(.cell 0 0,.di),(.cell 0 1,.dat Uj),(.tmp 4,.di)]),(.exit 0,[(.obj 0,.box 2),(.cell 0 0,.di),(.cell 0 1,.dat Uj)])]
def Bf[Lk]:(Int×List U5×List Int×Int×Int×Unit)→Option ((Int×List U5×List Int×Int×Int×Unit)⊕(Int×List U5×Int×Unit)⊕(Int×List U5×Unit)⊕Unit):=fun(a0,a1,a2,a3,a4,_)=>
 match(ilt a4 a3)with
 |true=>match idx a2 a4 with|none=>none|some x0=>match(ilt x0 0)with
  |true=>some (.inr (.inl (a0,a1,a4,())))
  |false=>match(ile a0 x0)with
  |true=>some (.inr (.inl (a0,a1,a4,())))
  |false=>some (.inl (a0,a1,a2,a3,(IntKind.wrap .i64 (a4+1)),()))
 |false=>some (.inr (.inr (.inl (a0,a1,()))))
def Dm[Lk]:(List Int×Int×List U5×Unit)→Option ((Int×List U5×Int×Unit)):=fun(a0,a1,a2,_)=>
 match AU Bf many (a1,a2,a0,(AM a0),0,())with|none=>none|some r=>match r with
 |.inl (o0,o1,o2,_)=>some (o0,o1,o2,())
 |.inr r=>match r with
 |.inl (o3,o4,_)=>some (o3,o4,(-1:Int),())
 |.inr _=>none
def E3[Lk]:=fun v=>Lk.f (Dm v)
theorem Ih v:E3 v=Dm v:=AJ _
abbrev FD:AE:=[(.tmp 0,.dat U7),(.cap 1 0,.box 2),(.cell 0 0,.di),(.cell 0 1,.dat Uj),(.tmp 1,.clo 125 [(0,0)])]
abbrev FA:AE:=[(.obj 0,.box 2),(.cell 0 0,.di),(.cell 0 1,.dat Uj),(.tmp 0,.dat .bool)]
abbrev E9:List RS:=[.one]
def DG[Lk]:(List Int×Int×List U5×Unit)→Option ((Int×List U5×Bool×Unit)):=fun(a0,a1,a2,_)=>
 match E3 (a0,a1,a2,())with|none=>none|some (y0,y1,y2,_)=>some (y0,y1,(ile 0 y2),())
def C3[Lk]:=fun v=>Lk.f (DG v)
theorem Hv v:C3 v=DG v:=AJ _
abbrev AD7:AE:=[(.tmp 0,.dat V5),(.tmp 1,.dat U7)]
abbrev AD6:AE:=[(.tmp 0,.di)]
abbrev AD5:List RS:=[.one]
def Rg[Lk]:(V6×List Int×Unit)→Option (Ub):=fun(a0,a1,_)=>
 match TK ((a0.1,(a0.2.1,())),())with|none=>none|some (y0,_)=>match(!y0)with
 |true=>some (1,())
 |false=>match C3 (a1,a0.1,a0.2.1,())with|none=>none|some (y1,y2,y3,_)=>match y3 with
 |true=>some (10,())
 |false=>some (0,())
def Vq[Lk]:=fun v=>Lk.f (Rg v)
theorem AJI v:Vq v=Rg v:=AJ _
abbrev AY5:AE:=[(.tmp 0,.dat Uu)]
abbrev AY4:AE:=[(.tmp 0,.own 3 U0)]
abbrev AY3:List RS:=[.one]
abbrev Abo:AE:=[(.tmp 3,.own 3 U0),(.tmp 6,.dat Uu),(.tmp 7,.di),(.tmp 8,.di)]
abbrev Abn:Ao:=[(.exit 0,[(.tmp 3,.own 3 U0)])]
def LF[Lk]:(List Int×List U1×Int×Int×Unit)→Option ((List Int×List U1×Int×Int×Unit)⊕Up⊕Unit):=fun(a0,a1,a2,a3,_)=>
 match(ilt a3 a2)with
 |true=>match idx a1 a3 with|none=>none|some x0=>match(fits ((AM a0)+(AM ([x0.1,x0.2.1]:List (Int)))))with
  |true=>some (.inl ((BT a0 ([x0.1,x0.2.1]:List (Int))),a1,a2,(IntKind.wrap .i64 (a3+1)),()))
  |false=>none
 |false=>some (.inr (.inl (a0,())))
def ANf[Lk]:Ul→Option (Up):=fun(a0,_)=>
 match AU LF many (([]:List (Int)),a0,(AM a0),0,())with|none=>none|some r=>match r with
 |.inl (o0,_)=>some (o0,())
 |.inr _=>none
def ends[Lk]:=fun v=>Lk.f (ANf v)
theorem Abp v:ends v=ANf v:=AJ _
abbrev P9:AE:=[(.tmp 0,.dat V5),(.tmp 1,.dat Uu),(.tmp 2,.clo 87 [])]
abbrev P8:AE:=[(.tmp 0,.dat V5),(.tmp 1,.own 4 .bool),(.tmp 2,.di)]
abbrev P7:List RS:=[.one,.one,.one]
abbrev YI:AE:=[(.tmp 2,.clo 87 []),(.tmp 3,.box 2),(.cell 0 0,.di),(.cell 0 1,.dat Uj),(.tmp 6,.box 2),(.cell 1 0,.di),(.cell 1 1,.nil U7),(.tmp 10,.own 4 .bool),(.tmp 23,.dat Uu),(.tmp 24,.di),(.tmp 25,.di)]
abbrev YH:Ao:=[(.exit 0,[(.tmp 3,.box 2),(.cell 0 0,.di),(.cell 0 1,.dat Uj),(.tmp 6,.box 2),(.cell 1 0,.di),(.cell 1 1,.nil U7),(.tmp 10,.own 4 .bool)])]
def DV[Lk]:(Int×List U5×Int×List Bool×List U1×Int×Int×Unit)→Option ((Int×List U5×Int×List Bool×List U1×Int×Int×Unit)⊕(Int×List U5×Int×List Bool×Unit)⊕Unit):=fun(a0,a1,a2,a3,a4,a5,a6,_)=>
 match(ilt a6 a5)with
 |true=>match idx a4 a6 with|none=>none|some x0=>match AAf ((a0,(a1,())),x0.1,x0.2.1,())with|none=>none|some (y1,y2,y3,_)=>match(fits ((AM a3)+(AM ([(ieq y3 0)]:List (Bool)))))with
  |true=>some (.inl (y1,y2,a2,(BT a3 ([(ieq y3 0)]:List (Bool))),a4,a5,(IntKind.wrap .i64 (a6+1)),()))
  |false=>none
 |false=>some (.inr (.inl (a0,a1,a2,a3,())))
def LH[Lk]:(V6×List U1×Unit)→Option ((V6×List Bool×Int×Unit)):=fun(a0,a1,_)=>
 match ends (a1,())with|none=>none|some (y0,_)=>match Vq ((a0.1,(a0.2.1,())),y0,())with|none=>none|some (y1,_)=>match(!(ieq y1 0))with
 |true=>some ((a0.1,(a0.2.1,())),([]:List (Bool)),y1,())
 |false=>match AU DV many (a0.1,a0.2.1,0,([]:List (Bool)),a1,(AM a1),0,())with|none=>none|some r=>match r with
 |.inl (o2,o3,o4,o5,_)=>some ((o2,(o3,())),o5,0,())
 |.inr _=>none
def Rp[Lk]:=fun v=>Lk.f (LH v)
theorem YJ v:Rp v=LH v:=AJ _
abbrev AEK:AE:=[(.tmp 0,.dat V5),(.tmp 1,.dat Uu)]
abbrev AEJ:AE:=[(.tmp 0,.dat V5),(.tmp 1,.own 4 .bool),(.tmp 2,.di)]
abbrev AEI:List RS:=[.one,.one,.one]
def Ri[Lk]:(V6×List U1×Unit)→Option ((V6×List Bool×Int×Unit)):=fun(a0,a1,_)=>
 match Rp ((a0.1,(a0.2.1,())),a1,())with|none=>none|some (y0,y1,y2,_)=>some ((y0.1,(y0.2.1,())),y1,y2,())
def ANV[Lk]:=fun v=>Lk.f (Ri v)
theorem AJO v:ANV v=Ri v:=AJ _
abbrev AkM:AE:=[(.tmp 0,.di),(.tmp 1,.dat Uu)]
abbrev AkL:AE:=[(.tmp 0,.dat V5),(.tmp 1,.di)]
abbrev AkK:List RS:=[.one,.one]
def Abl[Lk]:(Int×List U1×Unit)→Option ((V6×Int×Unit)):=fun(a0,a1,_)=>
 match APw (a0,())with|none=>none|some (y0,y1,y2,_)=>match(!(ieq y2 0))with
 |true=>some ((0,(([]:List U5),())),y2,())
 |false=>match ANV ((y0,(y1,())),a1,())with|none=>none|some (y3,y4,y5,_)=>match(!(ieq y5 0))with
 |true=>some ((0,(([]:List U5),())),y5,())
 |false=>some ((y3.1,(y3.2.1,())),0,())
def fof[Lk]:=fun v=>Lk.f (Abl v)
theorem AkN v:fof v=Abl v:=AJ _
abbrev AjG:AE:=[(.tmp 0,.dat U7)]
abbrev AjE:AE:=[(.tmp 0,.di)]
abbrev AjC:List RS:=[.one]
abbrev AjF:AE:=[(.tmp 3,.di),(.tmp 6,.dat U7),(.tmp 7,.di),(.tmp 8,.di)]
abbrev AjD:Ao:=[(.ret,[(.tmp 2,.di)]),(.exit 0,[(.tmp 3,.di)])]
def Fe[Lk]:(Int×List Int×Int×Int×Unit)→Option ((Int×List Int×Int×Int×Unit)⊕Ub⊕Ub⊕Unit):=fun(a0,a1,a2,a3,_)=>
 match(ilt a3 a2)with
 |true=>match idx a1 a3 with|none=>none|some x0=>match(!(ieq x0 a0))with
  |true=>some (.inr (.inl (x0,())))
  |false=>some (.inl (a0,a1,a2,(IntKind.wrap .i64 (a3+1)),()))
 |false=>some (.inr (.inr (.inl (a0,()))))
def AIv[Lk]:Up→Option (Ub):=fun(a0,_)=>
 match AU Fe many (0,a0,(AM a0),0,())with|none=>none|some r=>match r with
 |.inl (o0,_)=>some (o0,())
 |.inr r=>match r with
 |.inl (o1,_)=>some (o1,())
 |.inr _=>none
def orI[Lk]:=fun v=>Lk.f (AIv v)
theorem AMW v:orI v=AIv v:=AJ _
abbrev ADY:AE:=[(.tmp 0,.di)]
abbrev ADX:AE:=[(.tmp 0,.dat .bool)]
abbrev ADW:List RS:=[.one]
def Ml[Lk]:Ub→Option (Uf):=fun(a0,_)=>
 match(ile 1 a0)with
 |true=>some ((ile a0 64),())
 |false=>some (false,())
def VJ[Lk]:=fun v=>Lk.f (Ml v)
theorem VI v:VJ v=Ml v:=AJ _
abbrev AX7:AE:=[(.tmp 0,.di)]
abbrev AX6:AE:=[(.tmp 0,.di)]
abbrev AX5:List RS:=[.one]
def AX8[Lk]:Ub→Option (Ub):=fun(a0,_)=>
 match VJ (a0,())with|none=>none|some (y0,_)=>match(!y0)with
 |true=>some (0,())
 |false=>match bitsLen ((IntKind.wrap .u64 (IntKind.wrap .i64 (a0-1))),())with|none=>none|some (y1,_)=>some (y1,())
def AMs[Lk]:=fun v=>Lk.f (AX8 v)
theorem Amh v:AMs v=AX8 v:=AJ _
abbrev Pp:AE:=[(.tmp 0,.dat U4),(.tmp 1,.dat U4)]
abbrev Po:AE:=[(.tmp 0,.di)]
abbrev Pn:List RS:=[.one]
def Kl[Lk]:(U3×U3×Unit)→Option (Ub):=fun(a0,a1,_)=>
 match DY (a0.1,a1.1,())with|none=>none|some (y0,_)=>match DY (a0.2.1,a1.2.1,())with|none=>none|some (y1,_)=>match orI (([y0,y1]:List (Int)),())with|none=>none|some (y2,_)=>some (y2,())
def Js[Lk]:=fun v=>Lk.f (Kl v)
theorem X6 v:Js v=Kl v:=AJ _
abbrev ADT:AE:=[(.tmp 0,.dat Ut),(.tmp 1,.di)]
abbrev ADS:AE:=[(.tmp 0,.own 45 U2)]
abbrev ADR:List RS:=[.one]
abbrev AI2:AE:=[(.tmp 1,.di),(.tmp 5,.own 45 U2),(.tmp 9,.dat V4),(.tmp 10,.di),(.tmp 11,.di)]
abbrev AI1:Ao:=[(.exit 0,[(.tmp 5,.own 45 U2)])]
def Fg[Lk]:(Int×List U1×List U3×Int×Int×Unit)→Option ((Int×List U1×List U3×Int×Int×Unit)⊕Ul⊕Unit):=fun(a0,a1,a2,a3,a4,_)=>
 match(ilt a4 a3)with
 |true=>match idx a2 a4 with|none=>none|some x0=>match x0.2.2.2.1 with
  |true=>match(ile a0 x0.2.2.1)with
   |true=>match(fits ((AM a1)+(AM ([(x0.1,(x0.2.1,()))]:List U1))))with
    |true=>some (.inl (a0,(BT a1 ([(x0.1,(x0.2.1,()))]:List U1)),a2,a3,(IntKind.wrap .i64 (a4+1)),()))
    |false=>none
   |false=>some (.inl (a0,a1,a2,a3,(IntKind.wrap .i64 (a4+1)),()))
  |false=>some (.inl (a0,a1,a2,a3,(IntKind.wrap .i64 (a4+1)),()))
 |false=>some (.inr (.inl (a1,())))
def RM[Lk]:(V0×Int×Unit)→Option (Ul):=fun(a0,a1,_)=>
 match AU Fg many (a1,([]:List U1),a0.2.1,(AM a0.2.1),0,())with|none=>none|some r=>match r with
 |.inl (o0,_)=>some (o0,())
 |.inr _=>none
def ADV[Lk]:=fun v=>Lk.f (RM v)
theorem AI3 v:ADV v=RM v:=AJ _
abbrev ADb:AE:=[(.tmp 0,.dat Ut)]
abbrev ADa:AE:=[(.tmp 0,.dat .bool)]
abbrev ADZ:List RS:=[.one]
abbrev AI5:AE:=[(.tmp 1,.box 2),(.cell 0 0,.di),(.cell 0 1,.dat V4),(.tmp 3,.di),(.tmp 23,.dat V4),(.tmp 24,.di),(.tmp 25,.di)]
abbrev AI4:Ao:=[(.ret,[(.tmp 2,.dat .bool)]),(.exit 0,[(.tmp 1,.box 2),(.cell 0 0,.di),(.cell 0 1,.dat V4)])]
def Dh[Lk]:(Int×List U3×Int×List U3×Int×Int×Unit)→Option ((Int×List U3×Int×List U3×Int×Int×Unit)⊕Uf⊕(Int×List U3×Unit)⊕Unit):=fun(a0,a1,a2,a3,a4,a5,_)=>
 match(ilt a5 a4)with
 |true=>match idx a3 a5 with|none=>none|some x0=>match(ilt x0.1 0)with
  |true=>some (.inr (.inl (false,())))
  |false=>match(ile x0.2.1 x0.1)with
  |true=>some (.inr (.inl (false,())))
  |false=>match(ile a0 x0.2.1)with
  |true=>some (.inr (.inl (false,())))
  |false=>match(ilt x0.2.2.1 0)with
  |true=>some (.inr (.inl (false,())))
  |false=>match(ilt a2 x0.2.2.1)with
  |true=>some (.inr (.inl (false,())))
  |false=>match(ilt 0 a5)with
  |true=>match idx a1 (IntKind.wrap .i64 (a5-1))with|none=>none|some x1=>match Js ((x1.1,(x1.2.1,(x1.2.2.1,(x1.2.2.2.1,())))),(x0.1,(x0.2.1,(x0.2.2.1,(x0.2.2.2.1,())))),())with|none=>none|some (y2,_)=>match(ile 0 y2)with
   |true=>some (.inr (.inl (false,())))
   |false=>some (.inl (a0,a1,a2,a3,a4,(IntKind.wrap .i64 (a5+1)),()))
  |false=>some (.inl (a0,a1,a2,a3,a4,(IntKind.wrap .i64 (a5+1)),()))
 |false=>some (.inr (.inr (.inl (a0,a1,()))))
def Hj[Lk]:(V0×Unit)→Option (Uf):=fun(a0,_)=>
 match VJ (a0.1,())with|none=>none|some (y0,_)=>match(!y0)with
 |true=>some (false,())
 |false=>match(ilt 400 (AM a0.2.1))with
 |true=>some (false,())
 |false=>match AMs (a0.1,())with|none=>none|some (y1,_)=>match AU Dh many (a0.1,a0.2.1,y1,a0.2.1,(AM a0.2.1),0,())with|none=>none|some r=>match r with
 |.inl (o2,_)=>some (o2,())
 |.inr r=>match r with
 |.inl (o3,o4,_)=>match ADV ((o3,(o4,())),0,())with|none=>none|some (y5,_)=>match fof (o3,y5,())with|none=>none|some (y6,y7,_)=>match(ieq y7 0)with
  |true=>some ((ieq (AM y6.2.1) (IntKind.wrap .i64 (o3-(AM y5)))),())
  |false=>some (false,())
 |.inr _=>none
def Fh[Lk]:=fun v=>Lk.f (Hj v)
theorem Jr v:Fh v=Hj v:=AJ _
abbrev ADi:AE:=[(.tmp 0,.dat Ut)]
abbrev ADh:AE:=[(.tmp 0,.own 45 U2)]
abbrev ADg:List RS:=[.one]
abbrev AI7:AE:=[(.tmp 3,.own 45 U2),(.tmp 10,.dat V4),(.tmp 11,.di),(.tmp 12,.di)]
abbrev AI6:Ao:=[(.exit 0,[(.tmp 3,.own 45 U2)])]
def Fj[Lk]:(List U1×List U3×Int×Int×Unit)→Option ((List U1×List U3×Int×Int×Unit)⊕Ul⊕Unit):=fun(a0,a1,a2,a3,_)=>
 match(ilt a3 a2)with
 |true=>match idx a1 a3 with|none=>none|some x0=>match(fits ((AM a0)+(AM ([(x0.1,(x0.2.1,()))]:List U1))))with
  |true=>some (.inl ((BT a0 ([(x0.1,(x0.2.1,()))]:List U1)),a1,a2,(IntKind.wrap .i64 (a3+1)),()))
  |false=>none
 |false=>some (.inr (.inl (a0,())))
def RN[Lk]:(V0×Unit)→Option (Ul):=fun(a0,_)=>
 match Fh ((a0.1,(a0.2.1,())),())with|none=>none|some (y0,_)=>match(!y0)with
 |true=>some (([]:List U1),())
 |false=>match AU Fj many (([]:List U1),a0.2.1,(AM a0.2.1),0,())with|none=>none|some r=>match r with
 |.inl (o1,_)=>some (o1,())
 |.inr _=>none
def VN[Lk]:=fun v=>Lk.f (RN v)
theorem AI8 v:VN v=RN v:=AJ _
abbrev ND:AE:=[(.tmp 0,.di),(.tmp 1,.dat Uu)]
abbrev NC:AE:=[(.tmp 0,.own 3 U0)]
abbrev NB:List RS:=[.one]
abbrev R6:AE:=[(.tmp 0,.di),(.tmp 1,.dat Uu),(.tmp 5,.own 3 U0),(.tmp 7,.dat .bool),(.tmp 8,.di)]
abbrev R3:Ao:=[(.exit 4,[(.tmp 0,.di),(.tmp 1,.dat Uu),(.tmp 5,.own 3 U0),(.tmp 7,.dat .bool)])]
def Cz[Lk]:(Int×List U1×List Int×Bool×Int×Unit)→Option ((Int×List U1×List Int×Bool×Int×Unit)⊕(Int×List U1×List Int×Bool×Unit)⊕Unit):=fun(a0,a1,a2,a3,a4,_)=>
 match(ilt a4 (AM a1))with
 |true=>match idx a1 a4 with|none=>none|some x0=>match idx a1 a4 with|none=>none|some x1=>match(ilt x0.1 0)with
  |true=>some (.inl (a0,a1,a2,a3,(IntKind.wrap .i64 (a4+1)),()))
  |false=>match(ilt x1.2.1 0)with
  |true=>some (.inl (a0,a1,a2,a3,(IntKind.wrap .i64 (a4+1)),()))
  |false=>match(ile a0 x0.1)with
  |true=>some (.inl (a0,a1,a2,a3,(IntKind.wrap .i64 (a4+1)),()))
  |false=>match(ile a0 x1.2.1)with
  |true=>some (.inl (a0,a1,a2,a3,(IntKind.wrap .i64 (a4+1)),()))
  |false=>match idx a2 x0.1 with|none=>none|some x2=>match idx a2 x1.2.1 with|none=>none|some x3=>match(ieq (AY a2 (AN x0.1) 0) (AY a2 (AN x1.2.1) 0))with
  |true=>some (.inl (a0,a1,a2,a3,(IntKind.wrap .i64 (a4+1)),()))
  |false=>match idx a2 x0.1 with|none=>none|some x4=>match idx a2 x1.2.1 with|none=>none|some x5=>match idx a2 x0.1 with|none=>none|some x6=>match idx (Az a2 (AN x0.1) (B7 (AY a2 (AN x0.1) 0) (AY a2 (AN x1.2.1) 0))) x1.2.1 with|none=>none|some x7=>some (.inl (a0,a1,(Az (Az a2 (AN x0.1) (B7 (AY a2 (AN x0.1) 0) (AY a2 (AN x1.2.1) 0))) (AN x1.2.1) (B7 (AY a2 (AN x0.1) 0) (AY a2 (AN x1.2.1) 0))),true,(IntKind.wrap .i64 (a4+1)),()))
 |false=>some (.inr (.inl (a0,a1,a2,a3,())))
abbrev R7:AE:=[(.tmp 0,.di),(.tmp 1,.dat Uu),(.tmp 5,.own 3 U0),(.tmp 7,.dat .bool)]
abbrev R4:Ao:=[(.exit 2,[(.tmp 5,.own 3 U0)])]
def Dn[Lk]:(Int×List U1×List Int×Bool×Unit)→Option ((Int×List U1×List Int×Bool×Unit)⊕Up⊕Unit):=fun(a0,a1,a2,a3,_)=>
 match a3 with
 |true=>match AU Cz many (a0,a1,a2,false,0,())with|none=>none|some r=>match r with
  |.inl (o0,o1,o2,o3,_)=>some (.inl (o0,o1,o2,o3,()))
  |.inr _=>none
 |false=>some (.inr (.inl (a2,())))
abbrev R8:AE:=[(.tmp 0,.di),(.tmp 1,.dat Uu),(.tmp 5,.own 3 U0),(.tmp 6,.di)]
abbrev R5:Ao:=[(.exit 0,[(.tmp 0,.di),(.tmp 1,.dat Uu),(.tmp 5,.own 3 U0)])]
def C0[Lk]:(Int×List U1×List Int×Int×Unit)→Option ((Int×List U1×List Int×Int×Unit)⊕(Int×List U1×List Int×Unit)⊕Unit):=fun(a0,a1,a2,a3,_)=>
 match(ilt a3 a0)with
 |true=>match(fits ((AM a2)+(AM ([a3]:List (Int)))))with
  |true=>some (.inl (a0,a1,(BT a2 ([a3]:List (Int))),(IntKind.wrap .i64 (a3+1)),()))
  |false=>none
 |false=>some (.inr (.inl (a0,a1,a2,())))
def Is[Lk]:(Int×List U1×Unit)→Option (Up):=fun(a0,a1,_)=>
 match AU C0 many (a0,a1,([]:List (Int)),0,())with|none=>none|some r=>match r with
 |.inl (o0,o1,o2,_)=>match AU Dn many (o0,o1,o2,true,())with|none=>none|some r=>match r with
  |.inl (o3,_)=>some (o3,())
  |.inr _=>none
 |.inr _=>none
def HP[Lk]:=fun v=>Lk.f (Is v)
theorem R9 v:HP v=Is v:=AJ _
abbrev AKl:AE:=[(.tmp 0,.di)]
abbrev AKk:AE:=[(.tmp 0,.di)]
abbrev AKj:List RS:=[.one]
abbrev APr:AE:=[(.tmp 3,.di),(.tmp 4,.di)]
abbrev APq:Ao:=[(.exit 0,[(.tmp 3,.di)])]
def AAd[Lk]:U1→Option (U1⊕Ub⊕Unit):=fun(a0,a1,_)=>
 match(ilt 0 a1)with
 |true=>match quo? .i64 a1 2 with|none=>none|some x0=>some (.inl ((IntKind.wrap .i64 (a0+1)),x0,()))
 |false=>some (.inr (.inl (a0,())))
def AKn[Lk]:Ub→Option (Ub):=fun(a0,_)=>
 match(ilt a0 1)with
 |true=>some (0,())
 |false=>match(ilt 64 a0)with
 |true=>some (0,())
 |false=>match AU AAd many (0,(IntKind.wrap .i64 (a0-1)),())with|none=>none|some r=>match r with
 |.inl (o0,_)=>some (o0,())
 |.inr _=>none
def OZ[Lk]:=fun v=>Lk.f (AKn v)
theorem Ag3 v:OZ v=AKn v:=AJ _
abbrev T7:AE:=[(.tmp 0,.dat Ut)]
abbrev T6:AE:=[(.tmp 0,.dat .bool)]
abbrev T5:List RS:=[.one]
abbrev ABw:AE:=[(.tmp 1,.box 2),(.cell 0 0,.di),(.cell 0 1,.dat V4),(.tmp 3,.own 45 U2),(.tmp 6,.own 3 U0),(.tmp 7,.di),(.tmp 8,.di)]
abbrev ABu:Ao:=[(.exit 2,[(.tmp 1,.box 2),(.cell 0 0,.di),(.cell 0 1,.dat V4),(.tmp 3,.own 45 U2),(.tmp 7,.di)])]
def DQ[Lk]:(Int×List U3×List U1×List Int×Int×Int×Unit)→Option ((Int×List U3×List U1×List Int×Int×Int×Unit)⊕(Int×List U3×List U1×Int×Unit)⊕Unit):=fun(a0,a1,a2,a3,a4,a5,_)=>
 match(ilt a5 a0)with
 |true=>match idx a3 a5 with|none=>none|some x0=>match(ieq (AY a3 (AN a5) 0) a5)with
  |true=>some (.inl (a0,a1,a2,a3,(IntKind.wrap .i64 (a4+1)),(IntKind.wrap .i64 (a5+1)),()))
  |false=>some (.inl (a0,a1,a2,a3,a4,(IntKind.wrap .i64 (a5+1)),()))
 |false=>some (.inr (.inl (a0,a1,a2,a4,())))
abbrev ABx:AE:=[(.tmp 1,.box 2),(.cell 0 0,.di),(.cell 0 1,.dat V4),(.tmp 3,.own 45 U2),(.tmp 4,.di)]
abbrev ABv:Ao:=[(.ret,[(.tmp 2,.dat .bool)]),(.exit 0,[(.tmp 1,.box 2),(.cell 0 0,.di),(.cell 0 1,.dat V4),(.tmp 3,.own 45 U2)])]
def Ct[Lk]:(Int×List U3×List U1×Int×Unit)→Option ((Int×List U3×List U1×Int×Unit)⊕Uf⊕(Int×List U3×List U1×Unit)⊕Unit):=fun(a0,a1,a2,a3,_)=>
 match(ilt a3 (AM a1))with
 |true=>match idx a1 a3 with|none=>none|some x0=>match(ilt x0.1 0)with
  |true=>some (.inr (.inl (false,())))
  |false=>match(ile x0.2.1 x0.1)with
  |true=>some (.inr (.inl (false,())))
  |false=>match(ile a0 x0.2.1)with
  |true=>some (.inr (.inl (false,())))
  |false=>match(ilt x0.2.2.1 0)with
  |true=>some (.inr (.inl (false,())))
  |false=>match OZ (a0,())with|none=>none|some (y1,_)=>match(ilt y1 x0.2.2.1)with
  |true=>some (.inr (.inl (false,())))
  |false=>match(ilt 0 a3)with
  |true=>match idx a1 (IntKind.wrap .i64 (a3-1))with|none=>none|some x2=>match(ilt x0.1 x2.1)with
   |true=>some (.inr (.inl (false,())))
   |false=>match idx a1 (IntKind.wrap .i64 (a3-1))with|none=>none|some x3=>match(ieq x3.1 x0.1)with
   |true=>match idx a1 (IntKind.wrap .i64 (a3-1))with|none=>none|some x4=>match(ile x0.2.1 x4.2.1)with
    |true=>some (.inr (.inl (false,())))
    |false=>match x0.2.2.2.1 with
    |true=>match(fits ((AM a2)+(AM ([(x0.1,(x0.2.1,()))]:List U1))))with
     |true=>some (.inl (a0,a1,(BT a2 ([(x0.1,(x0.2.1,()))]:List U1)),(IntKind.wrap .i64 (a3+1)),()))
     |false=>none
    |false=>some (.inl (a0,a1,a2,(IntKind.wrap .i64 (a3+1)),()))
   |false=>match x0.2.2.2.1 with
   |true=>match(fits ((AM a2)+(AM ([(x0.1,(x0.2.1,()))]:List U1))))with
    |true=>some (.inl (a0,a1,(BT a2 ([(x0.1,(x0.2.1,()))]:List U1)),(IntKind.wrap .i64 (a3+1)),()))
    |false=>none
   |false=>some (.inl (a0,a1,a2,(IntKind.wrap .i64 (a3+1)),()))
  |false=>match x0.2.2.2.1 with
  |true=>match(fits ((AM a2)+(AM ([(x0.1,(x0.2.1,()))]:List U1))))with
   |true=>some (.inl (a0,a1,(BT a2 ([(x0.1,(x0.2.1,()))]:List U1)),(IntKind.wrap .i64 (a3+1)),()))
   |false=>none
  |false=>some (.inl (a0,a1,a2,(IntKind.wrap .i64 (a3+1)),()))
 |false=>some (.inr (.inr (.inl (a0,a1,a2,()))))
def Ed[Lk]:(V0×Unit)→Option (Uf):=fun(a0,_)=>
 match(ilt a0.1 1)with
 |true=>some (false,())
 |false=>match(ilt 64 a0.1)with
 |true=>some (false,())
 |false=>match(ilt 400 (AM a0.2.1))with
 |true=>some (false,())
 |false=>match AU Ct many (a0.1,a0.2.1,([]:List U1),0,())with|none=>none|some r=>match r with
 |.inl (o0,_)=>some (o0,())
 |.inr r=>match r with
 |.inl (o1,o2,o3,_)=>match HP (o1,o3,())with|none=>none|some (y4,_)=>match AU DQ many (o1,o2,o3,y4,0,0,())with|none=>none|some r=>match r with
  |.inl (o5,o6,o7,o8,_)=>some ((ieq o8 (IntKind.wrap .i64 (o5-(AM o7)))),())
  |.inr _=>none
 |.inr _=>none
def G6[Lk]:=fun v=>Lk.f (Ed v)
theorem FX v:G6 v=Ed v:=AJ _
abbrev ABN:AE:=[(.tmp 0,.dat Uu),(.tmp 1,.dat Uu)]
abbrev ABM:AE:=[(.tmp 0,.dat .bool)]
abbrev ABL:List RS:=[.one]
abbrev AIS:AE:=[(.tmp 0,.dat Uu),(.tmp 1,.dat Uu),(.tmp 5,.di)]
abbrev AIR:Ao:=[(.ret,[(.tmp 4,.dat .bool)]),(.exit 0,[])]
def Ts[Lk]:(List U1×List U1×Int×Unit)→Option ((List U1×List U1×Int×Unit)⊕Uf⊕(Unit)⊕Unit):=fun(a0,a1,a2,_)=>
 match(ilt a2 (AM a0))with
 |true=>match idx a0 a2 with|none=>none|some x0=>match idx a1 a2 with|none=>none|some x1=>match(!(ieq x0.1 x1.1&&(ieq x0.2.1 x1.2.1&&true)))with
  |true=>some (.inr (.inl (false,())))
  |false=>some (.inl (a0,a1,(IntKind.wrap .i64 (a2+1)),()))
 |false=>some (.inr (.inr (.inl ())))
def ABP[Lk]:(List U1×List U1×Unit)→Option (Uf):=fun(a0,a1,_)=>
 match(!(ieq (AM a0) (AM a1)))with
 |true=>some (false,())
 |false=>match AU Ts many (a0,a1,0,())with|none=>none|some r=>match r with
 |.inl (o0,_)=>some (o0,())
 |.inr r=>match r with
 |.inl _=>some (true,())
 |.inr _=>none
def ALe[Lk]:=fun v=>Lk.f (ABP v)
theorem AdF v:ALe v=ABP v:=AJ _
abbrev K1:AE:=[(.tmp 0,.own 45 U2),(.cap 1 0,.box 1),(.cell 1 0,.map U2 U0),(.tmp 1,.clo 62 [(1,0)])]
abbrev K0:AE:=[(.obj 0,.own 45 U2),(.obj 1,.box 1),(.cell 1 0,.map U2 U0),(.obj 2,.map' 2),(.tmp 0,.di)]
abbrev Kz:List RS:=[.one]
abbrev Ot:AE:=[(.obj 0,.own 45 U2),(.obj 1,.box 1),(.cell 1 0,.map U2 U0),(.obj 2,.map' 2),(.tmp 0,.own' 0),(.tmp 1,.clo 62 [(1,0)]),(.tmp 7,.di),(.tmp 8,.di)]
abbrev Oq:Ao:=[(.ret,[(.obj 0,.own 45 U2),(.obj 1,.box 1),(.cell 1 0,.map U2 U0),(.obj 2,.map' 2),(.tmp 4,.di)]),(.exit 0,[(.obj 0,.own 45 U2),(.obj 1,.box 1),(.cell 1 0,.map U2 U0),(.obj 2,.map' 2)])]
def CB[Lk]:Vl→Option (Vl⊕(List U1×List Vb×Int×Unit)⊕(List U1×List Vb×Unit)⊕Unit):=fun(a0,a1,a2,a3,_)=>
 match(ilt a3 a2)with
 |true=>match idx a0 a3 with|none=>none|some x0=>match(ieq ((AR a1 ((AY a0 (AN a3) (0,(0,()))).1,((AY a0 (AN a3) (0,(0,()))).2.1,()))).getD 0) 0)with
  |true=>some (.inr (.inl (a0,a1,a3,())))
  |false=>some (.inl (a0,a1,a2,(IntKind.wrap .i64 (a3+1)),()))
 |false=>some (.inr (.inr (.inl (a0,a1,()))))
def HA[Lk]:(List U1×List Vb×Unit)→Option ((List U1×List Vb×Int×Unit)):=fun(a0,a1,_)=>
 match AU CB many (a0,a1,(AM a0),0,())with|none=>none|some r=>match r with
 |.inl (o0,o1,o2,_)=>some (o0,o1,o2,())
 |.inr r=>match r with
 |.inl (o3,o4,_)=>some (o3,o4,(-1:Int),())
 |.inr _=>none
def K3[Lk]:=fun v=>Lk.f (HA v)
theorem Ou v:K3 v=HA v:=AJ _
abbrev LK:AE:=[(.tmp 0,.own 45 U2),(.cap 1 0,.box 1),(.cell 1 0,.map U2 U0),(.tmp 1,.clo 62 [(1,0)])]
abbrev LJ:AE:=[(.obj 0,.own 45 U2),(.obj 1,.box 1),(.cell 1 0,.map U2 U0),(.obj 2,.map' 2),(.tmp 0,.win' 0)]
abbrev LI:List RS:=[.one]
abbrev O2:AE:=[(.obj 0,.own 45 U2),(.obj 1,.box 1),(.cell 1 0,.map U2 U0),(.obj 2,.map' 2),(.tmp 0,.own' 0),(.tmp 1,.clo 62 [(1,0)]),(.tmp 5,.di),(.tmp 6,.di)]
abbrev O1:Ao:=[(.exit 0,[(.obj 0,.own 45 U2),(.obj 1,.box 1),(.cell 1 0,.map U2 U0),(.obj 2,.map' 2),(.tmp 0,.own' 0),(.tmp 5,.di)])]
def DA[Lk]:Vl→Option (Vl⊕(List U1×List Vb×Int×Unit)⊕Unit):=fun(a0,a1,a2,a3,_)=>
 match(ilt a3 (AM a0))with
 |true=>match idx a0 a3 with|none=>none|some x0=>match(!(ieq ((AR a1 ((AY a0 (AN a3) (0,(0,()))).1,((AY a0 (AN a3) (0,(0,()))).2.1,()))).getD 0) 0))with
  |true=>match idx a0 a2 with|none=>none|some x1=>some (.inl ((Az a0 (AN a2) ((AY a0 (AN a3) (0,(0,()))).1,((AY a0 (AN a3) (0,(0,()))).2.1,()))),a1,(IntKind.wrap .i64 (a2+1)),(IntKind.wrap .i64 (a3+1)),()))
  |false=>some (.inl (a0,a1,a2,(IntKind.wrap .i64 (a3+1)),()))
 |false=>some (.inr (.inl (a0,a1,a2,())))
def HD[Lk]:(List U1×List Vb×Unit)→Option ((List U1×List Vb×Int×Unit)):=fun(a0,a1,_)=>
 match K3 (a0,a1,())with|none=>none|some (y0,y1,y2,_)=>match(ieq y2 (-1:Int))with
 |true=>some (y0,y1,(AM y0),())
 |false=>match AU DA many (y0,y1,y2,(IntKind.wrap .i64 (y2+1)),())with|none=>none|some r=>match r with
 |.inl (o3,o4,o5,_)=>match EG o3 o5 (AM o3)with|none=>none|some x6=>match EG (Bs (AN o5) (AN (AM x6)) (0,(0,())) o3) 0 o5 with|none=>none|some x7=>some ((Bs (AN o5) (AN (AM x6)) (0,(0,())) o3),o4,(((AN (AM x7)):Nat):Int),())
 |.inr _=>none
def Hu[Lk]:=fun v=>Lk.f (HD v)
theorem O3 v:Hu v=HD v:=AJ _
abbrev AL7:AE:=[(.tmp 0,.dat Ut),(.tmp 1,.dat Uu)]
abbrev AL6:AE:=[(.tmp 0,.own 45 U2),(.tmp 1,.di)]
abbrev AL5:List RS:=[.one,.one]
abbrev ARJ:AE:=[(.tmp 2,.box 2),(.cell 0 0,.di),(.cell 0 1,.dat V4),(.tmp 6,.box 1),(.cell 1 0,.map U2 U0),(.tmp 13,.dat Uu),(.tmp 14,.di),(.tmp 15,.di)]
abbrev ARI:Ao:=[(.ret,[(.tmp 4,.nil U2),(.tmp 5,.di)]),(.exit 0,[(.tmp 2,.box 2),(.cell 0 0,.di),(.cell 0 1,.dat V4),(.tmp 6,.box 1),(.cell 1 0,.map U2 U0)])]
def D1[Lk]:(Int×List U3×List Vb×List U1×Int×Int×Unit)→Option ((Int×List U3×List Vb×List U1×Int×Int×Unit)⊕Ub⊕(Int×List U3×List Vb×Unit)⊕Unit):=fun(a0,a1,a2,a3,a4,a5,_)=>
 match(ilt a5 a4)with
 |true=>match idx a3 a5 with|none=>none|some x0=>match(ilt (B7 x0.1 x0.2.1) 0)with
  |true=>some (.inr (.inl (10,())))
  |false=>match(ile a0 (imax x0.1 x0.2.1))with
  |true=>some (.inr (.inl (10,())))
  |false=>match(ile 0 (Yy a2 ((B7 x0.1 x0.2.1),((imax x0.1 x0.2.1),())))&&ilt (Yy a2 ((B7 x0.1 x0.2.1),((imax x0.1 x0.2.1),()))) (AM (Ad a2 ((B7 x0.1 x0.2.1),((imax x0.1 x0.2.1),())) ((AR a2 ((B7 x0.1 x0.2.1),((imax x0.1 x0.2.1),()))).getD 0))))with
  |true=>some (.inl (a0,a1,(AeH (Ad a2 ((B7 x0.1 x0.2.1),((imax x0.1 x0.2.1),())) ((AR a2 ((B7 x0.1 x0.2.1),((imax x0.1 x0.2.1),()))).getD 0)) (Yy a2 ((B7 x0.1 x0.2.1),((imax x0.1 x0.2.1),()))) (IntKind.wrap .i64 (((AR a2 ((B7 x0.1 x0.2.1),((imax x0.1 x0.2.1),()))).getD 0)+1))),a3,a4,(IntKind.wrap .i64 (a5+1)),()))
  |false=>none
 |false=>some (.inr (.inr (.inl (a0,a1,a2,()))))
def Zc[Lk]:(V0×List U1×Unit)→Option ((List U1×Int×Unit)):=fun(a0,a1,_)=>
 match Fh ((a0.1,(a0.2.1,())),())with|none=>none|some (y0,_)=>match(!y0)with
 |true=>some (([]:List U1),1,())
 |false=>match AU D1 many (a0.1,a0.2.1,([]:List Vb),a1,(AM a1),0,())with|none=>none|some r=>match r with
 |.inl (o1,_)=>some (([]:List U1),o1,())
 |.inr r=>match r with
 |.inl (o2,o3,o4,_)=>match VN ((o2,(o3,())),())with|none=>none|some (y5,_)=>match Hu (y5,o4,())with|none=>none|some (y6,y7,y8,_)=>some ((Bv (AN y8) y6),0,())
 |.inr _=>none
def ARL[Lk]:=fun v=>Lk.f (Zc v)
theorem ARK v:ARL v=Zc v:=AJ _
abbrev P1:AE:=[(.tmp 0,.dat U2),(.tmp 1,.dat U2)]
abbrev Pz:AE:=[(.tmp 0,.di)]
abbrev Py:List RS:=[.one]
def LA[Lk]:(U1×U1×Unit)→Option (Ub):=fun(a0,a1,_)=>
 match DY (a0.1,a1.1,())with|none=>none|some (y0,_)=>match DY (a0.2.1,a1.2.1,())with|none=>none|some (y1,_)=>match orI (([y0,y1]:List (Int)),())with|none=>none|some (y2,_)=>some (y2,())
def Ak[Lk]:=fun v=>Lk.f (LA v)
theorem YB v:Ak v=LA v:=AJ _
abbrev AYU:AE:=[(.tmp 0,.own 45 U2),(.tmp 1,.di),(.tmp 2,.di),(.tmp 3,.clo 64 [])]
abbrev AYT:AE:=[(.obj 0,.own 45 U2)]
abbrev AYS:List RS:=[]
abbrev AbU:AE:=[(.obj 0,.own 45 U2),(.tmp 0,.own' 0),(.tmp 1,.di),(.tmp 2,.di),(.tmp 3,.clo 64 []),(.tmp 8,.di),(.tmp 9,.di)]
abbrev AbS:Ao:=[(.exit 2,[(.obj 0,.own 45 U2),(.tmp 0,.own' 0),(.tmp 1,.di),(.tmp 2,.di),(.tmp 3,.clo 64 []),(.tmp 8,.di)])]
def AbQ[Lk]:Un→Option (Un⊕U9⊕Unit):=Ny ((0,(0,())):U1) Ak
abbrev AbV:AE:=[(.obj 0,.own 45 U2),(.tmp 0,.own' 0),(.tmp 1,.di),(.tmp 2,.di),(.tmp 3,.clo 64 []),(.tmp 8,.di)]
abbrev AbT:Ao:=[(.exit 0,[(.obj 0,.own 45 U2)])]
def AbR[Lk]:U9→Option (U9⊕Ul⊕Unit):=Nz ((0,(0,())):U1) Ak
def Ajm[Lk]:Ud→Option (Ul):=ADp ((0,(0,())):U1) Ak
def Aol[Lk](v:Ud):Option (Ul):=Ajk ((0,(0,())):U1) Ak v
theorem Amz v:Aol v=Ajm v:=AJ _
abbrev ALT:AE:=[(.tmp 0,.own 45 U2),(.tmp 1,.di),(.tmp 2,.di),(.tmp 3,.di),(.tmp 4,.clo 64 [])]
abbrev ALS:AE:=[(.obj 0,.own 45 U2)]
abbrev ALR:List RS:=[]
abbrev AQO:AE:=[(.obj 0,.own 45 U2),(.tmp 0,.own' 0),(.tmp 2,.di),(.tmp 3,.di),(.tmp 4,.clo 64 []),(.tmp 10,.di)]
abbrev AQN:Ao:=[(.exit 0,[(.obj 0,.own 45 U2)]),(.ret,[(.obj 0,.own 45 U2)])]
def AQM[Lk]:U9→Option (U9⊕Ul⊕Ul⊕Unit):=Jd ((0,(0,())):U1) Ak
def Aam[Lk]:U9→Option (Ul):=Qu ((0,(0,())):U1) Ak
def Ahe[Lk](v:U9):Option (Ul):=AIL ((0,(0,())):U1) Ak v
theorem Ahd v:Ahe v=Aam v:=AJ _
abbrev ANG:AE:=[(.tmp 0,.own 45 U2),(.tmp 1,.di),(.tmp 2,.di),(.tmp 3,.clo 64 [])]
abbrev ANF:AE:=[(.obj 0,.own 45 U2)]
abbrev ANE:List RS:=[]
abbrev AS9:AE:=[(.obj 0,.own 45 U2),(.tmp 0,.own' 0),(.tmp 3,.clo 64 []),(.tmp 8,.di),(.tmp 9,.di),(.tmp 12,.di)]
abbrev AS7:Ao:=[(.exit 2,[(.obj 0,.own 45 U2)])]
def AS4[Lk]:U9→Option (U9⊕Ul⊕Unit):=Jv ((0,(0,())):U1) Ak
abbrev ATA:AE:=[(.obj 0,.own 45 U2),(.tmp 0,.own' 0),(.tmp 3,.clo 64 []),(.tmp 8,.di),(.tmp 9,.di),(.tmp 10,.di),(.tmp 11,.di)]
abbrev AS8:Ao:=[(.exit 0,[(.obj 0,.own 45 U2),(.tmp 0,.own' 0),(.tmp 3,.clo 64 []),(.tmp 8,.di),(.tmp 9,.di),(.tmp 10,.di)])]
def AS6[Lk]:Un→Option (Un⊕U9⊕Unit):=Jw ((0,(0,())):U1) Ak
def Aba[Lk]:Ud→Option (Ul):=Rc ((0,(0,())):U1) Ak
def Aj3[Lk](v:Ud):Option (Ul):=AS2 ((0,(0,())):U1) Ak v
theorem Aj2 v:Aj3 v=Aba v:=AJ _
abbrev AFi:AE:=[(.tmp 0,.own 45 U2),(.tmp 1,.di),(.tmp 2,.di),(.tmp 3,.clo 64 [])]
abbrev AFh:AE:=[(.obj 0,.own 45 U2)]
abbrev AFg:List RS:=[]
abbrev AJw:AE:=[(.obj 0,.own 45 U2),(.tmp 0,.own' 0),(.tmp 1,.di),(.tmp 8,.di),(.tmp 9,.box 1),(.cell 1 0,.dat (.int .u64)),(.tmp 10,.dat (.int .u64)),(.tmp 11,.di)]
abbrev AJv:Ao:=[(.exit 0,[(.obj 0,.own 45 U2)])]
def AJu[Lk]:V3→Option (V3⊕Ul⊕Unit):=GB ((0,(0,())):U1) Ak
def AUa[Lk]:Ud→Option (Ul):=NF ((0,(0,())):U1) Ak
def AZ8[Lk](v:Ud):Option (Ul):=AFf ((0,(0,())):U1) Ak v
theorem AgQ v:AZ8 v=AUa v:=AJ _
abbrev UP:AE:=[(.tmp 0,.own 45 U2),(.tmp 1,.di),(.tmp 2,.di),(.tmp 3,.box 1),(.cell 1 0,.di),(.tmp 4,.clo 64 [])]
abbrev UO:AE:=[(.obj 0,.own 45 U2),(.obj 1,.box 1),(.cell 1 0,.di),(.tmp 0,.di),(.tmp 1,.di)]
abbrev UN:List RS:=[.one,.one]
def AIt[Lk]:U9→Option (U9):=Jm ((0,(0,())):U1) Ak
def AMV[Lk](v:U9):Option (U9):=Ka ((0,(0,())):U1) Ak v
theorem AXc v:AMV v=AIt v:=AJ _
abbrev VB:AE:=[(.tmp 0,.own 45 U2),(.tmp 1,.di),(.tmp 2,.di),(.tmp 3,.di),(.tmp 4,.box 1),(.cell 1 0,.di),(.tmp 5,.clo 64 [])]
abbrev VA:AE:=[(.obj 0,.own 45 U2),(.obj 1,.box 1),(.cell 1 0,.di),(.tmp 0,.di)]
abbrev UZ:List RS:=[.one]
def AIx[Lk]:Un→Option (Ud):=Jp ((0,(0,())):U1) Ak
def AMl[Lk](v:Un):Option (Ud):=Ki ((0,(0,())):U1) Ak v
theorem AXy v:AMl v=AIx v:=AJ _
abbrev VH:AE:=[(.tmp 0,.own 45 U2),(.tmp 1,.di),(.tmp 2,.box 1),(.cell 1 0,.di),(.tmp 3,.clo 64 [])]
abbrev VG:AE:=[(.obj 0,.own 45 U2),(.obj 1,.box 1),(.cell 1 0,.di),(.tmp 0,.di)]
abbrev VF:List RS:=[.one]
def AIz[Lk]:Ud→Option (Ud):=Jq ((0,(0,())):U1) Ak
def AMp[Lk](v:Ud):Option (Ud):=Kj ((0,(0,())):U1) Ak v
theorem AX1 v:AMp v=AIz v:=AJ _
abbrev ACX:AE:=[(.tmp 0,.own 45 U2),(.tmp 1,.di),(.tmp 2,.di),(.tmp 3,.clo 64 [])]
abbrev ACW:AE:=[(.obj 0,.own 45 U2),(.tmp 0,.di),(.tmp 1,.di)]
abbrev ACV:List RS:=[.one,.one]
def ARF[Lk]:Ud→Option (Ud):=MY ((0,(0,())):U1) Ak
def AW5[Lk](v:Ud):Option (Ud):=ACU ((0,(0,())):U1) Ak v
theorem Ado v:AW5 v=ARF v:=AJ _
abbrev AWd:AE:=[(.tmp 0,.own 45 U2),(.tmp 1,.di),(.tmp 2,.di),(.tmp 3,.clo 64 [])]
abbrev AWc:AE:=[(.obj 0,.own 45 U2)]
abbrev AWb:List RS:=[]
abbrev Aat:AE:=[(.obj 0,.own 45 U2),(.tmp 0,.own' 0),(.tmp 8,.di),(.tmp 9,.di)]
abbrev Aas:Ao:=[(.exit 0,[(.obj 0,.own 45 U2)])]
def Aar[Lk]:Ud→Option (Ud⊕Ul⊕Unit):=Q6 ((0,(0,())):U1) Ak
def Ah4[Lk]:Ud→Option (Ul):=ABy ((0,(0,())):U1) Ak
def AoL[Lk](v:Ud):Option (Ul):=Ah2 ((0,(0,())):U1) Ak v
theorem AmF v:AoL v=Ah4 v:=AJ _
abbrev Ph:AE:=[(.tmp 0,.own 45 U2),(.tmp 1,.di),(.tmp 2,.di),(.tmp 3,.clo 64 [])]
abbrev Pg:AE:=[(.obj 0,.own 45 U2),(.tmp 0,.dat .bool)]
abbrev Pf:List RS:=[.one]
abbrev X0:AE:=[(.obj 0,.own 45 U2),(.tmp 0,.own' 0),(.tmp 1,.di),(.tmp 2,.di),(.tmp 3,.clo 64 []),(.tmp 9,.di),(.tmp 10,.di),(.tmp 12,.di)]
abbrev Xw:Ao:=[(.exit 6,[(.obj 0,.own 45 U2),(.tmp 0,.own' 0),(.tmp 1,.di),(.tmp 2,.di),(.tmp 3,.clo 64 []),(.tmp 9,.di),(.tmp 10,.di)])]
def Xs[Lk]:V3→Option (V3⊕Un⊕Unit):=Ef ((0,(0,())):U1) Ak
abbrev X1:AE:=[(.obj 0,.own 45 U2),(.tmp 0,.own' 0),(.tmp 1,.di),(.tmp 2,.di),(.tmp 3,.clo 64 []),(.tmp 9,.di),(.tmp 10,.di),(.tmp 11,.di)]
abbrev Xx:Ao:=[(.exit 4,[(.obj 0,.own 45 U2),(.tmp 0,.own' 0),(.tmp 1,.di),(.tmp 2,.di),(.tmp 3,.clo 64 []),(.tmp 9,.di),(.tmp 10,.di)])]
def Xt[Lk]:V3→Option (V3⊕Un⊕Unit):=Eg ((0,(0,())):U1) Ak
abbrev X2:AE:=[(.obj 0,.own 45 U2),(.tmp 0,.own' 0),(.tmp 1,.di),(.tmp 2,.di),(.tmp 3,.clo 64 []),(.tmp 9,.di),(.tmp 10,.di)]
abbrev Xy:Ao:=[(.exit 2,[(.obj 0,.own 45 U2),(.tmp 0,.own' 0),(.tmp 1,.di),(.tmp 2,.di),(.tmp 3,.clo 64 []),(.tmp 9,.di),(.tmp 10,.di)])]
def Xu[Lk]:Un→Option (Un⊕Un⊕Unit):=Gc ((0,(0,())):U1) Ak
abbrev X3:AE:=[(.obj 0,.own 45 U2),(.tmp 0,.own' 0),(.tmp 1,.di),(.tmp 2,.di),(.tmp 3,.clo 64 []),(.tmp 9,.di),(.tmp 10,.di)]
abbrev Xz:Ao:=[(.ret,[(.obj 0,.own 45 U2),(.tmp 8,.dat .bool)]),(.exit 0,[(.obj 0,.own 45 U2)])]
def Xv[Lk]:Un→Option (Un⊕(List U1×Bool×Unit)⊕Ul⊕Unit):=CU ((0,(0,())):U1) Ak
def ACr[Lk]:Ud→Option ((List U1×Bool×Unit)):=Hf ((0,(0,())):U1) Ak
def ACs[Lk](v:Ud):Option ((List U1×Bool×Unit)):=MZ ((0,(0,())):U1) Ak v
theorem AR1 v:ACs v=ACr v:=AJ _
abbrev UJ:AE:=[(.tmp 0,.own 45 U2),(.tmp 1,.di),(.tmp 2,.di),(.tmp 3,.di),(.tmp 4,.clo 64 [])]
abbrev UI:AE:=[(.obj 0,.own 45 U2),(.tmp 0,.di)]
abbrev UH:List RS:=[.one]
abbrev AC9:AE:=[(.obj 0,.own 45 U2),(.tmp 0,.own' 0),(.tmp 1,.di),(.tmp 4,.clo 64 []),(.tmp 11,.di),(.tmp 12,.di)]
abbrev AC6:Ao:=[(.exit 4,[(.obj 0,.own 45 U2),(.tmp 0,.own' 0),(.tmp 1,.di),(.tmp 4,.clo 64 []),(.tmp 11,.di),(.tmp 12,.di)])]
def AC3[Lk]:U9→Option (U9⊕U9⊕Unit):=Hg ((0,(0,())):U1) Ak
abbrev ADA:AE:=[(.obj 0,.own 45 U2),(.tmp 0,.own' 0),(.tmp 1,.di),(.tmp 4,.clo 64 []),(.tmp 11,.di),(.tmp 12,.di)]
abbrev AC7:Ao:=[(.exit 2,[(.obj 0,.own 45 U2),(.tmp 0,.own' 0),(.tmp 1,.di),(.tmp 4,.clo 64 []),(.tmp 11,.di),(.tmp 12,.di)])]
def AC4[Lk]:U9→Option (U9⊕U9⊕Unit):=Hh ((0,(0,())):U1) Ak
abbrev ADB:AE:=[(.obj 0,.own 45 U2),(.tmp 0,.own' 0),(.tmp 1,.di),(.tmp 4,.clo 64 []),(.tmp 11,.di),(.tmp 12,.di)]
abbrev AC8:Ao:=[(.exit 0,[(.obj 0,.own 45 U2),(.tmp 11,.di)])]
def AC5[Lk]:U9→Option (U9⊕(List U1×Int×Unit)⊕Unit):=Hi ((0,(0,())):U1) Ak
def AIp[Lk]:U9→Option ((List U1×Int×Unit)):=Jl ((0,(0,())):U1) Ak
def AMO[Lk](v:U9):Option ((List U1×Int×Unit)):=RI ((0,(0,())):U1) Ak v
theorem AXY v:AMO v=AIp v:=AJ _
abbrev AMR:AE:=[(.tmp 0,.own 45 U2),(.tmp 1,.di),(.tmp 2,.di),(.tmp 3,.di),(.tmp 4,.clo 64 [])]
abbrev AMQ:AE:=[(.obj 0,.own 45 U2),(.tmp 0,.di),(.tmp 1,.dat .bool)]
abbrev AMP:List RS:=[.one,.one]
abbrev ASO:AE:=[(.obj 0,.own 45 U2),(.tmp 0,.own' 0),(.tmp 1,.di),(.tmp 4,.clo 64 []),(.tmp 12,.di),(.tmp 13,.di)]
abbrev ASJ:Ao:=[(.exit 8,[(.obj 0,.own 45 U2),(.tmp 0,.own' 0),(.tmp 1,.di),(.tmp 4,.clo 64 []),(.tmp 12,.di),(.tmp 13,.di)])]
def ASA[Lk]:U9→Option (U9⊕U9⊕Unit):=Ma ((0,(0,())):U1) Ak
abbrev ASP:AE:=[(.obj 0,.own 45 U2),(.tmp 0,.own' 0),(.tmp 1,.di),(.tmp 4,.clo 64 []),(.tmp 12,.di),(.tmp 13,.di)]
abbrev ASK:Ao:=[(.exit 6,[(.obj 0,.own 45 U2),(.tmp 0,.own' 0),(.tmp 1,.di),(.tmp 4,.clo 64 []),(.tmp 12,.di),(.tmp 13,.di)])]
def ASC[Lk]:U9→Option (U9⊕U9⊕Unit):=Mb ((0,(0,())):U1) Ak
abbrev ASQ:AE:=[(.obj 0,.own 45 U2),(.tmp 0,.own' 0),(.tmp 1,.di),(.tmp 4,.clo 64 []),(.tmp 12,.di),(.tmp 13,.di)]
abbrev ASL:Ao:=[(.exit 4,[(.obj 0,.own 45 U2),(.tmp 0,.own' 0),(.tmp 1,.di),(.tmp 13,.di)])]
def ASE[Lk]:U9→Option (U9⊕Ud⊕Unit):=Mc ((0,(0,())):U1) Ak
abbrev ASR:AE:=[(.obj 0,.own 45 U2),(.tmp 0,.own' 0),(.tmp 1,.di),(.tmp 4,.clo 64 []),(.tmp 12,.di),(.tmp 13,.di)]
abbrev ASM:Ao:=[(.exit 2,[(.obj 0,.own 45 U2),(.tmp 0,.own' 0),(.tmp 1,.di),(.tmp 4,.clo 64 []),(.tmp 12,.di),(.tmp 13,.di)])]
def ASG[Lk]:U9→Option (U9⊕U9⊕Unit):=Md ((0,(0,())):U1) Ak
abbrev ASS:AE:=[(.obj 0,.own 45 U2),(.tmp 0,.own' 0),(.tmp 1,.di),(.tmp 4,.clo 64 []),(.tmp 12,.di),(.tmp 13,.di)]
abbrev ASN:Ao:=[(.exit 0,[(.obj 0,.own 45 U2),(.tmp 0,.own' 0),(.tmp 1,.di),(.tmp 4,.clo 64 []),(.tmp 12,.di),(.tmp 13,.di)])]
def ASI[Lk]:U9→Option (U9⊕U9⊕Unit):=Me ((0,(0,())):U1) Ak
def Aa6[Lk]:U9→Option ((List U1×Int×Bool×Unit)):=RH ((0,(0,())):U1) Ak
def Ai4[Lk](v:U9):Option ((List U1×Int×Bool×Unit)):=ACt ((0,(0,())):U1) Ak v
theorem Ai3 v:Ai4 v=Aa6 v:=AJ _
abbrev ACf:AE:=[(.tmp 0,.own 45 U2),(.tmp 1,.di),(.tmp 2,.di),(.tmp 3,.di),(.tmp 4,.clo 64 [])]
abbrev ACe:AE:=[(.obj 0,.own 45 U2)]
abbrev ACd:List RS:=[]
abbrev Aa4:AE:=[(.obj 0,.own 45 U2),(.tmp 0,.own' 0),(.tmp 1,.di),(.tmp 2,.di),(.tmp 3,.di),(.tmp 4,.clo 64 []),(.tmp 10,.dat .bool),(.tmp 11,.dat .bool)]
abbrev Aa3:Ao:=[(.ret,[(.obj 0,.own 45 U2)])]
def Aa2[Lk](self:U9→Option (Ul)):(List U1×Int×Int×Int×Bool×Bool×Unit)→Option ((List U1×Int×Int×Int×Bool×Bool×Unit)⊕Ul⊕Unit):=Nt ((0,(0,())):U1) Ak self
def AoY[Lk](self:U9→Option (Ul)):U9→Option (Ul):=ACc ((0,(0,())):U1) Ak self
def ACg[Lk]:Nat→U9→Option (Ul):=KZ ((0,(0,())):U1) Ak
def AmU[Lk](v:U9):Option (Ul):=Aie ((0,(0,())):U1) Ak v
theorem AmT v:AmU v=ACg 100 v:=AJ _
abbrev ALK:AE:=[(.tmp 0,.own 45 U2),(.tmp 1,.clo 64 [])]
abbrev ALJ:AE:=[(.obj 0,.own 45 U2)]
abbrev ALI:List RS:=[]
def Aaj[Lk]:Ul→Option (Ul):=Qt ((0,(0,())):U1) Ak
def AQE[Lk](v:Ul):Option (Ul):=Aai ((0,(0,())):U1) Ak v
theorem AhU v:AQE v=Aaj v:=AJ _
abbrev AYl:AE:=[(.tmp 0,.dat Ut),(.tmp 1,.dat Uu)]
abbrev AYk:AE:=[(.tmp 0,.own 45 U2),(.tmp 1,.di)]
abbrev AYj:List RS:=[.one,.one]
abbrev Abi:AE:=[(.tmp 2,.box 2),(.cell 0 0,.di),(.cell 0 1,.dat V4),(.tmp 6,.map U2 U0),(.tmp 9,.own 45 U2),(.tmp 26,.dat Uu),(.tmp 27,.di),(.tmp 28,.di)]
abbrev Abg:Ao:=[(.ret,[(.tmp 4,.nil U2),(.tmp 5,.di)]),(.exit 2,[(.tmp 9,.own 45 U2)])]
def Ij[Lk]:(Int×List U3×List Vb×List U1×List U1×Int×Int×Unit)→Option ((Int×List U3×List Vb×List U1×List U1×Int×Int×Unit)⊕Ub⊕Ul⊕Unit):=fun(a0,a1,a2,a3,a4,a5,a6,_)=>
 match(ilt a6 a5)with
 |true=>match idx a4 a6 with|none=>none|some x0=>match(ilt (B7 x0.1 x0.2.1) 0)with
  |true=>some (.inr (.inl (10,())))
  |false=>match(ile a0 (imax x0.1 x0.2.1))with
  |true=>some (.inr (.inl (10,())))
  |false=>match(ilt (B7 x0.1 x0.2.1) (imax x0.1 x0.2.1))with
  |true=>match(ieq ((AR a2 ((B7 x0.1 x0.2.1),((imax x0.1 x0.2.1),()))).getD 0) 0)with
   |true=>match(fits ((AM a3)+(AM ([((B7 x0.1 x0.2.1),((imax x0.1 x0.2.1),()))]:List U1))))with
    |true=>some (.inl (a0,a1,(Ad a2 ((B7 x0.1 x0.2.1),((imax x0.1 x0.2.1),())) 1),(BT a3 ([((B7 x0.1 x0.2.1),((imax x0.1 x0.2.1),()))]:List U1)),a4,a5,(IntKind.wrap .i64 (a6+1)),()))
    |false=>none
   |false=>some (.inl (a0,a1,a2,a3,a4,a5,(IntKind.wrap .i64 (a6+1)),()))
  |false=>some (.inl (a0,a1,a2,a3,a4,a5,(IntKind.wrap .i64 (a6+1)),()))
 |false=>some (.inr (.inr (.inl (a3,()))))
abbrev Abj:AE:=[(.tmp 1,.dat Uu),(.tmp 2,.box 2),(.cell 0 0,.di),(.cell 0 1,.dat V4),(.tmp 6,.map U2 U0),(.tmp 17,.own 45 U2),(.tmp 18,.di),(.tmp 19,.di)]
abbrev Abh:Ao:=[(.exit 0,[(.tmp 1,.dat Uu),(.tmp 2,.box 2),(.cell 0 0,.di),(.cell 0 1,.dat V4),(.tmp 6,.map U2 U0)])]
def Ik[Lk]:(List U1×Int×List U3×List Vb×List U1×Int×Int×Unit)→Option ((List U1×Int×List U3×List Vb×List U1×Int×Int×Unit)⊕(List U1×Int×List U3×List Vb×Unit)⊕Unit):=fun(a0,a1,a2,a3,a4,a5,a6,_)=>
 match(ilt a6 a5)with
 |true=>match idx a4 a6 with|none=>none|some x0=>some (.inl (a0,a1,a2,(Ad a3 ((AY a4 (AN a6) (0,(0,()))).1,((AY a4 (AN a6) (0,(0,()))).2.1,())) 1),a4,a5,(IntKind.wrap .i64 (a6+1)),()))
 |false=>some (.inr (.inl (a0,a1,a2,a3,())))
def ANP[Lk]:(V0×List U1×Unit)→Option ((List U1×Int×Unit)):=fun(a0,a1,_)=>
 match Fh ((a0.1,(a0.2.1,())),())with|none=>none|some (y0,_)=>match(!y0)with
 |true=>some (([]:List U1),1,())
 |false=>match VN ((a0.1,(a0.2.1,())),())with|none=>none|some (y1,_)=>match AU Ik many (a1,a0.1,a0.2.1,([]:List Vb),y1,(AM y1),0,())with|none=>none|some r=>match r with
 |.inl (o2,o3,o4,o5,_)=>match AU Ij many (o3,o4,o5,([]:List U1),o2,(AM o2),0,())with|none=>none|some r=>match r with
  |.inl (o6,_)=>some (([]:List U1),o6,())
  |.inr r=>match r with
  |.inl (o7,_)=>match AQE (o7,())with|none=>none|some (y8,_)=>some (y8,0,())
  |.inr _=>none
 |.inr _=>none
def AkB[Lk]:=fun v=>Lk.f (ANP v)
theorem Abk v:AkB v=ANP v:=AJ _
abbrev AKW:AE:=[(.tmp 0,.di)]
abbrev AKV:AE:=[(.tmp 0,.dat .bool)]
abbrev AKU:List RS:=[.one]
def ZS[Lk]:Ub→Option (Uf):=fun(a0,_)=>
 some ((ieq a0 (IntKind.wrap .i64 (IntKind.wrap .u16 a0))),())
def XQ[Lk]:=fun v=>Lk.f (ZS v)
theorem APW v:XQ v=ZS v:=AJ _
abbrev AAD:AE:=[(.tmp 0,.di)]
abbrev AAC:AE:=[(.tmp 0,.dat .bool)]
abbrev AAB:List RS:=[.one]
def Qe[Lk]:Ub→Option (Uf):=fun(a0,_)=>
 match(ile 1 a0)with
 |true=>some ((ile a0 4),())
 |false=>some (false,())
def AAE[Lk]:=fun v=>Lk.f (Qe v)
theorem AHw v:AAE v=Qe v:=AJ _
abbrev Kw:AE:=[(.tmp 0,.dat Uu),(.tmp 1,.clo 50 [])]
abbrev Kv:AE:=[(.tmp 0,.di)]
abbrev Ku:List RS:=[.one]
abbrev On:AE:=[(.tmp 0,.dat Uu),(.tmp 1,.clo 50 []),(.tmp 7,.di),(.tmp 8,.di)]
abbrev Om:Ao:=[(.ret,[(.tmp 4,.di)]),(.exit 0,[])]
def Ce[Lk]:Ud→Option (Ud⊕Ub⊕(Unit)⊕Unit):=fun(a0,a1,a2,_)=>
 match(ilt a2 a1)with
 |true=>match idx a0 a2 with|none=>none|some x0=>match XQ (x0.1,())with|none=>none|some (y1,_)=>match(!y1)with
  |true=>some (.inr (.inl (a2,())))
  |false=>match XQ (x0.2.1,())with|none=>none|some (y2,_)=>match(!y2)with
  |true=>some (.inr (.inl (a2,())))
  |false=>some (.inl (a0,a1,(IntKind.wrap .i64 (a2+1)),()))
 |false=>some (.inr (.inr (.inl ())))
def G9[Lk]:Ul→Option (Ub):=fun(a0,_)=>
 match AU Ce many (a0,(AM a0),0,())with|none=>none|some r=>match r with
 |.inl (o0,_)=>some (o0,())
 |.inr r=>match r with
 |.inl _=>some ((-1:Int),())
 |.inr _=>none
def Ky[Lk]:=fun v=>Lk.f (G9 v)
theorem Oo v:Ky v=G9 v:=AJ _
abbrev JM:AE:=[(.tmp 0,.dat Uu),(.tmp 1,.clo 50 [])]
abbrev JL:AE:=[(.tmp 0,.dat .bool)]
abbrev JK:List RS:=[.one]
def GX[Lk]:Ul→Option (Uf):=fun(a0,_)=>
 match Ky (a0,())with|none=>none|some (y0,_)=>some ((ile 0 y0),())
def DX[Lk]:=fun v=>Lk.f (GX v)
theorem M6 v:DX v=GX v:=AJ _
abbrev K6:AE:=[(.tmp 0,.dat Vg),(.tmp 1,.clo 53 [])]
abbrev K5:AE:=[(.tmp 0,.di)]
abbrev K4:List RS:=[.one]
abbrev Ow:AE:=[(.tmp 0,.dat Vg),(.tmp 1,.clo 53 []),(.tmp 7,.di),(.tmp 8,.di)]
abbrev Ov:Ao:=[(.ret,[(.tmp 4,.di)]),(.exit 0,[])]
def Cf[Lk]:(List Ua×Int×Int×Unit)→Option ((List Ua×Int×Int×Unit)⊕Ub⊕(Unit)⊕Unit):=fun(a0,a1,a2,_)=>
 match(ilt a2 a1)with
 |true=>match idx a0 a2 with|none=>none|some x0=>match AAE (x0.1,())with|none=>none|some (y1,_)=>match(!y1)with
  |true=>some (.inr (.inl (a2,())))
  |false=>match XQ (x0.2.1,())with|none=>none|some (y2,_)=>match(!y2)with
  |true=>some (.inr (.inl (a2,())))
  |false=>match XQ (x0.2.2.1,())with|none=>none|some (y3,_)=>match(!y3)with
  |true=>some (.inr (.inl (a2,())))
  |false=>some (.inl (a0,a1,(IntKind.wrap .i64 (a2+1)),()))
 |false=>some (.inr (.inr (.inl ())))
def HB[Lk]:(List Ua×Unit)→Option (Ub):=fun(a0,_)=>
 match AU Cf many (a0,(AM a0),0,())with|none=>none|some r=>match r with
 |.inl (o0,_)=>some (o0,())
 |.inr r=>match r with
 |.inl _=>some ((-1:Int),())
 |.inr _=>none
def K8[Lk]:=fun v=>Lk.f (HB v)
theorem Ox v:K8 v=HB v:=AJ _
abbrev JP:AE:=[(.tmp 0,.dat Vg),(.tmp 1,.clo 53 [])]
abbrev JO:AE:=[(.tmp 0,.dat .bool)]
abbrev JN:List RS:=[.one]
def GY[Lk]:(List Ua×Unit)→Option (Uf):=fun(a0,_)=>
 match K8 (a0,())with|none=>none|some (y0,_)=>some ((ile 0 y0),())
def Gk[Lk]:=fun v=>Lk.f (GY v)
theorem M7 v:Gk v=GY v:=AJ _
abbrev Z9:AE:=[(.tmp 0,.dat Ue)]
abbrev Z8:AE:=[(.tmp 0,.dat .bool)]
abbrev Z7:List RS:=[.one]
def Qd[Lk]:(Uq×Unit)→Option (Uf):=fun(a0,_)=>
 match(ieq a0.1 1)with
 |true=>match(ieq (AM a0.2.2.1) 0)with
  |true=>match(ile (AM a0.2.1) 60)with
   |true=>match DX (a0.2.1,())with|none=>none|some (y0,_)=>some ((!y0),())
   |false=>some (false,())
  |false=>some (false,())
 |false=>match(ieq a0.1 2)with
 |true=>match(ieq (AM a0.2.2.1) 0)with
  |true=>match(ile (AM a0.2.1) 60)with
   |true=>match DX (a0.2.1,())with|none=>none|some (y1,_)=>some ((!y1),())
   |false=>some (false,())
  |false=>some (false,())
 |false=>match(ieq a0.1 3)with
 |true=>match(ieq (AM a0.2.1) 0)with
  |true=>match(ile (AM a0.2.2.1) 60)with
   |true=>match Gk (a0.2.2.1,())with|none=>none|some (y2,_)=>some ((!y2),())
   |false=>some (false,())
  |false=>some (false,())
 |false=>some (false,())
def AAA[Lk]:=fun v=>Lk.f (Qd v)
theorem AHv v:AAA v=Qd v:=AJ _
end
end Go.Pev
end
section
namespace Go.Pev
noncomputable section
attribute [local irreducible] Oz LD OR Oc Ajo Ajp Ajq Q9 AGv Qv Yw LO Aj many IntKind.wrap AM Az AY BT Bv F8 D4 AN Bs B7 imax AR Ad
abbrev AEO:AE:=[(.tmp 0,.dat Uu),(.tmp 1,.dat Uu)]
abbrev AEN:AE:=[(.tmp 0,.dat .bool)]
abbrev AEM:List RS:=[.one]
abbrev AJR:AE:=[(.tmp 0,.dat Uu),(.tmp 1,.dat Uu),(.tmp 12,.di),(.tmp 13,.di)]
abbrev AJQ:Ao:=[(.ret,[(.tmp 4,.dat .bool)]),(.exit 0,[])]
def Vs[Lk]:(List U1×List U1×Int×Int×Unit)→Option ((List U1×List U1×Int×Int×Unit)⊕Uf⊕(Unit)⊕Unit):=fun(a0,a1,a2,a3,_)=>
 match(ilt a3 a2)with
 |true=>match idx a0 a3 with|none=>none|some x0=>match idx a1 a3 with|none=>none|some x1=>match(!(ieq x0.1 x1.1&&(ieq x0.2.1 x1.2.1&&true)))with
  |true=>some (.inr (.inl (false,())))
  |false=>some (.inl (a0,a1,a2,(IntKind.wrap .i64 (a3+1)),()))
 |false=>some (.inr (.inr (.inl ())))
def AEQ[Lk]:(List U1×List U1×Unit)→Option (Uf):=fun(a0,a1,_)=>
 match(!(ieq (AM a0) (AM a1)))with
 |true=>some (false,())
 |false=>match AU Vs many (a0,a1,(AM a0),0,())with|none=>none|some r=>match r with
 |.inl (o0,_)=>some (o0,())
 |.inr r=>match r with
 |.inl _=>some (true,())
 |.inr _=>none
def ANd[Lk]:=fun v=>Lk.f (AEQ v)
theorem AfS v:ANd v=AEQ v:=AJ _
abbrev AET:AE:=[(.tmp 0,.dat Vg),(.tmp 1,.dat Vg)]
abbrev AES:AE:=[(.tmp 0,.dat .bool)]
abbrev AER:List RS:=[.one]
abbrev AJT:AE:=[(.tmp 0,.dat Vg),(.tmp 1,.dat Vg),(.tmp 12,.di),(.tmp 13,.di)]
abbrev AJS:Ao:=[(.ret,[(.tmp 4,.dat .bool)]),(.exit 0,[])]
def Vt[Lk]:(List Ua×List Ua×Int×Int×Unit)→Option ((List Ua×List Ua×Int×Int×Unit)⊕Uf⊕(Unit)⊕Unit):=fun(a0,a1,a2,a3,_)=>
 match(ilt a3 a2)with
 |true=>match idx a0 a3 with|none=>none|some x0=>match idx a1 a3 with|none=>none|some x1=>match(!(ieq x0.1 x1.1&&(ieq x0.2.1 x1.2.1&&(ieq x0.2.2.1 x1.2.2.1&&true))))with
  |true=>some (.inr (.inl (false,())))
  |false=>some (.inl (a0,a1,a2,(IntKind.wrap .i64 (a3+1)),()))
 |false=>some (.inr (.inr (.inl ())))
def AEV[Lk]:(List Ua×List Ua×Unit)→Option (Uf):=fun(a0,a1,_)=>
 match(!(ieq (AM a0) (AM a1)))with
 |true=>some (false,())
 |false=>match AU Vt many (a0,a1,(AM a0),0,())with|none=>none|some r=>match r with
 |.inl (o0,_)=>some (o0,())
 |.inr r=>match r with
 |.inl _=>some (true,())
 |.inr _=>none
def equalA[Lk]:=fun v=>Lk.f (AEV v)
theorem AfV v:equalA v=AEV v:=AJ _
abbrev AKO:AE:=[(.tmp 0,.dat Ue),(.tmp 1,.dat Ue)]
abbrev AKN:AE:=[(.tmp 0,.dat .bool)]
abbrev AKM:List RS:=[.one]
def AKP[Lk]:(Uq×Uq×Unit)→Option (Uf):=fun(a0,a1,_)=>
 match(ieq a0.1 a1.1)with
 |true=>match ANd (a0.2.1,a1.2.1,())with|none=>none|some (y0,_)=>match y0 with
  |true=>match equalA (a0.2.2.1,a1.2.2.1,())with|none=>none|some (y1,_)=>some (y1,())
  |false=>some (false,())
 |false=>some (false,())
def AaW[Lk]:=fun v=>Lk.f (AKP v)
theorem Agh v:AaW v=AKP v:=AJ _
abbrev AFq:AE:=[(.tmp 0,.dat Uv)]
abbrev AFp:AE:=[(.tmp 0,.own 3 U0)]
abbrev AFo:List RS:=[.one]
def SK[Lk]:(Ua×Unit)→Option (Up):=fun(a0,_)=>
 match(ieq a0.1 1)with
 |true=>some (([a0.2.1,a0.2.2.1]:List (Int)),())
 |false=>match(ieq a0.1 2)with
 |true=>some (([a0.2.1]:List (Int)),())
 |false=>match(ieq a0.1 3)with
 |true=>some (([a0.2.1]:List (Int)),())
 |false=>some (([]:List (Int)),())
def AFr[Lk]:=fun v=>Lk.f (SK v)
theorem AJ1 v:AFr v=SK v:=AJ _
abbrev AOh:AE:=[(.tmp 0,.dat Ue)]
abbrev AOg:AE:=[(.tmp 0,.own 3 U0)]
abbrev AOf:List RS:=[.one]
abbrev AUj:AE:=[(.tmp 3,.own 3 U0),(.tmp 24,.dat Vg),(.tmp 25,.di),(.tmp 26,.di)]
abbrev AUh:Ao:=[(.exit 2,[(.tmp 3,.own 3 U0)])]
def H0[Lk]:(List Int×List Ua×Int×Int×Unit)→Option ((List Int×List Ua×Int×Int×Unit)⊕Up⊕Unit):=fun(a0,a1,a2,a3,_)=>
 match(ilt a3 a2)with
 |true=>match idx a1 a3 with|none=>none|some x0=>match AFr ((x0.1,(x0.2.1,(x0.2.2.1,()))),())with|none=>none|some (y1,_)=>match(fits ((AM a0)+(AM y1)))with
  |true=>some (.inl ((BT a0 y1),a1,a2,(IntKind.wrap .i64 (a3+1)),()))
  |false=>none
 |false=>some (.inr (.inl (a0,())))
abbrev AUk:AE:=[(.tmp 1,.box 3),(.cell 0 0,.di),(.cell 0 1,.dat Uu),(.cell 0 2,.dat Vg),(.tmp 3,.own 3 U0),(.tmp 9,.dat Uu),(.tmp 10,.di),(.tmp 11,.di)]
abbrev AUi:Ao:=[(.exit 0,[(.tmp 1,.box 3),(.cell 0 0,.di),(.cell 0 1,.dat Uu),(.cell 0 2,.dat Vg),(.tmp 3,.own 3 U0)])]
def H3[Lk]:(Int×List U1×List Ua×List Int×List U1×Int×Int×Unit)→Option ((Int×List U1×List Ua×List Int×List U1×Int×Int×Unit)⊕(Int×List U1×List Ua×List Int×Unit)⊕Unit):=fun(a0,a1,a2,a3,a4,a5,a6,_)=>
 match(ilt a6 a5)with
 |true=>match idx a4 a6 with|none=>none|some x0=>match(fits ((AM a3)+(AM ([x0.1,x0.2.1]:List (Int)))))with
  |true=>some (.inl (a0,a1,a2,(BT a3 ([x0.1,x0.2.1]:List (Int))),a4,a5,(IntKind.wrap .i64 (a6+1)),()))
  |false=>none
 |false=>some (.inr (.inl (a0,a1,a2,a3,())))
def Zu[Lk]:(Uq×Unit)→Option (Up):=fun(a0,_)=>
 match AU H3 many (a0.1,a0.2.1,a0.2.2.1,([]:List (Int)),a0.2.1,(AM a0.2.1),0,())with|none=>none|some r=>match r with
 |.inl (o0,o1,o2,o3,_)=>match AU H0 many (o3,o2,(AM o2),0,())with|none=>none|some r=>match r with
  |.inl (o4,_)=>some (o4,())
  |.inr _=>none
 |.inr _=>none
def AFm[Lk]:=fun v=>Lk.f (Zu v)
theorem AUl v:AFm v=Zu v:=AJ _
abbrev AOs:AE:=[(.tmp 0,.dat Ut)]
abbrev AOr:AE:=[(.tmp 0,.di)]
abbrev AOq:List RS:=[.one]
def Zw[Lk]:(V0×Unit)→Option (Ub):=fun(a0,_)=>
 match Fh ((a0.1,(a0.2.1,())),())with|none=>none|some (y0,_)=>match(!y0)with
 |true=>some (0,())
 |false=>some ((IntKind.wrap .i64 (400-(AM a0.2.1))),())
def AJ0[Lk]:=fun v=>Lk.f (Zw v)
theorem AUn v:AJ0 v=Zw v:=AJ _
abbrev AOn:AE:=[(.tmp 0,.dat Ue),(.tmp 1,.dat Ue)]
abbrev AOm:AE:=[(.tmp 0,.dat .bool)]
abbrev AOl:List RS:=[.one]
def AOo[Lk]:(Uq×Uq×Unit)→Option (Uf):=fun(a0,a1,_)=>
 match AaW ((a0.1,(a0.2.1,(a0.2.2.1,()))),(a1.1,(a1.2.1,(a1.2.2.1,()))),())with|none=>none|some (y0,_)=>some (y0,())
def Abz[Lk]:=fun v=>Lk.f (AOo v)
theorem AlD v:Abz v=AOo v:=AJ _
abbrev ANv:AE:=[(.tmp 0,.di)]
abbrev ANu:AE:=[(.tmp 0,.dat .bool)]
abbrev ANt:List RS:=[.one]
def Zo[Lk]:Ub→Option (Uf):=fun(a0,_)=>
 match(ile 0 a0)with
 |true=>some ((ilt a0 65536),())
 |false=>some (false,())
def AJc[Lk]:=fun v=>Lk.f (Zo v)
theorem ATn v:AJc v=Zo v:=AJ _
abbrev AZM:AE:=[(.tmp 0,.dat U2)]
abbrev AZL:AE:=[(.tmp 0,.dat Ug),(.tmp 1,.dat .bool)]
abbrev AZK:List RS:=[.one,.one]
def ANq[Lk]:(U1×Unit)→Option ((Int×Bool×Unit)):=fun(a0,_)=>
 match AJc (a0.1,())with|none=>none|some (y0,_)=>match(!y0)with
 |true=>some (0,false,())
 |false=>match AJc (a0.2.1,())with|none=>none|some (y1,_)=>match(!y1)with
 |true=>some (0,false,())
 |false=>match shl? .u32 (IntKind.wrap .u32 (B7 a0.1 a0.2.1)) 16 with|none=>none|some x2=>some ((IntKind.wrap .u32 ((BitVec.ofInt (IntKind.bits .u32) x2 ||| BitVec.ofInt (IntKind.bits .u32) (IntKind.wrap .u32 (imax a0.1 a0.2.1))).toNat)),true,())
def Ake[Lk]:=fun v=>Lk.f (ANq v)
theorem Abs v:Ake v=ANq v:=AJ _
abbrev AN2:AE:=[(.tmp 0,.dat Ug)]
abbrev AN1:AE:=[(.tmp 0,.dat U2)]
abbrev AN0:List RS:=[.one]
def Zp[Lk]:Ub→Option ((U1×Unit)):=fun(a0,_)=>
 match shr? .u32 a0 16 with|none=>none|some x0=>some (((IntKind.wrap .i64 x0),((IntKind.wrap .i64 (IntKind.wrap .u16 a0)),())),())
def ATs[Lk]:=fun v=>Lk.f (Zp v)
theorem ATr v:ATs v=Zp v:=AJ _
abbrev WK:AE:=[(.tmp 0,.dat V1)]
abbrev WJ:AE:=[(.tmp 0,.own 4 .bool)]
abbrev WI:List RS:=[.one]
abbrev AEt:AE:=[(.tmp 0,.dat V1),(.tmp 3,.own 4 .bool),(.tmp 9,.dat V1),(.tmp 10,.di),(.tmp 11,.di)]
abbrev AEs:Ao:=[(.exit 0,[(.tmp 3,.own 4 .bool)])]
def ES[Lk]:(List Int×List Bool×List Int×Int×Int×Unit)→Option ((List Int×List Bool×List Int×Int×Int×Unit)⊕(List Bool×Unit)⊕Unit):=fun(a0,a1,a2,a3,a4,_)=>
 match(ilt a4 a3)with
 |true=>match idx a2 a4 with|none=>none|some x0=>match(ieq a4 0)with
  |true=>match idx a1 a4 with|none=>none|some x1=>some (.inl (a0,(Az a1 (AN a4) true),a2,a3,(IntKind.wrap .i64 (a4+1)),()))
  |false=>match idx a0 (IntKind.wrap .i64 (a4-1))with|none=>none|some x2=>match idx a1 a4 with|none=>none|some x3=>some (.inl (a0,(Az a1 (AN a4) (!(ieq x2 x0))),a2,a3,(IntKind.wrap .i64 (a4+1)),()))
 |false=>some (.inr (.inl (a1,())))
def N8[Lk]:Up→Option ((List Bool×Unit)):=fun(a0,_)=>
 match(CM (AM a0)&&CM (AM a0)&&ile (AM a0) (AM a0)&&true)with
 |true=>match AU ES many (a0,(D4 (AN (AM a0)) false),a0,(AM a0),(0:Int),())with|none=>none|some r=>match r with
  |.inl (o0,_)=>some (o0,())
  |.inr _=>none
 |false=>none
def Rw[Lk]:=fun v=>Lk.f (N8 v)
theorem AEu v:Rw v=N8 v:=AJ _
abbrev T1:AE:=[(.tmp 0,.di)]
abbrev Tz:AE:=[(.tmp 0,.di)]
abbrev Tx:List RS:=[.one]
def Je[Lk]:Ub→Option (Ub):=fun(a0,_)=>
 match(ilt a0 1)with
 |true=>some (0,())
 |false=>match(ilt 16 a0)with
 |true=>some (0,())
 |false=>match quo? .i64 (IntKind.wrap .i64 ((IntKind.wrap .i64 (32+a0))-1)) a0 with|none=>none|some x0=>some (x0,())
def KV[Lk]:=fun v=>Lk.f (Je v)
theorem PU v:KV v=Je v:=AJ _
abbrev ABX:AE:=[(.tmp 0,.di),(.tmp 1,.di)]
abbrev ABW:AE:=[(.tmp 0,.dat .bool)]
abbrev ABV:List RS:=[.one]
def Qz[Lk]:U1→Option (Uf):=fun(a0,a1,_)=>
 match(ile 0 a0)with
 |true=>match KV (a1,())with|none=>none|some (y0,_)=>some ((ilt a0 y0),())
 |false=>some (false,())
def ABY[Lk]:=fun v=>Lk.f (Qz v)
theorem AIW v:ABY v=Qz v:=AJ _
abbrev AB2:AE:=[(.tmp 0,.dat Ug),(.tmp 1,.di),(.tmp 2,.di)]
abbrev AB1:AE:=[(.tmp 0,.dat Ug)]
abbrev AB0:List RS:=[.one]
def Q8[Lk]:Ua→Option (Ub):=fun(a0,a1,a2,_)=>
 match ABY (a1,a2,())with|none=>none|some (y0,_)=>match(!y0)with
 |true=>some (0,())
 |false=>match shr? .u32 a0 (IntKind.wrap .u64 (IntKind.wrap .i64 (a1*a2)))with|none=>none|some x1=>match shl? .u32 1 (IntKind.wrap .u64 a2)with|none=>none|some x2=>some ((IntKind.wrap .u32 ((BitVec.ofInt (IntKind.bits .u32) x1 &&& BitVec.ofInt (IntKind.bits .u32) (IntKind.wrap .u32 (x2-1))).toNat)),())
def PW[Lk]:=fun v=>Lk.f (Q8 v)
theorem AIc v:PW v=Q8 v:=AJ _
abbrev ALn:AE:=[(.tmp 0,.dat U7),(.tmp 1,.di)]
abbrev ALm:AE:=[(.tmp 0,.dat .bool)]
abbrev ALl:List RS:=[.one]
abbrev AQs:AE:=[(.tmp 0,.dat U7),(.tmp 1,.di),(.tmp 5,.map U0 U0),(.tmp 9,.dat U7),(.tmp 10,.di),(.tmp 11,.di)]
abbrev AQr:Ao:=[(.ret,[(.tmp 4,.dat .bool)]),(.exit 0,[(.tmp 0,.dat U7),(.tmp 1,.di)])]
def Hd[Lk]:(List Int×Int×List Uz×List Int×Int×Int×Unit)→Option ((List Int×Int×List Uz×List Int×Int×Int×Unit)⊕Uf⊕Vf⊕Unit):=fun(a0,a1,a2,a3,a4,a5,_)=>
 match(ilt a5 a4)with
 |true=>match idx a3 a5 with|none=>none|some x0=>match(ilt x0 0)with
  |true=>some (.inr (.inl (false,())))
  |false=>match(ile a1 x0)with
  |true=>some (.inr (.inl (false,())))
  |false=>match(ilt 1 ((AR (Ad a2 x0 (IntKind.wrap .i64 (((AR a2 x0).getD 0)+1))) x0).getD 0))with
  |true=>some (.inr (.inl (false,())))
  |false=>some (.inl (a0,a1,(Ad a2 x0 (IntKind.wrap .i64 (((AR a2 x0).getD 0)+1))),a3,a4,(IntKind.wrap .i64 (a5+1)),()))
 |false=>some (.inr (.inr (.inl (a0,a1,()))))
def Za[Lk]:Vf→Option (Uf):=fun(a0,a1,_)=>
 match AU Hd many (a0,a1,([]:List Uz),a0,(AM a0),0,())with|none=>none|some r=>match r with
 |.inl (o0,_)=>some (o0,())
 |.inr r=>match r with
 |.inl (o1,o2,_)=>some ((ieq (AM o1) o2),())
 |.inr _=>none
def AQu[Lk]:=fun v=>Lk.f (Za v)
theorem AQt v:AQu v=Za v:=AJ _
abbrev AiJ:AE:=[(.tmp 0,.dat V1),(.tmp 1,.dat U7),(.tmp 2,.di),(.tmp 3,.di)]
abbrev AiF:AE:=[(.tmp 0,.own 3 U0)]
abbrev AiB:List RS:=[.one]
abbrev AiG:AE:=[(.tmp 0,.dat V1),(.tmp 2,.di),(.tmp 3,.di),(.tmp 9,.own 3 U0),(.tmp 13,.own 3 U0),(.tmp 63,.dat U7),(.tmp 64,.di),(.tmp 65,.di)]
abbrev AiC:Ao:=[(.exit 4,[(.tmp 13,.own 3 U0)])]
def PX[Lk]:(List Int×Int×Int×List Int×List Int×List Int×Int×Int×Unit)→Option ((List Int×Int×Int×List Int×List Int×List Int×Int×Int×Unit)⊕Up⊕Unit):=fun(a0,a1,a2,a3,a4,a5,a6,a7,_)=>
 match(ilt a7 a6)with
 |true=>match idx a5 a7 with|none=>none|some x0=>match idx a0 x0 with|none=>none|some x1=>match PW (x1,a1,a2,())with|none=>none|some (y2,_)=>match idx a3 y2 with|none=>none|some x3=>match idx a4 (AY a3 (AN y2) 0)with|none=>none|some x4=>match idx a3 y2 with|none=>none|some x5=>match idx a3 y2 with|none=>none|some x6=>some (.inl (a0,a1,a2,(Az a3 (AN y2) (IntKind.wrap .i64 ((AY a3 (AN y2) 0)+1))),(Az a4 (AN (AY a3 (AN y2) 0)) x0),a5,a6,(IntKind.wrap .i64 (a7+1)),()))
 |false=>some (.inr (.inl (a4,())))
abbrev AiH:AE:=[(.tmp 0,.dat V1),(.tmp 1,.dat U7),(.tmp 2,.di),(.tmp 3,.di),(.tmp 9,.own 3 U0),(.tmp 44,.di),(.tmp 45,.di)]
abbrev AiD:Ao:=[(.exit 2,[(.tmp 0,.dat V1),(.tmp 1,.dat U7),(.tmp 2,.di),(.tmp 3,.di),(.tmp 9,.own 3 U0)])]
def PY[Lk]:(List Int×List Int×Int×Int×List Int×Int×Int×Unit)→Option ((List Int×List Int×Int×Int×List Int×Int×Int×Unit)⊕(List Int×List Int×Int×Int×List Int×Unit)⊕Unit):=fun(a0,a1,a2,a3,a4,a5,a6,_)=>
 match(ilt a6 a5)with
 |true=>match idx a4 (IntKind.wrap .i64 (a6+1))with|none=>none|some x0=>match idx a4 a6 with|none=>none|some x1=>match idx a4 (IntKind.wrap .i64 (a6+1))with|none=>none|some x2=>some (.inl (a0,a1,a2,a3,(Az a4 (AN (IntKind.wrap .i64 (a6+1))) (IntKind.wrap .i64 ((AY a4 (AN (IntKind.wrap .i64 (a6+1))) 0)+(AY a4 (AN a6) 0)))),a5,(IntKind.wrap .i64 (a6+1)),()))
 |false=>some (.inr (.inl (a0,a1,a2,a3,a4,())))
abbrev AiI:AE:=[(.tmp 0,.dat V1),(.tmp 1,.dat U7),(.tmp 2,.di),(.tmp 3,.di),(.tmp 9,.own 3 U0),(.tmp 22,.dat U7),(.tmp 23,.di),(.tmp 24,.di)]
abbrev AiE:Ao:=[(.exit 0,[(.tmp 0,.dat V1),(.tmp 1,.dat U7),(.tmp 2,.di),(.tmp 3,.di),(.tmp 9,.own 3 U0)])]
def PZ[Lk]:V7→Option (V7⊕(List Int×List Int×Int×Int×List Int×Unit)⊕Unit):=fun(a0,a1,a2,a3,a4,a5,a6,a7,_)=>
 match(ilt a7 a6)with
 |true=>match idx a5 a7 with|none=>none|some x0=>match idx a0 x0 with|none=>none|some x1=>match PW (x1,a2,a3,())with|none=>none|some (y2,_)=>match idx a4 (IntKind.wrap .u32 (y2+1))with|none=>none|some x3=>match idx a4 (IntKind.wrap .u32 (y2+1))with|none=>none|some x4=>some (.inl (a0,a1,a2,a3,(Az a4 (AN (IntKind.wrap .u32 (y2+1))) (IntKind.wrap .i64 ((AY a4 (AN (IntKind.wrap .u32 (y2+1))) 0)+1))),a5,a6,(IntKind.wrap .i64 (a7+1)),()))
 |false=>some (.inr (.inl (a0,a1,a2,a3,a4,())))
def Aau[Lk]:(List Int×List Int×Int×Int×Unit)→Option (Up):=fun(a0,a1,a2,a3,_)=>
 match shl? .i64 1 (IntKind.wrap .u64 a3)with|none=>none|some x0=>match(CM (IntKind.wrap .i64 (x0+1))&&CM (IntKind.wrap .i64 (x0+1))&&ile (IntKind.wrap .i64 (x0+1)) (IntKind.wrap .i64 (x0+1))&&true)with
 |true=>match AU PZ many (a0,a1,a2,a3,(D4 (AN (IntKind.wrap .i64 (x0+(1:Int)))) (0:Int)),a1,(AM a1),(0:Int),())with|none=>none|some r=>match r with
  |.inl (o1,o2,o3,o4,o5,_)=>match AU PY many (o1,o2,o3,o4,o5,(IntKind.wrap .i64 ((AM o5)-1)),0,())with|none=>none|some r=>match r with
   |.inl (o6,o7,o8,o9,o10,_)=>match(CM (AM o7)&&CM (AM o7)&&ile (AM o7) (AM o7)&&true)with
    |true=>match AU PX many (o6,o8,o9,o10,(D4 (AN (AM o7)) (0:Int)),o7,(AM o7),(0:Int),())with|none=>none|some r=>match r with
     |.inl (o11,_)=>some (o11,())
     |.inr _=>none
    |false=>none
   |.inr _=>none
  |.inr _=>none
 |false=>none
def rby[Lk]:=fun v=>Lk.f (Aau v)
theorem AiK v:rby v=Aau v:=AJ _
abbrev ML:AE:=[(.tmp 0,.di),(.tmp 1,.di)]
abbrev MK:AE:=[(.tmp 0,.dat .bool)]
abbrev MJ:List RS:=[.one]
def IS[Lk]:U1→Option (Uf):=fun(a0,a1,_)=>
 match(ile 1 a0)with
 |true=>match(ile a0 1000)with
  |true=>match(ile 1 a1)with
   |true=>some ((ile a1 100),())
   |false=>some (false,())
  |false=>some (false,())
 |false=>some (false,())
def HK[Lk]:=fun v=>Lk.f (IS v)
theorem Qo v:HK v=IS v:=AJ _
abbrev TU:AE:=[(.tmp 0,.dat Uo)]
abbrev TT:AE:=[(.tmp 0,.dat .bool)]
abbrev TS:List RS:=[.one]
abbrev AAj:AE:=[(.tmp 1,.box 3),(.cell 0 0,.dat Uc),(.cell 0 1,.di),(.cell 0 2,.dat Uw),(.tmp 25,.dat Uc),(.tmp 26,.di),(.tmp 27,.di)]
abbrev AAi:Ao:=[(.ret,[(.tmp 2,.dat .bool)]),(.exit 0,[])]
def EF[Lk]:(List U6×Int×List Bool×List U6×Int×Int×Unit)→Option ((List U6×Int×List Bool×List U6×Int×Int×Unit)⊕Uf⊕(Unit)⊕Unit):=fun(a0,a1,a2,a3,a4,a5,_)=>
 match(ilt a5 a4)with
 |true=>match idx a3 a5 with|none=>none|some x0=>match(ilt x0.1 0)with
  |true=>some (.inr (.inl (false,())))
  |false=>match(ile x0.2.1 x0.1)with
  |true=>some (.inr (.inl (false,())))
  |false=>match(ilt (AM a2) x0.2.1)with
  |true=>some (.inr (.inl (false,())))
  |false=>match(ilt x0.2.2.1 (-1:Int))with
  |true=>some (.inr (.inl (false,())))
  |false=>match(ile a5 x0.2.2.1)with
  |true=>some (.inr (.inl (false,())))
  |false=>match(ilt x0.2.2.2.1 0)with
  |true=>some (.inr (.inl (false,())))
  |false=>match(ilt 2 x0.2.2.2.1)with
  |true=>some (.inr (.inl (false,())))
  |false=>some (.inl (a0,a1,a2,a3,a4,(IntKind.wrap .i64 (a5+1)),()))
 |false=>some (.inr (.inr (.inl ())))
def Ng[Lk]:(((List U6)×Int×(List Bool)×Unit)×Unit)→Option (Uf):=fun(a0,_)=>
 match HK ((AM a0.2.2.1),a0.2.1,())with|none=>none|some (y0,_)=>match(!y0)with
 |true=>some (false,())
 |false=>match(ieq (AM a0.1) 0)with
 |true=>some (false,())
 |false=>match(ilt 2000 (AM a0.1))with
 |true=>some (false,())
 |false=>match AU EF many (a0.1,a0.2.1,a0.2.2.1,a0.1,(AM a0.1),0,())with|none=>none|some r=>match r with
 |.inl (o1,_)=>some (o1,())
 |.inr r=>match r with
 |.inl _=>some (true,())
 |.inr _=>none
def Nh[Lk]:=fun v=>Lk.f (Ng v)
theorem AAk v:Nh v=Ng v:=AJ _
abbrev TR:AE:=[(.tmp 0,.dat Uo),(.tmp 1,.di)]
abbrev TQ:AE:=[(.tmp 0,.di)]
abbrev TP:List RS:=[.one]
def Nf[Lk]:(((List U6)×Int×(List Bool)×Unit)×Int×Unit)→Option (Ub):=fun(a0,a1,_)=>
 match Nh ((a0.1,(a0.2.1,(a0.2.2.1,()))),())with|none=>none|some (y0,_)=>match(!y0)with
 |true=>some (1,())
 |false=>match(ilt a1 0)with
 |true=>some (6,())
 |false=>match(ile (AM a0.1) a1)with
 |true=>some (6,())
 |false=>some (0,())
def KR[Lk]:=fun v=>Lk.f (Nf v)
theorem AAh v:KR v=Nf v:=AJ _
abbrev TO:AE:=[(.tmp 0,.dat Vi)]
abbrev TN:AE:=[(.tmp 0,.di)]
abbrev TM:List RS:=[.one]
def Nd[Lk]:(U6×Unit)→Option (Ub):=fun(a0,_)=>
 some ((IntKind.wrap .i64 (a0.2.1-a0.1)),())
def IQ[Lk]:=fun v=>Lk.f (Nd v)
theorem AAg v:IQ v=Nd v:=AJ _
abbrev TY:AE:=[(.tmp 0,.dat Uo),(.tmp 1,.di)]
abbrev TX:AE:=[(.tmp 0,.dat .bool)]
abbrev TW:List RS:=[.one]
def Ni[Lk]:(((List U6)×Int×(List Bool)×Unit)×Int×Unit)→Option (Uf):=fun(a0,a1,_)=>
 match KR ((a0.1,(a0.2.1,(a0.2.2.1,()))),a1,())with|none=>none|some (y0,_)=>match(ieq y0 0)with
 |true=>match idx a0.1 a1 with|none=>none|some x1=>match IQ ((x1.1,(x1.2.1,(x1.2.2.1,(x1.2.2.2.1,())))),())with|none=>none|some (y2,_)=>some ((ilt a0.2.1 y2),())
 |false=>some (false,())
def Nj[Lk]:=fun v=>Lk.f (Ni v)
theorem AAp v:Nj v=Ni v:=AJ _
abbrev Tb:AE:=[(.tmp 0,.di),(.tmp 1,.di)]
abbrev Ta:AE:=[(.tmp 0,.own 199 Vi),(.tmp 1,.di),(.tmp 2,.own 4 .bool),(.tmp 3,.di)]
abbrev TZ:List RS:=[.agg 3,.one]
def Nk[Lk]:U1→Option ((List U6×Int×List Bool×Int×Unit)):=fun(a0,a1,_)=>
 match HK (a0,a1,())with|none=>none|some (y0,_)=>match(!y0)with
 |true=>some (([]:List U6),0,([]:List (Bool)),1,())
 |false=>match(CM a0&&CM a0&&ile a0 a0&&true)with
 |true=>some (([((0:Int),(a0,((-1:Int),((0:Int),()))))]:List U6),a1,(D4 (AN a0) false),(0:Int),())
 |false=>none
def Qp[Lk]:=fun v=>Lk.f (Nk v)
theorem AAs v:Qp v=Nk v:=AJ _
abbrev AAn:AE:=[(.tmp 0,.dat Uo),(.tmp 1,.di)]
abbrev AAm:AE:=[(.tmp 0,.dat Uc),(.tmp 1,.di),(.tmp 2,.dat Uw),(.tmp 3,.di),(.tmp 4,.di),(.tmp 5,.di)]
abbrev AAl:List RS:=[.agg 3,.one,.one,.one]
def Qn[Lk]:(((List U6)×Int×(List Bool)×Unit)×Int×Unit)→Option ((List U6×Int×List Bool×Int×Int×Int×Unit)):=fun(a0,a1,_)=>
 match KR ((a0.1,(a0.2.1,(a0.2.2.1,()))),a1,())with|none=>none|some (y0,_)=>match(!(ieq y0 0))with
 |true=>some (a0.1,a0.2.1,a0.2.2.1,0,0,y0,())
 |false=>match idx a0.1 a1 with|none=>none|some x1=>match IQ ((x1.1,(x1.2.1,(x1.2.2.1,(x1.2.2.2.1,())))),())with|none=>none|some (y2,_)=>match(ile y2 a0.2.1)with
 |true=>some (a0.1,a0.2.1,a0.2.2.1,0,0,5,())
 |false=>match(ilt 0 x1.2.2.2.1)with
 |true=>some (a0.1,a0.2.1,a0.2.2.1,0,0,5,())
 |false=>match(ilt 2000 (IntKind.wrap .i64 ((AM a0.1)+2)))with
 |true=>some (a0.1,a0.2.1,a0.2.2.1,0,0,2,())
 |false=>match IQ ((x1.1,(x1.2.1,(x1.2.2.1,(x1.2.2.2.1,())))),())with|none=>none|some (y3,_)=>match quo? .i64 y3 2 with|none=>none|some x4=>match QI a0.1 with|none=>none|some x5=>match(fits ((AM x5)+(AM ([(x1.1,((IntKind.wrap .i64 (x1.1+x4)),(a1,(0,())))),((IntKind.wrap .i64 (x1.1+x4)),(x1.2.1,(a1,(0,()))))]:List U6))))with
 |true=>match idx (BT x5 ([(x1.1,((IntKind.wrap .i64 (x1.1+x4)),(a1,(0,())))),((IntKind.wrap .i64 (x1.1+x4)),(x1.2.1,(a1,(0,()))))]:List U6)) a1 with|none=>none|some x6=>some ((Az (BT x5 ([(x1.1,((IntKind.wrap .i64 (x1.1+x4)),(a1,(0,())))),((IntKind.wrap .i64 (x1.1+x4)),(x1.2.1,(a1,(0,()))))]:List U6)) (AN a1) ((AY (BT x5 ([(x1.1,((IntKind.wrap .i64 (x1.1+x4)),(a1,(0,())))),((IntKind.wrap .i64 (x1.1+x4)),(x1.2.1,(a1,(0,()))))]:List U6)) (AN a1) (0,(0,(0,(0,()))))).1,((AY (BT x5 ([(x1.1,((IntKind.wrap .i64 (x1.1+x4)),(a1,(0,())))),((IntKind.wrap .i64 (x1.1+x4)),(x1.2.1,(a1,(0,()))))]:List U6)) (AN a1) (0,(0,(0,(0,()))))).2.1,((AY (BT x5 ([(x1.1,((IntKind.wrap .i64 (x1.1+x4)),(a1,(0,())))),((IntKind.wrap .i64 (x1.1+x4)),(x1.2.1,(a1,(0,()))))]:List U6)) (AN a1) (0,(0,(0,(0,()))))).2.2.1,(2,()))))),a0.2.1,a0.2.2.1,(AM a0.1),(IntKind.wrap .i64 ((AM a0.1)+1)),0,())
 |false=>none
def AAo[Lk]:=fun v=>Lk.f (Qn v)
theorem AIA v:AAo v=Qn v:=AJ _
abbrev PG:AE:=[(.tmp 0,.own 199 Vi),(.tmp 1,.di)]
abbrev PF:AE:=[(.obj 0,.own 199 Vi),(.tmp 0,.dat .bool)]
abbrev PE:List RS:=[.one]
abbrev XV:AE:=[(.obj 0,.own 199 Vi),(.tmp 0,.own' 0),(.tmp 1,.di)]
abbrev XU:Ao:=[(.ret,[(.obj 0,.own 199 Vi),(.tmp 4,.dat .bool)]),(.exit 0,[(.obj 0,.own 199 Vi)])]
def DL[Lk]:(List U6×Int×Unit)→Option ((List U6×Int×Unit)⊕(List U6×Bool×Unit)⊕(List U6×Unit)⊕Unit):=fun(a0,a1,_)=>
 match(!(ieq a1 (-1:Int)))with
 |true=>match idx a0 a1 with|none=>none|some x0=>match(ieq (AY a0 (AN a1) (0,(0,(0,(0,()))))).2.2.2.1 0)with
  |true=>some (.inr (.inl (a0,false,())))
  |false=>match(ilt 0 (AY (Az a0 (AN a1) ((AY a0 (AN a1) (0,(0,(0,(0,()))))).1,((AY a0 (AN a1) (0,(0,(0,(0,()))))).2.1,((AY a0 (AN a1) (0,(0,(0,(0,()))))).2.2.1,((IntKind.wrap .i64 ((AY a0 (AN a1) (0,(0,(0,(0,()))))).2.2.2.1-1)),()))))) (AN a1) (0,(0,(0,(0,()))))).2.2.2.1)with
  |true=>some (.inr (.inl ((Az a0 (AN a1) ((AY a0 (AN a1) (0,(0,(0,(0,()))))).1,((AY a0 (AN a1) (0,(0,(0,(0,()))))).2.1,((AY a0 (AN a1) (0,(0,(0,(0,()))))).2.2.1,((IntKind.wrap .i64 ((AY a0 (AN a1) (0,(0,(0,(0,()))))).2.2.2.1-1)),()))))),false,())))
  |false=>some (.inl ((Az a0 (AN a1) ((AY a0 (AN a1) (0,(0,(0,(0,()))))).1,((AY a0 (AN a1) (0,(0,(0,(0,()))))).2.1,((AY a0 (AN a1) (0,(0,(0,(0,()))))).2.2.1,((IntKind.wrap .i64 ((AY a0 (AN a1) (0,(0,(0,(0,()))))).2.2.2.1-1)),()))))),(AY (Az a0 (AN a1) ((AY a0 (AN a1) (0,(0,(0,(0,()))))).1,((AY a0 (AN a1) (0,(0,(0,(0,()))))).2.1,((AY a0 (AN a1) (0,(0,(0,(0,()))))).2.2.1,((IntKind.wrap .i64 ((AY a0 (AN a1) (0,(0,(0,(0,()))))).2.2.2.1-1)),()))))) (AN a1) (0,(0,(0,(0,()))))).2.2.1,()))
 |false=>some (.inr (.inr (.inl (a0,()))))
def KS[Lk]:(List U6×Int×Unit)→Option ((List U6×Bool×Unit)):=fun(a0,a1,_)=>
 match AU DL many (a0,a1,())with|none=>none|some r=>match r with
 |.inl (o0,o1,_)=>some (o0,o1,())
 |.inr r=>match r with
 |.inl (o2,_)=>some (o2,true,())
 |.inr _=>none
def MH[Lk]:=fun v=>Lk.f (KS v)
theorem XW v:MH v=KS v:=AJ _
abbrev AVd:AE:=[(.tmp 0,.dat Uo),(.tmp 1,.di)]
abbrev AVc:AE:=[(.tmp 0,.dat Uc),(.tmp 1,.di),(.tmp 2,.dat Uw),(.tmp 3,.dat .bool),(.tmp 4,.di)]
abbrev AVb:List RS:=[.agg 3,.one,.one]
abbrev Aab:AE:=[(.tmp 2,.box 3),(.cell 0 0,.own 199 Vi),(.cell 0 1,.di),(.cell 0 2,.own 4 .bool),(.tmp 4,.box 3),(.cell 3 0,.nil Vi),(.cell 3 1,.di),(.cell 3 2,.nil .bool),(.tmp 8,.box 4),(.cell 4 0,.di),(.cell 4 1,.di),(.cell 4 2,.di),(.cell 4 3,.di),(.tmp 9,.di)]
abbrev Aaa:Ao:=[(.exit 0,[(.tmp 2,.box 3),(.cell 0 0,.own 199 Vi),(.cell 0 1,.di),(.cell 0 2,.own 4 .bool),(.tmp 4,.box 3),(.cell 3 0,.nil Vi),(.cell 3 1,.di),(.cell 3 2,.nil .bool),(.tmp 8,.box 4),(.cell 4 0,.di),(.cell 4 1,.di),(.cell 4 2,.di),(.cell 4 3,.di)])]
def KT[Lk]:(List U6×Int×List Bool×Int×Int×Int×Int×Int×Int×Unit)→Option ((List U6×Int×List Bool×Int×Int×Int×Int×Int×Int×Unit)⊕(List U6×Int×List Bool×Int×Int×Int×Int×Int×Unit)⊕Unit):=fun(a0,a1,a2,a3,a4,a5,a6,a7,a8,_)=>
 match(ilt a8 a5)with
 |true=>match idx a2 a8 with|none=>none|some x0=>some (.inl (a0,a1,(Az a2 (AN a8) true),a3,a4,a5,a6,a7,(IntKind.wrap .i64 (a8+1)),()))
 |false=>some (.inr (.inl (a0,a1,a2,a3,a4,a5,a6,a7,())))
def AK2[Lk]:(((List U6)×Int×(List Bool)×Unit)×Int×Unit)→Option ((List U6×Int×List Bool×Bool×Int×Unit)):=fun(a0,a1,_)=>
 match KR ((a0.1,(a0.2.1,(a0.2.2.1,()))),a1,())with|none=>none|some (y0,_)=>match(!(ieq y0 0))with
 |true=>some (a0.1,a0.2.1,a0.2.2.1,false,y0,())
 |false=>match idx a0.1 a1 with|none=>none|some x1=>match IQ ((x1.1,(x1.2.1,(x1.2.2.1,(x1.2.2.2.1,())))),())with|none=>none|some (y2,_)=>match(ilt a0.2.1 y2)with
 |true=>some (a0.1,a0.2.1,a0.2.2.1,false,5,())
 |false=>match(ilt 0 x1.2.2.2.1)with
 |true=>some (a0.1,a0.2.1,a0.2.2.1,false,5,())
 |false=>match idx a0.2.2.1 x1.1 with|none=>none|some x3=>match x3 with
 |true=>some (a0.1,a0.2.1,a0.2.2.1,false,5,())
 |false=>match QI a0.1 with|none=>none|some x4=>match QI a0.2.2.1 with|none=>none|some x5=>match AU KT many (x4,a0.2.1,x5,0,x1.1,x1.2.1,x1.2.2.1,x1.2.2.2.1,x1.1,())with|none=>none|some r=>match r with
 |.inl (o6,o7,o8,o9,o10,o11,o12,o13,_)=>match MH (o6,o12,())with|none=>none|some (y14,y15,_)=>some (y14,o7,o8,y15,0,())
 |.inr _=>none
def AhB[Lk]:=fun v=>Lk.f (AK2 v)
theorem Aac v:AhB v=AK2 v:=AJ _
abbrev QL:AE:=[(.tmp 0,.di)]
abbrev QK:AE:=[(.tmp 0,.dat .bool)]
abbrev QJ:List RS:=[.one]
def LQ[Lk]:Ub→Option (Uf):=fun(a0,_)=>
 match(ile 0 a0)with
 |true=>some ((ile a0 100000),())
 |false=>some (false,())
def J8[Lk]:=fun v=>Lk.f (LQ v)
theorem YR v:J8 v=LQ v:=AJ _
abbrev AFP:AE:=[(.tmp 0,.dat Uo),(.tmp 1,.di)]
abbrev AFO:AE:=[(.tmp 0,.dat .bool)]
abbrev AFN:List RS:=[.one]
def SA[Lk]:(((List U6)×Int×(List Bool)×Unit)×Int×Unit)→Option (Uf):=fun(a0,a1,_)=>
 match(ile 0 a1)with
 |true=>match(ilt a1 (AM a0.1))with
  |true=>match idx a0.1 a1 with|none=>none|some x0=>match(ieq x0.2.2.2.1 0)with
   |true=>match Nj ((a0.1,(a0.2.1,(a0.2.2.1,()))),a1,())with|none=>none|some (y1,_)=>match y1 with
    |true=>some (true,())
    |false=>match idx a0.1 a1 with|none=>none|some x2=>match idx a0.2.2.1 x2.1 with|none=>none|some x3=>some ((!x3),())
   |false=>some (false,())
  |false=>some (false,())
 |false=>some (false,())
def AFQ[Lk]:=fun v=>Lk.f (SA v)
theorem AJo v:AFQ v=SA v:=AJ _
abbrev AE4:AE:=[(.tmp 0,.dat Vh)]
abbrev AE3:AE:=[(.tmp 0,.dat .bool)]
abbrev AE2:List RS:=[.one]
abbrev AJk:AE:=[(.tmp 1,.box 7),(.cell 0 0,.dat Uc),(.cell 0 1,.di),(.cell 0 2,.dat Uw),(.cell 0 3,.dat Uj),(.cell 0 4,.dat .bool),(.cell 0 5,.di),(.cell 0 6,.di),(.tmp 3,.map U0 U0),(.tmp 38,.dat Uj),(.tmp 39,.di),(.tmp 40,.di),(.tmp 44,.dat U7),(.tmp 45,.di),(.tmp 46,.di)]
abbrev AJi:Ao:=[(.ret,[(.tmp 2,.dat .bool)]),(.exit 2,[(.tmp 1,.box 7),(.cell 0 0,.dat Uc),(.cell 0 1,.di),(.cell 0 2,.dat Uw),(.cell 0 3,.dat Uj),(.cell 0 4,.dat .bool),(.cell 0 5,.di),(.cell 0 6,.di),(.tmp 3,.map U0 U0),(.tmp 38,.dat Uj),(.tmp 39,.di),(.tmp 40,.di)])]
def Ek[Lk]:Vk→Option (Vk⊕Uf⊕V9⊕Unit):=fun(a0,a1,a2,a3,a4,a5,a6,a7,a8,a9,a10,a11,a12,a13,_)=>
 match(ilt a13 a12)with
 |true=>match idx a11 a13 with|none=>none|some x0=>match(ilt 1 ((AR (Ad a7 x0 (IntKind.wrap .i64 (((AR a7 x0).getD 0)+1))) x0).getD 0))with
  |true=>some (.inr (.inl (false,())))
  |false=>match AFQ ((a0,(a1,(a2,()))),x0,())with|none=>none|some (y1,_)=>match(!y1)with
  |true=>some (.inr (.inl (false,())))
  |false=>some (.inl (a0,a1,a2,a3,a4,a5,a6,(Ad a7 x0 (IntKind.wrap .i64 (((AR a7 x0).getD 0)+1))),a8,a9,a10,a11,a12,(IntKind.wrap .i64 (a13+1)),()))
 |false=>some (.inr (.inr (.inl (a0,a1,a2,a3,a4,a5,a6,a7,a8,a9,a10,()))))
abbrev AJl:AE:=[(.tmp 1,.box 7),(.cell 0 0,.dat Uc),(.cell 0 1,.di),(.cell 0 2,.dat Uw),(.cell 0 3,.dat Uj),(.cell 0 4,.dat .bool),(.cell 0 5,.di),(.cell 0 6,.di),(.tmp 3,.map U0 U0),(.tmp 38,.dat Uj),(.tmp 39,.di),(.tmp 40,.di)]
abbrev AJj:Ao:=[(.ret,[(.tmp 2,.dat .bool)]),(.exit 0,[])]
def F9[Lk]:V9→Option (V9⊕Uf⊕(Unit)⊕Unit):=fun(a0,a1,a2,a3,a4,a5,a6,a7,a8,a9,a10,_)=>
 match(ilt a10 a9)with
 |true=>match idx a8 a10 with|none=>none|some x0=>match AU Ek many (a0,a1,a2,a3,a4,a5,a6,a7,a8,a9,a10,x0,(AM x0),0,())with|none=>none|some r=>match r with
  |.inl (o1,_)=>some (.inr (.inl (o1,())))
  |.inr r=>match r with
  |.inl (o2,o3,o4,o5,o6,o7,o8,o9,o10,o11,o12,_)=>some (.inl (o2,o3,o4,o5,o6,o7,o8,o9,o10,o11,(IntKind.wrap .i64 (o12+1)),()))
  |.inr _=>none
 |false=>some (.inr (.inr (.inl ())))
def Ry[Lk]:((((List U6)×Int×(List Bool)×Unit)×(List U5)×Bool×Int×Int×Unit)×Unit)→Option (Uf):=fun(a0,_)=>
 match Nh ((a0.1.1,(a0.1.2.1,(a0.1.2.2.1,()))),())with|none=>none|some (y0,_)=>match(!y0)with
 |true=>some (false,())
 |false=>match(ieq (AM a0.2.1) 0)with
 |true=>some (false,())
 |false=>match(ilt 8 (AM a0.2.1))with
 |true=>some (false,())
 |false=>match J8 (a0.2.2.2.1,())with|none=>none|some (y1,_)=>match(!y1)with
 |true=>some (false,())
 |false=>match J8 (a0.2.2.2.2.1,())with|none=>none|some (y2,_)=>match(!y2)with
 |true=>some (false,())
 |false=>match AU F9 many (a0.1.1,a0.1.2.1,a0.1.2.2.1,a0.2.1,a0.2.2.1,a0.2.2.2.1,a0.2.2.2.2.1,([]:List Uz),a0.2.1,(AM a0.2.1),0,())with|none=>none|some r=>match r with
 |.inl (o3,_)=>some (o3,())
 |.inr r=>match r with
 |.inl _=>some (true,())
 |.inr _=>none
def AE5[Lk]:=fun v=>Lk.f (Ry v)
theorem AJm v:AE5 v=Ry v:=AJ _
abbrev AFY:AE:=[(.tmp 0,.di),(.tmp 1,.di),(.tmp 2,.di)]
abbrev AFX:AE:=[(.tmp 0,.own 199 Vi),(.tmp 1,.di),(.tmp 2,.own 4 .bool),(.tmp 3,.own 41 U7),(.tmp 4,.dat .bool),(.tmp 5,.di),(.tmp 6,.di),(.tmp 7,.di)]
abbrev AFW:List RS:=[.agg 7,.one]
def SC[Lk]:Ua→Option ((List U6×Int×List Bool×List U5×Bool×Int×Int×Int×Unit)):=fun(a0,a1,a2,_)=>
 match(ilt a2 1)with
 |true=>some (([]:List U6),0,([]:List (Bool)),([]:List U5),false,0,0,1,())
 |false=>match(ilt 8 a2)with
 |true=>some (([]:List U6),0,([]:List (Bool)),([]:List U5),false,0,0,1,())
 |false=>match Qp (a0,a1,())with|none=>none|some (y0,y1,y2,y3,_)=>match(!(ieq y3 0))with
 |true=>some (([]:List U6),0,([]:List (Bool)),([]:List U5),false,0,0,y3,())
 |false=>match(CM a2&&CM a2&&ile a2 a2&&true)with
 |true=>match idx (D4 (AN a2) ()) (0:Int)with|none=>none|some x4=>match(fits (AM ([0]:List (Int))))with
  |true=>match idx (D4 (AN a2) ()) (0:Int)with|none=>none|some x5=>some (y0,y1,y2,(Az (D4 (List.length (D4 (AN a2) ())) []) 0 ([(0:Int)]:List (Int))),false,(0:Int),(0:Int),(0:Int),())
  |false=>none
 |false=>none
def AFZ[Lk]:=fun v=>Lk.f (SC v)
theorem AJq v:AFZ v=SC v:=AJ _
abbrev AOV:AE:=[(.tmp 0,.dat Vh)]
abbrev AOU:AE:=[(.tmp 0,.di)]
abbrev AOT:List RS:=[.one]
abbrev AUM:AE:=[(.tmp 2,.di),(.tmp 6,.dat Uj),(.tmp 7,.di),(.tmp 8,.di)]
abbrev AUL:Ao:=[(.exit 0,[(.tmp 2,.di)])]
def Hy[Lk]:(Int×List U5×Int×Int×Unit)→Option ((Int×List U5×Int×Int×Unit)⊕Ub⊕Unit):=fun(a0,a1,a2,a3,_)=>
 match(ilt a3 a2)with
 |true=>match idx a1 a3 with|none=>none|some x0=>some (.inl ((IntKind.wrap .i64 (a0+(AM x0))),a1,a2,(IntKind.wrap .i64 (a3+1)),()))
 |false=>some (.inr (.inl (a0,())))
def Zr[Lk]:((((List U6)×Int×(List Bool)×Unit)×(List U5)×Bool×Int×Int×Unit)×Unit)→Option (Ub):=fun(a0,_)=>
 match AU Hy many (0,a0.2.1,(AM a0.2.1),0,())with|none=>none|some r=>match r with
 |.inl (o0,_)=>some (o0,())
 |.inr _=>none
def AUO[Lk]:=fun v=>Lk.f (Zr v)
theorem AUN v:AUO v=Zr v:=AJ _
abbrev Wc:AE:=[(.tmp 0,.box 11),(.cell 0 0,.dat Uc),(.cell 0 1,.di),(.cell 0 2,.dat Uw),(.cell 0 3,.own 41 U7),(.cell 0 4,.dat .bool),(.cell 0 5,.di),(.cell 0 6,.di),(.cell 0 7,.di),(.cell 0 8,.di),(.cell 0 9,.di),(.cell 0 10,.dat .bool),(.tmp 1,.di)]
abbrev Wb:AE:=[(.obj 0,.box 11),(.cell 0 0,.dat Uc),(.cell 0 1,.di),(.cell 0 2,.dat Uw),(.cell 0 3,.own 41 U7),(.cell 0 4,.dat .bool),(.cell 0 5,.di),(.cell 0 6,.di),(.cell 0 7,.di),(.cell 0 8,.di),(.cell 0 9,.di),(.cell 0 10,.dat .bool),(.obj 1,.own' 1),(.tmp 0,.di)]
abbrev Wa:List RS:=[.one]
def OA[Lk]:Ux→Option (Ux):=fun(a0,a1,a2,a3,a4,a5,a6,a7,a8,a9,a10,a11,_)=>
 match rem? a11 (AM a3)with|none=>none|some x0=>match rem? (IntKind.wrap .i64 (x0+(AM a3))) (AM a3)with|none=>none|some x1=>some (a0,a1,a2,a3,a4,a5,a6,a7,a8,a9,a10,x1,())
def OB[Lk]:=fun v=>Lk.f (OA v)
theorem AFG v:OB v=OA v:=AJ _
abbrev AFT:AE:=[(.tmp 0,.box 11),(.cell 0 0,.dat Uc),(.cell 0 1,.di),(.cell 0 2,.dat Uw),(.cell 0 3,.own 41 U7),(.cell 0 4,.dat .bool),(.cell 0 5,.di),(.cell 0 6,.di),(.cell 0 7,.di),(.cell 0 8,.di),(.cell 0 9,.di),(.cell 0 10,.dat .bool),(.tmp 1,.di),(.tmp 2,.di)]
abbrev AFS:AE:=[(.obj 0,.box 11),(.cell 0 0,.dat Uc),(.cell 0 1,.di),(.cell 0 2,.dat Uw),(.cell 0 3,.own 41 U7),(.cell 0 4,.dat .bool),(.cell 0 5,.di),(.cell 0 6,.di),(.cell 0 7,.di),(.cell 0 8,.di),(.cell 0 9,.di),(.cell 0 10,.dat .bool),(.obj 1,.own' 1),(.tmp 0,.dat .bool)]
abbrev AFR:List RS:=[.one]
def SB[Lk]:(List U6×Int×List Bool×List U5×Bool×Int×Int×Int×Int×Int×Bool×Int×Int×Unit)→Option ((List U6×Int×List Bool×List U5×Bool×Int×Int×Int×Int×Int×Bool×Bool×Unit)):=fun(a0,a1,a2,a3,a4,a5,a6,a7,a8,a9,a10,a11,a12,_)=>
 match idx a3 a11 with|none=>none|some x0=>match idx a3 a12 with|none=>none|some x1=>match(ile 0 (IntKind.wrap .i64 ((AM (AY a3 (AN a11) ([]:List (Int))))-1)))with
 |true=>match idx (AY a3 (AN a11) ([]:List (Int))) (IntKind.wrap .i64 ((AM (AY a3 (AN a11) ([]:List (Int))))-1))with|none=>none|some x2=>match(ieq (IntKind.wrap .i64 ((AM (AY a3 (AN a11) ([]:List (Int))))-1)) (IntKind.wrap .i64 ((AM (AY a3 (AN a11) ([]:List (Int))))-1)))with
  |true=>match EG (AY a3 (AN a11) ([]:List (Int))) 0 (IntKind.wrap .i64 ((AM (AY a3 (AN a11) ([]:List (Int))))-1))with|none=>none|some x3=>match idx a3 a11 with|none=>none|some x4=>some (a0,a1,a2,(Az a3 (AN a11) x3),a4,a5,a6,a7,a11,x2,a10,true,())
  |false=>none
 |false=>match(ilt 0 (AM (AY a3 (AN a12) ([]:List (Int)))))with
 |true=>match idx (AY a3 (AN a12) ([]:List (Int))) 0 with|none=>none|some x5=>match EG (AY a3 (AN a12) ([]:List (Int))) 1 (AM (AY a3 (AN a12) ([]:List (Int))))with|none=>none|some x6=>match idx a3 a12 with|none=>none|some x7=>some (a0,a1,a2,(Az a3 (AN a12) x6),a4,a5,a6,a7,a12,x5,a10,true,())
 |false=>some (a0,a1,a2,a3,a4,a5,a6,a7,a8,a9,a10,false,())
def AFU[Lk]:=fun v=>Lk.f (SB v)
theorem AJp v:AFU v=SB v:=AJ _
abbrev Akz:AE:=[(.tmp 0,.box 11),(.cell 0 0,.dat Uc),(.cell 0 1,.di),(.cell 0 2,.dat Uw),(.cell 0 3,.own 41 U7),(.cell 0 4,.dat .bool),(.cell 0 5,.di),(.cell 0 6,.di),(.cell 0 7,.di),(.cell 0 8,.di),(.cell 0 9,.di),(.cell 0 10,.dat .bool),(.tmp 1,.di)]
abbrev Aky:AE:=[(.obj 0,.box 11),(.cell 0 0,.dat Uc),(.cell 0 1,.di),(.cell 0 2,.dat Uw),(.cell 0 3,.own 41 U7),(.cell 0 4,.dat .bool),(.cell 0 5,.di),(.cell 0 6,.di),(.cell 0 7,.di),(.cell 0 8,.di),(.cell 0 9,.di),(.cell 0 10,.dat .bool),(.obj 1,.own' 1),(.tmp 0,.di)]
abbrev Akx:List RS:=[.one]
def Abw[Lk]:Ux→Option (Ux):=fun(a0,a1,a2,a3,a4,a5,a6,a7,a8,a9,a10,a11,_)=>
 match Nj ((a0,(a1,(a2,()))),a9,())with|none=>none|some (y0,_)=>match y0 with
 |true=>match AAo ((a0,(a1,(a2,()))),a9,())with|none=>none|some (y1,y2,y3,y4,y5,y6,_)=>match(ieq y6 0)with
  |true=>match idx a3 a11 with|none=>none|some x7=>match(fits ((AM (AY a3 (AN a11) ([]:List (Int))))+(AM ([y5,y4]:List (Int)))))with
   |true=>match idx a3 a11 with|none=>none|some x8=>some (y1,y2,y3,(Az a3 (AN a11) (BT (AY a3 (AN a11) ([]:List (Int))) ([y5,y4]:List (Int)))),a4,a5,a6,a7,a8,a9,true,y6,())
   |false=>none
  |false=>some (y1,y2,y3,a3,a4,a5,a6,a7,a8,a9,a10,y6,())
 |false=>match AhB ((a0,(a1,(a2,()))),a9,())with|none=>none|some (y9,y10,y11,y12,y13,_)=>match a4 with
 |true=>some (y9,y10,y11,a3,true,a5,a6,a7,a8,a9,a10,y13,())
 |false=>some (y9,y10,y11,a3,y12,a5,a6,a7,a8,a9,a10,y13,())
def cgo[Lk]:=fun v=>Lk.f (Abw v)
theorem Ak0 v:cgo v=Abw v:=AJ _
abbrev AN6:AE:=[(.tmp 0,.dat Vh),(.tmp 1,.di),(.tmp 2,.di)]
abbrev AN5:AE:=[(.tmp 0,.dat Uc),(.tmp 1,.di),(.tmp 2,.dat Uw),(.tmp 3,.dat Uj),(.tmp 4,.dat .bool),(.tmp 5,.di),(.tmp 6,.di),(.tmp 7,.dat U4),(.tmp 8,.di)]
abbrev AN4:List RS:=[.agg 7,.one,.one]
def Zq[Lk]:((((List U6)×Int×(List Bool)×Unit)×(List U5)×Bool×Int×Int×Unit)×Int×Int×Unit)→Option ((List U6×Int×List Bool×List U5×Bool×Int×Int×U3×Int×Unit)):=fun(a0,a1,a2,_)=>
 match AE5 (((a0.1.1,(a0.1.2.1,(a0.1.2.2.1,()))),(a0.2.1,(a0.2.2.1,(a0.2.2.2.1,(a0.2.2.2.2.1,()))))),())with|none=>none|some (y0,_)=>match(!y0)with
 |true=>some (a0.1.1,a0.1.2.1,a0.1.2.2.1,a0.2.1,a0.2.2.1,a0.2.2.2.1,a0.2.2.2.2.1,(0,(0,(0,(false,())))),1,())
 |false=>match(ieq a0.2.2.2.1 100000)with
 |true=>some (a0.1.1,a0.1.2.1,a0.1.2.2.1,a0.2.1,a0.2.2.1,a0.2.2.2.1,a0.2.2.2.2.1,(0,(0,(0,(false,())))),2,())
 |false=>match QI a0.2.1 with|none=>none|some x1=>match OB (a0.1.1,a0.1.2.1,a0.1.2.2.1,x1,a0.2.2.1,a0.2.2.2.1,a0.2.2.2.2.1,0,(-1:Int),(-1:Int),false,a1,())with|none=>none|some (y2,y3,y4,y5,y6,y7,y8,y9,y10,y11,y12,y13,_)=>match OB (y2,y3,y4,y5,y6,y7,y8,y9,y10,y11,y12,a2,())with|none=>none|some (y14,y15,y16,y17,y18,y19,y20,y21,y22,y23,y24,y25,_)=>match AFU (y14,y15,y16,y17,y18,(IntKind.wrap .i64 (y19+1)),y20,y13,y22,y23,y24,y13,y25,())with|none=>none|some (y26,y27,y28,y29,y30,y31,y32,y33,y34,y35,y36,y37,_)=>match y37 with
 |true=>match cgo (y26,y27,y28,y29,y30,y31,y32,y33,y34,y35,y36,y13,())with|none=>none|some (y38,y39,y40,y41,y42,y43,y44,y45,y46,y47,y48,y49,_)=>match(!(ieq y49 0))with
  |true=>some (a0.1.1,a0.1.2.1,a0.1.2.2.1,a0.2.1,a0.2.2.1,a0.2.2.2.1,a0.2.2.2.2.1,(0,(0,(0,(false,())))),y49,())
  |false=>some (y38,y39,y40,y41,y42,y43,y44,(y45,(y46,(y47,(y48,())))),0,())
 |false=>match(ieq y32 100000)with
 |true=>some (a0.1.1,a0.1.2.1,a0.1.2.2.1,a0.2.1,a0.2.2.1,a0.2.2.2.1,a0.2.2.2.2.1,(0,(0,(0,(false,())))),2,())
 |false=>some (y26,y27,y28,y29,y30,y31,(IntKind.wrap .i64 (y32+1)),(y33,(y34,(y35,(y36,())))),0,())
def ATv[Lk]:=fun v=>Lk.f (Zq v)
theorem ATu v:ATv v=Zq v:=AJ _
abbrev ANk:AE:=[(.tmp 0,.box 8),(.cell 0 0,.dat Uc),(.cell 0 1,.di),(.cell 0 2,.dat Uw),(.cell 0 3,.dat Uj),(.cell 0 4,.dat .bool),(.cell 0 5,.di),(.cell 0 6,.di),(.cell 0 7,.own 193 U4),(.tmp 1,.di),(.tmp 2,.di)]
abbrev ANj:AE:=[(.obj 0,.box 8),(.cell 0 0,.dat Uc),(.cell 0 1,.di),(.cell 0 2,.dat Uw),(.cell 0 3,.dat Uj),(.cell 0 4,.dat .bool),(.cell 0 5,.di),(.cell 0 6,.di),(.cell 0 7,.own 193 U4),(.tmp 0,.di)]
abbrev ANi:List RS:=[.one]
def Zn[Lk]:(List U6×Int×List Bool×List U5×Bool×Int×Int×List U3×Int×Int×Unit)→Option (Uk):=fun(a0,a1,a2,a3,a4,a5,a6,a7,a8,a9,_)=>
 match ATv (((a0,(a1,(a2,()))),(a3,(a4,(a5,(a6,()))))),a8,a9,())with|none=>none|some (y0,y1,y2,y3,y4,y5,y6,y7,y8,_)=>match(ieq y8 0)with
 |true=>match(fits ((AM a7)+(AM ([(y7.1,(y7.2.1,(y7.2.2.1,(y7.2.2.2.1,()))))]:List U3))))with
  |true=>some (y0,y1,y2,y3,y4,y5,y6,(BT a7 ([(y7.1,(y7.2.1,(y7.2.2.1,(y7.2.2.2.1,()))))]:List U3)),y8,())
  |false=>none
 |false=>some (a0,a1,a2,a3,a4,a5,a6,a7,y8,())
def AJa[Lk]:=fun v=>Lk.f (Zn v)
theorem ATe v:AJa v=Zn v:=AJ _
abbrev Vy:AE:=[(.tmp 0,.box 8),(.cell 0 0,.dat Uc),(.cell 0 1,.di),(.cell 0 2,.dat Uw),(.cell 0 3,.dat Uj),(.cell 0 4,.dat .bool),(.cell 0 5,.di),(.cell 0 6,.di),(.cell 0 7,.own 193 U4)]
abbrev Vx:AE:=[(.obj 0,.box 8),(.cell 0 0,.dat Uc),(.cell 0 1,.di),(.cell 0 2,.dat Uw),(.cell 0 3,.dat Uj),(.cell 0 4,.dat .bool),(.cell 0 5,.di),(.cell 0 6,.di),(.cell 0 7,.own 193 U4),(.tmp 0,.di)]
abbrev Vw:List RS:=[.one]
abbrev AEh:AE:=[(.obj 0,.box 8),(.cell 0 0,.dat Uc),(.cell 0 1,.di),(.cell 0 2,.dat Uw),(.cell 0 3,.dat Uj),(.cell 0 4,.dat .bool),(.cell 0 5,.di),(.cell 0 6,.di),(.cell 0 7,.own 193 U4),(.tmp 0,.ptr' 0 0),(.tmp 3,.di),(.tmp 13,.di),(.tmp 14,.di)]
abbrev AEf:Ao:=[(.ret,[(.obj 0,.box 8),(.cell 0 0,.dat Uc),(.cell 0 1,.di),(.cell 0 2,.dat Uw),(.cell 0 3,.dat Uj),(.cell 0 4,.dat .bool),(.cell 0 5,.di),(.cell 0 6,.di),(.cell 0 7,.own 193 U4),(.tmp 2,.di)]),(.exit 2,[(.obj 0,.box 8),(.cell 0 0,.dat Uc),(.cell 0 1,.di),(.cell 0 2,.dat Uw),(.cell 0 3,.dat Uj),(.cell 0 4,.dat .bool),(.cell 0 5,.di),(.cell 0 6,.di),(.cell 0 7,.own 193 U4),(.tmp 0,.ptr' 0 0),(.tmp 3,.di)])]
def CK[Lk]:(List U6×Int×List Bool×List U5×Bool×Int×Int×List U3×Int×Int×Int×Unit)→Option ((List U6×Int×List Bool×List U5×Bool×Int×Int×List U3×Int×Int×Int×Unit)⊕Uk⊕Uk⊕Unit):=fun(a0,a1,a2,a3,a4,a5,a6,a7,a8,a9,a10,_)=>
 match(ilt a10 a9)with
 |true=>match a4 with
  |true=>some (.inr (.inl (a0,a1,a2,a3,a4,a5,a6,a7,0,())))
  |false=>match AUO (((a0,(a1,(a2,()))),(a3,(a4,(a5,(a6,()))))),())with|none=>none|some (y0,_)=>match(ieq y0 0)with
  |true=>some (.inr (.inl (a0,a1,a2,a3,a4,a5,a6,a7,4,())))
  |false=>match AJa (a0,a1,a2,a3,a4,a5,a6,a7,a10,(IntKind.wrap .i64 ((IntKind.wrap .i64 (a10+1))+a8)),())with|none=>none|some (y1,y2,y3,y4,y5,y6,y7,y8,y9,_)=>match(!(ieq y9 0))with
  |true=>some (.inr (.inl (y1,y2,y3,y4,y5,y6,y7,y8,y9,())))
  |false=>some (.inl (y1,y2,y3,y4,y5,y6,y7,y8,a8,a9,(IntKind.wrap .i64 (a10+1)),()))
 |false=>some (.inr (.inr (.inl (a0,a1,a2,a3,a4,a5,a6,a7,a8,()))))
abbrev AEi:AE:=[(.obj 0,.box 8),(.cell 0 0,.dat Uc),(.cell 0 1,.di),(.cell 0 2,.dat Uw),(.cell 0 3,.dat Uj),(.cell 0 4,.dat .bool),(.cell 0 5,.di),(.cell 0 6,.di),(.cell 0 7,.own 193 U4),(.tmp 0,.ptr' 0 0),(.tmp 3,.di)]
abbrev AEg:Ao:=[(.ret,[(.obj 0,.box 8),(.cell 0 0,.dat Uc),(.cell 0 1,.di),(.cell 0 2,.dat Uw),(.cell 0 3,.dat Uj),(.cell 0 4,.dat .bool),(.cell 0 5,.di),(.cell 0 6,.di),(.cell 0 7,.own 193 U4),(.tmp 2,.di)])]
def Cx[Lk]:Uk→Option (Uk⊕Uk⊕Unit):=fun(a0,a1,a2,a3,a4,a5,a6,a7,a8,_)=>
 match AU CK many (a0,a1,a2,a3,a4,a5,a6,a7,a8,(AM a3),0,())with|none=>none|some r=>match r with
 |.inl (o0,o1,o2,o3,o4,o5,o6,o7,o8,_)=>some (.inr (.inl (o0,o1,o2,o3,o4,o5,o6,o7,o8,())))
 |.inr r=>match r with
 |.inl (o9,o10,o11,o12,o13,o14,o15,o16,o17,_)=>some (.inl (o9,o10,o11,o12,o13,o14,o15,o16,(IntKind.wrap .i64 (o17+1)),()))
 |.inr _=>none
def N5[Lk]:(List U6×Int×List Bool×List U5×Bool×Int×Int×List U3×Unit)→Option (Uk):=fun(a0,a1,a2,a3,a4,a5,a6,a7,_)=>
 match AU Cx many (a0,a1,a2,a3,a4,a5,a6,a7,0,())with|none=>none|some r=>match r with
 |.inl (o0,o1,o2,o3,o4,o5,o6,o7,o8,_)=>some (o0,o1,o2,o3,o4,o5,o6,o7,o8,())
 |.inr _=>none
def Rr[Lk]:=fun v=>Lk.f (N5 v)
theorem AEj v:Rr v=N5 v:=AJ _
abbrev AEc:AE:=[(.tmp 0,.di),(.tmp 1,.di),(.tmp 2,.di),(.tmp 3,.dat (.slice (.arr 2 U0)))]
abbrev AEb:AE:=[(.tmp 0,.dat Vh),(.tmp 1,.own 193 U4),(.tmp 2,.di)]
abbrev AEa:List RS:=[.one,.one,.one]
abbrev AJX:AE:=[(.tmp 8,.box 7),(.cell 0 0,.nil Vi),(.cell 0 1,.di),(.cell 0 2,.nil .bool),(.cell 0 3,.nil U7),(.cell 0 4,.dat .bool),(.cell 0 5,.di),(.cell 0 6,.di),(.tmp 13,.box 8),(.cell 1 0,.dat Uc),(.cell 1 1,.di),(.cell 1 2,.dat Uw),(.cell 1 3,.dat Uj),(.cell 1 4,.dat .bool),(.cell 1 5,.di),(.cell 1 6,.di),(.cell 1 7,.own 193 U4),(.tmp 31,.dat (.slice (.arr 2 U0))),(.tmp 32,.di),(.tmp 33,.di)]
abbrev AJW:Ao:=[(.exit 0,[(.tmp 8,.box 7),(.cell 0 0,.nil Vi),(.cell 0 1,.di),(.cell 0 2,.nil .bool),(.cell 0 3,.nil U7),(.cell 0 4,.dat .bool),(.cell 0 5,.di),(.cell 0 6,.di),(.tmp 13,.box 8),(.cell 1 0,.dat Uc),(.cell 1 1,.di),(.cell 1 2,.dat Uw),(.cell 1 3,.dat Uj),(.cell 1 4,.dat .bool),(.cell 1 5,.di),(.cell 1 6,.di),(.cell 1 7,.own 193 U4)]),(.ret,[(.tmp 8,.box 7),(.cell 0 0,.dat Uc),(.cell 0 1,.di),(.cell 0 2,.dat Uw),(.cell 0 3,.dat Uj),(.cell 0 4,.dat .bool),(.cell 0 5,.di),(.cell 0 6,.di),(.tmp 9,.own 193 U4),(.tmp 10,.di)])]
def Ei[Lk]:Vj→Option (Vj⊕(Int×Bool×Int×Int×List U6×Int×List Bool×List U5×Bool×Int×Int×List U3×Unit)⊕Uk⊕Unit):=fun(a0,a1,a2,a3,a4,a5,a6,a7,a8,a9,a10,a11,a12,a13,a14,_)=>
 match(ilt a14 a13)with
 |true=>match idx a12 a14 with|none=>none|some x0=>match a8 with
  |true=>some (.inr (.inl (a0,a1,a2,a3,a4,a5,a6,a7,a8,a9,a10,a11,())))
  |false=>match AJa (a4,a5,a6,a7,a8,a9,a10,a11,(AY x0 0 0),(AY x0 1 0),())with|none=>none|some (y1,y2,y3,y4,y5,y6,y7,y8,y9,_)=>match(!(ieq y9 0))with
  |true=>some (.inr (.inr (.inl (y1,y2,y3,y4,y5,y6,y7,y8,y9,()))))
  |false=>some (.inl (a0,a1,a2,a3,y1,y2,y3,y4,y5,y6,y7,y8,a12,a13,(IntKind.wrap .i64 (a14+1)),()))
 |false=>some (.inr (.inl (a0,a1,a2,a3,a4,a5,a6,a7,a8,a9,a10,a11,())))
def Rq[Lk]:(Int×Int×Int×List U5×Unit)→Option (((((List U6)×Int×(List Bool)×Unit)×(List U5)×Bool×Int×Int×Unit)×List U3×Int×Unit)):=fun(a0,a1,a2,a3,_)=>
 match AFZ (a0,a1,a2,())with|none=>none|some (y0,y1,y2,y3,y4,y5,y6,y7,_)=>match(!(ieq y7 0))with
 |true=>some (((([]:List U6),(0,(([]:List (Bool)),()))),(([]:List U5),(false,(0,(0,()))))),([]:List U3),y7,())
 |false=>match AU Ei many (0,false,0,0,y0,y1,y2,y3,y4,y5,y6,([]:List U3),a3,(AM a3),0,())with|none=>none|some r=>match r with
 |.inl (o8,o9,o10,o11,o12,o13,o14,o15,o16,o17,o18,o19,_)=>match Rr (o12,o13,o14,o15,o16,o17,o18,o19,())with|none=>none|some (y20,y21,y22,y23,y24,y25,y26,y27,y28,_)=>some (((y20,(y21,(y22,()))),(y23,(y24,(y25,(y26,()))))),y27,y28,())
 |.inr r=>match r with
 |.inl (o29,o30,o31,o32,o33,o34,o35,o36,o37,_)=>some (((o29,(o30,(o31,()))),(o32,(o33,(o34,(o35,()))))),o36,o37,())
 |.inr _=>none
def AEe[Lk]:=fun v=>Lk.f (Rq v)
theorem AJY v:AEe v=Rq v:=AJ _
abbrev WB:AE:=[(.tmp 0,.dat Vh),(.tmp 1,.dat V4)]
abbrev WA:AE:=[(.tmp 0,.own 182 U2)]
abbrev Vz:List RS:=[.one]
abbrev AEo:AE:=[(.tmp 2,.box 7),(.cell 0 0,.dat Uc),(.cell 0 1,.di),(.cell 0 2,.dat Uw),(.cell 0 3,.dat Uj),(.cell 0 4,.dat .bool),(.cell 0 5,.di),(.cell 0 6,.di),(.tmp 5,.own 182 U2),(.tmp 9,.dat V4),(.tmp 10,.di),(.tmp 11,.di)]
abbrev AEn:Ao:=[(.exit 0,[(.tmp 5,.own 182 U2)])]
def EP[Lk]:(List U6×Int×List Bool×List U5×Bool×Int×Int×List U1×List U3×Int×Int×Unit)→Option ((List U6×Int×List Bool×List U5×Bool×Int×Int×List U1×List U3×Int×Int×Unit)⊕Ul⊕Unit):=fun(a0,a1,a2,a3,a4,a5,a6,a7,a8,a9,a10,_)=>
 match(ilt a10 a9)with
 |true=>match idx a8 a10 with|none=>none|some x0=>match x0.2.2.2.1 with
  |true=>some (.inl (a0,a1,a2,a3,a4,a5,a6,a7,a8,a9,(IntKind.wrap .i64 (a10+1)),()))
  |false=>match(ilt x0.2.2.1 0)with
  |true=>some (.inl (a0,a1,a2,a3,a4,a5,a6,a7,a8,a9,(IntKind.wrap .i64 (a10+1)),()))
  |false=>match(ile (AM a0) x0.2.2.1)with
  |true=>some (.inl (a0,a1,a2,a3,a4,a5,a6,a7,a8,a9,(IntKind.wrap .i64 (a10+1)),()))
  |false=>match idx a0 x0.2.2.1 with|none=>none|some x1=>match(fits ((AM a7)+(AM ([(x1.1,(x1.2.1,()))]:List U1))))with
  |true=>some (.inl (a0,a1,a2,a3,a4,a5,a6,(BT a7 ([(x1.1,(x1.2.1,()))]:List U1)),a8,a9,(IntKind.wrap .i64 (a10+1)),()))
  |false=>none
 |false=>some (.inr (.inl (a7,())))
def N6[Lk]:((((List U6)×Int×(List Bool)×Unit)×(List U5)×Bool×Int×Int×Unit)×List U3×Unit)→Option (Ul):=fun(a0,a1,_)=>
 match AU EP many (a0.1.1,a0.1.2.1,a0.1.2.2.1,a0.2.1,a0.2.2.1,a0.2.2.2.1,a0.2.2.2.2.1,([]:List U1),a1,(AM a1),0,())with|none=>none|some r=>match r with
 |.inl (o0,_)=>some (o0,())
 |.inr _=>none
def Ru[Lk]:=fun v=>Lk.f (N6 v)
theorem AEp v:Ru v=N6 v:=AJ _
abbrev AEB:AE:=[(.tmp 0,.dat Uh)]
abbrev AEA:AE:=[(.tmp 0,.dat .bool)]
abbrev AD9:List RS:=[.one]
def Rh[Lk]:(Us×Unit)→Option (Uf):=fun(a0,_)=>
 match(ile 1 a0.1)with
 |true=>match(ile a0.1 100)with
  |true=>match(ile 1 a0.2.1)with
   |true=>match(ile a0.2.1 8)with
    |true=>some ((ile (AM a0.2.2.1) 4000),())
    |false=>some (false,())
   |false=>some (false,())
  |false=>some (false,())
 |false=>some (false,())
def AEC[Lk]:=fun v=>Lk.f (Rh v)
theorem AJJ v:AEC v=Rh v:=AJ _
abbrev AEG:AE:=[(.tmp 0,.di),(.tmp 1,.dat Uh)]
abbrev AEF:AE:=[(.tmp 0,.own 3 U0),(.tmp 1,.di),(.tmp 2,.di)]
abbrev AEE:List RS:=[.one,.one,.one]
abbrev AJM:AE:=[(.tmp 8,.own 193 U4),(.tmp 10,.own 3 U0),(.tmp 12,.box 2),(.cell 2 0,.di),(.cell 2 1,.di),(.tmp 44,.own 182 U2),(.tmp 45,.di),(.tmp 46,.di),(.tmp 54,.di),(.tmp 55,.di)]
abbrev AJK:Ao:=[(.exit 2,[(.tmp 8,.own 193 U4),(.tmp 10,.own 3 U0),(.tmp 44,.own 182 U2),(.tmp 45,.di),(.tmp 46,.di)])]
def Fy[Lk]:(List U3×List Int×Int×Int×List U1×Int×Int×Int×Int×Unit)→Option ((List U3×List Int×Int×Int×List U1×Int×Int×Int×Int×Unit)⊕(List U3×List Int×List U1×Int×Int×Unit)⊕Unit):=fun(a0,a1,a2,a3,a4,a5,a6,a7,a8,_)=>
 match(ilt a8 a7)with
 |true=>match(fits ((AM a1)+(AM ([(IntKind.wrap .i64 (a2+a8))]:List (Int)))))with
  |true=>some (.inl (a0,(BT a1 ([(IntKind.wrap .i64 (a2+a8))]:List (Int))),a2,a3,a4,a5,a6,a7,(IntKind.wrap .i64 (a8+1)),()))
  |false=>none
 |false=>some (.inr (.inl (a0,a1,a4,a5,a6,())))
abbrev AJN:AE:=[(.tmp 8,.own 193 U4),(.tmp 10,.own 3 U0),(.tmp 44,.own 182 U2),(.tmp 45,.di),(.tmp 46,.di)]
abbrev AJL:Ao:=[(.exit 0,[(.tmp 8,.own 193 U4),(.tmp 10,.own 3 U0)])]
def Fz[Lk]:(List U3×List Int×List U1×Int×Int×Unit)→Option ((List U3×List Int×List U1×Int×Int×Unit)⊕(List U3×List Int×Unit)⊕Unit):=fun(a0,a1,a2,a3,a4,_)=>
 match(ilt a4 a3)with
 |true=>match idx a2 a4 with|none=>none|some x0=>match AU Fy many (a0,a1,(AY a2 (AN a4) (0,(0,()))).1,(AY a2 (AN a4) (0,(0,()))).2.1,a2,a3,a4,(IntKind.wrap .i64 ((AY a2 (AN a4) (0,(0,()))).2.1-(AY a2 (AN a4) (0,(0,()))).1)),0,())with|none=>none|some r=>match r with
  |.inl (o1,o2,o3,o4,o5,_)=>some (.inl (o1,o2,o3,o4,(IntKind.wrap .i64 (o5+1)),()))
  |.inr _=>none
 |false=>some (.inr (.inl (a0,a1,())))
def Jz[Lk]:(Int×Us×Unit)→Option (Uy):=fun(a0,a1,_)=>
 match(ilt a0 0)with
 |true=>some (([]:List (Int)),0,1,())
 |false=>match(ilt 1000 a0)with
 |true=>some (([]:List (Int)),0,1,())
 |false=>match AEC ((a1.1,(a1.2.1,(a1.2.2.1,()))),())with|none=>none|some (y0,_)=>match(!y0)with
 |true=>some (([]:List (Int)),0,1,())
 |false=>match(ieq a0 0)with
 |true=>some (([]:List (Int)),0,0,())
 |false=>match AEe (a0,a1.1,a1.2.1,a1.2.2.1,())with|none=>none|some (y1,y2,y3,_)=>match(!(ieq y3 0))with
 |true=>some (([]:List (Int)),0,y3,())
 |false=>match Ru (((y1.1.1,(y1.1.2.1,(y1.1.2.2.1,()))),(y1.2.1,(y1.2.2.1,(y1.2.2.2.1,(y1.2.2.2.2.1,()))))),y2,())with|none=>none|some (y4,_)=>match AU Fz many (y2,([]:List (Int)),y4,(AM y4),0,())with|none=>none|some r=>match r with
 |.inl (o5,o6,_)=>some (o6,(AM o5),0,())
 |.inr _=>none
def CO[Lk]:=fun v=>Lk.f (Jz v)
theorem N3 v:CO v=Jz v:=AJ _
abbrev AA0:AE:=[(.tmp 0,.di)]
abbrev AAz:AE:=[(.tmp 0,.dat .bool)]
abbrev AAy:List RS:=[.one]
def Qs[Lk]:Ub→Option (Uf):=fun(a0,_)=>
 match(ile 1 a0)with
 |true=>some ((ile a0 100),())
 |false=>some (false,())
def Td[Lk]:=fun v=>Lk.f (Qs v)
theorem AIF v:Td v=Qs v:=AJ _
abbrev To:AE:=[(.tmp 0,.di),(.tmp 1,.di)]
abbrev Tn:AE:=[(.tmp 0,.di)]
abbrev Tm:List RS:=[.one]
def Nn[Lk]:U1→Option (Ub):=fun(a0,a1,_)=>
 match(ilt a0 0)with
 |true=>some (0,())
 |false=>match(ilt 1000 a0)with
 |true=>some (0,())
 |false=>match Td (a1,())with|none=>none|some (y0,_)=>match(!y0)with
 |true=>some (0,())
 |false=>match quo? .i64 (IntKind.wrap .i64 ((IntKind.wrap .i64 (a0+a1))-1)) a1 with|none=>none|some x1=>some (x1,())
def Qw[Lk]:=fun v=>Lk.f (Nn v)
theorem AA9 v:Qw v=Nn v:=AJ _
abbrev ALE:AE:=[(.tmp 0,.dat V1),(.tmp 1,.di),(.tmp 2,.di)]
abbrev ALD:AE:=[(.tmp 0,.dat V1)]
abbrev ALC:List RS:=[.one]
def ZX[Lk]:Uy→Option (Up):=fun(a0,a1,a2,_)=>
 match EG a0 (IntKind.wrap .i64 (a1*a2)) (B7 (AM a0) (IntKind.wrap .i64 ((IntKind.wrap .i64 (a1+1))*a2)))with|none=>none|some x0=>some (x0,())
def AII[Lk]:=fun v=>Lk.f (ZX v)
theorem AQB v:AII v=ZX v:=AJ _
abbrev ABS:AE:=[(.tmp 0,.dat V1),(.tmp 1,.clo 137 [])]
abbrev ABR:AE:=[(.tmp 0,.own 87 Ug),(.tmp 1,.dat Ug)]
abbrev ABQ:List RS:=[.one,.one]
abbrev AIU:AE:=[(.tmp 1,.clo 137 []),(.tmp 6,.own 87 Ug),(.tmp 7,.dat Ug),(.tmp 13,.dat V1),(.tmp 14,.di),(.tmp 15,.di)]
abbrev AIT:Ao:=[(.exit 0,[(.tmp 6,.own 87 Ug),(.tmp 7,.dat Ug)])]
def FW[Lk]:(List Int×Int×List Int×Int×Int×Unit)→Option ((List Int×Int×List Int×Int×Int×Unit)⊕Vf⊕Unit):=fun(a0,a1,a2,a3,a4,_)=>
 match(ilt a4 a3)with
 |true=>match idx a2 a4 with|none=>none|some x0=>match idx a0 a4 with|none=>none|some x1=>some (.inl ((Az a0 (AN a4) a1),(IntKind.wrap .u32 (a1+x0)),a2,a3,(IntKind.wrap .i64 (a4+1)),()))
 |false=>some (.inr (.inl (a0,a1,())))
def Qy[Lk]:Up→Option (Vf):=fun(a0,_)=>
 match(CM (AM a0)&&CM (AM a0)&&ile (AM a0) (AM a0)&&true)with
 |true=>match AU FW many ((D4 (AN (AM a0)) (0:Int)),(0:Int),a0,(AM a0),(0:Int),())with|none=>none|some r=>match r with
  |.inl (o0,o1,_)=>some (o0,o1,())
  |.inr _=>none
 |false=>none
def PR[Lk]:=fun v=>Lk.f (Qy v)
theorem AIV v:PR v=Qy v:=AJ _
abbrev Tg:AE:=[(.tmp 0,.dat V1),(.tmp 1,.di),(.tmp 2,.dat Uh),(.tmp 3,.clo 137 [])]
abbrev Tf:AE:=[(.tmp 0,.own 87 Ug),(.tmp 1,.dat Ug),(.tmp 2,.di),(.tmp 3,.di)]
abbrev Te:List RS:=[.one,.one,.one,.one]
abbrev AA4:AE:=[(.tmp 0,.dat V1),(.tmp 1,.di),(.tmp 3,.clo 137 []),(.tmp 8,.own 87 Ug),(.tmp 9,.dat Ug),(.tmp 10,.di),(.tmp 17,.own 87 Ug),(.tmp 19,.di),(.tmp 76,.own 3 U0),(.tmp 77,.di),(.tmp 78,.di),(.tmp 91,.own 87 Ug),(.tmp 92,.di),(.tmp 93,.di)]
abbrev AA1:Ao:=[(.exit 4,[(.tmp 0,.dat V1),(.tmp 1,.di),(.tmp 3,.clo 137 []),(.tmp 8,.own 87 Ug),(.tmp 9,.dat Ug),(.tmp 10,.di),(.tmp 17,.own 87 Ug),(.tmp 76,.own 3 U0),(.tmp 77,.di),(.tmp 78,.di)])]
def EH[Lk]:Vm→Option (Vm⊕Vd⊕Unit):=fun(a0,a1,a2,a3,a4,a5,a6,a7,a8,a9,a10,a11,a12,_)=>
 match(ilt a12 a11)with
 |true=>match idx a10 a12 with|none=>none|some x0=>match idx a5 a6 with|none=>none|some x1=>match idx a2 (IntKind.wrap .i64 ((IntKind.wrap .i64 (a6*a1))+a12))with|none=>none|some x2=>some (.inl (a0,a1,(Az a2 (AN (IntKind.wrap .i64 ((IntKind.wrap .i64 (a6*a1))+a12))) (IntKind.wrap .u32 ((AY a5 (AN a6) 0)+(AY a10 (AN a12) 0)))),a3,a4,a5,a6,a7,a8,a9,a10,a11,(IntKind.wrap .i64 (a12+1)),()))
 |false=>some (.inr (.inl (a0,a1,a2,a3,a4,a5,a7,a8,a9,())))
abbrev AA5:AE:=[(.tmp 0,.dat V1),(.tmp 1,.di),(.tmp 3,.clo 137 []),(.tmp 8,.own 87 Ug),(.tmp 9,.dat Ug),(.tmp 10,.di),(.tmp 17,.own 87 Ug),(.tmp 76,.own 3 U0),(.tmp 77,.di),(.tmp 78,.di)]
abbrev AA2:Ao:=[(.exit 2,[(.tmp 8,.own 87 Ug),(.tmp 9,.dat Ug),(.tmp 10,.di)])]
def EI[Lk]:Vd→Option (Vd⊕Uy⊕Unit):=fun(a0,a1,a2,a3,a4,a5,a6,a7,a8,_)=>
 match(ilt a8 a7)with
 |true=>match idx a6 a8 with|none=>none|some x0=>match AII (a0,(AY a6 (AN a8) 0),a1,())with|none=>none|some (y1,_)=>match PR (y1,())with|none=>none|some (y2,y3,_)=>match AU EH many (a0,a1,a2,a3,a4,a5,(AY a6 (AN a8) 0),a6,a7,a8,y2,(AM y2),0,())with|none=>none|some r=>match r with
  |.inl (o4,o5,o6,o7,o8,o9,o10,o11,o12,_)=>some (.inl (o4,o5,o6,o7,o8,o9,o10,o11,(IntKind.wrap .i64 (o12+1)),()))
  |.inr _=>none
 |false=>some (.inr (.inl (a2,a3,a4,())))
abbrev AA6:AE:=[(.tmp 0,.dat V1),(.tmp 1,.di),(.tmp 3,.clo 137 []),(.tmp 10,.di),(.tmp 13,.own 3 U0),(.tmp 14,.own 87 Ug),(.tmp 48,.own' 0),(.tmp 49,.di),(.tmp 50,.di)]
abbrev AA3:Ao:=[(.exit 0,[(.tmp 0,.dat V1),(.tmp 1,.di),(.tmp 3,.clo 137 []),(.tmp 10,.di),(.tmp 13,.own 3 U0),(.tmp 14,.own 87 Ug)])]
def EJ[Lk]:(List Int×Int×Int×List Int×List Int×Int×Int×Unit)→Option ((List Int×Int×Int×List Int×List Int×Int×Int×Unit)⊕(List Int×Int×Int×List Int×List Int×Unit)⊕Unit):=fun(a0,a1,a2,a3,a4,a5,a6,_)=>
 match(ilt a6 a5)with
 |true=>match idx a3 a6 with|none=>none|some x0=>match AII (a0,(AY a3 (AN a6) 0),a1,())with|none=>none|some (y1,_)=>match PR (y1,())with|none=>none|some (y2,y3,_)=>match idx a4 (AY a3 (AN a6) 0)with|none=>none|some x4=>some (.inl (a0,a1,a2,a3,(Az a4 (AN (AY a3 (AN a6) 0)) y3),a5,(IntKind.wrap .i64 (a6+1)),()))
 |false=>some (.inr (.inl (a0,a1,a2,a3,a4,())))
def Jb[Lk]:(List Int×Int×Us×Unit)→Option ((List Int×Int×Int×Int×Unit)):=fun(a0,a1,a2,_)=>
 match Td (a1,())with|none=>none|some (y0,_)=>match(!y0)with
 |true=>some (([]:List (Int)),0,0,1,())
 |false=>match(ilt 1000 (AM a0))with
 |true=>some (([]:List (Int)),0,0,1,())
 |false=>match Qw ((AM a0),a1,())with|none=>none|some (y1,_)=>match CO (y1,(a2.1,(a2.2.1,(a2.2.2.1,()))),())with|none=>none|some (y2,y3,y4,_)=>match(!(ieq y4 0))with
 |true=>some (([]:List (Int)),0,0,y4,())
 |false=>match(CM y1&&CM y1&&ile y1 y1&&true)with
 |true=>match AU EJ many (a0,a1,y3,y2,(D4 (AN y1) (0:Int)),(AM y2),(0:Int),())with|none=>none|some r=>match r with
  |.inl (o5,o6,o7,o8,o9,_)=>match PR (o9,())with|none=>none|some (y10,y11,_)=>match(CM (AM o5)&&CM (AM o5)&&ile (AM o5) (AM o5)&&true)with
   |true=>match AU EI many (o5,o6,(D4 (AN (AM o5)) (0:Int)),y11,o7,y10,o8,(AM o8),(0:Int),())with|none=>none|some r=>match r with
    |.inl (o12,o13,o14,_)=>some (o12,o13,(IntKind.wrap .i64 (2*o14)),0,())
    |.inr _=>none
   |false=>none
  |.inr _=>none
 |false=>none
def Nl[Lk]:=fun v=>Lk.f (Jb v)
theorem PJ v:Nl v=Jb v:=AJ _
abbrev ALA:AE:=[(.tmp 0,.dat V1),(.tmp 1,.di),(.tmp 2,.dat Uh)]
abbrev AK9:AE:=[(.tmp 0,.own 87 Ug),(.tmp 1,.dat Ug),(.tmp 2,.di),(.tmp 3,.di)]
abbrev AK8:List RS:=[.one,.one,.one,.one]
def Qr[Lk]:(List Int×Int×Us×Unit)→Option ((List Int×Int×Int×Int×Unit)):=fun(a0,a1,a2,_)=>
 match Nl (a0,a1,(a2.1,(a2.2.1,(a2.2.2.1,()))),())with|none=>none|some (y0,y1,y2,y3,_)=>some (y0,y1,y2,y3,())
def XY[Lk]:=fun v=>Lk.f (Qr v)
theorem AAx v:XY v=Qr v:=AJ _
abbrev ACI:AE:=[(.tmp 0,.dat Uw),(.tmp 1,.dat .bool)]
abbrev ACH:AE:=[(.tmp 0,.own 87 Ug)]
abbrev ACG:List RS:=[.one]
abbrev AIj:AE:=[(.tmp 1,.dat .bool),(.tmp 5,.own 87 Ug),(.tmp 11,.dat Uw),(.tmp 12,.di),(.tmp 13,.di)]
abbrev AIi:Ao:=[(.exit 0,[(.tmp 5,.own 87 Ug)])]
def Fa[Lk]:(Bool×List Int×List Bool×Int×Int×Unit)→Option ((Bool×List Int×List Bool×Int×Int×Unit)⊕Up⊕Unit):=fun(a0,a1,a2,a3,a4,_)=>
 match(ilt a4 a3)with
 |true=>match idx a2 a4 with|none=>none|some x0=>match(!(x0==a0))with
  |true=>match idx a1 a4 with|none=>none|some x1=>some (.inl (a0,(Az a1 (AN a4) 1),a2,a3,(IntKind.wrap .i64 (a4+1)),()))
  |false=>some (.inl (a0,a1,a2,a3,(IntKind.wrap .i64 (a4+1)),()))
 |false=>some (.inr (.inl (a1,())))
def RC[Lk]:(List Bool×Bool×Unit)→Option (Up):=fun(a0,a1,_)=>
 match(CM (AM a0)&&CM (AM a0)&&ile (AM a0) (AM a0)&&true)with
 |true=>match AU Fa many (a1,(D4 (AN (AM a0)) (0:Int)),a0,(AM a0),(0:Int),())with|none=>none|some r=>match r with
  |.inl (o0,_)=>some (o0,())
  |.inr _=>none
 |false=>none
def ACK[Lk]:=fun v=>Lk.f (RC v)
theorem AIk v:ACK v=RC v:=AJ _
abbrev UA:AE:=[(.tmp 0,.dat V1),(.tmp 1,.di),(.tmp 2,.dat Uh)]
abbrev T9:AE:=[(.tmp 0,.own 3 U0),(.tmp 1,.di),(.tmp 2,.di)]
abbrev T8:List RS:=[.one,.one,.one]
abbrev ACD:AE:=[(.tmp 0,.dat V1),(.tmp 9,.own 87 Ug),(.tmp 11,.di),(.tmp 14,.di),(.tmp 15,.own 3 U0),(.tmp 43,.own 3 U0),(.tmp 44,.di),(.tmp 45,.di)]
abbrev ACC:Ao:=[(.exit 0,[(.tmp 11,.di),(.tmp 14,.di),(.tmp 15,.own 3 U0)])]
def EN[Lk]:V7→Option (V7⊕(Int×Int×List Int×Unit)⊕Unit):=fun(a0,a1,a2,a3,a4,a5,a6,a7,_)=>
 match(ilt a7 a6)with
 |true=>match idx a5 a7 with|none=>none|some x0=>match idx a0 (AY a5 (AN a7) 0)with|none=>none|some x1=>match(ieq x1 1)with
  |true=>match idx a1 (AY a5 (AN a7) 0)with|none=>none|some x2=>match idx a4 (AY a1 (AN (AY a5 (AN a7) 0)) 0)with|none=>none|some x3=>some (.inl (a0,a1,a2,a3,(Az a4 (AN (AY a1 (AN (AY a5 (AN a7) 0)) 0)) (AY a5 (AN a7) 0)),a5,a6,(IntKind.wrap .i64 (a7+1)),()))
  |false=>some (.inl (a0,a1,a2,a3,a4,a5,a6,(IntKind.wrap .i64 (a7+1)),()))
 |false=>some (.inr (.inl (a2,a3,a4,())))
def Ns[Lk]:(List Int×Int×Us×Unit)→Option (Uy):=fun(a0,a1,a2,_)=>
 match XY (a0,a1,(a2.1,(a2.2.1,(a2.2.2.1,()))),())with|none=>none|some (y0,y1,y2,y3,_)=>match(!(ieq y3 0))with
 |true=>some (([]:List (Int)),0,y3,())
 |false=>match CO ((AM a0),(a2.1,(a2.2.1,(a2.2.2.1,()))),())with|none=>none|some (y4,y5,y6,_)=>match(!(ieq y6 0))with
 |true=>some (([]:List (Int)),0,y6,())
 |false=>match(CM y1&&CM y1&&ile y1 y1&&true)with
 |true=>match AU EN many (a0,y0,y2,y5,(D4 (AN y1) (0:Int)),y4,(AM y4),(0:Int),())with|none=>none|some r=>match r with
  |.inl (o7,o8,o9,_)=>some (o9,(IntKind.wrap .i64 (o7+o8)),0,())
  |.inr _=>none
 |false=>none
def RB[Lk]:=fun v=>Lk.f (Ns v)
theorem ACE v:RB v=Ns v:=AJ _
abbrev AB8:AE:=[(.tmp 0,.dat Uw),(.tmp 1,.di),(.tmp 2,.dat Uh)]
abbrev AB7:AE:=[(.tmp 0,.own 3 U0),(.tmp 1,.di),(.tmp 2,.di)]
abbrev AB6:List RS:=[.one,.one,.one]
def RA[Lk]:(List Bool×Int×Us×Unit)→Option (Uy):=fun(a0,a1,a2,_)=>
 match ACK (a0,false,())with|none=>none|some (y0,_)=>match RB (y0,a1,(a2.1,(a2.2.1,(a2.2.2.1,()))),())with|none=>none|some (y1,y2,y3,_)=>some (y1,y2,y3,())
def AB9[Lk]:=fun v=>Lk.f (RA v)
theorem AIe v:AB9 v=RA v:=AJ _
abbrev ALj:AE:=[(.tmp 0,.dat V1),(.tmp 1,.di),(.tmp 2,.di),(.tmp 3,.dat Uh)]
abbrev ALi:AE:=[(.tmp 0,.own 3 U0),(.tmp 1,.di),(.tmp 2,.di)]
abbrev ALh:List RS:=[.one,.one,.one]
abbrev AQh:AE:=[(.tmp 0,.dat V1),(.tmp 1,.di),(.tmp 11,.di),(.tmp 14,.di),(.tmp 16,.own 3 U0),(.tmp 45,.di),(.tmp 46,.di)]
abbrev AQf:Ao:=[(.exit 2,[(.tmp 11,.di),(.tmp 14,.di),(.tmp 16,.own 3 U0)])]
def Hb[Lk]:Va→Option (Va⊕(Int×Int×List Int×Unit)⊕Unit):=fun(a0,a1,a2,a3,a4,a5,a6,_)=>
 match(ilt a6 a5)with
 |true=>match rby (a0,a4,a6,a1,())with|none=>none|some (y0,_)=>some (.inl (a0,a1,a2,a3,y0,a5,(IntKind.wrap .i64 (a6+1)),()))
 |false=>some (.inr (.inl (a2,a3,a4,())))
abbrev AQi:AE:=[(.tmp 0,.dat V1),(.tmp 1,.di),(.tmp 11,.di),(.tmp 14,.di),(.tmp 16,.own 3 U0),(.tmp 36,.di),(.tmp 37,.di)]
abbrev AQg:Ao:=[(.exit 0,[(.tmp 0,.dat V1),(.tmp 1,.di),(.tmp 11,.di),(.tmp 14,.di),(.tmp 16,.own 3 U0)])]
def Hc[Lk]:Va→Option (Va⊕(List Int×Int×Int×Int×List Int×Unit)⊕Unit):=fun(a0,a1,a2,a3,a4,a5,a6,_)=>
 match(ilt a6 a5)with
 |true=>match(fits ((AM a4)+(AM ([a6]:List (Int)))))with
  |true=>some (.inl (a0,a1,a2,a3,(BT a4 ([a6]:List (Int))),a5,(IntKind.wrap .i64 (a6+1)),()))
  |false=>none
 |false=>some (.inr (.inl (a0,a1,a2,a3,a4,())))
def Q1[Lk]:(List Int×Int×Int×Us×Unit)→Option (Uy):=fun(a0,a1,a2,a3,_)=>
 match KV (a1,())with|none=>none|some (y0,_)=>match(ieq y0 0)with
 |true=>some (([]:List (Int)),0,1,())
 |false=>match XY (a0,a2,(a3.1,(a3.2.1,(a3.2.2.1,()))),())with|none=>none|some (y1,y2,y3,y4,_)=>match(!(ieq y4 0))with
 |true=>some (([]:List (Int)),0,y4,())
 |false=>match AU Hc many (a0,a1,y0,y3,([]:List (Int)),(AM a0),0,())with|none=>none|some r=>match r with
 |.inl (o5,o6,o7,o8,o9,_)=>match AU Hb many (o5,o6,o7,o8,o9,o7,0,())with|none=>none|some r=>match r with
  |.inl (o10,o11,o12,_)=>some (o12,(IntKind.wrap .i64 (o11*o10)),0,())
  |.inr _=>none
 |.inr _=>none
def ABe[Lk]:=fun v=>Lk.f (Q1 v)
theorem ABc v:ABe v=Q1 v:=AJ _
abbrev Tv:AE:=[(.tmp 0,.dat V1),(.tmp 1,.dat U7)]
abbrev Tu:AE:=[(.tmp 0,.own 87 Ug),(.tmp 1,.dat .bool)]
abbrev Tt:List RS:=[.one,.one]
abbrev ABa:AE:=[(.tmp 0,.dat V1),(.tmp 6,.own 87 Ug),(.tmp 14,.dat U7),(.tmp 15,.di),(.tmp 16,.di)]
abbrev ABZ:Ao:=[(.exit 0,[(.tmp 6,.own 87 Ug)])]
def EM[Lk]:Ve→Option (Ve⊕Up⊕Unit):=fun(a0,a1,a2,a3,a4,_)=>
 match(ilt a4 a3)with
 |true=>match idx a2 a4 with|none=>none|some x0=>match idx a0 x0 with|none=>none|some x1=>match(fits ((AM a1)+(AM ([x1]:List (Int)))))with
  |true=>some (.inl (a0,(BT a1 ([x1]:List (Int))),a2,a3,(IntKind.wrap .i64 (a4+1)),()))
  |false=>none
 |false=>some (.inr (.inl (a1,())))
def No[Lk]:(List Int×List Int×Unit)→Option ((List Int×Bool×Unit)):=fun(a0,a1,_)=>
 match AQu (a1,(AM a0),())with|none=>none|some (y0,_)=>match(!y0)with
 |true=>some (([]:List (Int)),false,())
 |false=>match AU EM many (a0,([]:List (Int)),a1,(AM a1),0,())with|none=>none|some r=>match r with
 |.inl (o1,_)=>some (o1,true,())
 |.inr _=>none
def Np[Lk]:=fun v=>Lk.f (No v)
theorem ABb v:Np v=No v:=AJ _
end
end Go.Pev
end
section
namespace Go.Pev
noncomputable section
attribute [local irreducible] Oz LD OR Oc Ajo Ajp Ajq Q9 AGv Qv Yw LO Aj many IntKind.wrap AM Az AY BT Bv F8 D4 AN Bs B7 imax AR Ad
abbrev WG:AE:=[(.tmp 0,.dat V1),(.tmp 1,.dat Vc)]
abbrev WE:AE:=[(.tmp 0,.own 87 Ug),(.tmp 1,.own 3 U0),(.tmp 2,.di),(.tmp 3,.di)]
abbrev WD:List RS:=[.one,.one,.one,.one]
abbrev AEr:AE:=[(.tmp 9,.di),(.tmp 11,.own 87 Ug),(.tmp 13,.own 3 U0),(.tmp 14,.di),(.tmp 15,.own 87 Ug),(.tmp 16,.own 3 U0),(.tmp 55,.own' 1),(.tmp 56,.di),(.tmp 57,.di)]
abbrev AEq:Ao:=[(.exit 0,[(.tmp 9,.di),(.tmp 14,.di),(.tmp 15,.own 87 Ug),(.tmp 16,.own 3 U0)])]
def ER[Lk]:(Int×List Int×List Int×Int×List Int×List Int×Int×Int×Unit)→Option ((Int×List Int×List Int×Int×List Int×List Int×Int×Int×Unit)⊕(Int×Int×List Int×List Int×Unit)⊕Unit):=fun(a0,a1,a2,a3,a4,a5,a6,a7,_)=>
 match(ilt a7 a6)with
 |true=>match idx a2 a7 with|none=>none|some x0=>match(ilt (IntKind.wrap .i64 (a7+1)) (AM a2))with
  |true=>match idx a2 (IntKind.wrap .i64 (a7+1))with|none=>none|some x1=>match idx a1 (AY a2 (AN a7) 0)with|none=>none|some x2=>match(fits ((AM a4)+(AM ([(AY a1 (AN (AY a2 (AN a7) 0)) 0)]:List (Int)))))with
   |true=>match(fits ((AM a5)+(AM ([(IntKind.wrap .i64 ((AY a2 (AN (IntKind.wrap .i64 (a7+1))) 0)-(AY a2 (AN a7) 0)))]:List (Int)))))with
    |true=>some (.inl (a0,a1,a2,a3,(BT a4 ([(AY a1 (AN (AY a2 (AN a7) 0)) 0)]:List (Int))),(BT a5 ([(IntKind.wrap .i64 ((AY a2 (AN (IntKind.wrap .i64 (a7+1))) 0)-(AY a2 (AN a7) 0)))]:List (Int))),a6,(IntKind.wrap .i64 (a7+1)),()))
    |false=>none
   |false=>none
  |false=>match idx a1 (AY a2 (AN a7) 0)with|none=>none|some x3=>match(fits ((AM a4)+(AM ([(AY a1 (AN (AY a2 (AN a7) 0)) 0)]:List (Int)))))with
  |true=>match(fits ((AM a5)+(AM ([(IntKind.wrap .i64 ((AM a1)-(AY a2 (AN a7) 0)))]:List (Int)))))with
   |true=>some (.inl (a0,a1,a2,a3,(BT a4 ([(AY a1 (AN (AY a2 (AN a7) 0)) 0)]:List (Int))),(BT a5 ([(IntKind.wrap .i64 ((AM a1)-(AY a2 (AN a7) 0)))]:List (Int))),a6,(IntKind.wrap .i64 (a7+1)),()))
   |false=>none
  |false=>none
 |false=>some (.inr (.inl (a0,a3,a4,a5,())))
def J5[Lk]:(List Int×Vn×Unit)→Option ((List Int×List Int×Int×Int×Unit)):=fun(a0,a1,_)=>
 match ABe (a0,a1.1,a1.2.1,(a1.2.2.1.1,(a1.2.2.1.2.1,(a1.2.2.1.2.2.1,()))),())with|none=>none|some (y0,y1,y2,_)=>match(!(ieq y2 0))with
 |true=>some (([]:List (Int)),([]:List (Int)),0,y2,())
 |false=>match Np (a0,y0,())with|none=>none|some (y3,y4,_)=>match Rw (y3,())with|none=>none|some (y5,_)=>match AB9 (y5,a1.2.1,(a1.2.2.1.1,(a1.2.2.1.2.1,(a1.2.2.1.2.2.1,()))),())with|none=>none|some (y6,y7,y8,_)=>match(!(ieq y8 0))with
 |true=>some (([]:List (Int)),([]:List (Int)),0,y8,())
 |false=>match AU ER many (y1,y3,y6,y7,([]:List (Int)),([]:List (Int)),(AM y6),0,())with|none=>none|some r=>match r with
 |.inl (o9,o10,o11,o12,_)=>some (o11,o12,(IntKind.wrap .i64 (o9+o10)),0,())
 |.inr _=>none
def N7[Lk]:=fun v=>Lk.f (J5 v)
theorem QB v:N7 v=J5 v:=AJ _
abbrev ANo:AE:=[(.tmp 0,.dat V1),(.tmp 1,.dat Vc)]
abbrev ANn:AE:=[(.tmp 0,.own 87 Ug),(.tmp 1,.di),(.tmp 2,.di)]
abbrev ANm:List RS:=[.one,.one,.one]
def Rs[Lk]:(List Int×Vn×Unit)→Option (Uy):=fun(a0,a1,_)=>
 match N7 (a0,(a1.1,(a1.2.1,((a1.2.2.1.1,(a1.2.2.1.2.1,(a1.2.2.1.2.2.1,()))),()))),())with|none=>none|some (y0,y1,y2,y3,_)=>some (y0,y2,y3,())
def YK[Lk]:=fun v=>Lk.f (Rs v)
theorem AEl v:YK v=Rs v:=AJ _
abbrev AEy:AE:=[(.tmp 0,.dat Uu),(.tmp 1,.dat Vc)]
abbrev AEx:AE:=[(.tmp 0,.own 45 U2),(.tmp 1,.di),(.tmp 2,.di)]
abbrev AEw:List RS:=[.one,.one,.one]
abbrev AJf:AE:=[(.tmp 13,.di),(.tmp 14,.di),(.tmp 15,.own 45 U2),(.tmp 48,.own 87 Ug),(.tmp 49,.di),(.tmp 50,.di)]
abbrev AJd:Ao:=[(.exit 2,[(.tmp 13,.di),(.tmp 14,.di),(.tmp 15,.own 45 U2)])]
def DB[Lk]:(Int×Int×List U1×List Int×Int×Int×Unit)→Option ((Int×Int×List U1×List Int×Int×Int×Unit)⊕(Int×Int×List U1×Unit)⊕Unit):=fun(a0,a1,a2,a3,a4,a5,_)=>
 match(ilt a5 a4)with
 |true=>match idx a3 a5 with|none=>none|some x0=>match ATs ((AY a3 (AN a5) 0),())with|none=>none|some (y1,_)=>match(fits ((AM a2)+(AM ([y1]:List U1))))with
  |true=>some (.inl (a0,a1,(BT a2 ([y1]:List U1)),a3,a4,(IntKind.wrap .i64 (a5+1)),()))
  |false=>none
 |false=>some (.inr (.inl (a0,a1,a2,())))
abbrev AJg:AE:=[(.tmp 3,.box 5),(.cell 0 0,.di),(.cell 0 1,.di),(.cell 0 2,.di),(.cell 0 3,.di),(.cell 0 4,.dat (.slice (.arr 2 U0))),(.tmp 7,.own 87 Ug),(.tmp 18,.dat Uu),(.tmp 19,.di),(.tmp 20,.di)]
abbrev AJe:Ao:=[(.ret,[(.tmp 4,.nil U2),(.tmp 5,.di),(.tmp 6,.di)]),(.exit 0,[(.tmp 3,.box 5),(.cell 0 0,.di),(.cell 0 1,.di),(.cell 0 2,.di),(.cell 0 3,.di),(.cell 0 4,.dat (.slice (.arr 2 U0))),(.tmp 7,.own 87 Ug)])]
def F7[Lk]:(Int×Int×Int×Int×List U5×List Int×List U1×Int×Int×Unit)→Option ((Int×Int×Int×Int×List U5×List Int×List U1×Int×Int×Unit)⊕U1⊕(Int×Int×Int×Int×List U5×List Int×Unit)⊕Unit):=fun(a0,a1,a2,a3,a4,a5,a6,a7,a8,_)=>
 match(ilt a8 a7)with
 |true=>match idx a6 a8 with|none=>none|some x0=>match Ake ((x0.1,(x0.2.1,())),())with|none=>none|some (y1,y2,_)=>match(!y2)with
  |true=>some (.inr (.inl (0,10,())))
  |false=>match(!(ieq x0.1 x0.2.1))with
  |true=>match(fits ((AM a5)+(AM ([y1]:List (Int)))))with
   |true=>some (.inl (a0,a1,a2,a3,a4,(BT a5 ([y1]:List (Int))),a6,a7,(IntKind.wrap .i64 (a8+1)),()))
   |false=>none
  |false=>some (.inl (a0,a1,a2,a3,a4,a5,a6,a7,(IntKind.wrap .i64 (a8+1)),()))
 |false=>some (.inr (.inr (.inl (a0,a1,a2,a3,a4,a5,()))))
def Mx[Lk]:(List U1×Vn×Unit)→Option (Ud):=fun(a0,a1,_)=>
 match AU F7 many (a1.1,a1.2.1,a1.2.2.1.1,a1.2.2.1.2.1,a1.2.2.1.2.2.1,([]:List (Int)),a0,(AM a0),0,())with|none=>none|some r=>match r with
 |.inl (o0,o1,_)=>some (([]:List U1),o0,o1,())
 |.inr r=>match r with
 |.inl (o2,o3,o4,o5,o6,o7,_)=>match YK (o7,(o2,(o3,((o4,(o5,(o6,()))),()))),())with|none=>none|some (y8,y9,y10,_)=>match AU DB many (y9,y10,([]:List U1),y8,(AM y8),0,())with|none=>none|some r=>match r with
  |.inl (o11,o12,o13,_)=>some (o13,o11,o12,())
  |.inr _=>none
 |.inr _=>none
def WQ[Lk]:=fun v=>Lk.f (Mx v)
theorem WO v:WQ v=Mx v:=AJ _
abbrev Kr:AE:=[(.tmp 0,.dat U7),(.cap 1 0,.box 2),(.cell 0 0,.di),(.cell 0 1,.dat V4),(.tmp 1,.clo 30 [(0,0)])]
abbrev Kq:AE:=[(.obj 0,.box 2),(.cell 0 0,.di),(.cell 0 1,.dat V4),(.tmp 0,.di)]
abbrev Kp:List RS:=[.one]
abbrev Oj:AE:=[(.obj 0,.box 2),(.cell 0 0,.di),(.cell 0 1,.dat V4),(.tmp 0,.dat U7),(.tmp 1,.clo 30 [(0,0)]),(.tmp 7,.di),(.tmp 8,.di)]
abbrev Oi:Ao:=[(.ret,[(.obj 0,.box 2),(.cell 0 0,.di),(.cell 0 1,.dat V4),(.tmp 4,.di)]),(.exit 0,[(.obj 0,.box 2),(.cell 0 0,.di),(.cell 0 1,.dat V4)])]
def Cd[Lk]:(Int×List U3×List Int×Int×Int×Unit)→Option ((Int×List U3×List Int×Int×Int×Unit)⊕(Int×List U3×Int×Unit)⊕(Int×List U3×Unit)⊕Unit):=fun(a0,a1,a2,a3,a4,_)=>
 match(ilt a4 a3)with
 |true=>match idx a2 a4 with|none=>none|some x0=>match(ile a0 x0)with
  |true=>some (.inr (.inl (a0,a1,a4,())))
  |false=>some (.inl (a0,a1,a2,a3,(IntKind.wrap .i64 (a4+1)),()))
 |false=>some (.inr (.inr (.inl (a0,a1,()))))
def G8[Lk]:(List Int×Int×List U3×Unit)→Option ((Int×List U3×Int×Unit)):=fun(a0,a1,a2,_)=>
 match AU Cd many (a1,a2,a0,(AM a0),0,())with|none=>none|some r=>match r with
 |.inl (o0,o1,o2,_)=>some (o0,o1,o2,())
 |.inr r=>match r with
 |.inl (o3,o4,_)=>some (o3,o4,(-1:Int),())
 |.inr _=>none
def Kt[Lk]:=fun v=>Lk.f (G8 v)
theorem Ol v:Kt v=G8 v:=AJ _
abbrev JJ:AE:=[(.tmp 0,.dat U7),(.cap 1 0,.box 2),(.cell 0 0,.di),(.cell 0 1,.dat V4),(.tmp 1,.clo 30 [(0,0)])]
abbrev JI:AE:=[(.obj 0,.box 2),(.cell 0 0,.di),(.cell 0 1,.dat V4),(.tmp 0,.dat .bool)]
abbrev JH:List RS:=[.one]
def GW[Lk]:(List Int×Int×List U3×Unit)→Option ((Int×List U3×Bool×Unit)):=fun(a0,a1,a2,_)=>
 match Kt (a0,a1,a2,())with|none=>none|some (y0,y1,y2,_)=>some (y0,y1,(ile 0 y2),())
def Gj[Lk]:=fun v=>Lk.f (GW v)
theorem M5 v:Gj v=GW v:=AJ _
abbrev AFv:AE:=[(.tmp 0,.dat Ut),(.tmp 1,.dat Ue),(.tmp 2,.dat Vc)]
abbrev AFu:AE:=[(.tmp 0,.di),(.tmp 1,.own 45 U2),(.tmp 2,.dat Vg),(.tmp 3,.di),(.tmp 4,.di)]
abbrev AFt:List RS:=[.agg 3,.one,.one]
def H9[Lk]:(V0×Uq×Vn×Unit)→Option ((Int×List U1×List Ua×Int×Int×Unit)):=fun(a0,a1,a2,_)=>
 match Fh ((a0.1,(a0.2.1,())),())with|none=>none|some (y0,_)=>match(!y0)with
 |true=>some (0,([]:List U1),([]:List Ua),0,1,())
 |false=>match AAA ((a1.1,(a1.2.1,(a1.2.2.1,()))),())with|none=>none|some (y1,_)=>match(!y1)with
 |true=>some (0,([]:List U1),([]:List Ua),0,1,())
 |false=>match AFm ((a1.1,(a1.2.1,(a1.2.2.1,()))),())with|none=>none|some (y2,_)=>match Gj (y2,a0.1,a0.2.1,())with|none=>none|some (y3,y4,y5,_)=>match y5 with
 |true=>some (0,([]:List U1),([]:List Ua),0,10,())
 |false=>match(ieq a1.1 3)with
 |true=>some (a1.1,([]:List U1),a1.2.2.1,0,0,())
 |false=>match WQ (a1.2.1,(a2.1,(a2.2.1,((a2.2.2.1.1,(a2.2.2.1.2.1,(a2.2.2.1.2.2.1,()))),()))),())with|none=>none|some (y6,y7,y8,_)=>match(!(ieq y8 0))with
 |true=>some (0,([]:List U1),([]:List Ua),0,y8,())
 |false=>match(ieq a1.1 2)with
 |true=>match ARL ((y3,(y4,())),y6,())with|none=>none|some (y9,y10,_)=>some (a1.1,y9,([]:List Ua),y7,y10,())
 |false=>match AkB ((y3,(y4,())),y6,())with|none=>none|some (y11,y12,_)=>match AJ0 ((y3,(y4,())),())with|none=>none|some (y13,_)=>match(ilt y13 (AM y11))with
 |true=>some (0,([]:List U1),([]:List Ua),0,2,())
 |false=>some (a1.1,y11,([]:List Ua),y7,y12,())
def GF[Lk]:=fun v=>Lk.f (H9 v)
theorem KC v:GF v=H9 v:=AJ _
abbrev Tk:AE:=[(.tmp 0,.di)]
abbrev Tj:AE:=[(.tmp 0,.dat .bool)]
abbrev Ti:List RS:=[.one]
def Nm[Lk]:Ub→Option (Uf):=fun(a0,_)=>
 match(ile 0 a0)with
 |true=>some ((ile a0 65535),())
 |false=>some (false,())
def IT[Lk]:=fun v=>Lk.f (Nm v)
theorem AA8 v:IT v=Nm v:=AJ _
abbrev T4:AE:=[(.tmp 0,.dat Ue)]
abbrev T3:AE:=[(.tmp 0,.dat .bool)]
abbrev T2:List RS:=[.one]
abbrev ABr:AE:=[(.tmp 1,.box 3),(.cell 0 0,.di),(.cell 0 1,.dat Uu),(.cell 0 2,.dat Vg),(.tmp 4,.di)]
abbrev ABp:Ao:=[(.ret,[(.tmp 2,.dat .bool)]),(.exit 2,[])]
def CG[Lk]:(Int×List U1×List Ua×Int×Unit)→Option ((Int×List U1×List Ua×Int×Unit)⊕Uf⊕(Unit)⊕Unit):=fun(a0,a1,a2,a3,_)=>
 match(ilt a3 (AM a2))with
 |true=>match idx a2 a3 with|none=>none|some x0=>match IT (x0.2.1,())with|none=>none|some (y1,_)=>match(!y1)with
  |true=>some (.inr (.inl (false,())))
  |false=>match IT (x0.2.2.1,())with|none=>none|some (y2,_)=>match(!y2)with
  |true=>some (.inr (.inl (false,())))
  |false=>match(ilt x0.1 1)with
  |true=>some (.inr (.inl (false,())))
  |false=>match(ilt 4 x0.1)with
  |true=>some (.inr (.inl (false,())))
  |false=>some (.inl (a0,a1,a2,(IntKind.wrap .i64 (a3+1)),()))
 |false=>some (.inr (.inr (.inl ())))
abbrev ABs:AE:=[(.tmp 1,.box 3),(.cell 0 0,.di),(.cell 0 1,.dat Uu),(.cell 0 2,.dat Vg),(.tmp 3,.di)]
abbrev ABq:Ao:=[(.ret,[(.tmp 2,.dat .bool)]),(.exit 0,[(.tmp 1,.box 3),(.cell 0 0,.di),(.cell 0 1,.dat Uu),(.cell 0 2,.dat Vg)])]
def CH[Lk]:(Int×List U1×List Ua×Int×Unit)→Option ((Int×List U1×List Ua×Int×Unit)⊕Uf⊕(Int×List U1×List Ua×Unit)⊕Unit):=fun(a0,a1,a2,a3,_)=>
 match(ilt a3 (AM a1))with
 |true=>match idx a1 a3 with|none=>none|some x0=>match IT (x0.1,())with|none=>none|some (y1,_)=>match(!y1)with
  |true=>some (.inr (.inl (false,())))
  |false=>match idx a1 a3 with|none=>none|some x2=>match IT (x2.2.1,())with|none=>none|some (y3,_)=>match(!y3)with
  |true=>some (.inr (.inl (false,())))
  |false=>some (.inl (a0,a1,a2,(IntKind.wrap .i64 (a3+1)),()))
 |false=>some (.inr (.inr (.inl (a0,a1,a2,()))))
def Nq[Lk]:(Uq×Unit)→Option (Uf):=fun(a0,_)=>
 match(ilt a0.1 1)with
 |true=>some (false,())
 |false=>match(ilt 3 a0.1)with
 |true=>some (false,())
 |false=>match(ieq a0.1 3)with
 |true=>match(ilt 0 (AM a0.2.1))with
  |true=>some (false,())
  |false=>match(!(ieq a0.1 3))with
  |true=>match(ilt 0 (AM a0.2.2.1))with
   |true=>some (false,())
   |false=>match(ilt 60 (AM a0.2.1))with
   |true=>some (false,())
   |false=>match(ilt 60 (AM a0.2.2.1))with
   |true=>some (false,())
   |false=>match AU CH many (a0.1,a0.2.1,a0.2.2.1,0,())with|none=>none|some r=>match r with
   |.inl (o0,_)=>some (o0,())
   |.inr r=>match r with
   |.inl (o1,o2,o3,_)=>match AU CG many (o1,o2,o3,0,())with|none=>none|some r=>match r with
    |.inl (o4,_)=>some (o4,())
    |.inr r=>match r with
    |.inl _=>some (true,())
    |.inr _=>none
   |.inr _=>none
  |false=>match(ilt 60 (AM a0.2.1))with
  |true=>some (false,())
  |false=>match(ilt 60 (AM a0.2.2.1))with
  |true=>some (false,())
  |false=>match AU CH many (a0.1,a0.2.1,a0.2.2.1,0,())with|none=>none|some r=>match r with
  |.inl (o5,_)=>some (o5,())
  |.inr r=>match r with
  |.inl (o6,o7,o8,_)=>match AU CG many (o6,o7,o8,0,())with|none=>none|some r=>match r with
   |.inl (o9,_)=>some (o9,())
   |.inr r=>match r with
   |.inl _=>some (true,())
   |.inr _=>none
  |.inr _=>none
 |false=>match(!(ieq a0.1 3))with
 |true=>match(ilt 0 (AM a0.2.2.1))with
  |true=>some (false,())
  |false=>match(ilt 60 (AM a0.2.1))with
  |true=>some (false,())
  |false=>match(ilt 60 (AM a0.2.2.1))with
  |true=>some (false,())
  |false=>match AU CH many (a0.1,a0.2.1,a0.2.2.1,0,())with|none=>none|some r=>match r with
  |.inl (o10,_)=>some (o10,())
  |.inr r=>match r with
  |.inl (o11,o12,o13,_)=>match AU CG many (o11,o12,o13,0,())with|none=>none|some r=>match r with
   |.inl (o14,_)=>some (o14,())
   |.inr r=>match r with
   |.inl _=>some (true,())
   |.inr _=>none
  |.inr _=>none
 |false=>match(ilt 60 (AM a0.2.1))with
 |true=>some (false,())
 |false=>match(ilt 60 (AM a0.2.2.1))with
 |true=>some (false,())
 |false=>match AU CH many (a0.1,a0.2.1,a0.2.2.1,0,())with|none=>none|some r=>match r with
 |.inl (o15,_)=>some (o15,())
 |.inr r=>match r with
 |.inl (o16,o17,o18,_)=>match AU CG many (o16,o17,o18,0,())with|none=>none|some r=>match r with
  |.inl (o19,_)=>some (o19,())
  |.inr r=>match r with
  |.inl _=>some (true,())
  |.inr _=>none
 |.inr _=>none
def Q4[Lk]:=fun v=>Lk.f (Nq v)
theorem ABt v:Q4 v=Nq v:=AJ _
abbrev ABD:AE:=[(.tmp 0,.dat Ue),(.tmp 1,.dat Ue)]
abbrev ABC:AE:=[(.tmp 0,.dat .bool)]
abbrev ABB:List RS:=[.one]
abbrev AIN:AE:=[(.tmp 2,.box 3),(.cell 0 0,.di),(.cell 0 1,.dat Uu),(.cell 0 2,.dat Vg),(.tmp 3,.box 3),(.cell 1 0,.di),(.cell 1 1,.dat Uu),(.cell 1 2,.dat Vg),(.tmp 5,.di)]
abbrev AIM:Ao:=[(.ret,[(.tmp 4,.dat .bool)]),(.exit 0,[])]
def Tp[Lk]:(Int×List U1×List Ua×Int×List U1×List Ua×Int×Unit)→Option ((Int×List U1×List Ua×Int×List U1×List Ua×Int×Unit)⊕Uf⊕(Unit)⊕Unit):=fun(a0,a1,a2,a3,a4,a5,a6,_)=>
 match(ilt a6 (AM a2))with
 |true=>match idx a2 a6 with|none=>none|some x0=>match idx a5 a6 with|none=>none|some x1=>match(!(ieq x0.1 x1.1&&(ieq x0.2.1 x1.2.1&&(ieq x0.2.2.1 x1.2.2.1&&true))))with
  |true=>some (.inr (.inl (false,())))
  |false=>some (.inl (a0,a1,a2,a3,a4,a5,(IntKind.wrap .i64 (a6+1)),()))
 |false=>some (.inr (.inr (.inl ())))
def ABF[Lk]:(Uq×Uq×Unit)→Option (Uf):=fun(a0,a1,_)=>
 match(!(ieq a0.1 a1.1))with
 |true=>some (false,())
 |false=>match(!(ieq (AM a0.2.2.1) (AM a1.2.2.1)))with
 |true=>some (false,())
 |false=>match ALe (a0.2.1,a1.2.1,())with|none=>none|some (y0,_)=>match(!y0)with
 |true=>some (false,())
 |false=>match AU Tp many (a0.1,a0.2.1,a0.2.2.1,a1.1,a1.2.1,a1.2.2.1,0,())with|none=>none|some r=>match r with
 |.inl (o1,_)=>some (o1,())
 |.inr r=>match r with
 |.inl _=>some (true,())
 |.inr _=>none
def ABG[Lk]:=fun v=>Lk.f (ABF v)
theorem AdA v:ABG v=ABF v:=AJ _
end
end Go.Pev
end
section
namespace Go.Pev
noncomputable section
attribute [local irreducible] Oz LD OR Oc Ajo Ajp Ajq Q9 AGv Qv Yw LO Aj many IntKind.wrap AM Az AY BT Bv F8 D4 AN Bs B7 imax AR Ad
abbrev Vo:AE:=[(.tmp 0,.dat Ut),(.tmp 1,.dat Ue),(.tmp 2,.dat Vc)]
abbrev VZ:AE:=[(.tmp 0,.dat .bool)]
abbrev VY:List RS:=[.one]
def N0[Lk]:(V0×Uq×Vn×Unit)→Option (Uf):=fun(a0,a1,a2,_)=>
 match(ilt 30 (AM a0.2.1))with
 |true=>some (true,())
 |false=>match(ilt 12 a0.1)with
 |true=>some (true,())
 |false=>match(ilt 30 (IntKind.wrap .i64 ((AM a1.2.1)+(AM a1.2.2.1))))with
 |true=>some (true,())
 |false=>some ((ilt 60 (AM a2.2.2.1.2.2.1)),())
def N1[Lk]:=fun v=>Lk.f (N0 v)
theorem AD1 v:N1 v=N0 v:=AJ _
abbrev Wm:AE:=[]
abbrev Wl:AE:=[(.tmp 0,.dat .bool)]
abbrev Wk:List RS:=[.one]
def Wn[Lk]:(Unit)→Option (Uf):=fun _=>
 match GF ((5,(([(1,(2,(0,(true,()))))]:List U3),())),(1,(([(2,(1,())),(4,(0,())),(3,(3,())),(0,(4,()))]:List U1),(([]:List Ua),()))),(8,(4,((1,(1,(([]:List U5),()))),()))),())with|none=>none|some (y0,y1,y2,y3,y4,_)=>match GF ((5,(([(1,(2,(0,(true,()))))]:List U3),())),(2,(([(2,(1,())),(4,(0,())),(3,(3,())),(0,(4,()))]:List U1),(([]:List Ua),()))),(8,(4,((1,(1,(([]:List U5),()))),()))),())with|none=>none|some (y5,y6,y7,y8,y9,_)=>match GF ((5,(([(1,(2,(0,(true,()))))]:List U3),())),(3,(([]:List U1),(([(4,(99,(0,())))]:List Ua),()))),(8,(4,((1,(1,(([]:List U5),()))),()))),())with|none=>none|some (y10,y11,y12,y13,y14,_)=>match GF ((5,(([(1,(2,(0,(true,()))))]:List U3),())),(2,(([(5,(0,()))]:List U1),(([]:List Ua),()))),(8,(4,((1,(1,(([]:List U5),()))),()))),())with|none=>none|some (y15,y16,y17,y18,y19,_)=>match(ieq y4 0)with
 |true=>match(ieq y9 0)with
  |true=>match(ieq y14 0)with
   |true=>match(ieq y19 10)with
    |true=>match(ieq y3 y8)with
     |true=>match(ilt 0 y3)with
      |true=>match(ieq y13 0)with
       |true=>match ABG ((y0,(y1,(y2,()))),(1,(([(0,(4,()))]:List U1),(([]:List Ua),()))),())with|none=>none|some (y20,_)=>match y20 with
        |true=>match ABG ((y5,(y6,(y7,()))),(2,(([(1,(2,()))]:List U1),(([]:List Ua),()))),())with|none=>none|some (y21,_)=>match y21 with
         |true=>match(ieq (AM y12) 1)with
          |true=>match AJ0 ((5,(([(1,(2,(0,(true,()))))]:List U3),())),())with|none=>none|some (y22,_)=>match(ieq y22 399)with
           |true=>match AFm ((0,(([(2,(1,())),(4,(0,())),(3,(3,())),(0,(4,()))]:List U1),(([]:List Ua),()))),())with|none=>none|some (y23,_)=>match(ieq (AM y23) 8)with
            |true=>match Abz ((y0,(y1,(y2,()))),(y0,(y1,(y2,()))),())with|none=>none|some (y24,_)=>some (y24,())
            |false=>some (false,())
           |false=>some (false,())
          |false=>some (false,())
         |false=>some (false,())
        |false=>some (false,())
       |false=>some (false,())
      |false=>some (false,())
     |false=>some (false,())
    |false=>some (false,())
   |false=>some (false,())
  |false=>some (false,())
 |false=>some (false,())
def Iu[Lk]:=fun v=>Lk.f (Wn v)
theorem AaG v:Iu v=Wn v:=AJ _
abbrev ABJ:AE:=[(.tmp 0,.dat Ut),(.tmp 1,.dat Ut)]
abbrev ABI:AE:=[(.tmp 0,.dat .bool)]
abbrev ABH:List RS:=[.one]
abbrev AIP:AE:=[(.tmp 2,.box 2),(.cell 0 0,.di),(.cell 0 1,.dat V4),(.tmp 3,.box 2),(.cell 1 0,.di),(.cell 1 1,.dat V4),(.tmp 5,.di)]
abbrev AIO:Ao:=[(.ret,[(.tmp 4,.dat .bool)]),(.exit 0,[])]
def Ec[Lk]:(Int×List U3×Int×List U3×Int×Unit)→Option ((Int×List U3×Int×List U3×Int×Unit)⊕Uf⊕(Unit)⊕Unit):=fun(a0,a1,a2,a3,a4,_)=>
 match(ilt a4 (AM a1))with
 |true=>match idx a1 a4 with|none=>none|some x0=>match idx a3 a4 with|none=>none|some x1=>match(!(ieq x0.1 x1.1&&(ieq x0.2.1 x1.2.1&&(ieq x0.2.2.1 x1.2.2.1&&((x0.2.2.2.1==x1.2.2.2.1)&&true)))))with
  |true=>some (.inr (.inl (false,())))
  |false=>some (.inl (a0,a1,a2,a3,(IntKind.wrap .i64 (a4+1)),()))
 |false=>some (.inr (.inr (.inl ())))
def Qx[Lk]:(V0×V0×Unit)→Option (Uf):=fun(a0,a1,_)=>
 match(!(ieq a0.1 a1.1))with
 |true=>some (false,())
 |false=>match(!(ieq (AM a0.2.1) (AM a1.2.1)))with
 |true=>some (false,())
 |false=>match AU Ec many (a0.1,a0.2.1,a1.1,a1.2.1,0,())with|none=>none|some r=>match r with
 |.inl (o0,_)=>some (o0,())
 |.inr r=>match r with
 |.inl _=>some (true,())
 |.inr _=>none
def Tq[Lk]:=fun v=>Lk.f (Qx v)
theorem AIQ v:Tq v=Qx v:=AJ _
abbrev H7:AE:=[(.tmp 0,.dat Ut),(.tmp 1,.dat Ue),(.tmp 2,.dat Vc)]
abbrev H6:AE:=[(.tmp 0,.dat .bool)]
abbrev H5:List RS:=[.one]
abbrev L0:AE:=[(.tmp 3,.box 2),(.cell 0 0,.di),(.cell 0 1,.dat V4),(.tmp 4,.box 3),(.cell 1 0,.di),(.cell 1 1,.dat Uu),(.cell 1 2,.dat Vg),(.tmp 7,.box 2),(.cell 2 0,.di),(.cell 2 1,.dat V4),(.tmp 10,.di),(.tmp 11,.own 3 U0),(.tmp 12,.dat .bool),(.tmp 13,.di)]
abbrev Lz:Ao:=[(.exit 0,[(.tmp 3,.box 2),(.cell 0 0,.di),(.cell 0 1,.dat V4),(.tmp 4,.box 3),(.cell 1 0,.di),(.cell 1 1,.dat Uu),(.cell 1 2,.dat Vg),(.tmp 7,.box 2),(.cell 2 0,.di),(.cell 2 1,.dat V4),(.tmp 10,.di),(.tmp 12,.dat .bool)])]
def Bz[Lk]:(Int×List U3×Int×List U1×List Ua×Int×List U3×Int×List Int×Bool×Int×Unit)→Option ((Int×List U3×Int×List U1×List Ua×Int×List U3×Int×List Int×Bool×Int×Unit)⊕(Int×List U3×Int×List U1×List Ua×Int×List U3×Int×Bool×Unit)⊕Unit):=fun(a0,a1,a2,a3,a4,a5,a6,a7,a8,a9,a10,_)=>
 match(ilt a10 (AM a8))with
 |true=>match a9 with
  |true=>some (.inl (a0,a1,a2,a3,a4,a5,a6,a7,a8,true,(IntKind.wrap .i64 (a10+1)),()))
  |false=>match idx a8 a10 with|none=>none|some x0=>match(ilt (AY a8 (AN a10) 0) 0)with
  |true=>some (.inl (a0,a1,a2,a3,a4,a5,a6,a7,a8,true,(IntKind.wrap .i64 (a10+1)),()))
  |false=>match idx a8 a10 with|none=>none|some x1=>some (.inl (a0,a1,a2,a3,a4,a5,a6,a7,a8,(ile a0 (AY a8 (AN a10) 0)),(IntKind.wrap .i64 (a10+1)),()))
 |false=>some (.inr (.inl (a0,a1,a2,a3,a4,a5,a6,a7,a9,())))
def FJ[Lk]:(V0×Uq×Vn×Unit)→Option (Uf):=fun(a0,a1,a2,_)=>
 match Iu ()with|none=>none|some (y0,_)=>match(!y0)with
 |true=>some (false,())
 |false=>match N1 ((a0.1,(a0.2.1,())),(a1.1,(a1.2.1,(a1.2.2.1,()))),(a2.1,(a2.2.1,((a2.2.2.1.1,(a2.2.2.1.2.1,(a2.2.2.1.2.2.1,()))),()))),())with|none=>none|some (y1,_)=>match y1 with
 |true=>some (true,())
 |false=>match(fits ((AM ([]:List U3))+(AM a0.2.1)))with
 |true=>match GF ((a0.1,((BT ([]:List U3) a0.2.1),())),(a1.1,(a1.2.1,(a1.2.2.1,()))),(a2.1,(a2.2.1,((a2.2.2.1.1,(a2.2.2.1.2.1,(a2.2.2.1.2.2.1,()))),()))),())with|none=>none|some (y2,y3,y4,y5,y6,_)=>match AFm ((a1.1,(a1.2.1,(a1.2.2.1,()))),())with|none=>none|some (y7,_)=>match AU Bz many (a0.1,a0.2.1,a1.1,a1.2.1,a1.2.2.1,a0.1,(BT ([]:List U3) a0.2.1),y6,y7,false,0,())with|none=>none|some r=>match r with
  |.inl (o8,o9,o10,o11,o12,o13,o14,o15,o16,_)=>match G6 ((o8,(o9,())),())with|none=>none|some (y17,_)=>match y17 with
   |true=>match Q4 ((o10,(o11,(o12,()))),())with|none=>none|some (y18,_)=>match Tq ((o13,(o14,())),(o8,(o9,())),())with|none=>none|some (y19,_)=>match y19 with
    |true=>match y18 with
     |true=>match(!y18)with
      |true=>match(!y18)with
       |true=>some (true,())
       |false=>match o16 with
       |true=>some (true,())
       |false=>some ((!(ieq o15 10)),())
      |false=>match(!o16)with
      |true=>match(!y18)with
       |true=>some (true,())
       |false=>match o16 with
       |true=>some (true,())
       |false=>some ((!(ieq o15 10)),())
      |false=>match(ieq o15 10)with
      |true=>match(!y18)with
       |true=>some (true,())
       |false=>match o16 with
       |true=>some (true,())
       |false=>some ((!(ieq o15 10)),())
      |false=>some (false,())
     |false=>match(ieq o15 1)with
     |true=>match(!y18)with
      |true=>match(!y18)with
       |true=>some (true,())
       |false=>match o16 with
       |true=>some (true,())
       |false=>some ((!(ieq o15 10)),())
      |false=>match(!o16)with
      |true=>match(!y18)with
       |true=>some (true,())
       |false=>match o16 with
       |true=>some (true,())
       |false=>some ((!(ieq o15 10)),())
      |false=>match(ieq o15 10)with
      |true=>match(!y18)with
       |true=>some (true,())
       |false=>match o16 with
       |true=>some (true,())
       |false=>some ((!(ieq o15 10)),())
      |false=>some (false,())
     |false=>some (false,())
    |false=>some (false,())
   |false=>match Tq ((o13,(o14,())),(o8,(o9,())),())with|none=>none|some (y20,_)=>match y20 with
   |true=>match(ieq o15 1)with
    |true=>some (true,())
    |false=>some (false,())
   |false=>some (false,())
  |.inr _=>none
 |false=>none
def Dr[Lk]:=fun v=>Lk.f (FJ v)
theorem L3 v:Dr v=FJ v:=AJ _
end
end Go.Pev
end
section

end
section
namespace Go.Pev.Pl
theorem AOu:Iu ()=some (true,()):=by
 rw[show Iu () = @Iu idI ()from Aq7 (fun i=>@Iu i ()) ADd]
 kernel_rfl
end Go.Pev.Pl
end
section
namespace Go.Pev.Pl
theorem Ah{n:Int}(h:-9223372036854775808≤n∧n≤9223372036854775807):IntKind.wrap .i64 n=n:=IntWalk.i64_in n h
section
variable {α:Type} [Inhabited α]
theorem A4{d:Array α}{n:Nat}(h:n<d.size):idx d.toList (n:Int)=some d[n]! := by
 rw[idx_eq,OR,Apg (by omega)]
 simp[h]
theorem BZ{d:Array α}{n:Nat}{z:α}(h:n<d.size):AY d.toList (AN (n:Int)) z=d[n]! := by
 simp[AY,AN,h]
theorem Iq{d:Array α}{n:Nat}{x:α}:Az d.toList (AN (n:Int)) x=(d.setIfInBounds n x).toList:=by
 simp[Az,AN]
theorem Abr{d:Array α}:AM d.toList=(d.size:Int):=by simp[AM]
theorem JZ(d:Array α)(i j:Nat):(d.setIfInBounds i d[j]!).setIfInBounds j d[i]! = Go.Sort.swp d i j:=rfl
theorem size_swp(d:Array α)(i j:Nat):(Go.Sort.swp d i j).size=d.size:=by simp[Go.Sort.swp]
end
theorem AL(a b:Nat):ilt (a:Int) (b:Int)=decide (a<b):=by rw[Ae];simp
theorem DF(a b:Nat):ile (a:Int) (b:Int)=decide (a≤b):=by rw[An];simp
theorem AM5(a b:Nat):ieq (a:Int) (b:Int)=decide (a=b):=by
 rw[CN]
 by_cases h:a=b
 ·simp[h]
 ·simp[h];omega
section
theorem wrap_add{a b:Nat}(h:a+b<9223372036854775808):IntKind.wrap .i64 ((a:Int)+(b:Int))=((a+b:Nat):Int):=by rw[Ah (by omega)];omega
theorem AP{a:Nat}(h:a+1<9223372036854775808):IntKind.wrap .i64 ((a:Int)+1)=((a+1:Nat):Int):=by rw[Ah (by omega)];omega
theorem AcG{a:Nat}(h:2*a<9223372036854775808):IntKind.wrap .i64 ((2:Int)*(a:Int))=((2*a:Nat):Int):=by rw[Ah (by omega)];omega
theorem AcF{a:Nat}(h:a<9223372036854775808):IntKind.wrap .i64 ((a:Int)*1)=((a*1:Nat):Int):=by rw[Ah (by omega)];omega
theorem Nc{a:Nat}(h:a*2<9223372036854775808):IntKind.wrap .i64 ((a:Int)*2)=((a*2:Nat):Int):=by rw[Ah (by omega)];omega
theorem AcE{a:Nat}(h:a*3<9223372036854775808):IntKind.wrap .i64 ((a:Int)*3)=((a*3:Nat):Int):=by rw[Ah (by omega)];omega
theorem DJ{a b:Nat}(h:b≤a∧a<9223372036854775808):IntKind.wrap .i64 ((a:Int)-(b:Int))=((a-b:Nat):Int):=by rw[Ah (by omega)];omega
theorem BA{a:Nat}(h:1≤a∧a<9223372036854775808):IntKind.wrap .i64 ((a:Int)-1)=((a-1:Nat):Int):=by rw[Ah (by omega)];omega
theorem An2{a:Nat}(h:a<9223372036854775808):quo? .i64 (a:Int) 2=some ((a/2:Nat):Int):=by
 rw[Pa,Q9,Apg (by omega),Ars (by omega),Ah (by omega)];rfl
theorem Aav{a:Nat}(h:a<9223372036854775808):quo? .i64 (a:Int) 4=some ((a/4:Nat):Int):=by
 rw[Pa,Q9,Apg (by omega),Ars (by omega),Ah (by omega)];rfl
theorem ApB{a:Nat}(h:a<9223372036854775808):quo? .i64 (a:Int) 8=some ((a/8:Nat):Int):=by
 rw[Pa,Q9,Apg (by omega),Ars (by omega),Ah (by omega)];rfl
end
end Go.Pev.Pl
end
section
namespace Go.Pev.Pl
section
variable {α:Type}
theorem Lu{xs:List α}{n:Nat}(z:α)(h:n<xs.length):idx xs (n:Int)=some (xs.getD n z):=by
 rw[idx_eq,OR,Apg (by omega)]
 simp[h]
theorem Aon{xs:List α}{n:Nat}(h:n<xs.length):∃ x,idx xs (n:Int)=some x:=by
 rw[idx_eq,OR,Apg (by omega)]
 exact⟨xs[n],by simp[h]⟩
theorem AM6(xs:List α)(n:Nat):idx xs (n:Int)=xs[n]? := by
 rw[idx_eq,OR,Apg (by omega)]
 simp
theorem Ju(xs:List α):idx xs (0:Int)=xs.head? := by
 rw[idx_eq,OR,Apg (by omega)]
 cases xs<;>rfl
theorem QC(xs:List α)(n:Nat)(z:α):AY xs (AN (n:Int)) z=xs.getD n z:=by simp[AY,AN]
theorem DW(xs:List α)(n:Nat)(x:α):Az xs (AN (n:Int)) x=xs.set n x:=by simp[Az,AN]
theorem AS(xs:List α):AM xs=(xs.length:Int):=rfl
theorem AEm(n:Nat):AN (n:Int)=n:=by simp[AN]
theorem ET(xs ys:List α):BT xs ys=xs++ys:=rfl
theorem AK6{xs:List α}{l h:Nat}(h1:l≤h)(h2:h≤xs.length):EG xs (l:Int) (h:Int)=some ((xs.take h).drop l):=by
 rw[ZW,Oc,Apk (by omega)]
 simp
end
theorem Bj{n:Int}(h:n≤4294967296):fits n=true:=(Gf n).2 h
theorem LP{α:Type}{xs:List α}(h:xs.length≤4294967296):QI xs=some xs:=by
 rw[AJn,LO,(Vr _).2 (by rw[AS];omega)]
theorem ASs{α β:Type}(xs:List α)(ys:List β):ieq (AM xs) (AM ys)=decide (xs.length=ys.length):=by rw[AS,AS,AM5]
theorem Ag(a b:Int):ieq a b=decide (a=b):=by
 rw[CN]
 by_cases h:a=b<;>simp[h]
def walk{α β ρ:Type}(f:β→α→α⊕ρ)(fin:α→ρ):List β→α→ρ
 |[],a=>fin a
 |x::xs,a=>match f x a with
  |.inl a=>walk f fin xs a
  |.inr r=>r
theorem AcJ{σ ρ α β:Type}{step:σ→Option (σ⊕ρ)}(st:Nat→α→σ)(xs:List β)(f:β→α→α⊕ρ)(fin:α→ρ)(I:Nat→α→Prop)
  (h:∀ i x a,i<xs.length→xs[i]? = some x→I i a→(∀ a',f x a = .inl a'→step (st i a)=some (.inl (st (i+1) a'))∧I (i+1) a')∧(∀ r,f x a = .inr r→step (st i a)=some (.inr r)))
  (hN:∀ a,I xs.length a→step (st xs.length a)=some (.inr (fin a))) :
  ∀ (m i n:Nat) (a:α),xs.length-i=m→i≤xs.length→m<n→I i a→Aj step n (st i a)=some (walk f fin (xs.drop i) a):=by
 intro m
 induction m with
 |zero=>
  intro i n a hk hi hn hI
  obtain⟨n,rfl⟩:∃ k,n=k+1:=⟨n-1,by omega⟩
  have e:i=xs.length:=by omega
  subst e
  rw[Aj,hN a hI,List.drop_length]
  rfl
 |succ m ih=>
  intro i n a hk hi hn hI
  obtain⟨n,rfl⟩:∃ k,n=k+1:=⟨n-1,by omega⟩
  have hi':i<xs.length:=by omega
  obtain⟨g1,g2⟩:=h i xs[i] a hi' (by simp[hi']) hI
  rw[AqL hi',walk,Aj]
  cases hf:f xs[i] a with
  |inl a'=>
   obtain⟨e,hI'⟩:=g1 a' hf
   rw[e]
   exact ih (i+1) n a' (by omega) (by omega) (by omega) hI'
  |inr r=>rw[g2 r hf]
theorem Es{σ ρ α β:Type}{step:σ→Option (σ⊕ρ)}(st:Nat→α→σ)(xs:List β)(f:β→α→α⊕ρ)(fin:α→ρ)(I:Nat→α→Prop)(hs:xs.length<9223372036854775808)
  (h:∀ i x a,i<xs.length→xs[i]? = some x→I i a→(∀ a',f x a = .inl a'→step (st i a)=some (.inl (st (i+1) a'))∧I (i+1) a')∧(∀ r,f x a = .inr r→step (st i a)=some (.inr r)))
  (hN:∀ a,I xs.length a→step (st xs.length a)=some (.inr (fin a))) (a:α) (h0:I 0 a):AU step many (st 0 a)=some (walk f fin xs a):=by
 have hm:9223372036854775808<many:=by simp only[many];omega
 rw[A3,AcJ st xs f fin I h hN xs.length 0 many a (by omega) (by omega) (by omega) h0]
 rfl
theorem Rk{α:Type}{xs ys:List α}(z:α)(hl:xs.length=ys.length)(h:∀ j,j<xs.length→xs.getD j z=ys.getD j z):xs=ys:=by
 apply Ar1 hl
 intro i h1 h2
 have:=h i h1
 simpa [h1,h2]using this
theorem Ac5{σ ρ:Type}{step:σ→Option (σ⊕ρ)}(st:Nat→σ)(N:Nat)(P:Nat→Bool)(rt:Nat→ρ)(rf:ρ)
  (h:∀ i,i<N→step (st i)=if P i then some (.inr (rt i))else some (.inl (st (i+1)))) (hN:step (st N)=some (.inr rf)) :
  ∀ (m i n:Nat),N-i=m→i≤N→m<n→(∃ k,i≤k∧k<N∧P k=true∧(∀ j,i≤j→j<k→P j=false)∧Aj step n (st i)=some (rt k))∨((∀ j,i≤j→j<N→P j=false)∧Aj step n (st i)=some rf):=by
 intro m
 induction m with
 |zero=>
  intro i n hk hi hn
  obtain⟨n,rfl⟩:∃ k,n=k+1:=⟨n-1,by omega⟩
  have e:i=N:=by omega
  subst e
  exact .inr ⟨fun j h1 h2=>by omega,by rw[Aj,hN]⟩
 |succ m ih=>
  intro i n hk hi hn
  obtain⟨n,rfl⟩:∃ k,n=k+1:=⟨n-1,by omega⟩
  have hi':i<N:=by omega
  cases hP:P i
  ·have e:Aj step (n+1) (st i)=Aj step n (st (i+1)):=by rw[Aj,h i hi',hP];rfl
   rw[e]
   rcases ih (i+1) n (by omega) (by omega) (by omega)with⟨k,h1,h2,h3,h4,h5⟩|⟨h1,h2⟩
   ·refine .inl ⟨k,by omega,h2,h3,fun j a1 a2 => ?_,h5⟩
    by_cases ej:j=i
    ·subst ej;exact hP
    ·exact h4 j (by omega) a2
   ·refine .inr ⟨fun j a1 a2 => ?_,h2⟩
    by_cases ej:j=i
    ·subst ej;exact hP
    ·exact h1 j (by omega) a2
  ·exact .inl ⟨i,Apj _,hi',hP,fun j a1 a2=>by omega,by rw[Aj,h i hi',hP];rfl⟩
theorem Ahf{σ ρ:Type}{step:σ→Option (σ⊕ρ)}(st:Nat→σ)(N:Nat)(P:Nat→Bool)(rt:Nat→ρ)(rf:ρ)(hs:N<9223372036854775808)
  (h:∀ i,i<N→step (st i)=if P i then some (.inr (rt i))else some (.inl (st (i+1)))) (hN:step (st N)=some (.inr rf)) :
  (∃ k,k<N∧P k=true∧(∀ j,j<k→P j=false)∧AU step many (st 0)=some (rt k))∨((∀ j,j<N→P j=false)∧AU step many (st 0)=some rf):=by
 have hm:9223372036854775808<many:=by simp only[many];omega
 rw[A3]
 rcases Ac5 st N P rt rf h hN N 0 many rfl (by omega) (by omega)with⟨k,h1,h2,h3,h4,h5⟩|⟨h1,h2⟩
 ·exact .inl ⟨k,h2,h3,fun j a=>h4 j (by omega) a,h5⟩
 ·exact .inr ⟨fun j a=>h1 j (by omega) a,h2⟩
end Go.Pev.Pl
end
section
namespace Go.Pev.Pl
section
variable {β:Type}
def BC(es:List (Int×β)):List Int:=es.map Prod.fst
theorem VO(es:List (Int×β)):(BC es).length=es.length:=by simp[BC]
theorem Di(es:List (Int×β))(k:Int)(v:β)(j:Int):AR (Ad es k v) j=if j=k then some v else AR es j:=by
 induction es with
 |nil=>
  simp only[Ad,AR]
  by_cases h:k=j
  ·simp[h]
  ·simp[h,AqS h]
 |cons e es ih=>
  obtain⟨a,b⟩:=e
  simp only[Ad]
  by_cases h:a=k
  ·subst h
   simp only[AqI,AR]
   by_cases h2:a=j
   ·simp[h2]
   ·simp[h2,AqS h2]
  ·simp only[h,Apr,AR,ih]
   by_cases h2:a=j
   ·subst h2;simp[h]
   ·simp[h2]
theorem Pq(es:List (Int×β))(k:Int)(v:β):BC (Ad es k v)=if k∈BC es then BC es else BC es++[k]:=by
 induction es with
 |nil=>rfl
 |cons e es ih=>
  obtain⟨a,b⟩:=e
  simp only[Ad]
  by_cases h:a=k
  ·subst h;simp[BC]
  ·simp only[h,Apr]
   show a::BC (Ad es k v)=_
   rw[ih]
   have:k∈BC ((a,b)::es)↔k∈BC es:=by simp[BC,AqS h]
   simp only[this]
   split<;>rfl
theorem X5(es:List (Int×β))(k:Int):AR es k=none↔k∉BC es:=by
 induction es with
 |nil=>simp[AR,BC]
 |cons e es ih=>
  obtain⟨a,b⟩:=e
  simp only[AR]
  by_cases h:a=k
  ·simp[h,BC]
  ·simp only[h,Apr,ih]
   simp[BC,AqS h]
theorem E1(es:List (Int×β))(k:Int)(v:β)(j:Int):j∈BC (Ad es k v)↔j=k∨j∈BC es:=by
 rw[Pq]
 split
 ·rename_i h
  constructor
  ·exact .inr
  ·rintro (rfl|h2)
   ·exact h
   ·exact h2
 ·simp[or_comm]
theorem Jn{es:List (Int×β)}(h:(BC es).Nodup)(k:Int)(v:β):(BC (Ad es k v)).Nodup:=by
 rw[Pq]
 split
 ·exact h
 ·rename_i hk
  rw[Aq9]
  exact⟨h,by simp,fun a ha b hb=>by rintro rfl;simp at hb;exact hk (hb▸ha)⟩
end
def dd:List Int→List Int→List Int
 |ks,[]=>ks
 |ks,x::xs=>dd (if x∈ks then ks else ks++[x]) xs
theorem Aow:∀ (xs ks:List Int),(dd ks xs).length≤ks.length+xs.length∧((dd ks xs).length=ks.length+xs.length↔xs.Nodup∧∀ x∈xs,x∉ks):=by
 intro xs
 induction xs with
 |nil=>intro ks;simp[dd]
 |cons x xs ih=>
  intro ks
  rw[dd]
  by_cases h:x∈ks
  ·obtain⟨h1,_⟩:=ih ks
   rw[Apk h]
   refine⟨by simp only[Api];omega,?_,fun hh=>absurd h (hh.2 x (by simp))⟩
   intro e
   simp only[Api]at e
   omega
  ·obtain⟨h1,h2⟩:=ih (ks++[x])
   rw[Apg h]
   simp only[Apd,Api,Apt,Aqq]at h1 h2 ⊢
   refine⟨by omega,?_⟩
   rw[show ks.length+(xs.length+1)=ks.length+1+xs.length by omega,h2,Ap9]
   constructor
   ·rintro⟨g1,g2⟩
    refine⟨⟨fun hx=>g2 x hx (by simp),g1⟩,fun y hy => ?_⟩
    rcases Ape.1 hy with rfl|hy
    ·exact h
    ·exact fun hk=>g2 y hy (by simp[hk])
   ·rintro⟨⟨g1,g2⟩,g3⟩
    refine⟨g2,fun y hy hk => ?_⟩
    simp only[Apc,AqG]at hk
    rcases hk with hk|rfl
    ·exact g3 y (by simp[hy]) hk
    ·exact g1 hy
theorem Akj(xs:List Int):(dd [] xs).length=xs.length↔xs.Nodup:=by
 have:=(Aow xs []).2
 simpa using this
theorem CP{α β ρ:Type}(g:β→α→α)(fin:α→ρ):∀ (xs:List β) (a:α),walk (fun x a=>.inl (g x a)) fin xs a=fin (xs.foldl (fun a x=>g x a) a):=by
 intro xs
 induction xs with
 |nil=>intro a;rfl
 |cons x xs ih=>intro a;rw[walk,Aqd];exact ih _
theorem Io{σ ρ β:Type}{step:σ→Option (σ⊕ρ)}(st:Nat→σ)(xs:List β)(P:β→Bool)(rt:Nat→ρ)(rf:ρ)(hs:xs.length<9223372036854775808)
  (h:∀ i x,i<xs.length→xs[i]? = some x→step (st i)=if P x then some (.inr (rt i))else some (.inl (st (i+1)))) (hN:step (st xs.length)=some (.inr rf)) :
  AU step many (st 0)=some (if xs.any P then rt (xs.findIdx P)else rf):=by
 have key:∀ (l:List β) (a:Nat),walk (fun x (a:Nat)=>if P x then .inr (rt a)else .inl (a+1)) (fun _=>rf) l a=if l.any P then rt (a+l.findIdx P)else rf:=by
  intro l
  induction l with
  |nil=>intro a;rfl
  |cons x l ih=>
   intro a
   rw[walk,List.any_cons,AsK]
   by_cases hx:P x=true
   ·simp[hx]
   ·simp only[hx,Apo,Apr,Bool.false_or,cond_false]
    rw[ih,show a+1+List.findIdx P l=a+(List.findIdx P l+1) by omega]
 have:=Es (step:=step) (fun i (a:Nat)=>st a) xs (fun x (a:Nat)=>if P x then .inr (rt a)else .inl (a+1)) (fun _=>rf) (fun i a=>a=i) hs
  (fun i x a hi hx ha=>by
   subst ha
   refine⟨fun a' h' => ?_,fun r h' => ?_⟩
   ·rw[h a x hi hx]
    split at h'
    ·cases h'
    ·rename_i hp
     cases h'
     simp[hp]
   ·rw[h a x hi hx]
    split at h'
    ·rename_i hp
     cases h'
     simp[hp]
    ·cases h')
  (fun a ha=>by subst ha;exact hN) 0 rfl
 rw[this,key,Aqq]
theorem AW{α:Type}{xs:List α}{n:Nat}{x:α}(h:xs[n]? = some x):idx xs (n:Int)=some x:=by rw[AM6,h]
theorem BJ{α:Type}{xs:List α}{n:Nat}{x z:α}(h:xs[n]? = some x):AY xs (AN (n:Int)) z=x:=by
 rw[QC,Apa,h];rfl
theorem AAt{α:Type}{xs:List α}{h:Nat}(h2:h≤xs.length):EG xs (0:Int) (h:Int)=some (xs.take h):=by
 have:=AK6 (xs:=xs) (l:=0) (ArZ h) h2
 simpa using this
theorem Qq{α:Type}{xs:List α}{l:Nat}(h1:l≤xs.length):EG xs (l:Int) (AM xs)=some (xs.drop l):=by
 have:=AK6 (xs:=xs) h1 (Apj _)
 rw[AqF]at this
 exact this
def pos(xs:List Int)(t:Int):Int:=if t∈xs then((xs.findIdx (fun x=>decide (x=t)):Nat):Int)else -1
theorem Anr(xs:List Int)(t:Int):(xs.any fun x=>decide (x=t))=decide (t∈xs):=by
 induction xs with
 |nil=>rfl
 |cons x xs ih=>simp only[List.any_cons,ih,Ape,Bool.decide_or];congr 1;exact Aqs.2 eq_comm
theorem AiS{xs:List Int}{t:Int}(h:t∈xs):∃ k:Nat,pos xs t=(k:Int)∧k<xs.length∧xs[k]? = some t∧xs=xs.take k++t::xs.drop (k+1)∧t∉xs.take k:=by
 have hk:xs.findIdx (fun x=>decide (x=t))<xs.length:=AsF.2 ⟨t,h,by simp⟩
 have hg:xs[xs.findIdx (fun x=>decide (x=t))]'hk=t:=by
  have:=List.findIdx_getElem (xs:=xs) (p:=fun x=>decide (x=t)) (w:=hk)
  simpa using this
 refine⟨_,by rw[pos,Apk h],hk,by rw[ApZ hk,hg],?_,?_⟩
 ·conv=>lhs;rw[← Aqh (xs.findIdx (fun x=>decide (x=t))) xs,AqL hk,hg]
 ·intro hm
  obtain⟨j,hj,e⟩:=Asa.1 hm
  have:=List.not_of_lt_findIdx (p:=fun x=>decide (x=t)) (xs:=xs) (i:=j) (by omega)
  simp[e]at this
theorem Aaw{xs:List Int}{t:Int}(h:t∉xs):pos xs t = -1:=by rw[pos,Apg h]
end Go.Pev.Pl
end
section
namespace Go.Pev.Pl
section
variable {α β:Type} [DecidableEq α]
theorem AYB(es:List (α×β))(k:α)(v:β)(j:α):AR (Ad es k v) j=if j=k then some v else AR es j:=by
 induction es with
 |nil=>
  simp only[Ad,AR]
  by_cases h:j=k
  ·rw[Apk h,Apk h.symm]
  ·rw[Apg h,Apg (AqS h)]
 |cons e es ih=>
  obtain⟨a,x⟩:=e
  by_cases h1:a=k
  ·subst h1
   simp only[Ad,AR,AqI]
   by_cases h:j=a
   ·rw[Apk h,Apk h.symm]
   ·rw[Apg h,Apg (AqS h),Apg (AqS h)]
  ·simp only[Ad,AR,h1,Apr,ih]
   by_cases h:a=j
   ·subst h
    rw[Apk rfl,Apg h1,Apk rfl]
   ·rw[Apg h,Apg h]
theorem AIh:∀ (es:List (α×β)) (k:α),Dw es k=none→∀ v,Ad es k v=es++[(k,v)]:=by
 intro es
 induction es with
 |nil=>intro k _ v;rfl
 |cons e es ih=>
  intro k h v
  obtain⟨a,b⟩:=e
  by_cases hk:a=k
  ·simp[Dw,hk]at h
  ·simp only[Dw,hk,Apr,Aso]at h
   simp only[Ad,hk,Apr,ih k h v,Ap2]
theorem AIg:∀ (es:List (α×β)) (k:α) (n:Nat),Dw es k=some n→∀ v,n<es.length∧Ad es k v=es.modify n fun e=>(e.1,v):=by
 intro es
 induction es with
 |nil=>intro k n h;simp[Dw]at h
 |cons e es ih=>
  intro k n h v
  obtain⟨a,b⟩:=e
  by_cases hk:a=k
  ·simp only[Dw,hk,AqI,ApY]at h
   subst h
   simp[Ad,hk]
  ·simp only[Dw,hk,Apr,Apq]at h
   obtain⟨m,hm,rfl⟩:=h
   obtain⟨h1,h2⟩:=ih k m hm v
   simp only[Ad,hk,Apr,Api]
   exact⟨by omega,by rw[h2];rfl⟩
theorem AXp(es:List (α×β))(k:α)(z v:β):(ile (0:Int) (Yy es k)&&ilt (Yy es k) (AM (Ad es k z)))=true∧AeH (Ad es k z) (Yy es k) v=Ad es k v:=by
 rw[An,Ae]
 unfold Yy AeH
 cases h:Dw es k with
 |none=>
  rw[AIh es k h,AIh es k h,Option.getD_none,AqX]
  constructor
  ·rw[ApX (by omega),ApX (by rw[AS,Apd];simp;omega)];rfl
  ·have:∀ (xs:List (α×β)),(xs++[(k,z)]).modify xs.length (fun e=>(e.1,v))=xs++[(k,v)]:=by
    intro xs
    induction xs with
    |nil=>rfl
    |cons x xs ih=>rw[Ap2,Api,List.modify_succ_cons,ih];rfl
   exact this es
 |some n=>
  obtain⟨h1,h2⟩:=AIg es k n h z
  obtain⟨_,h3⟩:=AIg es k n h v
  rw[h2,h3,AqT,AqX]
  constructor
  ·rw[ApX (by omega),ApX (by rw[AS,List.length_modify];omega)];rfl
  ·apply Aqi
   intro i
   simp only[List.getElem?_modify]
   cases es[i]? with
   |none=>split<;>rfl
   |some e=>split<;>rfl
end
end Go.Pev.Pl
end
section
namespace Go.Pev.Pl
section
variable {α:Type} (z:α)
theorem AD3{a o:List α}{m k:Nat}(h:a.drop m=o.drop m)(hk:m≤k):a.getD k z=o.getD k z:=by
 have:=Aq7 (fun l=>l.getD (k-m) z) h
 simp only[Apa,Aqb]at this
 rw[Nat.add_sub_cancel' hk]at this
 simpa [Apa]using this
theorem Lt{xs:List α}{i:Nat}(h:i<xs.length):xs.take (i+1)=xs.take i++[xs.getD i z]:=by
 rw[Aq1 h];simp[h]
theorem Akf{σ ρ:Type}{step:σ→Option (σ⊕ρ)}(st:List α→Nat→Nat→σ)(fin:List α→Nat→ρ)(keep:α→Bool)(o:List α)
  (h:∀ a w j,a.length=o.length→j<o.length→w<j→a.getD j z=o.getD j z→step (st a w j)=some (.inl (if keep (o.getD j z)=true then st (a.set w (o.getD j z)) (w+1) (j+1)else st a w (j+1))))
  (hN:∀ a w,a.length=o.length→step (st a w o.length)=some (.inr (fin a w))) :
  ∀ (k j w:Nat) (a:List α) (cnt:Nat),j+k=o.length→a.length=o.length→w=((o.take j).filter keep).length→a.take w=(o.take j).filter keep→w<j→a.drop j=o.drop j→k<cnt →
  ∃ a':List α,Aj step cnt (st a w j)=some (fin a' (o.filter keep).length)∧a'.length=o.length∧a'.take (o.filter keep).length=o.filter keep:=by
 intro k
 induction k with
 |zero=>
  intro j w a cnt hk hl hw hq hwj hd hn
  obtain⟨cnt,rfl⟩:∃ k,cnt=k+1:=⟨cnt-1,by omega⟩
  have e:j=o.length:=by omega
  subst e
  rw[AqF]at hw hq
  rw[Aj,hN a w hl]
  exact⟨a,by rw[hw],hl,by rw[← hw];exact hq⟩
 |succ k ih=>
  intro j w a cnt hk hl hw hq hwj hd hn
  obtain⟨cnt,rfl⟩:∃ k,cnt=k+1:=⟨cnt-1,by omega⟩
  have g1:=AD3 z hd (Apj j)
  have hdd:a.drop (j+1)=o.drop (j+1):=by
   have:=Aq7 (List.drop 1) hd
   simpa only[ArS]using this
  have hst:(o.take (j+1)).filter keep=(o.take j).filter keep++if keep (o.getD j z)=true then [o.getD j z]else []:=by
   rw[Lt z (by omega),Aqu]
   generalize o.getD j z=v
   by_cases h:keep v=true<;>simp[h]
  rw[Aj,h a w j hl (by omega) hwj g1]
  by_cases hv:keep (o.getD j z)=true
  ·rw[Apk hv]at hst ⊢
   refine ih (j+1) (w+1) (a.set w (o.getD j z)) cnt (by omega) (by simp[hl]) (by rw[hst];simp[hw]) ?_ (by omega) ?_ (by omega)
   ·rw[hst,← hq,Aq1 (by simp;omega)]
    simp[List.take_set_of_le]
   ·rw[List.drop_set_of_lt (by omega)]
    exact hdd
  ·rw[Apg hv]at hst ⊢
   rw[Aqn]at hst
   exact ih (j+1) w a cnt (by omega) hl (by rw[hst];exact hw) (by rw[hst];exact hq) (by omega) hdd (by omega)
theorem Afm{σ ρ σ' ρ':Type}{find:σ'→Option (σ'⊕ρ')}{step:σ→Option (σ⊕ρ)}(st:List α→Nat→Nat→σ)(fin:List α→Nat→ρ)(sf:Nat→σ')(fr:Nat→ρ')(fn:ρ')(keep:α→Bool)(o:List α)(hs:o.length<4294967296)
  (h:∀ a w j,a.length=o.length→j<o.length→w<j→a.getD j z=o.getD j z→step (st a w j)=some (.inl (if keep (o.getD j z)=true then st (a.set w (o.getD j z)) (w+1) (j+1)else st a w (j+1))))
  (hN:∀ a w,a.length=o.length→step (st a w o.length)=some (.inr (fin a w)))
  (f:∀ i,i<o.length→find (sf i)=if keep (o.getD i z)=true then some (.inl (sf (i+1)))else some (.inr (fr i))) (fN:find (sf o.length)=some (.inr fn)) :
  (o.filter keep=o∧AU find many (sf 0)=some fn) ∨
  (∃ k a',k<o.length∧AU find many (sf 0)=some (fr k)∧AU step many (st o k (k+1))=some (fin a' (o.filter keep).length)∧a'.length=o.length∧(o.filter keep).length≤o.length∧a'.take (o.filter keep).length=o.filter keep):=by
 have hm:4294967296<many:=by simp only[many];omega
 have hall:∀ n,(∀ j,j<n→j<o.length→keep (o.getD j z)=true)→(o.take n).filter keep=o.take n:=by
  intro n hj
  rw[Ar5]
  intro x hx
  obtain⟨j,h1,rfl⟩:=Asa.1 hx
  have:=hj j (by omega) (by omega)
  simpa [show j<o.length by omega]using this
 rcases Ahf (step:=find) sf o.length (fun i => !keep (o.getD i z)) fr fn (by omega) (fun i hi=>by rw[f i hi];cases keep (o.getD i z)<;>rfl) fN with⟨k,hk,hP,hF,e⟩|⟨hP,e⟩
 ·right
  have hkf:keep (o.getD k z)=false:=by
   cases hq:keep (o.getD k z)
   ·rfl
   ·rw[hq]at hP;cases hP
  have h1:(o.take k).filter keep=o.take k:=hall k fun j h1 _=>by
   have:=hF j h1
   cases hq:keep (o.getD j z)
   ·rw[hq]at this;cases this
   ·rfl
  have h2:(o.take (k+1)).filter keep=o.take k:=by
   rw[Lt z hk,Aqu,h1,Aqo,hkf]
   simp
  obtain⟨a',e2,e3,e4⟩:=Akf z st fin keep o h hN (o.length-(k+1)) (k+1) k o many (by omega) rfl (by rw[h2,Aps];omega) (by rw[h2]) (by omega) rfl (by omega)
  exact⟨k,a',hk,e,by rw[A3];exact e2,e3,Arh _ _,e4⟩
 ·left
  refine⟨?_,e⟩
  have:=hall o.length fun j _ h2=>by
   have:=hP j h2
   cases hq:keep (o.getD j z)
   ·rw[hq]at this;cases this
   ·rfl
  rwa [AqF]at this
theorem AZm{a:List α}{w:Nat}(h:w≤a.length):(Bs w (a.length-w) z a).take w=a.take w∧(Bs w (a.length-w) z a).length=a.length:=by
 constructor
 ·rw[Bs,List.take_append_of_le_length (by simp;omega),Aro,Nat.min_self]
 ·simp[Bs];omega
end
end Go.Pev.Pl
end
section
namespace Go.Pev.Pl
structure Tsk where
 lo:Nat
 hi:Nat
 up:Option Nat
 wait:Nat
theorem YN{l:List Nat}(hn:l.Nodup){j0:Nat}(hj:j0∈l){Q Q':Nat→Bool}(h:∀ j∈l,j≠j0→Q' j=Q j):
  l.countP Q'+(Q j0).toNat=l.countP Q+(Q' j0).toNat:=by
 induction l with
 |nil=>cases hj
 |cons x l ih=>
  rw[Ap9]at hn
  rw[Ard,Ard]
  by_cases hx:x=j0
  ·subst hx
   have:l.countP Q'=l.countP Q:=by
    refine Aru fun j hjl => ?_
    rw[h j (by simp[hjl]) (by rintro rfl;exact hn.1 hjl)]
   rw[this]
   cases Q x<;>cases Q' x<;>simp
  ·have h1:=h x (by simp) hx
   rw[h1]
   have:=ih hn.2 (by simpa [AqS hx]using hj) (fun j hjl=>h j (by simp[hjl]))
   omega
def KY(ts:List Tsk)(A:List Nat)(j:Nat):Bool:=A.contains j||match ts[j]? with
 |some t=>decide (0<t.wait)
 |none=>false
def IM(ts:List Tsk)(A:List Nat)(i j:Nat):Bool:=match ts[j]? with
 |some t=>decide (t.up=some i)&&KY ts A j
 |none=>false
def kids(ts:List Tsk)(A:List Nat)(i:Nat):Nat:=(List.range ts.length).countP (IM ts A i)
structure Tr(n:Nat)(ts:List Tsk)(A:List Nat)(u:Option Nat):Prop where
 tree:∀ (i:Nat) (t:Tsk),ts[i]? = some t→t.lo<t.hi∧t.hi≤n∧t.wait≤2∧(t.up=none→i=0)∧∀ x,t.up=some x→x<i
 nod:A.Nodup
 act:∀ a∈A,∃ t:Tsk,ts[a]? = some t∧t.wait=0
 leaf:∀ a∈A,∀ (j:Nat) (t:Tsk),ts[j]? = some t→t.up≠some a
 cnt:∀ (i:Nat) (t:Tsk),ts[i]? = some t→t.wait=kids ts A i+(if u=some i then 1 else 0)
theorem Jk{ts:List Tsk}{A:List Nat}{j:Nat}{t:Tsk}(h:ts[j]? = some t):KY ts A j=true↔j∈A∨0<t.wait:=by
 unfold KY;rw[h];simp
theorem Mm{ts:List Tsk}{A:List Nat}{i:Nat}:0<kids ts A i↔∃ (j:Nat) (t:Tsk),ts[j]? = some t∧t.up=some i∧KY ts A j=true:=by
 unfold kids
 rw[List.countP_pos_iff]
 constructor
 ·rintro⟨j,_,h⟩
  unfold IM at h
  cases ht:ts[j]? with
  |none=>rw[ht]at h;cases h
  |some t=>rw[ht]at h;simp only[Apf,Apb]at h;exact⟨j,t,ht,h.1,h.2⟩
 ·rintro⟨j,t,h1,h2,h3⟩
  refine⟨j,AqC.2 (Apn.1 h1).1,?_⟩
  unfold IM
  rw[h1];simp[h2,h3]
theorem Tr.descend{n:Nat}{ts:List Tsk}{A:List Nat}(h:Tr n ts A none):∀ (k i:Nat),ts.length-i≤k→∀ t:Tsk,ts[i]? = some t→KY ts A i=true→A≠[]:=by
 intro k
 induction k with
 |zero=>
  intro i hk t ht
  have:=(Apn.1 ht).1
  omega
 |succ k ih=>
  intro i hk t ht hp
  rcases(Jk ht).1 hp with h1|h1
  ·rintro rfl;cases h1
  ·rw[h.cnt i t ht]at h1
   simp at h1
   obtain⟨j,t',h2,h3,h4⟩:=Mm.1 h1
   have hlt:=(h.tree j t' h2).2.2.2.2 i h3
   have:=(Apn.1 ht).1
   exact ih j (by omega) t' h2 h4
theorem Tr.Ao1{n:Nat}{ts:List Tsk}{A:List Nat}(h:Tr n ts A none):∀ (i:Nat) (t:Tsk),ts[i]? = some t→KY ts A i=true→KY ts A 0=true:=by
 intro i
 induction i using Nat.strongRecOn with
 |ind i ih=>
  intro t ht hp
  cases hu:t.up with
  |none=>
   have:=(h.tree i t ht).2.2.2.1 hu
   subst this;exact hp
  |some x=>
   have hx:=(h.tree i t ht).2.2.2.2 x hu
   have hl:=(Apn.1 ht).1
   have hxs:ts[x]? = some (ts[x]'(by omega)):=ApZ (by omega)
   refine ih x hx _ hxs ((Jk hxs).2 (.inr ?_))
   rw[h.cnt x _ hxs]
   have:=Mm.2 ⟨i,t,ht,hu,hp⟩
   simp;exact this
def fin:Nat→List Tsk→Option Nat→List Tsk×Bool
 |_,ts,none=>(ts,true)
 |0,ts,some _=>(ts,false)
 |k+1,ts,some x=>match ts[x]? with
  |none=>(ts,false)
  |some t=>if t.wait=0 then(ts,false)else if 0<t.wait-1 then(ts.set x { t with wait:=t.wait-1 },false)else fin k (ts.set x { t with wait:=t.wait-1 }) t.up
def Alike(ts ts':List Tsk):Prop:=ts'.length=ts.length∧∀ (i:Nat) (t:Tsk),ts[i]? = some t→∃ t':Tsk,ts'[i]? = some t'∧t'.lo=t.lo∧t'.hi=t.hi∧t'.up=t.up
theorem Alike.refl(ts:List Tsk):Alike ts ts:=⟨rfl,fun _ t h=>⟨t,h,rfl,rfl,rfl⟩⟩
theorem Alike.trans{a b c:List Tsk}(h:Alike a b)(k:Alike b c):Alike a c:=
 ⟨k.1.trans h.1,fun i t ht=>by
  obtain⟨t',h1,h2,h3,h4⟩:=h.2 i t ht
  obtain⟨t'',k1,k2,k3,k4⟩:=k.2 i t' h1
  exact⟨t'',k1,k2.trans h2,k3.trans h3,k4.trans h4⟩⟩
theorem N2{α:Type}{l:List α}{x i:Nat}{a t:α}(h:(l.set x a)[i]? = some t):(i=x∧t=a∧x<l.length)∨(i≠x∧l[i]? = some t):=by
 rw[ArA]at h
 by_cases hx:x=i
 ·subst hx
  rw[Apk rfl]at h
  by_cases hl:x<l.length
  ·rw[Apk hl]at h;exact .inl ⟨rfl,(Aqj h).symm,hl⟩
  ·rw[Apg hl]at h;cases h
 ·rw[Apg hx]at h;exact .inr ⟨fun e=>hx e.symm,h⟩
theorem PM{α:Type}{l:List α}{x:Nat}{a b:α}(h:l[x]? = some b):(l.set x a)[x]? = some a:=by
 rw[ArA,Apk rfl,Apk (Apn.1 h).1]
theorem ZY{α:Type}{l:List α}{x i:Nat}{a:α}(h:i≠x):(l.set x a)[i]? = l[i]? := by
 rw[ArA,Apg (AqS h)]
theorem Wo{ts:List Tsk}{x:Nat}{t:Tsk}(h:ts[x]? = some t)(w:Nat):Alike ts (ts.set x { t with wait:=w }):=by
 refine⟨by simp,fun i s hs => ?_⟩
 by_cases hi:i=x
 ·subst hi
  rw[h]at hs;cases hs
  exact⟨_,PM h,rfl,rfl,rfl⟩
 ·exact⟨s,by rw[ZY hi];exact hs,rfl,rfl,rfl⟩
theorem Ajb{ts:List Tsk}{A:List Nat}{x:Nat}{t:Tsk}(h:ts[x]? = some t)(w:Nat)(i j:Nat)(hj:j≠x):IM (ts.set x { t with wait:=w }) A i j=IM ts A i j:=by
 unfold IM KY;rw[ZY hj]
theorem Zh{ts:List Tsk}{A:List Nat}{x:Nat}{t:Tsk}(h:ts[x]? = some t)(i:Nat):IM ts A i x=(decide (t.up=some i)&&(A.contains x||decide (0<t.wait))):=by
 unfold IM KY;rw[h]
theorem Aja{ts:List Tsk}{A:List Nat}{x:Nat}{t:Tsk}(h:ts[x]? = some t)(w i:Nat):
  kids (ts.set x { t with wait:=w }) A i+(decide (t.up=some i)&&(A.contains x||decide (0<t.wait))).toNat=kids ts A i+(decide (t.up=some i)&&(A.contains x||decide (0<w))).toNat:=by
 unfold kids
 rw[Aqm]
 have:=YN (l:=List.range ts.length) Aq8 (AqC.2 (Apn.1 h).1) (Q:=IM ts A i) (Q':=IM (ts.set x { t with wait:=w }) A i) (fun j _ hj=>Ajb h w i j hj)
 rw[Zh h,Zh (PM h)]at this
 exact this
theorem Aoq{n:Nat}:∀ (k:Nat) (ts:List Tsk) (A:List Nat) (u:Option Nat),Tr n ts A u→(∀ x,u=some x→x<k∧x<ts.length∧x∉A)→(u=none→KY ts A 0=false) →
  ∃ ts',fin k ts u=(ts',A.isEmpty)∧Tr n ts' A none∧Alike ts ts':=by
 have emp:∀ {ts:List Tsk} {A:List Nat},Tr n ts A none→KY ts A 0=false→A.isEmpty=true:=by
  intro ts A h hp
  cases A with
  |nil=>rfl
  |cons a A=>
   obtain⟨t,ht,_⟩:=h.act a (by simp)
   have:=h.Ao1 a t ht ((Jk ht).2 (.inl (by simp)))
   rw[hp]at this;cases this
 intro k
 induction k with
 |zero=>
  intro ts A u h hu ht
  cases u with
  |some x=>exact absurd (hu x rfl).1 (by omega)
  |none=>exact⟨ts,by unfold fin;rw[emp h (ht rfl)],h,Alike.refl ts⟩
 |succ k ih=>
  intro ts A u h hu ht
  cases u with
  |none=>exact⟨ts,by unfold fin;rw[emp h (ht rfl)],h,Alike.refl ts⟩
  |some x=>
   obtain⟨h1,h2,h3⟩:=hu x rfl
   have hx:ts[x]? = some (ts[x]):=ApZ h2
   generalize ts[x]=t at hx
   have hc:=h.cnt x t hx
   rw[Apk rfl]at hc
   have hcon:A.contains x=false:=by simpa using h3
   have hks:=fun i=>Aja (A:=A) hx (t.wait-1) i
   have htr:=h.tree x t hx
   have htree:∀ (i:Nat) (s:Tsk),(ts.set x { t with wait:=t.wait-1 })[i]? = some s→s.lo<s.hi∧s.hi≤n∧s.wait≤2∧(s.up=none→i=0)∧∀ x,s.up=some x→x<i:=by
    intro i s hs
    rcases N2 hs with⟨rfl,rfl,_⟩|⟨_,hs⟩
    ·exact⟨htr.1,htr.2.1,by show t.wait-1≤2;have:=htr.2.2.1;omega,htr.2.2.2⟩
    ·exact h.tree i s hs
   have hact:∀ a∈A,∃ s:Tsk,(ts.set x { t with wait:=t.wait-1 })[a]? = some s∧s.wait=0:=fun a ha=>by
    rw[ZY (by rintro rfl;exact h3 ha)];exact h.act a ha
   have hleaf:∀ a∈A,∀ (j:Nat) (s:Tsk),(ts.set x { t with wait:=t.wait-1 })[j]? = some s→s.up≠some a:=by
    intro a ha j s hs
    rcases N2 hs with⟨rfl,rfl,_⟩|⟨_,hs⟩
    ·exact h.leaf a ha j t hx
    ·exact h.leaf a ha j s hs
   by_cases hw:0<t.wait-1
   ·have hsame:∀ i,kids (ts.set x { t with wait:=t.wait-1 }) A i=kids ts A i:=fun i=>by
     have:=hks i
     rw[hcon,ApX hw,ApX (show 0<t.wait by omega)]at this
     omega
    have hT:Tr n (ts.set x { t with wait:=t.wait-1 }) A none:=⟨htree,h.nod,hact,hleaf,fun i s hs=>by
     rw[hsame]
     rcases N2 hs with⟨rfl,rfl,_⟩|⟨hne,hs⟩
     ·simp;omega
     ·rw[h.cnt i s hs,Apg (by simp;exact fun e=>hne e.symm)];simp⟩
    refine⟨_,?_,hT,Wo hx _⟩
    unfold fin
    rw[hx]
    simp only
    rw[Apg (by omega),Apk hw]
    have:A≠[]:=hT.descend _ x (Apj _) _ (PM hx) ((Jk (PM hx)).2 (.inr hw))
    cases A with
    |nil=>exact absurd rfl this
    |cons a A=>rfl
   ·have hw1:t.wait=1:=by omega
    have hup:∀ i,kids (ts.set x { t with wait:=t.wait-1 }) A i+(decide (t.up=some i)).toNat=kids ts A i:=fun i=>by
     have:=hks i
     rw[hcon,hw1]at this
     simp at this
     rw[hw1];exact this
    have hT:Tr n (ts.set x { t with wait:=t.wait-1 }) A t.up:=⟨htree,h.nod,hact,hleaf,fun i s hs=>by
     have h5:=hup i
     rcases N2 hs with⟨rfl,rfl,_⟩|⟨hne,hs⟩
     ·show t.wait-1=_
      have:t.up≠some i:=fun e=>by have:=htr.2.2.2.2 i e;omega
      rw[Apg this]
      rw[ApW this]at h5
      simp at h5;omega
     ·rw[h.cnt i s hs,Apg (by simp;exact fun e=>hne e.symm)]
      by_cases he:t.up=some i
      ·rw[Apk he];rw[ApX he]at h5;simp at h5;omega
      ·rw[Apg he];rw[ApW he]at h5;simp at h5;omega⟩
    obtain⟨ts',e1,e2,e3⟩:=ih _ A t.up hT (fun y hy=>by
     have:=htr.2.2.2.2 y hy
     exact⟨by omega,by simp;omega,fun hyA=>h.leaf y hyA x t hx hy⟩) (fun hn=>by
     have:=htr.2.2.2.1 hn
     subst this
     have:¬ KY (ts.set 0 { t with wait:=t.wait-1 }) A 0=true:=by
      rw[Jk (PM hx)]
      rintro (h|h)
      ·exact h3 h
      ·exact hw h
     simpa using this)
    refine⟨ts',?_,e2,(Wo hx _).trans e3⟩
    unfold fin
    rw[hx]
    simp only
    rw[Apg (by omega),Apg hw,e1]
theorem Tr.part{n:Nat}{ts:List Tsk}{a:Nat}{A:List Nat}(h:Tr n ts (a::A) none){t:Tsk}(ht:ts[a]? = some t){A8:Nat}(h1:t.lo<A8)(h2:A8<t.hi):
  Tr n (ts.set a { t with wait:=2 }++[⟨t.lo,A8,some a,0⟩,⟨A8,t.hi,some a,0⟩]) (ts.length::(ts.length+1)::A) none:=by
 have hal:=(Apn.1 ht).1
 have hnod:=h.nod
 rw[Ap9]at hnod
 have hAl:∀ x∈A,x<ts.length:=fun x hx=>by
  obtain⟨s,hs,_⟩:=h.act x (by simp[hx])
  exact(Apn.1 hs).1
 have cases':∀ {i:Nat} {s:Tsk},(ts.set a { t with wait:=2 }++[⟨t.lo,A8,some a,0⟩,⟨A8,t.hi,some a,0⟩])[i]? = some s →
   (i=a∧s = { t with wait:=2 })∨(i≠a∧i<ts.length∧ts[i]? = some s)∨(i=ts.length∧s=⟨t.lo,A8,some a,0⟩)∨(i=ts.length+1∧s=⟨A8,t.hi,some a,0⟩):=by
  intro i s hs
  by_cases hi:i<ts.length
  ·rw[Ap4 (by simpa using hi)]at hs
   rcases N2 hs with⟨e1,e2,_⟩|⟨e1,e2⟩
   ·exact .inl ⟨e1,e2⟩
   ·exact .inr (.inl ⟨e1,hi,e2⟩)
  ·rw[Ap6 (by simpa using hi),Aqm]at hs
   obtain⟨d,rfl⟩:∃ d,i=ts.length+d:=⟨i-ts.length,by omega⟩
   rw[Asi]at hs
   match d,hs with
   |0,hs=>exact .inr (.inr (.inl ⟨rfl,(Aqj hs).symm⟩))
   |1,hs=>exact .inr (.inr (.inr ⟨rfl,(Aqj hs).symm⟩))
   |d+2,hs=>simp at hs
 have htr:=h.tree a t ht
 have hold:∀ {i:Nat} {s:Tsk},i≠a→ts[i]? = some s→(ts.set a { t with wait:=2 }++[⟨t.lo,A8,some a,0⟩,⟨A8,t.hi,some a,0⟩])[i]? = some s:=by
  intro i s hi hs
  have:=(Apn.1 hs).1
  rw[Ap4 (by simpa using this),ZY hi];exact hs
 have hata:(ts.set a { t with wait:=2 }++[⟨t.lo,A8,some a,0⟩,⟨A8,t.hi,some a,0⟩])[a]? = some { t with wait:=2 }:=by
  rw[Ap4 (by simpa using hal),PM ht]
 have hn0:(ts.set a { t with wait:=2 }++[⟨t.lo,A8,some a,0⟩,⟨A8,t.hi,some a,0⟩])[ts.length]? = some ⟨t.lo,A8,some a,0⟩:=by
  rw[Ap6 (by simp)];simp
 have hn1:(ts.set a { t with wait:=2 }++[⟨t.lo,A8,some a,0⟩,⟨A8,t.hi,some a,0⟩])[ts.length+1]? = some ⟨A8,t.hi,some a,0⟩:=by
  rw[Ap6 (by simp)];simp
 refine⟨?_,?_,?_,?_,?_⟩
 ·intro i s hs
  rcases cases' hs with⟨rfl,rfl⟩|⟨_,_,hs⟩|⟨rfl,rfl⟩|⟨rfl,rfl⟩
  ·exact⟨htr.1,htr.2.1,Apj _,htr.2.2.2⟩
  ·exact h.tree i s hs
  ·exact⟨h1,by show A8≤n;have:=htr.2.1;omega,ArZ _,fun e=>(by cases e),fun x e=>(by cases e;exact hal)⟩
  ·exact⟨h2,htr.2.1,ArZ _,fun e=>(by cases e),fun x e=>(by cases e;omega)⟩
 ·rw[Ap9,Ap9]
  refine⟨?_,?_,hnod.2⟩
  ·simp;exact fun hx=>absurd (hAl _ hx) (by omega)
  ·exact fun hx=>absurd (hAl _ hx) (by omega)
 ·intro x hx
  simp only[Ape]at hx
  rcases hx with rfl|rfl|hx
  ·exact⟨_,hn0,rfl⟩
  ·exact⟨_,hn1,rfl⟩
  ·obtain⟨s,hs,hw⟩:=h.act x (by simp[hx])
   exact⟨s,hold (by rintro rfl;exact hnod.1 hx) hs,hw⟩
 ·intro x hx j s hs
  simp only[Ape]at hx
  have hxa:x≠a:=by
   rcases hx with rfl|rfl|hx
   ·omega
   ·omega
   ·rintro rfl;exact hnod.1 hx
  rcases cases' hs with⟨rfl,rfl⟩|⟨_,hj,hs⟩|⟨rfl,rfl⟩|⟨rfl,rfl⟩
  ·show t.up≠some x
   intro e
   have:=htr.2.2.2.2 x e
   rcases hx with rfl|rfl|hx
   ·omega
   ·omega
   ·exact h.leaf x (by simp[hx]) j t ht e
  ·intro e
   have:=(h.tree j s hs).2.2.2.2 x e
   rcases hx with rfl|rfl|hx
   ·omega
   ·omega
   ·exact h.leaf x (by simp[hx]) j s hs e
  ·intro e;cases e;exact hxa rfl
  ·intro e;cases e;exact hxa rfl
 ·intro i s hs
  have hk:kids (ts.set a { t with wait:=2 }++[⟨t.lo,A8,some a,0⟩,⟨A8,t.hi,some a,0⟩]) (ts.length::(ts.length+1)::A) i=kids ts (a::A) i+if i=a then 2 else 0:=by
   unfold kids
   rw[Apd,Aqm]
   show(List.range (ts.length+2)).countP _=_
   rw[AqR,AqR,List.countP_append,List.countP_append]
   have e1:(List.range ts.length).countP (IM (ts.set a { t with wait:=2 }++[⟨t.lo,A8,some a,0⟩,⟨A8,t.hi,some a,0⟩]) (ts.length::(ts.length+1)::A) i)=(List.range ts.length).countP (IM ts (a::A) i):=by
    refine Aru fun j hj => ?_
    rw[AqC]at hj
    by_cases hja:j=a
    ·subst hja
     unfold IM KY
     rw[hata,ht];simp
    ·have hs0:ts[j]? = some ts[j]:=ApZ hj
     unfold IM KY
     rw[hold hja hs0,hs0]
     have h3:¬ j=ts.length:=by omega
     have h4:¬ j=ts.length+1:=by omega
     simp[hja,h3,h4]
   rw[e1]
   have e2:IM (ts.set a { t with wait:=2 }++[⟨t.lo,A8,some a,0⟩,⟨A8,t.hi,some a,0⟩]) (ts.length::(ts.length+1)::A) i ts.length=decide (i=a):=by
    unfold IM KY;rw[hn0];simp[eq_comm]
   have e3:IM (ts.set a { t with wait:=2 }++[⟨t.lo,A8,some a,0⟩,⟨A8,t.hi,some a,0⟩]) (ts.length::(ts.length+1)::A) i (ts.length+1)=decide (i=a):=by
    unfold IM KY;rw[hn1];simp[eq_comm]
   simp only[Ard,List.countP_nil,e2,e3]
   by_cases hi:i=a
   ·simp[hi]
   ·simp[hi]
  rw[hk]
  rcases cases' hs with⟨rfl,rfl⟩|⟨hne,hj,hs⟩|⟨rfl,rfl⟩|⟨rfl,rfl⟩
  ·have:=h.cnt i t ht
   obtain⟨t',e1,e2⟩:=h.act i (by simp)
   rw[ht]at e1;cases e1
   rw[e2]at this
   simp at this ⊢
   omega
  ·rw[Apg hne];exact h.cnt i s hs
  ·rw[Apg (by omega)]
   have:kids ts (a::A) ts.length=0:=by
    refine Nat.eq_zero_of_not_pos fun hp => ?_
    obtain⟨j,s,h3,h4,_⟩:=Mm.1 hp
    have:=(h.tree j s h3).2.2.2.2 _ h4
    have:=(Apn.1 h3).1
    omega
   simp[this]
  ·rw[Apg (by omega)]
   have:kids ts (a::A) (ts.length+1)=0:=by
    refine Nat.eq_zero_of_not_pos fun hp => ?_
    obtain⟨j,s,h3,h4,_⟩:=Mm.1 hp
    have:=(h.tree j s h3).2.2.2.2 _ h4
    have:=(Apn.1 h3).1
    omega
   simp[this]
theorem Aem{ts:List Tsk}{A B:List Nat}(h:A.Perm B)(i:Nat):kids ts A i=kids ts B i:=by
 unfold kids
 refine Aru fun j _ => ?_
 unfold IM KY
 have:A.contains j=B.contains j:=by
  rw[Aql];simp;exact h.mem_iff
 rw[this]
theorem Tr.perm{n:Nat}{ts:List Tsk}{A B:List Nat}(h:Tr n ts A none)(hp:A.Perm B):Tr n ts B none:=
 ⟨h.tree,hp.nodup_iff.1 h.nod,fun a ha=>h.act a (hp.mem_iff.2 ha),fun a ha=>h.leaf a (hp.mem_iff.2 ha),fun i t ht=>by rw[← Aem hp];exact h.cnt i t ht⟩
theorem Tr.did{n:Nat}{ts:List Tsk}{a:Nat}{A:List Nat}(h:Tr n ts (a::A) none){t:Tsk}(ht:ts[a]? = some t):
  ∃ ts',fin ts.length ts t.up=(ts',A.isEmpty)∧Tr n ts' A none∧Alike ts ts':=by
 have hnod:=h.nod
 rw[Ap9]at hnod
 have hal:=(Apn.1 ht).1
 obtain⟨t',e1,hw⟩:=h.act a (by simp)
 rw[ht]at e1;cases e1
 have htr:=h.tree a t ht
 have hk:∀ i,kids ts A i+(decide (t.up=some i)).toNat=kids ts (a::A) i:=by
  intro i
  unfold kids
  have:=YN (l:=List.range ts.length) Aq8 (AqC.2 hal) (Q:=IM ts (a::A) i) (Q':=IM ts A i) (fun j _ hj=>by
   unfold IM KY
   have:(a::A).contains j=A.contains j:=by simp[hj]
   rw[this])
  rw[Zh ht,Zh ht,hw]at this
  have h3:A.contains a=false:=by simpa using hnod.1
  rw[h3]at this
  simp at this
  omega
 refine Aoq ts.length ts A t.up ⟨h.tree,hnod.2,fun x hx=>h.act x (by simp[hx]),fun x hx=>h.leaf x (by simp[hx]),fun i s hs => ?_⟩ (fun x hx => ?_) (fun hu => ?_)
 ·have h5:=hk i
  have h6:=h.cnt i s hs
  simp at h6
  by_cases he:t.up=some i
  ·rw[Apk he];rw[ApX he]at h5;simp at h5;omega
  ·rw[Apg he];rw[ApW he]at h5;simp at h5;omega
 ·have:=htr.2.2.2.2 x hx
  exact⟨by omega,by omega,fun hxA=>h.leaf x (by simp[hxA]) a t ht hx⟩
 ·have:=htr.2.2.2.1 hu
  subst this
  have:¬ KY ts A 0=true:=by
   rw[Jk ht]
   rintro (h|h)
   ·exact hnod.1 h
   ·omega
  simpa using this
end Go.Pev.Pl
end
section
namespace Go.Pev.Pl
def rng(ts:List Tsk)(a:Nat):List Nat:=match ts[a]? with
 |some t=>List.range' t.lo (t.hi-t.lo)
 |none=>[]
def L7(ts:List Tsk)(a:Nat):Nat:=match ts[a]? with
 |some t=>2*(t.hi-t.lo)-1
 |none=>0
def pot(ts:List Tsk)(A:List Nat):Nat:=(A.map (L7 ts)).sum
def Of(dn:List Bool)(lo:Nat):Nat→List Bool
 |0=>dn
 |k+1=>(Of dn lo k).set (lo+k) true
theorem AI0(dn:List Bool)(lo k:Nat):(Of dn lo k).length=dn.length:=by
 induction k with
 |zero=>rfl
 |succ k ih=>unfold Of;rw[Aqm,ih]
theorem AeU(dn:List Bool)(lo k u:Nat)(hu:u<dn.length):(Of dn lo k)[u]? = some (decide (lo≤u∧u<lo+k)||dn[u]):=by
 induction k with
 |zero=>
  have:¬ (lo≤u∧u<lo+0):=by omega
  rw[ApW this]
  exact ApZ hu
 |succ k ih=>
  unfold Of
  rw[ArA]
  by_cases h:lo+k=u
  ·rw[Apk h,Apk (by rw[AI0];omega),ApX (by omega)];rfl
  ·rw[Apg h,ih]
   congr 2
   rw[Aql,Apb,Apb]
   omega
structure Iv(n:Nat)(ts:List Tsk)(dn:List Bool)(A U:List Nat)(D:Nat):Prop where
 len:dn.length=n
 tr:Tr n ts A none
 units:(A.flatMap (rng ts)++U).Perm (List.range n)
 dn:∀ u,u<n→dn[u]? = some (decide (u∈U))
 size:ts.length+1=2*(A.length+D)
 dle:D≤U.length
theorem ANX{α β:Type}{l l':List α}(h:l.Perm l')(f:α→List β):(l.flatMap f).Perm (l'.flatMap f):=by
 induction h with
 |nil=>exact Asg _
 |cons x _ ih=>rw[AqH,AqH];exact ih.append_left _
 |swap x y l=>
  simp only[AqH,← AqD]
  exact List.perm_append_comm.append_right _
 |trans _ _ h1 h2=>exact h1.trans h2
theorem Iv.perm{n:Nat}{ts:List Tsk}{dn:List Bool}{A B U:List Nat}{D:Nat}(h:Iv n ts dn A U D)(hp:A.Perm B):Iv n ts dn B U D:=
 ⟨h.len,h.tr.perm hp,((ANX hp.symm _).append_right _).trans h.units,h.dn,by rw[← hp.length_eq];exact h.size,h.dle⟩
theorem ACF{ts:List Tsk}{A B:List Nat}(hp:A.Perm B):pot ts A=pot ts B:=(hp.map _).sum_nat
theorem Jg{ts ts':List Tsk}(h:Alike ts ts'){a:Nat}(ha:a<ts.length):rng ts' a=rng ts a∧L7 ts' a=L7 ts a:=by
 have hs:ts[a]? = some ts[a]:=ApZ ha
 obtain⟨t',h1,h2,h3,_⟩:=h.2 a _ hs
 unfold rng L7
 rw[h1,hs]
 simp only[h2,h3,and_self]
theorem Iv.lt{n:Nat}{ts:List Tsk}{dn:List Bool}{A U:List Nat}{D:Nat}(h:Iv n ts dn A U D){a:Nat}(ha:a∈A):a<ts.length:=by
 obtain⟨t,ht,_⟩:=h.tr.act a ha
 exact(Apn.1 ht).1
theorem Hr{α β:Type}{l:List α}{f g:α→List β}(h:∀ x∈l,f x=g x):l.flatMap f=l.flatMap g:=by
 induction l with
 |nil=>rfl
 |cons x l ih=>rw[AqH,AqH,h x (by simp),ih fun y hy=>h y (by simp[hy])]
theorem ALx{lo A8 hi:Nat}(h1:lo≤A8)(h2:A8≤hi):List.range' lo (A8-lo)++List.range' A8 (hi-A8)=List.range' lo (hi-lo):=by
 have:=List.range'_append_1 (s:=lo) (m:=A8-lo) (n:=hi-A8)
 rw[show lo+(A8-lo)=A8 by omega,show A8-lo+(hi-A8)=hi-lo by omega]at this
 exact this
theorem Iv.part{n:Nat}{ts:List Tsk}{dn:List Bool}{a:Nat}{A U:List Nat}{D:Nat}(h:Iv n ts dn (a::A) U D){t:Tsk}(ht:ts[a]? = some t){A8:Nat}(h1:t.lo<A8)(h2:A8<t.hi):
  Iv n (ts.set a { t with wait:=2 }++[⟨t.lo,A8,some a,0⟩,⟨A8,t.hi,some a,0⟩]) dn (ts.length::(ts.length+1)::A) U D ∧
  pot (ts.set a { t with wait:=2 }++[⟨t.lo,A8,some a,0⟩,⟨A8,t.hi,some a,0⟩]) (ts.length::(ts.length+1)::A)<pot ts (a::A) ∧
  ∀ x,x<ts.length→rng (ts.set a { t with wait:=2 }++[⟨t.lo,A8,some a,0⟩,⟨A8,t.hi,some a,0⟩]) x=rng ts x:=by
 have hold:∀ x,x<ts.length→rng (ts.set a { t with wait:=2 }++[⟨t.lo,A8,some a,0⟩,⟨A8,t.hi,some a,0⟩]) x=rng ts x∧L7 (ts.set a { t with wait:=2 }++[⟨t.lo,A8,some a,0⟩,⟨A8,t.hi,some a,0⟩]) x=L7 ts x:=by
  intro x hx
  have h3:=Jg (Wo ht 2) hx
  rw[← h3.1,← h3.2]
  unfold rng L7
  rw[Ap4 (by simpa using hx)]
  exact⟨rfl,rfl⟩
 have hn0:(ts.set a { t with wait:=2 }++[⟨t.lo,A8,some a,0⟩,⟨A8,t.hi,some a,0⟩])[ts.length]? = some ⟨t.lo,A8,some a,0⟩:=by
  rw[Ap6 (by simp)];simp
 have hn1:(ts.set a { t with wait:=2 }++[⟨t.lo,A8,some a,0⟩,⟨A8,t.hi,some a,0⟩])[ts.length+1]? = some ⟨A8,t.hi,some a,0⟩:=by
  rw[Ap6 (by simp)];simp
 have hA:∀ x∈A,x<ts.length:=fun x hx=>h.lt (by simp[hx])
 refine⟨⟨h.len,h.tr.part ht h1 h2,?_,h.dn,?_,h.dle⟩,?_,fun x hx=>(hold x hx).1⟩
 ·rw[AqH,AqH,Hr fun x hx=>(hold x (hA x hx)).1]
  have e0:rng (ts.set a { t with wait:=2 }++[⟨t.lo,A8,some a,0⟩,⟨A8,t.hi,some a,0⟩]) ts.length=List.range' t.lo (A8-t.lo):=by unfold rng;rw[hn0]
  have e1:rng (ts.set a { t with wait:=2 }++[⟨t.lo,A8,some a,0⟩,⟨A8,t.hi,some a,0⟩]) (ts.length+1)=List.range' A8 (t.hi-A8):=by unfold rng;rw[hn1]
  rw[e0,e1,← AqD,ALx (by omega) (by omega)]
  have:=h.units
  rw[AqH]at this
  have e2:rng ts a=List.range' t.lo (t.hi-t.lo):=by unfold rng;rw[ht]
  rw[e2]at this
  exact this
 ·have:=h.size
  simp only[Apd,Aqm,Api,Apt]at this ⊢
  omega
 ·unfold pot
  rw[AqE,AqE,AqE,Ar9,Ar9,Ar9,ArH fun x hx=>(hold x (hA x hx)).2]
  have e0:L7 (ts.set a { t with wait:=2 }++[⟨t.lo,A8,some a,0⟩,⟨A8,t.hi,some a,0⟩]) ts.length=2*(A8-t.lo)-1:=by unfold L7;rw[hn0]
  have e1:L7 (ts.set a { t with wait:=2 }++[⟨t.lo,A8,some a,0⟩,⟨A8,t.hi,some a,0⟩]) (ts.length+1)=2*(t.hi-A8)-1:=by unfold L7;rw[hn1]
  have e2:L7 ts a=2*(t.hi-t.lo)-1:=by unfold L7;rw[ht]
  rw[e0,e1,e2]
  omega
theorem Iv.did{n:Nat}{ts:List Tsk}{dn:List Bool}{a:Nat}{A U:List Nat}{D:Nat}(h:Iv n ts dn (a::A) U D){t:Tsk}(ht:ts[a]? = some t):
  ∃ ts',fin ts.length ts t.up=(ts',A.isEmpty)∧Iv n ts' (Of dn t.lo (t.hi-t.lo)) A (U++rng ts a) (D+1)∧pot ts' A<pot ts (a::A)∧Alike ts ts':=by
 obtain⟨ts',e1,e2,e3⟩:=h.tr.did ht
 have hA:∀ x∈A,x<ts.length:=fun x hx=>h.lt (by simp[hx])
 have htr:=h.tr.tree a t ht
 have e4:rng ts a=List.range' t.lo (t.hi-t.lo):=by unfold rng;rw[ht]
 refine⟨ts',e1,⟨by rw[AI0];exact h.len,e2,?_,?_,?_,?_⟩,?_,e3⟩
 ·rw[Hr fun x hx=>(Jg e3 (hA x hx)).1]
  refine List.Perm.trans ?_ h.units
  rw[AqH,← AqD,AqD (rng ts a)]
  exact Ari
 ·intro u hu
  rw[AeU _ _ _ _ (by rw[h.len];exact hu)]
  have h5:=h.dn u hu
  rw[ApZ (by rw[h.len];exact hu)]at h5
  rw[Aqj h5,e4]
  congr 1
  rw[Aql,ArD,Apb,Apb,Apb,Apc,Asn]
  constructor
  ·rintro (h|h)
   ·exact .inr h
   ·exact .inl h
  ·rintro (h|h)
   ·exact .inr h
   ·exact .inl h
 ·rw[e3.1]
  have:=h.size
  simp only[Api]at this
  omega
 ·rw[Apd,e4,List.length_range']
  have:=h.dle
  have:=htr.1
  omega
 ·unfold pot
  rw[AqE,Ar9,ArH fun x hx=>(Jg e3 (hA x hx)).2]
  have:L7 ts a=2*(t.hi-t.lo)-1:=by unfold L7;rw[ht]
  have:=htr.1
  omega
theorem Iv.bound{n:Nat}{ts:List Tsk}{dn:List Bool}{A U:List Nat}{D:Nat}(h:Iv n ts dn A U D):A.length+D≤n:=by
 have h1:=h.units.length_eq
 rw[Apd,AqA]at h1
 have h2:A.length≤(A.flatMap (rng ts)).length:=by
  have hA:∀ x∈A,0<(rng ts x).length:=fun x hx=>by
   obtain⟨t,ht,_⟩:=h.tr.act x hx
   have:=(h.tr.tree x t ht).1
   unfold rng;rw[ht];simp;omega
  clear h1 h
  induction A with
  |nil=>exact Apj _
  |cons a A ih=>
   rw[AqH,Apd,Api]
   have:=hA a (by simp)
   have:=ih fun x hx=>hA x (by simp[hx])
   omega
 have:=h.dle
 omega
theorem Iv.Aoz{n:Nat}{ts:List Tsk}{dn:List Bool}{a:Nat}{A U:List Nat}{D:Nat}(h:Iv n ts dn (a::A) U D){t:Tsk}(ht:ts[a]? = some t){A8:Nat}(h1:t.lo<A8)(h2:A8<t.hi):ts.length+2+1≤2*n:=by
 have h3:=(h.part ht h1 h2).1
 have:=h3.bound
 have h4:=h3.size
 simp only[Apd,Aqm,Api,Apt]at h4 this
 omega
theorem Iv.AoC{n:Nat}{ts:List Tsk}{dn:List Bool}{A U:List Nat}{D:Nat}(h:Iv n ts dn A U D){a:Nat}(ha:a∈A){t:Tsk}(ht:ts[a]? = some t):dn[t.lo]? = some false:=by
 have htr:=h.tr.tree a t ht
 rw[h.dn t.lo (by omega)]
 congr 1
 rw[Aqa]
 intro hU
 have hnd:=(h.units.nodup_iff).2 Aq8
 rw[Aq9]at hnd
 refine hnd.2.2 t.lo (ArP.2 ⟨a,ha,?_⟩) t.lo hU rfl
 unfold rng;rw[ht]
 rw[Asn];omega
end Go.Pev.Pl
end
section
namespace Go.Pev.Pl
structure Crw where
 ts:List Tsk
 dn:List Bool
 ds:List (List Nat)
 ov:Bool
 st:Nat
 idl:Nat
structure Evt where
 w:Nat
 ft:Option (Nat×Nat)
 pt:Bool
def found(ds:List (List Nat))(p v:Nat):Option (Nat×Nat×List (List Nat)):=
 match(ds.getD p []).getLast? with
 |some t=>some (t,p,ds.set p (ds.getD p []).dropLast)
 |none=>match ds.getD v []with
  |t::r=>some (t,v,ds.set v r)
  |[]=>none
def A8(k:Tsk):Nat:=k.lo+(k.hi-k.lo)/2
def stp(g:Nat)(c:Crw)(p v:Nat):Crw×Evt:=
 match found c.ds p v with
 |none=>({ c with st:=c.st+1,idl:=c.idl+1 },⟨p,none,false⟩)
 |some (t,f,ds)=>match c.ts[t]? with
  |none=>(c,⟨p,none,false⟩)
  |some k=>if g<k.hi-k.lo then
    ({ c with ts:=c.ts.set t { k with wait:=2 }++[⟨k.lo,A8 k,some t,0⟩,⟨A8 k,k.hi,some t,0⟩],ds:=ds.set p (ds.getD p []++[c.ts.length+1,c.ts.length]),st:=c.st+1 },⟨p,some (f,t),true⟩)
   else({ ts:=(fin c.ts.length c.ts k.up).1,dn:=Of c.dn k.lo (k.hi-k.lo),ds:=ds,ov:=c.ov||(fin c.ts.length c.ts k.up).2,st:=c.st+1,idl:=c.idl },⟨p,some (f,t),false⟩)
theorem Jx{α:Type}{l:List α}{i:Nat}{a d:α}(h:l[i]? = some a):l.getD i d=a:=by
 rw[Apa,h];rfl
theorem ANW{l:List (List Nat)}{p:Nat}{x:List Nat}(h:l[p]? = some x)(y:List Nat):∃ R,l.flatten.Perm (x++R)∧(l.set p y).flatten.Perm (y++R):=by
 induction l generalizing p with
 |nil=>simp at h
 |cons a l ih=>
  cases p with
  |zero=>
   simp at h;subst h
   exact⟨l.flatten,by simp,by simp⟩
  |succ p=>
   obtain⟨R,h1,h2⟩:=ih (by simpa using h)
   refine⟨a++R,?_,?_⟩
   ·rw[Aq3]
    refine(h1.append_left a).trans ?_
    rw[← AqD,← AqD]
    exact List.perm_append_comm.append_right R
   ·rw[List.set_cons_succ,Aq3]
    refine(h2.append_left a).trans ?_
    rw[← AqD,← AqD]
    exact List.perm_append_comm.append_right R
theorem AED{ds:List (List Nat)}{p v t f:Nat}{ds':List (List Nat)}(hp:p<ds.length)(hv:v<ds.length)(h:found ds p v=some (t,f,ds')):ds.flatten.Perm (t::ds'.flatten)∧ds'.length=ds.length∧f<ds.length:=by
 have e1:ds[p]? = some (ds.getD p []):=by rw[ApZ hp,Jx (ApZ hp)]
 have e2:ds[v]? = some (ds.getD v []):=by rw[ApZ hv,Jx (ApZ hv)]
 unfold found at h
 split at h
 ·rename_i x hx
  simp only[ApY,Apy]at h
  obtain⟨rfl,rfl,rfl⟩:=h
  obtain⟨ys,hy⟩:=Asb.1 hx
  rw[hy,List.dropLast_concat]
  rw[hy]at e1
  obtain⟨R,h1,h2⟩:=ANW e1 ys
  refine⟨h1.trans ?_,by simp,hp⟩
  refine List.Perm.trans ?_ (h2.symm.cons x)
  rw[AqD]
  exact List.perm_middle
 ·split at h
  ·rename_i x r hx
   simp only[ApY,Apy]at h
   obtain⟨rfl,rfl,rfl⟩:=h
   rw[hx]at e2
   obtain⟨R,h1,h2⟩:=ANW e2 r
   exact⟨h1.trans (h2.symm.cons x),by simp,hv⟩
  ·cases h
theorem AYr{ds:List (List Nat)}{p v:Nat}(h:found ds p v=none):ds.getD p []=[]∧ds.getD v []=[]:=by
 unfold found at h
 split at h
 ·cases h
 ·rename_i hx
  split at h
  ·cases h
  ·rename_i hv
   exact⟨List.getLast?_eq_none_iff.1 hx,hv⟩
def evU(ts:List Tsk)(E:List Evt):List Nat:=E.flatMap fun e=>match e.ft with
 |some (_,t)=>if e.pt then []else rng ts t
 |none=>[]
structure StI(n W:Nat)(c:Crw)(E:List Evt):Prop where
 iv:∃ D,Iv n c.ts c.dn c.ds.flatten (evU c.ts E) D
 ov:c.ov=c.ds.flatten.isEmpty
 w:c.ds.length=W
 ev:∀ e∈E,∀ f t,e.ft=some (f,t)→t<c.ts.length
 st:c.st=E.length
 idl:c.idl≤E.length
theorem Zl(ts:List Tsk)(E E':List Evt):evU ts (E++E')=evU ts E++evU ts E':=by unfold evU;rw[Aqw]
theorem AJP{ts ts':List Tsk}{E:List Evt}(hE:∀ e∈E,∀ f t,e.ft=some (f,t)→t<ts.length)(h:∀ x,x<ts.length→rng ts' x=rng ts x):evU ts' E=evU ts E:=by
 unfold evU
 refine Hr fun e he => ?_
 cases hf:e.ft with
 |none=>rfl
 |some q=>
  obtain⟨f,t⟩:=q
  simp only
  rw[h t (hE e he f t hf)]
theorem AK7{g n W:Nat}{c:Crw}{E:List Evt}{p v:Nat}(hg:1≤g)(h:StI n W c E)(hp:p<W)(hv:v<W):
  StI n W (stp g c p v).1 (E++[(stp g c p v).2]) ∧
  (((stp g c p v).1.ds=c.ds∧(stp g c p v).1.ts=c.ts∧c.ds.getD p []=[])∨pot (stp g c p v).1.ts (stp g c p v).1.ds.flatten<pot c.ts c.ds.flatten):=by
 obtain⟨D,hiv⟩:=h.iv
 unfold stp
 cases hf:found c.ds p v with
 |none=>
  refine⟨⟨⟨D,?_⟩,h.ov,h.w,?_,by simp[h.st],by have:=h.idl;simp;omega⟩,.inl ⟨rfl,rfl,(AYr hf).1⟩⟩
  ·rw[Zl]
   simpa [evU]using hiv
  ·intro e he f t hft
   rcases Apc.1 he with he|he
   ·exact h.ev e he f t hft
   ·simp at he;subst he;cases hft
 |some q=>
  obtain⟨t,f,ds'⟩:=q
  obtain⟨h1,h2,h3⟩:=AED (by rw[h.w];exact hp) (by rw[h.w];exact hv) hf
  have hiv1:=hiv.perm h1
  obtain⟨k,hk,hkw⟩:=hiv1.tr.act t (by simp)
  have htr:=hiv1.tr.tree t k hk
  have htl:=(Apn.1 hk).1
  simp only[hk]
  by_cases hgr:g<k.hi-k.lo
  ·rw[Apk hgr]
   have m1:k.lo<A8 k:=by unfold A8;omega
   have m2:A8 k<k.hi:=by unfold A8;omega
   obtain⟨i1,i2,i3⟩:=hiv1.part hk m1 m2
   have hpl:p<ds'.length:=by rw[h2,h.w];exact hp
   obtain⟨R,r1,r2⟩:=ANW (p:=p) (x:=ds'.getD p []) (by rw[ApZ hpl,Jx (ApZ hpl)]) (ds'.getD p []++[c.ts.length+1,c.ts.length])
   have hperm:(c.ts.length::(c.ts.length+1)::ds'.flatten).Perm (ds'.set p (ds'.getD p []++[c.ts.length+1,c.ts.length])).flatten:=by
    refine List.Perm.trans ?_ r2.symm
    refine((r1.cons _).cons _).trans ?_
    rw[AqD]
    refine List.Perm.trans ?_ (List.perm_append_comm_assoc [c.ts.length+1,c.ts.length] _ _)
    simp only[Ap2,AqK]
    exact List.Perm.swap _ _ _
   refine⟨⟨⟨D,?_⟩,?_,by simp[h2,h.w],?_,by simp[h.st],by have:=h.idl;simp;omega⟩,.inr ?_⟩
   ·rw[Zl,AJP h.ev i3]
    have:=i1.perm hperm
    simpa [evU]using this
   ·show c.ov=_
    rw[h.ov]
    have e1:c.ds.flatten≠[]:=by intro e;rw[e]at h1;exact absurd h1.length_eq (by simp)
    have e2:(ds'.set p (ds'.getD p []++[c.ts.length+1,c.ts.length])).flatten≠[]:=by intro e;rw[e]at hperm;exact absurd hperm.length_eq (by simp)
    rw[Asc.2 e1,Asc.2 e2]
   ·intro e he f' t' hft
    rcases Apc.1 he with he|he
    ·have:=h.ev e he f' t' hft
     simp;omega
    ·simp at he;subst he;cases hft
     simp;omega
   ·show pot _ _<_
    rw[← ACF hperm,ACF h1]
    exact i2
  ·rw[Apg hgr]
   obtain⟨ts',d1,d2,d3,d4⟩:=hiv1.did hk
   rw[d1]
   refine⟨⟨⟨D+1,?_⟩,?_,by rw[← h.w];exact h2,?_,by simp[h.st],by have:=h.idl;simp;omega⟩,.inr ?_⟩
   ·show Iv n ts' _ ds'.flatten (evU ts' _) _
    rw[Zl,AJP h.ev fun x hx=>(Jg d4 hx).1]
    have:evU ts' [⟨p,some (f,t),false⟩]=rng c.ts t:=by
     unfold evU;simp[(Jg d4 htl).1]
    rw[this]
    exact d2
   ·show(c.ov||_)=_
    rw[h.ov]
    have e1:c.ds.flatten≠[]:=by intro e;rw[e]at h1;exact absurd h1.length_eq (by simp)
    rw[Asc.2 e1];rfl
   ·intro e he f' t' hft
    show t'<ts'.length
    rw[d4.1]
    rcases Apc.1 he with he|he
    ·exact h.ev e he f' t' hft
    ·simp at he;subst he;cases hft
     exact htl
   ·show pot ts' _<_
    rw[ACF h1]
    exact d3
def Am(g W:Nat)(c:Crw×List Evt):Nat→Crw×List Evt
 |0=>c
 |t+1=>let s:=Am g W c t
  if s.1.ov then s else
   let x:=stp g s.1 (t % W) ((t % W+1+t/W) % W)
   (x.1,s.2++[x.2])
theorem ZZ{g n W:Nat}(hg:1≤g)(hW:0<W){c:Crw×List Evt}(h:StI n W c.1 c.2):∀ t,StI n W (Am g W c t).1 (Am g W c t).2∧(Am g W c t).2.length≤c.2.length+t:=by
 intro t
 induction t with
 |zero=>exact⟨h,Apj _⟩
 |succ t ih=>
  unfold Am
  simp only
  split
  ·exact⟨ih.1,by omega⟩
  ·refine⟨(AK7 hg ih.1 (AsC _ hW) (AsC _ hW)).1,?_⟩
   simp;omega
theorem PO{g W:Nat}{c:Crw×List Evt}{t:Nat}(h:(Am g W c t).1.ov=true):∀ d,Am g W c (t+d)=Am g W c t:=by
 intro d
 induction d with
 |zero=>rfl
 |succ d ih=>
  rw[← Arb]
  show(let s:=Am g W c (t+d);if s.1.ov then s else _)=_
  simp only
  rw[ih,Apk h]
theorem AV5{g n W:Nat}(hg:1≤g)(hW:0<W){c:Crw×List Evt}(h:StI n W c.1 c.2)(r:Nat):∀ j,j≤W →
  (∃ i,i≤j∧(Am g W c (r*W+i)).1.ov=true)∨pot (Am g W c (r*W+j)).1.ts (Am g W c (r*W+j)).1.ds.flatten<pot (Am g W c (r*W)).1.ts (Am g W c (r*W)).1.ds.flatten ∨
  ((Am g W c (r*W+j)).1.ds=(Am g W c (r*W)).1.ds∧(Am g W c (r*W+j)).1.ts=(Am g W c (r*W)).1.ts∧∀ i,i<j→(Am g W c (r*W)).1.ds.getD i []=[]):=by
 intro j
 induction j with
 |zero=>intro _;exact .inr (.inr ⟨rfl,rfl,fun i hi=>absurd hi (by omega)⟩)
 |succ j ih=>
  intro hj
  by_cases ho:(Am g W c (r*W+j)).1.ov=true
  ·exact .inl ⟨j,by omega,ho⟩
  have hstep:Am g W c (r*W+(j+1))=((stp g (Am g W c (r*W+j)).1 j ((j+1+r) % W)).1,(Am g W c (r*W+j)).2++[(stp g (Am g W c (r*W+j)).1 j ((j+1+r) % W)).2]):=by
   rw[← Arb]
   show(let s:=Am g W c (r*W+j);if s.1.ov then s else _)=_
   simp only
   rw[Apg ho]
   have e1:(r*W+j) % W=j:=by rw[Nat.add_comm,Nat.add_mul_mod_self_right];exact ArN (by omega)
   have e2:(r*W+j)/W=r:=by rw[Nat.add_comm,Nat.add_mul_div_right _ _ hW,Nat.div_eq_of_lt (by omega),Aqq]
   rw[e1,e2]
  have hok:=AK7 (p:=j) (v:=(j+1+r) % W) hg (ZZ hg hW h (r*W+j)).1 (by omega) (AsC _ hW)
  rw[hstep]
  rcases ih (by omega)with⟨i,h1,h2⟩|h1|⟨h1,h2,h3⟩
  ·exact .inl ⟨i,by omega,h2⟩
  ·rcases hok.2 with⟨k1,k2,_⟩|k1
   ·refine .inr (.inl ?_)
    show pot (stp g _ _ _).1.ts (stp g _ _ _).1.ds.flatten<_
    rw[k1,k2];exact h1
   ·exact .inr (.inl (Nat.lt_trans k1 h1))
  ·rcases hok.2 with⟨k1,k2,k3⟩|k1
   ·refine .inr (.inr ⟨k1.trans h1,k2.trans h2,fun i hi => ?_⟩)
    by_cases hij:i=j
    ·subst hij;rw[← h1];exact k3
    ·exact h3 i (by omega)
   ·refine .inr (.inl ?_)
    show pot (stp g _ _ _).1.ts (stp g _ _ _).1.ds.flatten<_
    rw[h1,h2]at k1;exact k1
theorem flatten_nil{l:List (List Nat)}(h:∀ i,i<l.length→l.getD i []=[]):l.flatten=[]:=by
 induction l with
 |nil=>rfl
 |cons a l ih=>
  have h0:=h 0 (by simp)
  simp at h0
  rw[Aq3,h0,AqK]
  refine ih fun i hi => ?_
  have:=h (i+1) (by simp;omega)
  simpa using this
theorem Ac4{g n W:Nat}(hg:1≤g)(hW:0<W){c:Crw×List Evt}(h:StI n W c.1 c.2):(Am g W c ((pot c.1.ts c.1.ds.flatten+1)*W)).1.ov=true:=by
 have main:∀ r,(Am g W c (r*W)).1.ov=true∨pot (Am g W c (r*W)).1.ts (Am g W c (r*W)).1.ds.flatten+r≤pot c.1.ts c.1.ds.flatten:=by
  intro r
  induction r with
  |zero=>rw[Arj];exact .inr (Apj _)
  |succ r ih=>
   rw[Aqg,ArC]
   rcases ih with h1|h1
   ·exact .inl (by rw[PO h1];exact h1)
   ·rcases AV5 hg hW h r W (Apj _)with⟨i,h2,h3⟩|h2|⟨h2,h3,h4⟩
    ·refine .inl ?_
     have:=PO h3 (W-i)
     rw[show r*W+i+(W-i)=r*W+W by omega]at this
     rw[this];exact h3
    ·exact .inr (by omega)
    ·have hs:=(ZZ hg hW h (r*W)).1
     have:=flatten_nil (l:=(Am g W c (r*W)).1.ds) (fun i hi=>h4 i (by rw[hs.w]at hi;exact hi))
     have ho:=hs.ov
     rw[this]at ho
     exact .inl (by rw[PO ho];exact ho)
 rcases main (pot c.1.ts c.1.ds.flatten+1)with h1|h1
 ·exact h1
 ·omega
theorem StI.done{n W:Nat}{c:Crw}{E:List Evt}(h:StI n W c E)(ho:c.ov=true):(evU c.ts E).Perm (List.range n):=by
 obtain⟨D,hiv⟩:=h.iv
 have hv:=h.ov
 rw[ho]at hv
 have:=List.isEmpty_iff.1 hv.symm
 have hu:=hiv.units
 rw[this]at hu
 simpa using hu
end Go.Pev.Pl
end
section
namespace Go.Pev.Pl
abbrev TkI:=Int×Int×Int×Int×Unit
def KN:Option Nat→Int
 |none=>-1
 |some u=>(u:Int)
def Ai(t:Tsk):TkI:=((t.lo:Int),(t.hi:Int),KN t.up,(t.wait:Int),())
abbrev Mv(g:Nat)(ts:List Tsk)(dn:List Bool):List TkI×Int×List Bool×Unit:=(ts.map Ai,(g:Int),dn,())
structure Wok(g:Nat)(ts:List Tsk)(dn:List Bool):Prop where
 g1:1≤g
 g2:g≤100
 n1:1≤dn.length
 n2:dn.length≤1000
 t1:1≤ts.length
 t2:ts.length≤2000
 ok:∀ (i:Nat) (t:Tsk),ts[i]? = some t→t.lo<t.hi∧t.hi≤dn.length∧t.wait≤2∧∀ x,t.up=some x→x<i
theorem Oa(a b:Int):HK (a,b,())=some (decide (1≤a∧a≤1000∧1≤b∧b≤100),()):=by
 rw[Qo,IS,An,An,An,An]
 by_cases h1:1≤a
 ·by_cases h2:a≤1000
  ·by_cases h3:1≤b
   ·by_cases h4:b≤100<;>simp[h1,h2,h3,h4]
   ·simp[h1,h2,h3]
  ·simp[h1,h2]
 ·simp[h1]
theorem Alb{u:Option Nat}{i:Nat}(h:∀ x,u=some x→x<i):-1≤KN u∧KN u<(i:Int):=by
 cases u with
 |none=>simp only[KN];omega
 |some x=>have:=h x rfl;simp only[KN];omega
theorem E6{ts:List Tsk}{i:Nat}{t:Tsk}(h:ts[i]? = some t):(ts.map Ai)[i]? = some (Ai t):=by rw[Ap7,h];rfl
theorem XS{g:Nat}{ts:List Tsk}{dn:List Bool}(h:Wok g ts dn):Nh (Mv g ts dn,())=some (true,()):=by
 have:=h.g1;have:=h.g2;have:=h.n1;have:=h.n2;have:=h.t1;have:=h.t2
 rw[AAk,Ng]
 simp only[AS,Ap1,Oa]
 rw[ApX (show 1≤(dn.length:Int)∧(dn.length:Int)≤1000∧1≤(g:Int)∧(g:Int)≤100 by omega)]
 simp only[Aph]
 rw[Ag,ApW (show ¬ (ts.length:Int)=0 by omega),Ae,ApW (show ¬ (2000:Int)<(ts.length:Int) by omega)]
 have e:=Io (step:=EF) (fun i=>(ts.map Ai,(g:Int),dn,ts.map Ai,(ts.length:Int),(i:Int),())) (ts.map Ai) (fun _=>false) (fun _=>.inl (false,())) (.inr (.inl ())) (by rw[Ap1];omega)
  (fun i x hi hx=>by
   rw[Ap1]at hi
   have ht:ts[i]? = some ts[i]:=ApZ hi
   generalize ts[i]=t at ht
   rw[E6 ht]at hx
   cases hx
   obtain⟨k1,k2,k3,k4⟩:=h.ok i t ht
   have k5:=Alb k4
   rw[EF,AL,ApX hi]
   simp only[AW (E6 ht),Ai,AS,Ae,An]
   rw[ApW (show ¬ (t.lo:Int)<0 by omega),ApW (show ¬ (t.hi:Int)≤(t.lo:Int) by omega),ApW (show ¬ (dn.length:Int)<(t.hi:Int) by omega),ApW (show ¬ KN t.up < -1 by omega),
    ApW (show ¬ (i:Int)≤KN t.up by omega),ApW (show ¬ (t.wait:Int)<0 by omega),ApW (show ¬ (2:Int)<(t.wait:Int) by omega),AP (by omega)]
   simp)
  (by rw[EF,Ap1,AL,ApW (by omega)])
 have e':AU EF many (ts.map Ai,(g:Int),dn,ts.map Ai,(ts.length:Int),(0:Int),())=_:=e
 simp only[e']
 simp
theorem MG{g:Nat}{ts:List Tsk}{dn:List Bool}(h:Wok g ts dn){i:Nat}(hi:i<ts.length):KR (Mv g ts dn,(i:Int),())=some (0,()):=by
 rw[AAh,Nf]
 simp only[XS h,AS,Ap1,Aph]
 rw[Ae,ApW (by omega),DF,ApW (by omega)]
theorem MF{t:Tsk}(h:t.lo≤t.hi)(h2:t.hi≤1000):IQ (Ai t,())=some (((t.hi-t.lo:Nat):Int),()):=by
 rw[AAg,Nd]
 simp only[Ai]
 rw[DJ (by omega)]
theorem XT{g:Nat}{ts:List Tsk}{dn:List Bool}(h:Wok g ts dn){i:Nat}{t:Tsk}(ht:ts[i]? = some t):Nj (Mv g ts dn,(i:Int),())=some (decide (g<t.hi-t.lo),()):=by
 have hk:=h.ok i t ht
 have:=h.n2
 rw[AAp,Ni]
 have e0:ieq (0:Int) 0=true:=by rw[Ag];rfl
 simp only[MG h (Apn.1 ht).1,e0,AW (E6 ht)]
 have:=MF (t:=t) (by omega) (by omega)
 rw[show((Ai t).1,(Ai t).2.1,(Ai t).2.2.1,(Ai t).2.2.2.1,())=Ai t from rfl,this]
 simp only[AL]
theorem Abq{ts:List Tsk}{i:Nat}{t:Tsk}:(ts.map Ai).set i (Ai t)=(ts.set i t).map Ai:=by rw[List.map_set]
theorem AVX{g:Nat}{ts:List Tsk}{dn:List Bool}(h:Wok g ts dn){i:Nat}{t:Tsk}(ht:ts[i]? = some t)(hg:g<t.hi-t.lo)(hw:t.wait=0)(hl:ts.length+2≤2000):
  AAo (Mv g ts dn,(i:Int),())=some ((ts.set i { t with wait:=2 }++([⟨t.lo,A8 t,some i,0⟩,⟨A8 t,t.hi,some i,0⟩]:List Tsk)).map Ai,(g:Int),dn,(ts.length:Int),((ts.length+1:Nat):Int),0,()):=by
 have hk:=h.ok i t ht
 have:=h.n2
 have hi:=(Apn.1 ht).1
 rw[AIA,Qn]
 have e0:ieq (0:Int) 0=true:=by rw[Ag];rfl
 have hu:=MF (t:=t) (by omega) (by omega)
 simp only[MG h hi,e0,AW (E6 ht),Aph]
 rw[show((Ai t).1,(Ai t).2.1,(Ai t).2.2.1,(Ai t).2.2.2.1,())=Ai t from rfl,hu]
 simp only[DF,ApW (show ¬ t.hi-t.lo≤g by omega)]
 have e1:(Ai t).2.2.2.1=0:=by simp[Ai,hw]
 rw[e1,Ae,ApW (show ¬ (0:Int)<0 by omega)]
 simp only[AS,Ap1]
 rw[show(ts.length:Int)+2=((ts.length+2:Nat):Int) by omega,Ah (by omega),Ae,ApW (by omega)]
 simp only[An2 (show t.hi-t.lo<9223372036854775808 by omega),LP (show(ts.map Ai).length≤4294967296 by rw[Ap1];omega),Ap1,Api,Apt]
 rw[Bj (by omega)]
 have hm:IntKind.wrap .i64 ((Ai t).1+((t.hi-t.lo)/2:Nat))=(A8 t:Int):=by
  show IntKind.wrap .i64 ((t.lo:Int)+_)=_
  rw[wrap_add (by omega)];rfl
 simp only[hm,ET]
 have hget:(ts.map Ai++[((Ai t).1,((A8 t:Nat):Int),(i:Int),(0:Int),()),(((A8 t:Nat):Int),(Ai t).2.1,(i:Int),(0:Int),())])[i]? = some (Ai t):=by
  rw[Ap4 (by rw[Ap1];exact hi)];exact E6 ht
 simp only[AW hget,BJ hget]
 rw[DW,List.set_append_left _ _ (by rw[Ap1];exact hi)]
 rw[AP (by omega),AqZ,← Abq]
 rfl
theorem AkS:∀ (k:Nat) (ts:List Tsk) (u:Option Nat) (n:Nat),(∀ (i:Nat) (t:Tsk),ts[i]? = some t→t.wait≤2∧∀ x,t.up=some x→x<i)→(∀ x,u=some x→x<k∧x<ts.length)→ts.length<1000000→k<n →
  Aj DL n (ts.map Ai,KN u,())=some (if(fin k ts u).2=true then Sum.inr (Sum.inl ((fin k ts u).1.map Ai,()))else Sum.inl ((fin k ts u).1.map Ai,false,())):=by
 have enone:∀ (ts:List Tsk) (n:Nat),0<n→Aj DL n (ts.map Ai,KN none,())=some (Sum.inr (Sum.inl (ts.map Ai,()))):=by
  intro ts n hn
  obtain⟨n,rfl⟩:∃ m,n=m+1:=⟨n-1,by omega⟩
  rw[Aj,DL]
  unfold KN
  rw[Ag,ApX rfl]
  rfl
 intro k
 induction k with
 |zero=>
  intro ts u n ht hu hl hn
  cases u with
  |none=>rw[enone ts n hn];rfl
  |some x=>exact absurd (hu x rfl).1 (by omega)
 |succ k ih=>
  intro ts u n ht hu hl hn
  cases u with
  |none=>rw[enone ts n (by omega)];rfl
  |some x=>
   obtain⟨h1,h2⟩:=hu x rfl
   obtain⟨n,rfl⟩:∃ m,n=m+1:=⟨n-1,by omega⟩
   have hx:ts[x]? = some (ts[x]):=ApZ h2
   generalize ts[x]=t at hx
   have htx:=ht x t hx
   rw[Aj,DL]
   have e1:ieq (KN (some x)) (-1:Int)=false:=by rw[Ag];exact ApW (by simp only[KN];omega)
   have e2:KN (some x)=(x:Int):=rfl
   simp only[e1]
   simp only[Ap8,e2,AW (E6 hx),BJ (E6 hx)]
   have hs:Az (ts.map Ai) (AN (x:Int)) ((Ai t).1,(Ai t).2.1,(Ai t).2.2.1,IntKind.wrap .i64 ((Ai t).2.2.2.1-1),())=if t.wait=0 then Az (ts.map Ai) (AN (x:Int)) ((Ai t).1,(Ai t).2.1,(Ai t).2.2.1,IntKind.wrap .i64 ((Ai t).2.2.2.1-1),())else(ts.set x { t with wait:=t.wait-1 }).map Ai:=by
    by_cases hw:t.wait=0
    ·rw[Apk hw]
    ·rw[Apg hw,DW,← Abq]
     congr 1
     show((Ai t).1,(Ai t).2.1,(Ai t).2.2.1,IntKind.wrap .i64 ((t.wait:Int)-1),())=_
     rw[BA (by omega)];rfl
   unfold fin
   rw[hx]
   by_cases hw:t.wait=0
   ·have e3:ieq (Ai t).2.2.2.1 (0:Int)=true:=by rw[Ag];exact ApX (by simp[Ai,hw])
    simp only[e3,hw,AqI]
    rfl
   ·have e3:ieq (Ai t).2.2.2.1 (0:Int)=false:=by rw[Ag];exact ApW (by simp[Ai,hw])
    rw[Apg hw]at hs
    simp only[e3,hs]
    have hg:((ts.set x { t with wait:=t.wait-1 }).map Ai)[x]? = some (Ai { t with wait:=t.wait-1 }):=E6 (PM hx)
    simp only[BJ hg]
    by_cases hw2:0<t.wait-1
    ·have e4:ilt (0:Int) (Ai { t with wait:=t.wait-1 }).2.2.2.1=true:=by
      rw[Ae];exact ApX (by simp only[Ai];omega)
     simp only[e4,hw,hw2,AqI,Apr]
     rfl
    ·have e4:ilt (0:Int) (Ai { t with wait:=t.wait-1 }).2.2.2.1=false:=by
      rw[Ae];exact ApW (by simp only[Ai];omega)
     simp only[e4,hw,hw2,Apr]
     have e5:(Ai { t with wait:=t.wait-1 }).2.2.1=KN t.up:=rfl
     rw[e5]
     exact ih (ts.set x { t with wait:=t.wait-1 }) t.up n (fun i s hs=>by
      rcases N2 hs with⟨rfl,rfl,_⟩|⟨_,hs⟩
      ·exact⟨by show t.wait-1≤2;omega,htx.2⟩
      ·exact ht i s hs) (fun y hy=>by
      have:=htx.2 y hy
      rw[Aqm]
      exact⟨by omega,by omega⟩) (by rw[Aqm];exact hl) (by omega)
theorem AK0{ts:List Tsk}{u:Option Nat}(ht:∀ (i:Nat) (t:Tsk),ts[i]? = some t→t.wait≤2∧∀ x,t.up=some x→x<i)(hu:∀ x,u=some x→x<ts.length)(hl:ts.length<1000000):
  MH (ts.map Ai,KN u,())=some ((fin ts.length ts u).1.map Ai,(fin ts.length ts u).2,()):=by
 rw[XW,KS]
 have hm:ts.length<many:=by simp only[many];omega
 have e:=AkS ts.length ts u many ht (fun x hx=>⟨hu x hx,hu x hx⟩) hl hm
 rw[A3,e]
 by_cases hb:(fin ts.length ts u).2=true
 ·rw[Apk hb];simp only[hb]
 ·rw[Apg hb]
  simp only[Bool.not_eq_true]at hb
  simp only[hb]
theorem AYv(lo:Nat):∀ (k:Nat) (dn:List Bool),(List.range k).foldl (fun a j=>a.set (lo+j) true) dn=Of dn lo k:=by
 intro k
 induction k with
 |zero=>intro dn;rfl
 |succ k ih=>intro dn;rw[AqR,ArV,ih];rfl
theorem Ag9{g:Nat}{ts:List Tsk}{dn:List Bool}(h:Wok g ts dn){i:Nat}{t:Tsk}(ht:ts[i]? = some t)(hg:¬ g<t.hi-t.lo)(hw:t.wait=0)(hd:dn[t.lo]? = some false):
  AhB (Mv g ts dn,(i:Int),())=some ((fin ts.length ts t.up).1.map Ai,(g:Int),Of dn t.lo (t.hi-t.lo),(fin ts.length ts t.up).2,0,()):=by
 have hk:=h.ok i t ht
 have:=h.n2
 have:=h.t2
 have hi:=(Apn.1 ht).1
 rw[Aac,AK2]
 have e0:ieq (0:Int) 0=true:=by rw[Ag];rfl
 have hu:=MF (t:=t) (by omega) (by omega)
 simp only[MG h hi,e0,AW (E6 ht),Aph]
 rw[show((Ai t).1,(Ai t).2.1,(Ai t).2.2.1,(Ai t).2.2.2.1,())=Ai t from rfl,hu]
 simp only[AL,ApW hg]
 have e1:(Ai t).2.2.2.1=0:=by simp[Ai,hw]
 have e2:(Ai t).1=(t.lo:Int):=rfl
 have e3:(Ai t).2.1=(t.hi:Int):=rfl
 have e4:(Ai t).2.2.1=KN t.up:=rfl
 rw[e1,Ae,ApW (show ¬ (0:Int)<0 by omega)]
 simp only[e2,e3,e4,AW hd,LP (show(ts.map Ai).length≤4294967296 by rw[Ap1];omega),LP (show dn.length≤4294967296 by omega)]
 have e:=Es (step:=KT) (fun j (a:List Bool)=>(ts.map Ai,(g:Int),a,(0:Int),(t.lo:Int),(t.hi:Int),KN t.up,(0:Int),((t.lo+j:Nat):Int),())) (List.range (t.hi-t.lo)) (fun(j:Nat) a=>.inl (a.set (t.lo+j) true))
  (fun a=>.inl (ts.map Ai,(g:Int),a,(0:Int),(t.lo:Int),(t.hi:Int),KN t.up,(0:Int),())) (fun _ a=>a.length=dn.length) (by rw[AqA];omega)
  (fun j x a hj hx ha=>by
   rw[AqA]at hj
   rw[Aq2 hj]at hx
   cases hx
   refine⟨fun a' h' => ?_,fun r h'=>by cases h'⟩
   cases h'
   refine⟨?_,by rw[Aqm];exact ha⟩
   rw[KT,AL,ApX (show t.lo+j<t.hi by omega)]
   obtain⟨x,hx⟩:=Aon (xs:=a) (n:=t.lo+j) (by omega)
   simp only[hx,DW]
   rw[AP (by omega)]
   rfl)
  (fun a _=>by
   rw[AqA,KT,AL,ApW (by omega)]) dn rfl
 have e':AU KT many (ts.map Ai,(g:Int),dn,(0:Int),(t.lo:Int),(t.hi:Int),KN t.up,(0:Int),(t.lo:Int),())=_:=e
 rw[e',CP,AYv]
 simp only
 rw[AK0 (fun i s hs=>⟨(h.ok i s hs).2.2.1,(h.ok i s hs).2.2.2⟩) (fun x hx=>by have:=hk.2.2.2 x hx;omega) (by omega)]
end Go.Pev.Pl
end
