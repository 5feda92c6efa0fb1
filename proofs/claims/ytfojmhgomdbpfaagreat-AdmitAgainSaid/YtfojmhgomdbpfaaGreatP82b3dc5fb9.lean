/- A part of the proofs of this seat: G26M1 G26M2 G26M3 G26M4 G26M5 G26M U26al Pln PlnB PlnM PlnD PlnE T05a T05b T05c U26a. -/
import Derived.Test.YtfojmhgomdbpfaaGreatP3fbfcc8092
import Derived.KernelRfl
import Derived.IntWalk
import Derived.Sort.AssemblyPlain
set_option linter.unusedVariables false
set_option linter.unusedSimpArgs false
set_option linter.unusedSectionVars false
set_option maxRecDepth 100000
section
namespace Go.Pev
noncomputable section
attribute [local irreducible] Oy LD OR Oa AjV AjW AjY Q9 AGi Qv Yn LO Aj many IntKind.wrap AM Az AY BX Bu F7 D3 AN Br B4 imax AS Ae
abbrev U0:Ty:=(.int .i64)
abbrev U1:=(Int×Int×Unit)
abbrev U2:Ty:=(.prod U0 (.prod U0 .unit))
abbrev U3:Ty:=(.prod U0 (.prod U0 (.prod U0 (.prod .bool .unit))))
abbrev U4:=(Int×Int×Int×Bool×Unit)
abbrev U5:=(List Int)
abbrev U6:=(Int×Int×Int×Int×Unit)
abbrev U7:Ty:=(.slice U0)
abbrev U8:=(List U5×Int×Int×Int×Unit)
abbrev U9:=(List U1×Int×Int×Int×Unit)
abbrev Ua:=(Int×Unit)
abbrev Ub:=(Int×Int×Int×Unit)
abbrev Uc:Ty:=(.slice (.prod U0 (.prod U0 U2)))
abbrev Ud:=(List U1×Int×Int×Unit)
abbrev Ue:Ty:=(.prod U0 (.prod U0 (.prod (.slice (.arr 2 U0)) .unit)))
abbrev Uf:Ty:=(.prod U0 (.prod (.slice U2) (.prod (.slice (.prod U0 U2)) .unit)))
abbrev Ug:Ty:=(.int .u32)
abbrev Uh:=(List U5×Int×Int×Unit)
abbrev Ui:=(Bool×Unit)
abbrev Uj:Ty:=(.slice U7)
abbrev Uk:=(List U6×Int×List Bool×List U5×Bool×Int×Int×List U4×Int×Unit)
abbrev Ul:=(List U1×Unit)
abbrev Um:=(List U5×Int×Int×Int×Int×Unit)
abbrev Un:=(List U1×Int×Int×Int×Int×Unit)
abbrev Uo:Ty:=(.prod Uc (.prod U0 (.prod (.slice .bool) .unit)))
abbrev Up:=(List Int×Unit)
abbrev Uq:=(List U5×Unit)
abbrev Ur:=(Int×Int×(List U5)×Unit)
abbrev Us:=(Int×(List U1)×(List Ub)×Unit)
abbrev Ut:Ty:=(.slice U2)
abbrev Uu:Ty:=(.prod U0 U2)
abbrev Uv:Ty:=(.prod U0 (.prod (.slice U3) .unit))
abbrev Uw:Ty:=(.slice .bool)
abbrev Ux:=(List U6×Int×List Bool×List U5×Bool×Int×Int×Int×Int×Int×Bool×Int×Unit)
abbrev Uy:=(List Int×Int×Int×Unit)
abbrev Uz:=(Int×Int)
abbrev V0:Ty:=(.slice Ug)
abbrev V1:=(List U5×Int×Int×Int×Int×Int×Unit)
abbrev V2:=(List U1×Int×Int×Int×Int×Int×Unit)
abbrev V3:Ty:=(.prod U0 (.prod Uj .unit))
abbrev V4:=(Int×(List U5)×Unit)
abbrev V5:=(Int×(List U4)×Unit)
abbrev V6:=(List Int×List Int×Int×Int×List Int×List Int×Int×Int×Unit)
abbrev V7:=(Int×List U5×List Uz×Int×List U5×Int×Int×List Int×Int×Int×Bool×List Int×Bool×Bool×List Int×Int×List Int×Int×Bool×Int×List Int×Bool×Bool×List Int×Int×Int×Unit)
abbrev V8:Ty:=(.slice U3)
abbrev V9:=(List U6×Int×List Bool×List U5×Bool×Int×Int×List Uz×List U5×Int×Int×Unit)
abbrev Va:=(List Int×Int×Int×Int×List Int×Int×Int×Unit)
abbrev Vb:=(U1×Int)
abbrev Vc:Ty:=(.prod U0 (.prod U0 (.prod Ue .unit)))
abbrev Vd:=(List Int×Int×List Int×Int×Int×List Int×List Int×Int×Int×Unit)
abbrev Ve:=(List Int×List Int×List Int×Int×Int×Unit)
abbrev Vf:=(List Int×Int×Unit)
abbrev Vg:Ty:=(.slice Uu)
abbrev Vh:Ty:=(.prod Uo (.prod Uj (.prod .bool U2)))
abbrev Vi:Ty:=(.prod U0 Uu)
abbrev Vj:=(Int×Bool×Int×Int×List U6×Int×List Bool×List U5×Bool×Int×Int×List U4×List U5×Int×Int×Unit)
abbrev Vk:=(Int×List U4×Int×List U1×List Ub×Int×Int×Int×Int×List U5×Int×List U1×List Ub×Int×Int×Unit)
abbrev Vl:=(List U6×Int×List Bool×List U5×Bool×Int×Int×List Uz×List U5×Int×Int×List Int×Int×Int×Unit)
abbrev Vm:=(List U1×List Vb×Int×Int×Unit)
abbrev Vn:=(List Int×Int×List Int×Int×Int×List Int×Int×List Int×Int×Int×List Int×Int×Int×Unit)
abbrev AAK:AE:=[(.tmp 0,.di)]
abbrev AAJ:AE:=[(.tmp 0,.dat .bool)]
abbrev AAI:List RS:=[.one]
def Qj[Lk]:Ua→Option (Ui):=fun(a0,_)=>
 match(ile 1 a0)with
 |true=>some ((ile a0 64),())
 |false=>some (false,())
def ME[Lk]:=fun v=>Lk.f (Qj v)
theorem AHp v:ME v=Qj v:=AJ _
abbrev Agy:AE:=[(.tmp 0,.di),(.tmp 1,.di)]
abbrev Agx:AE:=[(.tmp 0,.dat .bool)]
abbrev Agw:List RS:=[.one]
def AaP[Lk]:U1→Option (Ui):=fun(a0,a1,_)=>
 match ME (a0,())with|none=>none|some (y0,_)=>match y0 with
 |true=>match(ile 0 a1)with
  |true=>some ((ilt a1 a0),())
  |false=>some (false,())
 |false=>some (false,())
def tin[Lk]:=fun v=>Lk.f (AaP v)
theorem Agz v:tin v=AaP v:=AJ _
abbrev AVU:AE:=[(.tmp 0,.di),(.tmp 1,.di),(.tmp 2,.di)]
abbrev AVT:AE:=[(.tmp 0,.di)]
abbrev AVS:List RS:=[.one]
def AKw[Lk]:Ub→Option (Ua):=fun(a0,a1,a2,_)=>
 match(ieq a1 a2)with
 |true=>some ((-1:Int),())
 |false=>match tin (a0,a1,())with|none=>none|some (y0,_)=>match(!y0)with
 |true=>some ((-1:Int),())
 |false=>match tin (a0,a2,())with|none=>none|some (y1,_)=>match(!y1)with
 |true=>some ((-1:Int),())
 |false=>some ((IntKind.wrap .i64 ((IntKind.wrap .i64 (a0*(IntKind.wrap .i64 (a1+1))))+a2)),())
def AcW[Lk]:=fun v=>Lk.f (AKw v)
theorem AaQ v:AcW v=AKw v:=AJ _
abbrev AAG:AE:=[(.tmp 0,.di),(.tmp 1,.di)]
abbrev AAF:AE:=[(.tmp 0,.di),(.tmp 1,.di),(.tmp 2,.dat .bool),(.tmp 3,.dat .bool)]
abbrev AAE:List RS:=[.one,.one,.one,.one]
def Qi[Lk]:U1→Option ((Int×Int×Bool×Bool×Unit)):=fun(a0,a1,_)=>
 match ME (a0,())with|none=>none|some (y0,_)=>match(!y0)with
 |true=>some (0,0,false,false,())
 |false=>match(ilt a1 0)with
 |true=>some (0,0,false,false,())
 |false=>match(ile (IntKind.wrap .i64 (a0*(IntKind.wrap .i64 (a0+1)))) a1)with
 |true=>some (0,0,false,false,())
 |false=>match(ilt a1 a0)with
 |true=>some (a1,0,false,true,())
 |false=>match quo? .i64 a1 a0 with|none=>none|some x1=>match rem? a1 a0 with|none=>none|some x2=>match(ieq (IntKind.wrap .i64 (x1-1)) x2)with
 |true=>some (0,0,false,false,())
 |false=>some ((IntKind.wrap .i64 (x1-1)),x2,true,true,())
def AAH[Lk]:=fun v=>Lk.f (Qi v)
theorem AHo v:AAH v=Qi v:=AJ _
abbrev AKi:AE:=[(.tmp 0,.di)]
abbrev AKh:AE:=[(.tmp 0,.di),(.tmp 1,.own 41 U7),(.tmp 2,.di)]
abbrev AKg:List RS:=[.agg 2,.one]
abbrev APm:AE:=[(.tmp 2,.box 2),(.cell 0 0,.di),(.cell 0 1,.nil U7),(.tmp 4,.box 2),(.cell 1 0,.di),(.cell 1 1,.own 41 U7),(.tmp 12,.di),(.tmp 13,.di)]
abbrev APl:Ao:=[(.exit 0,[(.tmp 2,.box 2),(.cell 0 0,.di),(.cell 0 1,.nil U7),(.tmp 4,.box 2),(.cell 1 0,.di),(.cell 1 1,.own 41 U7)])]
def HU[Lk]:(Int×Int×List U5×Int×Int×Unit)→Option ((Int×Int×List U5×Int×Int×Unit)⊕(Int×Int×List U5×Unit)⊕Unit):=fun(a0,a1,a2,a3,a4,_)=>
 match(ilt a4 a3)with
 |true=>match(fits ((AM a2)+(AM ([([a4]:List (Int))]:List U5))))with
  |true=>some (.inl (a0,a1,(BX a2 ([([a4]:List (Int))]:List U5)),a3,(IntKind.wrap .i64 (a4+1)),()))
  |false=>none
 |false=>some (.inr (.inl (a0,a1,a2,())))
def ZO[Lk]:Ua→Option ((Int×List U5×Int×Unit)):=fun(a0,_)=>
 match ME (a0,())with|none=>none|some (y0,_)=>match(!y0)with
 |true=>some (0,([]:List U5),1,())
 |false=>match AX HU many (0,a0,([]:List U5),a0,0,())with|none=>none|some r=>match r with
 |.inl (o1,o2,o3,_)=>some (o2,o3,0,())
 |.inr _=>none
def APo[Lk]:=fun v=>Lk.f (ZO v)
theorem APn v:APo v=ZO v:=AJ _
abbrev ADa:AE:=[(.tmp 0,.dat U7),(.tmp 1,.di)]
abbrev ADZ:AE:=[(.tmp 0,.di)]
abbrev ADY:List RS:=[.one]
abbrev AIz:AE:=[(.tmp 0,.dat U7),(.tmp 1,.di),(.tmp 7,.di),(.tmp 8,.di)]
abbrev AIy:Ao:=[(.ret,[(.tmp 4,.di)]),(.exit 0,[])]
def Fj[Lk]:(List Int×Int×Int×Int×Unit)→Option ((List Int×Int×Int×Int×Unit)⊕Ua⊕(Unit)⊕Unit):=fun(a0,a1,a2,a3,_)=>
 match(ilt a3 a2)with
 |true=>match idx a0 a3 with|none=>none|some x0=>match(ieq a1 x0)with
  |true=>some (.inr (.inl (a3,())))
  |false=>some (.inl (a0,a1,a2,(IntKind.wrap .i64 (a3+1)),()))
 |false=>some (.inr (.inr (.inl ())))
def RR[Lk]:Vf→Option (Ua):=fun(a0,a1,_)=>
 match AX Fj many (a0,a1,(AM a0),0,())with|none=>none|some r=>match r with
 |.inl (o0,_)=>some (o0,())
 |.inr r=>match r with
 |.inl _=>some ((-1:Int),())
 |.inr _=>none
def Pv[Lk]:=fun v=>Lk.f (RR v)
theorem AI0 v:Pv v=RR v:=AJ _
abbrev M4:AE:=[(.tmp 0,.dat U7),(.tmp 1,.di)]
abbrev M3:AE:=[(.tmp 0,.dat .bool)]
abbrev M0:List RS:=[.one]
def Im[Lk]:Vf→Option (Ui):=fun(a0,a1,_)=>
 match Pv (a0,a1,())with|none=>none|some (y0,_)=>some ((ile 0 y0),())
def F9[Lk]:=fun v=>Lk.f (Im v)
theorem Ry v:F9 v=Im v:=AJ _
abbrev AXd:AE:=[(.tmp 0,.dat U7)]
abbrev AXc:AE:=[(.tmp 0,.di)]
abbrev AXb:List RS:=[.one]
abbrev Aa3:AE:=[(.tmp 0,.dat U7),(.tmp 3,.di),(.tmp 4,.di)]
abbrev Aa2:Ao:=[(.exit 0,[(.tmp 3,.di)])]
def Kf[Lk]:Uy→Option (Uy⊕Ua⊕Unit):=fun(a0,a1,a2,_)=>
 match(ilt a2 (AM a0))with
 |true=>match idx a0 a2 with|none=>none|some x0=>some (.inl (a0,(B4 a1 x0),(IntKind.wrap .i64 (a2+1)),()))
 |false=>some (.inr (.inl (a1,())))
def AMU[Lk]:Up→Option (Ua):=fun(a0,_)=>
 match(ilt (AM a0) 1)with
 |true=>none
 |false=>match idx a0 0 with|none=>none|some x0=>match AX Kf many (a0,x0,1,())with|none=>none|some r=>match r with
 |.inl (o1,_)=>some (o1,())
 |.inr _=>none
def Ad1[Lk]:=fun v=>Lk.f (AMU v)
theorem Aa4 v:Ad1 v=AMU v:=AJ _
abbrev ANB:AE:=[(.tmp 0,.nil U0),(.tmp 1,.di)]
abbrev ANA:AE:=[(.tmp 0,.own 3 U0)]
abbrev AM9:List RS:=[.one]
def Zd[Lk]:Ua→Option (Up):=fun(a0,_)=>
 match(ilt a0 0)with
 |true=>none
 |false=>match(ilt 0 (IntKind.wrap .i64 (a0-(IntKind.wrap .i64 (0-0)))))with
 |true=>match EF ([]:List Unit) 0 0 with|none=>none|some _u0=>match(CM (IntKind.wrap .i64 (a0-(IntKind.wrap .i64 (0-0)))))with
  |true=>match EF (D3 (AN (IntKind.wrap .i64 (a0-(IntKind.wrap .i64 ((0:Int)-(0:Int)))))) (0:Int)) (0:Int) (0:Int)with|none=>none|some x1=>some ((Bu (AN (AM x1)) (D3 (AN (IntKind.wrap .i64 (a0-(IntKind.wrap .i64 ((0:Int)-(0:Int)))))) (0:Int))),())
  |false=>none
 |false=>some (([]:List (Int)),())
def AS1[Lk]:=fun v=>Lk.f (Zd v)
theorem AS0 v:AS1 v=Zd v:=AJ _
abbrev WU:AE:=[(.tmp 0,.dat Uj)]
abbrev WT:AE:=[(.tmp 0,.own 3 U0)]
abbrev WS:List RS:=[.one]
abbrev AEx:AE:=[(.tmp 6,.own 3 U0),(.tmp 25,.dat Uj),(.tmp 26,.di),(.tmp 27,.di)]
abbrev AEv:Ao:=[(.exit 2,[(.tmp 6,.own 3 U0)])]
def ET[Lk]:(List Int×List U5×Int×Int×Unit)→Option ((List Int×List U5×Int×Int×Unit)⊕Up⊕Unit):=fun(a0,a1,a2,a3,_)=>
 match(ilt a3 a2)with
 |true=>match idx a1 a3 with|none=>none|some x0=>match(fits ((AM a0)+(AM x0)))with
  |true=>some (.inl ((BX a0 x0),a1,a2,(IntKind.wrap .i64 (a3+1)),()))
  |false=>none
 |false=>some (.inr (.inl (a0,())))
abbrev AEy:AE:=[(.tmp 0,.dat Uj),(.tmp 3,.di),(.tmp 9,.dat Uj),(.tmp 10,.di),(.tmp 11,.di)]
abbrev AEw:Ao:=[(.exit 0,[(.tmp 0,.dat Uj),(.tmp 3,.di)])]
def EU[Lk]:(List U5×Int×List U5×Int×Int×Unit)→Option ((List U5×Int×List U5×Int×Int×Unit)⊕(List U5×Int×Unit)⊕Unit):=fun(a0,a1,a2,a3,a4,_)=>
 match(ilt a4 a3)with
 |true=>match idx a2 a4 with|none=>none|some x0=>match(ilt (IntKind.wrap .i64 (a1+(AM x0))) 0)with
  |true=>none
  |false=>some (.inl (a0,(IntKind.wrap .i64 (a1+(AM x0))),a2,a3,(IntKind.wrap .i64 (a4+1)),()))
 |false=>some (.inr (.inl (a0,a1,())))
def OA[Lk]:Uq→Option (Up):=fun(a0,_)=>
 match AX EU many (a0,0,a0,(AM a0),0,())with|none=>none|some r=>match r with
 |.inl (o0,o1,_)=>match AS1 (o1,())with|none=>none|some (y2,_)=>match AX ET many (y2,o0,(AM o0),0,())with|none=>none|some r=>match r with
  |.inl (o3,_)=>some (o3,())
  |.inr _=>none
 |.inr _=>none
def LN[Lk]:=fun v=>Lk.f (OA v)
theorem AEz v:LN v=OA v:=AJ _
abbrev Hn:AE:=[(.tmp 0,.dat U7),(.tmp 1,.clo 161 [])]
abbrev Hm:AE:=[(.tmp 0,.di)]
abbrev Hl:List RS:=[.one]
abbrev Lz:AE:=[(.tmp 0,.dat U7),(.tmp 1,.clo 161 []),(.tmp 7,.di),(.tmp 8,.di)]
abbrev Ly:Ao:=[(.ret,[(.tmp 4,.di)]),(.exit 0,[])]
def By[Lk]:Uy→Option (Uy⊕Ua⊕(Unit)⊕Unit):=fun(a0,a1,a2,_)=>
 match(ilt a2 a1)with
 |true=>match idx a0 a2 with|none=>none|some x0=>match(ilt x0 0)with
  |true=>some (.inr (.inl (a2,())))
  |false=>match(ilt 10000 x0)with
  |true=>some (.inr (.inl (a2,())))
  |false=>some (.inl (a0,a1,(IntKind.wrap .i64 (a2+1)),()))
 |false=>some (.inr (.inr (.inl ())))
def E3[Lk]:Up→Option (Ua):=fun(a0,_)=>
 match AX By many (a0,(AM a0),0,())with|none=>none|some r=>match r with
 |.inl (o0,_)=>some (o0,())
 |.inr r=>match r with
 |.inl _=>some ((-1:Int),())
 |.inr _=>none
def G6[Lk]:=fun v=>Lk.f (E3 v)
theorem L0 v:G6 v=E3 v:=AJ _
abbrev Gy:AE:=[(.tmp 0,.dat U7),(.tmp 1,.clo 161 [])]
abbrev Gx:AE:=[(.tmp 0,.dat .bool)]
abbrev Gw:List RS:=[.one]
def EB[Lk]:Up→Option (Ui):=fun(a0,_)=>
 match G6 (a0,())with|none=>none|some (y0,_)=>some ((ile 0 y0),())
def D4[Lk]:=fun v=>Lk.f (EB v)
theorem J4 v:D4 v=EB v:=AJ _
abbrev AXP:AE:=[(.tmp 0,.dat U7)]
abbrev AXO:AE:=[(.tmp 0,.dat .bool)]
abbrev AXN:List RS:=[.one]
abbrev Aav:AE:=[(.tmp 0,.dat U7),(.tmp 3,.map U0 U0),(.tmp 7,.dat U7),(.tmp 8,.di),(.tmp 9,.di)]
abbrev Aau:Ao:=[(.exit 0,[(.tmp 0,.dat U7),(.tmp 3,.map U0 U0)])]
def KZ[Lk]:(List Int×List Uz×List Int×Int×Int×Unit)→Option ((List Int×List Uz×List Int×Int×Int×Unit)⊕(List Int×List Uz×Unit)⊕Unit):=fun(a0,a1,a2,a3,a4,_)=>
 match(ilt a4 a3)with
 |true=>match idx a2 a4 with|none=>none|some x0=>some (.inl (a0,(Ae a1 x0 (IntKind.wrap .i64 (((AS a1 x0).getD 0)+1))),a2,a3,(IntKind.wrap .i64 (a4+1)),()))
 |false=>some (.inr (.inl (a0,a1,())))
def AML[Lk]:Up→Option (Ui):=fun(a0,_)=>
 match AX KZ many (a0,([]:List Uz),a0,(AM a0),0,())with|none=>none|some r=>match r with
 |.inl (o0,o1,_)=>some ((ieq (AM o1) (AM o0)),())
 |.inr _=>none
def once[Lk]:=fun v=>Lk.f (AML v)
theorem Aaw v:once v=AML v:=AJ _
abbrev ABT:AE:=[(.tmp 0,.dat U7)]
abbrev ABS:AE:=[(.tmp 0,.dat .bool)]
abbrev ABR:List RS:=[.one]
def Q3[Lk]:Up→Option (Ui):=fun(a0,_)=>
 match(ilt 1000 (AM a0))with
 |true=>some (false,())
 |false=>match D4 (a0,())with|none=>none|some (y0,_)=>match(!y0)with
 |true=>match once (a0,())with|none=>none|some (y1,_)=>some (y1,())
 |false=>some (false,())
def PU[Lk]:=fun v=>Lk.f (Q3 v)
theorem AIL v:PU v=Q3 v:=AJ _
abbrev AAD:AE:=[(.tmp 0,.dat U7),(.tmp 1,.di)]
abbrev AAC:AE:=[(.tmp 0,.own 3 U0)]
abbrev AAB:List RS:=[.one]
def Qh[Lk]:Vf→Option (Up):=fun(a0,a1,_)=>
 match EF a0 a1 (AM a0)with|none=>none|some x0=>match EF a0 0 a1 with|none=>none|some x1=>match LN (([x0,x1]:List U5),())with|none=>none|some (y2,_)=>some (y2,())
def TH[Lk]:=fun v=>Lk.f (Qh v)
theorem AHn v:TH v=Qh v:=AJ _
abbrev AB6:AE:=[(.tmp 0,.dat U7),(.tmp 1,.dat U7)]
abbrev AB5:AE:=[(.tmp 0,.own 3 U0),(.tmp 1,.dat .bool)]
abbrev AB4:List RS:=[.one,.one]
abbrev AIZ:AE:=[(.tmp 0,.dat U7),(.tmp 6,.own 3 U0),(.tmp 12,.dat U7),(.tmp 13,.di),(.tmp 14,.di)]
abbrev AIY:Ao:=[(.exit 0,[(.tmp 6,.own 3 U0)])]
def Ed[Lk]:Ve→Option (Ve⊕Up⊕Unit):=fun(a0,a1,a2,a3,a4,_)=>
 match(ilt a4 a3)with
 |true=>match idx a2 a4 with|none=>none|some x0=>match Pv (a0,x0,())with|none=>none|some (y1,_)=>match(fits ((AM a1)+(AM ([y1]:List (Int)))))with
  |true=>some (.inl (a0,(BX a1 ([y1]:List (Int))),a2,a3,(IntKind.wrap .i64 (a4+1)),()))
  |false=>none
 |false=>some (.inr (.inl (a1,())))
def RD[Lk]:(List Int×List Int×Unit)→Option ((List Int×Bool×Unit)):=fun(a0,a1,_)=>
 match PU (a0,())with|none=>none|some (y0,_)=>match(!y0)with
 |true=>some (([]:List (Int)),false,())
 |false=>match AX Ed many (a0,([]:List (Int)),a1,(AM a1),0,())with|none=>none|some r=>match r with
 |.inl (o1,_)=>match F9 (o1,(-1:Int),())with|none=>none|some (y2,_)=>some (o1,(!y2),())
 |.inr _=>none
def ALs[Lk]:=fun v=>Lk.f (RD v)
theorem AIa v:ALs v=RD v:=AJ _
abbrev ALh:AE:=[(.tmp 0,.dat U7),(.tmp 1,.di)]
abbrev ALg:AE:=[(.tmp 0,.own 3 U0),(.tmp 1,.dat .bool)]
abbrev ALf:List RS:=[.one,.one]
def ZU[Lk]:Vf→Option ((List Int×Bool×Unit)):=fun(a0,a1,_)=>
 match ALs (a0,([a1]:List (Int)),())with|none=>none|some (y0,y1,_)=>match(!y1)with
 |true=>some (([]:List (Int)),false,())
 |false=>match idx y0 0 with|none=>none|some x2=>match TH (a0,(AY y0 0 0),())with|none=>none|some (y3,_)=>some (y3,true,())
def AIN[Lk]:=fun v=>Lk.f (ZU v)
theorem AQr v:AIN v=ZU v:=AJ _
abbrev ABW:AE:=[(.tmp 0,.dat U7)]
abbrev ABV:AE:=[(.tmp 0,.own 3 U0)]
abbrev ABU:List RS:=[.one]
def Q4[Lk]:Up→Option (Up):=fun(a0,_)=>
 match PU (a0,())with|none=>none|some (y0,_)=>match(!y0)with
 |true=>some (([]:List (Int)),())
 |false=>match(ieq (AM a0) 0)with
 |true=>some (([]:List (Int)),())
 |false=>match Ad1 (a0,())with|none=>none|some (y1,_)=>match Pv (a0,y1,())with|none=>none|some (y2,_)=>match TH (a0,y2,())with|none=>none|some (y3,_)=>some (y3,())
def ABX[Lk]:=fun v=>Lk.f (Q4 v)
theorem AIM v:ABX v=Q4 v:=AJ _
abbrev Fm:AE:=[(.tmp 0,.dat Uj),(.cap 1 0,.box 1),(.cell 0 0,.di),(.tmp 1,.clo 128 [(0,0)])]
abbrev Fl:AE:=[(.obj 0,.box 1),(.cell 0 0,.di),(.tmp 0,.di)]
abbrev Fk:List RS:=[.one]
abbrev IY:AE:=[(.obj 0,.box 1),(.cell 0 0,.di),(.tmp 0,.dat Uj),(.tmp 1,.clo 128 [(0,0)]),(.tmp 7,.di),(.tmp 8,.di)]
abbrev IX:Ao:=[(.ret,[(.obj 0,.box 1),(.cell 0 0,.di),(.tmp 4,.di)]),(.exit 0,[(.obj 0,.box 1),(.cell 0 0,.di)])]
def Be[Lk]:(Int×List U5×Int×Int×Unit)→Option ((Int×List U5×Int×Int×Unit)⊕U1⊕Ua⊕Unit):=fun(a0,a1,a2,a3,_)=>
 match(ilt a3 a2)with
 |true=>match idx a1 a3 with|none=>none|some x0=>match F9 (x0,a0,())with|none=>none|some (y1,_)=>match y1 with
  |true=>some (.inr (.inl (a0,a3,())))
  |false=>some (.inl (a0,a1,a2,(IntKind.wrap .i64 (a3+1)),()))
 |false=>some (.inr (.inr (.inl (a0,()))))
def Dn[Lk]:(List U5×Int×Unit)→Option (U1):=fun(a0,a1,_)=>
 match AX Be many (a1,a0,(AM a0),0,())with|none=>none|some r=>match r with
 |.inl (o0,o1,_)=>some (o0,o1,())
 |.inr r=>match r with
 |.inl (o2,_)=>some (o2,(-1:Int),())
 |.inr _=>none
def E1[Lk]:=fun v=>Lk.f (Dn v)
theorem IZ v:E1 v=Dn v:=AJ _
abbrev AAV:AE:=[(.tmp 0,.dat V3),(.tmp 1,.di)]
abbrev AAU:AE:=[(.tmp 0,.di)]
abbrev AAT:List RS:=[.one]
def Ql[Lk]:(V4×Int×Unit)→Option (Ua):=fun(a0,a1,_)=>
 match E1 (a0.2.1,a1,())with|none=>none|some (y0,y1,_)=>some (y1,())
def TL[Lk]:=fun v=>Lk.f (Ql v)
theorem AHx v:TL v=Ql v:=AJ _
abbrev AYP:AE:=[(.tmp 0,.di),(.tmp 1,.dat U7)]
abbrev AYO:AE:=[(.tmp 0,.dat .bool)]
abbrev AYN:List RS:=[.one]
abbrev AbN:AE:=[(.tmp 0,.di),(.tmp 5,.box 3),(.cell 0 0,.own 3 U0),(.cell 0 1,.map U0 U0),(.cell 0 2,.map U0 U0),(.tmp 30,.dat U7),(.tmp 31,.di),(.tmp 32,.di)]
abbrev AbM:Ao:=[(.ret,[(.tmp 4,.dat .bool)]),(.exit 0,[(.tmp 5,.box 3),(.cell 0 0,.own 3 U0),(.cell 0 1,.map U0 U0),(.cell 0 2,.map U0 U0)])]
def Ie[Lk]:(Int×List Int×List Uz×List Uz×List Int×Int×Int×Unit)→Option ((Int×List Int×List Uz×List Uz×List Int×Int×Int×Unit)⊕Ui⊕(List Int×List Uz×List Uz×Unit)⊕Unit):=fun(a0,a1,a2,a3,a4,a5,a6,_)=>
 match(ilt a6 a5)with
 |true=>match idx a4 a6 with|none=>none|some x0=>match AAH (a0,x0,())with|none=>none|some (y1,y2,y3,y4,_)=>match(!y4)with
  |true=>some (.inr (.inl (false,())))
  |false=>match y3 with
  |true=>match idx a1 (IntKind.wrap .i64 ((AM a1)-1))with|none=>none|some x5=>match(!(ieq (AY a1 (AN (IntKind.wrap .i64 ((AM a1)-1))) 0) y1))with
   |true=>some (.inr (.inl (false,())))
   |false=>match(ilt 0 (IntKind.wrap .i64 ((AM a1)-1)))with
   |true=>match idx a1 (IntKind.wrap .i64 ((IntKind.wrap .i64 ((AM a1)-1))-1))with|none=>none|some x6=>match(ieq (AY a1 (AN (IntKind.wrap .i64 ((IntKind.wrap .i64 ((AM a1)-1))-1))) 0) y2)with
    |true=>match EF a1 0 (IntKind.wrap .i64 ((AM a1)-1))with|none=>none|some x7=>match(!y3)with
     |true=>match idx (F7 0 (AN (AM x7)) a1) (IntKind.wrap .i64 ((((AN (AM x7)):Nat):Int)-1))with|none=>none|some x8=>match(!(ieq (AY a1 (0+(AN (IntKind.wrap .i64 ((((AN (AM x7)):Nat):Int)-1)))) 0) y1))with
      |true=>some (.inr (.inl (false,())))
      |false=>match(!y3)with
      |true=>some (.inl (a0,(Bu (AN (AM x7)) a1),a2,(Ae a3 y1 (IntKind.wrap .i64 (((AS a3 y1).getD 0)+1))),a4,a5,(IntKind.wrap .i64 (a6+1)),()))
      |false=>some (.inl (a0,(Bu (AN (AM x7)) a1),a2,a3,a4,a5,(IntKind.wrap .i64 (a6+1)),()))
     |false=>match(!y3)with
     |true=>some (.inl (a0,(Bu (AN (AM x7)) a1),a2,(Ae a3 y1 (IntKind.wrap .i64 (((AS a3 y1).getD 0)+1))),a4,a5,(IntKind.wrap .i64 (a6+1)),()))
     |false=>some (.inl (a0,(Bu (AN (AM x7)) a1),a2,a3,a4,a5,(IntKind.wrap .i64 (a6+1)),()))
    |false=>match(ilt 0 ((AS a2 y2).getD 0))with
    |true=>some (.inr (.inl (false,())))
    |false=>match(fits ((AM a1)+(AM ([y2]:List (Int)))))with
    |true=>match(!y3)with
     |true=>match idx (BX a1 ([y2]:List (Int))) (IntKind.wrap .i64 ((AM (BX a1 ([y2]:List (Int))))-1))with|none=>none|some x9=>match(!(ieq (AY (BX a1 ([y2]:List (Int))) (AN (IntKind.wrap .i64 ((AM (BX a1 ([y2]:List (Int))))-1))) 0) y1))with
      |true=>some (.inr (.inl (false,())))
      |false=>match(!y3)with
      |true=>some (.inl (a0,(BX a1 ([y2]:List (Int))),(Ae a2 y2 (IntKind.wrap .i64 (((AS a2 y2).getD 0)+1))),(Ae a3 y1 (IntKind.wrap .i64 (((AS a3 y1).getD 0)+1))),a4,a5,(IntKind.wrap .i64 (a6+1)),()))
      |false=>some (.inl (a0,(BX a1 ([y2]:List (Int))),(Ae a2 y2 (IntKind.wrap .i64 (((AS a2 y2).getD 0)+1))),a3,a4,a5,(IntKind.wrap .i64 (a6+1)),()))
     |false=>match(!y3)with
     |true=>some (.inl (a0,(BX a1 ([y2]:List (Int))),(Ae a2 y2 (IntKind.wrap .i64 (((AS a2 y2).getD 0)+1))),(Ae a3 y1 (IntKind.wrap .i64 (((AS a3 y1).getD 0)+1))),a4,a5,(IntKind.wrap .i64 (a6+1)),()))
     |false=>some (.inl (a0,(BX a1 ([y2]:List (Int))),(Ae a2 y2 (IntKind.wrap .i64 (((AS a2 y2).getD 0)+1))),a3,a4,a5,(IntKind.wrap .i64 (a6+1)),()))
    |false=>none
   |false=>match(ilt 0 ((AS a2 y2).getD 0))with
   |true=>some (.inr (.inl (false,())))
   |false=>match(fits ((AM a1)+(AM ([y2]:List (Int)))))with
   |true=>match(!y3)with
    |true=>match idx (BX a1 ([y2]:List (Int))) (IntKind.wrap .i64 ((AM (BX a1 ([y2]:List (Int))))-1))with|none=>none|some x10=>match(!(ieq (AY (BX a1 ([y2]:List (Int))) (AN (IntKind.wrap .i64 ((AM (BX a1 ([y2]:List (Int))))-1))) 0) y1))with
     |true=>some (.inr (.inl (false,())))
     |false=>match(!y3)with
     |true=>some (.inl (a0,(BX a1 ([y2]:List (Int))),(Ae a2 y2 (IntKind.wrap .i64 (((AS a2 y2).getD 0)+1))),(Ae a3 y1 (IntKind.wrap .i64 (((AS a3 y1).getD 0)+1))),a4,a5,(IntKind.wrap .i64 (a6+1)),()))
     |false=>some (.inl (a0,(BX a1 ([y2]:List (Int))),(Ae a2 y2 (IntKind.wrap .i64 (((AS a2 y2).getD 0)+1))),a3,a4,a5,(IntKind.wrap .i64 (a6+1)),()))
    |false=>match(!y3)with
    |true=>some (.inl (a0,(BX a1 ([y2]:List (Int))),(Ae a2 y2 (IntKind.wrap .i64 (((AS a2 y2).getD 0)+1))),(Ae a3 y1 (IntKind.wrap .i64 (((AS a3 y1).getD 0)+1))),a4,a5,(IntKind.wrap .i64 (a6+1)),()))
    |false=>some (.inl (a0,(BX a1 ([y2]:List (Int))),(Ae a2 y2 (IntKind.wrap .i64 (((AS a2 y2).getD 0)+1))),a3,a4,a5,(IntKind.wrap .i64 (a6+1)),()))
   |false=>none
  |false=>match(!y3)with
  |true=>match idx a1 (IntKind.wrap .i64 ((AM a1)-1))with|none=>none|some x11=>match(!(ieq (AY a1 (AN (IntKind.wrap .i64 ((AM a1)-1))) 0) y1))with
   |true=>some (.inr (.inl (false,())))
   |false=>match(!y3)with
   |true=>some (.inl (a0,a1,a2,(Ae a3 y1 (IntKind.wrap .i64 (((AS a3 y1).getD 0)+1))),a4,a5,(IntKind.wrap .i64 (a6+1)),()))
   |false=>some (.inl (a0,a1,a2,a3,a4,a5,(IntKind.wrap .i64 (a6+1)),()))
  |false=>match(!y3)with
  |true=>some (.inl (a0,a1,a2,(Ae a3 y1 (IntKind.wrap .i64 (((AS a3 y1).getD 0)+1))),a4,a5,(IntKind.wrap .i64 (a6+1)),()))
  |false=>some (.inl (a0,a1,a2,a3,a4,a5,(IntKind.wrap .i64 (a6+1)),()))
 |false=>some (.inr (.inr (.inl (a1,a2,a3,()))))
def AND[Lk]:(Int×List Int×Unit)→Option (Ui):=fun(a0,a1,_)=>
 match idx a1 0 with|none=>none|some x0=>match tin (a0,x0,())with|none=>none|some (y1,_)=>match(!y1)with
 |true=>some (false,())
 |false=>match idx a1 0 with|none=>none|some x2=>match idx a1 0 with|none=>none|some x3=>match AX Ie many (a0,([x2]:List (Int)),(Ae ([]:List Uz) x3 1),([]:List Uz),a1,(AM a1),0,())with|none=>none|some r=>match r with
 |.inl (o4,_)=>some (o4,())
 |.inr r=>match r with
 |.inl (o5,o6,o7,_)=>match(ieq (AM o5) 1)with
  |true=>some ((ieq (AM o7) (AM o6)),())
  |false=>some (false,())
 |.inr _=>none
def Ajq[Lk]:=fun v=>Lk.f (AND v)
theorem AbO v:Ajq v=AND v:=AJ _
abbrev AAR:AE:=[(.tmp 0,.dat V3)]
abbrev AAQ:AE:=[(.tmp 0,.dat .bool)]
abbrev AAP:List RS:=[.one]
abbrev AHt:AE:=[(.tmp 3,.map U0 U0),(.tmp 78,.di),(.tmp 79,.di)]
abbrev AHq:Ao:=[(.ret,[(.tmp 2,.dat .bool)]),(.exit 4,[])]
def Eb[Lk]:(List Uz×Int×Int×Unit)→Option ((List Uz×Int×Int×Unit)⊕Ui⊕(Unit)⊕Unit):=fun(a0,a1,a2,_)=>
 match(ilt a2 a1)with
 |true=>match(ieq ((AS a0 a2).getD 0) 0)with
  |true=>some (.inr (.inl (false,())))
  |false=>some (.inl (a0,a1,(IntKind.wrap .i64 (a2+1)),()))
 |false=>some (.inr (.inr (.inl ())))
abbrev AHu:AE:=[(.tmp 1,.box 2),(.cell 0 0,.di),(.cell 0 1,.dat Uj),(.tmp 3,.map U0 U0),(.tmp 4,.di),(.tmp 16,.dat Uj),(.tmp 17,.di),(.tmp 18,.di),(.tmp 26,.dat U7),(.tmp 28,.di),(.tmp 29,.di),(.tmp 30,.dat .bool),(.tmp 33,.dat U7),(.tmp 34,.dat .bool),(.tmp 35,.dat .bool),(.tmp 38,.dat U7),(.tmp 39,.di),(.tmp 40,.dat U7),(.tmp 42,.di),(.tmp 43,.dat .bool),(.tmp 46,.ptr' 0 0),(.tmp 47,.di),(.tmp 48,.dat U7),(.tmp 49,.dat .bool),(.tmp 50,.dat .bool),(.tmp 55,.dat U7),(.tmp 56,.di),(.tmp 57,.di)]
abbrev AHr:Ao:=[(.ret,[(.tmp 2,.dat .bool)]),(.exit 2,[(.tmp 1,.box 2),(.cell 0 0,.di),(.cell 0 1,.dat Uj),(.tmp 3,.map U0 U0),(.tmp 4,.di),(.tmp 16,.dat Uj),(.tmp 17,.di),(.tmp 18,.di),(.tmp 26,.dat U7),(.tmp 28,.di),(.tmp 29,.di),(.tmp 30,.dat .bool),(.tmp 33,.dat U7),(.tmp 34,.dat .bool),(.tmp 35,.dat .bool),(.tmp 38,.dat U7),(.tmp 39,.di),(.tmp 40,.dat U7),(.tmp 42,.di),(.tmp 43,.dat .bool),(.tmp 46,.ptr' 0 0),(.tmp 47,.di),(.tmp 48,.dat U7),(.tmp 49,.dat .bool),(.tmp 50,.dat .bool)])]
def Dd[Lk]:V7→Option (V7⊕Ui⊕(Int×List U5×List Uz×Int×List U5×Int×Int×List Int×Int×Int×Bool×List Int×Bool×Bool×List Int×Int×List Int×Int×Bool×Int×List Int×Bool×Bool×Unit)⊕Unit):=fun(a0,a1,a2,a3,a4,a5,a6,a7,a8,a9,a10,a11,a12,a13,a14,a15,a16,a17,a18,a19,a20,a21,a22,a23,a24,a25,_)=>
 match(ilt a25 a24)with
 |true=>match idx a23 a25 with|none=>none|some x0=>match(ilt x0 a0)with
  |true=>match(ilt 0 ((AS a2 x0).getD 0))with
   |true=>some (.inr (.inl (false,())))
   |false=>some (.inl (a0,a1,(Ae a2 x0 (IntKind.wrap .i64 (((AS a2 x0).getD 0)+1))),a3,a4,a5,a6,a7,a8,a9,a10,a11,a12,a13,a14,a15,a16,a17,a18,a19,a20,a21,a22,a23,a24,(IntKind.wrap .i64 (a25+1)),()))
  |false=>some (.inl (a0,a1,(Ae a2 x0 (IntKind.wrap .i64 (((AS a2 x0).getD 0)+1))),a3,a4,a5,a6,a7,a8,a9,a10,a11,a12,a13,a14,a15,a16,a17,a18,a19,a20,a21,a22,a23,a24,(IntKind.wrap .i64 (a25+1)),()))
 |false=>some (.inr (.inr (.inl (a0,a1,a2,a3,a4,a5,a6,a7,a8,a9,a10,a11,a12,a13,a14,a15,a16,a17,a18,a19,a20,a21,a22,()))))
abbrev AHv:AE:=[(.tmp 1,.box 2),(.cell 0 0,.di),(.cell 0 1,.dat Uj),(.tmp 3,.map U0 U0),(.tmp 4,.di),(.tmp 16,.dat Uj),(.tmp 17,.di),(.tmp 18,.di)]
abbrev AHs:Ao:=[(.ret,[(.tmp 2,.dat .bool)]),(.exit 0,[(.tmp 1,.box 2),(.cell 0 0,.di),(.cell 0 1,.dat Uj),(.tmp 3,.map U0 U0)])]
def De[Lk]:(Int×List U5×List Uz×Int×List U5×Int×Int×Unit)→Option ((Int×List U5×List Uz×Int×List U5×Int×Int×Unit)⊕Ui⊕(Int×List U5×List Uz×Unit)⊕Unit):=fun(a0,a1,a2,a3,a4,a5,a6,_)=>
 match(ilt a6 a5)with
 |true=>match idx a4 a6 with|none=>none|some x0=>match(ieq (AM x0) 0)with
  |true=>some (.inr (.inl (false,())))
  |false=>match idx x0 0 with|none=>none|some x1=>match(ile x1 a3)with
  |true=>some (.inr (.inl (false,())))
  |false=>match PU (x0,())with|none=>none|some (y2,_)=>match(!y2)with
  |true=>some (.inr (.inl (false,())))
  |false=>match Ad1 (x0,())with|none=>none|some (y3,_)=>match idx x0 0 with|none=>none|some x4=>match(!(ieq y3 x4))with
  |true=>some (.inr (.inl (false,())))
  |false=>match Ajq (a0,x0,())with|none=>none|some (y5,_)=>match(!y5)with
  |true=>some (.inr (.inl (false,())))
  |false=>match idx x0 0 with|none=>none|some x6=>match AX Dd many (a0,a1,a2,x6,a4,a5,a6,x0,x1,a3,(ile x1 a3),x0,y2,(!y2),x0,y3,x0,x4,(!(ieq y3 x4)),a0,x0,y5,(!y5),x0,(AM x0),0,())with|none=>none|some r=>match r with
  |.inl (o7,_)=>some (.inr (.inl (o7,())))
  |.inr r=>match r with
  |.inl (o8,o9,o10,o11,o12,o13,o14,o15,o16,o17,o18,o19,o20,o21,o22,o23,o24,o25,o26,o27,o28,o29,o30,_)=>some (.inl (o8,o9,o10,o11,o12,o13,(IntKind.wrap .i64 (o14+1)),()))
  |.inr _=>none
 |false=>some (.inr (.inr (.inl (a0,a1,a2,()))))
def Qk[Lk]:(V4×Unit)→Option (Ui):=fun(a0,_)=>
 match ME (a0.1,())with|none=>none|some (y0,_)=>match(!y0)with
 |true=>some (false,())
 |false=>match AX De many (a0.1,a0.2.1,([]:List Uz),(-1:Int),a0.2.1,(AM a0.2.1),0,())with|none=>none|some r=>match r with
 |.inl (o1,_)=>some (o1,())
 |.inr r=>match r with
 |.inl (o2,o3,o4,_)=>match AX Eb many (o4,o2,0,())with|none=>none|some r=>match r with
  |.inl (o5,_)=>some (o5,())
  |.inr r=>match r with
  |.inl _=>some (true,())
  |.inr _=>none
 |.inr _=>none
def TK[Lk]:=fun v=>Lk.f (Qk v)
theorem AHw v:TK v=Qk v:=AJ _
abbrev AOb:AE:=[(.tmp 0,.dat V3),(.tmp 1,.di),(.tmp 2,.di)]
abbrev AOa:AE:=[(.tmp 0,.di)]
abbrev AOZ:List RS:=[.one]
def Zp[Lk]:(V4×Int×Int×Unit)→Option (Ua):=fun(a0,a1,a2,_)=>
 match TK ((a0.1,(a0.2.1,())),())with|none=>none|some (y0,_)=>match(!y0)with
 |true=>some (1,())
 |false=>match tin (a0.1,a1,())with|none=>none|some (y1,_)=>match(!y1)with
 |true=>some (10,())
 |false=>match tin (a0.1,a2,())with|none=>none|some (y2,_)=>match(!y2)with
 |true=>some (10,())
 |false=>some (0,())
def asked[Lk]:=fun v=>Lk.f (Zp v)
theorem AUZ v:asked v=Zp v:=AJ _
abbrev AXY:AE:=[(.tmp 0,.di)]
abbrev AXX:AE:=[(.tmp 0,.dat .bool)]
abbrev AXW:List RS:=[.one]
def Kd[Lk]:Ua→Option (Ui):=fun(a0,_)=>
 some ((!(ieq a0 a0)),())
def Ai6[Lk]:=fun v=>Lk.f (Kd v)
theorem Kc v:Ai6 v=Kd v:=AJ _
abbrev QH:AE:=[(.tmp 0,.di),(.tmp 1,.di)]
abbrev QG:AE:=[(.tmp 0,.di)]
abbrev QF:List RS:=[.one]
def EV[Lk]:U1→Option (Ua):=fun(a0,a1,_)=>
 match Ai6 (a0,())with|none=>none|some (y0,_)=>match Ai6 (a1,())with|none=>none|some (y1,_)=>match y0 with
 |true=>match y1 with
  |true=>some (0,())
  |false=>some ((-1:Int),())
 |false=>match y1 with
 |true=>some (1,())
 |false=>match(ilt a0 a1)with
 |true=>some ((-1:Int),())
 |false=>match(ilt a1 a0)with
 |true=>some (1,())
 |false=>some (0,())
def Db[Lk]:=fun v=>Lk.f (EV v)
theorem Gk v:Db v=EV v:=AJ _
abbrev AKK:AE:=[(.tmp 0,.dat U7),(.tmp 1,.dat U7)]
abbrev AKJ:AE:=[(.tmp 0,.di)]
abbrev AKI:List RS:=[.one]
def ZK[Lk]:(List Int×List Int×Unit)→Option (Ua):=fun(a0,a1,_)=>
 match idx a0 0 with|none=>none|some x0=>match idx a1 0 with|none=>none|some x1=>match Db (x0,x1,())with|none=>none|some (y2,_)=>some (y2,())
def BG[Lk]:=fun v=>Lk.f (ZK v)
theorem APN v:BG v=ZK v:=AJ _
def Gv:List Int:=[0,1,2,2,3,3,3,3,4,4,4,4,4,4,4,4,5,5,5,5,5,5,5,5,5,5,5,5,5,5,5,5,6,6,6,6,6,6,6,6,6,6,6,6,6,6,6,6,6,6,6,6,6,6,6,6,6,6,6,6,6,6,6,6,7,7,7,7,7,7,7,7,7,7,7,7,7,7,7,7,7,7,7,7,7,7,7,7,7,7,7,7,7,7,7,7,7,7,7,7,7,7,7,7,7,7,7,7,7,7,7,7,7,7,7,7,7,7,7,7,7,7,7,7,7,7,7,7,8,8,8,8,8,8,8,8,8,8,8,8,8,8,8,8,8,8,8,8,8,8,8,8,8,8,8,8,8,8,8,8,8,8,8,8,8,8,8,8,8,8,8,8,8,8,8,8,8,8,8,8,8,8,8,8,8,8,8,8,8,8,8,8,8,8,8,8,8,8,8,8,8,8,8,8,8,8,8,8,8,8,8,8,8,8,8,8,8,8,8,8,8,8,8,8,8,8,8,8,8,8,8,8,8,8,8,8,8,8,8,8,8,8,8,8,8,8,8,8,8,8,8,8,8,8,8,8]
abbrev AMk:AE:=[(.tmp 0,.dat (.int .u64))]
abbrev AMj:AE:=[(.tmp 0,.di)]
abbrev AMi:List RS:=[.one]
def Za[Lk]:Ua→Option (Ua):=fun(a0,_)=>
 match(ile 4294967296 a0)with
 |true=>match shr? .u64 a0 32 with|none=>none|some x0=>match(ile 65536 x0)with
  |true=>match shr? .u64 x0 16 with|none=>none|some x1=>match(ile 256 x1)with
   |true=>match shr? .u64 x1 8 with|none=>none|some x2=>match idx Gv (IntKind.wrap .u8 x2)with|none=>none|some x3=>some ((IntKind.wrap .i64 ((IntKind.wrap .i64 ((IntKind.wrap .i64 (32+16))+8))+(IntKind.wrap .i64 x3))),())
   |false=>match idx Gv (IntKind.wrap .u8 x1)with|none=>none|some x4=>some ((IntKind.wrap .i64 ((IntKind.wrap .i64 (32+16))+(IntKind.wrap .i64 x4))),())
  |false=>match(ile 256 x0)with
  |true=>match shr? .u64 x0 8 with|none=>none|some x5=>match idx Gv (IntKind.wrap .u8 x5)with|none=>none|some x6=>some ((IntKind.wrap .i64 ((IntKind.wrap .i64 (32+8))+(IntKind.wrap .i64 x6))),())
  |false=>match idx Gv (IntKind.wrap .u8 x0)with|none=>none|some x7=>some ((IntKind.wrap .i64 (32+(IntKind.wrap .i64 x7))),())
 |false=>match(ile 65536 a0)with
 |true=>match shr? .u64 a0 16 with|none=>none|some x8=>match(ile 256 x8)with
  |true=>match shr? .u64 x8 8 with|none=>none|some x9=>match idx Gv (IntKind.wrap .u8 x9)with|none=>none|some x10=>some ((IntKind.wrap .i64 ((IntKind.wrap .i64 ((IntKind.wrap .i64 (0+16))+8))+(IntKind.wrap .i64 x10))),())
  |false=>match idx Gv (IntKind.wrap .u8 x8)with|none=>none|some x11=>some ((IntKind.wrap .i64 ((IntKind.wrap .i64 (0+16))+(IntKind.wrap .i64 x11))),())
 |false=>match(ile 256 a0)with
 |true=>match shr? .u64 a0 8 with|none=>none|some x12=>match idx Gv (IntKind.wrap .u8 x12)with|none=>none|some x13=>some ((IntKind.wrap .i64 ((IntKind.wrap .i64 (0+8))+(IntKind.wrap .i64 x13))),())
 |false=>match idx Gv (IntKind.wrap .u8 a0)with|none=>none|some x14=>some ((IntKind.wrap .i64 (0+(IntKind.wrap .i64 x14))),())
def ASZ[Lk]:=fun v=>Lk.f (Za v)
theorem ASY v:ASZ v=Za v:=AJ _
abbrev We:AE:=[(.tmp 0,.dat (.int .u64))]
abbrev Wd:AE:=[(.tmp 0,.di)]
abbrev Wc:List RS:=[.one]
def OF[Lk]:Ua→Option (Ua):=fun(a0,_)=>
 match ASZ (a0,())with|none=>none|some (y0,_)=>some (y0,())
def bitsLen[Lk]:=fun v=>Lk.f (OF v)
theorem AFX v:bitsLen v=OF v:=AJ _
abbrev TG:AE:=[(.tmp 0,.box 1),(.cell 0 0,.dat (.int .u64))]
abbrev TF:AE:=[(.obj 0,.box 1),(.cell 0 0,.dat (.int .u64)),(.tmp 0,.dat (.int .u64))]
abbrev TE:List RS:=[.one]
def Nd[Lk]:Ua→Option (U1):=fun(a0,_)=>
 match shl? .u64 a0 13 with|none=>none|some x0=>match shr? .u64 (IntKind.wrap .u64 ((BitVec.ofInt (IntKind.bits .u64) a0 ^^^ BitVec.ofInt (IntKind.bits .u64) x0).toNat)) 7 with|none=>none|some x1=>match shl? .u64 (IntKind.wrap .u64 ((BitVec.ofInt (IntKind.bits .u64) (IntKind.wrap .u64 ((BitVec.ofInt (IntKind.bits .u64) a0 ^^^ BitVec.ofInt (IntKind.bits .u64) x0).toNat)) ^^^ BitVec.ofInt (IntKind.bits .u64) x1).toNat)) 17 with|none=>none|some x2=>some ((IntKind.wrap .u64 ((BitVec.ofInt (IntKind.bits .u64) (IntKind.wrap .u64 ((BitVec.ofInt (IntKind.bits .u64) (IntKind.wrap .u64 ((BitVec.ofInt (IntKind.bits .u64) a0 ^^^ BitVec.ofInt (IntKind.bits .u64) x0).toNat)) ^^^ BitVec.ofInt (IntKind.bits .u64) x1).toNat)) ^^^ BitVec.ofInt (IntKind.bits .u64) x2).toNat)),(IntKind.wrap .u64 ((BitVec.ofInt (IntKind.bits .u64) (IntKind.wrap .u64 ((BitVec.ofInt (IntKind.bits .u64) (IntKind.wrap .u64 ((BitVec.ofInt (IntKind.bits .u64) a0 ^^^ BitVec.ofInt (IntKind.bits .u64) x0).toNat)) ^^^ BitVec.ofInt (IntKind.bits .u64) x1).toNat)) ^^^ BitVec.ofInt (IntKind.bits .u64) x2).toNat)),())
def xorNext[Lk]:=fun v=>Lk.f (Nd v)
theorem Zz v:xorNext v=Nd v:=AJ _
abbrev UO:AE:=[(.tmp 0,.di)]
abbrev UN:AE:=[(.tmp 0,.dat (.int .u64))]
abbrev UM:List RS:=[.one]
def Nw[Lk]:Ua→Option (Ua):=fun(a0,_)=>
 match bitsLen ((IntKind.wrap .u64 a0),())with|none=>none|some (y0,_)=>match shl? .u64 1 y0 with|none=>none|some x1=>some (x1,())
def RK[Lk]:=fun v=>Lk.f (Nw v)
theorem AC4 v:RK v=Nw v:=AJ _
def Nz[Lk]{α:Type}(z:α)(c:α×α×Unit→Option Ua):(List α×Int×Int×Int×Int×Unit)→Option ((List α×Int×Int×Int×Int×Unit)⊕(List α×Int×Int×Int×Unit)⊕Unit):=fun(a0,a1,a2,a3,a4,_)=>
 match(ilt a1 a4)with
 |true=>match idx a0 a4 with|none=>none|some x0=>match idx a0 (IntKind.wrap .i64 (a4-1))with|none=>none|some x1=>match c ((AY a0 (AN a4) z),(AY a0 (AN (IntKind.wrap .i64 (a4-1))) z),())with|none=>none|some (y2,_)=>match(ilt y2 0)with
  |true=>match idx a0 (IntKind.wrap .i64 (a4-1))with|none=>none|some x3=>match idx a0 a4 with|none=>none|some x4=>match idx a0 a4 with|none=>none|some x5=>match idx (Az a0 (AN a4) (AY a0 (AN (IntKind.wrap .i64 (a4-1))) z)) (IntKind.wrap .i64 (a4-1))with|none=>none|some x6=>some (.inl ((Az (Az a0 (AN a4) (AY a0 (AN (IntKind.wrap .i64 (a4-1))) z)) (AN (IntKind.wrap .i64 (a4-1))) (AY a0 (AN a4) z)),a1,a2,a3,(IntKind.wrap .i64 (a4-1)),()))
  |false=>some (.inr (.inl (a0,a1,a2,a3,())))
 |false=>some (.inr (.inl (a0,a1,a2,a3,())))
def N0[Lk]{α:Type}(z:α)(c:α×α×Unit→Option Ua):(List α×Int×Int×Int×Unit)→Option ((List α×Int×Int×Int×Unit)⊕(List α×Unit)⊕Unit):=fun(a0,a1,a2,a3,_)=>
 match(ilt a3 a2)with
 |true=>match AX (Nz z c) many (a0,a1,a2,a3,a3,())with|none=>none|some r=>match r with
  |.inl (o0,o1,o2,o3,_)=>some (.inl (o0,o1,o2,(IntKind.wrap .i64 (o3+1)),()))
  |.inr _=>none
 |false=>some (.inr (.inl (a0,())))
def ADW[Lk]{α:Type}(z:α)(c:α×α×Unit→Option Ua):(List α×Int×Int×Unit)→Option ((List α×Unit)):=fun(a0,a1,a2,_)=>
 match AX (N0 z c) many (a0,a1,a2,(IntKind.wrap .i64 (a1+1)),())with|none=>none|some r=>match r with
 |.inl (o0,_)=>some (o0,())
 |.inr _=>none
def AjR[Lk]{α:Type}(z:α)(c:α×α×Unit→Option Ua)(v:(List α×Int×Int×Unit)):Option ((List α×Unit)):=Lk.f ((ADW z c) v)
theorem Amf{α:Type}(z:α)(c:α×α×Unit→Option Ua)(v:(List α×Int×Int×Unit)):(AjR z c) v=(ADW z c) v:=AJ _
def Ja[Lk]{α:Type}(z:α)(c:α×α×Unit→Option Ua):(List α×Int×Int×Int×Unit)→Option ((List α×Int×Int×Int×Unit)⊕(List α×Unit)⊕(List α×Unit)⊕Unit):=fun(a0,a1,a2,a3,_)=>
 match(ile a1 (IntKind.wrap .i64 ((IntKind.wrap .i64 (2*a3))+1)))with
 |true=>some (.inr (.inl (a0,())))
 |false=>match(ilt (IntKind.wrap .i64 ((IntKind.wrap .i64 ((IntKind.wrap .i64 (2*a3))+1))+1)) a1)with
 |true=>match idx a0 (IntKind.wrap .i64 (a2+(IntKind.wrap .i64 ((IntKind.wrap .i64 (2*a3))+1))))with|none=>none|some x0=>match idx a0 (IntKind.wrap .i64 ((IntKind.wrap .i64 (a2+(IntKind.wrap .i64 ((IntKind.wrap .i64 (2*a3))+1))))+1))with|none=>none|some x1=>match c ((AY a0 (AN (IntKind.wrap .i64 (a2+(IntKind.wrap .i64 ((IntKind.wrap .i64 (2*a3))+1))))) z),(AY a0 (AN (IntKind.wrap .i64 ((IntKind.wrap .i64 (a2+(IntKind.wrap .i64 ((IntKind.wrap .i64 (2*a3))+1))))+1))) z),())with|none=>none|some (y2,_)=>match(ilt y2 0)with
  |true=>match idx a0 (IntKind.wrap .i64 (a2+a3))with|none=>none|some x3=>match idx a0 (IntKind.wrap .i64 (a2+(IntKind.wrap .i64 ((IntKind.wrap .i64 ((IntKind.wrap .i64 (2*a3))+1))+1))))with|none=>none|some x4=>match c ((AY a0 (AN (IntKind.wrap .i64 (a2+a3))) z),(AY a0 (AN (IntKind.wrap .i64 (a2+(IntKind.wrap .i64 ((IntKind.wrap .i64 ((IntKind.wrap .i64 (2*a3))+1))+1))))) z),())with|none=>none|some (y5,_)=>match(!(ilt y5 0))with
   |true=>some (.inr (.inr (.inl (a0,()))))
   |false=>match idx a0 (IntKind.wrap .i64 (a2+(IntKind.wrap .i64 ((IntKind.wrap .i64 ((IntKind.wrap .i64 (2*a3))+1))+1))))with|none=>none|some x6=>match idx a0 (IntKind.wrap .i64 (a2+a3))with|none=>none|some x7=>match idx a0 (IntKind.wrap .i64 (a2+a3))with|none=>none|some x8=>match idx (Az a0 (AN (IntKind.wrap .i64 (a2+a3))) (AY a0 (AN (IntKind.wrap .i64 (a2+(IntKind.wrap .i64 ((IntKind.wrap .i64 ((IntKind.wrap .i64 (2*a3))+1))+1))))) z)) (IntKind.wrap .i64 (a2+(IntKind.wrap .i64 ((IntKind.wrap .i64 ((IntKind.wrap .i64 (2*a3))+1))+1))))with|none=>none|some x9=>some (.inl ((Az (Az a0 (AN (IntKind.wrap .i64 (a2+a3))) (AY a0 (AN (IntKind.wrap .i64 (a2+(IntKind.wrap .i64 ((IntKind.wrap .i64 ((IntKind.wrap .i64 (2*a3))+1))+1))))) z)) (AN (IntKind.wrap .i64 (a2+(IntKind.wrap .i64 ((IntKind.wrap .i64 ((IntKind.wrap .i64 (2*a3))+1))+1))))) (AY a0 (AN (IntKind.wrap .i64 (a2+a3))) z)),a1,a2,(IntKind.wrap .i64 ((IntKind.wrap .i64 ((IntKind.wrap .i64 (2*a3))+1))+1)),()))
  |false=>match idx a0 (IntKind.wrap .i64 (a2+a3))with|none=>none|some x10=>match idx a0 (IntKind.wrap .i64 (a2+(IntKind.wrap .i64 ((IntKind.wrap .i64 (2*a3))+1))))with|none=>none|some x11=>match c ((AY a0 (AN (IntKind.wrap .i64 (a2+a3))) z),(AY a0 (AN (IntKind.wrap .i64 (a2+(IntKind.wrap .i64 ((IntKind.wrap .i64 (2*a3))+1))))) z),())with|none=>none|some (y12,_)=>match(!(ilt y12 0))with
  |true=>some (.inr (.inr (.inl (a0,()))))
  |false=>match idx a0 (IntKind.wrap .i64 (a2+(IntKind.wrap .i64 ((IntKind.wrap .i64 (2*a3))+1))))with|none=>none|some x13=>match idx a0 (IntKind.wrap .i64 (a2+a3))with|none=>none|some x14=>match idx a0 (IntKind.wrap .i64 (a2+a3))with|none=>none|some x15=>match idx (Az a0 (AN (IntKind.wrap .i64 (a2+a3))) (AY a0 (AN (IntKind.wrap .i64 (a2+(IntKind.wrap .i64 ((IntKind.wrap .i64 (2*a3))+1))))) z)) (IntKind.wrap .i64 (a2+(IntKind.wrap .i64 ((IntKind.wrap .i64 (2*a3))+1))))with|none=>none|some x16=>some (.inl ((Az (Az a0 (AN (IntKind.wrap .i64 (a2+a3))) (AY a0 (AN (IntKind.wrap .i64 (a2+(IntKind.wrap .i64 ((IntKind.wrap .i64 (2*a3))+1))))) z)) (AN (IntKind.wrap .i64 (a2+(IntKind.wrap .i64 ((IntKind.wrap .i64 (2*a3))+1))))) (AY a0 (AN (IntKind.wrap .i64 (a2+a3))) z)),a1,a2,(IntKind.wrap .i64 ((IntKind.wrap .i64 (2*a3))+1)),()))
 |false=>match idx a0 (IntKind.wrap .i64 (a2+a3))with|none=>none|some x17=>match idx a0 (IntKind.wrap .i64 (a2+(IntKind.wrap .i64 ((IntKind.wrap .i64 (2*a3))+1))))with|none=>none|some x18=>match c ((AY a0 (AN (IntKind.wrap .i64 (a2+a3))) z),(AY a0 (AN (IntKind.wrap .i64 (a2+(IntKind.wrap .i64 ((IntKind.wrap .i64 (2*a3))+1))))) z),())with|none=>none|some (y19,_)=>match(!(ilt y19 0))with
 |true=>some (.inr (.inr (.inl (a0,()))))
 |false=>match idx a0 (IntKind.wrap .i64 (a2+(IntKind.wrap .i64 ((IntKind.wrap .i64 (2*a3))+1))))with|none=>none|some x20=>match idx a0 (IntKind.wrap .i64 (a2+a3))with|none=>none|some x21=>match idx a0 (IntKind.wrap .i64 (a2+a3))with|none=>none|some x22=>match idx (Az a0 (AN (IntKind.wrap .i64 (a2+a3))) (AY a0 (AN (IntKind.wrap .i64 (a2+(IntKind.wrap .i64 ((IntKind.wrap .i64 (2*a3))+1))))) z)) (IntKind.wrap .i64 (a2+(IntKind.wrap .i64 ((IntKind.wrap .i64 (2*a3))+1))))with|none=>none|some x23=>some (.inl ((Az (Az a0 (AN (IntKind.wrap .i64 (a2+a3))) (AY a0 (AN (IntKind.wrap .i64 (a2+(IntKind.wrap .i64 ((IntKind.wrap .i64 (2*a3))+1))))) z)) (AN (IntKind.wrap .i64 (a2+(IntKind.wrap .i64 ((IntKind.wrap .i64 (2*a3))+1))))) (AY a0 (AN (IntKind.wrap .i64 (a2+a3))) z)),a1,a2,(IntKind.wrap .i64 ((IntKind.wrap .i64 (2*a3))+1)),()))
def Qu[Lk]{α:Type}(z:α)(c:α×α×Unit→Option Ua):(List α×Int×Int×Int×Unit)→Option ((List α×Unit)):=fun(a0,a1,a2,a3,_)=>
 match AX (Ja z c) many (a0,a2,a3,a1,())with|none=>none|some r=>match r with
 |.inl (o0,_)=>some (o0,())
 |.inr r=>match r with
 |.inl (o1,_)=>some (o1,())
 |.inr _=>none
def AH8[Lk]{α:Type}(z:α)(c:α×α×Unit→Option Ua)(v:(List α×Int×Int×Int×Unit)):Option ((List α×Unit)):=Lk.f ((Qu z c) v)
theorem AhJ{α:Type}(z:α)(c:α×α×Unit→Option Ua)(v:(List α×Int×Int×Int×Unit)):(AH8 z c) v=(Qu z c) v:=AJ _
def Jt[Lk]{α:Type}(z:α)(c:α×α×Unit→Option Ua):(List α×Int×Int×Int×Unit)→Option ((List α×Int×Int×Int×Unit)⊕(List α×Unit)⊕Unit):=fun(a0,a1,a2,a3,_)=>
 match(ile 0 a3)with
 |true=>match idx a0 (IntKind.wrap .i64 (a1+a3))with|none=>none|some x0=>match idx a0 a1 with|none=>none|some x1=>match idx a0 a1 with|none=>none|some x2=>match idx (Az a0 (AN a1) (AY a0 (AN (IntKind.wrap .i64 (a1+a3))) z)) (IntKind.wrap .i64 (a1+a3))with|none=>none|some x3=>match(AH8 z c) ((Az (Az a0 (AN a1) (AY a0 (AN (IntKind.wrap .i64 (a1+a3))) z)) (AN (IntKind.wrap .i64 (a1+a3))) (AY a0 (AN a1) z)),a2,a3,a1,())with|none=>none|some (y4,_)=>some (.inl (y4,a1,a2,(IntKind.wrap .i64 (a3-1)),()))
 |false=>some (.inr (.inl (a0,())))
def Ju[Lk]{α:Type}(z:α)(c:α×α×Unit→Option Ua):(List α×Int×Int×Int×Int×Unit)→Option ((List α×Int×Int×Int×Int×Unit)⊕(List α×Int×Int×Int×Unit)⊕Unit):=fun(a0,a1,a2,a3,a4,_)=>
 match(ile 0 a4)with
 |true=>match(AH8 z c) (a0,a4,a3,a1,())with|none=>none|some (y0,_)=>some (.inl (y0,a1,a2,a3,(IntKind.wrap .i64 (a4-1)),()))
 |false=>some (.inr (.inl (a0,a1,a2,a3,())))
def Rc[Lk]{α:Type}(z:α)(c:α×α×Unit→Option Ua):(List α×Int×Int×Unit)→Option ((List α×Unit)):=fun(a0,a1,a2,_)=>
 match quo? .i64 (IntKind.wrap .i64 ((IntKind.wrap .i64 (a2-a1))-1)) 2 with|none=>none|some x0=>match AX (Ju z c) many (a0,a1,0,(IntKind.wrap .i64 (a2-a1)),x0,())with|none=>none|some r=>match r with
 |.inl (o1,o2,o3,o4,_)=>match AX (Jt z c) many (o1,o2,o3,(IntKind.wrap .i64 (o4-1)),())with|none=>none|some r=>match r with
  |.inl (o5,_)=>some (o5,())
  |.inr _=>none
 |.inr _=>none
def ASo[Lk]{α:Type}(z:α)(c:α×α×Unit→Option Ua)(v:(List α×Int×Int×Unit)):Option ((List α×Unit)):=Lk.f ((Rc z c) v)
theorem Ajf{α:Type}(z:α)(c:α×α×Unit→Option Ua)(v:(List α×Int×Int×Unit)):(ASo z c) v=(Rc z c) v:=AJ _
def GA[Lk]{α:Type}(z:α)(c:α×α×Unit→Option Ua):(List α×Int×Int×Int×Int×Int×Unit)→Option ((List α×Int×Int×Int×Int×Int×Unit)⊕(List α×Unit)⊕Unit):=fun(a0,a1,a2,a3,a4,a5,_)=>
 match quo? .i64 a2 4 with|none=>none|some x0=>match(ile a5 (IntKind.wrap .i64 ((IntKind.wrap .i64 (a1+(IntKind.wrap .i64 (x0*2))))+1)))with
 |true=>match xorNext (a3,())with|none=>none|some (y1,y2,_)=>match(ile a2 (IntKind.wrap .i64 (IntKind.wrap .u64 ((BitVec.ofInt (IntKind.bits .u64) y2 &&& BitVec.ofInt (IntKind.bits .u64) (IntKind.wrap .u64 (a4-1))).toNat))))with
  |true=>match idx a0 (IntKind.wrap .i64 (a1+(IntKind.wrap .i64 ((IntKind.wrap .i64 (IntKind.wrap .u64 ((BitVec.ofInt (IntKind.bits .u64) y2 &&& BitVec.ofInt (IntKind.bits .u64) (IntKind.wrap .u64 (a4-1))).toNat)))-a2))))with|none=>none|some x3=>match idx a0 a5 with|none=>none|some x4=>match idx a0 a5 with|none=>none|some x5=>match idx (Az a0 (AN a5) (AY a0 (AN (IntKind.wrap .i64 (a1+(IntKind.wrap .i64 ((IntKind.wrap .i64 (IntKind.wrap .u64 ((BitVec.ofInt (IntKind.bits .u64) y2 &&& BitVec.ofInt (IntKind.bits .u64) (IntKind.wrap .u64 (a4-1))).toNat)))-a2))))) z)) (IntKind.wrap .i64 (a1+(IntKind.wrap .i64 ((IntKind.wrap .i64 (IntKind.wrap .u64 ((BitVec.ofInt (IntKind.bits .u64) y2 &&& BitVec.ofInt (IntKind.bits .u64) (IntKind.wrap .u64 (a4-1))).toNat)))-a2))))with|none=>none|some x6=>some (.inl ((Az (Az a0 (AN a5) (AY a0 (AN (IntKind.wrap .i64 (a1+(IntKind.wrap .i64 ((IntKind.wrap .i64 (IntKind.wrap .u64 ((BitVec.ofInt (IntKind.bits .u64) y2 &&& BitVec.ofInt (IntKind.bits .u64) (IntKind.wrap .u64 (a4-1))).toNat)))-a2))))) z)) (AN (IntKind.wrap .i64 (a1+(IntKind.wrap .i64 ((IntKind.wrap .i64 (IntKind.wrap .u64 ((BitVec.ofInt (IntKind.bits .u64) y2 &&& BitVec.ofInt (IntKind.bits .u64) (IntKind.wrap .u64 (a4-1))).toNat)))-a2))))) (AY a0 (AN a5) z)),a1,a2,y1,a4,(IntKind.wrap .i64 (a5+1)),()))
  |false=>match idx a0 (IntKind.wrap .i64 (a1+(IntKind.wrap .i64 (IntKind.wrap .u64 ((BitVec.ofInt (IntKind.bits .u64) y2 &&& BitVec.ofInt (IntKind.bits .u64) (IntKind.wrap .u64 (a4-1))).toNat)))))with|none=>none|some x7=>match idx a0 a5 with|none=>none|some x8=>match idx a0 a5 with|none=>none|some x9=>match idx (Az a0 (AN a5) (AY a0 (AN (IntKind.wrap .i64 (a1+(IntKind.wrap .i64 (IntKind.wrap .u64 ((BitVec.ofInt (IntKind.bits .u64) y2 &&& BitVec.ofInt (IntKind.bits .u64) (IntKind.wrap .u64 (a4-1))).toNat)))))) z)) (IntKind.wrap .i64 (a1+(IntKind.wrap .i64 (IntKind.wrap .u64 ((BitVec.ofInt (IntKind.bits .u64) y2 &&& BitVec.ofInt (IntKind.bits .u64) (IntKind.wrap .u64 (a4-1))).toNat)))))with|none=>none|some x10=>some (.inl ((Az (Az a0 (AN a5) (AY a0 (AN (IntKind.wrap .i64 (a1+(IntKind.wrap .i64 (IntKind.wrap .u64 ((BitVec.ofInt (IntKind.bits .u64) y2 &&& BitVec.ofInt (IntKind.bits .u64) (IntKind.wrap .u64 (a4-1))).toNat)))))) z)) (AN (IntKind.wrap .i64 (a1+(IntKind.wrap .i64 (IntKind.wrap .u64 ((BitVec.ofInt (IntKind.bits .u64) y2 &&& BitVec.ofInt (IntKind.bits .u64) (IntKind.wrap .u64 (a4-1))).toNat)))))) (AY a0 (AN a5) z)),a1,a2,y1,a4,(IntKind.wrap .i64 (a5+1)),()))
 |false=>some (.inr (.inl (a0,())))
def NG[Lk]{α:Type}(z:α)(c:α×α×Unit→Option Ua):(List α×Int×Int×Unit)→Option ((List α×Unit)):=fun(a0,a1,a2,_)=>
 match(ile 8 (IntKind.wrap .i64 (a2-a1)))with
 |true=>match RK ((IntKind.wrap .i64 (a2-a1)),())with|none=>none|some (y0,_)=>match quo? .i64 (IntKind.wrap .i64 (a2-a1)) 4 with|none=>none|some x1=>match AX (GA z c) many (a0,a1,(IntKind.wrap .i64 (a2-a1)),(IntKind.wrap .u64 (IntKind.wrap .i64 (a2-a1))),y0,(IntKind.wrap .i64 ((IntKind.wrap .i64 (a1+(IntKind.wrap .i64 (x1*2))))-1)),())with|none=>none|some r=>match r with
  |.inl (o2,_)=>some (o2,())
  |.inr _=>none
 |false=>some (a0,())
def AFR[Lk]{α:Type}(z:α)(c:α×α×Unit→Option Ua)(v:(List α×Int×Int×Unit)):Option ((List α×Unit)):=Lk.f ((NG z c) v)
theorem Af6{α:Type}(z:α)(c:α×α×Unit→Option Ua)(v:(List α×Int×Int×Unit)):(AFR z c) v=(NG z c) v:=AJ _
def Ji[Lk]{α:Type}(z:α)(c:α×α×Unit→Option Ua):(List α×Int×Int×Int×Unit)→Option ((List α×Int×Int×Int×Unit)):=fun(a0,a1,a2,a3,_)=>
 match idx a0 a2 with|none=>none|some x0=>match idx a0 a1 with|none=>none|some x1=>match c ((AY a0 (AN a2) z),(AY a0 (AN a1) z),())with|none=>none|some (y2,_)=>match(ilt y2 0)with
 |true=>some (a0,(IntKind.wrap .i64 (a3+1)),a2,a1,())
 |false=>some (a0,a3,a1,a2,())
def KY[Lk]{α:Type}(z:α)(c:α×α×Unit→Option Ua)(v:(List α×Int×Int×Int×Unit)):Option ((List α×Int×Int×Int×Unit)):=Lk.f ((Ji z c) v)
theorem AXK{α:Type}(z:α)(c:α×α×Unit→Option Ua)(v:(List α×Int×Int×Int×Unit)):(KY z c) v=(Ji z c) v:=AJ _
def Jm[Lk]{α:Type}(z:α)(c:α×α×Unit→Option Ua):(List α×Int×Int×Int×Int×Unit)→Option ((List α×Int×Int×Unit)):=fun(a0,a1,a2,a3,a4,_)=>
 match(KY z c) (a0,a1,a2,a4,())with|none=>none|some (y0,y1,y2,y3,_)=>match(KY z c) (y0,y3,a3,y1,())with|none=>none|some (y4,y5,y6,y7,_)=>match(KY z c) (y4,y2,y6,y5,())with|none=>none|some (y8,y9,y10,y11,_)=>some (y8,y9,y11,())
def Kg[Lk]{α:Type}(z:α)(c:α×α×Unit→Option Ua)(v:(List α×Int×Int×Int×Int×Unit)):Option ((List α×Int×Int×Unit)):=Lk.f ((Jm z c) v)
theorem AXh{α:Type}(z:α)(c:α×α×Unit→Option Ua)(v:(List α×Int×Int×Int×Int×Unit)):(Kg z c) v=(Jm z c) v:=AJ _
def Jn[Lk]{α:Type}(z:α)(c:α×α×Unit→Option Ua):(List α×Int×Int×Unit)→Option ((List α×Int×Int×Unit)):=fun(a0,a1,a2,_)=>
 match(Kg z c) (a0,(IntKind.wrap .i64 (a1-1)),a1,(IntKind.wrap .i64 (a1+1)),a2,())with|none=>none|some (y0,y1,y2,_)=>some (y0,y1,y2,())
def Kh[Lk]{α:Type}(z:α)(c:α×α×Unit→Option Ua)(v:(List α×Int×Int×Unit)):Option ((List α×Int×Int×Unit)):=Lk.f ((Jn z c) v)
theorem AXk{α:Type}(z:α)(c:α×α×Unit→Option Ua)(v:(List α×Int×Int×Unit)):(Kh z c) v=(Jn z c) v:=AJ _
def MY[Lk]{α:Type}(z:α)(c:α×α×Unit→Option Ua):(List α×Int×Int×Unit)→Option ((List α×Int×Int×Unit)):=fun(a0,a1,a2,_)=>
 match quo? .i64 (IntKind.wrap .i64 (a2-a1)) 4 with|none=>none|some x0=>match quo? .i64 (IntKind.wrap .i64 (a2-a1)) 4 with|none=>none|some x1=>match quo? .i64 (IntKind.wrap .i64 (a2-a1)) 4 with|none=>none|some x2=>match(ile 8 (IntKind.wrap .i64 (a2-a1)))with
 |true=>match(ile 50 (IntKind.wrap .i64 (a2-a1)))with
  |true=>match(Kh z c) (a0,(IntKind.wrap .i64 (a1+(IntKind.wrap .i64 (x0*1)))),0,())with|none=>none|some (y3,y4,y5,_)=>match(Kh z c) (y3,(IntKind.wrap .i64 (a1+(IntKind.wrap .i64 (x1*2)))),y4,())with|none=>none|some (y6,y7,y8,_)=>match(Kh z c) (y6,(IntKind.wrap .i64 (a1+(IntKind.wrap .i64 (x2*3)))),y7,())with|none=>none|some (y9,y10,y11,_)=>match(Kg z c) (y9,y5,y8,y11,y10,())with|none=>none|some (y12,y13,y14,_)=>match(ieq y13 0)with
   |true=>some (y12,y14,1,())
   |false=>match(ieq y13 12)with
   |true=>some (y12,y14,2,())
   |false=>some (y12,y14,0,())
  |false=>match(Kg z c) (a0,(IntKind.wrap .i64 (a1+(IntKind.wrap .i64 (x0*1)))),(IntKind.wrap .i64 (a1+(IntKind.wrap .i64 (x1*2)))),(IntKind.wrap .i64 (a1+(IntKind.wrap .i64 (x2*3)))),0,())with|none=>none|some (y15,y16,y17,_)=>match(ieq y16 0)with
  |true=>some (y15,y17,1,())
  |false=>match(ieq y16 12)with
  |true=>some (y15,y17,2,())
  |false=>some (y15,y17,0,())
 |false=>match(ieq 0 0)with
 |true=>some (a0,(IntKind.wrap .i64 (a1+(IntKind.wrap .i64 (x1*2)))),1,())
 |false=>match(ieq 0 12)with
 |true=>some (a0,(IntKind.wrap .i64 (a1+(IntKind.wrap .i64 (x1*2)))),2,())
 |false=>some (a0,(IntKind.wrap .i64 (a1+(IntKind.wrap .i64 (x1*2)))),0,())
def ACB[Lk]{α:Type}(z:α)(c:α×α×Unit→Option Ua)(v:(List α×Int×Int×Unit)):Option ((List α×Int×Int×Unit)):=Lk.f ((MY z c) v)
theorem AdS{α:Type}(z:α)(c:α×α×Unit→Option Ua)(v:(List α×Int×Int×Unit)):(ACB z c) v=(MY z c) v:=AJ _
def Q6[Lk]{α:Type}(z:α)(c:α×α×Unit→Option Ua):(List α×Int×Int×Unit)→Option ((List α×Int×Int×Unit)⊕(List α×Unit)⊕Unit):=fun(a0,a1,a2,_)=>
 match(ilt a1 a2)with
 |true=>match idx a0 a2 with|none=>none|some x0=>match idx a0 a1 with|none=>none|some x1=>match idx a0 a1 with|none=>none|some x2=>match idx (Az a0 (AN a1) (AY a0 (AN a2) z)) a2 with|none=>none|some x3=>some (.inl ((Az (Az a0 (AN a1) (AY a0 (AN a2) z)) (AN a2) (AY a0 (AN a1) z)),(IntKind.wrap .i64 (a1+1)),(IntKind.wrap .i64 (a2-1)),()))
 |false=>some (.inr (.inl (a0,())))
def ABg[Lk]{α:Type}(z:α)(c:α×α×Unit→Option Ua):(List α×Int×Int×Unit)→Option ((List α×Unit)):=fun(a0,a1,a2,_)=>
 match AX (Q6 z c) many (a0,a1,(IntKind.wrap .i64 (a2-1)),())with|none=>none|some r=>match r with
 |.inl (o0,_)=>some (o0,())
 |.inr _=>none
def Ahk[Lk]{α:Type}(z:α)(c:α×α×Unit→Option Ua)(v:(List α×Int×Int×Unit)):Option ((List α×Unit)):=Lk.f ((ABg z c) v)
theorem Alx{α:Type}(z:α)(c:α×α×Unit→Option Ua)(v:(List α×Int×Int×Unit)):(Ahk z c) v=(ABg z c) v:=AJ _
def Ee[Lk]{α:Type}(z:α)(c:α×α×Unit→Option Ua):(List α×Int×Int×Int×Int×Int×Unit)→Option ((List α×Int×Int×Int×Int×Int×Unit)⊕(List α×Int×Int×Int×Int×Unit)⊕Unit):=fun(a0,a1,a2,a3,a4,a5,_)=>
 match(ilt a5 a2)with
 |true=>match idx a0 a5 with|none=>none|some x0=>match idx a0 (IntKind.wrap .i64 (a5-1))with|none=>none|some x1=>match c ((AY a0 (AN a5) z),(AY a0 (AN (IntKind.wrap .i64 (a5-1))) z),())with|none=>none|some (y2,_)=>match(!(ilt y2 0))with
  |true=>some (.inr (.inl (a0,a1,a2,a3,a4,())))
  |false=>match idx a0 (IntKind.wrap .i64 (a5-1))with|none=>none|some x3=>match idx a0 a5 with|none=>none|some x4=>match idx a0 a5 with|none=>none|some x5=>match idx (Az a0 (AN a5) (AY a0 (AN (IntKind.wrap .i64 (a5-1))) z)) (IntKind.wrap .i64 (a5-1))with|none=>none|some x6=>some (.inl ((Az (Az a0 (AN a5) (AY a0 (AN (IntKind.wrap .i64 (a5-1))) z)) (AN (IntKind.wrap .i64 (a5-1))) (AY a0 (AN a5) z)),a1,a2,a3,a4,(IntKind.wrap .i64 (a5+1)),()))
 |false=>some (.inr (.inl (a0,a1,a2,a3,a4,())))
def Ef[Lk]{α:Type}(z:α)(c:α×α×Unit→Option Ua):(List α×Int×Int×Int×Int×Int×Unit)→Option ((List α×Int×Int×Int×Int×Int×Unit)⊕(List α×Int×Int×Int×Int×Unit)⊕Unit):=fun(a0,a1,a2,a3,a4,a5,_)=>
 match(ile 1 a5)with
 |true=>match idx a0 a5 with|none=>none|some x0=>match idx a0 (IntKind.wrap .i64 (a5-1))with|none=>none|some x1=>match c ((AY a0 (AN a5) z),(AY a0 (AN (IntKind.wrap .i64 (a5-1))) z),())with|none=>none|some (y2,_)=>match(!(ilt y2 0))with
  |true=>some (.inr (.inl (a0,a1,a2,a3,a4,())))
  |false=>match idx a0 (IntKind.wrap .i64 (a5-1))with|none=>none|some x3=>match idx a0 a5 with|none=>none|some x4=>match idx a0 a5 with|none=>none|some x5=>match idx (Az a0 (AN a5) (AY a0 (AN (IntKind.wrap .i64 (a5-1))) z)) (IntKind.wrap .i64 (a5-1))with|none=>none|some x6=>some (.inl ((Az (Az a0 (AN a5) (AY a0 (AN (IntKind.wrap .i64 (a5-1))) z)) (AN (IntKind.wrap .i64 (a5-1))) (AY a0 (AN a5) z)),a1,a2,a3,a4,(IntKind.wrap .i64 (a5-1)),()))
 |false=>some (.inr (.inl (a0,a1,a2,a3,a4,())))
def Gb[Lk]{α:Type}(z:α)(c:α×α×Unit→Option Ua):(List α×Int×Int×Int×Int×Unit)→Option ((List α×Int×Int×Int×Int×Unit)⊕(List α×Int×Int×Int×Int×Unit)⊕Unit):=fun(a0,a1,a2,a3,a4,_)=>
 match(ilt a3 a2)with
 |true=>match idx a0 a3 with|none=>none|some x0=>match idx a0 (IntKind.wrap .i64 (a3-1))with|none=>none|some x1=>match c ((AY a0 (AN a3) z),(AY a0 (AN (IntKind.wrap .i64 (a3-1))) z),())with|none=>none|some (y2,_)=>match(!(ilt y2 0))with
  |true=>some (.inl (a0,a1,a2,(IntKind.wrap .i64 (a3+1)),a4,()))
  |false=>some (.inr (.inl (a0,a1,a2,a3,a4,())))
 |false=>some (.inr (.inl (a0,a1,a2,a3,a4,())))
def CU[Lk]{α:Type}(z:α)(c:α×α×Unit→Option Ua):(List α×Int×Int×Int×Int×Unit)→Option ((List α×Int×Int×Int×Int×Unit)⊕(List α×Bool×Unit)⊕(List α×Unit)⊕Unit):=fun(a0,a1,a2,a3,a4,_)=>
 match(ilt a4 5)with
 |true=>match AX (Gb z c) many (a0,a1,a2,a3,a4,())with|none=>none|some r=>match r with
  |.inl (o0,o1,o2,o3,o4,_)=>match(ieq o3 o2)with
   |true=>some (.inr (.inl (o0,true,())))
   |false=>match(ilt (IntKind.wrap .i64 (o2-o1)) 50)with
   |true=>some (.inr (.inl (o0,false,())))
   |false=>match idx o0 (IntKind.wrap .i64 (o3-1))with|none=>none|some x5=>match idx o0 o3 with|none=>none|some x6=>match idx o0 o3 with|none=>none|some x7=>match idx (Az o0 (AN o3) (AY o0 (AN (IntKind.wrap .i64 (o3-1))) z)) (IntKind.wrap .i64 (o3-1))with|none=>none|some x8=>match(ile 2 (IntKind.wrap .i64 (o3-o1)))with
   |true=>match AX (Ef z c) many ((Az (Az o0 (AN o3) (AY o0 (AN (IntKind.wrap .i64 (o3-1))) z)) (AN (IntKind.wrap .i64 (o3-1))) (AY o0 (AN o3) z)),o1,o2,o3,o4,(IntKind.wrap .i64 (o3-1)),())with|none=>none|some r=>match r with
    |.inl (o9,o10,o11,o12,o13,_)=>match(ile 2 (IntKind.wrap .i64 (o11-o12)))with
     |true=>match AX (Ee z c) many (o9,o10,o11,o12,o13,(IntKind.wrap .i64 (o12+1)),())with|none=>none|some r=>match r with
      |.inl (o14,o15,o16,o17,o18,_)=>some (.inl (o14,o15,o16,o17,(IntKind.wrap .i64 (o18+1)),()))
      |.inr _=>none
     |false=>some (.inl (o9,o10,o11,o12,(IntKind.wrap .i64 (o13+1)),()))
    |.inr _=>none
   |false=>match(ile 2 (IntKind.wrap .i64 (o2-o3)))with
   |true=>match AX (Ee z c) many ((Az (Az o0 (AN o3) (AY o0 (AN (IntKind.wrap .i64 (o3-1))) z)) (AN (IntKind.wrap .i64 (o3-1))) (AY o0 (AN o3) z)),o1,o2,o3,o4,(IntKind.wrap .i64 (o3+1)),())with|none=>none|some r=>match r with
    |.inl (o19,o20,o21,o22,o23,_)=>some (.inl (o19,o20,o21,o22,(IntKind.wrap .i64 (o23+1)),()))
    |.inr _=>none
   |false=>some (.inl ((Az (Az o0 (AN o3) (AY o0 (AN (IntKind.wrap .i64 (o3-1))) z)) (AN (IntKind.wrap .i64 (o3-1))) (AY o0 (AN o3) z)),o1,o2,o3,(IntKind.wrap .i64 (o4+1)),()))
  |.inr _=>none
 |false=>some (.inr (.inr (.inl (a0,()))))
def Hc[Lk]{α:Type}(z:α)(c:α×α×Unit→Option Ua):(List α×Int×Int×Unit)→Option ((List α×Bool×Unit)):=fun(a0,a1,a2,_)=>
 match AX (CU z c) many (a0,a1,a2,(IntKind.wrap .i64 (a1+1)),0,())with|none=>none|some r=>match r with
 |.inl (o0,o1,_)=>some (o0,o1,())
 |.inr r=>match r with
 |.inl (o2,_)=>some (o2,false,())
 |.inr _=>none
def MZ[Lk]{α:Type}(z:α)(c:α×α×Unit→Option Ua)(v:(List α×Int×Int×Unit)):Option ((List α×Bool×Unit)):=Lk.f ((Hc z c) v)
theorem ARg{α:Type}(z:α)(c:α×α×Unit→Option Ua)(v:(List α×Int×Int×Unit)):(MZ z c) v=(Hc z c) v:=AJ _
def Hd[Lk]{α:Type}(z:α)(c:α×α×Unit→Option Ua):(List α×Int×Int×Int×Unit)→Option ((List α×Int×Int×Int×Unit)⊕(List α×Int×Int×Int×Unit)⊕Unit):=fun(a0,a1,a2,a3,_)=>
 match(ile a2 a3)with
 |true=>match idx a0 a1 with|none=>none|some x0=>match idx a0 a3 with|none=>none|some x1=>match c ((AY a0 (AN a1) z),(AY a0 (AN a3) z),())with|none=>none|some (y2,_)=>match(ilt y2 0)with
  |true=>some (.inl (a0,a1,a2,(IntKind.wrap .i64 (a3-1)),()))
  |false=>some (.inr (.inl (a0,a1,a2,a3,())))
 |false=>some (.inr (.inl (a0,a1,a2,a3,())))
def He[Lk]{α:Type}(z:α)(c:α×α×Unit→Option Ua):(List α×Int×Int×Int×Unit)→Option ((List α×Int×Int×Int×Unit)⊕(List α×Int×Int×Int×Unit)⊕Unit):=fun(a0,a1,a2,a3,_)=>
 match(ile a2 a3)with
 |true=>match idx a0 a1 with|none=>none|some x0=>match idx a0 a2 with|none=>none|some x1=>match c ((AY a0 (AN a1) z),(AY a0 (AN a2) z),())with|none=>none|some (y2,_)=>match(!(ilt y2 0))with
  |true=>some (.inl (a0,a1,(IntKind.wrap .i64 (a2+1)),a3,()))
  |false=>some (.inr (.inl (a0,a1,a2,a3,())))
 |false=>some (.inr (.inl (a0,a1,a2,a3,())))
def Hf[Lk]{α:Type}(z:α)(c:α×α×Unit→Option Ua):(List α×Int×Int×Int×Unit)→Option ((List α×Int×Int×Int×Unit)⊕(List α×Int×Unit)⊕Unit):=fun(a0,a1,a2,a3,_)=>
 match AX (He z c) many (a0,a1,a2,a3,())with|none=>none|some r=>match r with
 |.inl (o0,o1,o2,o3,_)=>match AX (Hd z c) many (o0,o1,o2,o3,())with|none=>none|some r=>match r with
  |.inl (o4,o5,o6,o7,_)=>match(ilt o7 o6)with
   |true=>some (.inr (.inl (o4,o6,())))
   |false=>match idx o4 o7 with|none=>none|some x8=>match idx o4 o6 with|none=>none|some x9=>match idx o4 o6 with|none=>none|some x10=>match idx (Az o4 (AN o6) (AY o4 (AN o7) z)) o7 with|none=>none|some x11=>some (.inl ((Az (Az o4 (AN o6) (AY o4 (AN o7) z)) (AN o7) (AY o4 (AN o6) z)),o5,(IntKind.wrap .i64 (o6+1)),(IntKind.wrap .i64 (o7-1)),()))
  |.inr _=>none
 |.inr _=>none
def Jh[Lk]{α:Type}(z:α)(c:α×α×Unit→Option Ua):(List α×Int×Int×Int×Unit)→Option ((List α×Int×Unit)):=fun(a0,a1,a2,a3,_)=>
 match idx a0 a3 with|none=>none|some x0=>match idx a0 a1 with|none=>none|some x1=>match idx a0 a1 with|none=>none|some x2=>match idx (Az a0 (AN a1) (AY a0 (AN a3) z)) a3 with|none=>none|some x3=>match AX (Hf z c) many ((Az (Az a0 (AN a1) (AY a0 (AN a3) z)) (AN a3) (AY a0 (AN a1) z)),a1,(IntKind.wrap .i64 (a1+1)),(IntKind.wrap .i64 (a2-1)),())with|none=>none|some r=>match r with
 |.inl (o4,o5,_)=>some (o4,o5,())
 |.inr _=>none
def RI[Lk]{α:Type}(z:α)(c:α×α×Unit→Option Ua)(v:(List α×Int×Int×Int×Unit)):Option ((List α×Int×Unit)):=Lk.f ((Jh z c) v)
theorem AXA{α:Type}(z:α)(c:α×α×Unit→Option Ua)(v:(List α×Int×Int×Int×Unit)):(RI z c) v=(Jh z c) v:=AJ _
def Ma[Lk]{α:Type}(z:α)(c:α×α×Unit→Option Ua):(List α×Int×Int×Int×Unit)→Option ((List α×Int×Int×Int×Unit)⊕(List α×Int×Int×Int×Unit)⊕Unit):=fun(a0,a1,a2,a3,_)=>
 match(ile a2 a3)with
 |true=>match idx a0 a3 with|none=>none|some x0=>match idx a0 a1 with|none=>none|some x1=>match c ((AY a0 (AN a3) z),(AY a0 (AN a1) z),())with|none=>none|some (y2,_)=>match(!(ilt y2 0))with
  |true=>some (.inl (a0,a1,a2,(IntKind.wrap .i64 (a3-1)),()))
  |false=>some (.inr (.inl (a0,a1,a2,a3,())))
 |false=>some (.inr (.inl (a0,a1,a2,a3,())))
def Mb[Lk]{α:Type}(z:α)(c:α×α×Unit→Option Ua):(List α×Int×Int×Int×Unit)→Option ((List α×Int×Int×Int×Unit)⊕(List α×Int×Int×Int×Unit)⊕Unit):=fun(a0,a1,a2,a3,_)=>
 match(ile a2 a3)with
 |true=>match idx a0 a2 with|none=>none|some x0=>match idx a0 a1 with|none=>none|some x1=>match c ((AY a0 (AN a2) z),(AY a0 (AN a1) z),())with|none=>none|some (y2,_)=>match(ilt y2 0)with
  |true=>some (.inl (a0,a1,(IntKind.wrap .i64 (a2+1)),a3,()))
  |false=>some (.inr (.inl (a0,a1,a2,a3,())))
 |false=>some (.inr (.inl (a0,a1,a2,a3,())))
def Mc[Lk]{α:Type}(z:α)(c:α×α×Unit→Option Ua):(List α×Int×Int×Int×Unit)→Option ((List α×Int×Int×Int×Unit)⊕(List α×Int×Int×Unit)⊕Unit):=fun(a0,a1,a2,a3,_)=>
 match AX (Mb z c) many (a0,a1,a2,a3,())with|none=>none|some r=>match r with
 |.inl (o0,o1,o2,o3,_)=>match AX (Ma z c) many (o0,o1,o2,o3,())with|none=>none|some r=>match r with
  |.inl (o4,o5,o6,o7,_)=>match(ilt o7 o6)with
   |true=>some (.inr (.inl (o4,o5,o7,())))
   |false=>match idx o4 o7 with|none=>none|some x8=>match idx o4 o6 with|none=>none|some x9=>match idx o4 o6 with|none=>none|some x10=>match idx (Az o4 (AN o6) (AY o4 (AN o7) z)) o7 with|none=>none|some x11=>some (.inl ((Az (Az o4 (AN o6) (AY o4 (AN o7) z)) (AN o7) (AY o4 (AN o6) z)),o5,(IntKind.wrap .i64 (o6+1)),(IntKind.wrap .i64 (o7-1)),()))
  |.inr _=>none
 |.inr _=>none
def Md[Lk]{α:Type}(z:α)(c:α×α×Unit→Option Ua):(List α×Int×Int×Int×Unit)→Option ((List α×Int×Int×Int×Unit)⊕(List α×Int×Int×Int×Unit)⊕Unit):=fun(a0,a1,a2,a3,_)=>
 match(ile a2 a3)with
 |true=>match idx a0 a3 with|none=>none|some x0=>match idx a0 a1 with|none=>none|some x1=>match c ((AY a0 (AN a3) z),(AY a0 (AN a1) z),())with|none=>none|some (y2,_)=>match(!(ilt y2 0))with
  |true=>some (.inl (a0,a1,a2,(IntKind.wrap .i64 (a3-1)),()))
  |false=>some (.inr (.inl (a0,a1,a2,a3,())))
 |false=>some (.inr (.inl (a0,a1,a2,a3,())))
def Me[Lk]{α:Type}(z:α)(c:α×α×Unit→Option Ua):(List α×Int×Int×Int×Unit)→Option ((List α×Int×Int×Int×Unit)⊕(List α×Int×Int×Int×Unit)⊕Unit):=fun(a0,a1,a2,a3,_)=>
 match(ile a2 a3)with
 |true=>match idx a0 a2 with|none=>none|some x0=>match idx a0 a1 with|none=>none|some x1=>match c ((AY a0 (AN a2) z),(AY a0 (AN a1) z),())with|none=>none|some (y2,_)=>match(ilt y2 0)with
  |true=>some (.inl (a0,a1,(IntKind.wrap .i64 (a2+1)),a3,()))
  |false=>some (.inr (.inl (a0,a1,a2,a3,())))
 |false=>some (.inr (.inl (a0,a1,a2,a3,())))
def RH[Lk]{α:Type}(z:α)(c:α×α×Unit→Option Ua):(List α×Int×Int×Int×Unit)→Option ((List α×Int×Bool×Unit)):=fun(a0,a1,a2,a3,_)=>
 match idx a0 a3 with|none=>none|some x0=>match idx a0 a1 with|none=>none|some x1=>match idx a0 a1 with|none=>none|some x2=>match idx (Az a0 (AN a1) (AY a0 (AN a3) z)) a3 with|none=>none|some x3=>match AX (Me z c) many ((Az (Az a0 (AN a1) (AY a0 (AN a3) z)) (AN a3) (AY a0 (AN a1) z)),a1,(IntKind.wrap .i64 (a1+1)),(IntKind.wrap .i64 (a2-1)),())with|none=>none|some r=>match r with
 |.inl (o4,o5,o6,o7,_)=>match AX (Md z c) many (o4,o5,o6,o7,())with|none=>none|some r=>match r with
  |.inl (o8,o9,o10,o11,_)=>match(ilt o11 o10)with
   |true=>match idx o8 o9 with|none=>none|some x12=>match idx o8 o11 with|none=>none|some x13=>match idx o8 o11 with|none=>none|some x14=>match idx (Az o8 (AN o11) (AY o8 (AN o9) z)) o9 with|none=>none|some x15=>some ((Az (Az o8 (AN o11) (AY o8 (AN o9) z)) (AN o9) (AY o8 (AN o11) z)),o11,true,())
   |false=>match idx o8 o11 with|none=>none|some x16=>match idx o8 o10 with|none=>none|some x17=>match idx o8 o10 with|none=>none|some x18=>match idx (Az o8 (AN o10) (AY o8 (AN o11) z)) o11 with|none=>none|some x19=>match AX (Mc z c) many ((Az (Az o8 (AN o10) (AY o8 (AN o11) z)) (AN o11) (AY o8 (AN o10) z)),o9,(IntKind.wrap .i64 (o10+1)),(IntKind.wrap .i64 (o11-1)),())with|none=>none|some r=>match r with
   |.inl (o20,o21,o22,_)=>match idx o20 o21 with|none=>none|some x23=>match idx o20 o22 with|none=>none|some x24=>match idx o20 o22 with|none=>none|some x25=>match idx (Az o20 (AN o22) (AY o20 (AN o21) z)) o21 with|none=>none|some x26=>some ((Az (Az o20 (AN o22) (AY o20 (AN o21) z)) (AN o21) (AY o20 (AN o22) z)),o22,false,())
   |.inr _=>none
  |.inr _=>none
 |.inr _=>none
def ACb[Lk]{α:Type}(z:α)(c:α×α×Unit→Option Ua)(v:(List α×Int×Int×Int×Unit)):Option ((List α×Int×Bool×Unit)):=Lk.f ((RH z c) v)
theorem Aia{α:Type}(z:α)(c:α×α×Unit→Option Ua)(v:(List α×Int×Int×Int×Unit)):(ACb z c) v=(RH z c) v:=AJ _
def T6[Lk]{α:Type}(z:α)(c:α×α×Unit→Option Ua)(self:(List α×Int×Int×Int×Unit)→Option ((List α×Unit)))(y7:List α)(a1 a2 p l:Int)(a4 a5:Bool):Option ((List α×Int×Int×Int×Bool×Bool×Unit)⊕(List α×Unit)⊕Unit):=
 match(ilt 0 a1)with
 |true=>match idx y7 (IntKind.wrap .i64 (a1-1))with|none=>none|some x9=>match idx y7 p with|none=>none|some x10=>match c ((AY y7 (AN (IntKind.wrap .i64 (a1-1))) z),(AY y7 (AN p) z),())with|none=>none|some (y11,_)=>match(!(ilt y11 0))with
  |true=>match(RI z c) (y7,a1,a2,p,())with|none=>none|some (y12,y13,_)=>some (.inl (y12,y13,a2,l,a4,a5,()))
  |false=>match(ACb z c) (y7,a1,a2,p,())with|none=>none|some (y14,y15,y16,_)=>match quo? .i64 (IntKind.wrap .i64 (a2-a1)) 8 with|none=>none|some x17=>match(ilt (IntKind.wrap .i64 (y15-a1)) (IntKind.wrap .i64 (a2-y15)))with
  |true=>match self (y14,a1,y15,l,())with|none=>none|some (y18,_)=>some (.inl (y18,(IntKind.wrap .i64 (y15+1)),a2,l,(ile x17 (IntKind.wrap .i64 (y15-a1))),y16,()))
  |false=>match self (y14,(IntKind.wrap .i64 (y15+1)),a2,l,())with|none=>none|some (y19,_)=>some (.inl (y19,a1,y15,l,(ile x17 (IntKind.wrap .i64 (a2-y15))),y16,()))
 |false=>match(ACb z c) (y7,a1,a2,p,())with|none=>none|some (y20,y21,y22,_)=>match quo? .i64 (IntKind.wrap .i64 (a2-a1)) 8 with|none=>none|some x23=>match(ilt (IntKind.wrap .i64 (y21-a1)) (IntKind.wrap .i64 (a2-y21)))with
 |true=>match self (y20,a1,y21,l,())with|none=>none|some (y24,_)=>some (.inl (y24,(IntKind.wrap .i64 (y21+1)),a2,l,(ile x23 (IntKind.wrap .i64 (y21-a1))),y22,()))
 |false=>match self (y20,(IntKind.wrap .i64 (y21+1)),a2,l,())with|none=>none|some (y25,_)=>some (.inl (y25,a1,y21,l,(ile x23 (IntKind.wrap .i64 (a2-y21))),y22,()))
def AL0[Lk]{α:Type}(z:α)(c:α×α×Unit→Option Ua)(self:(List α×Int×Int×Int×Unit)→Option ((List α×Unit)))(y6:List α)(a1 a2 p h l:Int)(a4 a5:Bool):Option ((List α×Int×Int×Int×Bool×Bool×Unit)⊕(List α×Unit)⊕Unit):=
 match a4 with
 |true=>match a5 with
  |true=>match(ieq h 1)with
   |true=>match(MZ z c) (y6,a1,a2,())with|none=>none|some (y7,y8,_)=>match y8 with
    |true=>some (.inr (.inl (y7,())))
    |false=>(T6 z c) self y7 a1 a2 p l a4 a5
   |false=>(T6 z c) self y6 a1 a2 p l a4 a5
  |false=>(T6 z c) self y6 a1 a2 p l a4 a5
 |false=>(T6 z c) self y6 a1 a2 p l a4 a5
def ALz[Lk]{α:Type}(z:α)(c:α×α×Unit→Option Ua)(self:(List α×Int×Int×Int×Unit)→Option ((List α×Unit)))(y2:List α)(a1 a2 l:Int)(a4 a5:Bool):Option ((List α×Int×Int×Int×Bool×Bool×Unit)⊕(List α×Unit)⊕Unit):=
 match(ACB z c) (y2,a1,a2,())with|none=>none|some (y3,y4,y5,_)=>match(ieq y5 2)with
 |true=>match(Ahk z c) (y3,a1,a2,())with|none=>none|some (y6,_)=>(AL0 z c) self y6 a1 a2 (IntKind.wrap .i64 ((IntKind.wrap .i64 (a2-1))-(IntKind.wrap .i64 (y4-a1)))) 1 l a4 a5
 |false=>(AL0 z c) self y3 a1 a2 y4 y5 l a4 a5
def Nu[Lk]{α:Type}(z:α)(c:α×α×Unit→Option Ua)(self:(List α×Int×Int×Int×Unit)→Option ((List α×Unit))):(List α×Int×Int×Int×Bool×Bool×Unit)→Option ((List α×Int×Int×Int×Bool×Bool×Unit)⊕(List α×Unit)⊕Unit):=fun(a0,a1,a2,a3,a4,a5,_)=>
 match(ile (IntKind.wrap .i64 (a2-a1)) 12)with
 |true=>match(AjR z c) (a0,a1,a2,())with|none=>none|some (y0,_)=>some (.inr (.inl (y0,())))
 |false=>match(ieq a3 0)with
 |true=>match(ASo z c) (a0,a1,a2,())with|none=>none|some (y1,_)=>some (.inr (.inl (y1,())))
 |false=>match(!a4)with
 |true=>match(AFR z c) (a0,a1,a2,())with|none=>none|some (y2,_)=>(ALz z c) self y2 a1 a2 (IntKind.wrap .i64 (a3-1)) a4 a5
 |false=>(ALz z c) self a0 a1 a2 a3 a4 a5
def ACJ[Lk]{α:Type}(z:α)(c:α×α×Unit→Option Ua)(self:(List α×Int×Int×Int×Unit)→Option ((List α×Unit))):(List α×Int×Int×Int×Unit)→Option ((List α×Unit)):=fun(a0,a1,a2,a3,_)=>
 match AX ((Nu z c) self) many (a0,a1,a2,a3,true,true,())with|none=>none|some r=>match r with
 |.inl (o0,_)=>some (o0,())
 |.inr _=>none
def KX[Lk]{α:Type}(z:α)(c:α×α×Unit→Option Ua):Nat→(List α×Int×Int×Int×Unit)→Option ((List α×Unit))
 |0,_=>none
 |n+1,v=>(ACJ z c) ((KX z c) n) v
def AiM[Lk]{α:Type}(z:α)(c:α×α×Unit→Option Ua)(v:(List α×Int×Int×Int×Unit)):Option ((List α×Unit)):=Lk.f ((KX z c) 100 v)
theorem AmB{α:Type}(z:α)(c:α×α×Unit→Option Ua)(v:(List α×Int×Int×Int×Unit)):(AiM z c) v=(KX z c) 100 v:=AJ _
def Qt[Lk]{α:Type}(z:α)(c:α×α×Unit→Option Ua):(List α×Unit)→Option ((List α×Unit)):=fun(a0,_)=>
 match bitsLen ((IntKind.wrap .u64 (AM a0)),())with|none=>none|some (y0,_)=>match(AiM z c) (a0,0,(AM a0),y0,())with|none=>none|some (y1,_)=>some (y1,())
def AaU[Lk]{α:Type}(z:α)(c:α×α×Unit→Option Ua)(v:(List α×Unit)):Option ((List α×Unit)):=Lk.f ((Qt z c) v)
theorem AhC{α:Type}(z:α)(c:α×α×Unit→Option Ua)(v:(List α×Unit)):(AaU z c) v=(Qt z c) v:=AJ _
abbrev AX9:AE:=[(.tmp 0,.own 41 U7),(.tmp 1,.di),(.tmp 2,.di),(.tmp 3,.clo 135 [])]
abbrev AX8:AE:=[(.obj 0,.own 41 U7)]
abbrev AX7:List RS:=[]
abbrev AbA:AE:=[(.obj 0,.own 41 U7),(.tmp 0,.own' 0),(.tmp 1,.di),(.tmp 2,.di),(.tmp 3,.clo 135 []),(.tmp 8,.di),(.tmp 9,.di)]
abbrev Aa8:Ao:=[(.exit 2,[(.obj 0,.own 41 U7),(.tmp 0,.own' 0),(.tmp 1,.di),(.tmp 2,.di),(.tmp 3,.clo 135 []),(.tmp 8,.di)])]
def Aa6[Lk]:Um→Option (Um⊕U8⊕Unit):=Nz (([]:List (Int)):U5) BG
abbrev AbB:AE:=[(.obj 0,.own 41 U7),(.tmp 0,.own' 0),(.tmp 1,.di),(.tmp 2,.di),(.tmp 3,.clo 135 []),(.tmp 8,.di)]
abbrev Aa9:Ao:=[(.exit 0,[(.obj 0,.own 41 U7)])]
def Aa7[Lk]:U8→Option (U8⊕Uq⊕Unit):=N0 (([]:List (Int)):U5) BG
def AjO[Lk]:Uh→Option (Uq):=ADW (([]:List (Int)):U5) BG
def AoW[Lk](v:Uh):Option (Uq):=AjR (([]:List (Int)):U5) BG v
theorem Amd v:AoW v=AjO v:=AJ _
abbrev ALG:AE:=[(.tmp 0,.own 41 U7),(.tmp 1,.di),(.tmp 2,.di),(.tmp 3,.di),(.tmp 4,.clo 135 [])]
abbrev ALF:AE:=[(.obj 0,.own 41 U7)]
abbrev ALE:List RS:=[]
abbrev AQC:AE:=[(.obj 0,.own 41 U7),(.tmp 0,.own' 0),(.tmp 2,.di),(.tmp 3,.di),(.tmp 4,.clo 135 []),(.tmp 10,.di)]
abbrev AQB:Ao:=[(.exit 0,[(.obj 0,.own 41 U7)]),(.ret,[(.obj 0,.own 41 U7)])]
def AQA[Lk]:U8→Option (U8⊕Uq⊕Uq⊕Unit):=Ja (([]:List (Int)):U5) BG
def AaX[Lk]:U8→Option (Uq):=Qu (([]:List (Int)):U5) BG
def AhI[Lk](v:U8):Option (Uq):=AH8 (([]:List (Int)):U5) BG v
theorem AhH v:AhI v=AaX v:=AJ _
abbrev AM2:AE:=[(.tmp 0,.own 41 U7),(.tmp 1,.di),(.tmp 2,.di),(.tmp 3,.clo 135 [])]
abbrev AM1:AE:=[(.obj 0,.own 41 U7)]
abbrev AM0:List RS:=[]
abbrev ASl:AE:=[(.obj 0,.own 41 U7),(.tmp 0,.own' 0),(.tmp 3,.clo 135 []),(.tmp 8,.di),(.tmp 9,.di),(.tmp 12,.di)]
abbrev ASj:Ao:=[(.exit 2,[(.obj 0,.own 41 U7)])]
def ASg[Lk]:U8→Option (U8⊕Uq⊕Unit):=Jt (([]:List (Int)):U5) BG
abbrev ASm:AE:=[(.obj 0,.own 41 U7),(.tmp 0,.own' 0),(.tmp 3,.clo 135 []),(.tmp 8,.di),(.tmp 9,.di),(.tmp 10,.di),(.tmp 11,.di)]
abbrev ASk:Ao:=[(.exit 0,[(.obj 0,.own 41 U7),(.tmp 0,.own' 0),(.tmp 3,.clo 135 []),(.tmp 8,.di),(.tmp 9,.di),(.tmp 10,.di)])]
def ASi[Lk]:Um→Option (Um⊕U8⊕Unit):=Ju (([]:List (Int)):U5) BG
def AbJ[Lk]:Uh→Option (Uq):=Rc (([]:List (Int)):U5) BG
def Aje[Lk](v:Uh):Option (Uq):=ASo (([]:List (Int)):U5) BG v
theorem Ajd v:Aje v=AbJ v:=AJ _
abbrev AFP:AE:=[(.tmp 0,.own 41 U7),(.tmp 1,.di),(.tmp 2,.di),(.tmp 3,.clo 135 [])]
abbrev AFO:AE:=[(.obj 0,.own 41 U7)]
abbrev AFN:List RS:=[]
abbrev AJj:AE:=[(.obj 0,.own 41 U7),(.tmp 0,.own' 0),(.tmp 1,.di),(.tmp 8,.di),(.tmp 9,.box 1),(.cell 1 0,.dat (.int .u64)),(.tmp 10,.dat (.int .u64)),(.tmp 11,.di)]
abbrev AJi:Ao:=[(.exit 0,[(.obj 0,.own 41 U7)])]
def AJh[Lk]:V1→Option (V1⊕Uq⊕Unit):=GA (([]:List (Int)):U5) BG
def AUL[Lk]:Uh→Option (Uq):=NG (([]:List (Int)):U5) BG
def AZr[Lk](v:Uh):Option (Uq):=AFR (([]:List (Int)):U5) BG v
theorem Af5 v:AZr v=AUL v:=AJ _
abbrev UG:AE:=[(.tmp 0,.own 41 U7),(.tmp 1,.di),(.tmp 2,.di),(.tmp 3,.box 1),(.cell 1 0,.di),(.tmp 4,.clo 135 [])]
abbrev UE:AE:=[(.obj 0,.own 41 U7),(.obj 1,.box 1),(.cell 1 0,.di),(.tmp 0,.di),(.tmp 1,.di)]
abbrev UD:List RS:=[.one,.one]
def AIf[Lk]:U8→Option (U8):=Ji (([]:List (Int)):U5) BG
def AMH[Lk](v:U8):Option (U8):=KY (([]:List (Int)):U5) BG v
theorem AXJ v:AMH v=AIf v:=AJ _
abbrev UR:AE:=[(.tmp 0,.own 41 U7),(.tmp 1,.di),(.tmp 2,.di),(.tmp 3,.di),(.tmp 4,.box 1),(.cell 1 0,.di),(.tmp 5,.clo 135 [])]
abbrev UQ:AE:=[(.obj 0,.own 41 U7),(.obj 1,.box 1),(.cell 1 0,.di),(.tmp 0,.di)]
abbrev UP:List RS:=[.one]
def AIj[Lk]:Um→Option (Uh):=Jm (([]:List (Int)):U5) BG
def AMW[Lk](v:Um):Option (Uh):=Kg (([]:List (Int)):U5) BG v
theorem AXg v:AMW v=AIj v:=AJ _
abbrev UY:AE:=[(.tmp 0,.own 41 U7),(.tmp 1,.di),(.tmp 2,.box 1),(.cell 1 0,.di),(.tmp 3,.clo 135 [])]
abbrev UX:AE:=[(.obj 0,.own 41 U7),(.obj 1,.box 1),(.cell 1 0,.di),(.tmp 0,.di)]
abbrev UW:List RS:=[.one]
def AIl[Lk]:Uh→Option (Uh):=Jn (([]:List (Int)):U5) BG
def AMa[Lk](v:Uh):Option (Uh):=Kh (([]:List (Int)):U5) BG v
theorem AXj v:AMa v=AIl v:=AJ _
abbrev ACA:AE:=[(.tmp 0,.own 41 U7),(.tmp 1,.di),(.tmp 2,.di),(.tmp 3,.clo 135 [])]
abbrev AB9:AE:=[(.obj 0,.own 41 U7),(.tmp 0,.di),(.tmp 1,.di)]
abbrev AB8:List RS:=[.one,.one]
def AQ1[Lk]:Uh→Option (Uh):=MY (([]:List (Int)):U5) BG
def AWl[Lk](v:Uh):Option (Uh):=ACB (([]:List (Int)):U5) BG v
theorem AdR v:AWl v=AQ1 v:=AJ _
abbrev AWG:AE:=[(.tmp 0,.own 41 U7),(.tmp 1,.di),(.tmp 2,.di),(.tmp 3,.clo 135 [])]
abbrev AWF:AE:=[(.obj 0,.own 41 U7)]
abbrev AWE:List RS:=[]
abbrev Aac:AE:=[(.obj 0,.own 41 U7),(.tmp 0,.own' 0),(.tmp 8,.di),(.tmp 9,.di)]
abbrev Aab:Ao:=[(.exit 0,[(.obj 0,.own 41 U7)])]
def Aaa[Lk]:Uh→Option (Uh⊕Uq⊕Unit):=Q6 (([]:List (Int)):U5) BG
def Ahi[Lk]:Uh→Option (Uq):=ABg (([]:List (Int)):U5) BG
def An6[Lk](v:Uh):Option (Uq):=Ahk (([]:List (Int)):U5) BG v
theorem Alw v:An6 v=Ahi v:=AJ _
abbrev Pf:AE:=[(.tmp 0,.own 41 U7),(.tmp 1,.di),(.tmp 2,.di),(.tmp 3,.clo 135 [])]
abbrev Pe:AE:=[(.obj 0,.own 41 U7),(.tmp 0,.dat .bool)]
abbrev Pd:List RS:=[.one]
abbrev Xg:AE:=[(.obj 0,.own 41 U7),(.tmp 0,.own' 0),(.tmp 1,.di),(.tmp 2,.di),(.tmp 3,.clo 135 []),(.tmp 9,.di),(.tmp 10,.di),(.tmp 12,.di)]
abbrev Xc:Ao:=[(.exit 6,[(.obj 0,.own 41 U7),(.tmp 0,.own' 0),(.tmp 1,.di),(.tmp 2,.di),(.tmp 3,.clo 135 []),(.tmp 9,.di),(.tmp 10,.di)])]
def XY[Lk]:V1→Option (V1⊕Um⊕Unit):=Ee (([]:List (Int)):U5) BG
abbrev Xh:AE:=[(.obj 0,.own 41 U7),(.tmp 0,.own' 0),(.tmp 1,.di),(.tmp 2,.di),(.tmp 3,.clo 135 []),(.tmp 9,.di),(.tmp 10,.di),(.tmp 11,.di)]
abbrev Xd:Ao:=[(.exit 4,[(.obj 0,.own 41 U7),(.tmp 0,.own' 0),(.tmp 1,.di),(.tmp 2,.di),(.tmp 3,.clo 135 []),(.tmp 9,.di),(.tmp 10,.di)])]
def XZ[Lk]:V1→Option (V1⊕Um⊕Unit):=Ef (([]:List (Int)):U5) BG
abbrev Xi:AE:=[(.obj 0,.own 41 U7),(.tmp 0,.own' 0),(.tmp 1,.di),(.tmp 2,.di),(.tmp 3,.clo 135 []),(.tmp 9,.di),(.tmp 10,.di)]
abbrev Xe:Ao:=[(.exit 2,[(.obj 0,.own 41 U7),(.tmp 0,.own' 0),(.tmp 1,.di),(.tmp 2,.di),(.tmp 3,.clo 135 []),(.tmp 9,.di),(.tmp 10,.di)])]
def Xa[Lk]:Um→Option (Um⊕Um⊕Unit):=Gb (([]:List (Int)):U5) BG
abbrev Xj:AE:=[(.obj 0,.own 41 U7),(.tmp 0,.own' 0),(.tmp 1,.di),(.tmp 2,.di),(.tmp 3,.clo 135 []),(.tmp 9,.di),(.tmp 10,.di)]
abbrev Xf:Ao:=[(.ret,[(.obj 0,.own 41 U7),(.tmp 8,.dat .bool)]),(.exit 0,[(.obj 0,.own 41 U7)])]
def Xb[Lk]:Um→Option (Um⊕(List U5×Bool×Unit)⊕Uq⊕Unit):=CU (([]:List (Int)):U5) BG
def ACT[Lk]:Uh→Option ((List U5×Bool×Unit)):=Hc (([]:List (Int)):U5) BG
def ACU[Lk](v:Uh):Option ((List U5×Bool×Unit)):=MZ (([]:List (Int)):U5) BG v
theorem ARf v:ACU v=ACT v:=AJ _
abbrev T9:AE:=[(.tmp 0,.own 41 U7),(.tmp 1,.di),(.tmp 2,.di),(.tmp 3,.di),(.tmp 4,.clo 135 [])]
abbrev T8:AE:=[(.obj 0,.own 41 U7),(.tmp 0,.di)]
abbrev T7:List RS:=[.one]
abbrev ACi:AE:=[(.obj 0,.own 41 U7),(.tmp 0,.own' 0),(.tmp 1,.di),(.tmp 4,.clo 135 []),(.tmp 11,.di),(.tmp 12,.di)]
abbrev ACf:Ao:=[(.exit 4,[(.obj 0,.own 41 U7),(.tmp 0,.own' 0),(.tmp 1,.di),(.tmp 4,.clo 135 []),(.tmp 11,.di),(.tmp 12,.di)])]
def ACc[Lk]:U8→Option (U8⊕U8⊕Unit):=Hd (([]:List (Int)):U5) BG
abbrev ACj:AE:=[(.obj 0,.own 41 U7),(.tmp 0,.own' 0),(.tmp 1,.di),(.tmp 4,.clo 135 []),(.tmp 11,.di),(.tmp 12,.di)]
abbrev ACg:Ao:=[(.exit 2,[(.obj 0,.own 41 U7),(.tmp 0,.own' 0),(.tmp 1,.di),(.tmp 4,.clo 135 []),(.tmp 11,.di),(.tmp 12,.di)])]
def ACd[Lk]:U8→Option (U8⊕U8⊕Unit):=He (([]:List (Int)):U5) BG
abbrev ACk:AE:=[(.obj 0,.own 41 U7),(.tmp 0,.own' 0),(.tmp 1,.di),(.tmp 4,.clo 135 []),(.tmp 11,.di),(.tmp 12,.di)]
abbrev ACh:Ao:=[(.exit 0,[(.obj 0,.own 41 U7),(.tmp 11,.di)])]
def ACe[Lk]:U8→Option (U8⊕(List U5×Int×Unit)⊕Unit):=Hf (([]:List (Int)):U5) BG
def AIb[Lk]:U8→Option ((List U5×Int×Unit)):=Jh (([]:List (Int)):U5) BG
def AL9[Lk](v:U8):Option ((List U5×Int×Unit)):=RI (([]:List (Int)):U5) BG v
theorem AW9 v:AL9 v=AIb v:=AJ _
end
end Go.Pev
end
section
namespace Go.Pev
noncomputable section
attribute [local irreducible] Oy LD OR Oa AjV AjW AjY Q9 AGi Qv Yn LO Aj many IntKind.wrap AM Az AY BX Bu F7 D3 AN Br B4 imax AS Ae
abbrev AL4:AE:=[(.tmp 0,.own 41 U7),(.tmp 1,.di),(.tmp 2,.di),(.tmp 3,.di),(.tmp 4,.clo 135 [])]
abbrev AL3:AE:=[(.obj 0,.own 41 U7),(.tmp 0,.di),(.tmp 1,.dat .bool)]
abbrev AL2:List RS:=[.one,.one]
abbrev ARS:AE:=[(.obj 0,.own 41 U7),(.tmp 0,.own' 0),(.tmp 1,.di),(.tmp 4,.clo 135 []),(.tmp 12,.di),(.tmp 13,.di)]
abbrev ARN:Ao:=[(.exit 8,[(.obj 0,.own 41 U7),(.tmp 0,.own' 0),(.tmp 1,.di),(.tmp 4,.clo 135 []),(.tmp 12,.di),(.tmp 13,.di)])]
def ARE[Lk]:U8→Option (U8⊕U8⊕Unit):=Ma (([]:List (Int)):U5) BG
abbrev ART:AE:=[(.obj 0,.own 41 U7),(.tmp 0,.own' 0),(.tmp 1,.di),(.tmp 4,.clo 135 []),(.tmp 12,.di),(.tmp 13,.di)]
abbrev ARO:Ao:=[(.exit 6,[(.obj 0,.own 41 U7),(.tmp 0,.own' 0),(.tmp 1,.di),(.tmp 4,.clo 135 []),(.tmp 12,.di),(.tmp 13,.di)])]
def ARG[Lk]:U8→Option (U8⊕U8⊕Unit):=Mb (([]:List (Int)):U5) BG
abbrev ARU:AE:=[(.obj 0,.own 41 U7),(.tmp 0,.own' 0),(.tmp 1,.di),(.tmp 4,.clo 135 []),(.tmp 12,.di),(.tmp 13,.di)]
abbrev ARP:Ao:=[(.exit 4,[(.obj 0,.own 41 U7),(.tmp 0,.own' 0),(.tmp 1,.di),(.tmp 13,.di)])]
def ARI[Lk]:U8→Option (U8⊕Uh⊕Unit):=Mc (([]:List (Int)):U5) BG
abbrev ARV:AE:=[(.obj 0,.own 41 U7),(.tmp 0,.own' 0),(.tmp 1,.di),(.tmp 4,.clo 135 []),(.tmp 12,.di),(.tmp 13,.di)]
abbrev ARQ:Ao:=[(.exit 2,[(.obj 0,.own 41 U7),(.tmp 0,.own' 0),(.tmp 1,.di),(.tmp 4,.clo 135 []),(.tmp 12,.di),(.tmp 13,.di)])]
def ARK[Lk]:U8→Option (U8⊕U8⊕Unit):=Md (([]:List (Int)):U5) BG
abbrev ARW:AE:=[(.obj 0,.own 41 U7),(.tmp 0,.own' 0),(.tmp 1,.di),(.tmp 4,.clo 135 []),(.tmp 12,.di),(.tmp 13,.di)]
abbrev ARR:Ao:=[(.exit 0,[(.obj 0,.own 41 U7),(.tmp 0,.own' 0),(.tmp 1,.di),(.tmp 4,.clo 135 []),(.tmp 12,.di),(.tmp 13,.di)])]
def ARM[Lk]:U8→Option (U8⊕U8⊕Unit):=Me (([]:List (Int)):U5) BG
def Aar[Lk]:U8→Option ((List U5×Int×Bool×Unit)):=RH (([]:List (Int)):U5) BG
def AiZ[Lk](v:U8):Option ((List U5×Int×Bool×Unit)):=ACb (([]:List (Int)):U5) BG v
theorem AiY v:AiZ v=Aar v:=AJ _
abbrev ACH:AE:=[(.tmp 0,.own 41 U7),(.tmp 1,.di),(.tmp 2,.di),(.tmp 3,.di),(.tmp 4,.clo 135 [])]
abbrev ACG:AE:=[(.obj 0,.own 41 U7)]
abbrev ACF:List RS:=[]
abbrev Aan:AE:=[(.obj 0,.own 41 U7),(.tmp 0,.own' 0),(.tmp 1,.di),(.tmp 2,.di),(.tmp 3,.di),(.tmp 4,.clo 135 []),(.tmp 10,.dat .bool),(.tmp 11,.dat .bool)]
abbrev Aam:Ao:=[(.ret,[(.obj 0,.own 41 U7)])]
def Aal[Lk](self:U8→Option (Uq)):(List U5×Int×Int×Int×Bool×Bool×Unit)→Option ((List U5×Int×Int×Int×Bool×Bool×Unit)⊕Uq⊕Unit):=Nu (([]:List (Int)):U5) BG self
def AoJ[Lk](self:U8→Option (Uq)):U8→Option (Uq):=ACJ (([]:List (Int)):U5) BG self
def ACI[Lk]:Nat→U8→Option (Uq):=KX (([]:List (Int)):U5) BG
def AmA[Lk](v:U8):Option (Uq):=AiM (([]:List (Int)):U5) BG v
theorem Al9 v:AmA v=ACI 100 v:=AJ _
abbrev AK8:AE:=[(.tmp 0,.own 41 U7),(.tmp 1,.clo 135 [])]
abbrev AK7:AE:=[(.obj 0,.own 41 U7)]
abbrev AK6:List RS:=[]
def AaT[Lk]:Uq→Option (Uq):=Qt (([]:List (Int)):U5) BG
def AP5[Lk](v:Uq):Option (Uq):=AaU (([]:List (Int)):U5) BG v
theorem AhB v:AP5 v=AaT v:=AJ _
abbrev AKS:AE:=[(.tmp 0,.dat V3),(.tmp 1,.dat U7),(.tmp 2,.dat Uj)]
abbrev AKR:AE:=[(.tmp 0,.di),(.tmp 1,.own 41 U7)]
abbrev AKQ:List RS:=[.agg 2]
abbrev APV:AE:=[(.tmp 3,.box 2),(.cell 0 0,.di),(.cell 0 1,.dat Uj),(.tmp 6,.box 2),(.cell 1 0,.di),(.cell 1 1,.nil U7),(.tmp 7,.own 41 U7),(.tmp 29,.dat Uj),(.tmp 30,.di),(.tmp 31,.di)]
abbrev APT:Ao:=[(.exit 2,[(.tmp 3,.box 2),(.cell 0 0,.di),(.cell 0 1,.dat Uj),(.tmp 6,.box 2),(.cell 1 0,.di),(.cell 1 1,.nil U7),(.tmp 7,.own 41 U7)])]
def HQ[Lk]:(Int×List U5×Int×List U5×List U5×Int×Int×Unit)→Option ((Int×List U5×Int×List U5×List U5×Int×Int×Unit)⊕(Int×List U5×Int×List U5×Unit)⊕Unit):=fun(a0,a1,a2,a3,a4,a5,a6,_)=>
 match(ilt a6 a5)with
 |true=>match idx a4 a6 with|none=>none|some x0=>match ABX (x0,())with|none=>none|some (y1,_)=>match(fits ((AM a3)+(AM ([y1]:List U5))))with
  |true=>some (.inl (a0,a1,a2,(BX a3 ([y1]:List U5)),a4,a5,(IntKind.wrap .i64 (a6+1)),()))
  |false=>none
 |false=>some (.inr (.inl (a0,a1,a2,a3,())))
abbrev APW:AE:=[(.tmp 1,.dat U7),(.tmp 2,.dat Uj),(.tmp 3,.box 2),(.cell 0 0,.di),(.cell 0 1,.dat Uj),(.tmp 6,.box 2),(.cell 1 0,.di),(.cell 1 1,.nil U7),(.tmp 7,.own 41 U7),(.tmp 13,.dat Uj),(.tmp 14,.di),(.tmp 15,.di)]
abbrev APU:Ao:=[(.exit 0,[(.tmp 2,.dat Uj),(.tmp 3,.box 2),(.cell 0 0,.di),(.cell 0 1,.dat Uj),(.tmp 6,.box 2),(.cell 1 0,.di),(.cell 1 1,.nil U7),(.tmp 7,.own 41 U7)])]
def HR[Lk]:(List Int×List U5×Int×List U5×Int×List U5×List U5×Int×Int×Unit)→Option ((List Int×List U5×Int×List U5×Int×List U5×List U5×Int×Int×Unit)⊕(List U5×Int×List U5×Int×List U5×Unit)⊕Unit):=fun(a0,a1,a2,a3,a4,a5,a6,a7,a8,_)=>
 match(ilt a8 a7)with
 |true=>match idx a6 a8 with|none=>none|some x0=>match F9 (a0,a8,())with|none=>none|some (y1,_)=>match(!y1)with
  |true=>match(fits ((AM a5)+(AM ([x0]:List U5))))with
   |true=>some (.inl (a0,a1,a2,a3,a4,(BX a5 ([x0]:List U5)),a6,a7,(IntKind.wrap .i64 (a8+1)),()))
   |false=>none
  |false=>some (.inl (a0,a1,a2,a3,a4,a5,a6,a7,(IntKind.wrap .i64 (a8+1)),()))
 |false=>some (.inr (.inl (a1,a2,a3,a4,a5,())))
def ZM[Lk]:(V4×List Int×List U5×Unit)→Option ((Int×List U5×Unit)):=fun(a0,a1,a2,_)=>
 match AX HR many (a1,a2,a0.1,a0.2.1,0,([]:List U5),a0.2.1,(AM a0.2.1),0,())with|none=>none|some r=>match r with
 |.inl (o0,o1,o2,o3,o4,_)=>match AX HQ many (o1,o2,o3,o4,o0,(AM o0),0,())with|none=>none|some r=>match r with
  |.inl (o5,o6,o7,o8,_)=>match AP5 (o8,())with|none=>none|some (y9,_)=>some (o5,y9,())
  |.inr _=>none
 |.inr _=>none
def APY[Lk]:=fun v=>Lk.f (ZM v)
theorem APX v:APY v=ZM v:=AJ _
abbrev AKm:AE:=[(.tmp 0,.dat V3),(.tmp 1,.di),(.tmp 2,.di)]
abbrev AKl:AE:=[(.tmp 0,.di),(.tmp 1,.dat Uj),(.tmp 2,.di)]
abbrev AKk:List RS:=[.agg 2,.one]
def Qm[Lk]:(V4×Int×Int×Unit)→Option ((Int×List U5×Int×Unit)):=fun(a0,a1,a2,_)=>
 match asked ((a0.1,(a0.2.1,())),a1,a2,())with|none=>none|some (y0,_)=>match(!(ieq y0 0))with
 |true=>some (a0.1,a0.2.1,y0,())
 |false=>match TL ((a0.1,(a0.2.1,())),a1,())with|none=>none|some (y1,_)=>match TL ((a0.1,(a0.2.1,())),a2,())with|none=>none|some (y2,_)=>match(ieq y1 y2)with
 |true=>some (a0.1,a0.2.1,5,())
 |false=>match idx a0.2.1 y1 with|none=>none|some x3=>match AIN (x3,a1,())with|none=>none|some (y4,y5,_)=>match idx a0.2.1 y2 with|none=>none|some x6=>match AIN (x6,a2,())with|none=>none|some (y7,y8,_)=>match EF y4 0 1 with|none=>none|some x9=>match AcW (a0.1,a1,a2,())with|none=>none|some (y10,_)=>match AcW (a0.1,a2,a1,())with|none=>none|some (y11,_)=>match EF y4 1 (AM y4)with|none=>none|some x12=>match LN (([(F7 0 (AN (AM x9)) y4),([y10]:List (Int)),y7,([y11]:List (Int)),(F7 1 (AN (AM x12)) y4)]:List U5),())with|none=>none|some (y13,_)=>match APY ((a0.1,(a0.2.1,())),([y1,y2]:List (Int)),([y13]:List U5),())with|none=>none|some (y14,y15,_)=>some (y14,y15,0,())
def AAY[Lk]:=fun v=>Lk.f (Qm v)
theorem AAX v:AAY v=Qm v:=AJ _
abbrev Ft:AE:=[(.tmp 0,.dat U7),(.cap 1 0,.box 2),(.cell 0 0,.di),(.cell 0 1,.dat Uj),(.tmp 1,.clo 125 [(0,0)])]
abbrev Fs:AE:=[(.obj 0,.box 2),(.cell 0 0,.di),(.cell 0 1,.dat Uj),(.tmp 0,.di)]
abbrev Fq:List RS:=[.one]
abbrev Ib:AE:=[(.obj 0,.box 2),(.cell 0 0,.di),(.cell 0 1,.dat Uj),(.tmp 0,.dat U7),(.tmp 1,.clo 125 [(0,0)]),(.tmp 7,.di),(.tmp 8,.di)]
abbrev Ia:Ao:=[(.ret,[(.obj 0,.box 2),(.cell 0 0,.di),(.cell 0 1,.dat Uj),(.tmp 4,.di)]),(.exit 0,[(.obj 0,.box 2),(.cell 0 0,.di),(.cell 0 1,.dat Uj)])]
def Bf[Lk]:(Int×List U5×List Int×Int×Int×Unit)→Option ((Int×List U5×List Int×Int×Int×Unit)⊕(Int×List U5×Int×Unit)⊕(Int×List U5×Unit)⊕Unit):=fun(a0,a1,a2,a3,a4,_)=>
 match(ilt a4 a3)with
 |true=>match idx a2 a4 with|none=>none|some x0=>match(ilt x0 0)with
  |true=>some (.inr (.inl (a0,a1,a4,())))
  |false=>match(ile a0 x0)with
  |true=>some (.inr (.inl (a0,a1,a4,())))
  |false=>some (.inl (a0,a1,a2,a3,(IntKind.wrap .i64 (a4+1)),()))
 |false=>some (.inr (.inr (.inl (a0,a1,()))))
def Dp[Lk]:(List Int×Int×List U5×Unit)→Option ((Int×List U5×Int×Unit)):=fun(a0,a1,a2,_)=>
 match AX Bf many (a1,a2,a0,(AM a0),0,())with|none=>none|some r=>match r with
 |.inl (o0,o1,o2,_)=>some (o0,o1,o2,())
 |.inr r=>match r with
 |.inl (o3,o4,_)=>some (o3,o4,(-1:Int),())
 |.inr _=>none
def E2[Lk]:=fun v=>Lk.f (Dp v)
theorem Ic v:E2 v=Dp v:=AJ _
abbrev FA:AE:=[(.tmp 0,.dat U7),(.cap 1 0,.box 2),(.cell 0 0,.di),(.cell 0 1,.dat Uj),(.tmp 1,.clo 125 [(0,0)])]
abbrev E9:AE:=[(.obj 0,.box 2),(.cell 0 0,.di),(.cell 0 1,.dat Uj),(.tmp 0,.dat .bool)]
abbrev E8:List RS:=[.one]
def DH[Lk]:(List Int×Int×List U5×Unit)→Option ((Int×List U5×Bool×Unit)):=fun(a0,a1,a2,_)=>
 match E2 (a0,a1,a2,())with|none=>none|some (y0,y1,y2,_)=>some (y0,y1,(ile 0 y2),())
def C6[Lk]:=fun v=>Lk.f (DH v)
theorem Hv v:C6 v=DH v:=AJ _
abbrev ADp:AE:=[(.tmp 0,.dat V3),(.tmp 1,.dat U7)]
abbrev ADo:AE:=[(.tmp 0,.di)]
abbrev ADn:List RS:=[.one]
def Rg[Lk]:(V4×List Int×Unit)→Option (Ua):=fun(a0,a1,_)=>
 match TK ((a0.1,(a0.2.1,())),())with|none=>none|some (y0,_)=>match(!y0)with
 |true=>some (1,())
 |false=>match C6 (a1,a0.1,a0.2.1,())with|none=>none|some (y1,y2,y3,_)=>match y3 with
 |true=>some (10,())
 |false=>some (0,())
def VV[Lk]:=fun v=>Lk.f (Rg v)
theorem AI5 v:VV v=Rg v:=AJ _
abbrev AYr:AE:=[(.tmp 0,.dat Ut)]
abbrev AYq:AE:=[(.tmp 0,.own 3 U0)]
abbrev AYp:List RS:=[.one]
abbrev AbY:AE:=[(.tmp 3,.own 3 U0),(.tmp 6,.dat Ut),(.tmp 7,.di),(.tmp 8,.di)]
abbrev AbX:Ao:=[(.exit 0,[(.tmp 3,.own 3 U0)])]
def LF[Lk]:(List Int×List U1×Int×Int×Unit)→Option ((List Int×List U1×Int×Int×Unit)⊕Up⊕Unit):=fun(a0,a1,a2,a3,_)=>
 match(ilt a3 a2)with
 |true=>match idx a1 a3 with|none=>none|some x0=>match(fits ((AM a0)+(AM ([x0.1,x0.2.1]:List (Int)))))with
  |true=>some (.inl ((BX a0 ([x0.1,x0.2.1]:List (Int))),a1,a2,(IntKind.wrap .i64 (a3+1)),()))
  |false=>none
 |false=>some (.inr (.inl (a0,())))
def ANW[Lk]:Ul→Option (Up):=fun(a0,_)=>
 match AX LF many (([]:List (Int)),a0,(AM a0),0,())with|none=>none|some r=>match r with
 |.inl (o0,_)=>some (o0,())
 |.inr _=>none
def ends[Lk]:=fun v=>Lk.f (ANW v)
theorem AbZ v:ends v=ANW v:=AJ _
abbrev QA:AE:=[(.tmp 0,.dat V3),(.tmp 1,.dat Ut),(.tmp 2,.clo 87 [])]
abbrev P9:AE:=[(.tmp 0,.dat V3),(.tmp 1,.own 4 .bool),(.tmp 2,.di)]
abbrev P8:List RS:=[.one,.one,.one]
abbrev YA:AE:=[(.tmp 2,.clo 87 []),(.tmp 3,.box 2),(.cell 0 0,.di),(.cell 0 1,.dat Uj),(.tmp 6,.box 2),(.cell 1 0,.di),(.cell 1 1,.nil U7),(.tmp 10,.own 4 .bool),(.tmp 23,.dat Ut),(.tmp 24,.di),(.tmp 25,.di)]
abbrev X9:Ao:=[(.exit 0,[(.tmp 3,.box 2),(.cell 0 0,.di),(.cell 0 1,.dat Uj),(.tmp 6,.box 2),(.cell 1 0,.di),(.cell 1 1,.nil U7),(.tmp 10,.own 4 .bool)])]
def DY[Lk]:(Int×List U5×Int×List Bool×List U1×Int×Int×Unit)→Option ((Int×List U5×Int×List Bool×List U1×Int×Int×Unit)⊕(Int×List U5×Int×List Bool×Unit)⊕Unit):=fun(a0,a1,a2,a3,a4,a5,a6,_)=>
 match(ilt a6 a5)with
 |true=>match idx a4 a6 with|none=>none|some x0=>match AAY ((a0,(a1,())),x0.1,x0.2.1,())with|none=>none|some (y1,y2,y3,_)=>match(fits ((AM a3)+(AM ([(ieq y3 0)]:List (Bool)))))with
  |true=>some (.inl (y1,y2,a2,(BX a3 ([(ieq y3 0)]:List (Bool))),a4,a5,(IntKind.wrap .i64 (a6+1)),()))
  |false=>none
 |false=>some (.inr (.inl (a0,a1,a2,a3,())))
def LH[Lk]:(V4×List U1×Unit)→Option ((V4×List Bool×Int×Unit)):=fun(a0,a1,_)=>
 match ends (a1,())with|none=>none|some (y0,_)=>match VV ((a0.1,(a0.2.1,())),y0,())with|none=>none|some (y1,_)=>match(!(ieq y1 0))with
 |true=>some ((a0.1,(a0.2.1,())),([]:List (Bool)),y1,())
 |false=>match AX DY many (a0.1,a0.2.1,0,([]:List (Bool)),a1,(AM a1),0,())with|none=>none|some r=>match r with
 |.inl (o2,o3,o4,o5,_)=>some ((o2,(o3,())),o5,0,())
 |.inr _=>none
def Ro[Lk]:=fun v=>Lk.f (LH v)
theorem YB v:Ro v=LH v:=AJ _
abbrev AD2:AE:=[(.tmp 0,.dat V3),(.tmp 1,.dat Ut)]
abbrev AD1:AE:=[(.tmp 0,.dat V3),(.tmp 1,.own 4 .bool),(.tmp 2,.di)]
abbrev AD0:List RS:=[.one,.one,.one]
def Rh[Lk]:(V4×List U1×Unit)→Option ((V4×List Bool×Int×Unit)):=fun(a0,a1,_)=>
 match Ro ((a0.1,(a0.2.1,())),a1,())with|none=>none|some (y0,y1,y2,_)=>some ((y0.1,(y0.2.1,())),y1,y2,())
def ANK[Lk]:=fun v=>Lk.f (Rh v)
theorem AJA v:ANK v=Rh v:=AJ _
abbrev Aj4:AE:=[(.tmp 0,.di),(.tmp 1,.dat Ut)]
abbrev Aj3:AE:=[(.tmp 0,.dat V3),(.tmp 1,.di)]
abbrev Aj2:List RS:=[.one,.one]
def AbV[Lk]:(Int×List U1×Unit)→Option ((V4×Int×Unit)):=fun(a0,a1,_)=>
 match APo (a0,())with|none=>none|some (y0,y1,y2,_)=>match(!(ieq y2 0))with
 |true=>some ((0,(([]:List U5),())),y2,())
 |false=>match ANK ((y0,(y1,())),a1,())with|none=>none|some (y3,y4,y5,_)=>match(!(ieq y5 0))with
 |true=>some ((0,(([]:List U5),())),y5,())
 |false=>some ((y3.1,(y3.2.1,())),0,())
def fof[Lk]:=fun v=>Lk.f (AbV v)
theorem Aj5 v:fof v=AbV v:=AJ _
abbrev Aix:AE:=[(.tmp 0,.dat U7)]
abbrev Aiv:AE:=[(.tmp 0,.di)]
abbrev Ait:List RS:=[.one]
abbrev Aiw:AE:=[(.tmp 3,.di),(.tmp 6,.dat U7),(.tmp 7,.di),(.tmp 8,.di)]
abbrev Aiu:Ao:=[(.ret,[(.tmp 2,.di)]),(.exit 0,[(.tmp 3,.di)])]
def Fc[Lk]:(Int×List Int×Int×Int×Unit)→Option ((Int×List Int×Int×Int×Unit)⊕Ua⊕Ua⊕Unit):=fun(a0,a1,a2,a3,_)=>
 match(ilt a3 a2)with
 |true=>match idx a1 a3 with|none=>none|some x0=>match(!(ieq x0 a0))with
  |true=>some (.inr (.inl (x0,())))
  |false=>some (.inl (a0,a1,a2,(IntKind.wrap .i64 (a3+1)),()))
 |false=>some (.inr (.inr (.inl (a0,()))))
def AIi[Lk]:Up→Option (Ua):=fun(a0,_)=>
 match AX Fc many (0,a0,(AM a0),0,())with|none=>none|some r=>match r with
 |.inl (o0,_)=>some (o0,())
 |.inr r=>match r with
 |.inl (o1,_)=>some (o1,())
 |.inr _=>none
def orI[Lk]:=fun v=>Lk.f (AIi v)
theorem AMK v:orI v=AIi v:=AJ _
abbrev ADF:AE:=[(.tmp 0,.di)]
abbrev ADE:AE:=[(.tmp 0,.dat .bool)]
abbrev ADD:List RS:=[.one]
def Ml[Lk]:Ua→Option (Ui):=fun(a0,_)=>
 match(ile 1 a0)with
 |true=>some ((ile a0 64),())
 |false=>some (false,())
def VD[Lk]:=fun v=>Lk.f (Ml v)
theorem VC v:VD v=Ml v:=AJ _
abbrev AXr:AE:=[(.tmp 0,.di)]
abbrev AXq:AE:=[(.tmp 0,.di)]
abbrev AXp:List RS:=[.one]
def AXs[Lk]:Ua→Option (Ua):=fun(a0,_)=>
 match VD (a0,())with|none=>none|some (y0,_)=>match(!y0)with
 |true=>some (0,())
 |false=>match bitsLen ((IntKind.wrap .u64 (IntKind.wrap .i64 (a0-1))),())with|none=>none|some (y1,_)=>some (y1,())
def AMf[Lk]:=fun v=>Lk.f (AXs v)
theorem AmS v:AMf v=AXs v:=AJ _
abbrev Pq:AE:=[(.tmp 0,.dat U3),(.tmp 1,.dat U3)]
abbrev Pp:AE:=[(.tmp 0,.di)]
abbrev Po:List RS:=[.one]
def Kj[Lk]:(U4×U4×Unit)→Option (Ua):=fun(a0,a1,_)=>
 match Db (a0.1,a1.1,())with|none=>none|some (y0,_)=>match Db (a0.2.1,a1.2.1,())with|none=>none|some (y1,_)=>match orI (([y0,y1]:List (Int)),())with|none=>none|some (y2,_)=>some (y2,())
def Jq[Lk]:=fun v=>Lk.f (Kj v)
theorem Xz v:Jq v=Kj v:=AJ _
abbrev ADA:AE:=[(.tmp 0,.dat Uv),(.tmp 1,.di)]
abbrev AC9:AE:=[(.tmp 0,.own 45 U2)]
abbrev AC8:List RS:=[.one]
abbrev AIp:AE:=[(.tmp 1,.di),(.tmp 5,.own 45 U2),(.tmp 9,.dat V8),(.tmp 10,.di),(.tmp 11,.di)]
abbrev AIo:Ao:=[(.exit 0,[(.tmp 5,.own 45 U2)])]
def Ff[Lk]:(Int×List U1×List U4×Int×Int×Unit)→Option ((Int×List U1×List U4×Int×Int×Unit)⊕Ul⊕Unit):=fun(a0,a1,a2,a3,a4,_)=>
 match(ilt a4 a3)with
 |true=>match idx a2 a4 with|none=>none|some x0=>match x0.2.2.2.1 with
  |true=>match(ile a0 x0.2.2.1)with
   |true=>match(fits ((AM a1)+(AM ([(x0.1,(x0.2.1,()))]:List U1))))with
    |true=>some (.inl (a0,(BX a1 ([(x0.1,(x0.2.1,()))]:List U1)),a2,a3,(IntKind.wrap .i64 (a4+1)),()))
    |false=>none
   |false=>some (.inl (a0,a1,a2,a3,(IntKind.wrap .i64 (a4+1)),()))
  |false=>some (.inl (a0,a1,a2,a3,(IntKind.wrap .i64 (a4+1)),()))
 |false=>some (.inr (.inl (a1,())))
def RM[Lk]:(V5×Int×Unit)→Option (Ul):=fun(a0,a1,_)=>
 match AX Ff many (a1,([]:List U1),a0.2.1,(AM a0.2.1),0,())with|none=>none|some r=>match r with
 |.inl (o0,_)=>some (o0,())
 |.inr _=>none
def ADC[Lk]:=fun v=>Lk.f (RM v)
theorem AIq v:ADC v=RM v:=AJ _
abbrev ADI:AE:=[(.tmp 0,.dat Uv)]
abbrev ADH:AE:=[(.tmp 0,.dat .bool)]
abbrev ADG:List RS:=[.one]
abbrev AIs:AE:=[(.tmp 1,.box 2),(.cell 0 0,.di),(.cell 0 1,.dat V8),(.tmp 3,.di),(.tmp 23,.dat V8),(.tmp 24,.di),(.tmp 25,.di)]
abbrev AIr:Ao:=[(.ret,[(.tmp 2,.dat .bool)]),(.exit 0,[(.tmp 1,.box 2),(.cell 0 0,.di),(.cell 0 1,.dat V8)])]
def Dj[Lk]:(Int×List U4×Int×List U4×Int×Int×Unit)→Option ((Int×List U4×Int×List U4×Int×Int×Unit)⊕Ui⊕(Int×List U4×Unit)⊕Unit):=fun(a0,a1,a2,a3,a4,a5,_)=>
 match(ilt a5 a4)with
 |true=>match idx a3 a5 with|none=>none|some x0=>match(ilt x0.1 0)with
  |true=>some (.inr (.inl (false,())))
  |false=>match(ile x0.2.1 x0.1)with
  |true=>some (.inr (.inl (false,())))
  |false=>match(ile a0 x0.2.1)with
  |true=>some (.inr (.inl (false,())))
  |false=>match(ilt x0.2.2.1 0)with
  |true=>some (.inr (.inl (false,())))
  |false=>match(ilt a2 x0.2.2.1)with
  |true=>some (.inr (.inl (false,())))
  |false=>match(ilt 0 a5)with
  |true=>match idx a1 (IntKind.wrap .i64 (a5-1))with|none=>none|some x1=>match Jq ((x1.1,(x1.2.1,(x1.2.2.1,(x1.2.2.2.1,())))),(x0.1,(x0.2.1,(x0.2.2.1,(x0.2.2.2.1,())))),())with|none=>none|some (y2,_)=>match(ile 0 y2)with
   |true=>some (.inr (.inl (false,())))
   |false=>some (.inl (a0,a1,a2,a3,a4,(IntKind.wrap .i64 (a5+1)),()))
  |false=>some (.inl (a0,a1,a2,a3,a4,(IntKind.wrap .i64 (a5+1)),()))
 |false=>some (.inr (.inr (.inl (a0,a1,()))))
def Hg[Lk]:(V5×Unit)→Option (Ui):=fun(a0,_)=>
 match VD (a0.1,())with|none=>none|some (y0,_)=>match(!y0)with
 |true=>some (false,())
 |false=>match(ilt 400 (AM a0.2.1))with
 |true=>some (false,())
 |false=>match AMf (a0.1,())with|none=>none|some (y1,_)=>match AX Dj many (a0.1,a0.2.1,y1,a0.2.1,(AM a0.2.1),0,())with|none=>none|some r=>match r with
 |.inl (o2,_)=>some (o2,())
 |.inr r=>match r with
 |.inl (o3,o4,_)=>match ADC ((o3,(o4,())),0,())with|none=>none|some (y5,_)=>match fof (o3,y5,())with|none=>none|some (y6,y7,_)=>match(ieq y7 0)with
  |true=>some ((ieq (AM y6.2.1) (IntKind.wrap .i64 (o3-(AM y5)))),())
  |false=>some (false,())
 |.inr _=>none
def Fg[Lk]:=fun v=>Lk.f (Hg v)
theorem Jo v:Fg v=Hg v:=AJ _
abbrev ADP:AE:=[(.tmp 0,.dat Uv)]
abbrev ADO:AE:=[(.tmp 0,.own 45 U2)]
abbrev ADN:List RS:=[.one]
abbrev AIu:AE:=[(.tmp 3,.own 45 U2),(.tmp 10,.dat V8),(.tmp 11,.di),(.tmp 12,.di)]
abbrev AIt:Ao:=[(.exit 0,[(.tmp 3,.own 45 U2)])]
def Fh[Lk]:(List U1×List U4×Int×Int×Unit)→Option ((List U1×List U4×Int×Int×Unit)⊕Ul⊕Unit):=fun(a0,a1,a2,a3,_)=>
 match(ilt a3 a2)with
 |true=>match idx a1 a3 with|none=>none|some x0=>match(fits ((AM a0)+(AM ([(x0.1,(x0.2.1,()))]:List U1))))with
  |true=>some (.inl ((BX a0 ([(x0.1,(x0.2.1,()))]:List U1)),a1,a2,(IntKind.wrap .i64 (a3+1)),()))
  |false=>none
 |false=>some (.inr (.inl (a0,())))
def RN[Lk]:(V5×Unit)→Option (Ul):=fun(a0,_)=>
 match Fg ((a0.1,(a0.2.1,())),())with|none=>none|some (y0,_)=>match(!y0)with
 |true=>some (([]:List U1),())
 |false=>match AX Fh many (([]:List U1),a0.2.1,(AM a0.2.1),0,())with|none=>none|some r=>match r with
 |.inl (o1,_)=>some (o1,())
 |.inr _=>none
def VH[Lk]:=fun v=>Lk.f (RN v)
theorem AIv v:VH v=RN v:=AJ _
abbrev NF:AE:=[(.tmp 0,.di),(.tmp 1,.dat Ut)]
abbrev ND:AE:=[(.tmp 0,.own 3 U0)]
abbrev NC:List RS:=[.one]
abbrev R5:AE:=[(.tmp 0,.di),(.tmp 1,.dat Ut),(.tmp 5,.own 3 U0),(.tmp 7,.dat .bool),(.tmp 8,.di)]
abbrev R2:Ao:=[(.exit 4,[(.tmp 0,.di),(.tmp 1,.dat Ut),(.tmp 5,.own 3 U0),(.tmp 7,.dat .bool)])]
def C1[Lk]:(Int×List U1×List Int×Bool×Int×Unit)→Option ((Int×List U1×List Int×Bool×Int×Unit)⊕(Int×List U1×List Int×Bool×Unit)⊕Unit):=fun(a0,a1,a2,a3,a4,_)=>
 match(ilt a4 (AM a1))with
 |true=>match idx a1 a4 with|none=>none|some x0=>match idx a1 a4 with|none=>none|some x1=>match(ilt x0.1 0)with
  |true=>some (.inl (a0,a1,a2,a3,(IntKind.wrap .i64 (a4+1)),()))
  |false=>match(ilt x1.2.1 0)with
  |true=>some (.inl (a0,a1,a2,a3,(IntKind.wrap .i64 (a4+1)),()))
  |false=>match(ile a0 x0.1)with
  |true=>some (.inl (a0,a1,a2,a3,(IntKind.wrap .i64 (a4+1)),()))
  |false=>match(ile a0 x1.2.1)with
  |true=>some (.inl (a0,a1,a2,a3,(IntKind.wrap .i64 (a4+1)),()))
  |false=>match idx a2 x0.1 with|none=>none|some x2=>match idx a2 x1.2.1 with|none=>none|some x3=>match(ieq (AY a2 (AN x0.1) 0) (AY a2 (AN x1.2.1) 0))with
  |true=>some (.inl (a0,a1,a2,a3,(IntKind.wrap .i64 (a4+1)),()))
  |false=>match idx a2 x0.1 with|none=>none|some x4=>match idx a2 x1.2.1 with|none=>none|some x5=>match idx a2 x0.1 with|none=>none|some x6=>match idx (Az a2 (AN x0.1) (B4 (AY a2 (AN x0.1) 0) (AY a2 (AN x1.2.1) 0))) x1.2.1 with|none=>none|some x7=>some (.inl (a0,a1,(Az (Az a2 (AN x0.1) (B4 (AY a2 (AN x0.1) 0) (AY a2 (AN x1.2.1) 0))) (AN x1.2.1) (B4 (AY a2 (AN x0.1) 0) (AY a2 (AN x1.2.1) 0))),true,(IntKind.wrap .i64 (a4+1)),()))
 |false=>some (.inr (.inl (a0,a1,a2,a3,())))
abbrev R6:AE:=[(.tmp 0,.di),(.tmp 1,.dat Ut),(.tmp 5,.own 3 U0),(.tmp 7,.dat .bool)]
abbrev R3:Ao:=[(.exit 2,[(.tmp 5,.own 3 U0)])]
def Dq[Lk]:(Int×List U1×List Int×Bool×Unit)→Option ((Int×List U1×List Int×Bool×Unit)⊕Up⊕Unit):=fun(a0,a1,a2,a3,_)=>
 match a3 with
 |true=>match AX C1 many (a0,a1,a2,false,0,())with|none=>none|some r=>match r with
  |.inl (o0,o1,o2,o3,_)=>some (.inl (o0,o1,o2,o3,()))
  |.inr _=>none
 |false=>some (.inr (.inl (a2,())))
abbrev R7:AE:=[(.tmp 0,.di),(.tmp 1,.dat Ut),(.tmp 5,.own 3 U0),(.tmp 6,.di)]
abbrev R4:Ao:=[(.exit 0,[(.tmp 0,.di),(.tmp 1,.dat Ut),(.tmp 5,.own 3 U0)])]
def C2[Lk]:(Int×List U1×List Int×Int×Unit)→Option ((Int×List U1×List Int×Int×Unit)⊕(Int×List U1×List Int×Unit)⊕Unit):=fun(a0,a1,a2,a3,_)=>
 match(ilt a3 a0)with
 |true=>match(fits ((AM a2)+(AM ([a3]:List (Int)))))with
  |true=>some (.inl (a0,a1,(BX a2 ([a3]:List (Int))),(IntKind.wrap .i64 (a3+1)),()))
  |false=>none
 |false=>some (.inr (.inl (a0,a1,a2,())))
def Io[Lk]:(Int×List U1×Unit)→Option (Up):=fun(a0,a1,_)=>
 match AX C2 many (a0,a1,([]:List (Int)),0,())with|none=>none|some r=>match r with
 |.inl (o0,o1,o2,_)=>match AX Dq many (o0,o1,o2,true,())with|none=>none|some r=>match r with
  |.inl (o3,_)=>some (o3,())
  |.inr _=>none
 |.inr _=>none
def HN[Lk]:=fun v=>Lk.f (Io v)
theorem R8 v:HN v=Io v:=AJ _
abbrev AKc:AE:=[(.tmp 0,.di)]
abbrev AKb:AE:=[(.tmp 0,.di)]
abbrev AKa:List RS:=[.one]
abbrev APj:AE:=[(.tmp 3,.di),(.tmp 4,.di)]
abbrev APi:Ao:=[(.exit 0,[(.tmp 3,.di)])]
def AAW[Lk]:U1→Option (U1⊕Ua⊕Unit):=fun(a0,a1,_)=>
 match(ilt 0 a1)with
 |true=>match quo? .i64 a1 2 with|none=>none|some x0=>some (.inl ((IntKind.wrap .i64 (a0+1)),x0,()))
 |false=>some (.inr (.inl (a0,())))
def AKe[Lk]:Ua→Option (Ua):=fun(a0,_)=>
 match(ilt a0 1)with
 |true=>some (0,())
 |false=>match(ilt 64 a0)with
 |true=>some (0,())
 |false=>match AX AAW many (0,(IntKind.wrap .i64 (a0-1)),())with|none=>none|some r=>match r with
 |.inl (o0,_)=>some (o0,())
 |.inr _=>none
def OY[Lk]:=fun v=>Lk.f (AKe v)
theorem Agm v:OY v=AKe v:=AJ _
abbrev Tw:AE:=[(.tmp 0,.dat Uv)]
abbrev Tv:AE:=[(.tmp 0,.dat .bool)]
abbrev Tu:List RS:=[.one]
abbrev ABd:AE:=[(.tmp 1,.box 2),(.cell 0 0,.di),(.cell 0 1,.dat V8),(.tmp 3,.own 45 U2),(.tmp 6,.own 3 U0),(.tmp 7,.di),(.tmp 8,.di)]
abbrev ABb:Ao:=[(.exit 2,[(.tmp 1,.box 2),(.cell 0 0,.di),(.cell 0 1,.dat V8),(.tmp 3,.own 45 U2),(.tmp 7,.di)])]
def DS[Lk]:(Int×List U4×List U1×List Int×Int×Int×Unit)→Option ((Int×List U4×List U1×List Int×Int×Int×Unit)⊕(Int×List U4×List U1×Int×Unit)⊕Unit):=fun(a0,a1,a2,a3,a4,a5,_)=>
 match(ilt a5 a0)with
 |true=>match idx a3 a5 with|none=>none|some x0=>match(ieq (AY a3 (AN a5) 0) a5)with
  |true=>some (.inl (a0,a1,a2,a3,(IntKind.wrap .i64 (a4+1)),(IntKind.wrap .i64 (a5+1)),()))
  |false=>some (.inl (a0,a1,a2,a3,a4,(IntKind.wrap .i64 (a5+1)),()))
 |false=>some (.inr (.inl (a0,a1,a2,a4,())))
abbrev ABe:AE:=[(.tmp 1,.box 2),(.cell 0 0,.di),(.cell 0 1,.dat V8),(.tmp 3,.own 45 U2),(.tmp 4,.di)]
abbrev ABc:Ao:=[(.ret,[(.tmp 2,.dat .bool)]),(.exit 0,[(.tmp 1,.box 2),(.cell 0 0,.di),(.cell 0 1,.dat V8),(.tmp 3,.own 45 U2)])]
def Cv[Lk]:(Int×List U4×List U1×Int×Unit)→Option ((Int×List U4×List U1×Int×Unit)⊕Ui⊕(Int×List U4×List U1×Unit)⊕Unit):=fun(a0,a1,a2,a3,_)=>
 match(ilt a3 (AM a1))with
 |true=>match idx a1 a3 with|none=>none|some x0=>match(ilt x0.1 0)with
  |true=>some (.inr (.inl (false,())))
  |false=>match(ile x0.2.1 x0.1)with
  |true=>some (.inr (.inl (false,())))
  |false=>match(ile a0 x0.2.1)with
  |true=>some (.inr (.inl (false,())))
  |false=>match(ilt x0.2.2.1 0)with
  |true=>some (.inr (.inl (false,())))
  |false=>match OY (a0,())with|none=>none|some (y1,_)=>match(ilt y1 x0.2.2.1)with
  |true=>some (.inr (.inl (false,())))
  |false=>match(ilt 0 a3)with
  |true=>match idx a1 (IntKind.wrap .i64 (a3-1))with|none=>none|some x2=>match(ilt x0.1 x2.1)with
   |true=>some (.inr (.inl (false,())))
   |false=>match idx a1 (IntKind.wrap .i64 (a3-1))with|none=>none|some x3=>match(ieq x3.1 x0.1)with
   |true=>match idx a1 (IntKind.wrap .i64 (a3-1))with|none=>none|some x4=>match(ile x0.2.1 x4.2.1)with
    |true=>some (.inr (.inl (false,())))
    |false=>match x0.2.2.2.1 with
    |true=>match(fits ((AM a2)+(AM ([(x0.1,(x0.2.1,()))]:List U1))))with
     |true=>some (.inl (a0,a1,(BX a2 ([(x0.1,(x0.2.1,()))]:List U1)),(IntKind.wrap .i64 (a3+1)),()))
     |false=>none
    |false=>some (.inl (a0,a1,a2,(IntKind.wrap .i64 (a3+1)),()))
   |false=>match x0.2.2.2.1 with
   |true=>match(fits ((AM a2)+(AM ([(x0.1,(x0.2.1,()))]:List U1))))with
    |true=>some (.inl (a0,a1,(BX a2 ([(x0.1,(x0.2.1,()))]:List U1)),(IntKind.wrap .i64 (a3+1)),()))
    |false=>none
   |false=>some (.inl (a0,a1,a2,(IntKind.wrap .i64 (a3+1)),()))
  |false=>match x0.2.2.2.1 with
  |true=>match(fits ((AM a2)+(AM ([(x0.1,(x0.2.1,()))]:List U1))))with
   |true=>some (.inl (a0,a1,(BX a2 ([(x0.1,(x0.2.1,()))]:List U1)),(IntKind.wrap .i64 (a3+1)),()))
   |false=>none
  |false=>some (.inl (a0,a1,a2,(IntKind.wrap .i64 (a3+1)),()))
 |false=>some (.inr (.inr (.inl (a0,a1,a2,()))))
def Ec[Lk]:(V5×Unit)→Option (Ui):=fun(a0,_)=>
 match(ilt a0.1 1)with
 |true=>some (false,())
 |false=>match(ilt 64 a0.1)with
 |true=>some (false,())
 |false=>match(ilt 400 (AM a0.2.1))with
 |true=>some (false,())
 |false=>match AX Cv many (a0.1,a0.2.1,([]:List U1),0,())with|none=>none|some r=>match r with
 |.inl (o0,_)=>some (o0,())
 |.inr r=>match r with
 |.inl (o1,o2,o3,_)=>match HN (o1,o3,())with|none=>none|some (y4,_)=>match AX DS many (o1,o2,o3,y4,0,0,())with|none=>none|some r=>match r with
  |.inl (o5,o6,o7,o8,_)=>some ((ieq o8 (IntKind.wrap .i64 (o5-(AM o7)))),())
  |.inr _=>none
 |.inr _=>none
def G5[Lk]:=fun v=>Lk.f (Ec v)
theorem FW v:G5 v=Ec v:=AJ _
abbrev AA9:AE:=[(.tmp 0,.dat Ut),(.tmp 1,.dat Ut)]
abbrev AA8:AE:=[(.tmp 0,.dat .bool)]
abbrev AA7:List RS:=[.one]
abbrev AID:AE:=[(.tmp 0,.dat Ut),(.tmp 1,.dat Ut),(.tmp 5,.di)]
abbrev AIC:Ao:=[(.ret,[(.tmp 4,.dat .bool)]),(.exit 0,[])]
def FU[Lk]:(List U1×List U1×Int×Unit)→Option ((List U1×List U1×Int×Unit)⊕Ui⊕(Unit)⊕Unit):=fun(a0,a1,a2,_)=>
 match(ilt a2 (AM a0))with
 |true=>match idx a0 a2 with|none=>none|some x0=>match idx a1 a2 with|none=>none|some x1=>match(!(ieq x0.1 x1.1&&(ieq x0.2.1 x1.2.1&&true)))with
  |true=>some (.inr (.inl (false,())))
  |false=>some (.inl (a0,a1,(IntKind.wrap .i64 (a2+1)),()))
 |false=>some (.inr (.inr (.inl ())))
def Qy[Lk]:(List U1×List U1×Unit)→Option (Ui):=fun(a0,a1,_)=>
 match(!(ieq (AM a0) (AM a1)))with
 |true=>some (false,())
 |false=>match AX FU many (a0,a1,0,())with|none=>none|some r=>match r with
 |.inl (o0,_)=>some (o0,())
 |.inr r=>match r with
 |.inl _=>some (true,())
 |.inr _=>none
def ABB[Lk]:=fun v=>Lk.f (Qy v)
theorem AIE v:ABB v=Qy v:=AJ _
abbrev Kz:AE:=[(.tmp 0,.own 45 U2),(.cap 1 0,.box 1),(.cell 1 0,.map U2 U0),(.tmp 1,.clo 62 [(1,0)])]
abbrev Ky:AE:=[(.obj 0,.own 45 U2),(.obj 1,.box 1),(.cell 1 0,.map U2 U0),(.obj 2,.map' 2),(.tmp 0,.di)]
abbrev Kx:List RS:=[.one]
abbrev Oq:AE:=[(.obj 0,.own 45 U2),(.obj 1,.box 1),(.cell 1 0,.map U2 U0),(.obj 2,.map' 2),(.tmp 0,.own' 0),(.tmp 1,.clo 62 [(1,0)]),(.tmp 7,.di),(.tmp 8,.di)]
abbrev Oo:Ao:=[(.ret,[(.obj 0,.own 45 U2),(.obj 1,.box 1),(.cell 1 0,.map U2 U0),(.obj 2,.map' 2),(.tmp 4,.di)]),(.exit 0,[(.obj 0,.own 45 U2),(.obj 1,.box 1),(.cell 1 0,.map U2 U0),(.obj 2,.map' 2)])]
def CC[Lk]:Vm→Option (Vm⊕(List U1×List Vb×Int×Unit)⊕(List U1×List Vb×Unit)⊕Unit):=fun(a0,a1,a2,a3,_)=>
 match(ilt a3 a2)with
 |true=>match idx a0 a3 with|none=>none|some x0=>match(ieq ((AS a1 ((AY a0 (AN a3) (0,(0,()))).1,((AY a0 (AN a3) (0,(0,()))).2.1,()))).getD 0) 0)with
  |true=>some (.inr (.inl (a0,a1,a3,())))
  |false=>some (.inl (a0,a1,a2,(IntKind.wrap .i64 (a3+1)),()))
 |false=>some (.inr (.inr (.inl (a0,a1,()))))
def G9[Lk]:(List U1×List Vb×Unit)→Option ((List U1×List Vb×Int×Unit)):=fun(a0,a1,_)=>
 match AX CC many (a0,a1,(AM a0),0,())with|none=>none|some r=>match r with
 |.inl (o0,o1,o2,_)=>some (o0,o1,o2,())
 |.inr r=>match r with
 |.inl (o3,o4,_)=>some (o3,o4,(-1:Int),())
 |.inr _=>none
def K1[Lk]:=fun v=>Lk.f (G9 v)
theorem Ot v:K1 v=G9 v:=AJ _
abbrev LK:AE:=[(.tmp 0,.own 45 U2),(.cap 1 0,.box 1),(.cell 1 0,.map U2 U0),(.tmp 1,.clo 62 [(1,0)])]
abbrev LJ:AE:=[(.obj 0,.own 45 U2),(.obj 1,.box 1),(.cell 1 0,.map U2 U0),(.obj 2,.map' 2),(.tmp 0,.win' 0)]
abbrev LI:List RS:=[.one]
abbrev O1:AE:=[(.obj 0,.own 45 U2),(.obj 1,.box 1),(.cell 1 0,.map U2 U0),(.obj 2,.map' 2),(.tmp 0,.own' 0),(.tmp 1,.clo 62 [(1,0)]),(.tmp 5,.di),(.tmp 6,.di)]
abbrev O0:Ao:=[(.exit 0,[(.obj 0,.own 45 U2),(.obj 1,.box 1),(.cell 1 0,.map U2 U0),(.obj 2,.map' 2),(.tmp 0,.own' 0),(.tmp 5,.di)])]
def DB[Lk]:Vm→Option (Vm⊕(List U1×List Vb×Int×Unit)⊕Unit):=fun(a0,a1,a2,a3,_)=>
 match(ilt a3 (AM a0))with
 |true=>match idx a0 a3 with|none=>none|some x0=>match(!(ieq ((AS a1 ((AY a0 (AN a3) (0,(0,()))).1,((AY a0 (AN a3) (0,(0,()))).2.1,()))).getD 0) 0))with
  |true=>match idx a0 a2 with|none=>none|some x1=>some (.inl ((Az a0 (AN a2) ((AY a0 (AN a3) (0,(0,()))).1,((AY a0 (AN a3) (0,(0,()))).2.1,()))),a1,(IntKind.wrap .i64 (a2+1)),(IntKind.wrap .i64 (a3+1)),()))
  |false=>some (.inl (a0,a1,a2,(IntKind.wrap .i64 (a3+1)),()))
 |false=>some (.inr (.inl (a0,a1,a2,())))
def HC[Lk]:(List U1×List Vb×Unit)→Option ((List U1×List Vb×Int×Unit)):=fun(a0,a1,_)=>
 match K1 (a0,a1,())with|none=>none|some (y0,y1,y2,_)=>match(ieq y2 (-1:Int))with
 |true=>some (y0,y1,(AM y0),())
 |false=>match AX DB many (y0,y1,y2,(IntKind.wrap .i64 (y2+1)),())with|none=>none|some r=>match r with
 |.inl (o3,o4,o5,_)=>match EF o3 o5 (AM o3)with|none=>none|some x6=>match EF (Br (AN o5) (AN (AM x6)) (0,(0,())) o3) 0 o5 with|none=>none|some x7=>some ((Br (AN o5) (AN (AM x6)) (0,(0,())) o3),o4,(((AN (AM x7)):Nat):Int),())
 |.inr _=>none
def Hu[Lk]:=fun v=>Lk.f (HC v)
theorem O2 v:Hu v=HC v:=AJ _
abbrev ALv:AE:=[(.tmp 0,.dat Uv),(.tmp 1,.dat Ut)]
abbrev ALu:AE:=[(.tmp 0,.own 45 U2),(.tmp 1,.di)]
abbrev ALt:List RS:=[.one,.one]
abbrev AQ7:AE:=[(.tmp 2,.box 2),(.cell 0 0,.di),(.cell 0 1,.dat V8),(.tmp 6,.box 1),(.cell 1 0,.map U2 U0),(.tmp 13,.dat Ut),(.tmp 14,.di),(.tmp 15,.di)]
abbrev AQ6:Ao:=[(.ret,[(.tmp 4,.nil U2),(.tmp 5,.di)]),(.exit 0,[(.tmp 2,.box 2),(.cell 0 0,.di),(.cell 0 1,.dat V8),(.tmp 6,.box 1),(.cell 1 0,.map U2 U0)])]
def D1[Lk]:(Int×List U4×List Vb×List U1×Int×Int×Unit)→Option ((Int×List U4×List Vb×List U1×Int×Int×Unit)⊕Ua⊕(Int×List U4×List Vb×Unit)⊕Unit):=fun(a0,a1,a2,a3,a4,a5,_)=>
 match(ilt a5 a4)with
 |true=>match idx a3 a5 with|none=>none|some x0=>match(ilt (B4 x0.1 x0.2.1) 0)with
  |true=>some (.inr (.inl (10,())))
  |false=>match(ile a0 (imax x0.1 x0.2.1))with
  |true=>some (.inr (.inl (10,())))
  |false=>match(ile 0 (Yp a2 ((B4 x0.1 x0.2.1),((imax x0.1 x0.2.1),())))&&ilt (Yp a2 ((B4 x0.1 x0.2.1),((imax x0.1 x0.2.1),()))) (AM (Ae a2 ((B4 x0.1 x0.2.1),((imax x0.1 x0.2.1),())) ((AS a2 ((B4 x0.1 x0.2.1),((imax x0.1 x0.2.1),()))).getD 0))))with
  |true=>some (.inl (a0,a1,(Adx (Ae a2 ((B4 x0.1 x0.2.1),((imax x0.1 x0.2.1),())) ((AS a2 ((B4 x0.1 x0.2.1),((imax x0.1 x0.2.1),()))).getD 0)) (Yp a2 ((B4 x0.1 x0.2.1),((imax x0.1 x0.2.1),()))) (IntKind.wrap .i64 (((AS a2 ((B4 x0.1 x0.2.1),((imax x0.1 x0.2.1),()))).getD 0)+1))),a3,a4,(IntKind.wrap .i64 (a5+1)),()))
  |false=>none
 |false=>some (.inr (.inr (.inl (a0,a1,a2,()))))
def ZV[Lk]:(V5×List U1×Unit)→Option ((List U1×Int×Unit)):=fun(a0,a1,_)=>
 match Fg ((a0.1,(a0.2.1,())),())with|none=>none|some (y0,_)=>match(!y0)with
 |true=>some (([]:List U1),1,())
 |false=>match AX D1 many (a0.1,a0.2.1,([]:List Vb),a1,(AM a1),0,())with|none=>none|some r=>match r with
 |.inl (o1,_)=>some (([]:List U1),o1,())
 |.inr r=>match r with
 |.inl (o2,o3,o4,_)=>match VH ((o2,(o3,())),())with|none=>none|some (y5,_)=>match Hu (y5,o4,())with|none=>none|some (y6,y7,y8,_)=>some ((Bu (AN y8) y6),0,())
 |.inr _=>none
def AQ9[Lk]:=fun v=>Lk.f (ZV v)
theorem AQ8 v:AQ9 v=ZV v:=AJ _
abbrev P2:AE:=[(.tmp 0,.dat U2),(.tmp 1,.dat U2)]
abbrev P1:AE:=[(.tmp 0,.di)]
abbrev Pz:List RS:=[.one]
def K9[Lk]:(U1×U1×Unit)→Option (Ua):=fun(a0,a1,_)=>
 match Db (a0.1,a1.1,())with|none=>none|some (y0,_)=>match Db (a0.2.1,a1.2.1,())with|none=>none|some (y1,_)=>match orI (([y0,y1]:List (Int)),())with|none=>none|some (y2,_)=>some (y2,())
def Ak[Lk]:=fun v=>Lk.f (K9 v)
theorem X4 v:Ak v=K9 v:=AJ _
abbrev AYE:AE:=[(.tmp 0,.own 45 U2),(.tmp 1,.di),(.tmp 2,.di),(.tmp 3,.clo 64 [])]
abbrev AYD:AE:=[(.obj 0,.own 45 U2)]
abbrev AYC:List RS:=[]
abbrev AbG:AE:=[(.obj 0,.own 45 U2),(.tmp 0,.own' 0),(.tmp 1,.di),(.tmp 2,.di),(.tmp 3,.clo 64 []),(.tmp 8,.di),(.tmp 9,.di)]
abbrev AbE:Ao:=[(.exit 2,[(.obj 0,.own 45 U2),(.tmp 0,.own' 0),(.tmp 1,.di),(.tmp 2,.di),(.tmp 3,.clo 64 []),(.tmp 8,.di)])]
def AbC[Lk]:Un→Option (Un⊕U9⊕Unit):=Nz ((0,(0,())):U1) Ak
abbrev AbH:AE:=[(.obj 0,.own 45 U2),(.tmp 0,.own' 0),(.tmp 1,.di),(.tmp 2,.di),(.tmp 3,.clo 64 []),(.tmp 8,.di)]
abbrev AbF:Ao:=[(.exit 0,[(.obj 0,.own 45 U2)])]
def AbD[Lk]:U9→Option (U9⊕Ul⊕Unit):=N0 ((0,(0,())):U1) Ak
def AjT[Lk]:Ud→Option (Ul):=ADW ((0,(0,())):U1) Ak
def AoY[Lk](v:Ud):Option (Ul):=AjR ((0,(0,())):U1) Ak v
theorem Amk v:AoY v=AjT v:=AJ _
abbrev ALK:AE:=[(.tmp 0,.own 45 U2),(.tmp 1,.di),(.tmp 2,.di),(.tmp 3,.di),(.tmp 4,.clo 64 [])]
abbrev ALJ:AE:=[(.obj 0,.own 45 U2)]
abbrev ALI:List RS:=[]
abbrev AQG:AE:=[(.obj 0,.own 45 U2),(.tmp 0,.own' 0),(.tmp 2,.di),(.tmp 3,.di),(.tmp 4,.clo 64 []),(.tmp 10,.di)]
abbrev AQF:Ao:=[(.exit 0,[(.obj 0,.own 45 U2)]),(.ret,[(.obj 0,.own 45 U2)])]
def AQE[Lk]:U9→Option (U9⊕Ul⊕Ul⊕Unit):=Ja ((0,(0,())):U1) Ak
def AaY[Lk]:U9→Option (Ul):=Qu ((0,(0,())):U1) Ak
def AhN[Lk](v:U9):Option (Ul):=AH8 ((0,(0,())):U1) Ak v
theorem AhM v:AhN v=AaY v:=AJ _
abbrev AM5:AE:=[(.tmp 0,.own 45 U2),(.tmp 1,.di),(.tmp 2,.di),(.tmp 3,.clo 64 [])]
abbrev AM4:AE:=[(.obj 0,.own 45 U2)]
abbrev AM3:List RS:=[]
abbrev ASv:AE:=[(.obj 0,.own 45 U2),(.tmp 0,.own' 0),(.tmp 3,.clo 64 []),(.tmp 8,.di),(.tmp 9,.di),(.tmp 12,.di)]
abbrev ASt:Ao:=[(.exit 2,[(.obj 0,.own 45 U2)])]
def ASq[Lk]:U9→Option (U9⊕Ul⊕Unit):=Jt ((0,(0,())):U1) Ak
abbrev ASw:AE:=[(.obj 0,.own 45 U2),(.tmp 0,.own' 0),(.tmp 3,.clo 64 []),(.tmp 8,.di),(.tmp 9,.di),(.tmp 10,.di),(.tmp 11,.di)]
abbrev ASu:Ao:=[(.exit 0,[(.obj 0,.own 45 U2),(.tmp 0,.own' 0),(.tmp 3,.clo 64 []),(.tmp 8,.di),(.tmp 9,.di),(.tmp 10,.di)])]
def ASs[Lk]:Un→Option (Un⊕U9⊕Unit):=Ju ((0,(0,())):U1) Ak
def AbK[Lk]:Ud→Option (Ul):=Rc ((0,(0,())):U1) Ak
def Ajl[Lk](v:Ud):Option (Ul):=ASo ((0,(0,())):U1) Ak v
theorem Ajk v:Ajl v=AbK v:=AJ _
abbrev AFU:AE:=[(.tmp 0,.own 45 U2),(.tmp 1,.di),(.tmp 2,.di),(.tmp 3,.clo 64 [])]
abbrev AFT:AE:=[(.obj 0,.own 45 U2)]
abbrev AFS:List RS:=[]
abbrev AJm:AE:=[(.obj 0,.own 45 U2),(.tmp 0,.own' 0),(.tmp 1,.di),(.tmp 8,.di),(.tmp 9,.box 1),(.cell 1 0,.dat (.int .u64)),(.tmp 10,.dat (.int .u64)),(.tmp 11,.di)]
abbrev AJl:Ao:=[(.exit 0,[(.obj 0,.own 45 U2)])]
def AJk[Lk]:V2→Option (V2⊕Ul⊕Unit):=GA ((0,(0,())):U1) Ak
def AUO[Lk]:Ud→Option (Ul):=NG ((0,(0,())):U1) Ak
def AZu[Lk](v:Ud):Option (Ul):=AFR ((0,(0,())):U1) Ak v
theorem Af9 v:AZu v=AUO v:=AJ _
abbrev UJ:AE:=[(.tmp 0,.own 45 U2),(.tmp 1,.di),(.tmp 2,.di),(.tmp 3,.box 1),(.cell 1 0,.di),(.tmp 4,.clo 64 [])]
abbrev UI:AE:=[(.obj 0,.own 45 U2),(.obj 1,.box 1),(.cell 1 0,.di),(.tmp 0,.di),(.tmp 1,.di)]
abbrev UH:List RS:=[.one,.one]
def AIg[Lk]:U9→Option (U9):=Ji ((0,(0,())):U1) Ak
def AMJ[Lk](v:U9):Option (U9):=KY ((0,(0,())):U1) Ak v
theorem AXL v:AMJ v=AIg v:=AJ _
abbrev UU:AE:=[(.tmp 0,.own 45 U2),(.tmp 1,.di),(.tmp 2,.di),(.tmp 3,.di),(.tmp 4,.box 1),(.cell 1 0,.di),(.tmp 5,.clo 64 [])]
abbrev UT:AE:=[(.obj 0,.own 45 U2),(.obj 1,.box 1),(.cell 1 0,.di),(.tmp 0,.di)]
abbrev US:List RS:=[.one]
def AIk[Lk]:Un→Option (Ud):=Jm ((0,(0,())):U1) Ak
def AMY[Lk](v:Un):Option (Ud):=Kg ((0,(0,())):U1) Ak v
theorem AXi v:AMY v=AIk v:=AJ _
abbrev VB:AE:=[(.tmp 0,.own 45 U2),(.tmp 1,.di),(.tmp 2,.box 1),(.cell 1 0,.di),(.tmp 3,.clo 64 [])]
abbrev VA:AE:=[(.obj 0,.own 45 U2),(.obj 1,.box 1),(.cell 1 0,.di),(.tmp 0,.di)]
abbrev UZ:List RS:=[.one]
def AIm[Lk]:Ud→Option (Ud):=Jn ((0,(0,())):U1) Ak
def AMc[Lk](v:Ud):Option (Ud):=Kh ((0,(0,())):U1) Ak v
theorem AXl v:AMc v=AIm v:=AJ _
abbrev ACE:AE:=[(.tmp 0,.own 45 U2),(.tmp 1,.di),(.tmp 2,.di),(.tmp 3,.clo 64 [])]
abbrev ACD:AE:=[(.obj 0,.own 45 U2),(.tmp 0,.di),(.tmp 1,.di)]
abbrev ACC:List RS:=[.one,.one]
def AQ3[Lk]:Ud→Option (Ud):=MY ((0,(0,())):U1) Ak
def AWo[Lk](v:Ud):Option (Ud):=ACB ((0,(0,())):U1) Ak v
theorem AdT v:AWo v=AQ3 v:=AJ _
abbrev AWL:AE:=[(.tmp 0,.own 45 U2),(.tmp 1,.di),(.tmp 2,.di),(.tmp 3,.clo 64 [])]
abbrev AWK:AE:=[(.obj 0,.own 45 U2)]
abbrev AWJ:List RS:=[]
abbrev Aaf:AE:=[(.obj 0,.own 45 U2),(.tmp 0,.own' 0),(.tmp 8,.di),(.tmp 9,.di)]
abbrev Aae:Ao:=[(.exit 0,[(.obj 0,.own 45 U2)])]
def Aad[Lk]:Ud→Option (Ud⊕Ul⊕Unit):=Q6 ((0,(0,())):U1) Ak
def Ahm[Lk]:Ud→Option (Ul):=ABg ((0,(0,())):U1) Ak
def An8[Lk](v:Ud):Option (Ul):=Ahk ((0,(0,())):U1) Ak v
theorem Al0 v:An8 v=Ahm v:=AJ _
abbrev Pj:AE:=[(.tmp 0,.own 45 U2),(.tmp 1,.di),(.tmp 2,.di),(.tmp 3,.clo 64 [])]
abbrev Ph:AE:=[(.obj 0,.own 45 U2),(.tmp 0,.dat .bool)]
abbrev Pg:List RS:=[.one]
abbrev Xt:AE:=[(.obj 0,.own 45 U2),(.tmp 0,.own' 0),(.tmp 1,.di),(.tmp 2,.di),(.tmp 3,.clo 64 []),(.tmp 9,.di),(.tmp 10,.di),(.tmp 12,.di)]
abbrev Xp:Ao:=[(.exit 6,[(.obj 0,.own 45 U2),(.tmp 0,.own' 0),(.tmp 1,.di),(.tmp 2,.di),(.tmp 3,.clo 64 []),(.tmp 9,.di),(.tmp 10,.di)])]
def Xl[Lk]:V2→Option (V2⊕Un⊕Unit):=Ee ((0,(0,())):U1) Ak
abbrev Xu:AE:=[(.obj 0,.own 45 U2),(.tmp 0,.own' 0),(.tmp 1,.di),(.tmp 2,.di),(.tmp 3,.clo 64 []),(.tmp 9,.di),(.tmp 10,.di),(.tmp 11,.di)]
abbrev Xq:Ao:=[(.exit 4,[(.obj 0,.own 45 U2),(.tmp 0,.own' 0),(.tmp 1,.di),(.tmp 2,.di),(.tmp 3,.clo 64 []),(.tmp 9,.di),(.tmp 10,.di)])]
def Xm[Lk]:V2→Option (V2⊕Un⊕Unit):=Ef ((0,(0,())):U1) Ak
abbrev Xv:AE:=[(.obj 0,.own 45 U2),(.tmp 0,.own' 0),(.tmp 1,.di),(.tmp 2,.di),(.tmp 3,.clo 64 []),(.tmp 9,.di),(.tmp 10,.di)]
abbrev Xr:Ao:=[(.exit 2,[(.obj 0,.own 45 U2),(.tmp 0,.own' 0),(.tmp 1,.di),(.tmp 2,.di),(.tmp 3,.clo 64 []),(.tmp 9,.di),(.tmp 10,.di)])]
def Xn[Lk]:Un→Option (Un⊕Un⊕Unit):=Gb ((0,(0,())):U1) Ak
abbrev Xw:AE:=[(.obj 0,.own 45 U2),(.tmp 0,.own' 0),(.tmp 1,.di),(.tmp 2,.di),(.tmp 3,.clo 64 []),(.tmp 9,.di),(.tmp 10,.di)]
abbrev Xs:Ao:=[(.ret,[(.obj 0,.own 45 U2),(.tmp 8,.dat .bool)]),(.exit 0,[(.obj 0,.own 45 U2)])]
def Xo[Lk]:Un→Option (Un⊕(List U1×Bool×Unit)⊕Ul⊕Unit):=CU ((0,(0,())):U1) Ak
def ACZ[Lk]:Ud→Option ((List U1×Bool×Unit)):=Hc ((0,(0,())):U1) Ak
def ACa[Lk](v:Ud):Option ((List U1×Bool×Unit)):=MZ ((0,(0,())):U1) Ak v
theorem ARp v:ACa v=ACZ v:=AJ _
abbrev UC:AE:=[(.tmp 0,.own 45 U2),(.tmp 1,.di),(.tmp 2,.di),(.tmp 3,.di),(.tmp 4,.clo 64 [])]
abbrev UB:AE:=[(.obj 0,.own 45 U2),(.tmp 0,.di)]
abbrev UA:List RS:=[.one]
abbrev ACr:AE:=[(.obj 0,.own 45 U2),(.tmp 0,.own' 0),(.tmp 1,.di),(.tmp 4,.clo 64 []),(.tmp 11,.di),(.tmp 12,.di)]
abbrev ACo:Ao:=[(.exit 4,[(.obj 0,.own 45 U2),(.tmp 0,.own' 0),(.tmp 1,.di),(.tmp 4,.clo 64 []),(.tmp 11,.di),(.tmp 12,.di)])]
def ACl[Lk]:U9→Option (U9⊕U9⊕Unit):=Hd ((0,(0,())):U1) Ak
abbrev ACs:AE:=[(.obj 0,.own 45 U2),(.tmp 0,.own' 0),(.tmp 1,.di),(.tmp 4,.clo 64 []),(.tmp 11,.di),(.tmp 12,.di)]
abbrev ACp:Ao:=[(.exit 2,[(.obj 0,.own 45 U2),(.tmp 0,.own' 0),(.tmp 1,.di),(.tmp 4,.clo 64 []),(.tmp 11,.di),(.tmp 12,.di)])]
def ACm[Lk]:U9→Option (U9⊕U9⊕Unit):=He ((0,(0,())):U1) Ak
abbrev ACt:AE:=[(.obj 0,.own 45 U2),(.tmp 0,.own' 0),(.tmp 1,.di),(.tmp 4,.clo 64 []),(.tmp 11,.di),(.tmp 12,.di)]
abbrev ACq:Ao:=[(.exit 0,[(.obj 0,.own 45 U2),(.tmp 11,.di)])]
def ACn[Lk]:U9→Option (U9⊕(List U1×Int×Unit)⊕Unit):=Hf ((0,(0,())):U1) Ak
def AIc[Lk]:U9→Option ((List U1×Int×Unit)):=Jh ((0,(0,())):U1) Ak
def AMC[Lk](v:U9):Option ((List U1×Int×Unit)):=RI ((0,(0,())):U1) Ak v
theorem AXH v:AMC v=AIc v:=AJ _
abbrev AMF:AE:=[(.tmp 0,.own 45 U2),(.tmp 1,.di),(.tmp 2,.di),(.tmp 3,.di),(.tmp 4,.clo 64 [])]
abbrev AME:AE:=[(.obj 0,.own 45 U2),(.tmp 0,.di),(.tmp 1,.dat .bool)]
abbrev AMD:List RS:=[.one,.one]
abbrev ASC:AE:=[(.obj 0,.own 45 U2),(.tmp 0,.own' 0),(.tmp 1,.di),(.tmp 4,.clo 64 []),(.tmp 12,.di),(.tmp 13,.di)]
abbrev AR7:Ao:=[(.exit 8,[(.obj 0,.own 45 U2),(.tmp 0,.own' 0),(.tmp 1,.di),(.tmp 4,.clo 64 []),(.tmp 12,.di),(.tmp 13,.di)])]
def ARy[Lk]:U9→Option (U9⊕U9⊕Unit):=Ma ((0,(0,())):U1) Ak
abbrev ASD:AE:=[(.obj 0,.own 45 U2),(.tmp 0,.own' 0),(.tmp 1,.di),(.tmp 4,.clo 64 []),(.tmp 12,.di),(.tmp 13,.di)]
abbrev AR8:Ao:=[(.exit 6,[(.obj 0,.own 45 U2),(.tmp 0,.own' 0),(.tmp 1,.di),(.tmp 4,.clo 64 []),(.tmp 12,.di),(.tmp 13,.di)])]
def AR0[Lk]:U9→Option (U9⊕U9⊕Unit):=Mb ((0,(0,())):U1) Ak
abbrev ASE:AE:=[(.obj 0,.own 45 U2),(.tmp 0,.own' 0),(.tmp 1,.di),(.tmp 4,.clo 64 []),(.tmp 12,.di),(.tmp 13,.di)]
abbrev AR9:Ao:=[(.exit 4,[(.obj 0,.own 45 U2),(.tmp 0,.own' 0),(.tmp 1,.di),(.tmp 13,.di)])]
def AR2[Lk]:U9→Option (U9⊕Ud⊕Unit):=Mc ((0,(0,())):U1) Ak
abbrev ASF:AE:=[(.obj 0,.own 45 U2),(.tmp 0,.own' 0),(.tmp 1,.di),(.tmp 4,.clo 64 []),(.tmp 12,.di),(.tmp 13,.di)]
abbrev ASA:Ao:=[(.exit 2,[(.obj 0,.own 45 U2),(.tmp 0,.own' 0),(.tmp 1,.di),(.tmp 4,.clo 64 []),(.tmp 12,.di),(.tmp 13,.di)])]
def AR4[Lk]:U9→Option (U9⊕U9⊕Unit):=Md ((0,(0,())):U1) Ak
abbrev ASG:AE:=[(.obj 0,.own 45 U2),(.tmp 0,.own' 0),(.tmp 1,.di),(.tmp 4,.clo 64 []),(.tmp 12,.di),(.tmp 13,.di)]
abbrev ASB:Ao:=[(.exit 0,[(.obj 0,.own 45 U2),(.tmp 0,.own' 0),(.tmp 1,.di),(.tmp 4,.clo 64 []),(.tmp 12,.di),(.tmp 13,.di)])]
def AR6[Lk]:U9→Option (U9⊕U9⊕Unit):=Me ((0,(0,())):U1) Ak
def Aas[Lk]:U9→Option ((List U1×Int×Bool×Unit)):=RH ((0,(0,())):U1) Ak
def Aim[Lk](v:U9):Option ((List U1×Int×Bool×Unit)):=ACb ((0,(0,())):U1) Ak v
theorem Ail v:Aim v=Aas v:=AJ _
abbrev ACN:AE:=[(.tmp 0,.own 45 U2),(.tmp 1,.di),(.tmp 2,.di),(.tmp 3,.di),(.tmp 4,.clo 64 [])]
abbrev ACL:AE:=[(.obj 0,.own 45 U2)]
abbrev ACK:List RS:=[]
abbrev Aaq:AE:=[(.obj 0,.own 45 U2),(.tmp 0,.own' 0),(.tmp 1,.di),(.tmp 2,.di),(.tmp 3,.di),(.tmp 4,.clo 64 []),(.tmp 10,.dat .bool),(.tmp 11,.dat .bool)]
abbrev Aap:Ao:=[(.ret,[(.obj 0,.own 45 U2)])]
def Aao[Lk](self:U9→Option (Ul)):(List U1×Int×Int×Int×Bool×Bool×Unit)→Option ((List U1×Int×Int×Int×Bool×Bool×Unit)⊕Ul⊕Unit):=Nu ((0,(0,())):U1) Ak self
def AoL[Lk](self:U9→Option (Ul)):U9→Option (Ul):=ACJ ((0,(0,())):U1) Ak self
def ACO[Lk]:Nat→U9→Option (Ul):=KX ((0,(0,())):U1) Ak
def AmF[Lk](v:U9):Option (Ul):=AiM ((0,(0,())):U1) Ak v
theorem AmE v:AmF v=ACO 100 v:=AJ _
abbrev ALB:AE:=[(.tmp 0,.own 45 U2),(.tmp 1,.clo 64 [])]
abbrev ALA:AE:=[(.obj 0,.own 45 U2)]
abbrev AK9:List RS:=[]
def AaV[Lk]:Ul→Option (Ul):=Qt ((0,(0,())):U1) Ak
def AP6[Lk](v:Ul):Option (Ul):=AaU ((0,(0,())):U1) Ak v
theorem AhD v:AP6 v=AaV v:=AJ _
abbrev AYV:AE:=[(.tmp 0,.dat Uv),(.tmp 1,.dat Ut)]
abbrev AYU:AE:=[(.tmp 0,.own 45 U2),(.tmp 1,.di)]
abbrev AYT:List RS:=[.one,.one]
abbrev AbS:AE:=[(.tmp 2,.box 2),(.cell 0 0,.di),(.cell 0 1,.dat V8),(.tmp 6,.map U2 U0),(.tmp 9,.own 45 U2),(.tmp 26,.dat Ut),(.tmp 27,.di),(.tmp 28,.di)]
abbrev AbQ:Ao:=[(.ret,[(.tmp 4,.nil U2),(.tmp 5,.di)]),(.exit 2,[(.tmp 9,.own 45 U2)])]
def Ig[Lk]:(Int×List U4×List Vb×List U1×List U1×Int×Int×Unit)→Option ((Int×List U4×List Vb×List U1×List U1×Int×Int×Unit)⊕Ua⊕Ul⊕Unit):=fun(a0,a1,a2,a3,a4,a5,a6,_)=>
 match(ilt a6 a5)with
 |true=>match idx a4 a6 with|none=>none|some x0=>match(ilt (B4 x0.1 x0.2.1) 0)with
  |true=>some (.inr (.inl (10,())))
  |false=>match(ile a0 (imax x0.1 x0.2.1))with
  |true=>some (.inr (.inl (10,())))
  |false=>match(ilt (B4 x0.1 x0.2.1) (imax x0.1 x0.2.1))with
  |true=>match(ieq ((AS a2 ((B4 x0.1 x0.2.1),((imax x0.1 x0.2.1),()))).getD 0) 0)with
   |true=>match(fits ((AM a3)+(AM ([((B4 x0.1 x0.2.1),((imax x0.1 x0.2.1),()))]:List U1))))with
    |true=>some (.inl (a0,a1,(Ae a2 ((B4 x0.1 x0.2.1),((imax x0.1 x0.2.1),())) 1),(BX a3 ([((B4 x0.1 x0.2.1),((imax x0.1 x0.2.1),()))]:List U1)),a4,a5,(IntKind.wrap .i64 (a6+1)),()))
    |false=>none
   |false=>some (.inl (a0,a1,a2,a3,a4,a5,(IntKind.wrap .i64 (a6+1)),()))
  |false=>some (.inl (a0,a1,a2,a3,a4,a5,(IntKind.wrap .i64 (a6+1)),()))
 |false=>some (.inr (.inr (.inl (a3,()))))
abbrev AbT:AE:=[(.tmp 1,.dat Ut),(.tmp 2,.box 2),(.cell 0 0,.di),(.cell 0 1,.dat V8),(.tmp 6,.map U2 U0),(.tmp 17,.own 45 U2),(.tmp 18,.di),(.tmp 19,.di)]
abbrev AbR:Ao:=[(.exit 0,[(.tmp 1,.dat Ut),(.tmp 2,.box 2),(.cell 0 0,.di),(.cell 0 1,.dat V8),(.tmp 6,.map U2 U0)])]
def Ih[Lk]:(List U1×Int×List U4×List Vb×List U1×Int×Int×Unit)→Option ((List U1×Int×List U4×List Vb×List U1×Int×Int×Unit)⊕(List U1×Int×List U4×List Vb×Unit)⊕Unit):=fun(a0,a1,a2,a3,a4,a5,a6,_)=>
 match(ilt a6 a5)with
 |true=>match idx a4 a6 with|none=>none|some x0=>some (.inl (a0,a1,a2,(Ae a3 ((AY a4 (AN a6) (0,(0,()))).1,((AY a4 (AN a6) (0,(0,()))).2.1,())) 1),a4,a5,(IntKind.wrap .i64 (a6+1)),()))
 |false=>some (.inr (.inl (a0,a1,a2,a3,())))
def ANE[Lk]:(V5×List U1×Unit)→Option ((List U1×Int×Unit)):=fun(a0,a1,_)=>
 match Fg ((a0.1,(a0.2.1,())),())with|none=>none|some (y0,_)=>match(!y0)with
 |true=>some (([]:List U1),1,())
 |false=>match VH ((a0.1,(a0.2.1,())),())with|none=>none|some (y1,_)=>match AX Ih many (a1,a0.1,a0.2.1,([]:List Vb),y1,(AM y1),0,())with|none=>none|some r=>match r with
 |.inl (o2,o3,o4,o5,_)=>match AX Ig many (o3,o4,o5,([]:List U1),o2,(AM o2),0,())with|none=>none|some r=>match r with
  |.inl (o6,_)=>some (([]:List U1),o6,())
  |.inr r=>match r with
  |.inl (o7,_)=>match AP6 (o7,())with|none=>none|some (y8,_)=>some (y8,0,())
  |.inr _=>none
 |.inr _=>none
def Ajt[Lk]:=fun v=>Lk.f (ANE v)
theorem AbU v:Ajt v=ANE v:=AJ _
abbrev AKN:AE:=[(.tmp 0,.di)]
abbrev AKM:AE:=[(.tmp 0,.dat .bool)]
abbrev AKL:List RS:=[.one]
def ZL[Lk]:Ua→Option (Ui):=fun(a0,_)=>
 some ((ieq a0 (IntKind.wrap .i64 (IntKind.wrap .u16 a0))),())
def XI[Lk]:=fun v=>Lk.f (ZL v)
theorem APO v:XI v=ZL v:=AJ _
abbrev Z6:AE:=[(.tmp 0,.di)]
abbrev Z5:AE:=[(.tmp 0,.dat .bool)]
abbrev Z4:List RS:=[.one]
def Qe[Lk]:Ua→Option (Ui):=fun(a0,_)=>
 match(ile 1 a0)with
 |true=>some ((ile a0 4),())
 |false=>some (false,())
def Z7[Lk]:=fun v=>Lk.f (Qe v)
theorem AHk v:Z7 v=Qe v:=AJ _
abbrev Ku:AE:=[(.tmp 0,.dat Ut),(.tmp 1,.clo 50 [])]
abbrev Kt:AE:=[(.tmp 0,.di)]
abbrev Ks:List RS:=[.one]
abbrev Om:AE:=[(.tmp 0,.dat Ut),(.tmp 1,.clo 50 []),(.tmp 7,.di),(.tmp 8,.di)]
abbrev Ol:Ao:=[(.ret,[(.tmp 4,.di)]),(.exit 0,[])]
def Cg[Lk]:Ud→Option (Ud⊕Ua⊕(Unit)⊕Unit):=fun(a0,a1,a2,_)=>
 match(ilt a2 a1)with
 |true=>match idx a0 a2 with|none=>none|some x0=>match XI (x0.1,())with|none=>none|some (y1,_)=>match(!y1)with
  |true=>some (.inr (.inl (a2,())))
  |false=>match XI (x0.2.1,())with|none=>none|some (y2,_)=>match(!y2)with
  |true=>some (.inr (.inl (a2,())))
  |false=>some (.inl (a0,a1,(IntKind.wrap .i64 (a2+1)),()))
 |false=>some (.inr (.inr (.inl ())))
def G8[Lk]:Ul→Option (Ua):=fun(a0,_)=>
 match AX Cg many (a0,(AM a0),0,())with|none=>none|some r=>match r with
 |.inl (o0,_)=>some (o0,())
 |.inr r=>match r with
 |.inl _=>some ((-1:Int),())
 |.inr _=>none
def Kw[Lk]:=fun v=>Lk.f (G8 v)
theorem On v:Kw v=G8 v:=AJ _
abbrev JJ:AE:=[(.tmp 0,.dat Ut),(.tmp 1,.clo 50 [])]
abbrev JI:AE:=[(.tmp 0,.dat .bool)]
abbrev JH:List RS:=[.one]
def GW[Lk]:Ul→Option (Ui):=fun(a0,_)=>
 match Kw (a0,())with|none=>none|some (y0,_)=>some ((ile 0 y0),())
def Da[Lk]:=fun v=>Lk.f (GW v)
theorem M7 v:Da v=GW v:=AJ _
abbrev K4:AE:=[(.tmp 0,.dat Vg),(.tmp 1,.clo 53 [])]
abbrev K3:AE:=[(.tmp 0,.di)]
abbrev K2:List RS:=[.one]
abbrev Ov:AE:=[(.tmp 0,.dat Vg),(.tmp 1,.clo 53 []),(.tmp 7,.di),(.tmp 8,.di)]
abbrev Ou:Ao:=[(.ret,[(.tmp 4,.di)]),(.exit 0,[])]
def Ch[Lk]:(List Ub×Int×Int×Unit)→Option ((List Ub×Int×Int×Unit)⊕Ua⊕(Unit)⊕Unit):=fun(a0,a1,a2,_)=>
 match(ilt a2 a1)with
 |true=>match idx a0 a2 with|none=>none|some x0=>match Z7 (x0.1,())with|none=>none|some (y1,_)=>match(!y1)with
  |true=>some (.inr (.inl (a2,())))
  |false=>match XI (x0.2.1,())with|none=>none|some (y2,_)=>match(!y2)with
  |true=>some (.inr (.inl (a2,())))
  |false=>match XI (x0.2.2.1,())with|none=>none|some (y3,_)=>match(!y3)with
  |true=>some (.inr (.inl (a2,())))
  |false=>some (.inl (a0,a1,(IntKind.wrap .i64 (a2+1)),()))
 |false=>some (.inr (.inr (.inl ())))
def HA[Lk]:(List Ub×Unit)→Option (Ua):=fun(a0,_)=>
 match AX Ch many (a0,(AM a0),0,())with|none=>none|some r=>match r with
 |.inl (o0,_)=>some (o0,())
 |.inr r=>match r with
 |.inl _=>some ((-1:Int),())
 |.inr _=>none
def K6[Lk]:=fun v=>Lk.f (HA v)
theorem Ow v:K6 v=HA v:=AJ _
abbrev JM:AE:=[(.tmp 0,.dat Vg),(.tmp 1,.clo 53 [])]
abbrev JL:AE:=[(.tmp 0,.dat .bool)]
abbrev JK:List RS:=[.one]
def GX[Lk]:(List Ub×Unit)→Option (Ui):=fun(a0,_)=>
 match K6 (a0,())with|none=>none|some (y0,_)=>some ((ile 0 y0),())
def Gj[Lk]:=fun v=>Lk.f (GX v)
theorem M8 v:Gj v=GX v:=AJ _
abbrev Z2:AE:=[(.tmp 0,.dat Uf)]
abbrev Z1:AE:=[(.tmp 0,.dat .bool)]
abbrev Z0:List RS:=[.one]
def Qd[Lk]:(Us×Unit)→Option (Ui):=fun(a0,_)=>
 match(ieq a0.1 1)with
 |true=>match(ieq (AM a0.2.2.1) 0)with
  |true=>match(ile (AM a0.2.1) 60)with
   |true=>match Da (a0.2.1,())with|none=>none|some (y0,_)=>some ((!y0),())
   |false=>some (false,())
  |false=>some (false,())
 |false=>match(ieq a0.1 2)with
 |true=>match(ieq (AM a0.2.2.1) 0)with
  |true=>match(ile (AM a0.2.1) 60)with
   |true=>match Da (a0.2.1,())with|none=>none|some (y1,_)=>some ((!y1),())
   |false=>some (false,())
  |false=>some (false,())
 |false=>match(ieq a0.1 3)with
 |true=>match(ieq (AM a0.2.1) 0)with
  |true=>match(ile (AM a0.2.2.1) 60)with
   |true=>match Gj (a0.2.2.1,())with|none=>none|some (y2,_)=>some ((!y2),())
   |false=>some (false,())
  |false=>some (false,())
 |false=>some (false,())
def Z3[Lk]:=fun v=>Lk.f (Qd v)
theorem AHj v:Z3 v=Qd v:=AJ _
end
end Go.Pev
end
section
namespace Go.Pev
noncomputable section
attribute [local irreducible] Oy LD OR Oa AjV AjW AjY Q9 AGi Qv Yn LO Aj many IntKind.wrap AM Az AY BX Bu F7 D3 AN Br B4 imax AS Ae
abbrev AEA:AE:=[(.tmp 0,.dat Ut),(.tmp 1,.dat Ut)]
abbrev AD9:AE:=[(.tmp 0,.dat .bool)]
abbrev AD8:List RS:=[.one]
abbrev AJG:AE:=[(.tmp 0,.dat Ut),(.tmp 1,.dat Ut),(.tmp 12,.di),(.tmp 13,.di)]
abbrev AJF:Ao:=[(.ret,[(.tmp 4,.dat .bool)]),(.exit 0,[])]
def VZ[Lk]:(List U1×List U1×Int×Int×Unit)→Option ((List U1×List U1×Int×Int×Unit)⊕Ui⊕(Unit)⊕Unit):=fun(a0,a1,a2,a3,_)=>
 match(ilt a3 a2)with
 |true=>match idx a0 a3 with|none=>none|some x0=>match idx a1 a3 with|none=>none|some x1=>match(!(ieq x0.1 x1.1&&(ieq x0.2.1 x1.2.1&&true)))with
  |true=>some (.inr (.inl (false,())))
  |false=>some (.inl (a0,a1,a2,(IntKind.wrap .i64 (a3+1)),()))
 |false=>some (.inr (.inr (.inl ())))
def AEC[Lk]:(List U1×List U1×Unit)→Option (Ui):=fun(a0,a1,_)=>
 match(!(ieq (AM a0) (AM a1)))with
 |true=>some (false,())
 |false=>match AX VZ many (a0,a1,(AM a0),0,())with|none=>none|some r=>match r with
 |.inl (o0,_)=>some (o0,())
 |.inr r=>match r with
 |.inl _=>some (true,())
 |.inr _=>none
def ANT[Lk]:=fun v=>Lk.f (AEC v)
theorem AfC v:ANT v=AEC v:=AJ _
abbrev AEF:AE:=[(.tmp 0,.dat Vg),(.tmp 1,.dat Vg)]
abbrev AEE:AE:=[(.tmp 0,.dat .bool)]
abbrev AED:List RS:=[.one]
abbrev AJI:AE:=[(.tmp 0,.dat Vg),(.tmp 1,.dat Vg),(.tmp 12,.di),(.tmp 13,.di)]
abbrev AJH:Ao:=[(.ret,[(.tmp 4,.dat .bool)]),(.exit 0,[])]
def Vo[Lk]:(List Ub×List Ub×Int×Int×Unit)→Option ((List Ub×List Ub×Int×Int×Unit)⊕Ui⊕(Unit)⊕Unit):=fun(a0,a1,a2,a3,_)=>
 match(ilt a3 a2)with
 |true=>match idx a0 a3 with|none=>none|some x0=>match idx a1 a3 with|none=>none|some x1=>match(!(ieq x0.1 x1.1&&(ieq x0.2.1 x1.2.1&&(ieq x0.2.2.1 x1.2.2.1&&true))))with
  |true=>some (.inr (.inl (false,())))
  |false=>some (.inl (a0,a1,a2,(IntKind.wrap .i64 (a3+1)),()))
 |false=>some (.inr (.inr (.inl ())))
def AEH[Lk]:(List Ub×List Ub×Unit)→Option (Ui):=fun(a0,a1,_)=>
 match(!(ieq (AM a0) (AM a1)))with
 |true=>some (false,())
 |false=>match AX Vo many (a0,a1,(AM a0),0,())with|none=>none|some r=>match r with
 |.inl (o0,_)=>some (o0,())
 |.inr r=>match r with
 |.inl _=>some (true,())
 |.inr _=>none
def equalA[Lk]:=fun v=>Lk.f (AEH v)
theorem AfF v:equalA v=AEH v:=AJ _
abbrev AKF:AE:=[(.tmp 0,.dat Uf),(.tmp 1,.dat Uf)]
abbrev AKE:AE:=[(.tmp 0,.dat .bool)]
abbrev AKD:List RS:=[.one]
def AKG[Lk]:(Us×Us×Unit)→Option (Ui):=fun(a0,a1,_)=>
 match(ieq a0.1 a1.1)with
 |true=>match ANT (a0.2.1,a1.2.1,())with|none=>none|some (y0,_)=>match y0 with
  |true=>match equalA (a0.2.2.1,a1.2.2.1,())with|none=>none|some (y1,_)=>some (y1,())
  |false=>some (false,())
 |false=>some (false,())
def AaI[Lk]:=fun v=>Lk.f (AKG v)
theorem AgQ v:AaI v=AKG v:=AJ _
abbrev AFb:AE:=[(.tmp 0,.dat Uu)]
abbrev AFa:AE:=[(.tmp 0,.own 3 U0)]
abbrev AFZ:List RS:=[.one]
def SJ[Lk]:(Ub×Unit)→Option (Up):=fun(a0,_)=>
 match(ieq a0.1 1)with
 |true=>some (([a0.2.1,a0.2.2.1]:List (Int)),())
 |false=>match(ieq a0.1 2)with
 |true=>some (([a0.2.1]:List (Int)),())
 |false=>match(ieq a0.1 3)with
 |true=>some (([a0.2.1]:List (Int)),())
 |false=>some (([]:List (Int)),())
def AFc[Lk]:=fun v=>Lk.f (SJ v)
theorem AJs v:AFc v=SJ v:=AJ _
abbrev AOY:AE:=[(.tmp 0,.dat Uf)]
abbrev AOX:AE:=[(.tmp 0,.own 3 U0)]
abbrev AOW:List RS:=[.one]
abbrev AUW:AE:=[(.tmp 3,.own 3 U0),(.tmp 24,.dat Vg),(.tmp 25,.di),(.tmp 26,.di)]
abbrev AUU:Ao:=[(.exit 2,[(.tmp 3,.own 3 U0)])]
def H3[Lk]:(List Int×List Ub×Int×Int×Unit)→Option ((List Int×List Ub×Int×Int×Unit)⊕Up⊕Unit):=fun(a0,a1,a2,a3,_)=>
 match(ilt a3 a2)with
 |true=>match idx a1 a3 with|none=>none|some x0=>match AFc ((x0.1,(x0.2.1,(x0.2.2.1,()))),())with|none=>none|some (y1,_)=>match(fits ((AM a0)+(AM y1)))with
  |true=>some (.inl ((BX a0 y1),a1,a2,(IntKind.wrap .i64 (a3+1)),()))
  |false=>none
 |false=>some (.inr (.inl (a0,())))
abbrev AUX:AE:=[(.tmp 1,.box 3),(.cell 0 0,.di),(.cell 0 1,.dat Ut),(.cell 0 2,.dat Vg),(.tmp 3,.own 3 U0),(.tmp 9,.dat Ut),(.tmp 10,.di),(.tmp 11,.di)]
abbrev AUV:Ao:=[(.exit 0,[(.tmp 1,.box 3),(.cell 0 0,.di),(.cell 0 1,.dat Ut),(.cell 0 2,.dat Vg),(.tmp 3,.own 3 U0)])]
def H4[Lk]:(Int×List U1×List Ub×List Int×List U1×Int×Int×Unit)→Option ((Int×List U1×List Ub×List Int×List U1×Int×Int×Unit)⊕(Int×List U1×List Ub×List Int×Unit)⊕Unit):=fun(a0,a1,a2,a3,a4,a5,a6,_)=>
 match(ilt a6 a5)with
 |true=>match idx a4 a6 with|none=>none|some x0=>match(fits ((AM a3)+(AM ([x0.1,x0.2.1]:List (Int)))))with
  |true=>some (.inl (a0,a1,a2,(BX a3 ([x0.1,x0.2.1]:List (Int))),a4,a5,(IntKind.wrap .i64 (a6+1)),()))
  |false=>none
 |false=>some (.inr (.inl (a0,a1,a2,a3,())))
def Zo[Lk]:(Us×Unit)→Option (Up):=fun(a0,_)=>
 match AX H4 many (a0.1,a0.2.1,a0.2.2.1,([]:List (Int)),a0.2.1,(AM a0.2.1),0,())with|none=>none|some r=>match r with
 |.inl (o0,o1,o2,o3,_)=>match AX H3 many (o3,o2,(AM o2),0,())with|none=>none|some r=>match r with
  |.inl (o4,_)=>some (o4,())
  |.inr _=>none
 |.inr _=>none
def AJn[Lk]:=fun v=>Lk.f (Zo v)
theorem AUY v:AJn v=Zo v:=AJ _
abbrev AOj:AE:=[(.tmp 0,.dat Uv)]
abbrev AOi:AE:=[(.tmp 0,.di)]
abbrev AOh:List RS:=[.one]
def Zq[Lk]:(V5×Unit)→Option (Ua):=fun(a0,_)=>
 match Fg ((a0.1,(a0.2.1,())),())with|none=>none|some (y0,_)=>match(!y0)with
 |true=>some (0,())
 |false=>some ((IntKind.wrap .i64 (400-(AM a0.2.1))),())
def AJr[Lk]:=fun v=>Lk.f (Zq v)
theorem AUa v:AJr v=Zq v:=AJ _
abbrev AOe:AE:=[(.tmp 0,.dat Uf),(.tmp 1,.dat Uf)]
abbrev AOd:AE:=[(.tmp 0,.dat .bool)]
abbrev AOc:List RS:=[.one]
def AOf[Lk]:(Us×Us×Unit)→Option (Ui):=fun(a0,a1,_)=>
 match AaI ((a0.1,(a0.2.1,(a0.2.2.1,()))),(a1.1,(a1.2.1,(a1.2.2.1,()))),())with|none=>none|some (y0,_)=>some (y0,())
def Abj[Lk]:=fun v=>Lk.f (AOf v)
theorem Aky v:Abj v=AOf v:=AJ _
abbrev ANm:AE:=[(.tmp 0,.di)]
abbrev ANl:AE:=[(.tmp 0,.dat .bool)]
abbrev ANk:List RS:=[.one]
def Zi[Lk]:Ua→Option (Ui):=fun(a0,_)=>
 match(ile 0 a0)with
 |true=>some ((ilt a0 65536),())
 |false=>some (false,())
def AJS[Lk]:=fun v=>Lk.f (Zi v)
theorem ATc v:AJS v=Zi v:=AJ _
abbrev AY8:AE:=[(.tmp 0,.dat U2)]
abbrev AY7:AE:=[(.tmp 0,.dat Ug),(.tmp 1,.dat .bool)]
abbrev AY6:List RS:=[.one,.one]
def ANh[Lk]:(U1×Unit)→Option ((Int×Bool×Unit)):=fun(a0,_)=>
 match AJS (a0.1,())with|none=>none|some (y0,_)=>match(!y0)with
 |true=>some (0,false,())
 |false=>match AJS (a0.2.1,())with|none=>none|some (y1,_)=>match(!y1)with
 |true=>some (0,false,())
 |false=>match shl? .u32 (IntKind.wrap .u32 (B4 a0.1 a0.2.1)) 16 with|none=>none|some x2=>some ((IntKind.wrap .u32 ((BitVec.ofInt (IntKind.bits .u32) x2 ||| BitVec.ofInt (IntKind.bits .u32) (IntKind.wrap .u32 (imax a0.1 a0.2.1))).toNat)),true,())
def AkP[Lk]:=fun v=>Lk.f (ANh v)
theorem Abc v:AkP v=ANh v:=AJ _
abbrev ANt:AE:=[(.tmp 0,.dat Ug)]
abbrev ANs:AE:=[(.tmp 0,.dat U2)]
abbrev ANr:List RS:=[.one]
def Zj[Lk]:Ua→Option ((U1×Unit)):=fun(a0,_)=>
 match shr? .u32 a0 16 with|none=>none|some x0=>some (((IntKind.wrap .i64 x0),((IntKind.wrap .i64 (IntKind.wrap .u16 a0)),())),())
def ATh[Lk]:=fun v=>Lk.f (Zj v)
theorem ATg v:ATh v=Zj v:=AJ _
abbrev WE:AE:=[(.tmp 0,.dat V0)]
abbrev WD:AE:=[(.tmp 0,.own 4 .bool)]
abbrev WC:List RS:=[.one]
abbrev AEf:AE:=[(.tmp 0,.dat V0),(.tmp 3,.own 4 .bool),(.tmp 9,.dat V0),(.tmp 10,.di),(.tmp 11,.di)]
abbrev AEe:Ao:=[(.exit 0,[(.tmp 3,.own 4 .bool)])]
def ER[Lk]:(List Int×List Bool×List Int×Int×Int×Unit)→Option ((List Int×List Bool×List Int×Int×Int×Unit)⊕(List Bool×Unit)⊕Unit):=fun(a0,a1,a2,a3,a4,_)=>
 match(ilt a4 a3)with
 |true=>match idx a2 a4 with|none=>none|some x0=>match(ieq a4 0)with
  |true=>match idx a1 a4 with|none=>none|some x1=>some (.inl (a0,(Az a1 (AN a4) true),a2,a3,(IntKind.wrap .i64 (a4+1)),()))
  |false=>match idx a0 (IntKind.wrap .i64 (a4-1))with|none=>none|some x2=>match idx a1 a4 with|none=>none|some x3=>some (.inl (a0,(Az a1 (AN a4) (!(ieq x2 x0))),a2,a3,(IntKind.wrap .i64 (a4+1)),()))
 |false=>some (.inr (.inl (a1,())))
def N9[Lk]:Up→Option ((List Bool×Unit)):=fun(a0,_)=>
 match(CM (AM a0)&&CM (AM a0)&&ile (AM a0) (AM a0)&&true)with
 |true=>match AX ER many (a0,(D3 (AN (AM a0)) false),a0,(AM a0),(0:Int),())with|none=>none|some r=>match r with
  |.inl (o0,_)=>some (o0,())
  |.inr _=>none
 |false=>none
def Rv[Lk]:=fun v=>Lk.f (N9 v)
theorem AEg v:Rv v=N9 v:=AJ _
abbrev Tt:AE:=[(.tmp 0,.di)]
abbrev Ts:AE:=[(.tmp 0,.di)]
abbrev Tq:List RS:=[.one]
def Jb[Lk]:Ua→Option (Ua):=fun(a0,_)=>
 match(ilt a0 1)with
 |true=>some (0,())
 |false=>match(ilt 16 a0)with
 |true=>some (0,())
 |false=>match quo? .i64 (IntKind.wrap .i64 ((IntKind.wrap .i64 (32+a0))-1)) a0 with|none=>none|some x0=>some (x0,())
def KT[Lk]:=fun v=>Lk.f (Jb v)
theorem PV v:KT v=Jb v:=AJ _
abbrev ABJ:AE:=[(.tmp 0,.di),(.tmp 1,.di)]
abbrev ABI:AE:=[(.tmp 0,.dat .bool)]
abbrev ABH:List RS:=[.one]
def Q0[Lk]:U1→Option (Ui):=fun(a0,a1,_)=>
 match(ile 0 a0)with
 |true=>match KT (a1,())with|none=>none|some (y0,_)=>some ((ilt a0 y0),())
 |false=>some (false,())
def ABK[Lk]:=fun v=>Lk.f (Q0 v)
theorem AIJ v:ABK v=Q0 v:=AJ _
abbrev ABk:AE:=[(.tmp 0,.dat Ug),(.tmp 1,.di),(.tmp 2,.di)]
abbrev ABj:AE:=[(.tmp 0,.dat Ug)]
abbrev ABi:List RS:=[.one]
def Q8[Lk]:Ub→Option (Ua):=fun(a0,a1,a2,_)=>
 match ABK (a1,a2,())with|none=>none|some (y0,_)=>match(!y0)with
 |true=>some (0,())
 |false=>match shr? .u32 a0 (IntKind.wrap .u64 (IntKind.wrap .i64 (a1*a2)))with|none=>none|some x1=>match shl? .u32 1 (IntKind.wrap .u64 a2)with|none=>none|some x2=>some ((IntKind.wrap .u32 ((BitVec.ofInt (IntKind.bits .u32) x1 &&& BitVec.ofInt (IntKind.bits .u32) (IntKind.wrap .u32 (x2-1))).toNat)),())
def PX[Lk]:=fun v=>Lk.f (Q8 v)
theorem AIP v:PX v=Q8 v:=AJ _
abbrev ALb:AE:=[(.tmp 0,.dat U7),(.tmp 1,.di)]
abbrev ALa:AE:=[(.tmp 0,.dat .bool)]
abbrev ALZ:List RS:=[.one]
abbrev AQj:AE:=[(.tmp 0,.dat U7),(.tmp 1,.di),(.tmp 5,.map U0 U0),(.tmp 9,.dat U7),(.tmp 10,.di),(.tmp 11,.di)]
abbrev AQi:Ao:=[(.ret,[(.tmp 4,.dat .bool)]),(.exit 0,[(.tmp 0,.dat U7),(.tmp 1,.di)])]
def Hb[Lk]:(List Int×Int×List Uz×List Int×Int×Int×Unit)→Option ((List Int×Int×List Uz×List Int×Int×Int×Unit)⊕Ui⊕Vf⊕Unit):=fun(a0,a1,a2,a3,a4,a5,_)=>
 match(ilt a5 a4)with
 |true=>match idx a3 a5 with|none=>none|some x0=>match(ilt x0 0)with
  |true=>some (.inr (.inl (false,())))
  |false=>match(ile a1 x0)with
  |true=>some (.inr (.inl (false,())))
  |false=>match(ilt 1 ((AS (Ae a2 x0 (IntKind.wrap .i64 (((AS a2 x0).getD 0)+1))) x0).getD 0))with
  |true=>some (.inr (.inl (false,())))
  |false=>some (.inl (a0,a1,(Ae a2 x0 (IntKind.wrap .i64 (((AS a2 x0).getD 0)+1))),a3,a4,(IntKind.wrap .i64 (a5+1)),()))
 |false=>some (.inr (.inr (.inl (a0,a1,()))))
def ZT[Lk]:Vf→Option (Ui):=fun(a0,a1,_)=>
 match AX Hb many (a0,a1,([]:List Uz),a0,(AM a0),0,())with|none=>none|some r=>match r with
 |.inl (o0,_)=>some (o0,())
 |.inr r=>match r with
 |.inl (o1,o2,_)=>some ((ieq (AM o1) o2),())
 |.inr _=>none
def AQl[Lk]:=fun v=>Lk.f (ZT v)
theorem AQk v:AQl v=ZT v:=AJ _
abbrev Ah1:AE:=[(.tmp 0,.dat V0),(.tmp 1,.dat U7),(.tmp 2,.di),(.tmp 3,.di)]
abbrev Ahx:AE:=[(.tmp 0,.own 3 U0)]
abbrev Aht:List RS:=[.one]
abbrev Ahy:AE:=[(.tmp 0,.dat V0),(.tmp 2,.di),(.tmp 3,.di),(.tmp 9,.own 3 U0),(.tmp 13,.own 3 U0),(.tmp 63,.dat U7),(.tmp 64,.di),(.tmp 65,.di)]
abbrev Ahu:Ao:=[(.exit 4,[(.tmp 13,.own 3 U0)])]
def PY[Lk]:(List Int×Int×Int×List Int×List Int×List Int×Int×Int×Unit)→Option ((List Int×Int×Int×List Int×List Int×List Int×Int×Int×Unit)⊕Up⊕Unit):=fun(a0,a1,a2,a3,a4,a5,a6,a7,_)=>
 match(ilt a7 a6)with
 |true=>match idx a5 a7 with|none=>none|some x0=>match idx a0 x0 with|none=>none|some x1=>match PX (x1,a1,a2,())with|none=>none|some (y2,_)=>match idx a3 y2 with|none=>none|some x3=>match idx a4 (AY a3 (AN y2) 0)with|none=>none|some x4=>match idx a3 y2 with|none=>none|some x5=>match idx a3 y2 with|none=>none|some x6=>some (.inl (a0,a1,a2,(Az a3 (AN y2) (IntKind.wrap .i64 ((AY a3 (AN y2) 0)+1))),(Az a4 (AN (AY a3 (AN y2) 0)) x0),a5,a6,(IntKind.wrap .i64 (a7+1)),()))
 |false=>some (.inr (.inl (a4,())))
abbrev Ahz:AE:=[(.tmp 0,.dat V0),(.tmp 1,.dat U7),(.tmp 2,.di),(.tmp 3,.di),(.tmp 9,.own 3 U0),(.tmp 44,.di),(.tmp 45,.di)]
abbrev Ahv:Ao:=[(.exit 2,[(.tmp 0,.dat V0),(.tmp 1,.dat U7),(.tmp 2,.di),(.tmp 3,.di),(.tmp 9,.own 3 U0)])]
def PZ[Lk]:(List Int×List Int×Int×Int×List Int×Int×Int×Unit)→Option ((List Int×List Int×Int×Int×List Int×Int×Int×Unit)⊕(List Int×List Int×Int×Int×List Int×Unit)⊕Unit):=fun(a0,a1,a2,a3,a4,a5,a6,_)=>
 match(ilt a6 a5)with
 |true=>match idx a4 (IntKind.wrap .i64 (a6+1))with|none=>none|some x0=>match idx a4 a6 with|none=>none|some x1=>match idx a4 (IntKind.wrap .i64 (a6+1))with|none=>none|some x2=>some (.inl (a0,a1,a2,a3,(Az a4 (AN (IntKind.wrap .i64 (a6+1))) (IntKind.wrap .i64 ((AY a4 (AN (IntKind.wrap .i64 (a6+1))) 0)+(AY a4 (AN a6) 0)))),a5,(IntKind.wrap .i64 (a6+1)),()))
 |false=>some (.inr (.inl (a0,a1,a2,a3,a4,())))
abbrev Ah0:AE:=[(.tmp 0,.dat V0),(.tmp 1,.dat U7),(.tmp 2,.di),(.tmp 3,.di),(.tmp 9,.own 3 U0),(.tmp 22,.dat U7),(.tmp 23,.di),(.tmp 24,.di)]
abbrev Ahw:Ao:=[(.exit 0,[(.tmp 0,.dat V0),(.tmp 1,.dat U7),(.tmp 2,.di),(.tmp 3,.di),(.tmp 9,.own 3 U0)])]
def Pa[Lk]:V6→Option (V6⊕(List Int×List Int×Int×Int×List Int×Unit)⊕Unit):=fun(a0,a1,a2,a3,a4,a5,a6,a7,_)=>
 match(ilt a7 a6)with
 |true=>match idx a5 a7 with|none=>none|some x0=>match idx a0 x0 with|none=>none|some x1=>match PX (x1,a2,a3,())with|none=>none|some (y2,_)=>match idx a4 (IntKind.wrap .u32 (y2+1))with|none=>none|some x3=>match idx a4 (IntKind.wrap .u32 (y2+1))with|none=>none|some x4=>some (.inl (a0,a1,a2,a3,(Az a4 (AN (IntKind.wrap .u32 (y2+1))) (IntKind.wrap .i64 ((AY a4 (AN (IntKind.wrap .u32 (y2+1))) 0)+1))),a5,a6,(IntKind.wrap .i64 (a7+1)),()))
 |false=>some (.inr (.inl (a0,a1,a2,a3,a4,())))
def Aag[Lk]:(List Int×List Int×Int×Int×Unit)→Option (Up):=fun(a0,a1,a2,a3,_)=>
 match shl? .i64 1 (IntKind.wrap .u64 a3)with|none=>none|some x0=>match(CM (IntKind.wrap .i64 (x0+1))&&CM (IntKind.wrap .i64 (x0+1))&&ile (IntKind.wrap .i64 (x0+1)) (IntKind.wrap .i64 (x0+1))&&true)with
 |true=>match AX Pa many (a0,a1,a2,a3,(D3 (AN (IntKind.wrap .i64 (x0+(1:Int)))) (0:Int)),a1,(AM a1),(0:Int),())with|none=>none|some r=>match r with
  |.inl (o1,o2,o3,o4,o5,_)=>match AX PZ many (o1,o2,o3,o4,o5,(IntKind.wrap .i64 ((AM o5)-1)),0,())with|none=>none|some r=>match r with
   |.inl (o6,o7,o8,o9,o10,_)=>match(CM (AM o7)&&CM (AM o7)&&ile (AM o7) (AM o7)&&true)with
    |true=>match AX PY many (o6,o8,o9,o10,(D3 (AN (AM o7)) (0:Int)),o7,(AM o7),(0:Int),())with|none=>none|some r=>match r with
     |.inl (o11,_)=>some (o11,())
     |.inr _=>none
    |false=>none
   |.inr _=>none
  |.inr _=>none
 |false=>none
def rby[Lk]:=fun v=>Lk.f (Aag v)
theorem Ah2 v:rby v=Aag v:=AJ _
abbrev MM:AE:=[(.tmp 0,.di),(.tmp 1,.di)]
abbrev ML:AE:=[(.tmp 0,.dat .bool)]
abbrev MK:List RS:=[.one]
def IN[Lk]:U1→Option (Ui):=fun(a0,a1,_)=>
 match(ile 1 a0)with
 |true=>match(ile a0 1000)with
  |true=>match(ile 1 a1)with
   |true=>some ((ile a1 100),())
   |false=>some (false,())
  |false=>some (false,())
 |false=>some (false,())
def HJ[Lk]:=fun v=>Lk.f (IN v)
theorem Qo v:HJ v=IN v:=AJ _
abbrev TU:AE:=[(.tmp 0,.dat Uo)]
abbrev TT:AE:=[(.tmp 0,.dat .bool)]
abbrev TS:List RS:=[.one]
abbrev AAc:AE:=[(.tmp 1,.box 3),(.cell 0 0,.dat Uc),(.cell 0 1,.di),(.cell 0 2,.dat Uw),(.tmp 25,.dat Uc),(.tmp 26,.di),(.tmp 27,.di)]
abbrev AAb:Ao:=[(.ret,[(.tmp 2,.dat .bool)]),(.exit 0,[])]
def EE[Lk]:(List U6×Int×List Bool×List U6×Int×Int×Unit)→Option ((List U6×Int×List Bool×List U6×Int×Int×Unit)⊕Ui⊕(Unit)⊕Unit):=fun(a0,a1,a2,a3,a4,a5,_)=>
 match(ilt a5 a4)with
 |true=>match idx a3 a5 with|none=>none|some x0=>match(ilt x0.1 0)with
  |true=>some (.inr (.inl (false,())))
  |false=>match(ile x0.2.1 x0.1)with
  |true=>some (.inr (.inl (false,())))
  |false=>match(ilt (AM a2) x0.2.1)with
  |true=>some (.inr (.inl (false,())))
  |false=>match(ilt x0.2.2.1 (-1:Int))with
  |true=>some (.inr (.inl (false,())))
  |false=>match(ile a5 x0.2.2.1)with
  |true=>some (.inr (.inl (false,())))
  |false=>match(ilt x0.2.2.2.1 0)with
  |true=>some (.inr (.inl (false,())))
  |false=>match(ilt 2 x0.2.2.2.1)with
  |true=>some (.inr (.inl (false,())))
  |false=>some (.inl (a0,a1,a2,a3,a4,(IntKind.wrap .i64 (a5+1)),()))
 |false=>some (.inr (.inr (.inl ())))
def Ni[Lk]:(((List U6)×Int×(List Bool)×Unit)×Unit)→Option (Ui):=fun(a0,_)=>
 match HJ ((AM a0.2.2.1),a0.2.1,())with|none=>none|some (y0,_)=>match(!y0)with
 |true=>some (false,())
 |false=>match(ieq (AM a0.1) 0)with
 |true=>some (false,())
 |false=>match(ilt 2000 (AM a0.1))with
 |true=>some (false,())
 |false=>match AX EE many (a0.1,a0.2.1,a0.2.2.1,a0.1,(AM a0.1),0,())with|none=>none|some r=>match r with
 |.inl (o1,_)=>some (o1,())
 |.inr r=>match r with
 |.inl _=>some (true,())
 |.inr _=>none
def Nj[Lk]:=fun v=>Lk.f (Ni v)
theorem AAd v:Nj v=Ni v:=AJ _
abbrev TR:AE:=[(.tmp 0,.dat Uo),(.tmp 1,.di)]
abbrev TQ:AE:=[(.tmp 0,.di)]
abbrev TP:List RS:=[.one]
def Nh[Lk]:(((List U6)×Int×(List Bool)×Unit)×Int×Unit)→Option (Ua):=fun(a0,a1,_)=>
 match Nj ((a0.1,(a0.2.1,(a0.2.2.1,()))),())with|none=>none|some (y0,_)=>match(!y0)with
 |true=>some (1,())
 |false=>match(ilt a1 0)with
 |true=>some (6,())
 |false=>match(ile (AM a0.1) a1)with
 |true=>some (6,())
 |false=>some (0,())
def KP[Lk]:=fun v=>Lk.f (Nh v)
theorem AAa v:KP v=Nh v:=AJ _
abbrev TO:AE:=[(.tmp 0,.dat Vi)]
abbrev TN:AE:=[(.tmp 0,.di)]
abbrev TM:List RS:=[.one]
def Ng[Lk]:(U6×Unit)→Option (Ua):=fun(a0,_)=>
 some ((IntKind.wrap .i64 (a0.2.1-a0.1)),())
def IM[Lk]:=fun v=>Lk.f (Ng v)
theorem AAZ v:IM v=Ng v:=AJ _
abbrev TY:AE:=[(.tmp 0,.dat Uo),(.tmp 1,.di)]
abbrev TX:AE:=[(.tmp 0,.dat .bool)]
abbrev TW:List RS:=[.one]
def Nk[Lk]:(((List U6)×Int×(List Bool)×Unit)×Int×Unit)→Option (Ui):=fun(a0,a1,_)=>
 match KP ((a0.1,(a0.2.1,(a0.2.2.1,()))),a1,())with|none=>none|some (y0,_)=>match(ieq y0 0)with
 |true=>match idx a0.1 a1 with|none=>none|some x1=>match IM ((x1.1,(x1.2.1,(x1.2.2.1,(x1.2.2.2.1,())))),())with|none=>none|some (y2,_)=>some ((ilt a0.2.1 y2),())
 |false=>some (false,())
def Nl[Lk]:=fun v=>Lk.f (Nk v)
theorem AAi v:Nl v=Nk v:=AJ _
abbrev Tb:AE:=[(.tmp 0,.di),(.tmp 1,.di)]
abbrev Ta:AE:=[(.tmp 0,.own 199 Vi),(.tmp 1,.di),(.tmp 2,.own 4 .bool),(.tmp 3,.di)]
abbrev TZ:List RS:=[.agg 3,.one]
def Nm[Lk]:U1→Option ((List U6×Int×List Bool×Int×Unit)):=fun(a0,a1,_)=>
 match HJ (a0,a1,())with|none=>none|some (y0,_)=>match(!y0)with
 |true=>some (([]:List U6),0,([]:List (Bool)),1,())
 |false=>match(CM a0&&CM a0&&ile a0 a0&&true)with
 |true=>some (([((0:Int),(a0,((-1:Int),((0:Int),()))))]:List U6),a1,(D3 (AN a0) false),(0:Int),())
 |false=>none
def Qp[Lk]:=fun v=>Lk.f (Nm v)
theorem AAl v:Qp v=Nm v:=AJ _
abbrev AAg:AE:=[(.tmp 0,.dat Uo),(.tmp 1,.di)]
abbrev AAf:AE:=[(.tmp 0,.dat Uc),(.tmp 1,.di),(.tmp 2,.dat Uw),(.tmp 3,.di),(.tmp 4,.di),(.tmp 5,.di)]
abbrev AAe:List RS:=[.agg 3,.one,.one,.one]
def Qn[Lk]:(((List U6)×Int×(List Bool)×Unit)×Int×Unit)→Option ((List U6×Int×List Bool×Int×Int×Int×Unit)):=fun(a0,a1,_)=>
 match KP ((a0.1,(a0.2.1,(a0.2.2.1,()))),a1,())with|none=>none|some (y0,_)=>match(!(ieq y0 0))with
 |true=>some (a0.1,a0.2.1,a0.2.2.1,0,0,y0,())
 |false=>match idx a0.1 a1 with|none=>none|some x1=>match IM ((x1.1,(x1.2.1,(x1.2.2.1,(x1.2.2.2.1,())))),())with|none=>none|some (y2,_)=>match(ile y2 a0.2.1)with
 |true=>some (a0.1,a0.2.1,a0.2.2.1,0,0,5,())
 |false=>match(ilt 0 x1.2.2.2.1)with
 |true=>some (a0.1,a0.2.1,a0.2.2.1,0,0,5,())
 |false=>match(ilt 2000 (IntKind.wrap .i64 ((AM a0.1)+2)))with
 |true=>some (a0.1,a0.2.1,a0.2.2.1,0,0,2,())
 |false=>match IM ((x1.1,(x1.2.1,(x1.2.2.1,(x1.2.2.2.1,())))),())with|none=>none|some (y3,_)=>match quo? .i64 y3 2 with|none=>none|some x4=>match QJ a0.1 with|none=>none|some x5=>match(fits ((AM x5)+(AM ([(x1.1,((IntKind.wrap .i64 (x1.1+x4)),(a1,(0,())))),((IntKind.wrap .i64 (x1.1+x4)),(x1.2.1,(a1,(0,()))))]:List U6))))with
 |true=>match idx (BX x5 ([(x1.1,((IntKind.wrap .i64 (x1.1+x4)),(a1,(0,())))),((IntKind.wrap .i64 (x1.1+x4)),(x1.2.1,(a1,(0,()))))]:List U6)) a1 with|none=>none|some x6=>some ((Az (BX x5 ([(x1.1,((IntKind.wrap .i64 (x1.1+x4)),(a1,(0,())))),((IntKind.wrap .i64 (x1.1+x4)),(x1.2.1,(a1,(0,()))))]:List U6)) (AN a1) ((AY (BX x5 ([(x1.1,((IntKind.wrap .i64 (x1.1+x4)),(a1,(0,())))),((IntKind.wrap .i64 (x1.1+x4)),(x1.2.1,(a1,(0,()))))]:List U6)) (AN a1) (0,(0,(0,(0,()))))).1,((AY (BX x5 ([(x1.1,((IntKind.wrap .i64 (x1.1+x4)),(a1,(0,())))),((IntKind.wrap .i64 (x1.1+x4)),(x1.2.1,(a1,(0,()))))]:List U6)) (AN a1) (0,(0,(0,(0,()))))).2.1,((AY (BX x5 ([(x1.1,((IntKind.wrap .i64 (x1.1+x4)),(a1,(0,())))),((IntKind.wrap .i64 (x1.1+x4)),(x1.2.1,(a1,(0,()))))]:List U6)) (AN a1) (0,(0,(0,(0,()))))).2.2.1,(2,()))))),a0.2.1,a0.2.2.1,(AM a0.1),(IntKind.wrap .i64 ((AM a0.1)+1)),0,())
 |false=>none
def AAh[Lk]:=fun v=>Lk.f (Qn v)
theorem AHy v:AAh v=Qn v:=AJ _
abbrev PH:AE:=[(.tmp 0,.own 199 Vi),(.tmp 1,.di)]
abbrev PG:AE:=[(.obj 0,.own 199 Vi),(.tmp 0,.dat .bool)]
abbrev PF:List RS:=[.one]
abbrev XN:AE:=[(.obj 0,.own 199 Vi),(.tmp 0,.own' 0),(.tmp 1,.di)]
abbrev XM:Ao:=[(.ret,[(.obj 0,.own 199 Vi),(.tmp 4,.dat .bool)]),(.exit 0,[(.obj 0,.own 199 Vi)])]
def DM[Lk]:(List U6×Int×Unit)→Option ((List U6×Int×Unit)⊕(List U6×Bool×Unit)⊕(List U6×Unit)⊕Unit):=fun(a0,a1,_)=>
 match(!(ieq a1 (-1:Int)))with
 |true=>match idx a0 a1 with|none=>none|some x0=>match(ieq (AY a0 (AN a1) (0,(0,(0,(0,()))))).2.2.2.1 0)with
  |true=>some (.inr (.inl (a0,false,())))
  |false=>match(ilt 0 (AY (Az a0 (AN a1) ((AY a0 (AN a1) (0,(0,(0,(0,()))))).1,((AY a0 (AN a1) (0,(0,(0,(0,()))))).2.1,((AY a0 (AN a1) (0,(0,(0,(0,()))))).2.2.1,((IntKind.wrap .i64 ((AY a0 (AN a1) (0,(0,(0,(0,()))))).2.2.2.1-1)),()))))) (AN a1) (0,(0,(0,(0,()))))).2.2.2.1)with
  |true=>some (.inr (.inl ((Az a0 (AN a1) ((AY a0 (AN a1) (0,(0,(0,(0,()))))).1,((AY a0 (AN a1) (0,(0,(0,(0,()))))).2.1,((AY a0 (AN a1) (0,(0,(0,(0,()))))).2.2.1,((IntKind.wrap .i64 ((AY a0 (AN a1) (0,(0,(0,(0,()))))).2.2.2.1-1)),()))))),false,())))
  |false=>some (.inl ((Az a0 (AN a1) ((AY a0 (AN a1) (0,(0,(0,(0,()))))).1,((AY a0 (AN a1) (0,(0,(0,(0,()))))).2.1,((AY a0 (AN a1) (0,(0,(0,(0,()))))).2.2.1,((IntKind.wrap .i64 ((AY a0 (AN a1) (0,(0,(0,(0,()))))).2.2.2.1-1)),()))))),(AY (Az a0 (AN a1) ((AY a0 (AN a1) (0,(0,(0,(0,()))))).1,((AY a0 (AN a1) (0,(0,(0,(0,()))))).2.1,((AY a0 (AN a1) (0,(0,(0,(0,()))))).2.2.1,((IntKind.wrap .i64 ((AY a0 (AN a1) (0,(0,(0,(0,()))))).2.2.2.1-1)),()))))) (AN a1) (0,(0,(0,(0,()))))).2.2.1,()))
 |false=>some (.inr (.inr (.inl (a0,()))))
def KQ[Lk]:(List U6×Int×Unit)→Option ((List U6×Bool×Unit)):=fun(a0,a1,_)=>
 match AX DM many (a0,a1,())with|none=>none|some r=>match r with
 |.inl (o0,o1,_)=>some (o0,o1,())
 |.inr r=>match r with
 |.inl (o2,_)=>some (o2,true,())
 |.inr _=>none
def MJ[Lk]:=fun v=>Lk.f (KQ v)
theorem XO v:MJ v=KQ v:=AJ _
abbrev AVQ:AE:=[(.tmp 0,.dat Uo),(.tmp 1,.di)]
abbrev AVP:AE:=[(.tmp 0,.dat Uc),(.tmp 1,.di),(.tmp 2,.dat Uw),(.tmp 3,.dat .bool),(.tmp 4,.di)]
abbrev AVO:List RS:=[.agg 3,.one,.one]
abbrev AaN:AE:=[(.tmp 2,.box 3),(.cell 0 0,.own 199 Vi),(.cell 0 1,.di),(.cell 0 2,.own 4 .bool),(.tmp 4,.box 3),(.cell 3 0,.nil Vi),(.cell 3 1,.di),(.cell 3 2,.nil .bool),(.tmp 8,.box 4),(.cell 4 0,.di),(.cell 4 1,.di),(.cell 4 2,.di),(.cell 4 3,.di),(.tmp 9,.di)]
abbrev AaM:Ao:=[(.exit 0,[(.tmp 2,.box 3),(.cell 0 0,.own 199 Vi),(.cell 0 1,.di),(.cell 0 2,.own 4 .bool),(.tmp 4,.box 3),(.cell 3 0,.nil Vi),(.cell 3 1,.di),(.cell 3 2,.nil .bool),(.tmp 8,.box 4),(.cell 4 0,.di),(.cell 4 1,.di),(.cell 4 2,.di),(.cell 4 3,.di)])]
def KR[Lk]:(List U6×Int×List Bool×Int×Int×Int×Int×Int×Int×Unit)→Option ((List U6×Int×List Bool×Int×Int×Int×Int×Int×Int×Unit)⊕(List U6×Int×List Bool×Int×Int×Int×Int×Int×Unit)⊕Unit):=fun(a0,a1,a2,a3,a4,a5,a6,a7,a8,_)=>
 match(ilt a8 a5)with
 |true=>match idx a2 a8 with|none=>none|some x0=>some (.inl (a0,a1,(Az a2 (AN a8) true),a3,a4,a5,a6,a7,(IntKind.wrap .i64 (a8+1)),()))
 |false=>some (.inr (.inl (a0,a1,a2,a3,a4,a5,a6,a7,())))
def AKt[Lk]:(((List U6)×Int×(List Bool)×Unit)×Int×Unit)→Option ((List U6×Int×List Bool×Bool×Int×Unit)):=fun(a0,a1,_)=>
 match KP ((a0.1,(a0.2.1,(a0.2.2.1,()))),a1,())with|none=>none|some (y0,_)=>match(!(ieq y0 0))with
 |true=>some (a0.1,a0.2.1,a0.2.2.1,false,y0,())
 |false=>match idx a0.1 a1 with|none=>none|some x1=>match IM ((x1.1,(x1.2.1,(x1.2.2.1,(x1.2.2.2.1,())))),())with|none=>none|some (y2,_)=>match(ilt a0.2.1 y2)with
 |true=>some (a0.1,a0.2.1,a0.2.2.1,false,5,())
 |false=>match(ilt 0 x1.2.2.2.1)with
 |true=>some (a0.1,a0.2.1,a0.2.2.1,false,5,())
 |false=>match idx a0.2.2.1 x1.1 with|none=>none|some x3=>match x3 with
 |true=>some (a0.1,a0.2.1,a0.2.2.1,false,5,())
 |false=>match QJ a0.1 with|none=>none|some x4=>match QJ a0.2.2.1 with|none=>none|some x5=>match AX KR many (x4,a0.2.1,x5,0,x1.1,x1.2.1,x1.2.2.1,x1.2.2.2.1,x1.1,())with|none=>none|some r=>match r with
 |.inl (o6,o7,o8,o9,o10,o11,o12,o13,_)=>match MJ (o6,o12,())with|none=>none|some (y14,y15,_)=>some (y14,o7,o8,y15,0,())
 |.inr _=>none
def Agu[Lk]:=fun v=>Lk.f (AKt v)
theorem AaO v:Agu v=AKt v:=AJ _
abbrev QM:AE:=[(.tmp 0,.di)]
abbrev QL:AE:=[(.tmp 0,.dat .bool)]
abbrev QK:List RS:=[.one]
def LQ[Lk]:Ua→Option (Ui):=fun(a0,_)=>
 match(ile 0 a0)with
 |true=>some ((ile a0 100000),())
 |false=>some (false,())
def J6[Lk]:=fun v=>Lk.f (LQ v)
theorem YJ v:J6 v=LQ v:=AJ _
abbrev AFB:AE:=[(.tmp 0,.dat Uo),(.tmp 1,.di)]
abbrev AFA:AE:=[(.tmp 0,.dat .bool)]
abbrev AE9:List RS:=[.one]
def R9[Lk]:(((List U6)×Int×(List Bool)×Unit)×Int×Unit)→Option (Ui):=fun(a0,a1,_)=>
 match(ile 0 a1)with
 |true=>match(ilt a1 (AM a0.1))with
  |true=>match idx a0.1 a1 with|none=>none|some x0=>match(ieq x0.2.2.2.1 0)with
   |true=>match Nl ((a0.1,(a0.2.1,(a0.2.2.1,()))),a1,())with|none=>none|some (y1,_)=>match y1 with
    |true=>some (true,())
    |false=>match idx a0.1 a1 with|none=>none|some x2=>match idx a0.2.2.1 x2.1 with|none=>none|some x3=>some ((!x3),())
   |false=>some (false,())
  |false=>some (false,())
 |false=>some (false,())
def AFC[Lk]:=fun v=>Lk.f (R9 v)
theorem AJe v:AFC v=R9 v:=AJ _
abbrev AEq:AE:=[(.tmp 0,.dat Vh)]
abbrev AEp:AE:=[(.tmp 0,.dat .bool)]
abbrev AEo:List RS:=[.one]
abbrev AJa:AE:=[(.tmp 1,.box 7),(.cell 0 0,.dat Uc),(.cell 0 1,.di),(.cell 0 2,.dat Uw),(.cell 0 3,.dat Uj),(.cell 0 4,.dat .bool),(.cell 0 5,.di),(.cell 0 6,.di),(.tmp 3,.map U0 U0),(.tmp 38,.dat Uj),(.tmp 39,.di),(.tmp 40,.di),(.tmp 44,.dat U7),(.tmp 45,.di),(.tmp 46,.di)]
abbrev AJY:Ao:=[(.ret,[(.tmp 2,.dat .bool)]),(.exit 2,[(.tmp 1,.box 7),(.cell 0 0,.dat Uc),(.cell 0 1,.di),(.cell 0 2,.dat Uw),(.cell 0 3,.dat Uj),(.cell 0 4,.dat .bool),(.cell 0 5,.di),(.cell 0 6,.di),(.tmp 3,.map U0 U0),(.tmp 38,.dat Uj),(.tmp 39,.di),(.tmp 40,.di)])]
def Ek[Lk]:Vl→Option (Vl⊕Ui⊕V9⊕Unit):=fun(a0,a1,a2,a3,a4,a5,a6,a7,a8,a9,a10,a11,a12,a13,_)=>
 match(ilt a13 a12)with
 |true=>match idx a11 a13 with|none=>none|some x0=>match(ilt 1 ((AS (Ae a7 x0 (IntKind.wrap .i64 (((AS a7 x0).getD 0)+1))) x0).getD 0))with
  |true=>some (.inr (.inl (false,())))
  |false=>match AFC ((a0,(a1,(a2,()))),x0,())with|none=>none|some (y1,_)=>match(!y1)with
  |true=>some (.inr (.inl (false,())))
  |false=>some (.inl (a0,a1,a2,a3,a4,a5,a6,(Ae a7 x0 (IntKind.wrap .i64 (((AS a7 x0).getD 0)+1))),a8,a9,a10,a11,a12,(IntKind.wrap .i64 (a13+1)),()))
 |false=>some (.inr (.inr (.inl (a0,a1,a2,a3,a4,a5,a6,a7,a8,a9,a10,()))))
abbrev AJb:AE:=[(.tmp 1,.box 7),(.cell 0 0,.dat Uc),(.cell 0 1,.di),(.cell 0 2,.dat Uw),(.cell 0 3,.dat Uj),(.cell 0 4,.dat .bool),(.cell 0 5,.di),(.cell 0 6,.di),(.tmp 3,.map U0 U0),(.tmp 38,.dat Uj),(.tmp 39,.di),(.tmp 40,.di)]
abbrev AJZ:Ao:=[(.ret,[(.tmp 2,.dat .bool)]),(.exit 0,[])]
def F8[Lk]:V9→Option (V9⊕Ui⊕(Unit)⊕Unit):=fun(a0,a1,a2,a3,a4,a5,a6,a7,a8,a9,a10,_)=>
 match(ilt a10 a9)with
 |true=>match idx a8 a10 with|none=>none|some x0=>match AX Ek many (a0,a1,a2,a3,a4,a5,a6,a7,a8,a9,a10,x0,(AM x0),0,())with|none=>none|some r=>match r with
  |.inl (o1,_)=>some (.inr (.inl (o1,())))
  |.inr r=>match r with
  |.inl (o2,o3,o4,o5,o6,o7,o8,o9,o10,o11,o12,_)=>some (.inl (o2,o3,o4,o5,o6,o7,o8,o9,o10,o11,(IntKind.wrap .i64 (o12+1)),()))
  |.inr _=>none
 |false=>some (.inr (.inr (.inl ())))
def Rx[Lk]:((((List U6)×Int×(List Bool)×Unit)×(List U5)×Bool×Int×Int×Unit)×Unit)→Option (Ui):=fun(a0,_)=>
 match Nj ((a0.1.1,(a0.1.2.1,(a0.1.2.2.1,()))),())with|none=>none|some (y0,_)=>match(!y0)with
 |true=>some (false,())
 |false=>match(ieq (AM a0.2.1) 0)with
 |true=>some (false,())
 |false=>match(ilt 8 (AM a0.2.1))with
 |true=>some (false,())
 |false=>match J6 (a0.2.2.2.1,())with|none=>none|some (y1,_)=>match(!y1)with
 |true=>some (false,())
 |false=>match J6 (a0.2.2.2.2.1,())with|none=>none|some (y2,_)=>match(!y2)with
 |true=>some (false,())
 |false=>match AX F8 many (a0.1.1,a0.1.2.1,a0.1.2.2.1,a0.2.1,a0.2.2.1,a0.2.2.2.1,a0.2.2.2.2.1,([]:List Uz),a0.2.1,(AM a0.2.1),0,())with|none=>none|some r=>match r with
 |.inl (o3,_)=>some (o3,())
 |.inr r=>match r with
 |.inl _=>some (true,())
 |.inr _=>none
def AEr[Lk]:=fun v=>Lk.f (Rx v)
theorem AJc v:AEr v=Rx v:=AJ _
abbrev AFK:AE:=[(.tmp 0,.di),(.tmp 1,.di),(.tmp 2,.di)]
abbrev AFJ:AE:=[(.tmp 0,.own 199 Vi),(.tmp 1,.di),(.tmp 2,.own 4 .bool),(.tmp 3,.own 41 U7),(.tmp 4,.dat .bool),(.tmp 5,.di),(.tmp 6,.di),(.tmp 7,.di)]
abbrev AFI:List RS:=[.agg 7,.one]
def SB[Lk]:Ub→Option ((List U6×Int×List Bool×List U5×Bool×Int×Int×Int×Unit)):=fun(a0,a1,a2,_)=>
 match(ilt a2 1)with
 |true=>some (([]:List U6),0,([]:List (Bool)),([]:List U5),false,0,0,1,())
 |false=>match(ilt 8 a2)with
 |true=>some (([]:List U6),0,([]:List (Bool)),([]:List U5),false,0,0,1,())
 |false=>match Qp (a0,a1,())with|none=>none|some (y0,y1,y2,y3,_)=>match(!(ieq y3 0))with
 |true=>some (([]:List U6),0,([]:List (Bool)),([]:List U5),false,0,0,y3,())
 |false=>match(CM a2&&CM a2&&ile a2 a2&&true)with
 |true=>match idx (D3 (AN a2) ()) (0:Int)with|none=>none|some x4=>match(fits (AM ([0]:List (Int))))with
  |true=>match idx (D3 (AN a2) ()) (0:Int)with|none=>none|some x5=>some (y0,y1,y2,(Az (D3 (List.length (D3 (AN a2) ())) []) 0 ([(0:Int)]:List (Int))),false,(0:Int),(0:Int),(0:Int),())
  |false=>none
 |false=>none
def AFL[Lk]:=fun v=>Lk.f (SB v)
theorem AJg v:AFL v=SB v:=AJ _
abbrev AOM:AE:=[(.tmp 0,.dat Vh)]
abbrev AOL:AE:=[(.tmp 0,.di)]
abbrev AOK:List RS:=[.one]
abbrev AUA:AE:=[(.tmp 2,.di),(.tmp 6,.dat Uj),(.tmp 7,.di),(.tmp 8,.di)]
abbrev AT9:Ao:=[(.exit 0,[(.tmp 2,.di)])]
def Hz[Lk]:(Int×List U5×Int×Int×Unit)→Option ((Int×List U5×Int×Int×Unit)⊕Ua⊕Unit):=fun(a0,a1,a2,a3,_)=>
 match(ilt a3 a2)with
 |true=>match idx a1 a3 with|none=>none|some x0=>some (.inl ((IntKind.wrap .i64 (a0+(AM x0))),a1,a2,(IntKind.wrap .i64 (a3+1)),()))
 |false=>some (.inr (.inl (a0,())))
def Zl[Lk]:((((List U6)×Int×(List Bool)×Unit)×(List U5)×Bool×Int×Int×Unit)×Unit)→Option (Ua):=fun(a0,_)=>
 match AX Hz many (0,a0.2.1,(AM a0.2.1),0,())with|none=>none|some r=>match r with
 |.inl (o0,_)=>some (o0,())
 |.inr _=>none
def AUC[Lk]:=fun v=>Lk.f (Zl v)
theorem AUB v:AUC v=Zl v:=AJ _
abbrev WX:AE:=[(.tmp 0,.box 11),(.cell 0 0,.dat Uc),(.cell 0 1,.di),(.cell 0 2,.dat Uw),(.cell 0 3,.own 41 U7),(.cell 0 4,.dat .bool),(.cell 0 5,.di),(.cell 0 6,.di),(.cell 0 7,.di),(.cell 0 8,.di),(.cell 0 9,.di),(.cell 0 10,.dat .bool),(.tmp 1,.di)]
abbrev WW:AE:=[(.obj 0,.box 11),(.cell 0 0,.dat Uc),(.cell 0 1,.di),(.cell 0 2,.dat Uw),(.cell 0 3,.own 41 U7),(.cell 0 4,.dat .bool),(.cell 0 5,.di),(.cell 0 6,.di),(.cell 0 7,.di),(.cell 0 8,.di),(.cell 0 9,.di),(.cell 0 10,.dat .bool),(.obj 1,.own' 1),(.tmp 0,.di)]
abbrev WV:List RS:=[.one]
def OB[Lk]:Ux→Option (Ux):=fun(a0,a1,a2,a3,a4,a5,a6,a7,a8,a9,a10,a11,_)=>
 match rem? a11 (AM a3)with|none=>none|some x0=>match rem? (IntKind.wrap .i64 (x0+(AM a3))) (AM a3)with|none=>none|some x1=>some (a0,a1,a2,a3,a4,a5,a6,a7,a8,a9,a10,x1,())
def OC[Lk]:=fun v=>Lk.f (OB v)
theorem AE1 v:OC v=OB v:=AJ _
abbrev AFF:AE:=[(.tmp 0,.box 11),(.cell 0 0,.dat Uc),(.cell 0 1,.di),(.cell 0 2,.dat Uw),(.cell 0 3,.own 41 U7),(.cell 0 4,.dat .bool),(.cell 0 5,.di),(.cell 0 6,.di),(.cell 0 7,.di),(.cell 0 8,.di),(.cell 0 9,.di),(.cell 0 10,.dat .bool),(.tmp 1,.di),(.tmp 2,.di)]
abbrev AFE:AE:=[(.obj 0,.box 11),(.cell 0 0,.dat Uc),(.cell 0 1,.di),(.cell 0 2,.dat Uw),(.cell 0 3,.own 41 U7),(.cell 0 4,.dat .bool),(.cell 0 5,.di),(.cell 0 6,.di),(.cell 0 7,.di),(.cell 0 8,.di),(.cell 0 9,.di),(.cell 0 10,.dat .bool),(.obj 1,.own' 1),(.tmp 0,.dat .bool)]
abbrev AFD:List RS:=[.one]
def SA[Lk]:(List U6×Int×List Bool×List U5×Bool×Int×Int×Int×Int×Int×Bool×Int×Int×Unit)→Option ((List U6×Int×List Bool×List U5×Bool×Int×Int×Int×Int×Int×Bool×Bool×Unit)):=fun(a0,a1,a2,a3,a4,a5,a6,a7,a8,a9,a10,a11,a12,_)=>
 match idx a3 a11 with|none=>none|some x0=>match idx a3 a12 with|none=>none|some x1=>match(ile 0 (IntKind.wrap .i64 ((AM (AY a3 (AN a11) ([]:List (Int))))-1)))with
 |true=>match idx (AY a3 (AN a11) ([]:List (Int))) (IntKind.wrap .i64 ((AM (AY a3 (AN a11) ([]:List (Int))))-1))with|none=>none|some x2=>match(ieq (IntKind.wrap .i64 ((AM (AY a3 (AN a11) ([]:List (Int))))-1)) (IntKind.wrap .i64 ((AM (AY a3 (AN a11) ([]:List (Int))))-1)))with
  |true=>match EF (AY a3 (AN a11) ([]:List (Int))) 0 (IntKind.wrap .i64 ((AM (AY a3 (AN a11) ([]:List (Int))))-1))with|none=>none|some x3=>match idx a3 a11 with|none=>none|some x4=>some (a0,a1,a2,(Az a3 (AN a11) x3),a4,a5,a6,a7,a11,x2,a10,true,())
  |false=>none
 |false=>match(ilt 0 (AM (AY a3 (AN a12) ([]:List (Int)))))with
 |true=>match idx (AY a3 (AN a12) ([]:List (Int))) 0 with|none=>none|some x5=>match EF (AY a3 (AN a12) ([]:List (Int))) 1 (AM (AY a3 (AN a12) ([]:List (Int))))with|none=>none|some x6=>match idx a3 a12 with|none=>none|some x7=>some (a0,a1,a2,(Az a3 (AN a12) x6),a4,a5,a6,a7,a12,x5,a10,true,())
 |false=>some (a0,a1,a2,a3,a4,a5,a6,a7,a8,a9,a10,false,())
def AFG[Lk]:=fun v=>Lk.f (SA v)
theorem AJf v:AFG v=SA v:=AJ _
abbrev Akk:AE:=[(.tmp 0,.box 11),(.cell 0 0,.dat Uc),(.cell 0 1,.di),(.cell 0 2,.dat Uw),(.cell 0 3,.own 41 U7),(.cell 0 4,.dat .bool),(.cell 0 5,.di),(.cell 0 6,.di),(.cell 0 7,.di),(.cell 0 8,.di),(.cell 0 9,.di),(.cell 0 10,.dat .bool),(.tmp 1,.di)]
abbrev Akj:AE:=[(.obj 0,.box 11),(.cell 0 0,.dat Uc),(.cell 0 1,.di),(.cell 0 2,.dat Uw),(.cell 0 3,.own 41 U7),(.cell 0 4,.dat .bool),(.cell 0 5,.di),(.cell 0 6,.di),(.cell 0 7,.di),(.cell 0 8,.di),(.cell 0 9,.di),(.cell 0 10,.dat .bool),(.obj 1,.own' 1),(.tmp 0,.di)]
abbrev Aki:List RS:=[.one]
def Abg[Lk]:Ux→Option (Ux):=fun(a0,a1,a2,a3,a4,a5,a6,a7,a8,a9,a10,a11,_)=>
 match Nl ((a0,(a1,(a2,()))),a9,())with|none=>none|some (y0,_)=>match y0 with
 |true=>match AAh ((a0,(a1,(a2,()))),a9,())with|none=>none|some (y1,y2,y3,y4,y5,y6,_)=>match(ieq y6 0)with
  |true=>match idx a3 a11 with|none=>none|some x7=>match(fits ((AM (AY a3 (AN a11) ([]:List (Int))))+(AM ([y5,y4]:List (Int)))))with
   |true=>match idx a3 a11 with|none=>none|some x8=>some (y1,y2,y3,(Az a3 (AN a11) (BX (AY a3 (AN a11) ([]:List (Int))) ([y5,y4]:List (Int)))),a4,a5,a6,a7,a8,a9,true,y6,())
   |false=>none
  |false=>some (y1,y2,y3,a3,a4,a5,a6,a7,a8,a9,a10,y6,())
 |false=>match Agu ((a0,(a1,(a2,()))),a9,())with|none=>none|some (y9,y10,y11,y12,y13,_)=>match a4 with
 |true=>some (y9,y10,y11,a3,true,a5,a6,a7,a8,a9,a10,y13,())
 |false=>some (y9,y10,y11,a3,y12,a5,a6,a7,a8,a9,a10,y13,())
def cgo[Lk]:=fun v=>Lk.f (Abg v)
theorem Akl v:cgo v=Abg v:=AJ _
abbrev ANx:AE:=[(.tmp 0,.dat Vh),(.tmp 1,.di),(.tmp 2,.di)]
abbrev ANw:AE:=[(.tmp 0,.dat Uc),(.tmp 1,.di),(.tmp 2,.dat Uw),(.tmp 3,.dat Uj),(.tmp 4,.dat .bool),(.tmp 5,.di),(.tmp 6,.di),(.tmp 7,.dat U3),(.tmp 8,.di)]
abbrev ANv:List RS:=[.agg 7,.one,.one]
def Zk[Lk]:((((List U6)×Int×(List Bool)×Unit)×(List U5)×Bool×Int×Int×Unit)×Int×Int×Unit)→Option ((List U6×Int×List Bool×List U5×Bool×Int×Int×U4×Int×Unit)):=fun(a0,a1,a2,_)=>
 match AEr (((a0.1.1,(a0.1.2.1,(a0.1.2.2.1,()))),(a0.2.1,(a0.2.2.1,(a0.2.2.2.1,(a0.2.2.2.2.1,()))))),())with|none=>none|some (y0,_)=>match(!y0)with
 |true=>some (a0.1.1,a0.1.2.1,a0.1.2.2.1,a0.2.1,a0.2.2.1,a0.2.2.2.1,a0.2.2.2.2.1,(0,(0,(0,(false,())))),1,())
 |false=>match(ieq a0.2.2.2.1 100000)with
 |true=>some (a0.1.1,a0.1.2.1,a0.1.2.2.1,a0.2.1,a0.2.2.1,a0.2.2.2.1,a0.2.2.2.2.1,(0,(0,(0,(false,())))),2,())
 |false=>match QJ a0.2.1 with|none=>none|some x1=>match OC (a0.1.1,a0.1.2.1,a0.1.2.2.1,x1,a0.2.2.1,a0.2.2.2.1,a0.2.2.2.2.1,0,(-1:Int),(-1:Int),false,a1,())with|none=>none|some (y2,y3,y4,y5,y6,y7,y8,y9,y10,y11,y12,y13,_)=>match OC (y2,y3,y4,y5,y6,y7,y8,y9,y10,y11,y12,a2,())with|none=>none|some (y14,y15,y16,y17,y18,y19,y20,y21,y22,y23,y24,y25,_)=>match AFG (y14,y15,y16,y17,y18,(IntKind.wrap .i64 (y19+1)),y20,y13,y22,y23,y24,y13,y25,())with|none=>none|some (y26,y27,y28,y29,y30,y31,y32,y33,y34,y35,y36,y37,_)=>match y37 with
 |true=>match cgo (y26,y27,y28,y29,y30,y31,y32,y33,y34,y35,y36,y13,())with|none=>none|some (y38,y39,y40,y41,y42,y43,y44,y45,y46,y47,y48,y49,_)=>match(!(ieq y49 0))with
  |true=>some (a0.1.1,a0.1.2.1,a0.1.2.2.1,a0.2.1,a0.2.2.1,a0.2.2.2.1,a0.2.2.2.2.1,(0,(0,(0,(false,())))),y49,())
  |false=>some (y38,y39,y40,y41,y42,y43,y44,(y45,(y46,(y47,(y48,())))),0,())
 |false=>match(ieq y32 100000)with
 |true=>some (a0.1.1,a0.1.2.1,a0.1.2.2.1,a0.2.1,a0.2.2.1,a0.2.2.2.1,a0.2.2.2.2.1,(0,(0,(0,(false,())))),2,())
 |false=>some (y26,y27,y28,y29,y30,y31,(IntKind.wrap .i64 (y32+1)),(y33,(y34,(y35,(y36,())))),0,())
def ATk[Lk]:=fun v=>Lk.f (Zk v)
theorem ATj v:ATk v=Zk v:=AJ _
abbrev ANb:AE:=[(.tmp 0,.box 8),(.cell 0 0,.dat Uc),(.cell 0 1,.di),(.cell 0 2,.dat Uw),(.cell 0 3,.dat Uj),(.cell 0 4,.dat .bool),(.cell 0 5,.di),(.cell 0 6,.di),(.cell 0 7,.own 193 U3),(.tmp 1,.di),(.tmp 2,.di)]
abbrev ANa:AE:=[(.obj 0,.box 8),(.cell 0 0,.dat Uc),(.cell 0 1,.di),(.cell 0 2,.dat Uw),(.cell 0 3,.dat Uj),(.cell 0 4,.dat .bool),(.cell 0 5,.di),(.cell 0 6,.di),(.cell 0 7,.own 193 U3),(.tmp 0,.di)]
abbrev ANZ:List RS:=[.one]
def Zh[Lk]:(List U6×Int×List Bool×List U5×Bool×Int×Int×List U4×Int×Int×Unit)→Option (Uk):=fun(a0,a1,a2,a3,a4,a5,a6,a7,a8,a9,_)=>
 match ATk (((a0,(a1,(a2,()))),(a3,(a4,(a5,(a6,()))))),a8,a9,())with|none=>none|some (y0,y1,y2,y3,y4,y5,y6,y7,y8,_)=>match(ieq y8 0)with
 |true=>match(fits ((AM a7)+(AM ([(y7.1,(y7.2.1,(y7.2.2.1,(y7.2.2.2.1,()))))]:List U4))))with
  |true=>some (y0,y1,y2,y3,y4,y5,y6,(BX a7 ([(y7.1,(y7.2.1,(y7.2.2.1,(y7.2.2.2.1,()))))]:List U4)),y8,())
  |false=>none
 |false=>some (a0,a1,a2,a3,a4,a5,a6,a7,y8,())
def AJP[Lk]:=fun v=>Lk.f (Zh v)
theorem ATT v:AJP v=Zh v:=AJ _
abbrev Vt:AE:=[(.tmp 0,.box 8),(.cell 0 0,.dat Uc),(.cell 0 1,.di),(.cell 0 2,.dat Uw),(.cell 0 3,.dat Uj),(.cell 0 4,.dat .bool),(.cell 0 5,.di),(.cell 0 6,.di),(.cell 0 7,.own 193 U3)]
abbrev Vs:AE:=[(.obj 0,.box 8),(.cell 0 0,.dat Uc),(.cell 0 1,.di),(.cell 0 2,.dat Uw),(.cell 0 3,.dat Uj),(.cell 0 4,.dat .bool),(.cell 0 5,.di),(.cell 0 6,.di),(.cell 0 7,.own 193 U3),(.tmp 0,.di)]
abbrev Vr:List RS:=[.one]
abbrev AET:AE:=[(.obj 0,.box 8),(.cell 0 0,.dat Uc),(.cell 0 1,.di),(.cell 0 2,.dat Uw),(.cell 0 3,.dat Uj),(.cell 0 4,.dat .bool),(.cell 0 5,.di),(.cell 0 6,.di),(.cell 0 7,.own 193 U3),(.tmp 0,.ptr' 0 0),(.tmp 3,.di),(.tmp 13,.di),(.tmp 14,.di)]
abbrev AER:Ao:=[(.ret,[(.obj 0,.box 8),(.cell 0 0,.dat Uc),(.cell 0 1,.di),(.cell 0 2,.dat Uw),(.cell 0 3,.dat Uj),(.cell 0 4,.dat .bool),(.cell 0 5,.di),(.cell 0 6,.di),(.cell 0 7,.own 193 U3),(.tmp 2,.di)]),(.exit 2,[(.obj 0,.box 8),(.cell 0 0,.dat Uc),(.cell 0 1,.di),(.cell 0 2,.dat Uw),(.cell 0 3,.dat Uj),(.cell 0 4,.dat .bool),(.cell 0 5,.di),(.cell 0 6,.di),(.cell 0 7,.own 193 U3),(.tmp 0,.ptr' 0 0),(.tmp 3,.di)])]
def CK[Lk]:(List U6×Int×List Bool×List U5×Bool×Int×Int×List U4×Int×Int×Int×Unit)→Option ((List U6×Int×List Bool×List U5×Bool×Int×Int×List U4×Int×Int×Int×Unit)⊕Uk⊕Uk⊕Unit):=fun(a0,a1,a2,a3,a4,a5,a6,a7,a8,a9,a10,_)=>
 match(ilt a10 a9)with
 |true=>match a4 with
  |true=>some (.inr (.inl (a0,a1,a2,a3,a4,a5,a6,a7,0,())))
  |false=>match AUC (((a0,(a1,(a2,()))),(a3,(a4,(a5,(a6,()))))),())with|none=>none|some (y0,_)=>match(ieq y0 0)with
  |true=>some (.inr (.inl (a0,a1,a2,a3,a4,a5,a6,a7,4,())))
  |false=>match AJP (a0,a1,a2,a3,a4,a5,a6,a7,a10,(IntKind.wrap .i64 ((IntKind.wrap .i64 (a10+1))+a8)),())with|none=>none|some (y1,y2,y3,y4,y5,y6,y7,y8,y9,_)=>match(!(ieq y9 0))with
  |true=>some (.inr (.inl (y1,y2,y3,y4,y5,y6,y7,y8,y9,())))
  |false=>some (.inl (y1,y2,y3,y4,y5,y6,y7,y8,a8,a9,(IntKind.wrap .i64 (a10+1)),()))
 |false=>some (.inr (.inr (.inl (a0,a1,a2,a3,a4,a5,a6,a7,a8,()))))
abbrev AEU:AE:=[(.obj 0,.box 8),(.cell 0 0,.dat Uc),(.cell 0 1,.di),(.cell 0 2,.dat Uw),(.cell 0 3,.dat Uj),(.cell 0 4,.dat .bool),(.cell 0 5,.di),(.cell 0 6,.di),(.cell 0 7,.own 193 U3),(.tmp 0,.ptr' 0 0),(.tmp 3,.di)]
abbrev AES:Ao:=[(.ret,[(.obj 0,.box 8),(.cell 0 0,.dat Uc),(.cell 0 1,.di),(.cell 0 2,.dat Uw),(.cell 0 3,.dat Uj),(.cell 0 4,.dat .bool),(.cell 0 5,.di),(.cell 0 6,.di),(.cell 0 7,.own 193 U3),(.tmp 2,.di)])]
def Cz[Lk]:Uk→Option (Uk⊕Uk⊕Unit):=fun(a0,a1,a2,a3,a4,a5,a6,a7,a8,_)=>
 match AX CK many (a0,a1,a2,a3,a4,a5,a6,a7,a8,(AM a3),0,())with|none=>none|some r=>match r with
 |.inl (o0,o1,o2,o3,o4,o5,o6,o7,o8,_)=>some (.inr (.inl (o0,o1,o2,o3,o4,o5,o6,o7,o8,())))
 |.inr r=>match r with
 |.inl (o9,o10,o11,o12,o13,o14,o15,o16,o17,_)=>some (.inl (o9,o10,o11,o12,o13,o14,o15,o16,(IntKind.wrap .i64 (o17+1)),()))
 |.inr _=>none
def N6[Lk]:(List U6×Int×List Bool×List U5×Bool×Int×Int×List U4×Unit)→Option (Uk):=fun(a0,a1,a2,a3,a4,a5,a6,a7,_)=>
 match AX Cz many (a0,a1,a2,a3,a4,a5,a6,a7,0,())with|none=>none|some r=>match r with
 |.inl (o0,o1,o2,o3,o4,o5,o6,o7,o8,_)=>some (o0,o1,o2,o3,o4,o5,o6,o7,o8,())
 |.inr _=>none
def Rq[Lk]:=fun v=>Lk.f (N6 v)
theorem AEV v:Rq v=N6 v:=AJ _
abbrev AEO:AE:=[(.tmp 0,.di),(.tmp 1,.di),(.tmp 2,.di),(.tmp 3,.dat (.slice (.arr 2 U0)))]
abbrev AEN:AE:=[(.tmp 0,.dat Vh),(.tmp 1,.own 193 U3),(.tmp 2,.di)]
abbrev AEM:List RS:=[.one,.one,.one]
abbrev AJM:AE:=[(.tmp 8,.box 7),(.cell 0 0,.nil Vi),(.cell 0 1,.di),(.cell 0 2,.nil .bool),(.cell 0 3,.nil U7),(.cell 0 4,.dat .bool),(.cell 0 5,.di),(.cell 0 6,.di),(.tmp 13,.box 8),(.cell 1 0,.dat Uc),(.cell 1 1,.di),(.cell 1 2,.dat Uw),(.cell 1 3,.dat Uj),(.cell 1 4,.dat .bool),(.cell 1 5,.di),(.cell 1 6,.di),(.cell 1 7,.own 193 U3),(.tmp 31,.dat (.slice (.arr 2 U0))),(.tmp 32,.di),(.tmp 33,.di)]
abbrev AJL:Ao:=[(.exit 0,[(.tmp 8,.box 7),(.cell 0 0,.nil Vi),(.cell 0 1,.di),(.cell 0 2,.nil .bool),(.cell 0 3,.nil U7),(.cell 0 4,.dat .bool),(.cell 0 5,.di),(.cell 0 6,.di),(.tmp 13,.box 8),(.cell 1 0,.dat Uc),(.cell 1 1,.di),(.cell 1 2,.dat Uw),(.cell 1 3,.dat Uj),(.cell 1 4,.dat .bool),(.cell 1 5,.di),(.cell 1 6,.di),(.cell 1 7,.own 193 U3)]),(.ret,[(.tmp 8,.box 7),(.cell 0 0,.dat Uc),(.cell 0 1,.di),(.cell 0 2,.dat Uw),(.cell 0 3,.dat Uj),(.cell 0 4,.dat .bool),(.cell 0 5,.di),(.cell 0 6,.di),(.tmp 9,.own 193 U3),(.tmp 10,.di)])]
def Ei[Lk]:Vj→Option (Vj⊕(Int×Bool×Int×Int×List U6×Int×List Bool×List U5×Bool×Int×Int×List U4×Unit)⊕Uk⊕Unit):=fun(a0,a1,a2,a3,a4,a5,a6,a7,a8,a9,a10,a11,a12,a13,a14,_)=>
 match(ilt a14 a13)with
 |true=>match idx a12 a14 with|none=>none|some x0=>match a8 with
  |true=>some (.inr (.inl (a0,a1,a2,a3,a4,a5,a6,a7,a8,a9,a10,a11,())))
  |false=>match AJP (a4,a5,a6,a7,a8,a9,a10,a11,(AY x0 0 0),(AY x0 1 0),())with|none=>none|some (y1,y2,y3,y4,y5,y6,y7,y8,y9,_)=>match(!(ieq y9 0))with
  |true=>some (.inr (.inr (.inl (y1,y2,y3,y4,y5,y6,y7,y8,y9,()))))
  |false=>some (.inl (a0,a1,a2,a3,y1,y2,y3,y4,y5,y6,y7,y8,a12,a13,(IntKind.wrap .i64 (a14+1)),()))
 |false=>some (.inr (.inl (a0,a1,a2,a3,a4,a5,a6,a7,a8,a9,a10,a11,())))
def Rp[Lk]:(Int×Int×Int×List U5×Unit)→Option (((((List U6)×Int×(List Bool)×Unit)×(List U5)×Bool×Int×Int×Unit)×List U4×Int×Unit)):=fun(a0,a1,a2,a3,_)=>
 match AFL (a0,a1,a2,())with|none=>none|some (y0,y1,y2,y3,y4,y5,y6,y7,_)=>match(!(ieq y7 0))with
 |true=>some (((([]:List U6),(0,(([]:List (Bool)),()))),(([]:List U5),(false,(0,(0,()))))),([]:List U4),y7,())
 |false=>match AX Ei many (0,false,0,0,y0,y1,y2,y3,y4,y5,y6,([]:List U4),a3,(AM a3),0,())with|none=>none|some r=>match r with
 |.inl (o8,o9,o10,o11,o12,o13,o14,o15,o16,o17,o18,o19,_)=>match Rq (o12,o13,o14,o15,o16,o17,o18,o19,())with|none=>none|some (y20,y21,y22,y23,y24,y25,y26,y27,y28,_)=>some (((y20,(y21,(y22,()))),(y23,(y24,(y25,(y26,()))))),y27,y28,())
 |.inr r=>match r with
 |.inl (o29,o30,o31,o32,o33,o34,o35,o36,o37,_)=>some (((o29,(o30,(o31,()))),(o32,(o33,(o34,(o35,()))))),o36,o37,())
 |.inr _=>none
def AEQ[Lk]:=fun v=>Lk.f (Rp v)
theorem AJN v:AEQ v=Rp v:=AJ _
abbrev Vw:AE:=[(.tmp 0,.dat Vh),(.tmp 1,.dat V8)]
abbrev Vv:AE:=[(.tmp 0,.own 182 U2)]
abbrev Vu:List RS:=[.one]
abbrev AEa:AE:=[(.tmp 2,.box 7),(.cell 0 0,.dat Uc),(.cell 0 1,.di),(.cell 0 2,.dat Uw),(.cell 0 3,.dat Uj),(.cell 0 4,.dat .bool),(.cell 0 5,.di),(.cell 0 6,.di),(.tmp 5,.own 182 U2),(.tmp 9,.dat V8),(.tmp 10,.di),(.tmp 11,.di)]
abbrev AEZ:Ao:=[(.exit 0,[(.tmp 5,.own 182 U2)])]
def EO[Lk]:(List U6×Int×List Bool×List U5×Bool×Int×Int×List U1×List U4×Int×Int×Unit)→Option ((List U6×Int×List Bool×List U5×Bool×Int×Int×List U1×List U4×Int×Int×Unit)⊕Ul⊕Unit):=fun(a0,a1,a2,a3,a4,a5,a6,a7,a8,a9,a10,_)=>
 match(ilt a10 a9)with
 |true=>match idx a8 a10 with|none=>none|some x0=>match x0.2.2.2.1 with
  |true=>some (.inl (a0,a1,a2,a3,a4,a5,a6,a7,a8,a9,(IntKind.wrap .i64 (a10+1)),()))
  |false=>match(ilt x0.2.2.1 0)with
  |true=>some (.inl (a0,a1,a2,a3,a4,a5,a6,a7,a8,a9,(IntKind.wrap .i64 (a10+1)),()))
  |false=>match(ile (AM a0) x0.2.2.1)with
  |true=>some (.inl (a0,a1,a2,a3,a4,a5,a6,a7,a8,a9,(IntKind.wrap .i64 (a10+1)),()))
  |false=>match idx a0 x0.2.2.1 with|none=>none|some x1=>match(fits ((AM a7)+(AM ([(x1.1,(x1.2.1,()))]:List U1))))with
  |true=>some (.inl (a0,a1,a2,a3,a4,a5,a6,(BX a7 ([(x1.1,(x1.2.1,()))]:List U1)),a8,a9,(IntKind.wrap .i64 (a10+1)),()))
  |false=>none
 |false=>some (.inr (.inl (a7,())))
def N7[Lk]:((((List U6)×Int×(List Bool)×Unit)×(List U5)×Bool×Int×Int×Unit)×List U4×Unit)→Option (Ul):=fun(a0,a1,_)=>
 match AX EO many (a0.1.1,a0.1.2.1,a0.1.2.2.1,a0.2.1,a0.2.2.1,a0.2.2.2.1,a0.2.2.2.2.1,([]:List U1),a1,(AM a1),0,())with|none=>none|some r=>match r with
 |.inl (o0,_)=>some (o0,())
 |.inr _=>none
def Rs[Lk]:=fun v=>Lk.f (N7 v)
theorem AEb v:Rs v=N7 v:=AJ _
abbrev ADt:AE:=[(.tmp 0,.dat Ue)]
abbrev ADs:AE:=[(.tmp 0,.dat .bool)]
abbrev ADr:List RS:=[.one]
def Mr[Lk]:(Ur×Unit)→Option (Ui):=fun(a0,_)=>
 match(ile 1 a0.1)with
 |true=>match(ile a0.1 100)with
  |true=>match(ile 1 a0.2.1)with
   |true=>match(ile a0.2.1 8)with
    |true=>some ((ile (AM a0.2.2.1) 4000),())
    |false=>some (false,())
   |false=>some (false,())
  |false=>some (false,())
 |false=>some (false,())
def ADu[Lk]:=fun v=>Lk.f (Mr v)
theorem VW v:ADu v=Mr v:=AJ _
abbrev ADy:AE:=[(.tmp 0,.di),(.tmp 1,.dat Ue)]
abbrev ADx:AE:=[(.tmp 0,.own 3 U0),(.tmp 1,.di),(.tmp 2,.di)]
abbrev ADw:List RS:=[.one,.one,.one]
abbrev AI8:AE:=[(.tmp 8,.own 193 U3),(.tmp 10,.own 3 U0),(.tmp 12,.box 2),(.cell 2 0,.di),(.cell 2 1,.di),(.tmp 44,.own 182 U2),(.tmp 45,.di),(.tmp 46,.di),(.tmp 54,.di),(.tmp 55,.di)]
abbrev AI6:Ao:=[(.exit 2,[(.tmp 8,.own 193 U3),(.tmp 10,.own 3 U0),(.tmp 44,.own 182 U2),(.tmp 45,.di),(.tmp 46,.di)])]
def Fw[Lk]:(List U4×List Int×Int×Int×List U1×Int×Int×Int×Int×Unit)→Option ((List U4×List Int×Int×Int×List U1×Int×Int×Int×Int×Unit)⊕(List U4×List Int×List U1×Int×Int×Unit)⊕Unit):=fun(a0,a1,a2,a3,a4,a5,a6,a7,a8,_)=>
 match(ilt a8 a7)with
 |true=>match(fits ((AM a1)+(AM ([(IntKind.wrap .i64 (a2+a8))]:List (Int)))))with
  |true=>some (.inl (a0,(BX a1 ([(IntKind.wrap .i64 (a2+a8))]:List (Int))),a2,a3,a4,a5,a6,a7,(IntKind.wrap .i64 (a8+1)),()))
  |false=>none
 |false=>some (.inr (.inl (a0,a1,a4,a5,a6,())))
abbrev AI9:AE:=[(.tmp 8,.own 193 U3),(.tmp 10,.own 3 U0),(.tmp 44,.own 182 U2),(.tmp 45,.di),(.tmp 46,.di)]
abbrev AI7:Ao:=[(.exit 0,[(.tmp 8,.own 193 U3),(.tmp 10,.own 3 U0)])]
def Fx[Lk]:(List U4×List Int×List U1×Int×Int×Unit)→Option ((List U4×List Int×List U1×Int×Int×Unit)⊕(List U4×List Int×Unit)⊕Unit):=fun(a0,a1,a2,a3,a4,_)=>
 match(ilt a4 a3)with
 |true=>match idx a2 a4 with|none=>none|some x0=>match AX Fw many (a0,a1,(AY a2 (AN a4) (0,(0,()))).1,(AY a2 (AN a4) (0,(0,()))).2.1,a2,a3,a4,(IntKind.wrap .i64 ((AY a2 (AN a4) (0,(0,()))).2.1-(AY a2 (AN a4) (0,(0,()))).1)),0,())with|none=>none|some r=>match r with
  |.inl (o1,o2,o3,o4,o5,_)=>some (.inl (o1,o2,o3,o4,(IntKind.wrap .i64 (o5+1)),()))
  |.inr _=>none
 |false=>some (.inr (.inl (a0,a1,())))
def Jx[Lk]:(Int×Ur×Unit)→Option (Uy):=fun(a0,a1,_)=>
 match(ilt a0 0)with
 |true=>some (([]:List (Int)),0,1,())
 |false=>match(ilt 1000 a0)with
 |true=>some (([]:List (Int)),0,1,())
 |false=>match ADu ((a1.1,(a1.2.1,(a1.2.2.1,()))),())with|none=>none|some (y0,_)=>match(!y0)with
 |true=>some (([]:List (Int)),0,1,())
 |false=>match(ieq a0 0)with
 |true=>some (([]:List (Int)),0,0,())
 |false=>match AEQ (a0,a1.1,a1.2.1,a1.2.2.1,())with|none=>none|some (y1,y2,y3,_)=>match(!(ieq y3 0))with
 |true=>some (([]:List (Int)),0,y3,())
 |false=>match Rs (((y1.1.1,(y1.1.2.1,(y1.1.2.2.1,()))),(y1.2.1,(y1.2.2.1,(y1.2.2.2.1,(y1.2.2.2.2.1,()))))),y2,())with|none=>none|some (y4,_)=>match AX Fx many (y2,([]:List (Int)),y4,(AM y4),0,())with|none=>none|some r=>match r with
 |.inl (o5,o6,_)=>some (o6,(AM o5),0,())
 |.inr _=>none
def CO[Lk]:=fun v=>Lk.f (Jx v)
theorem N4 v:CO v=Jx v:=AJ _
abbrev AAt:AE:=[(.tmp 0,.di)]
abbrev AAs:AE:=[(.tmp 0,.dat .bool)]
abbrev AAr:List RS:=[.one]
def Qs[Lk]:Ua→Option (Ui):=fun(a0,_)=>
 match(ile 1 a0)with
 |true=>some ((ile a0 100),())
 |false=>some (false,())
def Td[Lk]:=fun v=>Lk.f (Qs v)
theorem AH3 v:Td v=Qs v:=AJ _
abbrev Tl:AE:=[(.tmp 0,.di),(.tmp 1,.di)]
abbrev Tk:AE:=[(.tmp 0,.di)]
abbrev Tj:List RS:=[.one]
def No[Lk]:U1→Option (Ua):=fun(a0,a1,_)=>
 match(ilt a0 0)with
 |true=>some (0,())
 |false=>match(ilt 1000 a0)with
 |true=>some (0,())
 |false=>match Td (a1,())with|none=>none|some (y0,_)=>match(!y0)with
 |true=>some (0,())
 |false=>match quo? .i64 (IntKind.wrap .i64 ((IntKind.wrap .i64 (a0+a1))-1)) a1 with|none=>none|some x1=>some (x1,())
def Qw[Lk]:=fun v=>Lk.f (No v)
theorem AA1 v:Qw v=No v:=AJ _
abbrev AK5:AE:=[(.tmp 0,.dat V0),(.tmp 1,.di),(.tmp 2,.di)]
abbrev AK4:AE:=[(.tmp 0,.dat V0)]
abbrev AK3:List RS:=[.one]
def ZQ[Lk]:Uy→Option (Up):=fun(a0,a1,a2,_)=>
 match EF a0 (IntKind.wrap .i64 (a1*a2)) (B4 (AM a0) (IntKind.wrap .i64 ((IntKind.wrap .i64 (a1+1))*a2)))with|none=>none|some x0=>some (x0,())
def AH5[Lk]:=fun v=>Lk.f (ZQ v)
theorem AP3 v:AH5 v=ZQ v:=AJ _
abbrev ABE:AE:=[(.tmp 0,.dat V0),(.tmp 1,.clo 137 [])]
abbrev ABD:AE:=[(.tmp 0,.own 87 Ug),(.tmp 1,.dat Ug)]
abbrev ABC:List RS:=[.one,.one]
abbrev AIH:AE:=[(.tmp 1,.clo 137 []),(.tmp 6,.own 87 Ug),(.tmp 7,.dat Ug),(.tmp 13,.dat V0),(.tmp 14,.di),(.tmp 15,.di)]
abbrev AIF:Ao:=[(.exit 0,[(.tmp 6,.own 87 Ug),(.tmp 7,.dat Ug)])]
def FV[Lk]:(List Int×Int×List Int×Int×Int×Unit)→Option ((List Int×Int×List Int×Int×Int×Unit)⊕Vf⊕Unit):=fun(a0,a1,a2,a3,a4,_)=>
 match(ilt a4 a3)with
 |true=>match idx a2 a4 with|none=>none|some x0=>match idx a0 a4 with|none=>none|some x1=>some (.inl ((Az a0 (AN a4) a1),(IntKind.wrap .u32 (a1+x0)),a2,a3,(IntKind.wrap .i64 (a4+1)),()))
 |false=>some (.inr (.inl (a0,a1,())))
def Qz[Lk]:Up→Option (Vf):=fun(a0,_)=>
 match(CM (AM a0)&&CM (AM a0)&&ile (AM a0) (AM a0)&&true)with
 |true=>match AX FV many ((D3 (AN (AM a0)) (0:Int)),(0:Int),a0,(AM a0),(0:Int),())with|none=>none|some r=>match r with
  |.inl (o0,o1,_)=>some (o0,o1,())
  |.inr _=>none
 |false=>none
def PS[Lk]:=fun v=>Lk.f (Qz v)
theorem AII v:PS v=Qz v:=AJ _
abbrev Tg:AE:=[(.tmp 0,.dat V0),(.tmp 1,.di),(.tmp 2,.dat Ue),(.tmp 3,.clo 137 [])]
abbrev Tf:AE:=[(.tmp 0,.own 87 Ug),(.tmp 1,.dat Ug),(.tmp 2,.di),(.tmp 3,.di)]
abbrev Te:List RS:=[.one,.one,.one,.one]
abbrev AAx:AE:=[(.tmp 0,.dat V0),(.tmp 1,.di),(.tmp 3,.clo 137 []),(.tmp 8,.own 87 Ug),(.tmp 9,.dat Ug),(.tmp 10,.di),(.tmp 17,.own 87 Ug),(.tmp 19,.di),(.tmp 76,.own 3 U0),(.tmp 77,.di),(.tmp 78,.di),(.tmp 91,.own 87 Ug),(.tmp 92,.di),(.tmp 93,.di)]
abbrev AAu:Ao:=[(.exit 4,[(.tmp 0,.dat V0),(.tmp 1,.di),(.tmp 3,.clo 137 []),(.tmp 8,.own 87 Ug),(.tmp 9,.dat Ug),(.tmp 10,.di),(.tmp 17,.own 87 Ug),(.tmp 76,.own 3 U0),(.tmp 77,.di),(.tmp 78,.di)])]
def EG[Lk]:Vn→Option (Vn⊕Vd⊕Unit):=fun(a0,a1,a2,a3,a4,a5,a6,a7,a8,a9,a10,a11,a12,_)=>
 match(ilt a12 a11)with
 |true=>match idx a10 a12 with|none=>none|some x0=>match idx a5 a6 with|none=>none|some x1=>match idx a2 (IntKind.wrap .i64 ((IntKind.wrap .i64 (a6*a1))+a12))with|none=>none|some x2=>some (.inl (a0,a1,(Az a2 (AN (IntKind.wrap .i64 ((IntKind.wrap .i64 (a6*a1))+a12))) (IntKind.wrap .u32 ((AY a5 (AN a6) 0)+(AY a10 (AN a12) 0)))),a3,a4,a5,a6,a7,a8,a9,a10,a11,(IntKind.wrap .i64 (a12+1)),()))
 |false=>some (.inr (.inl (a0,a1,a2,a3,a4,a5,a7,a8,a9,())))
abbrev AAy:AE:=[(.tmp 0,.dat V0),(.tmp 1,.di),(.tmp 3,.clo 137 []),(.tmp 8,.own 87 Ug),(.tmp 9,.dat Ug),(.tmp 10,.di),(.tmp 17,.own 87 Ug),(.tmp 76,.own 3 U0),(.tmp 77,.di),(.tmp 78,.di)]
abbrev AAv:Ao:=[(.exit 2,[(.tmp 8,.own 87 Ug),(.tmp 9,.dat Ug),(.tmp 10,.di)])]
def EH[Lk]:Vd→Option (Vd⊕Uy⊕Unit):=fun(a0,a1,a2,a3,a4,a5,a6,a7,a8,_)=>
 match(ilt a8 a7)with
 |true=>match idx a6 a8 with|none=>none|some x0=>match AH5 (a0,(AY a6 (AN a8) 0),a1,())with|none=>none|some (y1,_)=>match PS (y1,())with|none=>none|some (y2,y3,_)=>match AX EG many (a0,a1,a2,a3,a4,a5,(AY a6 (AN a8) 0),a6,a7,a8,y2,(AM y2),0,())with|none=>none|some r=>match r with
  |.inl (o4,o5,o6,o7,o8,o9,o10,o11,o12,_)=>some (.inl (o4,o5,o6,o7,o8,o9,o10,o11,(IntKind.wrap .i64 (o12+1)),()))
  |.inr _=>none
 |false=>some (.inr (.inl (a2,a3,a4,())))
abbrev AAz:AE:=[(.tmp 0,.dat V0),(.tmp 1,.di),(.tmp 3,.clo 137 []),(.tmp 10,.di),(.tmp 13,.own 3 U0),(.tmp 14,.own 87 Ug),(.tmp 48,.own' 0),(.tmp 49,.di),(.tmp 50,.di)]
abbrev AAw:Ao:=[(.exit 0,[(.tmp 0,.dat V0),(.tmp 1,.di),(.tmp 3,.clo 137 []),(.tmp 10,.di),(.tmp 13,.own 3 U0),(.tmp 14,.own 87 Ug)])]
def EI[Lk]:(List Int×Int×Int×List Int×List Int×Int×Int×Unit)→Option ((List Int×Int×Int×List Int×List Int×Int×Int×Unit)⊕(List Int×Int×Int×List Int×List Int×Unit)⊕Unit):=fun(a0,a1,a2,a3,a4,a5,a6,_)=>
 match(ilt a6 a5)with
 |true=>match idx a3 a6 with|none=>none|some x0=>match AH5 (a0,(AY a3 (AN a6) 0),a1,())with|none=>none|some (y1,_)=>match PS (y1,())with|none=>none|some (y2,y3,_)=>match idx a4 (AY a3 (AN a6) 0)with|none=>none|some x4=>some (.inl (a0,a1,a2,a3,(Az a4 (AN (AY a3 (AN a6) 0)) y3),a5,(IntKind.wrap .i64 (a6+1)),()))
 |false=>some (.inr (.inl (a0,a1,a2,a3,a4,())))
def JY[Lk]:(List Int×Int×Ur×Unit)→Option ((List Int×Int×Int×Int×Unit)):=fun(a0,a1,a2,_)=>
 match Td (a1,())with|none=>none|some (y0,_)=>match(!y0)with
 |true=>some (([]:List (Int)),0,0,1,())
 |false=>match(ilt 1000 (AM a0))with
 |true=>some (([]:List (Int)),0,0,1,())
 |false=>match Qw ((AM a0),a1,())with|none=>none|some (y1,_)=>match CO (y1,(a2.1,(a2.2.1,(a2.2.2.1,()))),())with|none=>none|some (y2,y3,y4,_)=>match(!(ieq y4 0))with
 |true=>some (([]:List (Int)),0,0,y4,())
 |false=>match(CM y1&&CM y1&&ile y1 y1&&true)with
 |true=>match AX EI many (a0,a1,y3,y2,(D3 (AN y1) (0:Int)),(AM y2),(0:Int),())with|none=>none|some r=>match r with
  |.inl (o5,o6,o7,o8,o9,_)=>match PS (o9,())with|none=>none|some (y10,y11,_)=>match(CM (AM o5)&&CM (AM o5)&&ile (AM o5) (AM o5)&&true)with
   |true=>match AX EH many (o5,o6,(D3 (AN (AM o5)) (0:Int)),y11,o7,y10,o8,(AM o8),(0:Int),())with|none=>none|some r=>match r with
    |.inl (o12,o13,o14,_)=>some (o12,o13,(IntKind.wrap .i64 (2*o14)),0,())
    |.inr _=>none
   |false=>none
  |.inr _=>none
 |false=>none
def Nn[Lk]:=fun v=>Lk.f (JY v)
theorem PK v:Nn v=JY v:=AJ _
abbrev AK1:AE:=[(.tmp 0,.dat V0),(.tmp 1,.di),(.tmp 2,.dat Ue)]
abbrev AK0:AE:=[(.tmp 0,.own 87 Ug),(.tmp 1,.dat Ug),(.tmp 2,.di),(.tmp 3,.di)]
abbrev AKz:List RS:=[.one,.one,.one,.one]
def Qr[Lk]:(List Int×Int×Ur×Unit)→Option ((List Int×Int×Int×Int×Unit)):=fun(a0,a1,a2,_)=>
 match Nn (a0,a1,(a2.1,(a2.2.1,(a2.2.2.1,()))),())with|none=>none|some (y0,y1,y2,y3,_)=>some (y0,y1,y2,y3,())
def XQ[Lk]:=fun v=>Lk.f (Qr v)
theorem AAq v:XQ v=Qr v:=AJ _
abbrev AB0:AE:=[(.tmp 0,.dat Uw),(.tmp 1,.dat .bool)]
abbrev ABz:AE:=[(.tmp 0,.own 87 Ug)]
abbrev ABy:List RS:=[.one]
abbrev AIW:AE:=[(.tmp 1,.dat .bool),(.tmp 5,.own 87 Ug),(.tmp 11,.dat Uw),(.tmp 12,.di),(.tmp 13,.di)]
abbrev AIV:Ao:=[(.exit 0,[(.tmp 5,.own 87 Ug)])]
def FZ[Lk]:(Bool×List Int×List Bool×Int×Int×Unit)→Option ((Bool×List Int×List Bool×Int×Int×Unit)⊕Up⊕Unit):=fun(a0,a1,a2,a3,a4,_)=>
 match(ilt a4 a3)with
 |true=>match idx a2 a4 with|none=>none|some x0=>match(!(x0==a0))with
  |true=>match idx a1 a4 with|none=>none|some x1=>some (.inl (a0,(Az a1 (AN a4) 1),a2,a3,(IntKind.wrap .i64 (a4+1)),()))
  |false=>some (.inl (a0,a1,a2,a3,(IntKind.wrap .i64 (a4+1)),()))
 |false=>some (.inr (.inl (a1,())))
def RC[Lk]:(List Bool×Bool×Unit)→Option (Up):=fun(a0,a1,_)=>
 match(CM (AM a0)&&CM (AM a0)&&ile (AM a0) (AM a0)&&true)with
 |true=>match AX FZ many (a1,(D3 (AN (AM a0)) (0:Int)),a0,(AM a0),(0:Int),())with|none=>none|some r=>match r with
  |.inl (o0,_)=>some (o0,())
  |.inr _=>none
 |false=>none
def AB2[Lk]:=fun v=>Lk.f (RC v)
theorem AIX v:AB2 v=RC v:=AJ _
abbrev T4:AE:=[(.tmp 0,.dat V0),(.tmp 1,.di),(.tmp 2,.dat Ue)]
abbrev T3:AE:=[(.tmp 0,.own 3 U0),(.tmp 1,.di),(.tmp 2,.di)]
abbrev T2:List RS:=[.one,.one,.one]
abbrev ABv:AE:=[(.tmp 0,.dat V0),(.tmp 9,.own 87 Ug),(.tmp 11,.di),(.tmp 14,.di),(.tmp 15,.own 3 U0),(.tmp 43,.own 3 U0),(.tmp 44,.di),(.tmp 45,.di)]
abbrev ABu:Ao:=[(.exit 0,[(.tmp 11,.di),(.tmp 14,.di),(.tmp 15,.own 3 U0)])]
def EM[Lk]:V6→Option (V6⊕(Int×Int×List Int×Unit)⊕Unit):=fun(a0,a1,a2,a3,a4,a5,a6,a7,_)=>
 match(ilt a7 a6)with
 |true=>match idx a5 a7 with|none=>none|some x0=>match idx a0 (AY a5 (AN a7) 0)with|none=>none|some x1=>match(ieq x1 1)with
  |true=>match idx a1 (AY a5 (AN a7) 0)with|none=>none|some x2=>match idx a4 (AY a1 (AN (AY a5 (AN a7) 0)) 0)with|none=>none|some x3=>some (.inl (a0,a1,a2,a3,(Az a4 (AN (AY a1 (AN (AY a5 (AN a7) 0)) 0)) (AY a5 (AN a7) 0)),a5,a6,(IntKind.wrap .i64 (a7+1)),()))
  |false=>some (.inl (a0,a1,a2,a3,a4,a5,a6,(IntKind.wrap .i64 (a7+1)),()))
 |false=>some (.inr (.inl (a2,a3,a4,())))
def Nt[Lk]:(List Int×Int×Ur×Unit)→Option (Uy):=fun(a0,a1,a2,_)=>
 match XQ (a0,a1,(a2.1,(a2.2.1,(a2.2.2.1,()))),())with|none=>none|some (y0,y1,y2,y3,_)=>match(!(ieq y3 0))with
 |true=>some (([]:List (Int)),0,y3,())
 |false=>match CO ((AM a0),(a2.1,(a2.2.1,(a2.2.2.1,()))),())with|none=>none|some (y4,y5,y6,_)=>match(!(ieq y6 0))with
 |true=>some (([]:List (Int)),0,y6,())
 |false=>match(CM y1&&CM y1&&ile y1 y1&&true)with
 |true=>match AX EM many (a0,y0,y2,y5,(D3 (AN y1) (0:Int)),y4,(AM y4),(0:Int),())with|none=>none|some r=>match r with
  |.inl (o7,o8,o9,_)=>some (o9,(IntKind.wrap .i64 (o7+o8)),0,())
  |.inr _=>none
 |false=>none
def RB[Lk]:=fun v=>Lk.f (Nt v)
theorem ABw v:RB v=Nt v:=AJ _
abbrev ABq:AE:=[(.tmp 0,.dat Uw),(.tmp 1,.di),(.tmp 2,.dat Ue)]
abbrev ABp:AE:=[(.tmp 0,.own 3 U0),(.tmp 1,.di),(.tmp 2,.di)]
abbrev ABo:List RS:=[.one,.one,.one]
def RA[Lk]:(List Bool×Int×Ur×Unit)→Option (Uy):=fun(a0,a1,a2,_)=>
 match AB2 (a0,false,())with|none=>none|some (y0,_)=>match RB (y0,a1,(a2.1,(a2.2.1,(a2.2.2.1,()))),())with|none=>none|some (y1,y2,y3,_)=>some (y1,y2,y3,())
def ABr[Lk]:=fun v=>Lk.f (RA v)
theorem AIR v:ABr v=RA v:=AJ _
abbrev ALX:AE:=[(.tmp 0,.dat V0),(.tmp 1,.di),(.tmp 2,.di),(.tmp 3,.dat Ue)]
abbrev ALW:AE:=[(.tmp 0,.own 3 U0),(.tmp 1,.di),(.tmp 2,.di)]
abbrev ALV:List RS:=[.one,.one,.one]
abbrev AQY:AE:=[(.tmp 0,.dat V0),(.tmp 1,.di),(.tmp 11,.di),(.tmp 14,.di),(.tmp 16,.own 3 U0),(.tmp 45,.di),(.tmp 46,.di)]
abbrev AQW:Ao:=[(.exit 2,[(.tmp 11,.di),(.tmp 14,.di),(.tmp 16,.own 3 U0)])]
def HZ[Lk]:Va→Option (Va⊕(Int×Int×List Int×Unit)⊕Unit):=fun(a0,a1,a2,a3,a4,a5,a6,_)=>
 match(ilt a6 a5)with
 |true=>match rby (a0,a4,a6,a1,())with|none=>none|some (y0,_)=>some (.inl (a0,a1,a2,a3,y0,a5,(IntKind.wrap .i64 (a6+1)),()))
 |false=>some (.inr (.inl (a2,a3,a4,())))
abbrev AQZ:AE:=[(.tmp 0,.dat V0),(.tmp 1,.di),(.tmp 11,.di),(.tmp 14,.di),(.tmp 16,.own 3 U0),(.tmp 36,.di),(.tmp 37,.di)]
abbrev AQX:Ao:=[(.exit 0,[(.tmp 0,.dat V0),(.tmp 1,.di),(.tmp 11,.di),(.tmp 14,.di),(.tmp 16,.own 3 U0)])]
def Ha[Lk]:Va→Option (Va⊕(List Int×Int×Int×Int×List Int×Unit)⊕Unit):=fun(a0,a1,a2,a3,a4,a5,a6,_)=>
 match(ilt a6 a5)with
 |true=>match(fits ((AM a4)+(AM ([a6]:List (Int)))))with
  |true=>some (.inl (a0,a1,a2,a3,(BX a4 ([a6]:List (Int))),a5,(IntKind.wrap .i64 (a6+1)),()))
  |false=>none
 |false=>some (.inr (.inl (a0,a1,a2,a3,a4,())))
def Q2[Lk]:(List Int×Int×Int×Ur×Unit)→Option (Uy):=fun(a0,a1,a2,a3,_)=>
 match KT (a1,())with|none=>none|some (y0,_)=>match(ieq y0 0)with
 |true=>some (([]:List (Int)),0,1,())
 |false=>match XQ (a0,a2,(a3.1,(a3.2.1,(a3.2.2.1,()))),())with|none=>none|some (y1,y2,y3,y4,_)=>match(!(ieq y4 0))with
 |true=>some (([]:List (Int)),0,y4,())
 |false=>match AX Ha many (a0,a1,y0,y3,([]:List (Int)),(AM a0),0,())with|none=>none|some r=>match r with
 |.inl (o5,o6,o7,o8,o9,_)=>match AX HZ many (o5,o6,o7,o8,o9,o7,0,())with|none=>none|some r=>match r with
  |.inl (o10,o11,o12,_)=>some (o12,(IntKind.wrap .i64 (o11*o10)),0,())
  |.inr _=>none
 |.inr _=>none
def ABQ[Lk]:=fun v=>Lk.f (Q2 v)
theorem ABO v:ABQ v=Q2 v:=AJ _
abbrev To:AE:=[(.tmp 0,.dat V0),(.tmp 1,.dat U7)]
abbrev Tn:AE:=[(.tmp 0,.own 87 Ug),(.tmp 1,.dat .bool)]
abbrev Tm:List RS:=[.one,.one]
abbrev ABM:AE:=[(.tmp 0,.dat V0),(.tmp 6,.own 87 Ug),(.tmp 14,.dat U7),(.tmp 15,.di),(.tmp 16,.di)]
abbrev ABL:Ao:=[(.exit 0,[(.tmp 6,.own 87 Ug)])]
def EK[Lk]:Ve→Option (Ve⊕Up⊕Unit):=fun(a0,a1,a2,a3,a4,_)=>
 match(ilt a4 a3)with
 |true=>match idx a2 a4 with|none=>none|some x0=>match idx a0 x0 with|none=>none|some x1=>match(fits ((AM a1)+(AM ([x1]:List (Int)))))with
  |true=>some (.inl (a0,(BX a1 ([x1]:List (Int))),a2,a3,(IntKind.wrap .i64 (a4+1)),()))
  |false=>none
 |false=>some (.inr (.inl (a1,())))
def Np[Lk]:(List Int×List Int×Unit)→Option ((List Int×Bool×Unit)):=fun(a0,a1,_)=>
 match AQl (a1,(AM a0),())with|none=>none|some (y0,_)=>match(!y0)with
 |true=>some (([]:List (Int)),false,())
 |false=>match AX EK many (a0,([]:List (Int)),a1,(AM a1),0,())with|none=>none|some r=>match r with
 |.inl (o1,_)=>some (o1,true,())
 |.inr _=>none
def Nq[Lk]:=fun v=>Lk.f (Np v)
theorem ABN v:Nq v=Np v:=AJ _
end
end Go.Pev
end
section
namespace Go.Pev
noncomputable section
attribute [local irreducible] Oy LD OR Oa AjV AjW AjY Q9 AGi Qv Yn LO Aj many IntKind.wrap AM Az AY BX Bu F7 D3 AN Br B4 imax AS Ae
abbrev WA:AE:=[(.tmp 0,.dat V0),(.tmp 1,.dat Vc)]
abbrev Vz:AE:=[(.tmp 0,.own 87 Ug),(.tmp 1,.own 3 U0),(.tmp 2,.di),(.tmp 3,.di)]
abbrev Vy:List RS:=[.one,.one,.one,.one]
abbrev AEd:AE:=[(.tmp 9,.di),(.tmp 11,.own 87 Ug),(.tmp 13,.own 3 U0),(.tmp 14,.di),(.tmp 15,.own 87 Ug),(.tmp 16,.own 3 U0),(.tmp 55,.own' 1),(.tmp 56,.di),(.tmp 57,.di)]
abbrev AEc:Ao:=[(.exit 0,[(.tmp 9,.di),(.tmp 14,.di),(.tmp 15,.own 87 Ug),(.tmp 16,.own 3 U0)])]
def EP[Lk]:(Int×List Int×List Int×Int×List Int×List Int×Int×Int×Unit)→Option ((Int×List Int×List Int×Int×List Int×List Int×Int×Int×Unit)⊕(Int×Int×List Int×List Int×Unit)⊕Unit):=fun(a0,a1,a2,a3,a4,a5,a6,a7,_)=>
 match(ilt a7 a6)with
 |true=>match idx a2 a7 with|none=>none|some x0=>match(ilt (IntKind.wrap .i64 (a7+1)) (AM a2))with
  |true=>match idx a2 (IntKind.wrap .i64 (a7+1))with|none=>none|some x1=>match idx a1 (AY a2 (AN a7) 0)with|none=>none|some x2=>match(fits ((AM a4)+(AM ([(AY a1 (AN (AY a2 (AN a7) 0)) 0)]:List (Int)))))with
   |true=>match(fits ((AM a5)+(AM ([(IntKind.wrap .i64 ((AY a2 (AN (IntKind.wrap .i64 (a7+1))) 0)-(AY a2 (AN a7) 0)))]:List (Int)))))with
    |true=>some (.inl (a0,a1,a2,a3,(BX a4 ([(AY a1 (AN (AY a2 (AN a7) 0)) 0)]:List (Int))),(BX a5 ([(IntKind.wrap .i64 ((AY a2 (AN (IntKind.wrap .i64 (a7+1))) 0)-(AY a2 (AN a7) 0)))]:List (Int))),a6,(IntKind.wrap .i64 (a7+1)),()))
    |false=>none
   |false=>none
  |false=>match idx a1 (AY a2 (AN a7) 0)with|none=>none|some x3=>match(fits ((AM a4)+(AM ([(AY a1 (AN (AY a2 (AN a7) 0)) 0)]:List (Int)))))with
  |true=>match(fits ((AM a5)+(AM ([(IntKind.wrap .i64 ((AM a1)-(AY a2 (AN a7) 0)))]:List (Int)))))with
   |true=>some (.inl (a0,a1,a2,a3,(BX a4 ([(AY a1 (AN (AY a2 (AN a7) 0)) 0)]:List (Int))),(BX a5 ([(IntKind.wrap .i64 ((AM a1)-(AY a2 (AN a7) 0)))]:List (Int))),a6,(IntKind.wrap .i64 (a7+1)),()))
   |false=>none
  |false=>none
 |false=>some (.inr (.inl (a0,a3,a4,a5,())))
def J3[Lk]:(List Int×(Int×Int×Ur×Unit)×Unit)→Option ((List Int×List Int×Int×Int×Unit)):=fun(a0,a1,_)=>
 match ABQ (a0,a1.1,a1.2.1,(a1.2.2.1.1,(a1.2.2.1.2.1,(a1.2.2.1.2.2.1,()))),())with|none=>none|some (y0,y1,y2,_)=>match(!(ieq y2 0))with
 |true=>some (([]:List (Int)),([]:List (Int)),0,y2,())
 |false=>match Nq (a0,y0,())with|none=>none|some (y3,y4,_)=>match Rv (y3,())with|none=>none|some (y5,_)=>match ABr (y5,a1.2.1,(a1.2.2.1.1,(a1.2.2.1.2.1,(a1.2.2.1.2.2.1,()))),())with|none=>none|some (y6,y7,y8,_)=>match(!(ieq y8 0))with
 |true=>some (([]:List (Int)),([]:List (Int)),0,y8,())
 |false=>match AX EP many (y1,y3,y6,y7,([]:List (Int)),([]:List (Int)),(AM y6),0,())with|none=>none|some r=>match r with
 |.inl (o9,o10,o11,o12,_)=>some (o11,o12,(IntKind.wrap .i64 (o9+o10)),0,())
 |.inr _=>none
def N8[Lk]:=fun v=>Lk.f (J3 v)
theorem QC v:N8 v=J3 v:=AJ _
abbrev ANf:AE:=[(.tmp 0,.dat V0),(.tmp 1,.dat Vc)]
abbrev ANe:AE:=[(.tmp 0,.own 87 Ug),(.tmp 1,.di),(.tmp 2,.di)]
abbrev ANd:List RS:=[.one,.one,.one]
def Rr[Lk]:(List Int×(Int×Int×Ur×Unit)×Unit)→Option (Uy):=fun(a0,a1,_)=>
 match N8 (a0,(a1.1,(a1.2.1,((a1.2.2.1.1,(a1.2.2.1.2.1,(a1.2.2.1.2.2.1,()))),()))),())with|none=>none|some (y0,y1,y2,y3,_)=>some (y0,y2,y3,())
def YC[Lk]:=fun v=>Lk.f (Rr v)
theorem AEX v:YC v=Rr v:=AJ _
abbrev AEk:AE:=[(.tmp 0,.dat Ut),(.tmp 1,.dat Vc)]
abbrev AEj:AE:=[(.tmp 0,.own 45 U2),(.tmp 1,.di),(.tmp 2,.di)]
abbrev AEi:List RS:=[.one,.one,.one]
abbrev AJV:AE:=[(.tmp 13,.di),(.tmp 14,.di),(.tmp 15,.own 45 U2),(.tmp 48,.own 87 Ug),(.tmp 49,.di),(.tmp 50,.di)]
abbrev AJT:Ao:=[(.exit 2,[(.tmp 13,.di),(.tmp 14,.di),(.tmp 15,.own 45 U2)])]
def DC[Lk]:(Int×Int×List U1×List Int×Int×Int×Unit)→Option ((Int×Int×List U1×List Int×Int×Int×Unit)⊕(Int×Int×List U1×Unit)⊕Unit):=fun(a0,a1,a2,a3,a4,a5,_)=>
 match(ilt a5 a4)with
 |true=>match idx a3 a5 with|none=>none|some x0=>match ATh ((AY a3 (AN a5) 0),())with|none=>none|some (y1,_)=>match(fits ((AM a2)+(AM ([y1]:List U1))))with
  |true=>some (.inl (a0,a1,(BX a2 ([y1]:List U1)),a3,a4,(IntKind.wrap .i64 (a5+1)),()))
  |false=>none
 |false=>some (.inr (.inl (a0,a1,a2,())))
abbrev AJW:AE:=[(.tmp 3,.box 5),(.cell 0 0,.di),(.cell 0 1,.di),(.cell 0 2,.di),(.cell 0 3,.di),(.cell 0 4,.dat (.slice (.arr 2 U0))),(.tmp 7,.own 87 Ug),(.tmp 18,.dat Ut),(.tmp 19,.di),(.tmp 20,.di)]
abbrev AJU:Ao:=[(.ret,[(.tmp 4,.nil U2),(.tmp 5,.di),(.tmp 6,.di)]),(.exit 0,[(.tmp 3,.box 5),(.cell 0 0,.di),(.cell 0 1,.di),(.cell 0 2,.di),(.cell 0 3,.di),(.cell 0 4,.dat (.slice (.arr 2 U0))),(.tmp 7,.own 87 Ug)])]
def F6[Lk]:(Int×Int×Int×Int×List U5×List Int×List U1×Int×Int×Unit)→Option ((Int×Int×Int×Int×List U5×List Int×List U1×Int×Int×Unit)⊕U1⊕(Int×Int×Int×Int×List U5×List Int×Unit)⊕Unit):=fun(a0,a1,a2,a3,a4,a5,a6,a7,a8,_)=>
 match(ilt a8 a7)with
 |true=>match idx a6 a8 with|none=>none|some x0=>match AkP ((x0.1,(x0.2.1,())),())with|none=>none|some (y1,y2,_)=>match(!y2)with
  |true=>some (.inr (.inl (0,10,())))
  |false=>match(!(ieq x0.1 x0.2.1))with
  |true=>match(fits ((AM a5)+(AM ([y1]:List (Int)))))with
   |true=>some (.inl (a0,a1,a2,a3,a4,(BX a5 ([y1]:List (Int))),a6,a7,(IntKind.wrap .i64 (a8+1)),()))
   |false=>none
  |false=>some (.inl (a0,a1,a2,a3,a4,a5,a6,a7,(IntKind.wrap .i64 (a8+1)),()))
 |false=>some (.inr (.inr (.inl (a0,a1,a2,a3,a4,a5,()))))
def My[Lk]:(List U1×(Int×Int×Ur×Unit)×Unit)→Option (Ud):=fun(a0,a1,_)=>
 match AX F6 many (a1.1,a1.2.1,a1.2.2.1.1,a1.2.2.1.2.1,a1.2.2.1.2.2.1,([]:List (Int)),a0,(AM a0),0,())with|none=>none|some r=>match r with
 |.inl (o0,o1,_)=>some (([]:List U1),o0,o1,())
 |.inr r=>match r with
 |.inl (o2,o3,o4,o5,o6,o7,_)=>match YC (o7,(o2,(o3,((o4,(o5,(o6,()))),()))),())with|none=>none|some (y8,y9,y10,_)=>match AX DC many (y9,y10,([]:List U1),y8,(AM y8),0,())with|none=>none|some r=>match r with
  |.inl (o11,o12,o13,_)=>some (o13,o11,o12,())
  |.inr _=>none
 |.inr _=>none
def WJ[Lk]:=fun v=>Lk.f (My v)
theorem WI v:WJ v=My v:=AJ _
abbrev Kp:AE:=[(.tmp 0,.dat U7),(.cap 1 0,.box 2),(.cell 0 0,.di),(.cell 0 1,.dat V8),(.tmp 1,.clo 30 [(0,0)])]
abbrev Ko:AE:=[(.obj 0,.box 2),(.cell 0 0,.di),(.cell 0 1,.dat V8),(.tmp 0,.di)]
abbrev Km:List RS:=[.one]
abbrev Oi:AE:=[(.obj 0,.box 2),(.cell 0 0,.di),(.cell 0 1,.dat V8),(.tmp 0,.dat U7),(.tmp 1,.clo 30 [(0,0)]),(.tmp 7,.di),(.tmp 8,.di)]
abbrev Oh:Ao:=[(.ret,[(.obj 0,.box 2),(.cell 0 0,.di),(.cell 0 1,.dat V8),(.tmp 4,.di)]),(.exit 0,[(.obj 0,.box 2),(.cell 0 0,.di),(.cell 0 1,.dat V8)])]
def Cf[Lk]:(Int×List U4×List Int×Int×Int×Unit)→Option ((Int×List U4×List Int×Int×Int×Unit)⊕(Int×List U4×Int×Unit)⊕(Int×List U4×Unit)⊕Unit):=fun(a0,a1,a2,a3,a4,_)=>
 match(ilt a4 a3)with
 |true=>match idx a2 a4 with|none=>none|some x0=>match(ile a0 x0)with
  |true=>some (.inr (.inl (a0,a1,a4,())))
  |false=>some (.inl (a0,a1,a2,a3,(IntKind.wrap .i64 (a4+1)),()))
 |false=>some (.inr (.inr (.inl (a0,a1,()))))
def G7[Lk]:(List Int×Int×List U4×Unit)→Option ((Int×List U4×Int×Unit)):=fun(a0,a1,a2,_)=>
 match AX Cf many (a1,a2,a0,(AM a0),0,())with|none=>none|some r=>match r with
 |.inl (o0,o1,o2,_)=>some (o0,o1,o2,())
 |.inr r=>match r with
 |.inl (o3,o4,_)=>some (o3,o4,(-1:Int),())
 |.inr _=>none
def Kr[Lk]:=fun v=>Lk.f (G7 v)
theorem Oj v:Kr v=G7 v:=AJ _
abbrev JG:AE:=[(.tmp 0,.dat U7),(.cap 1 0,.box 2),(.cell 0 0,.di),(.cell 0 1,.dat V8),(.tmp 1,.clo 30 [(0,0)])]
abbrev JF:AE:=[(.obj 0,.box 2),(.cell 0 0,.di),(.cell 0 1,.dat V8),(.tmp 0,.dat .bool)]
abbrev JE:List RS:=[.one]
def GV[Lk]:(List Int×Int×List U4×Unit)→Option ((Int×List U4×Bool×Unit)):=fun(a0,a1,a2,_)=>
 match Kr (a0,a1,a2,())with|none=>none|some (y0,y1,y2,_)=>some (y0,y1,(ile 0 y2),())
def Gi[Lk]:=fun v=>Lk.f (GV v)
theorem M6 v:Gi v=GV v:=AJ _
abbrev AFm:AE:=[(.tmp 0,.dat Uv),(.tmp 1,.dat Uf),(.tmp 2,.dat Vc)]
abbrev AFl:AE:=[(.tmp 0,.di),(.tmp 1,.own 45 U2),(.tmp 2,.dat Vg),(.tmp 3,.di),(.tmp 4,.di)]
abbrev AFk:List RS:=[.agg 3,.one,.one]
def H6[Lk]:(V5×Us×(Int×Int×Ur×Unit)×Unit)→Option ((Int×List U1×List Ub×Int×Int×Unit)):=fun(a0,a1,a2,_)=>
 match Fg ((a0.1,(a0.2.1,())),())with|none=>none|some (y0,_)=>match(!y0)with
 |true=>some (0,([]:List U1),([]:List Ub),0,1,())
 |false=>match Z3 ((a1.1,(a1.2.1,(a1.2.2.1,()))),())with|none=>none|some (y1,_)=>match(!y1)with
 |true=>some (0,([]:List U1),([]:List Ub),0,1,())
 |false=>match AJn ((a1.1,(a1.2.1,(a1.2.2.1,()))),())with|none=>none|some (y2,_)=>match Gi (y2,a0.1,a0.2.1,())with|none=>none|some (y3,y4,y5,_)=>match y5 with
 |true=>some (0,([]:List U1),([]:List Ub),0,10,())
 |false=>match(ieq a1.1 3)with
 |true=>some (a1.1,([]:List U1),a1.2.2.1,0,0,())
 |false=>match WJ (a1.2.1,(a2.1,(a2.2.1,((a2.2.2.1.1,(a2.2.2.1.2.1,(a2.2.2.1.2.2.1,()))),()))),())with|none=>none|some (y6,y7,y8,_)=>match(!(ieq y8 0))with
 |true=>some (0,([]:List U1),([]:List Ub),0,y8,())
 |false=>match(ieq a1.1 2)with
 |true=>match AQ9 ((y3,(y4,())),y6,())with|none=>none|some (y9,y10,_)=>some (a1.1,y9,([]:List Ub),y7,y10,())
 |false=>match Ajt ((y3,(y4,())),y6,())with|none=>none|some (y11,y12,_)=>match AJr ((y3,(y4,())),())with|none=>none|some (y13,_)=>match(ilt y13 (AM y11))with
 |true=>some (0,([]:List U1),([]:List Ub),0,2,())
 |false=>some (a1.1,y11,([]:List Ub),y7,y12,())
def C3[Lk]:=fun v=>Lk.f (H6 v)
theorem KA v:C3 v=H6 v:=AJ _
abbrev AA5:AE:=[(.tmp 0,.dat Uf),(.tmp 1,.dat Uf)]
abbrev AA4:AE:=[(.tmp 0,.dat .bool)]
abbrev AA3:List RS:=[.one]
abbrev AIA:AE:=[(.tmp 2,.box 3),(.cell 0 0,.di),(.cell 0 1,.dat Ut),(.cell 0 2,.dat Vg),(.tmp 3,.box 3),(.cell 1 0,.di),(.cell 1 1,.dat Ut),(.cell 1 2,.dat Vg),(.tmp 5,.di)]
abbrev AH9:Ao:=[(.ret,[(.tmp 4,.dat .bool)]),(.exit 0,[])]
def FT[Lk]:(Int×List U1×List Ub×Int×List U1×List Ub×Int×Unit)→Option ((Int×List U1×List Ub×Int×List U1×List Ub×Int×Unit)⊕Ui⊕(Unit)⊕Unit):=fun(a0,a1,a2,a3,a4,a5,a6,_)=>
 match(ilt a6 (AM a2))with
 |true=>match idx a2 a6 with|none=>none|some x0=>match idx a5 a6 with|none=>none|some x1=>match(!(ieq x0.1 x1.1&&(ieq x0.2.1 x1.2.1&&(ieq x0.2.2.1 x1.2.2.1&&true))))with
  |true=>some (.inr (.inl (false,())))
  |false=>some (.inl (a0,a1,a2,a3,a4,a5,(IntKind.wrap .i64 (a6+1)),()))
 |false=>some (.inr (.inr (.inl ())))
def Qx[Lk]:(Us×Us×Unit)→Option (Ui):=fun(a0,a1,_)=>
 match(!(ieq a0.1 a1.1))with
 |true=>some (false,())
 |false=>match(!(ieq (AM a0.2.2.1) (AM a1.2.2.1)))with
 |true=>some (false,())
 |false=>match ABB (a0.2.1,a1.2.1,())with|none=>none|some (y0,_)=>match(!y0)with
 |true=>some (false,())
 |false=>match AX FT many (a0.1,a0.2.1,a0.2.2.1,a1.1,a1.2.1,a1.2.2.1,0,())with|none=>none|some r=>match r with
 |.inl (o1,_)=>some (o1,())
 |.inr r=>match r with
 |.inl _=>some (true,())
 |.inr _=>none
def I6[Lk]:=fun v=>Lk.f (Qx v)
theorem AIB v:I6 v=Qx v:=AJ _
abbrev T1:AE:=[(.tmp 0,.dat Ue)]
abbrev Tz:AE:=[(.tmp 0,.dat .bool)]
abbrev Tx:List RS:=[.one]
def Nr[Lk]:(Ur×Unit)→Option (Ui):=fun(a0,_)=>
 match(ile 1 a0.1)with
 |true=>match(ile a0.1 100)with
  |true=>match(ile 1 a0.2.1)with
   |true=>match(ile a0.2.1 8)with
    |true=>some ((ile (AM a0.2.2.1) 4000),())
    |false=>some (false,())
   |false=>some (false,())
  |false=>some (false,())
 |false=>some (false,())
def IT[Lk]:=fun v=>Lk.f (Nr v)
theorem ABf v:IT v=Nr v:=AJ _
end
end Go.Pev
end
section
namespace Go.Pev
noncomputable section
attribute [local irreducible] Oy LD OR Oa AjV AjW AjY Q9 AGi Qv Yn LO Aj many IntKind.wrap AM Az AY BX Bu F7 D3 AN Br B4 imax AS Ae
abbrev VT:AE:=[(.tmp 0,.dat Uv),(.tmp 1,.dat Uf),(.tmp 2,.dat Vc)]
abbrev VS:AE:=[(.tmp 0,.dat .bool)]
abbrev VR:List RS:=[.one]
def N1[Lk]:(V5×Us×(Int×Int×Ur×Unit)×Unit)→Option (Ui):=fun(a0,a1,a2,_)=>
 match(ilt 30 (AM a0.2.1))with
 |true=>some (true,())
 |false=>match(ilt 12 a0.1)with
 |true=>some (true,())
 |false=>match(ilt 30 (IntKind.wrap .i64 ((AM a1.2.1)+(AM a1.2.2.1))))with
 |true=>some (true,())
 |false=>some ((ilt 60 (AM a2.2.2.1.2.2.1)),())
def N2[Lk]:=fun v=>Lk.f (N1 v)
theorem ADj v:N2 v=N1 v:=AJ _
abbrev Wi:AE:=[]
abbrev Wh:AE:=[(.tmp 0,.dat .bool)]
abbrev Wg:List RS:=[.one]
def Wj[Lk]:(Unit)→Option (Ui):=fun _=>
 match C3 ((5,(([(1,(2,(0,(true,()))))]:List U4),())),(1,(([(2,(1,())),(4,(0,())),(3,(3,())),(0,(4,()))]:List U1),(([]:List Ub),()))),(8,(4,((1,(1,(([]:List U5),()))),()))),())with|none=>none|some (y0,y1,y2,y3,y4,_)=>match C3 ((5,(([(1,(2,(0,(true,()))))]:List U4),())),(2,(([(2,(1,())),(4,(0,())),(3,(3,())),(0,(4,()))]:List U1),(([]:List Ub),()))),(8,(4,((1,(1,(([]:List U5),()))),()))),())with|none=>none|some (y5,y6,y7,y8,y9,_)=>match C3 ((5,(([(1,(2,(0,(true,()))))]:List U4),())),(3,(([]:List U1),(([(4,(99,(0,())))]:List Ub),()))),(8,(4,((1,(1,(([]:List U5),()))),()))),())with|none=>none|some (y10,y11,y12,y13,y14,_)=>match C3 ((5,(([(1,(2,(0,(true,()))))]:List U4),())),(2,(([(5,(0,()))]:List U1),(([]:List Ub),()))),(8,(4,((1,(1,(([]:List U5),()))),()))),())with|none=>none|some (y15,y16,y17,y18,y19,_)=>match(ieq y4 0)with
 |true=>match(ieq y9 0)with
  |true=>match(ieq y14 0)with
   |true=>match(ieq y19 10)with
    |true=>match(ieq y3 y8)with
     |true=>match(ilt 0 y3)with
      |true=>match(ieq y13 0)with
       |true=>match I6 ((y0,(y1,(y2,()))),(1,(([(0,(4,()))]:List U1),(([]:List Ub),()))),())with|none=>none|some (y20,_)=>match y20 with
        |true=>match I6 ((y5,(y6,(y7,()))),(2,(([(1,(2,()))]:List U1),(([]:List Ub),()))),())with|none=>none|some (y21,_)=>match y21 with
         |true=>match(ieq (AM y12) 1)with
          |true=>match AJr ((5,(([(1,(2,(0,(true,()))))]:List U4),())),())with|none=>none|some (y22,_)=>match(ieq y22 399)with
           |true=>match AJn ((0,(([(2,(1,())),(4,(0,())),(3,(3,())),(0,(4,()))]:List U1),(([]:List Ub),()))),())with|none=>none|some (y23,_)=>match(ieq (AM y23) 8)with
            |true=>match Abj ((y0,(y1,(y2,()))),(y0,(y1,(y2,()))),())with|none=>none|some (y24,_)=>some (y24,())
            |false=>some (false,())
           |false=>some (false,())
          |false=>some (false,())
         |false=>some (false,())
        |false=>some (false,())
       |false=>some (false,())
      |false=>some (false,())
     |false=>some (false,())
    |false=>some (false,())
   |false=>some (false,())
  |false=>some (false,())
 |false=>some (false,())
def Iq[Lk]:=fun v=>Lk.f (Wj v)
theorem AZ2 v:Iq v=Wj v:=AJ _
abbrev AD5:AE:=[(.tmp 0,.dat Uv),(.tmp 1,.di),(.tmp 2,.di)]
abbrev AD4:AE:=[(.tmp 0,.di)]
abbrev AD3:List RS:=[.one]
abbrev AJC:AE:=[(.tmp 1,.di),(.tmp 2,.di),(.tmp 3,.box 2),(.cell 0 0,.di),(.cell 0 1,.dat V8),(.tmp 7,.di)]
abbrev AJB:Ao:=[(.ret,[(.tmp 6,.di)]),(.exit 0,[])]
def Fy[Lk]:(Int×Int×Int×List U4×Int×Unit)→Option ((Int×Int×Int×List U4×Int×Unit)⊕Ua⊕(Unit)⊕Unit):=fun(a0,a1,a2,a3,a4,_)=>
 match(ilt a4 (AM a3))with
 |true=>match idx a3 a4 with|none=>none|some x0=>match(ieq x0.1 (B4 a0 a1))with
  |true=>match idx a3 a4 with|none=>none|some x1=>match(ieq x1.2.1 (imax a0 a1))with
   |true=>some (.inr (.inl (a4,())))
   |false=>some (.inl (a0,a1,a2,a3,(IntKind.wrap .i64 (a4+1)),()))
  |false=>some (.inl (a0,a1,a2,a3,(IntKind.wrap .i64 (a4+1)),()))
 |false=>some (.inr (.inr (.inl ())))
def Ri[Lk]:(V5×Int×Int×Unit)→Option (Ua):=fun(a0,a1,a2,_)=>
 match G5 ((a0.1,(a0.2.1,())),())with|none=>none|some (y0,_)=>match(!y0)with
 |true=>some ((-1:Int),())
 |false=>match AX Fy many (a1,a2,a0.1,a0.2.1,0,())with|none=>none|some r=>match r with
 |.inl (o1,_)=>some (o1,())
 |.inr r=>match r with
 |.inl _=>some ((-1:Int),())
 |.inr _=>none
def VY[Lk]:=fun v=>Lk.f (Ri v)
theorem AJD v:VY v=Ri v:=AJ _
abbrev LX:AE:=[(.tmp 0,.dat Uv),(.tmp 1,.dat Uf),(.tmp 2,.dat Vc)]
abbrev LW:AE:=[(.tmp 0,.dat .bool)]
abbrev LV:List RS:=[.one]
abbrev O4:AE:=[(.tmp 3,.box 2),(.cell 0 0,.di),(.cell 0 1,.dat V8),(.tmp 4,.box 3),(.cell 1 0,.di),(.cell 1 1,.dat Ut),(.cell 1 2,.dat Vg),(.tmp 5,.box 5),(.cell 2 0,.di),(.cell 2 1,.di),(.cell 2 2,.di),(.cell 2 3,.di),(.cell 2 4,.dat (.slice (.arr 2 U0))),(.tmp 7,.box 3),(.cell 3 0,.di),(.cell 3 1,.dat Ut),(.cell 3 2,.dat Vg),(.tmp 8,.di),(.tmp 16,.di)]
abbrev O3:Ao:=[(.ret,[(.tmp 6,.dat .bool)]),(.exit 0,[(.tmp 4,.box 3),(.cell 0 0,.di),(.cell 0 1,.dat Ut),(.cell 0 2,.dat Vg),(.tmp 5,.box 5),(.cell 1 0,.di),(.cell 1 1,.di),(.cell 1 2,.di),(.cell 1 3,.di),(.cell 1 4,.dat (.slice (.arr 2 U0))),(.tmp 7,.box 3),(.cell 2 0,.di),(.cell 2 1,.dat Ut),(.cell 2 2,.dat Vg),(.tmp 8,.di)])]
def CE[Lk]:Vk→Option (Vk⊕Ui⊕(Int×List U1×List Ub×Int×Int×Int×Int×List U5×Int×List U1×List Ub×Int×Unit)⊕Unit):=fun(a0,a1,a2,a3,a4,a5,a6,a7,a8,a9,a10,a11,a12,a13,a14,_)=>
 match(ilt a14 (AM a11))with
 |true=>match idx a11 a14 with|none=>none|some x0=>match VY ((a0,(a1,())),x0.1,x0.2.1,())with|none=>none|some (y1,_)=>match(ile x0.2.1 x0.1)with
  |true=>some (.inr (.inl (false,())))
  |false=>match(!((ile 0 y1)==(ieq a2 2)))with
  |true=>some (.inr (.inl (false,())))
  |false=>match(ilt 0 a14)with
  |true=>match idx a11 (IntKind.wrap .i64 (a14-1))with|none=>none|some x2=>match(ilt x0.1 x2.1)with
   |true=>some (.inr (.inl (false,())))
   |false=>match idx a11 (IntKind.wrap .i64 (a14-1))with|none=>none|some x3=>match(ieq x3.1 x0.1)with
   |true=>match idx a11 (IntKind.wrap .i64 (a14-1))with|none=>none|some x4=>match(ile x0.2.1 x4.2.1)with
    |true=>some (.inr (.inl (false,())))
    |false=>some (.inl (a0,a1,a2,a3,a4,a5,a6,a7,a8,a9,a10,a11,a12,a13,(IntKind.wrap .i64 (a14+1)),()))
   |false=>some (.inl (a0,a1,a2,a3,a4,a5,a6,a7,a8,a9,a10,a11,a12,a13,(IntKind.wrap .i64 (a14+1)),()))
  |false=>some (.inl (a0,a1,a2,a3,a4,a5,a6,a7,a8,a9,a10,a11,a12,a13,(IntKind.wrap .i64 (a14+1)),()))
 |false=>some (.inr (.inr (.inl (a2,a3,a4,a5,a6,a7,a8,a9,a10,a11,a12,a13,()))))
def HE[Lk]:(V5×Us×(Int×Int×Ur×Unit)×Unit)→Option (Ui):=fun(a0,a1,a2,_)=>
 match Iq ()with|none=>none|some (y0,_)=>match(!y0)with
 |true=>some (false,())
 |false=>match N2 ((a0.1,(a0.2.1,())),(a1.1,(a1.2.1,(a1.2.2.1,()))),(a2.1,(a2.2.1,((a2.2.2.1.1,(a2.2.2.1.2.1,(a2.2.2.1.2.2.1,()))),()))),())with|none=>none|some (y1,_)=>match y1 with
 |true=>some (true,())
 |false=>match C3 ((a0.1,(a0.2.1,())),(a1.1,(a1.2.1,(a1.2.2.1,()))),(a2.1,(a2.2.1,((a2.2.2.1.1,(a2.2.2.1.2.1,(a2.2.2.1.2.2.1,()))),()))),())with|none=>none|some (y2,y3,y4,y5,y6,_)=>match(!(ieq y6 0))with
 |true=>match(ieq y5 0)with
  |true=>some ((ieq y2 0),())
  |false=>some (false,())
 |false=>match C3 ((a0.1,(a0.2.1,())),(y2,(y3,(y4,()))),(a2.1,(a2.2.1,((a2.2.2.1.1,(a2.2.2.1.2.1,(a2.2.2.1.2.2.1,()))),()))),())with|none=>none|some (y7,y8,y9,y10,y11,_)=>match C3 ((a0.1,(a0.2.1,())),(a1.1,(a1.2.1,(a1.2.2.1,()))),(16,(100,((100,(1,(([]:List U5),()))),()))),())with|none=>none|some (y12,y13,y14,y15,y16,_)=>match(!(ieq y11 0))with
 |true=>some (false,())
 |false=>match(!(ieq y16 0))with
 |true=>some (false,())
 |false=>match I6 ((y7,(y8,(y9,()))),(y2,(y3,(y4,()))),())with|none=>none|some (y17,_)=>match(!y17)with
 |true=>some (false,())
 |false=>match I6 ((y12,(y13,(y14,()))),(y2,(y3,(y4,()))),())with|none=>none|some (y18,_)=>match(!y18)with
 |true=>some (false,())
 |false=>match(!(ieq y2 a1.1))with
 |true=>some (false,())
 |false=>match(!(ieq (AM y4) (AM a1.2.2.1)))with
 |true=>some (false,())
 |false=>match AX CE many (a0.1,a0.2.1,a1.1,a1.2.1,a1.2.2.1,a2.1,a2.2.1,a2.2.2.1.1,a2.2.2.1.2.1,a2.2.2.1.2.2.1,y2,y3,y4,y5,0,())with|none=>none|some r=>match r with
 |.inl (o19,_)=>some (o19,())
 |.inr r=>match r with
 |.inl (o20,o21,o22,o23,o24,o25,o26,o27,o28,o29,o30,o31,_)=>match(ile (AM o29) (AM o21))with
  |true=>match(ilt 0 o31)with
   |true=>match IT ((o25,(o26,(o27,()))),())with|none=>none|some (y32,_)=>match y32 with
    |true=>some (true,())
    |false=>some ((ieq o28 3),())
   |false=>match(ieq (AM o29) 0)with
   |true=>match IT ((o25,(o26,(o27,()))),())with|none=>none|some (y33,_)=>match y33 with
    |true=>some (true,())
    |false=>some ((ieq o28 3),())
   |false=>some ((ieq o28 3),())
  |false=>some ((ieq o28 3),())
 |.inr _=>none
def GD[Lk]:=fun v=>Lk.f (HE v)
theorem O5 v:GD v=HE v:=AJ _
end
end Go.Pev
end
section

end
section
namespace Go.Pev.Pl
theorem AOl:Iq ()=some (true,()):=by
 rw[show Iq () = @Iq idI ()from Aqy (fun i=>@Iq i ()) ADK]
 kernel_rfl
end Go.Pev.Pl
end
section
namespace Go.Pev.Pl
theorem Ah{n:Int}(h:-9223372036854775808≤n∧n≤9223372036854775807):IntKind.wrap .i64 n=n:=IntWalk.i64_in n h
section
variable {α:Type} [Inhabited α]
theorem A4{d:Array α}{n:Nat}(h:n<d.size):idx d.toList (n:Int)=some d[n]! := by
 rw[idx_eq,OR,ApV (by omega)]
 simp[h]
theorem BZ{d:Array α}{n:Nat}{z:α}(h:n<d.size):AY d.toList (AN (n:Int)) z=d[n]! := by
 simp[AY,AN,h]
theorem Il{d:Array α}{n:Nat}{x:α}:Az d.toList (AN (n:Int)) x=(d.setIfInBounds n x).toList:=by
 simp[Az,AN]
theorem Abb{d:Array α}:AM d.toList=(d.size:Int):=by simp[AM]
theorem JW(d:Array α)(i j:Nat):(d.setIfInBounds i d[j]!).setIfInBounds j d[i]! = Go.Sort.swp d i j:=rfl
theorem size_swp(d:Array α)(i j:Nat):(Go.Sort.swp d i j).size=d.size:=by simp[Go.Sort.swp]
end
theorem AL(a b:Nat):ilt (a:Int) (b:Int)=decide (a<b):=by rw[Af];simp
theorem DG(a b:Nat):ile (a:Int) (b:Int)=decide (a≤b):=by rw[An];simp
theorem AMu(a b:Nat):ieq (a:Int) (b:Int)=decide (a=b):=by
 rw[CN]
 by_cases h:a=b
 ·simp[h]
 ·simp[h];omega
section
theorem wrap_add{a b:Nat}(h:a+b<9223372036854775808):IntKind.wrap .i64 ((a:Int)+(b:Int))=((a+b:Nat):Int):=by rw[Ah (by omega)];omega
theorem AP{a:Nat}(h:a+1<9223372036854775808):IntKind.wrap .i64 ((a:Int)+1)=((a+1:Nat):Int):=by rw[Ah (by omega)];omega
theorem Ab1{a:Nat}(h:2*a<9223372036854775808):IntKind.wrap .i64 ((2:Int)*(a:Int))=((2*a:Nat):Int):=by rw[Ah (by omega)];omega
theorem Ab0{a:Nat}(h:a<9223372036854775808):IntKind.wrap .i64 ((a:Int)*1)=((a*1:Nat):Int):=by rw[Ah (by omega)];omega
theorem Nf{a:Nat}(h:a*2<9223372036854775808):IntKind.wrap .i64 ((a:Int)*2)=((a*2:Nat):Int):=by rw[Ah (by omega)];omega
theorem Abz{a:Nat}(h:a*3<9223372036854775808):IntKind.wrap .i64 ((a:Int)*3)=((a*3:Nat):Int):=by rw[Ah (by omega)];omega
theorem DK{a b:Nat}(h:b≤a∧a<9223372036854775808):IntKind.wrap .i64 ((a:Int)-(b:Int))=((a-b:Nat):Int):=by rw[Ah (by omega)];omega
theorem BA{a:Nat}(h:1≤a∧a<9223372036854775808):IntKind.wrap .i64 ((a:Int)-1)=((a-1:Nat):Int):=by rw[Ah (by omega)];omega
theorem Anp{a:Nat}(h:a<9223372036854775808):quo? .i64 (a:Int) 2=some ((a/2:Nat):Int):=by
 rw[Pb,Q9,ApV (by omega),Ark (by omega),Ah (by omega)];rfl
theorem Aah{a:Nat}(h:a<9223372036854775808):quo? .i64 (a:Int) 4=some ((a/4:Nat):Int):=by
 rw[Pb,Q9,ApV (by omega),Ark (by omega),Ah (by omega)];rfl
theorem Ao0{a:Nat}(h:a<9223372036854775808):quo? .i64 (a:Int) 8=some ((a/8:Nat):Int):=by
 rw[Pb,Q9,ApV (by omega),Ark (by omega),Ah (by omega)];rfl
end
end Go.Pev.Pl
end
section
namespace Go.Pev.Pl
section
variable {α:Type}
theorem Lx{xs:List α}{n:Nat}(z:α)(h:n<xs.length):idx xs (n:Int)=some (xs.getD n z):=by
 rw[idx_eq,OR,ApV (by omega)]
 simp[h]
theorem Aoa{xs:List α}{n:Nat}(h:n<xs.length):∃ x,idx xs (n:Int)=some x:=by
 rw[idx_eq,OR,ApV (by omega)]
 exact⟨xs[n],by simp[h]⟩
theorem AMv(xs:List α)(n:Nat):idx xs (n:Int)=xs[n]? := by
 rw[idx_eq,OR,ApV (by omega)]
 simp
theorem Js(xs:List α):idx xs (0:Int)=xs.head? := by
 rw[idx_eq,OR,ApV (by omega)]
 cases xs<;>rfl
theorem QD(xs:List α)(n:Nat)(z:α):AY xs (AN (n:Int)) z=xs.getD n z:=by simp[AY,AN]
theorem DZ(xs:List α)(n:Nat)(x:α):Az xs (AN (n:Int)) x=xs.set n x:=by simp[Az,AN]
theorem AR(xs:List α):AM xs=(xs.length:Int):=rfl
theorem AEY(n:Nat):AN (n:Int)=n:=by simp[AN]
theorem ES(xs ys:List α):BX xs ys=xs++ys:=rfl
theorem AKx{xs:List α}{l h:Nat}(h1:l≤h)(h2:h≤xs.length):EF xs (l:Int) (h:Int)=some ((xs.take h).drop l):=by
 rw[ZP,Oa,ApZ (by omega)]
 simp
end
theorem Bm{n:Int}(h:n≤4294967296):fits n=true:=(Ge n).2 h
theorem LP{α:Type}{xs:List α}(h:xs.length≤4294967296):QJ xs=some xs:=by
 rw[AJd,LO,(VX _).2 (by rw[AR];omega)]
theorem AjX{α β:Type}(xs:List α)(ys:List β):ieq (AM xs) (AM ys)=decide (xs.length=ys.length):=by rw[AR,AR,AMu]
theorem Ad(a b:Int):ieq a b=decide (a=b):=by
 rw[CN]
 by_cases h:a=b<;>simp[h]
def walk{α β ρ:Type}(f:β→α→α⊕ρ)(fin:α→ρ):List β→α→ρ
 |[],a=>fin a
 |x::xs,a=>match f x a with
  |.inl a=>walk f fin xs a
  |.inr r=>r
theorem Ab4{σ ρ α β:Type}{step:σ→Option (σ⊕ρ)}(st:Nat→α→σ)(xs:List β)(f:β→α→α⊕ρ)(fin:α→ρ)(I:Nat→α→Prop)
  (h:∀ i x a,i<xs.length→xs[i]? = some x→I i a→(∀ a',f x a = .inl a'→step (st i a)=some (.inl (st (i+1) a'))∧I (i+1) a')∧(∀ r,f x a = .inr r→step (st i a)=some (.inr r)))
  (hN:∀ a,I xs.length a→step (st xs.length a)=some (.inr (fin a))) :
  ∀ (m i n:Nat) (a:α),xs.length-i=m→i≤xs.length→m<n→I i a→Aj step n (st i a)=some (walk f fin (xs.drop i) a):=by
 intro m
 induction m with
 |zero=>
  intro i n a hk hi hn hI
  obtain⟨n,rfl⟩:∃ k,n=k+1:=⟨n-1,by omega⟩
  have e:i=xs.length:=by omega
  subst e
  rw[Aj,hN a hI,List.drop_length]
  rfl
 |succ m ih=>
  intro i n a hk hi hn hI
  obtain⟨n,rfl⟩:∃ k,n=k+1:=⟨n-1,by omega⟩
  have hi':i<xs.length:=by omega
  obtain⟨g1,g2⟩:=h i xs[i] a hi' (by simp[hi']) hI
  rw[AqF hi',walk,Aj]
  cases hf:f xs[i] a with
  |inl a'=>
   obtain⟨e,hI'⟩:=g1 a' hf
   rw[e]
   exact ih (i+1) n a' (by omega) (by omega) (by omega) hI'
  |inr r=>rw[g2 r hf]
theorem Er{σ ρ α β:Type}{step:σ→Option (σ⊕ρ)}(st:Nat→α→σ)(xs:List β)(f:β→α→α⊕ρ)(fin:α→ρ)(I:Nat→α→Prop)(hs:xs.length<9223372036854775808)
  (h:∀ i x a,i<xs.length→xs[i]? = some x→I i a→(∀ a',f x a = .inl a'→step (st i a)=some (.inl (st (i+1) a'))∧I (i+1) a')∧(∀ r,f x a = .inr r→step (st i a)=some (.inr r)))
  (hN:∀ a,I xs.length a→step (st xs.length a)=some (.inr (fin a))) (a:α) (h0:I 0 a):AX step many (st 0 a)=some (walk f fin xs a):=by
 have hm:9223372036854775808<many:=by simp only[many];omega
 rw[A3,Ab4 st xs f fin I h hN xs.length 0 many a (by omega) (by omega) (by omega) h0]
 rfl
theorem ANV{α:Type}{xs ys:List α}(z:α)(hl:xs.length=ys.length)(h:∀ j,j<xs.length→xs.getD j z=ys.getD j z):xs=ys:=by
 apply Aru hl
 intro i h1 h2
 have:=h i h1
 simpa [h1,h2]using this
theorem Acm{σ ρ:Type}{step:σ→Option (σ⊕ρ)}(st:Nat→σ)(N:Nat)(P:Nat→Bool)(rt:Nat→ρ)(rf:ρ)
  (h:∀ i,i<N→step (st i)=if P i then some (.inr (rt i))else some (.inl (st (i+1)))) (hN:step (st N)=some (.inr rf)) :
  ∀ (m i n:Nat),N-i=m→i≤N→m<n→(∃ k,i≤k∧k<N∧P k=true∧(∀ j,i≤j→j<k→P j=false)∧Aj step n (st i)=some (rt k))∨((∀ j,i≤j→j<N→P j=false)∧Aj step n (st i)=some rf):=by
 intro m
 induction m with
 |zero=>
  intro i n hk hi hn
  obtain⟨n,rfl⟩:∃ k,n=k+1:=⟨n-1,by omega⟩
  have e:i=N:=by omega
  subst e
  exact .inr ⟨fun j h1 h2=>by omega,by rw[Aj,hN]⟩
 |succ m ih=>
  intro i n hk hi hn
  obtain⟨n,rfl⟩:∃ k,n=k+1:=⟨n-1,by omega⟩
  have hi':i<N:=by omega
  cases hP:P i
  ·have e:Aj step (n+1) (st i)=Aj step n (st (i+1)):=by rw[Aj,h i hi',hP];rfl
   rw[e]
   rcases ih (i+1) n (by omega) (by omega) (by omega)with⟨k,h1,h2,h3,h4,h5⟩|⟨h1,h2⟩
   ·refine .inl ⟨k,by omega,h2,h3,fun j a1 a2 => ?_,h5⟩
    by_cases ej:j=i
    ·subst ej;exact hP
    ·exact h4 j (by omega) a2
   ·refine .inr ⟨fun j a1 a2 => ?_,h2⟩
    by_cases ej:j=i
    ·subst ej;exact hP
    ·exact h1 j (by omega) a2
  ·exact .inl ⟨i,ApY _,hi',hP,fun j a1 a2=>by omega,by rw[Aj,h i hi',hP];rfl⟩
theorem Anm{σ ρ:Type}{step:σ→Option (σ⊕ρ)}(st:Nat→σ)(N:Nat)(P:Nat→Bool)(rt:Nat→ρ)(rf:ρ)(hs:N<9223372036854775808)
  (h:∀ i,i<N→step (st i)=if P i then some (.inr (rt i))else some (.inl (st (i+1)))) (hN:step (st N)=some (.inr rf)) :
  (∃ k,k<N∧P k=true∧(∀ j,j<k→P j=false)∧AX step many (st 0)=some (rt k))∨((∀ j,j<N→P j=false)∧AX step many (st 0)=some rf):=by
 have hm:9223372036854775808<many:=by simp only[many];omega
 rw[A3]
 rcases Acm st N P rt rf h hN N 0 many rfl (by omega) (by omega)with⟨k,h1,h2,h3,h4,h5⟩|⟨h1,h2⟩
 ·exact .inl ⟨k,h2,h3,fun j a=>h4 j (by omega) a,h5⟩
 ·exact .inr ⟨fun j a=>h1 j (by omega) a,h2⟩
end Go.Pev.Pl
end
section
namespace Go.Pev.Pl
section
variable {β:Type}
def BC(es:List (Int×β)):List Int:=es.map Prod.fst
theorem VI(es:List (Int×β)):(BC es).length=es.length:=by simp[BC]
theorem Dk(es:List (Int×β))(k:Int)(v:β)(j:Int):AS (Ae es k v) j=if j=k then some v else AS es j:=by
 induction es with
 |nil=>
  simp only[Ae,AS]
  by_cases h:k=j
  ·simp[h]
  ·simp[h,AqH h]
 |cons e es ih=>
  obtain⟨a,b⟩:=e
  simp only[Ae]
  by_cases h:a=k
  ·subst h
   simp only[Ap6,AS]
   by_cases h2:a=j
   ·simp[h2]
   ·simp[h2,AqH h2]
  ·simp only[h,Apf,AS,ih]
   by_cases h2:a=j
   ·subst h2;simp[h]
   ·simp[h2]
theorem Pr(es:List (Int×β))(k:Int)(v:β):BC (Ae es k v)=if k∈BC es then BC es else BC es++[k]:=by
 induction es with
 |nil=>rfl
 |cons e es ih=>
  obtain⟨a,b⟩:=e
  simp only[Ae]
  by_cases h:a=k
  ·subst h;simp[BC]
  ·simp only[h,Apf]
   show a::BC (Ae es k v)=_
   rw[ih]
   have:k∈BC ((a,b)::es)↔k∈BC es:=by simp[BC,AqH h]
   simp only[this]
   split<;>rfl
theorem Xy(es:List (Int×β))(k:Int):AS es k=none↔k∉BC es:=by
 induction es with
 |nil=>simp[AS,BC]
 |cons e es ih=>
  obtain⟨a,b⟩:=e
  simp only[AS]
  by_cases h:a=k
  ·simp[h,BC]
  ·simp only[h,Apf,ih]
   simp[BC,AqH h]
theorem E0(es:List (Int×β))(k:Int)(v:β)(j:Int):j∈BC (Ae es k v)↔j=k∨j∈BC es:=by
 rw[Pr]
 split
 ·rename_i h
  constructor
  ·exact .inr
  ·rintro (rfl|h2)
   ·exact h
   ·exact h2
 ·simp[or_comm]
theorem Jj{es:List (Int×β)}(h:(BC es).Nodup)(k:Int)(v:β):(BC (Ae es k v)).Nodup:=by
 rw[Pr]
 split
 ·exact h
 ·rename_i hk
  rw[Aq1]
  exact⟨h,by simp,fun a ha b hb=>by rintro rfl;simp at hb;exact hk (hb▸ha)⟩
end
def dd:List Int→List Int→List Int
 |ks,[]=>ks
 |ks,x::xs=>dd (if x∈ks then ks else ks++[x]) xs
theorem Aoj:∀ (xs ks:List Int),(dd ks xs).length≤ks.length+xs.length∧((dd ks xs).length=ks.length+xs.length↔xs.Nodup∧∀ x∈xs,x∉ks):=by
 intro xs
 induction xs with
 |nil=>intro ks;simp[dd]
 |cons x xs ih=>
  intro ks
  rw[dd]
  by_cases h:x∈ks
  ·obtain⟨h1,_⟩:=ih ks
   rw[ApZ h]
   refine⟨by simp only[ApW];omega,?_,fun hh=>absurd h (hh.2 x (by simp))⟩
   intro e
   simp only[ApW]at e
   omega
  ·obtain⟨h1,h2⟩:=ih (ks++[x])
   rw[ApV h]
   simp only[ApS,ApW,Apk,Aqe]at h1 h2 ⊢
   refine⟨by omega,?_⟩
   rw[show ks.length+(xs.length+1)=ks.length+1+xs.length by omega,h2,Apw]
   constructor
   ·rintro⟨g1,g2⟩
    refine⟨⟨fun hx=>g2 x hx (by simp),g1⟩,fun y hy => ?_⟩
    rcases ApT.1 hy with rfl|hy
    ·exact h
    ·exact fun hk=>g2 y hy (by simp[hk])
   ·rintro⟨⟨g1,g2⟩,g3⟩
    refine⟨g2,fun y hy hk => ?_⟩
    simp only[ApR,Ap4]at hk
    rcases hk with hk|rfl
    ·exact g3 y (by simp[hy]) hk
    ·exact g1 hy
theorem AkU(xs:List Int):(dd [] xs).length=xs.length↔xs.Nodup:=by
 have:=(Aoj xs []).2
 simpa using this
theorem CP{α β ρ:Type}(g:β→α→α)(fin:α→ρ):∀ (xs:List β) (a:α),walk (fun x a=>.inl (g x a)) fin xs a=fin (xs.foldl (fun a x=>g x a) a):=by
 intro xs
 induction xs with
 |nil=>intro a;rfl
 |cons x xs ih=>intro a;rw[walk,AqT];exact ih _
theorem Hr{σ ρ β:Type}{step:σ→Option (σ⊕ρ)}(st:Nat→σ)(xs:List β)(P:β→Bool)(rt:Nat→ρ)(rf:ρ)(hs:xs.length<9223372036854775808)
  (h:∀ i x,i<xs.length→xs[i]? = some x→step (st i)=if P x then some (.inr (rt i))else some (.inl (st (i+1)))) (hN:step (st xs.length)=some (.inr rf)) :
  AX step many (st 0)=some (if xs.any P then rt (xs.findIdx P)else rf):=by
 have key:∀ (l:List β) (a:Nat),walk (fun x (a:Nat)=>if P x then .inr (rt a)else .inl (a+1)) (fun _=>rf) l a=if l.any P then rt (a+l.findIdx P)else rf:=by
  intro l
  induction l with
  |nil=>intro a;rfl
  |cons x l ih=>
   intro a
   rw[walk,List.any_cons,AsC]
   by_cases hx:P x=true
   ·simp[hx]
   ·simp only[hx,Apc,Apf,Bool.false_or,cond_false]
    rw[ih,show a+1+List.findIdx P l=a+(List.findIdx P l+1) by omega]
 have:=Er (step:=step) (fun i (a:Nat)=>st a) xs (fun x (a:Nat)=>if P x then .inr (rt a)else .inl (a+1)) (fun _=>rf) (fun i a=>a=i) hs
  (fun i x a hi hx ha=>by
   subst ha
   refine⟨fun a' h' => ?_,fun r h' => ?_⟩
   ·rw[h a x hi hx]
    split at h'
    ·cases h'
    ·rename_i hp
     cases h'
     simp[hp]
   ·rw[h a x hi hx]
    split at h'
    ·rename_i hp
     cases h'
     simp[hp]
    ·cases h')
  (fun a ha=>by subst ha;exact hN) 0 rfl
 rw[this,key,Aqe]
theorem AU{α:Type}{xs:List α}{n:Nat}{x:α}(h:xs[n]? = some x):idx xs (n:Int)=some x:=by rw[AMv,h]
theorem BO{α:Type}{xs:List α}{n:Nat}{x z:α}(h:xs[n]? = some x):AY xs (AN (n:Int)) z=x:=by
 rw[QD,ApP,h];rfl
theorem AAm{α:Type}{xs:List α}{h:Nat}(h2:h≤xs.length):EF xs (0:Int) (h:Int)=some (xs.take h):=by
 have:=AKx (xs:=xs) (l:=0) (ArN h) h2
 simpa using this
theorem Qq{α:Type}{xs:List α}{l:Nat}(h1:l≤xs.length):EF xs (l:Int) (AM xs)=some (xs.drop l):=by
 have:=AKx (xs:=xs) h1 (ApY _)
 rw[Ap3]at this
 exact this
def pos(xs:List Int)(t:Int):Int:=if t∈xs then((xs.findIdx (fun x=>decide (x=t)):Nat):Int)else -1
theorem Anc(xs:List Int)(t:Int):(xs.any fun x=>decide (x=t))=decide (t∈xs):=by
 induction xs with
 |nil=>rfl
 |cons x xs ih=>simp only[List.any_cons,ih,ApT,Bool.decide_or];congr 1;exact Aqk.2 eq_comm
theorem AiA{xs:List Int}{t:Int}(h:t∈xs):∃ k:Nat,pos xs t=(k:Int)∧k<xs.length∧xs[k]? = some t∧xs=xs.take k++t::xs.drop (k+1)∧t∉xs.take k:=by
 have hk:xs.findIdx (fun x=>decide (x=t))<xs.length:=ArP.2 ⟨t,h,by simp⟩
 have hg:xs[xs.findIdx (fun x=>decide (x=t))]'hk=t:=by
  have:=AsL (xs:=xs) (p:=fun x=>decide (x=t)) (w:=hk)
  simpa using this
 refine⟨_,by rw[pos,ApZ h],hk,by rw[ApO hk,hg],?_,?_⟩
 ·conv=>lhs;rw[← AqX (xs.findIdx (fun x=>decide (x=t))) xs,AqF hk,hg]
 ·intro hm
  obtain⟨j,hj,e⟩:=AsS.1 hm
  have:=List.not_of_lt_findIdx (p:=fun x=>decide (x=t)) (xs:=xs) (i:=j) (by omega)
  simp[e]at this
theorem Aai{xs:List Int}{t:Int}(h:t∉xs):pos xs t = -1:=by rw[pos,ApV h]
end Go.Pev.Pl
end
section
namespace Go.Pev.Pl
section
variable {α β:Type} [DecidableEq α]
theorem AXv(es:List (α×β))(k:α)(v:β)(j:α):AS (Ae es k v) j=if j=k then some v else AS es j:=by
 induction es with
 |nil=>
  simp only[Ae,AS]
  by_cases h:j=k
  ·rw[ApZ h,ApZ h.symm]
  ·rw[ApV h,ApV (AqH h)]
 |cons e es ih=>
  obtain⟨a,x⟩:=e
  by_cases h1:a=k
  ·subst h1
   simp only[Ae,AS,Ap6]
   by_cases h:j=a
   ·rw[ApZ h,ApZ h.symm]
   ·rw[ApV h,ApV (AqH h),ApV (AqH h)]
  ·simp only[Ae,AS,h1,Apf,ih]
   by_cases h:a=j
   ·subst h
    rw[ApZ rfl,ApV h1,ApZ rfl]
   ·rw[ApV h,ApV h]
theorem AIU:∀ (es:List (α×β)) (k:α),Dw es k=none→∀ v,Ae es k v=es++[(k,v)]:=by
 intro es
 induction es with
 |nil=>intro k _ v;rfl
 |cons e es ih=>
  intro k h v
  obtain⟨a,b⟩:=e
  by_cases hk:a=k
  ·simp[Dw,hk]at h
  ·simp only[Dw,hk,Apf,Ase]at h
   simp only[Ae,hk,Apf,ih k h v,Aps]
theorem AIT:∀ (es:List (α×β)) (k:α) (n:Nat),Dw es k=some n→∀ v,n<es.length∧Ae es k v=es.modify n fun e=>(e.1,v):=by
 intro es
 induction es with
 |nil=>intro k n h;simp[Dw]at h
 |cons e es ih=>
  intro k n h v
  obtain⟨a,b⟩:=e
  by_cases hk:a=k
  ·simp only[Dw,hk,Ap6,ApN]at h
   subst h
   simp[Ae,hk]
  ·simp only[Dw,hk,Apf,Ape]at h
   obtain⟨m,hm,rfl⟩:=h
   obtain⟨h1,h2⟩:=ih k m hm v
   simp only[Ae,hk,Apf,ApW]
   exact⟨by omega,by rw[h2];rfl⟩
theorem AXZ(es:List (α×β))(k:α)(z v:β):(ile (0:Int) (Yp es k)&&ilt (Yp es k) (AM (Ae es k z)))=true∧Adx (Ae es k z) (Yp es k) v=Ae es k v:=by
 rw[An,Af]
 unfold Yp Adx
 cases h:Dw es k with
 |none=>
  rw[AIU es k h,AIU es k h,Option.getD_none,AqM]
  constructor
  ·rw[ApM (by omega),ApM (by rw[AR,ApS];simp;omega)];rfl
  ·have:∀ (xs:List (α×β)),(xs++[(k,z)]).modify xs.length (fun e=>(e.1,v))=xs++[(k,v)]:=by
    intro xs
    induction xs with
    |nil=>rfl
    |cons x xs ih=>rw[Aps,ApW,List.modify_succ_cons,ih];rfl
   exact this es
 |some n=>
  obtain⟨h1,h2⟩:=AIT es k n h z
  obtain⟨_,h3⟩:=AIT es k n h v
  rw[h2,h3,AqI,AqM]
  constructor
  ·rw[ApM (by omega),ApM (by rw[AR,List.length_modify];omega)];rfl
  ·apply AqY
   intro i
   simp only[List.getElem?_modify]
   cases es[i]? with
   |none=>split<;>rfl
   |some e=>split<;>rfl
end
end Go.Pev.Pl
end
section
namespace Go.Pev.Pl
section
variable {α:Type} (z:α)
theorem ADl{a o:List α}{m k:Nat}(h:a.drop m=o.drop m)(hk:m≤k):a.getD k z=o.getD k z:=by
 have:=Aqy (fun l=>l.getD (k-m) z) h
 simp only[ApP,AqR]at this
 rw[Nat.add_sub_cancel' hk]at this
 simpa [ApP]using this
theorem Lw{xs:List α}{i:Nat}(h:i<xs.length):xs.take (i+1)=xs.take i++[xs.getD i z]:=by
 rw[Aqr h];simp[h]
theorem AkQ{σ ρ:Type}{step:σ→Option (σ⊕ρ)}(st:List α→Nat→Nat→σ)(fin:List α→Nat→ρ)(keep:α→Bool)(o:List α)
  (h:∀ a w j,a.length=o.length→j<o.length→w<j→a.getD j z=o.getD j z→step (st a w j)=some (.inl (if keep (o.getD j z)=true then st (a.set w (o.getD j z)) (w+1) (j+1)else st a w (j+1))))
  (hN:∀ a w,a.length=o.length→step (st a w o.length)=some (.inr (fin a w))) :
  ∀ (k j w:Nat) (a:List α) (cnt:Nat),j+k=o.length→a.length=o.length→w=((o.take j).filter keep).length→a.take w=(o.take j).filter keep→w<j→a.drop j=o.drop j→k<cnt →
  ∃ a':List α,Aj step cnt (st a w j)=some (fin a' (o.filter keep).length)∧a'.length=o.length∧a'.take (o.filter keep).length=o.filter keep:=by
 intro k
 induction k with
 |zero=>
  intro j w a cnt hk hl hw hq hwj hd hn
  obtain⟨cnt,rfl⟩:∃ k,cnt=k+1:=⟨cnt-1,by omega⟩
  have e:j=o.length:=by omega
  subst e
  rw[Ap3]at hw hq
  rw[Aj,hN a w hl]
  exact⟨a,by rw[hw],hl,by rw[← hw];exact hq⟩
 |succ k ih=>
  intro j w a cnt hk hl hw hq hwj hd hn
  obtain⟨cnt,rfl⟩:∃ k,cnt=k+1:=⟨cnt-1,by omega⟩
  have g1:=ADl z hd (ApY j)
  have hdd:a.drop (j+1)=o.drop (j+1):=by
   have:=Aqy (List.drop 1) hd
   simpa only[ArF]using this
  have hst:(o.take (j+1)).filter keep=(o.take j).filter keep++if keep (o.getD j z)=true then [o.getD j z]else []:=by
   rw[Lw z (by omega),Aqh]
   generalize o.getD j z=v
   by_cases h:keep v=true<;>simp[h]
  rw[Aj,h a w j hl (by omega) hwj g1]
  by_cases hv:keep (o.getD j z)=true
  ·rw[ApZ hv]at hst ⊢
   refine ih (j+1) (w+1) (a.set w (o.getD j z)) cnt (by omega) (by simp[hl]) (by rw[hst];simp[hw]) ?_ (by omega) ?_ (by omega)
   ·rw[hst,← hq,Aqr (by simp;omega)]
    simp[List.take_set_of_le]
   ·rw[List.drop_set_of_lt (by omega)]
    exact hdd
  ·rw[ApV hv]at hst ⊢
   rw[Aqa]at hst
   exact ih (j+1) w a cnt (by omega) hl (by rw[hst];exact hw) (by rw[hst];exact hq) (by omega) hdd (by omega)
theorem AfV{σ ρ σ' ρ':Type}{find:σ'→Option (σ'⊕ρ')}{step:σ→Option (σ⊕ρ)}(st:List α→Nat→Nat→σ)(fin:List α→Nat→ρ)(sf:Nat→σ')(fr:Nat→ρ')(fn:ρ')(keep:α→Bool)(o:List α)(hs:o.length<4294967296)
  (h:∀ a w j,a.length=o.length→j<o.length→w<j→a.getD j z=o.getD j z→step (st a w j)=some (.inl (if keep (o.getD j z)=true then st (a.set w (o.getD j z)) (w+1) (j+1)else st a w (j+1))))
  (hN:∀ a w,a.length=o.length→step (st a w o.length)=some (.inr (fin a w)))
  (f:∀ i,i<o.length→find (sf i)=if keep (o.getD i z)=true then some (.inl (sf (i+1)))else some (.inr (fr i))) (fN:find (sf o.length)=some (.inr fn)) :
  (o.filter keep=o∧AX find many (sf 0)=some fn) ∨
  (∃ k a',k<o.length∧AX find many (sf 0)=some (fr k)∧AX step many (st o k (k+1))=some (fin a' (o.filter keep).length)∧a'.length=o.length∧(o.filter keep).length≤o.length∧a'.take (o.filter keep).length=o.filter keep):=by
 have hm:4294967296<many:=by simp only[many];omega
 have hall:∀ n,(∀ j,j<n→j<o.length→keep (o.getD j z)=true)→(o.take n).filter keep=o.take n:=by
  intro n hj
  rw[Arz]
  intro x hx
  obtain⟨j,h1,rfl⟩:=AsS.1 hx
  have:=hj j (by omega) (by omega)
  simpa [show j<o.length by omega]using this
 rcases Anm (step:=find) sf o.length (fun i => !keep (o.getD i z)) fr fn (by omega) (fun i hi=>by rw[f i hi];cases keep (o.getD i z)<;>rfl) fN with⟨k,hk,hP,hF,e⟩|⟨hP,e⟩
 ·right
  have hkf:keep (o.getD k z)=false:=by
   cases hq:keep (o.getD k z)
   ·rfl
   ·rw[hq]at hP;cases hP
  have h1:(o.take k).filter keep=o.take k:=hall k fun j h1 _=>by
   have:=hF j h1
   cases hq:keep (o.getD j z)
   ·rw[hq]at this;cases this
   ·rfl
  have h2:(o.take (k+1)).filter keep=o.take k:=by
   rw[Lw z hk,Aqh,h1,Aqc,hkf]
   simp
  obtain⟨a',e2,e3,e4⟩:=AkQ z st fin keep o h hN (o.length-(k+1)) (k+1) k o many (by omega) rfl (by rw[h2,Api];omega) (by rw[h2]) (by omega) rfl (by omega)
  exact⟨k,a',hk,e,by rw[A3];exact e2,e3,ArY _ _,e4⟩
 ·left
  refine⟨?_,e⟩
  have:=hall o.length fun j _ h2=>by
   have:=hP j h2
   cases hq:keep (o.getD j z)
   ·rw[hq]at this;cases this
   ·rfl
  rwa [Ap3]at this
theorem AZZ{a:List α}{w:Nat}(h:w≤a.length):(Br w (a.length-w) z a).take w=a.take w∧(Br w (a.length-w) z a).length=a.length:=by
 constructor
 ·rw[Br,List.take_append_of_le_length (by simp;omega),Arf,Nat.min_self]
 ·simp[Br];omega
end
end Go.Pev.Pl
end
section
namespace Go.Pev.Pl
structure Tsk where
 lo:Nat
 hi:Nat
 up:Option Nat
 wait:Nat
theorem YF{l:List Nat}(hn:l.Nodup){j0:Nat}(hj:j0∈l){Q Q':Nat→Bool}(h:∀ j∈l,j≠j0→Q' j=Q j):
  l.countP Q'+(Q j0).toNat=l.countP Q+(Q' j0).toNat:=by
 induction l with
 |nil=>cases hj
 |cons x l ih=>
  rw[Apw]at hn
  rw[ArV,ArV]
  by_cases hx:x=j0
  ·subst hx
   have:l.countP Q'=l.countP Q:=by
    refine Arn fun j hjl => ?_
    rw[h j (by simp[hjl]) (by rintro rfl;exact hn.1 hjl)]
   rw[this]
   cases Q x<;>cases Q' x<;>simp
  ·have h1:=h x (by simp) hx
   rw[h1]
   have:=ih hn.2 (by simpa [AqH hx]using hj) (fun j hjl=>h j (by simp[hjl]))
   omega
def KW(ts:List Tsk)(A:List Nat)(j:Nat):Bool:=A.contains j||match ts[j]? with
 |some t=>decide (0<t.wait)
 |none=>false
def IJ(ts:List Tsk)(A:List Nat)(i j:Nat):Bool:=match ts[j]? with
 |some t=>decide (t.up=some i)&&KW ts A j
 |none=>false
def kids(ts:List Tsk)(A:List Nat)(i:Nat):Nat:=(List.range ts.length).countP (IJ ts A i)
structure Tr(n:Nat)(ts:List Tsk)(A:List Nat)(u:Option Nat):Prop where
 tree:∀ (i:Nat) (t:Tsk),ts[i]? = some t→t.lo<t.hi∧t.hi≤n∧t.wait≤2∧(t.up=none→i=0)∧∀ x,t.up=some x→x<i
 nod:A.Nodup
 act:∀ a∈A,∃ t:Tsk,ts[a]? = some t∧t.wait=0
 leaf:∀ a∈A,∀ (j:Nat) (t:Tsk),ts[j]? = some t→t.up≠some a
 cnt:∀ (i:Nat) (t:Tsk),ts[i]? = some t→t.wait=kids ts A i+(if u=some i then 1 else 0)
theorem Jg{ts:List Tsk}{A:List Nat}{j:Nat}{t:Tsk}(h:ts[j]? = some t):KW ts A j=true↔j∈A∨0<t.wait:=by
 unfold KW;rw[h];simp
theorem Mm{ts:List Tsk}{A:List Nat}{i:Nat}:0<kids ts A i↔∃ (j:Nat) (t:Tsk),ts[j]? = some t∧t.up=some i∧KW ts A j=true:=by
 unfold kids
 rw[List.countP_pos_iff]
 constructor
 ·rintro⟨j,_,h⟩
  unfold IJ at h
  cases ht:ts[j]? with
  |none=>rw[ht]at h;cases h
  |some t=>rw[ht]at h;simp only[ApU,ApQ]at h;exact⟨j,t,ht,h.1,h.2⟩
 ·rintro⟨j,t,h1,h2,h3⟩
  refine⟨j,Apz.2 (Apd.1 h1).1,?_⟩
  unfold IJ
  rw[h1];simp[h2,h3]
theorem Tr.descend{n:Nat}{ts:List Tsk}{A:List Nat}(h:Tr n ts A none):∀ (k i:Nat),ts.length-i≤k→∀ t:Tsk,ts[i]? = some t→KW ts A i=true→A≠[]:=by
 intro k
 induction k with
 |zero=>
  intro i hk t ht
  have:=(Apd.1 ht).1
  omega
 |succ k ih=>
  intro i hk t ht hp
  rcases(Jg ht).1 hp with h1|h1
  ·rintro rfl;cases h1
  ·rw[h.cnt i t ht]at h1
   simp at h1
   obtain⟨j,t',h2,h3,h4⟩:=Mm.1 h1
   have hlt:=(h.tree j t' h2).2.2.2.2 i h3
   have:=(Apd.1 ht).1
   exact ih j (by omega) t' h2 h4
theorem Tr.Aoo{n:Nat}{ts:List Tsk}{A:List Nat}(h:Tr n ts A none):∀ (i:Nat) (t:Tsk),ts[i]? = some t→KW ts A i=true→KW ts A 0=true:=by
 intro i
 induction i using Nat.strongRecOn with
 |ind i ih=>
  intro t ht hp
  cases hu:t.up with
  |none=>
   have:=(h.tree i t ht).2.2.2.1 hu
   subst this;exact hp
  |some x=>
   have hx:=(h.tree i t ht).2.2.2.2 x hu
   have hl:=(Apd.1 ht).1
   have hxs:ts[x]? = some (ts[x]'(by omega)):=ApO (by omega)
   refine ih x hx _ hxs ((Jg hxs).2 (.inr ?_))
   rw[h.cnt x _ hxs]
   have:=Mm.2 ⟨i,t,ht,hu,hp⟩
   simp;exact this
def fin:Nat→List Tsk→Option Nat→List Tsk×Bool
 |_,ts,none=>(ts,true)
 |0,ts,some _=>(ts,false)
 |k+1,ts,some x=>match ts[x]? with
  |none=>(ts,false)
  |some t=>if t.wait=0 then(ts,false)else if 0<t.wait-1 then(ts.set x { t with wait:=t.wait-1 },false)else fin k (ts.set x { t with wait:=t.wait-1 }) t.up
def Alike(ts ts':List Tsk):Prop:=ts'.length=ts.length∧∀ (i:Nat) (t:Tsk),ts[i]? = some t→∃ t':Tsk,ts'[i]? = some t'∧t'.lo=t.lo∧t'.hi=t.hi∧t'.up=t.up
theorem Alike.refl(ts:List Tsk):Alike ts ts:=⟨rfl,fun _ t h=>⟨t,h,rfl,rfl,rfl⟩⟩
theorem Alike.trans{a b c:List Tsk}(h:Alike a b)(k:Alike b c):Alike a c:=
 ⟨k.1.trans h.1,fun i t ht=>by
  obtain⟨t',h1,h2,h3,h4⟩:=h.2 i t ht
  obtain⟨t'',k1,k2,k3,k4⟩:=k.2 i t' h1
  exact⟨t'',k1,k2.trans h2,k3.trans h3,k4.trans h4⟩⟩
theorem N3{α:Type}{l:List α}{x i:Nat}{a t:α}(h:(l.set x a)[i]? = some t):(i=x∧t=a∧x<l.length)∨(i≠x∧l[i]? = some t):=by
 rw[Aq2]at h
 by_cases hx:x=i
 ·subst hx
  rw[ApZ rfl]at h
  by_cases hl:x<l.length
  ·rw[ApZ hl]at h;exact .inl ⟨rfl,(AqP h).symm,hl⟩
  ·rw[ApV hl]at h;cases h
 ·rw[ApV hx]at h;exact .inr ⟨fun e=>hx e.symm,h⟩
theorem PN{α:Type}{l:List α}{x:Nat}{a b:α}(h:l[x]? = some b):(l.set x a)[x]? = some a:=by
 rw[Aq2,ApZ rfl,ApZ (Apd.1 h).1]
theorem ZR{α:Type}{l:List α}{x i:Nat}{a:α}(h:i≠x):(l.set x a)[i]? = l[i]? := by
 rw[Aq2,ApV (AqH h)]
theorem Wk{ts:List Tsk}{x:Nat}{t:Tsk}(h:ts[x]? = some t)(w:Nat):Alike ts (ts.set x { t with wait:=w }):=by
 refine⟨by simp,fun i s hs => ?_⟩
 by_cases hi:i=x
 ·subst hi
  rw[h]at hs;cases hs
  exact⟨_,PN h,rfl,rfl,rfl⟩
 ·exact⟨s,by rw[ZR hi];exact hs,rfl,rfl,rfl⟩
theorem AjI{ts:List Tsk}{A:List Nat}{x:Nat}{t:Tsk}(h:ts[x]? = some t)(w:Nat)(i j:Nat)(hj:j≠x):IJ (ts.set x { t with wait:=w }) A i j=IJ ts A i j:=by
 unfold IJ KW;rw[ZR hj]
theorem Zb{ts:List Tsk}{A:List Nat}{x:Nat}{t:Tsk}(h:ts[x]? = some t)(i:Nat):IJ ts A i x=(decide (t.up=some i)&&(A.contains x||decide (0<t.wait))):=by
 unfold IJ KW;rw[h]
theorem AjH{ts:List Tsk}{A:List Nat}{x:Nat}{t:Tsk}(h:ts[x]? = some t)(w i:Nat):
  kids (ts.set x { t with wait:=w }) A i+(decide (t.up=some i)&&(A.contains x||decide (0<t.wait))).toNat=kids ts A i+(decide (t.up=some i)&&(A.contains x||decide (0<w))).toNat:=by
 unfold kids
 rw[Aqb]
 have:=YF (l:=List.range ts.length) Aqz (Apz.2 (Apd.1 h).1) (Q:=IJ ts A i) (Q':=IJ (ts.set x { t with wait:=w }) A i) (fun j _ hj=>AjI h w i j hj)
 rw[Zb h,Zb (PN h)]at this
 exact this
theorem Aod{n:Nat}:∀ (k:Nat) (ts:List Tsk) (A:List Nat) (u:Option Nat),Tr n ts A u→(∀ x,u=some x→x<k∧x<ts.length∧x∉A)→(u=none→KW ts A 0=false) →
  ∃ ts',fin k ts u=(ts',A.isEmpty)∧Tr n ts' A none∧Alike ts ts':=by
 have emp:∀ {ts:List Tsk} {A:List Nat},Tr n ts A none→KW ts A 0=false→A.isEmpty=true:=by
  intro ts A h hp
  cases A with
  |nil=>rfl
  |cons a A=>
   obtain⟨t,ht,_⟩:=h.act a (by simp)
   have:=h.Aoo a t ht ((Jg ht).2 (.inl (by simp)))
   rw[hp]at this;cases this
 intro k
 induction k with
 |zero=>
  intro ts A u h hu ht
  cases u with
  |some x=>exact absurd (hu x rfl).1 (by omega)
  |none=>exact⟨ts,by unfold fin;rw[emp h (ht rfl)],h,Alike.refl ts⟩
 |succ k ih=>
  intro ts A u h hu ht
  cases u with
  |none=>exact⟨ts,by unfold fin;rw[emp h (ht rfl)],h,Alike.refl ts⟩
  |some x=>
   obtain⟨h1,h2,h3⟩:=hu x rfl
   have hx:ts[x]? = some (ts[x]):=ApO h2
   generalize ts[x]=t at hx
   have hc:=h.cnt x t hx
   rw[ApZ rfl]at hc
   have hcon:A.contains x=false:=by simpa using h3
   have hks:=fun i=>AjH (A:=A) hx (t.wait-1) i
   have htr:=h.tree x t hx
   have htree:∀ (i:Nat) (s:Tsk),(ts.set x { t with wait:=t.wait-1 })[i]? = some s→s.lo<s.hi∧s.hi≤n∧s.wait≤2∧(s.up=none→i=0)∧∀ x,s.up=some x→x<i:=by
    intro i s hs
    rcases N3 hs with⟨rfl,rfl,_⟩|⟨_,hs⟩
    ·exact⟨htr.1,htr.2.1,by show t.wait-1≤2;have:=htr.2.2.1;omega,htr.2.2.2⟩
    ·exact h.tree i s hs
   have hact:∀ a∈A,∃ s:Tsk,(ts.set x { t with wait:=t.wait-1 })[a]? = some s∧s.wait=0:=fun a ha=>by
    rw[ZR (by rintro rfl;exact h3 ha)];exact h.act a ha
   have hleaf:∀ a∈A,∀ (j:Nat) (s:Tsk),(ts.set x { t with wait:=t.wait-1 })[j]? = some s→s.up≠some a:=by
    intro a ha j s hs
    rcases N3 hs with⟨rfl,rfl,_⟩|⟨_,hs⟩
    ·exact h.leaf a ha j t hx
    ·exact h.leaf a ha j s hs
   by_cases hw:0<t.wait-1
   ·have hsame:∀ i,kids (ts.set x { t with wait:=t.wait-1 }) A i=kids ts A i:=fun i=>by
     have:=hks i
     rw[hcon,ApM hw,ApM (show 0<t.wait by omega)]at this
     omega
    have hT:Tr n (ts.set x { t with wait:=t.wait-1 }) A none:=⟨htree,h.nod,hact,hleaf,fun i s hs=>by
     rw[hsame]
     rcases N3 hs with⟨rfl,rfl,_⟩|⟨hne,hs⟩
     ·simp;omega
     ·rw[h.cnt i s hs,ApV (by simp;exact fun e=>hne e.symm)];simp⟩
    refine⟨_,?_,hT,Wk hx _⟩
    unfold fin
    rw[hx]
    simp only
    rw[ApV (by omega),ApZ hw]
    have:A≠[]:=hT.descend _ x (ApY _) _ (PN hx) ((Jg (PN hx)).2 (.inr hw))
    cases A with
    |nil=>exact absurd rfl this
    |cons a A=>rfl
   ·have hw1:t.wait=1:=by omega
    have hup:∀ i,kids (ts.set x { t with wait:=t.wait-1 }) A i+(decide (t.up=some i)).toNat=kids ts A i:=fun i=>by
     have:=hks i
     rw[hcon,hw1]at this
     simp at this
     rw[hw1];exact this
    have hT:Tr n (ts.set x { t with wait:=t.wait-1 }) A t.up:=⟨htree,h.nod,hact,hleaf,fun i s hs=>by
     have h5:=hup i
     rcases N3 hs with⟨rfl,rfl,_⟩|⟨hne,hs⟩
     ·show t.wait-1=_
      have:t.up≠some i:=fun e=>by have:=htr.2.2.2.2 i e;omega
      rw[ApV this]
      rw[ApL this]at h5
      simp at h5;omega
     ·rw[h.cnt i s hs,ApV (by simp;exact fun e=>hne e.symm)]
      by_cases he:t.up=some i
      ·rw[ApZ he];rw[ApM he]at h5;simp at h5;omega
      ·rw[ApV he];rw[ApL he]at h5;simp at h5;omega⟩
    obtain⟨ts',e1,e2,e3⟩:=ih _ A t.up hT (fun y hy=>by
     have:=htr.2.2.2.2 y hy
     exact⟨by omega,by simp;omega,fun hyA=>h.leaf y hyA x t hx hy⟩) (fun hn=>by
     have:=htr.2.2.2.1 hn
     subst this
     have:¬ KW (ts.set 0 { t with wait:=t.wait-1 }) A 0=true:=by
      rw[Jg (PN hx)]
      rintro (h|h)
      ·exact h3 h
      ·exact hw h
     simpa using this)
    refine⟨ts',?_,e2,(Wk hx _).trans e3⟩
    unfold fin
    rw[hx]
    simp only
    rw[ApV (by omega),ApV hw,e1]
theorem Tr.part{n:Nat}{ts:List Tsk}{a:Nat}{A:List Nat}(h:Tr n ts (a::A) none){t:Tsk}(ht:ts[a]? = some t){A8:Nat}(h1:t.lo<A8)(h2:A8<t.hi):
  Tr n (ts.set a { t with wait:=2 }++[⟨t.lo,A8,some a,0⟩,⟨A8,t.hi,some a,0⟩]) (ts.length::(ts.length+1)::A) none:=by
 have hal:=(Apd.1 ht).1
 have hnod:=h.nod
 rw[Apw]at hnod
 have hAl:∀ x∈A,x<ts.length:=fun x hx=>by
  obtain⟨s,hs,_⟩:=h.act x (by simp[hx])
  exact(Apd.1 hs).1
 have cases':∀ {i:Nat} {s:Tsk},(ts.set a { t with wait:=2 }++[⟨t.lo,A8,some a,0⟩,⟨A8,t.hi,some a,0⟩])[i]? = some s →
   (i=a∧s = { t with wait:=2 })∨(i≠a∧i<ts.length∧ts[i]? = some s)∨(i=ts.length∧s=⟨t.lo,A8,some a,0⟩)∨(i=ts.length+1∧s=⟨A8,t.hi,some a,0⟩):=by
  intro i s hs
  by_cases hi:i<ts.length
  ·rw[Apu (by simpa using hi)]at hs
   rcases N3 hs with⟨e1,e2,_⟩|⟨e1,e2⟩
   ·exact .inl ⟨e1,e2⟩
   ·exact .inr (.inl ⟨e1,hi,e2⟩)
  ·rw[Apx (by simpa using hi),Aqb]at hs
   obtain⟨d,rfl⟩:∃ d,i=ts.length+d:=⟨i-ts.length,by omega⟩
   rw[Asa]at hs
   match d,hs with
   |0,hs=>exact .inr (.inr (.inl ⟨rfl,(AqP hs).symm⟩))
   |1,hs=>exact .inr (.inr (.inr ⟨rfl,(AqP hs).symm⟩))
   |d+2,hs=>simp at hs
 have htr:=h.tree a t ht
 have hold:∀ {i:Nat} {s:Tsk},i≠a→ts[i]? = some s→(ts.set a { t with wait:=2 }++[⟨t.lo,A8,some a,0⟩,⟨A8,t.hi,some a,0⟩])[i]? = some s:=by
  intro i s hi hs
  have:=(Apd.1 hs).1
  rw[Apu (by simpa using this),ZR hi];exact hs
 have hata:(ts.set a { t with wait:=2 }++[⟨t.lo,A8,some a,0⟩,⟨A8,t.hi,some a,0⟩])[a]? = some { t with wait:=2 }:=by
  rw[Apu (by simpa using hal),PN ht]
 have hn0:(ts.set a { t with wait:=2 }++[⟨t.lo,A8,some a,0⟩,⟨A8,t.hi,some a,0⟩])[ts.length]? = some ⟨t.lo,A8,some a,0⟩:=by
  rw[Apx (by simp)];simp
 have hn1:(ts.set a { t with wait:=2 }++[⟨t.lo,A8,some a,0⟩,⟨A8,t.hi,some a,0⟩])[ts.length+1]? = some ⟨A8,t.hi,some a,0⟩:=by
  rw[Apx (by simp)];simp
 refine⟨?_,?_,?_,?_,?_⟩
 ·intro i s hs
  rcases cases' hs with⟨rfl,rfl⟩|⟨_,_,hs⟩|⟨rfl,rfl⟩|⟨rfl,rfl⟩
  ·exact⟨htr.1,htr.2.1,ApY _,htr.2.2.2⟩
  ·exact h.tree i s hs
  ·exact⟨h1,by show A8≤n;have:=htr.2.1;omega,ArN _,fun e=>(by cases e),fun x e=>(by cases e;exact hal)⟩
  ·exact⟨h2,htr.2.1,ArN _,fun e=>(by cases e),fun x e=>(by cases e;omega)⟩
 ·rw[Apw,Apw]
  refine⟨?_,?_,hnod.2⟩
  ·simp;exact fun hx=>absurd (hAl _ hx) (by omega)
  ·exact fun hx=>absurd (hAl _ hx) (by omega)
 ·intro x hx
  simp only[ApT]at hx
  rcases hx with rfl|rfl|hx
  ·exact⟨_,hn0,rfl⟩
  ·exact⟨_,hn1,rfl⟩
  ·obtain⟨s,hs,hw⟩:=h.act x (by simp[hx])
   exact⟨s,hold (by rintro rfl;exact hnod.1 hx) hs,hw⟩
 ·intro x hx j s hs
  simp only[ApT]at hx
  have hxa:x≠a:=by
   rcases hx with rfl|rfl|hx
   ·omega
   ·omega
   ·rintro rfl;exact hnod.1 hx
  rcases cases' hs with⟨rfl,rfl⟩|⟨_,hj,hs⟩|⟨rfl,rfl⟩|⟨rfl,rfl⟩
  ·show t.up≠some x
   intro e
   have:=htr.2.2.2.2 x e
   rcases hx with rfl|rfl|hx
   ·omega
   ·omega
   ·exact h.leaf x (by simp[hx]) j t ht e
  ·intro e
   have:=(h.tree j s hs).2.2.2.2 x e
   rcases hx with rfl|rfl|hx
   ·omega
   ·omega
   ·exact h.leaf x (by simp[hx]) j s hs e
  ·intro e;cases e;exact hxa rfl
  ·intro e;cases e;exact hxa rfl
 ·intro i s hs
  have hk:kids (ts.set a { t with wait:=2 }++[⟨t.lo,A8,some a,0⟩,⟨A8,t.hi,some a,0⟩]) (ts.length::(ts.length+1)::A) i=kids ts (a::A) i+if i=a then 2 else 0:=by
   unfold kids
   rw[ApS,Aqb]
   show(List.range (ts.length+2)).countP _=_
   rw[AqG,AqG,List.countP_append,List.countP_append]
   have e1:(List.range ts.length).countP (IJ (ts.set a { t with wait:=2 }++[⟨t.lo,A8,some a,0⟩,⟨A8,t.hi,some a,0⟩]) (ts.length::(ts.length+1)::A) i)=(List.range ts.length).countP (IJ ts (a::A) i):=by
    refine Arn fun j hj => ?_
    rw[Apz]at hj
    by_cases hja:j=a
    ·subst hja
     unfold IJ KW
     rw[hata,ht];simp
    ·have hs0:ts[j]? = some ts[j]:=ApO hj
     unfold IJ KW
     rw[hold hja hs0,hs0]
     have h3:¬ j=ts.length:=by omega
     have h4:¬ j=ts.length+1:=by omega
     simp[hja,h3,h4]
   rw[e1]
   have e2:IJ (ts.set a { t with wait:=2 }++[⟨t.lo,A8,some a,0⟩,⟨A8,t.hi,some a,0⟩]) (ts.length::(ts.length+1)::A) i ts.length=decide (i=a):=by
    unfold IJ KW;rw[hn0];simp[eq_comm]
   have e3:IJ (ts.set a { t with wait:=2 }++[⟨t.lo,A8,some a,0⟩,⟨A8,t.hi,some a,0⟩]) (ts.length::(ts.length+1)::A) i (ts.length+1)=decide (i=a):=by
    unfold IJ KW;rw[hn1];simp[eq_comm]
   simp only[ArV,List.countP_nil,e2,e3]
   by_cases hi:i=a
   ·simp[hi]
   ·simp[hi]
  rw[hk]
  rcases cases' hs with⟨rfl,rfl⟩|⟨hne,hj,hs⟩|⟨rfl,rfl⟩|⟨rfl,rfl⟩
  ·have:=h.cnt i t ht
   obtain⟨t',e1,e2⟩:=h.act i (by simp)
   rw[ht]at e1;cases e1
   rw[e2]at this
   simp at this ⊢
   omega
  ·rw[ApV hne];exact h.cnt i s hs
  ·rw[ApV (by omega)]
   have:kids ts (a::A) ts.length=0:=by
    refine Nat.eq_zero_of_not_pos fun hp => ?_
    obtain⟨j,s,h3,h4,_⟩:=Mm.1 hp
    have:=(h.tree j s h3).2.2.2.2 _ h4
    have:=(Apd.1 h3).1
    omega
   simp[this]
  ·rw[ApV (by omega)]
   have:kids ts (a::A) (ts.length+1)=0:=by
    refine Nat.eq_zero_of_not_pos fun hp => ?_
    obtain⟨j,s,h3,h4,_⟩:=Mm.1 hp
    have:=(h.tree j s h3).2.2.2.2 _ h4
    have:=(Apd.1 h3).1
    omega
   simp[this]
theorem AeS{ts:List Tsk}{A B:List Nat}(h:A.Perm B)(i:Nat):kids ts A i=kids ts B i:=by
 unfold kids
 refine Arn fun j _ => ?_
 unfold IJ KW
 have:A.contains j=B.contains j:=by
  rw[Aqo];simp;exact h.mem_iff
 rw[this]
theorem Tr.perm{n:Nat}{ts:List Tsk}{A B:List Nat}(h:Tr n ts A none)(hp:A.Perm B):Tr n ts B none:=
 ⟨h.tree,hp.nodup_iff.1 h.nod,fun a ha=>h.act a (hp.mem_iff.2 ha),fun a ha=>h.leaf a (hp.mem_iff.2 ha),fun i t ht=>by rw[← AeS hp];exact h.cnt i t ht⟩
theorem Tr.did{n:Nat}{ts:List Tsk}{a:Nat}{A:List Nat}(h:Tr n ts (a::A) none){t:Tsk}(ht:ts[a]? = some t):
  ∃ ts',fin ts.length ts t.up=(ts',A.isEmpty)∧Tr n ts' A none∧Alike ts ts':=by
 have hnod:=h.nod
 rw[Apw]at hnod
 have hal:=(Apd.1 ht).1
 obtain⟨t',e1,hw⟩:=h.act a (by simp)
 rw[ht]at e1;cases e1
 have htr:=h.tree a t ht
 have hk:∀ i,kids ts A i+(decide (t.up=some i)).toNat=kids ts (a::A) i:=by
  intro i
  unfold kids
  have:=YF (l:=List.range ts.length) Aqz (Apz.2 hal) (Q:=IJ ts (a::A) i) (Q':=IJ ts A i) (fun j _ hj=>by
   unfold IJ KW
   have:(a::A).contains j=A.contains j:=by simp[hj]
   rw[this])
  rw[Zb ht,Zb ht,hw]at this
  have h3:A.contains a=false:=by simpa using hnod.1
  rw[h3]at this
  simp at this
  omega
 refine Aod ts.length ts A t.up ⟨h.tree,hnod.2,fun x hx=>h.act x (by simp[hx]),fun x hx=>h.leaf x (by simp[hx]),fun i s hs => ?_⟩ (fun x hx => ?_) (fun hu => ?_)
 ·have h5:=hk i
  have h6:=h.cnt i s hs
  simp at h6
  by_cases he:t.up=some i
  ·rw[ApZ he];rw[ApM he]at h5;simp at h5;omega
  ·rw[ApV he];rw[ApL he]at h5;simp at h5;omega
 ·have:=htr.2.2.2.2 x hx
  exact⟨by omega,by omega,fun hxA=>h.leaf x (by simp[hxA]) a t ht hx⟩
 ·have:=htr.2.2.2.1 hu
  subst this
  have:¬ KW ts A 0=true:=by
   rw[Jg ht]
   rintro (h|h)
   ·exact hnod.1 h
   ·omega
  simpa using this
end Go.Pev.Pl
end
section
namespace Go.Pev.Pl
def rng(ts:List Tsk)(a:Nat):List Nat:=match ts[a]? with
 |some t=>List.range' t.lo (t.hi-t.lo)
 |none=>[]
def L8(ts:List Tsk)(a:Nat):Nat:=match ts[a]? with
 |some t=>2*(t.hi-t.lo)-1
 |none=>0
def pot(ts:List Tsk)(A:List Nat):Nat:=(A.map (L8 ts)).sum
def Oe(dn:List Bool)(lo:Nat):Nat→List Bool
 |0=>dn
 |k+1=>(Oe dn lo k).set (lo+k) true
theorem AIn(dn:List Bool)(lo k:Nat):(Oe dn lo k).length=dn.length:=by
 induction k with
 |zero=>rfl
 |succ k ih=>unfold Oe;rw[Aqb,ih]
theorem AeA(dn:List Bool)(lo k u:Nat)(hu:u<dn.length):(Oe dn lo k)[u]? = some (decide (lo≤u∧u<lo+k)||dn[u]):=by
 induction k with
 |zero=>
  have:¬ (lo≤u∧u<lo+0):=by omega
  rw[ApL this]
  exact ApO hu
 |succ k ih=>
  unfold Oe
  rw[Aq2]
  by_cases h:lo+k=u
  ·rw[ApZ h,ApZ (by rw[AIn];omega),ApM (by omega)];rfl
  ·rw[ApV h,ih]
   congr 2
   rw[Aqo,ApQ,ApQ]
   omega
structure Iv(n:Nat)(ts:List Tsk)(dn:List Bool)(A U:List Nat)(D:Nat):Prop where
 len:dn.length=n
 tr:Tr n ts A none
 units:(A.flatMap (rng ts)++U).Perm (List.range n)
 dn:∀ u,u<n→dn[u]? = some (decide (u∈U))
 size:ts.length+1=2*(A.length+D)
 dle:D≤U.length
theorem ANM{α β:Type}{l l':List α}(h:l.Perm l')(f:α→List β):(l.flatMap f).Perm (l'.flatMap f):=by
 induction h with
 |nil=>exact AsY _
 |cons x _ ih=>rw[Ap7,Ap7];exact ih.append_left _
 |swap x y l=>
  simp only[Ap7,← Ap1]
  exact List.perm_append_comm.append_right _
 |trans _ _ h1 h2=>exact h1.trans h2
theorem Iv.perm{n:Nat}{ts:List Tsk}{dn:List Bool}{A B U:List Nat}{D:Nat}(h:Iv n ts dn A U D)(hp:A.Perm B):Iv n ts dn B U D:=
 ⟨h.len,h.tr.perm hp,((ANM hp.symm _).append_right _).trans h.units,h.dn,by rw[← hp.length_eq];exact h.size,h.dle⟩
theorem ABx{ts:List Tsk}{A B:List Nat}(hp:A.Perm B):pot ts A=pot ts B:=(hp.map _).sum_nat
theorem Jd{ts ts':List Tsk}(h:Alike ts ts'){a:Nat}(ha:a<ts.length):rng ts' a=rng ts a∧L8 ts' a=L8 ts a:=by
 have hs:ts[a]? = some ts[a]:=ApO ha
 obtain⟨t',h1,h2,h3,_⟩:=h.2 a _ hs
 unfold rng L8
 rw[h1,hs]
 simp only[h2,h3,and_self]
theorem Iv.lt{n:Nat}{ts:List Tsk}{dn:List Bool}{A U:List Nat}{D:Nat}(h:Iv n ts dn A U D){a:Nat}(ha:a∈A):a<ts.length:=by
 obtain⟨t,ht,_⟩:=h.tr.act a ha
 exact(Apd.1 ht).1
theorem Hp{α β:Type}{l:List α}{f g:α→List β}(h:∀ x∈l,f x=g x):l.flatMap f=l.flatMap g:=by
 induction l with
 |nil=>rfl
 |cons x l ih=>rw[Ap7,Ap7,h x (by simp),ih fun y hy=>h y (by simp[hy])]
theorem ALl{lo A8 hi:Nat}(h1:lo≤A8)(h2:A8≤hi):List.range' lo (A8-lo)++List.range' A8 (hi-A8)=List.range' lo (hi-lo):=by
 have:=List.range'_append_1 (s:=lo) (m:=A8-lo) (n:=hi-A8)
 rw[show lo+(A8-lo)=A8 by omega,show A8-lo+(hi-A8)=hi-lo by omega]at this
 exact this
theorem Iv.part{n:Nat}{ts:List Tsk}{dn:List Bool}{a:Nat}{A U:List Nat}{D:Nat}(h:Iv n ts dn (a::A) U D){t:Tsk}(ht:ts[a]? = some t){A8:Nat}(h1:t.lo<A8)(h2:A8<t.hi):
  Iv n (ts.set a { t with wait:=2 }++[⟨t.lo,A8,some a,0⟩,⟨A8,t.hi,some a,0⟩]) dn (ts.length::(ts.length+1)::A) U D ∧
  pot (ts.set a { t with wait:=2 }++[⟨t.lo,A8,some a,0⟩,⟨A8,t.hi,some a,0⟩]) (ts.length::(ts.length+1)::A)<pot ts (a::A) ∧
  ∀ x,x<ts.length→rng (ts.set a { t with wait:=2 }++[⟨t.lo,A8,some a,0⟩,⟨A8,t.hi,some a,0⟩]) x=rng ts x:=by
 have hold:∀ x,x<ts.length→rng (ts.set a { t with wait:=2 }++[⟨t.lo,A8,some a,0⟩,⟨A8,t.hi,some a,0⟩]) x=rng ts x∧L8 (ts.set a { t with wait:=2 }++[⟨t.lo,A8,some a,0⟩,⟨A8,t.hi,some a,0⟩]) x=L8 ts x:=by
  intro x hx
  have h3:=Jd (Wk ht 2) hx
  rw[← h3.1,← h3.2]
  unfold rng L8
  rw[Apu (by simpa using hx)]
  exact⟨rfl,rfl⟩
 have hn0:(ts.set a { t with wait:=2 }++[⟨t.lo,A8,some a,0⟩,⟨A8,t.hi,some a,0⟩])[ts.length]? = some ⟨t.lo,A8,some a,0⟩:=by
  rw[Apx (by simp)];simp
 have hn1:(ts.set a { t with wait:=2 }++[⟨t.lo,A8,some a,0⟩,⟨A8,t.hi,some a,0⟩])[ts.length+1]? = some ⟨A8,t.hi,some a,0⟩:=by
  rw[Apx (by simp)];simp
 have hA:∀ x∈A,x<ts.length:=fun x hx=>h.lt (by simp[hx])
 refine⟨⟨h.len,h.tr.part ht h1 h2,?_,h.dn,?_,h.dle⟩,?_,fun x hx=>(hold x hx).1⟩
 ·rw[Ap7,Ap7,Hp fun x hx=>(hold x (hA x hx)).1]
  have e0:rng (ts.set a { t with wait:=2 }++[⟨t.lo,A8,some a,0⟩,⟨A8,t.hi,some a,0⟩]) ts.length=List.range' t.lo (A8-t.lo):=by unfold rng;rw[hn0]
  have e1:rng (ts.set a { t with wait:=2 }++[⟨t.lo,A8,some a,0⟩,⟨A8,t.hi,some a,0⟩]) (ts.length+1)=List.range' A8 (t.hi-A8):=by unfold rng;rw[hn1]
  rw[e0,e1,← Ap1,ALl (by omega) (by omega)]
  have:=h.units
  rw[Ap7]at this
  have e2:rng ts a=List.range' t.lo (t.hi-t.lo):=by unfold rng;rw[ht]
  rw[e2]at this
  exact this
 ·have:=h.size
  simp only[ApS,Aqb,ApW,Apk]at this ⊢
  omega
 ·unfold pot
  rw[Ap2,Ap2,Ap2,Ar3,Ar3,Ar3,Aq9 fun x hx=>(hold x (hA x hx)).2]
  have e0:L8 (ts.set a { t with wait:=2 }++[⟨t.lo,A8,some a,0⟩,⟨A8,t.hi,some a,0⟩]) ts.length=2*(A8-t.lo)-1:=by unfold L8;rw[hn0]
  have e1:L8 (ts.set a { t with wait:=2 }++[⟨t.lo,A8,some a,0⟩,⟨A8,t.hi,some a,0⟩]) (ts.length+1)=2*(t.hi-A8)-1:=by unfold L8;rw[hn1]
  have e2:L8 ts a=2*(t.hi-t.lo)-1:=by unfold L8;rw[ht]
  rw[e0,e1,e2]
  omega
theorem Iv.did{n:Nat}{ts:List Tsk}{dn:List Bool}{a:Nat}{A U:List Nat}{D:Nat}(h:Iv n ts dn (a::A) U D){t:Tsk}(ht:ts[a]? = some t):
  ∃ ts',fin ts.length ts t.up=(ts',A.isEmpty)∧Iv n ts' (Oe dn t.lo (t.hi-t.lo)) A (U++rng ts a) (D+1)∧pot ts' A<pot ts (a::A)∧Alike ts ts':=by
 obtain⟨ts',e1,e2,e3⟩:=h.tr.did ht
 have hA:∀ x∈A,x<ts.length:=fun x hx=>h.lt (by simp[hx])
 have htr:=h.tr.tree a t ht
 have e4:rng ts a=List.range' t.lo (t.hi-t.lo):=by unfold rng;rw[ht]
 refine⟨ts',e1,⟨by rw[AIn];exact h.len,e2,?_,?_,?_,?_⟩,?_,e3⟩
 ·rw[Hp fun x hx=>(Jd e3 (hA x hx)).1]
  refine List.Perm.trans ?_ h.units
  rw[Ap7,← Ap1,Ap1 (rng ts a)]
  exact ArZ
 ·intro u hu
  rw[AeA _ _ _ _ (by rw[h.len];exact hu)]
  have h5:=h.dn u hu
  rw[ApO (by rw[h.len];exact hu)]at h5
  rw[AqP h5,e4]
  congr 1
  rw[Aqo,Aq5,ApQ,ApQ,ApQ,ApR,Asd]
  constructor
  ·rintro (h|h)
   ·exact .inr h
   ·exact .inl h
  ·rintro (h|h)
   ·exact .inr h
   ·exact .inl h
 ·rw[e3.1]
  have:=h.size
  simp only[ApW]at this
  omega
 ·rw[ApS,e4,List.length_range']
  have:=h.dle
  have:=htr.1
  omega
 ·unfold pot
  rw[Ap2,Ar3,Aq9 fun x hx=>(Jd e3 (hA x hx)).2]
  have:L8 ts a=2*(t.hi-t.lo)-1:=by unfold L8;rw[ht]
  have:=htr.1
  omega
theorem Iv.bound{n:Nat}{ts:List Tsk}{dn:List Bool}{A U:List Nat}{D:Nat}(h:Iv n ts dn A U D):A.length+D≤n:=by
 have h1:=h.units.length_eq
 rw[ApS,Apy]at h1
 have h2:A.length≤(A.flatMap (rng ts)).length:=by
  have hA:∀ x∈A,0<(rng ts x).length:=fun x hx=>by
   obtain⟨t,ht,_⟩:=h.tr.act x hx
   have:=(h.tr.tree x t ht).1
   unfold rng;rw[ht];simp;omega
  clear h1 h
  induction A with
  |nil=>exact ApY _
  |cons a A ih=>
   rw[Ap7,ApS,ApW]
   have:=hA a (by simp)
   have:=ih fun x hx=>hA x (by simp[hx])
   omega
 have:=h.dle
 omega
theorem Iv.Aom{n:Nat}{ts:List Tsk}{dn:List Bool}{a:Nat}{A U:List Nat}{D:Nat}(h:Iv n ts dn (a::A) U D){t:Tsk}(ht:ts[a]? = some t){A8:Nat}(h1:t.lo<A8)(h2:A8<t.hi):ts.length+2+1≤2*n:=by
 have h3:=(h.part ht h1 h2).1
 have:=h3.bound
 have h4:=h3.size
 simp only[ApS,Aqb,ApW,Apk]at h4 this
 omega
theorem Iv.Anz{n:Nat}{ts:List Tsk}{dn:List Bool}{A U:List Nat}{D:Nat}(h:Iv n ts dn A U D){a:Nat}(ha:a∈A){t:Tsk}(ht:ts[a]? = some t):dn[t.lo]? = some false:=by
 have htr:=h.tr.tree a t ht
 rw[h.dn t.lo (by omega)]
 congr 1
 rw[AqQ]
 intro hU
 have hnd:=(h.units.nodup_iff).2 Aqz
 rw[Aq1]at hnd
 refine hnd.2.2 t.lo (ArT.2 ⟨a,ha,?_⟩) t.lo hU rfl
 unfold rng;rw[ht]
 rw[Asd];omega
end Go.Pev.Pl
end
section
namespace Go.Pev.Pl
structure Crw where
 ts:List Tsk
 dn:List Bool
 ds:List (List Nat)
 ov:Bool
 st:Nat
 idl:Nat
structure Evt where
 w:Nat
 ft:Option (Nat×Nat)
 pt:Bool
def found(ds:List (List Nat))(p v:Nat):Option (Nat×Nat×List (List Nat)):=
 match(ds.getD p []).getLast? with
 |some t=>some (t,p,ds.set p (ds.getD p []).dropLast)
 |none=>match ds.getD v []with
  |t::r=>some (t,v,ds.set v r)
  |[]=>none
def A8(k:Tsk):Nat:=k.lo+(k.hi-k.lo)/2
def stp(g:Nat)(c:Crw)(p v:Nat):Crw×Evt:=
 match found c.ds p v with
 |none=>({ c with st:=c.st+1,idl:=c.idl+1 },⟨p,none,false⟩)
 |some (t,f,ds)=>match c.ts[t]? with
  |none=>(c,⟨p,none,false⟩)
  |some k=>if g<k.hi-k.lo then
    ({ c with ts:=c.ts.set t { k with wait:=2 }++[⟨k.lo,A8 k,some t,0⟩,⟨A8 k,k.hi,some t,0⟩],ds:=ds.set p (ds.getD p []++[c.ts.length+1,c.ts.length]),st:=c.st+1 },⟨p,some (f,t),true⟩)
   else({ ts:=(fin c.ts.length c.ts k.up).1,dn:=Oe c.dn k.lo (k.hi-k.lo),ds:=ds,ov:=c.ov||(fin c.ts.length c.ts k.up).2,st:=c.st+1,idl:=c.idl },⟨p,some (f,t),false⟩)
theorem Jv{α:Type}{l:List α}{i:Nat}{a d:α}(h:l[i]? = some a):l.getD i d=a:=by
 rw[ApP,h];rfl
theorem ANL{l:List (List Nat)}{p:Nat}{x:List Nat}(h:l[p]? = some x)(y:List Nat):∃ R,l.flatten.Perm (x++R)∧(l.set p y).flatten.Perm (y++R):=by
 induction l generalizing p with
 |nil=>simp at h
 |cons a l ih=>
  cases p with
  |zero=>
   simp at h;subst h
   exact⟨l.flatten,by simp,by simp⟩
  |succ p=>
   obtain⟨R,h1,h2⟩:=ih (by simpa using h)
   refine⟨a++R,?_,?_⟩
   ·rw[Aqt]
    refine(h1.append_left a).trans ?_
    rw[← Ap1,← Ap1]
    exact List.perm_append_comm.append_right R
   ·rw[List.set_cons_succ,Aqt]
    refine(h2.append_left a).trans ?_
    rw[← Ap1,← Ap1]
    exact List.perm_append_comm.append_right R
theorem ADv{ds:List (List Nat)}{p v t f:Nat}{ds':List (List Nat)}(hp:p<ds.length)(hv:v<ds.length)(h:found ds p v=some (t,f,ds')):ds.flatten.Perm (t::ds'.flatten)∧ds'.length=ds.length∧f<ds.length:=by
 have e1:ds[p]? = some (ds.getD p []):=by rw[ApO hp,Jv (ApO hp)]
 have e2:ds[v]? = some (ds.getD v []):=by rw[ApO hv,Jv (ApO hv)]
 unfold found at h
 split at h
 ·rename_i x hx
  simp only[ApN,Apj]at h
  obtain⟨rfl,rfl,rfl⟩:=h
  obtain⟨ys,hy⟩:=AsT.1 hx
  rw[hy,List.dropLast_concat]
  rw[hy]at e1
  obtain⟨R,h1,h2⟩:=ANL e1 ys
  refine⟨h1.trans ?_,by simp,hp⟩
  refine List.Perm.trans ?_ (h2.symm.cons x)
  rw[Ap1]
  exact List.perm_middle
 ·split at h
  ·rename_i x r hx
   simp only[ApN,Apj]at h
   obtain⟨rfl,rfl,rfl⟩:=h
   rw[hx]at e2
   obtain⟨R,h1,h2⟩:=ANL e2 r
   exact⟨h1.trans (h2.symm.cons x),by simp,hv⟩
  ·cases h
theorem AYb{ds:List (List Nat)}{p v:Nat}(h:found ds p v=none):ds.getD p []=[]∧ds.getD v []=[]:=by
 unfold found at h
 split at h
 ·cases h
 ·rename_i hx
  split at h
  ·cases h
  ·rename_i hv
   exact⟨List.getLast?_eq_none_iff.1 hx,hv⟩
def evU(ts:List Tsk)(E:List Evt):List Nat:=E.flatMap fun e=>match e.ft with
 |some (_,t)=>if e.pt then []else rng ts t
 |none=>[]
structure StI(n W:Nat)(c:Crw)(E:List Evt):Prop where
 iv:∃ D,Iv n c.ts c.dn c.ds.flatten (evU c.ts E) D
 ov:c.ov=c.ds.flatten.isEmpty
 w:c.ds.length=W
 ev:∀ e∈E,∀ f t,e.ft=some (f,t)→t<c.ts.length
 st:c.st=E.length
 idl:c.idl≤E.length
theorem Zf(ts:List Tsk)(E E':List Evt):evU ts (E++E')=evU ts E++evU ts E':=by unfold evU;rw[Aqj]
theorem AJE{ts ts':List Tsk}{E:List Evt}(hE:∀ e∈E,∀ f t,e.ft=some (f,t)→t<ts.length)(h:∀ x,x<ts.length→rng ts' x=rng ts x):evU ts' E=evU ts E:=by
 unfold evU
 refine Hp fun e he => ?_
 cases hf:e.ft with
 |none=>rfl
 |some q=>
  obtain⟨f,t⟩:=q
  simp only
  rw[h t (hE e he f t hf)]
theorem AKy{g n W:Nat}{c:Crw}{E:List Evt}{p v:Nat}(hg:1≤g)(h:StI n W c E)(hp:p<W)(hv:v<W):
  StI n W (stp g c p v).1 (E++[(stp g c p v).2]) ∧
  (((stp g c p v).1.ds=c.ds∧(stp g c p v).1.ts=c.ts∧c.ds.getD p []=[])∨pot (stp g c p v).1.ts (stp g c p v).1.ds.flatten<pot c.ts c.ds.flatten):=by
 obtain⟨D,hiv⟩:=h.iv
 unfold stp
 cases hf:found c.ds p v with
 |none=>
  refine⟨⟨⟨D,?_⟩,h.ov,h.w,?_,by simp[h.st],by have:=h.idl;simp;omega⟩,.inl ⟨rfl,rfl,(AYb hf).1⟩⟩
  ·rw[Zf]
   simpa [evU]using hiv
  ·intro e he f t hft
   rcases ApR.1 he with he|he
   ·exact h.ev e he f t hft
   ·simp at he;subst he;cases hft
 |some q=>
  obtain⟨t,f,ds'⟩:=q
  obtain⟨h1,h2,h3⟩:=ADv (by rw[h.w];exact hp) (by rw[h.w];exact hv) hf
  have hiv1:=hiv.perm h1
  obtain⟨k,hk,hkw⟩:=hiv1.tr.act t (by simp)
  have htr:=hiv1.tr.tree t k hk
  have htl:=(Apd.1 hk).1
  simp only[hk]
  by_cases hgr:g<k.hi-k.lo
  ·rw[ApZ hgr]
   have m1:k.lo<A8 k:=by unfold A8;omega
   have m2:A8 k<k.hi:=by unfold A8;omega
   obtain⟨i1,i2,i3⟩:=hiv1.part hk m1 m2
   have hpl:p<ds'.length:=by rw[h2,h.w];exact hp
   obtain⟨R,r1,r2⟩:=ANL (p:=p) (x:=ds'.getD p []) (by rw[ApO hpl,Jv (ApO hpl)]) (ds'.getD p []++[c.ts.length+1,c.ts.length])
   have hperm:(c.ts.length::(c.ts.length+1)::ds'.flatten).Perm (ds'.set p (ds'.getD p []++[c.ts.length+1,c.ts.length])).flatten:=by
    refine List.Perm.trans ?_ r2.symm
    refine((r1.cons _).cons _).trans ?_
    rw[Ap1]
    refine List.Perm.trans ?_ (List.perm_append_comm_assoc [c.ts.length+1,c.ts.length] _ _)
    simp only[Aps,Ap9]
    exact List.Perm.swap _ _ _
   refine⟨⟨⟨D,?_⟩,?_,by simp[h2,h.w],?_,by simp[h.st],by have:=h.idl;simp;omega⟩,.inr ?_⟩
   ·rw[Zf,AJE h.ev i3]
    have:=i1.perm hperm
    simpa [evU]using this
   ·show c.ov=_
    rw[h.ov]
    have e1:c.ds.flatten≠[]:=by intro e;rw[e]at h1;exact absurd h1.length_eq (by simp)
    have e2:(ds'.set p (ds'.getD p []++[c.ts.length+1,c.ts.length])).flatten≠[]:=by intro e;rw[e]at hperm;exact absurd hperm.length_eq (by simp)
    rw[AsU.2 e1,AsU.2 e2]
   ·intro e he f' t' hft
    rcases ApR.1 he with he|he
    ·have:=h.ev e he f' t' hft
     simp;omega
    ·simp at he;subst he;cases hft
     simp;omega
   ·show pot _ _<_
    rw[← ABx hperm,ABx h1]
    exact i2
  ·rw[ApV hgr]
   obtain⟨ts',d1,d2,d3,d4⟩:=hiv1.did hk
   rw[d1]
   refine⟨⟨⟨D+1,?_⟩,?_,by rw[← h.w];exact h2,?_,by simp[h.st],by have:=h.idl;simp;omega⟩,.inr ?_⟩
   ·show Iv n ts' _ ds'.flatten (evU ts' _) _
    rw[Zf,AJE h.ev fun x hx=>(Jd d4 hx).1]
    have:evU ts' [⟨p,some (f,t),false⟩]=rng c.ts t:=by
     unfold evU;simp[(Jd d4 htl).1]
    rw[this]
    exact d2
   ·show(c.ov||_)=_
    rw[h.ov]
    have e1:c.ds.flatten≠[]:=by intro e;rw[e]at h1;exact absurd h1.length_eq (by simp)
    rw[AsU.2 e1];rfl
   ·intro e he f' t' hft
    show t'<ts'.length
    rw[d4.1]
    rcases ApR.1 he with he|he
    ·exact h.ev e he f' t' hft
    ·simp at he;subst he;cases hft
     exact htl
   ·show pot ts' _<_
    rw[ABx h1]
    exact d3
def Am(g W:Nat)(c:Crw×List Evt):Nat→Crw×List Evt
 |0=>c
 |t+1=>let s:=Am g W c t
  if s.1.ov then s else
   let x:=stp g s.1 (t % W) ((t % W+1+t/W) % W)
   (x.1,s.2++[x.2])
theorem ZS{g n W:Nat}(hg:1≤g)(hW:0<W){c:Crw×List Evt}(h:StI n W c.1 c.2):∀ t,StI n W (Am g W c t).1 (Am g W c t).2∧(Am g W c t).2.length≤c.2.length+t:=by
 intro t
 induction t with
 |zero=>exact⟨h,ApY _⟩
 |succ t ih=>
  unfold Am
  simp only
  split
  ·exact⟨ih.1,by omega⟩
  ·refine⟨(AKy hg ih.1 (Ar6 _ hW) (Ar6 _ hW)).1,?_⟩
   simp;omega
theorem PQ{g W:Nat}{c:Crw×List Evt}{t:Nat}(h:(Am g W c t).1.ov=true):∀ d,Am g W c (t+d)=Am g W c t:=by
 intro d
 induction d with
 |zero=>rfl
 |succ d ih=>
  rw[← ArQ]
  show(let s:=Am g W c (t+d);if s.1.ov then s else _)=_
  simp only
  rw[ih,ApZ h]
theorem AVt{g n W:Nat}(hg:1≤g)(hW:0<W){c:Crw×List Evt}(h:StI n W c.1 c.2)(r:Nat):∀ j,j≤W →
  (∃ i,i≤j∧(Am g W c (r*W+i)).1.ov=true)∨pot (Am g W c (r*W+j)).1.ts (Am g W c (r*W+j)).1.ds.flatten<pot (Am g W c (r*W)).1.ts (Am g W c (r*W)).1.ds.flatten ∨
  ((Am g W c (r*W+j)).1.ds=(Am g W c (r*W)).1.ds∧(Am g W c (r*W+j)).1.ts=(Am g W c (r*W)).1.ts∧∀ i,i<j→(Am g W c (r*W)).1.ds.getD i []=[]):=by
 intro j
 induction j with
 |zero=>intro _;exact .inr (.inr ⟨rfl,rfl,fun i hi=>absurd hi (by omega)⟩)
 |succ j ih=>
  intro hj
  by_cases ho:(Am g W c (r*W+j)).1.ov=true
  ·exact .inl ⟨j,by omega,ho⟩
  have hstep:Am g W c (r*W+(j+1))=((stp g (Am g W c (r*W+j)).1 j ((j+1+r) % W)).1,(Am g W c (r*W+j)).2++[(stp g (Am g W c (r*W+j)).1 j ((j+1+r) % W)).2]):=by
   rw[← ArQ]
   show(let s:=Am g W c (r*W+j);if s.1.ov then s else _)=_
   simp only
   rw[ApV ho]
   have e1:(r*W+j) % W=j:=by rw[Nat.add_comm,Nat.add_mul_mod_self_right];exact ArC (by omega)
   have e2:(r*W+j)/W=r:=by rw[Nat.add_comm,Nat.add_mul_div_right _ _ hW,Nat.div_eq_of_lt (by omega),Aqe]
   rw[e1,e2]
  have hok:=AKy (p:=j) (v:=(j+1+r) % W) hg (ZS hg hW h (r*W+j)).1 (by omega) (Ar6 _ hW)
  rw[hstep]
  rcases ih (by omega)with⟨i,h1,h2⟩|h1|⟨h1,h2,h3⟩
  ·exact .inl ⟨i,by omega,h2⟩
  ·rcases hok.2 with⟨k1,k2,_⟩|k1
   ·refine .inr (.inl ?_)
    show pot (stp g _ _ _).1.ts (stp g _ _ _).1.ds.flatten<_
    rw[k1,k2];exact h1
   ·exact .inr (.inl (Nat.lt_trans k1 h1))
  ·rcases hok.2 with⟨k1,k2,k3⟩|k1
   ·refine .inr (.inr ⟨k1.trans h1,k2.trans h2,fun i hi => ?_⟩)
    by_cases hij:i=j
    ·subst hij;rw[← h1];exact k3
    ·exact h3 i (by omega)
   ·refine .inr (.inl ?_)
    show pot (stp g _ _ _).1.ts (stp g _ _ _).1.ds.flatten<_
    rw[h1,h2]at k1;exact k1
theorem flatten_nil{l:List (List Nat)}(h:∀ i,i<l.length→l.getD i []=[]):l.flatten=[]:=by
 induction l with
 |nil=>rfl
 |cons a l ih=>
  have h0:=h 0 (by simp)
  simp at h0
  rw[Aqt,h0,Ap9]
  refine ih fun i hi => ?_
  have:=h (i+1) (by simp;omega)
  simpa using this
theorem Acl{g n W:Nat}(hg:1≤g)(hW:0<W){c:Crw×List Evt}(h:StI n W c.1 c.2):(Am g W c ((pot c.1.ts c.1.ds.flatten+1)*W)).1.ov=true:=by
 have main:∀ r,(Am g W c (r*W)).1.ov=true∨pot (Am g W c (r*W)).1.ts (Am g W c (r*W)).1.ds.flatten+r≤pot c.1.ts c.1.ds.flatten:=by
  intro r
  induction r with
  |zero=>rw[Ara];exact .inr (ApY _)
  |succ r ih=>
   rw[AqW,Aq4]
   rcases ih with h1|h1
   ·exact .inl (by rw[PQ h1];exact h1)
   ·rcases AVt hg hW h r W (ApY _)with⟨i,h2,h3⟩|h2|⟨h2,h3,h4⟩
    ·refine .inl ?_
     have:=PQ h3 (W-i)
     rw[show r*W+i+(W-i)=r*W+W by omega]at this
     rw[this];exact h3
    ·exact .inr (by omega)
    ·have hs:=(ZS hg hW h (r*W)).1
     have:=flatten_nil (l:=(Am g W c (r*W)).1.ds) (fun i hi=>h4 i (by rw[hs.w]at hi;exact hi))
     have ho:=hs.ov
     rw[this]at ho
     exact .inl (by rw[PQ ho];exact ho)
 rcases main (pot c.1.ts c.1.ds.flatten+1)with h1|h1
 ·exact h1
 ·omega
theorem StI.done{n W:Nat}{c:Crw}{E:List Evt}(h:StI n W c E)(ho:c.ov=true):(evU c.ts E).Perm (List.range n):=by
 obtain⟨D,hiv⟩:=h.iv
 have hv:=h.ov
 rw[ho]at hv
 have:=List.isEmpty_iff.1 hv.symm
 have hu:=hiv.units
 rw[this]at hu
 simpa using hu
end Go.Pev.Pl
end
section
namespace Go.Pev.Pl
abbrev TkI:=Int×Int×Int×Int×Unit
def KL:Option Nat→Int
 |none=>-1
 |some u=>(u:Int)
def Ai(t:Tsk):TkI:=((t.lo:Int),(t.hi:Int),KL t.up,(t.wait:Int),())
abbrev Mw(g:Nat)(ts:List Tsk)(dn:List Bool):List TkI×Int×List Bool×Unit:=(ts.map Ai,(g:Int),dn,())
structure Wok(g:Nat)(ts:List Tsk)(dn:List Bool):Prop where
 g1:1≤g
 g2:g≤100
 n1:1≤dn.length
 n2:dn.length≤1000
 t1:1≤ts.length
 t2:ts.length≤2000
 ok:∀ (i:Nat) (t:Tsk),ts[i]? = some t→t.lo<t.hi∧t.hi≤dn.length∧t.wait≤2∧∀ x,t.up=some x→x<i
theorem OZ(a b:Int):HJ (a,b,())=some (decide (1≤a∧a≤1000∧1≤b∧b≤100),()):=by
 rw[Qo,IN,An,An,An,An]
 by_cases h1:1≤a
 ·by_cases h2:a≤1000
  ·by_cases h3:1≤b
   ·by_cases h4:b≤100<;>simp[h1,h2,h3,h4]
   ·simp[h1,h2,h3]
  ·simp[h1,h2]
 ·simp[h1]
theorem AlM{u:Option Nat}{i:Nat}(h:∀ x,u=some x→x<i):-1≤KL u∧KL u<(i:Int):=by
 cases u with
 |none=>simp only[KL];omega
 |some x=>have:=h x rfl;simp only[KL];omega
theorem E5{ts:List Tsk}{i:Nat}{t:Tsk}(h:ts[i]? = some t):(ts.map Ai)[i]? = some (Ai t):=by rw[Ap0,h];rfl
theorem XK{g:Nat}{ts:List Tsk}{dn:List Bool}(h:Wok g ts dn):Nj (Mw g ts dn,())=some (true,()):=by
 have:=h.g1;have:=h.g2;have:=h.n1;have:=h.n2;have:=h.t1;have:=h.t2
 rw[AAd,Ni]
 simp only[AR,Apr,OZ]
 rw[ApM (show 1≤(dn.length:Int)∧(dn.length:Int)≤1000∧1≤(g:Int)∧(g:Int)≤100 by omega)]
 simp only[ApX]
 rw[Ad,ApL (show ¬ (ts.length:Int)=0 by omega),Af,ApL (show ¬ (2000:Int)<(ts.length:Int) by omega)]
 have e:=Hr (step:=EE) (fun i=>(ts.map Ai,(g:Int),dn,ts.map Ai,(ts.length:Int),(i:Int),())) (ts.map Ai) (fun _=>false) (fun _=>.inl (false,())) (.inr (.inl ())) (by rw[Apr];omega)
  (fun i x hi hx=>by
   rw[Apr]at hi
   have ht:ts[i]? = some ts[i]:=ApO hi
   generalize ts[i]=t at ht
   rw[E5 ht]at hx
   cases hx
   obtain⟨k1,k2,k3,k4⟩:=h.ok i t ht
   have k5:=AlM k4
   rw[EE,AL,ApM hi]
   simp only[AU (E5 ht),Ai,AR,Af,An]
   rw[ApL (show ¬ (t.lo:Int)<0 by omega),ApL (show ¬ (t.hi:Int)≤(t.lo:Int) by omega),ApL (show ¬ (dn.length:Int)<(t.hi:Int) by omega),ApL (show ¬ KL t.up < -1 by omega),
    ApL (show ¬ (i:Int)≤KL t.up by omega),ApL (show ¬ (t.wait:Int)<0 by omega),ApL (show ¬ (2:Int)<(t.wait:Int) by omega),AP (by omega)]
   simp)
  (by rw[EE,Apr,AL,ApL (by omega)])
 have e':AX EE many (ts.map Ai,(g:Int),dn,ts.map Ai,(ts.length:Int),(0:Int),())=_:=e
 simp only[e']
 simp
theorem MH{g:Nat}{ts:List Tsk}{dn:List Bool}(h:Wok g ts dn){i:Nat}(hi:i<ts.length):KP (Mw g ts dn,(i:Int),())=some (0,()):=by
 rw[AAa,Nh]
 simp only[XK h,AR,Apr,ApX]
 rw[Af,ApL (by omega),DG,ApL (by omega)]
theorem MG{t:Tsk}(h:t.lo≤t.hi)(h2:t.hi≤1000):IM (Ai t,())=some (((t.hi-t.lo:Nat):Int),()):=by
 rw[AAZ,Ng]
 simp only[Ai]
 rw[DK (by omega)]
theorem XL{g:Nat}{ts:List Tsk}{dn:List Bool}(h:Wok g ts dn){i:Nat}{t:Tsk}(ht:ts[i]? = some t):Nl (Mw g ts dn,(i:Int),())=some (decide (g<t.hi-t.lo),()):=by
 have hk:=h.ok i t ht
 have:=h.n2
 rw[AAi,Nk]
 have e0:ieq (0:Int) 0=true:=by rw[Ad];rfl
 simp only[MH h (Apd.1 ht).1,e0,AU (E5 ht)]
 have:=MG (t:=t) (by omega) (by omega)
 rw[show((Ai t).1,(Ai t).2.1,(Ai t).2.2.1,(Ai t).2.2.2.1,())=Ai t from rfl,this]
 simp only[AL]
theorem Aba{ts:List Tsk}{i:Nat}{t:Tsk}:(ts.map Ai).set i (Ai t)=(ts.set i t).map Ai:=by rw[List.map_set]
theorem AVK{g:Nat}{ts:List Tsk}{dn:List Bool}(h:Wok g ts dn){i:Nat}{t:Tsk}(ht:ts[i]? = some t)(hg:g<t.hi-t.lo)(hw:t.wait=0)(hl:ts.length+2≤2000):
  AAh (Mw g ts dn,(i:Int),())=some ((ts.set i { t with wait:=2 }++([⟨t.lo,A8 t,some i,0⟩,⟨A8 t,t.hi,some i,0⟩]:List Tsk)).map Ai,(g:Int),dn,(ts.length:Int),((ts.length+1:Nat):Int),0,()):=by
 have hk:=h.ok i t ht
 have:=h.n2
 have hi:=(Apd.1 ht).1
 rw[AHy,Qn]
 have e0:ieq (0:Int) 0=true:=by rw[Ad];rfl
 have hu:=MG (t:=t) (by omega) (by omega)
 simp only[MH h hi,e0,AU (E5 ht),ApX]
 rw[show((Ai t).1,(Ai t).2.1,(Ai t).2.2.1,(Ai t).2.2.2.1,())=Ai t from rfl,hu]
 simp only[DG,ApL (show ¬ t.hi-t.lo≤g by omega)]
 have e1:(Ai t).2.2.2.1=0:=by simp[Ai,hw]
 rw[e1,Af,ApL (show ¬ (0:Int)<0 by omega)]
 simp only[AR,Apr]
 rw[show(ts.length:Int)+2=((ts.length+2:Nat):Int) by omega,Ah (by omega),Af,ApL (by omega)]
 simp only[Anp (show t.hi-t.lo<9223372036854775808 by omega),LP (show(ts.map Ai).length≤4294967296 by rw[Apr];omega),Apr,ApW,Apk]
 rw[Bm (by omega)]
 have hm:IntKind.wrap .i64 ((Ai t).1+((t.hi-t.lo)/2:Nat))=(A8 t:Int):=by
  show IntKind.wrap .i64 ((t.lo:Int)+_)=_
  rw[wrap_add (by omega)];rfl
 simp only[hm,ES]
 have hget:(ts.map Ai++[((Ai t).1,((A8 t:Nat):Int),(i:Int),(0:Int),()),(((A8 t:Nat):Int),(Ai t).2.1,(i:Int),(0:Int),())])[i]? = some (Ai t):=by
  rw[Apu (by rw[Apr];exact hi)];exact E5 ht
 simp only[AU hget,BO hget]
 rw[DZ,List.set_append_left _ _ (by rw[Apr];exact hi)]
 rw[AP (by omega),AqO,← Aba]
 rfl
theorem AkD:∀ (k:Nat) (ts:List Tsk) (u:Option Nat) (n:Nat),(∀ (i:Nat) (t:Tsk),ts[i]? = some t→t.wait≤2∧∀ x,t.up=some x→x<i)→(∀ x,u=some x→x<k∧x<ts.length)→ts.length<1000000→k<n →
  Aj DM n (ts.map Ai,KL u,())=some (if(fin k ts u).2=true then Sum.inr (Sum.inl ((fin k ts u).1.map Ai,()))else Sum.inl ((fin k ts u).1.map Ai,false,())):=by
 have enone:∀ (ts:List Tsk) (n:Nat),0<n→Aj DM n (ts.map Ai,KL none,())=some (Sum.inr (Sum.inl (ts.map Ai,()))):=by
  intro ts n hn
  obtain⟨n,rfl⟩:∃ m,n=m+1:=⟨n-1,by omega⟩
  rw[Aj,DM]
  unfold KL
  rw[Ad,ApM rfl]
  rfl
 intro k
 induction k with
 |zero=>
  intro ts u n ht hu hl hn
  cases u with
  |none=>rw[enone ts n hn];rfl
  |some x=>exact absurd (hu x rfl).1 (by omega)
 |succ k ih=>
  intro ts u n ht hu hl hn
  cases u with
  |none=>rw[enone ts n (by omega)];rfl
  |some x=>
   obtain⟨h1,h2⟩:=hu x rfl
   obtain⟨n,rfl⟩:∃ m,n=m+1:=⟨n-1,by omega⟩
   have hx:ts[x]? = some (ts[x]):=ApO h2
   generalize ts[x]=t at hx
   have htx:=ht x t hx
   rw[Aj,DM]
   have e1:ieq (KL (some x)) (-1:Int)=false:=by rw[Ad];exact ApL (by simp only[KL];omega)
   have e2:KL (some x)=(x:Int):=rfl
   simp only[e1]
   simp only[Ap5,e2,AU (E5 hx),BO (E5 hx)]
   have hs:Az (ts.map Ai) (AN (x:Int)) ((Ai t).1,(Ai t).2.1,(Ai t).2.2.1,IntKind.wrap .i64 ((Ai t).2.2.2.1-1),())=if t.wait=0 then Az (ts.map Ai) (AN (x:Int)) ((Ai t).1,(Ai t).2.1,(Ai t).2.2.1,IntKind.wrap .i64 ((Ai t).2.2.2.1-1),())else(ts.set x { t with wait:=t.wait-1 }).map Ai:=by
    by_cases hw:t.wait=0
    ·rw[ApZ hw]
    ·rw[ApV hw,DZ,← Aba]
     congr 1
     show((Ai t).1,(Ai t).2.1,(Ai t).2.2.1,IntKind.wrap .i64 ((t.wait:Int)-1),())=_
     rw[BA (by omega)];rfl
   unfold fin
   rw[hx]
   by_cases hw:t.wait=0
   ·have e3:ieq (Ai t).2.2.2.1 (0:Int)=true:=by rw[Ad];exact ApM (by simp[Ai,hw])
    simp only[e3,hw,Ap6]
    rfl
   ·have e3:ieq (Ai t).2.2.2.1 (0:Int)=false:=by rw[Ad];exact ApL (by simp[Ai,hw])
    rw[ApV hw]at hs
    simp only[e3,hs]
    have hg:((ts.set x { t with wait:=t.wait-1 }).map Ai)[x]? = some (Ai { t with wait:=t.wait-1 }):=E5 (PN hx)
    simp only[BO hg]
    by_cases hw2:0<t.wait-1
    ·have e4:ilt (0:Int) (Ai { t with wait:=t.wait-1 }).2.2.2.1=true:=by
      rw[Af];exact ApM (by simp only[Ai];omega)
     simp only[e4,hw,hw2,Ap6,Apf]
     rfl
    ·have e4:ilt (0:Int) (Ai { t with wait:=t.wait-1 }).2.2.2.1=false:=by
      rw[Af];exact ApL (by simp only[Ai];omega)
     simp only[e4,hw,hw2,Apf]
     have e5:(Ai { t with wait:=t.wait-1 }).2.2.1=KL t.up:=rfl
     rw[e5]
     exact ih (ts.set x { t with wait:=t.wait-1 }) t.up n (fun i s hs=>by
      rcases N3 hs with⟨rfl,rfl,_⟩|⟨_,hs⟩
      ·exact⟨by show t.wait-1≤2;omega,htx.2⟩
      ·exact ht i s hs) (fun y hy=>by
      have:=htx.2 y hy
      rw[Aqb]
      exact⟨by omega,by omega⟩) (by rw[Aqb];exact hl) (by omega)
theorem AKr{ts:List Tsk}{u:Option Nat}(ht:∀ (i:Nat) (t:Tsk),ts[i]? = some t→t.wait≤2∧∀ x,t.up=some x→x<i)(hu:∀ x,u=some x→x<ts.length)(hl:ts.length<1000000):
  MJ (ts.map Ai,KL u,())=some ((fin ts.length ts u).1.map Ai,(fin ts.length ts u).2,()):=by
 rw[XO,KQ]
 have hm:ts.length<many:=by simp only[many];omega
 have e:=AkD ts.length ts u many ht (fun x hx=>⟨hu x hx,hu x hx⟩) hl hm
 rw[A3,e]
 by_cases hb:(fin ts.length ts u).2=true
 ·rw[ApZ hb];simp only[hb]
 ·rw[ApV hb]
  simp only[Bool.not_eq_true]at hb
  simp only[hb]
theorem AYf(lo:Nat):∀ (k:Nat) (dn:List Bool),(List.range k).foldl (fun a j=>a.set (lo+j) true) dn=Oe dn lo k:=by
 intro k
 induction k with
 |zero=>intro dn;rfl
 |succ k ih=>intro dn;rw[AqG,ArI,ih];rfl
theorem Ags{g:Nat}{ts:List Tsk}{dn:List Bool}(h:Wok g ts dn){i:Nat}{t:Tsk}(ht:ts[i]? = some t)(hg:¬ g<t.hi-t.lo)(hw:t.wait=0)(hd:dn[t.lo]? = some false):
  Agu (Mw g ts dn,(i:Int),())=some ((fin ts.length ts t.up).1.map Ai,(g:Int),Oe dn t.lo (t.hi-t.lo),(fin ts.length ts t.up).2,0,()):=by
 have hk:=h.ok i t ht
 have:=h.n2
 have:=h.t2
 have hi:=(Apd.1 ht).1
 rw[AaO,AKt]
 have e0:ieq (0:Int) 0=true:=by rw[Ad];rfl
 have hu:=MG (t:=t) (by omega) (by omega)
 simp only[MH h hi,e0,AU (E5 ht),ApX]
 rw[show((Ai t).1,(Ai t).2.1,(Ai t).2.2.1,(Ai t).2.2.2.1,())=Ai t from rfl,hu]
 simp only[AL,ApL hg]
 have e1:(Ai t).2.2.2.1=0:=by simp[Ai,hw]
 have e2:(Ai t).1=(t.lo:Int):=rfl
 have e3:(Ai t).2.1=(t.hi:Int):=rfl
 have e4:(Ai t).2.2.1=KL t.up:=rfl
 rw[e1,Af,ApL (show ¬ (0:Int)<0 by omega)]
 simp only[e2,e3,e4,AU hd,LP (show(ts.map Ai).length≤4294967296 by rw[Apr];omega),LP (show dn.length≤4294967296 by omega)]
 have e:=Er (step:=KR) (fun j (a:List Bool)=>(ts.map Ai,(g:Int),a,(0:Int),(t.lo:Int),(t.hi:Int),KL t.up,(0:Int),((t.lo+j:Nat):Int),())) (List.range (t.hi-t.lo)) (fun(j:Nat) a=>.inl (a.set (t.lo+j) true))
  (fun a=>.inl (ts.map Ai,(g:Int),a,(0:Int),(t.lo:Int),(t.hi:Int),KL t.up,(0:Int),())) (fun _ a=>a.length=dn.length) (by rw[Apy];omega)
  (fun j x a hj hx ha=>by
   rw[Apy]at hj
   rw[Aqs hj]at hx
   cases hx
   refine⟨fun a' h' => ?_,fun r h'=>by cases h'⟩
   cases h'
   refine⟨?_,by rw[Aqb];exact ha⟩
   rw[KR,AL,ApM (show t.lo+j<t.hi by omega)]
   obtain⟨x,hx⟩:=Aoa (xs:=a) (n:=t.lo+j) (by omega)
   simp only[hx,DZ]
   rw[AP (by omega)]
   rfl)
  (fun a _=>by
   rw[Apy,KR,AL,ApL (by omega)]) dn rfl
 have e':AX KR many (ts.map Ai,(g:Int),dn,(0:Int),(t.lo:Int),(t.hi:Int),KL t.up,(0:Int),(t.lo:Int),())=_:=e
 rw[e',CP,AYf]
 simp only
 rw[AKr (fun i s hs=>⟨(h.ok i s hs).2.2.1,(h.ok i s hs).2.2.2⟩) (fun x hx=>by have:=hk.2.2.2 x hx;omega) (by omega)]
end Go.Pev.Pl
end
