/- A part of the proofs of this seat: G26M1 G26M2 G26M3 G26M4 G26M5 G26M U26al Pln PlnB PlnM PlnD PlnE T05a T05b T05c U26a. -/
import Derived.Test.YtfojmhgomdbpfaaGreatP6c5f46aa10
import Derived.KernelRfl
import Derived.IntWalk
import Derived.Sort.AssemblyPlain
set_option linter.unusedVariables false
set_option linter.unusedSimpArgs false
set_option linter.unusedSectionVars false
set_option maxRecDepth 100000
section
namespace Go.Pev
noncomputable section
attribute [local irreducible] OV Ks N3 OC Ah3 Ah4 Ah6 Qr AFn Qd YD K2 Aj many IntKind.wrap AN Az AW BV Bu Fv Du AM Br B5 imax AR Ad
abbrev U0:Ty:=(.int .i64)
abbrev U1:=(Int×Int×Unit)
abbrev U2:Ty:=(.prod U0 (.prod U0 .unit))
abbrev U3:=(Int×Int×Int×Bool×Unit)
abbrev U4:=(List Int)
abbrev U5:Ty:=(.prod U0 (.prod U0 (.prod U0 (.prod .bool .unit))))
abbrev U6:=(Int×Int×Int×Int×Unit)
abbrev U7:Ty:=(.slice U0)
abbrev U8:=(List U4×Int×Int×Int×Unit)
abbrev U9:=(List U1×Int×Int×Int×Unit)
abbrev Ua:=(Int×Unit)
abbrev Ub:=(Int×Int×Int×Unit)
abbrev Uc:Ty:=(.slice (.prod U0 (.prod U0 U2)))
abbrev Ud:=(List U1×Int×Int×Unit)
abbrev Ue:Ty:=(.int .u32)
abbrev Uf:Ty:=(.prod U0 (.prod U0 (.prod (.slice (.arr 2 U0)) .unit)))
abbrev Ug:=(List U4×Int×Int×Unit)
abbrev Uh:Ty:=(.slice U7)
abbrev Ui:=(List U6×Int×List Bool×List U4×Bool×Int×Int×List U3×Int×Unit)
abbrev Uj:=(Bool×Unit)
abbrev Uk:Ty:=(.prod U0 (.prod (.slice U2) (.prod (.slice (.prod U0 U2)) .unit)))
abbrev Ul:=(List U1×Unit)
abbrev Um:=(List U4×Int×Int×Int×Int×Unit)
abbrev Un:=(List U1×Int×Int×Int×Int×Unit)
abbrev Uo:Ty:=(.prod Uc (.prod U0 (.prod (.slice .bool) .unit)))
abbrev Up:=(List Int×Unit)
abbrev Uq:=(List U4×Unit)
abbrev Ur:=(Int×Int×(List U4)×Unit)
abbrev Us:=(Int×(List U1)×(List Ub)×Unit)
abbrev Ut:Ty:=(.slice .bool)
abbrev Uu:=(List U6×Int×List Bool×List U4×Bool×Int×Int×Int×Int×Int×Bool×Int×Unit)
abbrev Uv:=(List Int×Int×Int×Unit)
abbrev Uw:Ty:=(.prod U0 U2)
abbrev Ux:=(Int×Int)
abbrev Uy:Ty:=(.slice U2)
abbrev Uz:Ty:=(.prod U0 (.prod (.slice U5) .unit))
abbrev V0:Ty:=(.slice Ue)
abbrev V1:=(List U4×Int×Int×Int×Int×Int×Unit)
abbrev V2:=(List U1×Int×Int×Int×Int×Int×Unit)
abbrev V3:Ty:=(.prod U0 (.prod Uh .unit))
abbrev V4:=(Int×(List U4)×Unit)
abbrev V5:=(List Int×List Int×Int×Int×List Int×List Int×Int×Int×Unit)
abbrev V6:=(Int×List U4×List Ux×Int×List U4×Int×Int×List Int×Int×Int×Bool×List Int×Bool×Bool×List Int×Int×List Int×Int×Bool×Int×List Int×Bool×Bool×List Int×Int×Int×Unit)
abbrev V7:=(Int×(List U3)×Unit)
abbrev V8:=(List U6×Int×List Bool×List U4×Bool×Int×Int×List Ux×List U4×Int×Int×Unit)
abbrev V9:=(List Int×Int×Int×Int×List Int×Int×Int×Unit)
abbrev Va:=(U1×Int)
abbrev Vb:Ty:=(.slice U5)
abbrev Vc:Ty:=(.prod U0 (.prod U0 (.prod Uf .unit)))
abbrev Vd:=(List Int×Int×List Int×Int×Int×List Int×List Int×Int×Int×Unit)
abbrev Ve:=(List Int×List Int×List Int×Int×Int×Unit)
abbrev Vf:=(List Int×Int×Unit)
abbrev Vg:Ty:=(.prod Uo (.prod Uh (.prod .bool U2)))
abbrev Vh:Ty:=(.prod U0 Uw)
abbrev Vi:=(Int×Bool×Int×Int×List U6×Int×List Bool×List U4×Bool×Int×Int×List U3×List U4×Int×Int×Unit)
abbrev Vj:=(List U6×Int×List Bool×List U4×Bool×Int×Int×List Ux×List U4×Int×Int×List Int×Int×Int×Unit)
abbrev Vk:=(List U1×List Va×Int×Int×Unit)
abbrev Vl:=(List Int×Int×List Int×Int×Int×List Int×Int×List Int×Int×Int×List Int×Int×Int×Unit)
abbrev Vm:=(Int×Int×Ur×Unit)
abbrev Vn:=(List Int×Int×Int×Int×Unit)
abbrev Ze:AE:=[(.tmp 0,.di)]
abbrev Zd:AE:=[(.tmp 0,.dat .bool)]
abbrev Zc:List RS:=[.one]
def QR[Lk]:Ua→Option (Uj):=fun(a0,_)=>
 match(ile 1 a0)with
 |true=>some ((ile a0 64),())
 |false=>some (false,())
def Lp[Lk]:=fun v=>Lk.f (QR v)
theorem AGu v:Lp v=QR v:=AJ _
abbrev AfW:AE:=[(.tmp 0,.di),(.tmp 1,.di)]
abbrev AfV:AE:=[(.tmp 0,.dat .bool)]
abbrev AfU:List RS:=[.one]
def AY0[Lk]:U1→Option (Uj):=fun(a0,a1,_)=>
 match Lp (a0,())with|none=>none|some (y0,_)=>match y0 with
 |true=>match(ile 0 a1)with
  |true=>some ((ilt a1 a0),())
  |false=>some (false,())
 |false=>some (false,())
def tin[Lk]:=fun v=>Lk.f (AY0 v)
theorem AfX v:tin v=AY0 v:=AJ _
abbrev AUB:AE:=[(.tmp 0,.di),(.tmp 1,.di),(.tmp 2,.di)]
abbrev AUA:AE:=[(.tmp 0,.di)]
abbrev AT9:List RS:=[.one]
def AJv[Lk]:Ub→Option (Ua):=fun(a0,a1,a2,_)=>
 match(ieq a1 a2)with
 |true=>some ((-1:Int),())
 |false=>match tin (a0,a1,())with|none=>none|some (y0,_)=>match(!y0)with
 |true=>some ((-1:Int),())
 |false=>match tin (a0,a2,())with|none=>none|some (y1,_)=>match(!y1)with
 |true=>some ((-1:Int),())
 |false=>some ((IntKind.wrap .i64 ((IntKind.wrap .i64 (a0*(IntKind.wrap .i64 (a1+1))))+a2)),())
def AbA[Lk]:=fun v=>Lk.f (AJv v)
theorem AY1 v:AbA v=AJv v:=AJ _
abbrev Za:AE:=[(.tmp 0,.di),(.tmp 1,.di)]
abbrev ZZ:AE:=[(.tmp 0,.di),(.tmp 1,.di),(.tmp 2,.dat .bool),(.tmp 3,.dat .bool)]
abbrev ZY:List RS:=[.one,.one,.one,.one]
def QQ[Lk]:U1→Option ((Int×Int×Bool×Bool×Unit)):=fun(a0,a1,_)=>
 match Lp (a0,())with|none=>none|some (y0,_)=>match(!y0)with
 |true=>some (0,0,false,false,())
 |false=>match(ilt a1 0)with
 |true=>some (0,0,false,false,())
 |false=>match(ile (IntKind.wrap .i64 (a0*(IntKind.wrap .i64 (a0+1)))) a1)with
 |true=>some (0,0,false,false,())
 |false=>match(ilt a1 a0)with
 |true=>some (a1,0,false,true,())
 |false=>match quo? .i64 a1 a0 with|none=>none|some x1=>match rem? a1 a0 with|none=>none|some x2=>match(ieq (IntKind.wrap .i64 (x1-1)) x2)with
 |true=>some (0,0,false,false,())
 |false=>some ((IntKind.wrap .i64 (x1-1)),x2,true,true,())
def Zb[Lk]:=fun v=>Lk.f (QQ v)
theorem AGt v:Zb v=QQ v:=AJ _
abbrev AJh:AE:=[(.tmp 0,.di)]
abbrev AJg:AE:=[(.tmp 0,.di),(.tmp 1,.own 41 U7),(.tmp 2,.di)]
abbrev AJf:List RS:=[.agg 2,.one]
abbrev AOX:AE:=[(.tmp 2,.box 2),(.cell 0 0,.di),(.cell 0 1,.nil U7),(.tmp 4,.box 2),(.cell 1 0,.di),(.cell 1 1,.own 41 U7),(.tmp 12,.di),(.tmp 13,.di)]
abbrev AOW:At:=[(.exit 0,[(.tmp 2,.box 2),(.cell 0 0,.di),(.cell 0 1,.nil U7),(.tmp 4,.box 2),(.cell 1 0,.di),(.cell 1 1,.own 41 U7)])]
def HN[Lk]:(Int×Int×List U4×Int×Int×Unit)→Option ((Int×Int×List U4×Int×Int×Unit)⊕(Int×Int×List U4×Unit)⊕Unit):=fun(a0,a1,a2,a3,a4,_)=>
 match(ilt a4 a3)with
 |true=>match(fits ((AN a2)+(AN ([([a4]:List (Int))]:List U4))))with
  |true=>some (.inl (a0,a1,(BV a2 ([([a4]:List (Int))]:List U4)),a3,(IntKind.wrap .i64 (a4+1)),()))
  |false=>none
 |false=>some (.inr (.inl (a0,a1,a2,())))
def Yi[Lk]:Ua→Option ((Int×List U4×Int×Unit)):=fun(a0,_)=>
 match Lp (a0,())with|none=>none|some (y0,_)=>match(!y0)with
 |true=>some (0,([]:List U4),1,())
 |false=>match AX HN many (0,a0,([]:List U4),a0,0,())with|none=>none|some r=>match r with
 |.inl (o1,o2,o3,_)=>some (o2,o3,0,())
 |.inr _=>none
def AOZ[Lk]:=fun v=>Lk.f (Yi v)
theorem AOY v:AOZ v=Yi v:=AJ _
abbrev ACp:AE:=[(.tmp 0,.dat U7),(.tmp 1,.di)]
abbrev ACo:AE:=[(.tmp 0,.di)]
abbrev ACn:List RS:=[.one]
abbrev AH4:AE:=[(.tmp 0,.dat U7),(.tmp 1,.di),(.tmp 7,.di),(.tmp 8,.di)]
abbrev AH3:At:=[(.ret,[(.tmp 4,.di)]),(.exit 0,[])]
def Fb[Lk]:Vn→Option (Vn⊕Ua⊕(Unit)⊕Unit):=fun(a0,a1,a2,a3,_)=>
 match(ilt a3 a2)with
 |true=>match idx a0 a3 with|none=>none|some x0=>match(ieq a1 x0)with
  |true=>some (.inr (.inl (a3,())))
  |false=>some (.inl (a0,a1,a2,(IntKind.wrap .i64 (a3+1)),()))
 |false=>some (.inr (.inr (.inl ())))
def Q8[Lk]:Vf→Option (Ua):=fun(a0,a1,_)=>
 match AX Fb many (a0,a1,(AN a0),0,())with|none=>none|some r=>match r with
 |.inl (o0,_)=>some (o0,())
 |.inr r=>match r with
 |.inl _=>some ((-1:Int),())
 |.inr _=>none
def PZ[Lk]:=fun v=>Lk.f (Q8 v)
theorem AH5 v:PZ v=Q8 v:=AJ _
abbrev Md:AE:=[(.tmp 0,.dat U7),(.tmp 1,.di)]
abbrev Mc:AE:=[(.tmp 0,.dat .bool)]
abbrev Mb:List RS:=[.one]
def IZ[Lk]:Vf→Option (Uj):=fun(a0,a1,_)=>
 match PZ (a0,a1,())with|none=>none|some (y0,_)=>some ((ile 0 y0),())
def Fx[Lk]:=fun v=>Lk.f (IZ v)
theorem Rf v:Fx v=IZ v:=AJ _
abbrev AWF:AE:=[(.tmp 0,.dat U7)]
abbrev AWE:AE:=[(.tmp 0,.di)]
abbrev AWD:List RS:=[.one]
abbrev AZe:AE:=[(.tmp 0,.dat U7),(.tmp 3,.di),(.tmp 4,.di)]
abbrev AZd:At:=[(.exit 0,[(.tmp 3,.di)])]
def KM[Lk]:Uv→Option (Uv⊕Ua⊕Unit):=fun(a0,a1,a2,_)=>
 match(ilt a2 (AN a0))with
 |true=>match idx a0 a2 with|none=>none|some x0=>some (.inl (a0,(B5 a1 x0),(IntKind.wrap .i64 (a2+1)),()))
 |false=>some (.inr (.inl (a1,())))
def ALR[Lk]:Up→Option (Ua):=fun(a0,_)=>
 match(ilt (AN a0) 1)with
 |true=>none
 |false=>match idx a0 0 with|none=>none|some x0=>match AX KM many (a0,x0,1,())with|none=>none|some r=>match r with
 |.inl (o1,_)=>some (o1,())
 |.inr _=>none
def AcZ[Lk]:=fun v=>Lk.f (ALR v)
theorem AZf v:AcZ v=ALR v:=AJ _
abbrev AL6:AE:=[(.tmp 0,.nil U0),(.tmp 1,.di)]
abbrev AL5:AE:=[(.tmp 0,.own 3 U0)]
abbrev AL4:List RS:=[.one]
def Yw[Lk]:Ua→Option (Up):=fun(a0,_)=>
 match(ilt a0 0)with
 |true=>none
 |false=>match(ilt 0 (IntKind.wrap .i64 (a0-(IntKind.wrap .i64 (0-0)))))with
 |true=>match D6 ([]:List Unit) 0 0 with|none=>none|some _u0=>match(CK (IntKind.wrap .i64 (a0-(IntKind.wrap .i64 (0-0)))))with
  |true=>match D6 (Du (AM (IntKind.wrap .i64 (a0-(IntKind.wrap .i64 ((0:Int)-(0:Int)))))) (0:Int)) (0:Int) (0:Int)with|none=>none|some x1=>some ((Bu (AM (AN x1)) (Du (AM (IntKind.wrap .i64 (a0-(IntKind.wrap .i64 ((0:Int)-(0:Int)))))) (0:Int))),())
  |false=>none
 |false=>some (([]:List (Int)),())
def ARl[Lk]:=fun v=>Lk.f (Yw v)
theorem ARk v:ARl v=Yw v:=AJ _
abbrev VV:AE:=[(.tmp 0,.dat Uh)]
abbrev VU:AE:=[(.tmp 0,.own 3 U0)]
abbrev VT:List RS:=[.one]
abbrev AD7:AE:=[(.tmp 6,.own 3 U0),(.tmp 25,.dat Uh),(.tmp 26,.di),(.tmp 27,.di)]
abbrev AD5:At:=[(.exit 2,[(.tmp 6,.own 3 U0)])]
def EI[Lk]:(List Int×List U4×Int×Int×Unit)→Option ((List Int×List U4×Int×Int×Unit)⊕Up⊕Unit):=fun(a0,a1,a2,a3,_)=>
 match(ilt a3 a2)with
 |true=>match idx a1 a3 with|none=>none|some x0=>match(fits ((AN a0)+(AN x0)))with
  |true=>some (.inl ((BV a0 x0),a1,a2,(IntKind.wrap .i64 (a3+1)),()))
  |false=>none
 |false=>some (.inr (.inl (a0,())))
abbrev AD8:AE:=[(.tmp 0,.dat Uh),(.tmp 3,.di),(.tmp 9,.dat Uh),(.tmp 10,.di),(.tmp 11,.di)]
abbrev AD6:At:=[(.exit 0,[(.tmp 0,.dat Uh),(.tmp 3,.di)])]
def EJ[Lk]:(List U4×Int×List U4×Int×Int×Unit)→Option ((List U4×Int×List U4×Int×Int×Unit)⊕(List U4×Int×Unit)⊕Unit):=fun(a0,a1,a2,a3,a4,_)=>
 match(ilt a4 a3)with
 |true=>match idx a2 a4 with|none=>none|some x0=>match(ilt (IntKind.wrap .i64 (a1+(AN x0))) 0)with
  |true=>none
  |false=>some (.inl (a0,(IntKind.wrap .i64 (a1+(AN x0))),a2,a3,(IntKind.wrap .i64 (a4+1)),()))
 |false=>some (.inr (.inl (a0,a1,())))
def Nn[Lk]:Uq→Option (Up):=fun(a0,_)=>
 match AX EJ many (a0,0,a0,(AN a0),0,())with|none=>none|some r=>match r with
 |.inl (o0,o1,_)=>match ARl (o1,())with|none=>none|some (y2,_)=>match AX EI many (y2,o0,(AN o0),0,())with|none=>none|some r=>match r with
  |.inl (o3,_)=>some (o3,())
  |.inr _=>none
 |.inr _=>none
def K1[Lk]:=fun v=>Lk.f (Nn v)
theorem AD9 v:K1 v=Nn v:=AJ _
abbrev Hg:AE:=[(.tmp 0,.dat U7),(.tmp 1,.clo 161 [])]
abbrev Hf:AE:=[(.tmp 0,.di)]
abbrev He:List RS:=[.one]
abbrev Lb:AE:=[(.tmp 0,.dat U7),(.tmp 1,.clo 161 []),(.tmp 7,.di),(.tmp 8,.di)]
abbrev La:At:=[(.ret,[(.tmp 4,.di)]),(.exit 0,[])]
def Bx[Lk]:Uv→Option (Uv⊕Ua⊕(Unit)⊕Unit):=fun(a0,a1,a2,_)=>
 match(ilt a2 a1)with
 |true=>match idx a0 a2 with|none=>none|some x0=>match(ilt x0 0)with
  |true=>some (.inr (.inl (a2,())))
  |false=>match(ilt 10000 x0)with
  |true=>some (.inr (.inl (a2,())))
  |false=>some (.inl (a0,a1,(IntKind.wrap .i64 (a2+1)),()))
 |false=>some (.inr (.inr (.inl ())))
def Es[Lk]:Up→Option (Ua):=fun(a0,_)=>
 match AX Bx many (a0,(AN a0),0,())with|none=>none|some r=>match r with
 |.inl (o0,_)=>some (o0,())
 |.inr r=>match r with
 |.inl _=>some ((-1:Int),())
 |.inr _=>none
def Gy[Lk]:=fun v=>Lk.f (Es v)
theorem Lc v:Gy v=Es v:=AJ _
abbrev Gq:AE:=[(.tmp 0,.dat U7),(.tmp 1,.clo 161 [])]
abbrev Gp:AE:=[(.tmp 0,.dat .bool)]
abbrev Gn:List RS:=[.one]
def D2[Lk]:Up→Option (Uj):=fun(a0,_)=>
 match Gy (a0,())with|none=>none|some (y0,_)=>some ((ile 0 y0),())
def Dv[Lk]:=fun v=>Lk.f (D2 v)
theorem Jo v:Dv v=D2 v:=AJ _
abbrev AV2:AE:=[(.tmp 0,.dat U7)]
abbrev AV1:AE:=[(.tmp 0,.dat .bool)]
abbrev AV0:List RS:=[.one]
abbrev AZW:AE:=[(.tmp 0,.dat U7),(.tmp 3,.map U0 U0),(.tmp 7,.dat U7),(.tmp 8,.di),(.tmp 9,.di)]
abbrev AZV:At:=[(.exit 0,[(.tmp 0,.dat U7),(.tmp 3,.map U0 U0)])]
def KG[Lk]:(List Int×List Ux×List Int×Int×Int×Unit)→Option ((List Int×List Ux×List Int×Int×Int×Unit)⊕(List Int×List Ux×Unit)⊕Unit):=fun(a0,a1,a2,a3,a4,_)=>
 match(ilt a4 a3)with
 |true=>match idx a2 a4 with|none=>none|some x0=>some (.inl (a0,(Ad a1 x0 (IntKind.wrap .i64 (((AR a1 x0).getD 0)+1))),a2,a3,(IntKind.wrap .i64 (a4+1)),()))
 |false=>some (.inr (.inl (a0,a1,())))
def ALH[Lk]:Up→Option (Uj):=fun(a0,_)=>
 match AX KG many (a0,([]:List Ux),a0,(AN a0),0,())with|none=>none|some r=>match r with
 |.inl (o0,o1,_)=>some ((ieq (AN o1) (AN o0)),())
 |.inr _=>none
def once[Lk]:=fun v=>Lk.f (ALH v)
theorem AZX v:once v=ALH v:=AJ _
abbrev AAn:AE:=[(.tmp 0,.dat U7)]
abbrev AAm:AE:=[(.tmp 0,.dat .bool)]
abbrev AAl:List RS:=[.one]
def Ql[Lk]:Up→Option (Uj):=fun(a0,_)=>
 match(ilt 1000 (AN a0))with
 |true=>some (false,())
 |false=>match Dv (a0,())with|none=>none|some (y0,_)=>match(!y0)with
 |true=>match once (a0,())with|none=>none|some (y1,_)=>some (y1,())
 |false=>some (false,())
def O8[Lk]:=fun v=>Lk.f (Ql v)
theorem AHP v:O8 v=Ql v:=AJ _
abbrev ZW:AE:=[(.tmp 0,.dat U7),(.tmp 1,.di)]
abbrev ZV:AE:=[(.tmp 0,.own 3 U0)]
abbrev ZU:List RS:=[.one]
def QP[Lk]:Vf→Option (Up):=fun(a0,a1,_)=>
 match D6 a0 a1 (AN a0)with|none=>none|some x0=>match D6 a0 0 a1 with|none=>none|some x1=>match K1 (([x0,x1]:List U4),())with|none=>none|some (y2,_)=>some (y2,())
def Sq[Lk]:=fun v=>Lk.f (QP v)
theorem AGs v:Sq v=QP v:=AJ _
abbrev ABL:AE:=[(.tmp 0,.dat U7),(.tmp 1,.dat U7)]
abbrev ABK:AE:=[(.tmp 0,.own 3 U0),(.tmp 1,.dat .bool)]
abbrev ABJ:List RS:=[.one,.one]
abbrev AHd:AE:=[(.tmp 0,.dat U7),(.tmp 6,.own 3 U0),(.tmp 12,.dat U7),(.tmp 13,.di),(.tmp 14,.di)]
abbrev AHc:At:=[(.exit 0,[(.tmp 6,.own 3 U0)])]
def ET[Lk]:Ve→Option (Ve⊕Up⊕Unit):=fun(a0,a1,a2,a3,a4,_)=>
 match(ilt a4 a3)with
 |true=>match idx a2 a4 with|none=>none|some x0=>match PZ (a0,x0,())with|none=>none|some (y1,_)=>match(fits ((AN a1)+(AN ([y1]:List (Int)))))with
  |true=>some (.inl (a0,(BV a1 ([y1]:List (Int))),a2,a3,(IntKind.wrap .i64 (a4+1)),()))
  |false=>none
 |false=>some (.inr (.inl (a1,())))
def Qw[Lk]:(List Int×List Int×Unit)→Option ((List Int×Bool×Unit)):=fun(a0,a1,_)=>
 match O8 (a0,())with|none=>none|some (y0,_)=>match(!y0)with
 |true=>some (([]:List (Int)),false,())
 |false=>match AX ET many (a0,([]:List (Int)),a1,(AN a1),0,())with|none=>none|some r=>match r with
 |.inl (o1,_)=>match Fx (o1,(-1:Int),())with|none=>none|some (y2,_)=>some (o1,(!y2),())
 |.inr _=>none
def AKo[Lk]:=fun v=>Lk.f (Qw v)
theorem AHe v:AKo v=Qw v:=AJ _
abbrev AKe:AE:=[(.tmp 0,.dat U7),(.tmp 1,.di)]
abbrev AKd:AE:=[(.tmp 0,.own 3 U0),(.tmp 1,.dat .bool)]
abbrev AKc:List RS:=[.one,.one]
def Yo[Lk]:Vf→Option ((List Int×Bool×Unit)):=fun(a0,a1,_)=>
 match AKo (a0,([a1]:List (Int)),())with|none=>none|some (y0,y1,_)=>match(!y1)with
 |true=>some (([]:List (Int)),false,())
 |false=>match idx y0 0 with|none=>none|some x2=>match Sq (a0,(AW y0 0 0),())with|none=>none|some (y3,_)=>some (y3,true,())
def AHR[Lk]:=fun v=>Lk.f (Yo v)
theorem APa v:AHR v=Yo v:=AJ _
abbrev AAq:AE:=[(.tmp 0,.dat U7)]
abbrev AAp:AE:=[(.tmp 0,.own 3 U0)]
abbrev AAo:List RS:=[.one]
def Qm[Lk]:Up→Option (Up):=fun(a0,_)=>
 match O8 (a0,())with|none=>none|some (y0,_)=>match(!y0)with
 |true=>some (([]:List (Int)),())
 |false=>match(ieq (AN a0) 0)with
 |true=>some (([]:List (Int)),())
 |false=>match AcZ (a0,())with|none=>none|some (y1,_)=>match PZ (a0,y1,())with|none=>none|some (y2,_)=>match Sq (a0,y2,())with|none=>none|some (y3,_)=>some (y3,())
def AAr[Lk]:=fun v=>Lk.f (Qm v)
theorem AHQ v:AAr v=Qm v:=AJ _
abbrev Ff:AE:=[(.tmp 0,.dat Uh),(.cap 1 0,.box 1),(.cell 0 0,.di),(.tmp 1,.clo 128 [(0,0)])]
abbrev Fe:AE:=[(.obj 0,.box 1),(.cell 0 0,.di),(.tmp 0,.di)]
abbrev Fc:List RS:=[.one]
abbrev IK:AE:=[(.obj 0,.box 1),(.cell 0 0,.di),(.tmp 0,.dat Uh),(.tmp 1,.clo 128 [(0,0)]),(.tmp 7,.di),(.tmp 8,.di)]
abbrev IJ:At:=[(.ret,[(.obj 0,.box 1),(.cell 0 0,.di),(.tmp 4,.di)]),(.exit 0,[(.obj 0,.box 1),(.cell 0 0,.di)])]
def Be[Lk]:(Int×List U4×Int×Int×Unit)→Option ((Int×List U4×Int×Int×Unit)⊕U1⊕Ua⊕Unit):=fun(a0,a1,a2,a3,_)=>
 match(ilt a3 a2)with
 |true=>match idx a1 a3 with|none=>none|some x0=>match Fx (x0,a0,())with|none=>none|some (y1,_)=>match y1 with
  |true=>some (.inr (.inl (a0,a3,())))
  |false=>some (.inl (a0,a1,a2,(IntKind.wrap .i64 (a3+1)),()))
 |false=>some (.inr (.inr (.inl (a0,()))))
def Dd[Lk]:(List U4×Int×Unit)→Option (U1):=fun(a0,a1,_)=>
 match AX Be many (a1,a0,(AN a0),0,())with|none=>none|some r=>match r with
 |.inl (o0,o1,_)=>some (o0,o1,())
 |.inr r=>match r with
 |.inl (o2,_)=>some (o2,(-1:Int),())
 |.inr _=>none
def Ep[Lk]:=fun v=>Lk.f (Dd v)
theorem IL v:Ep v=Dd v:=AJ _
abbrev Zp:AE:=[(.tmp 0,.dat V3),(.tmp 1,.di)]
abbrev Zo:AE:=[(.tmp 0,.di)]
abbrev Zn:List RS:=[.one]
def QT[Lk]:(V4×Int×Unit)→Option (Ua):=fun(a0,a1,_)=>
 match Ep (a0.2.1,a1,())with|none=>none|some (y0,y1,_)=>some (y1,())
def Su[Lk]:=fun v=>Lk.f (QT v)
theorem AG2 v:Su v=QT v:=AJ _
abbrev AW2:AE:=[(.tmp 0,.di),(.tmp 1,.dat U7)]
abbrev AW1:AE:=[(.tmp 0,.dat .bool)]
abbrev AW0:List RS:=[.one]
abbrev AZ0:AE:=[(.tmp 0,.di),(.tmp 5,.box 3),(.cell 0 0,.own 3 U0),(.cell 0 1,.map U0 U0),(.cell 0 2,.map U0 U0),(.tmp 30,.dat U7),(.tmp 31,.di),(.tmp 32,.di)]
abbrev AZz:At:=[(.ret,[(.tmp 4,.dat .bool)]),(.exit 0,[(.tmp 5,.box 3),(.cell 0 0,.own 3 U0),(.cell 0 1,.map U0 U0),(.cell 0 2,.map U0 U0)])]
def IQ[Lk]:(Int×List Int×List Ux×List Ux×List Int×Int×Int×Unit)→Option ((Int×List Int×List Ux×List Ux×List Int×Int×Int×Unit)⊕Uj⊕(List Int×List Ux×List Ux×Unit)⊕Unit):=fun(a0,a1,a2,a3,a4,a5,a6,_)=>
 match(ilt a6 a5)with
 |true=>match idx a4 a6 with|none=>none|some x0=>match Zb (a0,x0,())with|none=>none|some (y1,y2,y3,y4,_)=>match(!y4)with
  |true=>some (.inr (.inl (false,())))
  |false=>match y3 with
  |true=>match idx a1 (IntKind.wrap .i64 ((AN a1)-1))with|none=>none|some x5=>match(!(ieq (AW a1 (AM (IntKind.wrap .i64 ((AN a1)-1))) 0) y1))with
   |true=>some (.inr (.inl (false,())))
   |false=>match(ilt 0 (IntKind.wrap .i64 ((AN a1)-1)))with
   |true=>match idx a1 (IntKind.wrap .i64 ((IntKind.wrap .i64 ((AN a1)-1))-1))with|none=>none|some x6=>match(ieq (AW a1 (AM (IntKind.wrap .i64 ((IntKind.wrap .i64 ((AN a1)-1))-1))) 0) y2)with
    |true=>match D6 a1 0 (IntKind.wrap .i64 ((AN a1)-1))with|none=>none|some x7=>match(!y3)with
     |true=>match idx (Fv 0 (AM (AN x7)) a1) (IntKind.wrap .i64 ((((AM (AN x7)):Nat):Int)-1))with|none=>none|some x8=>match(!(ieq (AW a1 (0+(AM (IntKind.wrap .i64 ((((AM (AN x7)):Nat):Int)-1)))) 0) y1))with
      |true=>some (.inr (.inl (false,())))
      |false=>match(!y3)with
      |true=>some (.inl (a0,(Bu (AM (AN x7)) a1),a2,(Ad a3 y1 (IntKind.wrap .i64 (((AR a3 y1).getD 0)+1))),a4,a5,(IntKind.wrap .i64 (a6+1)),()))
      |false=>some (.inl (a0,(Bu (AM (AN x7)) a1),a2,a3,a4,a5,(IntKind.wrap .i64 (a6+1)),()))
     |false=>match(!y3)with
     |true=>some (.inl (a0,(Bu (AM (AN x7)) a1),a2,(Ad a3 y1 (IntKind.wrap .i64 (((AR a3 y1).getD 0)+1))),a4,a5,(IntKind.wrap .i64 (a6+1)),()))
     |false=>some (.inl (a0,(Bu (AM (AN x7)) a1),a2,a3,a4,a5,(IntKind.wrap .i64 (a6+1)),()))
    |false=>match(ilt 0 ((AR a2 y2).getD 0))with
    |true=>some (.inr (.inl (false,())))
    |false=>match(fits ((AN a1)+(AN ([y2]:List (Int)))))with
    |true=>match(!y3)with
     |true=>match idx (BV a1 ([y2]:List (Int))) (IntKind.wrap .i64 ((AN (BV a1 ([y2]:List (Int))))-1))with|none=>none|some x9=>match(!(ieq (AW (BV a1 ([y2]:List (Int))) (AM (IntKind.wrap .i64 ((AN (BV a1 ([y2]:List (Int))))-1))) 0) y1))with
      |true=>some (.inr (.inl (false,())))
      |false=>match(!y3)with
      |true=>some (.inl (a0,(BV a1 ([y2]:List (Int))),(Ad a2 y2 (IntKind.wrap .i64 (((AR a2 y2).getD 0)+1))),(Ad a3 y1 (IntKind.wrap .i64 (((AR a3 y1).getD 0)+1))),a4,a5,(IntKind.wrap .i64 (a6+1)),()))
      |false=>some (.inl (a0,(BV a1 ([y2]:List (Int))),(Ad a2 y2 (IntKind.wrap .i64 (((AR a2 y2).getD 0)+1))),a3,a4,a5,(IntKind.wrap .i64 (a6+1)),()))
     |false=>match(!y3)with
     |true=>some (.inl (a0,(BV a1 ([y2]:List (Int))),(Ad a2 y2 (IntKind.wrap .i64 (((AR a2 y2).getD 0)+1))),(Ad a3 y1 (IntKind.wrap .i64 (((AR a3 y1).getD 0)+1))),a4,a5,(IntKind.wrap .i64 (a6+1)),()))
     |false=>some (.inl (a0,(BV a1 ([y2]:List (Int))),(Ad a2 y2 (IntKind.wrap .i64 (((AR a2 y2).getD 0)+1))),a3,a4,a5,(IntKind.wrap .i64 (a6+1)),()))
    |false=>none
   |false=>match(ilt 0 ((AR a2 y2).getD 0))with
   |true=>some (.inr (.inl (false,())))
   |false=>match(fits ((AN a1)+(AN ([y2]:List (Int)))))with
   |true=>match(!y3)with
    |true=>match idx (BV a1 ([y2]:List (Int))) (IntKind.wrap .i64 ((AN (BV a1 ([y2]:List (Int))))-1))with|none=>none|some x10=>match(!(ieq (AW (BV a1 ([y2]:List (Int))) (AM (IntKind.wrap .i64 ((AN (BV a1 ([y2]:List (Int))))-1))) 0) y1))with
     |true=>some (.inr (.inl (false,())))
     |false=>match(!y3)with
     |true=>some (.inl (a0,(BV a1 ([y2]:List (Int))),(Ad a2 y2 (IntKind.wrap .i64 (((AR a2 y2).getD 0)+1))),(Ad a3 y1 (IntKind.wrap .i64 (((AR a3 y1).getD 0)+1))),a4,a5,(IntKind.wrap .i64 (a6+1)),()))
     |false=>some (.inl (a0,(BV a1 ([y2]:List (Int))),(Ad a2 y2 (IntKind.wrap .i64 (((AR a2 y2).getD 0)+1))),a3,a4,a5,(IntKind.wrap .i64 (a6+1)),()))
    |false=>match(!y3)with
    |true=>some (.inl (a0,(BV a1 ([y2]:List (Int))),(Ad a2 y2 (IntKind.wrap .i64 (((AR a2 y2).getD 0)+1))),(Ad a3 y1 (IntKind.wrap .i64 (((AR a3 y1).getD 0)+1))),a4,a5,(IntKind.wrap .i64 (a6+1)),()))
    |false=>some (.inl (a0,(BV a1 ([y2]:List (Int))),(Ad a2 y2 (IntKind.wrap .i64 (((AR a2 y2).getD 0)+1))),a3,a4,a5,(IntKind.wrap .i64 (a6+1)),()))
   |false=>none
  |false=>match(!y3)with
  |true=>match idx a1 (IntKind.wrap .i64 ((AN a1)-1))with|none=>none|some x11=>match(!(ieq (AW a1 (AM (IntKind.wrap .i64 ((AN a1)-1))) 0) y1))with
   |true=>some (.inr (.inl (false,())))
   |false=>match(!y3)with
   |true=>some (.inl (a0,a1,a2,(Ad a3 y1 (IntKind.wrap .i64 (((AR a3 y1).getD 0)+1))),a4,a5,(IntKind.wrap .i64 (a6+1)),()))
   |false=>some (.inl (a0,a1,a2,a3,a4,a5,(IntKind.wrap .i64 (a6+1)),()))
  |false=>match(!y3)with
  |true=>some (.inl (a0,a1,a2,(Ad a3 y1 (IntKind.wrap .i64 (((AR a3 y1).getD 0)+1))),a4,a5,(IntKind.wrap .i64 (a6+1)),()))
  |false=>some (.inl (a0,a1,a2,a3,a4,a5,(IntKind.wrap .i64 (a6+1)),()))
 |false=>some (.inr (.inr (.inl (a1,a2,a3,()))))
def AL8[Lk]:(Int×List Int×Unit)→Option (Uj):=fun(a0,a1,_)=>
 match idx a1 0 with|none=>none|some x0=>match tin (a0,x0,())with|none=>none|some (y1,_)=>match(!y1)with
 |true=>some (false,())
 |false=>match idx a1 0 with|none=>none|some x2=>match idx a1 0 with|none=>none|some x3=>match AX IQ many (a0,([x2]:List (Int)),(Ad ([]:List Ux) x3 1),([]:List Ux),a1,(AN a1),0,())with|none=>none|some r=>match r with
 |.inl (o4,_)=>some (o4,())
 |.inr r=>match r with
 |.inl (o5,o6,o7,_)=>match(ieq (AN o5) 1)with
  |true=>some ((ieq (AN o7) (AN o6)),())
  |false=>some (false,())
 |.inr _=>none
def AiO[Lk]:=fun v=>Lk.f (AL8 v)
theorem AZ1 v:AiO v=AL8 v:=AJ _
abbrev Zl:AE:=[(.tmp 0,.dat V3)]
abbrev Zk:AE:=[(.tmp 0,.dat .bool)]
abbrev Zj:List RS:=[.one]
abbrev AGy:AE:=[(.tmp 3,.map U0 U0),(.tmp 78,.di),(.tmp 79,.di)]
abbrev AGv:At:=[(.ret,[(.tmp 2,.dat .bool)]),(.exit 4,[])]
def ES[Lk]:(List Ux×Int×Int×Unit)→Option ((List Ux×Int×Int×Unit)⊕Uj⊕(Unit)⊕Unit):=fun(a0,a1,a2,_)=>
 match(ilt a2 a1)with
 |true=>match(ieq ((AR a0 a2).getD 0) 0)with
  |true=>some (.inr (.inl (false,())))
  |false=>some (.inl (a0,a1,(IntKind.wrap .i64 (a2+1)),()))
 |false=>some (.inr (.inr (.inl ())))
abbrev AGz:AE:=[(.tmp 1,.box 2),(.cell 0 0,.di),(.cell 0 1,.dat Uh),(.tmp 3,.map U0 U0),(.tmp 4,.di),(.tmp 16,.dat Uh),(.tmp 17,.di),(.tmp 18,.di),(.tmp 26,.dat U7),(.tmp 28,.di),(.tmp 29,.di),(.tmp 30,.dat .bool),(.tmp 33,.dat U7),(.tmp 34,.dat .bool),(.tmp 35,.dat .bool),(.tmp 38,.dat U7),(.tmp 39,.di),(.tmp 40,.dat U7),(.tmp 42,.di),(.tmp 43,.dat .bool),(.tmp 46,.ptr' 0 0),(.tmp 47,.di),(.tmp 48,.dat U7),(.tmp 49,.dat .bool),(.tmp 50,.dat .bool),(.tmp 55,.dat U7),(.tmp 56,.di),(.tmp 57,.di)]
abbrev AGw:At:=[(.ret,[(.tmp 2,.dat .bool)]),(.exit 2,[(.tmp 1,.box 2),(.cell 0 0,.di),(.cell 0 1,.dat Uh),(.tmp 3,.map U0 U0),(.tmp 4,.di),(.tmp 16,.dat Uh),(.tmp 17,.di),(.tmp 18,.di),(.tmp 26,.dat U7),(.tmp 28,.di),(.tmp 29,.di),(.tmp 30,.dat .bool),(.tmp 33,.dat U7),(.tmp 34,.dat .bool),(.tmp 35,.dat .bool),(.tmp 38,.dat U7),(.tmp 39,.di),(.tmp 40,.dat U7),(.tmp 42,.di),(.tmp 43,.dat .bool),(.tmp 46,.ptr' 0 0),(.tmp 47,.di),(.tmp 48,.dat U7),(.tmp 49,.dat .bool),(.tmp 50,.dat .bool)])]
def DT[Lk]:V6→Option (V6⊕Uj⊕(Int×List U4×List Ux×Int×List U4×Int×Int×List Int×Int×Int×Bool×List Int×Bool×Bool×List Int×Int×List Int×Int×Bool×Int×List Int×Bool×Bool×Unit)⊕Unit):=fun(a0,a1,a2,a3,a4,a5,a6,a7,a8,a9,a10,a11,a12,a13,a14,a15,a16,a17,a18,a19,a20,a21,a22,a23,a24,a25,_)=>
 match(ilt a25 a24)with
 |true=>match idx a23 a25 with|none=>none|some x0=>match(ilt x0 a0)with
  |true=>match(ilt 0 ((AR a2 x0).getD 0))with
   |true=>some (.inr (.inl (false,())))
   |false=>some (.inl (a0,a1,(Ad a2 x0 (IntKind.wrap .i64 (((AR a2 x0).getD 0)+1))),a3,a4,a5,a6,a7,a8,a9,a10,a11,a12,a13,a14,a15,a16,a17,a18,a19,a20,a21,a22,a23,a24,(IntKind.wrap .i64 (a25+1)),()))
  |false=>some (.inl (a0,a1,(Ad a2 x0 (IntKind.wrap .i64 (((AR a2 x0).getD 0)+1))),a3,a4,a5,a6,a7,a8,a9,a10,a11,a12,a13,a14,a15,a16,a17,a18,a19,a20,a21,a22,a23,a24,(IntKind.wrap .i64 (a25+1)),()))
 |false=>some (.inr (.inr (.inl (a0,a1,a2,a3,a4,a5,a6,a7,a8,a9,a10,a11,a12,a13,a14,a15,a16,a17,a18,a19,a20,a21,a22,()))))
abbrev AG0:AE:=[(.tmp 1,.box 2),(.cell 0 0,.di),(.cell 0 1,.dat Uh),(.tmp 3,.map U0 U0),(.tmp 4,.di),(.tmp 16,.dat Uh),(.tmp 17,.di),(.tmp 18,.di)]
abbrev AGx:At:=[(.ret,[(.tmp 2,.dat .bool)]),(.exit 0,[(.tmp 1,.box 2),(.cell 0 0,.di),(.cell 0 1,.dat Uh),(.tmp 3,.map U0 U0)])]
def DU[Lk]:(Int×List U4×List Ux×Int×List U4×Int×Int×Unit)→Option ((Int×List U4×List Ux×Int×List U4×Int×Int×Unit)⊕Uj⊕(Int×List U4×List Ux×Unit)⊕Unit):=fun(a0,a1,a2,a3,a4,a5,a6,_)=>
 match(ilt a6 a5)with
 |true=>match idx a4 a6 with|none=>none|some x0=>match(ieq (AN x0) 0)with
  |true=>some (.inr (.inl (false,())))
  |false=>match idx x0 0 with|none=>none|some x1=>match(ile x1 a3)with
  |true=>some (.inr (.inl (false,())))
  |false=>match O8 (x0,())with|none=>none|some (y2,_)=>match(!y2)with
  |true=>some (.inr (.inl (false,())))
  |false=>match AcZ (x0,())with|none=>none|some (y3,_)=>match idx x0 0 with|none=>none|some x4=>match(!(ieq y3 x4))with
  |true=>some (.inr (.inl (false,())))
  |false=>match AiO (a0,x0,())with|none=>none|some (y5,_)=>match(!y5)with
  |true=>some (.inr (.inl (false,())))
  |false=>match idx x0 0 with|none=>none|some x6=>match AX DT many (a0,a1,a2,x6,a4,a5,a6,x0,x1,a3,(ile x1 a3),x0,y2,(!y2),x0,y3,x0,x4,(!(ieq y3 x4)),a0,x0,y5,(!y5),x0,(AN x0),0,())with|none=>none|some r=>match r with
  |.inl (o7,_)=>some (.inr (.inl (o7,())))
  |.inr r=>match r with
  |.inl (o8,o9,o10,o11,o12,o13,o14,o15,o16,o17,o18,o19,o20,o21,o22,o23,o24,o25,o26,o27,o28,o29,o30,_)=>some (.inl (o8,o9,o10,o11,o12,o13,(IntKind.wrap .i64 (o14+1)),()))
  |.inr _=>none
 |false=>some (.inr (.inr (.inl (a0,a1,a2,()))))
def QS[Lk]:(V4×Unit)→Option (Uj):=fun(a0,_)=>
 match Lp (a0.1,())with|none=>none|some (y0,_)=>match(!y0)with
 |true=>some (false,())
 |false=>match AX DU many (a0.1,a0.2.1,([]:List Ux),(-1:Int),a0.2.1,(AN a0.2.1),0,())with|none=>none|some r=>match r with
 |.inl (o1,_)=>some (o1,())
 |.inr r=>match r with
 |.inl (o2,o3,o4,_)=>match AX ES many (o4,o2,0,())with|none=>none|some r=>match r with
  |.inl (o5,_)=>some (o5,())
  |.inr r=>match r with
  |.inl _=>some (true,())
  |.inr _=>none
 |.inr _=>none
def Ss[Lk]:=fun v=>Lk.f (QS v)
theorem AG1 v:Ss v=QS v:=AJ _
abbrev ANQ:AE:=[(.tmp 0,.dat V3),(.tmp 1,.di),(.tmp 2,.di)]
abbrev ANP:AE:=[(.tmp 0,.di)]
abbrev ANO:List RS:=[.one]
def Y8[Lk]:(V4×Int×Int×Unit)→Option (Ua):=fun(a0,a1,a2,_)=>
 match Ss ((a0.1,(a0.2.1,())),())with|none=>none|some (y0,_)=>match(!y0)with
 |true=>some (1,())
 |false=>match tin (a0.1,a1,())with|none=>none|some (y1,_)=>match(!y1)with
 |true=>some (10,())
 |false=>match tin (a0.1,a2,())with|none=>none|some (y2,_)=>match(!y2)with
 |true=>some (10,())
 |false=>some (0,())
def asked[Lk]:=fun v=>Lk.f (Y8 v)
theorem ATF v:asked v=Y8 v:=AJ _
abbrev AWA:AE:=[(.tmp 0,.di)]
abbrev AV9:AE:=[(.tmp 0,.dat .bool)]
abbrev AV8:List RS:=[.one]
def KK[Lk]:Ua→Option (Uj):=fun(a0,_)=>
 some ((!(ieq a0 a0)),())
def Ahe[Lk]:=fun v=>Lk.f (KK v)
theorem KJ v:Ahe v=KK v:=AJ _
abbrev Pv:AE:=[(.tmp 0,.di),(.tmp 1,.di)]
abbrev Pu:AE:=[(.tmp 0,.di)]
abbrev Pt:List RS:=[.one]
def EK[Lk]:U1→Option (Ua):=fun(a0,a1,_)=>
 match Ahe (a0,())with|none=>none|some (y0,_)=>match Ahe (a1,())with|none=>none|some (y1,_)=>match y0 with
 |true=>match y1 with
  |true=>some (0,())
  |false=>some ((-1:Int),())
 |false=>match y1 with
 |true=>some (1,())
 |false=>match(ilt a0 a1)with
 |true=>some ((-1:Int),())
 |false=>match(ilt a1 a0)with
 |true=>some (1,())
 |false=>some (0,())
def DS[Lk]:=fun v=>Lk.f (EK v)
theorem Gd v:DS v=EK v:=AJ _
abbrev AJO:AE:=[(.tmp 0,.dat U7),(.tmp 1,.dat U7)]
abbrev AJN:AE:=[(.tmp 0,.di)]
abbrev AJM:List RS:=[.one]
def Ye[Lk]:(List Int×List Int×Unit)→Option (Ua):=fun(a0,a1,_)=>
 match idx a0 0 with|none=>none|some x0=>match idx a1 0 with|none=>none|some x1=>match DS (x0,x1,())with|none=>none|some (y2,_)=>some (y2,())
def BG[Lk]:=fun v=>Lk.f (Ye v)
theorem AOB v:BG v=Ye v:=AJ _
def Gl:List Int:=[0,1,2,2,3,3,3,3,4,4,4,4,4,4,4,4,5,5,5,5,5,5,5,5,5,5,5,5,5,5,5,5,6,6,6,6,6,6,6,6,6,6,6,6,6,6,6,6,6,6,6,6,6,6,6,6,6,6,6,6,6,6,6,6,7,7,7,7,7,7,7,7,7,7,7,7,7,7,7,7,7,7,7,7,7,7,7,7,7,7,7,7,7,7,7,7,7,7,7,7,7,7,7,7,7,7,7,7,7,7,7,7,7,7,7,7,7,7,7,7,7,7,7,7,7,7,7,7,8,8,8,8,8,8,8,8,8,8,8,8,8,8,8,8,8,8,8,8,8,8,8,8,8,8,8,8,8,8,8,8,8,8,8,8,8,8,8,8,8,8,8,8,8,8,8,8,8,8,8,8,8,8,8,8,8,8,8,8,8,8,8,8,8,8,8,8,8,8,8,8,8,8,8,8,8,8,8,8,8,8,8,8,8,8,8,8,8,8,8,8,8,8,8,8,8,8,8,8,8,8,8,8,8,8,8,8,8,8,8,8,8,8,8,8,8,8,8,8,8,8,8,8,8,8,8,8]
abbrev ALh:AE:=[(.tmp 0,.dat (.int .u64))]
abbrev ALg:AE:=[(.tmp 0,.di)]
abbrev ALf:List RS:=[.one]
def Yt[Lk]:Ua→Option (Ua):=fun(a0,_)=>
 match(ile 4294967296 a0)with
 |true=>match shr? .u64 a0 32 with|none=>none|some x0=>match(ile 65536 x0)with
  |true=>match shr? .u64 x0 16 with|none=>none|some x1=>match(ile 256 x1)with
   |true=>match shr? .u64 x1 8 with|none=>none|some x2=>match idx Gl (IntKind.wrap .u8 x2)with|none=>none|some x3=>some ((IntKind.wrap .i64 ((IntKind.wrap .i64 ((IntKind.wrap .i64 (32+16))+8))+(IntKind.wrap .i64 x3))),())
   |false=>match idx Gl (IntKind.wrap .u8 x1)with|none=>none|some x4=>some ((IntKind.wrap .i64 ((IntKind.wrap .i64 (32+16))+(IntKind.wrap .i64 x4))),())
  |false=>match(ile 256 x0)with
  |true=>match shr? .u64 x0 8 with|none=>none|some x5=>match idx Gl (IntKind.wrap .u8 x5)with|none=>none|some x6=>some ((IntKind.wrap .i64 ((IntKind.wrap .i64 (32+8))+(IntKind.wrap .i64 x6))),())
  |false=>match idx Gl (IntKind.wrap .u8 x0)with|none=>none|some x7=>some ((IntKind.wrap .i64 (32+(IntKind.wrap .i64 x7))),())
 |false=>match(ile 65536 a0)with
 |true=>match shr? .u64 a0 16 with|none=>none|some x8=>match(ile 256 x8)with
  |true=>match shr? .u64 x8 8 with|none=>none|some x9=>match idx Gl (IntKind.wrap .u8 x9)with|none=>none|some x10=>some ((IntKind.wrap .i64 ((IntKind.wrap .i64 ((IntKind.wrap .i64 (0+16))+8))+(IntKind.wrap .i64 x10))),())
  |false=>match idx Gl (IntKind.wrap .u8 x8)with|none=>none|some x11=>some ((IntKind.wrap .i64 ((IntKind.wrap .i64 (0+16))+(IntKind.wrap .i64 x11))),())
 |false=>match(ile 256 a0)with
 |true=>match shr? .u64 a0 8 with|none=>none|some x12=>match idx Gl (IntKind.wrap .u8 x12)with|none=>none|some x13=>some ((IntKind.wrap .i64 ((IntKind.wrap .i64 (0+8))+(IntKind.wrap .i64 x13))),())
 |false=>match idx Gl (IntKind.wrap .u8 a0)with|none=>none|some x14=>some ((IntKind.wrap .i64 (0+(IntKind.wrap .i64 x14))),())
def ARJ[Lk]:=fun v=>Lk.f (Yt v)
theorem ARI v:ARJ v=Yt v:=AJ _
abbrev Vu:AE:=[(.tmp 0,.dat (.int .u64))]
abbrev Vt:AE:=[(.tmp 0,.di)]
abbrev Vs:List RS:=[.one]
def Nt[Lk]:Ua→Option (Ua):=fun(a0,_)=>
 match ARJ (a0,())with|none=>none|some (y0,_)=>some (y0,())
def bitsLen[Lk]:=fun v=>Lk.f (Nt v)
theorem AEg v:bitsLen v=Nt v:=AJ _
abbrev Sp:AE:=[(.tmp 0,.box 1),(.cell 0 0,.dat (.int .u64))]
abbrev So:AE:=[(.obj 0,.box 1),(.cell 0 0,.dat (.int .u64)),(.tmp 0,.dat (.int .u64))]
abbrev Sn:List RS:=[.one]
def NF[Lk]:Ua→Option (U1):=fun(a0,_)=>
 match shl? .u64 a0 13 with|none=>none|some x0=>match shr? .u64 (IntKind.wrap .u64 ((BitVec.ofInt (IntKind.bits .u64) a0 ^^^ BitVec.ofInt (IntKind.bits .u64) x0).toNat)) 7 with|none=>none|some x1=>match shl? .u64 (IntKind.wrap .u64 ((BitVec.ofInt (IntKind.bits .u64) (IntKind.wrap .u64 ((BitVec.ofInt (IntKind.bits .u64) a0 ^^^ BitVec.ofInt (IntKind.bits .u64) x0).toNat)) ^^^ BitVec.ofInt (IntKind.bits .u64) x1).toNat)) 17 with|none=>none|some x2=>some ((IntKind.wrap .u64 ((BitVec.ofInt (IntKind.bits .u64) (IntKind.wrap .u64 ((BitVec.ofInt (IntKind.bits .u64) (IntKind.wrap .u64 ((BitVec.ofInt (IntKind.bits .u64) a0 ^^^ BitVec.ofInt (IntKind.bits .u64) x0).toNat)) ^^^ BitVec.ofInt (IntKind.bits .u64) x1).toNat)) ^^^ BitVec.ofInt (IntKind.bits .u64) x2).toNat)),(IntKind.wrap .u64 ((BitVec.ofInt (IntKind.bits .u64) (IntKind.wrap .u64 ((BitVec.ofInt (IntKind.bits .u64) (IntKind.wrap .u64 ((BitVec.ofInt (IntKind.bits .u64) a0 ^^^ BitVec.ofInt (IntKind.bits .u64) x0).toNat)) ^^^ BitVec.ofInt (IntKind.bits .u64) x1).toNat)) ^^^ BitVec.ofInt (IntKind.bits .u64) x2).toNat)),())
def xorNext[Lk]:=fun v=>Lk.f (NF v)
theorem ZI v:xorNext v=NF v:=AJ _
abbrev Tp:AE:=[(.tmp 0,.di)]
abbrev To:AE:=[(.tmp 0,.dat (.int .u64))]
abbrev Tn:List RS:=[.one]
def NX[Lk]:Ua→Option (Ua):=fun(a0,_)=>
 match bitsLen ((IntKind.wrap .u64 a0),())with|none=>none|some (y0,_)=>match shl? .u64 1 y0 with|none=>none|some x1=>some (x1,())
def Q1[Lk]:=fun v=>Lk.f (NX v)
theorem ACI v:Q1 v=NX v:=AJ _
def Nb[Lk]{α:Type}(z:α)(c:α×α×Unit→Option Ua):(List α×Int×Int×Int×Int×Unit)→Option ((List α×Int×Int×Int×Int×Unit)⊕(List α×Int×Int×Int×Unit)⊕Unit):=fun(a0,a1,a2,a3,a4,_)=>
 match(ilt a1 a4)with
 |true=>match idx a0 a4 with|none=>none|some x0=>match idx a0 (IntKind.wrap .i64 (a4-1))with|none=>none|some x1=>match c ((AW a0 (AM a4) z),(AW a0 (AM (IntKind.wrap .i64 (a4-1))) z),())with|none=>none|some (y2,_)=>match(ilt y2 0)with
  |true=>match idx a0 (IntKind.wrap .i64 (a4-1))with|none=>none|some x3=>match idx a0 a4 with|none=>none|some x4=>match idx a0 a4 with|none=>none|some x5=>match idx (Az a0 (AM a4) (AW a0 (AM (IntKind.wrap .i64 (a4-1))) z)) (IntKind.wrap .i64 (a4-1))with|none=>none|some x6=>some (.inl ((Az (Az a0 (AM a4) (AW a0 (AM (IntKind.wrap .i64 (a4-1))) z)) (AM (IntKind.wrap .i64 (a4-1))) (AW a0 (AM a4) z)),a1,a2,a3,(IntKind.wrap .i64 (a4-1)),()))
  |false=>some (.inr (.inl (a0,a1,a2,a3,())))
 |false=>some (.inr (.inl (a0,a1,a2,a3,())))
def Nc[Lk]{α:Type}(z:α)(c:α×α×Unit→Option Ua):(List α×Int×Int×Int×Unit)→Option ((List α×Int×Int×Int×Unit)⊕(List α×Unit)⊕Unit):=fun(a0,a1,a2,a3,_)=>
 match(ilt a3 a2)with
 |true=>match AX (Nb z c) many (a0,a1,a2,a3,a3,())with|none=>none|some r=>match r with
  |.inl (o0,o1,o2,o3,_)=>some (.inl (o0,o1,o2,(IntKind.wrap .i64 (o3+1)),()))
  |.inr _=>none
 |false=>some (.inr (.inl (a0,())))
def ACl[Lk]{α:Type}(z:α)(c:α×α×Unit→Option Ua):(List α×Int×Int×Unit)→Option ((List α×Unit)):=fun(a0,a1,a2,_)=>
 match AX (Nc z c) many (a0,a1,a2,(IntKind.wrap .i64 (a1+1)),())with|none=>none|some r=>match r with
 |.inl (o0,_)=>some (o0,())
 |.inr _=>none
def Ahz[Lk]{α:Type}(z:α)(c:α×α×Unit→Option Ua)(v:(List α×Int×Int×Unit)):Option ((List α×Unit)):=Lk.f ((ACl z c) v)
theorem Ak9{α:Type}(z:α)(c:α×α×Unit→Option Ua)(v:(List α×Int×Int×Unit)):(Ahz z c) v=(ACl z c) v:=AJ _
def JN[Lk]{α:Type}(z:α)(c:α×α×Unit→Option Ua):(List α×Int×Int×Int×Unit)→Option ((List α×Int×Int×Int×Unit)⊕(List α×Unit)⊕(List α×Unit)⊕Unit):=fun(a0,a1,a2,a3,_)=>
 match(ile a1 (IntKind.wrap .i64 ((IntKind.wrap .i64 (2*a3))+1)))with
 |true=>some (.inr (.inl (a0,())))
 |false=>match(ilt (IntKind.wrap .i64 ((IntKind.wrap .i64 ((IntKind.wrap .i64 (2*a3))+1))+1)) a1)with
 |true=>match idx a0 (IntKind.wrap .i64 (a2+(IntKind.wrap .i64 ((IntKind.wrap .i64 (2*a3))+1))))with|none=>none|some x0=>match idx a0 (IntKind.wrap .i64 ((IntKind.wrap .i64 (a2+(IntKind.wrap .i64 ((IntKind.wrap .i64 (2*a3))+1))))+1))with|none=>none|some x1=>match c ((AW a0 (AM (IntKind.wrap .i64 (a2+(IntKind.wrap .i64 ((IntKind.wrap .i64 (2*a3))+1))))) z),(AW a0 (AM (IntKind.wrap .i64 ((IntKind.wrap .i64 (a2+(IntKind.wrap .i64 ((IntKind.wrap .i64 (2*a3))+1))))+1))) z),())with|none=>none|some (y2,_)=>match(ilt y2 0)with
  |true=>match idx a0 (IntKind.wrap .i64 (a2+a3))with|none=>none|some x3=>match idx a0 (IntKind.wrap .i64 (a2+(IntKind.wrap .i64 ((IntKind.wrap .i64 ((IntKind.wrap .i64 (2*a3))+1))+1))))with|none=>none|some x4=>match c ((AW a0 (AM (IntKind.wrap .i64 (a2+a3))) z),(AW a0 (AM (IntKind.wrap .i64 (a2+(IntKind.wrap .i64 ((IntKind.wrap .i64 ((IntKind.wrap .i64 (2*a3))+1))+1))))) z),())with|none=>none|some (y5,_)=>match(!(ilt y5 0))with
   |true=>some (.inr (.inr (.inl (a0,()))))
   |false=>match idx a0 (IntKind.wrap .i64 (a2+(IntKind.wrap .i64 ((IntKind.wrap .i64 ((IntKind.wrap .i64 (2*a3))+1))+1))))with|none=>none|some x6=>match idx a0 (IntKind.wrap .i64 (a2+a3))with|none=>none|some x7=>match idx a0 (IntKind.wrap .i64 (a2+a3))with|none=>none|some x8=>match idx (Az a0 (AM (IntKind.wrap .i64 (a2+a3))) (AW a0 (AM (IntKind.wrap .i64 (a2+(IntKind.wrap .i64 ((IntKind.wrap .i64 ((IntKind.wrap .i64 (2*a3))+1))+1))))) z)) (IntKind.wrap .i64 (a2+(IntKind.wrap .i64 ((IntKind.wrap .i64 ((IntKind.wrap .i64 (2*a3))+1))+1))))with|none=>none|some x9=>some (.inl ((Az (Az a0 (AM (IntKind.wrap .i64 (a2+a3))) (AW a0 (AM (IntKind.wrap .i64 (a2+(IntKind.wrap .i64 ((IntKind.wrap .i64 ((IntKind.wrap .i64 (2*a3))+1))+1))))) z)) (AM (IntKind.wrap .i64 (a2+(IntKind.wrap .i64 ((IntKind.wrap .i64 ((IntKind.wrap .i64 (2*a3))+1))+1))))) (AW a0 (AM (IntKind.wrap .i64 (a2+a3))) z)),a1,a2,(IntKind.wrap .i64 ((IntKind.wrap .i64 ((IntKind.wrap .i64 (2*a3))+1))+1)),()))
  |false=>match idx a0 (IntKind.wrap .i64 (a2+a3))with|none=>none|some x10=>match idx a0 (IntKind.wrap .i64 (a2+(IntKind.wrap .i64 ((IntKind.wrap .i64 (2*a3))+1))))with|none=>none|some x11=>match c ((AW a0 (AM (IntKind.wrap .i64 (a2+a3))) z),(AW a0 (AM (IntKind.wrap .i64 (a2+(IntKind.wrap .i64 ((IntKind.wrap .i64 (2*a3))+1))))) z),())with|none=>none|some (y12,_)=>match(!(ilt y12 0))with
  |true=>some (.inr (.inr (.inl (a0,()))))
  |false=>match idx a0 (IntKind.wrap .i64 (a2+(IntKind.wrap .i64 ((IntKind.wrap .i64 (2*a3))+1))))with|none=>none|some x13=>match idx a0 (IntKind.wrap .i64 (a2+a3))with|none=>none|some x14=>match idx a0 (IntKind.wrap .i64 (a2+a3))with|none=>none|some x15=>match idx (Az a0 (AM (IntKind.wrap .i64 (a2+a3))) (AW a0 (AM (IntKind.wrap .i64 (a2+(IntKind.wrap .i64 ((IntKind.wrap .i64 (2*a3))+1))))) z)) (IntKind.wrap .i64 (a2+(IntKind.wrap .i64 ((IntKind.wrap .i64 (2*a3))+1))))with|none=>none|some x16=>some (.inl ((Az (Az a0 (AM (IntKind.wrap .i64 (a2+a3))) (AW a0 (AM (IntKind.wrap .i64 (a2+(IntKind.wrap .i64 ((IntKind.wrap .i64 (2*a3))+1))))) z)) (AM (IntKind.wrap .i64 (a2+(IntKind.wrap .i64 ((IntKind.wrap .i64 (2*a3))+1))))) (AW a0 (AM (IntKind.wrap .i64 (a2+a3))) z)),a1,a2,(IntKind.wrap .i64 ((IntKind.wrap .i64 (2*a3))+1)),()))
 |false=>match idx a0 (IntKind.wrap .i64 (a2+a3))with|none=>none|some x17=>match idx a0 (IntKind.wrap .i64 (a2+(IntKind.wrap .i64 ((IntKind.wrap .i64 (2*a3))+1))))with|none=>none|some x18=>match c ((AW a0 (AM (IntKind.wrap .i64 (a2+a3))) z),(AW a0 (AM (IntKind.wrap .i64 (a2+(IntKind.wrap .i64 ((IntKind.wrap .i64 (2*a3))+1))))) z),())with|none=>none|some (y19,_)=>match(!(ilt y19 0))with
 |true=>some (.inr (.inr (.inl (a0,()))))
 |false=>match idx a0 (IntKind.wrap .i64 (a2+(IntKind.wrap .i64 ((IntKind.wrap .i64 (2*a3))+1))))with|none=>none|some x20=>match idx a0 (IntKind.wrap .i64 (a2+a3))with|none=>none|some x21=>match idx a0 (IntKind.wrap .i64 (a2+a3))with|none=>none|some x22=>match idx (Az a0 (AM (IntKind.wrap .i64 (a2+a3))) (AW a0 (AM (IntKind.wrap .i64 (a2+(IntKind.wrap .i64 ((IntKind.wrap .i64 (2*a3))+1))))) z)) (IntKind.wrap .i64 (a2+(IntKind.wrap .i64 ((IntKind.wrap .i64 (2*a3))+1))))with|none=>none|some x23=>some (.inl ((Az (Az a0 (AM (IntKind.wrap .i64 (a2+a3))) (AW a0 (AM (IntKind.wrap .i64 (a2+(IntKind.wrap .i64 ((IntKind.wrap .i64 (2*a3))+1))))) z)) (AM (IntKind.wrap .i64 (a2+(IntKind.wrap .i64 ((IntKind.wrap .i64 (2*a3))+1))))) (AW a0 (AM (IntKind.wrap .i64 (a2+a3))) z)),a1,a2,(IntKind.wrap .i64 ((IntKind.wrap .i64 (2*a3))+1)),()))
def Qc[Lk]{α:Type}(z:α)(c:α×α×Unit→Option Ua):(List α×Int×Int×Int×Unit)→Option ((List α×Unit)):=fun(a0,a1,a2,a3,_)=>
 match AX (JN z c) many (a0,a2,a3,a1,())with|none=>none|some r=>match r with
 |.inl (o0,_)=>some (o0,())
 |.inr r=>match r with
 |.inl (o1,_)=>some (o1,())
 |.inr _=>none
def AHD[Lk]{α:Type}(z:α)(c:α×α×Unit→Option Ua)(v:(List α×Int×Int×Int×Unit)):Option ((List α×Unit)):=Lk.f ((Qc z c) v)
theorem Afr{α:Type}(z:α)(c:α×α×Unit→Option Ua)(v:(List α×Int×Int×Int×Unit)):(AHD z c) v=(Qc z c) v:=AJ _
def Jd[Lk]{α:Type}(z:α)(c:α×α×Unit→Option Ua):(List α×Int×Int×Int×Unit)→Option ((List α×Int×Int×Int×Unit)⊕(List α×Unit)⊕Unit):=fun(a0,a1,a2,a3,_)=>
 match(ile 0 a3)with
 |true=>match idx a0 (IntKind.wrap .i64 (a1+a3))with|none=>none|some x0=>match idx a0 a1 with|none=>none|some x1=>match idx a0 a1 with|none=>none|some x2=>match idx (Az a0 (AM a1) (AW a0 (AM (IntKind.wrap .i64 (a1+a3))) z)) (IntKind.wrap .i64 (a1+a3))with|none=>none|some x3=>match(AHD z c) ((Az (Az a0 (AM a1) (AW a0 (AM (IntKind.wrap .i64 (a1+a3))) z)) (AM (IntKind.wrap .i64 (a1+a3))) (AW a0 (AM a1) z)),a2,a3,a1,())with|none=>none|some (y4,_)=>some (.inl (y4,a1,a2,(IntKind.wrap .i64 (a3-1)),()))
 |false=>some (.inr (.inl (a0,())))
def Je[Lk]{α:Type}(z:α)(c:α×α×Unit→Option Ua):(List α×Int×Int×Int×Int×Unit)→Option ((List α×Int×Int×Int×Int×Unit)⊕(List α×Int×Int×Int×Unit)⊕Unit):=fun(a0,a1,a2,a3,a4,_)=>
 match(ile 0 a4)with
 |true=>match(AHD z c) (a0,a4,a3,a1,())with|none=>none|some (y0,_)=>some (.inl (y0,a1,a2,a3,(IntKind.wrap .i64 (a4-1)),()))
 |false=>some (.inr (.inl (a0,a1,a2,a3,())))
def RK[Lk]{α:Type}(z:α)(c:α×α×Unit→Option Ua):(List α×Int×Int×Unit)→Option ((List α×Unit)):=fun(a0,a1,a2,_)=>
 match quo? .i64 (IntKind.wrap .i64 ((IntKind.wrap .i64 (a2-a1))-1)) 2 with|none=>none|some x0=>match AX (Je z c) many (a0,a1,0,(IntKind.wrap .i64 (a2-a1)),x0,())with|none=>none|some r=>match r with
 |.inl (o1,o2,o3,o4,_)=>match AX (Jd z c) many (o1,o2,o3,(IntKind.wrap .i64 (o4-1)),())with|none=>none|some r=>match r with
  |.inl (o5,_)=>some (o5,())
  |.inr _=>none
 |.inr _=>none
def ARZ[Lk]{α:Type}(z:α)(c:α×α×Unit→Option Ua)(v:(List α×Int×Int×Unit)):Option ((List α×Unit)):=Lk.f ((RK z c) v)
theorem AiD{α:Type}(z:α)(c:α×α×Unit→Option Ua)(v:(List α×Int×Int×Unit)):(ARZ z c) v=(RK z c) v:=AJ _
def Fy[Lk]{α:Type}(z:α)(c:α×α×Unit→Option Ua):(List α×Int×Int×Int×Int×Int×Unit)→Option ((List α×Int×Int×Int×Int×Int×Unit)⊕(List α×Unit)⊕Unit):=fun(a0,a1,a2,a3,a4,a5,_)=>
 match quo? .i64 a2 4 with|none=>none|some x0=>match(ile a5 (IntKind.wrap .i64 ((IntKind.wrap .i64 (a1+(IntKind.wrap .i64 (x0*2))))+1)))with
 |true=>match xorNext (a3,())with|none=>none|some (y1,y2,_)=>match(ile a2 (IntKind.wrap .i64 (IntKind.wrap .u64 ((BitVec.ofInt (IntKind.bits .u64) y2 &&& BitVec.ofInt (IntKind.bits .u64) (IntKind.wrap .u64 (a4-1))).toNat))))with
  |true=>match idx a0 (IntKind.wrap .i64 (a1+(IntKind.wrap .i64 ((IntKind.wrap .i64 (IntKind.wrap .u64 ((BitVec.ofInt (IntKind.bits .u64) y2 &&& BitVec.ofInt (IntKind.bits .u64) (IntKind.wrap .u64 (a4-1))).toNat)))-a2))))with|none=>none|some x3=>match idx a0 a5 with|none=>none|some x4=>match idx a0 a5 with|none=>none|some x5=>match idx (Az a0 (AM a5) (AW a0 (AM (IntKind.wrap .i64 (a1+(IntKind.wrap .i64 ((IntKind.wrap .i64 (IntKind.wrap .u64 ((BitVec.ofInt (IntKind.bits .u64) y2 &&& BitVec.ofInt (IntKind.bits .u64) (IntKind.wrap .u64 (a4-1))).toNat)))-a2))))) z)) (IntKind.wrap .i64 (a1+(IntKind.wrap .i64 ((IntKind.wrap .i64 (IntKind.wrap .u64 ((BitVec.ofInt (IntKind.bits .u64) y2 &&& BitVec.ofInt (IntKind.bits .u64) (IntKind.wrap .u64 (a4-1))).toNat)))-a2))))with|none=>none|some x6=>some (.inl ((Az (Az a0 (AM a5) (AW a0 (AM (IntKind.wrap .i64 (a1+(IntKind.wrap .i64 ((IntKind.wrap .i64 (IntKind.wrap .u64 ((BitVec.ofInt (IntKind.bits .u64) y2 &&& BitVec.ofInt (IntKind.bits .u64) (IntKind.wrap .u64 (a4-1))).toNat)))-a2))))) z)) (AM (IntKind.wrap .i64 (a1+(IntKind.wrap .i64 ((IntKind.wrap .i64 (IntKind.wrap .u64 ((BitVec.ofInt (IntKind.bits .u64) y2 &&& BitVec.ofInt (IntKind.bits .u64) (IntKind.wrap .u64 (a4-1))).toNat)))-a2))))) (AW a0 (AM a5) z)),a1,a2,y1,a4,(IntKind.wrap .i64 (a5+1)),()))
  |false=>match idx a0 (IntKind.wrap .i64 (a1+(IntKind.wrap .i64 (IntKind.wrap .u64 ((BitVec.ofInt (IntKind.bits .u64) y2 &&& BitVec.ofInt (IntKind.bits .u64) (IntKind.wrap .u64 (a4-1))).toNat)))))with|none=>none|some x7=>match idx a0 a5 with|none=>none|some x8=>match idx a0 a5 with|none=>none|some x9=>match idx (Az a0 (AM a5) (AW a0 (AM (IntKind.wrap .i64 (a1+(IntKind.wrap .i64 (IntKind.wrap .u64 ((BitVec.ofInt (IntKind.bits .u64) y2 &&& BitVec.ofInt (IntKind.bits .u64) (IntKind.wrap .u64 (a4-1))).toNat)))))) z)) (IntKind.wrap .i64 (a1+(IntKind.wrap .i64 (IntKind.wrap .u64 ((BitVec.ofInt (IntKind.bits .u64) y2 &&& BitVec.ofInt (IntKind.bits .u64) (IntKind.wrap .u64 (a4-1))).toNat)))))with|none=>none|some x10=>some (.inl ((Az (Az a0 (AM a5) (AW a0 (AM (IntKind.wrap .i64 (a1+(IntKind.wrap .i64 (IntKind.wrap .u64 ((BitVec.ofInt (IntKind.bits .u64) y2 &&& BitVec.ofInt (IntKind.bits .u64) (IntKind.wrap .u64 (a4-1))).toNat)))))) z)) (AM (IntKind.wrap .i64 (a1+(IntKind.wrap .i64 (IntKind.wrap .u64 ((BitVec.ofInt (IntKind.bits .u64) y2 &&& BitVec.ofInt (IntKind.bits .u64) (IntKind.wrap .u64 (a4-1))).toNat)))))) (AW a0 (AM a5) z)),a1,a2,y1,a4,(IntKind.wrap .i64 (a5+1)),()))
 |false=>some (.inr (.inl (a0,())))
def Mn[Lk]{α:Type}(z:α)(c:α×α×Unit→Option Ua):(List α×Int×Int×Unit)→Option ((List α×Unit)):=fun(a0,a1,a2,_)=>
 match(ile 8 (IntKind.wrap .i64 (a2-a1)))with
 |true=>match Q1 ((IntKind.wrap .i64 (a2-a1)),())with|none=>none|some (y0,_)=>match quo? .i64 (IntKind.wrap .i64 (a2-a1)) 4 with|none=>none|some x1=>match AX (Fy z c) many (a0,a1,(IntKind.wrap .i64 (a2-a1)),(IntKind.wrap .u64 (IntKind.wrap .i64 (a2-a1))),y0,(IntKind.wrap .i64 ((IntKind.wrap .i64 (a1+(IntKind.wrap .i64 (x1*2))))-1)),())with|none=>none|some r=>match r with
  |.inl (o2,_)=>some (o2,())
  |.inr _=>none
 |false=>some (a0,())
def AEa[Lk]{α:Type}(z:α)(c:α×α×Unit→Option Ua)(v:(List α×Int×Int×Unit)):Option ((List α×Unit)):=Lk.f ((Mn z c) v)
theorem Aed{α:Type}(z:α)(c:α×α×Unit→Option Ua)(v:(List α×Int×Int×Unit)):(AEa z c) v=(Mn z c) v:=AJ _
def JU[Lk]{α:Type}(z:α)(c:α×α×Unit→Option Ua):(List α×Int×Int×Int×Unit)→Option ((List α×Int×Int×Int×Unit)):=fun(a0,a1,a2,a3,_)=>
 match idx a0 a2 with|none=>none|some x0=>match idx a0 a1 with|none=>none|some x1=>match c ((AW a0 (AM a2) z),(AW a0 (AM a1) z),())with|none=>none|some (y2,_)=>match(ilt y2 0)with
 |true=>some (a0,(IntKind.wrap .i64 (a3+1)),a2,a1,())
 |false=>some (a0,a3,a1,a2,())
def KF[Lk]{α:Type}(z:α)(c:α×α×Unit→Option Ua)(v:(List α×Int×Int×Int×Unit)):Option ((List α×Int×Int×Int×Unit)):=Lk.f ((JU z c) v)
theorem AVx{α:Type}(z:α)(c:α×α×Unit→Option Ua)(v:(List α×Int×Int×Int×Unit)):(KF z c) v=(JU z c) v:=AJ _
def JX[Lk]{α:Type}(z:α)(c:α×α×Unit→Option Ua):(List α×Int×Int×Int×Int×Unit)→Option ((List α×Int×Int×Unit)):=fun(a0,a1,a2,a3,a4,_)=>
 match(KF z c) (a0,a1,a2,a4,())with|none=>none|some (y0,y1,y2,y3,_)=>match(KF z c) (y0,y3,a3,y1,())with|none=>none|some (y4,y5,y6,y7,_)=>match(KF z c) (y4,y2,y6,y5,())with|none=>none|some (y8,y9,y10,y11,_)=>some (y8,y9,y11,())
def KN[Lk]{α:Type}(z:α)(c:α×α×Unit→Option Ua)(v:(List α×Int×Int×Int×Int×Unit)):Option ((List α×Int×Int×Unit)):=Lk.f ((JX z c) v)
theorem AWJ{α:Type}(z:α)(c:α×α×Unit→Option Ua)(v:(List α×Int×Int×Int×Int×Unit)):(KN z c) v=(JX z c) v:=AJ _
def JY[Lk]{α:Type}(z:α)(c:α×α×Unit→Option Ua):(List α×Int×Int×Unit)→Option ((List α×Int×Int×Unit)):=fun(a0,a1,a2,_)=>
 match(KN z c) (a0,(IntKind.wrap .i64 (a1-1)),a1,(IntKind.wrap .i64 (a1+1)),a2,())with|none=>none|some (y0,y1,y2,_)=>some (y0,y1,y2,())
def KO[Lk]{α:Type}(z:α)(c:α×α×Unit→Option Ua)(v:(List α×Int×Int×Unit)):Option ((List α×Int×Int×Unit)):=Lk.f ((JY z c) v)
theorem AWM{α:Type}(z:α)(c:α×α×Unit→Option Ua)(v:(List α×Int×Int×Unit)):(KO z c) v=(JY z c) v:=AJ _
def MA[Lk]{α:Type}(z:α)(c:α×α×Unit→Option Ua):(List α×Int×Int×Unit)→Option ((List α×Int×Int×Unit)):=fun(a0,a1,a2,_)=>
 match quo? .i64 (IntKind.wrap .i64 (a2-a1)) 4 with|none=>none|some x0=>match quo? .i64 (IntKind.wrap .i64 (a2-a1)) 4 with|none=>none|some x1=>match quo? .i64 (IntKind.wrap .i64 (a2-a1)) 4 with|none=>none|some x2=>match(ile 8 (IntKind.wrap .i64 (a2-a1)))with
 |true=>match(ile 50 (IntKind.wrap .i64 (a2-a1)))with
  |true=>match(KO z c) (a0,(IntKind.wrap .i64 (a1+(IntKind.wrap .i64 (x0*1)))),0,())with|none=>none|some (y3,y4,y5,_)=>match(KO z c) (y3,(IntKind.wrap .i64 (a1+(IntKind.wrap .i64 (x1*2)))),y4,())with|none=>none|some (y6,y7,y8,_)=>match(KO z c) (y6,(IntKind.wrap .i64 (a1+(IntKind.wrap .i64 (x2*3)))),y7,())with|none=>none|some (y9,y10,y11,_)=>match(KN z c) (y9,y5,y8,y11,y10,())with|none=>none|some (y12,y13,y14,_)=>match(ieq y13 0)with
   |true=>some (y12,y14,1,())
   |false=>match(ieq y13 12)with
   |true=>some (y12,y14,2,())
   |false=>some (y12,y14,0,())
  |false=>match(KN z c) (a0,(IntKind.wrap .i64 (a1+(IntKind.wrap .i64 (x0*1)))),(IntKind.wrap .i64 (a1+(IntKind.wrap .i64 (x1*2)))),(IntKind.wrap .i64 (a1+(IntKind.wrap .i64 (x2*3)))),0,())with|none=>none|some (y15,y16,y17,_)=>match(ieq y16 0)with
  |true=>some (y15,y17,1,())
  |false=>match(ieq y16 12)with
  |true=>some (y15,y17,2,())
  |false=>some (y15,y17,0,())
 |false=>match(ieq 0 0)with
 |true=>some (a0,(IntKind.wrap .i64 (a1+(IntKind.wrap .i64 (x1*2)))),1,())
 |false=>match(ieq 0 12)with
 |true=>some (a0,(IntKind.wrap .i64 (a1+(IntKind.wrap .i64 (x1*2)))),2,())
 |false=>some (a0,(IntKind.wrap .i64 (a1+(IntKind.wrap .i64 (x1*2)))),0,())
def ABQ[Lk]{α:Type}(z:α)(c:α×α×Unit→Option Ua)(v:(List α×Int×Int×Unit)):Option ((List α×Int×Int×Unit)):=Lk.f ((MA z c) v)
theorem Ab1{α:Type}(z:α)(c:α×α×Unit→Option Ua)(v:(List α×Int×Int×Unit)):(ABQ z c) v=(MA z c) v:=AJ _
def Qo[Lk]{α:Type}(z:α)(c:α×α×Unit→Option Ua):(List α×Int×Int×Unit)→Option ((List α×Int×Int×Unit)⊕(List α×Unit)⊕Unit):=fun(a0,a1,a2,_)=>
 match(ilt a1 a2)with
 |true=>match idx a0 a2 with|none=>none|some x0=>match idx a0 a1 with|none=>none|some x1=>match idx a0 a1 with|none=>none|some x2=>match idx (Az a0 (AM a1) (AW a0 (AM a2) z)) a2 with|none=>none|some x3=>some (.inl ((Az (Az a0 (AM a1) (AW a0 (AM a2) z)) (AM a2) (AW a0 (AM a1) z)),(IntKind.wrap .i64 (a1+1)),(IntKind.wrap .i64 (a2-1)),()))
 |false=>some (.inr (.inl (a0,())))
def AAv[Lk]{α:Type}(z:α)(c:α×α×Unit→Option Ua):(List α×Int×Int×Unit)→Option ((List α×Unit)):=fun(a0,a1,a2,_)=>
 match AX (Qo z c) many (a0,a1,(IntKind.wrap .i64 (a2-1)),())with|none=>none|some r=>match r with
 |.inl (o0,_)=>some (o0,())
 |.inr _=>none
def AgI[Lk]{α:Type}(z:α)(c:α×α×Unit→Option Ua)(v:(List α×Int×Int×Unit)):Option ((List α×Unit)):=Lk.f ((AAv z c) v)
theorem AkR{α:Type}(z:α)(c:α×α×Unit→Option Ua)(v:(List α×Int×Int×Unit)):(AgI z c) v=(AAv z c) v:=AJ _
def EU[Lk]{α:Type}(z:α)(c:α×α×Unit→Option Ua):(List α×Int×Int×Int×Int×Int×Unit)→Option ((List α×Int×Int×Int×Int×Int×Unit)⊕(List α×Int×Int×Int×Int×Unit)⊕Unit):=fun(a0,a1,a2,a3,a4,a5,_)=>
 match(ilt a5 a2)with
 |true=>match idx a0 a5 with|none=>none|some x0=>match idx a0 (IntKind.wrap .i64 (a5-1))with|none=>none|some x1=>match c ((AW a0 (AM a5) z),(AW a0 (AM (IntKind.wrap .i64 (a5-1))) z),())with|none=>none|some (y2,_)=>match(!(ilt y2 0))with
  |true=>some (.inr (.inl (a0,a1,a2,a3,a4,())))
  |false=>match idx a0 (IntKind.wrap .i64 (a5-1))with|none=>none|some x3=>match idx a0 a5 with|none=>none|some x4=>match idx a0 a5 with|none=>none|some x5=>match idx (Az a0 (AM a5) (AW a0 (AM (IntKind.wrap .i64 (a5-1))) z)) (IntKind.wrap .i64 (a5-1))with|none=>none|some x6=>some (.inl ((Az (Az a0 (AM a5) (AW a0 (AM (IntKind.wrap .i64 (a5-1))) z)) (AM (IntKind.wrap .i64 (a5-1))) (AW a0 (AM a5) z)),a1,a2,a3,a4,(IntKind.wrap .i64 (a5+1)),()))
 |false=>some (.inr (.inl (a0,a1,a2,a3,a4,())))
def EV[Lk]{α:Type}(z:α)(c:α×α×Unit→Option Ua):(List α×Int×Int×Int×Int×Int×Unit)→Option ((List α×Int×Int×Int×Int×Int×Unit)⊕(List α×Int×Int×Int×Int×Unit)⊕Unit):=fun(a0,a1,a2,a3,a4,a5,_)=>
 match(ile 1 a5)with
 |true=>match idx a0 a5 with|none=>none|some x0=>match idx a0 (IntKind.wrap .i64 (a5-1))with|none=>none|some x1=>match c ((AW a0 (AM a5) z),(AW a0 (AM (IntKind.wrap .i64 (a5-1))) z),())with|none=>none|some (y2,_)=>match(!(ilt y2 0))with
  |true=>some (.inr (.inl (a0,a1,a2,a3,a4,())))
  |false=>match idx a0 (IntKind.wrap .i64 (a5-1))with|none=>none|some x3=>match idx a0 a5 with|none=>none|some x4=>match idx a0 a5 with|none=>none|some x5=>match idx (Az a0 (AM a5) (AW a0 (AM (IntKind.wrap .i64 (a5-1))) z)) (IntKind.wrap .i64 (a5-1))with|none=>none|some x6=>some (.inl ((Az (Az a0 (AM a5) (AW a0 (AM (IntKind.wrap .i64 (a5-1))) z)) (AM (IntKind.wrap .i64 (a5-1))) (AW a0 (AM a5) z)),a1,a2,a3,a4,(IntKind.wrap .i64 (a5-1)),()))
 |false=>some (.inr (.inl (a0,a1,a2,a3,a4,())))
def GU[Lk]{α:Type}(z:α)(c:α×α×Unit→Option Ua):(List α×Int×Int×Int×Int×Unit)→Option ((List α×Int×Int×Int×Int×Unit)⊕(List α×Int×Int×Int×Int×Unit)⊕Unit):=fun(a0,a1,a2,a3,a4,_)=>
 match(ilt a3 a2)with
 |true=>match idx a0 a3 with|none=>none|some x0=>match idx a0 (IntKind.wrap .i64 (a3-1))with|none=>none|some x1=>match c ((AW a0 (AM a3) z),(AW a0 (AM (IntKind.wrap .i64 (a3-1))) z),())with|none=>none|some (y2,_)=>match(!(ilt y2 0))with
  |true=>some (.inl (a0,a1,a2,(IntKind.wrap .i64 (a3+1)),a4,()))
  |false=>some (.inr (.inl (a0,a1,a2,a3,a4,())))
 |false=>some (.inr (.inl (a0,a1,a2,a3,a4,())))
def CS[Lk]{α:Type}(z:α)(c:α×α×Unit→Option Ua):(List α×Int×Int×Int×Int×Unit)→Option ((List α×Int×Int×Int×Int×Unit)⊕(List α×Bool×Unit)⊕(List α×Unit)⊕Unit):=fun(a0,a1,a2,a3,a4,_)=>
 match(ilt a4 5)with
 |true=>match AX (GU z c) many (a0,a1,a2,a3,a4,())with|none=>none|some r=>match r with
  |.inl (o0,o1,o2,o3,o4,_)=>match(ieq o3 o2)with
   |true=>some (.inr (.inl (o0,true,())))
   |false=>match(ilt (IntKind.wrap .i64 (o2-o1)) 50)with
   |true=>some (.inr (.inl (o0,false,())))
   |false=>match idx o0 (IntKind.wrap .i64 (o3-1))with|none=>none|some x5=>match idx o0 o3 with|none=>none|some x6=>match idx o0 o3 with|none=>none|some x7=>match idx (Az o0 (AM o3) (AW o0 (AM (IntKind.wrap .i64 (o3-1))) z)) (IntKind.wrap .i64 (o3-1))with|none=>none|some x8=>match(ile 2 (IntKind.wrap .i64 (o3-o1)))with
   |true=>match AX (EV z c) many ((Az (Az o0 (AM o3) (AW o0 (AM (IntKind.wrap .i64 (o3-1))) z)) (AM (IntKind.wrap .i64 (o3-1))) (AW o0 (AM o3) z)),o1,o2,o3,o4,(IntKind.wrap .i64 (o3-1)),())with|none=>none|some r=>match r with
    |.inl (o9,o10,o11,o12,o13,_)=>match(ile 2 (IntKind.wrap .i64 (o11-o12)))with
     |true=>match AX (EU z c) many (o9,o10,o11,o12,o13,(IntKind.wrap .i64 (o12+1)),())with|none=>none|some r=>match r with
      |.inl (o14,o15,o16,o17,o18,_)=>some (.inl (o14,o15,o16,o17,(IntKind.wrap .i64 (o18+1)),()))
      |.inr _=>none
     |false=>some (.inl (o9,o10,o11,o12,(IntKind.wrap .i64 (o13+1)),()))
    |.inr _=>none
   |false=>match(ile 2 (IntKind.wrap .i64 (o2-o3)))with
   |true=>match AX (EU z c) many ((Az (Az o0 (AM o3) (AW o0 (AM (IntKind.wrap .i64 (o3-1))) z)) (AM (IntKind.wrap .i64 (o3-1))) (AW o0 (AM o3) z)),o1,o2,o3,o4,(IntKind.wrap .i64 (o3+1)),())with|none=>none|some r=>match r with
    |.inl (o19,o20,o21,o22,o23,_)=>some (.inl (o19,o20,o21,o22,(IntKind.wrap .i64 (o23+1)),()))
    |.inr _=>none
   |false=>some (.inl ((Az (Az o0 (AM o3) (AW o0 (AM (IntKind.wrap .i64 (o3-1))) z)) (AM (IntKind.wrap .i64 (o3-1))) (AW o0 (AM o3) z)),o1,o2,o3,(IntKind.wrap .i64 (o4+1)),()))
  |.inr _=>none
 |false=>some (.inr (.inr (.inl (a0,()))))
def HW[Lk]{α:Type}(z:α)(c:α×α×Unit→Option Ua):(List α×Int×Int×Unit)→Option ((List α×Bool×Unit)):=fun(a0,a1,a2,_)=>
 match AX (CS z c) many (a0,a1,a2,(IntKind.wrap .i64 (a1+1)),0,())with|none=>none|some r=>match r with
 |.inl (o0,o1,_)=>some (o0,o1,())
 |.inr r=>match r with
 |.inl (o2,_)=>some (o2,false,())
 |.inr _=>none
def MB[Lk]{α:Type}(z:α)(c:α×α×Unit→Option Ua)(v:(List α×Int×Int×Unit)):Option ((List α×Bool×Unit)):=Lk.f ((HW z c) v)
theorem AQP{α:Type}(z:α)(c:α×α×Unit→Option Ua)(v:(List α×Int×Int×Unit)):(MB z c) v=(HW z c) v:=AJ _
def HX[Lk]{α:Type}(z:α)(c:α×α×Unit→Option Ua):(List α×Int×Int×Int×Unit)→Option ((List α×Int×Int×Int×Unit)⊕(List α×Int×Int×Int×Unit)⊕Unit):=fun(a0,a1,a2,a3,_)=>
 match(ile a2 a3)with
 |true=>match idx a0 a1 with|none=>none|some x0=>match idx a0 a3 with|none=>none|some x1=>match c ((AW a0 (AM a1) z),(AW a0 (AM a3) z),())with|none=>none|some (y2,_)=>match(ilt y2 0)with
  |true=>some (.inl (a0,a1,a2,(IntKind.wrap .i64 (a3-1)),()))
  |false=>some (.inr (.inl (a0,a1,a2,a3,())))
 |false=>some (.inr (.inl (a0,a1,a2,a3,())))
def HY[Lk]{α:Type}(z:α)(c:α×α×Unit→Option Ua):(List α×Int×Int×Int×Unit)→Option ((List α×Int×Int×Int×Unit)⊕(List α×Int×Int×Int×Unit)⊕Unit):=fun(a0,a1,a2,a3,_)=>
 match(ile a2 a3)with
 |true=>match idx a0 a1 with|none=>none|some x0=>match idx a0 a2 with|none=>none|some x1=>match c ((AW a0 (AM a1) z),(AW a0 (AM a2) z),())with|none=>none|some (y2,_)=>match(!(ilt y2 0))with
  |true=>some (.inl (a0,a1,(IntKind.wrap .i64 (a2+1)),a3,()))
  |false=>some (.inr (.inl (a0,a1,a2,a3,())))
 |false=>some (.inr (.inl (a0,a1,a2,a3,())))
def HZ[Lk]{α:Type}(z:α)(c:α×α×Unit→Option Ua):(List α×Int×Int×Int×Unit)→Option ((List α×Int×Int×Int×Unit)⊕(List α×Int×Unit)⊕Unit):=fun(a0,a1,a2,a3,_)=>
 match AX (HY z c) many (a0,a1,a2,a3,())with|none=>none|some r=>match r with
 |.inl (o0,o1,o2,o3,_)=>match AX (HX z c) many (o0,o1,o2,o3,())with|none=>none|some r=>match r with
  |.inl (o4,o5,o6,o7,_)=>match(ilt o7 o6)with
   |true=>some (.inr (.inl (o4,o6,())))
   |false=>match idx o4 o7 with|none=>none|some x8=>match idx o4 o6 with|none=>none|some x9=>match idx o4 o6 with|none=>none|some x10=>match idx (Az o4 (AM o6) (AW o4 (AM o7) z)) o7 with|none=>none|some x11=>some (.inl ((Az (Az o4 (AM o6) (AW o4 (AM o7) z)) (AM o7) (AW o4 (AM o6) z)),o5,(IntKind.wrap .i64 (o6+1)),(IntKind.wrap .i64 (o7-1)),()))
  |.inr _=>none
 |.inr _=>none
def JT[Lk]{α:Type}(z:α)(c:α×α×Unit→Option Ua):(List α×Int×Int×Int×Unit)→Option ((List α×Int×Unit)):=fun(a0,a1,a2,a3,_)=>
 match idx a0 a3 with|none=>none|some x0=>match idx a0 a1 with|none=>none|some x1=>match idx a0 a1 with|none=>none|some x2=>match idx (Az a0 (AM a1) (AW a0 (AM a3) z)) a3 with|none=>none|some x3=>match AX (HZ z c) many ((Az (Az a0 (AM a1) (AW a0 (AM a3) z)) (AM a3) (AW a0 (AM a1) z)),a1,(IntKind.wrap .i64 (a1+1)),(IntKind.wrap .i64 (a2-1)),())with|none=>none|some r=>match r with
 |.inl (o4,o5,_)=>some (o4,o5,())
 |.inr _=>none
def Qz[Lk]{α:Type}(z:α)(c:α×α×Unit→Option Ua)(v:(List α×Int×Int×Int×Unit)):Option ((List α×Int×Unit)):=Lk.f ((JT z c) v)
theorem AVn{α:Type}(z:α)(c:α×α×Unit→Option Ua)(v:(List α×Int×Int×Int×Unit)):(Qz z c) v=(JT z c) v:=AJ _
def MC[Lk]{α:Type}(z:α)(c:α×α×Unit→Option Ua):(List α×Int×Int×Int×Unit)→Option ((List α×Int×Int×Int×Unit)⊕(List α×Int×Int×Int×Unit)⊕Unit):=fun(a0,a1,a2,a3,_)=>
 match(ile a2 a3)with
 |true=>match idx a0 a3 with|none=>none|some x0=>match idx a0 a1 with|none=>none|some x1=>match c ((AW a0 (AM a3) z),(AW a0 (AM a1) z),())with|none=>none|some (y2,_)=>match(!(ilt y2 0))with
  |true=>some (.inl (a0,a1,a2,(IntKind.wrap .i64 (a3-1)),()))
  |false=>some (.inr (.inl (a0,a1,a2,a3,())))
 |false=>some (.inr (.inl (a0,a1,a2,a3,())))
def MD[Lk]{α:Type}(z:α)(c:α×α×Unit→Option Ua):(List α×Int×Int×Int×Unit)→Option ((List α×Int×Int×Int×Unit)⊕(List α×Int×Int×Int×Unit)⊕Unit):=fun(a0,a1,a2,a3,_)=>
 match(ile a2 a3)with
 |true=>match idx a0 a2 with|none=>none|some x0=>match idx a0 a1 with|none=>none|some x1=>match c ((AW a0 (AM a2) z),(AW a0 (AM a1) z),())with|none=>none|some (y2,_)=>match(ilt y2 0)with
  |true=>some (.inl (a0,a1,(IntKind.wrap .i64 (a2+1)),a3,()))
  |false=>some (.inr (.inl (a0,a1,a2,a3,())))
 |false=>some (.inr (.inl (a0,a1,a2,a3,())))
def ME[Lk]{α:Type}(z:α)(c:α×α×Unit→Option Ua):(List α×Int×Int×Int×Unit)→Option ((List α×Int×Int×Int×Unit)⊕(List α×Int×Int×Unit)⊕Unit):=fun(a0,a1,a2,a3,_)=>
 match AX (MD z c) many (a0,a1,a2,a3,())with|none=>none|some r=>match r with
 |.inl (o0,o1,o2,o3,_)=>match AX (MC z c) many (o0,o1,o2,o3,())with|none=>none|some r=>match r with
  |.inl (o4,o5,o6,o7,_)=>match(ilt o7 o6)with
   |true=>some (.inr (.inl (o4,o5,o7,())))
   |false=>match idx o4 o7 with|none=>none|some x8=>match idx o4 o6 with|none=>none|some x9=>match idx o4 o6 with|none=>none|some x10=>match idx (Az o4 (AM o6) (AW o4 (AM o7) z)) o7 with|none=>none|some x11=>some (.inl ((Az (Az o4 (AM o6) (AW o4 (AM o7) z)) (AM o7) (AW o4 (AM o6) z)),o5,(IntKind.wrap .i64 (o6+1)),(IntKind.wrap .i64 (o7-1)),()))
  |.inr _=>none
 |.inr _=>none
def MF[Lk]{α:Type}(z:α)(c:α×α×Unit→Option Ua):(List α×Int×Int×Int×Unit)→Option ((List α×Int×Int×Int×Unit)⊕(List α×Int×Int×Int×Unit)⊕Unit):=fun(a0,a1,a2,a3,_)=>
 match(ile a2 a3)with
 |true=>match idx a0 a3 with|none=>none|some x0=>match idx a0 a1 with|none=>none|some x1=>match c ((AW a0 (AM a3) z),(AW a0 (AM a1) z),())with|none=>none|some (y2,_)=>match(!(ilt y2 0))with
  |true=>some (.inl (a0,a1,a2,(IntKind.wrap .i64 (a3-1)),()))
  |false=>some (.inr (.inl (a0,a1,a2,a3,())))
 |false=>some (.inr (.inl (a0,a1,a2,a3,())))
def MG[Lk]{α:Type}(z:α)(c:α×α×Unit→Option Ua):(List α×Int×Int×Int×Unit)→Option ((List α×Int×Int×Int×Unit)⊕(List α×Int×Int×Int×Unit)⊕Unit):=fun(a0,a1,a2,a3,_)=>
 match(ile a2 a3)with
 |true=>match idx a0 a2 with|none=>none|some x0=>match idx a0 a1 with|none=>none|some x1=>match c ((AW a0 (AM a2) z),(AW a0 (AM a1) z),())with|none=>none|some (y2,_)=>match(ilt y2 0)with
  |true=>some (.inl (a0,a1,(IntKind.wrap .i64 (a2+1)),a3,()))
  |false=>some (.inr (.inl (a0,a1,a2,a3,())))
 |false=>some (.inr (.inl (a0,a1,a2,a3,())))
def Qy[Lk]{α:Type}(z:α)(c:α×α×Unit→Option Ua):(List α×Int×Int×Int×Unit)→Option ((List α×Int×Bool×Unit)):=fun(a0,a1,a2,a3,_)=>
 match idx a0 a3 with|none=>none|some x0=>match idx a0 a1 with|none=>none|some x1=>match idx a0 a1 with|none=>none|some x2=>match idx (Az a0 (AM a1) (AW a0 (AM a3) z)) a3 with|none=>none|some x3=>match AX (MG z c) many ((Az (Az a0 (AM a1) (AW a0 (AM a3) z)) (AM a3) (AW a0 (AM a1) z)),a1,(IntKind.wrap .i64 (a1+1)),(IntKind.wrap .i64 (a2-1)),())with|none=>none|some r=>match r with
 |.inl (o4,o5,o6,o7,_)=>match AX (MF z c) many (o4,o5,o6,o7,())with|none=>none|some r=>match r with
  |.inl (o8,o9,o10,o11,_)=>match(ilt o11 o10)with
   |true=>match idx o8 o9 with|none=>none|some x12=>match idx o8 o11 with|none=>none|some x13=>match idx o8 o11 with|none=>none|some x14=>match idx (Az o8 (AM o11) (AW o8 (AM o9) z)) o9 with|none=>none|some x15=>some ((Az (Az o8 (AM o11) (AW o8 (AM o9) z)) (AM o9) (AW o8 (AM o11) z)),o11,true,())
   |false=>match idx o8 o11 with|none=>none|some x16=>match idx o8 o10 with|none=>none|some x17=>match idx o8 o10 with|none=>none|some x18=>match idx (Az o8 (AM o10) (AW o8 (AM o11) z)) o11 with|none=>none|some x19=>match AX (ME z c) many ((Az (Az o8 (AM o10) (AW o8 (AM o11) z)) (AM o11) (AW o8 (AM o10) z)),o9,(IntKind.wrap .i64 (o10+1)),(IntKind.wrap .i64 (o11-1)),())with|none=>none|some r=>match r with
   |.inl (o20,o21,o22,_)=>match idx o20 o21 with|none=>none|some x23=>match idx o20 o22 with|none=>none|some x24=>match idx o20 o22 with|none=>none|some x25=>match idx (Az o20 (AM o22) (AW o20 (AM o21) z)) o21 with|none=>none|some x26=>some ((Az (Az o20 (AM o22) (AW o20 (AM o21) z)) (AM o21) (AW o20 (AM o22) z)),o22,false,())
   |.inr _=>none
  |.inr _=>none
 |.inr _=>none
def ABp[Lk]{α:Type}(z:α)(c:α×α×Unit→Option Ua)(v:(List α×Int×Int×Int×Unit)):Option ((List α×Int×Bool×Unit)):=Lk.f ((Qy z c) v)
theorem Ag8{α:Type}(z:α)(c:α×α×Unit→Option Ua)(v:(List α×Int×Int×Int×Unit)):(ABp z c) v=(Qy z c) v:=AJ _
def TY[Lk]{α:Type}(z:α)(c:α×α×Unit→Option Ua)(self:(List α×Int×Int×Int×Unit)→Option ((List α×Unit)))(y7:List α)(a1 a2 p l:Int)(a4 a5:Bool):Option ((List α×Int×Int×Int×Bool×Bool×Unit)⊕(List α×Unit)⊕Unit):=
 match(ilt 0 a1)with
 |true=>match idx y7 (IntKind.wrap .i64 (a1-1))with|none=>none|some x9=>match idx y7 p with|none=>none|some x10=>match c ((AW y7 (AM (IntKind.wrap .i64 (a1-1))) z),(AW y7 (AM p) z),())with|none=>none|some (y11,_)=>match(!(ilt y11 0))with
  |true=>match(Qz z c) (y7,a1,a2,p,())with|none=>none|some (y12,y13,_)=>some (.inl (y12,y13,a2,l,a4,a5,()))
  |false=>match(ABp z c) (y7,a1,a2,p,())with|none=>none|some (y14,y15,y16,_)=>match quo? .i64 (IntKind.wrap .i64 (a2-a1)) 8 with|none=>none|some x17=>match(ilt (IntKind.wrap .i64 (y15-a1)) (IntKind.wrap .i64 (a2-y15)))with
  |true=>match self (y14,a1,y15,l,())with|none=>none|some (y18,_)=>some (.inl (y18,(IntKind.wrap .i64 (y15+1)),a2,l,(ile x17 (IntKind.wrap .i64 (y15-a1))),y16,()))
  |false=>match self (y14,(IntKind.wrap .i64 (y15+1)),a2,l,())with|none=>none|some (y19,_)=>some (.inl (y19,a1,y15,l,(ile x17 (IntKind.wrap .i64 (a2-y15))),y16,()))
 |false=>match(ABp z c) (y7,a1,a2,p,())with|none=>none|some (y20,y21,y22,_)=>match quo? .i64 (IntKind.wrap .i64 (a2-a1)) 8 with|none=>none|some x23=>match(ilt (IntKind.wrap .i64 (y21-a1)) (IntKind.wrap .i64 (a2-y21)))with
 |true=>match self (y20,a1,y21,l,())with|none=>none|some (y24,_)=>some (.inl (y24,(IntKind.wrap .i64 (y21+1)),a2,l,(ile x23 (IntKind.wrap .i64 (y21-a1))),y22,()))
 |false=>match self (y20,(IntKind.wrap .i64 (y21+1)),a2,l,())with|none=>none|some (y25,_)=>some (.inl (y25,a1,y21,l,(ile x23 (IntKind.wrap .i64 (a2-y21))),y22,()))
def AKw[Lk]{α:Type}(z:α)(c:α×α×Unit→Option Ua)(self:(List α×Int×Int×Int×Unit)→Option ((List α×Unit)))(y6:List α)(a1 a2 p h l:Int)(a4 a5:Bool):Option ((List α×Int×Int×Int×Bool×Bool×Unit)⊕(List α×Unit)⊕Unit):=
 match a4 with
 |true=>match a5 with
  |true=>match(ieq h 1)with
   |true=>match(MB z c) (y6,a1,a2,())with|none=>none|some (y7,y8,_)=>match y8 with
    |true=>some (.inr (.inl (y7,())))
    |false=>(TY z c) self y7 a1 a2 p l a4 a5
   |false=>(TY z c) self y6 a1 a2 p l a4 a5
  |false=>(TY z c) self y6 a1 a2 p l a4 a5
 |false=>(TY z c) self y6 a1 a2 p l a4 a5
def AKv[Lk]{α:Type}(z:α)(c:α×α×Unit→Option Ua)(self:(List α×Int×Int×Int×Unit)→Option ((List α×Unit)))(y2:List α)(a1 a2 l:Int)(a4 a5:Bool):Option ((List α×Int×Int×Int×Bool×Bool×Unit)⊕(List α×Unit)⊕Unit):=
 match(ABQ z c) (y2,a1,a2,())with|none=>none|some (y3,y4,y5,_)=>match(ieq y5 2)with
 |true=>match(AgI z c) (y3,a1,a2,())with|none=>none|some (y6,_)=>(AKw z c) self y6 a1 a2 (IntKind.wrap .i64 ((IntKind.wrap .i64 (a2-1))-(IntKind.wrap .i64 (y4-a1)))) 1 l a4 a5
 |false=>(AKw z c) self y3 a1 a2 y4 y5 l a4 a5
def NV[Lk]{α:Type}(z:α)(c:α×α×Unit→Option Ua)(self:(List α×Int×Int×Int×Unit)→Option ((List α×Unit))):(List α×Int×Int×Int×Bool×Bool×Unit)→Option ((List α×Int×Int×Int×Bool×Bool×Unit)⊕(List α×Unit)⊕Unit):=fun(a0,a1,a2,a3,a4,a5,_)=>
 match(ile (IntKind.wrap .i64 (a2-a1)) 12)with
 |true=>match(Ahz z c) (a0,a1,a2,())with|none=>none|some (y0,_)=>some (.inr (.inl (y0,())))
 |false=>match(ieq a3 0)with
 |true=>match(ARZ z c) (a0,a1,a2,())with|none=>none|some (y1,_)=>some (.inr (.inl (y1,())))
 |false=>match(!a4)with
 |true=>match(AEa z c) (a0,a1,a2,())with|none=>none|some (y2,_)=>(AKv z c) self y2 a1 a2 (IntKind.wrap .i64 (a3-1)) a4 a5
 |false=>(AKv z c) self a0 a1 a2 a3 a4 a5
def ABY[Lk]{α:Type}(z:α)(c:α×α×Unit→Option Ua)(self:(List α×Int×Int×Int×Unit)→Option ((List α×Unit))):(List α×Int×Int×Int×Unit)→Option ((List α×Unit)):=fun(a0,a1,a2,a3,_)=>
 match AX ((NV z c) self) many (a0,a1,a2,a3,true,true,())with|none=>none|some r=>match r with
 |.inl (o0,_)=>some (o0,())
 |.inr _=>none
def KE[Lk]{α:Type}(z:α)(c:α×α×Unit→Option Ua):Nat→(List α×Int×Int×Int×Unit)→Option ((List α×Unit))
 |0,_=>none
 |n+1,v=>(ABY z c) ((KE z c) n) v
def Agu[Lk]{α:Type}(z:α)(c:α×α×Unit→Option Ua)(v:(List α×Int×Int×Int×Unit)):Option ((List α×Unit)):=Lk.f ((KE z c) 100 v)
theorem Akf{α:Type}(z:α)(c:α×α×Unit→Option Ua)(v:(List α×Int×Int×Int×Unit)):(Agu z c) v=(KE z c) 100 v:=AJ _
def Qb[Lk]{α:Type}(z:α)(c:α×α×Unit→Option Ua):(List α×Unit)→Option ((List α×Unit)):=fun(a0,_)=>
 match bitsLen ((IntKind.wrap .u64 (AN a0)),())with|none=>none|some (y0,_)=>match(Agu z c) (a0,0,(AN a0),y0,())with|none=>none|some (y1,_)=>some (y1,())
def AY5[Lk]{α:Type}(z:α)(c:α×α×Unit→Option Ua)(v:(List α×Unit)):Option ((List α×Unit)):=Lk.f ((Qb z c) v)
theorem Afk{α:Type}(z:α)(c:α×α×Unit→Option Ua)(v:(List α×Unit)):(AY5 z c) v=(Qb z c) v:=AJ _
abbrev AWl:AE:=[(.tmp 0,.own 41 U7),(.tmp 1,.di),(.tmp 2,.di),(.tmp 3,.clo 135 [])]
abbrev AWk:AE:=[(.obj 0,.own 41 U7)]
abbrev AWj:List RS:=[]
abbrev AZl:AE:=[(.obj 0,.own 41 U7),(.tmp 0,.own' 0),(.tmp 1,.di),(.tmp 2,.di),(.tmp 3,.clo 135 []),(.tmp 8,.di),(.tmp 9,.di)]
abbrev AZj:At:=[(.exit 2,[(.obj 0,.own 41 U7),(.tmp 0,.own' 0),(.tmp 1,.di),(.tmp 2,.di),(.tmp 3,.clo 135 []),(.tmp 8,.di)])]
def AZh[Lk]:Um→Option (Um⊕U8⊕Unit):=Nb (([]:List (Int)):U4) BG
abbrev AZm:AE:=[(.obj 0,.own 41 U7),(.tmp 0,.own' 0),(.tmp 1,.di),(.tmp 2,.di),(.tmp 3,.clo 135 []),(.tmp 8,.di)]
abbrev AZk:At:=[(.exit 0,[(.obj 0,.own 41 U7)])]
def AZi[Lk]:U8→Option (U8⊕Uq⊕Unit):=Nc (([]:List (Int)):U4) BG
def Ahw[Lk]:Ug→Option (Uq):=ACl (([]:List (Int)):U4) BG
def Am0[Lk](v:Ug):Option (Uq):=Ahz (([]:List (Int)):U4) BG v
theorem Ak7 v:Am0 v=Ahw v:=AJ _
abbrev AKF:AE:=[(.tmp 0,.own 41 U7),(.tmp 1,.di),(.tmp 2,.di),(.tmp 3,.di),(.tmp 4,.clo 135 [])]
abbrev AKE:AE:=[(.obj 0,.own 41 U7)]
abbrev AKD:List RS:=[]
abbrev AOx:AE:=[(.obj 0,.own 41 U7),(.tmp 0,.own' 0),(.tmp 2,.di),(.tmp 3,.di),(.tmp 4,.clo 135 []),(.tmp 10,.di)]
abbrev AOw:At:=[(.exit 0,[(.obj 0,.own 41 U7)]),(.ret,[(.obj 0,.own 41 U7)])]
def AOv[Lk]:U8→Option (U8⊕Uq⊕Uq⊕Unit):=JN (([]:List (Int)):U4) BG
def AY8[Lk]:U8→Option (Uq):=Qc (([]:List (Int)):U4) BG
def Afq[Lk](v:U8):Option (Uq):=AHD (([]:List (Int)):U4) BG v
theorem Afp v:Afq v=AY8 v:=AJ _
abbrev ALx:AE:=[(.tmp 0,.own 41 U7),(.tmp 1,.di),(.tmp 2,.di),(.tmp 3,.clo 135 [])]
abbrev ALw:AE:=[(.obj 0,.own 41 U7)]
abbrev ALv:List RS:=[]
abbrev ARW:AE:=[(.obj 0,.own 41 U7),(.tmp 0,.own' 0),(.tmp 3,.clo 135 []),(.tmp 8,.di),(.tmp 9,.di),(.tmp 12,.di)]
abbrev ARU:At:=[(.exit 2,[(.obj 0,.own 41 U7)])]
def ARR[Lk]:U8→Option (U8⊕Uq⊕Unit):=Jd (([]:List (Int)):U4) BG
abbrev ARX:AE:=[(.obj 0,.own 41 U7),(.tmp 0,.own' 0),(.tmp 3,.clo 135 []),(.tmp 8,.di),(.tmp 9,.di),(.tmp 10,.di),(.tmp 11,.di)]
abbrev ARV:At:=[(.exit 0,[(.obj 0,.own 41 U7),(.tmp 0,.own' 0),(.tmp 3,.clo 135 []),(.tmp 8,.di),(.tmp 9,.di),(.tmp 10,.di)])]
def ART[Lk]:Um→Option (Um⊕U8⊕Unit):=Je (([]:List (Int)):U4) BG
def AZw[Lk]:Ug→Option (Uq):=RK (([]:List (Int)):U4) BG
def AiC[Lk](v:Ug):Option (Uq):=ARZ (([]:List (Int)):U4) BG v
theorem AiB v:AiC v=AZw v:=AJ _
abbrev AEY:AE:=[(.tmp 0,.own 41 U7),(.tmp 1,.di),(.tmp 2,.di),(.tmp 3,.clo 135 [])]
abbrev AEX:AE:=[(.obj 0,.own 41 U7)]
abbrev AEW:List RS:=[]
abbrev AIn:AE:=[(.obj 0,.own 41 U7),(.tmp 0,.own' 0),(.tmp 1,.di),(.tmp 8,.di),(.tmp 9,.box 1),(.cell 1 0,.dat (.int .u64)),(.tmp 10,.dat (.int .u64)),(.tmp 11,.di)]
abbrev AIm:At:=[(.exit 0,[(.obj 0,.own 41 U7)])]
def AIl[Lk]:V1→Option (V1⊕Uq⊕Unit):=Fy (([]:List (Int)):U4) BG
def AS1[Lk]:Ug→Option (Uq):=Mn (([]:List (Int)):U4) BG
def AYQ[Lk](v:Ug):Option (Uq):=AEa (([]:List (Int)):U4) BG v
theorem Aec v:AYQ v=AS1 v:=AJ _
abbrev Th:AE:=[(.tmp 0,.own 41 U7),(.tmp 1,.di),(.tmp 2,.di),(.tmp 3,.box 1),(.cell 1 0,.di),(.tmp 4,.clo 135 [])]
abbrev Tg:AE:=[(.obj 0,.own 41 U7),(.obj 1,.box 1),(.cell 1 0,.di),(.tmp 0,.di),(.tmp 1,.di)]
abbrev Tf:List RS:=[.one,.one]
def AHj[Lk]:U8→Option (U8):=JU (([]:List (Int)):U4) BG
def ALD[Lk](v:U8):Option (U8):=KF (([]:List (Int)):U4) BG v
theorem AVw v:ALD v=AHj v:=AJ _
abbrev Tt:AE:=[(.tmp 0,.own 41 U7),(.tmp 1,.di),(.tmp 2,.di),(.tmp 3,.di),(.tmp 4,.box 1),(.cell 1 0,.di),(.tmp 5,.clo 135 [])]
abbrev Ts:AE:=[(.obj 0,.own 41 U7),(.obj 1,.box 1),(.cell 1 0,.di),(.tmp 0,.di)]
abbrev Tq:List RS:=[.one]
def AHo[Lk]:Um→Option (Ug):=JX (([]:List (Int)):U4) BG
def ALT[Lk](v:Um):Option (Ug):=KN (([]:List (Int)):U4) BG v
theorem AWI v:ALT v=AHo v:=AJ _
abbrev T1:AE:=[(.tmp 0,.own 41 U7),(.tmp 1,.di),(.tmp 2,.box 1),(.cell 1 0,.di),(.tmp 3,.clo 135 [])]
abbrev Tz:AE:=[(.obj 0,.own 41 U7),(.obj 1,.box 1),(.cell 1 0,.di),(.tmp 0,.di)]
abbrev Tx:List RS:=[.one]
def AHq[Lk]:Ug→Option (Ug):=JY (([]:List (Int)):U4) BG
def ALX[Lk](v:Ug):Option (Ug):=KO (([]:List (Int)):U4) BG v
theorem AWL v:ALX v=AHq v:=AJ _
abbrev ABP:AE:=[(.tmp 0,.own 41 U7),(.tmp 1,.di),(.tmp 2,.di),(.tmp 3,.clo 135 [])]
abbrev ABO:AE:=[(.obj 0,.own 41 U7),(.tmp 0,.di),(.tmp 1,.di)]
abbrev ABN:List RS:=[.one,.one]
def APk[Lk]:Ug→Option (Ug):=MA (([]:List (Int)):U4) BG
def AVO[Lk](v:Ug):Option (Ug):=ABQ (([]:List (Int)):U4) BG v
theorem Ab0 v:AVO v=APk v:=AJ _
abbrev AUt:AE:=[(.tmp 0,.own 41 U7),(.tmp 1,.di),(.tmp 2,.di),(.tmp 3,.clo 135 [])]
abbrev AUs:AE:=[(.obj 0,.own 41 U7)]
abbrev AUr:List RS:=[]
abbrev AZD:AE:=[(.obj 0,.own 41 U7),(.tmp 0,.own' 0),(.tmp 8,.di),(.tmp 9,.di)]
abbrev AZC:At:=[(.exit 0,[(.obj 0,.own 41 U7)])]
def AZB[Lk]:Ug→Option (Ug⊕Uq⊕Unit):=Qo (([]:List (Int)):U4) BG
def AgG[Lk]:Ug→Option (Uq):=AAv (([]:List (Int)):U4) BG
def AmZ[Lk](v:Ug):Option (Uq):=AgI (([]:List (Int)):U4) BG v
theorem AkQ v:AmZ v=AgG v:=AJ _
abbrev PJ:AE:=[(.tmp 0,.own 41 U7),(.tmp 1,.di),(.tmp 2,.di),(.tmp 3,.clo 135 [])]
abbrev PI:AE:=[(.obj 0,.own 41 U7),(.tmp 0,.dat .bool)]
abbrev PH:List RS:=[.one]
abbrev W6:AE:=[(.obj 0,.own 41 U7),(.tmp 0,.own' 0),(.tmp 1,.di),(.tmp 2,.di),(.tmp 3,.clo 135 []),(.tmp 9,.di),(.tmp 10,.di),(.tmp 12,.di)]
abbrev W2:At:=[(.exit 6,[(.obj 0,.own 41 U7),(.tmp 0,.own' 0),(.tmp 1,.di),(.tmp 2,.di),(.tmp 3,.clo 135 []),(.tmp 9,.di),(.tmp 10,.di)])]
def Wy[Lk]:V1→Option (V1⊕Um⊕Unit):=EU (([]:List (Int)):U4) BG
abbrev W7:AE:=[(.obj 0,.own 41 U7),(.tmp 0,.own' 0),(.tmp 1,.di),(.tmp 2,.di),(.tmp 3,.clo 135 []),(.tmp 9,.di),(.tmp 10,.di),(.tmp 11,.di)]
abbrev W3:At:=[(.exit 4,[(.obj 0,.own 41 U7),(.tmp 0,.own' 0),(.tmp 1,.di),(.tmp 2,.di),(.tmp 3,.clo 135 []),(.tmp 9,.di),(.tmp 10,.di)])]
def Wz[Lk]:V1→Option (V1⊕Um⊕Unit):=EV (([]:List (Int)):U4) BG
abbrev W8:AE:=[(.obj 0,.own 41 U7),(.tmp 0,.own' 0),(.tmp 1,.di),(.tmp 2,.di),(.tmp 3,.clo 135 []),(.tmp 9,.di),(.tmp 10,.di)]
abbrev W4:At:=[(.exit 2,[(.obj 0,.own 41 U7),(.tmp 0,.own' 0),(.tmp 1,.di),(.tmp 2,.di),(.tmp 3,.clo 135 []),(.tmp 9,.di),(.tmp 10,.di)])]
def W0[Lk]:Um→Option (Um⊕Um⊕Unit):=GU (([]:List (Int)):U4) BG
abbrev XA:AE:=[(.obj 0,.own 41 U7),(.tmp 0,.own' 0),(.tmp 1,.di),(.tmp 2,.di),(.tmp 3,.clo 135 []),(.tmp 9,.di),(.tmp 10,.di)]
abbrev W5:At:=[(.ret,[(.obj 0,.own 41 U7),(.tmp 8,.dat .bool)]),(.exit 0,[(.obj 0,.own 41 U7)])]
def W1[Lk]:Um→Option (Um⊕(List U4×Bool×Unit)⊕Uq⊕Unit):=CS (([]:List (Int)):U4) BG
def ABh[Lk]:Ug→Option ((List U4×Bool×Unit)):=HW (([]:List (Int)):U4) BG
def ABi[Lk](v:Ug):Option ((List U4×Bool×Unit)):=MB (([]:List (Int)):U4) BG v
theorem AQO v:ABi v=ABh v:=AJ _
abbrev Tb:AE:=[(.tmp 0,.own 41 U7),(.tmp 1,.di),(.tmp 2,.di),(.tmp 3,.di),(.tmp 4,.clo 135 [])]
abbrev Ta:AE:=[(.obj 0,.own 41 U7),(.tmp 0,.di)]
abbrev TZ:List RS:=[.one]
abbrev ABw:AE:=[(.obj 0,.own 41 U7),(.tmp 0,.own' 0),(.tmp 1,.di),(.tmp 4,.clo 135 []),(.tmp 11,.di),(.tmp 12,.di)]
abbrev ABt:At:=[(.exit 4,[(.obj 0,.own 41 U7),(.tmp 0,.own' 0),(.tmp 1,.di),(.tmp 4,.clo 135 []),(.tmp 11,.di),(.tmp 12,.di)])]
def ABq[Lk]:U8→Option (U8⊕U8⊕Unit):=HX (([]:List (Int)):U4) BG
abbrev ABx:AE:=[(.obj 0,.own 41 U7),(.tmp 0,.own' 0),(.tmp 1,.di),(.tmp 4,.clo 135 []),(.tmp 11,.di),(.tmp 12,.di)]
abbrev ABu:At:=[(.exit 2,[(.obj 0,.own 41 U7),(.tmp 0,.own' 0),(.tmp 1,.di),(.tmp 4,.clo 135 []),(.tmp 11,.di),(.tmp 12,.di)])]
def ABr[Lk]:U8→Option (U8⊕U8⊕Unit):=HY (([]:List (Int)):U4) BG
abbrev ABy:AE:=[(.obj 0,.own 41 U7),(.tmp 0,.own' 0),(.tmp 1,.di),(.tmp 4,.clo 135 []),(.tmp 11,.di),(.tmp 12,.di)]
abbrev ABv:At:=[(.exit 0,[(.obj 0,.own 41 U7),(.tmp 11,.di)])]
def ABs[Lk]:U8→Option (U8⊕(List U4×Int×Unit)⊕Unit):=HZ (([]:List (Int)):U4) BG
def AHf[Lk]:U8→Option ((List U4×Int×Unit)):=JT (([]:List (Int)):U4) BG
def AK5[Lk](v:U8):Option ((List U4×Int×Unit)):=Qz (([]:List (Int)):U4) BG v
theorem AVm v:AK5 v=AHf v:=AJ _
end
end Go.Pev
end
section
namespace Go.Pev
noncomputable section
attribute [local irreducible] OV Ks N3 OC Ah3 Ah4 Ah6 Qr AFn Qd YD K2 Aj many IntKind.wrap AN Az AW BV Bu Fv Du AM Br B5 imax AR Ad
abbrev AK0:AE:=[(.tmp 0,.own 41 U7),(.tmp 1,.di),(.tmp 2,.di),(.tmp 3,.di),(.tmp 4,.clo 135 [])]
abbrev AKz:AE:=[(.obj 0,.own 41 U7),(.tmp 0,.di),(.tmp 1,.dat .bool)]
abbrev AKy:List RS:=[.one,.one]
abbrev AQB:AE:=[(.obj 0,.own 41 U7),(.tmp 0,.own' 0),(.tmp 1,.di),(.tmp 4,.clo 135 []),(.tmp 12,.di),(.tmp 13,.di)]
abbrev AP6:At:=[(.exit 8,[(.obj 0,.own 41 U7),(.tmp 0,.own' 0),(.tmp 1,.di),(.tmp 4,.clo 135 []),(.tmp 12,.di),(.tmp 13,.di)])]
def APx[Lk]:U8→Option (U8⊕U8⊕Unit):=MC (([]:List (Int)):U4) BG
abbrev AQC:AE:=[(.obj 0,.own 41 U7),(.tmp 0,.own' 0),(.tmp 1,.di),(.tmp 4,.clo 135 []),(.tmp 12,.di),(.tmp 13,.di)]
abbrev AP7:At:=[(.exit 6,[(.obj 0,.own 41 U7),(.tmp 0,.own' 0),(.tmp 1,.di),(.tmp 4,.clo 135 []),(.tmp 12,.di),(.tmp 13,.di)])]
def APz[Lk]:U8→Option (U8⊕U8⊕Unit):=MD (([]:List (Int)):U4) BG
abbrev AQD:AE:=[(.obj 0,.own 41 U7),(.tmp 0,.own' 0),(.tmp 1,.di),(.tmp 4,.clo 135 []),(.tmp 12,.di),(.tmp 13,.di)]
abbrev AP8:At:=[(.exit 4,[(.obj 0,.own 41 U7),(.tmp 0,.own' 0),(.tmp 1,.di),(.tmp 13,.di)])]
def AP1[Lk]:U8→Option (U8⊕Ug⊕Unit):=ME (([]:List (Int)):U4) BG
abbrev AQE:AE:=[(.obj 0,.own 41 U7),(.tmp 0,.own' 0),(.tmp 1,.di),(.tmp 4,.clo 135 []),(.tmp 12,.di),(.tmp 13,.di)]
abbrev AP9:At:=[(.exit 2,[(.obj 0,.own 41 U7),(.tmp 0,.own' 0),(.tmp 1,.di),(.tmp 4,.clo 135 []),(.tmp 12,.di),(.tmp 13,.di)])]
def AP3[Lk]:U8→Option (U8⊕U8⊕Unit):=MF (([]:List (Int)):U4) BG
abbrev AQF:AE:=[(.obj 0,.own 41 U7),(.tmp 0,.own' 0),(.tmp 1,.di),(.tmp 4,.clo 135 []),(.tmp 12,.di),(.tmp 13,.di)]
abbrev AQA:At:=[(.exit 0,[(.obj 0,.own 41 U7),(.tmp 0,.own' 0),(.tmp 1,.di),(.tmp 4,.clo 135 []),(.tmp 12,.di),(.tmp 13,.di)])]
def AP5[Lk]:U8→Option (U8⊕U8⊕Unit):=MG (([]:List (Int)):U4) BG
def AZS[Lk]:U8→Option ((List U4×Int×Bool×Unit)):=Qy (([]:List (Int)):U4) BG
def Ag7[Lk](v:U8):Option ((List U4×Int×Bool×Unit)):=ABp (([]:List (Int)):U4) BG v
theorem Ag6 v:Ag7 v=AZS v:=AJ _
abbrev ABW:AE:=[(.tmp 0,.own 41 U7),(.tmp 1,.di),(.tmp 2,.di),(.tmp 3,.di),(.tmp 4,.clo 135 [])]
abbrev ABV:AE:=[(.obj 0,.own 41 U7)]
abbrev ABU:List RS:=[]
abbrev AZO:AE:=[(.obj 0,.own 41 U7),(.tmp 0,.own' 0),(.tmp 1,.di),(.tmp 2,.di),(.tmp 3,.di),(.tmp 4,.clo 135 []),(.tmp 10,.dat .bool),(.tmp 11,.dat .bool)]
abbrev AZN:At:=[(.ret,[(.obj 0,.own 41 U7)])]
def AZM[Lk](self:U8→Option (Uq)):(List U4×Int×Int×Int×Bool×Bool×Unit)→Option ((List U4×Int×Int×Int×Bool×Bool×Unit)⊕Uq⊕Unit):=NV (([]:List (Int)):U4) BG self
def Amm[Lk](self:U8→Option (Uq)):U8→Option (Uq):=ABY (([]:List (Int)):U4) BG self
def ABX[Lk]:Nat→U8→Option (Uq):=KE (([]:List (Int)):U4) BG
def Ake[Lk](v:U8):Option (Uq):=Agu (([]:List (Int)):U4) BG v
theorem Akd v:Ake v=ABX 100 v:=AJ _
abbrev AJ7:AE:=[(.tmp 0,.own 41 U7),(.tmp 1,.clo 135 [])]
abbrev AJ6:AE:=[(.obj 0,.own 41 U7)]
abbrev AJ5:List RS:=[]
def AY4[Lk]:Uq→Option (Uq):=Qb (([]:List (Int)):U4) BG
def AOq[Lk](v:Uq):Option (Uq):=AY5 (([]:List (Int)):U4) BG v
theorem Afj v:AOq v=AY4 v:=AJ _
abbrev AJW:AE:=[(.tmp 0,.dat V3),(.tmp 1,.dat U7),(.tmp 2,.dat Uh)]
abbrev AJV:AE:=[(.tmp 0,.di),(.tmp 1,.own 41 U7)]
abbrev AJU:List RS:=[.agg 2]
abbrev AOJ:AE:=[(.tmp 3,.box 2),(.cell 0 0,.di),(.cell 0 1,.dat Uh),(.tmp 6,.box 2),(.cell 1 0,.di),(.cell 1 1,.nil U7),(.tmp 7,.own 41 U7),(.tmp 29,.dat Uh),(.tmp 30,.di),(.tmp 31,.di)]
abbrev AOH:At:=[(.exit 2,[(.tmp 3,.box 2),(.cell 0 0,.di),(.cell 0 1,.dat Uh),(.tmp 6,.box 2),(.cell 1 0,.di),(.cell 1 1,.nil U7),(.tmp 7,.own 41 U7)])]
def HJ[Lk]:(Int×List U4×Int×List U4×List U4×Int×Int×Unit)→Option ((Int×List U4×Int×List U4×List U4×Int×Int×Unit)⊕(Int×List U4×Int×List U4×Unit)⊕Unit):=fun(a0,a1,a2,a3,a4,a5,a6,_)=>
 match(ilt a6 a5)with
 |true=>match idx a4 a6 with|none=>none|some x0=>match AAr (x0,())with|none=>none|some (y1,_)=>match(fits ((AN a3)+(AN ([y1]:List U4))))with
  |true=>some (.inl (a0,a1,a2,(BV a3 ([y1]:List U4)),a4,a5,(IntKind.wrap .i64 (a6+1)),()))
  |false=>none
 |false=>some (.inr (.inl (a0,a1,a2,a3,())))
abbrev AOK:AE:=[(.tmp 1,.dat U7),(.tmp 2,.dat Uh),(.tmp 3,.box 2),(.cell 0 0,.di),(.cell 0 1,.dat Uh),(.tmp 6,.box 2),(.cell 1 0,.di),(.cell 1 1,.nil U7),(.tmp 7,.own 41 U7),(.tmp 13,.dat Uh),(.tmp 14,.di),(.tmp 15,.di)]
abbrev AOI:At:=[(.exit 0,[(.tmp 2,.dat Uh),(.tmp 3,.box 2),(.cell 0 0,.di),(.cell 0 1,.dat Uh),(.tmp 6,.box 2),(.cell 1 0,.di),(.cell 1 1,.nil U7),(.tmp 7,.own 41 U7)])]
def HK[Lk]:(List Int×List U4×Int×List U4×Int×List U4×List U4×Int×Int×Unit)→Option ((List Int×List U4×Int×List U4×Int×List U4×List U4×Int×Int×Unit)⊕(List U4×Int×List U4×Int×List U4×Unit)⊕Unit):=fun(a0,a1,a2,a3,a4,a5,a6,a7,a8,_)=>
 match(ilt a8 a7)with
 |true=>match idx a6 a8 with|none=>none|some x0=>match Fx (a0,a8,())with|none=>none|some (y1,_)=>match(!y1)with
  |true=>match(fits ((AN a5)+(AN ([x0]:List U4))))with
   |true=>some (.inl (a0,a1,a2,a3,a4,(BV a5 ([x0]:List U4)),a6,a7,(IntKind.wrap .i64 (a8+1)),()))
   |false=>none
  |false=>some (.inl (a0,a1,a2,a3,a4,a5,a6,a7,(IntKind.wrap .i64 (a8+1)),()))
 |false=>some (.inr (.inl (a1,a2,a3,a4,a5,())))
def Yg[Lk]:(V4×List Int×List U4×Unit)→Option ((Int×List U4×Unit)):=fun(a0,a1,a2,_)=>
 match AX HK many (a1,a2,a0.1,a0.2.1,0,([]:List U4),a0.2.1,(AN a0.2.1),0,())with|none=>none|some r=>match r with
 |.inl (o0,o1,o2,o3,o4,_)=>match AX HJ many (o1,o2,o3,o4,o0,(AN o0),0,())with|none=>none|some r=>match r with
  |.inl (o5,o6,o7,o8,_)=>match AOq (o8,())with|none=>none|some (y9,_)=>some (o5,y9,())
  |.inr _=>none
 |.inr _=>none
def AOM[Lk]:=fun v=>Lk.f (Yg v)
theorem AOL v:AOM v=Yg v:=AJ _
abbrev AJl:AE:=[(.tmp 0,.dat V3),(.tmp 1,.di),(.tmp 2,.di)]
abbrev AJk:AE:=[(.tmp 0,.di),(.tmp 1,.dat Uh),(.tmp 2,.di)]
abbrev AJj:List RS:=[.agg 2,.one]
def QU[Lk]:(V4×Int×Int×Unit)→Option ((Int×List U4×Int×Unit)):=fun(a0,a1,a2,_)=>
 match asked ((a0.1,(a0.2.1,())),a1,a2,())with|none=>none|some (y0,_)=>match(!(ieq y0 0))with
 |true=>some (a0.1,a0.2.1,y0,())
 |false=>match Su ((a0.1,(a0.2.1,())),a1,())with|none=>none|some (y1,_)=>match Su ((a0.1,(a0.2.1,())),a2,())with|none=>none|some (y2,_)=>match(ieq y1 y2)with
 |true=>some (a0.1,a0.2.1,5,())
 |false=>match idx a0.2.1 y1 with|none=>none|some x3=>match AHR (x3,a1,())with|none=>none|some (y4,y5,_)=>match idx a0.2.1 y2 with|none=>none|some x6=>match AHR (x6,a2,())with|none=>none|some (y7,y8,_)=>match D6 y4 0 1 with|none=>none|some x9=>match AbA (a0.1,a1,a2,())with|none=>none|some (y10,_)=>match AbA (a0.1,a2,a1,())with|none=>none|some (y11,_)=>match D6 y4 1 (AN y4)with|none=>none|some x12=>match K1 (([(Fv 0 (AM (AN x9)) y4),([y10]:List (Int)),y7,([y11]:List (Int)),(Fv 1 (AM (AN x12)) y4)]:List U4),())with|none=>none|some (y13,_)=>match AOM ((a0.1,(a0.2.1,())),([y1,y2]:List (Int)),([y13]:List U4),())with|none=>none|some (y14,y15,_)=>some (y14,y15,0,())
def Zs[Lk]:=fun v=>Lk.f (QU v)
theorem Zr v:Zs v=QU v:=AJ _
abbrev Fj:AE:=[(.tmp 0,.dat U7),(.cap 1 0,.box 2),(.cell 0 0,.di),(.cell 0 1,.dat Uh),(.tmp 1,.clo 125 [(0,0)])]
abbrev Fi:AE:=[(.obj 0,.box 2),(.cell 0 0,.di),(.cell 0 1,.dat Uh),(.tmp 0,.di)]
abbrev Fh:List RS:=[.one]
abbrev IN:AE:=[(.obj 0,.box 2),(.cell 0 0,.di),(.cell 0 1,.dat Uh),(.tmp 0,.dat U7),(.tmp 1,.clo 125 [(0,0)]),(.tmp 7,.di),(.tmp 8,.di)]
abbrev IM:At:=[(.ret,[(.obj 0,.box 2),(.cell 0 0,.di),(.cell 0 1,.dat Uh),(.tmp 4,.di)]),(.exit 0,[(.obj 0,.box 2),(.cell 0 0,.di),(.cell 0 1,.dat Uh)])]
def Bf[Lk]:(Int×List U4×List Int×Int×Int×Unit)→Option ((Int×List U4×List Int×Int×Int×Unit)⊕(Int×List U4×Int×Unit)⊕(Int×List U4×Unit)⊕Unit):=fun(a0,a1,a2,a3,a4,_)=>
 match(ilt a4 a3)with
 |true=>match idx a2 a4 with|none=>none|some x0=>match(ilt x0 0)with
  |true=>some (.inr (.inl (a0,a1,a4,())))
  |false=>match(ile a0 x0)with
  |true=>some (.inr (.inl (a0,a1,a4,())))
  |false=>some (.inl (a0,a1,a2,a3,(IntKind.wrap .i64 (a4+1)),()))
 |false=>some (.inr (.inr (.inl (a0,a1,()))))
def De[Lk]:(List Int×Int×List U4×Unit)→Option ((Int×List U4×Int×Unit)):=fun(a0,a1,a2,_)=>
 match AX Bf many (a1,a2,a0,(AN a0),0,())with|none=>none|some r=>match r with
 |.inl (o0,o1,o2,_)=>some (o0,o1,o2,())
 |.inr r=>match r with
 |.inl (o3,o4,_)=>some (o3,o4,(-1:Int),())
 |.inr _=>none
def Er[Lk]:=fun v=>Lk.f (De v)
theorem IP v:Er v=De v:=AJ _
abbrev Ez:AE:=[(.tmp 0,.dat U7),(.cap 1 0,.box 2),(.cell 0 0,.di),(.cell 0 1,.dat Uh),(.tmp 1,.clo 125 [(0,0)])]
abbrev Ey:AE:=[(.obj 0,.box 2),(.cell 0 0,.di),(.cell 0 1,.dat Uh),(.tmp 0,.dat .bool)]
abbrev Ex:List RS:=[.one]
def DA[Lk]:(List Int×Int×List U4×Unit)→Option ((Int×List U4×Bool×Unit)):=fun(a0,a1,a2,_)=>
 match Er (a0,a1,a2,())with|none=>none|some (y0,y1,y2,_)=>some (y0,y1,(ile 0 y2),())
def Cz[Lk]:=fun v=>Lk.f (DA v)
theorem Hn v:Cz v=DA v:=AJ _
abbrev AC3:AE:=[(.tmp 0,.dat V3),(.tmp 1,.dat U7)]
abbrev AC2:AE:=[(.tmp 0,.di)]
abbrev AC1:List RS:=[.one]
def RN[Lk]:(V4×List Int×Unit)→Option (Ua):=fun(a0,a1,_)=>
 match Ss ((a0.1,(a0.2.1,())),())with|none=>none|some (y0,_)=>match(!y0)with
 |true=>some (1,())
 |false=>match Cz (a1,a0.1,a0.2.1,())with|none=>none|some (y1,y2,y3,_)=>match y3 with
 |true=>some (10,())
 |false=>some (0,())
def UQ[Lk]:=fun v=>Lk.f (RN v)
theorem AIA v:UQ v=RN v:=AJ _
abbrev AXS:AE:=[(.tmp 0,.dat Uy)]
abbrev AXR:AE:=[(.tmp 0,.own 3 U0)]
abbrev AXQ:List RS:=[.one]
abbrev AaB:AE:=[(.tmp 3,.own 3 U0),(.tmp 6,.dat Uy),(.tmp 7,.di),(.tmp 8,.di)]
abbrev AaA:At:=[(.exit 0,[(.tmp 3,.own 3 U0)])]
def Kt[Lk]:(List Int×List U1×Int×Int×Unit)→Option ((List Int×List U1×Int×Int×Unit)⊕Up⊕Unit):=fun(a0,a1,a2,a3,_)=>
 match(ilt a3 a2)with
 |true=>match idx a1 a3 with|none=>none|some x0=>match(fits ((AN a0)+(AN ([x0.1,x0.2.1]:List (Int)))))with
  |true=>some (.inl ((BV a0 ([x0.1,x0.2.1]:List (Int))),a1,a2,(IntKind.wrap .i64 (a3+1)),()))
  |false=>none
 |false=>some (.inr (.inl (a0,())))
def AMQ[Lk]:Ul→Option (Up):=fun(a0,_)=>
 match AX Kt many (([]:List (Int)),a0,(AN a0),0,())with|none=>none|some r=>match r with
 |.inl (o0,_)=>some (o0,())
 |.inr _=>none
def ends[Lk]:=fun v=>Lk.f (AMQ v)
theorem AaC v:ends v=AMQ v:=AJ _
abbrev Po:AE:=[(.tmp 0,.dat V3),(.tmp 1,.dat Uy),(.tmp 2,.clo 87 [])]
abbrev Pn:AE:=[(.tmp 0,.dat V3),(.tmp 1,.own 4 .bool),(.tmp 2,.di)]
abbrev Pm:List RS:=[.one,.one,.one]
abbrev Xb:AE:=[(.tmp 2,.clo 87 []),(.tmp 3,.box 2),(.cell 0 0,.di),(.cell 0 1,.dat Uh),(.tmp 6,.box 2),(.cell 1 0,.di),(.cell 1 1,.nil U7),(.tmp 10,.own 4 .bool),(.tmp 23,.dat Uy),(.tmp 24,.di),(.tmp 25,.di)]
abbrev Xa:At:=[(.exit 0,[(.tmp 3,.box 2),(.cell 0 0,.di),(.cell 0 1,.dat Uh),(.tmp 6,.box 2),(.cell 1 0,.di),(.cell 1 1,.nil U7),(.tmp 10,.own 4 .bool)])]
def DP[Lk]:(Int×List U4×Int×List Bool×List U1×Int×Int×Unit)→Option ((Int×List U4×Int×List Bool×List U1×Int×Int×Unit)⊕(Int×List U4×Int×List Bool×Unit)⊕Unit):=fun(a0,a1,a2,a3,a4,a5,a6,_)=>
 match(ilt a6 a5)with
 |true=>match idx a4 a6 with|none=>none|some x0=>match Zs ((a0,(a1,())),x0.1,x0.2.1,())with|none=>none|some (y1,y2,y3,_)=>match(fits ((AN a3)+(AN ([(ieq y3 0)]:List (Bool)))))with
  |true=>some (.inl (y1,y2,a2,(BV a3 ([(ieq y3 0)]:List (Bool))),a4,a5,(IntKind.wrap .i64 (a6+1)),()))
  |false=>none
 |false=>some (.inr (.inl (a0,a1,a2,a3,())))
def Kv[Lk]:(V4×List U1×Unit)→Option ((V4×List Bool×Int×Unit)):=fun(a0,a1,_)=>
 match ends (a1,())with|none=>none|some (y0,_)=>match UQ ((a0.1,(a0.2.1,())),y0,())with|none=>none|some (y1,_)=>match(!(ieq y1 0))with
 |true=>some ((a0.1,(a0.2.1,())),([]:List (Bool)),y1,())
 |false=>match AX DP many (a0.1,a0.2.1,0,([]:List (Bool)),a1,(AN a1),0,())with|none=>none|some r=>match r with
 |.inl (o2,o3,o4,o5,_)=>some ((o2,(o3,())),o5,0,())
 |.inr _=>none
def RW[Lk]:=fun v=>Lk.f (Kv v)
theorem Xc v:RW v=Kv v:=AJ _
abbrev ADG:AE:=[(.tmp 0,.dat V3),(.tmp 1,.dat Uy)]
abbrev ADF:AE:=[(.tmp 0,.dat V3),(.tmp 1,.own 4 .bool),(.tmp 2,.di)]
abbrev ADE:List RS:=[.one,.one,.one]
def RP[Lk]:(V4×List U1×Unit)→Option ((V4×List Bool×Int×Unit)):=fun(a0,a1,_)=>
 match RW ((a0.1,(a0.2.1,())),a1,())with|none=>none|some (y0,y1,y2,_)=>some ((y0.1,(y0.2.1,())),y1,y2,())
def AMF[Lk]:=fun v=>Lk.f (RP v)
theorem AIH v:AMF v=RP v:=AJ _
abbrev Aic:AE:=[(.tmp 0,.di),(.tmp 1,.dat Uy)]
abbrev Aib:AE:=[(.tmp 0,.dat V3),(.tmp 1,.di)]
abbrev Aia:List RS:=[.one,.one]
def AZ8[Lk]:(Int×List U1×Unit)→Option ((V4×Int×Unit)):=fun(a0,a1,_)=>
 match AOZ (a0,())with|none=>none|some (y0,y1,y2,_)=>match(!(ieq y2 0))with
 |true=>some ((0,(([]:List U4),())),y2,())
 |false=>match AMF ((y0,(y1,())),a1,())with|none=>none|some (y3,y4,y5,_)=>match(!(ieq y5 0))with
 |true=>some ((0,(([]:List U4),())),y5,())
 |false=>some ((y3.1,(y3.2.1,())),0,())
def fof[Lk]:=fun v=>Lk.f (AZ8 v)
theorem Aid v:fof v=AZ8 v:=AJ _
abbrev AhV:AE:=[(.tmp 0,.dat U7)]
abbrev AhT:AE:=[(.tmp 0,.di)]
abbrev AhR:List RS:=[.one]
abbrev AhU:AE:=[(.tmp 3,.di),(.tmp 6,.dat U7),(.tmp 7,.di),(.tmp 8,.di)]
abbrev AhS:At:=[(.ret,[(.tmp 2,.di)]),(.exit 0,[(.tmp 3,.di)])]
def FV[Lk]:(Int×List Int×Int×Int×Unit)→Option ((Int×List Int×Int×Int×Unit)⊕Ua⊕Ua⊕Unit):=fun(a0,a1,a2,a3,_)=>
 match(ilt a3 a2)with
 |true=>match idx a1 a3 with|none=>none|some x0=>match(!(ieq x0 a0))with
  |true=>some (.inr (.inl (x0,())))
  |false=>some (.inl (a0,a1,a2,(IntKind.wrap .i64 (a3+1)),()))
 |false=>some (.inr (.inr (.inl (a0,()))))
def AHm[Lk]:Up→Option (Ua):=fun(a0,_)=>
 match AX FV many (0,a0,(AN a0),0,())with|none=>none|some r=>match r with
 |.inl (o0,_)=>some (o0,())
 |.inr r=>match r with
 |.inl (o1,_)=>some (o1,())
 |.inr _=>none
def orI[Lk]:=fun v=>Lk.f (AHm v)
theorem ALG v:orI v=AHm v:=AJ _
abbrev ACU:AE:=[(.tmp 0,.di)]
abbrev ACT:AE:=[(.tmp 0,.dat .bool)]
abbrev ACS:List RS:=[.one]
def MO[Lk]:Ua→Option (Uj):=fun(a0,_)=>
 match(ile 1 a0)with
 |true=>some ((ile a0 64),())
 |false=>some (false,())
def T6[Lk]:=fun v=>Lk.f (MO v)
theorem T5 v:T6 v=MO v:=AJ _
abbrev AWT:AE:=[(.tmp 0,.di)]
abbrev AWS:AE:=[(.tmp 0,.di)]
abbrev AWR:List RS:=[.one]
def AWU[Lk]:Ua→Option (Ua):=fun(a0,_)=>
 match T6 (a0,())with|none=>none|some (y0,_)=>match(!y0)with
 |true=>some (0,())
 |false=>match bitsLen ((IntKind.wrap .u64 (IntKind.wrap .i64 (a0-1))),())with|none=>none|some (y1,_)=>some (y1,())
def ALc[Lk]:=fun v=>Lk.f (AWU v)
theorem Akw v:ALc v=AWU v:=AJ _
abbrev PU:AE:=[(.tmp 0,.dat U5),(.tmp 1,.dat U5)]
abbrev PT:AE:=[(.tmp 0,.di)]
abbrev PS:List RS:=[.one]
def KQ[Lk]:(U3×U3×Unit)→Option (Ua):=fun(a0,a1,_)=>
 match DS (a0.1,a1.1,())with|none=>none|some (y0,_)=>match DS (a0.2.1,a1.2.1,())with|none=>none|some (y1,_)=>match orI (([y0,y1]:List (Int)),())with|none=>none|some (y2,_)=>some (y2,())
def Ja[Lk]:=fun v=>Lk.f (KQ v)
theorem XQ v:Ja v=KQ v:=AJ _
abbrev ACP:AE:=[(.tmp 0,.dat Uz),(.tmp 1,.di)]
abbrev ACO:AE:=[(.tmp 0,.own 45 U2)]
abbrev ACN:List RS:=[.one]
abbrev AHu:AE:=[(.tmp 1,.di),(.tmp 5,.own 45 U2),(.tmp 9,.dat Vb),(.tmp 10,.di),(.tmp 11,.di)]
abbrev AHt:At:=[(.exit 0,[(.tmp 5,.own 45 U2)])]
def FX[Lk]:(Int×List U1×List U3×Int×Int×Unit)→Option ((Int×List U1×List U3×Int×Int×Unit)⊕Ul⊕Unit):=fun(a0,a1,a2,a3,a4,_)=>
 match(ilt a4 a3)with
 |true=>match idx a2 a4 with|none=>none|some x0=>match x0.2.2.2.1 with
  |true=>match(ile a0 x0.2.2.1)with
   |true=>match(fits ((AN a1)+(AN ([(x0.1,(x0.2.1,()))]:List U1))))with
    |true=>some (.inl (a0,(BV a1 ([(x0.1,(x0.2.1,()))]:List U1)),a2,a3,(IntKind.wrap .i64 (a4+1)),()))
    |false=>none
   |false=>some (.inl (a0,a1,a2,a3,(IntKind.wrap .i64 (a4+1)),()))
  |false=>some (.inl (a0,a1,a2,a3,(IntKind.wrap .i64 (a4+1)),()))
 |false=>some (.inr (.inl (a1,())))
def Q3[Lk]:(V7×Int×Unit)→Option (Ul):=fun(a0,a1,_)=>
 match AX FX many (a1,([]:List U1),a0.2.1,(AN a0.2.1),0,())with|none=>none|some r=>match r with
 |.inl (o0,_)=>some (o0,())
 |.inr _=>none
def ACR[Lk]:=fun v=>Lk.f (Q3 v)
theorem AHv v:ACR v=Q3 v:=AJ _
abbrev ACX:AE:=[(.tmp 0,.dat Uz)]
abbrev ACW:AE:=[(.tmp 0,.dat .bool)]
abbrev ACV:List RS:=[.one]
abbrev AHx:AE:=[(.tmp 1,.box 2),(.cell 0 0,.di),(.cell 0 1,.dat Vb),(.tmp 3,.di),(.tmp 23,.dat Vb),(.tmp 24,.di),(.tmp 25,.di)]
abbrev AHw:At:=[(.ret,[(.tmp 2,.dat .bool)]),(.exit 0,[(.tmp 1,.box 2),(.cell 0 0,.di),(.cell 0 1,.dat Vb)])]
def DZ[Lk]:(Int×List U3×Int×List U3×Int×Int×Unit)→Option ((Int×List U3×Int×List U3×Int×Int×Unit)⊕Uj⊕(Int×List U3×Unit)⊕Unit):=fun(a0,a1,a2,a3,a4,a5,_)=>
 match(ilt a5 a4)with
 |true=>match idx a3 a5 with|none=>none|some x0=>match(ilt x0.1 0)with
  |true=>some (.inr (.inl (false,())))
  |false=>match(ile x0.2.1 x0.1)with
  |true=>some (.inr (.inl (false,())))
  |false=>match(ile a0 x0.2.1)with
  |true=>some (.inr (.inl (false,())))
  |false=>match(ilt x0.2.2.1 0)with
  |true=>some (.inr (.inl (false,())))
  |false=>match(ilt a2 x0.2.2.1)with
  |true=>some (.inr (.inl (false,())))
  |false=>match(ilt 0 a5)with
  |true=>match idx a1 (IntKind.wrap .i64 (a5-1))with|none=>none|some x1=>match Ja ((x1.1,(x1.2.1,(x1.2.2.1,(x1.2.2.2.1,())))),(x0.1,(x0.2.1,(x0.2.2.1,(x0.2.2.2.1,())))),())with|none=>none|some (y2,_)=>match(ile 0 y2)with
   |true=>some (.inr (.inl (false,())))
   |false=>some (.inl (a0,a1,a2,a3,a4,(IntKind.wrap .i64 (a5+1)),()))
  |false=>some (.inl (a0,a1,a2,a3,a4,(IntKind.wrap .i64 (a5+1)),()))
 |false=>some (.inr (.inr (.inl (a0,a1,()))))
def Ha[Lk]:(V7×Unit)→Option (Uj):=fun(a0,_)=>
 match T6 (a0.1,())with|none=>none|some (y0,_)=>match(!y0)with
 |true=>some (false,())
 |false=>match(ilt 400 (AN a0.2.1))with
 |true=>some (false,())
 |false=>match ALc (a0.1,())with|none=>none|some (y1,_)=>match AX DZ many (a0.1,a0.2.1,y1,a0.2.1,(AN a0.2.1),0,())with|none=>none|some r=>match r with
 |.inl (o2,_)=>some (o2,())
 |.inr r=>match r with
 |.inl (o3,o4,_)=>match ACR ((o3,(o4,())),0,())with|none=>none|some (y5,_)=>match fof (o3,y5,())with|none=>none|some (y6,y7,_)=>match(ieq y7 0)with
  |true=>some ((ieq (AN y6.2.1) (IntKind.wrap .i64 (o3-(AN y5)))),())
  |false=>some (false,())
 |.inr _=>none
def FY[Lk]:=fun v=>Lk.f (Ha v)
theorem JZ v:FY v=Ha v:=AJ _
abbrev ACe:AE:=[(.tmp 0,.dat Uz)]
abbrev ACd:AE:=[(.tmp 0,.own 45 U2)]
abbrev ACc:List RS:=[.one]
abbrev AHz:AE:=[(.tmp 3,.own 45 U2),(.tmp 10,.dat Vb),(.tmp 11,.di),(.tmp 12,.di)]
abbrev AHy:At:=[(.exit 0,[(.tmp 3,.own 45 U2)])]
def FZ[Lk]:(List U1×List U3×Int×Int×Unit)→Option ((List U1×List U3×Int×Int×Unit)⊕Ul⊕Unit):=fun(a0,a1,a2,a3,_)=>
 match(ilt a3 a2)with
 |true=>match idx a1 a3 with|none=>none|some x0=>match(fits ((AN a0)+(AN ([(x0.1,(x0.2.1,()))]:List U1))))with
  |true=>some (.inl ((BV a0 ([(x0.1,(x0.2.1,()))]:List U1)),a1,a2,(IntKind.wrap .i64 (a3+1)),()))
  |false=>none
 |false=>some (.inr (.inl (a0,())))
def Q4[Lk]:(V7×Unit)→Option (Ul):=fun(a0,_)=>
 match FY ((a0.1,(a0.2.1,())),())with|none=>none|some (y0,_)=>match(!y0)with
 |true=>some (([]:List U1),())
 |false=>match AX FZ many (([]:List U1),a0.2.1,(AN a0.2.1),0,())with|none=>none|some r=>match r with
 |.inl (o1,_)=>some (o1,())
 |.inr _=>none
def UA[Lk]:=fun v=>Lk.f (Q4 v)
theorem AH0 v:UA v=Q4 v:=AJ _
def E0[Lk]:(Int×List U1×List Int×Bool×Int×Unit)→Option ((Int×List U1×List Int×Bool×Int×Unit)⊕(Int×List U1×List Int×Bool×Unit)⊕Unit):=fun(a0,a1,a2,a3,a4,_)=>
 match(ilt a4 (AN a1))with
 |true=>match idx a1 a4 with|none=>none|some x0=>match idx a1 a4 with|none=>none|some x1=>match(ilt x0.1 0)with
  |true=>some (.inl (a0,a1,a2,a3,(IntKind.wrap .i64 (a4+1)),()))
  |false=>match(ilt x1.2.1 0)with
  |true=>some (.inl (a0,a1,a2,a3,(IntKind.wrap .i64 (a4+1)),()))
  |false=>match(ile a0 x0.1)with
  |true=>some (.inl (a0,a1,a2,a3,(IntKind.wrap .i64 (a4+1)),()))
  |false=>match(ile a0 x1.2.1)with
  |true=>some (.inl (a0,a1,a2,a3,(IntKind.wrap .i64 (a4+1)),()))
  |false=>match idx a2 x0.1 with|none=>none|some x2=>match idx a2 x1.2.1 with|none=>none|some x3=>match(ieq (AW a2 (AM x0.1) 0) (AW a2 (AM x1.2.1) 0))with
  |true=>some (.inl (a0,a1,a2,a3,(IntKind.wrap .i64 (a4+1)),()))
  |false=>match idx a2 x0.1 with|none=>none|some x4=>match idx a2 x1.2.1 with|none=>none|some x5=>match idx a2 x0.1 with|none=>none|some x6=>match idx (Az a2 (AM x0.1) (B5 (AW a2 (AM x0.1) 0) (AW a2 (AM x1.2.1) 0))) x1.2.1 with|none=>none|some x7=>some (.inl (a0,a1,(Az (Az a2 (AM x0.1) (B5 (AW a2 (AM x0.1) 0) (AW a2 (AM x1.2.1) 0))) (AM x1.2.1) (B5 (AW a2 (AM x0.1) 0) (AW a2 (AM x1.2.1) 0))),true,(IntKind.wrap .i64 (a4+1)),()))
 |false=>some (.inr (.inl (a0,a1,a2,a3,())))
def G5[Lk]:(Int×List U1×List Int×Bool×Unit)→Option ((Int×List U1×List Int×Bool×Unit)⊕Up⊕Unit):=fun(a0,a1,a2,a3,_)=>
 match a3 with
 |true=>match AX E0 many (a0,a1,a2,false,0,())with|none=>none|some r=>match r with
  |.inl (o0,o1,o2,o3,_)=>some (.inl (o0,o1,o2,o3,()))
  |.inr _=>none
 |false=>some (.inr (.inl (a2,())))
def E1[Lk]:(Int×List U1×List Int×Int×Unit)→Option ((Int×List U1×List Int×Int×Unit)⊕(Int×List U1×List Int×Unit)⊕Unit):=fun(a0,a1,a2,a3,_)=>
 match(ilt a3 a0)with
 |true=>match(fits ((AN a2)+(AN ([a3]:List (Int)))))with
  |true=>some (.inl (a0,a1,(BV a2 ([a3]:List (Int))),(IntKind.wrap .i64 (a3+1)),()))
  |false=>none
 |false=>some (.inr (.inl (a0,a1,a2,())))
def Mm[Lk]:(Int×List U1×Unit)→Option (Up):=fun(a0,a1,_)=>
 match AX E1 many (a0,a1,([]:List (Int)),0,())with|none=>none|some r=>match r with
 |.inl (o0,o1,o2,_)=>match AX G5 many (o0,o1,o2,true,())with|none=>none|some r=>match r with
  |.inl (o3,_)=>some (o3,())
  |.inr _=>none
 |.inr _=>none
def Nr[Lk]:=fun v=>Lk.f (Mm v)
theorem AM4 v:Nr v=Mm v:=AJ _
def AfK[Lk]:U1→Option (U1⊕Ua⊕Unit):=fun(a0,a1,_)=>
 match(ilt 0 a1)with
 |true=>match quo? .i64 a1 2 with|none=>none|some x0=>some (.inl ((IntKind.wrap .i64 (a0+1)),x0,()))
 |false=>some (.inr (.inl (a0,())))
def Ajy[Lk]:Ua→Option (Ua):=fun(a0,_)=>
 match(ilt a0 1)with
 |true=>some (0,())
 |false=>match(ilt 64 a0)with
 |true=>some (0,())
 |false=>match AX AfK many (0,(IntKind.wrap .i64 (a0-1)),())with|none=>none|some r=>match r with
 |.inl (o0,_)=>some (o0,())
 |.inr _=>none
def Zq[Lk]:=fun v=>Lk.f (Ajy v)
def FL[Lk]:(Int×List U3×List U1×List Int×Int×Int×Unit)→Option ((Int×List U3×List U1×List Int×Int×Int×Unit)⊕(Int×List U3×List U1×Int×Unit)⊕Unit):=fun(a0,a1,a2,a3,a4,a5,_)=>
 match(ilt a5 a0)with
 |true=>match idx a3 a5 with|none=>none|some x0=>match(ieq (AW a3 (AM a5) 0) a5)with
  |true=>some (.inl (a0,a1,a2,a3,(IntKind.wrap .i64 (a4+1)),(IntKind.wrap .i64 (a5+1)),()))
  |false=>some (.inl (a0,a1,a2,a3,a4,(IntKind.wrap .i64 (a5+1)),()))
 |false=>some (.inr (.inl (a0,a1,a2,a4,())))
def EC[Lk]:(Int×List U3×List U1×Int×Unit)→Option ((Int×List U3×List U1×Int×Unit)⊕Uj⊕(Int×List U3×List U1×Unit)⊕Unit):=fun(a0,a1,a2,a3,_)=>
 match(ilt a3 (AN a1))with
 |true=>match idx a1 a3 with|none=>none|some x0=>match(ilt x0.1 0)with
  |true=>some (.inr (.inl (false,())))
  |false=>match(ile x0.2.1 x0.1)with
  |true=>some (.inr (.inl (false,())))
  |false=>match(ile a0 x0.2.1)with
  |true=>some (.inr (.inl (false,())))
  |false=>match(ilt x0.2.2.1 0)with
  |true=>some (.inr (.inl (false,())))
  |false=>match Zq (a0,())with|none=>none|some (y1,_)=>match(ilt y1 x0.2.2.1)with
  |true=>some (.inr (.inl (false,())))
  |false=>match(ilt 0 a3)with
  |true=>match idx a1 (IntKind.wrap .i64 (a3-1))with|none=>none|some x2=>match(ilt x0.1 x2.1)with
   |true=>some (.inr (.inl (false,())))
   |false=>match idx a1 (IntKind.wrap .i64 (a3-1))with|none=>none|some x3=>match(ieq x3.1 x0.1)with
   |true=>match idx a1 (IntKind.wrap .i64 (a3-1))with|none=>none|some x4=>match(ile x0.2.1 x4.2.1)with
    |true=>some (.inr (.inl (false,())))
    |false=>match x0.2.2.2.1 with
    |true=>match(fits ((AN a2)+(AN ([(x0.1,(x0.2.1,()))]:List U1))))with
     |true=>some (.inl (a0,a1,(BV a2 ([(x0.1,(x0.2.1,()))]:List U1)),(IntKind.wrap .i64 (a3+1)),()))
     |false=>none
    |false=>some (.inl (a0,a1,a2,(IntKind.wrap .i64 (a3+1)),()))
   |false=>match x0.2.2.2.1 with
   |true=>match(fits ((AN a2)+(AN ([(x0.1,(x0.2.1,()))]:List U1))))with
    |true=>some (.inl (a0,a1,(BV a2 ([(x0.1,(x0.2.1,()))]:List U1)),(IntKind.wrap .i64 (a3+1)),()))
    |false=>none
   |false=>some (.inl (a0,a1,a2,(IntKind.wrap .i64 (a3+1)),()))
  |false=>match x0.2.2.2.1 with
  |true=>match(fits ((AN a2)+(AN ([(x0.1,(x0.2.1,()))]:List U1))))with
   |true=>some (.inl (a0,a1,(BV a2 ([(x0.1,(x0.2.1,()))]:List U1)),(IntKind.wrap .i64 (a3+1)),()))
   |false=>none
  |false=>some (.inl (a0,a1,a2,(IntKind.wrap .i64 (a3+1)),()))
 |false=>some (.inr (.inr (.inl (a0,a1,a2,()))))
def FM[Lk]:(V7×Unit)→Option (Uj):=fun(a0,_)=>
 match(ilt a0.1 1)with
 |true=>some (false,())
 |false=>match(ilt 64 a0.1)with
 |true=>some (false,())
 |false=>match(ilt 400 (AN a0.2.1))with
 |true=>some (false,())
 |false=>match AX EC many (a0.1,a0.2.1,([]:List U1),0,())with|none=>none|some r=>match r with
 |.inl (o0,_)=>some (o0,())
 |.inr r=>match r with
 |.inl (o1,o2,o3,_)=>match Nr (o1,o3,())with|none=>none|some (y4,_)=>match AX FL many (o1,o2,o3,y4,0,0,())with|none=>none|some r=>match r with
  |.inl (o5,o6,o7,o8,_)=>some ((ieq o8 (IntKind.wrap .i64 (o5-(AN o7)))),())
  |.inr _=>none
 |.inr _=>none
def NS[Lk]:=fun v=>Lk.f (FM v)
theorem HV v:NS v=FM v:=AJ _
abbrev AAT:AE:=[(.tmp 0,.dat Uy),(.tmp 1,.dat Uy)]
abbrev AAS:AE:=[(.tmp 0,.dat .bool)]
abbrev AAR:List RS:=[.one]
abbrev AHI:AE:=[(.tmp 0,.dat Uy),(.tmp 1,.dat Uy),(.tmp 5,.di)]
abbrev AHH:At:=[(.ret,[(.tmp 4,.dat .bool)]),(.exit 0,[])]
def FJ[Lk]:(List U1×List U1×Int×Unit)→Option ((List U1×List U1×Int×Unit)⊕Uj⊕(Unit)⊕Unit):=fun(a0,a1,a2,_)=>
 match(ilt a2 (AN a0))with
 |true=>match idx a0 a2 with|none=>none|some x0=>match idx a1 a2 with|none=>none|some x1=>match(!(ieq x0.1 x1.1&&(ieq x0.2.1 x1.2.1&&true)))with
  |true=>some (.inr (.inl (false,())))
  |false=>some (.inl (a0,a1,(IntKind.wrap .i64 (a2+1)),()))
 |false=>some (.inr (.inr (.inl ())))
def Qg[Lk]:(List U1×List U1×Unit)→Option (Uj):=fun(a0,a1,_)=>
 match(!(ieq (AN a0) (AN a1)))with
 |true=>some (false,())
 |false=>match AX FJ many (a0,a1,0,())with|none=>none|some r=>match r with
 |.inl (o0,_)=>some (o0,())
 |.inr r=>match r with
 |.inl _=>some (true,())
 |.inr _=>none
def AAV[Lk]:=fun v=>Lk.f (Qg v)
theorem AHJ v:AAV v=Qg v:=AJ _
abbrev Kf:AE:=[(.tmp 0,.own 45 U2),(.cap 1 0,.box 1),(.cell 1 0,.map U2 U0),(.tmp 1,.clo 62 [(1,0)])]
abbrev Ke:AE:=[(.obj 0,.own 45 U2),(.obj 1,.box 1),(.cell 1 0,.map U2 U0),(.obj 2,.map' 2),(.tmp 0,.di)]
abbrev Kd:List RS:=[.one]
abbrev OP:AE:=[(.obj 0,.own 45 U2),(.obj 1,.box 1),(.cell 1 0,.map U2 U0),(.obj 2,.map' 2),(.tmp 0,.own' 0),(.tmp 1,.clo 62 [(1,0)]),(.tmp 7,.di),(.tmp 8,.di)]
abbrev OO:At:=[(.ret,[(.obj 0,.own 45 U2),(.obj 1,.box 1),(.cell 1 0,.map U2 U0),(.obj 2,.map' 2),(.tmp 4,.di)]),(.exit 0,[(.obj 0,.own 45 U2),(.obj 1,.box 1),(.cell 1 0,.map U2 U0),(.obj 2,.map' 2)])]
def B9[Lk]:Vk→Option (Vk⊕(List U1×List Va×Int×Unit)⊕(List U1×List Va×Unit)⊕Unit):=fun(a0,a1,a2,a3,_)=>
 match(ilt a3 a2)with
 |true=>match idx a0 a3 with|none=>none|some x0=>match(ieq ((AR a1 ((AW a0 (AM a3) (0,(0,()))).1,((AW a0 (AM a3) (0,(0,()))).2.1,()))).getD 0) 0)with
  |true=>some (.inr (.inl (a0,a1,a3,())))
  |false=>some (.inl (a0,a1,a2,(IntKind.wrap .i64 (a3+1)),()))
 |false=>some (.inr (.inr (.inl (a0,a1,()))))
def G1[Lk]:(List U1×List Va×Unit)→Option ((List U1×List Va×Int×Unit)):=fun(a0,a1,_)=>
 match AX B9 many (a0,a1,(AN a0),0,())with|none=>none|some r=>match r with
 |.inl (o0,o1,o2,_)=>some (o0,o1,o2,())
 |.inr r=>match r with
 |.inl (o3,o4,_)=>some (o3,o4,(-1:Int),())
 |.inr _=>none
def Kh[Lk]:=fun v=>Lk.f (G1 v)
theorem OQ v:Kh v=G1 v:=AJ _
abbrev Ky:AE:=[(.tmp 0,.own 45 U2),(.cap 1 0,.box 1),(.cell 1 0,.map U2 U0),(.tmp 1,.clo 62 [(1,0)])]
abbrev Kx:AE:=[(.obj 0,.own 45 U2),(.obj 1,.box 1),(.cell 1 0,.map U2 U0),(.obj 2,.map' 2),(.tmp 0,.win' 0)]
abbrev Kw:List RS:=[.one]
abbrev OY:AE:=[(.obj 0,.own 45 U2),(.obj 1,.box 1),(.cell 1 0,.map U2 U0),(.obj 2,.map' 2),(.tmp 0,.own' 0),(.tmp 1,.clo 62 [(1,0)]),(.tmp 5,.di),(.tmp 6,.di)]
abbrev OX:At:=[(.exit 0,[(.obj 0,.own 45 U2),(.obj 1,.box 1),(.cell 1 0,.map U2 U0),(.obj 2,.map' 2),(.tmp 0,.own' 0),(.tmp 5,.di)])]
def C4[Lk]:Vk→Option (Vk⊕(List U1×List Va×Int×Unit)⊕Unit):=fun(a0,a1,a2,a3,_)=>
 match(ilt a3 (AN a0))with
 |true=>match idx a0 a3 with|none=>none|some x0=>match(!(ieq ((AR a1 ((AW a0 (AM a3) (0,(0,()))).1,((AW a0 (AM a3) (0,(0,()))).2.1,()))).getD 0) 0))with
  |true=>match idx a0 a2 with|none=>none|some x1=>some (.inl ((Az a0 (AM a2) ((AW a0 (AM a3) (0,(0,()))).1,((AW a0 (AM a3) (0,(0,()))).2.1,()))),a1,(IntKind.wrap .i64 (a2+1)),(IntKind.wrap .i64 (a3+1)),()))
  |false=>some (.inl (a0,a1,a2,(IntKind.wrap .i64 (a3+1)),()))
 |false=>some (.inr (.inl (a0,a1,a2,())))
def G4[Lk]:(List U1×List Va×Unit)→Option ((List U1×List Va×Int×Unit)):=fun(a0,a1,_)=>
 match Kh (a0,a1,())with|none=>none|some (y0,y1,y2,_)=>match(ieq y2 (-1:Int))with
 |true=>some (y0,y1,(AN y0),())
 |false=>match AX C4 many (y0,y1,y2,(IntKind.wrap .i64 (y2+1)),())with|none=>none|some r=>match r with
 |.inl (o3,o4,o5,_)=>match D6 o3 o5 (AN o3)with|none=>none|some x6=>match D6 (Br (AM o5) (AM (AN x6)) (0,(0,())) o3) 0 o5 with|none=>none|some x7=>some ((Br (AM o5) (AM (AN x6)) (0,(0,())) o3),o4,(((AM (AN x7)):Nat):Int),())
 |.inr _=>none
def Hm[Lk]:=fun v=>Lk.f (G4 v)
theorem OZ v:Hm v=G4 v:=AJ _
abbrev AKr:AE:=[(.tmp 0,.dat Uz),(.tmp 1,.dat Uy)]
abbrev AKq:AE:=[(.tmp 0,.own 45 U2),(.tmp 1,.di)]
abbrev AKp:List RS:=[.one,.one]
abbrev APq:AE:=[(.tmp 2,.box 2),(.cell 0 0,.di),(.cell 0 1,.dat Vb),(.tmp 6,.box 1),(.cell 1 0,.map U2 U0),(.tmp 13,.dat Uy),(.tmp 14,.di),(.tmp 15,.di)]
abbrev APp:At:=[(.ret,[(.tmp 4,.nil U2),(.tmp 5,.di)]),(.exit 0,[(.tmp 2,.box 2),(.cell 0 0,.di),(.cell 0 1,.dat Vb),(.tmp 6,.box 1),(.cell 1 0,.map U2 U0)])]
def Ds[Lk]:(Int×List U3×List Va×List U1×Int×Int×Unit)→Option ((Int×List U3×List Va×List U1×Int×Int×Unit)⊕Ua⊕(Int×List U3×List Va×Unit)⊕Unit):=fun(a0,a1,a2,a3,a4,a5,_)=>
 match(ilt a5 a4)with
 |true=>match idx a3 a5 with|none=>none|some x0=>match(ilt (B5 x0.1 x0.2.1) 0)with
  |true=>some (.inr (.inl (10,())))
  |false=>match(ile a0 (imax x0.1 x0.2.1))with
  |true=>some (.inr (.inl (10,())))
  |false=>match(ile 0 (YF a2 ((B5 x0.1 x0.2.1),((imax x0.1 x0.2.1),())))&&ilt (YF a2 ((B5 x0.1 x0.2.1),((imax x0.1 x0.2.1),()))) (AN (Ad a2 ((B5 x0.1 x0.2.1),((imax x0.1 x0.2.1),())) ((AR a2 ((B5 x0.1 x0.2.1),((imax x0.1 x0.2.1),()))).getD 0))))with
  |true=>some (.inl (a0,a1,(AcV (Ad a2 ((B5 x0.1 x0.2.1),((imax x0.1 x0.2.1),())) ((AR a2 ((B5 x0.1 x0.2.1),((imax x0.1 x0.2.1),()))).getD 0)) (YF a2 ((B5 x0.1 x0.2.1),((imax x0.1 x0.2.1),()))) (IntKind.wrap .i64 (((AR a2 ((B5 x0.1 x0.2.1),((imax x0.1 x0.2.1),()))).getD 0)+1))),a3,a4,(IntKind.wrap .i64 (a5+1)),()))
  |false=>none
 |false=>some (.inr (.inr (.inl (a0,a1,a2,()))))
def Yp[Lk]:(V7×List U1×Unit)→Option ((List U1×Int×Unit)):=fun(a0,a1,_)=>
 match FY ((a0.1,(a0.2.1,())),())with|none=>none|some (y0,_)=>match(!y0)with
 |true=>some (([]:List U1),1,())
 |false=>match AX Ds many (a0.1,a0.2.1,([]:List Va),a1,(AN a1),0,())with|none=>none|some r=>match r with
 |.inl (o1,_)=>some (([]:List U1),o1,())
 |.inr r=>match r with
 |.inl (o2,o3,o4,_)=>match UA ((o2,(o3,())),())with|none=>none|some (y5,_)=>match Hm (y5,o4,())with|none=>none|some (y6,y7,y8,_)=>some ((Bu (AM y8) y6),0,())
 |.inr _=>none
def APs[Lk]:=fun v=>Lk.f (Yp v)
theorem APr v:APs v=Yp v:=AJ _
abbrev Pf:AE:=[(.tmp 0,.dat U2),(.tmp 1,.dat U2)]
abbrev Pe:AE:=[(.tmp 0,.di)]
abbrev Pd:List RS:=[.one]
def Kp[Lk]:(U1×U1×Unit)→Option (Ua):=fun(a0,a1,_)=>
 match DS (a0.1,a1.1,())with|none=>none|some (y0,_)=>match DS (a0.2.1,a1.2.1,())with|none=>none|some (y1,_)=>match orI (([y0,y1]:List (Int)),())with|none=>none|some (y2,_)=>some (y2,())
def Ak[Lk]:=fun v=>Lk.f (Kp v)
theorem XV v:Ak v=Kp v:=AJ _
abbrev AWq:AE:=[(.tmp 0,.own 45 U2),(.tmp 1,.di),(.tmp 2,.di),(.tmp 3,.clo 64 [])]
abbrev AWp:AE:=[(.obj 0,.own 45 U2)]
abbrev AWo:List RS:=[]
abbrev AZr:AE:=[(.obj 0,.own 45 U2),(.tmp 0,.own' 0),(.tmp 1,.di),(.tmp 2,.di),(.tmp 3,.clo 64 []),(.tmp 8,.di),(.tmp 9,.di)]
abbrev AZp:At:=[(.exit 2,[(.obj 0,.own 45 U2),(.tmp 0,.own' 0),(.tmp 1,.di),(.tmp 2,.di),(.tmp 3,.clo 64 []),(.tmp 8,.di)])]
def AZn[Lk]:Un→Option (Un⊕U9⊕Unit):=Nb ((0,(0,())):U1) Ak
abbrev AZs:AE:=[(.obj 0,.own 45 U2),(.tmp 0,.own' 0),(.tmp 1,.di),(.tmp 2,.di),(.tmp 3,.clo 64 []),(.tmp 8,.di)]
abbrev AZq:At:=[(.exit 0,[(.obj 0,.own 45 U2)])]
def AZo[Lk]:U9→Option (U9⊕Ul⊕Unit):=Nc ((0,(0,())):U1) Ak
def Ah1[Lk]:Ud→Option (Ul):=ACl ((0,(0,())):U1) Ak
def Am2[Lk](v:Ud):Option (Ul):=Ahz ((0,(0,())):U1) Ak v
theorem AlE v:Am2 v=Ah1 v:=AJ _
abbrev AKJ:AE:=[(.tmp 0,.own 45 U2),(.tmp 1,.di),(.tmp 2,.di),(.tmp 3,.di),(.tmp 4,.clo 64 [])]
abbrev AKI:AE:=[(.obj 0,.own 45 U2)]
abbrev AKH:List RS:=[]
abbrev AO1:AE:=[(.obj 0,.own 45 U2),(.tmp 0,.own' 0),(.tmp 2,.di),(.tmp 3,.di),(.tmp 4,.clo 64 []),(.tmp 10,.di)]
abbrev AO0:At:=[(.exit 0,[(.obj 0,.own 45 U2)]),(.ret,[(.obj 0,.own 45 U2)])]
def AOz[Lk]:U9→Option (U9⊕Ul⊕Ul⊕Unit):=JN ((0,(0,())):U1) Ak
def AY9[Lk]:U9→Option (Ul):=Qc ((0,(0,())):U1) Ak
def Afv[Lk](v:U9):Option (Ul):=AHD ((0,(0,())):U1) Ak v
theorem Afu v:Afv v=AY9 v:=AJ _
abbrev AL0:AE:=[(.tmp 0,.own 45 U2),(.tmp 1,.di),(.tmp 2,.di),(.tmp 3,.clo 64 [])]
abbrev ALz:AE:=[(.obj 0,.own 45 U2)]
abbrev ALy:List RS:=[]
abbrev ARg:AE:=[(.obj 0,.own 45 U2),(.tmp 0,.own' 0),(.tmp 3,.clo 64 []),(.tmp 8,.di),(.tmp 9,.di),(.tmp 12,.di)]
abbrev ARe:At:=[(.exit 2,[(.obj 0,.own 45 U2)])]
def ARb[Lk]:U9→Option (U9⊕Ul⊕Unit):=Jd ((0,(0,())):U1) Ak
abbrev ARh:AE:=[(.obj 0,.own 45 U2),(.tmp 0,.own' 0),(.tmp 3,.clo 64 []),(.tmp 8,.di),(.tmp 9,.di),(.tmp 10,.di),(.tmp 11,.di)]
abbrev ARf:At:=[(.exit 0,[(.obj 0,.own 45 U2),(.tmp 0,.own' 0),(.tmp 3,.clo 64 []),(.tmp 8,.di),(.tmp 9,.di),(.tmp 10,.di)])]
def ARd[Lk]:Un→Option (Un⊕U9⊕Unit):=Je ((0,(0,())):U1) Ak
def AZx[Lk]:Ud→Option (Ul):=RK ((0,(0,())):U1) Ak
def AiJ[Lk](v:Ud):Option (Ul):=ARZ ((0,(0,())):U1) Ak v
theorem AiI v:AiJ v=AZx v:=AJ _
abbrev AEd:AE:=[(.tmp 0,.own 45 U2),(.tmp 1,.di),(.tmp 2,.di),(.tmp 3,.clo 64 [])]
abbrev AEc:AE:=[(.obj 0,.own 45 U2)]
abbrev AEb:List RS:=[]
abbrev AIq:AE:=[(.obj 0,.own 45 U2),(.tmp 0,.own' 0),(.tmp 1,.di),(.tmp 8,.di),(.tmp 9,.box 1),(.cell 1 0,.dat (.int .u64)),(.tmp 10,.dat (.int .u64)),(.tmp 11,.di)]
abbrev AIp:At:=[(.exit 0,[(.obj 0,.own 45 U2)])]
def AIo[Lk]:V2→Option (V2⊕Ul⊕Unit):=Fy ((0,(0,())):U1) Ak
def AS4[Lk]:Ud→Option (Ul):=Mn ((0,(0,())):U1) Ak
def AYT[Lk](v:Ud):Option (Ul):=AEa ((0,(0,())):U1) Ak v
theorem Aeg v:AYT v=AS4 v:=AJ _
abbrev Tk:AE:=[(.tmp 0,.own 45 U2),(.tmp 1,.di),(.tmp 2,.di),(.tmp 3,.box 1),(.cell 1 0,.di),(.tmp 4,.clo 64 [])]
abbrev Tj:AE:=[(.obj 0,.own 45 U2),(.obj 1,.box 1),(.cell 1 0,.di),(.tmp 0,.di),(.tmp 1,.di)]
abbrev Ti:List RS:=[.one,.one]
def AHk[Lk]:U9→Option (U9):=JU ((0,(0,())):U1) Ak
def ALF[Lk](v:U9):Option (U9):=KF ((0,(0,())):U1) Ak v
theorem AVy v:ALF v=AHk v:=AJ _
abbrev Tw:AE:=[(.tmp 0,.own 45 U2),(.tmp 1,.di),(.tmp 2,.di),(.tmp 3,.di),(.tmp 4,.box 1),(.cell 1 0,.di),(.tmp 5,.clo 64 [])]
abbrev Tv:AE:=[(.obj 0,.own 45 U2),(.obj 1,.box 1),(.cell 1 0,.di),(.tmp 0,.di)]
abbrev Tu:List RS:=[.one]
def AHp[Lk]:Un→Option (Ud):=JX ((0,(0,())):U1) Ak
def ALV[Lk](v:Un):Option (Ud):=KN ((0,(0,())):U1) Ak v
theorem AWK v:ALV v=AHp v:=AJ _
abbrev T4:AE:=[(.tmp 0,.own 45 U2),(.tmp 1,.di),(.tmp 2,.box 1),(.cell 1 0,.di),(.tmp 3,.clo 64 [])]
abbrev T3:AE:=[(.obj 0,.own 45 U2),(.obj 1,.box 1),(.cell 1 0,.di),(.tmp 0,.di)]
abbrev T2:List RS:=[.one]
def AHr[Lk]:Ud→Option (Ud):=JY ((0,(0,())):U1) Ak
def ALZ[Lk](v:Ud):Option (Ud):=KO ((0,(0,())):U1) Ak v
theorem AWN v:ALZ v=AHr v:=AJ _
abbrev ABT:AE:=[(.tmp 0,.own 45 U2),(.tmp 1,.di),(.tmp 2,.di),(.tmp 3,.clo 64 [])]
abbrev ABS:AE:=[(.obj 0,.own 45 U2),(.tmp 0,.di),(.tmp 1,.di)]
abbrev ABR:List RS:=[.one,.one]
def APm[Lk]:Ud→Option (Ud):=MA ((0,(0,())):U1) Ak
def AVR[Lk](v:Ud):Option (Ud):=ABQ ((0,(0,())):U1) Ak v
theorem Ab2 v:AVR v=APm v:=AJ _
abbrev AUy:AE:=[(.tmp 0,.own 45 U2),(.tmp 1,.di),(.tmp 2,.di),(.tmp 3,.clo 64 [])]
abbrev AUx:AE:=[(.obj 0,.own 45 U2)]
abbrev AUw:List RS:=[]
abbrev AZG:AE:=[(.obj 0,.own 45 U2),(.tmp 0,.own' 0),(.tmp 8,.di),(.tmp 9,.di)]
abbrev AZF:At:=[(.exit 0,[(.obj 0,.own 45 U2)])]
def AZE[Lk]:Ud→Option (Ud⊕Ul⊕Unit):=Qo ((0,(0,())):U1) Ak
def AgK[Lk]:Ud→Option (Ul):=AAv ((0,(0,())):U1) Ak
def Amb[Lk](v:Ud):Option (Ul):=AgI ((0,(0,())):U1) Ak v
theorem AkU v:Amb v=AgK v:=AJ _
abbrev PM:AE:=[(.tmp 0,.own 45 U2),(.tmp 1,.di),(.tmp 2,.di),(.tmp 3,.clo 64 [])]
abbrev PL:AE:=[(.obj 0,.own 45 U2),(.tmp 0,.dat .bool)]
abbrev PK:List RS:=[.one]
abbrev XK:AE:=[(.obj 0,.own 45 U2),(.tmp 0,.own' 0),(.tmp 1,.di),(.tmp 2,.di),(.tmp 3,.clo 64 []),(.tmp 9,.di),(.tmp 10,.di),(.tmp 12,.di)]
abbrev XG:At:=[(.exit 6,[(.obj 0,.own 45 U2),(.tmp 0,.own' 0),(.tmp 1,.di),(.tmp 2,.di),(.tmp 3,.clo 64 []),(.tmp 9,.di),(.tmp 10,.di)])]
def XC[Lk]:V2→Option (V2⊕Un⊕Unit):=EU ((0,(0,())):U1) Ak
abbrev XL:AE:=[(.obj 0,.own 45 U2),(.tmp 0,.own' 0),(.tmp 1,.di),(.tmp 2,.di),(.tmp 3,.clo 64 []),(.tmp 9,.di),(.tmp 10,.di),(.tmp 11,.di)]
abbrev XH:At:=[(.exit 4,[(.obj 0,.own 45 U2),(.tmp 0,.own' 0),(.tmp 1,.di),(.tmp 2,.di),(.tmp 3,.clo 64 []),(.tmp 9,.di),(.tmp 10,.di)])]
def XD[Lk]:V2→Option (V2⊕Un⊕Unit):=EV ((0,(0,())):U1) Ak
abbrev XM:AE:=[(.obj 0,.own 45 U2),(.tmp 0,.own' 0),(.tmp 1,.di),(.tmp 2,.di),(.tmp 3,.clo 64 []),(.tmp 9,.di),(.tmp 10,.di)]
abbrev XI:At:=[(.exit 2,[(.obj 0,.own 45 U2),(.tmp 0,.own' 0),(.tmp 1,.di),(.tmp 2,.di),(.tmp 3,.clo 64 []),(.tmp 9,.di),(.tmp 10,.di)])]
def XE[Lk]:Un→Option (Un⊕Un⊕Unit):=GU ((0,(0,())):U1) Ak
abbrev XN:AE:=[(.obj 0,.own 45 U2),(.tmp 0,.own' 0),(.tmp 1,.di),(.tmp 2,.di),(.tmp 3,.clo 64 []),(.tmp 9,.di),(.tmp 10,.di)]
abbrev XJ:At:=[(.ret,[(.obj 0,.own 45 U2),(.tmp 8,.dat .bool)]),(.exit 0,[(.obj 0,.own 45 U2)])]
def XF[Lk]:Un→Option (Un⊕(List U1×Bool×Unit)⊕Ul⊕Unit):=CS ((0,(0,())):U1) Ak
def ABn[Lk]:Ud→Option ((List U1×Bool×Unit)):=HW ((0,(0,())):U1) Ak
def ABo[Lk](v:Ud):Option ((List U1×Bool×Unit)):=MB ((0,(0,())):U1) Ak v
theorem AQY v:ABo v=ABn v:=AJ _
abbrev Te:AE:=[(.tmp 0,.own 45 U2),(.tmp 1,.di),(.tmp 2,.di),(.tmp 3,.di),(.tmp 4,.clo 64 [])]
abbrev Td:AE:=[(.obj 0,.own 45 U2),(.tmp 0,.di)]
abbrev Tc:List RS:=[.one]
abbrev AB5:AE:=[(.obj 0,.own 45 U2),(.tmp 0,.own' 0),(.tmp 1,.di),(.tmp 4,.clo 64 []),(.tmp 11,.di),(.tmp 12,.di)]
abbrev AB2:At:=[(.exit 4,[(.obj 0,.own 45 U2),(.tmp 0,.own' 0),(.tmp 1,.di),(.tmp 4,.clo 64 []),(.tmp 11,.di),(.tmp 12,.di)])]
def ABz[Lk]:U9→Option (U9⊕U9⊕Unit):=HX ((0,(0,())):U1) Ak
abbrev AB6:AE:=[(.obj 0,.own 45 U2),(.tmp 0,.own' 0),(.tmp 1,.di),(.tmp 4,.clo 64 []),(.tmp 11,.di),(.tmp 12,.di)]
abbrev AB3:At:=[(.exit 2,[(.obj 0,.own 45 U2),(.tmp 0,.own' 0),(.tmp 1,.di),(.tmp 4,.clo 64 []),(.tmp 11,.di),(.tmp 12,.di)])]
def AB0[Lk]:U9→Option (U9⊕U9⊕Unit):=HY ((0,(0,())):U1) Ak
abbrev AB7:AE:=[(.obj 0,.own 45 U2),(.tmp 0,.own' 0),(.tmp 1,.di),(.tmp 4,.clo 64 []),(.tmp 11,.di),(.tmp 12,.di)]
abbrev AB4:At:=[(.exit 0,[(.obj 0,.own 45 U2),(.tmp 11,.di)])]
def AB1[Lk]:U9→Option (U9⊕(List U1×Int×Unit)⊕Unit):=HZ ((0,(0,())):U1) Ak
def AHg[Lk]:U9→Option ((List U1×Int×Unit)):=JT ((0,(0,())):U1) Ak
def AK8[Lk](v:U9):Option ((List U1×Int×Unit)):=Qz ((0,(0,())):U1) Ak v
theorem AVu v:AK8 v=AHg v:=AJ _
abbrev ALB:AE:=[(.tmp 0,.own 45 U2),(.tmp 1,.di),(.tmp 2,.di),(.tmp 3,.di),(.tmp 4,.clo 64 [])]
abbrev ALA:AE:=[(.obj 0,.own 45 U2),(.tmp 0,.di),(.tmp 1,.dat .bool)]
abbrev AK9:List RS:=[.one,.one]
abbrev AQv:AE:=[(.obj 0,.own 45 U2),(.tmp 0,.own' 0),(.tmp 1,.di),(.tmp 4,.clo 64 []),(.tmp 12,.di),(.tmp 13,.di)]
abbrev AQq:At:=[(.exit 8,[(.obj 0,.own 45 U2),(.tmp 0,.own' 0),(.tmp 1,.di),(.tmp 4,.clo 64 []),(.tmp 12,.di),(.tmp 13,.di)])]
def AQh[Lk]:U9→Option (U9⊕U9⊕Unit):=MC ((0,(0,())):U1) Ak
abbrev AQw:AE:=[(.obj 0,.own 45 U2),(.tmp 0,.own' 0),(.tmp 1,.di),(.tmp 4,.clo 64 []),(.tmp 12,.di),(.tmp 13,.di)]
abbrev AQr:At:=[(.exit 6,[(.obj 0,.own 45 U2),(.tmp 0,.own' 0),(.tmp 1,.di),(.tmp 4,.clo 64 []),(.tmp 12,.di),(.tmp 13,.di)])]
def AQj[Lk]:U9→Option (U9⊕U9⊕Unit):=MD ((0,(0,())):U1) Ak
abbrev AQx:AE:=[(.obj 0,.own 45 U2),(.tmp 0,.own' 0),(.tmp 1,.di),(.tmp 4,.clo 64 []),(.tmp 12,.di),(.tmp 13,.di)]
abbrev AQs:At:=[(.exit 4,[(.obj 0,.own 45 U2),(.tmp 0,.own' 0),(.tmp 1,.di),(.tmp 13,.di)])]
def AQl[Lk]:U9→Option (U9⊕Ud⊕Unit):=ME ((0,(0,())):U1) Ak
abbrev AQy:AE:=[(.obj 0,.own 45 U2),(.tmp 0,.own' 0),(.tmp 1,.di),(.tmp 4,.clo 64 []),(.tmp 12,.di),(.tmp 13,.di)]
abbrev AQt:At:=[(.exit 2,[(.obj 0,.own 45 U2),(.tmp 0,.own' 0),(.tmp 1,.di),(.tmp 4,.clo 64 []),(.tmp 12,.di),(.tmp 13,.di)])]
def AQn[Lk]:U9→Option (U9⊕U9⊕Unit):=MF ((0,(0,())):U1) Ak
abbrev AQz:AE:=[(.obj 0,.own 45 U2),(.tmp 0,.own' 0),(.tmp 1,.di),(.tmp 4,.clo 64 []),(.tmp 12,.di),(.tmp 13,.di)]
abbrev AQu:At:=[(.exit 0,[(.obj 0,.own 45 U2),(.tmp 0,.own' 0),(.tmp 1,.di),(.tmp 4,.clo 64 []),(.tmp 12,.di),(.tmp 13,.di)])]
def AQp[Lk]:U9→Option (U9⊕U9⊕Unit):=MG ((0,(0,())):U1) Ak
def AZT[Lk]:U9→Option ((List U1×Int×Bool×Unit)):=Qy ((0,(0,())):U1) Ak
def AhK[Lk](v:U9):Option ((List U1×Int×Bool×Unit)):=ABp ((0,(0,())):U1) Ak v
theorem AhJ v:AhK v=AZT v:=AJ _
abbrev ABb:AE:=[(.tmp 0,.own 45 U2),(.tmp 1,.di),(.tmp 2,.di),(.tmp 3,.di),(.tmp 4,.clo 64 [])]
abbrev ABa:AE:=[(.obj 0,.own 45 U2)]
abbrev ABZ:List RS:=[]
abbrev AZR:AE:=[(.obj 0,.own 45 U2),(.tmp 0,.own' 0),(.tmp 1,.di),(.tmp 2,.di),(.tmp 3,.di),(.tmp 4,.clo 64 []),(.tmp 10,.dat .bool),(.tmp 11,.dat .bool)]
abbrev AZQ:At:=[(.ret,[(.obj 0,.own 45 U2)])]
def AZP[Lk](self:U9→Option (Ul)):(List U1×Int×Int×Int×Bool×Bool×Unit)→Option ((List U1×Int×Int×Int×Bool×Bool×Unit)⊕Ul⊕Unit):=NV ((0,(0,())):U1) Ak self
def Amo[Lk](self:U9→Option (Ul)):U9→Option (Ul):=ABY ((0,(0,())):U1) Ak self
def ABc[Lk]:Nat→U9→Option (Ul):=KE ((0,(0,())):U1) Ak
def Akj[Lk](v:U9):Option (Ul):=Agu ((0,(0,())):U1) Ak v
theorem Aki v:Akj v=ABc 100 v:=AJ _
abbrev AKA:AE:=[(.tmp 0,.own 45 U2),(.tmp 1,.clo 64 [])]
abbrev AJ9:AE:=[(.obj 0,.own 45 U2)]
abbrev AJ8:List RS:=[]
def AY6[Lk]:Ul→Option (Ul):=Qb ((0,(0,())):U1) Ak
def AOr[Lk](v:Ul):Option (Ul):=AY5 ((0,(0,())):U1) Ak v
theorem Afl v:AOr v=AY6 v:=AJ _
abbrev AW8:AE:=[(.tmp 0,.dat Uz),(.tmp 1,.dat Uy)]
abbrev AW7:AE:=[(.tmp 0,.own 45 U2),(.tmp 1,.di)]
abbrev AW6:List RS:=[.one,.one]
abbrev AZ5:AE:=[(.tmp 2,.box 2),(.cell 0 0,.di),(.cell 0 1,.dat Vb),(.tmp 6,.map U2 U0),(.tmp 9,.own 45 U2),(.tmp 26,.dat Uy),(.tmp 27,.di),(.tmp 28,.di)]
abbrev AZ3:At:=[(.ret,[(.tmp 4,.nil U2),(.tmp 5,.di)]),(.exit 2,[(.tmp 9,.own 45 U2)])]
def IS[Lk]:(Int×List U3×List Va×List U1×List U1×Int×Int×Unit)→Option ((Int×List U3×List Va×List U1×List U1×Int×Int×Unit)⊕Ua⊕Ul⊕Unit):=fun(a0,a1,a2,a3,a4,a5,a6,_)=>
 match(ilt a6 a5)with
 |true=>match idx a4 a6 with|none=>none|some x0=>match(ilt (B5 x0.1 x0.2.1) 0)with
  |true=>some (.inr (.inl (10,())))
  |false=>match(ile a0 (imax x0.1 x0.2.1))with
  |true=>some (.inr (.inl (10,())))
  |false=>match(ilt (B5 x0.1 x0.2.1) (imax x0.1 x0.2.1))with
  |true=>match(ieq ((AR a2 ((B5 x0.1 x0.2.1),((imax x0.1 x0.2.1),()))).getD 0) 0)with
   |true=>match(fits ((AN a3)+(AN ([((B5 x0.1 x0.2.1),((imax x0.1 x0.2.1),()))]:List U1))))with
    |true=>some (.inl (a0,a1,(Ad a2 ((B5 x0.1 x0.2.1),((imax x0.1 x0.2.1),())) 1),(BV a3 ([((B5 x0.1 x0.2.1),((imax x0.1 x0.2.1),()))]:List U1)),a4,a5,(IntKind.wrap .i64 (a6+1)),()))
    |false=>none
   |false=>some (.inl (a0,a1,a2,a3,a4,a5,(IntKind.wrap .i64 (a6+1)),()))
  |false=>some (.inl (a0,a1,a2,a3,a4,a5,(IntKind.wrap .i64 (a6+1)),()))
 |false=>some (.inr (.inr (.inl (a3,()))))
abbrev AZ6:AE:=[(.tmp 1,.dat Uy),(.tmp 2,.box 2),(.cell 0 0,.di),(.cell 0 1,.dat Vb),(.tmp 6,.map U2 U0),(.tmp 17,.own 45 U2),(.tmp 18,.di),(.tmp 19,.di)]
abbrev AZ4:At:=[(.exit 0,[(.tmp 1,.dat Uy),(.tmp 2,.box 2),(.cell 0 0,.di),(.cell 0 1,.dat Vb),(.tmp 6,.map U2 U0)])]
def IT[Lk]:(List U1×Int×List U3×List Va×List U1×Int×Int×Unit)→Option ((List U1×Int×List U3×List Va×List U1×Int×Int×Unit)⊕(List U1×Int×List U3×List Va×Unit)⊕Unit):=fun(a0,a1,a2,a3,a4,a5,a6,_)=>
 match(ilt a6 a5)with
 |true=>match idx a4 a6 with|none=>none|some x0=>some (.inl (a0,a1,a2,(Ad a3 ((AW a4 (AM a6) (0,(0,()))).1,((AW a4 (AM a6) (0,(0,()))).2.1,())) 1),a4,a5,(IntKind.wrap .i64 (a6+1)),()))
 |false=>some (.inr (.inl (a0,a1,a2,a3,())))
def AL9[Lk]:(V7×List U1×Unit)→Option ((List U1×Int×Unit)):=fun(a0,a1,_)=>
 match FY ((a0.1,(a0.2.1,())),())with|none=>none|some (y0,_)=>match(!y0)with
 |true=>some (([]:List U1),1,())
 |false=>match UA ((a0.1,(a0.2.1,())),())with|none=>none|some (y1,_)=>match AX IT many (a1,a0.1,a0.2.1,([]:List Va),y1,(AN y1),0,())with|none=>none|some r=>match r with
 |.inl (o2,o3,o4,o5,_)=>match AX IS many (o3,o4,o5,([]:List U1),o2,(AN o2),0,())with|none=>none|some r=>match r with
  |.inl (o6,_)=>some (([]:List U1),o6,())
  |.inr r=>match r with
  |.inl (o7,_)=>match AOr (o7,())with|none=>none|some (y8,_)=>some (y8,0,())
  |.inr _=>none
 |.inr _=>none
def AiR[Lk]:=fun v=>Lk.f (AL9 v)
theorem AZ7 v:AiR v=AL9 v:=AJ _
abbrev AJR:AE:=[(.tmp 0,.di)]
abbrev AJQ:AE:=[(.tmp 0,.dat .bool)]
abbrev AJP:List RS:=[.one]
def Yf[Lk]:Ua→Option (Uj):=fun(a0,_)=>
 some ((ieq a0 (IntKind.wrap .i64 (IntKind.wrap .u16 a0))),())
def Wk[Lk]:=fun v=>Lk.f (Yf v)
theorem AOC v:Wk v=Yf v:=AJ _
abbrev ZP:AE:=[(.tmp 0,.di)]
abbrev ZO:AE:=[(.tmp 0,.dat .bool)]
abbrev ZN:List RS:=[.one]
def QM[Lk]:Ua→Option (Uj):=fun(a0,_)=>
 match(ile 1 a0)with
 |true=>some ((ile a0 4),())
 |false=>some (false,())
def ZQ[Lk]:=fun v=>Lk.f (QM v)
theorem AGp v:ZQ v=QM v:=AJ _
abbrev Ka:AE:=[(.tmp 0,.dat Uy),(.tmp 1,.clo 50 [])]
abbrev KZ:AE:=[(.tmp 0,.di)]
abbrev KY:List RS:=[.one]
abbrev OM:AE:=[(.tmp 0,.dat Uy),(.tmp 1,.clo 50 []),(.tmp 7,.di),(.tmp 8,.di)]
abbrev OL:At:=[(.ret,[(.tmp 4,.di)]),(.exit 0,[])]
def Cd[Lk]:Ud→Option (Ud⊕Ua⊕(Unit)⊕Unit):=fun(a0,a1,a2,_)=>
 match(ilt a2 a1)with
 |true=>match idx a0 a2 with|none=>none|some x0=>match Wk (x0.1,())with|none=>none|some (y1,_)=>match(!y1)with
  |true=>some (.inr (.inl (a2,())))
  |false=>match Wk (x0.2.1,())with|none=>none|some (y2,_)=>match(!y2)with
  |true=>some (.inr (.inl (a2,())))
  |false=>some (.inl (a0,a1,(IntKind.wrap .i64 (a2+1)),()))
 |false=>some (.inr (.inr (.inl ())))
def G0[Lk]:Ul→Option (Ua):=fun(a0,_)=>
 match AX Cd many (a0,(AN a0),0,())with|none=>none|some r=>match r with
 |.inl (o0,_)=>some (o0,())
 |.inr r=>match r with
 |.inl _=>some ((-1:Int),())
 |.inr _=>none
def Kc[Lk]:=fun v=>Lk.f (G0 v)
theorem ON v:Kc v=G0 v:=AJ _
abbrev I6:AE:=[(.tmp 0,.dat Uy),(.tmp 1,.clo 50 [])]
abbrev I5:AE:=[(.tmp 0,.dat .bool)]
abbrev I4:List RS:=[.one]
def GN[Lk]:Ul→Option (Uj):=fun(a0,_)=>
 match Kc (a0,())with|none=>none|some (y0,_)=>some ((ile 0 y0),())
def DR[Lk]:=fun v=>Lk.f (GN v)
theorem Mg v:DR v=GN v:=AJ _
abbrev Kk:AE:=[(.tmp 0,.dat (.slice Uw)),(.tmp 1,.clo 53 [])]
abbrev Kj:AE:=[(.tmp 0,.di)]
abbrev Ki:List RS:=[.one]
abbrev OS:AE:=[(.tmp 0,.dat (.slice Uw)),(.tmp 1,.clo 53 []),(.tmp 7,.di),(.tmp 8,.di)]
abbrev OR:At:=[(.ret,[(.tmp 4,.di)]),(.exit 0,[])]
def Ce[Lk]:(List Ub×Int×Int×Unit)→Option ((List Ub×Int×Int×Unit)⊕Ua⊕(Unit)⊕Unit):=fun(a0,a1,a2,_)=>
 match(ilt a2 a1)with
 |true=>match idx a0 a2 with|none=>none|some x0=>match ZQ (x0.1,())with|none=>none|some (y1,_)=>match(!y1)with
  |true=>some (.inr (.inl (a2,())))
  |false=>match Wk (x0.2.1,())with|none=>none|some (y2,_)=>match(!y2)with
  |true=>some (.inr (.inl (a2,())))
  |false=>match Wk (x0.2.2.1,())with|none=>none|some (y3,_)=>match(!y3)with
  |true=>some (.inr (.inl (a2,())))
  |false=>some (.inl (a0,a1,(IntKind.wrap .i64 (a2+1)),()))
 |false=>some (.inr (.inr (.inl ())))
def G2[Lk]:(List Ub×Unit)→Option (Ua):=fun(a0,_)=>
 match AX Ce many (a0,(AN a0),0,())with|none=>none|some r=>match r with
 |.inl (o0,_)=>some (o0,())
 |.inr r=>match r with
 |.inl _=>some ((-1:Int),())
 |.inr _=>none
def Km[Lk]:=fun v=>Lk.f (G2 v)
theorem OT v:Km v=G2 v:=AJ _
abbrev I9:AE:=[(.tmp 0,.dat (.slice Uw)),(.tmp 1,.clo 53 [])]
abbrev I8:AE:=[(.tmp 0,.dat .bool)]
abbrev I7:List RS:=[.one]
def GO[Lk]:(List Ub×Unit)→Option (Uj):=fun(a0,_)=>
 match Km (a0,())with|none=>none|some (y0,_)=>some ((ile 0 y0),())
def Gc[Lk]:=fun v=>Lk.f (GO v)
theorem Mh v:Gc v=GO v:=AJ _
abbrev ZL:AE:=[(.tmp 0,.dat Uk)]
abbrev ZK:AE:=[(.tmp 0,.dat .bool)]
abbrev ZJ:List RS:=[.one]
def QL[Lk]:(Us×Unit)→Option (Uj):=fun(a0,_)=>
 match(ieq a0.1 1)with
 |true=>match(ieq (AN a0.2.2.1) 0)with
  |true=>match(ile (AN a0.2.1) 60)with
   |true=>match DR (a0.2.1,())with|none=>none|some (y0,_)=>some ((!y0),())
   |false=>some (false,())
  |false=>some (false,())
 |false=>match(ieq a0.1 2)with
 |true=>match(ieq (AN a0.2.2.1) 0)with
  |true=>match(ile (AN a0.2.1) 60)with
   |true=>match DR (a0.2.1,())with|none=>none|some (y1,_)=>some ((!y1),())
   |false=>some (false,())
  |false=>some (false,())
 |false=>match(ieq a0.1 3)with
 |true=>match(ieq (AN a0.2.1) 0)with
  |true=>match(ile (AN a0.2.2.1) 60)with
   |true=>match Gc (a0.2.2.1,())with|none=>none|some (y2,_)=>some ((!y2),())
   |false=>some (false,())
  |false=>some (false,())
 |false=>some (false,())
def ZM[Lk]:=fun v=>Lk.f (QL v)
theorem AGo v:ZM v=QL v:=AJ _
end
end Go.Pev
end
section
namespace Go.Pev
noncomputable section
attribute [local irreducible] OV Ks N3 OC Ah3 Ah4 Ah6 Qr AFn Qd YD K2 Aj many IntKind.wrap AN Az AW BV Bu Fv Du AM Br B5 imax AR Ad
abbrev ADK:AE:=[(.tmp 0,.dat Uy),(.tmp 1,.dat Uy)]
abbrev ADJ:AE:=[(.tmp 0,.dat .bool)]
abbrev ADI:List RS:=[.one]
abbrev AIK:AE:=[(.tmp 0,.dat Uy),(.tmp 1,.dat Uy),(.tmp 12,.di),(.tmp 13,.di)]
abbrev AIJ:At:=[(.ret,[(.tmp 4,.dat .bool)]),(.exit 0,[])]
def US[Lk]:(List U1×List U1×Int×Int×Unit)→Option ((List U1×List U1×Int×Int×Unit)⊕Uj⊕(Unit)⊕Unit):=fun(a0,a1,a2,a3,_)=>
 match(ilt a3 a2)with
 |true=>match idx a0 a3 with|none=>none|some x0=>match idx a1 a3 with|none=>none|some x1=>match(!(ieq x0.1 x1.1&&(ieq x0.2.1 x1.2.1&&true)))with
  |true=>some (.inr (.inl (false,())))
  |false=>some (.inl (a0,a1,a2,(IntKind.wrap .i64 (a3+1)),()))
 |false=>some (.inr (.inr (.inl ())))
def ADM[Lk]:(List U1×List U1×Unit)→Option (Uj):=fun(a0,a1,_)=>
 match(!(ieq (AN a0) (AN a1)))with
 |true=>some (false,())
 |false=>match AX US many (a0,a1,(AN a0),0,())with|none=>none|some r=>match r with
 |.inl (o0,_)=>some (o0,())
 |.inr r=>match r with
 |.inl _=>some (true,())
 |.inr _=>none
def AMN[Lk]:=fun v=>Lk.f (ADM v)
theorem Adj v:AMN v=ADM v:=AJ _
abbrev ADP:AE:=[(.tmp 0,.dat (.slice Uw)),(.tmp 1,.dat (.slice Uw))]
abbrev ADO:AE:=[(.tmp 0,.dat .bool)]
abbrev ADN:List RS:=[.one]
abbrev AIM:AE:=[(.tmp 0,.dat (.slice Uw)),(.tmp 1,.dat (.slice Uw)),(.tmp 12,.di),(.tmp 13,.di)]
abbrev AIL:At:=[(.ret,[(.tmp 4,.dat .bool)]),(.exit 0,[])]
def UT[Lk]:(List Ub×List Ub×Int×Int×Unit)→Option ((List Ub×List Ub×Int×Int×Unit)⊕Uj⊕(Unit)⊕Unit):=fun(a0,a1,a2,a3,_)=>
 match(ilt a3 a2)with
 |true=>match idx a0 a3 with|none=>none|some x0=>match idx a1 a3 with|none=>none|some x1=>match(!(ieq x0.1 x1.1&&(ieq x0.2.1 x1.2.1&&(ieq x0.2.2.1 x1.2.2.1&&true))))with
  |true=>some (.inr (.inl (false,())))
  |false=>some (.inl (a0,a1,a2,(IntKind.wrap .i64 (a3+1)),()))
 |false=>some (.inr (.inr (.inl ())))
def ADR[Lk]:(List Ub×List Ub×Unit)→Option (Uj):=fun(a0,a1,_)=>
 match(!(ieq (AN a0) (AN a1)))with
 |true=>some (false,())
 |false=>match AX UT many (a0,a1,(AN a0),0,())with|none=>none|some r=>match r with
 |.inl (o0,_)=>some (o0,())
 |.inr r=>match r with
 |.inl _=>some (true,())
 |.inr _=>none
def equalA[Lk]:=fun v=>Lk.f (ADR v)
theorem Adm v:equalA v=ADR v:=AJ _
abbrev AJK:AE:=[(.tmp 0,.dat Uk),(.tmp 1,.dat Uk)]
abbrev AJJ:AE:=[(.tmp 0,.dat .bool)]
abbrev AJI:List RS:=[.one]
def AJL[Lk]:(Us×Us×Unit)→Option (Uj):=fun(a0,a1,_)=>
 match(ieq a0.1 a1.1)with
 |true=>match AMN (a0.2.1,a1.2.1,())with|none=>none|some (y0,_)=>match y0 with
  |true=>match equalA (a0.2.2.1,a1.2.2.1,())with|none=>none|some (y1,_)=>some (y1,())
  |false=>some (false,())
 |false=>some (false,())
def AYr[Lk]:=fun v=>Lk.f (AJL v)
theorem Aex v:AYr v=AJL v:=AJ _
abbrev AEk:AE:=[(.tmp 0,.dat Uw)]
abbrev AEj:AE:=[(.tmp 0,.own 3 U0)]
abbrev AEi:List RS:=[.one]
def Rq[Lk]:(Ub×Unit)→Option (Up):=fun(a0,_)=>
 match(ieq a0.1 1)with
 |true=>some (([a0.2.1,a0.2.2.1]:List (Int)),())
 |false=>match(ieq a0.1 2)with
 |true=>some (([a0.2.1]:List (Int)),())
 |false=>match(ieq a0.1 3)with
 |true=>some (([a0.2.1]:List (Int)),())
 |false=>some (([]:List (Int)),())
def AEl[Lk]:=fun v=>Lk.f (Rq v)
theorem AIx v:AEl v=Rq v:=AJ _
abbrev ANN:AE:=[(.tmp 0,.dat Uk)]
abbrev ANM:AE:=[(.tmp 0,.own 3 U0)]
abbrev ANL:List RS:=[.one]
abbrev ATC:AE:=[(.tmp 3,.own 3 U0),(.tmp 24,.dat (.slice Uw)),(.tmp 25,.di),(.tmp 26,.di)]
abbrev ATA:At:=[(.exit 2,[(.tmp 3,.own 3 U0)])]
def Hs[Lk]:(List Int×List Ub×Int×Int×Unit)→Option ((List Int×List Ub×Int×Int×Unit)⊕Up⊕Unit):=fun(a0,a1,a2,a3,_)=>
 match(ilt a3 a2)with
 |true=>match idx a1 a3 with|none=>none|some x0=>match AEl ((x0.1,(x0.2.1,(x0.2.2.1,()))),())with|none=>none|some (y1,_)=>match(fits ((AN a0)+(AN y1)))with
  |true=>some (.inl ((BV a0 y1),a1,a2,(IntKind.wrap .i64 (a3+1)),()))
  |false=>none
 |false=>some (.inr (.inl (a0,())))
abbrev ATD:AE:=[(.tmp 1,.box 3),(.cell 0 0,.di),(.cell 0 1,.dat Uy),(.cell 0 2,.dat (.slice Uw)),(.tmp 3,.own 3 U0),(.tmp 9,.dat Uy),(.tmp 10,.di),(.tmp 11,.di)]
abbrev ATB:At:=[(.exit 0,[(.tmp 1,.box 3),(.cell 0 0,.di),(.cell 0 1,.dat Uy),(.cell 0 2,.dat (.slice Uw)),(.tmp 3,.own 3 U0)])]
def Ht[Lk]:(Int×List U1×List Ub×List Int×List U1×Int×Int×Unit)→Option ((Int×List U1×List Ub×List Int×List U1×Int×Int×Unit)⊕(Int×List U1×List Ub×List Int×Unit)⊕Unit):=fun(a0,a1,a2,a3,a4,a5,a6,_)=>
 match(ilt a6 a5)with
 |true=>match idx a4 a6 with|none=>none|some x0=>match(fits ((AN a3)+(AN ([x0.1,x0.2.1]:List (Int)))))with
  |true=>some (.inl (a0,a1,a2,(BV a3 ([x0.1,x0.2.1]:List (Int))),a4,a5,(IntKind.wrap .i64 (a6+1)),()))
  |false=>none
 |false=>some (.inr (.inl (a0,a1,a2,a3,())))
def Y7[Lk]:(Us×Unit)→Option (Up):=fun(a0,_)=>
 match AX Ht many (a0.1,a0.2.1,a0.2.2.1,([]:List (Int)),a0.2.1,(AN a0.2.1),0,())with|none=>none|some r=>match r with
 |.inl (o0,o1,o2,o3,_)=>match AX Hs many (o3,o2,(AN o2),0,())with|none=>none|some r=>match r with
  |.inl (o4,_)=>some (o4,())
  |.inr _=>none
 |.inr _=>none
def AIs[Lk]:=fun v=>Lk.f (Y7 v)
theorem ATE v:AIs v=Y7 v:=AJ _
abbrev ANY:AE:=[(.tmp 0,.dat Uz)]
abbrev ANX:AE:=[(.tmp 0,.di)]
abbrev ANW:List RS:=[.one]
def Y9[Lk]:(V7×Unit)→Option (Ua):=fun(a0,_)=>
 match FY ((a0.1,(a0.2.1,())),())with|none=>none|some (y0,_)=>match(!y0)with
 |true=>some (0,())
 |false=>some ((IntKind.wrap .i64 (400-(AN a0.2.1))),())
def AIw[Lk]:=fun v=>Lk.f (Y9 v)
theorem ATG v:AIw v=Y9 v:=AJ _
abbrev ANT:AE:=[(.tmp 0,.dat Uk),(.tmp 1,.dat Uk)]
abbrev ANS:AE:=[(.tmp 0,.dat .bool)]
abbrev ANR:List RS:=[.one]
def ANU[Lk]:(Us×Us×Unit)→Option (Uj):=fun(a0,a1,_)=>
 match AYr ((a0.1,(a0.2.1,(a0.2.2.1,()))),(a1.1,(a1.2.1,(a1.2.2.1,()))),())with|none=>none|some (y0,_)=>some (y0,())
def AaM[Lk]:=fun v=>Lk.f (ANU v)
theorem AjU v:AaM v=ANU v:=AJ _
abbrev AMg:AE:=[(.tmp 0,.di)]
abbrev AMf:AE:=[(.tmp 0,.dat .bool)]
abbrev AMe:List RS:=[.one]
def Y1[Lk]:Ua→Option (Uj):=fun(a0,_)=>
 match(ile 0 a0)with
 |true=>some ((ilt a0 65536),())
 |false=>some (false,())
def AIV[Lk]:=fun v=>Lk.f (Y1 v)
theorem ASK v:AIV v=Y1 v:=AJ _
abbrev AXj:AE:=[(.tmp 0,.dat U2)]
abbrev AXi:AE:=[(.tmp 0,.dat Ue),(.tmp 1,.dat .bool)]
abbrev AXh:List RS:=[.one,.one]
def AMb[Lk]:(U1×Unit)→Option ((Int×Bool×Unit)):=fun(a0,_)=>
 match AIV (a0.1,())with|none=>none|some (y0,_)=>match(!y0)with
 |true=>some (0,false,())
 |false=>match AIV (a0.2.1,())with|none=>none|some (y1,_)=>match(!y1)with
 |true=>some (0,false,())
 |false=>match shl? .u32 (IntKind.wrap .u32 (B5 a0.1 a0.2.1)) 16 with|none=>none|some x2=>some ((IntKind.wrap .u32 ((BitVec.ofInt (IntKind.bits .u32) x2 ||| BitVec.ofInt (IntKind.bits .u32) (IntKind.wrap .u32 (imax a0.1 a0.2.1))).toNat)),true,())
def Aiu[Lk]:=fun v=>Lk.f (AMb v)
theorem AaF v:Aiu v=AMb v:=AJ _
abbrev AMn:AE:=[(.tmp 0,.dat Ue)]
abbrev AMm:AE:=[(.tmp 0,.dat U2)]
abbrev AMl:List RS:=[.one]
def Y2[Lk]:Ua→Option ((U1×Unit)):=fun(a0,_)=>
 match shr? .u32 a0 16 with|none=>none|some x0=>some (((IntKind.wrap .i64 x0),((IntKind.wrap .i64 (IntKind.wrap .u16 a0)),())),())
def ASP[Lk]:=fun v=>Lk.f (Y2 v)
theorem ASO v:ASP v=Y2 v:=AJ _
abbrev VK:AE:=[(.tmp 0,.dat V0)]
abbrev VJ:AE:=[(.tmp 0,.own 4 .bool)]
abbrev VI:List RS:=[.one]
abbrev ADp:AE:=[(.tmp 0,.dat V0),(.tmp 3,.own 4 .bool),(.tmp 9,.dat V0),(.tmp 10,.di),(.tmp 11,.di)]
abbrev ADo:At:=[(.exit 0,[(.tmp 3,.own 4 .bool)])]
def EH[Lk]:(List Int×List Bool×List Int×Int×Int×Unit)→Option ((List Int×List Bool×List Int×Int×Int×Unit)⊕(List Bool×Unit)⊕Unit):=fun(a0,a1,a2,a3,a4,_)=>
 match(ilt a4 a3)with
 |true=>match idx a2 a4 with|none=>none|some x0=>match(ieq a4 0)with
  |true=>match idx a1 a4 with|none=>none|some x1=>some (.inl (a0,(Az a1 (AM a4) true),a2,a3,(IntKind.wrap .i64 (a4+1)),()))
  |false=>match idx a0 (IntKind.wrap .i64 (a4-1))with|none=>none|some x2=>match idx a1 a4 with|none=>none|some x3=>some (.inl (a0,(Az a1 (AM a4) (!(ieq x2 x0))),a2,a3,(IntKind.wrap .i64 (a4+1)),()))
 |false=>some (.inr (.inl (a1,())))
def Nm[Lk]:Up→Option ((List Bool×Unit)):=fun(a0,_)=>
 match(CK (AN a0)&&CK (AN a0)&&ile (AN a0) (AN a0)&&true)with
 |true=>match AX EH many (a0,(Du (AM (AN a0)) false),a0,(AN a0),(0:Int),())with|none=>none|some r=>match r with
  |.inl (o0,_)=>some (o0,())
  |.inr _=>none
 |false=>none
def Rc[Lk]:=fun v=>Lk.f (Nm v)
theorem ADq v:Rc v=Nm v:=AJ _
abbrev TT:AE:=[(.tmp 0,.di)]
abbrev TS:AE:=[(.tmp 0,.di)]
abbrev TR:List RS:=[.one]
def JO[Lk]:Ua→Option (Ua):=fun(a0,_)=>
 match(ilt a0 1)with
 |true=>some (0,())
 |false=>match(ilt 16 a0)with
 |true=>some (0,())
 |false=>match quo? .i64 (IntKind.wrap .i64 ((IntKind.wrap .i64 (32+a0))-1)) a0 with|none=>none|some x0=>some (x0,())
def KA[Lk]:=fun v=>Lk.f (JO v)
theorem O9 v:KA v=JO v:=AJ _
abbrev AAd:AE:=[(.tmp 0,.di),(.tmp 1,.di)]
abbrev AAc:AE:=[(.tmp 0,.dat .bool)]
abbrev AAb:List RS:=[.one]
def Qi[Lk]:U1→Option (Uj):=fun(a0,a1,_)=>
 match(ile 0 a0)with
 |true=>match KA (a1,())with|none=>none|some (y0,_)=>some ((ilt a0 y0),())
 |false=>some (false,())
def AAe[Lk]:=fun v=>Lk.f (Qi v)
theorem AHN v:AAe v=Qi v:=AJ _
abbrev AAz:AE:=[(.tmp 0,.dat Ue),(.tmp 1,.di),(.tmp 2,.di)]
abbrev AAy:AE:=[(.tmp 0,.dat Ue)]
abbrev AAx:List RS:=[.one]
def Qq[Lk]:Ub→Option (Ua):=fun(a0,a1,a2,_)=>
 match AAe (a1,a2,())with|none=>none|some (y0,_)=>match(!y0)with
 |true=>some (0,())
 |false=>match shr? .u32 a0 (IntKind.wrap .u64 (IntKind.wrap .i64 (a1*a2)))with|none=>none|some x1=>match shl? .u32 1 (IntKind.wrap .u64 a2)with|none=>none|some x2=>some ((IntKind.wrap .u32 ((BitVec.ofInt (IntKind.bits .u32) x1 &&& BitVec.ofInt (IntKind.bits .u32) (IntKind.wrap .u32 (x2-1))).toNat)),())
def PB[Lk]:=fun v=>Lk.f (Qq v)
theorem AHT v:PB v=Qq v:=AJ _
abbrev AKa:AE:=[(.tmp 0,.dat U7),(.tmp 1,.di)]
abbrev AKZ:AE:=[(.tmp 0,.dat .bool)]
abbrev AKY:List RS:=[.one]
abbrev APU:AE:=[(.tmp 0,.dat U7),(.tmp 1,.di),(.tmp 5,.map U0 U0),(.tmp 9,.dat U7),(.tmp 10,.di),(.tmp 11,.di)]
abbrev APT:At:=[(.ret,[(.tmp 4,.dat .bool)]),(.exit 0,[(.tmp 0,.dat U7),(.tmp 1,.di)])]
def HU[Lk]:(List Int×Int×List Ux×List Int×Int×Int×Unit)→Option ((List Int×Int×List Ux×List Int×Int×Int×Unit)⊕Uj⊕Vf⊕Unit):=fun(a0,a1,a2,a3,a4,a5,_)=>
 match(ilt a5 a4)with
 |true=>match idx a3 a5 with|none=>none|some x0=>match(ilt x0 0)with
  |true=>some (.inr (.inl (false,())))
  |false=>match(ile a1 x0)with
  |true=>some (.inr (.inl (false,())))
  |false=>match(ilt 1 ((AR (Ad a2 x0 (IntKind.wrap .i64 (((AR a2 x0).getD 0)+1))) x0).getD 0))with
  |true=>some (.inr (.inl (false,())))
  |false=>some (.inl (a0,a1,(Ad a2 x0 (IntKind.wrap .i64 (((AR a2 x0).getD 0)+1))),a3,a4,(IntKind.wrap .i64 (a5+1)),()))
 |false=>some (.inr (.inr (.inl (a0,a1,()))))
def Yn[Lk]:Vf→Option (Uj):=fun(a0,a1,_)=>
 match AX HU many (a0,a1,([]:List Ux),a0,(AN a0),0,())with|none=>none|some r=>match r with
 |.inl (o0,_)=>some (o0,())
 |.inr r=>match r with
 |.inl (o1,o2,_)=>some ((ieq (AN o1) o2),())
 |.inr _=>none
def APW[Lk]:=fun v=>Lk.f (Yn v)
theorem APV v:APW v=Yn v:=AJ _
abbrev AgZ:AE:=[(.tmp 0,.dat V0),(.tmp 1,.dat U7),(.tmp 2,.di),(.tmp 3,.di)]
abbrev AgV:AE:=[(.tmp 0,.own 3 U0)]
abbrev AgR:List RS:=[.one]
abbrev AgW:AE:=[(.tmp 0,.dat V0),(.tmp 2,.di),(.tmp 3,.di),(.tmp 9,.own 3 U0),(.tmp 13,.own 3 U0),(.tmp 63,.dat U7),(.tmp 64,.di),(.tmp 65,.di)]
abbrev AgS:At:=[(.exit 4,[(.tmp 13,.own 3 U0)])]
def PC[Lk]:(List Int×Int×Int×List Int×List Int×List Int×Int×Int×Unit)→Option ((List Int×Int×Int×List Int×List Int×List Int×Int×Int×Unit)⊕Up⊕Unit):=fun(a0,a1,a2,a3,a4,a5,a6,a7,_)=>
 match(ilt a7 a6)with
 |true=>match idx a5 a7 with|none=>none|some x0=>match idx a0 x0 with|none=>none|some x1=>match PB (x1,a1,a2,())with|none=>none|some (y2,_)=>match idx a3 y2 with|none=>none|some x3=>match idx a4 (AW a3 (AM y2) 0)with|none=>none|some x4=>match idx a3 y2 with|none=>none|some x5=>match idx a3 y2 with|none=>none|some x6=>some (.inl (a0,a1,a2,(Az a3 (AM y2) (IntKind.wrap .i64 ((AW a3 (AM y2) 0)+1))),(Az a4 (AM (AW a3 (AM y2) 0)) x0),a5,a6,(IntKind.wrap .i64 (a7+1)),()))
 |false=>some (.inr (.inl (a4,())))
abbrev AgX:AE:=[(.tmp 0,.dat V0),(.tmp 1,.dat U7),(.tmp 2,.di),(.tmp 3,.di),(.tmp 9,.own 3 U0),(.tmp 44,.di),(.tmp 45,.di)]
abbrev AgT:At:=[(.exit 2,[(.tmp 0,.dat V0),(.tmp 1,.dat U7),(.tmp 2,.di),(.tmp 3,.di),(.tmp 9,.own 3 U0)])]
def PD[Lk]:(List Int×List Int×Int×Int×List Int×Int×Int×Unit)→Option ((List Int×List Int×Int×Int×List Int×Int×Int×Unit)⊕(List Int×List Int×Int×Int×List Int×Unit)⊕Unit):=fun(a0,a1,a2,a3,a4,a5,a6,_)=>
 match(ilt a6 a5)with
 |true=>match idx a4 (IntKind.wrap .i64 (a6+1))with|none=>none|some x0=>match idx a4 a6 with|none=>none|some x1=>match idx a4 (IntKind.wrap .i64 (a6+1))with|none=>none|some x2=>some (.inl (a0,a1,a2,a3,(Az a4 (AM (IntKind.wrap .i64 (a6+1))) (IntKind.wrap .i64 ((AW a4 (AM (IntKind.wrap .i64 (a6+1))) 0)+(AW a4 (AM a6) 0)))),a5,(IntKind.wrap .i64 (a6+1)),()))
 |false=>some (.inr (.inl (a0,a1,a2,a3,a4,())))
abbrev AgY:AE:=[(.tmp 0,.dat V0),(.tmp 1,.dat U7),(.tmp 2,.di),(.tmp 3,.di),(.tmp 9,.own 3 U0),(.tmp 22,.dat U7),(.tmp 23,.di),(.tmp 24,.di)]
abbrev AgU:At:=[(.exit 0,[(.tmp 0,.dat V0),(.tmp 1,.dat U7),(.tmp 2,.di),(.tmp 3,.di),(.tmp 9,.own 3 U0)])]
def PE[Lk]:V5→Option (V5⊕(List Int×List Int×Int×Int×List Int×Unit)⊕Unit):=fun(a0,a1,a2,a3,a4,a5,a6,a7,_)=>
 match(ilt a7 a6)with
 |true=>match idx a5 a7 with|none=>none|some x0=>match idx a0 x0 with|none=>none|some x1=>match PB (x1,a2,a3,())with|none=>none|some (y2,_)=>match idx a4 (IntKind.wrap .u32 (y2+1))with|none=>none|some x3=>match idx a4 (IntKind.wrap .u32 (y2+1))with|none=>none|some x4=>some (.inl (a0,a1,a2,a3,(Az a4 (AM (IntKind.wrap .u32 (y2+1))) (IntKind.wrap .i64 ((AW a4 (AM (IntKind.wrap .u32 (y2+1))) 0)+1))),a5,a6,(IntKind.wrap .i64 (a7+1)),()))
 |false=>some (.inr (.inl (a0,a1,a2,a3,a4,())))
def AZH[Lk]:(List Int×List Int×Int×Int×Unit)→Option (Up):=fun(a0,a1,a2,a3,_)=>
 match shl? .i64 1 (IntKind.wrap .u64 a3)with|none=>none|some x0=>match(CK (IntKind.wrap .i64 (x0+1))&&CK (IntKind.wrap .i64 (x0+1))&&ile (IntKind.wrap .i64 (x0+1)) (IntKind.wrap .i64 (x0+1))&&true)with
 |true=>match AX PE many (a0,a1,a2,a3,(Du (AM (IntKind.wrap .i64 (x0+(1:Int)))) (0:Int)),a1,(AN a1),(0:Int),())with|none=>none|some r=>match r with
  |.inl (o1,o2,o3,o4,o5,_)=>match AX PD many (o1,o2,o3,o4,o5,(IntKind.wrap .i64 ((AN o5)-1)),0,())with|none=>none|some r=>match r with
   |.inl (o6,o7,o8,o9,o10,_)=>match(CK (AN o7)&&CK (AN o7)&&ile (AN o7) (AN o7)&&true)with
    |true=>match AX PC many (o6,o8,o9,o10,(Du (AM (AN o7)) (0:Int)),o7,(AN o7),(0:Int),())with|none=>none|some r=>match r with
     |.inl (o11,_)=>some (o11,())
     |.inr _=>none
    |false=>none
   |.inr _=>none
  |.inr _=>none
 |false=>none
def rby[Lk]:=fun v=>Lk.f (AZH v)
theorem Aga v:rby v=AZH v:=AJ _
abbrev Lw:AE:=[(.tmp 0,.di),(.tmp 1,.di)]
abbrev Lv:AE:=[(.tmp 0,.dat .bool)]
abbrev Lu:List RS:=[.one]
def IC[Lk]:U1→Option (Uj):=fun(a0,a1,_)=>
 match(ile 1 a0)with
 |true=>match(ile a0 1000)with
  |true=>match(ile 1 a1)with
   |true=>some ((ile a1 100),())
   |false=>some (false,())
  |false=>some (false,())
 |false=>some (false,())
def HB[Lk]:=fun v=>Lk.f (IC v)
theorem QW v:HB v=IC v:=AJ _
abbrev S4:AE:=[(.tmp 0,.dat Uo)]
abbrev S3:AE:=[(.tmp 0,.dat .bool)]
abbrev S2:List RS:=[.one]
abbrev Zw:AE:=[(.tmp 1,.box 3),(.cell 0 0,.dat Uc),(.cell 0 1,.di),(.cell 0 2,.dat Ut),(.tmp 25,.dat Uc),(.tmp 26,.di),(.tmp 27,.di)]
abbrev Zv:At:=[(.ret,[(.tmp 2,.dat .bool)]),(.exit 0,[])]
def D5[Lk]:(List U6×Int×List Bool×List U6×Int×Int×Unit)→Option ((List U6×Int×List Bool×List U6×Int×Int×Unit)⊕Uj⊕(Unit)⊕Unit):=fun(a0,a1,a2,a3,a4,a5,_)=>
 match(ilt a5 a4)with
 |true=>match idx a3 a5 with|none=>none|some x0=>match(ilt x0.1 0)with
  |true=>some (.inr (.inl (false,())))
  |false=>match(ile x0.2.1 x0.1)with
  |true=>some (.inr (.inl (false,())))
  |false=>match(ilt (AN a2) x0.2.1)with
  |true=>some (.inr (.inl (false,())))
  |false=>match(ilt x0.2.2.1 (-1:Int))with
  |true=>some (.inr (.inl (false,())))
  |false=>match(ile a5 x0.2.2.1)with
  |true=>some (.inr (.inl (false,())))
  |false=>match(ilt x0.2.2.2.1 0)with
  |true=>some (.inr (.inl (false,())))
  |false=>match(ilt 2 x0.2.2.2.1)with
  |true=>some (.inr (.inl (false,())))
  |false=>some (.inl (a0,a1,a2,a3,a4,(IntKind.wrap .i64 (a5+1)),()))
 |false=>some (.inr (.inr (.inl ())))
def NJ[Lk]:(((List U6)×Int×(List Bool)×Unit)×Unit)→Option (Uj):=fun(a0,_)=>
 match HB ((AN a0.2.2.1),a0.2.1,())with|none=>none|some (y0,_)=>match(!y0)with
 |true=>some (false,())
 |false=>match(ieq (AN a0.1) 0)with
 |true=>some (false,())
 |false=>match(ilt 2000 (AN a0.1))with
 |true=>some (false,())
 |false=>match AX D5 many (a0.1,a0.2.1,a0.2.2.1,a0.1,(AN a0.1),0,())with|none=>none|some r=>match r with
 |.inl (o1,_)=>some (o1,())
 |.inr r=>match r with
 |.inl _=>some (true,())
 |.inr _=>none
def NK[Lk]:=fun v=>Lk.f (NJ v)
theorem Zx v:NK v=NJ v:=AJ _
abbrev S1:AE:=[(.tmp 0,.dat Uo),(.tmp 1,.di)]
abbrev S0:AE:=[(.tmp 0,.di)]
abbrev Sy:List RS:=[.one]
def NI[Lk]:(((List U6)×Int×(List Bool)×Unit)×Int×Unit)→Option (Ua):=fun(a0,a1,_)=>
 match NK ((a0.1,(a0.2.1,(a0.2.2.1,()))),())with|none=>none|some (y0,_)=>match(!y0)with
 |true=>some (1,())
 |false=>match(ilt a1 0)with
 |true=>some (6,())
 |false=>match(ile (AN a0.1) a1)with
 |true=>some (6,())
 |false=>some (0,())
def J6[Lk]:=fun v=>Lk.f (NI v)
theorem Zu v:J6 v=NI v:=AJ _
abbrev Sx:AE:=[(.tmp 0,.dat Vh)]
abbrev Sw:AE:=[(.tmp 0,.di)]
abbrev Sv:List RS:=[.one]
def NH[Lk]:(U6×Unit)→Option (Ua):=fun(a0,_)=>
 some ((IntKind.wrap .i64 (a0.2.1-a0.1)),())
def IB[Lk]:=fun v=>Lk.f (NH v)
theorem Zt v:IB v=NH v:=AJ _
abbrev S8:AE:=[(.tmp 0,.dat Uo),(.tmp 1,.di)]
abbrev S7:AE:=[(.tmp 0,.dat .bool)]
abbrev S6:List RS:=[.one]
def NL[Lk]:(((List U6)×Int×(List Bool)×Unit)×Int×Unit)→Option (Uj):=fun(a0,a1,_)=>
 match J6 ((a0.1,(a0.2.1,(a0.2.2.1,()))),a1,())with|none=>none|some (y0,_)=>match(ieq y0 0)with
 |true=>match idx a0.1 a1 with|none=>none|some x1=>match IB ((x1.1,(x1.2.1,(x1.2.2.1,(x1.2.2.2.1,())))),())with|none=>none|some (y2,_)=>some ((ilt a0.2.1 y2),())
 |false=>some (false,())
def NM[Lk]:=fun v=>Lk.f (NL v)
theorem Z2 v:NM v=NL v:=AJ _
abbrev TB:AE:=[(.tmp 0,.di),(.tmp 1,.di)]
abbrev TA:AE:=[(.tmp 0,.own 199 Vh),(.tmp 1,.di),(.tmp 2,.own 4 .bool),(.tmp 3,.di)]
abbrev S9:List RS:=[.agg 3,.one]
def NN[Lk]:U1→Option ((List U6×Int×List Bool×Int×Unit)):=fun(a0,a1,_)=>
 match HB (a0,a1,())with|none=>none|some (y0,_)=>match(!y0)with
 |true=>some (([]:List U6),0,([]:List (Bool)),1,())
 |false=>match(CK a0&&CK a0&&ile a0 a0&&true)with
 |true=>some (([((0:Int),(a0,((-1:Int),((0:Int),()))))]:List U6),a1,(Du (AM a0) false),(0:Int),())
 |false=>none
def QX[Lk]:=fun v=>Lk.f (NN v)
theorem Z5 v:QX v=NN v:=AJ _
abbrev Z0:AE:=[(.tmp 0,.dat Uo),(.tmp 1,.di)]
abbrev Zz:AE:=[(.tmp 0,.dat Uc),(.tmp 1,.di),(.tmp 2,.dat Ut),(.tmp 3,.di),(.tmp 4,.di),(.tmp 5,.di)]
abbrev Zy:List RS:=[.agg 3,.one,.one,.one]
def QV[Lk]:(((List U6)×Int×(List Bool)×Unit)×Int×Unit)→Option ((List U6×Int×List Bool×Int×Int×Int×Unit)):=fun(a0,a1,_)=>
 match J6 ((a0.1,(a0.2.1,(a0.2.2.1,()))),a1,())with|none=>none|some (y0,_)=>match(!(ieq y0 0))with
 |true=>some (a0.1,a0.2.1,a0.2.2.1,0,0,y0,())
 |false=>match idx a0.1 a1 with|none=>none|some x1=>match IB ((x1.1,(x1.2.1,(x1.2.2.1,(x1.2.2.2.1,())))),())with|none=>none|some (y2,_)=>match(ile y2 a0.2.1)with
 |true=>some (a0.1,a0.2.1,a0.2.2.1,0,0,5,())
 |false=>match(ilt 0 x1.2.2.2.1)with
 |true=>some (a0.1,a0.2.1,a0.2.2.1,0,0,5,())
 |false=>match(ilt 2000 (IntKind.wrap .i64 ((AN a0.1)+2)))with
 |true=>some (a0.1,a0.2.1,a0.2.2.1,0,0,2,())
 |false=>match IB ((x1.1,(x1.2.1,(x1.2.2.1,(x1.2.2.2.1,())))),())with|none=>none|some (y3,_)=>match quo? .i64 y3 2 with|none=>none|some x4=>match Px a0.1 with|none=>none|some x5=>match(fits ((AN x5)+(AN ([(x1.1,((IntKind.wrap .i64 (x1.1+x4)),(a1,(0,())))),((IntKind.wrap .i64 (x1.1+x4)),(x1.2.1,(a1,(0,()))))]:List U6))))with
 |true=>match idx (BV x5 ([(x1.1,((IntKind.wrap .i64 (x1.1+x4)),(a1,(0,())))),((IntKind.wrap .i64 (x1.1+x4)),(x1.2.1,(a1,(0,()))))]:List U6)) a1 with|none=>none|some x6=>some ((Az (BV x5 ([(x1.1,((IntKind.wrap .i64 (x1.1+x4)),(a1,(0,())))),((IntKind.wrap .i64 (x1.1+x4)),(x1.2.1,(a1,(0,()))))]:List U6)) (AM a1) ((AW (BV x5 ([(x1.1,((IntKind.wrap .i64 (x1.1+x4)),(a1,(0,())))),((IntKind.wrap .i64 (x1.1+x4)),(x1.2.1,(a1,(0,()))))]:List U6)) (AM a1) (0,(0,(0,(0,()))))).1,((AW (BV x5 ([(x1.1,((IntKind.wrap .i64 (x1.1+x4)),(a1,(0,())))),((IntKind.wrap .i64 (x1.1+x4)),(x1.2.1,(a1,(0,()))))]:List U6)) (AM a1) (0,(0,(0,(0,()))))).2.1,((AW (BV x5 ([(x1.1,((IntKind.wrap .i64 (x1.1+x4)),(a1,(0,())))),((IntKind.wrap .i64 (x1.1+x4)),(x1.2.1,(a1,(0,()))))]:List U6)) (AM a1) (0,(0,(0,(0,()))))).2.2.1,(2,()))))),a0.2.1,a0.2.2.1,(AN a0.1),(IntKind.wrap .i64 ((AN a0.1)+1)),0,())
 |false=>none
def Z1[Lk]:=fun v=>Lk.f (QV v)
theorem AG3 v:Z1 v=QV v:=AJ _
abbrev Ov:AE:=[(.tmp 0,.own 199 Vh),(.tmp 1,.di)]
abbrev Ou:AE:=[(.obj 0,.own 199 Vh),(.tmp 0,.dat .bool)]
abbrev Ot:List RS:=[.one]
abbrev Wp:AE:=[(.obj 0,.own 199 Vh),(.tmp 0,.own' 0),(.tmp 1,.di)]
abbrev Wo:At:=[(.ret,[(.obj 0,.own 199 Vh),(.tmp 4,.dat .bool)]),(.exit 0,[(.obj 0,.own 199 Vh)])]
def DG[Lk]:(List U6×Int×Unit)→Option ((List U6×Int×Unit)⊕(List U6×Bool×Unit)⊕(List U6×Unit)⊕Unit):=fun(a0,a1,_)=>
 match(!(ieq a1 (-1:Int)))with
 |true=>match idx a0 a1 with|none=>none|some x0=>match(ieq (AW a0 (AM a1) (0,(0,(0,(0,()))))).2.2.2.1 0)with
  |true=>some (.inr (.inl (a0,false,())))
  |false=>match(ilt 0 (AW (Az a0 (AM a1) ((AW a0 (AM a1) (0,(0,(0,(0,()))))).1,((AW a0 (AM a1) (0,(0,(0,(0,()))))).2.1,((AW a0 (AM a1) (0,(0,(0,(0,()))))).2.2.1,((IntKind.wrap .i64 ((AW a0 (AM a1) (0,(0,(0,(0,()))))).2.2.2.1-1)),()))))) (AM a1) (0,(0,(0,(0,()))))).2.2.2.1)with
  |true=>some (.inr (.inl ((Az a0 (AM a1) ((AW a0 (AM a1) (0,(0,(0,(0,()))))).1,((AW a0 (AM a1) (0,(0,(0,(0,()))))).2.1,((AW a0 (AM a1) (0,(0,(0,(0,()))))).2.2.1,((IntKind.wrap .i64 ((AW a0 (AM a1) (0,(0,(0,(0,()))))).2.2.2.1-1)),()))))),false,())))
  |false=>some (.inl ((Az a0 (AM a1) ((AW a0 (AM a1) (0,(0,(0,(0,()))))).1,((AW a0 (AM a1) (0,(0,(0,(0,()))))).2.1,((AW a0 (AM a1) (0,(0,(0,(0,()))))).2.2.1,((IntKind.wrap .i64 ((AW a0 (AM a1) (0,(0,(0,(0,()))))).2.2.2.1-1)),()))))),(AW (Az a0 (AM a1) ((AW a0 (AM a1) (0,(0,(0,(0,()))))).1,((AW a0 (AM a1) (0,(0,(0,(0,()))))).2.1,((AW a0 (AM a1) (0,(0,(0,(0,()))))).2.2.1,((IntKind.wrap .i64 ((AW a0 (AM a1) (0,(0,(0,(0,()))))).2.2.2.1-1)),()))))) (AM a1) (0,(0,(0,(0,()))))).2.2.1,()))
 |false=>some (.inr (.inr (.inl (a0,()))))
def J7[Lk]:(List U6×Int×Unit)→Option ((List U6×Bool×Unit)):=fun(a0,a1,_)=>
 match AX DG many (a0,a1,())with|none=>none|some r=>match r with
 |.inl (o0,o1,_)=>some (o0,o1,())
 |.inr r=>match r with
 |.inl (o2,_)=>some (o2,true,())
 |.inr _=>none
def Lt[Lk]:=fun v=>Lk.f (J7 v)
theorem Wq v:Lt v=J7 v:=AJ _
abbrev AT7:AE:=[(.tmp 0,.dat Uo),(.tmp 1,.di)]
abbrev AT6:AE:=[(.tmp 0,.dat Uc),(.tmp 1,.di),(.tmp 2,.dat Ut),(.tmp 3,.dat .bool),(.tmp 4,.di)]
abbrev AT5:List RS:=[.agg 3,.one,.one]
abbrev AYy:AE:=[(.tmp 2,.box 3),(.cell 0 0,.own 199 Vh),(.cell 0 1,.di),(.cell 0 2,.own 4 .bool),(.tmp 4,.box 3),(.cell 3 0,.nil Vh),(.cell 3 1,.di),(.cell 3 2,.nil .bool),(.tmp 8,.box 4),(.cell 4 0,.di),(.cell 4 1,.di),(.cell 4 2,.di),(.cell 4 3,.di),(.tmp 9,.di)]
abbrev AYx:At:=[(.exit 0,[(.tmp 2,.box 3),(.cell 0 0,.own 199 Vh),(.cell 0 1,.di),(.cell 0 2,.own 4 .bool),(.tmp 4,.box 3),(.cell 3 0,.nil Vh),(.cell 3 1,.di),(.cell 3 2,.nil .bool),(.tmp 8,.box 4),(.cell 4 0,.di),(.cell 4 1,.di),(.cell 4 2,.di),(.cell 4 3,.di)])]
def J8[Lk]:(List U6×Int×List Bool×Int×Int×Int×Int×Int×Int×Unit)→Option ((List U6×Int×List Bool×Int×Int×Int×Int×Int×Int×Unit)⊕(List U6×Int×List Bool×Int×Int×Int×Int×Int×Unit)⊕Unit):=fun(a0,a1,a2,a3,a4,a5,a6,a7,a8,_)=>
 match(ilt a8 a5)with
 |true=>match idx a2 a8 with|none=>none|some x0=>some (.inl (a0,a1,(Az a2 (AM a8) true),a3,a4,a5,a6,a7,(IntKind.wrap .i64 (a8+1)),()))
 |false=>some (.inr (.inl (a0,a1,a2,a3,a4,a5,a6,a7,())))
def AJs[Lk]:(((List U6)×Int×(List Bool)×Unit)×Int×Unit)→Option ((List U6×Int×List Bool×Bool×Int×Unit)):=fun(a0,a1,_)=>
 match J6 ((a0.1,(a0.2.1,(a0.2.2.1,()))),a1,())with|none=>none|some (y0,_)=>match(!(ieq y0 0))with
 |true=>some (a0.1,a0.2.1,a0.2.2.1,false,y0,())
 |false=>match idx a0.1 a1 with|none=>none|some x1=>match IB ((x1.1,(x1.2.1,(x1.2.2.1,(x1.2.2.2.1,())))),())with|none=>none|some (y2,_)=>match(ilt a0.2.1 y2)with
 |true=>some (a0.1,a0.2.1,a0.2.2.1,false,5,())
 |false=>match(ilt 0 x1.2.2.2.1)with
 |true=>some (a0.1,a0.2.1,a0.2.2.1,false,5,())
 |false=>match idx a0.2.2.1 x1.1 with|none=>none|some x3=>match x3 with
 |true=>some (a0.1,a0.2.1,a0.2.2.1,false,5,())
 |false=>match Px a0.1 with|none=>none|some x4=>match Px a0.2.2.1 with|none=>none|some x5=>match AX J8 many (x4,a0.2.1,x5,0,x1.1,x1.2.1,x1.2.2.1,x1.2.2.2.1,x1.1,())with|none=>none|some r=>match r with
 |.inl (o6,o7,o8,o9,o10,o11,o12,o13,_)=>match Lt (o6,o12,())with|none=>none|some (y14,y15,_)=>some (y14,o7,o8,y15,0,())
 |.inr _=>none
def AfS[Lk]:=fun v=>Lk.f (AJs v)
theorem AYz v:AfS v=AJs v:=AJ _
abbrev P2:AE:=[(.tmp 0,.di)]
abbrev P1:AE:=[(.tmp 0,.dat .bool)]
abbrev Pz:List RS:=[.one]
def K4[Lk]:Ua→Option (Uj):=fun(a0,_)=>
 match(ile 0 a0)with
 |true=>some ((ile a0 100000),())
 |false=>some (false,())
def Jq[Lk]:=fun v=>Lk.f (K4 v)
theorem Xk v:Jq v=K4 v:=AJ _
abbrev AEK:AE:=[(.tmp 0,.dat Uo),(.tmp 1,.di)]
abbrev AEJ:AE:=[(.tmp 0,.dat .bool)]
abbrev AEI:List RS:=[.one]
def Rj[Lk]:(((List U6)×Int×(List Bool)×Unit)×Int×Unit)→Option (Uj):=fun(a0,a1,_)=>
 match(ile 0 a1)with
 |true=>match(ilt a1 (AN a0.1))with
  |true=>match idx a0.1 a1 with|none=>none|some x0=>match(ieq x0.2.2.2.1 0)with
   |true=>match NM ((a0.1,(a0.2.1,(a0.2.2.1,()))),a1,())with|none=>none|some (y1,_)=>match y1 with
    |true=>some (true,())
    |false=>match idx a0.1 a1 with|none=>none|some x2=>match idx a0.2.2.1 x2.1 with|none=>none|some x3=>some ((!x3),())
   |false=>some (false,())
  |false=>some (false,())
 |false=>some (false,())
def AEL[Lk]:=fun v=>Lk.f (Rj v)
theorem AIi v:AEL v=Rj v:=AJ _
abbrev AD0:AE:=[(.tmp 0,.dat Vg)]
abbrev ADz:AE:=[(.tmp 0,.dat .bool)]
abbrev ADy:List RS:=[.one]
abbrev AId:AE:=[(.tmp 1,.box 7),(.cell 0 0,.dat Uc),(.cell 0 1,.di),(.cell 0 2,.dat Ut),(.cell 0 3,.dat Uh),(.cell 0 4,.dat .bool),(.cell 0 5,.di),(.cell 0 6,.di),(.tmp 3,.map U0 U0),(.tmp 38,.dat Uh),(.tmp 39,.di),(.tmp 40,.di),(.tmp 44,.dat U7),(.tmp 45,.di),(.tmp 46,.di)]
abbrev AIb:At:=[(.ret,[(.tmp 2,.dat .bool)]),(.exit 2,[(.tmp 1,.box 7),(.cell 0 0,.dat Uc),(.cell 0 1,.di),(.cell 0 2,.dat Ut),(.cell 0 3,.dat Uh),(.cell 0 4,.dat .bool),(.cell 0 5,.di),(.cell 0 6,.di),(.tmp 3,.map U0 U0),(.tmp 38,.dat Uh),(.tmp 39,.di),(.tmp 40,.di)])]
def EZ[Lk]:Vj→Option (Vj⊕Uj⊕V8⊕Unit):=fun(a0,a1,a2,a3,a4,a5,a6,a7,a8,a9,a10,a11,a12,a13,_)=>
 match(ilt a13 a12)with
 |true=>match idx a11 a13 with|none=>none|some x0=>match(ilt 1 ((AR (Ad a7 x0 (IntKind.wrap .i64 (((AR a7 x0).getD 0)+1))) x0).getD 0))with
  |true=>some (.inr (.inl (false,())))
  |false=>match AEL ((a0,(a1,(a2,()))),x0,())with|none=>none|some (y1,_)=>match(!y1)with
  |true=>some (.inr (.inl (false,())))
  |false=>some (.inl (a0,a1,a2,a3,a4,a5,a6,(Ad a7 x0 (IntKind.wrap .i64 (((AR a7 x0).getD 0)+1))),a8,a9,a10,a11,a12,(IntKind.wrap .i64 (a13+1)),()))
 |false=>some (.inr (.inr (.inl (a0,a1,a2,a3,a4,a5,a6,a7,a8,a9,a10,()))))
abbrev AIe:AE:=[(.tmp 1,.box 7),(.cell 0 0,.dat Uc),(.cell 0 1,.di),(.cell 0 2,.dat Ut),(.cell 0 3,.dat Uh),(.cell 0 4,.dat .bool),(.cell 0 5,.di),(.cell 0 6,.di),(.tmp 3,.map U0 U0),(.tmp 38,.dat Uh),(.tmp 39,.di),(.tmp 40,.di)]
abbrev AIc:At:=[(.ret,[(.tmp 2,.dat .bool)]),(.exit 0,[])]
def Fw[Lk]:V8→Option (V8⊕Uj⊕(Unit)⊕Unit):=fun(a0,a1,a2,a3,a4,a5,a6,a7,a8,a9,a10,_)=>
 match(ilt a10 a9)with
 |true=>match idx a8 a10 with|none=>none|some x0=>match AX EZ many (a0,a1,a2,a3,a4,a5,a6,a7,a8,a9,a10,x0,(AN x0),0,())with|none=>none|some r=>match r with
  |.inl (o1,_)=>some (.inr (.inl (o1,())))
  |.inr r=>match r with
  |.inl (o2,o3,o4,o5,o6,o7,o8,o9,o10,o11,o12,_)=>some (.inl (o2,o3,o4,o5,o6,o7,o8,o9,o10,o11,(IntKind.wrap .i64 (o12+1)),()))
  |.inr _=>none
 |false=>some (.inr (.inr (.inl ())))
def Re[Lk]:((((List U6)×Int×(List Bool)×Unit)×(List U4)×Bool×Int×Int×Unit)×Unit)→Option (Uj):=fun(a0,_)=>
 match NK ((a0.1.1,(a0.1.2.1,(a0.1.2.2.1,()))),())with|none=>none|some (y0,_)=>match(!y0)with
 |true=>some (false,())
 |false=>match(ieq (AN a0.2.1) 0)with
 |true=>some (false,())
 |false=>match(ilt 8 (AN a0.2.1))with
 |true=>some (false,())
 |false=>match Jq (a0.2.2.2.1,())with|none=>none|some (y1,_)=>match(!y1)with
 |true=>some (false,())
 |false=>match Jq (a0.2.2.2.2.1,())with|none=>none|some (y2,_)=>match(!y2)with
 |true=>some (false,())
 |false=>match AX Fw many (a0.1.1,a0.1.2.1,a0.1.2.2.1,a0.2.1,a0.2.2.1,a0.2.2.2.1,a0.2.2.2.2.1,([]:List Ux),a0.2.1,(AN a0.2.1),0,())with|none=>none|some r=>match r with
 |.inl (o3,_)=>some (o3,())
 |.inr r=>match r with
 |.inl _=>some (true,())
 |.inr _=>none
def AD1[Lk]:=fun v=>Lk.f (Re v)
theorem AIf v:AD1 v=Re v:=AJ _
abbrev AET:AE:=[(.tmp 0,.di),(.tmp 1,.di),(.tmp 2,.di)]
abbrev AES:AE:=[(.tmp 0,.own 199 Vh),(.tmp 1,.di),(.tmp 2,.own 4 .bool),(.tmp 3,.own 41 U7),(.tmp 4,.dat .bool),(.tmp 5,.di),(.tmp 6,.di),(.tmp 7,.di)]
abbrev AER:List RS:=[.agg 7,.one]
def Rl[Lk]:Ub→Option ((List U6×Int×List Bool×List U4×Bool×Int×Int×Int×Unit)):=fun(a0,a1,a2,_)=>
 match(ilt a2 1)with
 |true=>some (([]:List U6),0,([]:List (Bool)),([]:List U4),false,0,0,1,())
 |false=>match(ilt 8 a2)with
 |true=>some (([]:List U6),0,([]:List (Bool)),([]:List U4),false,0,0,1,())
 |false=>match QX (a0,a1,())with|none=>none|some (y0,y1,y2,y3,_)=>match(!(ieq y3 0))with
 |true=>some (([]:List U6),0,([]:List (Bool)),([]:List U4),false,0,0,y3,())
 |false=>match(CK a2&&CK a2&&ile a2 a2&&true)with
 |true=>match idx (Du (AM a2) ()) (0:Int)with|none=>none|some x4=>match(fits (AN ([0]:List (Int))))with
  |true=>match idx (Du (AM a2) ()) (0:Int)with|none=>none|some x5=>some (y0,y1,y2,(Az (Du (List.length (Du (AM a2) ())) []) 0 ([(0:Int)]:List (Int))),false,(0:Int),(0:Int),(0:Int),())
  |false=>none
 |false=>none
def AEU[Lk]:=fun v=>Lk.f (Rl v)
theorem AIk v:AEU v=Rl v:=AJ _
abbrev ANB:AE:=[(.tmp 0,.dat Vg)]
abbrev ANA:AE:=[(.tmp 0,.di)]
abbrev AM9:List RS:=[.one]
abbrev ASq:AE:=[(.tmp 2,.di),(.tmp 6,.dat Uh),(.tmp 7,.di),(.tmp 8,.di)]
abbrev ASp:At:=[(.exit 0,[(.tmp 2,.di)])]
def Hq[Lk]:(Int×List U4×Int×Int×Unit)→Option ((Int×List U4×Int×Int×Unit)⊕Ua⊕Unit):=fun(a0,a1,a2,a3,_)=>
 match(ilt a3 a2)with
 |true=>match idx a1 a3 with|none=>none|some x0=>some (.inl ((IntKind.wrap .i64 (a0+(AN x0))),a1,a2,(IntKind.wrap .i64 (a3+1)),()))
 |false=>some (.inr (.inl (a0,())))
def Y4[Lk]:((((List U6)×Int×(List Bool)×Unit)×(List U4)×Bool×Int×Int×Unit)×Unit)→Option (Ua):=fun(a0,_)=>
 match AX Hq many (0,a0.2.1,(AN a0.2.1),0,())with|none=>none|some r=>match r with
 |.inl (o0,_)=>some (o0,())
 |.inr _=>none
def ASs[Lk]:=fun v=>Lk.f (Y4 v)
theorem ASr v:ASs v=Y4 v:=AJ _
abbrev VY:AE:=[(.tmp 0,.box 11),(.cell 0 0,.dat Uc),(.cell 0 1,.di),(.cell 0 2,.dat Ut),(.cell 0 3,.own 41 U7),(.cell 0 4,.dat .bool),(.cell 0 5,.di),(.cell 0 6,.di),(.cell 0 7,.di),(.cell 0 8,.di),(.cell 0 9,.di),(.cell 0 10,.dat .bool),(.tmp 1,.di)]
abbrev VX:AE:=[(.obj 0,.box 11),(.cell 0 0,.dat Uc),(.cell 0 1,.di),(.cell 0 2,.dat Ut),(.cell 0 3,.own 41 U7),(.cell 0 4,.dat .bool),(.cell 0 5,.di),(.cell 0 6,.di),(.cell 0 7,.di),(.cell 0 8,.di),(.cell 0 9,.di),(.cell 0 10,.dat .bool),(.obj 1,.own' 1),(.tmp 0,.di)]
abbrev VW:List RS:=[.one]
def No[Lk]:Uu→Option (Uu):=fun(a0,a1,a2,a3,a4,a5,a6,a7,a8,a9,a10,a11,_)=>
 match rem? a11 (AN a3)with|none=>none|some x0=>match rem? (IntKind.wrap .i64 (x0+(AN a3))) (AN a3)with|none=>none|some x1=>some (a0,a1,a2,a3,a4,a5,a6,a7,a8,a9,a10,x1,())
def Np[Lk]:=fun v=>Lk.f (No v)
theorem AEC v:Np v=No v:=AJ _
abbrev AEO:AE:=[(.tmp 0,.box 11),(.cell 0 0,.dat Uc),(.cell 0 1,.di),(.cell 0 2,.dat Ut),(.cell 0 3,.own 41 U7),(.cell 0 4,.dat .bool),(.cell 0 5,.di),(.cell 0 6,.di),(.cell 0 7,.di),(.cell 0 8,.di),(.cell 0 9,.di),(.cell 0 10,.dat .bool),(.tmp 1,.di),(.tmp 2,.di)]
abbrev AEN:AE:=[(.obj 0,.box 11),(.cell 0 0,.dat Uc),(.cell 0 1,.di),(.cell 0 2,.dat Ut),(.cell 0 3,.own 41 U7),(.cell 0 4,.dat .bool),(.cell 0 5,.di),(.cell 0 6,.di),(.cell 0 7,.di),(.cell 0 8,.di),(.cell 0 9,.di),(.cell 0 10,.dat .bool),(.obj 1,.own' 1),(.tmp 0,.dat .bool)]
abbrev AEM:List RS:=[.one]
def Rk[Lk]:(List U6×Int×List Bool×List U4×Bool×Int×Int×Int×Int×Int×Bool×Int×Int×Unit)→Option ((List U6×Int×List Bool×List U4×Bool×Int×Int×Int×Int×Int×Bool×Bool×Unit)):=fun(a0,a1,a2,a3,a4,a5,a6,a7,a8,a9,a10,a11,a12,_)=>
 match idx a3 a11 with|none=>none|some x0=>match idx a3 a12 with|none=>none|some x1=>match(ile 0 (IntKind.wrap .i64 ((AN (AW a3 (AM a11) ([]:List (Int))))-1)))with
 |true=>match idx (AW a3 (AM a11) ([]:List (Int))) (IntKind.wrap .i64 ((AN (AW a3 (AM a11) ([]:List (Int))))-1))with|none=>none|some x2=>match(ieq (IntKind.wrap .i64 ((AN (AW a3 (AM a11) ([]:List (Int))))-1)) (IntKind.wrap .i64 ((AN (AW a3 (AM a11) ([]:List (Int))))-1)))with
  |true=>match D6 (AW a3 (AM a11) ([]:List (Int))) 0 (IntKind.wrap .i64 ((AN (AW a3 (AM a11) ([]:List (Int))))-1))with|none=>none|some x3=>match idx a3 a11 with|none=>none|some x4=>some (a0,a1,a2,(Az a3 (AM a11) x3),a4,a5,a6,a7,a11,x2,a10,true,())
  |false=>none
 |false=>match(ilt 0 (AN (AW a3 (AM a12) ([]:List (Int)))))with
 |true=>match idx (AW a3 (AM a12) ([]:List (Int))) 0 with|none=>none|some x5=>match D6 (AW a3 (AM a12) ([]:List (Int))) 1 (AN (AW a3 (AM a12) ([]:List (Int))))with|none=>none|some x6=>match idx a3 a12 with|none=>none|some x7=>some (a0,a1,a2,(Az a3 (AM a12) x6),a4,a5,a6,a7,a12,x5,a10,true,())
 |false=>some (a0,a1,a2,a3,a4,a5,a6,a7,a8,a9,a10,false,())
def AEP[Lk]:=fun v=>Lk.f (Rk v)
theorem AIj v:AEP v=Rk v:=AJ _
abbrev AjG:AE:=[(.tmp 0,.box 11),(.cell 0 0,.dat Uc),(.cell 0 1,.di),(.cell 0 2,.dat Ut),(.cell 0 3,.own 41 U7),(.cell 0 4,.dat .bool),(.cell 0 5,.di),(.cell 0 6,.di),(.cell 0 7,.di),(.cell 0 8,.di),(.cell 0 9,.di),(.cell 0 10,.dat .bool),(.tmp 1,.di)]
abbrev AjF:AE:=[(.obj 0,.box 11),(.cell 0 0,.dat Uc),(.cell 0 1,.di),(.cell 0 2,.dat Ut),(.cell 0 3,.own 41 U7),(.cell 0 4,.dat .bool),(.cell 0 5,.di),(.cell 0 6,.di),(.cell 0 7,.di),(.cell 0 8,.di),(.cell 0 9,.di),(.cell 0 10,.dat .bool),(.obj 1,.own' 1),(.tmp 0,.di)]
abbrev AjE:List RS:=[.one]
def AaJ[Lk]:Uu→Option (Uu):=fun(a0,a1,a2,a3,a4,a5,a6,a7,a8,a9,a10,a11,_)=>
 match NM ((a0,(a1,(a2,()))),a9,())with|none=>none|some (y0,_)=>match y0 with
 |true=>match Z1 ((a0,(a1,(a2,()))),a9,())with|none=>none|some (y1,y2,y3,y4,y5,y6,_)=>match(ieq y6 0)with
  |true=>match idx a3 a11 with|none=>none|some x7=>match(fits ((AN (AW a3 (AM a11) ([]:List (Int))))+(AN ([y5,y4]:List (Int)))))with
   |true=>match idx a3 a11 with|none=>none|some x8=>some (y1,y2,y3,(Az a3 (AM a11) (BV (AW a3 (AM a11) ([]:List (Int))) ([y5,y4]:List (Int)))),a4,a5,a6,a7,a8,a9,true,y6,())
   |false=>none
  |false=>some (y1,y2,y3,a3,a4,a5,a6,a7,a8,a9,a10,y6,())
 |false=>match AfS ((a0,(a1,(a2,()))),a9,())with|none=>none|some (y9,y10,y11,y12,y13,_)=>match a4 with
 |true=>some (y9,y10,y11,a3,true,a5,a6,a7,a8,a9,a10,y13,())
 |false=>some (y9,y10,y11,a3,y12,a5,a6,a7,a8,a9,a10,y13,())
def cgo[Lk]:=fun v=>Lk.f (AaJ v)
theorem AjH v:cgo v=AaJ v:=AJ _
abbrev AMr:AE:=[(.tmp 0,.dat Vg),(.tmp 1,.di),(.tmp 2,.di)]
abbrev AMq:AE:=[(.tmp 0,.dat Uc),(.tmp 1,.di),(.tmp 2,.dat Ut),(.tmp 3,.dat Uh),(.tmp 4,.dat .bool),(.tmp 5,.di),(.tmp 6,.di),(.tmp 7,.dat U5),(.tmp 8,.di)]
abbrev AMp:List RS:=[.agg 7,.one,.one]
def Y3[Lk]:((((List U6)×Int×(List Bool)×Unit)×(List U4)×Bool×Int×Int×Unit)×Int×Int×Unit)→Option ((List U6×Int×List Bool×List U4×Bool×Int×Int×U3×Int×Unit)):=fun(a0,a1,a2,_)=>
 match AD1 (((a0.1.1,(a0.1.2.1,(a0.1.2.2.1,()))),(a0.2.1,(a0.2.2.1,(a0.2.2.2.1,(a0.2.2.2.2.1,()))))),())with|none=>none|some (y0,_)=>match(!y0)with
 |true=>some (a0.1.1,a0.1.2.1,a0.1.2.2.1,a0.2.1,a0.2.2.1,a0.2.2.2.1,a0.2.2.2.2.1,(0,(0,(0,(false,())))),1,())
 |false=>match(ieq a0.2.2.2.1 100000)with
 |true=>some (a0.1.1,a0.1.2.1,a0.1.2.2.1,a0.2.1,a0.2.2.1,a0.2.2.2.1,a0.2.2.2.2.1,(0,(0,(0,(false,())))),2,())
 |false=>match Px a0.2.1 with|none=>none|some x1=>match Np (a0.1.1,a0.1.2.1,a0.1.2.2.1,x1,a0.2.2.1,a0.2.2.2.1,a0.2.2.2.2.1,0,(-1:Int),(-1:Int),false,a1,())with|none=>none|some (y2,y3,y4,y5,y6,y7,y8,y9,y10,y11,y12,y13,_)=>match Np (y2,y3,y4,y5,y6,y7,y8,y9,y10,y11,y12,a2,())with|none=>none|some (y14,y15,y16,y17,y18,y19,y20,y21,y22,y23,y24,y25,_)=>match AEP (y14,y15,y16,y17,y18,(IntKind.wrap .i64 (y19+1)),y20,y13,y22,y23,y24,y13,y25,())with|none=>none|some (y26,y27,y28,y29,y30,y31,y32,y33,y34,y35,y36,y37,_)=>match y37 with
 |true=>match cgo (y26,y27,y28,y29,y30,y31,y32,y33,y34,y35,y36,y13,())with|none=>none|some (y38,y39,y40,y41,y42,y43,y44,y45,y46,y47,y48,y49,_)=>match(!(ieq y49 0))with
  |true=>some (a0.1.1,a0.1.2.1,a0.1.2.2.1,a0.2.1,a0.2.2.1,a0.2.2.2.1,a0.2.2.2.2.1,(0,(0,(0,(false,())))),y49,())
  |false=>some (y38,y39,y40,y41,y42,y43,y44,(y45,(y46,(y47,(y48,())))),0,())
 |false=>match(ieq y32 100000)with
 |true=>some (a0.1.1,a0.1.2.1,a0.1.2.2.1,a0.2.1,a0.2.2.1,a0.2.2.2.1,a0.2.2.2.2.1,(0,(0,(0,(false,())))),2,())
 |false=>some (y26,y27,y28,y29,y30,y31,(IntKind.wrap .i64 (y32+1)),(y33,(y34,(y35,(y36,())))),0,())
def ASS[Lk]:=fun v=>Lk.f (Y3 v)
theorem ASR v:ASS v=Y3 v:=AJ _
abbrev AMV:AE:=[(.tmp 0,.box 8),(.cell 0 0,.dat Uc),(.cell 0 1,.di),(.cell 0 2,.dat Ut),(.cell 0 3,.dat Uh),(.cell 0 4,.dat .bool),(.cell 0 5,.di),(.cell 0 6,.di),(.cell 0 7,.own 193 U5),(.tmp 1,.di),(.tmp 2,.di)]
abbrev AMU:AE:=[(.obj 0,.box 8),(.cell 0 0,.dat Uc),(.cell 0 1,.di),(.cell 0 2,.dat Ut),(.cell 0 3,.dat Uh),(.cell 0 4,.dat .bool),(.cell 0 5,.di),(.cell 0 6,.di),(.cell 0 7,.own 193 U5),(.tmp 0,.di)]
abbrev AMT:List RS:=[.one]
def Y0[Lk]:(List U6×Int×List Bool×List U4×Bool×Int×Int×List U3×Int×Int×Unit)→Option (Ui):=fun(a0,a1,a2,a3,a4,a5,a6,a7,a8,a9,_)=>
 match ASS (((a0,(a1,(a2,()))),(a3,(a4,(a5,(a6,()))))),a8,a9,())with|none=>none|some (y0,y1,y2,y3,y4,y5,y6,y7,y8,_)=>match(ieq y8 0)with
 |true=>match(fits ((AN a7)+(AN ([(y7.1,(y7.2.1,(y7.2.2.1,(y7.2.2.2.1,()))))]:List U3))))with
  |true=>some (y0,y1,y2,y3,y4,y5,y6,(BV a7 ([(y7.1,(y7.2.1,(y7.2.2.1,(y7.2.2.2.1,()))))]:List U3)),y8,())
  |false=>none
 |false=>some (a0,a1,a2,a3,a4,a5,a6,a7,y8,())
def AIT[Lk]:=fun v=>Lk.f (Y0 v)
theorem ASB v:AIT v=Y0 v:=AJ _
abbrev UZ:AE:=[(.tmp 0,.box 8),(.cell 0 0,.dat Uc),(.cell 0 1,.di),(.cell 0 2,.dat Ut),(.cell 0 3,.dat Uh),(.cell 0 4,.dat .bool),(.cell 0 5,.di),(.cell 0 6,.di),(.cell 0 7,.own 193 U5)]
abbrev UY:AE:=[(.obj 0,.box 8),(.cell 0 0,.dat Uc),(.cell 0 1,.di),(.cell 0 2,.dat Ut),(.cell 0 3,.dat Uh),(.cell 0 4,.dat .bool),(.cell 0 5,.di),(.cell 0 6,.di),(.cell 0 7,.own 193 U5),(.tmp 0,.di)]
abbrev UX:List RS:=[.one]
abbrev ADd:AE:=[(.obj 0,.box 8),(.cell 0 0,.dat Uc),(.cell 0 1,.di),(.cell 0 2,.dat Ut),(.cell 0 3,.dat Uh),(.cell 0 4,.dat .bool),(.cell 0 5,.di),(.cell 0 6,.di),(.cell 0 7,.own 193 U5),(.tmp 0,.ptr' 0 0),(.tmp 3,.di),(.tmp 13,.di),(.tmp 14,.di)]
abbrev ADb:At:=[(.ret,[(.obj 0,.box 8),(.cell 0 0,.dat Uc),(.cell 0 1,.di),(.cell 0 2,.dat Ut),(.cell 0 3,.dat Uh),(.cell 0 4,.dat .bool),(.cell 0 5,.di),(.cell 0 6,.di),(.cell 0 7,.own 193 U5),(.tmp 2,.di)]),(.exit 2,[(.obj 0,.box 8),(.cell 0 0,.dat Uc),(.cell 0 1,.di),(.cell 0 2,.dat Ut),(.cell 0 3,.dat Uh),(.cell 0 4,.dat .bool),(.cell 0 5,.di),(.cell 0 6,.di),(.cell 0 7,.own 193 U5),(.tmp 0,.ptr' 0 0),(.tmp 3,.di)])]
def CH[Lk]:(List U6×Int×List Bool×List U4×Bool×Int×Int×List U3×Int×Int×Int×Unit)→Option ((List U6×Int×List Bool×List U4×Bool×Int×Int×List U3×Int×Int×Int×Unit)⊕Ui⊕Ui⊕Unit):=fun(a0,a1,a2,a3,a4,a5,a6,a7,a8,a9,a10,_)=>
 match(ilt a10 a9)with
 |true=>match a4 with
  |true=>some (.inr (.inl (a0,a1,a2,a3,a4,a5,a6,a7,0,())))
  |false=>match ASs (((a0,(a1,(a2,()))),(a3,(a4,(a5,(a6,()))))),())with|none=>none|some (y0,_)=>match(ieq y0 0)with
  |true=>some (.inr (.inl (a0,a1,a2,a3,a4,a5,a6,a7,4,())))
  |false=>match AIT (a0,a1,a2,a3,a4,a5,a6,a7,a10,(IntKind.wrap .i64 ((IntKind.wrap .i64 (a10+1))+a8)),())with|none=>none|some (y1,y2,y3,y4,y5,y6,y7,y8,y9,_)=>match(!(ieq y9 0))with
  |true=>some (.inr (.inl (y1,y2,y3,y4,y5,y6,y7,y8,y9,())))
  |false=>some (.inl (y1,y2,y3,y4,y5,y6,y7,y8,a8,a9,(IntKind.wrap .i64 (a10+1)),()))
 |false=>some (.inr (.inr (.inl (a0,a1,a2,a3,a4,a5,a6,a7,a8,()))))
abbrev ADe:AE:=[(.obj 0,.box 8),(.cell 0 0,.dat Uc),(.cell 0 1,.di),(.cell 0 2,.dat Ut),(.cell 0 3,.dat Uh),(.cell 0 4,.dat .bool),(.cell 0 5,.di),(.cell 0 6,.di),(.cell 0 7,.own 193 U5),(.tmp 0,.ptr' 0 0),(.tmp 3,.di)]
abbrev ADc:At:=[(.ret,[(.obj 0,.box 8),(.cell 0 0,.dat Uc),(.cell 0 1,.di),(.cell 0 2,.dat Ut),(.cell 0 3,.dat Uh),(.cell 0 4,.dat .bool),(.cell 0 5,.di),(.cell 0 6,.di),(.cell 0 7,.own 193 U5),(.tmp 2,.di)])]
def Cv[Lk]:Ui→Option (Ui⊕Ui⊕Unit):=fun(a0,a1,a2,a3,a4,a5,a6,a7,a8,_)=>
 match AX CH many (a0,a1,a2,a3,a4,a5,a6,a7,a8,(AN a3),0,())with|none=>none|some r=>match r with
 |.inl (o0,o1,o2,o3,o4,o5,o6,o7,o8,_)=>some (.inr (.inl (o0,o1,o2,o3,o4,o5,o6,o7,o8,())))
 |.inr r=>match r with
 |.inl (o9,o10,o11,o12,o13,o14,o15,o16,o17,_)=>some (.inl (o9,o10,o11,o12,o13,o14,o15,o16,(IntKind.wrap .i64 (o17+1)),()))
 |.inr _=>none
def Nj[Lk]:(List U6×Int×List Bool×List U4×Bool×Int×Int×List U3×Unit)→Option (Ui):=fun(a0,a1,a2,a3,a4,a5,a6,a7,_)=>
 match AX Cv many (a0,a1,a2,a3,a4,a5,a6,a7,0,())with|none=>none|some r=>match r with
 |.inl (o0,o1,o2,o3,o4,o5,o6,o7,o8,_)=>some (o0,o1,o2,o3,o4,o5,o6,o7,o8,())
 |.inr _=>none
def RY[Lk]:=fun v=>Lk.f (Nj v)
theorem ADf v:RY v=Nj v:=AJ _
abbrev ADY:AE:=[(.tmp 0,.di),(.tmp 1,.di),(.tmp 2,.di),(.tmp 3,.dat (.slice (.arr 2 U0)))]
abbrev ADX:AE:=[(.tmp 0,.dat Vg),(.tmp 1,.own 193 U5),(.tmp 2,.di)]
abbrev ADW:List RS:=[.one,.one,.one]
abbrev AIQ:AE:=[(.tmp 8,.box 7),(.cell 0 0,.nil Vh),(.cell 0 1,.di),(.cell 0 2,.nil .bool),(.cell 0 3,.nil U7),(.cell 0 4,.dat .bool),(.cell 0 5,.di),(.cell 0 6,.di),(.tmp 13,.box 8),(.cell 1 0,.dat Uc),(.cell 1 1,.di),(.cell 1 2,.dat Ut),(.cell 1 3,.dat Uh),(.cell 1 4,.dat .bool),(.cell 1 5,.di),(.cell 1 6,.di),(.cell 1 7,.own 193 U5),(.tmp 31,.dat (.slice (.arr 2 U0))),(.tmp 32,.di),(.tmp 33,.di)]
abbrev AIP:At:=[(.exit 0,[(.tmp 8,.box 7),(.cell 0 0,.nil Vh),(.cell 0 1,.di),(.cell 0 2,.nil .bool),(.cell 0 3,.nil U7),(.cell 0 4,.dat .bool),(.cell 0 5,.di),(.cell 0 6,.di),(.tmp 13,.box 8),(.cell 1 0,.dat Uc),(.cell 1 1,.di),(.cell 1 2,.dat Ut),(.cell 1 3,.dat Uh),(.cell 1 4,.dat .bool),(.cell 1 5,.di),(.cell 1 6,.di),(.cell 1 7,.own 193 U5)]),(.ret,[(.tmp 8,.box 7),(.cell 0 0,.dat Uc),(.cell 0 1,.di),(.cell 0 2,.dat Ut),(.cell 0 3,.dat Uh),(.cell 0 4,.dat .bool),(.cell 0 5,.di),(.cell 0 6,.di),(.tmp 9,.own 193 U5),(.tmp 10,.di)])]
def EX[Lk]:Vi→Option (Vi⊕(Int×Bool×Int×Int×List U6×Int×List Bool×List U4×Bool×Int×Int×List U3×Unit)⊕Ui⊕Unit):=fun(a0,a1,a2,a3,a4,a5,a6,a7,a8,a9,a10,a11,a12,a13,a14,_)=>
 match(ilt a14 a13)with
 |true=>match idx a12 a14 with|none=>none|some x0=>match a8 with
  |true=>some (.inr (.inl (a0,a1,a2,a3,a4,a5,a6,a7,a8,a9,a10,a11,())))
  |false=>match AIT (a4,a5,a6,a7,a8,a9,a10,a11,(AW x0 0 0),(AW x0 1 0),())with|none=>none|some (y1,y2,y3,y4,y5,y6,y7,y8,y9,_)=>match(!(ieq y9 0))with
  |true=>some (.inr (.inr (.inl (y1,y2,y3,y4,y5,y6,y7,y8,y9,()))))
  |false=>some (.inl (a0,a1,a2,a3,y1,y2,y3,y4,y5,y6,y7,y8,a12,a13,(IntKind.wrap .i64 (a14+1)),()))
 |false=>some (.inr (.inl (a0,a1,a2,a3,a4,a5,a6,a7,a8,a9,a10,a11,())))
def RX[Lk]:(Int×Int×Int×List U4×Unit)→Option (((((List U6)×Int×(List Bool)×Unit)×(List U4)×Bool×Int×Int×Unit)×List U3×Int×Unit)):=fun(a0,a1,a2,a3,_)=>
 match AEU (a0,a1,a2,())with|none=>none|some (y0,y1,y2,y3,y4,y5,y6,y7,_)=>match(!(ieq y7 0))with
 |true=>some (((([]:List U6),(0,(([]:List (Bool)),()))),(([]:List U4),(false,(0,(0,()))))),([]:List U3),y7,())
 |false=>match AX EX many (0,false,0,0,y0,y1,y2,y3,y4,y5,y6,([]:List U3),a3,(AN a3),0,())with|none=>none|some r=>match r with
 |.inl (o8,o9,o10,o11,o12,o13,o14,o15,o16,o17,o18,o19,_)=>match RY (o12,o13,o14,o15,o16,o17,o18,o19,())with|none=>none|some (y20,y21,y22,y23,y24,y25,y26,y27,y28,_)=>some (((y20,(y21,(y22,()))),(y23,(y24,(y25,(y26,()))))),y27,y28,())
 |.inr r=>match r with
 |.inl (o29,o30,o31,o32,o33,o34,o35,o36,o37,_)=>some (((o29,(o30,(o31,()))),(o32,(o33,(o34,(o35,()))))),o36,o37,())
 |.inr _=>none
def ADa[Lk]:=fun v=>Lk.f (RX v)
theorem AIR v:ADa v=RX v:=AJ _
abbrev VC:AE:=[(.tmp 0,.dat Vg),(.tmp 1,.dat Vb)]
abbrev VB:AE:=[(.tmp 0,.own 182 U2)]
abbrev VA:List RS:=[.one]
abbrev ADk:AE:=[(.tmp 2,.box 7),(.cell 0 0,.dat Uc),(.cell 0 1,.di),(.cell 0 2,.dat Ut),(.cell 0 3,.dat Uh),(.cell 0 4,.dat .bool),(.cell 0 5,.di),(.cell 0 6,.di),(.tmp 5,.own 182 U2),(.tmp 9,.dat Vb),(.tmp 10,.di),(.tmp 11,.di)]
abbrev ADj:At:=[(.exit 0,[(.tmp 5,.own 182 U2)])]
def EF[Lk]:(List U6×Int×List Bool×List U4×Bool×Int×Int×List U1×List U3×Int×Int×Unit)→Option ((List U6×Int×List Bool×List U4×Bool×Int×Int×List U1×List U3×Int×Int×Unit)⊕Ul⊕Unit):=fun(a0,a1,a2,a3,a4,a5,a6,a7,a8,a9,a10,_)=>
 match(ilt a10 a9)with
 |true=>match idx a8 a10 with|none=>none|some x0=>match x0.2.2.2.1 with
  |true=>some (.inl (a0,a1,a2,a3,a4,a5,a6,a7,a8,a9,(IntKind.wrap .i64 (a10+1)),()))
  |false=>match(ilt x0.2.2.1 0)with
  |true=>some (.inl (a0,a1,a2,a3,a4,a5,a6,a7,a8,a9,(IntKind.wrap .i64 (a10+1)),()))
  |false=>match(ile (AN a0) x0.2.2.1)with
  |true=>some (.inl (a0,a1,a2,a3,a4,a5,a6,a7,a8,a9,(IntKind.wrap .i64 (a10+1)),()))
  |false=>match idx a0 x0.2.2.1 with|none=>none|some x1=>match(fits ((AN a7)+(AN ([(x1.1,(x1.2.1,()))]:List U1))))with
  |true=>some (.inl (a0,a1,a2,a3,a4,a5,a6,(BV a7 ([(x1.1,(x1.2.1,()))]:List U1)),a8,a9,(IntKind.wrap .i64 (a10+1)),()))
  |false=>none
 |false=>some (.inr (.inl (a7,())))
def Nk[Lk]:((((List U6)×Int×(List Bool)×Unit)×(List U4)×Bool×Int×Int×Unit)×List U3×Unit)→Option (Ul):=fun(a0,a1,_)=>
 match AX EF many (a0.1.1,a0.1.2.1,a0.1.2.2.1,a0.2.1,a0.2.2.1,a0.2.2.2.1,a0.2.2.2.2.1,([]:List U1),a1,(AN a1),0,())with|none=>none|some r=>match r with
 |.inl (o0,_)=>some (o0,())
 |.inr _=>none
def Ra[Lk]:=fun v=>Lk.f (Nk v)
theorem ADl v:Ra v=Nk v:=AJ _
abbrev AC7:AE:=[(.tmp 0,.dat Uf)]
abbrev AC6:AE:=[(.tmp 0,.dat .bool)]
abbrev AC5:List RS:=[.one]
def RO[Lk]:(Ur×Unit)→Option (Uj):=fun(a0,_)=>
 match(ile 1 a0.1)with
 |true=>match(ile a0.1 100)with
  |true=>match(ile 1 a0.2.1)with
   |true=>match(ile a0.2.1 8)with
    |true=>some ((ile (AN a0.2.2.1) 4000),())
    |false=>some (false,())
   |false=>some (false,())
  |false=>some (false,())
 |false=>some (false,())
def AC8[Lk]:=fun v=>Lk.f (RO v)
theorem AIB v:AC8 v=RO v:=AJ _
abbrev ADC:AE:=[(.tmp 0,.di),(.tmp 1,.dat Uf)]
abbrev ADB:AE:=[(.tmp 0,.own 3 U0),(.tmp 1,.di),(.tmp 2,.di)]
abbrev ADA:List RS:=[.one,.one,.one]
abbrev AIE:AE:=[(.tmp 8,.own 193 U5),(.tmp 10,.own 3 U0),(.tmp 12,.box 2),(.cell 2 0,.di),(.cell 2 1,.di),(.tmp 44,.own 182 U2),(.tmp 45,.di),(.tmp 46,.di),(.tmp 54,.di),(.tmp 55,.di)]
abbrev AIC:At:=[(.exit 2,[(.tmp 8,.own 193 U5),(.tmp 10,.own 3 U0),(.tmp 44,.own 182 U2),(.tmp 45,.di),(.tmp 46,.di)])]
def Fm[Lk]:(List U3×List Int×Int×Int×List U1×Int×Int×Int×Int×Unit)→Option ((List U3×List Int×Int×Int×List U1×Int×Int×Int×Int×Unit)⊕(List U3×List Int×List U1×Int×Int×Unit)⊕Unit):=fun(a0,a1,a2,a3,a4,a5,a6,a7,a8,_)=>
 match(ilt a8 a7)with
 |true=>match(fits ((AN a1)+(AN ([(IntKind.wrap .i64 (a2+a8))]:List (Int)))))with
  |true=>some (.inl (a0,(BV a1 ([(IntKind.wrap .i64 (a2+a8))]:List (Int))),a2,a3,a4,a5,a6,a7,(IntKind.wrap .i64 (a8+1)),()))
  |false=>none
 |false=>some (.inr (.inl (a0,a1,a4,a5,a6,())))
abbrev AIF:AE:=[(.tmp 8,.own 193 U5),(.tmp 10,.own 3 U0),(.tmp 44,.own 182 U2),(.tmp 45,.di),(.tmp 46,.di)]
abbrev AID:At:=[(.exit 0,[(.tmp 8,.own 193 U5),(.tmp 10,.own 3 U0)])]
def Fp[Lk]:(List U3×List Int×List U1×Int×Int×Unit)→Option ((List U3×List Int×List U1×Int×Int×Unit)⊕(List U3×List Int×Unit)⊕Unit):=fun(a0,a1,a2,a3,a4,_)=>
 match(ilt a4 a3)with
 |true=>match idx a2 a4 with|none=>none|some x0=>match AX Fm many (a0,a1,(AW a2 (AM a4) (0,(0,()))).1,(AW a2 (AM a4) (0,(0,()))).2.1,a2,a3,a4,(IntKind.wrap .i64 ((AW a2 (AM a4) (0,(0,()))).2.1-(AW a2 (AM a4) (0,(0,()))).1)),0,())with|none=>none|some r=>match r with
  |.inl (o1,o2,o3,o4,o5,_)=>some (.inl (o1,o2,o3,o4,(IntKind.wrap .i64 (o5+1)),()))
  |.inr _=>none
 |false=>some (.inr (.inl (a0,a1,())))
def Jh[Lk]:(Int×Ur×Unit)→Option (Uv):=fun(a0,a1,_)=>
 match(ilt a0 0)with
 |true=>some (([]:List (Int)),0,1,())
 |false=>match(ilt 1000 a0)with
 |true=>some (([]:List (Int)),0,1,())
 |false=>match AC8 ((a1.1,(a1.2.1,(a1.2.2.1,()))),())with|none=>none|some (y0,_)=>match(!y0)with
 |true=>some (([]:List (Int)),0,1,())
 |false=>match(ieq a0 0)with
 |true=>some (([]:List (Int)),0,0,())
 |false=>match ADa (a0,a1.1,a1.2.1,a1.2.2.1,())with|none=>none|some (y1,y2,y3,_)=>match(!(ieq y3 0))with
 |true=>some (([]:List (Int)),0,y3,())
 |false=>match Ra (((y1.1.1,(y1.1.2.1,(y1.1.2.2.1,()))),(y1.2.1,(y1.2.2.1,(y1.2.2.2.1,(y1.2.2.2.2.1,()))))),y2,())with|none=>none|some (y4,_)=>match AX Fp many (y2,([]:List (Int)),y4,(AN y4),0,())with|none=>none|some r=>match r with
 |.inl (o5,o6,_)=>some (o6,(AN o5),0,())
 |.inr _=>none
def CM[Lk]:=fun v=>Lk.f (Jh v)
theorem Nh v:CM v=Jh v:=AJ _
abbrev AAD:AE:=[(.tmp 0,.di)]
abbrev AAC:AE:=[(.tmp 0,.dat .bool)]
abbrev AAB:List RS:=[.one]
def Qa[Lk]:Ua→Option (Uj):=fun(a0,_)=>
 match(ile 1 a0)with
 |true=>some ((ile a0 100),())
 |false=>some (false,())
def TD[Lk]:=fun v=>Lk.f (Qa v)
theorem AG8 v:TD v=Qa v:=AJ _
abbrev TM:AE:=[(.tmp 0,.di),(.tmp 1,.di)]
abbrev TL:AE:=[(.tmp 0,.di)]
abbrev TK:List RS:=[.one]
def NP[Lk]:U1→Option (Ua):=fun(a0,a1,_)=>
 match(ilt a0 0)with
 |true=>some (0,())
 |false=>match(ilt 1000 a0)with
 |true=>some (0,())
 |false=>match TD (a1,())with|none=>none|some (y0,_)=>match(!y0)with
 |true=>some (0,())
 |false=>match quo? .i64 (IntKind.wrap .i64 ((IntKind.wrap .i64 (a0+a1))-1)) a1 with|none=>none|some x1=>some (x1,())
def Qe[Lk]:=fun v=>Lk.f (NP v)
theorem AAL v:Qe v=NP v:=AJ _
abbrev AJ4:AE:=[(.tmp 0,.dat V0),(.tmp 1,.di),(.tmp 2,.di)]
abbrev AJ3:AE:=[(.tmp 0,.dat V0)]
abbrev AJ2:List RS:=[.one]
def Yk[Lk]:Uv→Option (Up):=fun(a0,a1,a2,_)=>
 match D6 a0 (IntKind.wrap .i64 (a1*a2)) (B5 (AN a0) (IntKind.wrap .i64 ((IntKind.wrap .i64 (a1+1))*a2)))with|none=>none|some x0=>some (x0,())
def AHA[Lk]:=fun v=>Lk.f (Yk v)
theorem AOo v:AHA v=Yk v:=AJ _
abbrev AAY:AE:=[(.tmp 0,.dat V0),(.tmp 1,.clo 137 [])]
abbrev AAX:AE:=[(.tmp 0,.own 87 Ue),(.tmp 1,.dat Ue)]
abbrev AAW:List RS:=[.one,.one]
abbrev AHL:AE:=[(.tmp 1,.clo 137 []),(.tmp 6,.own 87 Ue),(.tmp 7,.dat Ue),(.tmp 13,.dat V0),(.tmp 14,.di),(.tmp 15,.di)]
abbrev AHK:At:=[(.exit 0,[(.tmp 6,.own 87 Ue),(.tmp 7,.dat Ue)])]
def FK[Lk]:(List Int×Int×List Int×Int×Int×Unit)→Option ((List Int×Int×List Int×Int×Int×Unit)⊕Vf⊕Unit):=fun(a0,a1,a2,a3,a4,_)=>
 match(ilt a4 a3)with
 |true=>match idx a2 a4 with|none=>none|some x0=>match idx a0 a4 with|none=>none|some x1=>some (.inl ((Az a0 (AM a4) a1),(IntKind.wrap .u32 (a1+x0)),a2,a3,(IntKind.wrap .i64 (a4+1)),()))
 |false=>some (.inr (.inl (a0,a1,())))
def Qh[Lk]:Up→Option (Vf):=fun(a0,_)=>
 match(CK (AN a0)&&CK (AN a0)&&ile (AN a0) (AN a0)&&true)with
 |true=>match AX FK many ((Du (AM (AN a0)) (0:Int)),(0:Int),a0,(AN a0),(0:Int),())with|none=>none|some r=>match r with
  |.inl (o0,o1,_)=>some (o0,o1,())
  |.inr _=>none
 |false=>none
def O6[Lk]:=fun v=>Lk.f (Qh v)
theorem AHM v:O6 v=Qh v:=AJ _
abbrev TG:AE:=[(.tmp 0,.dat V0),(.tmp 1,.di),(.tmp 2,.dat Uf),(.tmp 3,.clo 137 [])]
abbrev TF:AE:=[(.tmp 0,.own 87 Ue),(.tmp 1,.dat Ue),(.tmp 2,.di),(.tmp 3,.di)]
abbrev TE:List RS:=[.one,.one,.one,.one]
abbrev AAH:AE:=[(.tmp 0,.dat V0),(.tmp 1,.di),(.tmp 3,.clo 137 []),(.tmp 8,.own 87 Ue),(.tmp 9,.dat Ue),(.tmp 10,.di),(.tmp 17,.own 87 Ue),(.tmp 19,.di),(.tmp 76,.own 3 U0),(.tmp 77,.di),(.tmp 78,.di),(.tmp 91,.own 87 Ue),(.tmp 92,.di),(.tmp 93,.di)]
abbrev AAE:At:=[(.exit 4,[(.tmp 0,.dat V0),(.tmp 1,.di),(.tmp 3,.clo 137 []),(.tmp 8,.own 87 Ue),(.tmp 9,.dat Ue),(.tmp 10,.di),(.tmp 17,.own 87 Ue),(.tmp 76,.own 3 U0),(.tmp 77,.di),(.tmp 78,.di)])]
def D7[Lk]:Vl→Option (Vl⊕Vd⊕Unit):=fun(a0,a1,a2,a3,a4,a5,a6,a7,a8,a9,a10,a11,a12,_)=>
 match(ilt a12 a11)with
 |true=>match idx a10 a12 with|none=>none|some x0=>match idx a5 a6 with|none=>none|some x1=>match idx a2 (IntKind.wrap .i64 ((IntKind.wrap .i64 (a6*a1))+a12))with|none=>none|some x2=>some (.inl (a0,a1,(Az a2 (AM (IntKind.wrap .i64 ((IntKind.wrap .i64 (a6*a1))+a12))) (IntKind.wrap .u32 ((AW a5 (AM a6) 0)+(AW a10 (AM a12) 0)))),a3,a4,a5,a6,a7,a8,a9,a10,a11,(IntKind.wrap .i64 (a12+1)),()))
 |false=>some (.inr (.inl (a0,a1,a2,a3,a4,a5,a7,a8,a9,())))
abbrev AAI:AE:=[(.tmp 0,.dat V0),(.tmp 1,.di),(.tmp 3,.clo 137 []),(.tmp 8,.own 87 Ue),(.tmp 9,.dat Ue),(.tmp 10,.di),(.tmp 17,.own 87 Ue),(.tmp 76,.own 3 U0),(.tmp 77,.di),(.tmp 78,.di)]
abbrev AAF:At:=[(.exit 2,[(.tmp 8,.own 87 Ue),(.tmp 9,.dat Ue),(.tmp 10,.di)])]
def D8[Lk]:Vd→Option (Vd⊕Uv⊕Unit):=fun(a0,a1,a2,a3,a4,a5,a6,a7,a8,_)=>
 match(ilt a8 a7)with
 |true=>match idx a6 a8 with|none=>none|some x0=>match AHA (a0,(AW a6 (AM a8) 0),a1,())with|none=>none|some (y1,_)=>match O6 (y1,())with|none=>none|some (y2,y3,_)=>match AX D7 many (a0,a1,a2,a3,a4,a5,(AW a6 (AM a8) 0),a6,a7,a8,y2,(AN y2),0,())with|none=>none|some r=>match r with
  |.inl (o4,o5,o6,o7,o8,o9,o10,o11,o12,_)=>some (.inl (o4,o5,o6,o7,o8,o9,o10,o11,(IntKind.wrap .i64 (o12+1)),()))
  |.inr _=>none
 |false=>some (.inr (.inl (a2,a3,a4,())))
abbrev AAJ:AE:=[(.tmp 0,.dat V0),(.tmp 1,.di),(.tmp 3,.clo 137 []),(.tmp 10,.di),(.tmp 13,.own 3 U0),(.tmp 14,.own 87 Ue),(.tmp 48,.own' 0),(.tmp 49,.di),(.tmp 50,.di)]
abbrev AAG:At:=[(.exit 0,[(.tmp 0,.dat V0),(.tmp 1,.di),(.tmp 3,.clo 137 []),(.tmp 10,.di),(.tmp 13,.own 3 U0),(.tmp 14,.own 87 Ue)])]
def D9[Lk]:(List Int×Int×Int×List Int×List Int×Int×Int×Unit)→Option ((List Int×Int×Int×List Int×List Int×Int×Int×Unit)⊕(List Int×Int×Int×List Int×List Int×Unit)⊕Unit):=fun(a0,a1,a2,a3,a4,a5,a6,_)=>
 match(ilt a6 a5)with
 |true=>match idx a3 a6 with|none=>none|some x0=>match AHA (a0,(AW a3 (AM a6) 0),a1,())with|none=>none|some (y1,_)=>match O6 (y1,())with|none=>none|some (y2,y3,_)=>match idx a4 (AW a3 (AM a6) 0)with|none=>none|some x4=>some (.inl (a0,a1,a2,a3,(Az a4 (AM (AW a3 (AM a6) 0)) y3),a5,(IntKind.wrap .i64 (a6+1)),()))
 |false=>some (.inr (.inl (a0,a1,a2,a3,a4,())))
def JL[Lk]:(List Int×Int×Ur×Unit)→Option (Vn):=fun(a0,a1,a2,_)=>
 match TD (a1,())with|none=>none|some (y0,_)=>match(!y0)with
 |true=>some (([]:List (Int)),0,0,1,())
 |false=>match(ilt 1000 (AN a0))with
 |true=>some (([]:List (Int)),0,0,1,())
 |false=>match Qe ((AN a0),a1,())with|none=>none|some (y1,_)=>match CM (y1,(a2.1,(a2.2.1,(a2.2.2.1,()))),())with|none=>none|some (y2,y3,y4,_)=>match(!(ieq y4 0))with
 |true=>some (([]:List (Int)),0,0,y4,())
 |false=>match(CK y1&&CK y1&&ile y1 y1&&true)with
 |true=>match AX D9 many (a0,a1,y3,y2,(Du (AM y1) (0:Int)),(AN y2),(0:Int),())with|none=>none|some r=>match r with
  |.inl (o5,o6,o7,o8,o9,_)=>match O6 (o9,())with|none=>none|some (y10,y11,_)=>match(CK (AN o5)&&CK (AN o5)&&ile (AN o5) (AN o5)&&true)with
   |true=>match AX D8 many (o5,o6,(Du (AM (AN o5)) (0:Int)),y11,o7,y10,o8,(AN o8),(0:Int),())with|none=>none|some r=>match r with
    |.inl (o12,o13,o14,_)=>some (o12,o13,(IntKind.wrap .i64 (2*o14)),0,())
    |.inr _=>none
   |false=>none
  |.inr _=>none
 |false=>none
def NO[Lk]:=fun v=>Lk.f (JL v)
theorem Oy v:NO v=JL v:=AJ _
abbrev AJ0:AE:=[(.tmp 0,.dat V0),(.tmp 1,.di),(.tmp 2,.dat Uf)]
abbrev AJz:AE:=[(.tmp 0,.own 87 Ue),(.tmp 1,.dat Ue),(.tmp 2,.di),(.tmp 3,.di)]
abbrev AJy:List RS:=[.one,.one,.one,.one]
def QZ[Lk]:(List Int×Int×Ur×Unit)→Option (Vn):=fun(a0,a1,a2,_)=>
 match NO (a0,a1,(a2.1,(a2.2.1,(a2.2.2.1,()))),())with|none=>none|some (y0,y1,y2,y3,_)=>some (y0,y1,y2,y3,())
def Ws[Lk]:=fun v=>Lk.f (QZ v)
theorem AAA v:Ws v=QZ v:=AJ _
abbrev ABF:AE:=[(.tmp 0,.dat Ut),(.tmp 1,.dat .bool)]
abbrev ABE:AE:=[(.tmp 0,.own 87 Ue)]
abbrev ABD:List RS:=[.one]
abbrev AHa:AE:=[(.tmp 1,.dat .bool),(.tmp 5,.own 87 Ue),(.tmp 11,.dat Ut),(.tmp 12,.di),(.tmp 13,.di)]
abbrev AHZ:At:=[(.exit 0,[(.tmp 5,.own 87 Ue)])]
def FP[Lk]:(Bool×List Int×List Bool×Int×Int×Unit)→Option ((Bool×List Int×List Bool×Int×Int×Unit)⊕Up⊕Unit):=fun(a0,a1,a2,a3,a4,_)=>
 match(ilt a4 a3)with
 |true=>match idx a2 a4 with|none=>none|some x0=>match(!(x0==a0))with
  |true=>match idx a1 a4 with|none=>none|some x1=>some (.inl (a0,(Az a1 (AM a4) 1),a2,a3,(IntKind.wrap .i64 (a4+1)),()))
  |false=>some (.inl (a0,a1,a2,a3,(IntKind.wrap .i64 (a4+1)),()))
 |false=>some (.inr (.inl (a1,())))
def Qu[Lk]:(List Bool×Bool×Unit)→Option (Up):=fun(a0,a1,_)=>
 match(CK (AN a0)&&CK (AN a0)&&ile (AN a0) (AN a0)&&true)with
 |true=>match AX FP many (a1,(Du (AM (AN a0)) (0:Int)),a0,(AN a0),(0:Int),())with|none=>none|some r=>match r with
  |.inl (o0,_)=>some (o0,())
  |.inr _=>none
 |false=>none
def ABH[Lk]:=fun v=>Lk.f (Qu v)
theorem AHb v:ABH v=Qu v:=AJ _
abbrev TW:AE:=[(.tmp 0,.dat V0),(.tmp 1,.di),(.tmp 2,.dat Uf)]
abbrev TV:AE:=[(.tmp 0,.own 3 U0),(.tmp 1,.di),(.tmp 2,.di)]
abbrev TU:List RS:=[.one,.one,.one]
abbrev ABA:AE:=[(.tmp 0,.dat V0),(.tmp 9,.own 87 Ue),(.tmp 11,.di),(.tmp 14,.di),(.tmp 15,.own 3 U0),(.tmp 43,.own 3 U0),(.tmp 44,.di),(.tmp 45,.di)]
abbrev AA9:At:=[(.exit 0,[(.tmp 11,.di),(.tmp 14,.di),(.tmp 15,.own 3 U0)])]
def ED[Lk]:V5→Option (V5⊕(Int×Int×List Int×Unit)⊕Unit):=fun(a0,a1,a2,a3,a4,a5,a6,a7,_)=>
 match(ilt a7 a6)with
 |true=>match idx a5 a7 with|none=>none|some x0=>match idx a0 (AW a5 (AM a7) 0)with|none=>none|some x1=>match(ieq x1 1)with
  |true=>match idx a1 (AW a5 (AM a7) 0)with|none=>none|some x2=>match idx a4 (AW a1 (AM (AW a5 (AM a7) 0)) 0)with|none=>none|some x3=>some (.inl (a0,a1,a2,a3,(Az a4 (AM (AW a1 (AM (AW a5 (AM a7) 0)) 0)) (AW a5 (AM a7) 0)),a5,a6,(IntKind.wrap .i64 (a7+1)),()))
  |false=>some (.inl (a0,a1,a2,a3,a4,a5,a6,(IntKind.wrap .i64 (a7+1)),()))
 |false=>some (.inr (.inl (a2,a3,a4,())))
def NU[Lk]:(List Int×Int×Ur×Unit)→Option (Uv):=fun(a0,a1,a2,_)=>
 match Ws (a0,a1,(a2.1,(a2.2.1,(a2.2.2.1,()))),())with|none=>none|some (y0,y1,y2,y3,_)=>match(!(ieq y3 0))with
 |true=>some (([]:List (Int)),0,y3,())
 |false=>match CM ((AN a0),(a2.1,(a2.2.1,(a2.2.2.1,()))),())with|none=>none|some (y4,y5,y6,_)=>match(!(ieq y6 0))with
 |true=>some (([]:List (Int)),0,y6,())
 |false=>match(CK y1&&CK y1&&ile y1 y1&&true)with
 |true=>match AX ED many (a0,y0,y2,y5,(Du (AM y1) (0:Int)),y4,(AN y4),(0:Int),())with|none=>none|some r=>match r with
  |.inl (o7,o8,o9,_)=>some (o9,(IntKind.wrap .i64 (o7+o8)),0,())
  |.inr _=>none
 |false=>none
def Qt[Lk]:=fun v=>Lk.f (NU v)
theorem ABB v:Qt v=NU v:=AJ _
abbrev AA5:AE:=[(.tmp 0,.dat Ut),(.tmp 1,.di),(.tmp 2,.dat Uf)]
abbrev AA4:AE:=[(.tmp 0,.own 3 U0),(.tmp 1,.di),(.tmp 2,.di)]
abbrev AA3:List RS:=[.one,.one,.one]
def Qs[Lk]:(List Bool×Int×Ur×Unit)→Option (Uv):=fun(a0,a1,a2,_)=>
 match ABH (a0,false,())with|none=>none|some (y0,_)=>match Qt (y0,a1,(a2.1,(a2.2.1,(a2.2.2.1,()))),())with|none=>none|some (y1,y2,y3,_)=>some (y1,y2,y3,())
def AA6[Lk]:=fun v=>Lk.f (Qs v)
theorem AHV v:AA6 v=Qs v:=AJ _
abbrev AKW:AE:=[(.tmp 0,.dat V0),(.tmp 1,.di),(.tmp 2,.di),(.tmp 3,.dat Uf)]
abbrev AKV:AE:=[(.tmp 0,.own 3 U0),(.tmp 1,.di),(.tmp 2,.di)]
abbrev AKU:List RS:=[.one,.one,.one]
abbrev APJ:AE:=[(.tmp 0,.dat V0),(.tmp 1,.di),(.tmp 11,.di),(.tmp 14,.di),(.tmp 16,.own 3 U0),(.tmp 45,.di),(.tmp 46,.di)]
abbrev APH:At:=[(.exit 2,[(.tmp 11,.di),(.tmp 14,.di),(.tmp 16,.own 3 U0)])]
def HS[Lk]:V9→Option (V9⊕(Int×Int×List Int×Unit)⊕Unit):=fun(a0,a1,a2,a3,a4,a5,a6,_)=>
 match(ilt a6 a5)with
 |true=>match rby (a0,a4,a6,a1,())with|none=>none|some (y0,_)=>some (.inl (a0,a1,a2,a3,y0,a5,(IntKind.wrap .i64 (a6+1)),()))
 |false=>some (.inr (.inl (a2,a3,a4,())))
abbrev APK:AE:=[(.tmp 0,.dat V0),(.tmp 1,.di),(.tmp 11,.di),(.tmp 14,.di),(.tmp 16,.own 3 U0),(.tmp 36,.di),(.tmp 37,.di)]
abbrev API:At:=[(.exit 0,[(.tmp 0,.dat V0),(.tmp 1,.di),(.tmp 11,.di),(.tmp 14,.di),(.tmp 16,.own 3 U0)])]
def HT[Lk]:V9→Option (V9⊕(List Int×Int×Int×Int×List Int×Unit)⊕Unit):=fun(a0,a1,a2,a3,a4,a5,a6,_)=>
 match(ilt a6 a5)with
 |true=>match(fits ((AN a4)+(AN ([a6]:List (Int)))))with
  |true=>some (.inl (a0,a1,a2,a3,(BV a4 ([a6]:List (Int))),a5,(IntKind.wrap .i64 (a6+1)),()))
  |false=>none
 |false=>some (.inr (.inl (a0,a1,a2,a3,a4,())))
def Qk[Lk]:(List Int×Int×Int×Ur×Unit)→Option (Uv):=fun(a0,a1,a2,a3,_)=>
 match KA (a1,())with|none=>none|some (y0,_)=>match(ieq y0 0)with
 |true=>some (([]:List (Int)),0,1,())
 |false=>match Ws (a0,a2,(a3.1,(a3.2.1,(a3.2.2.1,()))),())with|none=>none|some (y1,y2,y3,y4,_)=>match(!(ieq y4 0))with
 |true=>some (([]:List (Int)),0,y4,())
 |false=>match AX HT many (a0,a1,y0,y3,([]:List (Int)),(AN a0),0,())with|none=>none|some r=>match r with
 |.inl (o5,o6,o7,o8,o9,_)=>match AX HS many (o5,o6,o7,o8,o9,o7,0,())with|none=>none|some r=>match r with
  |.inl (o10,o11,o12,_)=>some (o12,(IntKind.wrap .i64 (o11*o10)),0,())
  |.inr _=>none
 |.inr _=>none
def AAk[Lk]:=fun v=>Lk.f (Qk v)
theorem AAi v:AAk v=Qk v:=AJ _
abbrev TP:AE:=[(.tmp 0,.dat V0),(.tmp 1,.dat U7)]
abbrev TO:AE:=[(.tmp 0,.own 87 Ue),(.tmp 1,.dat .bool)]
abbrev TN:List RS:=[.one,.one]
abbrev AAg:AE:=[(.tmp 0,.dat V0),(.tmp 6,.own 87 Ue),(.tmp 14,.dat U7),(.tmp 15,.di),(.tmp 16,.di)]
abbrev AAf:At:=[(.exit 0,[(.tmp 6,.own 87 Ue)])]
def EB[Lk]:Ve→Option (Ve⊕Up⊕Unit):=fun(a0,a1,a2,a3,a4,_)=>
 match(ilt a4 a3)with
 |true=>match idx a2 a4 with|none=>none|some x0=>match idx a0 x0 with|none=>none|some x1=>match(fits ((AN a1)+(AN ([x1]:List (Int)))))with
  |true=>some (.inl (a0,(BV a1 ([x1]:List (Int))),a2,a3,(IntKind.wrap .i64 (a4+1)),()))
  |false=>none
 |false=>some (.inr (.inl (a1,())))
def NQ[Lk]:(List Int×List Int×Unit)→Option ((List Int×Bool×Unit)):=fun(a0,a1,_)=>
 match APW (a1,(AN a0),())with|none=>none|some (y0,_)=>match(!y0)with
 |true=>some (([]:List (Int)),false,())
 |false=>match AX EB many (a0,([]:List (Int)),a1,(AN a1),0,())with|none=>none|some r=>match r with
 |.inl (o1,_)=>some (o1,true,())
 |.inr _=>none
def NR[Lk]:=fun v=>Lk.f (NQ v)
theorem AAh v:NR v=NQ v:=AJ _
end
end Go.Pev
end
section
namespace Go.Pev
noncomputable section
attribute [local irreducible] OV Ks N3 OC Ah3 Ah4 Ah6 Qr AFn Qd YD K2 Aj many IntKind.wrap AN Az AW BV Bu Fv Du AM Br B5 imax AR Ad
abbrev VG:AE:=[(.tmp 0,.dat V0),(.tmp 1,.dat Vc)]
abbrev VF:AE:=[(.tmp 0,.own 87 Ue),(.tmp 1,.own 3 U0),(.tmp 2,.di),(.tmp 3,.di)]
abbrev VE:List RS:=[.one,.one,.one,.one]
abbrev ADn:AE:=[(.tmp 9,.di),(.tmp 11,.own 87 Ue),(.tmp 13,.own 3 U0),(.tmp 14,.di),(.tmp 15,.own 87 Ue),(.tmp 16,.own 3 U0),(.tmp 55,.own' 1),(.tmp 56,.di),(.tmp 57,.di)]
abbrev ADm:At:=[(.exit 0,[(.tmp 9,.di),(.tmp 14,.di),(.tmp 15,.own 87 Ue),(.tmp 16,.own 3 U0)])]
def EG[Lk]:(Int×List Int×List Int×Int×List Int×List Int×Int×Int×Unit)→Option ((Int×List Int×List Int×Int×List Int×List Int×Int×Int×Unit)⊕(Int×Int×List Int×List Int×Unit)⊕Unit):=fun(a0,a1,a2,a3,a4,a5,a6,a7,_)=>
 match(ilt a7 a6)with
 |true=>match idx a2 a7 with|none=>none|some x0=>match(ilt (IntKind.wrap .i64 (a7+1)) (AN a2))with
  |true=>match idx a2 (IntKind.wrap .i64 (a7+1))with|none=>none|some x1=>match idx a1 (AW a2 (AM a7) 0)with|none=>none|some x2=>match(fits ((AN a4)+(AN ([(AW a1 (AM (AW a2 (AM a7) 0)) 0)]:List (Int)))))with
   |true=>match(fits ((AN a5)+(AN ([(IntKind.wrap .i64 ((AW a2 (AM (IntKind.wrap .i64 (a7+1))) 0)-(AW a2 (AM a7) 0)))]:List (Int)))))with
    |true=>some (.inl (a0,a1,a2,a3,(BV a4 ([(AW a1 (AM (AW a2 (AM a7) 0)) 0)]:List (Int))),(BV a5 ([(IntKind.wrap .i64 ((AW a2 (AM (IntKind.wrap .i64 (a7+1))) 0)-(AW a2 (AM a7) 0)))]:List (Int))),a6,(IntKind.wrap .i64 (a7+1)),()))
    |false=>none
   |false=>none
  |false=>match idx a1 (AW a2 (AM a7) 0)with|none=>none|some x3=>match(fits ((AN a4)+(AN ([(AW a1 (AM (AW a2 (AM a7) 0)) 0)]:List (Int)))))with
  |true=>match(fits ((AN a5)+(AN ([(IntKind.wrap .i64 ((AN a1)-(AW a2 (AM a7) 0)))]:List (Int)))))with
   |true=>some (.inl (a0,a1,a2,a3,(BV a4 ([(AW a1 (AM (AW a2 (AM a7) 0)) 0)]:List (Int))),(BV a5 ([(IntKind.wrap .i64 ((AN a1)-(AW a2 (AM a7) 0)))]:List (Int))),a6,(IntKind.wrap .i64 (a7+1)),()))
   |false=>none
  |false=>none
 |false=>some (.inr (.inl (a0,a3,a4,a5,())))
def Jn[Lk]:(List Int×Vm×Unit)→Option ((List Int×List Int×Int×Int×Unit)):=fun(a0,a1,_)=>
 match AAk (a0,a1.1,a1.2.1,(a1.2.2.1.1,(a1.2.2.1.2.1,(a1.2.2.1.2.2.1,()))),())with|none=>none|some (y0,y1,y2,_)=>match(!(ieq y2 0))with
 |true=>some (([]:List (Int)),([]:List (Int)),0,y2,())
 |false=>match NR (a0,y0,())with|none=>none|some (y3,y4,_)=>match Rc (y3,())with|none=>none|some (y5,_)=>match AA6 (y5,a1.2.1,(a1.2.2.1.1,(a1.2.2.1.2.1,(a1.2.2.1.2.2.1,()))),())with|none=>none|some (y6,y7,y8,_)=>match(!(ieq y8 0))with
 |true=>some (([]:List (Int)),([]:List (Int)),0,y8,())
 |false=>match AX EG many (y1,y3,y6,y7,([]:List (Int)),([]:List (Int)),(AN y6),0,())with|none=>none|some r=>match r with
 |.inl (o9,o10,o11,o12,_)=>some (o11,o12,(IntKind.wrap .i64 (o9+o10)),0,())
 |.inr _=>none
def Nl[Lk]:=fun v=>Lk.f (Jn v)
theorem Pq v:Nl v=Jn v:=AJ _
abbrev AMZ:AE:=[(.tmp 0,.dat V0),(.tmp 1,.dat Vc)]
abbrev AMY:AE:=[(.tmp 0,.own 87 Ue),(.tmp 1,.di),(.tmp 2,.di)]
abbrev AMX:List RS:=[.one,.one,.one]
def RZ[Lk]:(List Int×Vm×Unit)→Option (Uv):=fun(a0,a1,_)=>
 match Nl (a0,(a1.1,(a1.2.1,((a1.2.2.1.1,(a1.2.2.1.2.1,(a1.2.2.1.2.2.1,()))),()))),())with|none=>none|some (y0,y1,y2,y3,_)=>some (y0,y2,y3,())
def Xd[Lk]:=fun v=>Lk.f (RZ v)
theorem ADh v:Xd v=RZ v:=AJ _
abbrev ADu:AE:=[(.tmp 0,.dat Uy),(.tmp 1,.dat Vc)]
abbrev ADt:AE:=[(.tmp 0,.own 45 U2),(.tmp 1,.di),(.tmp 2,.di)]
abbrev ADs:List RS:=[.one,.one,.one]
abbrev AIY:AE:=[(.tmp 13,.di),(.tmp 14,.di),(.tmp 15,.own 45 U2),(.tmp 48,.own 87 Ue),(.tmp 49,.di),(.tmp 50,.di)]
abbrev AIW:At:=[(.exit 2,[(.tmp 13,.di),(.tmp 14,.di),(.tmp 15,.own 45 U2)])]
def C5[Lk]:(Int×Int×List U1×List Int×Int×Int×Unit)→Option ((Int×Int×List U1×List Int×Int×Int×Unit)⊕(Int×Int×List U1×Unit)⊕Unit):=fun(a0,a1,a2,a3,a4,a5,_)=>
 match(ilt a5 a4)with
 |true=>match idx a3 a5 with|none=>none|some x0=>match ASP ((AW a3 (AM a5) 0),())with|none=>none|some (y1,_)=>match(fits ((AN a2)+(AN ([y1]:List U1))))with
  |true=>some (.inl (a0,a1,(BV a2 ([y1]:List U1)),a3,a4,(IntKind.wrap .i64 (a5+1)),()))
  |false=>none
 |false=>some (.inr (.inl (a0,a1,a2,())))
abbrev AIZ:AE:=[(.tmp 3,.box 5),(.cell 0 0,.di),(.cell 0 1,.di),(.cell 0 2,.di),(.cell 0 3,.di),(.cell 0 4,.dat (.slice (.arr 2 U0))),(.tmp 7,.own 87 Ue),(.tmp 18,.dat Uy),(.tmp 19,.di),(.tmp 20,.di)]
abbrev AIX:At:=[(.ret,[(.tmp 4,.nil U2),(.tmp 5,.di),(.tmp 6,.di)]),(.exit 0,[(.tmp 3,.box 5),(.cell 0 0,.di),(.cell 0 1,.di),(.cell 0 2,.di),(.cell 0 3,.di),(.cell 0 4,.dat (.slice (.arr 2 U0))),(.tmp 7,.own 87 Ue)])]
def Fu[Lk]:(Int×Int×Int×Int×List U4×List Int×List U1×Int×Int×Unit)→Option ((Int×Int×Int×Int×List U4×List Int×List U1×Int×Int×Unit)⊕U1⊕(Int×Int×Int×Int×List U4×List Int×Unit)⊕Unit):=fun(a0,a1,a2,a3,a4,a5,a6,a7,a8,_)=>
 match(ilt a8 a7)with
 |true=>match idx a6 a8 with|none=>none|some x0=>match Aiu ((x0.1,(x0.2.1,())),())with|none=>none|some (y1,y2,_)=>match(!y2)with
  |true=>some (.inr (.inl (0,10,())))
  |false=>match(!(ieq x0.1 x0.2.1))with
  |true=>match(fits ((AN a5)+(AN ([y1]:List (Int)))))with
   |true=>some (.inl (a0,a1,a2,a3,a4,(BV a5 ([y1]:List (Int))),a6,a7,(IntKind.wrap .i64 (a8+1)),()))
   |false=>none
  |false=>some (.inl (a0,a1,a2,a3,a4,a5,a6,a7,(IntKind.wrap .i64 (a8+1)),()))
 |false=>some (.inr (.inr (.inl (a0,a1,a2,a3,a4,a5,()))))
def MZ[Lk]:(List U1×Vm×Unit)→Option (Ud):=fun(a0,a1,_)=>
 match AX Fu many (a1.1,a1.2.1,a1.2.2.1.1,a1.2.2.1.2.1,a1.2.2.1.2.2.1,([]:List (Int)),a0,(AN a0),0,())with|none=>none|some r=>match r with
 |.inl (o0,o1,_)=>some (([]:List U1),o0,o1,())
 |.inr r=>match r with
 |.inl (o2,o3,o4,o5,o6,o7,_)=>match Xd (o7,(o2,(o3,((o4,(o5,(o6,()))),()))),())with|none=>none|some (y8,y9,y10,_)=>match AX C5 many (y9,y10,([]:List U1),y8,(AN y8),0,())with|none=>none|some r=>match r with
  |.inl (o11,o12,o13,_)=>some (o13,o11,o12,())
  |.inr _=>none
 |.inr _=>none
def VO[Lk]:=fun v=>Lk.f (MZ v)
theorem VN v:VO v=MZ v:=AJ _
abbrev KV:AE:=[(.tmp 0,.dat U7),(.cap 1 0,.box 2),(.cell 0 0,.di),(.cell 0 1,.dat Vb),(.tmp 1,.clo 30 [(0,0)])]
abbrev KU:AE:=[(.obj 0,.box 2),(.cell 0 0,.di),(.cell 0 1,.dat Vb),(.tmp 0,.di)]
abbrev KT:List RS:=[.one]
abbrev OJ:AE:=[(.obj 0,.box 2),(.cell 0 0,.di),(.cell 0 1,.dat Vb),(.tmp 0,.dat U7),(.tmp 1,.clo 30 [(0,0)]),(.tmp 7,.di),(.tmp 8,.di)]
abbrev OI:At:=[(.ret,[(.obj 0,.box 2),(.cell 0 0,.di),(.cell 0 1,.dat Vb),(.tmp 4,.di)]),(.exit 0,[(.obj 0,.box 2),(.cell 0 0,.di),(.cell 0 1,.dat Vb)])]
def Cc[Lk]:(Int×List U3×List Int×Int×Int×Unit)→Option ((Int×List U3×List Int×Int×Int×Unit)⊕(Int×List U3×Int×Unit)⊕(Int×List U3×Unit)⊕Unit):=fun(a0,a1,a2,a3,a4,_)=>
 match(ilt a4 a3)with
 |true=>match idx a2 a4 with|none=>none|some x0=>match(ile a0 x0)with
  |true=>some (.inr (.inl (a0,a1,a4,())))
  |false=>some (.inl (a0,a1,a2,a3,(IntKind.wrap .i64 (a4+1)),()))
 |false=>some (.inr (.inr (.inl (a0,a1,()))))
def Gz[Lk]:(List Int×Int×List U3×Unit)→Option ((Int×List U3×Int×Unit)):=fun(a0,a1,a2,_)=>
 match AX Cc many (a1,a2,a0,(AN a0),0,())with|none=>none|some r=>match r with
 |.inl (o0,o1,o2,_)=>some (o0,o1,o2,())
 |.inr r=>match r with
 |.inl (o3,o4,_)=>some (o3,o4,(-1:Int),())
 |.inr _=>none
def KX[Lk]:=fun v=>Lk.f (Gz v)
theorem OK v:KX v=Gz v:=AJ _
abbrev I3:AE:=[(.tmp 0,.dat U7),(.cap 1 0,.box 2),(.cell 0 0,.di),(.cell 0 1,.dat Vb),(.tmp 1,.clo 30 [(0,0)])]
abbrev I2:AE:=[(.obj 0,.box 2),(.cell 0 0,.di),(.cell 0 1,.dat Vb),(.tmp 0,.dat .bool)]
abbrev I1:List RS:=[.one]
def GM[Lk]:(List Int×Int×List U3×Unit)→Option ((Int×List U3×Bool×Unit)):=fun(a0,a1,a2,_)=>
 match KX (a0,a1,a2,())with|none=>none|some (y0,y1,y2,_)=>some (y0,y1,(ile 0 y2),())
def Gb[Lk]:=fun v=>Lk.f (GM v)
theorem Mf v:Gb v=GM v:=AJ _
abbrev AEu:AE:=[(.tmp 0,.dat Uz),(.tmp 1,.dat Uk),(.tmp 2,.dat Vc)]
abbrev AEt:AE:=[(.tmp 0,.di),(.tmp 1,.own 45 U2),(.tmp 2,.dat (.slice Uw)),(.tmp 3,.di),(.tmp 4,.di)]
abbrev AEs:List RS:=[.agg 3,.one,.one]
def Ju[Lk]:(V7×Us×Vm×Unit)→Option ((Int×List U1×List Ub×Int×Int×Unit)):=fun(a0,a1,a2,_)=>
 match FY ((a0.1,(a0.2.1,())),())with|none=>none|some (y0,_)=>match(!y0)with
 |true=>some (0,([]:List U1),([]:List Ub),0,1,())
 |false=>match ZM ((a1.1,(a1.2.1,(a1.2.2.1,()))),())with|none=>none|some (y1,_)=>match(!y1)with
 |true=>some (0,([]:List U1),([]:List Ub),0,1,())
 |false=>match AIs ((a1.1,(a1.2.1,(a1.2.2.1,()))),())with|none=>none|some (y2,_)=>match Gb (y2,a0.1,a0.2.1,())with|none=>none|some (y3,y4,y5,_)=>match y5 with
 |true=>some (0,([]:List U1),([]:List Ub),0,10,())
 |false=>match(ieq a1.1 3)with
 |true=>some (a1.1,([]:List U1),a1.2.2.1,0,0,())
 |false=>match VO (a1.2.1,(a2.1,(a2.2.1,((a2.2.2.1.1,(a2.2.2.1.2.1,(a2.2.2.1.2.2.1,()))),()))),())with|none=>none|some (y6,y7,y8,_)=>match(!(ieq y8 0))with
 |true=>some (0,([]:List U1),([]:List Ub),0,y8,())
 |false=>match(ieq a1.1 2)with
 |true=>match APs ((y3,(y4,())),y6,())with|none=>none|some (y9,y10,_)=>some (a1.1,y9,([]:List Ub),y7,y10,())
 |false=>match AiR ((y3,(y4,())),y6,())with|none=>none|some (y11,y12,_)=>match AIw ((y3,(y4,())),())with|none=>none|some (y13,_)=>match(ilt y13 (AN y11))with
 |true=>some (0,([]:List U1),([]:List Ub),0,2,())
 |false=>some (a1.1,y11,([]:List Ub),y7,y12,())
def F6[Lk]:=fun v=>Lk.f (Ju v)
theorem Nu v:F6 v=Ju v:=AJ _
abbrev AAP:AE:=[(.tmp 0,.dat Uk),(.tmp 1,.dat Uk)]
abbrev AAO:AE:=[(.tmp 0,.dat .bool)]
abbrev AAN:List RS:=[.one]
abbrev AHF:AE:=[(.tmp 2,.box 3),(.cell 0 0,.di),(.cell 0 1,.dat Uy),(.cell 0 2,.dat (.slice Uw)),(.tmp 3,.box 3),(.cell 1 0,.di),(.cell 1 1,.dat Uy),(.cell 1 2,.dat (.slice Uw)),(.tmp 5,.di)]
abbrev AHE:At:=[(.ret,[(.tmp 4,.dat .bool)]),(.exit 0,[])]
def FI[Lk]:(Int×List U1×List Ub×Int×List U1×List Ub×Int×Unit)→Option ((Int×List U1×List Ub×Int×List U1×List Ub×Int×Unit)⊕Uj⊕(Unit)⊕Unit):=fun(a0,a1,a2,a3,a4,a5,a6,_)=>
 match(ilt a6 (AN a2))with
 |true=>match idx a2 a6 with|none=>none|some x0=>match idx a5 a6 with|none=>none|some x1=>match(!(ieq x0.1 x1.1&&(ieq x0.2.1 x1.2.1&&(ieq x0.2.2.1 x1.2.2.1&&true))))with
  |true=>some (.inr (.inl (false,())))
  |false=>some (.inl (a0,a1,a2,a3,a4,a5,(IntKind.wrap .i64 (a6+1)),()))
 |false=>some (.inr (.inr (.inl ())))
def Qf[Lk]:(Us×Us×Unit)→Option (Uj):=fun(a0,a1,_)=>
 match(!(ieq a0.1 a1.1))with
 |true=>some (false,())
 |false=>match(!(ieq (AN a0.2.2.1) (AN a1.2.2.1)))with
 |true=>some (false,())
 |false=>match AAV (a0.2.1,a1.2.1,())with|none=>none|some (y0,_)=>match(!y0)with
 |true=>some (false,())
 |false=>match AX FI many (a0.1,a0.2.1,a0.2.2.1,a1.1,a1.2.1,a1.2.2.1,0,())with|none=>none|some r=>match r with
 |.inl (o1,_)=>some (o1,())
 |.inr r=>match r with
 |.inl _=>some (true,())
 |.inr _=>none
def O4[Lk]:=fun v=>Lk.f (Qf v)
theorem AHG v:O4 v=Qf v:=AJ _
end
end Go.Pev
end
section
namespace Go.Pev
noncomputable section
attribute [local irreducible] OV Ks N3 OC Ah3 Ah4 Ah6 Qr AFn Qd YD K2 Aj many IntKind.wrap AN Az AW BV Bu Fv Du AM Br B5 imax AR Ad
abbrev UO:AE:=[(.tmp 0,.dat Uz),(.tmp 1,.dat Uk),(.tmp 2,.dat Vc)]
abbrev UN:AE:=[(.tmp 0,.dat .bool)]
abbrev UM:List RS:=[.one]
def Nd[Lk]:(V7×Us×Vm×Unit)→Option (Uj):=fun(a0,a1,a2,_)=>
 match(ilt 30 (AN a0.2.1))with
 |true=>some (true,())
 |false=>match(ilt 12 a0.1)with
 |true=>some (true,())
 |false=>match(ilt 30 (IntKind.wrap .i64 ((AN a1.2.1)+(AN a1.2.2.1))))with
 |true=>some (true,())
 |false=>some ((ilt 60 (AN a2.2.2.1.2.2.1)),())
def Nf[Lk]:=fun v=>Lk.f (Nd v)
theorem ACx v:Nf v=Nd v:=AJ _
abbrev Vx:AE:=[]
abbrev Vw:AE:=[(.tmp 0,.dat .bool)]
abbrev Vv:List RS:=[.one]
def Vy[Lk]:(Unit)→Option (Uj):=fun _=>
 match F6 ((5,(([(1,(2,(0,(true,()))))]:List U3),())),(1,(([(2,(1,())),(4,(0,())),(3,(3,())),(0,(4,()))]:List U1),(([]:List Ub),()))),(8,(4,((1,(1,(([]:List U4),()))),()))),())with|none=>none|some (y0,y1,y2,y3,y4,_)=>match F6 ((5,(([(1,(2,(0,(true,()))))]:List U3),())),(2,(([(2,(1,())),(4,(0,())),(3,(3,())),(0,(4,()))]:List U1),(([]:List Ub),()))),(8,(4,((1,(1,(([]:List U4),()))),()))),())with|none=>none|some (y5,y6,y7,y8,y9,_)=>match F6 ((5,(([(1,(2,(0,(true,()))))]:List U3),())),(3,(([]:List U1),(([(4,(99,(0,())))]:List Ub),()))),(8,(4,((1,(1,(([]:List U4),()))),()))),())with|none=>none|some (y10,y11,y12,y13,y14,_)=>match F6 ((5,(([(1,(2,(0,(true,()))))]:List U3),())),(2,(([(5,(0,()))]:List U1),(([]:List Ub),()))),(8,(4,((1,(1,(([]:List U4),()))),()))),())with|none=>none|some (y15,y16,y17,y18,y19,_)=>match(ieq y4 0)with
 |true=>match(ieq y9 0)with
  |true=>match(ieq y14 0)with
   |true=>match(ieq y19 10)with
    |true=>match(ieq y3 y8)with
     |true=>match(ilt 0 y3)with
      |true=>match(ieq y13 0)with
       |true=>match O4 ((y0,(y1,(y2,()))),(1,(([(0,(4,()))]:List U1),(([]:List Ub),()))),())with|none=>none|some (y20,_)=>match y20 with
        |true=>match O4 ((y5,(y6,(y7,()))),(2,(([(1,(2,()))]:List U1),(([]:List Ub),()))),())with|none=>none|some (y21,_)=>match y21 with
         |true=>match(ieq (AN y12) 1)with
          |true=>match AIw ((5,(([(1,(2,(0,(true,()))))]:List U3),())),())with|none=>none|some (y22,_)=>match(ieq y22 399)with
           |true=>match AIs ((0,(([(2,(1,())),(4,(0,())),(3,(3,())),(0,(4,()))]:List U1),(([]:List Ub),()))),())with|none=>none|some (y23,_)=>match(ieq (AN y23) 8)with
            |true=>match AaM ((y0,(y1,(y2,()))),(y0,(y1,(y2,()))),())with|none=>none|some (y24,_)=>some (y24,())
            |false=>some (false,())
           |false=>some (false,())
          |false=>some (false,())
         |false=>some (false,())
        |false=>some (false,())
       |false=>some (false,())
      |false=>some (false,())
     |false=>some (false,())
    |false=>some (false,())
   |false=>some (false,())
  |false=>some (false,())
 |false=>some (false,())
def Ib[Lk]:=fun v=>Lk.f (Vy v)
theorem AYb v:Ib v=Vy v:=AJ _
abbrev LA:AE:=[(.tmp 0,.dat Uz),(.tmp 1,.dat Uy),(.tmp 2,.dat Vc)]
abbrev K9:AE:=[(.tmp 0,.dat .bool)]
abbrev K8:List RS:=[.one]
abbrev Oc:AE:=[(.tmp 1,.dat Uy),(.tmp 3,.box 2),(.cell 0 0,.di),(.cell 0 1,.dat Vb),(.tmp 5,.box 5),(.cell 1 0,.di),(.cell 1 1,.di),(.cell 1 2,.di),(.cell 1 3,.di),(.cell 1 4,.dat (.slice (.arr 2 U0))),(.tmp 7,.own 45 U2),(.tmp 8,.di)]
abbrev Oa:At:=[(.exit 0,[(.tmp 1,.dat Uy),(.tmp 3,.box 2),(.cell 0 0,.di),(.cell 0 1,.dat Vb),(.tmp 5,.box 5),(.cell 1 0,.di),(.cell 1 1,.di),(.cell 1 2,.di),(.cell 1 3,.di),(.cell 1 4,.dat (.slice (.arr 2 U0))),(.tmp 7,.own 45 U2)])]
def CB[Lk]:(List U1×Int×List U3×Int×Int×Int×Int×List U4×List U1×Int×Unit)→Option ((List U1×Int×List U3×Int×Int×Int×Int×List U4×List U1×Int×Unit)⊕(List U1×Int×List U3×Int×Int×Int×Int×List U4×List U1×Unit)⊕Unit):=fun(a0,a1,a2,a3,a4,a5,a6,a7,a8,a9,_)=>
 match(ile 0 a9)with
 |true=>match idx a0 a9 with|none=>none|some x0=>match idx a0 a9 with|none=>none|some x1=>match(fits ((AN a8)+(AN ([(x0.2.1,(x1.1,()))]:List U1))))with
  |true=>some (.inl (a0,a1,a2,a3,a4,a5,a6,a7,(BV a8 ([(x0.2.1,(x1.1,()))]:List U1)),(IntKind.wrap .i64 (a9-1)),()))
  |false=>none
 |false=>some (.inr (.inl (a0,a1,a2,a3,a4,a5,a6,a7,a8,())))
def G7[Lk]:(V7×List U1×Vm×Unit)→Option (Uj):=fun(a0,a1,a2,_)=>
 match Ib ()with|none=>none|some (y0,_)=>match(!y0)with
 |true=>some (false,())
 |false=>match Nf ((a0.1,(a0.2.1,())),(0,(a1,(([]:List Ub),()))),(a2.1,(a2.2.1,((a2.2.2.1.1,(a2.2.2.1.2.1,(a2.2.2.1.2.2.1,()))),()))),())with|none=>none|some (y1,_)=>match y1 with
 |true=>some (true,())
 |false=>match AX CB many (a1,a0.1,a0.2.1,a2.1,a2.2.1,a2.2.2.1.1,a2.2.2.1.2.1,a2.2.2.1.2.2.1,([]:List U1),(IntKind.wrap .i64 ((AN a1)-1)),())with|none=>none|some r=>match r with
 |.inl (o2,o3,o4,o5,o6,o7,o8,o9,o10,_)=>match F6 ((o3,(o4,())),(1,(o2,(([]:List Ub),()))),(o5,(o6,((o7,(o8,(o9,()))),()))),())with|none=>none|some (y11,y12,y13,y14,y15,_)=>match F6 ((o3,(o4,())),(2,(o2,(([]:List Ub),()))),(o5,(o6,((o7,(o8,(o9,()))),()))),())with|none=>none|some (y16,y17,y18,y19,y20,_)=>match F6 ((o3,(o4,())),(2,(o10,(([]:List Ub),()))),(o5,(o6,((o7,(o8,(o9,()))),()))),())with|none=>none|some (y21,y22,y23,y24,y25,_)=>match(!(ieq y15 y20))with
  |true=>some (false,())
  |false=>match(!(ieq y20 y25))with
  |true=>some (false,())
  |false=>match(!(ieq y14 y19))with
  |true=>some (false,())
  |false=>match(!(ieq y19 y24))with
  |true=>some (false,())
  |false=>match O4 ((y16,(y17,(y18,()))),(y21,(y22,(y23,()))),())with|none=>none|some (y26,_)=>match(!y26)with
  |true=>some (false,())
  |false=>match(ile (IntKind.wrap .i64 ((AN y12)+(AN y17))) (AN o2))with
  |true=>match(ieq y15 0)with
   |true=>some (true,())
   |false=>match(ieq y14 0)with
   |true=>some ((ieq (AN y12) 0),())
   |false=>some (false,())
  |false=>some (false,())
 |.inr _=>none
def F5[Lk]:=fun v=>Lk.f (G7 v)
theorem Od v:F5 v=G7 v:=AJ _
end
end Go.Pev
end
section

end
section
namespace Go.Pev.Pl
theorem ANa:Ib ()=some (true,()):=by
 rw[show Ib () = @Ib idI ()from ApQ (fun i=>@Ib i ()) ACZ]
 kernel_rfl
end Go.Pev.Pl
end
section
namespace Go.Pev.Pl
theorem Ae{n:Int}(h:-9223372036854775808≤n∧n≤9223372036854775807):IntKind.wrap .i64 n=n:=IntWalk.i64_in n h
section
variable {α:Type} [Inhabited α]
theorem A4{d:Array α}{n:Nat}(h:n<d.size):idx d.toList (n:Int)=some d[n]! := by
 rw[idx_eq,N3,An1 (by omega)]
 simp[h]
theorem BZ{d:Array α}{n:Nat}{z:α}(h:n<d.size):AW d.toList (AM (n:Int)) z=d[n]! := by
 simp[AW,AM,h]
theorem IY{d:Array α}{n:Nat}{x:α}:Az d.toList (AM (n:Int)) x=(d.setIfInBounds n x).toList:=by
 simp[Az,AM]
theorem AaE{d:Array α}:AN d.toList=(d.size:Int):=by simp[AN]
theorem JJ(d:Array α)(i j:Nat):(d.setIfInBounds i d[j]!).setIfInBounds j d[i]! = Go.Sort.swp d i j:=rfl
theorem size_swp(d:Array α)(i j:Nat):(Go.Sort.swp d i j).size=d.size:=by simp[Go.Sort.swp]
end
theorem AL(a b:Nat):ilt (a:Int) (b:Int)=decide (a<b):=by rw[Ah];simp
theorem C9(a b:Nat):ile (a:Int) (b:Int)=decide (a≤b):=by rw[An];simp
theorem ALp(a b:Nat):ieq (a:Int) (b:Int)=decide (a=b):=by
 rw[CL]
 by_cases h:a=b
 ·simp[h]
 ·simp[h];omega
section
theorem wrap_add{a b:Nat}(h:a+b<9223372036854775808):IntKind.wrap .i64 ((a:Int)+(b:Int))=((a+b:Nat):Int):=by rw[Ae (by omega)];omega
theorem AP{a:Nat}(h:a+1<9223372036854775808):IntKind.wrap .i64 ((a:Int)+1)=((a+1:Nat):Int):=by rw[Ae (by omega)];omega
theorem Aae{a:Nat}(h:2*a<9223372036854775808):IntKind.wrap .i64 ((2:Int)*(a:Int))=((2*a:Nat):Int):=by rw[Ae (by omega)];omega
theorem Aad{a:Nat}(h:a<9223372036854775808):IntKind.wrap .i64 ((a:Int)*1)=((a*1:Nat):Int):=by rw[Ae (by omega)];omega
theorem NG{a:Nat}(h:a*2<9223372036854775808):IntKind.wrap .i64 ((a:Int)*2)=((a*2:Nat):Int):=by rw[Ae (by omega)];omega
theorem Aac{a:Nat}(h:a*3<9223372036854775808):IntKind.wrap .i64 ((a:Int)*3)=((a*3:Nat):Int):=by rw[Ae (by omega)];omega
theorem DE{a b:Nat}(h:b≤a∧a<9223372036854775808):IntKind.wrap .i64 ((a:Int)-(b:Int))=((a-b:Nat):Int):=by rw[Ae (by omega)];omega
theorem BA{a:Nat}(h:1≤a∧a<9223372036854775808):IntKind.wrap .i64 ((a:Int)-1)=((a-1:Nat):Int):=by rw[Ae (by omega)];omega
theorem AmI{a:Nat}(h:a<9223372036854775808):quo? .i64 (a:Int) 2=some ((a/2:Nat):Int):=by
 rw[PF,Qr,An1 (by omega),AqC (by omega),Ae (by omega)];rfl
theorem AZI{a:Nat}(h:a<9223372036854775808):quo? .i64 (a:Int) 4=some ((a/4:Nat):Int):=by
 rw[PF,Qr,An1 (by omega),AqC (by omega),Ae (by omega)];rfl
theorem AnT{a:Nat}(h:a<9223372036854775808):quo? .i64 (a:Int) 8=some ((a/8:Nat):Int):=by
 rw[PF,Qr,An1 (by omega),AqC (by omega),Ae (by omega)];rfl
end
end Go.Pev.Pl
end
section
namespace Go.Pev.Pl
section
variable {α:Type}
theorem LZ{xs:List α}{n:Nat}(z:α)(h:n<xs.length):idx xs (n:Int)=some (xs.getD n z):=by
 rw[idx_eq,N3,An1 (by omega)]
 simp[h]
theorem Am4{xs:List α}{n:Nat}(h:n<xs.length):∃ x,idx xs (n:Int)=some x:=by
 rw[idx_eq,N3,An1 (by omega)]
 exact⟨xs[n],by simp[h]⟩
theorem ALq(xs:List α)(n:Nat):idx xs (n:Int)=xs[n]? := by
 rw[idx_eq,N3,An1 (by omega)]
 simp
theorem Jc(xs:List α):idx xs (0:Int)=xs.head? := by
 rw[idx_eq,N3,An1 (by omega)]
 cases xs<;>rfl
theorem Pr(xs:List α)(n:Nat)(z:α):AW xs (AM (n:Int)) z=xs.getD n z:=by simp[AW,AM]
theorem DQ(xs:List α)(n:Nat)(x:α):Az xs (AM (n:Int)) x=xs.set n x:=by simp[Az,AM]
theorem AS(xs:List α):AN xs=(xs.length:Int):=rfl
theorem ADi(n:Nat):AM (n:Int)=n:=by simp[AM]
theorem Dm(xs ys:List α):BV xs ys=xs++ys:=rfl
theorem AJw{xs:List α}{l h:Nat}(h1:l≤h)(h2:h≤xs.length):D6 xs (l:Int) (h:Int)=some ((xs.take h).drop l):=by
 rw[Yj,OC,An5 (by omega)]
 simp
end
theorem Bh{n:Int}(h:n≤4294967296):fits n=true:=(GX n).2 h
theorem K3{α:Type}{xs:List α}(h:xs.length≤4294967296):Px xs=some xs:=by
 rw[AIh,K2,(UR _).2 (by rw[AS];omega)]
theorem Ah5{α β:Type}(xs:List α)(ys:List β):ieq (AN xs) (AN ys)=decide (xs.length=ys.length):=by rw[AS,AS,ALp]
theorem Ag(a b:Int):ieq a b=decide (a=b):=by
 rw[CL]
 by_cases h:a=b<;>simp[h]
def walk{α β ρ:Type}(f:β→α→α⊕ρ)(fin:α→ρ):List β→α→ρ
 |[],a=>fin a
 |x::xs,a=>match f x a with
  |.inl a=>walk f fin xs a
  |.inr r=>r
theorem Aah{σ ρ α β:Type}{step:σ→Option (σ⊕ρ)}(st:Nat→α→σ)(xs:List β)(f:β→α→α⊕ρ)(fin:α→ρ)(I:Nat→α→Prop)
  (h:∀ i x a,i<xs.length→xs[i]? = some x→I i a→(∀ a',f x a = .inl a'→step (st i a)=some (.inl (st (i+1) a'))∧I (i+1) a')∧(∀ r,f x a = .inr r→step (st i a)=some (.inr r)))
  (hN:∀ a,I xs.length a→step (st xs.length a)=some (.inr (fin a))) :
  ∀ (m i n:Nat) (a:α),xs.length-i=m→i≤xs.length→m<n→I i a→Aj step n (st i a)=some (walk f fin (xs.drop i) a):=by
 intro m
 induction m with
 |zero=>
  intro i n a hk hi hn hI
  obtain⟨n,rfl⟩:∃ k,n=k+1:=⟨n-1,by omega⟩
  have e:i=xs.length:=by omega
  subst e
  rw[Aj,hN a hI,List.drop_length]
  rfl
 |succ m ih=>
  intro i n a hk hi hn hI
  obtain⟨n,rfl⟩:∃ k,n=k+1:=⟨n-1,by omega⟩
  have hi':i<xs.length:=by omega
  obtain⟨g1,g2⟩:=h i xs[i] a hi' (by simp[hi']) hI
  rw[Aod hi',walk,Aj]
  cases hf:f xs[i] a with
  |inl a'=>
   obtain⟨e,hI'⟩:=g1 a' hf
   rw[e]
   exact ih (i+1) n a' (by omega) (by omega) (by omega) hI'
  |inr r=>rw[g2 r hf]
theorem Ef{σ ρ α β:Type}{step:σ→Option (σ⊕ρ)}(st:Nat→α→σ)(xs:List β)(f:β→α→α⊕ρ)(fin:α→ρ)(I:Nat→α→Prop)(hs:xs.length<9223372036854775808)
  (h:∀ i x a,i<xs.length→xs[i]? = some x→I i a→(∀ a',f x a = .inl a'→step (st i a)=some (.inl (st (i+1) a'))∧I (i+1) a')∧(∀ r,f x a = .inr r→step (st i a)=some (.inr r)))
  (hN:∀ a,I xs.length a→step (st xs.length a)=some (.inr (fin a))) (a:α) (h0:I 0 a):AX step many (st 0 a)=some (walk f fin xs a):=by
 have hm:9223372036854775808<many:=by simp only[many];omega
 rw[A3,Aah st xs f fin I h hN xs.length 0 many a (by omega) (by omega) (by omega) h0]
 rfl
theorem AMP{α:Type}{xs ys:List α}(z:α)(hl:xs.length=ys.length)(h:∀ j,j<xs.length→xs.getD j z=ys.getD j z):xs=ys:=by
 apply AqL hl
 intro i h1 h2
 have:=h i h1
 simpa [h1,h2]using this
theorem AbP{σ ρ:Type}{step:σ→Option (σ⊕ρ)}(st:Nat→σ)(N:Nat)(P:Nat→Bool)(rt:Nat→ρ)(rf:ρ)
  (h:∀ i,i<N→step (st i)=if P i then some (.inr (rt i))else some (.inl (st (i+1)))) (hN:step (st N)=some (.inr rf)) :
  ∀ (m i n:Nat),N-i=m→i≤N→m<n→(∃ k,i≤k∧k<N∧P k=true∧(∀ j,i≤j→j<k→P j=false)∧Aj step n (st i)=some (rt k))∨((∀ j,i≤j→j<N→P j=false)∧Aj step n (st i)=some rf):=by
 intro m
 induction m with
 |zero=>
  intro i n hk hi hn
  obtain⟨n,rfl⟩:∃ k,n=k+1:=⟨n-1,by omega⟩
  have e:i=N:=by omega
  subst e
  exact .inr ⟨fun j h1 h2=>by omega,by rw[Aj,hN]⟩
 |succ m ih=>
  intro i n hk hi hn
  obtain⟨n,rfl⟩:∃ k,n=k+1:=⟨n-1,by omega⟩
  have hi':i<N:=by omega
  cases hP:P i
  ·have e:Aj step (n+1) (st i)=Aj step n (st (i+1)):=by rw[Aj,h i hi',hP];rfl
   rw[e]
   rcases ih (i+1) n (by omega) (by omega) (by omega)with⟨k,h1,h2,h3,h4,h5⟩|⟨h1,h2⟩
   ·refine .inl ⟨k,by omega,h2,h3,fun j a1 a2 => ?_,h5⟩
    by_cases ej:j=i
    ·subst ej;exact hP
    ·exact h4 j (by omega) a2
   ·refine .inr ⟨fun j a1 a2 => ?_,h2⟩
    by_cases ej:j=i
    ·subst ej;exact hP
    ·exact h1 j (by omega) a2
  ·exact .inl ⟨i,An3 _,hi',hP,fun j a1 a2=>by omega,by rw[Aj,h i hi',hP];rfl⟩
theorem AmF{σ ρ:Type}{step:σ→Option (σ⊕ρ)}(st:Nat→σ)(N:Nat)(P:Nat→Bool)(rt:Nat→ρ)(rf:ρ)(hs:N<9223372036854775808)
  (h:∀ i,i<N→step (st i)=if P i then some (.inr (rt i))else some (.inl (st (i+1)))) (hN:step (st N)=some (.inr rf)) :
  (∃ k,k<N∧P k=true∧(∀ j,j<k→P j=false)∧AX step many (st 0)=some (rt k))∨((∀ j,j<N→P j=false)∧AX step many (st 0)=some rf):=by
 have hm:9223372036854775808<many:=by simp only[many];omega
 rw[A3]
 rcases AbP st N P rt rf h hN N 0 many rfl (by omega) (by omega)with⟨k,h1,h2,h3,h4,h5⟩|⟨h1,h2⟩
 ·exact .inl ⟨k,h2,h3,fun j a=>h4 j (by omega) a,h5⟩
 ·exact .inr ⟨fun j a=>h1 j (by omega) a,h2⟩
end Go.Pev.Pl
end
section
namespace Go.Pev.Pl
section
variable {β:Type}
def BC(es:List (Int×β)):List Int:=es.map Prod.fst
theorem UB(es:List (Int×β)):(BC es).length=es.length:=by simp[BC]
theorem Da(es:List (Int×β))(k:Int)(v:β)(j:Int):AR (Ad es k v) j=if j=k then some v else AR es j:=by
 induction es with
 |nil=>
  simp only[Ad,AR]
  by_cases h:k=j
  ·simp[h]
  ·simp[h,Aol h]
 |cons e es ih=>
  obtain⟨a,b⟩:=e
  simp only[Ad]
  by_cases h:a=k
  ·subst h
   simp only[Aoa,AR]
   by_cases h2:a=j
   ·simp[h2]
   ·simp[h2,Aol h2]
  ·simp only[h,AoC,AR,ih]
   by_cases h2:a=j
   ·subst h2;simp[h]
   ·simp[h2]
theorem PV(es:List (Int×β))(k:Int)(v:β):BC (Ad es k v)=if k∈BC es then BC es else BC es++[k]:=by
 induction es with
 |nil=>rfl
 |cons e es ih=>
  obtain⟨a,b⟩:=e
  simp only[Ad]
  by_cases h:a=k
  ·subst h;simp[BC]
  ·simp only[h,AoC]
   show a::BC (Ad es k v)=_
   rw[ih]
   have:k∈BC ((a,b)::es)↔k∈BC es:=by simp[BC,Aol h]
   simp only[this]
   split<;>rfl
theorem XP(es:List (Int×β))(k:Int):AR es k=none↔k∉BC es:=by
 induction es with
 |nil=>simp[AR,BC]
 |cons e es ih=>
  obtain⟨a,b⟩:=e
  simp only[AR]
  by_cases h:a=k
  ·simp[h,BC]
  ·simp only[h,AoC,ih]
   simp[BC,Aol h]
theorem Eo(es:List (Int×β))(k:Int)(v:β)(j:Int):j∈BC (Ad es k v)↔j=k∨j∈BC es:=by
 rw[PV]
 split
 ·rename_i h
  constructor
  ·exact .inr
  ·rintro (rfl|h2)
   ·exact h
   ·exact h2
 ·simp[or_comm]
theorem JV{es:List (Int×β)}(h:(BC es).Nodup)(k:Int)(v:β):(BC (Ad es k v)).Nodup:=by
 rw[PV]
 split
 ·exact h
 ·rename_i hk
  rw[ApS]
  exact⟨h,by simp,fun a ha b hb=>by rintro rfl;simp at hb;exact hk (hb▸ha)⟩
end
def dd:List Int→List Int→List Int
 |ks,[]=>ks
 |ks,x::xs=>dd (if x∈ks then ks else ks++[x]) xs
theorem AnD:∀ (xs ks:List Int),(dd ks xs).length≤ks.length+xs.length∧((dd ks xs).length=ks.length+xs.length↔xs.Nodup∧∀ x∈xs,x∉ks):=by
 intro xs
 induction xs with
 |nil=>intro ks;simp[dd]
 |cons x xs ih=>
  intro ks
  rw[dd]
  by_cases h:x∈ks
  ·obtain⟨h1,_⟩:=ih ks
   rw[An5 h]
   refine⟨by simp only[An0];omega,?_,fun hh=>absurd h (hh.2 x (by simp))⟩
   intro e
   simp only[An0]at e
   omega
  ·obtain⟨h1,h2⟩:=ih (ks++[x])
   rw[An1 h]
   simp only[Anw,An0,AoB,Ao8]at h1 h2 ⊢
   refine⟨by omega,?_⟩
   rw[show ks.length+(xs.length+1)=ks.length+1+xs.length by omega,h2,AoP]
   constructor
   ·rintro⟨g1,g2⟩
    refine⟨⟨fun hx=>g2 x hx (by simp),g1⟩,fun y hy => ?_⟩
    rcases Anx.1 hy with rfl|hy
    ·exact h
    ·exact fun hk=>g2 y hy (by simp[hk])
   ·rintro⟨⟨g1,g2⟩,g3⟩
    refine⟨g2,fun y hy hk => ?_⟩
    simp only[Anv,AoY]at hk
    rcases hk with hk|rfl
    ·exact g3 y (by simp[hy]) hk
    ·exact g1 hy
theorem Aiz(xs:List Int):(dd [] xs).length=xs.length↔xs.Nodup:=by
 have:=(AnD xs []).2
 simpa using this
theorem CN{α β ρ:Type}(g:β→α→α)(fin:α→ρ):∀ (xs:List β) (a:α),walk (fun x a=>.inl (g x a)) fin xs a=fin (xs.foldl (fun a x=>g x a) a):=by
 intro xs
 induction xs with
 |nil=>intro a;rfl
 |cons x xs ih=>intro a;rw[walk,Aow];exact ih _
theorem IW{σ ρ β:Type}{step:σ→Option (σ⊕ρ)}(st:Nat→σ)(xs:List β)(P:β→Bool)(rt:Nat→ρ)(rf:ρ)(hs:xs.length<9223372036854775808)
  (h:∀ i x,i<xs.length→xs[i]? = some x→step (st i)=if P x then some (.inr (rt i))else some (.inl (st (i+1)))) (hN:step (st xs.length)=some (.inr rf)) :
  AX step many (st 0)=some (if xs.any P then rt (xs.findIdx P)else rf):=by
 have key:∀ (l:List β) (a:Nat),walk (fun x (a:Nat)=>if P x then .inr (rt a)else .inl (a+1)) (fun _=>rf) l a=if l.any P then rt (a+l.findIdx P)else rf:=by
  intro l
  induction l with
  |nil=>intro a;rfl
  |cons x l ih=>
   intro a
   rw[walk,List.any_cons,Aqe]
   by_cases hx:P x=true
   ·simp[hx]
   ·simp only[hx,An8,AoC,Bool.false_or,cond_false]
    rw[ih,show a+1+List.findIdx P l=a+(List.findIdx P l+1) by omega]
 have:=Ef (step:=step) (fun i (a:Nat)=>st a) xs (fun x (a:Nat)=>if P x then .inr (rt a)else .inl (a+1)) (fun _=>rf) (fun i a=>a=i) hs
  (fun i x a hi hx ha=>by
   subst ha
   refine⟨fun a' h' => ?_,fun r h' => ?_⟩
   ·rw[h a x hi hx]
    split at h'
    ·cases h'
    ·rename_i hp
     cases h'
     simp[hp]
   ·rw[h a x hi hx]
    split at h'
    ·rename_i hp
     cases h'
     simp[hp]
    ·cases h')
  (fun a ha=>by subst ha;exact hN) 0 rfl
 rw[this,key,Ao8]
theorem AT{α:Type}{xs:List α}{n:Nat}{x:α}(h:xs[n]? = some x):idx xs (n:Int)=some x:=by rw[ALq,h]
theorem BO{α:Type}{xs:List α}{n:Nat}{x z:α}(h:xs[n]? = some x):AW xs (AM (n:Int)) z=x:=by
 rw[Pr,Ans,h];rfl
theorem Z6{α:Type}{xs:List α}{h:Nat}(h2:h≤xs.length):D6 xs (0:Int) (h:Int)=some (xs.take h):=by
 have:=AJw (xs:=xs) (l:=0) (Apr h) h2
 simpa using this
theorem QY{α:Type}{xs:List α}{l:Nat}(h1:l≤xs.length):D6 xs (l:Int) (AN xs)=some (xs.drop l):=by
 have:=AJw (xs:=xs) h1 (An3 _)
 rw[AoX]at this
 exact this
def pos(xs:List Int)(t:Int):Int:=if t∈xs then((xs.findIdx (fun x=>decide (x=t)):Nat):Int)else -1
theorem Al7(xs:List Int)(t:Int):(xs.any fun x=>decide (x=t))=decide (t∈xs):=by
 induction xs with
 |nil=>rfl
 |cons x xs ih=>simp only[List.any_cons,ih,Anx,Bool.decide_or];congr 1;exact ApA.2 eq_comm
theorem Agi{xs:List Int}{t:Int}(h:t∈xs):∃ k:Nat,pos xs t=(k:Int)∧k<xs.length∧xs[k]? = some t∧xs=xs.take k++t::xs.drop (k+1)∧t∉xs.take k:=by
 have hk:xs.findIdx (fun x=>decide (x=t))<xs.length:=Aqa.2 ⟨t,h,by simp⟩
 have hg:xs[xs.findIdx (fun x=>decide (x=t))]'hk=t:=by
  have:=List.findIdx_getElem (xs:=xs) (p:=fun x=>decide (x=t)) (w:=hk)
  simpa using this
 refine⟨_,by rw[pos,An5 h],hk,by rw[Ant hk,hg],?_,?_⟩
 ·conv=>lhs;rw[← Ao1 (xs.findIdx (fun x=>decide (x=t))) xs,Aod hk,hg]
 ·intro hm
  obtain⟨j,hj,e⟩:=Aqu.1 hm
  have:=List.not_of_lt_findIdx (p:=fun x=>decide (x=t)) (xs:=xs) (i:=j) (by omega)
  simp[e]at this
theorem AZJ{xs:List Int}{t:Int}(h:t∉xs):pos xs t = -1:=by rw[pos,An1 h]
end Go.Pev.Pl
end
section
namespace Go.Pev.Pl
section
variable {α β:Type} [DecidableEq α]
theorem AWX(es:List (α×β))(k:α)(v:β)(j:α):AR (Ad es k v) j=if j=k then some v else AR es j:=by
 induction es with
 |nil=>
  simp only[Ad,AR]
  by_cases h:j=k
  ·rw[An5 h,An5 h.symm]
  ·rw[An1 h,An1 (Aol h)]
 |cons e es ih=>
  obtain⟨a,x⟩:=e
  by_cases h1:a=k
  ·subst h1
   simp only[Ad,AR,Aoa]
   by_cases h:j=a
   ·rw[An5 h,An5 h.symm]
   ·rw[An1 h,An1 (Aol h),An1 (Aol h)]
  ·simp only[Ad,AR,h1,AoC,ih]
   by_cases h:a=j
   ·subst h
    rw[An5 rfl,An1 h1,An5 rfl]
   ·rw[An1 h,An1 h]
theorem AHY:∀ (es:List (α×β)) (k:α),Dk es k=none→∀ v,Ad es k v=es++[(k,v)]:=by
 intro es
 induction es with
 |nil=>intro k _ v;rfl
 |cons e es ih=>
  intro k h v
  obtain⟨a,b⟩:=e
  by_cases hk:a=k
  ·simp[Dk,hk]at h
  ·simp only[Dk,hk,AoC,Aq8]at h
   simp only[Ad,hk,AoC,ih k h v,AoL]
theorem AHX:∀ (es:List (α×β)) (k:α) (n:Nat),Dk es k=some n→∀ v,n<es.length∧Ad es k v=es.modify n fun e=>(e.1,v):=by
 intro es
 induction es with
 |nil=>intro k n h;simp[Dk]at h
 |cons e es ih=>
  intro k n h v
  obtain⟨a,b⟩:=e
  by_cases hk:a=k
  ·simp only[Dk,hk,Aoa,Anr]at h
   subst h
   simp[Ad,hk]
  ·simp only[Dk,hk,AoC,An9]at h
   obtain⟨m,hm,rfl⟩:=h
   obtain⟨h1,h2⟩:=ih k m hm v
   simp only[Ad,hk,AoC,An0]
   exact⟨by omega,by rw[h2];rfl⟩
theorem AWB(es:List (α×β))(k:α)(z v:β):(ile (0:Int) (YF es k)&&ilt (YF es k) (AN (Ad es k z)))=true∧AcV (Ad es k z) (YF es k) v=Ad es k v:=by
 rw[An,Ah]
 unfold YF AcV
 cases h:Dk es k with
 |none=>
  rw[AHY es k h,AHY es k h,Option.getD_none,Aor]
  constructor
  ·rw[Anq (by omega),Anq (by rw[AS,Anw];simp;omega)];rfl
  ·have:∀ (xs:List (α×β)),(xs++[(k,z)]).modify xs.length (fun e=>(e.1,v))=xs++[(k,v)]:=by
    intro xs
    induction xs with
    |nil=>rfl
    |cons x xs ih=>rw[AoL,An0,List.modify_succ_cons,ih];rfl
   exact this es
 |some n=>
  obtain⟨h1,h2⟩:=AHX es k n h z
  obtain⟨_,h3⟩:=AHX es k n h v
  rw[h2,h3,Aom,Aor]
  constructor
  ·rw[Anq (by omega),Anq (by rw[AS,List.length_modify];omega)];rfl
  ·apply Ao2
   intro i
   simp only[List.getElem?_modify]
   cases es[i]? with
   |none=>split<;>rfl
   |some e=>split<;>rfl
end
end Go.Pev.Pl
end
section
namespace Go.Pev.Pl
section
variable {α:Type} (z:α)
theorem ACz{a o:List α}{m k:Nat}(h:a.drop m=o.drop m)(hk:m≤k):a.getD k z=o.getD k z:=by
 have:=ApQ (fun l=>l.getD (k-m) z) h
 simp only[Ans,Aov]at this
 rw[Nat.add_sub_cancel' hk]at this
 simpa [Ans]using this
theorem LY{xs:List α}{i:Nat}(h:i<xs.length):xs.take (i+1)=xs.take i++[xs.getD i z]:=by
 rw[ApK h];simp[h]
theorem Aiv{σ ρ:Type}{step:σ→Option (σ⊕ρ)}(st:List α→Nat→Nat→σ)(fin:List α→Nat→ρ)(keep:α→Bool)(o:List α)
  (h:∀ a w j,a.length=o.length→j<o.length→w<j→a.getD j z=o.getD j z→step (st a w j)=some (.inl (if keep (o.getD j z)=true then st (a.set w (o.getD j z)) (w+1) (j+1)else st a w (j+1))))
  (hN:∀ a w,a.length=o.length→step (st a w o.length)=some (.inr (fin a w))) :
  ∀ (k j w:Nat) (a:List α) (cnt:Nat),j+k=o.length→a.length=o.length→w=((o.take j).filter keep).length→a.take w=(o.take j).filter keep→w<j→a.drop j=o.drop j→k<cnt →
  ∃ a':List α,Aj step cnt (st a w j)=some (fin a' (o.filter keep).length)∧a'.length=o.length∧a'.take (o.filter keep).length=o.filter keep:=by
 intro k
 induction k with
 |zero=>
  intro j w a cnt hk hl hw hq hwj hd hn
  obtain⟨cnt,rfl⟩:∃ k,cnt=k+1:=⟨cnt-1,by omega⟩
  have e:j=o.length:=by omega
  subst e
  rw[AoX]at hw hq
  rw[Aj,hN a w hl]
  exact⟨a,by rw[hw],hl,by rw[← hw];exact hq⟩
 |succ k ih=>
  intro j w a cnt hk hl hw hq hwj hd hn
  obtain⟨cnt,rfl⟩:∃ k,cnt=k+1:=⟨cnt-1,by omega⟩
  have g1:=ACz z hd (An3 j)
  have hdd:a.drop (j+1)=o.drop (j+1):=by
   have:=ApQ (List.drop 1) hd
   simpa only[Api]using this
  have hst:(o.take (j+1)).filter keep=(o.take j).filter keep++if keep (o.getD j z)=true then [o.getD j z]else []:=by
   rw[LY z (by omega),ApC]
   generalize o.getD j z=v
   by_cases h:keep v=true<;>simp[h]
  rw[Aj,h a w j hl (by omega) hwj g1]
  by_cases hv:keep (o.getD j z)=true
  ·rw[An5 hv]at hst ⊢
   refine ih (j+1) (w+1) (a.set w (o.getD j z)) cnt (by omega) (by simp[hl]) (by rw[hst];simp[hw]) ?_ (by omega) ?_ (by omega)
   ·rw[hst,← hq,ApK (by simp;omega)]
    simp[List.take_set_of_le]
   ·rw[List.drop_set_of_lt (by omega)]
    exact hdd
  ·rw[An1 hv]at hst ⊢
   rw[Ao4]at hst
   exact ih (j+1) w a cnt (by omega) hl (by rw[hst];exact hw) (by rw[hst];exact hq) (by omega) hdd (by omega)
theorem Ad3{σ ρ σ' ρ':Type}{find:σ'→Option (σ'⊕ρ')}{step:σ→Option (σ⊕ρ)}(st:List α→Nat→Nat→σ)(fin:List α→Nat→ρ)(sf:Nat→σ')(fr:Nat→ρ')(fn:ρ')(keep:α→Bool)(o:List α)(hs:o.length<4294967296)
  (h:∀ a w j,a.length=o.length→j<o.length→w<j→a.getD j z=o.getD j z→step (st a w j)=some (.inl (if keep (o.getD j z)=true then st (a.set w (o.getD j z)) (w+1) (j+1)else st a w (j+1))))
  (hN:∀ a w,a.length=o.length→step (st a w o.length)=some (.inr (fin a w)))
  (f:∀ i,i<o.length→find (sf i)=if keep (o.getD i z)=true then some (.inl (sf (i+1)))else some (.inr (fr i))) (fN:find (sf o.length)=some (.inr fn)) :
  (o.filter keep=o∧AX find many (sf 0)=some fn) ∨
  (∃ k a',k<o.length∧AX find many (sf 0)=some (fr k)∧AX step many (st o k (k+1))=some (fin a' (o.filter keep).length)∧a'.length=o.length∧(o.filter keep).length≤o.length∧a'.take (o.filter keep).length=o.filter keep):=by
 have hm:4294967296<many:=by simp only[many];omega
 have hall:∀ n,(∀ j,j<n→j<o.length→keep (o.getD j z)=true)→(o.take n).filter keep=o.take n:=by
  intro n hj
  rw[AqQ]
  intro x hx
  obtain⟨j,h1,rfl⟩:=Aqu.1 hx
  have:=hj j (by omega) (by omega)
  simpa [show j<o.length by omega]using this
 rcases AmF (step:=find) sf o.length (fun i => !keep (o.getD i z)) fr fn (by omega) (fun i hi=>by rw[f i hi];cases keep (o.getD i z)<;>rfl) fN with⟨k,hk,hP,hF,e⟩|⟨hP,e⟩
 ·right
  have hkf:keep (o.getD k z)=false:=by
   cases hq:keep (o.getD k z)
   ·rfl
   ·rw[hq]at hP;cases hP
  have h1:(o.take k).filter keep=o.take k:=hall k fun j h1 _=>by
   have:=hF j h1
   cases hq:keep (o.getD j z)
   ·rw[hq]at this;cases this
   ·rfl
  have h2:(o.take (k+1)).filter keep=o.take k:=by
   rw[LY z hk,ApC,h1,Ao6,hkf]
   simp
  obtain⟨a',e2,e3,e4⟩:=Aiv z st fin keep o h hN (o.length-(k+1)) (k+1) k o many (by omega) rfl (by rw[h2,AoD];omega) (by rw[h2]) (by omega) rfl (by omega)
  exact⟨k,a',hk,e,by rw[A3];exact e2,e3,Apz _ _,e4⟩
 ·left
  refine⟨?_,e⟩
  have:=hall o.length fun j _ h2=>by
   have:=hP j h2
   cases hq:keep (o.getD j z)
   ·rw[hq]at this;cases this
   ·rfl
  rwa [AoX]at this
theorem AX9{a:List α}{w:Nat}(h:w≤a.length):(Br w (a.length-w) z a).take w=a.take w∧(Br w (a.length-w) z a).length=a.length:=by
 constructor
 ·rw[Br,List.take_append_of_le_length (by simp;omega),Ap7,Nat.min_self]
 ·simp[Br];omega
end
end Go.Pev.Pl
end
section
namespace Go.Pev.Pl
structure Tsk where
 lo:Nat
 hi:Nat
 up:Option Nat
 wait:Nat
theorem Xg{l:List Nat}(hn:l.Nodup){j0:Nat}(hj:j0∈l){Q Q':Nat→Bool}(h:∀ j∈l,j≠j0→Q' j=Q j):
  l.countP Q'+(Q j0).toNat=l.countP Q+(Q' j0).toNat:=by
 induction l with
 |nil=>cases hj
 |cons x l ih=>
  rw[AoP]at hn
  rw[Apw,Apw]
  by_cases hx:x=j0
  ·subst hx
   have:l.countP Q'=l.countP Q:=by
    refine AqD fun j hjl => ?_
    rw[h j (by simp[hjl]) (by rintro rfl;exact hn.1 hjl)]
   rw[this]
   cases Q x<;>cases Q' x<;>simp
  ·have h1:=h x (by simp) hx
   rw[h1]
   have:=ih hn.2 (by simpa [Aol hx]using hj) (fun j hjl=>h j (by simp[hjl]))
   omega
def KD(ts:List Tsk)(A:List Nat)(j:Nat):Bool:=A.contains j||match ts[j]? with
 |some t=>decide (0<t.wait)
 |none=>false
def H8(ts:List Tsk)(A:List Nat)(i j:Nat):Bool:=match ts[j]? with
 |some t=>decide (t.up=some i)&&KD ts A j
 |none=>false
def kids(ts:List Tsk)(A:List Nat)(i:Nat):Nat:=(List.range ts.length).countP (H8 ts A i)
structure Tr(n:Nat)(ts:List Tsk)(A:List Nat)(u:Option Nat):Prop where
 tree:∀ (i:Nat) (t:Tsk),ts[i]? = some t→t.lo<t.hi∧t.hi≤n∧t.wait≤2∧(t.up=none→i=0)∧∀ x,t.up=some x→x<i
 nod:A.Nodup
 act:∀ a∈A,∃ t:Tsk,ts[a]? = some t∧t.wait=0
 leaf:∀ a∈A,∀ (j:Nat) (t:Tsk),ts[j]? = some t→t.up≠some a
 cnt:∀ (i:Nat) (t:Tsk),ts[i]? = some t→t.wait=kids ts A i+(if u=some i then 1 else 0)
theorem JS{ts:List Tsk}{A:List Nat}{j:Nat}{t:Tsk}(h:ts[j]? = some t):KD ts A j=true↔j∈A∨0<t.wait:=by
 unfold KD;rw[h];simp
theorem MP{ts:List Tsk}{A:List Nat}{i:Nat}:0<kids ts A i↔∃ (j:Nat) (t:Tsk),ts[j]? = some t∧t.up=some i∧KD ts A j=true:=by
 unfold kids
 rw[List.countP_pos_iff]
 constructor
 ·rintro⟨j,_,h⟩
  unfold H8 at h
  cases ht:ts[j]? with
  |none=>rw[ht]at h;cases h
  |some t=>rw[ht]at h;simp only[Anz,Anu]at h;exact⟨j,t,ht,h.1,h.2⟩
 ·rintro⟨j,t,h1,h2,h3⟩
  refine⟨j,AoT.2 (An7.1 h1).1,?_⟩
  unfold H8
  rw[h1];simp[h2,h3]
theorem Tr.descend{n:Nat}{ts:List Tsk}{A:List Nat}(h:Tr n ts A none):∀ (k i:Nat),ts.length-i≤k→∀ t:Tsk,ts[i]? = some t→KD ts A i=true→A≠[]:=by
 intro k
 induction k with
 |zero=>
  intro i hk t ht
  have:=(An7.1 ht).1
  omega
 |succ k ih=>
  intro i hk t ht hp
  rcases(JS ht).1 hp with h1|h1
  ·rintro rfl;cases h1
  ·rw[h.cnt i t ht]at h1
   simp at h1
   obtain⟨j,t',h2,h3,h4⟩:=MP.1 h1
   have hlt:=(h.tree j t' h2).2.2.2.2 i h3
   have:=(An7.1 ht).1
   exact ih j (by omega) t' h2 h4
theorem Tr.AnI{n:Nat}{ts:List Tsk}{A:List Nat}(h:Tr n ts A none):∀ (i:Nat) (t:Tsk),ts[i]? = some t→KD ts A i=true→KD ts A 0=true:=by
 intro i
 induction i using Nat.strongRecOn with
 |ind i ih=>
  intro t ht hp
  cases hu:t.up with
  |none=>
   have:=(h.tree i t ht).2.2.2.1 hu
   subst this;exact hp
  |some x=>
   have hx:=(h.tree i t ht).2.2.2.2 x hu
   have hl:=(An7.1 ht).1
   have hxs:ts[x]? = some (ts[x]'(by omega)):=Ant (by omega)
   refine ih x hx _ hxs ((JS hxs).2 (.inr ?_))
   rw[h.cnt x _ hxs]
   have:=MP.2 ⟨i,t,ht,hu,hp⟩
   simp;exact this
def fin:Nat→List Tsk→Option Nat→List Tsk×Bool
 |_,ts,none=>(ts,true)
 |0,ts,some _=>(ts,false)
 |k+1,ts,some x=>match ts[x]? with
  |none=>(ts,false)
  |some t=>if t.wait=0 then(ts,false)else if 0<t.wait-1 then(ts.set x { t with wait:=t.wait-1 },false)else fin k (ts.set x { t with wait:=t.wait-1 }) t.up
def Alike(ts ts':List Tsk):Prop:=ts'.length=ts.length∧∀ (i:Nat) (t:Tsk),ts[i]? = some t→∃ t':Tsk,ts'[i]? = some t'∧t'.lo=t.lo∧t'.hi=t.hi∧t'.up=t.up
theorem Alike.refl(ts:List Tsk):Alike ts ts:=⟨rfl,fun _ t h=>⟨t,h,rfl,rfl,rfl⟩⟩
theorem Alike.trans{a b c:List Tsk}(h:Alike a b)(k:Alike b c):Alike a c:=
 ⟨k.1.trans h.1,fun i t ht=>by
  obtain⟨t',h1,h2,h3,h4⟩:=h.2 i t ht
  obtain⟨t'',k1,k2,k3,k4⟩:=k.2 i t' h1
  exact⟨t'',k1,k2.trans h2,k3.trans h3,k4.trans h4⟩⟩
theorem Ng{α:Type}{l:List α}{x i:Nat}{a t:α}(h:(l.set x a)[i]? = some t):(i=x∧t=a∧x<l.length)∨(i≠x∧l[i]? = some t):=by
 rw[ApT]at h
 by_cases hx:x=i
 ·subst hx
  rw[An5 rfl]at h
  by_cases hl:x<l.length
  ·rw[An5 hl]at h;exact .inl ⟨rfl,(Aox h).symm,hl⟩
  ·rw[An1 hl]at h;cases h
 ·rw[An1 hx]at h;exact .inr ⟨fun e=>hx e.symm,h⟩
theorem O1{α:Type}{l:List α}{x:Nat}{a b:α}(h:l[x]? = some b):(l.set x a)[x]? = some a:=by
 rw[ApT,An5 rfl,An5 (An7.1 h).1]
theorem Yl{α:Type}{l:List α}{x i:Nat}{a:α}(h:i≠x):(l.set x a)[i]? = l[i]? := by
 rw[ApT,An1 (Aol h)]
theorem Vz{ts:List Tsk}{x:Nat}{t:Tsk}(h:ts[x]? = some t)(w:Nat):Alike ts (ts.set x { t with wait:=w }):=by
 refine⟨by simp,fun i s hs => ?_⟩
 by_cases hi:i=x
 ·subst hi
  rw[h]at hs;cases hs
  exact⟨_,O1 h,rfl,rfl,rfl⟩
 ·exact⟨s,by rw[Yl hi];exact hs,rfl,rfl,rfl⟩
theorem Ahq{ts:List Tsk}{A:List Nat}{x:Nat}{t:Tsk}(h:ts[x]? = some t)(w:Nat)(i j:Nat)(hj:j≠x):H8 (ts.set x { t with wait:=w }) A i j=H8 ts A i j:=by
 unfold H8 KD;rw[Yl hj]
theorem Yu{ts:List Tsk}{A:List Nat}{x:Nat}{t:Tsk}(h:ts[x]? = some t)(i:Nat):H8 ts A i x=(decide (t.up=some i)&&(A.contains x||decide (0<t.wait))):=by
 unfold H8 KD;rw[h]
theorem Ahp{ts:List Tsk}{A:List Nat}{x:Nat}{t:Tsk}(h:ts[x]? = some t)(w i:Nat):
  kids (ts.set x { t with wait:=w }) A i+(decide (t.up=some i)&&(A.contains x||decide (0<t.wait))).toNat=kids ts A i+(decide (t.up=some i)&&(A.contains x||decide (0<w))).toNat:=by
 unfold kids
 rw[Ao5]
 have:=Xg (l:=List.range ts.length) ApR (AoT.2 (An7.1 h).1) (Q:=H8 ts A i) (Q':=H8 (ts.set x { t with wait:=w }) A i) (fun j _ hj=>Ahq h w i j hj)
 rw[Yu h,Yu (O1 h)]at this
 exact this
theorem Am7{n:Nat}:∀ (k:Nat) (ts:List Tsk) (A:List Nat) (u:Option Nat),Tr n ts A u→(∀ x,u=some x→x<k∧x<ts.length∧x∉A)→(u=none→KD ts A 0=false) →
  ∃ ts',fin k ts u=(ts',A.isEmpty)∧Tr n ts' A none∧Alike ts ts':=by
 have emp:∀ {ts:List Tsk} {A:List Nat},Tr n ts A none→KD ts A 0=false→A.isEmpty=true:=by
  intro ts A h hp
  cases A with
  |nil=>rfl
  |cons a A=>
   obtain⟨t,ht,_⟩:=h.act a (by simp)
   have:=h.AnI a t ht ((JS ht).2 (.inl (by simp)))
   rw[hp]at this;cases this
 intro k
 induction k with
 |zero=>
  intro ts A u h hu ht
  cases u with
  |some x=>exact absurd (hu x rfl).1 (by omega)
  |none=>exact⟨ts,by unfold fin;rw[emp h (ht rfl)],h,Alike.refl ts⟩
 |succ k ih=>
  intro ts A u h hu ht
  cases u with
  |none=>exact⟨ts,by unfold fin;rw[emp h (ht rfl)],h,Alike.refl ts⟩
  |some x=>
   obtain⟨h1,h2,h3⟩:=hu x rfl
   have hx:ts[x]? = some (ts[x]):=Ant h2
   generalize ts[x]=t at hx
   have hc:=h.cnt x t hx
   rw[An5 rfl]at hc
   have hcon:A.contains x=false:=by simpa using h3
   have hks:=fun i=>Ahp (A:=A) hx (t.wait-1) i
   have htr:=h.tree x t hx
   have htree:∀ (i:Nat) (s:Tsk),(ts.set x { t with wait:=t.wait-1 })[i]? = some s→s.lo<s.hi∧s.hi≤n∧s.wait≤2∧(s.up=none→i=0)∧∀ x,s.up=some x→x<i:=by
    intro i s hs
    rcases Ng hs with⟨rfl,rfl,_⟩|⟨_,hs⟩
    ·exact⟨htr.1,htr.2.1,by show t.wait-1≤2;have:=htr.2.2.1;omega,htr.2.2.2⟩
    ·exact h.tree i s hs
   have hact:∀ a∈A,∃ s:Tsk,(ts.set x { t with wait:=t.wait-1 })[a]? = some s∧s.wait=0:=fun a ha=>by
    rw[Yl (by rintro rfl;exact h3 ha)];exact h.act a ha
   have hleaf:∀ a∈A,∀ (j:Nat) (s:Tsk),(ts.set x { t with wait:=t.wait-1 })[j]? = some s→s.up≠some a:=by
    intro a ha j s hs
    rcases Ng hs with⟨rfl,rfl,_⟩|⟨_,hs⟩
    ·exact h.leaf a ha j t hx
    ·exact h.leaf a ha j s hs
   by_cases hw:0<t.wait-1
   ·have hsame:∀ i,kids (ts.set x { t with wait:=t.wait-1 }) A i=kids ts A i:=fun i=>by
     have:=hks i
     rw[hcon,Anq hw,Anq (show 0<t.wait by omega)]at this
     omega
    have hT:Tr n (ts.set x { t with wait:=t.wait-1 }) A none:=⟨htree,h.nod,hact,hleaf,fun i s hs=>by
     rw[hsame]
     rcases Ng hs with⟨rfl,rfl,_⟩|⟨hne,hs⟩
     ·simp;omega
     ·rw[h.cnt i s hs,An1 (by simp;exact fun e=>hne e.symm)];simp⟩
    refine⟨_,?_,hT,Vz hx _⟩
    unfold fin
    rw[hx]
    simp only
    rw[An1 (by omega),An5 hw]
    have:A≠[]:=hT.descend _ x (An3 _) _ (O1 hx) ((JS (O1 hx)).2 (.inr hw))
    cases A with
    |nil=>exact absurd rfl this
    |cons a A=>rfl
   ·have hw1:t.wait=1:=by omega
    have hup:∀ i,kids (ts.set x { t with wait:=t.wait-1 }) A i+(decide (t.up=some i)).toNat=kids ts A i:=fun i=>by
     have:=hks i
     rw[hcon,hw1]at this
     simp at this
     rw[hw1];exact this
    have hT:Tr n (ts.set x { t with wait:=t.wait-1 }) A t.up:=⟨htree,h.nod,hact,hleaf,fun i s hs=>by
     have h5:=hup i
     rcases Ng hs with⟨rfl,rfl,_⟩|⟨hne,hs⟩
     ·show t.wait-1=_
      have:t.up≠some i:=fun e=>by have:=htr.2.2.2.2 i e;omega
      rw[An1 this]
      rw[Anp this]at h5
      simp at h5;omega
     ·rw[h.cnt i s hs,An1 (by simp;exact fun e=>hne e.symm)]
      by_cases he:t.up=some i
      ·rw[An5 he];rw[Anq he]at h5;simp at h5;omega
      ·rw[An1 he];rw[Anp he]at h5;simp at h5;omega⟩
    obtain⟨ts',e1,e2,e3⟩:=ih _ A t.up hT (fun y hy=>by
     have:=htr.2.2.2.2 y hy
     exact⟨by omega,by simp;omega,fun hyA=>h.leaf y hyA x t hx hy⟩) (fun hn=>by
     have:=htr.2.2.2.1 hn
     subst this
     have:¬ KD (ts.set 0 { t with wait:=t.wait-1 }) A 0=true:=by
      rw[JS (O1 hx)]
      rintro (h|h)
      ·exact h3 h
      ·exact hw h
     simpa using this)
    refine⟨ts',?_,e2,(Vz hx _).trans e3⟩
    unfold fin
    rw[hx]
    simp only
    rw[An1 (by omega),An1 hw,e1]
theorem Tr.part{n:Nat}{ts:List Tsk}{a:Nat}{A:List Nat}(h:Tr n ts (a::A) none){t:Tsk}(ht:ts[a]? = some t){A8:Nat}(h1:t.lo<A8)(h2:A8<t.hi):
  Tr n (ts.set a { t with wait:=2 }++[⟨t.lo,A8,some a,0⟩,⟨A8,t.hi,some a,0⟩]) (ts.length::(ts.length+1)::A) none:=by
 have hal:=(An7.1 ht).1
 have hnod:=h.nod
 rw[AoP]at hnod
 have hAl:∀ x∈A,x<ts.length:=fun x hx=>by
  obtain⟨s,hs,_⟩:=h.act x (by simp[hx])
  exact(An7.1 hs).1
 have cases':∀ {i:Nat} {s:Tsk},(ts.set a { t with wait:=2 }++[⟨t.lo,A8,some a,0⟩,⟨A8,t.hi,some a,0⟩])[i]? = some s →
   (i=a∧s = { t with wait:=2 })∨(i≠a∧i<ts.length∧ts[i]? = some s)∨(i=ts.length∧s=⟨t.lo,A8,some a,0⟩)∨(i=ts.length+1∧s=⟨A8,t.hi,some a,0⟩):=by
  intro i s hs
  by_cases hi:i<ts.length
  ·rw[AoN (by simpa using hi)]at hs
   rcases Ng hs with⟨e1,e2,_⟩|⟨e1,e2⟩
   ·exact .inl ⟨e1,e2⟩
   ·exact .inr (.inl ⟨e1,hi,e2⟩)
  ·rw[AoQ (by simpa using hi),Ao5]at hs
   obtain⟨d,rfl⟩:∃ d,i=ts.length+d:=⟨i-ts.length,by omega⟩
   rw[Aq3]at hs
   match d,hs with
   |0,hs=>exact .inr (.inr (.inl ⟨rfl,(Aox hs).symm⟩))
   |1,hs=>exact .inr (.inr (.inr ⟨rfl,(Aox hs).symm⟩))
   |d+2,hs=>simp at hs
 have htr:=h.tree a t ht
 have hold:∀ {i:Nat} {s:Tsk},i≠a→ts[i]? = some s→(ts.set a { t with wait:=2 }++[⟨t.lo,A8,some a,0⟩,⟨A8,t.hi,some a,0⟩])[i]? = some s:=by
  intro i s hi hs
  have:=(An7.1 hs).1
  rw[AoN (by simpa using this),Yl hi];exact hs
 have hata:(ts.set a { t with wait:=2 }++[⟨t.lo,A8,some a,0⟩,⟨A8,t.hi,some a,0⟩])[a]? = some { t with wait:=2 }:=by
  rw[AoN (by simpa using hal),O1 ht]
 have hn0:(ts.set a { t with wait:=2 }++[⟨t.lo,A8,some a,0⟩,⟨A8,t.hi,some a,0⟩])[ts.length]? = some ⟨t.lo,A8,some a,0⟩:=by
  rw[AoQ (by simp)];simp
 have hn1:(ts.set a { t with wait:=2 }++[⟨t.lo,A8,some a,0⟩,⟨A8,t.hi,some a,0⟩])[ts.length+1]? = some ⟨A8,t.hi,some a,0⟩:=by
  rw[AoQ (by simp)];simp
 refine⟨?_,?_,?_,?_,?_⟩
 ·intro i s hs
  rcases cases' hs with⟨rfl,rfl⟩|⟨_,_,hs⟩|⟨rfl,rfl⟩|⟨rfl,rfl⟩
  ·exact⟨htr.1,htr.2.1,An3 _,htr.2.2.2⟩
  ·exact h.tree i s hs
  ·exact⟨h1,by show A8≤n;have:=htr.2.1;omega,Apr _,fun e=>(by cases e),fun x e=>(by cases e;exact hal)⟩
  ·exact⟨h2,htr.2.1,Apr _,fun e=>(by cases e),fun x e=>(by cases e;omega)⟩
 ·rw[AoP,AoP]
  refine⟨?_,?_,hnod.2⟩
  ·simp;exact fun hx=>absurd (hAl _ hx) (by omega)
  ·exact fun hx=>absurd (hAl _ hx) (by omega)
 ·intro x hx
  simp only[Anx]at hx
  rcases hx with rfl|rfl|hx
  ·exact⟨_,hn0,rfl⟩
  ·exact⟨_,hn1,rfl⟩
  ·obtain⟨s,hs,hw⟩:=h.act x (by simp[hx])
   exact⟨s,hold (by rintro rfl;exact hnod.1 hx) hs,hw⟩
 ·intro x hx j s hs
  simp only[Anx]at hx
  have hxa:x≠a:=by
   rcases hx with rfl|rfl|hx
   ·omega
   ·omega
   ·rintro rfl;exact hnod.1 hx
  rcases cases' hs with⟨rfl,rfl⟩|⟨_,hj,hs⟩|⟨rfl,rfl⟩|⟨rfl,rfl⟩
  ·show t.up≠some x
   intro e
   have:=htr.2.2.2.2 x e
   rcases hx with rfl|rfl|hx
   ·omega
   ·omega
   ·exact h.leaf x (by simp[hx]) j t ht e
  ·intro e
   have:=(h.tree j s hs).2.2.2.2 x e
   rcases hx with rfl|rfl|hx
   ·omega
   ·omega
   ·exact h.leaf x (by simp[hx]) j s hs e
  ·intro e;cases e;exact hxa rfl
  ·intro e;cases e;exact hxa rfl
 ·intro i s hs
  have hk:kids (ts.set a { t with wait:=2 }++[⟨t.lo,A8,some a,0⟩,⟨A8,t.hi,some a,0⟩]) (ts.length::(ts.length+1)::A) i=kids ts (a::A) i+if i=a then 2 else 0:=by
   unfold kids
   rw[Anw,Ao5]
   show(List.range (ts.length+2)).countP _=_
   rw[Aok,Aok,List.countP_append,List.countP_append]
   have e1:(List.range ts.length).countP (H8 (ts.set a { t with wait:=2 }++[⟨t.lo,A8,some a,0⟩,⟨A8,t.hi,some a,0⟩]) (ts.length::(ts.length+1)::A) i)=(List.range ts.length).countP (H8 ts (a::A) i):=by
    refine AqD fun j hj => ?_
    rw[AoT]at hj
    by_cases hja:j=a
    ·subst hja
     unfold H8 KD
     rw[hata,ht];simp
    ·have hs0:ts[j]? = some ts[j]:=Ant hj
     unfold H8 KD
     rw[hold hja hs0,hs0]
     have h3:¬ j=ts.length:=by omega
     have h4:¬ j=ts.length+1:=by omega
     simp[hja,h3,h4]
   rw[e1]
   have e2:H8 (ts.set a { t with wait:=2 }++[⟨t.lo,A8,some a,0⟩,⟨A8,t.hi,some a,0⟩]) (ts.length::(ts.length+1)::A) i ts.length=decide (i=a):=by
    unfold H8 KD;rw[hn0];simp[eq_comm]
   have e3:H8 (ts.set a { t with wait:=2 }++[⟨t.lo,A8,some a,0⟩,⟨A8,t.hi,some a,0⟩]) (ts.length::(ts.length+1)::A) i (ts.length+1)=decide (i=a):=by
    unfold H8 KD;rw[hn1];simp[eq_comm]
   simp only[Apw,List.countP_nil,e2,e3]
   by_cases hi:i=a
   ·simp[hi]
   ·simp[hi]
  rw[hk]
  rcases cases' hs with⟨rfl,rfl⟩|⟨hne,hj,hs⟩|⟨rfl,rfl⟩|⟨rfl,rfl⟩
  ·have:=h.cnt i t ht
   obtain⟨t',e1,e2⟩:=h.act i (by simp)
   rw[ht]at e1;cases e1
   rw[e2]at this
   simp at this ⊢
   omega
  ·rw[An1 hne];exact h.cnt i s hs
  ·rw[An1 (by omega)]
   have:kids ts (a::A) ts.length=0:=by
    refine Nat.eq_zero_of_not_pos fun hp => ?_
    obtain⟨j,s,h3,h4,_⟩:=MP.1 hp
    have:=(h.tree j s h3).2.2.2.2 _ h4
    have:=(An7.1 h3).1
    omega
   simp[this]
  ·rw[An1 (by omega)]
   have:kids ts (a::A) (ts.length+1)=0:=by
    refine Nat.eq_zero_of_not_pos fun hp => ?_
    obtain⟨j,s,h3,h4,_⟩:=MP.1 hp
    have:=(h.tree j s h3).2.2.2.2 _ h4
    have:=(An7.1 h3).1
    omega
   simp[this]
theorem Ac2{ts:List Tsk}{A B:List Nat}(h:A.Perm B)(i:Nat):kids ts A i=kids ts B i:=by
 unfold kids
 refine AqD fun j _ => ?_
 unfold H8 KD
 have:A.contains j=B.contains j:=by
  rw[ApH];simp;exact h.mem_iff
 rw[this]
theorem Tr.perm{n:Nat}{ts:List Tsk}{A B:List Nat}(h:Tr n ts A none)(hp:A.Perm B):Tr n ts B none:=
 ⟨h.tree,hp.nodup_iff.1 h.nod,fun a ha=>h.act a (hp.mem_iff.2 ha),fun a ha=>h.leaf a (hp.mem_iff.2 ha),fun i t ht=>by rw[← Ac2 hp];exact h.cnt i t ht⟩
theorem Tr.did{n:Nat}{ts:List Tsk}{a:Nat}{A:List Nat}(h:Tr n ts (a::A) none){t:Tsk}(ht:ts[a]? = some t):
  ∃ ts',fin ts.length ts t.up=(ts',A.isEmpty)∧Tr n ts' A none∧Alike ts ts':=by
 have hnod:=h.nod
 rw[AoP]at hnod
 have hal:=(An7.1 ht).1
 obtain⟨t',e1,hw⟩:=h.act a (by simp)
 rw[ht]at e1;cases e1
 have htr:=h.tree a t ht
 have hk:∀ i,kids ts A i+(decide (t.up=some i)).toNat=kids ts (a::A) i:=by
  intro i
  unfold kids
  have:=Xg (l:=List.range ts.length) ApR (AoT.2 hal) (Q:=H8 ts (a::A) i) (Q':=H8 ts A i) (fun j _ hj=>by
   unfold H8 KD
   have:(a::A).contains j=A.contains j:=by simp[hj]
   rw[this])
  rw[Yu ht,Yu ht,hw]at this
  have h3:A.contains a=false:=by simpa using hnod.1
  rw[h3]at this
  simp at this
  omega
 refine Am7 ts.length ts A t.up ⟨h.tree,hnod.2,fun x hx=>h.act x (by simp[hx]),fun x hx=>h.leaf x (by simp[hx]),fun i s hs => ?_⟩ (fun x hx => ?_) (fun hu => ?_)
 ·have h5:=hk i
  have h6:=h.cnt i s hs
  simp at h6
  by_cases he:t.up=some i
  ·rw[An5 he];rw[Anq he]at h5;simp at h5;omega
  ·rw[An1 he];rw[Anp he]at h5;simp at h5;omega
 ·have:=htr.2.2.2.2 x hx
  exact⟨by omega,by omega,fun hxA=>h.leaf x (by simp[hxA]) a t ht hx⟩
 ·have:=htr.2.2.2.1 hu
  subst this
  have:¬ KD ts A 0=true:=by
   rw[JS ht]
   rintro (h|h)
   ·exact hnod.1 h
   ·omega
  simpa using this
end Go.Pev.Pl
end
section
namespace Go.Pev.Pl
def rng(ts:List Tsk)(a:Nat):List Nat:=match ts[a]? with
 |some t=>List.range' t.lo (t.hi-t.lo)
 |none=>[]
def Li(ts:List Tsk)(a:Nat):Nat:=match ts[a]? with
 |some t=>2*(t.hi-t.lo)-1
 |none=>0
def pot(ts:List Tsk)(A:List Nat):Nat:=(A.map (Li ts)).sum
def OF(dn:List Bool)(lo:Nat):Nat→List Bool
 |0=>dn
 |k+1=>(OF dn lo k).set (lo+k) true
theorem AHs(dn:List Bool)(lo k:Nat):(OF dn lo k).length=dn.length:=by
 induction k with
 |zero=>rfl
 |succ k ih=>unfold OF;rw[Ao5,ih]
theorem Acj(dn:List Bool)(lo k u:Nat)(hu:u<dn.length):(OF dn lo k)[u]? = some (decide (lo≤u∧u<lo+k)||dn[u]):=by
 induction k with
 |zero=>
  have:¬ (lo≤u∧u<lo+0):=by omega
  rw[Anp this]
  exact Ant hu
 |succ k ih=>
  unfold OF
  rw[ApT]
  by_cases h:lo+k=u
  ·rw[An5 h,An5 (by rw[AHs];omega),Anq (by omega)];rfl
  ·rw[An1 h,ih]
   congr 2
   rw[ApH,Anu,Anu]
   omega
structure Iv(n:Nat)(ts:List Tsk)(dn:List Bool)(A U:List Nat)(D:Nat):Prop where
 len:dn.length=n
 tr:Tr n ts A none
 units:(A.flatMap (rng ts)++U).Perm (List.range n)
 dn:∀ u,u<n→dn[u]? = some (decide (u∈U))
 size:ts.length+1=2*(A.length+D)
 dle:D≤U.length
theorem AMH{α β:Type}{l l':List α}(h:l.Perm l')(f:α→List β):(l.flatMap f).Perm (l'.flatMap f):=by
 induction h with
 |nil=>exact Aq1 _
 |cons x _ ih=>rw[AoZ,AoZ];exact ih.append_left _
 |swap x y l=>
  simp only[AoZ,← AoV]
  exact List.perm_append_comm.append_right _
 |trans _ _ h1 h2=>exact h1.trans h2
theorem Iv.perm{n:Nat}{ts:List Tsk}{dn:List Bool}{A B U:List Nat}{D:Nat}(h:Iv n ts dn A U D)(hp:A.Perm B):Iv n ts dn B U D:=
 ⟨h.len,h.tr.perm hp,((AMH hp.symm _).append_right _).trans h.units,h.dn,by rw[← hp.length_eq];exact h.size,h.dle⟩
theorem ABC{ts:List Tsk}{A B:List Nat}(hp:A.Perm B):pot ts A=pot ts B:=(hp.map _).sum_nat
theorem JQ{ts ts':List Tsk}(h:Alike ts ts'){a:Nat}(ha:a<ts.length):rng ts' a=rng ts a∧Li ts' a=Li ts a:=by
 have hs:ts[a]? = some ts[a]:=Ant ha
 obtain⟨t',h1,h2,h3,_⟩:=h.2 a _ hs
 unfold rng Li
 rw[h1,hs]
 simp only[h2,h3,and_self]
theorem Iv.lt{n:Nat}{ts:List Tsk}{dn:List Bool}{A U:List Nat}{D:Nat}(h:Iv n ts dn A U D){a:Nat}(ha:a∈A):a<ts.length:=by
 obtain⟨t,ht,_⟩:=h.tr.act a ha
 exact(An7.1 ht).1
theorem Hj{α β:Type}{l:List α}{f g:α→List β}(h:∀ x∈l,f x=g x):l.flatMap f=l.flatMap g:=by
 induction l with
 |nil=>rfl
 |cons x l ih=>rw[AoZ,AoZ,h x (by simp),ih fun y hy=>h y (by simp[hy])]
theorem AKi{lo A8 hi:Nat}(h1:lo≤A8)(h2:A8≤hi):List.range' lo (A8-lo)++List.range' A8 (hi-A8)=List.range' lo (hi-lo):=by
 have:=List.range'_append_1 (s:=lo) (m:=A8-lo) (n:=hi-A8)
 rw[show lo+(A8-lo)=A8 by omega,show A8-lo+(hi-A8)=hi-lo by omega]at this
 exact this
theorem Iv.part{n:Nat}{ts:List Tsk}{dn:List Bool}{a:Nat}{A U:List Nat}{D:Nat}(h:Iv n ts dn (a::A) U D){t:Tsk}(ht:ts[a]? = some t){A8:Nat}(h1:t.lo<A8)(h2:A8<t.hi):
  Iv n (ts.set a { t with wait:=2 }++[⟨t.lo,A8,some a,0⟩,⟨A8,t.hi,some a,0⟩]) dn (ts.length::(ts.length+1)::A) U D ∧
  pot (ts.set a { t with wait:=2 }++[⟨t.lo,A8,some a,0⟩,⟨A8,t.hi,some a,0⟩]) (ts.length::(ts.length+1)::A)<pot ts (a::A) ∧
  ∀ x,x<ts.length→rng (ts.set a { t with wait:=2 }++[⟨t.lo,A8,some a,0⟩,⟨A8,t.hi,some a,0⟩]) x=rng ts x:=by
 have hold:∀ x,x<ts.length→rng (ts.set a { t with wait:=2 }++[⟨t.lo,A8,some a,0⟩,⟨A8,t.hi,some a,0⟩]) x=rng ts x∧Li (ts.set a { t with wait:=2 }++[⟨t.lo,A8,some a,0⟩,⟨A8,t.hi,some a,0⟩]) x=Li ts x:=by
  intro x hx
  have h3:=JQ (Vz ht 2) hx
  rw[← h3.1,← h3.2]
  unfold rng Li
  rw[AoN (by simpa using hx)]
  exact⟨rfl,rfl⟩
 have hn0:(ts.set a { t with wait:=2 }++[⟨t.lo,A8,some a,0⟩,⟨A8,t.hi,some a,0⟩])[ts.length]? = some ⟨t.lo,A8,some a,0⟩:=by
  rw[AoQ (by simp)];simp
 have hn1:(ts.set a { t with wait:=2 }++[⟨t.lo,A8,some a,0⟩,⟨A8,t.hi,some a,0⟩])[ts.length+1]? = some ⟨A8,t.hi,some a,0⟩:=by
  rw[AoQ (by simp)];simp
 have hA:∀ x∈A,x<ts.length:=fun x hx=>h.lt (by simp[hx])
 refine⟨⟨h.len,h.tr.part ht h1 h2,?_,h.dn,?_,h.dle⟩,?_,fun x hx=>(hold x hx).1⟩
 ·rw[AoZ,AoZ,Hj fun x hx=>(hold x (hA x hx)).1]
  have e0:rng (ts.set a { t with wait:=2 }++[⟨t.lo,A8,some a,0⟩,⟨A8,t.hi,some a,0⟩]) ts.length=List.range' t.lo (A8-t.lo):=by unfold rng;rw[hn0]
  have e1:rng (ts.set a { t with wait:=2 }++[⟨t.lo,A8,some a,0⟩,⟨A8,t.hi,some a,0⟩]) (ts.length+1)=List.range' A8 (t.hi-A8):=by unfold rng;rw[hn1]
  rw[e0,e1,← AoV,AKi (by omega) (by omega)]
  have:=h.units
  rw[AoZ]at this
  have e2:rng ts a=List.range' t.lo (t.hi-t.lo):=by unfold rng;rw[ht]
  rw[e2]at this
  exact this
 ·have:=h.size
  simp only[Anw,Ao5,An0,AoB]at this ⊢
  omega
 ·unfold pot
  rw[AoW,AoW,AoW,AqU,AqU,AqU,Apa fun x hx=>(hold x (hA x hx)).2]
  have e0:Li (ts.set a { t with wait:=2 }++[⟨t.lo,A8,some a,0⟩,⟨A8,t.hi,some a,0⟩]) ts.length=2*(A8-t.lo)-1:=by unfold Li;rw[hn0]
  have e1:Li (ts.set a { t with wait:=2 }++[⟨t.lo,A8,some a,0⟩,⟨A8,t.hi,some a,0⟩]) (ts.length+1)=2*(t.hi-A8)-1:=by unfold Li;rw[hn1]
  have e2:Li ts a=2*(t.hi-t.lo)-1:=by unfold Li;rw[ht]
  rw[e0,e1,e2]
  omega
theorem Iv.did{n:Nat}{ts:List Tsk}{dn:List Bool}{a:Nat}{A U:List Nat}{D:Nat}(h:Iv n ts dn (a::A) U D){t:Tsk}(ht:ts[a]? = some t):
  ∃ ts',fin ts.length ts t.up=(ts',A.isEmpty)∧Iv n ts' (OF dn t.lo (t.hi-t.lo)) A (U++rng ts a) (D+1)∧pot ts' A<pot ts (a::A)∧Alike ts ts':=by
 obtain⟨ts',e1,e2,e3⟩:=h.tr.did ht
 have hA:∀ x∈A,x<ts.length:=fun x hx=>h.lt (by simp[hx])
 have htr:=h.tr.tree a t ht
 have e4:rng ts a=List.range' t.lo (t.hi-t.lo):=by unfold rng;rw[ht]
 refine⟨ts',e1,⟨by rw[AHs];exact h.len,e2,?_,?_,?_,?_⟩,?_,e3⟩
 ·rw[Hj fun x hx=>(JQ e3 (hA x hx)).1]
  refine List.Perm.trans ?_ h.units
  rw[AoZ,← AoV,AoV (rng ts a)]
  exact Ap0
 ·intro u hu
  rw[Acj _ _ _ _ (by rw[h.len];exact hu)]
  have h5:=h.dn u hu
  rw[Ant (by rw[h.len];exact hu)]at h5
  rw[Aox h5,e4]
  congr 1
  rw[ApH,ApW,Anu,Anu,Anu,Anv,Aq7]
  constructor
  ·rintro (h|h)
   ·exact .inr h
   ·exact .inl h
  ·rintro (h|h)
   ·exact .inr h
   ·exact .inl h
 ·rw[e3.1]
  have:=h.size
  simp only[An0]at this
  omega
 ·rw[Anw,e4,List.length_range']
  have:=h.dle
  have:=htr.1
  omega
 ·unfold pot
  rw[AoW,AqU,Apa fun x hx=>(JQ e3 (hA x hx)).2]
  have:Li ts a=2*(t.hi-t.lo)-1:=by unfold Li;rw[ht]
  have:=htr.1
  omega
theorem Iv.bound{n:Nat}{ts:List Tsk}{dn:List Bool}{A U:List Nat}{D:Nat}(h:Iv n ts dn A U D):A.length+D≤n:=by
 have h1:=h.units.length_eq
 rw[Anw,AoR]at h1
 have h2:A.length≤(A.flatMap (rng ts)).length:=by
  have hA:∀ x∈A,0<(rng ts x).length:=fun x hx=>by
   obtain⟨t,ht,_⟩:=h.tr.act x hx
   have:=(h.tr.tree x t ht).1
   unfold rng;rw[ht];simp;omega
  clear h1 h
  induction A with
  |nil=>exact An3 _
  |cons a A ih=>
   rw[AoZ,Anw,An0]
   have:=hA a (by simp)
   have:=ih fun x hx=>hA x (by simp[hx])
   omega
 have:=h.dle
 omega
theorem Iv.AnG{n:Nat}{ts:List Tsk}{dn:List Bool}{a:Nat}{A U:List Nat}{D:Nat}(h:Iv n ts dn (a::A) U D){t:Tsk}(ht:ts[a]? = some t){A8:Nat}(h1:t.lo<A8)(h2:A8<t.hi):ts.length+2+1≤2*n:=by
 have h3:=(h.part ht h1 h2).1
 have:=h3.bound
 have h4:=h3.size
 simp only[Anw,Ao5,An0,AoB]at h4 this
 omega
theorem Iv.AmS{n:Nat}{ts:List Tsk}{dn:List Bool}{A U:List Nat}{D:Nat}(h:Iv n ts dn A U D){a:Nat}(ha:a∈A){t:Tsk}(ht:ts[a]? = some t):dn[t.lo]? = some false:=by
 have htr:=h.tr.tree a t ht
 rw[h.dn t.lo (by omega)]
 congr 1
 rw[Aou]
 intro hU
 have hnd:=(h.units.nodup_iff).2 ApR
 rw[ApS]at hnd
 refine hnd.2.2 t.lo (Apv.2 ⟨a,ha,?_⟩) t.lo hU rfl
 unfold rng;rw[ht]
 rw[Aq7];omega
end Go.Pev.Pl
end
section
namespace Go.Pev.Pl
structure Crw where
 ts:List Tsk
 dn:List Bool
 ds:List (List Nat)
 ov:Bool
 st:Nat
 idl:Nat
structure Evt where
 w:Nat
 ft:Option (Nat×Nat)
 pt:Bool
def found(ds:List (List Nat))(p v:Nat):Option (Nat×Nat×List (List Nat)):=
 match(ds.getD p []).getLast? with
 |some t=>some (t,p,ds.set p (ds.getD p []).dropLast)
 |none=>match ds.getD v []with
  |t::r=>some (t,v,ds.set v r)
  |[]=>none
def A8(k:Tsk):Nat:=k.lo+(k.hi-k.lo)/2
def stp(g:Nat)(c:Crw)(p v:Nat):Crw×Evt:=
 match found c.ds p v with
 |none=>({ c with st:=c.st+1,idl:=c.idl+1 },⟨p,none,false⟩)
 |some (t,f,ds)=>match c.ts[t]? with
  |none=>(c,⟨p,none,false⟩)
  |some k=>if g<k.hi-k.lo then
    ({ c with ts:=c.ts.set t { k with wait:=2 }++[⟨k.lo,A8 k,some t,0⟩,⟨A8 k,k.hi,some t,0⟩],ds:=ds.set p (ds.getD p []++[c.ts.length+1,c.ts.length]),st:=c.st+1 },⟨p,some (f,t),true⟩)
   else({ ts:=(fin c.ts.length c.ts k.up).1,dn:=OF c.dn k.lo (k.hi-k.lo),ds:=ds,ov:=c.ov||(fin c.ts.length c.ts k.up).2,st:=c.st+1,idl:=c.idl },⟨p,some (f,t),false⟩)
theorem Jf{α:Type}{l:List α}{i:Nat}{a d:α}(h:l[i]? = some a):l.getD i d=a:=by
 rw[Ans,h];rfl
theorem AMG{l:List (List Nat)}{p:Nat}{x:List Nat}(h:l[p]? = some x)(y:List Nat):∃ R,l.flatten.Perm (x++R)∧(l.set p y).flatten.Perm (y++R):=by
 induction l generalizing p with
 |nil=>simp at h
 |cons a l ih=>
  cases p with
  |zero=>
   simp at h;subst h
   exact⟨l.flatten,by simp,by simp⟩
  |succ p=>
   obtain⟨R,h1,h2⟩:=ih (by simpa using h)
   refine⟨a++R,?_,?_⟩
   ·rw[ApM]
    refine(h1.append_left a).trans ?_
    rw[← AoV,← AoV]
    exact List.perm_append_comm.append_right R
   ·rw[List.set_cons_succ,ApM]
    refine(h2.append_left a).trans ?_
    rw[← AoV,← AoV]
    exact List.perm_append_comm.append_right R
theorem AC9{ds:List (List Nat)}{p v t f:Nat}{ds':List (List Nat)}(hp:p<ds.length)(hv:v<ds.length)(h:found ds p v=some (t,f,ds')):ds.flatten.Perm (t::ds'.flatten)∧ds'.length=ds.length∧f<ds.length:=by
 have e1:ds[p]? = some (ds.getD p []):=by rw[Ant hp,Jf (Ant hp)]
 have e2:ds[v]? = some (ds.getD v []):=by rw[Ant hv,Jf (Ant hv)]
 unfold found at h
 split at h
 ·rename_i x hx
  simp only[Anr,AoF]at h
  obtain⟨rfl,rfl,rfl⟩:=h
  obtain⟨ys,hy⟩:=Aqv.1 hx
  rw[hy,List.dropLast_concat]
  rw[hy]at e1
  obtain⟨R,h1,h2⟩:=AMG e1 ys
  refine⟨h1.trans ?_,by simp,hp⟩
  refine List.Perm.trans ?_ (h2.symm.cons x)
  rw[AoV]
  exact List.perm_middle
 ·split at h
  ·rename_i x r hx
   simp only[Anr,AoF]at h
   obtain⟨rfl,rfl,rfl⟩:=h
   rw[hx]at e2
   obtain⟨R,h1,h2⟩:=AMG e2 r
   exact⟨h1.trans (h2.symm.cons x),by simp,hv⟩
  ·cases h
theorem AXE{ds:List (List Nat)}{p v:Nat}(h:found ds p v=none):ds.getD p []=[]∧ds.getD v []=[]:=by
 unfold found at h
 split at h
 ·cases h
 ·rename_i hx
  split at h
  ·cases h
  ·rename_i hv
   exact⟨List.getLast?_eq_none_iff.1 hx,hv⟩
def evU(ts:List Tsk)(E:List Evt):List Nat:=E.flatMap fun e=>match e.ft with
 |some (_,t)=>if e.pt then []else rng ts t
 |none=>[]
structure StI(n W:Nat)(c:Crw)(E:List Evt):Prop where
 iv:∃ D,Iv n c.ts c.dn c.ds.flatten (evU c.ts E) D
 ov:c.ov=c.ds.flatten.isEmpty
 w:c.ds.length=W
 ev:∀ e∈E,∀ f t,e.ft=some (f,t)→t<c.ts.length
 st:c.st=E.length
 idl:c.idl≤E.length
theorem Yy(ts:List Tsk)(E E':List Evt):evU ts (E++E')=evU ts E++evU ts E':=by unfold evU;rw[ApE]
theorem AII{ts ts':List Tsk}{E:List Evt}(hE:∀ e∈E,∀ f t,e.ft=some (f,t)→t<ts.length)(h:∀ x,x<ts.length→rng ts' x=rng ts x):evU ts' E=evU ts E:=by
 unfold evU
 refine Hj fun e he => ?_
 cases hf:e.ft with
 |none=>rfl
 |some q=>
  obtain⟨f,t⟩:=q
  simp only
  rw[h t (hE e he f t hf)]
theorem AJx{g n W:Nat}{c:Crw}{E:List Evt}{p v:Nat}(hg:1≤g)(h:StI n W c E)(hp:p<W)(hv:v<W):
  StI n W (stp g c p v).1 (E++[(stp g c p v).2]) ∧
  (((stp g c p v).1.ds=c.ds∧(stp g c p v).1.ts=c.ts∧c.ds.getD p []=[])∨pot (stp g c p v).1.ts (stp g c p v).1.ds.flatten<pot c.ts c.ds.flatten):=by
 obtain⟨D,hiv⟩:=h.iv
 unfold stp
 cases hf:found c.ds p v with
 |none=>
  refine⟨⟨⟨D,?_⟩,h.ov,h.w,?_,by simp[h.st],by have:=h.idl;simp;omega⟩,.inl ⟨rfl,rfl,(AXE hf).1⟩⟩
  ·rw[Yy]
   simpa [evU]using hiv
  ·intro e he f t hft
   rcases Anv.1 he with he|he
   ·exact h.ev e he f t hft
   ·simp at he;subst he;cases hft
 |some q=>
  obtain⟨t,f,ds'⟩:=q
  obtain⟨h1,h2,h3⟩:=AC9 (by rw[h.w];exact hp) (by rw[h.w];exact hv) hf
  have hiv1:=hiv.perm h1
  obtain⟨k,hk,hkw⟩:=hiv1.tr.act t (by simp)
  have htr:=hiv1.tr.tree t k hk
  have htl:=(An7.1 hk).1
  simp only[hk]
  by_cases hgr:g<k.hi-k.lo
  ·rw[An5 hgr]
   have m1:k.lo<A8 k:=by unfold A8;omega
   have m2:A8 k<k.hi:=by unfold A8;omega
   obtain⟨i1,i2,i3⟩:=hiv1.part hk m1 m2
   have hpl:p<ds'.length:=by rw[h2,h.w];exact hp
   obtain⟨R,r1,r2⟩:=AMG (p:=p) (x:=ds'.getD p []) (by rw[Ant hpl,Jf (Ant hpl)]) (ds'.getD p []++[c.ts.length+1,c.ts.length])
   have hperm:(c.ts.length::(c.ts.length+1)::ds'.flatten).Perm (ds'.set p (ds'.getD p []++[c.ts.length+1,c.ts.length])).flatten:=by
    refine List.Perm.trans ?_ r2.symm
    refine((r1.cons _).cons _).trans ?_
    rw[AoV]
    refine List.Perm.trans ?_ (List.perm_append_comm_assoc [c.ts.length+1,c.ts.length] _ _)
    simp only[AoL,Aoc]
    exact List.Perm.swap _ _ _
   refine⟨⟨⟨D,?_⟩,?_,by simp[h2,h.w],?_,by simp[h.st],by have:=h.idl;simp;omega⟩,.inr ?_⟩
   ·rw[Yy,AII h.ev i3]
    have:=i1.perm hperm
    simpa [evU]using this
   ·show c.ov=_
    rw[h.ov]
    have e1:c.ds.flatten≠[]:=by intro e;rw[e]at h1;exact absurd h1.length_eq (by simp)
    have e2:(ds'.set p (ds'.getD p []++[c.ts.length+1,c.ts.length])).flatten≠[]:=by intro e;rw[e]at hperm;exact absurd hperm.length_eq (by simp)
    rw[Aqw.2 e1,Aqw.2 e2]
   ·intro e he f' t' hft
    rcases Anv.1 he with he|he
    ·have:=h.ev e he f' t' hft
     simp;omega
    ·simp at he;subst he;cases hft
     simp;omega
   ·show pot _ _<_
    rw[← ABC hperm,ABC h1]
    exact i2
  ·rw[An1 hgr]
   obtain⟨ts',d1,d2,d3,d4⟩:=hiv1.did hk
   rw[d1]
   refine⟨⟨⟨D+1,?_⟩,?_,by rw[← h.w];exact h2,?_,by simp[h.st],by have:=h.idl;simp;omega⟩,.inr ?_⟩
   ·show Iv n ts' _ ds'.flatten (evU ts' _) _
    rw[Yy,AII h.ev fun x hx=>(JQ d4 hx).1]
    have:evU ts' [⟨p,some (f,t),false⟩]=rng c.ts t:=by
     unfold evU;simp[(JQ d4 htl).1]
    rw[this]
    exact d2
   ·show(c.ov||_)=_
    rw[h.ov]
    have e1:c.ds.flatten≠[]:=by intro e;rw[e]at h1;exact absurd h1.length_eq (by simp)
    rw[Aqw.2 e1];rfl
   ·intro e he f' t' hft
    show t'<ts'.length
    rw[d4.1]
    rcases Anv.1 he with he|he
    ·exact h.ev e he f' t' hft
    ·simp at he;subst he;cases hft
     exact htl
   ·show pot ts' _<_
    rw[ABC h1]
    exact d3
def Am(g W:Nat)(c:Crw×List Evt):Nat→Crw×List Evt
 |0=>c
 |t+1=>let s:=Am g W c t
  if s.1.ov then s else
   let x:=stp g s.1 (t % W) ((t % W+1+t/W) % W)
   (x.1,s.2++[x.2])
theorem Ym{g n W:Nat}(hg:1≤g)(hW:0<W){c:Crw×List Evt}(h:StI n W c.1 c.2):∀ t,StI n W (Am g W c t).1 (Am g W c t).2∧(Am g W c t).2.length≤c.2.length+t:=by
 intro t
 induction t with
 |zero=>exact⟨h,An3 _⟩
 |succ t ih=>
  unfold Am
  simp only
  split
  ·exact⟨ih.1,by omega⟩
  ·refine⟨(AJx hg ih.1 (AqX _ hW) (AqX _ hW)).1,?_⟩
   simp;omega
theorem O3{g W:Nat}{c:Crw×List Evt}{t:Nat}(h:(Am g W c t).1.ov=true):∀ d,Am g W c (t+d)=Am g W c t:=by
 intro d
 induction d with
 |zero=>rfl
 |succ d ih=>
  rw[← Apt]
  show(let s:=Am g W c (t+d);if s.1.ov then s else _)=_
  simp only
  rw[ih,An5 h]
theorem AUa{g n W:Nat}(hg:1≤g)(hW:0<W){c:Crw×List Evt}(h:StI n W c.1 c.2)(r:Nat):∀ j,j≤W →
  (∃ i,i≤j∧(Am g W c (r*W+i)).1.ov=true)∨pot (Am g W c (r*W+j)).1.ts (Am g W c (r*W+j)).1.ds.flatten<pot (Am g W c (r*W)).1.ts (Am g W c (r*W)).1.ds.flatten ∨
  ((Am g W c (r*W+j)).1.ds=(Am g W c (r*W)).1.ds∧(Am g W c (r*W+j)).1.ts=(Am g W c (r*W)).1.ts∧∀ i,i<j→(Am g W c (r*W)).1.ds.getD i []=[]):=by
 intro j
 induction j with
 |zero=>intro _;exact .inr (.inr ⟨rfl,rfl,fun i hi=>absurd hi (by omega)⟩)
 |succ j ih=>
  intro hj
  by_cases ho:(Am g W c (r*W+j)).1.ov=true
  ·exact .inl ⟨j,by omega,ho⟩
  have hstep:Am g W c (r*W+(j+1))=((stp g (Am g W c (r*W+j)).1 j ((j+1+r) % W)).1,(Am g W c (r*W+j)).2++[(stp g (Am g W c (r*W+j)).1 j ((j+1+r) % W)).2]):=by
   rw[← Apt]
   show(let s:=Am g W c (r*W+j);if s.1.ov then s else _)=_
   simp only
   rw[An1 ho]
   have e1:(r*W+j) % W=j:=by rw[Nat.add_comm,Nat.add_mul_mod_self_right];exact Apf (by omega)
   have e2:(r*W+j)/W=r:=by rw[Nat.add_comm,Nat.add_mul_div_right _ _ hW,Nat.div_eq_of_lt (by omega),Ao8]
   rw[e1,e2]
  have hok:=AJx (p:=j) (v:=(j+1+r) % W) hg (Ym hg hW h (r*W+j)).1 (by omega) (AqX _ hW)
  rw[hstep]
  rcases ih (by omega)with⟨i,h1,h2⟩|h1|⟨h1,h2,h3⟩
  ·exact .inl ⟨i,by omega,h2⟩
  ·rcases hok.2 with⟨k1,k2,_⟩|k1
   ·refine .inr (.inl ?_)
    show pot (stp g _ _ _).1.ts (stp g _ _ _).1.ds.flatten<_
    rw[k1,k2];exact h1
   ·exact .inr (.inl (Nat.lt_trans k1 h1))
  ·rcases hok.2 with⟨k1,k2,k3⟩|k1
   ·refine .inr (.inr ⟨k1.trans h1,k2.trans h2,fun i hi => ?_⟩)
    by_cases hij:i=j
    ·subst hij;rw[← h1];exact k3
    ·exact h3 i (by omega)
   ·refine .inr (.inl ?_)
    show pot (stp g _ _ _).1.ts (stp g _ _ _).1.ds.flatten<_
    rw[h1,h2]at k1;exact k1
theorem flatten_nil{l:List (List Nat)}(h:∀ i,i<l.length→l.getD i []=[]):l.flatten=[]:=by
 induction l with
 |nil=>rfl
 |cons a l ih=>
  have h0:=h 0 (by simp)
  simp at h0
  rw[ApM,h0,Aoc]
  refine ih fun i hi => ?_
  have:=h (i+1) (by simp;omega)
  simpa using this
theorem AbO{g n W:Nat}(hg:1≤g)(hW:0<W){c:Crw×List Evt}(h:StI n W c.1 c.2):(Am g W c ((pot c.1.ts c.1.ds.flatten+1)*W)).1.ov=true:=by
 have main:∀ r,(Am g W c (r*W)).1.ov=true∨pot (Am g W c (r*W)).1.ts (Am g W c (r*W)).1.ds.flatten+r≤pot c.1.ts c.1.ds.flatten:=by
  intro r
  induction r with
  |zero=>rw[Ap1];exact .inr (An3 _)
  |succ r ih=>
   rw[Ao0,ApV]
   rcases ih with h1|h1
   ·exact .inl (by rw[O3 h1];exact h1)
   ·rcases AUa hg hW h r W (An3 _)with⟨i,h2,h3⟩|h2|⟨h2,h3,h4⟩
    ·refine .inl ?_
     have:=O3 h3 (W-i)
     rw[show r*W+i+(W-i)=r*W+W by omega]at this
     rw[this];exact h3
    ·exact .inr (by omega)
    ·have hs:=(Ym hg hW h (r*W)).1
     have:=flatten_nil (l:=(Am g W c (r*W)).1.ds) (fun i hi=>h4 i (by rw[hs.w]at hi;exact hi))
     have ho:=hs.ov
     rw[this]at ho
     exact .inl (by rw[O3 ho];exact ho)
 rcases main (pot c.1.ts c.1.ds.flatten+1)with h1|h1
 ·exact h1
 ·omega
theorem StI.done{n W:Nat}{c:Crw}{E:List Evt}(h:StI n W c E)(ho:c.ov=true):(evU c.ts E).Perm (List.range n):=by
 obtain⟨D,hiv⟩:=h.iv
 have hv:=h.ov
 rw[ho]at hv
 have:=List.isEmpty_iff.1 hv.symm
 have hu:=hiv.units
 rw[this]at hu
 simpa using hu
end Go.Pev.Pl
end
section
namespace Go.Pev.Pl
abbrev TkI:=Int×Int×Int×Int×Unit
def J2:Option Nat→Int
 |none=>-1
 |some u=>(u:Int)
def Ai(t:Tsk):TkI:=((t.lo:Int),(t.hi:Int),J2 t.up,(t.wait:Int),())
abbrev MX(g:Nat)(ts:List Tsk)(dn:List Bool):List TkI×Int×List Bool×Unit:=(ts.map Ai,(g:Int),dn,())
structure Wok(g:Nat)(ts:List Tsk)(dn:List Bool):Prop where
 g1:1≤g
 g2:g≤100
 n1:1≤dn.length
 n2:dn.length≤1000
 t1:1≤ts.length
 t2:ts.length≤2000
 ok:∀ (i:Nat) (t:Tsk),ts[i]? = some t→t.lo<t.hi∧t.hi≤dn.length∧t.wait≤2∧∀ x,t.up=some x→x<i
theorem OB(a b:Int):HB (a,b,())=some (decide (1≤a∧a≤1000∧1≤b∧b≤100),()):=by
 rw[QW,IC,An,An,An,An]
 by_cases h1:1≤a
 ·by_cases h2:a≤1000
  ·by_cases h3:1≤b
   ·by_cases h4:b≤100<;>simp[h1,h2,h3,h4]
   ·simp[h1,h2,h3]
  ·simp[h1,h2]
 ·simp[h1]
theorem Ajr{u:Option Nat}{i:Nat}(h:∀ x,u=some x→x<i):-1≤J2 u∧J2 u<(i:Int):=by
 cases u with
 |none=>simp only[J2];omega
 |some x=>have:=h x rfl;simp only[J2];omega
theorem Eu{ts:List Tsk}{i:Nat}{t:Tsk}(h:ts[i]? = some t):(ts.map Ai)[i]? = some (Ai t):=by rw[AoU,h];rfl
theorem Wm{g:Nat}{ts:List Tsk}{dn:List Bool}(h:Wok g ts dn):NK (MX g ts dn,())=some (true,()):=by
 have:=h.g1;have:=h.g2;have:=h.n1;have:=h.n2;have:=h.t1;have:=h.t2
 rw[Zx,NJ]
 simp only[AS,AoE,OB]
 rw[Anq (show 1≤(dn.length:Int)∧(dn.length:Int)≤1000∧1≤(g:Int)∧(g:Int)≤100 by omega)]
 simp only[An2]
 rw[Ag,Anp (show ¬ (ts.length:Int)=0 by omega),Ah,Anp (show ¬ (2000:Int)<(ts.length:Int) by omega)]
 have e:=IW (step:=D5) (fun i=>(ts.map Ai,(g:Int),dn,ts.map Ai,(ts.length:Int),(i:Int),())) (ts.map Ai) (fun _=>false) (fun _=>.inl (false,())) (.inr (.inl ())) (by rw[AoE];omega)
  (fun i x hi hx=>by
   rw[AoE]at hi
   have ht:ts[i]? = some ts[i]:=Ant hi
   generalize ts[i]=t at ht
   rw[Eu ht]at hx
   cases hx
   obtain⟨k1,k2,k3,k4⟩:=h.ok i t ht
   have k5:=Ajr k4
   rw[D5,AL,Anq hi]
   simp only[AT (Eu ht),Ai,AS,Ah,An]
   rw[Anp (show ¬ (t.lo:Int)<0 by omega),Anp (show ¬ (t.hi:Int)≤(t.lo:Int) by omega),Anp (show ¬ (dn.length:Int)<(t.hi:Int) by omega),Anp (show ¬ J2 t.up < -1 by omega),
    Anp (show ¬ (i:Int)≤J2 t.up by omega),Anp (show ¬ (t.wait:Int)<0 by omega),Anp (show ¬ (2:Int)<(t.wait:Int) by omega),AP (by omega)]
   simp)
  (by rw[D5,AoE,AL,Anp (by omega)])
 have e':AX D5 many (ts.map Ai,(g:Int),dn,ts.map Ai,(ts.length:Int),(0:Int),())=_:=e
 simp only[e']
 simp
theorem Ls{g:Nat}{ts:List Tsk}{dn:List Bool}(h:Wok g ts dn){i:Nat}(hi:i<ts.length):J6 (MX g ts dn,(i:Int),())=some (0,()):=by
 rw[Zu,NI]
 simp only[Wm h,AS,AoE,An2]
 rw[Ah,Anp (by omega),C9,Anp (by omega)]
theorem Lr{t:Tsk}(h:t.lo≤t.hi)(h2:t.hi≤1000):IB (Ai t,())=some (((t.hi-t.lo:Nat):Int),()):=by
 rw[Zt,NH]
 simp only[Ai]
 rw[DE (by omega)]
theorem Wn{g:Nat}{ts:List Tsk}{dn:List Bool}(h:Wok g ts dn){i:Nat}{t:Tsk}(ht:ts[i]? = some t):NM (MX g ts dn,(i:Int),())=some (decide (g<t.hi-t.lo),()):=by
 have hk:=h.ok i t ht
 have:=h.n2
 rw[Z2,NL]
 have e0:ieq (0:Int) 0=true:=by rw[Ag];rfl
 simp only[Ls h (An7.1 ht).1,e0,AT (Eu ht)]
 have:=Lr (t:=t) (by omega) (by omega)
 rw[show((Ai t).1,(Ai t).2.1,(Ai t).2.2.1,(Ai t).2.2.2.1,())=Ai t from rfl,this]
 simp only[AL]
theorem AaD{ts:List Tsk}{i:Nat}{t:Tsk}:(ts.map Ai).set i (Ai t)=(ts.set i t).map Ai:=by rw[List.map_set]
theorem AT1{g:Nat}{ts:List Tsk}{dn:List Bool}(h:Wok g ts dn){i:Nat}{t:Tsk}(ht:ts[i]? = some t)(hg:g<t.hi-t.lo)(hw:t.wait=0)(hl:ts.length+2≤2000):
  Z1 (MX g ts dn,(i:Int),())=some ((ts.set i { t with wait:=2 }++([⟨t.lo,A8 t,some i,0⟩,⟨A8 t,t.hi,some i,0⟩]:List Tsk)).map Ai,(g:Int),dn,(ts.length:Int),((ts.length+1:Nat):Int),0,()):=by
 have hk:=h.ok i t ht
 have:=h.n2
 have hi:=(An7.1 ht).1
 rw[AG3,QV]
 have e0:ieq (0:Int) 0=true:=by rw[Ag];rfl
 have hu:=Lr (t:=t) (by omega) (by omega)
 simp only[Ls h hi,e0,AT (Eu ht),An2]
 rw[show((Ai t).1,(Ai t).2.1,(Ai t).2.2.1,(Ai t).2.2.2.1,())=Ai t from rfl,hu]
 simp only[C9,Anp (show ¬ t.hi-t.lo≤g by omega)]
 have e1:(Ai t).2.2.2.1=0:=by simp[Ai,hw]
 rw[e1,Ah,Anp (show ¬ (0:Int)<0 by omega)]
 simp only[AS,AoE]
 rw[show(ts.length:Int)+2=((ts.length+2:Nat):Int) by omega,Ae (by omega),Ah,Anp (by omega)]
 simp only[AmI (show t.hi-t.lo<9223372036854775808 by omega),K3 (show(ts.map Ai).length≤4294967296 by rw[AoE];omega),AoE,An0,AoB]
 rw[Bh (by omega)]
 have hm:IntKind.wrap .i64 ((Ai t).1+((t.hi-t.lo)/2:Nat))=(A8 t:Int):=by
  show IntKind.wrap .i64 ((t.lo:Int)+_)=_
  rw[wrap_add (by omega)];rfl
 simp only[hm,Dm]
 have hget:(ts.map Ai++[((Ai t).1,((A8 t:Nat):Int),(i:Int),(0:Int),()),(((A8 t:Nat):Int),(Ai t).2.1,(i:Int),(0:Int),())])[i]? = some (Ai t):=by
  rw[AoN (by rw[AoE];exact hi)];exact Eu ht
 simp only[AT hget,BO hget]
 rw[DQ,List.set_append_left _ _ (by rw[AoE];exact hi)]
 rw[AP (by omega),Aon,← AaD]
 rfl
theorem Aii:∀ (k:Nat) (ts:List Tsk) (u:Option Nat) (n:Nat),(∀ (i:Nat) (t:Tsk),ts[i]? = some t→t.wait≤2∧∀ x,t.up=some x→x<i)→(∀ x,u=some x→x<k∧x<ts.length)→ts.length<1000000→k<n →
  Aj DG n (ts.map Ai,J2 u,())=some (if(fin k ts u).2=true then Sum.inr (Sum.inl ((fin k ts u).1.map Ai,()))else Sum.inl ((fin k ts u).1.map Ai,false,())):=by
 have enone:∀ (ts:List Tsk) (n:Nat),0<n→Aj DG n (ts.map Ai,J2 none,())=some (Sum.inr (Sum.inl (ts.map Ai,()))):=by
  intro ts n hn
  obtain⟨n,rfl⟩:∃ m,n=m+1:=⟨n-1,by omega⟩
  rw[Aj,DG]
  unfold J2
  rw[Ag,Anq rfl]
  rfl
 intro k
 induction k with
 |zero=>
  intro ts u n ht hu hl hn
  cases u with
  |none=>rw[enone ts n hn];rfl
  |some x=>exact absurd (hu x rfl).1 (by omega)
 |succ k ih=>
  intro ts u n ht hu hl hn
  cases u with
  |none=>rw[enone ts n (by omega)];rfl
  |some x=>
   obtain⟨h1,h2⟩:=hu x rfl
   obtain⟨n,rfl⟩:∃ m,n=m+1:=⟨n-1,by omega⟩
   have hx:ts[x]? = some (ts[x]):=Ant h2
   generalize ts[x]=t at hx
   have htx:=ht x t hx
   rw[Aj,DG]
   have e1:ieq (J2 (some x)) (-1:Int)=false:=by rw[Ag];exact Anp (by simp only[J2];omega)
   have e2:J2 (some x)=(x:Int):=rfl
   simp only[e1]
   simp only[Aog,e2,AT (Eu hx),BO (Eu hx)]
   have hs:Az (ts.map Ai) (AM (x:Int)) ((Ai t).1,(Ai t).2.1,(Ai t).2.2.1,IntKind.wrap .i64 ((Ai t).2.2.2.1-1),())=if t.wait=0 then Az (ts.map Ai) (AM (x:Int)) ((Ai t).1,(Ai t).2.1,(Ai t).2.2.1,IntKind.wrap .i64 ((Ai t).2.2.2.1-1),())else(ts.set x { t with wait:=t.wait-1 }).map Ai:=by
    by_cases hw:t.wait=0
    ·rw[An5 hw]
    ·rw[An1 hw,DQ,← AaD]
     congr 1
     show((Ai t).1,(Ai t).2.1,(Ai t).2.2.1,IntKind.wrap .i64 ((t.wait:Int)-1),())=_
     rw[BA (by omega)];rfl
   unfold fin
   rw[hx]
   by_cases hw:t.wait=0
   ·have e3:ieq (Ai t).2.2.2.1 (0:Int)=true:=by rw[Ag];exact Anq (by simp[Ai,hw])
    simp only[e3,hw,Aoa]
    rfl
   ·have e3:ieq (Ai t).2.2.2.1 (0:Int)=false:=by rw[Ag];exact Anp (by simp[Ai,hw])
    rw[An1 hw]at hs
    simp only[e3,hs]
    have hg:((ts.set x { t with wait:=t.wait-1 }).map Ai)[x]? = some (Ai { t with wait:=t.wait-1 }):=Eu (O1 hx)
    simp only[BO hg]
    by_cases hw2:0<t.wait-1
    ·have e4:ilt (0:Int) (Ai { t with wait:=t.wait-1 }).2.2.2.1=true:=by
      rw[Ah];exact Anq (by simp only[Ai];omega)
     simp only[e4,hw,hw2,Aoa,AoC]
     rfl
    ·have e4:ilt (0:Int) (Ai { t with wait:=t.wait-1 }).2.2.2.1=false:=by
      rw[Ah];exact Anp (by simp only[Ai];omega)
     simp only[e4,hw,hw2,AoC]
     have e5:(Ai { t with wait:=t.wait-1 }).2.2.1=J2 t.up:=rfl
     rw[e5]
     exact ih (ts.set x { t with wait:=t.wait-1 }) t.up n (fun i s hs=>by
      rcases Ng hs with⟨rfl,rfl,_⟩|⟨_,hs⟩
      ·exact⟨by show t.wait-1≤2;omega,htx.2⟩
      ·exact ht i s hs) (fun y hy=>by
      have:=htx.2 y hy
      rw[Ao5]
      exact⟨by omega,by omega⟩) (by rw[Ao5];exact hl) (by omega)
theorem AJq{ts:List Tsk}{u:Option Nat}(ht:∀ (i:Nat) (t:Tsk),ts[i]? = some t→t.wait≤2∧∀ x,t.up=some x→x<i)(hu:∀ x,u=some x→x<ts.length)(hl:ts.length<1000000):
  Lt (ts.map Ai,J2 u,())=some ((fin ts.length ts u).1.map Ai,(fin ts.length ts u).2,()):=by
 rw[Wq,J7]
 have hm:ts.length<many:=by simp only[many];omega
 have e:=Aii ts.length ts u many ht (fun x hx=>⟨hu x hx,hu x hx⟩) hl hm
 rw[A3,e]
 by_cases hb:(fin ts.length ts u).2=true
 ·rw[An5 hb];simp only[hb]
 ·rw[An1 hb]
  simp only[Bool.not_eq_true]at hb
  simp only[hb]
theorem AXI(lo:Nat):∀ (k:Nat) (dn:List Bool),(List.range k).foldl (fun a j=>a.set (lo+j) true) dn=OF dn lo k:=by
 intro k
 induction k with
 |zero=>intro dn;rfl
 |succ k ih=>intro dn;rw[Aok,Apl,ih];rfl
theorem AfQ{g:Nat}{ts:List Tsk}{dn:List Bool}(h:Wok g ts dn){i:Nat}{t:Tsk}(ht:ts[i]? = some t)(hg:¬ g<t.hi-t.lo)(hw:t.wait=0)(hd:dn[t.lo]? = some false):
  AfS (MX g ts dn,(i:Int),())=some ((fin ts.length ts t.up).1.map Ai,(g:Int),OF dn t.lo (t.hi-t.lo),(fin ts.length ts t.up).2,0,()):=by
 have hk:=h.ok i t ht
 have:=h.n2
 have:=h.t2
 have hi:=(An7.1 ht).1
 rw[AYz,AJs]
 have e0:ieq (0:Int) 0=true:=by rw[Ag];rfl
 have hu:=Lr (t:=t) (by omega) (by omega)
 simp only[Ls h hi,e0,AT (Eu ht),An2]
 rw[show((Ai t).1,(Ai t).2.1,(Ai t).2.2.1,(Ai t).2.2.2.1,())=Ai t from rfl,hu]
 simp only[AL,Anp hg]
 have e1:(Ai t).2.2.2.1=0:=by simp[Ai,hw]
 have e2:(Ai t).1=(t.lo:Int):=rfl
 have e3:(Ai t).2.1=(t.hi:Int):=rfl
 have e4:(Ai t).2.2.1=J2 t.up:=rfl
 rw[e1,Ah,Anp (show ¬ (0:Int)<0 by omega)]
 simp only[e2,e3,e4,AT hd,K3 (show(ts.map Ai).length≤4294967296 by rw[AoE];omega),K3 (show dn.length≤4294967296 by omega)]
 have e:=Ef (step:=J8) (fun j (a:List Bool)=>(ts.map Ai,(g:Int),a,(0:Int),(t.lo:Int),(t.hi:Int),J2 t.up,(0:Int),((t.lo+j:Nat):Int),())) (List.range (t.hi-t.lo)) (fun(j:Nat) a=>.inl (a.set (t.lo+j) true))
  (fun a=>.inl (ts.map Ai,(g:Int),a,(0:Int),(t.lo:Int),(t.hi:Int),J2 t.up,(0:Int),())) (fun _ a=>a.length=dn.length) (by rw[AoR];omega)
  (fun j x a hj hx ha=>by
   rw[AoR]at hj
   rw[ApL hj]at hx
   cases hx
   refine⟨fun a' h' => ?_,fun r h'=>by cases h'⟩
   cases h'
   refine⟨?_,by rw[Ao5];exact ha⟩
   rw[J8,AL,Anq (show t.lo+j<t.hi by omega)]
   obtain⟨x,hx⟩:=Am4 (xs:=a) (n:=t.lo+j) (by omega)
   simp only[hx,DQ]
   rw[AP (by omega)]
   rfl)
  (fun a _=>by
   rw[AoR,J8,AL,Anp (by omega)]) dn rfl
 have e':AX J8 many (ts.map Ai,(g:Int),dn,(0:Int),(t.lo:Int),(t.hi:Int),J2 t.up,(0:Int),(t.lo:Int),())=_:=e
 rw[e',CN,AXI]
 simp only
 rw[AJq (fun i s hs=>⟨(h.ok i s hs).2.2.1,(h.ok i s hs).2.2.2⟩) (fun x hx=>by have:=hk.2.2.2 x hx;omega) (by omega)]
end Go.Pev.Pl
end
