/- A part of the proofs of this seat: G26M1 G26M2 G26M3 G26M4 G26M5 G26M U26al Pln PlnB PlnM PlnD PlnE T05a T05b T05c. -/
import Derived.Test.YtfojmhgomdbpfaaGreatP1d8581f3aa
import Derived.KernelRfl
import Derived.IntWalk
import Derived.Sort.AssemblyPlain
set_option linter.unusedVariables false
set_option linter.unusedSimpArgs false
set_option linter.unusedSectionVars false
set_option maxRecDepth 100000
section
namespace Go.Pev
noncomputable section
attribute [local irreducible] PE LN Oj Ov AlH AlI AlK RV ZS RE ZQ LZ Aj many IntKind.wrap AM Az AY BP Bv GC D8 AO Bs B6 imax AS Ad
abbrev U0:Ty:=(.prod (.int .i64) (.prod (.int .i64) .unit))
abbrev U1:=(Int×Int×Unit)
abbrev U2:Ty:=(.int .i64)
abbrev U3:Ty:=(.prod U2 (.prod U2 (.prod U2 (.prod .bool .unit))))
abbrev U4:=(Int×Int×Int×Bool×Unit)
abbrev U5:=(List Int)
abbrev U6:=(Int×Int×Int×Int×Unit)
abbrev U7:Ty:=(.slice U2)
abbrev U8:=(List U1×Int×Int×Int×Unit)
abbrev U9:=(List U5×Int×Int×Int×Unit)
abbrev Ua:=(Int×Unit)
abbrev Ub:=(Int×Int×Int×Unit)
abbrev Uc:Ty:=(.slice (.prod U2 (.prod U2 U0)))
abbrev Ud:=(List U1×Int×Int×Unit)
abbrev Ue:=(Bool×Unit)
abbrev Uf:Ty:=(.int .u32)
abbrev Ug:=(List U5×Int×Int×Unit)
abbrev Uh:Ty:=(.slice U7)
abbrev Ui:=(List U1×Unit)
abbrev Uj:=(List U6×Int×List Bool×List U5×Bool×Int×Int×List U4×Int×Unit)
abbrev Uk:Ty:=(.prod U2 (.prod (.slice U0) (.prod (.slice (.prod U2 U0)) .unit)))
abbrev Ul:Ty:=(.prod U2 (.prod U2 (.prod (.slice (.arr 2 U2)) .unit)))
abbrev Um:=(List U5×Int×Int×Int×Int×Unit)
abbrev Un:=(List U1×Int×Int×Int×Int×Unit)
abbrev Uo:Ty:=(.prod Uc (.prod U2 (.prod (.slice .bool) .unit)))
abbrev Up:=(List Int×Unit)
abbrev Uq:Ty:=(.slice U0)
abbrev Ur:=(List U5×Unit)
abbrev Us:Ty:=(.prod U2 (.prod (.slice U3) .unit))
abbrev Ut:=(Int×(List U1)×(List Ub)×Unit)
abbrev Uu:Ty:=(.slice .bool)
abbrev Uv:Ty:=(.prod U2 U0)
abbrev Uw:=(List U6×Int×List Bool×List U5×Bool×Int×Int×Int×Int×Int×Bool×Int×Unit)
abbrev Ux:=(Int×Int×(List U5)×Unit)
abbrev Uy:=(List Int×Int×Int×Unit)
abbrev Uz:=(Int×Int)
abbrev V0:Ty:=(.slice Uf)
abbrev V1:=(List U5×Int×Int×Int×Int×Int×Unit)
abbrev V2:=(List U1×Int×Int×Int×Int×Int×Unit)
abbrev V3:Ty:=(.prod U2 (.prod Uh .unit))
abbrev V4:=(Int×(List U5)×Unit)
abbrev V5:=(Int×(List U4)×Unit)
abbrev V6:=(List Int×List Int×Int×Int×List Int×List Int×Int×Int×Unit)
abbrev V7:=(Int×List U5×List Uz×Int×List U5×Int×Int×List Int×Int×Int×Bool×List Int×Bool×Bool×List Int×Int×List Int×Int×Bool×Int×List Int×Bool×Bool×List Int×Int×Int×Unit)
abbrev V8:Ty:=(.slice U3)
abbrev V9:=(List U6×Int×List Bool×List U5×Bool×Int×Int×List Uz×List U5×Int×Int×Unit)
abbrev Va:=(List Int×Int×Int×Int×List Int×Int×Int×Unit)
abbrev Vb:=(U1×Int)
abbrev Vc:=(List Int×Int×List Int×Int×Int×List Int×List Int×Int×Int×Unit)
abbrev Vd:=(List Int×List Int×List Int×Int×Int×Unit)
abbrev Ve:=(List Int×Int×Unit)
abbrev Vf:=(Int×List U4×List U1×Int×Unit)
abbrev Vg:Ty:=(.prod Uo (.prod Uh (.prod .bool U0)))
abbrev Vh:Ty:=(.prod U2 Uv)
abbrev Vi:=(Int×Bool×Int×Int×List U6×Int×List Bool×List U5×Bool×Int×Int×List U4×List U5×Int×Int×Unit)
abbrev Vj:Ty:=(.slice Uv)
abbrev Vk:=(List U6×Int×List Bool×List U5×Bool×Int×Int×List Uz×List U5×Int×Int×List Int×Int×Int×Unit)
abbrev Vl:=(List U1×List Vb×Int×Int×Unit)
abbrev Vm:=(List Int×Int×List Int×Int×Int×List Int×Int×List Int×Int×Int×List Int×Int×Int×Unit)
abbrev Vn:=(Int×List U1×List Ub×Int×Unit)
abbrev AAv:AE:=[(.tmp 0,.di)]
abbrev AAu:AE:=[(.tmp 0,.dat .bool)]
abbrev AAt:List RS:=[.one]
def Q1[Lk]:Ua→Option (Ue):=fun(a0,_)=>
 match(ile 1 a0)with
 |true=>some ((ile a0 64),())
 |false=>some (false,())
def MM[Lk]:=fun v=>Lk.f (Q1 v)
theorem AIp v:MM v=Q1 v:=AJ _
abbrev Aij:AE:=[(.tmp 0,.di),(.tmp 1,.di)]
abbrev Aii:AE:=[(.tmp 0,.dat .bool)]
abbrev Aih:List RS:=[.one]
def Ab5[Lk]:U1→Option (Ue):=fun(a0,a1,_)=>
 match MM (a0,())with|none=>none|some (y0,_)=>match y0 with
 |true=>match(ile 0 a1)with
  |true=>some ((ilt a1 a0),())
  |false=>some (false,())
 |false=>some (false,())
def tin[Lk]:=fun v=>Lk.f (Ab5 v)
theorem Aik v:tin v=Ab5 v:=AJ _
abbrev AWy:AE:=[(.tmp 0,.di),(.tmp 1,.di),(.tmp 2,.di)]
abbrev AWx:AE:=[(.tmp 0,.di)]
abbrev AWw:List RS:=[.one]
def ALt[Lk]:Ub→Option (Ua):=fun(a0,a1,a2,_)=>
 match(ieq a1 a2)with
 |true=>some ((-1:Int),())
 |false=>match tin (a0,a1,())with|none=>none|some (y0,_)=>match(!y0)with
 |true=>some ((-1:Int),())
 |false=>match tin (a0,a2,())with|none=>none|some (y1,_)=>match(!y1)with
 |true=>some ((-1:Int),())
 |false=>some ((IntKind.wrap .i64 ((IntKind.wrap .i64 (a0*(IntKind.wrap .i64 (a1+1))))+a2)),())
def AeF[Lk]:=fun v=>Lk.f (ALt v)
theorem Ab6 v:AeF v=ALt v:=AJ _
abbrev AAr:AE:=[(.tmp 0,.di),(.tmp 1,.di)]
abbrev AAq:AE:=[(.tmp 0,.di),(.tmp 1,.di),(.tmp 2,.dat .bool),(.tmp 3,.dat .bool)]
abbrev AAp:List RS:=[.one,.one,.one,.one]
def Q0[Lk]:U1→Option ((Int×Int×Bool×Bool×Unit)):=fun(a0,a1,_)=>
 match MM (a0,())with|none=>none|some (y0,_)=>match(!y0)with
 |true=>some (0,0,false,false,())
 |false=>match(ilt a1 0)with
 |true=>some (0,0,false,false,())
 |false=>match(ile (IntKind.wrap .i64 (a0*(IntKind.wrap .i64 (a0+1)))) a1)with
 |true=>some (0,0,false,false,())
 |false=>match(ilt a1 a0)with
 |true=>some (a1,0,false,true,())
 |false=>match quo? .i64 a1 a0 with|none=>none|some x1=>match rem? a1 a0 with|none=>none|some x2=>match(ieq (IntKind.wrap .i64 (x1-1)) x2)with
 |true=>some (0,0,false,false,())
 |false=>some ((IntKind.wrap .i64 (x1-1)),x2,true,true,())
def AAs[Lk]:=fun v=>Lk.f (Q0 v)
theorem AIo v:AAs v=Q0 v:=AJ _
abbrev ALf:AE:=[(.tmp 0,.di)]
abbrev ALe:AE:=[(.tmp 0,.di),(.tmp 1,.own 41 U7),(.tmp 2,.di)]
abbrev ALd:List RS:=[.agg 2,.one]
abbrev AQs:AE:=[(.tmp 2,.box 2),(.cell 0 0,.di),(.cell 0 1,.nil U7),(.tmp 4,.box 2),(.cell 1 0,.di),(.cell 1 1,.own 41 U7),(.tmp 12,.di),(.tmp 13,.di)]
abbrev AQr:Ao:=[(.exit 0,[(.tmp 2,.box 2),(.cell 0 0,.di),(.cell 0 1,.nil U7),(.tmp 4,.box 2),(.cell 1 0,.di),(.cell 1 1,.own 41 U7)])]
def He[Lk]:(Int×Int×List U5×Int×Int×Unit)→Option ((Int×Int×List U5×Int×Int×Unit)⊕(Int×Int×List U5×Unit)⊕Unit):=fun(a0,a1,a2,a3,a4,_)=>
 match(ilt a4 a3)with
 |true=>match(fits ((AM a2)+(AM ([([a4]:List (Int))]:List U5))))with
  |true=>some (.inl (a0,a1,(BP a2 ([([a4]:List (Int))]:List U5)),a3,(IntKind.wrap .i64 (a4+1)),()))
  |false=>none
 |false=>some (.inr (.inl (a0,a1,a2,())))
def Zx[Lk]:Ua→Option ((Int×List U5×Int×Unit)):=fun(a0,_)=>
 match MM (a0,())with|none=>none|some (y0,_)=>match(!y0)with
 |true=>some (0,([]:List U5),1,())
 |false=>match AU He many (0,a0,([]:List U5),a0,0,())with|none=>none|some r=>match r with
 |.inl (o1,o2,o3,_)=>some (o2,o3,0,())
 |.inr _=>none
def AQu[Lk]:=fun v=>Lk.f (Zx v)
theorem AQt v:AQu v=Zx v:=AJ _
abbrev AEP:AE:=[(.tmp 0,.dat U7),(.tmp 1,.di)]
abbrev AEO:AE:=[(.tmp 0,.di)]
abbrev AEN:List RS:=[.one]
abbrev AJx:AE:=[(.tmp 0,.dat U7),(.tmp 1,.di),(.tmp 7,.di),(.tmp 8,.di)]
abbrev AJw:Ao:=[(.ret,[(.tmp 4,.di)]),(.exit 0,[])]
def Fs[Lk]:(List Int×Int×Int×Int×Unit)→Option ((List Int×Int×Int×Int×Unit)⊕Ua⊕(Unit)⊕Unit):=fun(a0,a1,a2,a3,_)=>
 match(ilt a3 a2)with
 |true=>match idx a0 a3 with|none=>none|some x0=>match(ieq a1 x0)with
  |true=>some (.inr (.inl (a3,())))
  |false=>some (.inl (a0,a1,a2,(IntKind.wrap .i64 (a3+1)),()))
 |false=>some (.inr (.inr (.inl ())))
def Rn[Lk]:Ve→Option (Ua):=fun(a0,a1,_)=>
 match AU Fs many (a0,a1,(AM a0),0,())with|none=>none|some r=>match r with
 |.inl (o0,_)=>some (o0,())
 |.inr r=>match r with
 |.inl _=>some ((-1:Int),())
 |.inr _=>none
def QC[Lk]:=fun v=>Lk.f (Rn v)
theorem AJy v:QC v=Rn v:=AJ _
abbrev NC:AE:=[(.tmp 0,.dat U7),(.tmp 1,.di)]
abbrev NB:AE:=[(.tmp 0,.dat .bool)]
abbrev NA:List RS:=[.one]
def Iw[Lk]:Ve→Option (Ue):=fun(a0,a1,_)=>
 match QC (a0,a1,())with|none=>none|some (y0,_)=>some ((ile 0 y0),())
def GF[Lk]:=fun v=>Lk.f (Iw v)
theorem SQ v:GF v=Iw v:=AJ _
abbrev AZC:AE:=[(.tmp 0,.dat U7)]
abbrev AZB:AE:=[(.tmp 0,.di)]
abbrev AZA:List RS:=[.one]
abbrev Ack:AE:=[(.tmp 0,.dat U7),(.tmp 3,.di),(.tmp 4,.di)]
abbrev Acj:Ao:=[(.exit 0,[(.tmp 3,.di)])]
def Kq[Lk]:Uy→Option (Uy⊕Ua⊕Unit):=fun(a0,a1,a2,_)=>
 match(ilt a2 (AM a0))with
 |true=>match idx a0 a2 with|none=>none|some x0=>some (.inl (a0,(B6 a1 x0),(IntKind.wrap .i64 (a2+1)),()))
 |false=>some (.inr (.inl (a1,())))
def ANX[Lk]:Up→Option (Ua):=fun(a0,_)=>
 match(ilt (AM a0) 1)with
 |true=>none
 |false=>match idx a0 0 with|none=>none|some x0=>match AU Kq many (a0,x0,1,())with|none=>none|some r=>match r with
 |.inl (o1,_)=>some (o1,())
 |.inr _=>none
def Afl[Lk]:=fun v=>Lk.f (ANX v)
theorem Acl v:Afl v=ANX v:=AJ _
abbrev AOG:AE:=[(.tmp 0,.nil U2),(.tmp 1,.di)]
abbrev AOF:AE:=[(.tmp 0,.own 3 U2)]
abbrev AOE:List RS:=[.one]
def AAD[Lk]:Ua→Option (Up):=fun(a0,_)=>
 match(ilt a0 0)with
 |true=>none
 |false=>match(ilt 0 (IntKind.wrap .i64 (a0-(IntKind.wrap .i64 (0-0)))))with
 |true=>match EK ([]:List Unit) 0 0 with|none=>none|some _u0=>match(CL (IntKind.wrap .i64 (a0-(IntKind.wrap .i64 (0-0)))))with
  |true=>match EK (D8 (AO (IntKind.wrap .i64 (a0-(IntKind.wrap .i64 ((0:Int)-(0:Int)))))) (0:Int)) (0:Int) (0:Int)with|none=>none|some x1=>some ((Bv (AO (AM x1)) (D8 (AO (IntKind.wrap .i64 (a0-(IntKind.wrap .i64 ((0:Int)-(0:Int)))))) (0:Int))),())
  |false=>none
 |false=>some (([]:List (Int)),())
def AUN[Lk]:=fun v=>Lk.f (AAD v)
theorem AUM v:AUN v=AAD v:=AJ _
abbrev W0:AE:=[(.tmp 0,.dat Uh)]
abbrev Wz:AE:=[(.tmp 0,.own 3 U2)]
abbrev Wy:List RS:=[.one]
abbrev AFm:AE:=[(.tmp 6,.own 3 U2),(.tmp 25,.dat Uh),(.tmp 26,.di),(.tmp 27,.di)]
abbrev AFk:Ao:=[(.exit 2,[(.tmp 6,.own 3 U2)])]
def Ea[Lk]:(List Int×List U5×Int×Int×Unit)→Option ((List Int×List U5×Int×Int×Unit)⊕Up⊕Unit):=fun(a0,a1,a2,a3,_)=>
 match(ilt a3 a2)with
 |true=>match idx a1 a3 with|none=>none|some x0=>match(fits ((AM a0)+(AM x0)))with
  |true=>some (.inl ((BP a0 x0),a1,a2,(IntKind.wrap .i64 (a3+1)),()))
  |false=>none
 |false=>some (.inr (.inl (a0,())))
abbrev AFn:AE:=[(.tmp 0,.dat Uh),(.tmp 3,.di),(.tmp 9,.dat Uh),(.tmp 10,.di),(.tmp 11,.di)]
abbrev AFl:Ao:=[(.exit 0,[(.tmp 0,.dat Uh),(.tmp 3,.di)])]
def Eb[Lk]:(List U5×Int×List U5×Int×Int×Unit)→Option ((List U5×Int×List U5×Int×Int×Unit)⊕(List U5×Int×Unit)⊕Unit):=fun(a0,a1,a2,a3,a4,_)=>
 match(ilt a4 a3)with
 |true=>match idx a2 a4 with|none=>none|some x0=>match(ilt (IntKind.wrap .i64 (a1+(AM x0))) 0)with
  |true=>none
  |false=>some (.inl (a0,(IntKind.wrap .i64 (a1+(AM x0))),a2,a3,(IntKind.wrap .i64 (a4+1)),()))
 |false=>some (.inr (.inl (a0,a1,())))
def OO[Lk]:Ur→Option (Up):=fun(a0,_)=>
 match AU Eb many (a0,0,a0,(AM a0),0,())with|none=>none|some r=>match r with
 |.inl (o0,o1,_)=>match AUN (o1,())with|none=>none|some (y2,_)=>match AU Ea many (y2,o0,(AM o0),0,())with|none=>none|some r=>match r with
  |.inl (o3,_)=>some (o3,())
  |.inr _=>none
 |.inr _=>none
def LY[Lk]:=fun v=>Lk.f (OO v)
theorem AFo v:LY v=OO v:=AJ _
abbrev Hx:AE:=[(.tmp 0,.dat U7),(.tmp 1,.clo 161 [])]
abbrev Hw:AE:=[(.tmp 0,.di)]
abbrev Hv:List RS:=[.one]
abbrev L9:AE:=[(.tmp 0,.dat U7),(.tmp 1,.clo 161 []),(.tmp 7,.di),(.tmp 8,.di)]
abbrev L8:Ao:=[(.ret,[(.tmp 4,.di)]),(.exit 0,[])]
def By[Lk]:Uy→Option (Uy⊕Ua⊕(Unit)⊕Unit):=fun(a0,a1,a2,_)=>
 match(ilt a2 a1)with
 |true=>match idx a0 a2 with|none=>none|some x0=>match(ilt x0 0)with
  |true=>some (.inr (.inl (a2,())))
  |false=>match(ilt 10000 x0)with
  |true=>some (.inr (.inl (a2,())))
  |false=>some (.inl (a0,a1,(IntKind.wrap .i64 (a2+1)),()))
 |false=>some (.inr (.inr (.inl ())))
def E9[Lk]:Up→Option (Ua):=fun(a0,_)=>
 match AU By many (a0,(AM a0),0,())with|none=>none|some r=>match r with
 |.inl (o0,_)=>some (o0,())
 |.inr r=>match r with
 |.inl _=>some ((-1:Int),())
 |.inr _=>none
def HC[Lk]:=fun v=>Lk.f (E9 v)
theorem MA v:HC v=E9 v:=AJ _
abbrev G4:AE:=[(.tmp 0,.dat U7),(.tmp 1,.clo 161 [])]
abbrev G3:AE:=[(.tmp 0,.dat .bool)]
abbrev G2:List RS:=[.one]
def EG[Lk]:Up→Option (Ue):=fun(a0,_)=>
 match HC (a0,())with|none=>none|some (y0,_)=>some ((ile 0 y0),())
def D9[Lk]:=fun v=>Lk.f (EG v)
theorem KE v:D9 v=EG v:=AJ _
abbrev AYy:AE:=[(.tmp 0,.dat U7)]
abbrev AYx:AE:=[(.tmp 0,.dat .bool)]
abbrev AYw:List RS:=[.one]
abbrev Acb:AE:=[(.tmp 0,.dat U7),(.tmp 3,.map U2 U2),(.tmp 7,.dat U7),(.tmp 8,.di),(.tmp 9,.di)]
abbrev Aca:Ao:=[(.exit 0,[(.tmp 0,.dat U7),(.tmp 3,.map U2 U2)])]
def Kj[Lk]:(List Int×List Uz×List Int×Int×Int×Unit)→Option ((List Int×List Uz×List Int×Int×Int×Unit)⊕(List Int×List Uz×Unit)⊕Unit):=fun(a0,a1,a2,a3,a4,_)=>
 match(ilt a4 a3)with
 |true=>match idx a2 a4 with|none=>none|some x0=>some (.inl (a0,(Ad a1 x0 (IntKind.wrap .i64 (((AS a1 x0).getD 0)+1))),a2,a3,(IntKind.wrap .i64 (a4+1)),()))
 |false=>some (.inr (.inl (a0,a1,())))
def ANK[Lk]:Up→Option (Ue):=fun(a0,_)=>
 match AU Kj many (a0,([]:List Uz),a0,(AM a0),0,())with|none=>none|some r=>match r with
 |.inl (o0,o1,_)=>some ((ieq (AM o1) (AM o0)),())
 |.inr _=>none
def once[Lk]:=fun v=>Lk.f (ANK v)
theorem Acd v:once v=ANK v:=AJ _
abbrev AB6:AE:=[(.tmp 0,.dat U7)]
abbrev AB5:AE:=[(.tmp 0,.dat .bool)]
abbrev AB4:List RS:=[.one]
def RN[Lk]:Up→Option (Ue):=fun(a0,_)=>
 match(ilt 1000 (AM a0))with
 |true=>some (false,())
 |false=>match D9 (a0,())with|none=>none|some (y0,_)=>match(!y0)with
 |true=>match once (a0,())with|none=>none|some (y1,_)=>some (y1,())
 |false=>some (false,())
def Pj[Lk]:=fun v=>Lk.f (RN v)
theorem AJJ v:Pj v=RN v:=AJ _
abbrev AAo:AE:=[(.tmp 0,.dat U7),(.tmp 1,.di)]
abbrev AAn:AE:=[(.tmp 0,.own 3 U2)]
abbrev AAm:List RS:=[.one]
def Qz[Lk]:Ve→Option (Up):=fun(a0,a1,_)=>
 match EK a0 a1 (AM a0)with|none=>none|some x0=>match EK a0 0 a1 with|none=>none|some x1=>match LY (([x0,x1]:List U5),())with|none=>none|some (y2,_)=>some (y2,())
def Tf[Lk]:=fun v=>Lk.f (Qz v)
theorem AIn v:Tf v=Qz v:=AJ _
abbrev ACv:AE:=[(.tmp 0,.dat U7),(.tmp 1,.dat U7)]
abbrev ACu:AE:=[(.tmp 0,.own 3 U2),(.tmp 1,.dat .bool)]
abbrev ACt:List RS:=[.one,.one]
abbrev AJX:AE:=[(.tmp 0,.dat U7),(.tmp 6,.own 3 U2),(.tmp 12,.dat U7),(.tmp 13,.di),(.tmp 14,.di)]
abbrev AJW:Ao:=[(.exit 0,[(.tmp 6,.own 3 U2)])]
def Ek[Lk]:Vd→Option (Vd⊕Up⊕Unit):=fun(a0,a1,a2,a3,a4,_)=>
 match(ilt a4 a3)with
 |true=>match idx a2 a4 with|none=>none|some x0=>match QC (a0,x0,())with|none=>none|some (y1,_)=>match(fits ((AM a1)+(AM ([y1]:List (Int)))))with
  |true=>some (.inl (a0,(BP a1 ([y1]:List (Int))),a2,a3,(IntKind.wrap .i64 (a4+1)),()))
  |false=>none
 |false=>some (.inr (.inl (a1,())))
def Ra[Lk]:(List Int×List Int×Unit)→Option ((List Int×Bool×Unit)):=fun(a0,a1,_)=>
 match Pj (a0,())with|none=>none|some (y0,_)=>match(!y0)with
 |true=>some (([]:List (Int)),false,())
 |false=>match AU Ek many (a0,([]:List (Int)),a1,(AM a1),0,())with|none=>none|some r=>match r with
 |.inl (o1,_)=>match GF (o1,(-1:Int),())with|none=>none|some (y2,_)=>some (o1,(!y2),())
 |.inr _=>none
def AMr[Lk]:=fun v=>Lk.f (Ra v)
theorem AJY v:AMr v=Ra v:=AJ _
abbrev AMf:AE:=[(.tmp 0,.dat U7),(.tmp 1,.di)]
abbrev AMe:AE:=[(.tmp 0,.own 3 U2),(.tmp 1,.dat .bool)]
abbrev AMd:List RS:=[.one,.one]
def Z3[Lk]:Ve→Option ((List Int×Bool×Unit)):=fun(a0,a1,_)=>
 match AMr (a0,([a1]:List (Int)),())with|none=>none|some (y0,y1,_)=>match(!y1)with
 |true=>some (([]:List (Int)),false,())
 |false=>match idx y0 0 with|none=>none|some x2=>match Tf (a0,(AY y0 0 0),())with|none=>none|some (y3,_)=>some (y3,true,())
def AJL[Lk]:=fun v=>Lk.f (Z3 v)
theorem AR0 v:AJL v=Z3 v:=AJ _
abbrev AB9:AE:=[(.tmp 0,.dat U7)]
abbrev AB8:AE:=[(.tmp 0,.own 3 U2)]
abbrev AB7:List RS:=[.one]
def RO[Lk]:Up→Option (Up):=fun(a0,_)=>
 match Pj (a0,())with|none=>none|some (y0,_)=>match(!y0)with
 |true=>some (([]:List (Int)),())
 |false=>match(ieq (AM a0) 0)with
 |true=>some (([]:List (Int)),())
 |false=>match Afl (a0,())with|none=>none|some (y1,_)=>match QC (a0,y1,())with|none=>none|some (y2,_)=>match Tf (a0,y2,())with|none=>none|some (y3,_)=>some (y3,())
def ACA[Lk]:=fun v=>Lk.f (RO v)
theorem AJK v:ACA v=RO v:=AJ _
abbrev Fv:AE:=[(.tmp 0,.dat Uh),(.cap 1 0,.box 1),(.cell 0 0,.di),(.tmp 1,.clo 128 [(0,0)])]
abbrev Fu:AE:=[(.obj 0,.box 1),(.cell 0 0,.di),(.tmp 0,.di)]
abbrev Ft:List RS:=[.one]
abbrev Ii:AE:=[(.obj 0,.box 1),(.cell 0 0,.di),(.tmp 0,.dat Uh),(.tmp 1,.clo 128 [(0,0)]),(.tmp 7,.di),(.tmp 8,.di)]
abbrev Ih:Ao:=[(.ret,[(.obj 0,.box 1),(.cell 0 0,.di),(.tmp 4,.di)]),(.exit 0,[(.obj 0,.box 1),(.cell 0 0,.di)])]
def Bf[Lk]:(Int×List U5×Int×Int×Unit)→Option ((Int×List U5×Int×Int×Unit)⊕U1⊕Ua⊕Unit):=fun(a0,a1,a2,a3,_)=>
 match(ilt a3 a2)with
 |true=>match idx a1 a3 with|none=>none|some x0=>match GF (x0,a0,())with|none=>none|some (y1,_)=>match y1 with
  |true=>some (.inr (.inl (a0,a3,())))
  |false=>some (.inl (a0,a1,a2,(IntKind.wrap .i64 (a3+1)),()))
 |false=>some (.inr (.inr (.inl (a0,()))))
def Dq[Lk]:(List U5×Int×Unit)→Option (U1):=fun(a0,a1,_)=>
 match AU Bf many (a1,a0,(AM a0),0,())with|none=>none|some r=>match r with
 |.inl (o0,o1,_)=>some (o0,o1,())
 |.inr r=>match r with
 |.inl (o2,_)=>some (o2,(-1:Int),())
 |.inr _=>none
def E7[Lk]:=fun v=>Lk.f (Dq v)
theorem Ij v:E7 v=Dq v:=AJ _
abbrev AA6:AE:=[(.tmp 0,.dat V3),(.tmp 1,.di)]
abbrev AA5:AE:=[(.tmp 0,.di)]
abbrev AA4:List RS:=[.one]
def Q3[Lk]:(V4×Int×Unit)→Option (Ua):=fun(a0,a1,_)=>
 match E7 (a0.2.1,a1,())with|none=>none|some (y0,y1,_)=>some (y1,())
def Ti[Lk]:=fun v=>Lk.f (Q3 v)
theorem AIx v:Ti v=Q3 v:=AJ _
abbrev AZz:AE:=[(.tmp 0,.di),(.tmp 1,.dat U7)]
abbrev AZy:AE:=[(.tmp 0,.dat .bool)]
abbrev AZx:List RS:=[.one]
abbrev Ac7:AE:=[(.tmp 0,.di),(.tmp 5,.box 3),(.cell 0 0,.own 3 U2),(.cell 0 1,.map U2 U2),(.cell 0 2,.map U2 U2),(.tmp 30,.dat U7),(.tmp 31,.di),(.tmp 32,.di)]
abbrev Ac6:Ao:=[(.ret,[(.tmp 4,.dat .bool)]),(.exit 0,[(.tmp 5,.box 3),(.cell 0 0,.own 3 U2),(.cell 0 1,.map U2 U2),(.cell 0 2,.map U2 U2)])]
def Io[Lk]:(Int×List Int×List Uz×List Uz×List Int×Int×Int×Unit)→Option ((Int×List Int×List Uz×List Uz×List Int×Int×Int×Unit)⊕Ue⊕(List Int×List Uz×List Uz×Unit)⊕Unit):=fun(a0,a1,a2,a3,a4,a5,a6,_)=>
 match(ilt a6 a5)with
 |true=>match idx a4 a6 with|none=>none|some x0=>match AAs (a0,x0,())with|none=>none|some (y1,y2,y3,y4,_)=>match(!y4)with
  |true=>some (.inr (.inl (false,())))
  |false=>match y3 with
  |true=>match idx a1 (IntKind.wrap .i64 ((AM a1)-1))with|none=>none|some x5=>match(!(ieq (AY a1 (AO (IntKind.wrap .i64 ((AM a1)-1))) 0) y1))with
   |true=>some (.inr (.inl (false,())))
   |false=>match(ilt 0 (IntKind.wrap .i64 ((AM a1)-1)))with
   |true=>match idx a1 (IntKind.wrap .i64 ((IntKind.wrap .i64 ((AM a1)-1))-1))with|none=>none|some x6=>match(ieq (AY a1 (AO (IntKind.wrap .i64 ((IntKind.wrap .i64 ((AM a1)-1))-1))) 0) y2)with
    |true=>match EK a1 0 (IntKind.wrap .i64 ((AM a1)-1))with|none=>none|some x7=>match(!y3)with
     |true=>match idx (GC 0 (AO (AM x7)) a1) (IntKind.wrap .i64 ((((AO (AM x7)):Nat):Int)-1))with|none=>none|some x8=>match(!(ieq (AY a1 (0+(AO (IntKind.wrap .i64 ((((AO (AM x7)):Nat):Int)-1)))) 0) y1))with
      |true=>some (.inr (.inl (false,())))
      |false=>match(!y3)with
      |true=>some (.inl (a0,(Bv (AO (AM x7)) a1),a2,(Ad a3 y1 (IntKind.wrap .i64 (((AS a3 y1).getD 0)+1))),a4,a5,(IntKind.wrap .i64 (a6+1)),()))
      |false=>some (.inl (a0,(Bv (AO (AM x7)) a1),a2,a3,a4,a5,(IntKind.wrap .i64 (a6+1)),()))
     |false=>match(!y3)with
     |true=>some (.inl (a0,(Bv (AO (AM x7)) a1),a2,(Ad a3 y1 (IntKind.wrap .i64 (((AS a3 y1).getD 0)+1))),a4,a5,(IntKind.wrap .i64 (a6+1)),()))
     |false=>some (.inl (a0,(Bv (AO (AM x7)) a1),a2,a3,a4,a5,(IntKind.wrap .i64 (a6+1)),()))
    |false=>match(ilt 0 ((AS a2 y2).getD 0))with
    |true=>some (.inr (.inl (false,())))
    |false=>match(fits ((AM a1)+(AM ([y2]:List (Int)))))with
    |true=>match(!y3)with
     |true=>match idx (BP a1 ([y2]:List (Int))) (IntKind.wrap .i64 ((AM (BP a1 ([y2]:List (Int))))-1))with|none=>none|some x9=>match(!(ieq (AY (BP a1 ([y2]:List (Int))) (AO (IntKind.wrap .i64 ((AM (BP a1 ([y2]:List (Int))))-1))) 0) y1))with
      |true=>some (.inr (.inl (false,())))
      |false=>match(!y3)with
      |true=>some (.inl (a0,(BP a1 ([y2]:List (Int))),(Ad a2 y2 (IntKind.wrap .i64 (((AS a2 y2).getD 0)+1))),(Ad a3 y1 (IntKind.wrap .i64 (((AS a3 y1).getD 0)+1))),a4,a5,(IntKind.wrap .i64 (a6+1)),()))
      |false=>some (.inl (a0,(BP a1 ([y2]:List (Int))),(Ad a2 y2 (IntKind.wrap .i64 (((AS a2 y2).getD 0)+1))),a3,a4,a5,(IntKind.wrap .i64 (a6+1)),()))
     |false=>match(!y3)with
     |true=>some (.inl (a0,(BP a1 ([y2]:List (Int))),(Ad a2 y2 (IntKind.wrap .i64 (((AS a2 y2).getD 0)+1))),(Ad a3 y1 (IntKind.wrap .i64 (((AS a3 y1).getD 0)+1))),a4,a5,(IntKind.wrap .i64 (a6+1)),()))
     |false=>some (.inl (a0,(BP a1 ([y2]:List (Int))),(Ad a2 y2 (IntKind.wrap .i64 (((AS a2 y2).getD 0)+1))),a3,a4,a5,(IntKind.wrap .i64 (a6+1)),()))
    |false=>none
   |false=>match(ilt 0 ((AS a2 y2).getD 0))with
   |true=>some (.inr (.inl (false,())))
   |false=>match(fits ((AM a1)+(AM ([y2]:List (Int)))))with
   |true=>match(!y3)with
    |true=>match idx (BP a1 ([y2]:List (Int))) (IntKind.wrap .i64 ((AM (BP a1 ([y2]:List (Int))))-1))with|none=>none|some x10=>match(!(ieq (AY (BP a1 ([y2]:List (Int))) (AO (IntKind.wrap .i64 ((AM (BP a1 ([y2]:List (Int))))-1))) 0) y1))with
     |true=>some (.inr (.inl (false,())))
     |false=>match(!y3)with
     |true=>some (.inl (a0,(BP a1 ([y2]:List (Int))),(Ad a2 y2 (IntKind.wrap .i64 (((AS a2 y2).getD 0)+1))),(Ad a3 y1 (IntKind.wrap .i64 (((AS a3 y1).getD 0)+1))),a4,a5,(IntKind.wrap .i64 (a6+1)),()))
     |false=>some (.inl (a0,(BP a1 ([y2]:List (Int))),(Ad a2 y2 (IntKind.wrap .i64 (((AS a2 y2).getD 0)+1))),a3,a4,a5,(IntKind.wrap .i64 (a6+1)),()))
    |false=>match(!y3)with
    |true=>some (.inl (a0,(BP a1 ([y2]:List (Int))),(Ad a2 y2 (IntKind.wrap .i64 (((AS a2 y2).getD 0)+1))),(Ad a3 y1 (IntKind.wrap .i64 (((AS a3 y1).getD 0)+1))),a4,a5,(IntKind.wrap .i64 (a6+1)),()))
    |false=>some (.inl (a0,(BP a1 ([y2]:List (Int))),(Ad a2 y2 (IntKind.wrap .i64 (((AS a2 y2).getD 0)+1))),a3,a4,a5,(IntKind.wrap .i64 (a6+1)),()))
   |false=>none
  |false=>match(!y3)with
  |true=>match idx a1 (IntKind.wrap .i64 ((AM a1)-1))with|none=>none|some x11=>match(!(ieq (AY a1 (AO (IntKind.wrap .i64 ((AM a1)-1))) 0) y1))with
   |true=>some (.inr (.inl (false,())))
   |false=>match(!y3)with
   |true=>some (.inl (a0,a1,a2,(Ad a3 y1 (IntKind.wrap .i64 (((AS a3 y1).getD 0)+1))),a4,a5,(IntKind.wrap .i64 (a6+1)),()))
   |false=>some (.inl (a0,a1,a2,a3,a4,a5,(IntKind.wrap .i64 (a6+1)),()))
  |false=>match(!y3)with
  |true=>some (.inl (a0,a1,a2,(Ad a3 y1 (IntKind.wrap .i64 (((AS a3 y1).getD 0)+1))),a4,a5,(IntKind.wrap .i64 (a6+1)),()))
  |false=>some (.inl (a0,a1,a2,a3,a4,a5,(IntKind.wrap .i64 (a6+1)),()))
 |false=>some (.inr (.inr (.inl (a1,a2,a3,()))))
def AOH[Lk]:(Int×List Int×Unit)→Option (Ue):=fun(a0,a1,_)=>
 match idx a1 0 with|none=>none|some x0=>match tin (a0,x0,())with|none=>none|some (y1,_)=>match(!y1)with
 |true=>some (false,())
 |false=>match idx a1 0 with|none=>none|some x2=>match idx a1 0 with|none=>none|some x3=>match AU Io many (a0,([x2]:List (Int)),(Ad ([]:List Uz) x3 1),([]:List Uz),a1,(AM a1),0,())with|none=>none|some r=>match r with
 |.inl (o4,_)=>some (o4,())
 |.inr r=>match r with
 |.inl (o5,o6,o7,_)=>match(ieq (AM o5) 1)with
  |true=>some ((ieq (AM o7) (AM o6)),())
  |false=>some (false,())
 |.inr _=>none
def Ale[Lk]:=fun v=>Lk.f (AOH v)
theorem Ac8 v:Ale v=AOH v:=AJ _
abbrev AA2:AE:=[(.tmp 0,.dat V3)]
abbrev AA1:AE:=[(.tmp 0,.dat .bool)]
abbrev AA0:List RS:=[.one]
abbrev AIt:AE:=[(.tmp 3,.map U2 U2),(.tmp 78,.di),(.tmp 79,.di)]
abbrev AIq:Ao:=[(.ret,[(.tmp 2,.dat .bool)]),(.exit 4,[])]
def Ei[Lk]:(List Uz×Int×Int×Unit)→Option ((List Uz×Int×Int×Unit)⊕Ue⊕(Unit)⊕Unit):=fun(a0,a1,a2,_)=>
 match(ilt a2 a1)with
 |true=>match(ieq ((AS a0 a2).getD 0) 0)with
  |true=>some (.inr (.inl (false,())))
  |false=>some (.inl (a0,a1,(IntKind.wrap .i64 (a2+1)),()))
 |false=>some (.inr (.inr (.inl ())))
abbrev AIu:AE:=[(.tmp 1,.box 2),(.cell 0 0,.di),(.cell 0 1,.dat Uh),(.tmp 3,.map U2 U2),(.tmp 4,.di),(.tmp 16,.dat Uh),(.tmp 17,.di),(.tmp 18,.di),(.tmp 26,.dat U7),(.tmp 28,.di),(.tmp 29,.di),(.tmp 30,.dat .bool),(.tmp 33,.dat U7),(.tmp 34,.dat .bool),(.tmp 35,.dat .bool),(.tmp 38,.dat U7),(.tmp 39,.di),(.tmp 40,.dat U7),(.tmp 42,.di),(.tmp 43,.dat .bool),(.tmp 46,.ptr' 0 0),(.tmp 47,.di),(.tmp 48,.dat U7),(.tmp 49,.dat .bool),(.tmp 50,.dat .bool),(.tmp 55,.dat U7),(.tmp 56,.di),(.tmp 57,.di)]
abbrev AIr:Ao:=[(.ret,[(.tmp 2,.dat .bool)]),(.exit 2,[(.tmp 1,.box 2),(.cell 0 0,.di),(.cell 0 1,.dat Uh),(.tmp 3,.map U2 U2),(.tmp 4,.di),(.tmp 16,.dat Uh),(.tmp 17,.di),(.tmp 18,.di),(.tmp 26,.dat U7),(.tmp 28,.di),(.tmp 29,.di),(.tmp 30,.dat .bool),(.tmp 33,.dat U7),(.tmp 34,.dat .bool),(.tmp 35,.dat .bool),(.tmp 38,.dat U7),(.tmp 39,.di),(.tmp 40,.dat U7),(.tmp 42,.di),(.tmp 43,.dat .bool),(.tmp 46,.ptr' 0 0),(.tmp 47,.di),(.tmp 48,.dat U7),(.tmp 49,.dat .bool),(.tmp 50,.dat .bool)])]
def De[Lk]:V7→Option (V7⊕Ue⊕(Int×List U5×List Uz×Int×List U5×Int×Int×List Int×Int×Int×Bool×List Int×Bool×Bool×List Int×Int×List Int×Int×Bool×Int×List Int×Bool×Bool×Unit)⊕Unit):=fun(a0,a1,a2,a3,a4,a5,a6,a7,a8,a9,a10,a11,a12,a13,a14,a15,a16,a17,a18,a19,a20,a21,a22,a23,a24,a25,_)=>
 match(ilt a25 a24)with
 |true=>match idx a23 a25 with|none=>none|some x0=>match(ilt x0 a0)with
  |true=>match(ilt 0 ((AS a2 x0).getD 0))with
   |true=>some (.inr (.inl (false,())))
   |false=>some (.inl (a0,a1,(Ad a2 x0 (IntKind.wrap .i64 (((AS a2 x0).getD 0)+1))),a3,a4,a5,a6,a7,a8,a9,a10,a11,a12,a13,a14,a15,a16,a17,a18,a19,a20,a21,a22,a23,a24,(IntKind.wrap .i64 (a25+1)),()))
  |false=>some (.inl (a0,a1,(Ad a2 x0 (IntKind.wrap .i64 (((AS a2 x0).getD 0)+1))),a3,a4,a5,a6,a7,a8,a9,a10,a11,a12,a13,a14,a15,a16,a17,a18,a19,a20,a21,a22,a23,a24,(IntKind.wrap .i64 (a25+1)),()))
 |false=>some (.inr (.inr (.inl (a0,a1,a2,a3,a4,a5,a6,a7,a8,a9,a10,a11,a12,a13,a14,a15,a16,a17,a18,a19,a20,a21,a22,()))))
abbrev AIv:AE:=[(.tmp 1,.box 2),(.cell 0 0,.di),(.cell 0 1,.dat Uh),(.tmp 3,.map U2 U2),(.tmp 4,.di),(.tmp 16,.dat Uh),(.tmp 17,.di),(.tmp 18,.di)]
abbrev AIs:Ao:=[(.ret,[(.tmp 2,.dat .bool)]),(.exit 0,[(.tmp 1,.box 2),(.cell 0 0,.di),(.cell 0 1,.dat Uh),(.tmp 3,.map U2 U2)])]
def Df[Lk]:(Int×List U5×List Uz×Int×List U5×Int×Int×Unit)→Option ((Int×List U5×List Uz×Int×List U5×Int×Int×Unit)⊕Ue⊕(Int×List U5×List Uz×Unit)⊕Unit):=fun(a0,a1,a2,a3,a4,a5,a6,_)=>
 match(ilt a6 a5)with
 |true=>match idx a4 a6 with|none=>none|some x0=>match(ieq (AM x0) 0)with
  |true=>some (.inr (.inl (false,())))
  |false=>match idx x0 0 with|none=>none|some x1=>match(ile x1 a3)with
  |true=>some (.inr (.inl (false,())))
  |false=>match Pj (x0,())with|none=>none|some (y2,_)=>match(!y2)with
  |true=>some (.inr (.inl (false,())))
  |false=>match Afl (x0,())with|none=>none|some (y3,_)=>match idx x0 0 with|none=>none|some x4=>match(!(ieq y3 x4))with
  |true=>some (.inr (.inl (false,())))
  |false=>match Ale (a0,x0,())with|none=>none|some (y5,_)=>match(!y5)with
  |true=>some (.inr (.inl (false,())))
  |false=>match idx x0 0 with|none=>none|some x6=>match AU De many (a0,a1,a2,x6,a4,a5,a6,x0,x1,a3,(ile x1 a3),x0,y2,(!y2),x0,y3,x0,x4,(!(ieq y3 x4)),a0,x0,y5,(!y5),x0,(AM x0),0,())with|none=>none|some r=>match r with
  |.inl (o7,_)=>some (.inr (.inl (o7,())))
  |.inr r=>match r with
  |.inl (o8,o9,o10,o11,o12,o13,o14,o15,o16,o17,o18,o19,o20,o21,o22,o23,o24,o25,o26,o27,o28,o29,o30,_)=>some (.inl (o8,o9,o10,o11,o12,o13,(IntKind.wrap .i64 (o14+1)),()))
  |.inr _=>none
 |false=>some (.inr (.inr (.inl (a0,a1,a2,()))))
def Q2[Lk]:(V4×Unit)→Option (Ue):=fun(a0,_)=>
 match MM (a0.1,())with|none=>none|some (y0,_)=>match(!y0)with
 |true=>some (false,())
 |false=>match AU Df many (a0.1,a0.2.1,([]:List Uz),(-1:Int),a0.2.1,(AM a0.2.1),0,())with|none=>none|some r=>match r with
 |.inl (o1,_)=>some (o1,())
 |.inr r=>match r with
 |.inl (o2,o3,o4,_)=>match AU Ei many (o4,o2,0,())with|none=>none|some r=>match r with
  |.inl (o5,_)=>some (o5,())
  |.inr r=>match r with
  |.inl _=>some (true,())
  |.inr _=>none
 |.inr _=>none
def Th[Lk]:=fun v=>Lk.f (Q2 v)
theorem AIw v:Th v=Q2 v:=AJ _
abbrev APh:AE:=[(.tmp 0,.dat V3),(.tmp 1,.di),(.tmp 2,.di)]
abbrev APg:AE:=[(.tmp 0,.di)]
abbrev APf:List RS:=[.one]
def AAP[Lk]:(V4×Int×Int×Unit)→Option (Ua):=fun(a0,a1,a2,_)=>
 match Th ((a0.1,(a0.2.1,())),())with|none=>none|some (y0,_)=>match(!y0)with
 |true=>some (1,())
 |false=>match tin (a0.1,a1,())with|none=>none|some (y1,_)=>match(!y1)with
 |true=>some (10,())
 |false=>match tin (a0.1,a2,())with|none=>none|some (y2,_)=>match(!y2)with
 |true=>some (10,())
 |false=>some (0,())
def asked[Lk]:=fun v=>Lk.f (AAP v)
theorem AVx v:asked v=AAP v:=AJ _
abbrev AY7:AE:=[(.tmp 0,.di)]
abbrev AY6:AE:=[(.tmp 0,.dat .bool)]
abbrev AY5:List RS:=[.one]
def Ko[Lk]:Ua→Option (Ue):=fun(a0,_)=>
 some ((!(ieq a0 a0)),())
def Aks[Lk]:=fun v=>Lk.f (Ko v)
theorem Km v:Aks v=Ko v:=AJ _
abbrev QY:AE:=[(.tmp 0,.di),(.tmp 1,.di)]
abbrev QX:AE:=[(.tmp 0,.di)]
abbrev QW:List RS:=[.one]
def Ec[Lk]:U1→Option (Ua):=fun(a0,a1,_)=>
 match Aks (a0,())with|none=>none|some (y0,_)=>match Aks (a1,())with|none=>none|some (y1,_)=>match y0 with
 |true=>match y1 with
  |true=>some (0,())
  |false=>some ((-1:Int),())
 |false=>match y1 with
 |true=>some (1,())
 |false=>match(ilt a0 a1)with
 |true=>some ((-1:Int),())
 |false=>match(ilt a1 a0)with
 |true=>some (1,())
 |false=>some (0,())
def Da[Lk]:=fun v=>Lk.f (Ec v)
theorem Gr v:Da v=Ec v:=AJ _
abbrev ALG:AE:=[(.tmp 0,.dat U7),(.tmp 1,.dat U7)]
abbrev ALF:AE:=[(.tmp 0,.di)]
abbrev ALE:List RS:=[.one]
def Zt[Lk]:(List Int×List Int×Unit)→Option (Ua):=fun(a0,a1,_)=>
 match idx a0 0 with|none=>none|some x0=>match idx a1 0 with|none=>none|some x1=>match Da (x0,x1,())with|none=>none|some (y2,_)=>some (y2,())
def BG[Lk]:=fun v=>Lk.f (Zt v)
theorem AQT v:BG v=Zt v:=AJ _
def G1:List Int:=[0,1,2,2,3,3,3,3,4,4,4,4,4,4,4,4,5,5,5,5,5,5,5,5,5,5,5,5,5,5,5,5,6,6,6,6,6,6,6,6,6,6,6,6,6,6,6,6,6,6,6,6,6,6,6,6,6,6,6,6,6,6,6,6,7,7,7,7,7,7,7,7,7,7,7,7,7,7,7,7,7,7,7,7,7,7,7,7,7,7,7,7,7,7,7,7,7,7,7,7,7,7,7,7,7,7,7,7,7,7,7,7,7,7,7,7,7,7,7,7,7,7,7,7,7,7,7,7,8,8,8,8,8,8,8,8,8,8,8,8,8,8,8,8,8,8,8,8,8,8,8,8,8,8,8,8,8,8,8,8,8,8,8,8,8,8,8,8,8,8,8,8,8,8,8,8,8,8,8,8,8,8,8,8,8,8,8,8,8,8,8,8,8,8,8,8,8,8,8,8,8,8,8,8,8,8,8,8,8,8,8,8,8,8,8,8,8,8,8,8,8,8,8,8,8,8,8,8,8,8,8,8,8,8,8,8,8,8,8,8,8,8,8,8,8,8,8,8,8,8,8,8,8,8,8,8]
abbrev ANn:AE:=[(.tmp 0,.dat (.int .u64))]
abbrev ANm:AE:=[(.tmp 0,.di)]
abbrev ANl:List RS:=[.one]
def Z9[Lk]:Ua→Option (Ua):=fun(a0,_)=>
 match(ile 4294967296 a0)with
 |true=>match shr? .u64 a0 32 with|none=>none|some x0=>match(ile 65536 x0)with
  |true=>match shr? .u64 x0 16 with|none=>none|some x1=>match(ile 256 x1)with
   |true=>match shr? .u64 x1 8 with|none=>none|some x2=>match idx G1 (IntKind.wrap .u8 x2)with|none=>none|some x3=>some ((IntKind.wrap .i64 ((IntKind.wrap .i64 ((IntKind.wrap .i64 (32+16))+8))+(IntKind.wrap .i64 x3))),())
   |false=>match idx G1 (IntKind.wrap .u8 x1)with|none=>none|some x4=>some ((IntKind.wrap .i64 ((IntKind.wrap .i64 (32+16))+(IntKind.wrap .i64 x4))),())
  |false=>match(ile 256 x0)with
  |true=>match shr? .u64 x0 8 with|none=>none|some x5=>match idx G1 (IntKind.wrap .u8 x5)with|none=>none|some x6=>some ((IntKind.wrap .i64 ((IntKind.wrap .i64 (32+8))+(IntKind.wrap .i64 x6))),())
  |false=>match idx G1 (IntKind.wrap .u8 x0)with|none=>none|some x7=>some ((IntKind.wrap .i64 (32+(IntKind.wrap .i64 x7))),())
 |false=>match(ile 65536 a0)with
 |true=>match shr? .u64 a0 16 with|none=>none|some x8=>match(ile 256 x8)with
  |true=>match shr? .u64 x8 8 with|none=>none|some x9=>match idx G1 (IntKind.wrap .u8 x9)with|none=>none|some x10=>some ((IntKind.wrap .i64 ((IntKind.wrap .i64 ((IntKind.wrap .i64 (0+16))+8))+(IntKind.wrap .i64 x10))),())
  |false=>match idx G1 (IntKind.wrap .u8 x8)with|none=>none|some x11=>some ((IntKind.wrap .i64 ((IntKind.wrap .i64 (0+16))+(IntKind.wrap .i64 x11))),())
 |false=>match(ile 256 a0)with
 |true=>match shr? .u64 a0 8 with|none=>none|some x12=>match idx G1 (IntKind.wrap .u8 x12)with|none=>none|some x13=>some ((IntKind.wrap .i64 ((IntKind.wrap .i64 (0+8))+(IntKind.wrap .i64 x13))),())
 |false=>match idx G1 (IntKind.wrap .u8 a0)with|none=>none|some x14=>some ((IntKind.wrap .i64 (0+(IntKind.wrap .i64 x14))),())
def ATr[Lk]:=fun v=>Lk.f (Z9 v)
theorem ATq v:ATr v=Z9 v:=AJ _
abbrev XB:AE:=[(.tmp 0,.dat (.int .u64))]
abbrev XA:AE:=[(.tmp 0,.di)]
abbrev W8:List RS:=[.one]
def OT[Lk]:Ua→Option (Ua):=fun(a0,_)=>
 match ATr (a0,())with|none=>none|some (y0,_)=>some (y0,())
def bitsLen[Lk]:=fun v=>Lk.f (OT v)
theorem AGM v:bitsLen v=OT v:=AJ _
abbrev Te:AE:=[(.tmp 0,.box 1),(.cell 0 0,.dat (.int .u64))]
abbrev Td:AE:=[(.obj 0,.box 1),(.cell 0 0,.dat (.int .u64)),(.tmp 0,.dat (.int .u64))]
abbrev Tc:List RS:=[.one]
def Nq[Lk]:Ua→Option (U1):=fun(a0,_)=>
 match shl? .u64 a0 13 with|none=>none|some x0=>match shr? .u64 (IntKind.wrap .u64 ((BitVec.ofInt (IntKind.bits .u64) a0 ^^^ BitVec.ofInt (IntKind.bits .u64) x0).toNat)) 7 with|none=>none|some x1=>match shl? .u64 (IntKind.wrap .u64 ((BitVec.ofInt (IntKind.bits .u64) (IntKind.wrap .u64 ((BitVec.ofInt (IntKind.bits .u64) a0 ^^^ BitVec.ofInt (IntKind.bits .u64) x0).toNat)) ^^^ BitVec.ofInt (IntKind.bits .u64) x1).toNat)) 17 with|none=>none|some x2=>some ((IntKind.wrap .u64 ((BitVec.ofInt (IntKind.bits .u64) (IntKind.wrap .u64 ((BitVec.ofInt (IntKind.bits .u64) (IntKind.wrap .u64 ((BitVec.ofInt (IntKind.bits .u64) a0 ^^^ BitVec.ofInt (IntKind.bits .u64) x0).toNat)) ^^^ BitVec.ofInt (IntKind.bits .u64) x1).toNat)) ^^^ BitVec.ofInt (IntKind.bits .u64) x2).toNat)),(IntKind.wrap .u64 ((BitVec.ofInt (IntKind.bits .u64) (IntKind.wrap .u64 ((BitVec.ofInt (IntKind.bits .u64) (IntKind.wrap .u64 ((BitVec.ofInt (IntKind.bits .u64) a0 ^^^ BitVec.ofInt (IntKind.bits .u64) x0).toNat)) ^^^ BitVec.ofInt (IntKind.bits .u64) x1).toNat)) ^^^ BitVec.ofInt (IntKind.bits .u64) x2).toNat)),())
def xorNext[Lk]:=fun v=>Lk.f (Nq v)
theorem AAa v:xorNext v=Nq v:=AJ _
abbrev VV:AE:=[(.tmp 0,.di)]
abbrev VU:AE:=[(.tmp 0,.dat (.int .u64))]
abbrev VT:List RS:=[.one]
def OA[Lk]:Ua→Option (Ua):=fun(a0,_)=>
 match bitsLen ((IntKind.wrap .u64 a0),())with|none=>none|some (y0,_)=>match shl? .u64 1 y0 with|none=>none|some x1=>some (x1,())
def Rg[Lk]:=fun v=>Lk.f (OA v)
theorem ADs v:Rg v=OA v:=AJ _
def OE[Lk]{α:Type}(z:α)(c:α×α×Unit→Option Ua):(List α×Int×Int×Int×Int×Unit)→Option ((List α×Int×Int×Int×Int×Unit)⊕(List α×Int×Int×Int×Unit)⊕Unit):=fun(a0,a1,a2,a3,a4,_)=>
 match(ilt a1 a4)with
 |true=>match idx a0 a4 with|none=>none|some x0=>match idx a0 (IntKind.wrap .i64 (a4-1))with|none=>none|some x1=>match c ((AY a0 (AO a4) z),(AY a0 (AO (IntKind.wrap .i64 (a4-1))) z),())with|none=>none|some (y2,_)=>match(ilt y2 0)with
  |true=>match idx a0 (IntKind.wrap .i64 (a4-1))with|none=>none|some x3=>match idx a0 a4 with|none=>none|some x4=>match idx a0 a4 with|none=>none|some x5=>match idx (Az a0 (AO a4) (AY a0 (AO (IntKind.wrap .i64 (a4-1))) z)) (IntKind.wrap .i64 (a4-1))with|none=>none|some x6=>some (.inl ((Az (Az a0 (AO a4) (AY a0 (AO (IntKind.wrap .i64 (a4-1))) z)) (AO (IntKind.wrap .i64 (a4-1))) (AY a0 (AO a4) z)),a1,a2,a3,(IntKind.wrap .i64 (a4-1)),()))
  |false=>some (.inr (.inl (a0,a1,a2,a3,())))
 |false=>some (.inr (.inl (a0,a1,a2,a3,())))
def OF[Lk]{α:Type}(z:α)(c:α×α×Unit→Option Ua):(List α×Int×Int×Int×Unit)→Option ((List α×Int×Int×Int×Unit)⊕(List α×Unit)⊕Unit):=fun(a0,a1,a2,a3,_)=>
 match(ilt a3 a2)with
 |true=>match AU (OE z c) many (a0,a1,a2,a3,a3,())with|none=>none|some r=>match r with
  |.inl (o0,o1,o2,o3,_)=>some (.inl (o0,o1,o2,(IntKind.wrap .i64 (o3+1)),()))
  |.inr _=>none
 |false=>some (.inr (.inl (a0,())))
def AEL[Lk]{α:Type}(z:α)(c:α×α×Unit→Option Ua):(List α×Int×Int×Unit)→Option ((List α×Unit)):=fun(a0,a1,a2,_)=>
 match AU (OF z c) many (a0,a1,a2,(IntKind.wrap .i64 (a1+1)),())with|none=>none|some r=>match r with
 |.inl (o0,_)=>some (o0,())
 |.inr _=>none
def AlD[Lk]{α:Type}(z:α)(c:α×α×Unit→Option Ua)(v:(List α×Int×Int×Unit)):Option ((List α×Unit)):=Lk.f ((AEL z c) v)
theorem AoX{α:Type}(z:α)(c:α×α×Unit→Option Ua)(v:(List α×Int×Int×Unit)):(AlD z c) v=(AEL z c) v:=AJ _
def Jk[Lk]{α:Type}(z:α)(c:α×α×Unit→Option Ua):(List α×Int×Int×Int×Unit)→Option ((List α×Int×Int×Int×Unit)⊕(List α×Unit)⊕(List α×Unit)⊕Unit):=fun(a0,a1,a2,a3,_)=>
 match(ile a1 (IntKind.wrap .i64 ((IntKind.wrap .i64 (2*a3))+1)))with
 |true=>some (.inr (.inl (a0,())))
 |false=>match(ilt (IntKind.wrap .i64 ((IntKind.wrap .i64 ((IntKind.wrap .i64 (2*a3))+1))+1)) a1)with
 |true=>match idx a0 (IntKind.wrap .i64 (a2+(IntKind.wrap .i64 ((IntKind.wrap .i64 (2*a3))+1))))with|none=>none|some x0=>match idx a0 (IntKind.wrap .i64 ((IntKind.wrap .i64 (a2+(IntKind.wrap .i64 ((IntKind.wrap .i64 (2*a3))+1))))+1))with|none=>none|some x1=>match c ((AY a0 (AO (IntKind.wrap .i64 (a2+(IntKind.wrap .i64 ((IntKind.wrap .i64 (2*a3))+1))))) z),(AY a0 (AO (IntKind.wrap .i64 ((IntKind.wrap .i64 (a2+(IntKind.wrap .i64 ((IntKind.wrap .i64 (2*a3))+1))))+1))) z),())with|none=>none|some (y2,_)=>match(ilt y2 0)with
  |true=>match idx a0 (IntKind.wrap .i64 (a2+a3))with|none=>none|some x3=>match idx a0 (IntKind.wrap .i64 (a2+(IntKind.wrap .i64 ((IntKind.wrap .i64 ((IntKind.wrap .i64 (2*a3))+1))+1))))with|none=>none|some x4=>match c ((AY a0 (AO (IntKind.wrap .i64 (a2+a3))) z),(AY a0 (AO (IntKind.wrap .i64 (a2+(IntKind.wrap .i64 ((IntKind.wrap .i64 ((IntKind.wrap .i64 (2*a3))+1))+1))))) z),())with|none=>none|some (y5,_)=>match(!(ilt y5 0))with
   |true=>some (.inr (.inr (.inl (a0,()))))
   |false=>match idx a0 (IntKind.wrap .i64 (a2+(IntKind.wrap .i64 ((IntKind.wrap .i64 ((IntKind.wrap .i64 (2*a3))+1))+1))))with|none=>none|some x6=>match idx a0 (IntKind.wrap .i64 (a2+a3))with|none=>none|some x7=>match idx a0 (IntKind.wrap .i64 (a2+a3))with|none=>none|some x8=>match idx (Az a0 (AO (IntKind.wrap .i64 (a2+a3))) (AY a0 (AO (IntKind.wrap .i64 (a2+(IntKind.wrap .i64 ((IntKind.wrap .i64 ((IntKind.wrap .i64 (2*a3))+1))+1))))) z)) (IntKind.wrap .i64 (a2+(IntKind.wrap .i64 ((IntKind.wrap .i64 ((IntKind.wrap .i64 (2*a3))+1))+1))))with|none=>none|some x9=>some (.inl ((Az (Az a0 (AO (IntKind.wrap .i64 (a2+a3))) (AY a0 (AO (IntKind.wrap .i64 (a2+(IntKind.wrap .i64 ((IntKind.wrap .i64 ((IntKind.wrap .i64 (2*a3))+1))+1))))) z)) (AO (IntKind.wrap .i64 (a2+(IntKind.wrap .i64 ((IntKind.wrap .i64 ((IntKind.wrap .i64 (2*a3))+1))+1))))) (AY a0 (AO (IntKind.wrap .i64 (a2+a3))) z)),a1,a2,(IntKind.wrap .i64 ((IntKind.wrap .i64 ((IntKind.wrap .i64 (2*a3))+1))+1)),()))
  |false=>match idx a0 (IntKind.wrap .i64 (a2+a3))with|none=>none|some x10=>match idx a0 (IntKind.wrap .i64 (a2+(IntKind.wrap .i64 ((IntKind.wrap .i64 (2*a3))+1))))with|none=>none|some x11=>match c ((AY a0 (AO (IntKind.wrap .i64 (a2+a3))) z),(AY a0 (AO (IntKind.wrap .i64 (a2+(IntKind.wrap .i64 ((IntKind.wrap .i64 (2*a3))+1))))) z),())with|none=>none|some (y12,_)=>match(!(ilt y12 0))with
  |true=>some (.inr (.inr (.inl (a0,()))))
  |false=>match idx a0 (IntKind.wrap .i64 (a2+(IntKind.wrap .i64 ((IntKind.wrap .i64 (2*a3))+1))))with|none=>none|some x13=>match idx a0 (IntKind.wrap .i64 (a2+a3))with|none=>none|some x14=>match idx a0 (IntKind.wrap .i64 (a2+a3))with|none=>none|some x15=>match idx (Az a0 (AO (IntKind.wrap .i64 (a2+a3))) (AY a0 (AO (IntKind.wrap .i64 (a2+(IntKind.wrap .i64 ((IntKind.wrap .i64 (2*a3))+1))))) z)) (IntKind.wrap .i64 (a2+(IntKind.wrap .i64 ((IntKind.wrap .i64 (2*a3))+1))))with|none=>none|some x16=>some (.inl ((Az (Az a0 (AO (IntKind.wrap .i64 (a2+a3))) (AY a0 (AO (IntKind.wrap .i64 (a2+(IntKind.wrap .i64 ((IntKind.wrap .i64 (2*a3))+1))))) z)) (AO (IntKind.wrap .i64 (a2+(IntKind.wrap .i64 ((IntKind.wrap .i64 (2*a3))+1))))) (AY a0 (AO (IntKind.wrap .i64 (a2+a3))) z)),a1,a2,(IntKind.wrap .i64 ((IntKind.wrap .i64 (2*a3))+1)),()))
 |false=>match idx a0 (IntKind.wrap .i64 (a2+a3))with|none=>none|some x17=>match idx a0 (IntKind.wrap .i64 (a2+(IntKind.wrap .i64 ((IntKind.wrap .i64 (2*a3))+1))))with|none=>none|some x18=>match c ((AY a0 (AO (IntKind.wrap .i64 (a2+a3))) z),(AY a0 (AO (IntKind.wrap .i64 (a2+(IntKind.wrap .i64 ((IntKind.wrap .i64 (2*a3))+1))))) z),())with|none=>none|some (y19,_)=>match(!(ilt y19 0))with
 |true=>some (.inr (.inr (.inl (a0,()))))
 |false=>match idx a0 (IntKind.wrap .i64 (a2+(IntKind.wrap .i64 ((IntKind.wrap .i64 (2*a3))+1))))with|none=>none|some x20=>match idx a0 (IntKind.wrap .i64 (a2+a3))with|none=>none|some x21=>match idx a0 (IntKind.wrap .i64 (a2+a3))with|none=>none|some x22=>match idx (Az a0 (AO (IntKind.wrap .i64 (a2+a3))) (AY a0 (AO (IntKind.wrap .i64 (a2+(IntKind.wrap .i64 ((IntKind.wrap .i64 (2*a3))+1))))) z)) (IntKind.wrap .i64 (a2+(IntKind.wrap .i64 ((IntKind.wrap .i64 (2*a3))+1))))with|none=>none|some x23=>some (.inl ((Az (Az a0 (AO (IntKind.wrap .i64 (a2+a3))) (AY a0 (AO (IntKind.wrap .i64 (a2+(IntKind.wrap .i64 ((IntKind.wrap .i64 (2*a3))+1))))) z)) (AO (IntKind.wrap .i64 (a2+(IntKind.wrap .i64 ((IntKind.wrap .i64 (2*a3))+1))))) (AY a0 (AO (IntKind.wrap .i64 (a2+a3))) z)),a1,a2,(IntKind.wrap .i64 ((IntKind.wrap .i64 (2*a3))+1)),()))
def RD[Lk]{α:Type}(z:α)(c:α×α×Unit→Option Ua):(List α×Int×Int×Int×Unit)→Option ((List α×Unit)):=fun(a0,a1,a2,a3,_)=>
 match AU (Jk z c) many (a0,a2,a3,a1,())with|none=>none|some r=>match r with
 |.inl (o0,_)=>some (o0,())
 |.inr r=>match r with
 |.inl (o1,_)=>some (o1,())
 |.inr _=>none
def AI8[Lk]{α:Type}(z:α)(c:α×α×Unit→Option Ua)(v:(List α×Int×Int×Int×Unit)):Option ((List α×Unit)):=Lk.f ((RD z c) v)
theorem Ai4{α:Type}(z:α)(c:α×α×Unit→Option Ua)(v:(List α×Int×Int×Int×Unit)):(AI8 z c) v=(RD z c) v:=AJ _
def J3[Lk]{α:Type}(z:α)(c:α×α×Unit→Option Ua):(List α×Int×Int×Int×Unit)→Option ((List α×Int×Int×Int×Unit)⊕(List α×Unit)⊕Unit):=fun(a0,a1,a2,a3,_)=>
 match(ile 0 a3)with
 |true=>match idx a0 (IntKind.wrap .i64 (a1+a3))with|none=>none|some x0=>match idx a0 a1 with|none=>none|some x1=>match idx a0 a1 with|none=>none|some x2=>match idx (Az a0 (AO a1) (AY a0 (AO (IntKind.wrap .i64 (a1+a3))) z)) (IntKind.wrap .i64 (a1+a3))with|none=>none|some x3=>match(AI8 z c) ((Az (Az a0 (AO a1) (AY a0 (AO (IntKind.wrap .i64 (a1+a3))) z)) (AO (IntKind.wrap .i64 (a1+a3))) (AY a0 (AO a1) z)),a2,a3,a1,())with|none=>none|some (y4,_)=>some (.inl (y4,a1,a2,(IntKind.wrap .i64 (a3-1)),()))
 |false=>some (.inr (.inl (a0,())))
def J4[Lk]{α:Type}(z:α)(c:α×α×Unit→Option Ua):(List α×Int×Int×Int×Int×Unit)→Option ((List α×Int×Int×Int×Int×Unit)⊕(List α×Int×Int×Int×Unit)⊕Unit):=fun(a0,a1,a2,a3,a4,_)=>
 match(ile 0 a4)with
 |true=>match(AI8 z c) (a0,a4,a3,a1,())with|none=>none|some (y0,_)=>some (.inl (y0,a1,a2,a3,(IntKind.wrap .i64 (a4-1)),()))
 |false=>some (.inr (.inl (a0,a1,a2,a3,())))
def Ry[Lk]{α:Type}(z:α)(c:α×α×Unit→Option Ua):(List α×Int×Int×Unit)→Option ((List α×Unit)):=fun(a0,a1,a2,_)=>
 match quo? .i64 (IntKind.wrap .i64 ((IntKind.wrap .i64 (a2-a1))-1)) 2 with|none=>none|some x0=>match AU (J4 z c) many (a0,a1,0,(IntKind.wrap .i64 (a2-a1)),x0,())with|none=>none|some r=>match r with
 |.inl (o1,o2,o3,o4,_)=>match AU (J3 z c) many (o1,o2,o3,(IntKind.wrap .i64 (o4-1)),())with|none=>none|some r=>match r with
  |.inl (o5,_)=>some (o5,())
  |.inr _=>none
 |.inr _=>none
def AT7[Lk]{α:Type}(z:α)(c:α×α×Unit→Option Ua)(v:(List α×Int×Int×Unit)):Option ((List α×Unit)):=Lk.f ((Ry z c) v)
theorem AlR{α:Type}(z:α)(c:α×α×Unit→Option Ua)(v:(List α×Int×Int×Unit)):(AT7 z c) v=(Ry z c) v:=AJ _
def GH[Lk]{α:Type}(z:α)(c:α×α×Unit→Option Ua):(List α×Int×Int×Int×Int×Int×Unit)→Option ((List α×Int×Int×Int×Int×Int×Unit)⊕(List α×Unit)⊕Unit):=fun(a0,a1,a2,a3,a4,a5,_)=>
 match quo? .i64 a2 4 with|none=>none|some x0=>match(ile a5 (IntKind.wrap .i64 ((IntKind.wrap .i64 (a1+(IntKind.wrap .i64 (x0*2))))+1)))with
 |true=>match xorNext (a3,())with|none=>none|some (y1,y2,_)=>match(ile a2 (IntKind.wrap .i64 (IntKind.wrap .u64 ((BitVec.ofInt (IntKind.bits .u64) y2 &&& BitVec.ofInt (IntKind.bits .u64) (IntKind.wrap .u64 (a4-1))).toNat))))with
  |true=>match idx a0 (IntKind.wrap .i64 (a1+(IntKind.wrap .i64 ((IntKind.wrap .i64 (IntKind.wrap .u64 ((BitVec.ofInt (IntKind.bits .u64) y2 &&& BitVec.ofInt (IntKind.bits .u64) (IntKind.wrap .u64 (a4-1))).toNat)))-a2))))with|none=>none|some x3=>match idx a0 a5 with|none=>none|some x4=>match idx a0 a5 with|none=>none|some x5=>match idx (Az a0 (AO a5) (AY a0 (AO (IntKind.wrap .i64 (a1+(IntKind.wrap .i64 ((IntKind.wrap .i64 (IntKind.wrap .u64 ((BitVec.ofInt (IntKind.bits .u64) y2 &&& BitVec.ofInt (IntKind.bits .u64) (IntKind.wrap .u64 (a4-1))).toNat)))-a2))))) z)) (IntKind.wrap .i64 (a1+(IntKind.wrap .i64 ((IntKind.wrap .i64 (IntKind.wrap .u64 ((BitVec.ofInt (IntKind.bits .u64) y2 &&& BitVec.ofInt (IntKind.bits .u64) (IntKind.wrap .u64 (a4-1))).toNat)))-a2))))with|none=>none|some x6=>some (.inl ((Az (Az a0 (AO a5) (AY a0 (AO (IntKind.wrap .i64 (a1+(IntKind.wrap .i64 ((IntKind.wrap .i64 (IntKind.wrap .u64 ((BitVec.ofInt (IntKind.bits .u64) y2 &&& BitVec.ofInt (IntKind.bits .u64) (IntKind.wrap .u64 (a4-1))).toNat)))-a2))))) z)) (AO (IntKind.wrap .i64 (a1+(IntKind.wrap .i64 ((IntKind.wrap .i64 (IntKind.wrap .u64 ((BitVec.ofInt (IntKind.bits .u64) y2 &&& BitVec.ofInt (IntKind.bits .u64) (IntKind.wrap .u64 (a4-1))).toNat)))-a2))))) (AY a0 (AO a5) z)),a1,a2,y1,a4,(IntKind.wrap .i64 (a5+1)),()))
  |false=>match idx a0 (IntKind.wrap .i64 (a1+(IntKind.wrap .i64 (IntKind.wrap .u64 ((BitVec.ofInt (IntKind.bits .u64) y2 &&& BitVec.ofInt (IntKind.bits .u64) (IntKind.wrap .u64 (a4-1))).toNat)))))with|none=>none|some x7=>match idx a0 a5 with|none=>none|some x8=>match idx a0 a5 with|none=>none|some x9=>match idx (Az a0 (AO a5) (AY a0 (AO (IntKind.wrap .i64 (a1+(IntKind.wrap .i64 (IntKind.wrap .u64 ((BitVec.ofInt (IntKind.bits .u64) y2 &&& BitVec.ofInt (IntKind.bits .u64) (IntKind.wrap .u64 (a4-1))).toNat)))))) z)) (IntKind.wrap .i64 (a1+(IntKind.wrap .i64 (IntKind.wrap .u64 ((BitVec.ofInt (IntKind.bits .u64) y2 &&& BitVec.ofInt (IntKind.bits .u64) (IntKind.wrap .u64 (a4-1))).toNat)))))with|none=>none|some x10=>some (.inl ((Az (Az a0 (AO a5) (AY a0 (AO (IntKind.wrap .i64 (a1+(IntKind.wrap .i64 (IntKind.wrap .u64 ((BitVec.ofInt (IntKind.bits .u64) y2 &&& BitVec.ofInt (IntKind.bits .u64) (IntKind.wrap .u64 (a4-1))).toNat)))))) z)) (AO (IntKind.wrap .i64 (a1+(IntKind.wrap .i64 (IntKind.wrap .u64 ((BitVec.ofInt (IntKind.bits .u64) y2 &&& BitVec.ofInt (IntKind.bits .u64) (IntKind.wrap .u64 (a4-1))).toNat)))))) (AY a0 (AO a5) z)),a1,a2,y1,a4,(IntKind.wrap .i64 (a5+1)),()))
 |false=>some (.inr (.inl (a0,())))
def NP[Lk]{α:Type}(z:α)(c:α×α×Unit→Option Ua):(List α×Int×Int×Unit)→Option ((List α×Unit)):=fun(a0,a1,a2,_)=>
 match(ile 8 (IntKind.wrap .i64 (a2-a1)))with
 |true=>match Rg ((IntKind.wrap .i64 (a2-a1)),())with|none=>none|some (y0,_)=>match quo? .i64 (IntKind.wrap .i64 (a2-a1)) 4 with|none=>none|some x1=>match AU (GH z c) many (a0,a1,(IntKind.wrap .i64 (a2-a1)),(IntKind.wrap .u64 (IntKind.wrap .i64 (a2-a1))),y0,(IntKind.wrap .i64 ((IntKind.wrap .i64 (a1+(IntKind.wrap .i64 (x1*2))))-1)),())with|none=>none|some r=>match r with
  |.inl (o2,_)=>some (o2,())
  |.inr _=>none
 |false=>some (a0,())
def AGG[Lk]{α:Type}(z:α)(c:α×α×Unit→Option Ua)(v:(List α×Int×Int×Unit)):Option ((List α×Unit)):=Lk.f ((NP z c) v)
theorem Aho{α:Type}(z:α)(c:α×α×Unit→Option Ua)(v:(List α×Int×Int×Unit)):(AGG z c) v=(NP z c) v:=AJ _
def Ju[Lk]{α:Type}(z:α)(c:α×α×Unit→Option Ua):(List α×Int×Int×Int×Unit)→Option ((List α×Int×Int×Int×Unit)):=fun(a0,a1,a2,a3,_)=>
 match idx a0 a2 with|none=>none|some x0=>match idx a0 a1 with|none=>none|some x1=>match c ((AY a0 (AO a2) z),(AY a0 (AO a1) z),())with|none=>none|some (y2,_)=>match(ilt y2 0)with
 |true=>some (a0,(IntKind.wrap .i64 (a3+1)),a2,a1,())
 |false=>some (a0,a3,a1,a2,())
def Ki[Lk]{α:Type}(z:α)(c:α×α×Unit→Option Ua)(v:(List α×Int×Int×Int×Unit)):Option ((List α×Int×Int×Int×Unit)):=Lk.f ((Ju z c) v)
theorem AYt{α:Type}(z:α)(c:α×α×Unit→Option Ua)(v:(List α×Int×Int×Int×Unit)):(Ki z c) v=(Ju z c) v:=AJ _
def Jx[Lk]{α:Type}(z:α)(c:α×α×Unit→Option Ua):(List α×Int×Int×Int×Int×Unit)→Option ((List α×Int×Int×Unit)):=fun(a0,a1,a2,a3,a4,_)=>
 match(Ki z c) (a0,a1,a2,a4,())with|none=>none|some (y0,y1,y2,y3,_)=>match(Ki z c) (y0,y3,a3,y1,())with|none=>none|some (y4,y5,y6,y7,_)=>match(Ki z c) (y4,y2,y6,y5,())with|none=>none|some (y8,y9,y10,y11,_)=>some (y8,y9,y11,())
def Kr[Lk]{α:Type}(z:α)(c:α×α×Unit→Option Ua)(v:(List α×Int×Int×Int×Int×Unit)):Option ((List α×Int×Int×Unit)):=Lk.f ((Jx z c) v)
theorem AZG{α:Type}(z:α)(c:α×α×Unit→Option Ua)(v:(List α×Int×Int×Int×Int×Unit)):(Kr z c) v=(Jx z c) v:=AJ _
def Jy[Lk]{α:Type}(z:α)(c:α×α×Unit→Option Ua):(List α×Int×Int×Unit)→Option ((List α×Int×Int×Unit)):=fun(a0,a1,a2,_)=>
 match(Kr z c) (a0,(IntKind.wrap .i64 (a1-1)),a1,(IntKind.wrap .i64 (a1+1)),a2,())with|none=>none|some (y0,y1,y2,_)=>some (y0,y1,y2,())
def Ks[Lk]{α:Type}(z:α)(c:α×α×Unit→Option Ua)(v:(List α×Int×Int×Unit)):Option ((List α×Int×Int×Unit)):=Lk.f ((Jy z c) v)
theorem AZJ{α:Type}(z:α)(c:α×α×Unit→Option Ua)(v:(List α×Int×Int×Unit)):(Ks z c) v=(Jy z c) v:=AJ _
def Mg[Lk]{α:Type}(z:α)(c:α×α×Unit→Option Ua):(List α×Int×Int×Unit)→Option ((List α×Int×Int×Unit)):=fun(a0,a1,a2,_)=>
 match quo? .i64 (IntKind.wrap .i64 (a2-a1)) 4 with|none=>none|some x0=>match quo? .i64 (IntKind.wrap .i64 (a2-a1)) 4 with|none=>none|some x1=>match quo? .i64 (IntKind.wrap .i64 (a2-a1)) 4 with|none=>none|some x2=>match(ile 8 (IntKind.wrap .i64 (a2-a1)))with
 |true=>match(ile 50 (IntKind.wrap .i64 (a2-a1)))with
  |true=>match(Ks z c) (a0,(IntKind.wrap .i64 (a1+(IntKind.wrap .i64 (x0*1)))),0,())with|none=>none|some (y3,y4,y5,_)=>match(Ks z c) (y3,(IntKind.wrap .i64 (a1+(IntKind.wrap .i64 (x1*2)))),y4,())with|none=>none|some (y6,y7,y8,_)=>match(Ks z c) (y6,(IntKind.wrap .i64 (a1+(IntKind.wrap .i64 (x2*3)))),y7,())with|none=>none|some (y9,y10,y11,_)=>match(Kr z c) (y9,y5,y8,y11,y10,())with|none=>none|some (y12,y13,y14,_)=>match(ieq y13 0)with
   |true=>some (y12,y14,1,())
   |false=>match(ieq y13 12)with
   |true=>some (y12,y14,2,())
   |false=>some (y12,y14,0,())
  |false=>match(Kr z c) (a0,(IntKind.wrap .i64 (a1+(IntKind.wrap .i64 (x0*1)))),(IntKind.wrap .i64 (a1+(IntKind.wrap .i64 (x1*2)))),(IntKind.wrap .i64 (a1+(IntKind.wrap .i64 (x2*3)))),0,())with|none=>none|some (y15,y16,y17,_)=>match(ieq y16 0)with
  |true=>some (y15,y17,1,())
  |false=>match(ieq y16 12)with
  |true=>some (y15,y17,2,())
  |false=>some (y15,y17,0,())
 |false=>match(ieq 0 0)with
 |true=>some (a0,(IntKind.wrap .i64 (a1+(IntKind.wrap .i64 (x1*2)))),1,())
 |false=>match(ieq 0 12)with
 |true=>some (a0,(IntKind.wrap .i64 (a1+(IntKind.wrap .i64 (x1*2)))),2,())
 |false=>some (a0,(IntKind.wrap .i64 (a1+(IntKind.wrap .i64 (x1*2)))),0,())
def AC0[Lk]{α:Type}(z:α)(c:α×α×Unit→Option Ua)(v:(List α×Int×Int×Unit)):Option ((List α×Int×Int×Unit)):=Lk.f ((Mg z c) v)
theorem AfB{α:Type}(z:α)(c:α×α×Unit→Option Ua)(v:(List α×Int×Int×Unit)):(AC0 z c) v=(Mg z c) v:=AJ _
def RR[Lk]{α:Type}(z:α)(c:α×α×Unit→Option Ua):(List α×Int×Int×Unit)→Option ((List α×Int×Int×Unit)⊕(List α×Unit)⊕Unit):=fun(a0,a1,a2,_)=>
 match(ilt a1 a2)with
 |true=>match idx a0 a2 with|none=>none|some x0=>match idx a0 a1 with|none=>none|some x1=>match idx a0 a1 with|none=>none|some x2=>match idx (Az a0 (AO a1) (AY a0 (AO a2) z)) a2 with|none=>none|some x3=>some (.inl ((Az (Az a0 (AO a1) (AY a0 (AO a2) z)) (AO a2) (AY a0 (AO a1) z)),(IntKind.wrap .i64 (a1+1)),(IntKind.wrap .i64 (a2-1)),()))
 |false=>some (.inr (.inl (a0,())))
def ACO[Lk]{α:Type}(z:α)(c:α×α×Unit→Option Ua):(List α×Int×Int×Unit)→Option ((List α×Unit)):=fun(a0,a1,a2,_)=>
 match AU (RR z c) many (a0,a1,(IntKind.wrap .i64 (a2-1)),())with|none=>none|some r=>match r with
 |.inl (o0,_)=>some (o0,())
 |.inr _=>none
def AjU[Lk]{α:Type}(z:α)(c:α×α×Unit→Option Ua)(v:(List α×Int×Int×Unit)):Option ((List α×Unit)):=Lk.f ((ACO z c) v)
theorem Ann{α:Type}(z:α)(c:α×α×Unit→Option Ua)(v:(List α×Int×Int×Unit)):(AjU z c) v=(ACO z c) v:=AJ _
def El[Lk]{α:Type}(z:α)(c:α×α×Unit→Option Ua):(List α×Int×Int×Int×Int×Int×Unit)→Option ((List α×Int×Int×Int×Int×Int×Unit)⊕(List α×Int×Int×Int×Int×Unit)⊕Unit):=fun(a0,a1,a2,a3,a4,a5,_)=>
 match(ilt a5 a2)with
 |true=>match idx a0 a5 with|none=>none|some x0=>match idx a0 (IntKind.wrap .i64 (a5-1))with|none=>none|some x1=>match c ((AY a0 (AO a5) z),(AY a0 (AO (IntKind.wrap .i64 (a5-1))) z),())with|none=>none|some (y2,_)=>match(!(ilt y2 0))with
  |true=>some (.inr (.inl (a0,a1,a2,a3,a4,())))
  |false=>match idx a0 (IntKind.wrap .i64 (a5-1))with|none=>none|some x3=>match idx a0 a5 with|none=>none|some x4=>match idx a0 a5 with|none=>none|some x5=>match idx (Az a0 (AO a5) (AY a0 (AO (IntKind.wrap .i64 (a5-1))) z)) (IntKind.wrap .i64 (a5-1))with|none=>none|some x6=>some (.inl ((Az (Az a0 (AO a5) (AY a0 (AO (IntKind.wrap .i64 (a5-1))) z)) (AO (IntKind.wrap .i64 (a5-1))) (AY a0 (AO a5) z)),a1,a2,a3,a4,(IntKind.wrap .i64 (a5+1)),()))
 |false=>some (.inr (.inl (a0,a1,a2,a3,a4,())))
def Em[Lk]{α:Type}(z:α)(c:α×α×Unit→Option Ua):(List α×Int×Int×Int×Int×Int×Unit)→Option ((List α×Int×Int×Int×Int×Int×Unit)⊕(List α×Int×Int×Int×Int×Unit)⊕Unit):=fun(a0,a1,a2,a3,a4,a5,_)=>
 match(ile 1 a5)with
 |true=>match idx a0 a5 with|none=>none|some x0=>match idx a0 (IntKind.wrap .i64 (a5-1))with|none=>none|some x1=>match c ((AY a0 (AO a5) z),(AY a0 (AO (IntKind.wrap .i64 (a5-1))) z),())with|none=>none|some (y2,_)=>match(!(ilt y2 0))with
  |true=>some (.inr (.inl (a0,a1,a2,a3,a4,())))
  |false=>match idx a0 (IntKind.wrap .i64 (a5-1))with|none=>none|some x3=>match idx a0 a5 with|none=>none|some x4=>match idx a0 a5 with|none=>none|some x5=>match idx (Az a0 (AO a5) (AY a0 (AO (IntKind.wrap .i64 (a5-1))) z)) (IntKind.wrap .i64 (a5-1))with|none=>none|some x6=>some (.inl ((Az (Az a0 (AO a5) (AY a0 (AO (IntKind.wrap .i64 (a5-1))) z)) (AO (IntKind.wrap .i64 (a5-1))) (AY a0 (AO a5) z)),a1,a2,a3,a4,(IntKind.wrap .i64 (a5-1)),()))
 |false=>some (.inr (.inl (a0,a1,a2,a3,a4,())))
def Gg[Lk]{α:Type}(z:α)(c:α×α×Unit→Option Ua):(List α×Int×Int×Int×Int×Unit)→Option ((List α×Int×Int×Int×Int×Unit)⊕(List α×Int×Int×Int×Int×Unit)⊕Unit):=fun(a0,a1,a2,a3,a4,_)=>
 match(ilt a3 a2)with
 |true=>match idx a0 a3 with|none=>none|some x0=>match idx a0 (IntKind.wrap .i64 (a3-1))with|none=>none|some x1=>match c ((AY a0 (AO a3) z),(AY a0 (AO (IntKind.wrap .i64 (a3-1))) z),())with|none=>none|some (y2,_)=>match(!(ilt y2 0))with
  |true=>some (.inl (a0,a1,a2,(IntKind.wrap .i64 (a3+1)),a4,()))
  |false=>some (.inr (.inl (a0,a1,a2,a3,a4,())))
 |false=>some (.inr (.inl (a0,a1,a2,a3,a4,())))
def CS[Lk]{α:Type}(z:α)(c:α×α×Unit→Option Ua):(List α×Int×Int×Int×Int×Unit)→Option ((List α×Int×Int×Int×Int×Unit)⊕(List α×Bool×Unit)⊕(List α×Unit)⊕Unit):=fun(a0,a1,a2,a3,a4,_)=>
 match(ilt a4 5)with
 |true=>match AU (Gg z c) many (a0,a1,a2,a3,a4,())with|none=>none|some r=>match r with
  |.inl (o0,o1,o2,o3,o4,_)=>match(ieq o3 o2)with
   |true=>some (.inr (.inl (o0,true,())))
   |false=>match(ilt (IntKind.wrap .i64 (o2-o1)) 50)with
   |true=>some (.inr (.inl (o0,false,())))
   |false=>match idx o0 (IntKind.wrap .i64 (o3-1))with|none=>none|some x5=>match idx o0 o3 with|none=>none|some x6=>match idx o0 o3 with|none=>none|some x7=>match idx (Az o0 (AO o3) (AY o0 (AO (IntKind.wrap .i64 (o3-1))) z)) (IntKind.wrap .i64 (o3-1))with|none=>none|some x8=>match(ile 2 (IntKind.wrap .i64 (o3-o1)))with
   |true=>match AU (Em z c) many ((Az (Az o0 (AO o3) (AY o0 (AO (IntKind.wrap .i64 (o3-1))) z)) (AO (IntKind.wrap .i64 (o3-1))) (AY o0 (AO o3) z)),o1,o2,o3,o4,(IntKind.wrap .i64 (o3-1)),())with|none=>none|some r=>match r with
    |.inl (o9,o10,o11,o12,o13,_)=>match(ile 2 (IntKind.wrap .i64 (o11-o12)))with
     |true=>match AU (El z c) many (o9,o10,o11,o12,o13,(IntKind.wrap .i64 (o12+1)),())with|none=>none|some r=>match r with
      |.inl (o14,o15,o16,o17,o18,_)=>some (.inl (o14,o15,o16,o17,(IntKind.wrap .i64 (o18+1)),()))
      |.inr _=>none
     |false=>some (.inl (o9,o10,o11,o12,(IntKind.wrap .i64 (o13+1)),()))
    |.inr _=>none
   |false=>match(ile 2 (IntKind.wrap .i64 (o2-o3)))with
   |true=>match AU (El z c) many ((Az (Az o0 (AO o3) (AY o0 (AO (IntKind.wrap .i64 (o3-1))) z)) (AO (IntKind.wrap .i64 (o3-1))) (AY o0 (AO o3) z)),o1,o2,o3,o4,(IntKind.wrap .i64 (o3+1)),())with|none=>none|some r=>match r with
    |.inl (o19,o20,o21,o22,o23,_)=>some (.inl (o19,o20,o21,o22,(IntKind.wrap .i64 (o23+1)),()))
    |.inr _=>none
   |false=>some (.inl ((Az (Az o0 (AO o3) (AY o0 (AO (IntKind.wrap .i64 (o3-1))) z)) (AO (IntKind.wrap .i64 (o3-1))) (AY o0 (AO o3) z)),o1,o2,o3,(IntKind.wrap .i64 (o4+1)),()))
  |.inr _=>none
 |false=>some (.inr (.inr (.inl (a0,()))))
def Hm[Lk]{α:Type}(z:α)(c:α×α×Unit→Option Ua):(List α×Int×Int×Unit)→Option ((List α×Bool×Unit)):=fun(a0,a1,a2,_)=>
 match AU (CS z c) many (a0,a1,a2,(IntKind.wrap .i64 (a1+1)),0,())with|none=>none|some r=>match r with
 |.inl (o0,o1,_)=>some (o0,o1,())
 |.inr r=>match r with
 |.inl (o2,_)=>some (o2,false,())
 |.inr _=>none
def Mh[Lk]{α:Type}(z:α)(c:α×α×Unit→Option Ua)(v:(List α×Int×Int×Unit)):Option ((List α×Bool×Unit)):=Lk.f ((Hm z c) v)
theorem ASt{α:Type}(z:α)(c:α×α×Unit→Option Ua)(v:(List α×Int×Int×Unit)):(Mh z c) v=(Hm z c) v:=AJ _
def Hn[Lk]{α:Type}(z:α)(c:α×α×Unit→Option Ua):(List α×Int×Int×Int×Unit)→Option ((List α×Int×Int×Int×Unit)⊕(List α×Int×Int×Int×Unit)⊕Unit):=fun(a0,a1,a2,a3,_)=>
 match(ile a2 a3)with
 |true=>match idx a0 a1 with|none=>none|some x0=>match idx a0 a3 with|none=>none|some x1=>match c ((AY a0 (AO a1) z),(AY a0 (AO a3) z),())with|none=>none|some (y2,_)=>match(ilt y2 0)with
  |true=>some (.inl (a0,a1,a2,(IntKind.wrap .i64 (a3-1)),()))
  |false=>some (.inr (.inl (a0,a1,a2,a3,())))
 |false=>some (.inr (.inl (a0,a1,a2,a3,())))
def Ho[Lk]{α:Type}(z:α)(c:α×α×Unit→Option Ua):(List α×Int×Int×Int×Unit)→Option ((List α×Int×Int×Int×Unit)⊕(List α×Int×Int×Int×Unit)⊕Unit):=fun(a0,a1,a2,a3,_)=>
 match(ile a2 a3)with
 |true=>match idx a0 a1 with|none=>none|some x0=>match idx a0 a2 with|none=>none|some x1=>match c ((AY a0 (AO a1) z),(AY a0 (AO a2) z),())with|none=>none|some (y2,_)=>match(!(ilt y2 0))with
  |true=>some (.inl (a0,a1,(IntKind.wrap .i64 (a2+1)),a3,()))
  |false=>some (.inr (.inl (a0,a1,a2,a3,())))
 |false=>some (.inr (.inl (a0,a1,a2,a3,())))
def Hp[Lk]{α:Type}(z:α)(c:α×α×Unit→Option Ua):(List α×Int×Int×Int×Unit)→Option ((List α×Int×Int×Int×Unit)⊕(List α×Int×Unit)⊕Unit):=fun(a0,a1,a2,a3,_)=>
 match AU (Ho z c) many (a0,a1,a2,a3,())with|none=>none|some r=>match r with
 |.inl (o0,o1,o2,o3,_)=>match AU (Hn z c) many (o0,o1,o2,o3,())with|none=>none|some r=>match r with
  |.inl (o4,o5,o6,o7,_)=>match(ilt o7 o6)with
   |true=>some (.inr (.inl (o4,o6,())))
   |false=>match idx o4 o7 with|none=>none|some x8=>match idx o4 o6 with|none=>none|some x9=>match idx o4 o6 with|none=>none|some x10=>match idx (Az o4 (AO o6) (AY o4 (AO o7) z)) o7 with|none=>none|some x11=>some (.inl ((Az (Az o4 (AO o6) (AY o4 (AO o7) z)) (AO o7) (AY o4 (AO o6) z)),o5,(IntKind.wrap .i64 (o6+1)),(IntKind.wrap .i64 (o7-1)),()))
  |.inr _=>none
 |.inr _=>none
def Jt[Lk]{α:Type}(z:α)(c:α×α×Unit→Option Ua):(List α×Int×Int×Int×Unit)→Option ((List α×Int×Unit)):=fun(a0,a1,a2,a3,_)=>
 match idx a0 a3 with|none=>none|some x0=>match idx a0 a1 with|none=>none|some x1=>match idx a0 a1 with|none=>none|some x2=>match idx (Az a0 (AO a1) (AY a0 (AO a3) z)) a3 with|none=>none|some x3=>match AU (Hp z c) many ((Az (Az a0 (AO a1) (AY a0 (AO a3) z)) (AO a3) (AY a0 (AO a1) z)),a1,(IntKind.wrap .i64 (a1+1)),(IntKind.wrap .i64 (a2-1)),())with|none=>none|some r=>match r with
 |.inl (o4,o5,_)=>some (o4,o5,())
 |.inr _=>none
def Rd[Lk]{α:Type}(z:α)(c:α×α×Unit→Option Ua)(v:(List α×Int×Int×Int×Unit)):Option ((List α×Int×Unit)):=Lk.f ((Jt z c) v)
theorem AYj{α:Type}(z:α)(c:α×α×Unit→Option Ua)(v:(List α×Int×Int×Int×Unit)):(Rd z c) v=(Jt z c) v:=AJ _
def Mi[Lk]{α:Type}(z:α)(c:α×α×Unit→Option Ua):(List α×Int×Int×Int×Unit)→Option ((List α×Int×Int×Int×Unit)⊕(List α×Int×Int×Int×Unit)⊕Unit):=fun(a0,a1,a2,a3,_)=>
 match(ile a2 a3)with
 |true=>match idx a0 a3 with|none=>none|some x0=>match idx a0 a1 with|none=>none|some x1=>match c ((AY a0 (AO a3) z),(AY a0 (AO a1) z),())with|none=>none|some (y2,_)=>match(!(ilt y2 0))with
  |true=>some (.inl (a0,a1,a2,(IntKind.wrap .i64 (a3-1)),()))
  |false=>some (.inr (.inl (a0,a1,a2,a3,())))
 |false=>some (.inr (.inl (a0,a1,a2,a3,())))
def Mj[Lk]{α:Type}(z:α)(c:α×α×Unit→Option Ua):(List α×Int×Int×Int×Unit)→Option ((List α×Int×Int×Int×Unit)⊕(List α×Int×Int×Int×Unit)⊕Unit):=fun(a0,a1,a2,a3,_)=>
 match(ile a2 a3)with
 |true=>match idx a0 a2 with|none=>none|some x0=>match idx a0 a1 with|none=>none|some x1=>match c ((AY a0 (AO a2) z),(AY a0 (AO a1) z),())with|none=>none|some (y2,_)=>match(ilt y2 0)with
  |true=>some (.inl (a0,a1,(IntKind.wrap .i64 (a2+1)),a3,()))
  |false=>some (.inr (.inl (a0,a1,a2,a3,())))
 |false=>some (.inr (.inl (a0,a1,a2,a3,())))
def Mk[Lk]{α:Type}(z:α)(c:α×α×Unit→Option Ua):(List α×Int×Int×Int×Unit)→Option ((List α×Int×Int×Int×Unit)⊕(List α×Int×Int×Unit)⊕Unit):=fun(a0,a1,a2,a3,_)=>
 match AU (Mj z c) many (a0,a1,a2,a3,())with|none=>none|some r=>match r with
 |.inl (o0,o1,o2,o3,_)=>match AU (Mi z c) many (o0,o1,o2,o3,())with|none=>none|some r=>match r with
  |.inl (o4,o5,o6,o7,_)=>match(ilt o7 o6)with
   |true=>some (.inr (.inl (o4,o5,o7,())))
   |false=>match idx o4 o7 with|none=>none|some x8=>match idx o4 o6 with|none=>none|some x9=>match idx o4 o6 with|none=>none|some x10=>match idx (Az o4 (AO o6) (AY o4 (AO o7) z)) o7 with|none=>none|some x11=>some (.inl ((Az (Az o4 (AO o6) (AY o4 (AO o7) z)) (AO o7) (AY o4 (AO o6) z)),o5,(IntKind.wrap .i64 (o6+1)),(IntKind.wrap .i64 (o7-1)),()))
  |.inr _=>none
 |.inr _=>none
def Ml[Lk]{α:Type}(z:α)(c:α×α×Unit→Option Ua):(List α×Int×Int×Int×Unit)→Option ((List α×Int×Int×Int×Unit)⊕(List α×Int×Int×Int×Unit)⊕Unit):=fun(a0,a1,a2,a3,_)=>
 match(ile a2 a3)with
 |true=>match idx a0 a3 with|none=>none|some x0=>match idx a0 a1 with|none=>none|some x1=>match c ((AY a0 (AO a3) z),(AY a0 (AO a1) z),())with|none=>none|some (y2,_)=>match(!(ilt y2 0))with
  |true=>some (.inl (a0,a1,a2,(IntKind.wrap .i64 (a3-1)),()))
  |false=>some (.inr (.inl (a0,a1,a2,a3,())))
 |false=>some (.inr (.inl (a0,a1,a2,a3,())))
def Mm[Lk]{α:Type}(z:α)(c:α×α×Unit→Option Ua):(List α×Int×Int×Int×Unit)→Option ((List α×Int×Int×Int×Unit)⊕(List α×Int×Int×Int×Unit)⊕Unit):=fun(a0,a1,a2,a3,_)=>
 match(ile a2 a3)with
 |true=>match idx a0 a2 with|none=>none|some x0=>match idx a0 a1 with|none=>none|some x1=>match c ((AY a0 (AO a2) z),(AY a0 (AO a1) z),())with|none=>none|some (y2,_)=>match(ilt y2 0)with
  |true=>some (.inl (a0,a1,(IntKind.wrap .i64 (a2+1)),a3,()))
  |false=>some (.inr (.inl (a0,a1,a2,a3,())))
 |false=>some (.inr (.inl (a0,a1,a2,a3,())))
def Rc[Lk]{α:Type}(z:α)(c:α×α×Unit→Option Ua):(List α×Int×Int×Int×Unit)→Option ((List α×Int×Bool×Unit)):=fun(a0,a1,a2,a3,_)=>
 match idx a0 a3 with|none=>none|some x0=>match idx a0 a1 with|none=>none|some x1=>match idx a0 a1 with|none=>none|some x2=>match idx (Az a0 (AO a1) (AY a0 (AO a3) z)) a3 with|none=>none|some x3=>match AU (Mm z c) many ((Az (Az a0 (AO a1) (AY a0 (AO a3) z)) (AO a3) (AY a0 (AO a1) z)),a1,(IntKind.wrap .i64 (a1+1)),(IntKind.wrap .i64 (a2-1)),())with|none=>none|some r=>match r with
 |.inl (o4,o5,o6,o7,_)=>match AU (Ml z c) many (o4,o5,o6,o7,())with|none=>none|some r=>match r with
  |.inl (o8,o9,o10,o11,_)=>match(ilt o11 o10)with
   |true=>match idx o8 o9 with|none=>none|some x12=>match idx o8 o11 with|none=>none|some x13=>match idx o8 o11 with|none=>none|some x14=>match idx (Az o8 (AO o11) (AY o8 (AO o9) z)) o9 with|none=>none|some x15=>some ((Az (Az o8 (AO o11) (AY o8 (AO o9) z)) (AO o9) (AY o8 (AO o11) z)),o11,true,())
   |false=>match idx o8 o11 with|none=>none|some x16=>match idx o8 o10 with|none=>none|some x17=>match idx o8 o10 with|none=>none|some x18=>match idx (Az o8 (AO o10) (AY o8 (AO o11) z)) o11 with|none=>none|some x19=>match AU (Mk z c) many ((Az (Az o8 (AO o10) (AY o8 (AO o11) z)) (AO o11) (AY o8 (AO o10) z)),o9,(IntKind.wrap .i64 (o10+1)),(IntKind.wrap .i64 (o11-1)),())with|none=>none|some r=>match r with
   |.inl (o20,o21,o22,_)=>match idx o20 o21 with|none=>none|some x23=>match idx o20 o22 with|none=>none|some x24=>match idx o20 o22 with|none=>none|some x25=>match idx (Az o20 (AO o22) (AY o20 (AO o21) z)) o21 with|none=>none|some x26=>some ((Az (Az o20 (AO o22) (AY o20 (AO o21) z)) (AO o21) (AY o20 (AO o22) z)),o22,false,())
   |.inr _=>none
  |.inr _=>none
 |.inr _=>none
def ADP[Lk]{α:Type}(z:α)(c:α×α×Unit→Option Ua)(v:(List α×Int×Int×Int×Unit)):Option ((List α×Int×Bool×Unit)):=Lk.f ((Rc z c) v)
theorem AkK{α:Type}(z:α)(c:α×α×Unit→Option Ua)(v:(List α×Int×Int×Int×Unit)):(ADP z c) v=(Rc z c) v:=AJ _
def VE[Lk]{α:Type}(z:α)(c:α×α×Unit→Option Ua)(self:(List α×Int×Int×Int×Unit)→Option ((List α×Unit)))(y7:List α)(a1 a2 p l:Int)(a4 a5:Bool):Option ((List α×Int×Int×Int×Bool×Bool×Unit)⊕(List α×Unit)⊕Unit):=
 match(ilt 0 a1)with
 |true=>match idx y7 (IntKind.wrap .i64 (a1-1))with|none=>none|some x9=>match idx y7 p with|none=>none|some x10=>match c ((AY y7 (AO (IntKind.wrap .i64 (a1-1))) z),(AY y7 (AO p) z),())with|none=>none|some (y11,_)=>match(!(ilt y11 0))with
  |true=>match(Rd z c) (y7,a1,a2,p,())with|none=>none|some (y12,y13,_)=>some (.inl (y12,y13,a2,l,a4,a5,()))
  |false=>match(ADP z c) (y7,a1,a2,p,())with|none=>none|some (y14,y15,y16,_)=>match quo? .i64 (IntKind.wrap .i64 (a2-a1)) 8 with|none=>none|some x17=>match(ilt (IntKind.wrap .i64 (y15-a1)) (IntKind.wrap .i64 (a2-y15)))with
  |true=>match self (y14,a1,y15,l,())with|none=>none|some (y18,_)=>some (.inl (y18,(IntKind.wrap .i64 (y15+1)),a2,l,(ile x17 (IntKind.wrap .i64 (y15-a1))),y16,()))
  |false=>match self (y14,(IntKind.wrap .i64 (y15+1)),a2,l,())with|none=>none|some (y19,_)=>some (.inl (y19,a1,y15,l,(ile x17 (IntKind.wrap .i64 (a2-y15))),y16,()))
 |false=>match(ADP z c) (y7,a1,a2,p,())with|none=>none|some (y20,y21,y22,_)=>match quo? .i64 (IntKind.wrap .i64 (a2-a1)) 8 with|none=>none|some x23=>match(ilt (IntKind.wrap .i64 (y21-a1)) (IntKind.wrap .i64 (a2-y21)))with
 |true=>match self (y20,a1,y21,l,())with|none=>none|some (y24,_)=>some (.inl (y24,(IntKind.wrap .i64 (y21+1)),a2,l,(ile x23 (IntKind.wrap .i64 (y21-a1))),y22,()))
 |false=>match self (y20,(IntKind.wrap .i64 (y21+1)),a2,l,())with|none=>none|some (y25,_)=>some (.inl (y25,a1,y21,l,(ile x23 (IntKind.wrap .i64 (a2-y21))),y22,()))
def AMz[Lk]{α:Type}(z:α)(c:α×α×Unit→Option Ua)(self:(List α×Int×Int×Int×Unit)→Option ((List α×Unit)))(y6:List α)(a1 a2 p h l:Int)(a4 a5:Bool):Option ((List α×Int×Int×Int×Bool×Bool×Unit)⊕(List α×Unit)⊕Unit):=
 match a4 with
 |true=>match a5 with
  |true=>match(ieq h 1)with
   |true=>match(Mh z c) (y6,a1,a2,())with|none=>none|some (y7,y8,_)=>match y8 with
    |true=>some (.inr (.inl (y7,())))
    |false=>(VE z c) self y7 a1 a2 p l a4 a5
   |false=>(VE z c) self y6 a1 a2 p l a4 a5
  |false=>(VE z c) self y6 a1 a2 p l a4 a5
 |false=>(VE z c) self y6 a1 a2 p l a4 a5
def AMy[Lk]{α:Type}(z:α)(c:α×α×Unit→Option Ua)(self:(List α×Int×Int×Int×Unit)→Option ((List α×Unit)))(y2:List α)(a1 a2 l:Int)(a4 a5:Bool):Option ((List α×Int×Int×Int×Bool×Bool×Unit)⊕(List α×Unit)⊕Unit):=
 match(AC0 z c) (y2,a1,a2,())with|none=>none|some (y3,y4,y5,_)=>match(ieq y5 2)with
 |true=>match(AjU z c) (y3,a1,a2,())with|none=>none|some (y6,_)=>(AMz z c) self y6 a1 a2 (IntKind.wrap .i64 ((IntKind.wrap .i64 (a2-1))-(IntKind.wrap .i64 (y4-a1)))) 1 l a4 a5
 |false=>(AMz z c) self y3 a1 a2 y4 y5 l a4 a5
def N8[Lk]{α:Type}(z:α)(c:α×α×Unit→Option Ua)(self:(List α×Int×Int×Int×Unit)→Option ((List α×Unit))):(List α×Int×Int×Int×Bool×Bool×Unit)→Option ((List α×Int×Int×Int×Bool×Bool×Unit)⊕(List α×Unit)⊕Unit):=fun(a0,a1,a2,a3,a4,a5,_)=>
 match(ile (IntKind.wrap .i64 (a2-a1)) 12)with
 |true=>match(AlD z c) (a0,a1,a2,())with|none=>none|some (y0,_)=>some (.inr (.inl (y0,())))
 |false=>match(ieq a3 0)with
 |true=>match(AT7 z c) (a0,a1,a2,())with|none=>none|some (y1,_)=>some (.inr (.inl (y1,())))
 |false=>match(!a4)with
 |true=>match(AGG z c) (a0,a1,a2,())with|none=>none|some (y2,_)=>(AMy z c) self y2 a1 a2 (IntKind.wrap .i64 (a3-1)) a4 a5
 |false=>(AMy z c) self a0 a1 a2 a3 a4 a5
def AC8[Lk]{α:Type}(z:α)(c:α×α×Unit→Option Ua)(self:(List α×Int×Int×Int×Unit)→Option ((List α×Unit))):(List α×Int×Int×Int×Unit)→Option ((List α×Unit)):=fun(a0,a1,a2,a3,_)=>
 match AU ((N8 z c) self) many (a0,a1,a2,a3,true,true,())with|none=>none|some r=>match r with
 |.inl (o0,_)=>some (o0,())
 |.inr _=>none
def Kh[Lk]{α:Type}(z:α)(c:α×α×Unit→Option Ua):Nat→(List α×Int×Int×Int×Unit)→Option ((List α×Unit))
 |0,_=>none
 |n+1,v=>(AC8 z c) ((Kh z c) n) v
def Aj6[Lk]{α:Type}(z:α)(c:α×α×Unit→Option Ua)(v:(List α×Int×Int×Int×Unit)):Option ((List α×Unit)):=Lk.f ((Kh z c) 100 v)
theorem An2{α:Type}(z:α)(c:α×α×Unit→Option Ua)(v:(List α×Int×Int×Int×Unit)):(Aj6 z c) v=(Kh z c) 100 v:=AJ _
def RC[Lk]{α:Type}(z:α)(c:α×α×Unit→Option Ua):(List α×Unit)→Option ((List α×Unit)):=fun(a0,_)=>
 match bitsLen ((IntKind.wrap .u64 (AM a0)),())with|none=>none|some (y0,_)=>match(Aj6 z c) (a0,0,(AM a0),y0,())with|none=>none|some (y1,_)=>some (y1,())
def AcA[Lk]{α:Type}(z:α)(c:α×α×Unit→Option Ua)(v:(List α×Unit)):Option ((List α×Unit)):=Lk.f ((RC z c) v)
theorem Aix{α:Type}(z:α)(c:α×α×Unit→Option Ua)(v:(List α×Unit)):(AcA z c) v=(RC z c) v:=AJ _
abbrev AZi:AE:=[(.tmp 0,.own 41 U7),(.tmp 1,.di),(.tmp 2,.di),(.tmp 3,.clo 135 [])]
abbrev AZh:AE:=[(.obj 0,.own 41 U7)]
abbrev AZg:List RS:=[]
abbrev Acr:AE:=[(.obj 0,.own 41 U7),(.tmp 0,.own' 0),(.tmp 1,.di),(.tmp 2,.di),(.tmp 3,.clo 135 []),(.tmp 8,.di),(.tmp 9,.di)]
abbrev Acp:Ao:=[(.exit 2,[(.obj 0,.own 41 U7),(.tmp 0,.own' 0),(.tmp 1,.di),(.tmp 2,.di),(.tmp 3,.clo 135 []),(.tmp 8,.di)])]
def Acn[Lk]:Um→Option (Um⊕U9⊕Unit):=OE (([]:List (Int)):U5) BG
abbrev Acs:AE:=[(.obj 0,.own 41 U7),(.tmp 0,.own' 0),(.tmp 1,.di),(.tmp 2,.di),(.tmp 3,.clo 135 []),(.tmp 8,.di)]
abbrev Acq:Ao:=[(.exit 0,[(.obj 0,.own 41 U7)])]
def Aco[Lk]:U9→Option (U9⊕Ur⊕Unit):=OF (([]:List (Int)):U5) BG
def AlA[Lk]:Ug→Option (Ur):=AEL (([]:List (Int)):U5) BG
def AqO[Lk](v:Ug):Option (Ur):=AlD (([]:List (Int)):U5) BG v
theorem AoV v:AqO v=AlA v:=AJ _
abbrev AMD:AE:=[(.tmp 0,.own 41 U7),(.tmp 1,.di),(.tmp 2,.di),(.tmp 3,.di),(.tmp 4,.clo 135 [])]
abbrev AMC:AE:=[(.obj 0,.own 41 U7)]
abbrev AMB:List RS:=[]
abbrev ARI:AE:=[(.obj 0,.own 41 U7),(.tmp 0,.own' 0),(.tmp 2,.di),(.tmp 3,.di),(.tmp 4,.clo 135 []),(.tmp 10,.di)]
abbrev ARH:Ao:=[(.exit 0,[(.obj 0,.own 41 U7)]),(.ret,[(.obj 0,.own 41 U7)])]
def ARG[Lk]:U9→Option (U9⊕Ur⊕Ur⊕Unit):=Jk (([]:List (Int)):U5) BG
def AcD[Lk]:U9→Option (Ur):=RD (([]:List (Int)):U5) BG
def Ai3[Lk](v:U9):Option (Ur):=AI8 (([]:List (Int)):U5) BG v
theorem Ai2 v:Ai3 v=AcD v:=AJ _
abbrev AN3:AE:=[(.tmp 0,.own 41 U7),(.tmp 1,.di),(.tmp 2,.di),(.tmp 3,.clo 135 [])]
abbrev AN2:AE:=[(.obj 0,.own 41 U7)]
abbrev AN1:List RS:=[]
abbrev AT4:AE:=[(.obj 0,.own 41 U7),(.tmp 0,.own' 0),(.tmp 3,.clo 135 []),(.tmp 8,.di),(.tmp 9,.di),(.tmp 12,.di)]
abbrev AT2:Ao:=[(.exit 2,[(.obj 0,.own 41 U7)])]
def ATz[Lk]:U9→Option (U9⊕Ur⊕Unit):=J3 (([]:List (Int)):U5) BG
abbrev AT5:AE:=[(.obj 0,.own 41 U7),(.tmp 0,.own' 0),(.tmp 3,.clo 135 []),(.tmp 8,.di),(.tmp 9,.di),(.tmp 10,.di),(.tmp 11,.di)]
abbrev AT3:Ao:=[(.exit 0,[(.obj 0,.own 41 U7),(.tmp 0,.own' 0),(.tmp 3,.clo 135 []),(.tmp 8,.di),(.tmp 9,.di),(.tmp 10,.di)])]
def AT1[Lk]:Um→Option (Um⊕U9⊕Unit):=J4 (([]:List (Int)):U5) BG
def Ac3[Lk]:Ug→Option (Ur):=Ry (([]:List (Int)):U5) BG
def AlQ[Lk](v:Ug):Option (Ur):=AT7 (([]:List (Int)):U5) BG v
theorem AlP v:AlQ v=Ac3 v:=AJ _
abbrev AGE:AE:=[(.tmp 0,.own 41 U7),(.tmp 1,.di),(.tmp 2,.di),(.tmp 3,.clo 135 [])]
abbrev AGD:AE:=[(.obj 0,.own 41 U7)]
abbrev AGC:List RS:=[]
abbrev AKg:AE:=[(.obj 0,.own 41 U7),(.tmp 0,.own' 0),(.tmp 1,.di),(.tmp 8,.di),(.tmp 9,.box 1),(.cell 1 0,.dat (.int .u64)),(.tmp 10,.dat (.int .u64)),(.tmp 11,.di)]
abbrev AKf:Ao:=[(.exit 0,[(.obj 0,.own 41 U7)])]
def AKe[Lk]:V1→Option (V1⊕Ur⊕Unit):=GH (([]:List (Int)):U5) BG
def AVj[Lk]:Ug→Option (Ur):=NP (([]:List (Int)):U5) BG
def AbV[Lk](v:Ug):Option (Ur):=AGG (([]:List (Int)):U5) BG v
theorem Ahn v:AbV v=AVj v:=AJ _
abbrev VN:AE:=[(.tmp 0,.own 41 U7),(.tmp 1,.di),(.tmp 2,.di),(.tmp 3,.box 1),(.cell 1 0,.di),(.tmp 4,.clo 135 [])]
abbrev VM:AE:=[(.obj 0,.own 41 U7),(.obj 1,.box 1),(.cell 1 0,.di),(.tmp 0,.di),(.tmp 1,.di)]
abbrev VL:List RS:=[.one,.one]
def AJd[Lk]:U9→Option (U9):=Ju (([]:List (Int)):U5) BG
def ANG[Lk](v:U9):Option (U9):=Ki (([]:List (Int)):U5) BG v
theorem AYs v:ANG v=AJd v:=AJ _
abbrev VY:AE:=[(.tmp 0,.own 41 U7),(.tmp 1,.di),(.tmp 2,.di),(.tmp 3,.di),(.tmp 4,.box 1),(.cell 1 0,.di),(.tmp 5,.clo 135 [])]
abbrev VX:AE:=[(.obj 0,.own 41 U7),(.obj 1,.box 1),(.cell 1 0,.di),(.tmp 0,.di)]
abbrev VW:List RS:=[.one]
def AJh[Lk]:Um→Option (Ug):=Jx (([]:List (Int)):U5) BG
def ANZ[Lk](v:Um):Option (Ug):=Kr (([]:List (Int)):U5) BG v
theorem AZF v:ANZ v=AJh v:=AJ _
abbrev Vs:AE:=[(.tmp 0,.own 41 U7),(.tmp 1,.di),(.tmp 2,.box 1),(.cell 1 0,.di),(.tmp 3,.clo 135 [])]
abbrev Vr:AE:=[(.obj 0,.own 41 U7),(.obj 1,.box 1),(.cell 1 0,.di),(.tmp 0,.di)]
abbrev Vq:List RS:=[.one]
def AJj[Lk]:Ug→Option (Ug):=Jy (([]:List (Int)):U5) BG
def ANd[Lk](v:Ug):Option (Ug):=Ks (([]:List (Int)):U5) BG v
theorem AZI v:ANd v=AJj v:=AJ _
abbrev ACz:AE:=[(.tmp 0,.own 41 U7),(.tmp 1,.di),(.tmp 2,.di),(.tmp 3,.clo 135 [])]
abbrev ACy:AE:=[(.obj 0,.own 41 U7),(.tmp 0,.di),(.tmp 1,.di)]
abbrev ACx:List RS:=[.one,.one]
def ASE[Lk]:Ug→Option (Ug):=Mg (([]:List (Int)):U5) BG
def AYK[Lk](v:Ug):Option (Ug):=AC0 (([]:List (Int)):U5) BG v
theorem AfA v:AYK v=ASE v:=AJ _
abbrev AXn:AE:=[(.tmp 0,.own 41 U7),(.tmp 1,.di),(.tmp 2,.di),(.tmp 3,.clo 135 [])]
abbrev AXm:AE:=[(.obj 0,.own 41 U7)]
abbrev AXl:List RS:=[]
abbrev AcI:AE:=[(.obj 0,.own 41 U7),(.tmp 0,.own' 0),(.tmp 8,.di),(.tmp 9,.di)]
abbrev AcH:Ao:=[(.exit 0,[(.obj 0,.own 41 U7)])]
def AcG[Lk]:Ug→Option (Ug⊕Ur⊕Unit):=RR (([]:List (Int)):U5) BG
def AjS[Lk]:Ug→Option (Ur):=ACO (([]:List (Int)):U5) BG
def Apy[Lk](v:Ug):Option (Ur):=AjU (([]:List (Int)):U5) BG v
theorem Anm v:Apy v=AjS v:=AJ _
abbrev Pv:AE:=[(.tmp 0,.own 41 U7),(.tmp 1,.di),(.tmp 2,.di),(.tmp 3,.clo 135 [])]
abbrev Pu:AE:=[(.obj 0,.own 41 U7),(.tmp 0,.dat .bool)]
abbrev Pt:List RS:=[.one]
abbrev YE:AE:=[(.obj 0,.own 41 U7),(.tmp 0,.own' 0),(.tmp 1,.di),(.tmp 2,.di),(.tmp 3,.clo 135 []),(.tmp 9,.di),(.tmp 10,.di),(.tmp 12,.di)]
abbrev YA:Ao:=[(.exit 6,[(.obj 0,.own 41 U7),(.tmp 0,.own' 0),(.tmp 1,.di),(.tmp 2,.di),(.tmp 3,.clo 135 []),(.tmp 9,.di),(.tmp 10,.di)])]
def X6[Lk]:V1→Option (V1⊕Um⊕Unit):=El (([]:List (Int)):U5) BG
abbrev YF:AE:=[(.obj 0,.own 41 U7),(.tmp 0,.own' 0),(.tmp 1,.di),(.tmp 2,.di),(.tmp 3,.clo 135 []),(.tmp 9,.di),(.tmp 10,.di),(.tmp 11,.di)]
abbrev YB:Ao:=[(.exit 4,[(.obj 0,.own 41 U7),(.tmp 0,.own' 0),(.tmp 1,.di),(.tmp 2,.di),(.tmp 3,.clo 135 []),(.tmp 9,.di),(.tmp 10,.di)])]
def X7[Lk]:V1→Option (V1⊕Um⊕Unit):=Em (([]:List (Int)):U5) BG
abbrev YG:AE:=[(.obj 0,.own 41 U7),(.tmp 0,.own' 0),(.tmp 1,.di),(.tmp 2,.di),(.tmp 3,.clo 135 []),(.tmp 9,.di),(.tmp 10,.di)]
abbrev YC:Ao:=[(.exit 2,[(.obj 0,.own 41 U7),(.tmp 0,.own' 0),(.tmp 1,.di),(.tmp 2,.di),(.tmp 3,.clo 135 []),(.tmp 9,.di),(.tmp 10,.di)])]
def X8[Lk]:Um→Option (Um⊕Um⊕Unit):=Gg (([]:List (Int)):U5) BG
abbrev YH:AE:=[(.obj 0,.own 41 U7),(.tmp 0,.own' 0),(.tmp 1,.di),(.tmp 2,.di),(.tmp 3,.clo 135 []),(.tmp 9,.di),(.tmp 10,.di)]
abbrev YD:Ao:=[(.ret,[(.obj 0,.own 41 U7),(.tmp 8,.dat .bool)]),(.exit 0,[(.obj 0,.own 41 U7)])]
def X9[Lk]:Um→Option (Um⊕(List U5×Bool×Unit)⊕Ur⊕Unit):=CS (([]:List (Int)):U5) BG
def ADH[Lk]:Ug→Option ((List U5×Bool×Unit)):=Hm (([]:List (Int)):U5) BG
def ADI[Lk](v:Ug):Option ((List U5×Bool×Unit)):=Mh (([]:List (Int)):U5) BG v
theorem ASs v:ADI v=ADH v:=AJ _
abbrev VH:AE:=[(.tmp 0,.own 41 U7),(.tmp 1,.di),(.tmp 2,.di),(.tmp 3,.di),(.tmp 4,.clo 135 [])]
abbrev VG:AE:=[(.obj 0,.own 41 U7),(.tmp 0,.di)]
abbrev VF:List RS:=[.one]
abbrev ADW:AE:=[(.obj 0,.own 41 U7),(.tmp 0,.own' 0),(.tmp 1,.di),(.tmp 4,.clo 135 []),(.tmp 11,.di),(.tmp 12,.di)]
abbrev ADT:Ao:=[(.exit 4,[(.obj 0,.own 41 U7),(.tmp 0,.own' 0),(.tmp 1,.di),(.tmp 4,.clo 135 []),(.tmp 11,.di),(.tmp 12,.di)])]
def ADQ[Lk]:U9→Option (U9⊕U9⊕Unit):=Hn (([]:List (Int)):U5) BG
abbrev ADX:AE:=[(.obj 0,.own 41 U7),(.tmp 0,.own' 0),(.tmp 1,.di),(.tmp 4,.clo 135 []),(.tmp 11,.di),(.tmp 12,.di)]
abbrev ADU:Ao:=[(.exit 2,[(.obj 0,.own 41 U7),(.tmp 0,.own' 0),(.tmp 1,.di),(.tmp 4,.clo 135 []),(.tmp 11,.di),(.tmp 12,.di)])]
def ADR[Lk]:U9→Option (U9⊕U9⊕Unit):=Ho (([]:List (Int)):U5) BG
abbrev ADY:AE:=[(.obj 0,.own 41 U7),(.tmp 0,.own' 0),(.tmp 1,.di),(.tmp 4,.clo 135 []),(.tmp 11,.di),(.tmp 12,.di)]
abbrev ADV:Ao:=[(.exit 0,[(.obj 0,.own 41 U7),(.tmp 11,.di)])]
def ADS[Lk]:U9→Option (U9⊕(List U5×Int×Unit)⊕Unit):=Hp (([]:List (Int)):U5) BG
def AJZ[Lk]:U9→Option ((List U5×Int×Unit)):=Jt (([]:List (Int)):U5) BG
def AM8[Lk](v:U9):Option ((List U5×Int×Unit)):=Rd (([]:List (Int)):U5) BG v
theorem AYi v:AM8 v=AJZ v:=AJ _
end
end Go.Pev
end
section
namespace Go.Pev
noncomputable section
attribute [local irreducible] PE LN Oj Ov AlH AlI AlK RV ZS RE ZQ LZ Aj many IntKind.wrap AM Az AY BP Bv GC D8 AO Bs B6 imax AS Ad
abbrev AM3:AE:=[(.tmp 0,.own 41 U7),(.tmp 1,.di),(.tmp 2,.di),(.tmp 3,.di),(.tmp 4,.clo 135 [])]
abbrev AM2:AE:=[(.obj 0,.own 41 U7),(.tmp 0,.di),(.tmp 1,.dat .bool)]
abbrev AM1:List RS:=[.one,.one]
abbrev ASf:AE:=[(.obj 0,.own 41 U7),(.tmp 0,.own' 0),(.tmp 1,.di),(.tmp 4,.clo 135 []),(.tmp 12,.di),(.tmp 13,.di)]
abbrev ASa:Ao:=[(.exit 8,[(.obj 0,.own 41 U7),(.tmp 0,.own' 0),(.tmp 1,.di),(.tmp 4,.clo 135 []),(.tmp 12,.di),(.tmp 13,.di)])]
def ASR[Lk]:U9→Option (U9⊕U9⊕Unit):=Mi (([]:List (Int)):U5) BG
abbrev ASg:AE:=[(.obj 0,.own 41 U7),(.tmp 0,.own' 0),(.tmp 1,.di),(.tmp 4,.clo 135 []),(.tmp 12,.di),(.tmp 13,.di)]
abbrev ASb:Ao:=[(.exit 6,[(.obj 0,.own 41 U7),(.tmp 0,.own' 0),(.tmp 1,.di),(.tmp 4,.clo 135 []),(.tmp 12,.di),(.tmp 13,.di)])]
def AST[Lk]:U9→Option (U9⊕U9⊕Unit):=Mj (([]:List (Int)):U5) BG
abbrev ASh:AE:=[(.obj 0,.own 41 U7),(.tmp 0,.own' 0),(.tmp 1,.di),(.tmp 4,.clo 135 []),(.tmp 12,.di),(.tmp 13,.di)]
abbrev ASc:Ao:=[(.exit 4,[(.obj 0,.own 41 U7),(.tmp 0,.own' 0),(.tmp 1,.di),(.tmp 13,.di)])]
def ASV[Lk]:U9→Option (U9⊕Ug⊕Unit):=Mk (([]:List (Int)):U5) BG
abbrev ASi:AE:=[(.obj 0,.own 41 U7),(.tmp 0,.own' 0),(.tmp 1,.di),(.tmp 4,.clo 135 []),(.tmp 12,.di),(.tmp 13,.di)]
abbrev ASd:Ao:=[(.exit 2,[(.obj 0,.own 41 U7),(.tmp 0,.own' 0),(.tmp 1,.di),(.tmp 4,.clo 135 []),(.tmp 12,.di),(.tmp 13,.di)])]
def ASX[Lk]:U9→Option (U9⊕U9⊕Unit):=Ml (([]:List (Int)):U5) BG
abbrev ASj:AE:=[(.obj 0,.own 41 U7),(.tmp 0,.own' 0),(.tmp 1,.di),(.tmp 4,.clo 135 []),(.tmp 12,.di),(.tmp 13,.di)]
abbrev ASe:Ao:=[(.exit 0,[(.obj 0,.own 41 U7),(.tmp 0,.own' 0),(.tmp 1,.di),(.tmp 4,.clo 135 []),(.tmp 12,.di),(.tmp 13,.di)])]
def ASZ[Lk]:U9→Option (U9⊕U9⊕Unit):=Mm (([]:List (Int)):U5) BG
def AcX[Lk]:U9→Option ((List U5×Int×Bool×Unit)):=Rc (([]:List (Int)):U5) BG
def AkJ[Lk](v:U9):Option ((List U5×Int×Bool×Unit)):=ADP (([]:List (Int)):U5) BG v
theorem AkI v:AkJ v=AcX v:=AJ _
abbrev AC6:AE:=[(.tmp 0,.own 41 U7),(.tmp 1,.di),(.tmp 2,.di),(.tmp 3,.di),(.tmp 4,.clo 135 [])]
abbrev AC5:AE:=[(.obj 0,.own 41 U7)]
abbrev AC4:List RS:=[]
abbrev AcT:AE:=[(.obj 0,.own 41 U7),(.tmp 0,.own' 0),(.tmp 1,.di),(.tmp 2,.di),(.tmp 3,.di),(.tmp 4,.clo 135 []),(.tmp 10,.dat .bool),(.tmp 11,.dat .bool)]
abbrev AcS:Ao:=[(.ret,[(.obj 0,.own 41 U7)])]
def AcR[Lk](self:U9→Option (Ur)):(List U5×Int×Int×Int×Bool×Bool×Unit)→Option ((List U5×Int×Int×Int×Bool×Bool×Unit)⊕Ur⊕Unit):=N8 (([]:List (Int)):U5) BG self
def AqB[Lk](self:U9→Option (Ur)):U9→Option (Ur):=AC8 (([]:List (Int)):U5) BG self
def AC7[Lk]:Nat→U9→Option (Ur):=Kh (([]:List (Int)):U5) BG
def An1[Lk](v:U9):Option (Ur):=Aj6 (([]:List (Int)):U5) BG v
theorem An0 v:An1 v=AC7 100 v:=AJ _
abbrev AL5:AE:=[(.tmp 0,.own 41 U7),(.tmp 1,.clo 135 [])]
abbrev AL4:AE:=[(.obj 0,.own 41 U7)]
abbrev AL3:List RS:=[]
def Ab9[Lk]:Ur→Option (Ur):=RC (([]:List (Int)):U5) BG
def ARB[Lk](v:Ur):Option (Ur):=AcA (([]:List (Int)):U5) BG v
theorem Aiw v:ARB v=Ab9 v:=AJ _
abbrev ALO:AE:=[(.tmp 0,.dat V3),(.tmp 1,.dat U7),(.tmp 2,.dat Uh)]
abbrev ALN:AE:=[(.tmp 0,.di),(.tmp 1,.own 41 U7)]
abbrev ALM:List RS:=[.agg 2]
abbrev AQb:AE:=[(.tmp 3,.box 2),(.cell 0 0,.di),(.cell 0 1,.dat Uh),(.tmp 6,.box 2),(.cell 1 0,.di),(.cell 1 1,.nil U7),(.tmp 7,.own 41 U7),(.tmp 29,.dat Uh),(.tmp 30,.di),(.tmp 31,.di)]
abbrev AQZ:Ao:=[(.exit 2,[(.tmp 3,.box 2),(.cell 0 0,.di),(.cell 0 1,.dat Uh),(.tmp 6,.box 2),(.cell 1 0,.di),(.cell 1 1,.nil U7),(.tmp 7,.own 41 U7)])]
def Ha[Lk]:(Int×List U5×Int×List U5×List U5×Int×Int×Unit)→Option ((Int×List U5×Int×List U5×List U5×Int×Int×Unit)⊕(Int×List U5×Int×List U5×Unit)⊕Unit):=fun(a0,a1,a2,a3,a4,a5,a6,_)=>
 match(ilt a6 a5)with
 |true=>match idx a4 a6 with|none=>none|some x0=>match ACA (x0,())with|none=>none|some (y1,_)=>match(fits ((AM a3)+(AM ([y1]:List U5))))with
  |true=>some (.inl (a0,a1,a2,(BP a3 ([y1]:List U5)),a4,a5,(IntKind.wrap .i64 (a6+1)),()))
  |false=>none
 |false=>some (.inr (.inl (a0,a1,a2,a3,())))
abbrev AQc:AE:=[(.tmp 1,.dat U7),(.tmp 2,.dat Uh),(.tmp 3,.box 2),(.cell 0 0,.di),(.cell 0 1,.dat Uh),(.tmp 6,.box 2),(.cell 1 0,.di),(.cell 1 1,.nil U7),(.tmp 7,.own 41 U7),(.tmp 13,.dat Uh),(.tmp 14,.di),(.tmp 15,.di)]
abbrev AQa:Ao:=[(.exit 0,[(.tmp 2,.dat Uh),(.tmp 3,.box 2),(.cell 0 0,.di),(.cell 0 1,.dat Uh),(.tmp 6,.box 2),(.cell 1 0,.di),(.cell 1 1,.nil U7),(.tmp 7,.own 41 U7)])]
def Hb[Lk]:(List Int×List U5×Int×List U5×Int×List U5×List U5×Int×Int×Unit)→Option ((List Int×List U5×Int×List U5×Int×List U5×List U5×Int×Int×Unit)⊕(List U5×Int×List U5×Int×List U5×Unit)⊕Unit):=fun(a0,a1,a2,a3,a4,a5,a6,a7,a8,_)=>
 match(ilt a8 a7)with
 |true=>match idx a6 a8 with|none=>none|some x0=>match GF (a0,a8,())with|none=>none|some (y1,_)=>match(!y1)with
  |true=>match(fits ((AM a5)+(AM ([x0]:List U5))))with
   |true=>some (.inl (a0,a1,a2,a3,a4,(BP a5 ([x0]:List U5)),a6,a7,(IntKind.wrap .i64 (a8+1)),()))
   |false=>none
  |false=>some (.inl (a0,a1,a2,a3,a4,a5,a6,a7,(IntKind.wrap .i64 (a8+1)),()))
 |false=>some (.inr (.inl (a1,a2,a3,a4,a5,())))
def Zv[Lk]:(V4×List Int×List U5×Unit)→Option ((Int×List U5×Unit)):=fun(a0,a1,a2,_)=>
 match AU Hb many (a1,a2,a0.1,a0.2.1,0,([]:List U5),a0.2.1,(AM a0.2.1),0,())with|none=>none|some r=>match r with
 |.inl (o0,o1,o2,o3,o4,_)=>match AU Ha many (o1,o2,o3,o4,o0,(AM o0),0,())with|none=>none|some r=>match r with
  |.inl (o5,o6,o7,o8,_)=>match ARB (o8,())with|none=>none|some (y9,_)=>some (o5,y9,())
  |.inr _=>none
 |.inr _=>none
def AQe[Lk]:=fun v=>Lk.f (Zv v)
theorem AQd v:AQe v=Zv v:=AJ _
abbrev ALj:AE:=[(.tmp 0,.dat V3),(.tmp 1,.di),(.tmp 2,.di)]
abbrev ALi:AE:=[(.tmp 0,.di),(.tmp 1,.dat Uh),(.tmp 2,.di)]
abbrev ALh:List RS:=[.agg 2,.one]
def Q4[Lk]:(V4×Int×Int×Unit)→Option ((Int×List U5×Int×Unit)):=fun(a0,a1,a2,_)=>
 match asked ((a0.1,(a0.2.1,())),a1,a2,())with|none=>none|some (y0,_)=>match(!(ieq y0 0))with
 |true=>some (a0.1,a0.2.1,y0,())
 |false=>match Ti ((a0.1,(a0.2.1,())),a1,())with|none=>none|some (y1,_)=>match Ti ((a0.1,(a0.2.1,())),a2,())with|none=>none|some (y2,_)=>match(ieq y1 y2)with
 |true=>some (a0.1,a0.2.1,5,())
 |false=>match idx a0.2.1 y1 with|none=>none|some x3=>match AJL (x3,a1,())with|none=>none|some (y4,y5,_)=>match idx a0.2.1 y2 with|none=>none|some x6=>match AJL (x6,a2,())with|none=>none|some (y7,y8,_)=>match EK y4 0 1 with|none=>none|some x9=>match AeF (a0.1,a1,a2,())with|none=>none|some (y10,_)=>match AeF (a0.1,a2,a1,())with|none=>none|some (y11,_)=>match EK y4 1 (AM y4)with|none=>none|some x12=>match LY (([(GC 0 (AO (AM x9)) y4),([y10]:List (Int)),y7,([y11]:List (Int)),(GC 1 (AO (AM x12)) y4)]:List U5),())with|none=>none|some (y13,_)=>match AQe ((a0.1,(a0.2.1,())),([y1,y2]:List (Int)),([y13]:List U5),())with|none=>none|some (y14,y15,_)=>some (y14,y15,0,())
def AA9[Lk]:=fun v=>Lk.f (Q4 v)
theorem AA8 v:AA9 v=Q4 v:=AJ _
abbrev Fz:AE:=[(.tmp 0,.dat U7),(.cap 1 0,.box 2),(.cell 0 0,.di),(.cell 0 1,.dat Uh),(.tmp 1,.clo 125 [(0,0)])]
abbrev Fy:AE:=[(.obj 0,.box 2),(.cell 0 0,.di),(.cell 0 1,.dat Uh),(.tmp 0,.di)]
abbrev Fx:List RS:=[.one]
abbrev Il:AE:=[(.obj 0,.box 2),(.cell 0 0,.di),(.cell 0 1,.dat Uh),(.tmp 0,.dat U7),(.tmp 1,.clo 125 [(0,0)]),(.tmp 7,.di),(.tmp 8,.di)]
abbrev Ik:Ao:=[(.ret,[(.obj 0,.box 2),(.cell 0 0,.di),(.cell 0 1,.dat Uh),(.tmp 4,.di)]),(.exit 0,[(.obj 0,.box 2),(.cell 0 0,.di),(.cell 0 1,.dat Uh)])]
def Bg[Lk]:(Int×List U5×List Int×Int×Int×Unit)→Option ((Int×List U5×List Int×Int×Int×Unit)⊕(Int×List U5×Int×Unit)⊕(Int×List U5×Unit)⊕Unit):=fun(a0,a1,a2,a3,a4,_)=>
 match(ilt a4 a3)with
 |true=>match idx a2 a4 with|none=>none|some x0=>match(ilt x0 0)with
  |true=>some (.inr (.inl (a0,a1,a4,())))
  |false=>match(ile a0 x0)with
  |true=>some (.inr (.inl (a0,a1,a4,())))
  |false=>some (.inl (a0,a1,a2,a3,(IntKind.wrap .i64 (a4+1)),()))
 |false=>some (.inr (.inr (.inl (a0,a1,()))))
def Dr[Lk]:(List Int×Int×List U5×Unit)→Option ((Int×List U5×Int×Unit)):=fun(a0,a1,a2,_)=>
 match AU Bg many (a1,a2,a0,(AM a0),0,())with|none=>none|some r=>match r with
 |.inl (o0,o1,o2,_)=>some (o0,o1,o2,())
 |.inr r=>match r with
 |.inl (o3,o4,_)=>some (o3,o4,(-1:Int),())
 |.inr _=>none
def E8[Lk]:=fun v=>Lk.f (Dr v)
theorem Im v:E8 v=Dr v:=AJ _
abbrev FJ:AE:=[(.tmp 0,.dat U7),(.cap 1 0,.box 2),(.cell 0 0,.di),(.cell 0 1,.dat Uh),(.tmp 1,.clo 125 [(0,0)])]
abbrev FI:AE:=[(.obj 0,.box 2),(.cell 0 0,.di),(.cell 0 1,.dat Uh),(.tmp 0,.dat .bool)]
abbrev FH:List RS:=[.one]
def DE[Lk]:(List Int×Int×List U5×Unit)→Option ((Int×List U5×Bool×Unit)):=fun(a0,a1,a2,_)=>
 match E8 (a0,a1,a2,())with|none=>none|some (y0,y1,y2,_)=>some (y0,y1,(ile 0 y2),())
def C2[Lk]:=fun v=>Lk.f (DE v)
theorem H7 v:C2 v=DE v:=AJ _
abbrev AEd:AE:=[(.tmp 0,.dat V3),(.tmp 1,.dat U7)]
abbrev AEc:AE:=[(.tmp 0,.di)]
abbrev AEb:List RS:=[.one]
def R2[Lk]:(V4×List Int×Unit)→Option (Ua):=fun(a0,a1,_)=>
 match Th ((a0.1,(a0.2.1,())),())with|none=>none|some (y0,_)=>match(!y0)with
 |true=>some (1,())
 |false=>match C2 (a1,a0.1,a0.2.1,())with|none=>none|some (y1,y2,y3,_)=>match y3 with
 |true=>some (10,())
 |false=>some (0,())
def WS[Lk]:=fun v=>Lk.f (R2 v)
theorem AJ3 v:WS v=R2 v:=AJ _
abbrev AaU:AE:=[(.tmp 0,.dat Uq)]
abbrev AaT:AE:=[(.tmp 0,.own 3 U2)]
abbrev AaS:List RS:=[.one]
abbrev AdI:AE:=[(.tmp 3,.own 3 U2),(.tmp 6,.dat Uq),(.tmp 7,.di),(.tmp 8,.di)]
abbrev AdH:Ao:=[(.exit 0,[(.tmp 3,.own 3 U2)])]
def LP[Lk]:(List Int×List U1×Int×Int×Unit)→Option ((List Int×List U1×Int×Int×Unit)⊕Up⊕Unit):=fun(a0,a1,a2,a3,_)=>
 match(ilt a3 a2)with
 |true=>match idx a1 a3 with|none=>none|some x0=>match(fits ((AM a0)+(AM ([x0.1,x0.2.1]:List (Int)))))with
  |true=>some (.inl ((BP a0 ([x0.1,x0.2.1]:List (Int))),a1,a2,(IntKind.wrap .i64 (a3+1)),()))
  |false=>none
 |false=>some (.inr (.inl (a0,())))
def AOa[Lk]:Ui→Option (Up):=fun(a0,_)=>
 match AU LP many (([]:List (Int)),a0,(AM a0),0,())with|none=>none|some r=>match r with
 |.inl (o0,_)=>some (o0,())
 |.inr _=>none
def ends[Lk]:=fun v=>Lk.f (AOa v)
theorem AdJ v:ends v=AOa v:=AJ _
abbrev QR:AE:=[(.tmp 0,.dat V3),(.tmp 1,.dat Uq),(.tmp 2,.clo 87 [])]
abbrev QQ:AE:=[(.tmp 0,.dat V3),(.tmp 1,.own 4 .bool),(.tmp 2,.di)]
abbrev QP:List RS:=[.one,.one,.one]
abbrev Yn:AE:=[(.tmp 2,.clo 87 []),(.tmp 3,.box 2),(.cell 0 0,.di),(.cell 0 1,.dat Uh),(.tmp 6,.box 2),(.cell 1 0,.di),(.cell 1 1,.nil U7),(.tmp 10,.own 4 .bool),(.tmp 23,.dat Uq),(.tmp 24,.di),(.tmp 25,.di)]
abbrev Ym:Ao:=[(.exit 0,[(.tmp 3,.box 2),(.cell 0 0,.di),(.cell 0 1,.dat Uh),(.tmp 6,.box 2),(.cell 1 0,.di),(.cell 1 1,.nil U7),(.tmp 10,.own 4 .bool)])]
def DX[Lk]:(Int×List U5×Int×List Bool×List U1×Int×Int×Unit)→Option ((Int×List U5×Int×List Bool×List U1×Int×Int×Unit)⊕(Int×List U5×Int×List Bool×Unit)⊕Unit):=fun(a0,a1,a2,a3,a4,a5,a6,_)=>
 match(ilt a6 a5)with
 |true=>match idx a4 a6 with|none=>none|some x0=>match AA9 ((a0,(a1,())),x0.1,x0.2.1,())with|none=>none|some (y1,y2,y3,_)=>match(fits ((AM a3)+(AM ([(ieq y3 0)]:List (Bool)))))with
  |true=>some (.inl (y1,y2,a2,(BP a3 ([(ieq y3 0)]:List (Bool))),a4,a5,(IntKind.wrap .i64 (a6+1)),()))
  |false=>none
 |false=>some (.inr (.inl (a0,a1,a2,a3,())))
def LR[Lk]:(V4×List U1×Unit)→Option ((V4×List Bool×Int×Unit)):=fun(a0,a1,_)=>
 match ends (a1,())with|none=>none|some (y0,_)=>match WS ((a0.1,(a0.2.1,())),y0,())with|none=>none|some (y1,_)=>match(!(ieq y1 0))with
 |true=>some ((a0.1,(a0.2.1,())),([]:List (Bool)),y1,())
 |false=>match AU DX many (a0.1,a0.2.1,0,([]:List (Bool)),a1,(AM a1),0,())with|none=>none|some r=>match r with
 |.inl (o2,o3,o4,o5,_)=>some ((o2,(o3,())),o5,0,())
 |.inr _=>none
def SC[Lk]:=fun v=>Lk.f (LR v)
theorem Yo v:SC v=LR v:=AJ _
abbrev AEq:AE:=[(.tmp 0,.dat V3),(.tmp 1,.dat Uq)]
abbrev AEp:AE:=[(.tmp 0,.dat V3),(.tmp 1,.own 4 .bool),(.tmp 2,.di)]
abbrev AEo:List RS:=[.one,.one,.one]
def R5[Lk]:(V4×List U1×Unit)→Option ((V4×List Bool×Int×Unit)):=fun(a0,a1,_)=>
 match SC ((a0.1,(a0.2.1,())),a1,())with|none=>none|some (y0,y1,y2,_)=>some ((y0.1,(y0.2.1,())),y1,y2,())
def AOO[Lk]:=fun v=>Lk.f (R5 v)
theorem AKA v:AOO v=R5 v:=AJ _
abbrev Alu:AE:=[(.tmp 0,.di),(.tmp 1,.dat Uq)]
abbrev Als:AE:=[(.tmp 0,.dat V3),(.tmp 1,.di)]
abbrev Alr:List RS:=[.one,.one]
def AdF[Lk]:(Int×List U1×Unit)→Option ((V4×Int×Unit)):=fun(a0,a1,_)=>
 match AQu (a0,())with|none=>none|some (y0,y1,y2,_)=>match(!(ieq y2 0))with
 |true=>some ((0,(([]:List U5),())),y2,())
 |false=>match AOO ((y0,(y1,())),a1,())with|none=>none|some (y3,y4,y5,_)=>match(!(ieq y5 0))with
 |true=>some ((0,(([]:List U5),())),y5,())
 |false=>some ((y3.1,(y3.2.1,())),0,())
def fof[Lk]:=fun v=>Lk.f (AdF v)
theorem Alv v:fof v=AdF v:=AJ _
abbrev Akh:AE:=[(.tmp 0,.dat U7)]
abbrev Akf:AE:=[(.tmp 0,.di)]
abbrev Akd:List RS:=[.one]
abbrev Akg:AE:=[(.tmp 3,.di),(.tmp 6,.dat U7),(.tmp 7,.di),(.tmp 8,.di)]
abbrev Ake:Ao:=[(.ret,[(.tmp 2,.di)]),(.exit 0,[(.tmp 3,.di)])]
def Fj[Lk]:(Int×List Int×Int×Int×Unit)→Option ((Int×List Int×Int×Int×Unit)⊕Ua⊕Ua⊕Unit):=fun(a0,a1,a2,a3,_)=>
 match(ilt a3 a2)with
 |true=>match idx a1 a3 with|none=>none|some x0=>match(!(ieq x0 a0))with
  |true=>some (.inr (.inl (x0,())))
  |false=>some (.inl (a0,a1,a2,(IntKind.wrap .i64 (a3+1)),()))
 |false=>some (.inr (.inr (.inl (a0,()))))
def AJg[Lk]:Up→Option (Ua):=fun(a0,_)=>
 match AU Fj many (0,a0,(AM a0),0,())with|none=>none|some r=>match r with
 |.inl (o0,_)=>some (o0,())
 |.inr r=>match r with
 |.inl (o1,_)=>some (o1,())
 |.inr _=>none
def orI[Lk]:=fun v=>Lk.f (AJg v)
theorem ANJ v:orI v=AJg v:=AJ _
abbrev AD4:AE:=[(.tmp 0,.di)]
abbrev AD3:AE:=[(.tmp 0,.dat .bool)]
abbrev AD2:List RS:=[.one]
def Mu[Lk]:Ua→Option (Ue):=fun(a0,_)=>
 match(ile 1 a0)with
 |true=>some ((ile a0 64),())
 |false=>some (false,())
def Vx[Lk]:=fun v=>Lk.f (Mu v)
theorem Vw v:Vx v=Mu v:=AJ _
abbrev AZQ:AE:=[(.tmp 0,.di)]
abbrev AZP:AE:=[(.tmp 0,.di)]
abbrev AZO:List RS:=[.one]
def AZR[Lk]:Ua→Option (Ua):=fun(a0,_)=>
 match Vx (a0,())with|none=>none|some (y0,_)=>match(!y0)with
 |true=>some (0,())
 |false=>match bitsLen ((IntKind.wrap .u64 (IntKind.wrap .i64 (a0-1))),())with|none=>none|some (y1,_)=>some (y1,())
def ANi[Lk]:=fun v=>Lk.f (AZR v)
theorem AoK v:ANi v=AZR v:=AJ _
abbrev P7:AE:=[(.tmp 0,.dat U3),(.tmp 1,.dat U3)]
abbrev P6:AE:=[(.tmp 0,.di)]
abbrev P5:List RS:=[.one]
def Ku[Lk]:(U4×U4×Unit)→Option (Ua):=fun(a0,a1,_)=>
 match Da (a0.1,a1.1,())with|none=>none|some (y0,_)=>match Da (a0.2.1,a1.2.1,())with|none=>none|some (y1,_)=>match orI (([y0,y1]:List (Int)),())with|none=>none|some (y2,_)=>some (y2,())
def J0[Lk]:=fun v=>Lk.f (Ku v)
theorem YX v:J0 v=Ku v:=AJ _
abbrev ADz:AE:=[(.tmp 0,.dat Us),(.tmp 1,.di)]
abbrev ADy:AE:=[(.tmp 0,.own 45 U0)]
abbrev ADx:List RS:=[.one]
abbrev AJn:AE:=[(.tmp 1,.di),(.tmp 5,.own 45 U0),(.tmp 9,.dat V8),(.tmp 10,.di),(.tmp 11,.di)]
abbrev AJm:Ao:=[(.exit 0,[(.tmp 5,.own 45 U0)])]
def Fl[Lk]:(Int×List U1×List U4×Int×Int×Unit)→Option ((Int×List U1×List U4×Int×Int×Unit)⊕Ui⊕Unit):=fun(a0,a1,a2,a3,a4,_)=>
 match(ilt a4 a3)with
 |true=>match idx a2 a4 with|none=>none|some x0=>match x0.2.2.2.1 with
  |true=>match(ile a0 x0.2.2.1)with
   |true=>match(fits ((AM a1)+(AM ([(x0.1,(x0.2.1,()))]:List U1))))with
    |true=>some (.inl (a0,(BP a1 ([(x0.1,(x0.2.1,()))]:List U1)),a2,a3,(IntKind.wrap .i64 (a4+1)),()))
    |false=>none
   |false=>some (.inl (a0,a1,a2,a3,(IntKind.wrap .i64 (a4+1)),()))
  |false=>some (.inl (a0,a1,a2,a3,(IntKind.wrap .i64 (a4+1)),()))
 |false=>some (.inr (.inl (a1,())))
def Ri[Lk]:(V5×Int×Unit)→Option (Ui):=fun(a0,a1,_)=>
 match AU Fl many (a1,([]:List U1),a0.2.1,(AM a0.2.1),0,())with|none=>none|some r=>match r with
 |.inl (o0,_)=>some (o0,())
 |.inr _=>none
def AD1[Lk]:=fun v=>Lk.f (Ri v)
theorem AJo v:AD1 v=Ri v:=AJ _
abbrev AD7:AE:=[(.tmp 0,.dat Us)]
abbrev AD6:AE:=[(.tmp 0,.dat .bool)]
abbrev AD5:List RS:=[.one]
abbrev AJq:AE:=[(.tmp 1,.box 2),(.cell 0 0,.di),(.cell 0 1,.dat V8),(.tmp 3,.di),(.tmp 23,.dat V8),(.tmp 24,.di),(.tmp 25,.di)]
abbrev AJp:Ao:=[(.ret,[(.tmp 2,.dat .bool)]),(.exit 0,[(.tmp 1,.box 2),(.cell 0 0,.di),(.cell 0 1,.dat V8)])]
def Dl[Lk]:(Int×List U4×Int×List U4×Int×Int×Unit)→Option ((Int×List U4×Int×List U4×Int×Int×Unit)⊕Ue⊕(Int×List U4×Unit)⊕Unit):=fun(a0,a1,a2,a3,a4,a5,_)=>
 match(ilt a5 a4)with
 |true=>match idx a3 a5 with|none=>none|some x0=>match(ilt x0.1 0)with
  |true=>some (.inr (.inl (false,())))
  |false=>match(ile x0.2.1 x0.1)with
  |true=>some (.inr (.inl (false,())))
  |false=>match(ile a0 x0.2.1)with
  |true=>some (.inr (.inl (false,())))
  |false=>match(ilt x0.2.2.1 0)with
  |true=>some (.inr (.inl (false,())))
  |false=>match(ilt a2 x0.2.2.1)with
  |true=>some (.inr (.inl (false,())))
  |false=>match(ilt 0 a5)with
  |true=>match idx a1 (IntKind.wrap .i64 (a5-1))with|none=>none|some x1=>match J0 ((x1.1,(x1.2.1,(x1.2.2.1,(x1.2.2.2.1,())))),(x0.1,(x0.2.1,(x0.2.2.1,(x0.2.2.2.1,())))),())with|none=>none|some (y2,_)=>match(ile 0 y2)with
   |true=>some (.inr (.inl (false,())))
   |false=>some (.inl (a0,a1,a2,a3,a4,(IntKind.wrap .i64 (a5+1)),()))
  |false=>some (.inl (a0,a1,a2,a3,a4,(IntKind.wrap .i64 (a5+1)),()))
 |false=>some (.inr (.inr (.inl (a0,a1,()))))
def Hr[Lk]:(V5×Unit)→Option (Ue):=fun(a0,_)=>
 match Vx (a0.1,())with|none=>none|some (y0,_)=>match(!y0)with
 |true=>some (false,())
 |false=>match(ilt 400 (AM a0.2.1))with
 |true=>some (false,())
 |false=>match ANi (a0.1,())with|none=>none|some (y1,_)=>match AU Dl many (a0.1,a0.2.1,y1,a0.2.1,(AM a0.2.1),0,())with|none=>none|some r=>match r with
 |.inl (o2,_)=>some (o2,())
 |.inr r=>match r with
 |.inl (o3,o4,_)=>match AD1 ((o3,(o4,())),0,())with|none=>none|some (y5,_)=>match fof (o3,y5,())with|none=>none|some (y6,y7,_)=>match(ieq y7 0)with
  |true=>some ((ieq (AM y6.2.1) (IntKind.wrap .i64 (o3-(AM y5)))),())
  |false=>some (false,())
 |.inr _=>none
def Fm[Lk]:=fun v=>Lk.f (Hr v)
theorem Jz v:Fm v=Hr v:=AJ _
abbrev AEE:AE:=[(.tmp 0,.dat Us)]
abbrev AED:AE:=[(.tmp 0,.own 45 U0)]
abbrev AEC:List RS:=[.one]
abbrev AJs:AE:=[(.tmp 3,.own 45 U0),(.tmp 10,.dat V8),(.tmp 11,.di),(.tmp 12,.di)]
abbrev AJr:Ao:=[(.exit 0,[(.tmp 3,.own 45 U0)])]
def Fp[Lk]:(List U1×List U4×Int×Int×Unit)→Option ((List U1×List U4×Int×Int×Unit)⊕Ui⊕Unit):=fun(a0,a1,a2,a3,_)=>
 match(ilt a3 a2)with
 |true=>match idx a1 a3 with|none=>none|some x0=>match(fits ((AM a0)+(AM ([(x0.1,(x0.2.1,()))]:List U1))))with
  |true=>some (.inl ((BP a0 ([(x0.1,(x0.2.1,()))]:List U1)),a1,a2,(IntKind.wrap .i64 (a3+1)),()))
  |false=>none
 |false=>some (.inr (.inl (a0,())))
def Rj[Lk]:(V5×Unit)→Option (Ui):=fun(a0,_)=>
 match Fm ((a0.1,(a0.2.1,())),())with|none=>none|some (y0,_)=>match(!y0)with
 |true=>some (([]:List U1),())
 |false=>match AU Fp many (([]:List U1),a0.2.1,(AM a0.2.1),0,())with|none=>none|some r=>match r with
 |.inl (o1,_)=>some (o1,())
 |.inr _=>none
def WB[Lk]:=fun v=>Lk.f (Rj v)
theorem AJt v:WB v=Rj v:=AJ _
abbrev NO:AE:=[(.tmp 0,.di),(.tmp 1,.dat Uq)]
abbrev NN:AE:=[(.tmp 0,.own 3 U2)]
abbrev NM:List RS:=[.one]
abbrev SY:AE:=[(.tmp 0,.di),(.tmp 1,.dat Uq),(.tmp 5,.own 3 U2),(.tmp 7,.dat .bool),(.tmp 8,.di)]
abbrev SV:Ao:=[(.exit 4,[(.tmp 0,.di),(.tmp 1,.dat Uq),(.tmp 5,.own 3 U2),(.tmp 7,.dat .bool)])]
def Cy[Lk]:(Int×List U1×List Int×Bool×Int×Unit)→Option ((Int×List U1×List Int×Bool×Int×Unit)⊕(Int×List U1×List Int×Bool×Unit)⊕Unit):=fun(a0,a1,a2,a3,a4,_)=>
 match(ilt a4 (AM a1))with
 |true=>match idx a1 a4 with|none=>none|some x0=>match idx a1 a4 with|none=>none|some x1=>match(ilt x0.1 0)with
  |true=>some (.inl (a0,a1,a2,a3,(IntKind.wrap .i64 (a4+1)),()))
  |false=>match(ilt x1.2.1 0)with
  |true=>some (.inl (a0,a1,a2,a3,(IntKind.wrap .i64 (a4+1)),()))
  |false=>match(ile a0 x0.1)with
  |true=>some (.inl (a0,a1,a2,a3,(IntKind.wrap .i64 (a4+1)),()))
  |false=>match(ile a0 x1.2.1)with
  |true=>some (.inl (a0,a1,a2,a3,(IntKind.wrap .i64 (a4+1)),()))
  |false=>match idx a2 x0.1 with|none=>none|some x2=>match idx a2 x1.2.1 with|none=>none|some x3=>match(ieq (AY a2 (AO x0.1) 0) (AY a2 (AO x1.2.1) 0))with
  |true=>some (.inl (a0,a1,a2,a3,(IntKind.wrap .i64 (a4+1)),()))
  |false=>match idx a2 x0.1 with|none=>none|some x4=>match idx a2 x1.2.1 with|none=>none|some x5=>match idx a2 x0.1 with|none=>none|some x6=>match idx (Az a2 (AO x0.1) (B6 (AY a2 (AO x0.1) 0) (AY a2 (AO x1.2.1) 0))) x1.2.1 with|none=>none|some x7=>some (.inl (a0,a1,(Az (Az a2 (AO x0.1) (B6 (AY a2 (AO x0.1) 0) (AY a2 (AO x1.2.1) 0))) (AO x1.2.1) (B6 (AY a2 (AO x0.1) 0) (AY a2 (AO x1.2.1) 0))),true,(IntKind.wrap .i64 (a4+1)),()))
 |false=>some (.inr (.inl (a0,a1,a2,a3,())))
abbrev SZ:AE:=[(.tmp 0,.di),(.tmp 1,.dat Uq),(.tmp 5,.own 3 U2),(.tmp 7,.dat .bool)]
abbrev SW:Ao:=[(.exit 2,[(.tmp 5,.own 3 U2)])]
def Ds[Lk]:(Int×List U1×List Int×Bool×Unit)→Option ((Int×List U1×List Int×Bool×Unit)⊕Up⊕Unit):=fun(a0,a1,a2,a3,_)=>
 match a3 with
 |true=>match AU Cy many (a0,a1,a2,false,0,())with|none=>none|some r=>match r with
  |.inl (o0,o1,o2,o3,_)=>some (.inl (o0,o1,o2,o3,()))
  |.inr _=>none
 |false=>some (.inr (.inl (a2,())))
abbrev Sa:AE:=[(.tmp 0,.di),(.tmp 1,.dat Uq),(.tmp 5,.own 3 U2),(.tmp 6,.di)]
abbrev SX:Ao:=[(.exit 0,[(.tmp 0,.di),(.tmp 1,.dat Uq),(.tmp 5,.own 3 U2)])]
def Cz[Lk]:(Int×List U1×List Int×Int×Unit)→Option ((Int×List U1×List Int×Int×Unit)⊕(Int×List U1×List Int×Unit)⊕Unit):=fun(a0,a1,a2,a3,_)=>
 match(ilt a3 a0)with
 |true=>match(fits ((AM a2)+(AM ([a3]:List (Int)))))with
  |true=>some (.inl (a0,a1,(BP a2 ([a3]:List (Int))),(IntKind.wrap .i64 (a3+1)),()))
  |false=>none
 |false=>some (.inr (.inl (a0,a1,a2,())))
def Ix[Lk]:(Int×List U1×Unit)→Option (Up):=fun(a0,a1,_)=>
 match AU Cz many (a0,a1,([]:List (Int)),0,())with|none=>none|some r=>match r with
 |.inl (o0,o1,o2,_)=>match AU Ds many (o0,o1,o2,true,())with|none=>none|some r=>match r with
  |.inl (o3,_)=>some (o3,())
  |.inr _=>none
 |.inr _=>none
def HW[Lk]:=fun v=>Lk.f (Ix v)
theorem Sb v:HW v=Ix v:=AJ _
abbrev ALZ:AE:=[(.tmp 0,.di)]
abbrev ALY:AE:=[(.tmp 0,.di)]
abbrev ALX:List RS:=[.one]
abbrev AQp:AE:=[(.tmp 3,.di),(.tmp 4,.di)]
abbrev AQo:Ao:=[(.exit 0,[(.tmp 3,.di)])]
def AA7[Lk]:U1→Option (U1⊕Ua⊕Unit):=fun(a0,a1,_)=>
 match(ilt 0 a1)with
 |true=>match quo? .i64 a1 2 with|none=>none|some x0=>some (.inl ((IntKind.wrap .i64 (a0+1)),x0,()))
 |false=>some (.inr (.inl (a0,())))
def ALb[Lk]:Ua→Option (Ua):=fun(a0,_)=>
 match(ilt a0 1)with
 |true=>some (0,())
 |false=>match(ilt 64 a0)with
 |true=>some (0,())
 |false=>match AU AA7 many (0,(IntKind.wrap .i64 (a0-1)),())with|none=>none|some r=>match r with
 |.inl (o0,_)=>some (o0,())
 |.inr _=>none
def Ot[Lk]:=fun v=>Lk.f (ALb v)
theorem AiX v:Ot v=ALb v:=AJ _
abbrev UW:AE:=[(.tmp 0,.dat Us)]
abbrev UU:AE:=[(.tmp 0,.dat .bool)]
abbrev UT:List RS:=[.one]
abbrev ACL:AE:=[(.tmp 1,.box 2),(.cell 0 0,.di),(.cell 0 1,.dat V8),(.tmp 3,.own 45 U0),(.tmp 6,.own 3 U2),(.tmp 7,.di),(.tmp 8,.di)]
abbrev ACJ:Ao:=[(.exit 2,[(.tmp 1,.box 2),(.cell 0 0,.di),(.cell 0 1,.dat V8),(.tmp 3,.own 45 U0),(.tmp 7,.di)])]
def DP[Lk]:(Int×List U4×List U1×List Int×Int×Int×Unit)→Option ((Int×List U4×List U1×List Int×Int×Int×Unit)⊕Vf⊕Unit):=fun(a0,a1,a2,a3,a4,a5,_)=>
 match(ilt a5 a0)with
 |true=>match idx a3 a5 with|none=>none|some x0=>match(ieq (AY a3 (AO a5) 0) a5)with
  |true=>some (.inl (a0,a1,a2,a3,(IntKind.wrap .i64 (a4+1)),(IntKind.wrap .i64 (a5+1)),()))
  |false=>some (.inl (a0,a1,a2,a3,a4,(IntKind.wrap .i64 (a5+1)),()))
 |false=>some (.inr (.inl (a0,a1,a2,a4,())))
abbrev ACN:AE:=[(.tmp 1,.box 2),(.cell 0 0,.di),(.cell 0 1,.dat V8),(.tmp 3,.own 45 U0),(.tmp 4,.di)]
abbrev ACK:Ao:=[(.ret,[(.tmp 2,.dat .bool)]),(.exit 0,[(.tmp 1,.box 2),(.cell 0 0,.di),(.cell 0 1,.dat V8),(.tmp 3,.own 45 U0)])]
def Cs[Lk]:Vf→Option (Vf⊕Ue⊕(Int×List U4×List U1×Unit)⊕Unit):=fun(a0,a1,a2,a3,_)=>
 match(ilt a3 (AM a1))with
 |true=>match idx a1 a3 with|none=>none|some x0=>match(ilt x0.1 0)with
  |true=>some (.inr (.inl (false,())))
  |false=>match(ile x0.2.1 x0.1)with
  |true=>some (.inr (.inl (false,())))
  |false=>match(ile a0 x0.2.1)with
  |true=>some (.inr (.inl (false,())))
  |false=>match(ilt x0.2.2.1 0)with
  |true=>some (.inr (.inl (false,())))
  |false=>match Ot (a0,())with|none=>none|some (y1,_)=>match(ilt y1 x0.2.2.1)with
  |true=>some (.inr (.inl (false,())))
  |false=>match(ilt 0 a3)with
  |true=>match idx a1 (IntKind.wrap .i64 (a3-1))with|none=>none|some x2=>match(ilt x0.1 x2.1)with
   |true=>some (.inr (.inl (false,())))
   |false=>match idx a1 (IntKind.wrap .i64 (a3-1))with|none=>none|some x3=>match(ieq x3.1 x0.1)with
   |true=>match idx a1 (IntKind.wrap .i64 (a3-1))with|none=>none|some x4=>match(ile x0.2.1 x4.2.1)with
    |true=>some (.inr (.inl (false,())))
    |false=>match x0.2.2.2.1 with
    |true=>match(fits ((AM a2)+(AM ([(x0.1,(x0.2.1,()))]:List U1))))with
     |true=>some (.inl (a0,a1,(BP a2 ([(x0.1,(x0.2.1,()))]:List U1)),(IntKind.wrap .i64 (a3+1)),()))
     |false=>none
    |false=>some (.inl (a0,a1,a2,(IntKind.wrap .i64 (a3+1)),()))
   |false=>match x0.2.2.2.1 with
   |true=>match(fits ((AM a2)+(AM ([(x0.1,(x0.2.1,()))]:List U1))))with
    |true=>some (.inl (a0,a1,(BP a2 ([(x0.1,(x0.2.1,()))]:List U1)),(IntKind.wrap .i64 (a3+1)),()))
    |false=>none
   |false=>some (.inl (a0,a1,a2,(IntKind.wrap .i64 (a3+1)),()))
  |false=>match x0.2.2.2.1 with
  |true=>match(fits ((AM a2)+(AM ([(x0.1,(x0.2.1,()))]:List U1))))with
   |true=>some (.inl (a0,a1,(BP a2 ([(x0.1,(x0.2.1,()))]:List U1)),(IntKind.wrap .i64 (a3+1)),()))
   |false=>none
  |false=>some (.inl (a0,a1,a2,(IntKind.wrap .i64 (a3+1)),()))
 |false=>some (.inr (.inr (.inl (a0,a1,a2,()))))
def Ej[Lk]:(V5×Unit)→Option (Ue):=fun(a0,_)=>
 match(ilt a0.1 1)with
 |true=>some (false,())
 |false=>match(ilt 64 a0.1)with
 |true=>some (false,())
 |false=>match(ilt 400 (AM a0.2.1))with
 |true=>some (false,())
 |false=>match AU Cs many (a0.1,a0.2.1,([]:List U1),0,())with|none=>none|some r=>match r with
 |.inl (o0,_)=>some (o0,())
 |.inr r=>match r with
 |.inl (o1,o2,o3,_)=>match HW (o1,o3,())with|none=>none|some (y4,_)=>match AU DP many (o1,o2,o3,y4,0,0,())with|none=>none|some r=>match r with
  |.inl (o5,o6,o7,o8,_)=>some ((ieq o8 (IntKind.wrap .i64 (o5-(AM o7)))),())
  |.inr _=>none
 |.inr _=>none
def Dh[Lk]:=fun v=>Lk.f (Ej v)
theorem Fc v:Dh v=Ej v:=AJ _
abbrev Wa:AE:=[(.tmp 0,.dat Us)]
abbrev WZ:AE:=[(.tmp 0,.own 45 U0)]
abbrev WY:List RS:=[.one]
abbrev AE8:AE:=[(.tmp 1,.box 2),(.cell 0 0,.di),(.cell 0 1,.dat V8),(.tmp 3,.own 45 U0),(.tmp 4,.di)]
abbrev AE7:Ao:=[(.exit 0,[(.tmp 3,.own 45 U0)])]
def EW[Lk]:Vf→Option (Vf⊕Ui⊕Unit):=fun(a0,a1,a2,a3,_)=>
 match(ilt a3 (AM a1))with
 |true=>match idx a1 a3 with|none=>none|some x0=>match idx a1 a3 with|none=>none|some x1=>match(fits ((AM a2)+(AM ([(x0.1,(x1.2.1,()))]:List U1))))with
  |true=>some (.inl (a0,a1,(BP a2 ([(x0.1,(x1.2.1,()))]:List U1)),(IntKind.wrap .i64 (a3+1)),()))
  |false=>none
 |false=>some (.inr (.inl (a2,())))
def OJ[Lk]:(V5×Unit)→Option (Ui):=fun(a0,_)=>
 match Dh ((a0.1,(a0.2.1,())),())with|none=>none|some (y0,_)=>match(!y0)with
 |true=>some (([]:List U1),())
 |false=>match AU EW many (a0.1,a0.2.1,([]:List U1),0,())with|none=>none|some r=>match r with
 |.inl (o1,_)=>some (o1,())
 |.inr _=>none
def SB[Lk]:=fun v=>Lk.f (OJ v)
theorem AE9 v:SB v=OJ v:=AJ _
abbrev ABn:AE:=[(.tmp 0,.dat Uq),(.tmp 1,.dat Uq)]
abbrev ABm:AE:=[(.tmp 0,.dat .bool)]
abbrev ABl:List RS:=[.one]
abbrev AJC:AE:=[(.tmp 0,.dat Uq),(.tmp 1,.dat Uq),(.tmp 5,.di)]
abbrev AJB:Ao:=[(.ret,[(.tmp 4,.dat .bool)]),(.exit 0,[])]
def Fa[Lk]:(List U1×List U1×Int×Unit)→Option ((List U1×List U1×Int×Unit)⊕Ue⊕(Unit)⊕Unit):=fun(a0,a1,a2,_)=>
 match(ilt a2 (AM a0))with
 |true=>match idx a0 a2 with|none=>none|some x0=>match idx a1 a2 with|none=>none|some x1=>match(!(ieq x0.1 x1.1&&(ieq x0.2.1 x1.2.1&&true)))with
  |true=>some (.inr (.inl (false,())))
  |false=>some (.inl (a0,a1,(IntKind.wrap .i64 (a2+1)),()))
 |false=>some (.inr (.inr (.inl ())))
def RI[Lk]:(List U1×List U1×Unit)→Option (Ue):=fun(a0,a1,_)=>
 match(!(ieq (AM a0) (AM a1)))with
 |true=>some (false,())
 |false=>match AU Fa many (a0,a1,0,())with|none=>none|some r=>match r with
 |.inl (o0,_)=>some (o0,())
 |.inr r=>match r with
 |.inl _=>some (true,())
 |.inr _=>none
def UH[Lk]:=fun v=>Lk.f (RI v)
theorem AJD v:UH v=RI v:=AJ _
abbrev AOB:AE:=[(.tmp 0,.dat Uq),(.tmp 1,.dat U0)]
abbrev AOA:AE:=[(.tmp 0,.dat .bool)]
abbrev AN9:List RS:=[.one]
abbrev AUJ:AE:=[(.tmp 0,.dat Uq),(.tmp 3,.box 2),(.cell 0 0,.di),(.cell 0 1,.di),(.tmp 5,.di)]
abbrev AUI:Ao:=[(.ret,[(.tmp 4,.dat .bool)]),(.exit 0,[])]
def Hz[Lk]:U8→Option (U8⊕Ue⊕(Unit)⊕Unit):=fun(a0,a1,a2,a3,_)=>
 match(ilt a3 (AM a0))with
 |true=>match idx a0 a3 with|none=>none|some x0=>match(ieq x0.1 a1&&(ieq x0.2.1 a2&&true))with
  |true=>some (.inr (.inl (true,())))
  |false=>some (.inl (a0,a1,a2,(IntKind.wrap .i64 (a3+1)),()))
 |false=>some (.inr (.inr (.inl ())))
def AAC[Lk]:(List U1×U1×Unit)→Option (Ue):=fun(a0,a1,_)=>
 match AU Hz many (a0,a1.1,a1.2.1,0,())with|none=>none|some r=>match r with
 |.inl (o0,_)=>some (o0,())
 |.inr r=>match r with
 |.inl _=>some (false,())
 |.inr _=>none
def AEX[Lk]:=fun v=>Lk.f (AAC v)
theorem AUK v:AEX v=AAC v:=AJ _
abbrev XE:AE:=[(.tmp 0,.dat Us),(.tmp 1,.dat Uq)]
abbrev XD:AE:=[(.tmp 0,.di)]
abbrev XC:List RS:=[.one]
abbrev AGO:AE:=[(.tmp 1,.dat Uq),(.tmp 2,.box 2),(.cell 0 0,.di),(.cell 0 1,.dat V8),(.tmp 5,.di)]
abbrev AGN:Ao:=[(.ret,[(.tmp 4,.di)]),(.exit 0,[])]
def Ef[Lk]:(List U1×Int×List U4×Int×Unit)→Option ((List U1×Int×List U4×Int×Unit)⊕Ua⊕(Unit)⊕Unit):=fun(a0,a1,a2,a3,_)=>
 match(ilt a3 (AM a0))with
 |true=>match idx a0 a3 with|none=>none|some x0=>match(ilt x0.1 0)with
  |true=>some (.inr (.inl (10,())))
  |false=>match idx a0 a3 with|none=>none|some x1=>match(ile a1 x1.1)with
  |true=>some (.inr (.inl (10,())))
  |false=>match idx a0 a3 with|none=>none|some x2=>match(ilt x2.2.1 0)with
  |true=>some (.inr (.inl (10,())))
  |false=>match idx a0 a3 with|none=>none|some x3=>match(ile a1 x3.2.1)with
  |true=>some (.inr (.inl (10,())))
  |false=>some (.inl (a0,a1,a2,(IntKind.wrap .i64 (a3+1)),()))
 |false=>some (.inr (.inr (.inl ())))
def OU[Lk]:(V5×List U1×Unit)→Option (Ua):=fun(a0,a1,_)=>
 match Dh ((a0.1,(a0.2.1,())),())with|none=>none|some (y0,_)=>match(!y0)with
 |true=>some (1,())
 |false=>match AU Ef many (a1,a0.1,a0.2.1,0,())with|none=>none|some r=>match r with
 |.inl (o1,_)=>some (o1,())
 |.inr r=>match r with
 |.inl _=>some (0,())
 |.inr _=>none
def Si[Lk]:=fun v=>Lk.f (OU v)
theorem AGP v:Si v=OU v:=AJ _
abbrev VD:AE:=[(.tmp 0,.di),(.tmp 1,.dat Uq)]
abbrev VC:AE:=[(.tmp 0,.own 45 U0)]
abbrev VB:List RS:=[.one]
abbrev ACq:AE:=[(.tmp 0,.di),(.tmp 1,.dat Uq),(.tmp 5,.own 45 U0),(.tmp 6,.di),(.tmp 7,.di)]
abbrev ACo:Ao:=[(.exit 2,[(.tmp 0,.di),(.tmp 1,.dat Uq),(.tmp 5,.own 45 U0),(.tmp 6,.di)])]
def DQ[Lk]:(Int×List U1×List U1×Int×Int×Unit)→Option ((Int×List U1×List U1×Int×Int×Unit)⊕(Int×List U1×List U1×Int×Unit)⊕Unit):=fun(a0,a1,a2,a3,a4,_)=>
 match(ilt a4 a0)with
 |true=>match AEX (a1,(a3,(a4,())),())with|none=>none|some (y0,_)=>match y0 with
  |true=>match(fits ((AM a2)+(AM ([(a3,(a4,()))]:List U1))))with
   |true=>some (.inl (a0,a1,(BP a2 ([(a3,(a4,()))]:List U1)),a3,(IntKind.wrap .i64 (a4+1)),()))
   |false=>none
  |false=>match AEX (a1,(a4,(a3,())),())with|none=>none|some (y1,_)=>match y1 with
  |true=>match(fits ((AM a2)+(AM ([(a3,(a4,()))]:List U1))))with
   |true=>some (.inl (a0,a1,(BP a2 ([(a3,(a4,()))]:List U1)),a3,(IntKind.wrap .i64 (a4+1)),()))
   |false=>none
  |false=>some (.inl (a0,a1,a2,a3,(IntKind.wrap .i64 (a4+1)),()))
 |false=>some (.inr (.inl (a0,a1,a2,a3,())))
abbrev ACr:AE:=[(.tmp 0,.di),(.tmp 1,.dat Uq),(.tmp 5,.own 45 U0),(.tmp 6,.di)]
abbrev ACp:Ao:=[(.exit 0,[(.tmp 5,.own 45 U0)])]
def EU[Lk]:(Int×List U1×List U1×Int×Unit)→Option ((Int×List U1×List U1×Int×Unit)⊕Ui⊕Unit):=fun(a0,a1,a2,a3,_)=>
 match(ilt a3 a0)with
 |true=>match AU DQ many (a0,a1,a2,a3,(IntKind.wrap .i64 (a3+1)),())with|none=>none|some r=>match r with
  |.inl (o0,o1,o2,o3,_)=>some (.inl (o0,o1,o2,(IntKind.wrap .i64 (o3+1)),()))
  |.inr _=>none
 |false=>some (.inr (.inl (a2,())))
def N7[Lk]:(Int×List U1×Unit)→Option (Ui):=fun(a0,a1,_)=>
 match AU EU many (a0,a1,([]:List U1),0,())with|none=>none|some r=>match r with
 |.inl (o0,_)=>some (o0,())
 |.inr _=>none
def RZ[Lk]:=fun v=>Lk.f (N7 v)
theorem ACs v:RZ v=N7 v:=AJ _
abbrev ANT:AE:=[(.tmp 0,.dat Us),(.tmp 1,.dat Uq)]
abbrev ANS:AE:=[(.tmp 0,.own 45 U0),(.tmp 1,.di)]
abbrev ANR:List RS:=[.one,.one]
abbrev ATb:AE:=[(.tmp 7,.own 45 U0),(.tmp 8,.own 45 U0),(.tmp 9,.own 45 U0),(.tmp 10,.di)]
abbrev ATa:Ao:=[(.exit 0,[(.tmp 9,.own 45 U0)])]
def Hq[Lk]:(List U1×List U1×List U1×Int×Unit)→Option ((List U1×List U1×List U1×Int×Unit)⊕Ui⊕Unit):=fun(a0,a1,a2,a3,_)=>
 match(ilt a3 (AM a1))with
 |true=>match idx a1 a3 with|none=>none|some x0=>match AEX (a0,((AY a1 (AO a3) (0,(0,()))).1,((AY a1 (AO a3) (0,(0,()))).2.1,())),())with|none=>none|some (y1,_)=>match(!y1)with
  |true=>match idx a1 a3 with|none=>none|some x2=>match(fits ((AM a2)+(AM ([((AY a1 (AO a3) (0,(0,()))).1,((AY a1 (AO a3) (0,(0,()))).2.1,()))]:List U1))))with
   |true=>some (.inl (a0,a1,(BP a2 ([((AY a1 (AO a3) (0,(0,()))).1,((AY a1 (AO a3) (0,(0,()))).2.1,()))]:List U1)),(IntKind.wrap .i64 (a3+1)),()))
   |false=>none
  |false=>some (.inl (a0,a1,a2,(IntKind.wrap .i64 (a3+1)),()))
 |false=>some (.inr (.inl (a2,())))
def Z6[Lk]:(V5×List U1×Unit)→Option ((List U1×Int×Unit)):=fun(a0,a1,_)=>
 match Si ((a0.1,(a0.2.1,())),a1,())with|none=>none|some (y0,_)=>match(!(ieq y0 0))with
 |true=>some (([]:List U1),y0,())
 |false=>match SB ((a0.1,(a0.2.1,())),())with|none=>none|some (y1,_)=>match RZ (a0.1,a1,())with|none=>none|some (y2,_)=>match AU Hq many (y1,y2,([]:List U1),0,())with|none=>none|some r=>match r with
 |.inl (o3,_)=>some (o3,0,())
 |.inr _=>none
def ATd[Lk]:=fun v=>Lk.f (Z6 v)
theorem ATc v:ATd v=Z6 v:=AJ _
abbrev K9:AE:=[(.tmp 0,.own 45 U0),(.cap 1 0,.box 1),(.cell 1 0,.map U0 U2),(.tmp 1,.clo 62 [(1,0)])]
abbrev K8:AE:=[(.obj 0,.own 45 U0),(.obj 1,.box 1),(.cell 1 0,.map U0 U2),(.obj 2,.map' 2),(.tmp 0,.di)]
abbrev K7:List RS:=[.one]
abbrev O8:AE:=[(.obj 0,.own 45 U0),(.obj 1,.box 1),(.cell 1 0,.map U0 U2),(.obj 2,.map' 2),(.tmp 0,.own' 0),(.tmp 1,.clo 62 [(1,0)]),(.tmp 7,.di),(.tmp 8,.di)]
abbrev O7:Ao:=[(.ret,[(.obj 0,.own 45 U0),(.obj 1,.box 1),(.cell 1 0,.map U0 U2),(.obj 2,.map' 2),(.tmp 4,.di)]),(.exit 0,[(.obj 0,.own 45 U0),(.obj 1,.box 1),(.cell 1 0,.map U0 U2),(.obj 2,.map' 2)])]
def CA[Lk]:Vl→Option (Vl⊕(List U1×List Vb×Int×Unit)⊕(List U1×List Vb×Unit)⊕Unit):=fun(a0,a1,a2,a3,_)=>
 match(ilt a3 a2)with
 |true=>match idx a0 a3 with|none=>none|some x0=>match(ieq ((AS a1 ((AY a0 (AO a3) (0,(0,()))).1,((AY a0 (AO a3) (0,(0,()))).2.1,()))).getD 0) 0)with
  |true=>some (.inr (.inl (a0,a1,a3,())))
  |false=>some (.inl (a0,a1,a2,(IntKind.wrap .i64 (a3+1)),()))
 |false=>some (.inr (.inr (.inl (a0,a1,()))))
def HF[Lk]:(List U1×List Vb×Unit)→Option ((List U1×List Vb×Int×Unit)):=fun(a0,a1,_)=>
 match AU CA many (a0,a1,(AM a0),0,())with|none=>none|some r=>match r with
 |.inl (o0,o1,o2,_)=>some (o0,o1,o2,())
 |.inr r=>match r with
 |.inl (o3,o4,_)=>some (o3,o4,(-1:Int),())
 |.inr _=>none
def LB[Lk]:=fun v=>Lk.f (HF v)
theorem O9 v:LB v=HF v:=AJ _
abbrev LV:AE:=[(.tmp 0,.own 45 U0),(.cap 1 0,.box 1),(.cell 1 0,.map U0 U2),(.tmp 1,.clo 62 [(1,0)])]
abbrev LU:AE:=[(.obj 0,.own 45 U0),(.obj 1,.box 1),(.cell 1 0,.map U0 U2),(.obj 2,.map' 2),(.tmp 0,.win' 0)]
abbrev LS:List RS:=[.one]
abbrev PH:AE:=[(.obj 0,.own 45 U0),(.obj 1,.box 1),(.cell 1 0,.map U0 U2),(.obj 2,.map' 2),(.tmp 0,.own' 0),(.tmp 1,.clo 62 [(1,0)]),(.tmp 5,.di),(.tmp 6,.di)]
abbrev PG:Ao:=[(.exit 0,[(.obj 0,.own 45 U0),(.obj 1,.box 1),(.cell 1 0,.map U0 U2),(.obj 2,.map' 2),(.tmp 0,.own' 0),(.tmp 5,.di)])]
def C7[Lk]:Vl→Option (Vl⊕(List U1×List Vb×Int×Unit)⊕Unit):=fun(a0,a1,a2,a3,_)=>
 match(ilt a3 (AM a0))with
 |true=>match idx a0 a3 with|none=>none|some x0=>match(!(ieq ((AS a1 ((AY a0 (AO a3) (0,(0,()))).1,((AY a0 (AO a3) (0,(0,()))).2.1,()))).getD 0) 0))with
  |true=>match idx a0 a2 with|none=>none|some x1=>some (.inl ((Az a0 (AO a2) ((AY a0 (AO a3) (0,(0,()))).1,((AY a0 (AO a3) (0,(0,()))).2.1,()))),a1,(IntKind.wrap .i64 (a2+1)),(IntKind.wrap .i64 (a3+1)),()))
  |false=>some (.inl (a0,a1,a2,(IntKind.wrap .i64 (a3+1)),()))
 |false=>some (.inr (.inl (a0,a1,a2,())))
def HJ[Lk]:(List U1×List Vb×Unit)→Option ((List U1×List Vb×Int×Unit)):=fun(a0,a1,_)=>
 match LB (a0,a1,())with|none=>none|some (y0,y1,y2,_)=>match(ieq y2 (-1:Int))with
 |true=>some (y0,y1,(AM y0),())
 |false=>match AU C7 many (y0,y1,y2,(IntKind.wrap .i64 (y2+1)),())with|none=>none|some r=>match r with
 |.inl (o3,o4,o5,_)=>match EK o3 o5 (AM o3)with|none=>none|some x6=>match EK (Bs (AO o5) (AO (AM x6)) (0,(0,())) o3) 0 o5 with|none=>none|some x7=>some ((Bs (AO o5) (AO (AM x6)) (0,(0,())) o3),o4,(((AO (AM x7)):Nat):Int),())
 |.inr _=>none
def H6[Lk]:=fun v=>Lk.f (HJ v)
theorem PI v:H6 v=HJ v:=AJ _
abbrev AMu:AE:=[(.tmp 0,.dat Us),(.tmp 1,.dat Uq)]
abbrev AMt:AE:=[(.tmp 0,.own 45 U0),(.tmp 1,.di)]
abbrev AMs:List RS:=[.one,.one]
abbrev ASK:AE:=[(.tmp 2,.box 2),(.cell 0 0,.di),(.cell 0 1,.dat V8),(.tmp 6,.box 1),(.cell 1 0,.map U0 U2),(.tmp 13,.dat Uq),(.tmp 14,.di),(.tmp 15,.di)]
abbrev ASJ:Ao:=[(.ret,[(.tmp 4,.nil U0),(.tmp 5,.di)]),(.exit 0,[(.tmp 2,.box 2),(.cell 0 0,.di),(.cell 0 1,.dat V8),(.tmp 6,.box 1),(.cell 1 0,.map U0 U2)])]
def D5[Lk]:(Int×List U4×List Vb×List U1×Int×Int×Unit)→Option ((Int×List U4×List Vb×List U1×Int×Int×Unit)⊕Ua⊕(Int×List U4×List Vb×Unit)⊕Unit):=fun(a0,a1,a2,a3,a4,a5,_)=>
 match(ilt a5 a4)with
 |true=>match idx a3 a5 with|none=>none|some x0=>match(ilt (B6 x0.1 x0.2.1) 0)with
  |true=>some (.inr (.inl (10,())))
  |false=>match(ile a0 (imax x0.1 x0.2.1))with
  |true=>some (.inr (.inl (10,())))
  |false=>match(ile 0 (ZT a2 ((B6 x0.1 x0.2.1),((imax x0.1 x0.2.1),())))&&ilt (ZT a2 ((B6 x0.1 x0.2.1),((imax x0.1 x0.2.1),()))) (AM (Ad a2 ((B6 x0.1 x0.2.1),((imax x0.1 x0.2.1),())) ((AS a2 ((B6 x0.1 x0.2.1),((imax x0.1 x0.2.1),()))).getD 0))))with
  |true=>some (.inl (a0,a1,(Afh (Ad a2 ((B6 x0.1 x0.2.1),((imax x0.1 x0.2.1),())) ((AS a2 ((B6 x0.1 x0.2.1),((imax x0.1 x0.2.1),()))).getD 0)) (ZT a2 ((B6 x0.1 x0.2.1),((imax x0.1 x0.2.1),()))) (IntKind.wrap .i64 (((AS a2 ((B6 x0.1 x0.2.1),((imax x0.1 x0.2.1),()))).getD 0)+1))),a3,a4,(IntKind.wrap .i64 (a5+1)),()))
  |false=>none
 |false=>some (.inr (.inr (.inl (a0,a1,a2,()))))
def Z4[Lk]:(V5×List U1×Unit)→Option ((List U1×Int×Unit)):=fun(a0,a1,_)=>
 match Fm ((a0.1,(a0.2.1,())),())with|none=>none|some (y0,_)=>match(!y0)with
 |true=>some (([]:List U1),1,())
 |false=>match AU D5 many (a0.1,a0.2.1,([]:List Vb),a1,(AM a1),0,())with|none=>none|some r=>match r with
 |.inl (o1,_)=>some (([]:List U1),o1,())
 |.inr r=>match r with
 |.inl (o2,o3,o4,_)=>match WB ((o2,(o3,())),())with|none=>none|some (y5,_)=>match H6 (y5,o4,())with|none=>none|some (y6,y7,y8,_)=>some ((Bv (AO y8) y6),0,())
 |.inr _=>none
def ASM[Lk]:=fun v=>Lk.f (Z4 v)
theorem ASL v:ASM v=Z4 v:=AJ _
abbrev QI:AE:=[(.tmp 0,.dat U0),(.tmp 1,.dat U0)]
abbrev QH:AE:=[(.tmp 0,.di)]
abbrev QG:List RS:=[.one]
def LK[Lk]:(U1×U1×Unit)→Option (Ua):=fun(a0,a1,_)=>
 match Da (a0.1,a1.1,())with|none=>none|some (y0,_)=>match Da (a0.2.1,a1.2.1,())with|none=>none|some (y1,_)=>match orI (([y0,y1]:List (Int)),())with|none=>none|some (y2,_)=>some (y2,())
def Ak[Lk]:=fun v=>Lk.f (LK v)
theorem Yc v:Ak v=LK v:=AJ _
abbrev AZn:AE:=[(.tmp 0,.own 45 U0),(.tmp 1,.di),(.tmp 2,.di),(.tmp 3,.clo 64 [])]
abbrev AZm:AE:=[(.obj 0,.own 45 U0)]
abbrev AZl:List RS:=[]
abbrev Acy:AE:=[(.obj 0,.own 45 U0),(.tmp 0,.own' 0),(.tmp 1,.di),(.tmp 2,.di),(.tmp 3,.clo 64 []),(.tmp 8,.di),(.tmp 9,.di)]
abbrev Acw:Ao:=[(.exit 2,[(.obj 0,.own 45 U0),(.tmp 0,.own' 0),(.tmp 1,.di),(.tmp 2,.di),(.tmp 3,.clo 64 []),(.tmp 8,.di)])]
def Acu[Lk]:Un→Option (Un⊕U8⊕Unit):=OE ((0,(0,())):U1) Ak
abbrev Acz:AE:=[(.obj 0,.own 45 U0),(.tmp 0,.own' 0),(.tmp 1,.di),(.tmp 2,.di),(.tmp 3,.clo 64 []),(.tmp 8,.di)]
abbrev Acx:Ao:=[(.exit 0,[(.obj 0,.own 45 U0)])]
def Acv[Lk]:U8→Option (U8⊕Ui⊕Unit):=OF ((0,(0,())):U1) Ak
def AlF[Lk]:Ud→Option (Ui):=AEL ((0,(0,())):U1) Ak
def AqQ[Lk](v:Ud):Option (Ui):=AlD ((0,(0,())):U1) Ak v
theorem Aoc v:AqQ v=AlF v:=AJ _
abbrev AMH:AE:=[(.tmp 0,.own 45 U0),(.tmp 1,.di),(.tmp 2,.di),(.tmp 3,.di),(.tmp 4,.clo 64 [])]
abbrev AMG:AE:=[(.obj 0,.own 45 U0)]
abbrev AMF:List RS:=[]
abbrev ARM:AE:=[(.obj 0,.own 45 U0),(.tmp 0,.own' 0),(.tmp 2,.di),(.tmp 3,.di),(.tmp 4,.clo 64 []),(.tmp 10,.di)]
abbrev ARL:Ao:=[(.exit 0,[(.obj 0,.own 45 U0)]),(.ret,[(.obj 0,.own 45 U0)])]
def ARK[Lk]:U8→Option (U8⊕Ui⊕Ui⊕Unit):=Jk ((0,(0,())):U1) Ak
def AcE[Lk]:U8→Option (Ui):=RD ((0,(0,())):U1) Ak
def Ai8[Lk](v:U8):Option (Ui):=AI8 ((0,(0,())):U1) Ak v
theorem Ai7 v:Ai8 v=AcE v:=AJ _
abbrev AN6:AE:=[(.tmp 0,.own 45 U0),(.tmp 1,.di),(.tmp 2,.di),(.tmp 3,.clo 64 [])]
abbrev AN5:AE:=[(.obj 0,.own 45 U0)]
abbrev AN4:List RS:=[]
abbrev AUE:AE:=[(.obj 0,.own 45 U0),(.tmp 0,.own' 0),(.tmp 3,.clo 64 []),(.tmp 8,.di),(.tmp 9,.di),(.tmp 12,.di)]
abbrev AUC:Ao:=[(.exit 2,[(.obj 0,.own 45 U0)])]
def AT9[Lk]:U8→Option (U8⊕Ui⊕Unit):=J3 ((0,(0,())):U1) Ak
abbrev AUF:AE:=[(.obj 0,.own 45 U0),(.tmp 0,.own' 0),(.tmp 3,.clo 64 []),(.tmp 8,.di),(.tmp 9,.di),(.tmp 10,.di),(.tmp 11,.di)]
abbrev AUD:Ao:=[(.exit 0,[(.obj 0,.own 45 U0),(.tmp 0,.own' 0),(.tmp 3,.clo 64 []),(.tmp 8,.di),(.tmp 9,.di),(.tmp 10,.di)])]
def AUB[Lk]:Un→Option (Un⊕U8⊕Unit):=J4 ((0,(0,())):U1) Ak
def Ac4[Lk]:Ud→Option (Ui):=Ry ((0,(0,())):U1) Ak
def AlX[Lk](v:Ud):Option (Ui):=AT7 ((0,(0,())):U1) Ak v
theorem AlW v:AlX v=Ac4 v:=AJ _
abbrev AGJ:AE:=[(.tmp 0,.own 45 U0),(.tmp 1,.di),(.tmp 2,.di),(.tmp 3,.clo 64 [])]
abbrev AGI:AE:=[(.obj 0,.own 45 U0)]
abbrev AGH:List RS:=[]
abbrev AKj:AE:=[(.obj 0,.own 45 U0),(.tmp 0,.own' 0),(.tmp 1,.di),(.tmp 8,.di),(.tmp 9,.box 1),(.cell 1 0,.dat (.int .u64)),(.tmp 10,.dat (.int .u64)),(.tmp 11,.di)]
abbrev AKi:Ao:=[(.exit 0,[(.obj 0,.own 45 U0)])]
def AKh[Lk]:V2→Option (V2⊕Ui⊕Unit):=GH ((0,(0,())):U1) Ak
def AVm[Lk]:Ud→Option (Ui):=NP ((0,(0,())):U1) Ak
def AbY[Lk](v:Ud):Option (Ui):=AGG ((0,(0,())):U1) Ak v
theorem Ahr v:AbY v=AVm v:=AJ _
abbrev VQ:AE:=[(.tmp 0,.own 45 U0),(.tmp 1,.di),(.tmp 2,.di),(.tmp 3,.box 1),(.cell 1 0,.di),(.tmp 4,.clo 64 [])]
abbrev VP:AE:=[(.obj 0,.own 45 U0),(.obj 1,.box 1),(.cell 1 0,.di),(.tmp 0,.di),(.tmp 1,.di)]
abbrev VO:List RS:=[.one,.one]
def AJe[Lk]:U8→Option (U8):=Ju ((0,(0,())):U1) Ak
def ANI[Lk](v:U8):Option (U8):=Ki ((0,(0,())):U1) Ak v
theorem AYu v:ANI v=AJe v:=AJ _
abbrev Vp:AE:=[(.tmp 0,.own 45 U0),(.tmp 1,.di),(.tmp 2,.di),(.tmp 3,.di),(.tmp 4,.box 1),(.cell 1 0,.di),(.tmp 5,.clo 64 [])]
abbrev Vo:AE:=[(.obj 0,.own 45 U0),(.obj 1,.box 1),(.cell 1 0,.di),(.tmp 0,.di)]
abbrev VZ:List RS:=[.one]
def AJi[Lk]:Un→Option (Ud):=Jx ((0,(0,())):U1) Ak
def ANb[Lk](v:Un):Option (Ud):=Kr ((0,(0,())):U1) Ak v
theorem AZH v:ANb v=AJi v:=AJ _
abbrev Vv:AE:=[(.tmp 0,.own 45 U0),(.tmp 1,.di),(.tmp 2,.box 1),(.cell 1 0,.di),(.tmp 3,.clo 64 [])]
abbrev Vu:AE:=[(.obj 0,.own 45 U0),(.obj 1,.box 1),(.cell 1 0,.di),(.tmp 0,.di)]
abbrev Vt:List RS:=[.one]
def AJk[Lk]:Ud→Option (Ud):=Jy ((0,(0,())):U1) Ak
def ANf[Lk](v:Ud):Option (Ud):=Ks ((0,(0,())):U1) Ak v
theorem AZK v:ANf v=AJk v:=AJ _
abbrev AC3:AE:=[(.tmp 0,.own 45 U0),(.tmp 1,.di),(.tmp 2,.di),(.tmp 3,.clo 64 [])]
abbrev AC2:AE:=[(.obj 0,.own 45 U0),(.tmp 0,.di),(.tmp 1,.di)]
abbrev AC1:List RS:=[.one,.one]
def ASG[Lk]:Ud→Option (Ud):=Mg ((0,(0,())):U1) Ak
def AYN[Lk](v:Ud):Option (Ud):=AC0 ((0,(0,())):U1) Ak v
theorem AfC v:AYN v=ASG v:=AJ _
abbrev AXs:AE:=[(.tmp 0,.own 45 U0),(.tmp 1,.di),(.tmp 2,.di),(.tmp 3,.clo 64 [])]
abbrev AXr:AE:=[(.obj 0,.own 45 U0)]
abbrev AXq:List RS:=[]
abbrev AcL:AE:=[(.obj 0,.own 45 U0),(.tmp 0,.own' 0),(.tmp 8,.di),(.tmp 9,.di)]
abbrev AcK:Ao:=[(.exit 0,[(.obj 0,.own 45 U0)])]
def AcJ[Lk]:Ud→Option (Ud⊕Ui⊕Unit):=RR ((0,(0,())):U1) Ak
def AjW[Lk]:Ud→Option (Ui):=ACO ((0,(0,())):U1) Ak
def Ap0[Lk](v:Ud):Option (Ui):=AjU ((0,(0,())):U1) Ak v
theorem Anq v:Ap0 v=AjW v:=AJ _
abbrev Py:AE:=[(.tmp 0,.own 45 U0),(.tmp 1,.di),(.tmp 2,.di),(.tmp 3,.clo 64 [])]
abbrev Px:AE:=[(.obj 0,.own 45 U0),(.tmp 0,.dat .bool)]
abbrev Pw:List RS:=[.one]
abbrev YR:AE:=[(.obj 0,.own 45 U0),(.tmp 0,.own' 0),(.tmp 1,.di),(.tmp 2,.di),(.tmp 3,.clo 64 []),(.tmp 9,.di),(.tmp 10,.di),(.tmp 12,.di)]
abbrev YN:Ao:=[(.exit 6,[(.obj 0,.own 45 U0),(.tmp 0,.own' 0),(.tmp 1,.di),(.tmp 2,.di),(.tmp 3,.clo 64 []),(.tmp 9,.di),(.tmp 10,.di)])]
def YJ[Lk]:V2→Option (V2⊕Un⊕Unit):=El ((0,(0,())):U1) Ak
abbrev YS:AE:=[(.obj 0,.own 45 U0),(.tmp 0,.own' 0),(.tmp 1,.di),(.tmp 2,.di),(.tmp 3,.clo 64 []),(.tmp 9,.di),(.tmp 10,.di),(.tmp 11,.di)]
abbrev YO:Ao:=[(.exit 4,[(.obj 0,.own 45 U0),(.tmp 0,.own' 0),(.tmp 1,.di),(.tmp 2,.di),(.tmp 3,.clo 64 []),(.tmp 9,.di),(.tmp 10,.di)])]
def YK[Lk]:V2→Option (V2⊕Un⊕Unit):=Em ((0,(0,())):U1) Ak
abbrev YT:AE:=[(.obj 0,.own 45 U0),(.tmp 0,.own' 0),(.tmp 1,.di),(.tmp 2,.di),(.tmp 3,.clo 64 []),(.tmp 9,.di),(.tmp 10,.di)]
abbrev YP:Ao:=[(.exit 2,[(.obj 0,.own 45 U0),(.tmp 0,.own' 0),(.tmp 1,.di),(.tmp 2,.di),(.tmp 3,.clo 64 []),(.tmp 9,.di),(.tmp 10,.di)])]
def YL[Lk]:Un→Option (Un⊕Un⊕Unit):=Gg ((0,(0,())):U1) Ak
abbrev YU:AE:=[(.obj 0,.own 45 U0),(.tmp 0,.own' 0),(.tmp 1,.di),(.tmp 2,.di),(.tmp 3,.clo 64 []),(.tmp 9,.di),(.tmp 10,.di)]
abbrev YQ:Ao:=[(.ret,[(.obj 0,.own 45 U0),(.tmp 8,.dat .bool)]),(.exit 0,[(.obj 0,.own 45 U0)])]
def YM[Lk]:Un→Option (Un⊕(List U1×Bool×Unit)⊕Ui⊕Unit):=CS ((0,(0,())):U1) Ak
def ADN[Lk]:Ud→Option ((List U1×Bool×Unit)):=Hm ((0,(0,())):U1) Ak
def ADO[Lk](v:Ud):Option ((List U1×Bool×Unit)):=Mh ((0,(0,())):U1) Ak v
theorem AS2 v:ADO v=ADN v:=AJ _
abbrev VK:AE:=[(.tmp 0,.own 45 U0),(.tmp 1,.di),(.tmp 2,.di),(.tmp 3,.di),(.tmp 4,.clo 64 [])]
abbrev VJ:AE:=[(.obj 0,.own 45 U0),(.tmp 0,.di)]
abbrev VI:List RS:=[.one]
abbrev ADf:AE:=[(.obj 0,.own 45 U0),(.tmp 0,.own' 0),(.tmp 1,.di),(.tmp 4,.clo 64 []),(.tmp 11,.di),(.tmp 12,.di)]
abbrev ADc:Ao:=[(.exit 4,[(.obj 0,.own 45 U0),(.tmp 0,.own' 0),(.tmp 1,.di),(.tmp 4,.clo 64 []),(.tmp 11,.di),(.tmp 12,.di)])]
def ADZ[Lk]:U8→Option (U8⊕U8⊕Unit):=Hn ((0,(0,())):U1) Ak
abbrev ADg:AE:=[(.obj 0,.own 45 U0),(.tmp 0,.own' 0),(.tmp 1,.di),(.tmp 4,.clo 64 []),(.tmp 11,.di),(.tmp 12,.di)]
abbrev ADd:Ao:=[(.exit 2,[(.obj 0,.own 45 U0),(.tmp 0,.own' 0),(.tmp 1,.di),(.tmp 4,.clo 64 []),(.tmp 11,.di),(.tmp 12,.di)])]
def ADa[Lk]:U8→Option (U8⊕U8⊕Unit):=Ho ((0,(0,())):U1) Ak
abbrev ADh:AE:=[(.obj 0,.own 45 U0),(.tmp 0,.own' 0),(.tmp 1,.di),(.tmp 4,.clo 64 []),(.tmp 11,.di),(.tmp 12,.di)]
abbrev ADe:Ao:=[(.exit 0,[(.obj 0,.own 45 U0),(.tmp 11,.di)])]
def ADb[Lk]:U8→Option (U8⊕(List U1×Int×Unit)⊕Unit):=Hp ((0,(0,())):U1) Ak
def AJa[Lk]:U8→Option ((List U1×Int×Unit)):=Jt ((0,(0,())):U1) Ak
def ANB[Lk](v:U8):Option ((List U1×Int×Unit)):=Rd ((0,(0,())):U1) Ak v
theorem AYq v:ANB v=AJa v:=AJ _
abbrev ANE:AE:=[(.tmp 0,.own 45 U0),(.tmp 1,.di),(.tmp 2,.di),(.tmp 3,.di),(.tmp 4,.clo 64 [])]
abbrev AND:AE:=[(.obj 0,.own 45 U0),(.tmp 0,.di),(.tmp 1,.dat .bool)]
abbrev ANC:List RS:=[.one,.one]
abbrev ATP:AE:=[(.obj 0,.own 45 U0),(.tmp 0,.own' 0),(.tmp 1,.di),(.tmp 4,.clo 64 []),(.tmp 12,.di),(.tmp 13,.di)]
abbrev ATK:Ao:=[(.exit 8,[(.obj 0,.own 45 U0),(.tmp 0,.own' 0),(.tmp 1,.di),(.tmp 4,.clo 64 []),(.tmp 12,.di),(.tmp 13,.di)])]
def ATB[Lk]:U8→Option (U8⊕U8⊕Unit):=Mi ((0,(0,())):U1) Ak
abbrev ATQ:AE:=[(.obj 0,.own 45 U0),(.tmp 0,.own' 0),(.tmp 1,.di),(.tmp 4,.clo 64 []),(.tmp 12,.di),(.tmp 13,.di)]
abbrev ATL:Ao:=[(.exit 6,[(.obj 0,.own 45 U0),(.tmp 0,.own' 0),(.tmp 1,.di),(.tmp 4,.clo 64 []),(.tmp 12,.di),(.tmp 13,.di)])]
def ATD[Lk]:U8→Option (U8⊕U8⊕Unit):=Mj ((0,(0,())):U1) Ak
abbrev ATR:AE:=[(.obj 0,.own 45 U0),(.tmp 0,.own' 0),(.tmp 1,.di),(.tmp 4,.clo 64 []),(.tmp 12,.di),(.tmp 13,.di)]
abbrev ATM:Ao:=[(.exit 4,[(.obj 0,.own 45 U0),(.tmp 0,.own' 0),(.tmp 1,.di),(.tmp 13,.di)])]
def ATF[Lk]:U8→Option (U8⊕Ud⊕Unit):=Mk ((0,(0,())):U1) Ak
abbrev ATS:AE:=[(.obj 0,.own 45 U0),(.tmp 0,.own' 0),(.tmp 1,.di),(.tmp 4,.clo 64 []),(.tmp 12,.di),(.tmp 13,.di)]
abbrev ATN:Ao:=[(.exit 2,[(.obj 0,.own 45 U0),(.tmp 0,.own' 0),(.tmp 1,.di),(.tmp 4,.clo 64 []),(.tmp 12,.di),(.tmp 13,.di)])]
def ATH[Lk]:U8→Option (U8⊕U8⊕Unit):=Ml ((0,(0,())):U1) Ak
abbrev ATT:AE:=[(.obj 0,.own 45 U0),(.tmp 0,.own' 0),(.tmp 1,.di),(.tmp 4,.clo 64 []),(.tmp 12,.di),(.tmp 13,.di)]
abbrev ATO:Ao:=[(.exit 0,[(.obj 0,.own 45 U0),(.tmp 0,.own' 0),(.tmp 1,.di),(.tmp 4,.clo 64 []),(.tmp 12,.di),(.tmp 13,.di)])]
def ATJ[Lk]:U8→Option (U8⊕U8⊕Unit):=Mm ((0,(0,())):U1) Ak
def AcY[Lk]:U8→Option ((List U1×Int×Bool×Unit)):=Rc ((0,(0,())):U1) Ak
def AkW[Lk](v:U8):Option ((List U1×Int×Bool×Unit)):=ADP ((0,(0,())):U1) Ak v
theorem AkV v:AkW v=AcY v:=AJ _
abbrev ADB:AE:=[(.tmp 0,.own 45 U0),(.tmp 1,.di),(.tmp 2,.di),(.tmp 3,.di),(.tmp 4,.clo 64 [])]
abbrev ADA:AE:=[(.obj 0,.own 45 U0)]
abbrev AC9:List RS:=[]
abbrev AcW:AE:=[(.obj 0,.own 45 U0),(.tmp 0,.own' 0),(.tmp 1,.di),(.tmp 2,.di),(.tmp 3,.di),(.tmp 4,.clo 64 []),(.tmp 10,.dat .bool),(.tmp 11,.dat .bool)]
abbrev AcV:Ao:=[(.ret,[(.obj 0,.own 45 U0)])]
def AcU[Lk](self:U8→Option (Ui)):(List U1×Int×Int×Int×Bool×Bool×Unit)→Option ((List U1×Int×Int×Int×Bool×Bool×Unit)⊕Ui⊕Unit):=N8 ((0,(0,())):U1) Ak self
def AqD[Lk](self:U8→Option (Ui)):U8→Option (Ui):=AC8 ((0,(0,())):U1) Ak self
def ADC[Lk]:Nat→U8→Option (Ui):=Kh ((0,(0,())):U1) Ak
def An6[Lk](v:U8):Option (Ui):=Aj6 ((0,(0,())):U1) Ak v
theorem An5 v:An6 v=ADC 100 v:=AJ _
abbrev AL8:AE:=[(.tmp 0,.own 45 U0),(.tmp 1,.clo 64 [])]
abbrev AL7:AE:=[(.obj 0,.own 45 U0)]
abbrev AL6:List RS:=[]
def AcB[Lk]:Ui→Option (Ui):=RC ((0,(0,())):U1) Ak
def ARC[Lk](v:Ui):Option (Ui):=AcA ((0,(0,())):U1) Ak v
theorem Aiy v:ARC v=AcB v:=AJ _
abbrev AZ5:AE:=[(.tmp 0,.dat Us),(.tmp 1,.dat Uq)]
abbrev AZ4:AE:=[(.tmp 0,.own 45 U0),(.tmp 1,.di)]
abbrev AZ3:List RS:=[.one,.one]
abbrev AdC:AE:=[(.tmp 2,.box 2),(.cell 0 0,.di),(.cell 0 1,.dat V8),(.tmp 6,.map U0 U2),(.tmp 9,.own 45 U0),(.tmp 26,.dat Uq),(.tmp 27,.di),(.tmp 28,.di)]
abbrev AdA:Ao:=[(.ret,[(.tmp 4,.nil U0),(.tmp 5,.di)]),(.exit 2,[(.tmp 9,.own 45 U0)])]
def Ip[Lk]:(Int×List U4×List Vb×List U1×List U1×Int×Int×Unit)→Option ((Int×List U4×List Vb×List U1×List U1×Int×Int×Unit)⊕Ua⊕Ui⊕Unit):=fun(a0,a1,a2,a3,a4,a5,a6,_)=>
 match(ilt a6 a5)with
 |true=>match idx a4 a6 with|none=>none|some x0=>match(ilt (B6 x0.1 x0.2.1) 0)with
  |true=>some (.inr (.inl (10,())))
  |false=>match(ile a0 (imax x0.1 x0.2.1))with
  |true=>some (.inr (.inl (10,())))
  |false=>match(ilt (B6 x0.1 x0.2.1) (imax x0.1 x0.2.1))with
  |true=>match(ieq ((AS a2 ((B6 x0.1 x0.2.1),((imax x0.1 x0.2.1),()))).getD 0) 0)with
   |true=>match(fits ((AM a3)+(AM ([((B6 x0.1 x0.2.1),((imax x0.1 x0.2.1),()))]:List U1))))with
    |true=>some (.inl (a0,a1,(Ad a2 ((B6 x0.1 x0.2.1),((imax x0.1 x0.2.1),())) 1),(BP a3 ([((B6 x0.1 x0.2.1),((imax x0.1 x0.2.1),()))]:List U1)),a4,a5,(IntKind.wrap .i64 (a6+1)),()))
    |false=>none
   |false=>some (.inl (a0,a1,a2,a3,a4,a5,(IntKind.wrap .i64 (a6+1)),()))
  |false=>some (.inl (a0,a1,a2,a3,a4,a5,(IntKind.wrap .i64 (a6+1)),()))
 |false=>some (.inr (.inr (.inl (a3,()))))
abbrev AdD:AE:=[(.tmp 1,.dat Uq),(.tmp 2,.box 2),(.cell 0 0,.di),(.cell 0 1,.dat V8),(.tmp 6,.map U0 U2),(.tmp 17,.own 45 U0),(.tmp 18,.di),(.tmp 19,.di)]
abbrev AdB:Ao:=[(.exit 0,[(.tmp 1,.dat Uq),(.tmp 2,.box 2),(.cell 0 0,.di),(.cell 0 1,.dat V8),(.tmp 6,.map U0 U2)])]
def Iq[Lk]:(List U1×Int×List U4×List Vb×List U1×Int×Int×Unit)→Option ((List U1×Int×List U4×List Vb×List U1×Int×Int×Unit)⊕(List U1×Int×List U4×List Vb×Unit)⊕Unit):=fun(a0,a1,a2,a3,a4,a5,a6,_)=>
 match(ilt a6 a5)with
 |true=>match idx a4 a6 with|none=>none|some x0=>some (.inl (a0,a1,a2,(Ad a3 ((AY a4 (AO a6) (0,(0,()))).1,((AY a4 (AO a6) (0,(0,()))).2.1,())) 1),a4,a5,(IntKind.wrap .i64 (a6+1)),()))
 |false=>some (.inr (.inl (a0,a1,a2,a3,())))
def AOI[Lk]:(V5×List U1×Unit)→Option ((List U1×Int×Unit)):=fun(a0,a1,_)=>
 match Fm ((a0.1,(a0.2.1,())),())with|none=>none|some (y0,_)=>match(!y0)with
 |true=>some (([]:List U1),1,())
 |false=>match WB ((a0.1,(a0.2.1,())),())with|none=>none|some (y1,_)=>match AU Iq many (a1,a0.1,a0.2.1,([]:List Vb),y1,(AM y1),0,())with|none=>none|some r=>match r with
 |.inl (o2,o3,o4,o5,_)=>match AU Ip many (o3,o4,o5,([]:List U1),o2,(AM o2),0,())with|none=>none|some r=>match r with
  |.inl (o6,_)=>some (([]:List U1),o6,())
  |.inr r=>match r with
  |.inl (o7,_)=>match ARC (o7,())with|none=>none|some (y8,_)=>some (y8,0,())
  |.inr _=>none
 |.inr _=>none
def Alh[Lk]:=fun v=>Lk.f (AOI v)
theorem AdE v:Alh v=AOI v:=AJ _
abbrev ALJ:AE:=[(.tmp 0,.di)]
abbrev ALI:AE:=[(.tmp 0,.dat .bool)]
abbrev ALH:List RS:=[.one]
def Zu[Lk]:Ua→Option (Ue):=fun(a0,_)=>
 some ((ieq a0 (IntKind.wrap .i64 (IntKind.wrap .u16 a0))),())
def Xq[Lk]:=fun v=>Lk.f (Zu v)
theorem AQU v:Xq v=Zu v:=AJ _
abbrev AAh:AE:=[(.tmp 0,.di)]
abbrev AAg:AE:=[(.tmp 0,.dat .bool)]
abbrev AAf:List RS:=[.one]
def Qw[Lk]:Ua→Option (Ue):=fun(a0,_)=>
 match(ile 1 a0)with
 |true=>some ((ile a0 4),())
 |false=>some (false,())
def AAi[Lk]:=fun v=>Lk.f (Qw v)
theorem AIk v:AAi v=Qw v:=AJ _
abbrev K4:AE:=[(.tmp 0,.dat Uq),(.tmp 1,.clo 50 [])]
abbrev K3:AE:=[(.tmp 0,.di)]
abbrev K2:List RS:=[.one]
abbrev O5:AE:=[(.tmp 0,.dat Uq),(.tmp 1,.clo 50 []),(.tmp 7,.di),(.tmp 8,.di)]
abbrev O4:Ao:=[(.ret,[(.tmp 4,.di)]),(.exit 0,[])]
def Cc[Lk]:Ud→Option (Ud⊕Ua⊕(Unit)⊕Unit):=fun(a0,a1,a2,_)=>
 match(ilt a2 a1)with
 |true=>match idx a0 a2 with|none=>none|some x0=>match Xq (x0.1,())with|none=>none|some (y1,_)=>match(!y1)with
  |true=>some (.inr (.inl (a2,())))
  |false=>match Xq (x0.2.1,())with|none=>none|some (y2,_)=>match(!y2)with
  |true=>some (.inr (.inl (a2,())))
  |false=>some (.inl (a0,a1,(IntKind.wrap .i64 (a2+1)),()))
 |false=>some (.inr (.inr (.inl ())))
def HE[Lk]:Ui→Option (Ua):=fun(a0,_)=>
 match AU Cc many (a0,(AM a0),0,())with|none=>none|some r=>match r with
 |.inl (o0,_)=>some (o0,())
 |.inr r=>match r with
 |.inl _=>some ((-1:Int),())
 |.inr _=>none
def K6[Lk]:=fun v=>Lk.f (HE v)
theorem O6 v:K6 v=HE v:=AJ _
abbrev JU:AE:=[(.tmp 0,.dat Uq),(.tmp 1,.clo 50 [])]
abbrev JT:AE:=[(.tmp 0,.dat .bool)]
abbrev JS:List RS:=[.one]
def Gb[Lk]:Ui→Option (Ue):=fun(a0,_)=>
 match K6 (a0,())with|none=>none|some (y0,_)=>some ((ile 0 y0),())
def DZ[Lk]:=fun v=>Lk.f (Gb v)
theorem NG v:DZ v=Gb v:=AJ _
abbrev LF:AE:=[(.tmp 0,.dat Vj),(.tmp 1,.clo 53 [])]
abbrev LD:AE:=[(.tmp 0,.di)]
abbrev LC:List RS:=[.one]
abbrev PB:AE:=[(.tmp 0,.dat Vj),(.tmp 1,.clo 53 []),(.tmp 7,.di),(.tmp 8,.di)]
abbrev PA:Ao:=[(.ret,[(.tmp 4,.di)]),(.exit 0,[])]
def Cd[Lk]:(List Ub×Int×Int×Unit)→Option ((List Ub×Int×Int×Unit)⊕Ua⊕(Unit)⊕Unit):=fun(a0,a1,a2,_)=>
 match(ilt a2 a1)with
 |true=>match idx a0 a2 with|none=>none|some x0=>match AAi (x0.1,())with|none=>none|some (y1,_)=>match(!y1)with
  |true=>some (.inr (.inl (a2,())))
  |false=>match Xq (x0.2.1,())with|none=>none|some (y2,_)=>match(!y2)with
  |true=>some (.inr (.inl (a2,())))
  |false=>match Xq (x0.2.2.1,())with|none=>none|some (y3,_)=>match(!y3)with
  |true=>some (.inr (.inl (a2,())))
  |false=>some (.inl (a0,a1,(IntKind.wrap .i64 (a2+1)),()))
 |false=>some (.inr (.inr (.inl ())))
def HG[Lk]:(List Ub×Unit)→Option (Ua):=fun(a0,_)=>
 match AU Cd many (a0,(AM a0),0,())with|none=>none|some r=>match r with
 |.inl (o0,_)=>some (o0,())
 |.inr r=>match r with
 |.inl _=>some ((-1:Int),())
 |.inr _=>none
def LH[Lk]:=fun v=>Lk.f (HG v)
theorem PC v:LH v=HG v:=AJ _
abbrev JX:AE:=[(.tmp 0,.dat Vj),(.tmp 1,.clo 53 [])]
abbrev JW:AE:=[(.tmp 0,.dat .bool)]
abbrev JV:List RS:=[.one]
def Gc[Lk]:(List Ub×Unit)→Option (Ue):=fun(a0,_)=>
 match LH (a0,())with|none=>none|some (y0,_)=>some ((ile 0 y0),())
def Gq[Lk]:=fun v=>Lk.f (Gc v)
theorem NH v:Gq v=Gc v:=AJ _
abbrev AAd:AE:=[(.tmp 0,.dat Uk)]
abbrev AAc:AE:=[(.tmp 0,.dat .bool)]
abbrev AAb:List RS:=[.one]
def Qv[Lk]:(Ut×Unit)→Option (Ue):=fun(a0,_)=>
 match(ieq a0.1 1)with
 |true=>match(ieq (AM a0.2.2.1) 0)with
  |true=>match(ile (AM a0.2.1) 60)with
   |true=>match DZ (a0.2.1,())with|none=>none|some (y0,_)=>some ((!y0),())
   |false=>some (false,())
  |false=>some (false,())
 |false=>match(ieq a0.1 2)with
 |true=>match(ieq (AM a0.2.2.1) 0)with
  |true=>match(ile (AM a0.2.1) 60)with
   |true=>match DZ (a0.2.1,())with|none=>none|some (y1,_)=>some ((!y1),())
   |false=>some (false,())
  |false=>some (false,())
 |false=>match(ieq a0.1 3)with
 |true=>match(ieq (AM a0.2.1) 0)with
  |true=>match(ile (AM a0.2.2.1) 60)with
   |true=>match Gq (a0.2.2.1,())with|none=>none|some (y2,_)=>some ((!y2),())
   |false=>some (false,())
  |false=>some (false,())
 |false=>some (false,())
def AAe[Lk]:=fun v=>Lk.f (Qv v)
theorem AIj v:AAe v=Qv v:=AJ _
end
end Go.Pev
end
section
namespace Go.Pev
noncomputable section
attribute [local irreducible] PE LN Oj Ov AlH AlI AlK RV ZS RE ZQ LZ Aj many IntKind.wrap AM Az AY BP Bv GC D8 AO Bs B6 imax AS Ad
abbrev AEw:AE:=[(.tmp 0,.dat Uq),(.tmp 1,.dat Uq)]
abbrev AEv:AE:=[(.tmp 0,.dat .bool)]
abbrev AEu:List RS:=[.one]
abbrev AKD:AE:=[(.tmp 0,.dat Uq),(.tmp 1,.dat Uq),(.tmp 12,.di),(.tmp 13,.di)]
abbrev AKC:Ao:=[(.ret,[(.tmp 4,.dat .bool)]),(.exit 0,[])]
def WU[Lk]:(List U1×List U1×Int×Int×Unit)→Option ((List U1×List U1×Int×Int×Unit)⊕Ue⊕(Unit)⊕Unit):=fun(a0,a1,a2,a3,_)=>
 match(ilt a3 a2)with
 |true=>match idx a0 a3 with|none=>none|some x0=>match idx a1 a3 with|none=>none|some x1=>match(!(ieq x0.1 x1.1&&(ieq x0.2.1 x1.2.1&&true)))with
  |true=>some (.inr (.inl (false,())))
  |false=>some (.inl (a0,a1,a2,(IntKind.wrap .i64 (a3+1)),()))
 |false=>some (.inr (.inr (.inl ())))
def AEy[Lk]:(List U1×List U1×Unit)→Option (Ue):=fun(a0,a1,_)=>
 match(!(ieq (AM a0) (AM a1)))with
 |true=>some (false,())
 |false=>match AU WU many (a0,a1,(AM a0),0,())with|none=>none|some r=>match r with
 |.inl (o0,_)=>some (o0,())
 |.inr r=>match r with
 |.inl _=>some (true,())
 |.inr _=>none
def AOX[Lk]:=fun v=>Lk.f (AEy v)
theorem Agr v:AOX v=AEy v:=AJ _
abbrev AE1:AE:=[(.tmp 0,.dat Vj),(.tmp 1,.dat Vj)]
abbrev AE0:AE:=[(.tmp 0,.dat .bool)]
abbrev AEz:List RS:=[.one]
abbrev AKF:AE:=[(.tmp 0,.dat Vj),(.tmp 1,.dat Vj),(.tmp 12,.di),(.tmp 13,.di)]
abbrev AKE:Ao:=[(.ret,[(.tmp 4,.dat .bool)]),(.exit 0,[])]
def WV[Lk]:(List Ub×List Ub×Int×Int×Unit)→Option ((List Ub×List Ub×Int×Int×Unit)⊕Ue⊕(Unit)⊕Unit):=fun(a0,a1,a2,a3,_)=>
 match(ilt a3 a2)with
 |true=>match idx a0 a3 with|none=>none|some x0=>match idx a1 a3 with|none=>none|some x1=>match(!(ieq x0.1 x1.1&&(ieq x0.2.1 x1.2.1&&(ieq x0.2.2.1 x1.2.2.1&&true))))with
  |true=>some (.inr (.inl (false,())))
  |false=>some (.inl (a0,a1,a2,(IntKind.wrap .i64 (a3+1)),()))
 |false=>some (.inr (.inr (.inl ())))
def AE3[Lk]:(List Ub×List Ub×Unit)→Option (Ue):=fun(a0,a1,_)=>
 match(!(ieq (AM a0) (AM a1)))with
 |true=>some (false,())
 |false=>match AU WV many (a0,a1,(AM a0),0,())with|none=>none|some r=>match r with
 |.inl (o0,_)=>some (o0,())
 |.inr r=>match r with
 |.inl _=>some (true,())
 |.inr _=>none
def equalA[Lk]:=fun v=>Lk.f (AE3 v)
theorem Agu v:equalA v=AE3 v:=AJ _
abbrev ALC:AE:=[(.tmp 0,.dat Uk),(.tmp 1,.dat Uk)]
abbrev ALB:AE:=[(.tmp 0,.dat .bool)]
abbrev ALA:List RS:=[.one]
def ALD[Lk]:(Ut×Ut×Unit)→Option (Ue):=fun(a0,a1,_)=>
 match(ieq a0.1 a1.1)with
 |true=>match AOX (a0.2.1,a1.2.1,())with|none=>none|some (y0,_)=>match y0 with
  |true=>match equalA (a0.2.2.1,a1.2.2.1,())with|none=>none|some (y1,_)=>some (y1,())
  |false=>some (false,())
 |false=>some (false,())
def Abz[Lk]:=fun v=>Lk.f (ALD v)
theorem Ah9 v:Abz v=ALD v:=AJ _
abbrev AGU:AE:=[(.tmp 0,.dat Uv)]
abbrev AGT:AE:=[(.tmp 0,.own 3 U2)]
abbrev AGS:List RS:=[.one]
def Sl[Lk]:(Ub×Unit)→Option (Up):=fun(a0,_)=>
 match(ieq a0.1 1)with
 |true=>some (([a0.2.1,a0.2.2.1]:List (Int)),())
 |false=>match(ieq a0.1 2)with
 |true=>some (([a0.2.1]:List (Int)),())
 |false=>match(ieq a0.1 3)with
 |true=>some (([a0.2.1]:List (Int)),())
 |false=>some (([]:List (Int)),())
def AGV[Lk]:=fun v=>Lk.f (Sl v)
theorem AKp v:AGV v=Sl v:=AJ _
abbrev APe:AE:=[(.tmp 0,.dat Uk)]
abbrev APd:AE:=[(.tmp 0,.own 3 U2)]
abbrev APc:List RS:=[.one]
abbrev AVu:AE:=[(.tmp 3,.own 3 U2),(.tmp 24,.dat Vj),(.tmp 25,.di),(.tmp 26,.di)]
abbrev AVs:Ao:=[(.exit 2,[(.tmp 3,.own 3 U2)])]
def IB[Lk]:(List Int×List Ub×Int×Int×Unit)→Option ((List Int×List Ub×Int×Int×Unit)⊕Up⊕Unit):=fun(a0,a1,a2,a3,_)=>
 match(ilt a3 a2)with
 |true=>match idx a1 a3 with|none=>none|some x0=>match AGV ((x0.1,(x0.2.1,(x0.2.2.1,()))),())with|none=>none|some (y1,_)=>match(fits ((AM a0)+(AM y1)))with
  |true=>some (.inl ((BP a0 y1),a1,a2,(IntKind.wrap .i64 (a3+1)),()))
  |false=>none
 |false=>some (.inr (.inl (a0,())))
abbrev AVv:AE:=[(.tmp 1,.box 3),(.cell 0 0,.di),(.cell 0 1,.dat Uq),(.cell 0 2,.dat Vj),(.tmp 3,.own 3 U2),(.tmp 9,.dat Uq),(.tmp 10,.di),(.tmp 11,.di)]
abbrev AVt:Ao:=[(.exit 0,[(.tmp 1,.box 3),(.cell 0 0,.di),(.cell 0 1,.dat Uq),(.cell 0 2,.dat Vj),(.tmp 3,.own 3 U2)])]
def IC[Lk]:(Int×List U1×List Ub×List Int×List U1×Int×Int×Unit)→Option ((Int×List U1×List Ub×List Int×List U1×Int×Int×Unit)⊕(Int×List U1×List Ub×List Int×Unit)⊕Unit):=fun(a0,a1,a2,a3,a4,a5,a6,_)=>
 match(ilt a6 a5)with
 |true=>match idx a4 a6 with|none=>none|some x0=>match(fits ((AM a3)+(AM ([x0.1,x0.2.1]:List (Int)))))with
  |true=>some (.inl (a0,a1,a2,(BP a3 ([x0.1,x0.2.1]:List (Int))),a4,a5,(IntKind.wrap .i64 (a6+1)),()))
  |false=>none
 |false=>some (.inr (.inl (a0,a1,a2,a3,())))
def AAO[Lk]:(Ut×Unit)→Option (Up):=fun(a0,_)=>
 match AU IC many (a0.1,a0.2.1,a0.2.2.1,([]:List (Int)),a0.2.1,(AM a0.2.1),0,())with|none=>none|some r=>match r with
 |.inl (o0,o1,o2,o3,_)=>match AU IB many (o3,o2,(AM o2),0,())with|none=>none|some r=>match r with
  |.inl (o4,_)=>some (o4,())
  |.inr _=>none
 |.inr _=>none
def AKl[Lk]:=fun v=>Lk.f (AAO v)
theorem AVw v:AKl v=AAO v:=AJ _
abbrev APq:AE:=[(.tmp 0,.dat Us)]
abbrev APp:AE:=[(.tmp 0,.di)]
abbrev APo:List RS:=[.one]
def Sk[Lk]:(V5×Unit)→Option (Ua):=fun(a0,_)=>
 match Fm ((a0.1,(a0.2.1,())),())with|none=>none|some (y0,_)=>match(!y0)with
 |true=>some (0,())
 |false=>some ((IntKind.wrap .i64 (400-(AM a0.2.1))),())
def Yz[Lk]:=fun v=>Lk.f (Sk v)
theorem AGQ v:Yz v=Sk v:=AJ _
abbrev APl:AE:=[(.tmp 0,.dat Uk),(.tmp 1,.dat Uk)]
abbrev APk:AE:=[(.tmp 0,.dat .bool)]
abbrev APj:List RS:=[.one]
def APm[Lk]:(Ut×Ut×Unit)→Option (Ue):=fun(a0,a1,_)=>
 match Abz ((a0.1,(a0.2.1,(a0.2.2.1,()))),(a1.1,(a1.2.1,(a1.2.2.1,()))),())with|none=>none|some (y0,_)=>some (y0,())
def AdS[Lk]:=fun v=>Lk.f (APm v)
theorem Amn v:AdS v=APm v:=AJ _
abbrev AOr:AE:=[(.tmp 0,.di)]
abbrev AOq:AE:=[(.tmp 0,.dat .bool)]
abbrev AOp:List RS:=[.one]
def AAI[Lk]:Ua→Option (Ue):=fun(a0,_)=>
 match(ile 0 a0)with
 |true=>some ((ilt a0 65536),())
 |false=>some (false,())
def AKO[Lk]:=fun v=>Lk.f (AAI v)
theorem AU0 v:AKO v=AAI v:=AJ _
abbrev Aan:AE:=[(.tmp 0,.dat U0)]
abbrev Aam:AE:=[(.tmp 0,.dat Uf),(.tmp 1,.dat .bool)]
abbrev Aal:List RS:=[.one,.one]
def AOm[Lk]:(U1×Unit)→Option ((Int×Bool×Unit)):=fun(a0,_)=>
 match AKO (a0.1,())with|none=>none|some (y0,_)=>match(!y0)with
 |true=>some (0,false,())
 |false=>match AKO (a0.2.1,())with|none=>none|some (y1,_)=>match(!y1)with
 |true=>some (0,false,())
 |false=>match shl? .u32 (IntKind.wrap .u32 (B6 a0.1 a0.2.1)) 16 with|none=>none|some x2=>some ((IntKind.wrap .u32 ((BitVec.ofInt (IntKind.bits .u32) x2 ||| BitVec.ofInt (IntKind.bits .u32) (IntKind.wrap .u32 (imax a0.1 a0.2.1))).toNat)),true,())
def AmC[Lk]:=fun v=>Lk.f (AOm v)
theorem AdM v:AmC v=AOm v:=AJ _
abbrev AOy:AE:=[(.tmp 0,.dat Uf)]
abbrev AOx:AE:=[(.tmp 0,.dat U0)]
abbrev AOw:List RS:=[.one]
def AAJ[Lk]:Ua→Option ((U1×Unit)):=fun(a0,_)=>
 match shr? .u32 a0 16 with|none=>none|some x0=>some (((IntKind.wrap .i64 x0),((IntKind.wrap .i64 (IntKind.wrap .u16 a0)),())),())
def AU5[Lk]:=fun v=>Lk.f (AAJ v)
theorem AU4 v:AU5 v=AAJ v:=AJ _
abbrev Wp:AE:=[(.tmp 0,.dat V0)]
abbrev Wo:AE:=[(.tmp 0,.own 4 .bool)]
abbrev Wn:List RS:=[.one]
abbrev AFU:AE:=[(.tmp 0,.dat V0),(.tmp 3,.own 4 .bool),(.tmp 9,.dat V0),(.tmp 10,.di),(.tmp 11,.di)]
abbrev AFT:Ao:=[(.exit 0,[(.tmp 3,.own 4 .bool)])]
def EZ[Lk]:(List Int×List Bool×List Int×Int×Int×Unit)→Option ((List Int×List Bool×List Int×Int×Int×Unit)⊕(List Bool×Unit)⊕Unit):=fun(a0,a1,a2,a3,a4,_)=>
 match(ilt a4 a3)with
 |true=>match idx a2 a4 with|none=>none|some x0=>match(ieq a4 0)with
  |true=>match idx a1 a4 with|none=>none|some x1=>some (.inl (a0,(Az a1 (AO a4) true),a2,a3,(IntKind.wrap .i64 (a4+1)),()))
  |false=>match idx a0 (IntKind.wrap .i64 (a4-1))with|none=>none|some x2=>match idx a1 a4 with|none=>none|some x3=>some (.inl (a0,(Az a1 (AO a4) (!(ieq x2 x0))),a2,a3,(IntKind.wrap .i64 (a4+1)),()))
 |false=>some (.inr (.inl (a1,())))
def ON[Lk]:Up→Option ((List Bool×Unit)):=fun(a0,_)=>
 match(CL (AM a0)&&CL (AM a0)&&ile (AM a0) (AM a0)&&true)with
 |true=>match AU EZ many (a0,(D8 (AO (AM a0)) false),a0,(AM a0),(0:Int),())with|none=>none|some r=>match r with
  |.inl (o0,_)=>some (o0,())
  |.inr _=>none
 |false=>none
def SM[Lk]:=fun v=>Lk.f (ON v)
theorem AFV v:SM v=ON v:=AJ _
abbrev UO:AE:=[(.tmp 0,.di)]
abbrev UN:AE:=[(.tmp 0,.di)]
abbrev UM:List RS:=[.one]
def Jl[Lk]:Ua→Option (Ua):=fun(a0,_)=>
 match(ilt a0 1)with
 |true=>some (0,())
 |false=>match(ilt 16 a0)with
 |true=>some (0,())
 |false=>match quo? .i64 (IntKind.wrap .i64 ((IntKind.wrap .i64 (32+a0))-1)) a0 with|none=>none|some x0=>some (x0,())
def Ke[Lk]:=fun v=>Lk.f (Jl v)
theorem Pk v:Ke v=Jl v:=AJ _
abbrev ABw:AE:=[(.tmp 0,.di),(.tmp 1,.di)]
abbrev ABv:AE:=[(.tmp 0,.dat .bool)]
abbrev ABu:List RS:=[.one]
def RK[Lk]:U1→Option (Ue):=fun(a0,a1,_)=>
 match(ile 0 a0)with
 |true=>match Ke (a1,())with|none=>none|some (y0,_)=>some ((ilt a0 y0),())
 |false=>some (false,())
def ABx[Lk]:=fun v=>Lk.f (RK v)
theorem AJH v:ABx v=RK v:=AJ _
abbrev ACT:AE:=[(.tmp 0,.dat Uf),(.tmp 1,.di),(.tmp 2,.di)]
abbrev ACS:AE:=[(.tmp 0,.dat Uf)]
abbrev ACR:List RS:=[.one]
def RU[Lk]:Ub→Option (Ua):=fun(a0,a1,a2,_)=>
 match ABx (a1,a2,())with|none=>none|some (y0,_)=>match(!y0)with
 |true=>some (0,())
 |false=>match shr? .u32 a0 (IntKind.wrap .u64 (IntKind.wrap .i64 (a1*a2)))with|none=>none|some x1=>match shl? .u32 1 (IntKind.wrap .u64 a2)with|none=>none|some x2=>some ((IntKind.wrap .u32 ((BitVec.ofInt (IntKind.bits .u32) x1 &&& BitVec.ofInt (IntKind.bits .u32) (IntKind.wrap .u32 (x2-1))).toNat)),())
def Pn[Lk]:=fun v=>Lk.f (RU v)
theorem AJN v:Pn v=RU v:=AJ _
abbrev AMZ:AE:=[(.tmp 0,.dat U7),(.tmp 1,.di)]
abbrev AMY:AE:=[(.tmp 0,.dat .bool)]
abbrev AMX:List RS:=[.one]
abbrev ARr:AE:=[(.tmp 0,.dat U7),(.tmp 1,.di),(.tmp 5,.map U2 U2),(.tmp 9,.dat U7),(.tmp 10,.di),(.tmp 11,.di)]
abbrev ARq:Ao:=[(.ret,[(.tmp 4,.dat .bool)]),(.exit 0,[(.tmp 0,.dat U7),(.tmp 1,.di)])]
def Hl[Lk]:(List Int×Int×List Uz×List Int×Int×Int×Unit)→Option ((List Int×Int×List Uz×List Int×Int×Int×Unit)⊕Ue⊕Ve⊕Unit):=fun(a0,a1,a2,a3,a4,a5,_)=>
 match(ilt a5 a4)with
 |true=>match idx a3 a5 with|none=>none|some x0=>match(ilt x0 0)with
  |true=>some (.inr (.inl (false,())))
  |false=>match(ile a1 x0)with
  |true=>some (.inr (.inl (false,())))
  |false=>match(ilt 1 ((AS (Ad a2 x0 (IntKind.wrap .i64 (((AS a2 x0).getD 0)+1))) x0).getD 0))with
  |true=>some (.inr (.inl (false,())))
  |false=>some (.inl (a0,a1,(Ad a2 x0 (IntKind.wrap .i64 (((AS a2 x0).getD 0)+1))),a3,a4,(IntKind.wrap .i64 (a5+1)),()))
 |false=>some (.inr (.inr (.inl (a0,a1,()))))
def Z2[Lk]:Ve→Option (Ue):=fun(a0,a1,_)=>
 match AU Hl many (a0,a1,([]:List Uz),a0,(AM a0),0,())with|none=>none|some r=>match r with
 |.inl (o0,_)=>some (o0,())
 |.inr r=>match r with
 |.inl (o1,o2,_)=>some ((ieq (AM o1) o2),())
 |.inr _=>none
def ARt[Lk]:=fun v=>Lk.f (Z2 v)
theorem ARs v:ARt v=Z2 v:=AJ _
abbrev Ajl:AE:=[(.tmp 0,.dat V0),(.tmp 1,.dat U7),(.tmp 2,.di),(.tmp 3,.di)]
abbrev Ajh:AE:=[(.tmp 0,.own 3 U2)]
abbrev Ajd:List RS:=[.one]
abbrev Aji:AE:=[(.tmp 0,.dat V0),(.tmp 2,.di),(.tmp 3,.di),(.tmp 9,.own 3 U2),(.tmp 13,.own 3 U2),(.tmp 63,.dat U7),(.tmp 64,.di),(.tmp 65,.di)]
abbrev Aje:Ao:=[(.exit 4,[(.tmp 13,.own 3 U2)])]
def Po[Lk]:(List Int×Int×Int×List Int×List Int×List Int×Int×Int×Unit)→Option ((List Int×Int×Int×List Int×List Int×List Int×Int×Int×Unit)⊕Up⊕Unit):=fun(a0,a1,a2,a3,a4,a5,a6,a7,_)=>
 match(ilt a7 a6)with
 |true=>match idx a5 a7 with|none=>none|some x0=>match idx a0 x0 with|none=>none|some x1=>match Pn (x1,a1,a2,())with|none=>none|some (y2,_)=>match idx a3 y2 with|none=>none|some x3=>match idx a4 (AY a3 (AO y2) 0)with|none=>none|some x4=>match idx a3 y2 with|none=>none|some x5=>match idx a3 y2 with|none=>none|some x6=>some (.inl (a0,a1,a2,(Az a3 (AO y2) (IntKind.wrap .i64 ((AY a3 (AO y2) 0)+1))),(Az a4 (AO (AY a3 (AO y2) 0)) x0),a5,a6,(IntKind.wrap .i64 (a7+1)),()))
 |false=>some (.inr (.inl (a4,())))
abbrev Ajj:AE:=[(.tmp 0,.dat V0),(.tmp 1,.dat U7),(.tmp 2,.di),(.tmp 3,.di),(.tmp 9,.own 3 U2),(.tmp 44,.di),(.tmp 45,.di)]
abbrev Ajf:Ao:=[(.exit 2,[(.tmp 0,.dat V0),(.tmp 1,.dat U7),(.tmp 2,.di),(.tmp 3,.di),(.tmp 9,.own 3 U2)])]
def Pp[Lk]:(List Int×List Int×Int×Int×List Int×Int×Int×Unit)→Option ((List Int×List Int×Int×Int×List Int×Int×Int×Unit)⊕(List Int×List Int×Int×Int×List Int×Unit)⊕Unit):=fun(a0,a1,a2,a3,a4,a5,a6,_)=>
 match(ilt a6 a5)with
 |true=>match idx a4 (IntKind.wrap .i64 (a6+1))with|none=>none|some x0=>match idx a4 a6 with|none=>none|some x1=>match idx a4 (IntKind.wrap .i64 (a6+1))with|none=>none|some x2=>some (.inl (a0,a1,a2,a3,(Az a4 (AO (IntKind.wrap .i64 (a6+1))) (IntKind.wrap .i64 ((AY a4 (AO (IntKind.wrap .i64 (a6+1))) 0)+(AY a4 (AO a6) 0)))),a5,(IntKind.wrap .i64 (a6+1)),()))
 |false=>some (.inr (.inl (a0,a1,a2,a3,a4,())))
abbrev Ajk:AE:=[(.tmp 0,.dat V0),(.tmp 1,.dat U7),(.tmp 2,.di),(.tmp 3,.di),(.tmp 9,.own 3 U2),(.tmp 22,.dat U7),(.tmp 23,.di),(.tmp 24,.di)]
abbrev Ajg:Ao:=[(.exit 0,[(.tmp 0,.dat V0),(.tmp 1,.dat U7),(.tmp 2,.di),(.tmp 3,.di),(.tmp 9,.own 3 U2)])]
def Pq[Lk]:V6→Option (V6⊕(List Int×List Int×Int×Int×List Int×Unit)⊕Unit):=fun(a0,a1,a2,a3,a4,a5,a6,a7,_)=>
 match(ilt a7 a6)with
 |true=>match idx a5 a7 with|none=>none|some x0=>match idx a0 x0 with|none=>none|some x1=>match Pn (x1,a2,a3,())with|none=>none|some (y2,_)=>match idx a4 (IntKind.wrap .u32 (y2+1))with|none=>none|some x3=>match idx a4 (IntKind.wrap .u32 (y2+1))with|none=>none|some x4=>some (.inl (a0,a1,a2,a3,(Az a4 (AO (IntKind.wrap .u32 (y2+1))) (IntKind.wrap .i64 ((AY a4 (AO (IntKind.wrap .u32 (y2+1))) 0)+1))),a5,a6,(IntKind.wrap .i64 (a7+1)),()))
 |false=>some (.inr (.inl (a0,a1,a2,a3,a4,())))
def AcM[Lk]:(List Int×List Int×Int×Int×Unit)→Option (Up):=fun(a0,a1,a2,a3,_)=>
 match shl? .i64 1 (IntKind.wrap .u64 a3)with|none=>none|some x0=>match(CL (IntKind.wrap .i64 (x0+1))&&CL (IntKind.wrap .i64 (x0+1))&&ile (IntKind.wrap .i64 (x0+1)) (IntKind.wrap .i64 (x0+1))&&true)with
 |true=>match AU Pq many (a0,a1,a2,a3,(D8 (AO (IntKind.wrap .i64 (x0+(1:Int)))) (0:Int)),a1,(AM a1),(0:Int),())with|none=>none|some r=>match r with
  |.inl (o1,o2,o3,o4,o5,_)=>match AU Pp many (o1,o2,o3,o4,o5,(IntKind.wrap .i64 ((AM o5)-1)),0,())with|none=>none|some r=>match r with
   |.inl (o6,o7,o8,o9,o10,_)=>match(CL (AM o7)&&CL (AM o7)&&ile (AM o7) (AM o7)&&true)with
    |true=>match AU Po many (o6,o8,o9,o10,(D8 (AO (AM o7)) (0:Int)),o7,(AM o7),(0:Int),())with|none=>none|some r=>match r with
     |.inl (o11,_)=>some (o11,())
     |.inr _=>none
    |false=>none
   |.inr _=>none
  |.inr _=>none
 |false=>none
def rby[Lk]:=fun v=>Lk.f (AcM v)
theorem Ajm v:rby v=AcM v:=AJ _
abbrev MT:AE:=[(.tmp 0,.di),(.tmp 1,.di)]
abbrev MS:AE:=[(.tmp 0,.dat .bool)]
abbrev MR:List RS:=[.one]
def IX[Lk]:U1→Option (Ue):=fun(a0,a1,_)=>
 match(ile 1 a0)with
 |true=>match(ile a0 1000)with
  |true=>match(ile 1 a1)with
   |true=>some ((ile a1 100),())
   |false=>some (false,())
  |false=>some (false,())
 |false=>some (false,())
def HR[Lk]:=fun v=>Lk.f (IX v)
theorem Q6 v:HR v=IX v:=AJ _
abbrev Ts:AE:=[(.tmp 0,.dat Uo)]
abbrev Tq:AE:=[(.tmp 0,.dat .bool)]
abbrev Tp:List RS:=[.one]
abbrev ABD:AE:=[(.tmp 1,.box 3),(.cell 0 0,.dat Uc),(.cell 0 1,.di),(.cell 0 2,.dat Uu),(.tmp 25,.dat Uc),(.tmp 26,.di),(.tmp 27,.di)]
abbrev ABC:Ao:=[(.ret,[(.tmp 2,.dat .bool)]),(.exit 0,[])]
def EJ[Lk]:(List U6×Int×List Bool×List U6×Int×Int×Unit)→Option ((List U6×Int×List Bool×List U6×Int×Int×Unit)⊕Ue⊕(Unit)⊕Unit):=fun(a0,a1,a2,a3,a4,a5,_)=>
 match(ilt a5 a4)with
 |true=>match idx a3 a5 with|none=>none|some x0=>match(ilt x0.1 0)with
  |true=>some (.inr (.inl (false,())))
  |false=>match(ile x0.2.1 x0.1)with
  |true=>some (.inr (.inl (false,())))
  |false=>match(ilt (AM a2) x0.2.1)with
  |true=>some (.inr (.inl (false,())))
  |false=>match(ilt x0.2.2.1 (-1:Int))with
  |true=>some (.inr (.inl (false,())))
  |false=>match(ile a5 x0.2.2.1)with
  |true=>some (.inr (.inl (false,())))
  |false=>match(ilt x0.2.2.2.1 0)with
  |true=>some (.inr (.inl (false,())))
  |false=>match(ilt 2 x0.2.2.2.1)with
  |true=>some (.inr (.inl (false,())))
  |false=>some (.inl (a0,a1,a2,a3,a4,(IntKind.wrap .i64 (a5+1)),()))
 |false=>some (.inr (.inr (.inl ())))
def Nu[Lk]:(((List U6)×Int×(List Bool)×Unit)×Unit)→Option (Ue):=fun(a0,_)=>
 match HR ((AM a0.2.2.1),a0.2.1,())with|none=>none|some (y0,_)=>match(!y0)with
 |true=>some (false,())
 |false=>match(ieq (AM a0.1) 0)with
 |true=>some (false,())
 |false=>match(ilt 2000 (AM a0.1))with
 |true=>some (false,())
 |false=>match AU EJ many (a0.1,a0.2.1,a0.2.2.1,a0.1,(AM a0.1),0,())with|none=>none|some r=>match r with
 |.inl (o1,_)=>some (o1,())
 |.inr r=>match r with
 |.inl _=>some (true,())
 |.inr _=>none
def Nv[Lk]:=fun v=>Lk.f (Nu v)
theorem ABE v:Nv v=Nu v:=AJ _
abbrev To:AE:=[(.tmp 0,.dat Uo),(.tmp 1,.di)]
abbrev Tn:AE:=[(.tmp 0,.di)]
abbrev Tm:List RS:=[.one]
def Nt[Lk]:(((List U6)×Int×(List Bool)×Unit)×Int×Unit)→Option (Ua):=fun(a0,a1,_)=>
 match Nv ((a0.1,(a0.2.1,(a0.2.2.1,()))),())with|none=>none|some (y0,_)=>match(!y0)with
 |true=>some (1,())
 |false=>match(ilt a1 0)with
 |true=>some (6,())
 |false=>match(ile (AM a0.1) a1)with
 |true=>some (6,())
 |false=>some (0,())
def Ka[Lk]:=fun v=>Lk.f (Nt v)
theorem ABB v:Ka v=Nt v:=AJ _
abbrev Tl:AE:=[(.tmp 0,.dat Vh)]
abbrev Tk:AE:=[(.tmp 0,.di)]
abbrev Tj:List RS:=[.one]
def Ns[Lk]:(U6×Unit)→Option (Ua):=fun(a0,_)=>
 some ((IntKind.wrap .i64 (a0.2.1-a0.1)),())
def IW[Lk]:=fun v=>Lk.f (Ns v)
theorem ABA v:IW v=Ns v:=AJ _
abbrev Tw:AE:=[(.tmp 0,.dat Uo),(.tmp 1,.di)]
abbrev Tv:AE:=[(.tmp 0,.dat .bool)]
abbrev Tu:List RS:=[.one]
def Nw[Lk]:(((List U6)×Int×(List Bool)×Unit)×Int×Unit)→Option (Ue):=fun(a0,a1,_)=>
 match Ka ((a0.1,(a0.2.1,(a0.2.2.1,()))),a1,())with|none=>none|some (y0,_)=>match(ieq y0 0)with
 |true=>match idx a0.1 a1 with|none=>none|some x1=>match IW ((x1.1,(x1.2.1,(x1.2.2.1,(x1.2.2.2.1,())))),())with|none=>none|some (y2,_)=>some ((ilt a0.2.1 y2),())
 |false=>some (false,())
def Nx[Lk]:=fun v=>Lk.f (Nw v)
theorem ABJ v:Nx v=Nw v:=AJ _
abbrev T1:AE:=[(.tmp 0,.di),(.tmp 1,.di)]
abbrev Tz:AE:=[(.tmp 0,.own 199 Vh),(.tmp 1,.di),(.tmp 2,.own 4 .bool),(.tmp 3,.di)]
abbrev Tx:List RS:=[.agg 3,.one]
def Ny[Lk]:U1→Option ((List U6×Int×List Bool×Int×Unit)):=fun(a0,a1,_)=>
 match HR (a0,a1,())with|none=>none|some (y0,_)=>match(!y0)with
 |true=>some (([]:List U6),0,([]:List (Bool)),1,())
 |false=>match(CL a0&&CL a0&&ile a0 a0&&true)with
 |true=>some (([((0:Int),(a0,((-1:Int),((0:Int),()))))]:List U6),a1,(D8 (AO a0) false),(0:Int),())
 |false=>none
def Q7[Lk]:=fun v=>Lk.f (Ny v)
theorem ABM v:Q7 v=Ny v:=AJ _
abbrev ABH:AE:=[(.tmp 0,.dat Uo),(.tmp 1,.di)]
abbrev ABG:AE:=[(.tmp 0,.dat Uc),(.tmp 1,.di),(.tmp 2,.dat Uu),(.tmp 3,.di),(.tmp 4,.di),(.tmp 5,.di)]
abbrev ABF:List RS:=[.agg 3,.one,.one,.one]
def Q5[Lk]:(((List U6)×Int×(List Bool)×Unit)×Int×Unit)→Option ((List U6×Int×List Bool×Int×Int×Int×Unit)):=fun(a0,a1,_)=>
 match Ka ((a0.1,(a0.2.1,(a0.2.2.1,()))),a1,())with|none=>none|some (y0,_)=>match(!(ieq y0 0))with
 |true=>some (a0.1,a0.2.1,a0.2.2.1,0,0,y0,())
 |false=>match idx a0.1 a1 with|none=>none|some x1=>match IW ((x1.1,(x1.2.1,(x1.2.2.1,(x1.2.2.2.1,())))),())with|none=>none|some (y2,_)=>match(ile y2 a0.2.1)with
 |true=>some (a0.1,a0.2.1,a0.2.2.1,0,0,5,())
 |false=>match(ilt 0 x1.2.2.2.1)with
 |true=>some (a0.1,a0.2.1,a0.2.2.1,0,0,5,())
 |false=>match(ilt 2000 (IntKind.wrap .i64 ((AM a0.1)+2)))with
 |true=>some (a0.1,a0.2.1,a0.2.2.1,0,0,2,())
 |false=>match IW ((x1.1,(x1.2.1,(x1.2.2.1,(x1.2.2.2.1,())))),())with|none=>none|some (y3,_)=>match quo? .i64 y3 2 with|none=>none|some x4=>match Qa a0.1 with|none=>none|some x5=>match(fits ((AM x5)+(AM ([(x1.1,((IntKind.wrap .i64 (x1.1+x4)),(a1,(0,())))),((IntKind.wrap .i64 (x1.1+x4)),(x1.2.1,(a1,(0,()))))]:List U6))))with
 |true=>match idx (BP x5 ([(x1.1,((IntKind.wrap .i64 (x1.1+x4)),(a1,(0,())))),((IntKind.wrap .i64 (x1.1+x4)),(x1.2.1,(a1,(0,()))))]:List U6)) a1 with|none=>none|some x6=>some ((Az (BP x5 ([(x1.1,((IntKind.wrap .i64 (x1.1+x4)),(a1,(0,())))),((IntKind.wrap .i64 (x1.1+x4)),(x1.2.1,(a1,(0,()))))]:List U6)) (AO a1) ((AY (BP x5 ([(x1.1,((IntKind.wrap .i64 (x1.1+x4)),(a1,(0,())))),((IntKind.wrap .i64 (x1.1+x4)),(x1.2.1,(a1,(0,()))))]:List U6)) (AO a1) (0,(0,(0,(0,()))))).1,((AY (BP x5 ([(x1.1,((IntKind.wrap .i64 (x1.1+x4)),(a1,(0,())))),((IntKind.wrap .i64 (x1.1+x4)),(x1.2.1,(a1,(0,()))))]:List U6)) (AO a1) (0,(0,(0,(0,()))))).2.1,((AY (BP x5 ([(x1.1,((IntKind.wrap .i64 (x1.1+x4)),(a1,(0,())))),((IntKind.wrap .i64 (x1.1+x4)),(x1.2.1,(a1,(0,()))))]:List U6)) (AO a1) (0,(0,(0,(0,()))))).2.2.1,(2,()))))),a0.2.1,a0.2.2.1,(AM a0.1),(IntKind.wrap .i64 ((AM a0.1)+1)),0,())
 |false=>none
def ABI[Lk]:=fun v=>Lk.f (Q5 v)
theorem AIy v:ABI v=Q5 v:=AJ _
abbrev PW:AE:=[(.tmp 0,.own 199 Vh),(.tmp 1,.di)]
abbrev PV:AE:=[(.obj 0,.own 199 Vh),(.tmp 0,.dat .bool)]
abbrev PU:List RS:=[.one]
abbrev Xw:AE:=[(.obj 0,.own 199 Vh),(.tmp 0,.own' 0),(.tmp 1,.di)]
abbrev Xv:Ao:=[(.ret,[(.obj 0,.own 199 Vh),(.tmp 4,.dat .bool)]),(.exit 0,[(.obj 0,.own 199 Vh)])]
def DK[Lk]:(List U6×Int×Unit)→Option ((List U6×Int×Unit)⊕(List U6×Bool×Unit)⊕(List U6×Unit)⊕Unit):=fun(a0,a1,_)=>
 match(!(ieq a1 (-1:Int)))with
 |true=>match idx a0 a1 with|none=>none|some x0=>match(ieq (AY a0 (AO a1) (0,(0,(0,(0,()))))).2.2.2.1 0)with
  |true=>some (.inr (.inl (a0,false,())))
  |false=>match(ilt 0 (AY (Az a0 (AO a1) ((AY a0 (AO a1) (0,(0,(0,(0,()))))).1,((AY a0 (AO a1) (0,(0,(0,(0,()))))).2.1,((AY a0 (AO a1) (0,(0,(0,(0,()))))).2.2.1,((IntKind.wrap .i64 ((AY a0 (AO a1) (0,(0,(0,(0,()))))).2.2.2.1-1)),()))))) (AO a1) (0,(0,(0,(0,()))))).2.2.2.1)with
  |true=>some (.inr (.inl ((Az a0 (AO a1) ((AY a0 (AO a1) (0,(0,(0,(0,()))))).1,((AY a0 (AO a1) (0,(0,(0,(0,()))))).2.1,((AY a0 (AO a1) (0,(0,(0,(0,()))))).2.2.1,((IntKind.wrap .i64 ((AY a0 (AO a1) (0,(0,(0,(0,()))))).2.2.2.1-1)),()))))),false,())))
  |false=>some (.inl ((Az a0 (AO a1) ((AY a0 (AO a1) (0,(0,(0,(0,()))))).1,((AY a0 (AO a1) (0,(0,(0,(0,()))))).2.1,((AY a0 (AO a1) (0,(0,(0,(0,()))))).2.2.1,((IntKind.wrap .i64 ((AY a0 (AO a1) (0,(0,(0,(0,()))))).2.2.2.1-1)),()))))),(AY (Az a0 (AO a1) ((AY a0 (AO a1) (0,(0,(0,(0,()))))).1,((AY a0 (AO a1) (0,(0,(0,(0,()))))).2.1,((AY a0 (AO a1) (0,(0,(0,(0,()))))).2.2.1,((IntKind.wrap .i64 ((AY a0 (AO a1) (0,(0,(0,(0,()))))).2.2.2.1-1)),()))))) (AO a1) (0,(0,(0,(0,()))))).2.2.1,()))
 |false=>some (.inr (.inr (.inl (a0,()))))
def Kb[Lk]:(List U6×Int×Unit)→Option ((List U6×Bool×Unit)):=fun(a0,a1,_)=>
 match AU DK many (a0,a1,())with|none=>none|some r=>match r with
 |.inl (o0,o1,_)=>some (o0,o1,())
 |.inr r=>match r with
 |.inl (o2,_)=>some (o2,true,())
 |.inr _=>none
def MQ[Lk]:=fun v=>Lk.f (Kb v)
theorem Xx v:MQ v=Kb v:=AJ _
abbrev AWu:AE:=[(.tmp 0,.dat Uo),(.tmp 1,.di)]
abbrev AWt:AE:=[(.tmp 0,.dat Uc),(.tmp 1,.di),(.tmp 2,.dat Uu),(.tmp 3,.dat .bool),(.tmp 4,.di)]
abbrev AWs:List RS:=[.agg 3,.one,.one]
abbrev Ab3:AE:=[(.tmp 2,.box 3),(.cell 0 0,.own 199 Vh),(.cell 0 1,.di),(.cell 0 2,.own 4 .bool),(.tmp 4,.box 3),(.cell 3 0,.nil Vh),(.cell 3 1,.di),(.cell 3 2,.nil .bool),(.tmp 8,.box 4),(.cell 4 0,.di),(.cell 4 1,.di),(.cell 4 2,.di),(.cell 4 3,.di),(.tmp 9,.di)]
abbrev Ab2:Ao:=[(.exit 0,[(.tmp 2,.box 3),(.cell 0 0,.own 199 Vh),(.cell 0 1,.di),(.cell 0 2,.own 4 .bool),(.tmp 4,.box 3),(.cell 3 0,.nil Vh),(.cell 3 1,.di),(.cell 3 2,.nil .bool),(.tmp 8,.box 4),(.cell 4 0,.di),(.cell 4 1,.di),(.cell 4 2,.di),(.cell 4 3,.di)])]
def Kc[Lk]:(List U6×Int×List Bool×Int×Int×Int×Int×Int×Int×Unit)→Option ((List U6×Int×List Bool×Int×Int×Int×Int×Int×Int×Unit)⊕(List U6×Int×List Bool×Int×Int×Int×Int×Int×Unit)⊕Unit):=fun(a0,a1,a2,a3,a4,a5,a6,a7,a8,_)=>
 match(ilt a8 a5)with
 |true=>match idx a2 a8 with|none=>none|some x0=>some (.inl (a0,a1,(Az a2 (AO a8) true),a3,a4,a5,a6,a7,(IntKind.wrap .i64 (a8+1)),()))
 |false=>some (.inr (.inl (a0,a1,a2,a3,a4,a5,a6,a7,())))
def ALq[Lk]:(((List U6)×Int×(List Bool)×Unit)×Int×Unit)→Option ((List U6×Int×List Bool×Bool×Int×Unit)):=fun(a0,a1,_)=>
 match Ka ((a0.1,(a0.2.1,(a0.2.2.1,()))),a1,())with|none=>none|some (y0,_)=>match(!(ieq y0 0))with
 |true=>some (a0.1,a0.2.1,a0.2.2.1,false,y0,())
 |false=>match idx a0.1 a1 with|none=>none|some x1=>match IW ((x1.1,(x1.2.1,(x1.2.2.1,(x1.2.2.2.1,())))),())with|none=>none|some (y2,_)=>match(ilt a0.2.1 y2)with
 |true=>some (a0.1,a0.2.1,a0.2.2.1,false,5,())
 |false=>match(ilt 0 x1.2.2.2.1)with
 |true=>some (a0.1,a0.2.1,a0.2.2.1,false,5,())
 |false=>match idx a0.2.2.1 x1.1 with|none=>none|some x3=>match x3 with
 |true=>some (a0.1,a0.2.1,a0.2.2.1,false,5,())
 |false=>match Qa a0.1 with|none=>none|some x4=>match Qa a0.2.2.1 with|none=>none|some x5=>match AU Kc many (x4,a0.2.1,x5,0,x1.1,x1.2.1,x1.2.2.1,x1.2.2.2.1,x1.1,())with|none=>none|some r=>match r with
 |.inl (o6,o7,o8,o9,o10,o11,o12,o13,_)=>match MQ (o6,o12,())with|none=>none|some (y14,y15,_)=>some (y14,o7,o8,y15,0,())
 |.inr _=>none
def Aif[Lk]:=fun v=>Lk.f (ALq v)
theorem Ab4 v:Aif v=ALq v:=AJ _
abbrev Qd:AE:=[(.tmp 0,.di)]
abbrev Qc:AE:=[(.tmp 0,.dat .bool)]
abbrev Qb:List RS:=[.one]
def Lb[Lk]:Ua→Option (Ue):=fun(a0,_)=>
 match(ile 0 a0)with
 |true=>some ((ile a0 100000),())
 |false=>some (false,())
def KG[Lk]:=fun v=>Lk.f (Lb v)
theorem Yw v:KG v=Lb v:=AJ _
abbrev AF0:AE:=[(.tmp 0,.dat Uo),(.tmp 1,.di)]
abbrev AFz:AE:=[(.tmp 0,.dat .bool)]
abbrev AFy:List RS:=[.one]
def Sc[Lk]:(((List U6)×Int×(List Bool)×Unit)×Int×Unit)→Option (Ue):=fun(a0,a1,_)=>
 match(ile 0 a1)with
 |true=>match(ilt a1 (AM a0.1))with
  |true=>match idx a0.1 a1 with|none=>none|some x0=>match(ieq x0.2.2.2.1 0)with
   |true=>match Nx ((a0.1,(a0.2.1,(a0.2.2.1,()))),a1,())with|none=>none|some (y1,_)=>match y1 with
    |true=>some (true,())
    |false=>match idx a0.1 a1 with|none=>none|some x2=>match idx a0.2.2.1 x2.1 with|none=>none|some x3=>some ((!x3),())
   |false=>some (false,())
  |false=>some (false,())
 |false=>some (false,())
def AF1[Lk]:=fun v=>Lk.f (Sc v)
theorem AKb v:AF1 v=Sc v:=AJ _
abbrev AFf:AE:=[(.tmp 0,.dat Vg)]
abbrev AFe:AE:=[(.tmp 0,.dat .bool)]
abbrev AFd:List RS:=[.one]
abbrev AKW:AE:=[(.tmp 1,.box 7),(.cell 0 0,.dat Uc),(.cell 0 1,.di),(.cell 0 2,.dat Uu),(.cell 0 3,.dat Uh),(.cell 0 4,.dat .bool),(.cell 0 5,.di),(.cell 0 6,.di),(.tmp 3,.map U2 U2),(.tmp 38,.dat Uh),(.tmp 39,.di),(.tmp 40,.di),(.tmp 44,.dat U7),(.tmp 45,.di),(.tmp 46,.di)]
abbrev AKU:Ao:=[(.ret,[(.tmp 2,.dat .bool)]),(.exit 2,[(.tmp 1,.box 7),(.cell 0 0,.dat Uc),(.cell 0 1,.di),(.cell 0 2,.dat Uu),(.cell 0 3,.dat Uh),(.cell 0 4,.dat .bool),(.cell 0 5,.di),(.cell 0 6,.di),(.tmp 3,.map U2 U2),(.tmp 38,.dat Uh),(.tmp 39,.di),(.tmp 40,.di)])]
def Er[Lk]:Vk→Option (Vk⊕Ue⊕V9⊕Unit):=fun(a0,a1,a2,a3,a4,a5,a6,a7,a8,a9,a10,a11,a12,a13,_)=>
 match(ilt a13 a12)with
 |true=>match idx a11 a13 with|none=>none|some x0=>match(ilt 1 ((AS (Ad a7 x0 (IntKind.wrap .i64 (((AS a7 x0).getD 0)+1))) x0).getD 0))with
  |true=>some (.inr (.inl (false,())))
  |false=>match AF1 ((a0,(a1,(a2,()))),x0,())with|none=>none|some (y1,_)=>match(!y1)with
  |true=>some (.inr (.inl (false,())))
  |false=>some (.inl (a0,a1,a2,a3,a4,a5,a6,(Ad a7 x0 (IntKind.wrap .i64 (((AS a7 x0).getD 0)+1))),a8,a9,a10,a11,a12,(IntKind.wrap .i64 (a13+1)),()))
 |false=>some (.inr (.inr (.inl (a0,a1,a2,a3,a4,a5,a6,a7,a8,a9,a10,()))))
abbrev AKX:AE:=[(.tmp 1,.box 7),(.cell 0 0,.dat Uc),(.cell 0 1,.di),(.cell 0 2,.dat Uu),(.cell 0 3,.dat Uh),(.cell 0 4,.dat .bool),(.cell 0 5,.di),(.cell 0 6,.di),(.tmp 3,.map U2 U2),(.tmp 38,.dat Uh),(.tmp 39,.di),(.tmp 40,.di)]
abbrev AKV:Ao:=[(.ret,[(.tmp 2,.dat .bool)]),(.exit 0,[])]
def GD[Lk]:V9→Option (V9⊕Ue⊕(Unit)⊕Unit):=fun(a0,a1,a2,a3,a4,a5,a6,a7,a8,a9,a10,_)=>
 match(ilt a10 a9)with
 |true=>match idx a8 a10 with|none=>none|some x0=>match AU Er many (a0,a1,a2,a3,a4,a5,a6,a7,a8,a9,a10,x0,(AM x0),0,())with|none=>none|some r=>match r with
  |.inl (o1,_)=>some (.inr (.inl (o1,())))
  |.inr r=>match r with
  |.inl (o2,o3,o4,o5,o6,o7,o8,o9,o10,o11,o12,_)=>some (.inl (o2,o3,o4,o5,o6,o7,o8,o9,o10,o11,(IntKind.wrap .i64 (o12+1)),()))
  |.inr _=>none
 |false=>some (.inr (.inr (.inl ())))
def SO[Lk]:((((List U6)×Int×(List Bool)×Unit)×(List U5)×Bool×Int×Int×Unit)×Unit)→Option (Ue):=fun(a0,_)=>
 match Nv ((a0.1.1,(a0.1.2.1,(a0.1.2.2.1,()))),())with|none=>none|some (y0,_)=>match(!y0)with
 |true=>some (false,())
 |false=>match(ieq (AM a0.2.1) 0)with
 |true=>some (false,())
 |false=>match(ilt 8 (AM a0.2.1))with
 |true=>some (false,())
 |false=>match KG (a0.2.2.2.1,())with|none=>none|some (y1,_)=>match(!y1)with
 |true=>some (false,())
 |false=>match KG (a0.2.2.2.2.1,())with|none=>none|some (y2,_)=>match(!y2)with
 |true=>some (false,())
 |false=>match AU GD many (a0.1.1,a0.1.2.1,a0.1.2.2.1,a0.2.1,a0.2.2.1,a0.2.2.2.1,a0.2.2.2.2.1,([]:List Uz),a0.2.1,(AM a0.2.1),0,())with|none=>none|some r=>match r with
 |.inl (o3,_)=>some (o3,())
 |.inr r=>match r with
 |.inl _=>some (true,())
 |.inr _=>none
def AFg[Lk]:=fun v=>Lk.f (SO v)
theorem AKY v:AFg v=SO v:=AJ _
abbrev AF9:AE:=[(.tmp 0,.di),(.tmp 1,.di),(.tmp 2,.di)]
abbrev AF8:AE:=[(.tmp 0,.own 199 Vh),(.tmp 1,.di),(.tmp 2,.own 4 .bool),(.tmp 3,.own 41 U7),(.tmp 4,.dat .bool),(.tmp 5,.di),(.tmp 6,.di),(.tmp 7,.di)]
abbrev AF7:List RS:=[.agg 7,.one]
def Se[Lk]:Ub→Option ((List U6×Int×List Bool×List U5×Bool×Int×Int×Int×Unit)):=fun(a0,a1,a2,_)=>
 match(ilt a2 1)with
 |true=>some (([]:List U6),0,([]:List (Bool)),([]:List U5),false,0,0,1,())
 |false=>match(ilt 8 a2)with
 |true=>some (([]:List U6),0,([]:List (Bool)),([]:List U5),false,0,0,1,())
 |false=>match Q7 (a0,a1,())with|none=>none|some (y0,y1,y2,y3,_)=>match(!(ieq y3 0))with
 |true=>some (([]:List U6),0,([]:List (Bool)),([]:List U5),false,0,0,y3,())
 |false=>match(CL a2&&CL a2&&ile a2 a2&&true)with
 |true=>match idx (D8 (AO a2) ()) (0:Int)with|none=>none|some x4=>match(fits (AM ([0]:List (Int))))with
  |true=>match idx (D8 (AO a2) ()) (0:Int)with|none=>none|some x5=>some (y0,y1,y2,(Az (D8 (List.length (D8 (AO a2) ())) []) 0 ([(0:Int)]:List (Int))),false,(0:Int),(0:Int),(0:Int),())
  |false=>none
 |false=>none
def AGA[Lk]:=fun v=>Lk.f (Se v)
theorem AKd v:AGA v=Se v:=AJ _
abbrev APR:AE:=[(.tmp 0,.dat Vg)]
abbrev APQ:AE:=[(.tmp 0,.di)]
abbrev APP:List RS:=[.one]
abbrev AVY:AE:=[(.tmp 2,.di),(.tmp 6,.dat Uh),(.tmp 7,.di),(.tmp 8,.di)]
abbrev AVX:Ao:=[(.exit 0,[(.tmp 2,.di)])]
def H9[Lk]:(Int×List U5×Int×Int×Unit)→Option ((Int×List U5×Int×Int×Unit)⊕Ua⊕Unit):=fun(a0,a1,a2,a3,_)=>
 match(ilt a3 a2)with
 |true=>match idx a1 a3 with|none=>none|some x0=>some (.inl ((IntKind.wrap .i64 (a0+(AM x0))),a1,a2,(IntKind.wrap .i64 (a3+1)),()))
 |false=>some (.inr (.inl (a0,())))
def AAL[Lk]:((((List U6)×Int×(List Bool)×Unit)×(List U5)×Bool×Int×Int×Unit)×Unit)→Option (Ua):=fun(a0,_)=>
 match AU H9 many (0,a0.2.1,(AM a0.2.1),0,())with|none=>none|some r=>match r with
 |.inl (o0,_)=>some (o0,())
 |.inr _=>none
def AVa[Lk]:=fun v=>Lk.f (AAL v)
theorem AVZ v:AVa v=AAL v:=AJ _
abbrev W3:AE:=[(.tmp 0,.box 11),(.cell 0 0,.dat Uc),(.cell 0 1,.di),(.cell 0 2,.dat Uu),(.cell 0 3,.own 41 U7),(.cell 0 4,.dat .bool),(.cell 0 5,.di),(.cell 0 6,.di),(.cell 0 7,.di),(.cell 0 8,.di),(.cell 0 9,.di),(.cell 0 10,.dat .bool),(.tmp 1,.di)]
abbrev W2:AE:=[(.obj 0,.box 11),(.cell 0 0,.dat Uc),(.cell 0 1,.di),(.cell 0 2,.dat Uu),(.cell 0 3,.own 41 U7),(.cell 0 4,.dat .bool),(.cell 0 5,.di),(.cell 0 6,.di),(.cell 0 7,.di),(.cell 0 8,.di),(.cell 0 9,.di),(.cell 0 10,.dat .bool),(.obj 1,.own' 1),(.tmp 0,.di)]
abbrev W1:List RS:=[.one]
def OP[Lk]:Uw→Option (Uw):=fun(a0,a1,a2,a3,a4,a5,a6,a7,a8,a9,a10,a11,_)=>
 match rem? a11 (AM a3)with|none=>none|some x0=>match rem? (IntKind.wrap .i64 (x0+(AM a3))) (AM a3)with|none=>none|some x1=>some (a0,a1,a2,a3,a4,a5,a6,a7,a8,a9,a10,x1,())
def OQ[Lk]:=fun v=>Lk.f (OP v)
theorem AFr v:OQ v=OP v:=AJ _
abbrev AF4:AE:=[(.tmp 0,.box 11),(.cell 0 0,.dat Uc),(.cell 0 1,.di),(.cell 0 2,.dat Uu),(.cell 0 3,.own 41 U7),(.cell 0 4,.dat .bool),(.cell 0 5,.di),(.cell 0 6,.di),(.cell 0 7,.di),(.cell 0 8,.di),(.cell 0 9,.di),(.cell 0 10,.dat .bool),(.tmp 1,.di),(.tmp 2,.di)]
abbrev AF3:AE:=[(.obj 0,.box 11),(.cell 0 0,.dat Uc),(.cell 0 1,.di),(.cell 0 2,.dat Uu),(.cell 0 3,.own 41 U7),(.cell 0 4,.dat .bool),(.cell 0 5,.di),(.cell 0 6,.di),(.cell 0 7,.di),(.cell 0 8,.di),(.cell 0 9,.di),(.cell 0 10,.dat .bool),(.obj 1,.own' 1),(.tmp 0,.dat .bool)]
abbrev AF2:List RS:=[.one]
def Sd[Lk]:(List U6×Int×List Bool×List U5×Bool×Int×Int×Int×Int×Int×Bool×Int×Int×Unit)→Option ((List U6×Int×List Bool×List U5×Bool×Int×Int×Int×Int×Int×Bool×Bool×Unit)):=fun(a0,a1,a2,a3,a4,a5,a6,a7,a8,a9,a10,a11,a12,_)=>
 match idx a3 a11 with|none=>none|some x0=>match idx a3 a12 with|none=>none|some x1=>match(ile 0 (IntKind.wrap .i64 ((AM (AY a3 (AO a11) ([]:List (Int))))-1)))with
 |true=>match idx (AY a3 (AO a11) ([]:List (Int))) (IntKind.wrap .i64 ((AM (AY a3 (AO a11) ([]:List (Int))))-1))with|none=>none|some x2=>match(ieq (IntKind.wrap .i64 ((AM (AY a3 (AO a11) ([]:List (Int))))-1)) (IntKind.wrap .i64 ((AM (AY a3 (AO a11) ([]:List (Int))))-1)))with
  |true=>match EK (AY a3 (AO a11) ([]:List (Int))) 0 (IntKind.wrap .i64 ((AM (AY a3 (AO a11) ([]:List (Int))))-1))with|none=>none|some x3=>match idx a3 a11 with|none=>none|some x4=>some (a0,a1,a2,(Az a3 (AO a11) x3),a4,a5,a6,a7,a11,x2,a10,true,())
  |false=>none
 |false=>match(ilt 0 (AM (AY a3 (AO a12) ([]:List (Int)))))with
 |true=>match idx (AY a3 (AO a12) ([]:List (Int))) 0 with|none=>none|some x5=>match EK (AY a3 (AO a12) ([]:List (Int))) 1 (AM (AY a3 (AO a12) ([]:List (Int))))with|none=>none|some x6=>match idx a3 a12 with|none=>none|some x7=>some (a0,a1,a2,(Az a3 (AO a12) x6),a4,a5,a6,a7,a12,x5,a10,true,())
 |false=>some (a0,a1,a2,a3,a4,a5,a6,a7,a8,a9,a10,false,())
def AF5[Lk]:=fun v=>Lk.f (Sd v)
theorem AKc v:AF5 v=Sd v:=AJ _
abbrev AmY:AE:=[(.tmp 0,.box 11),(.cell 0 0,.dat Uc),(.cell 0 1,.di),(.cell 0 2,.dat Uu),(.cell 0 3,.own 41 U7),(.cell 0 4,.dat .bool),(.cell 0 5,.di),(.cell 0 6,.di),(.cell 0 7,.di),(.cell 0 8,.di),(.cell 0 9,.di),(.cell 0 10,.dat .bool),(.tmp 1,.di)]
abbrev AmX:AE:=[(.obj 0,.box 11),(.cell 0 0,.dat Uc),(.cell 0 1,.di),(.cell 0 2,.dat Uu),(.cell 0 3,.own 41 U7),(.cell 0 4,.dat .bool),(.cell 0 5,.di),(.cell 0 6,.di),(.cell 0 7,.di),(.cell 0 8,.di),(.cell 0 9,.di),(.cell 0 10,.dat .bool),(.obj 1,.own' 1),(.tmp 0,.di)]
abbrev AmW:List RS:=[.one]
def AdQ[Lk]:Uw→Option (Uw):=fun(a0,a1,a2,a3,a4,a5,a6,a7,a8,a9,a10,a11,_)=>
 match Nx ((a0,(a1,(a2,()))),a9,())with|none=>none|some (y0,_)=>match y0 with
 |true=>match ABI ((a0,(a1,(a2,()))),a9,())with|none=>none|some (y1,y2,y3,y4,y5,y6,_)=>match(ieq y6 0)with
  |true=>match idx a3 a11 with|none=>none|some x7=>match(fits ((AM (AY a3 (AO a11) ([]:List (Int))))+(AM ([y5,y4]:List (Int)))))with
   |true=>match idx a3 a11 with|none=>none|some x8=>some (y1,y2,y3,(Az a3 (AO a11) (BP (AY a3 (AO a11) ([]:List (Int))) ([y5,y4]:List (Int)))),a4,a5,a6,a7,a8,a9,true,y6,())
   |false=>none
  |false=>some (y1,y2,y3,a3,a4,a5,a6,a7,a8,a9,a10,y6,())
 |false=>match Aif ((a0,(a1,(a2,()))),a9,())with|none=>none|some (y9,y10,y11,y12,y13,_)=>match a4 with
 |true=>some (y9,y10,y11,a3,true,a5,a6,a7,a8,a9,a10,y13,())
 |false=>some (y9,y10,y11,a3,y12,a5,a6,a7,a8,a9,a10,y13,())
def cgo[Lk]:=fun v=>Lk.f (AdQ v)
theorem AmZ v:cgo v=AdQ v:=AJ _
abbrev AO2:AE:=[(.tmp 0,.dat Vg),(.tmp 1,.di),(.tmp 2,.di)]
abbrev AO1:AE:=[(.tmp 0,.dat Uc),(.tmp 1,.di),(.tmp 2,.dat Uu),(.tmp 3,.dat Uh),(.tmp 4,.dat .bool),(.tmp 5,.di),(.tmp 6,.di),(.tmp 7,.dat U3),(.tmp 8,.di)]
abbrev AO0:List RS:=[.agg 7,.one,.one]
def AAK[Lk]:((((List U6)×Int×(List Bool)×Unit)×(List U5)×Bool×Int×Int×Unit)×Int×Int×Unit)→Option ((List U6×Int×List Bool×List U5×Bool×Int×Int×U4×Int×Unit)):=fun(a0,a1,a2,_)=>
 match AFg (((a0.1.1,(a0.1.2.1,(a0.1.2.2.1,()))),(a0.2.1,(a0.2.2.1,(a0.2.2.2.1,(a0.2.2.2.2.1,()))))),())with|none=>none|some (y0,_)=>match(!y0)with
 |true=>some (a0.1.1,a0.1.2.1,a0.1.2.2.1,a0.2.1,a0.2.2.1,a0.2.2.2.1,a0.2.2.2.2.1,(0,(0,(0,(false,())))),1,())
 |false=>match(ieq a0.2.2.2.1 100000)with
 |true=>some (a0.1.1,a0.1.2.1,a0.1.2.2.1,a0.2.1,a0.2.2.1,a0.2.2.2.1,a0.2.2.2.2.1,(0,(0,(0,(false,())))),2,())
 |false=>match Qa a0.2.1 with|none=>none|some x1=>match OQ (a0.1.1,a0.1.2.1,a0.1.2.2.1,x1,a0.2.2.1,a0.2.2.2.1,a0.2.2.2.2.1,0,(-1:Int),(-1:Int),false,a1,())with|none=>none|some (y2,y3,y4,y5,y6,y7,y8,y9,y10,y11,y12,y13,_)=>match OQ (y2,y3,y4,y5,y6,y7,y8,y9,y10,y11,y12,a2,())with|none=>none|some (y14,y15,y16,y17,y18,y19,y20,y21,y22,y23,y24,y25,_)=>match AF5 (y14,y15,y16,y17,y18,(IntKind.wrap .i64 (y19+1)),y20,y13,y22,y23,y24,y13,y25,())with|none=>none|some (y26,y27,y28,y29,y30,y31,y32,y33,y34,y35,y36,y37,_)=>match y37 with
 |true=>match cgo (y26,y27,y28,y29,y30,y31,y32,y33,y34,y35,y36,y13,())with|none=>none|some (y38,y39,y40,y41,y42,y43,y44,y45,y46,y47,y48,y49,_)=>match(!(ieq y49 0))with
  |true=>some (a0.1.1,a0.1.2.1,a0.1.2.2.1,a0.2.1,a0.2.2.1,a0.2.2.2.1,a0.2.2.2.2.1,(0,(0,(0,(false,())))),y49,())
  |false=>some (y38,y39,y40,y41,y42,y43,y44,(y45,(y46,(y47,(y48,())))),0,())
 |false=>match(ieq y32 100000)with
 |true=>some (a0.1.1,a0.1.2.1,a0.1.2.2.1,a0.2.1,a0.2.2.1,a0.2.2.2.1,a0.2.2.2.2.1,(0,(0,(0,(false,())))),2,())
 |false=>some (y26,y27,y28,y29,y30,y31,(IntKind.wrap .i64 (y32+1)),(y33,(y34,(y35,(y36,())))),0,())
def AU8[Lk]:=fun v=>Lk.f (AAK v)
theorem AU7 v:AU8 v=AAK v:=AJ _
abbrev AOg:AE:=[(.tmp 0,.box 8),(.cell 0 0,.dat Uc),(.cell 0 1,.di),(.cell 0 2,.dat Uu),(.cell 0 3,.dat Uh),(.cell 0 4,.dat .bool),(.cell 0 5,.di),(.cell 0 6,.di),(.cell 0 7,.own 193 U3),(.tmp 1,.di),(.tmp 2,.di)]
abbrev AOf:AE:=[(.obj 0,.box 8),(.cell 0 0,.dat Uc),(.cell 0 1,.di),(.cell 0 2,.dat Uu),(.cell 0 3,.dat Uh),(.cell 0 4,.dat .bool),(.cell 0 5,.di),(.cell 0 6,.di),(.cell 0 7,.own 193 U3),(.tmp 0,.di)]
abbrev AOe:List RS:=[.one]
def AAH[Lk]:(List U6×Int×List Bool×List U5×Bool×Int×Int×List U4×Int×Int×Unit)→Option (Uj):=fun(a0,a1,a2,a3,a4,a5,a6,a7,a8,a9,_)=>
 match AU8 (((a0,(a1,(a2,()))),(a3,(a4,(a5,(a6,()))))),a8,a9,())with|none=>none|some (y0,y1,y2,y3,y4,y5,y6,y7,y8,_)=>match(ieq y8 0)with
 |true=>match(fits ((AM a7)+(AM ([(y7.1,(y7.2.1,(y7.2.2.1,(y7.2.2.2.1,()))))]:List U4))))with
  |true=>some (y0,y1,y2,y3,y4,y5,y6,(BP a7 ([(y7.1,(y7.2.1,(y7.2.2.1,(y7.2.2.2.1,()))))]:List U4)),y8,())
  |false=>none
 |false=>some (a0,a1,a2,a3,a4,a5,a6,a7,y8,())
def AKM[Lk]:=fun v=>Lk.f (AAH v)
theorem AUr v:AKM v=AAH v:=AJ _
abbrev We:AE:=[(.tmp 0,.box 8),(.cell 0 0,.dat Uc),(.cell 0 1,.di),(.cell 0 2,.dat Uu),(.cell 0 3,.dat Uh),(.cell 0 4,.dat .bool),(.cell 0 5,.di),(.cell 0 6,.di),(.cell 0 7,.own 193 U3)]
abbrev Wd:AE:=[(.obj 0,.box 8),(.cell 0 0,.dat Uc),(.cell 0 1,.di),(.cell 0 2,.dat Uu),(.cell 0 3,.dat Uh),(.cell 0 4,.dat .bool),(.cell 0 5,.di),(.cell 0 6,.di),(.cell 0 7,.own 193 U3),(.tmp 0,.di)]
abbrev Wc:List RS:=[.one]
abbrev AFI:AE:=[(.obj 0,.box 8),(.cell 0 0,.dat Uc),(.cell 0 1,.di),(.cell 0 2,.dat Uu),(.cell 0 3,.dat Uh),(.cell 0 4,.dat .bool),(.cell 0 5,.di),(.cell 0 6,.di),(.cell 0 7,.own 193 U3),(.tmp 0,.ptr' 0 0),(.tmp 3,.di),(.tmp 13,.di),(.tmp 14,.di)]
abbrev AFG:Ao:=[(.ret,[(.obj 0,.box 8),(.cell 0 0,.dat Uc),(.cell 0 1,.di),(.cell 0 2,.dat Uu),(.cell 0 3,.dat Uh),(.cell 0 4,.dat .bool),(.cell 0 5,.di),(.cell 0 6,.di),(.cell 0 7,.own 193 U3),(.tmp 2,.di)]),(.exit 2,[(.obj 0,.box 8),(.cell 0 0,.dat Uc),(.cell 0 1,.di),(.cell 0 2,.dat Uu),(.cell 0 3,.dat Uh),(.cell 0 4,.dat .bool),(.cell 0 5,.di),(.cell 0 6,.di),(.cell 0 7,.own 193 U3),(.tmp 0,.ptr' 0 0),(.tmp 3,.di)])]
def CJ[Lk]:(List U6×Int×List Bool×List U5×Bool×Int×Int×List U4×Int×Int×Int×Unit)→Option ((List U6×Int×List Bool×List U5×Bool×Int×Int×List U4×Int×Int×Int×Unit)⊕Uj⊕Uj⊕Unit):=fun(a0,a1,a2,a3,a4,a5,a6,a7,a8,a9,a10,_)=>
 match(ilt a10 a9)with
 |true=>match a4 with
  |true=>some (.inr (.inl (a0,a1,a2,a3,a4,a5,a6,a7,0,())))
  |false=>match AVa (((a0,(a1,(a2,()))),(a3,(a4,(a5,(a6,()))))),())with|none=>none|some (y0,_)=>match(ieq y0 0)with
  |true=>some (.inr (.inl (a0,a1,a2,a3,a4,a5,a6,a7,4,())))
  |false=>match AKM (a0,a1,a2,a3,a4,a5,a6,a7,a10,(IntKind.wrap .i64 ((IntKind.wrap .i64 (a10+1))+a8)),())with|none=>none|some (y1,y2,y3,y4,y5,y6,y7,y8,y9,_)=>match(!(ieq y9 0))with
  |true=>some (.inr (.inl (y1,y2,y3,y4,y5,y6,y7,y8,y9,())))
  |false=>some (.inl (y1,y2,y3,y4,y5,y6,y7,y8,a8,a9,(IntKind.wrap .i64 (a10+1)),()))
 |false=>some (.inr (.inr (.inl (a0,a1,a2,a3,a4,a5,a6,a7,a8,()))))
abbrev AFJ:AE:=[(.obj 0,.box 8),(.cell 0 0,.dat Uc),(.cell 0 1,.di),(.cell 0 2,.dat Uu),(.cell 0 3,.dat Uh),(.cell 0 4,.dat .bool),(.cell 0 5,.di),(.cell 0 6,.di),(.cell 0 7,.own 193 U3),(.tmp 0,.ptr' 0 0),(.tmp 3,.di)]
abbrev AFH:Ao:=[(.ret,[(.obj 0,.box 8),(.cell 0 0,.dat Uc),(.cell 0 1,.di),(.cell 0 2,.dat Uu),(.cell 0 3,.dat Uh),(.cell 0 4,.dat .bool),(.cell 0 5,.di),(.cell 0 6,.di),(.cell 0 7,.own 193 U3),(.tmp 2,.di)])]
def Cw[Lk]:Uj→Option (Uj⊕Uj⊕Unit):=fun(a0,a1,a2,a3,a4,a5,a6,a7,a8,_)=>
 match AU CJ many (a0,a1,a2,a3,a4,a5,a6,a7,a8,(AM a3),0,())with|none=>none|some r=>match r with
 |.inl (o0,o1,o2,o3,o4,o5,o6,o7,o8,_)=>some (.inr (.inl (o0,o1,o2,o3,o4,o5,o6,o7,o8,())))
 |.inr r=>match r with
 |.inl (o9,o10,o11,o12,o13,o14,o15,o16,o17,_)=>some (.inl (o9,o10,o11,o12,o13,o14,o15,o16,(IntKind.wrap .i64 (o17+1)),()))
 |.inr _=>none
def OK[Lk]:(List U6×Int×List Bool×List U5×Bool×Int×Int×List U4×Unit)→Option (Uj):=fun(a0,a1,a2,a3,a4,a5,a6,a7,_)=>
 match AU Cw many (a0,a1,a2,a3,a4,a5,a6,a7,0,())with|none=>none|some r=>match r with
 |.inl (o0,o1,o2,o3,o4,o5,o6,o7,o8,_)=>some (o0,o1,o2,o3,o4,o5,o6,o7,o8,())
 |.inr _=>none
def SF[Lk]:=fun v=>Lk.f (OK v)
theorem AFK v:SF v=OK v:=AJ _
abbrev AFD:AE:=[(.tmp 0,.di),(.tmp 1,.di),(.tmp 2,.di),(.tmp 3,.dat (.slice (.arr 2 U2)))]
abbrev AFC:AE:=[(.tmp 0,.dat Vg),(.tmp 1,.own 193 U3),(.tmp 2,.di)]
abbrev AFB:List RS:=[.one,.one,.one]
abbrev AKJ:AE:=[(.tmp 8,.box 7),(.cell 0 0,.nil Vh),(.cell 0 1,.di),(.cell 0 2,.nil .bool),(.cell 0 3,.nil U7),(.cell 0 4,.dat .bool),(.cell 0 5,.di),(.cell 0 6,.di),(.tmp 13,.box 8),(.cell 1 0,.dat Uc),(.cell 1 1,.di),(.cell 1 2,.dat Uu),(.cell 1 3,.dat Uh),(.cell 1 4,.dat .bool),(.cell 1 5,.di),(.cell 1 6,.di),(.cell 1 7,.own 193 U3),(.tmp 31,.dat (.slice (.arr 2 U2))),(.tmp 32,.di),(.tmp 33,.di)]
abbrev AKI:Ao:=[(.exit 0,[(.tmp 8,.box 7),(.cell 0 0,.nil Vh),(.cell 0 1,.di),(.cell 0 2,.nil .bool),(.cell 0 3,.nil U7),(.cell 0 4,.dat .bool),(.cell 0 5,.di),(.cell 0 6,.di),(.tmp 13,.box 8),(.cell 1 0,.dat Uc),(.cell 1 1,.di),(.cell 1 2,.dat Uu),(.cell 1 3,.dat Uh),(.cell 1 4,.dat .bool),(.cell 1 5,.di),(.cell 1 6,.di),(.cell 1 7,.own 193 U3)]),(.ret,[(.tmp 8,.box 7),(.cell 0 0,.dat Uc),(.cell 0 1,.di),(.cell 0 2,.dat Uu),(.cell 0 3,.dat Uh),(.cell 0 4,.dat .bool),(.cell 0 5,.di),(.cell 0 6,.di),(.tmp 9,.own 193 U3),(.tmp 10,.di)])]
def Eo[Lk]:Vi→Option (Vi⊕(Int×Bool×Int×Int×List U6×Int×List Bool×List U5×Bool×Int×Int×List U4×Unit)⊕Uj⊕Unit):=fun(a0,a1,a2,a3,a4,a5,a6,a7,a8,a9,a10,a11,a12,a13,a14,_)=>
 match(ilt a14 a13)with
 |true=>match idx a12 a14 with|none=>none|some x0=>match a8 with
  |true=>some (.inr (.inl (a0,a1,a2,a3,a4,a5,a6,a7,a8,a9,a10,a11,())))
  |false=>match AKM (a4,a5,a6,a7,a8,a9,a10,a11,(AY x0 0 0),(AY x0 1 0),())with|none=>none|some (y1,y2,y3,y4,y5,y6,y7,y8,y9,_)=>match(!(ieq y9 0))with
  |true=>some (.inr (.inr (.inl (y1,y2,y3,y4,y5,y6,y7,y8,y9,()))))
  |false=>some (.inl (a0,a1,a2,a3,y1,y2,y3,y4,y5,y6,y7,y8,a12,a13,(IntKind.wrap .i64 (a14+1)),()))
 |false=>some (.inr (.inl (a0,a1,a2,a3,a4,a5,a6,a7,a8,a9,a10,a11,())))
def SD[Lk]:(Int×Int×Int×List U5×Unit)→Option (((((List U6)×Int×(List Bool)×Unit)×(List U5)×Bool×Int×Int×Unit)×List U4×Int×Unit)):=fun(a0,a1,a2,a3,_)=>
 match AGA (a0,a1,a2,())with|none=>none|some (y0,y1,y2,y3,y4,y5,y6,y7,_)=>match(!(ieq y7 0))with
 |true=>some (((([]:List U6),(0,(([]:List (Bool)),()))),(([]:List U5),(false,(0,(0,()))))),([]:List U4),y7,())
 |false=>match AU Eo many (0,false,0,0,y0,y1,y2,y3,y4,y5,y6,([]:List U4),a3,(AM a3),0,())with|none=>none|some r=>match r with
 |.inl (o8,o9,o10,o11,o12,o13,o14,o15,o16,o17,o18,o19,_)=>match SF (o12,o13,o14,o15,o16,o17,o18,o19,())with|none=>none|some (y20,y21,y22,y23,y24,y25,y26,y27,y28,_)=>some (((y20,(y21,(y22,()))),(y23,(y24,(y25,(y26,()))))),y27,y28,())
 |.inr r=>match r with
 |.inl (o29,o30,o31,o32,o33,o34,o35,o36,o37,_)=>some (((o29,(o30,(o31,()))),(o32,(o33,(o34,(o35,()))))),o36,o37,())
 |.inr _=>none
def AFF[Lk]:=fun v=>Lk.f (SD v)
theorem AKK v:AFF v=SD v:=AJ _
abbrev Wh:AE:=[(.tmp 0,.dat Vg),(.tmp 1,.dat V8)]
abbrev Wg:AE:=[(.tmp 0,.own 182 U0)]
abbrev Wf:List RS:=[.one]
abbrev AFP:AE:=[(.tmp 2,.box 7),(.cell 0 0,.dat Uc),(.cell 0 1,.di),(.cell 0 2,.dat Uu),(.cell 0 3,.dat Uh),(.cell 0 4,.dat .bool),(.cell 0 5,.di),(.cell 0 6,.di),(.tmp 5,.own 182 U0),(.tmp 9,.dat V8),(.tmp 10,.di),(.tmp 11,.di)]
abbrev AFO:Ao:=[(.exit 0,[(.tmp 5,.own 182 U0)])]
def EX[Lk]:(List U6×Int×List Bool×List U5×Bool×Int×Int×List U1×List U4×Int×Int×Unit)→Option ((List U6×Int×List Bool×List U5×Bool×Int×Int×List U1×List U4×Int×Int×Unit)⊕Ui⊕Unit):=fun(a0,a1,a2,a3,a4,a5,a6,a7,a8,a9,a10,_)=>
 match(ilt a10 a9)with
 |true=>match idx a8 a10 with|none=>none|some x0=>match x0.2.2.2.1 with
  |true=>some (.inl (a0,a1,a2,a3,a4,a5,a6,a7,a8,a9,(IntKind.wrap .i64 (a10+1)),()))
  |false=>match(ilt x0.2.2.1 0)with
  |true=>some (.inl (a0,a1,a2,a3,a4,a5,a6,a7,a8,a9,(IntKind.wrap .i64 (a10+1)),()))
  |false=>match(ile (AM a0) x0.2.2.1)with
  |true=>some (.inl (a0,a1,a2,a3,a4,a5,a6,a7,a8,a9,(IntKind.wrap .i64 (a10+1)),()))
  |false=>match idx a0 x0.2.2.1 with|none=>none|some x1=>match(fits ((AM a7)+(AM ([(x1.1,(x1.2.1,()))]:List U1))))with
  |true=>some (.inl (a0,a1,a2,a3,a4,a5,a6,(BP a7 ([(x1.1,(x1.2.1,()))]:List U1)),a8,a9,(IntKind.wrap .i64 (a10+1)),()))
  |false=>none
 |false=>some (.inr (.inl (a7,())))
def OL[Lk]:((((List U6)×Int×(List Bool)×Unit)×(List U5)×Bool×Int×Int×Unit)×List U4×Unit)→Option (Ui):=fun(a0,a1,_)=>
 match AU EX many (a0.1.1,a0.1.2.1,a0.1.2.2.1,a0.2.1,a0.2.2.1,a0.2.2.2.1,a0.2.2.2.2.1,([]:List U1),a1,(AM a1),0,())with|none=>none|some r=>match r with
 |.inl (o0,_)=>some (o0,())
 |.inr _=>none
def SJ[Lk]:=fun v=>Lk.f (OL v)
theorem AFQ v:SJ v=OL v:=AJ _
abbrev AEh:AE:=[(.tmp 0,.dat Ul)]
abbrev AEg:AE:=[(.tmp 0,.dat .bool)]
abbrev AEf:List RS:=[.one]
def R3[Lk]:(Ux×Unit)→Option (Ue):=fun(a0,_)=>
 match(ile 1 a0.1)with
 |true=>match(ile a0.1 100)with
  |true=>match(ile 1 a0.2.1)with
   |true=>match(ile a0.2.1 8)with
    |true=>some ((ile (AM a0.2.2.1) 4000),())
    |false=>some (false,())
   |false=>some (false,())
  |false=>some (false,())
 |false=>some (false,())
def AEi[Lk]:=fun v=>Lk.f (R3 v)
theorem AJ4 v:AEi v=R3 v:=AJ _
abbrev AEm:AE:=[(.tmp 0,.di),(.tmp 1,.dat Ul)]
abbrev AEl:AE:=[(.tmp 0,.own 3 U2),(.tmp 1,.di),(.tmp 2,.di)]
abbrev AEk:List RS:=[.one,.one,.one]
abbrev AJ7:AE:=[(.tmp 8,.own 193 U3),(.tmp 10,.own 3 U2),(.tmp 12,.box 2),(.cell 2 0,.di),(.cell 2 1,.di),(.tmp 44,.own 182 U0),(.tmp 45,.di),(.tmp 46,.di),(.tmp 54,.di),(.tmp 55,.di)]
abbrev AJ5:Ao:=[(.exit 2,[(.tmp 8,.own 193 U3),(.tmp 10,.own 3 U2),(.tmp 44,.own 182 U0),(.tmp 45,.di),(.tmp 46,.di)])]
def F6[Lk]:(List U4×List Int×Int×Int×List U1×Int×Int×Int×Int×Unit)→Option ((List U4×List Int×Int×Int×List U1×Int×Int×Int×Int×Unit)⊕(List U4×List Int×List U1×Int×Int×Unit)⊕Unit):=fun(a0,a1,a2,a3,a4,a5,a6,a7,a8,_)=>
 match(ilt a8 a7)with
 |true=>match(fits ((AM a1)+(AM ([(IntKind.wrap .i64 (a2+a8))]:List (Int)))))with
  |true=>some (.inl (a0,(BP a1 ([(IntKind.wrap .i64 (a2+a8))]:List (Int))),a2,a3,a4,a5,a6,a7,(IntKind.wrap .i64 (a8+1)),()))
  |false=>none
 |false=>some (.inr (.inl (a0,a1,a4,a5,a6,())))
abbrev AJ8:AE:=[(.tmp 8,.own 193 U3),(.tmp 10,.own 3 U2),(.tmp 44,.own 182 U0),(.tmp 45,.di),(.tmp 46,.di)]
abbrev AJ6:Ao:=[(.exit 0,[(.tmp 8,.own 193 U3),(.tmp 10,.own 3 U2)])]
def F7[Lk]:(List U4×List Int×List U1×Int×Int×Unit)→Option ((List U4×List Int×List U1×Int×Int×Unit)⊕(List U4×List Int×Unit)⊕Unit):=fun(a0,a1,a2,a3,a4,_)=>
 match(ilt a4 a3)with
 |true=>match idx a2 a4 with|none=>none|some x0=>match AU F6 many (a0,a1,(AY a2 (AO a4) (0,(0,()))).1,(AY a2 (AO a4) (0,(0,()))).2.1,a2,a3,a4,(IntKind.wrap .i64 ((AY a2 (AO a4) (0,(0,()))).2.1-(AY a2 (AO a4) (0,(0,()))).1)),0,())with|none=>none|some r=>match r with
  |.inl (o1,o2,o3,o4,o5,_)=>some (.inl (o1,o2,o3,o4,(IntKind.wrap .i64 (o5+1)),()))
  |.inr _=>none
 |false=>some (.inr (.inl (a0,a1,())))
def J7[Lk]:(Int×Ux×Unit)→Option (Uy):=fun(a0,a1,_)=>
 match(ilt a0 0)with
 |true=>some (([]:List (Int)),0,1,())
 |false=>match(ilt 1000 a0)with
 |true=>some (([]:List (Int)),0,1,())
 |false=>match AEi ((a1.1,(a1.2.1,(a1.2.2.1,()))),())with|none=>none|some (y0,_)=>match(!y0)with
 |true=>some (([]:List (Int)),0,1,())
 |false=>match(ieq a0 0)with
 |true=>some (([]:List (Int)),0,0,())
 |false=>match AFF (a0,a1.1,a1.2.1,a1.2.2.1,())with|none=>none|some (y1,y2,y3,_)=>match(!(ieq y3 0))with
 |true=>some (([]:List (Int)),0,y3,())
 |false=>match SJ (((y1.1.1,(y1.1.2.1,(y1.1.2.2.1,()))),(y1.2.1,(y1.2.2.1,(y1.2.2.2.1,(y1.2.2.2.2.1,()))))),y2,())with|none=>none|some (y4,_)=>match AU F7 many (y2,([]:List (Int)),y4,(AM y4),0,())with|none=>none|some r=>match r with
 |.inl (o5,o6,_)=>some (o6,(AM o5),0,())
 |.inr _=>none
def CN[Lk]:=fun v=>Lk.f (J7 v)
theorem OH v:CN v=J7 v:=AJ _
abbrev ABU:AE:=[(.tmp 0,.di)]
abbrev ABT:AE:=[(.tmp 0,.dat .bool)]
abbrev ABS:List RS:=[.one]
def RB[Lk]:Ua→Option (Ue):=fun(a0,_)=>
 match(ile 1 a0)with
 |true=>some ((ile a0 100),())
 |false=>some (false,())
def T3[Lk]:=fun v=>Lk.f (RB v)
theorem AI3 v:T3 v=RB v:=AJ _
abbrev UE:AE:=[(.tmp 0,.di),(.tmp 1,.di)]
abbrev UD:AE:=[(.tmp 0,.di)]
abbrev UC:List RS:=[.one]
def N1[Lk]:U1→Option (Ua):=fun(a0,a1,_)=>
 match(ilt a0 0)with
 |true=>some (0,())
 |false=>match(ilt 1000 a0)with
 |true=>some (0,())
 |false=>match T3 (a1,())with|none=>none|some (y0,_)=>match(!y0)with
 |true=>some (0,())
 |false=>match quo? .i64 (IntKind.wrap .i64 ((IntKind.wrap .i64 (a0+a1))-1)) a1 with|none=>none|some x1=>some (x1,())
def RH[Lk]:=fun v=>Lk.f (N1 v)
theorem ABd v:RH v=N1 v:=AJ _
abbrev AL2:AE:=[(.tmp 0,.dat V0),(.tmp 1,.di),(.tmp 2,.di)]
abbrev AL1:AE:=[(.tmp 0,.dat V0)]
abbrev AL0:List RS:=[.one]
def Zz[Lk]:Uy→Option (Up):=fun(a0,a1,a2,_)=>
 match EK a0 (IntKind.wrap .i64 (a1*a2)) (B6 (AM a0) (IntKind.wrap .i64 ((IntKind.wrap .i64 (a1+1))*a2)))with|none=>none|some x0=>some (x0,())
def AI5[Lk]:=fun v=>Lk.f (Zz v)
theorem AQ9 v:AI5 v=Zz v:=AJ _
abbrev ABr:AE:=[(.tmp 0,.dat V0),(.tmp 1,.clo 137 [])]
abbrev ABq:AE:=[(.tmp 0,.own 87 Uf),(.tmp 1,.dat Uf)]
abbrev ABp:List RS:=[.one,.one]
abbrev AJF:AE:=[(.tmp 1,.clo 137 []),(.tmp 6,.own 87 Uf),(.tmp 7,.dat Uf),(.tmp 13,.dat V0),(.tmp 14,.di),(.tmp 15,.di)]
abbrev AJE:Ao:=[(.exit 0,[(.tmp 6,.own 87 Uf),(.tmp 7,.dat Uf)])]
def Fb[Lk]:(List Int×Int×List Int×Int×Int×Unit)→Option ((List Int×Int×List Int×Int×Int×Unit)⊕Ve⊕Unit):=fun(a0,a1,a2,a3,a4,_)=>
 match(ilt a4 a3)with
 |true=>match idx a2 a4 with|none=>none|some x0=>match idx a0 a4 with|none=>none|some x1=>some (.inl ((Az a0 (AO a4) a1),(IntKind.wrap .u32 (a1+x0)),a2,a3,(IntKind.wrap .i64 (a4+1)),()))
 |false=>some (.inr (.inl (a0,a1,())))
def RJ[Lk]:Up→Option (Ve):=fun(a0,_)=>
 match(CL (AM a0)&&CL (AM a0)&&ile (AM a0) (AM a0)&&true)with
 |true=>match AU Fb many ((D8 (AO (AM a0)) (0:Int)),(0:Int),a0,(AM a0),(0:Int),())with|none=>none|some r=>match r with
  |.inl (o0,o1,_)=>some (o0,o1,())
  |.inr _=>none
 |false=>none
def Pg[Lk]:=fun v=>Lk.f (RJ v)
theorem AJG v:Pg v=RJ v:=AJ _
abbrev T6:AE:=[(.tmp 0,.dat V0),(.tmp 1,.di),(.tmp 2,.dat Ul),(.tmp 3,.clo 137 [])]
abbrev T5:AE:=[(.tmp 0,.own 87 Uf),(.tmp 1,.dat Uf),(.tmp 2,.di),(.tmp 3,.di)]
abbrev T4:List RS:=[.one,.one,.one,.one]
abbrev ABY:AE:=[(.tmp 0,.dat V0),(.tmp 1,.di),(.tmp 3,.clo 137 []),(.tmp 8,.own 87 Uf),(.tmp 9,.dat Uf),(.tmp 10,.di),(.tmp 17,.own 87 Uf),(.tmp 19,.di),(.tmp 76,.own 3 U2),(.tmp 77,.di),(.tmp 78,.di),(.tmp 91,.own 87 Uf),(.tmp 92,.di),(.tmp 93,.di)]
abbrev ABV:Ao:=[(.exit 4,[(.tmp 0,.dat V0),(.tmp 1,.di),(.tmp 3,.clo 137 []),(.tmp 8,.own 87 Uf),(.tmp 9,.dat Uf),(.tmp 10,.di),(.tmp 17,.own 87 Uf),(.tmp 76,.own 3 U2),(.tmp 77,.di),(.tmp 78,.di)])]
def EM[Lk]:Vm→Option (Vm⊕Vc⊕Unit):=fun(a0,a1,a2,a3,a4,a5,a6,a7,a8,a9,a10,a11,a12,_)=>
 match(ilt a12 a11)with
 |true=>match idx a10 a12 with|none=>none|some x0=>match idx a5 a6 with|none=>none|some x1=>match idx a2 (IntKind.wrap .i64 ((IntKind.wrap .i64 (a6*a1))+a12))with|none=>none|some x2=>some (.inl (a0,a1,(Az a2 (AO (IntKind.wrap .i64 ((IntKind.wrap .i64 (a6*a1))+a12))) (IntKind.wrap .u32 ((AY a5 (AO a6) 0)+(AY a10 (AO a12) 0)))),a3,a4,a5,a6,a7,a8,a9,a10,a11,(IntKind.wrap .i64 (a12+1)),()))
 |false=>some (.inr (.inl (a0,a1,a2,a3,a4,a5,a7,a8,a9,())))
abbrev ABZ:AE:=[(.tmp 0,.dat V0),(.tmp 1,.di),(.tmp 3,.clo 137 []),(.tmp 8,.own 87 Uf),(.tmp 9,.dat Uf),(.tmp 10,.di),(.tmp 17,.own 87 Uf),(.tmp 76,.own 3 U2),(.tmp 77,.di),(.tmp 78,.di)]
abbrev ABW:Ao:=[(.exit 2,[(.tmp 8,.own 87 Uf),(.tmp 9,.dat Uf),(.tmp 10,.di)])]
def EN[Lk]:Vc→Option (Vc⊕Uy⊕Unit):=fun(a0,a1,a2,a3,a4,a5,a6,a7,a8,_)=>
 match(ilt a8 a7)with
 |true=>match idx a6 a8 with|none=>none|some x0=>match AI5 (a0,(AY a6 (AO a8) 0),a1,())with|none=>none|some (y1,_)=>match Pg (y1,())with|none=>none|some (y2,y3,_)=>match AU EM many (a0,a1,a2,a3,a4,a5,(AY a6 (AO a8) 0),a6,a7,a8,y2,(AM y2),0,())with|none=>none|some r=>match r with
  |.inl (o4,o5,o6,o7,o8,o9,o10,o11,o12,_)=>some (.inl (o4,o5,o6,o7,o8,o9,o10,o11,(IntKind.wrap .i64 (o12+1)),()))
  |.inr _=>none
 |false=>some (.inr (.inl (a2,a3,a4,())))
abbrev ABa:AE:=[(.tmp 0,.dat V0),(.tmp 1,.di),(.tmp 3,.clo 137 []),(.tmp 10,.di),(.tmp 13,.own 3 U2),(.tmp 14,.own 87 Uf),(.tmp 48,.own' 0),(.tmp 49,.di),(.tmp 50,.di)]
abbrev ABX:Ao:=[(.exit 0,[(.tmp 0,.dat V0),(.tmp 1,.di),(.tmp 3,.clo 137 []),(.tmp 10,.di),(.tmp 13,.own 3 U2),(.tmp 14,.own 87 Uf)])]
def EO[Lk]:(List Int×Int×Int×List Int×List Int×Int×Int×Unit)→Option ((List Int×Int×Int×List Int×List Int×Int×Int×Unit)⊕(List Int×Int×Int×List Int×List Int×Unit)⊕Unit):=fun(a0,a1,a2,a3,a4,a5,a6,_)=>
 match(ilt a6 a5)with
 |true=>match idx a3 a6 with|none=>none|some x0=>match AI5 (a0,(AY a3 (AO a6) 0),a1,())with|none=>none|some (y1,_)=>match Pg (y1,())with|none=>none|some (y2,y3,_)=>match idx a4 (AY a3 (AO a6) 0)with|none=>none|some x4=>some (.inl (a0,a1,a2,a3,(Az a4 (AO (AY a3 (AO a6) 0)) y3),a5,(IntKind.wrap .i64 (a6+1)),()))
 |false=>some (.inr (.inl (a0,a1,a2,a3,a4,())))
def Ji[Lk]:(List Int×Int×Ux×Unit)→Option ((List Int×Int×Int×Int×Unit)):=fun(a0,a1,a2,_)=>
 match T3 (a1,())with|none=>none|some (y0,_)=>match(!y0)with
 |true=>some (([]:List (Int)),0,0,1,())
 |false=>match(ilt 1000 (AM a0))with
 |true=>some (([]:List (Int)),0,0,1,())
 |false=>match RH ((AM a0),a1,())with|none=>none|some (y1,_)=>match CN (y1,(a2.1,(a2.2.1,(a2.2.2.1,()))),())with|none=>none|some (y2,y3,y4,_)=>match(!(ieq y4 0))with
 |true=>some (([]:List (Int)),0,0,y4,())
 |false=>match(CL y1&&CL y1&&ile y1 y1&&true)with
 |true=>match AU EO many (a0,a1,y3,y2,(D8 (AO y1) (0:Int)),(AM y2),(0:Int),())with|none=>none|some r=>match r with
  |.inl (o5,o6,o7,o8,o9,_)=>match Pg (o9,())with|none=>none|some (y10,y11,_)=>match(CL (AM o5)&&CL (AM o5)&&ile (AM o5) (AM o5)&&true)with
   |true=>match AU EN many (o5,o6,(D8 (AO (AM o5)) (0:Int)),y11,o7,y10,o8,(AM o8),(0:Int),())with|none=>none|some r=>match r with
    |.inl (o12,o13,o14,_)=>some (o12,o13,(IntKind.wrap .i64 (2*o14)),0,())
    |.inr _=>none
   |false=>none
  |.inr _=>none
 |false=>none
def Nz[Lk]:=fun v=>Lk.f (Ji v)
theorem PZ v:Nz v=Ji v:=AJ _
abbrev ALy:AE:=[(.tmp 0,.dat V0),(.tmp 1,.di),(.tmp 2,.dat Ul)]
abbrev ALx:AE:=[(.tmp 0,.own 87 Uf),(.tmp 1,.dat Uf),(.tmp 2,.di),(.tmp 3,.di)]
abbrev ALw:List RS:=[.one,.one,.one,.one]
def RA[Lk]:(List Int×Int×Ux×Unit)→Option ((List Int×Int×Int×Int×Unit)):=fun(a0,a1,a2,_)=>
 match Nz (a0,a1,(a2.1,(a2.2.1,(a2.2.2.1,()))),())with|none=>none|some (y0,y1,y2,y3,_)=>some (y0,y1,y2,y3,())
def Xz[Lk]:=fun v=>Lk.f (RA v)
theorem ABR v:Xz v=RA v:=AJ _
abbrev ACj:AE:=[(.tmp 0,.dat Uu),(.tmp 1,.dat .bool)]
abbrev ACi:AE:=[(.tmp 0,.own 87 Uf)]
abbrev ACh:List RS:=[.one]
abbrev AJU:AE:=[(.tmp 1,.dat .bool),(.tmp 5,.own 87 Uf),(.tmp 11,.dat Uu),(.tmp 12,.di),(.tmp 13,.di)]
abbrev AJT:Ao:=[(.exit 0,[(.tmp 5,.own 87 Uf)])]
def Fg[Lk]:(Bool×List Int×List Bool×Int×Int×Unit)→Option ((Bool×List Int×List Bool×Int×Int×Unit)⊕Up⊕Unit):=fun(a0,a1,a2,a3,a4,_)=>
 match(ilt a4 a3)with
 |true=>match idx a2 a4 with|none=>none|some x0=>match(!(x0==a0))with
  |true=>match idx a1 a4 with|none=>none|some x1=>some (.inl (a0,(Az a1 (AO a4) 1),a2,a3,(IntKind.wrap .i64 (a4+1)),()))
  |false=>some (.inl (a0,a1,a2,a3,(IntKind.wrap .i64 (a4+1)),()))
 |false=>some (.inr (.inl (a1,())))
def RY[Lk]:(List Bool×Bool×Unit)→Option (Up):=fun(a0,a1,_)=>
 match(CL (AM a0)&&CL (AM a0)&&ile (AM a0) (AM a0)&&true)with
 |true=>match AU Fg many (a1,(D8 (AO (AM a0)) (0:Int)),a0,(AM a0),(0:Int),())with|none=>none|some r=>match r with
  |.inl (o0,_)=>some (o0,())
  |.inr _=>none
 |false=>none
def ACl[Lk]:=fun v=>Lk.f (RY v)
theorem AJV v:ACl v=RY v:=AJ _
abbrev UZ:AE:=[(.tmp 0,.dat V0),(.tmp 1,.di),(.tmp 2,.dat Ul)]
abbrev UY:AE:=[(.tmp 0,.own 3 U2),(.tmp 1,.di),(.tmp 2,.di)]
abbrev UX:List RS:=[.one,.one,.one]
abbrev ACe:AE:=[(.tmp 0,.dat V0),(.tmp 9,.own 87 Uf),(.tmp 11,.di),(.tmp 14,.di),(.tmp 15,.own 3 U2),(.tmp 43,.own 3 U2),(.tmp 44,.di),(.tmp 45,.di)]
abbrev ACd:Ao:=[(.exit 0,[(.tmp 11,.di),(.tmp 14,.di),(.tmp 15,.own 3 U2)])]
def ES[Lk]:V6→Option (V6⊕(Int×Int×List Int×Unit)⊕Unit):=fun(a0,a1,a2,a3,a4,a5,a6,a7,_)=>
 match(ilt a7 a6)with
 |true=>match idx a5 a7 with|none=>none|some x0=>match idx a0 (AY a5 (AO a7) 0)with|none=>none|some x1=>match(ieq x1 1)with
  |true=>match idx a1 (AY a5 (AO a7) 0)with|none=>none|some x2=>match idx a4 (AY a1 (AO (AY a5 (AO a7) 0)) 0)with|none=>none|some x3=>some (.inl (a0,a1,a2,a3,(Az a4 (AO (AY a1 (AO (AY a5 (AO a7) 0)) 0)) (AY a5 (AO a7) 0)),a5,a6,(IntKind.wrap .i64 (a7+1)),()))
  |false=>some (.inl (a0,a1,a2,a3,a4,a5,a6,(IntKind.wrap .i64 (a7+1)),()))
 |false=>some (.inr (.inl (a2,a3,a4,())))
def N6[Lk]:(List Int×Int×Ux×Unit)→Option (Uy):=fun(a0,a1,a2,_)=>
 match Xz (a0,a1,(a2.1,(a2.2.1,(a2.2.2.1,()))),())with|none=>none|some (y0,y1,y2,y3,_)=>match(!(ieq y3 0))with
 |true=>some (([]:List (Int)),0,y3,())
 |false=>match CN ((AM a0),(a2.1,(a2.2.1,(a2.2.2.1,()))),())with|none=>none|some (y4,y5,y6,_)=>match(!(ieq y6 0))with
 |true=>some (([]:List (Int)),0,y6,())
 |false=>match(CL y1&&CL y1&&ile y1 y1&&true)with
 |true=>match AU ES many (a0,y0,y2,y5,(D8 (AO y1) (0:Int)),y4,(AM y4),(0:Int),())with|none=>none|some r=>match r with
  |.inl (o7,o8,o9,_)=>some (o9,(IntKind.wrap .i64 (o7+o8)),0,())
  |.inr _=>none
 |false=>none
def RX[Lk]:=fun v=>Lk.f (N6 v)
theorem ACf v:RX v=N6 v:=AJ _
abbrev ACZ:AE:=[(.tmp 0,.dat Uu),(.tmp 1,.di),(.tmp 2,.dat Ul)]
abbrev ACY:AE:=[(.tmp 0,.own 3 U2),(.tmp 1,.di),(.tmp 2,.di)]
abbrev ACX:List RS:=[.one,.one,.one]
def RW[Lk]:(List Bool×Int×Ux×Unit)→Option (Uy):=fun(a0,a1,a2,_)=>
 match ACl (a0,false,())with|none=>none|some (y0,_)=>match RX (y0,a1,(a2.1,(a2.2.1,(a2.2.2.1,()))),())with|none=>none|some (y1,y2,y3,_)=>some (y1,y2,y3,())
def ACa[Lk]:=fun v=>Lk.f (RW v)
theorem AJP v:ACa v=RW v:=AJ _
abbrev AMV:AE:=[(.tmp 0,.dat V0),(.tmp 1,.di),(.tmp 2,.di),(.tmp 3,.dat Ul)]
abbrev AMU:AE:=[(.tmp 0,.own 3 U2),(.tmp 1,.di),(.tmp 2,.di)]
abbrev AMT:List RS:=[.one,.one,.one]
abbrev ARf:AE:=[(.tmp 0,.dat V0),(.tmp 1,.di),(.tmp 11,.di),(.tmp 14,.di),(.tmp 16,.own 3 U2),(.tmp 45,.di),(.tmp 46,.di)]
abbrev ARd:Ao:=[(.exit 2,[(.tmp 11,.di),(.tmp 14,.di),(.tmp 16,.own 3 U2)])]
def Hj[Lk]:Va→Option (Va⊕(Int×Int×List Int×Unit)⊕Unit):=fun(a0,a1,a2,a3,a4,a5,a6,_)=>
 match(ilt a6 a5)with
 |true=>match rby (a0,a4,a6,a1,())with|none=>none|some (y0,_)=>some (.inl (a0,a1,a2,a3,y0,a5,(IntKind.wrap .i64 (a6+1)),()))
 |false=>some (.inr (.inl (a2,a3,a4,())))
abbrev ARg:AE:=[(.tmp 0,.dat V0),(.tmp 1,.di),(.tmp 11,.di),(.tmp 14,.di),(.tmp 16,.own 3 U2),(.tmp 36,.di),(.tmp 37,.di)]
abbrev ARe:Ao:=[(.exit 0,[(.tmp 0,.dat V0),(.tmp 1,.di),(.tmp 11,.di),(.tmp 14,.di),(.tmp 16,.own 3 U2)])]
def Hk[Lk]:Va→Option (Va⊕(List Int×Int×Int×Int×List Int×Unit)⊕Unit):=fun(a0,a1,a2,a3,a4,a5,a6,_)=>
 match(ilt a6 a5)with
 |true=>match(fits ((AM a4)+(AM ([a6]:List (Int)))))with
  |true=>some (.inl (a0,a1,a2,a3,(BP a4 ([a6]:List (Int))),a5,(IntKind.wrap .i64 (a6+1)),()))
  |false=>none
 |false=>some (.inr (.inl (a0,a1,a2,a3,a4,())))
def RM[Lk]:(List Int×Int×Int×Ux×Unit)→Option (Uy):=fun(a0,a1,a2,a3,_)=>
 match Ke (a1,())with|none=>none|some (y0,_)=>match(ieq y0 0)with
 |true=>some (([]:List (Int)),0,1,())
 |false=>match Xz (a0,a2,(a3.1,(a3.2.1,(a3.2.2.1,()))),())with|none=>none|some (y1,y2,y3,y4,_)=>match(!(ieq y4 0))with
 |true=>some (([]:List (Int)),0,y4,())
 |false=>match AU Hk many (a0,a1,y0,y3,([]:List (Int)),(AM a0),0,())with|none=>none|some r=>match r with
 |.inl (o5,o6,o7,o8,o9,_)=>match AU Hj many (o5,o6,o7,o8,o9,o7,0,())with|none=>none|some r=>match r with
  |.inl (o10,o11,o12,_)=>some (o12,(IntKind.wrap .i64 (o11*o10)),0,())
  |.inr _=>none
 |.inr _=>none
def AB3[Lk]:=fun v=>Lk.f (RM v)
theorem AB1 v:AB3 v=RM v:=AJ _
abbrev UK:AE:=[(.tmp 0,.dat V0),(.tmp 1,.dat U7)]
abbrev UJ:AE:=[(.tmp 0,.own 87 Uf),(.tmp 1,.dat .bool)]
abbrev UI:List RS:=[.one,.one]
abbrev ABz:AE:=[(.tmp 0,.dat V0),(.tmp 6,.own 87 Uf),(.tmp 14,.dat U7),(.tmp 15,.di),(.tmp 16,.di)]
abbrev ABy:Ao:=[(.exit 0,[(.tmp 6,.own 87 Uf)])]
def ER[Lk]:Vd→Option (Vd⊕Up⊕Unit):=fun(a0,a1,a2,a3,a4,_)=>
 match(ilt a4 a3)with
 |true=>match idx a2 a4 with|none=>none|some x0=>match idx a0 x0 with|none=>none|some x1=>match(fits ((AM a1)+(AM ([x1]:List (Int)))))with
  |true=>some (.inl (a0,(BP a1 ([x1]:List (Int))),a2,a3,(IntKind.wrap .i64 (a4+1)),()))
  |false=>none
 |false=>some (.inr (.inl (a1,())))
def N2[Lk]:(List Int×List Int×Unit)→Option ((List Int×Bool×Unit)):=fun(a0,a1,_)=>
 match ARt (a1,(AM a0),())with|none=>none|some (y0,_)=>match(!y0)with
 |true=>some (([]:List (Int)),false,())
 |false=>match AU ER many (a0,([]:List (Int)),a1,(AM a1),0,())with|none=>none|some r=>match r with
 |.inl (o1,_)=>some (o1,true,())
 |.inr _=>none
def N3[Lk]:=fun v=>Lk.f (N2 v)
theorem AB0 v:N3 v=N2 v:=AJ _
end
end Go.Pev
end
section
namespace Go.Pev
noncomputable section
attribute [local irreducible] PE LN Oj Ov AlH AlI AlK RV ZS RE ZQ LZ Aj many IntKind.wrap AM Az AY BP Bv GC D8 AO Bs B6 imax AS Ad
abbrev Wl:AE:=[(.tmp 0,.dat V0),(.tmp 1,.dat (.prod U2 (.prod U2 (.prod Ul .unit))))]
abbrev Wk:AE:=[(.tmp 0,.own 87 Uf),(.tmp 1,.own 3 U2),(.tmp 2,.di),(.tmp 3,.di)]
abbrev Wj:List RS:=[.one,.one,.one,.one]
abbrev AFS:AE:=[(.tmp 9,.di),(.tmp 11,.own 87 Uf),(.tmp 13,.own 3 U2),(.tmp 14,.di),(.tmp 15,.own 87 Uf),(.tmp 16,.own 3 U2),(.tmp 55,.own' 1),(.tmp 56,.di),(.tmp 57,.di)]
abbrev AFR:Ao:=[(.exit 0,[(.tmp 9,.di),(.tmp 14,.di),(.tmp 15,.own 87 Uf),(.tmp 16,.own 3 U2)])]
def EY[Lk]:(Int×List Int×List Int×Int×List Int×List Int×Int×Int×Unit)→Option ((Int×List Int×List Int×Int×List Int×List Int×Int×Int×Unit)⊕(Int×Int×List Int×List Int×Unit)⊕Unit):=fun(a0,a1,a2,a3,a4,a5,a6,a7,_)=>
 match(ilt a7 a6)with
 |true=>match idx a2 a7 with|none=>none|some x0=>match(ilt (IntKind.wrap .i64 (a7+1)) (AM a2))with
  |true=>match idx a2 (IntKind.wrap .i64 (a7+1))with|none=>none|some x1=>match idx a1 (AY a2 (AO a7) 0)with|none=>none|some x2=>match(fits ((AM a4)+(AM ([(AY a1 (AO (AY a2 (AO a7) 0)) 0)]:List (Int)))))with
   |true=>match(fits ((AM a5)+(AM ([(IntKind.wrap .i64 ((AY a2 (AO (IntKind.wrap .i64 (a7+1))) 0)-(AY a2 (AO a7) 0)))]:List (Int)))))with
    |true=>some (.inl (a0,a1,a2,a3,(BP a4 ([(AY a1 (AO (AY a2 (AO a7) 0)) 0)]:List (Int))),(BP a5 ([(IntKind.wrap .i64 ((AY a2 (AO (IntKind.wrap .i64 (a7+1))) 0)-(AY a2 (AO a7) 0)))]:List (Int))),a6,(IntKind.wrap .i64 (a7+1)),()))
    |false=>none
   |false=>none
  |false=>match idx a1 (AY a2 (AO a7) 0)with|none=>none|some x3=>match(fits ((AM a4)+(AM ([(AY a1 (AO (AY a2 (AO a7) 0)) 0)]:List (Int)))))with
  |true=>match(fits ((AM a5)+(AM ([(IntKind.wrap .i64 ((AM a1)-(AY a2 (AO a7) 0)))]:List (Int)))))with
   |true=>some (.inl (a0,a1,a2,a3,(BP a4 ([(AY a1 (AO (AY a2 (AO a7) 0)) 0)]:List (Int))),(BP a5 ([(IntKind.wrap .i64 ((AM a1)-(AY a2 (AO a7) 0)))]:List (Int))),a6,(IntKind.wrap .i64 (a7+1)),()))
   |false=>none
  |false=>none
 |false=>some (.inr (.inl (a0,a3,a4,a5,())))
def KD[Lk]:(List Int×(Int×Int×Ux×Unit)×Unit)→Option ((List Int×List Int×Int×Int×Unit)):=fun(a0,a1,_)=>
 match AB3 (a0,a1.1,a1.2.1,(a1.2.2.1.1,(a1.2.2.1.2.1,(a1.2.2.1.2.2.1,()))),())with|none=>none|some (y0,y1,y2,_)=>match(!(ieq y2 0))with
 |true=>some (([]:List (Int)),([]:List (Int)),0,y2,())
 |false=>match N3 (a0,y0,())with|none=>none|some (y3,y4,_)=>match SM (y3,())with|none=>none|some (y5,_)=>match ACa (y5,a1.2.1,(a1.2.2.1.1,(a1.2.2.1.2.1,(a1.2.2.1.2.2.1,()))),())with|none=>none|some (y6,y7,y8,_)=>match(!(ieq y8 0))with
 |true=>some (([]:List (Int)),([]:List (Int)),0,y8,())
 |false=>match AU EY many (y1,y3,y6,y7,([]:List (Int)),([]:List (Int)),(AM y6),0,())with|none=>none|some r=>match r with
 |.inl (o9,o10,o11,o12,_)=>some (o11,o12,(IntKind.wrap .i64 (o9+o10)),0,())
 |.inr _=>none
def OM[Lk]:=fun v=>Lk.f (KD v)
theorem QT v:OM v=KD v:=AJ _
abbrev AOk:AE:=[(.tmp 0,.dat V0),(.tmp 1,.dat (.prod U2 (.prod U2 (.prod Ul .unit))))]
abbrev AOj:AE:=[(.tmp 0,.own 87 Uf),(.tmp 1,.di),(.tmp 2,.di)]
abbrev AOi:List RS:=[.one,.one,.one]
def SH[Lk]:(List Int×(Int×Int×Ux×Unit)×Unit)→Option (Uy):=fun(a0,a1,_)=>
 match OM (a0,(a1.1,(a1.2.1,((a1.2.2.1.1,(a1.2.2.1.2.1,(a1.2.2.1.2.2.1,()))),()))),())with|none=>none|some (y0,y1,y2,y3,_)=>some (y0,y2,y3,())
def Yp[Lk]:=fun v=>Lk.f (SH v)
theorem AFM v:Yp v=SH v:=AJ _
abbrev AFZ:AE:=[(.tmp 0,.dat Uq),(.tmp 1,.dat (.prod U2 (.prod U2 (.prod Ul .unit))))]
abbrev AFY:AE:=[(.tmp 0,.own 45 U0),(.tmp 1,.di),(.tmp 2,.di)]
abbrev AFX:List RS:=[.one,.one,.one]
abbrev AKR:AE:=[(.tmp 13,.di),(.tmp 14,.di),(.tmp 15,.own 45 U0),(.tmp 48,.own 87 Uf),(.tmp 49,.di),(.tmp 50,.di)]
abbrev AKP:Ao:=[(.exit 2,[(.tmp 13,.di),(.tmp 14,.di),(.tmp 15,.own 45 U0)])]
def C8[Lk]:(Int×Int×List U1×List Int×Int×Int×Unit)→Option ((Int×Int×List U1×List Int×Int×Int×Unit)⊕(Int×Int×List U1×Unit)⊕Unit):=fun(a0,a1,a2,a3,a4,a5,_)=>
 match(ilt a5 a4)with
 |true=>match idx a3 a5 with|none=>none|some x0=>match AU5 ((AY a3 (AO a5) 0),())with|none=>none|some (y1,_)=>match(fits ((AM a2)+(AM ([y1]:List U1))))with
  |true=>some (.inl (a0,a1,(BP a2 ([y1]:List U1)),a3,a4,(IntKind.wrap .i64 (a5+1)),()))
  |false=>none
 |false=>some (.inr (.inl (a0,a1,a2,())))
abbrev AKS:AE:=[(.tmp 3,.box 5),(.cell 0 0,.di),(.cell 0 1,.di),(.cell 0 2,.di),(.cell 0 3,.di),(.cell 0 4,.dat (.slice (.arr 2 U2))),(.tmp 7,.own 87 Uf),(.tmp 18,.dat Uq),(.tmp 19,.di),(.tmp 20,.di)]
abbrev AKQ:Ao:=[(.ret,[(.tmp 4,.nil U0),(.tmp 5,.di),(.tmp 6,.di)]),(.exit 0,[(.tmp 3,.box 5),(.cell 0 0,.di),(.cell 0 1,.di),(.cell 0 2,.di),(.cell 0 3,.di),(.cell 0 4,.dat (.slice (.arr 2 U2))),(.tmp 7,.own 87 Uf)])]
def GB[Lk]:(Int×Int×Int×Int×List U5×List Int×List U1×Int×Int×Unit)→Option ((Int×Int×Int×Int×List U5×List Int×List U1×Int×Int×Unit)⊕U1⊕(Int×Int×Int×Int×List U5×List Int×Unit)⊕Unit):=fun(a0,a1,a2,a3,a4,a5,a6,a7,a8,_)=>
 match(ilt a8 a7)with
 |true=>match idx a6 a8 with|none=>none|some x0=>match AmC ((x0.1,(x0.2.1,())),())with|none=>none|some (y1,y2,_)=>match(!y2)with
  |true=>some (.inr (.inl (0,10,())))
  |false=>match(!(ieq x0.1 x0.2.1))with
  |true=>match(fits ((AM a5)+(AM ([y1]:List (Int)))))with
   |true=>some (.inl (a0,a1,a2,a3,a4,(BP a5 ([y1]:List (Int))),a6,a7,(IntKind.wrap .i64 (a8+1)),()))
   |false=>none
  |false=>some (.inl (a0,a1,a2,a3,a4,a5,a6,a7,(IntKind.wrap .i64 (a8+1)),()))
 |false=>some (.inr (.inr (.inl (a0,a1,a2,a3,a4,a5,()))))
def M8[Lk]:(List U1×(Int×Int×Ux×Unit)×Unit)→Option (Ud):=fun(a0,a1,_)=>
 match AU GB many (a1.1,a1.2.1,a1.2.2.1.1,a1.2.2.1.2.1,a1.2.2.1.2.2.1,([]:List (Int)),a0,(AM a0),0,())with|none=>none|some r=>match r with
 |.inl (o0,o1,_)=>some (([]:List U1),o0,o1,())
 |.inr r=>match r with
 |.inl (o2,o3,o4,o5,o6,o7,_)=>match Yp (o7,(o2,(o3,((o4,(o5,(o6,()))),()))),())with|none=>none|some (y8,y9,y10,_)=>match AU C8 many (y9,y10,([]:List U1),y8,(AM y8),0,())with|none=>none|some r=>match r with
  |.inl (o11,o12,o13,_)=>some (o13,o11,o12,())
  |.inr _=>none
 |.inr _=>none
def Wt[Lk]:=fun v=>Lk.f (M8 v)
theorem Ws v:Wt v=M8 v:=AJ _
abbrev Kz:AE:=[(.tmp 0,.dat U7),(.cap 1 0,.box 2),(.cell 0 0,.di),(.cell 0 1,.dat V8),(.tmp 1,.clo 30 [(0,0)])]
abbrev Ky:AE:=[(.obj 0,.box 2),(.cell 0 0,.di),(.cell 0 1,.dat V8),(.tmp 0,.di)]
abbrev Kx:List RS:=[.one]
abbrev O2:AE:=[(.obj 0,.box 2),(.cell 0 0,.di),(.cell 0 1,.dat V8),(.tmp 0,.dat U7),(.tmp 1,.clo 30 [(0,0)]),(.tmp 7,.di),(.tmp 8,.di)]
abbrev O1:Ao:=[(.ret,[(.obj 0,.box 2),(.cell 0 0,.di),(.cell 0 1,.dat V8),(.tmp 4,.di)]),(.exit 0,[(.obj 0,.box 2),(.cell 0 0,.di),(.cell 0 1,.dat V8)])]
def Cb[Lk]:(Int×List U4×List Int×Int×Int×Unit)→Option ((Int×List U4×List Int×Int×Int×Unit)⊕(Int×List U4×Int×Unit)⊕(Int×List U4×Unit)⊕Unit):=fun(a0,a1,a2,a3,a4,_)=>
 match(ilt a4 a3)with
 |true=>match idx a2 a4 with|none=>none|some x0=>match(ile a0 x0)with
  |true=>some (.inr (.inl (a0,a1,a4,())))
  |false=>some (.inl (a0,a1,a2,a3,(IntKind.wrap .i64 (a4+1)),()))
 |false=>some (.inr (.inr (.inl (a0,a1,()))))
def HD[Lk]:(List Int×Int×List U4×Unit)→Option ((Int×List U4×Int×Unit)):=fun(a0,a1,a2,_)=>
 match AU Cb many (a1,a2,a0,(AM a0),0,())with|none=>none|some r=>match r with
 |.inl (o0,o1,o2,_)=>some (o0,o1,o2,())
 |.inr r=>match r with
 |.inl (o3,o4,_)=>some (o3,o4,(-1:Int),())
 |.inr _=>none
def K1[Lk]:=fun v=>Lk.f (HD v)
theorem O3 v:K1 v=HD v:=AJ _
abbrev JR:AE:=[(.tmp 0,.dat U7),(.cap 1 0,.box 2),(.cell 0 0,.di),(.cell 0 1,.dat V8),(.tmp 1,.clo 30 [(0,0)])]
abbrev JQ:AE:=[(.obj 0,.box 2),(.cell 0 0,.di),(.cell 0 1,.dat V8),(.tmp 0,.dat .bool)]
abbrev JP:List RS:=[.one]
def Ga[Lk]:(List Int×Int×List U4×Unit)→Option ((Int×List U4×Bool×Unit)):=fun(a0,a1,a2,_)=>
 match K1 (a0,a1,a2,())with|none=>none|some (y0,y1,y2,_)=>some (y0,y1,(ile 0 y2),())
def Gp[Lk]:=fun v=>Lk.f (Ga v)
theorem NF v:Gp v=Ga v:=AJ _
abbrev AGa:AE:=[(.tmp 0,.dat Us),(.tmp 1,.dat Uk),(.tmp 2,.dat (.prod U2 (.prod U2 (.prod Ul .unit))))]
abbrev AGZ:AE:=[(.tmp 0,.di),(.tmp 1,.own 45 U0),(.tmp 2,.dat Vj),(.tmp 3,.di),(.tmp 4,.di)]
abbrev AGY:List RS:=[.agg 3,.one,.one]
def KK[Lk]:(V5×Ut×(Int×Int×Ux×Unit)×Unit)→Option ((Int×List U1×List Ub×Int×Int×Unit)):=fun(a0,a1,a2,_)=>
 match Fm ((a0.1,(a0.2.1,())),())with|none=>none|some (y0,_)=>match(!y0)with
 |true=>some (0,([]:List U1),([]:List Ub),0,1,())
 |false=>match AAe ((a1.1,(a1.2.1,(a1.2.2.1,()))),())with|none=>none|some (y1,_)=>match(!y1)with
 |true=>some (0,([]:List U1),([]:List Ub),0,1,())
 |false=>match AKl ((a1.1,(a1.2.1,(a1.2.2.1,()))),())with|none=>none|some (y2,_)=>match Gp (y2,a0.1,a0.2.1,())with|none=>none|some (y3,y4,y5,_)=>match y5 with
 |true=>some (0,([]:List U1),([]:List Ub),0,10,())
 |false=>match(ieq a1.1 3)with
 |true=>some (a1.1,([]:List U1),a1.2.2.1,0,0,())
 |false=>match Wt (a1.2.1,(a2.1,(a2.2.1,((a2.2.2.1.1,(a2.2.2.1.2.1,(a2.2.2.1.2.2.1,()))),()))),())with|none=>none|some (y6,y7,y8,_)=>match(!(ieq y8 0))with
 |true=>some (0,([]:List U1),([]:List Ub),0,y8,())
 |false=>match(ieq a1.1 2)with
 |true=>match ASM ((y3,(y4,())),y6,())with|none=>none|some (y9,y10,_)=>some (a1.1,y9,([]:List Ub),y7,y10,())
 |false=>match Alh ((y3,(y4,())),y6,())with|none=>none|some (y11,y12,_)=>match Yz ((y3,(y4,())),())with|none=>none|some (y13,_)=>match(ilt y13 (AM y11))with
 |true=>some (0,([]:List U1),([]:List Ub),0,2,())
 |false=>some (a1.1,y11,([]:List Ub),y7,y12,())
def IE[Lk]:=fun v=>Lk.f (KK v)
theorem OV v:IE v=KK v:=AJ _
abbrev UA:AE:=[(.tmp 0,.di)]
abbrev T9:AE:=[(.tmp 0,.dat .bool)]
abbrev T8:List RS:=[.one]
def N0[Lk]:Ua→Option (Ue):=fun(a0,_)=>
 match(ile 0 a0)with
 |true=>some ((ile a0 65535),())
 |false=>some (false,())
def IY[Lk]:=fun v=>Lk.f (N0 v)
theorem ABc v:IY v=N0 v:=AJ _
abbrev US:AE:=[(.tmp 0,.dat Uk)]
abbrev UR:AE:=[(.tmp 0,.dat .bool)]
abbrev UQ:List RS:=[.one]
abbrev ACG:AE:=[(.tmp 1,.box 3),(.cell 0 0,.di),(.cell 0 1,.dat Uq),(.cell 0 2,.dat Vj),(.tmp 4,.di)]
abbrev ACE:Ao:=[(.ret,[(.tmp 2,.dat .bool)]),(.exit 2,[])]
def CF[Lk]:Vn→Option (Vn⊕Ue⊕(Unit)⊕Unit):=fun(a0,a1,a2,a3,_)=>
 match(ilt a3 (AM a2))with
 |true=>match idx a2 a3 with|none=>none|some x0=>match IY (x0.2.1,())with|none=>none|some (y1,_)=>match(!y1)with
  |true=>some (.inr (.inl (false,())))
  |false=>match IY (x0.2.2.1,())with|none=>none|some (y2,_)=>match(!y2)with
  |true=>some (.inr (.inl (false,())))
  |false=>match(ilt x0.1 1)with
  |true=>some (.inr (.inl (false,())))
  |false=>match(ilt 4 x0.1)with
  |true=>some (.inr (.inl (false,())))
  |false=>some (.inl (a0,a1,a2,(IntKind.wrap .i64 (a3+1)),()))
 |false=>some (.inr (.inr (.inl ())))
abbrev ACH:AE:=[(.tmp 1,.box 3),(.cell 0 0,.di),(.cell 0 1,.dat Uq),(.cell 0 2,.dat Vj),(.tmp 3,.di)]
abbrev ACF:Ao:=[(.ret,[(.tmp 2,.dat .bool)]),(.exit 0,[(.tmp 1,.box 3),(.cell 0 0,.di),(.cell 0 1,.dat Uq),(.cell 0 2,.dat Vj)])]
def CG[Lk]:Vn→Option (Vn⊕Ue⊕(Int×List U1×List Ub×Unit)⊕Unit):=fun(a0,a1,a2,a3,_)=>
 match(ilt a3 (AM a1))with
 |true=>match idx a1 a3 with|none=>none|some x0=>match IY (x0.1,())with|none=>none|some (y1,_)=>match(!y1)with
  |true=>some (.inr (.inl (false,())))
  |false=>match idx a1 a3 with|none=>none|some x2=>match IY (x2.2.1,())with|none=>none|some (y3,_)=>match(!y3)with
  |true=>some (.inr (.inl (false,())))
  |false=>some (.inl (a0,a1,a2,(IntKind.wrap .i64 (a3+1)),()))
 |false=>some (.inr (.inr (.inl (a0,a1,a2,()))))
def N4[Lk]:(Ut×Unit)→Option (Ue):=fun(a0,_)=>
 match(ilt a0.1 1)with
 |true=>some (false,())
 |false=>match(ilt 3 a0.1)with
 |true=>some (false,())
 |false=>match(ieq a0.1 3)with
 |true=>match(ilt 0 (AM a0.2.1))with
  |true=>some (false,())
  |false=>match(!(ieq a0.1 3))with
  |true=>match(ilt 0 (AM a0.2.2.1))with
   |true=>some (false,())
   |false=>match(ilt 60 (AM a0.2.1))with
   |true=>some (false,())
   |false=>match(ilt 60 (AM a0.2.2.1))with
   |true=>some (false,())
   |false=>match AU CG many (a0.1,a0.2.1,a0.2.2.1,0,())with|none=>none|some r=>match r with
   |.inl (o0,_)=>some (o0,())
   |.inr r=>match r with
   |.inl (o1,o2,o3,_)=>match AU CF many (o1,o2,o3,0,())with|none=>none|some r=>match r with
    |.inl (o4,_)=>some (o4,())
    |.inr r=>match r with
    |.inl _=>some (true,())
    |.inr _=>none
   |.inr _=>none
  |false=>match(ilt 60 (AM a0.2.1))with
  |true=>some (false,())
  |false=>match(ilt 60 (AM a0.2.2.1))with
  |true=>some (false,())
  |false=>match AU CG many (a0.1,a0.2.1,a0.2.2.1,0,())with|none=>none|some r=>match r with
  |.inl (o5,_)=>some (o5,())
  |.inr r=>match r with
  |.inl (o6,o7,o8,_)=>match AU CF many (o6,o7,o8,0,())with|none=>none|some r=>match r with
   |.inl (o9,_)=>some (o9,())
   |.inr r=>match r with
   |.inl _=>some (true,())
   |.inr _=>none
  |.inr _=>none
 |false=>match(!(ieq a0.1 3))with
 |true=>match(ilt 0 (AM a0.2.2.1))with
  |true=>some (false,())
  |false=>match(ilt 60 (AM a0.2.1))with
  |true=>some (false,())
  |false=>match(ilt 60 (AM a0.2.2.1))with
  |true=>some (false,())
  |false=>match AU CG many (a0.1,a0.2.1,a0.2.2.1,0,())with|none=>none|some r=>match r with
  |.inl (o10,_)=>some (o10,())
  |.inr r=>match r with
  |.inl (o11,o12,o13,_)=>match AU CF many (o11,o12,o13,0,())with|none=>none|some r=>match r with
   |.inl (o14,_)=>some (o14,())
   |.inr r=>match r with
   |.inl _=>some (true,())
   |.inr _=>none
  |.inr _=>none
 |false=>match(ilt 60 (AM a0.2.1))with
 |true=>some (false,())
 |false=>match(ilt 60 (AM a0.2.2.1))with
 |true=>some (false,())
 |false=>match AU CG many (a0.1,a0.2.1,a0.2.2.1,0,())with|none=>none|some r=>match r with
 |.inl (o15,_)=>some (o15,())
 |.inr r=>match r with
 |.inl (o16,o17,o18,_)=>match AU CF many (o16,o17,o18,0,())with|none=>none|some r=>match r with
  |.inl (o19,_)=>some (o19,())
  |.inr r=>match r with
  |.inl _=>some (true,())
  |.inr _=>none
 |.inr _=>none
def RP[Lk]:=fun v=>Lk.f (N4 v)
theorem ACI v:RP v=N4 v:=AJ _
abbrev ABh:AE:=[(.tmp 0,.dat Uk),(.tmp 1,.dat Uk)]
abbrev ABg:AE:=[(.tmp 0,.dat .bool)]
abbrev ABf:List RS:=[.one]
abbrev AJA:AE:=[(.tmp 2,.box 3),(.cell 0 0,.di),(.cell 0 1,.dat Uq),(.cell 0 2,.dat Vj),(.tmp 3,.box 3),(.cell 1 0,.di),(.cell 1 1,.dat Uq),(.cell 1 2,.dat Vj),(.tmp 5,.di)]
abbrev AI9:Ao:=[(.ret,[(.tmp 4,.dat .bool)]),(.exit 0,[])]
def UG[Lk]:(Int×List U1×List Ub×Int×List U1×List Ub×Int×Unit)→Option ((Int×List U1×List Ub×Int×List U1×List Ub×Int×Unit)⊕Ue⊕(Unit)⊕Unit):=fun(a0,a1,a2,a3,a4,a5,a6,_)=>
 match(ilt a6 (AM a2))with
 |true=>match idx a2 a6 with|none=>none|some x0=>match idx a5 a6 with|none=>none|some x1=>match(!(ieq x0.1 x1.1&&(ieq x0.2.1 x1.2.1&&(ieq x0.2.2.1 x1.2.2.1&&true))))with
  |true=>some (.inr (.inl (false,())))
  |false=>some (.inl (a0,a1,a2,a3,a4,a5,(IntKind.wrap .i64 (a6+1)),()))
 |false=>some (.inr (.inr (.inl ())))
def ABj[Lk]:(Ut×Ut×Unit)→Option (Ue):=fun(a0,a1,_)=>
 match(!(ieq a0.1 a1.1))with
 |true=>some (false,())
 |false=>match(!(ieq (AM a0.2.2.1) (AM a1.2.2.1)))with
 |true=>some (false,())
 |false=>match UH (a0.2.1,a1.2.1,())with|none=>none|some (y0,_)=>match(!y0)with
 |true=>some (false,())
 |false=>match AU UG many (a0.1,a0.2.1,a0.2.2.1,a1.1,a1.2.1,a1.2.2.1,0,())with|none=>none|some r=>match r with
 |.inl (o1,_)=>some (o1,())
 |.inr r=>match r with
 |.inl _=>some (true,())
 |.inr _=>none
def ABk[Lk]:=fun v=>Lk.f (ABj v)
theorem Aeb v:ABk v=ABj v:=AJ _
end
end Go.Pev
end
section
namespace Go.Pev
noncomputable section
attribute [local irreducible] PE LN Oj Ov AlH AlI AlK RV ZS RE ZQ LZ Aj many IntKind.wrap AM Az AY BP Bv GC D8 AO Bs B6 imax AS Ad
abbrev XI:AE:=[]
abbrev XH:AE:=[(.tmp 0,.dat .bool)]
abbrev XG:List RS:=[.one]
def XJ[Lk]:(Unit)→Option (Ue):=fun _=>
 match IE ((5,(([(1,(2,(0,(true,()))))]:List U4),())),(1,(([(2,(1,())),(4,(0,())),(3,(3,())),(0,(4,()))]:List U1),(([]:List Ub),()))),(8,(4,((1,(1,(([]:List U5),()))),()))),())with|none=>none|some (y0,y1,y2,y3,y4,_)=>match IE ((5,(([(1,(2,(0,(true,()))))]:List U4),())),(2,(([(2,(1,())),(4,(0,())),(3,(3,())),(0,(4,()))]:List U1),(([]:List Ub),()))),(8,(4,((1,(1,(([]:List U5),()))),()))),())with|none=>none|some (y5,y6,y7,y8,y9,_)=>match IE ((5,(([(1,(2,(0,(true,()))))]:List U4),())),(3,(([]:List U1),(([(4,(99,(0,())))]:List Ub),()))),(8,(4,((1,(1,(([]:List U5),()))),()))),())with|none=>none|some (y10,y11,y12,y13,y14,_)=>match IE ((5,(([(1,(2,(0,(true,()))))]:List U4),())),(2,(([(5,(0,()))]:List U1),(([]:List Ub),()))),(8,(4,((1,(1,(([]:List U5),()))),()))),())with|none=>none|some (y15,y16,y17,y18,y19,_)=>match(ieq y4 0)with
 |true=>match(ieq y9 0)with
  |true=>match(ieq y14 0)with
   |true=>match(ieq y19 10)with
    |true=>match(ieq y3 y8)with
     |true=>match(ilt 0 y3)with
      |true=>match(ieq y13 0)with
       |true=>match ABk ((y0,(y1,(y2,()))),(1,(([(0,(4,()))]:List U1),(([]:List Ub),()))),())with|none=>none|some (y20,_)=>match y20 with
        |true=>match ABk ((y5,(y6,(y7,()))),(2,(([(1,(2,()))]:List U1),(([]:List Ub),()))),())with|none=>none|some (y21,_)=>match y21 with
         |true=>match(ieq (AM y12) 1)with
          |true=>match Yz ((5,(([(1,(2,(0,(true,()))))]:List U4),())),())with|none=>none|some (y22,_)=>match(ieq y22 399)with
           |true=>match AKl ((0,(([(2,(1,())),(4,(0,())),(3,(3,())),(0,(4,()))]:List U1),(([]:List Ub),()))),())with|none=>none|some (y23,_)=>match(ieq (AM y23) 8)with
            |true=>match AdS ((y0,(y1,(y2,()))),(y0,(y1,(y2,()))),())with|none=>none|some (y24,_)=>some (y24,())
            |false=>some (false,())
           |false=>some (false,())
          |false=>some (false,())
         |false=>some (false,())
        |false=>some (false,())
       |false=>some (false,())
      |false=>some (false,())
     |false=>some (false,())
    |false=>some (false,())
   |false=>some (false,())
  |false=>some (false,())
 |false=>some (false,())
def Iz[Lk]:=fun v=>Lk.f (XJ v)
theorem Abi v:Iz v=XJ v:=AJ _
abbrev QO:AE:=[(.tmp 0,.di),(.tmp 1,.di)]
abbrev QN:AE:=[(.tmp 0,.di),(.tmp 1,.own 60 U3)]
abbrev QM:List RS:=[.agg 2]
abbrev Yh:AE:=[(.tmp 0,.di),(.tmp 1,.di),(.tmp 4,.box 2),(.cell 0 0,.di),(.cell 0 1,.nil U3),(.tmp 5,.box 2),(.cell 1 0,.di),(.cell 1 1,.own 60 U3),(.tmp 6,.di),(.tmp 7,.di)]
abbrev Yf:Ao:=[(.exit 2,[(.tmp 0,.di),(.tmp 1,.di),(.tmp 4,.box 2),(.cell 0 0,.di),(.cell 0 1,.nil U3),(.tmp 5,.box 2),(.cell 1 0,.di),(.cell 1 1,.own 60 U3),(.tmp 6,.di)])]
def DU[Lk]:(Int×Int×Int×Int×List U4×Int×Int×Unit)→Option ((Int×Int×Int×Int×List U4×Int×Int×Unit)⊕(Int×Int×Int×Int×List U4×Int×Unit)⊕Unit):=fun(a0,a1,a2,a3,a4,a5,a6,_)=>
 match(ilt a6 a0)with
 |true=>match(ilt (AM a4) a1)with
  |true=>match(fits ((AM a4)+(AM ([(a5,(a6,(0,((ieq a5 0),()))))]:List U4))))with
   |true=>some (.inl (a0,a1,a2,a3,(BP a4 ([(a5,(a6,(0,((ieq a5 0),()))))]:List U4)),a5,(IntKind.wrap .i64 (a6+1)),()))
   |false=>none
  |false=>some (.inr (.inl (a0,a1,a2,a3,a4,a5,())))
 |false=>some (.inr (.inl (a0,a1,a2,a3,a4,a5,())))
abbrev Yi:AE:=[(.tmp 0,.di),(.tmp 1,.di),(.tmp 4,.box 2),(.cell 0 0,.di),(.cell 0 1,.nil U3),(.tmp 5,.box 2),(.cell 1 0,.di),(.cell 1 1,.own 60 U3),(.tmp 6,.di)]
abbrev Yg:Ao:=[(.exit 0,[(.tmp 4,.box 2),(.cell 0 0,.di),(.cell 0 1,.nil U3),(.tmp 5,.box 2),(.cell 1 0,.di),(.cell 1 1,.own 60 U3)])]
def DV[Lk]:(Int×Int×Int×Int×List U4×Int×Unit)→Option ((Int×Int×Int×Int×List U4×Int×Unit)⊕(Int×Int×List U4×Unit)⊕Unit):=fun(a0,a1,a2,a3,a4,a5,_)=>
 match(ilt a5 a0)with
 |true=>match AU DU many (a0,a1,a2,a3,a4,a5,(IntKind.wrap .i64 (a5+1)),())with|none=>none|some r=>match r with
  |.inl (o0,o1,o2,o3,o4,o5,_)=>some (.inl (o0,o1,o2,o3,o4,(IntKind.wrap .i64 (o5+1)),()))
  |.inr _=>none
 |false=>some (.inr (.inl (a2,a3,a4,())))
def LO[Lk]:U1→Option ((Int×List U4×Unit)):=fun(a0,a1,_)=>
 match AU DV many (a0,a1,0,a0,([]:List U4),0,())with|none=>none|some r=>match r with
 |.inl (o0,o1,o2,_)=>some (o1,o2,())
 |.inr _=>none
def M3[Lk]:=fun v=>Lk.f (LO v)
theorem Yj v:M3 v=LO v:=AJ _
abbrev NU:AE:=[(.tmp 0,.dat (.arr 2 (.int .u16))),(.tmp 1,.dat Uq)]
abbrev NT:AE:=[(.tmp 0,.dat .bool)]
abbrev NS:List RS:=[.one]
def I1[Lk]:(List Int×List U1×Unit)→Option (Ue):=fun(a0,a1,_)=>
 match Iz ()with|none=>none|some (y0,_)=>match(!y0)with
 |true=>some (false,())
 |false=>match(ilt 60 (AM a1))with
 |true=>some (true,())
 |false=>match rem? (IntKind.wrap .i64 (AY a0 0 0)) 64 with|none=>none|some x1=>match rem? (IntKind.wrap .i64 (AY a0 1 0)) 401 with|none=>none|some x2=>match M3 ((IntKind.wrap .i64 (1+x1)),x2,())with|none=>none|some (y3,y4,_)=>match IE ((y3,(y4,())),(1,(a1,(([]:List Ub),()))),(8,(16,((20,(2,(([]:List U5),()))),()))),())with|none=>none|some (y5,y6,y7,y8,y9,_)=>match RP ((1,(a1,(([]:List Ub),()))),())with|none=>none|some (y10,_)=>match(!y10)with
 |true=>match(ieq y9 1)with
  |true=>some ((ieq y5 0),())
  |false=>some (false,())
 |false=>match ATd ((y3,(y4,())),a1,())with|none=>none|some (y11,y12,_)=>match(!(ieq y12 0))with
 |true=>match(ieq y9 10)with
  |true=>some ((ieq y5 0),())
  |false=>some (false,())
 |false=>match(ilt (IntKind.wrap .i64 (400-(AM y4))) (AM y11))with
 |true=>match(ieq y9 2)with
  |true=>match(ieq y8 0)with
   |true=>match(ieq y5 0)with
    |true=>some ((ieq (AM y6) 0),())
    |false=>some (false,())
   |false=>some (false,())
  |false=>some (false,())
 |false=>match(ieq y9 0)with
 |true=>match UH (y6,y11,())with|none=>none|some (y13,_)=>match y13 with
  |true=>match Yz ((y3,(y4,())),())with|none=>none|some (y14,_)=>some ((ieq y14 (IntKind.wrap .i64 (400-(AM y4)))),())
  |false=>some (false,())
 |false=>some (false,())
def HX[Lk]:=fun v=>Lk.f (I1 v)
theorem Sm v:HX v=I1 v:=AJ _
end
end Go.Pev
end
section

end
section
namespace Go.Pev.Pl
theorem APs:Iz ()=some (true,()):=by
 rw[show Iz () = @Iz idI ()from Asp (fun i=>@Iz i ()) AD9]
 kernel_rfl
end Go.Pev.Pl
end
section
namespace Go.Pev.Pl
theorem Ag{n:Int}(h:-9223372036854775808≤n∧n≤9223372036854775807):IntKind.wrap .i64 n=n:=IntWalk.i64_in n h
section
variable {α:Type} [Inhabited α]
theorem A4{d:Array α}{n:Nat}(h:n<d.size):idx d.toList (n:Int)=some d[n]! := by
 rw[idx_eq,Oj,ArM (by omega)]
 simp[h]
theorem BY{d:Array α}{n:Nat}{z:α}(h:n<d.size):AY d.toList (AO (n:Int)) z=d[n]! := by
 simp[AY,AO,h]
theorem Iu{d:Array α}{n:Nat}{x:α}:Az d.toList (AO (n:Int)) x=(d.setIfInBounds n x).toList:=by
 simp[Az,AO]
theorem AdL{d:Array α}:AM d.toList=(d.size:Int):=by simp[AM]
theorem Jg(d:Array α)(i j:Nat):(d.setIfInBounds i d[j]!).setIfInBounds j d[i]! = Go.Sort.swp d i j:=rfl
theorem size_swp(d:Array α)(i j:Nat):(Go.Sort.swp d i j).size=d.size:=by simp[Go.Sort.swp]
end
theorem AK(a b:Nat):ilt (a:Int) (b:Int)=decide (a<b):=by rw[Ae];simp
theorem DC(a b:Nat):ile (a:Int) (b:Int)=decide (a≤b):=by rw[An];simp
theorem ANv(a b:Nat):ieq (a:Int) (b:Int)=decide (a=b):=by
 rw[CM]
 by_cases h:a=b
 ·simp[h]
 ·simp[h];omega
section
theorem wrap_add{a b:Nat}(h:a+b<9223372036854775808):IntKind.wrap .i64 ((a:Int)+(b:Int))=((a+b:Nat):Int):=by rw[Ag (by omega)];omega
theorem AN{a:Nat}(h:a+1<9223372036854775808):IntKind.wrap .i64 ((a:Int)+1)=((a+1:Nat):Int):=by rw[Ag (by omega)];omega
theorem Adk{a:Nat}(h:2*a<9223372036854775808):IntKind.wrap .i64 ((2:Int)*(a:Int))=((2*a:Nat):Int):=by rw[Ag (by omega)];omega
theorem Adj{a:Nat}(h:a<9223372036854775808):IntKind.wrap .i64 ((a:Int)*1)=((a*1:Nat):Int):=by rw[Ag (by omega)];omega
theorem Nr{a:Nat}(h:a*2<9223372036854775808):IntKind.wrap .i64 ((a:Int)*2)=((a*2:Nat):Int):=by rw[Ag (by omega)];omega
theorem Adi{a:Nat}(h:a*3<9223372036854775808):IntKind.wrap .i64 ((a:Int)*3)=((a*3:Nat):Int):=by rw[Ag (by omega)];omega
theorem DH{a b:Nat}(h:b≤a∧a<9223372036854775808):IntKind.wrap .i64 ((a:Int)-(b:Int))=((a-b:Nat):Int):=by rw[Ag (by omega)];omega
theorem BA{a:Nat}(h:1≤a∧a<9223372036854775808):IntKind.wrap .i64 ((a:Int)-1)=((a-1:Nat):Int):=by rw[Ag (by omega)];omega
theorem Apf{a:Nat}(h:a<9223372036854775808):quo? .i64 (a:Int) 2=some ((a/2:Nat):Int):=by
 rw[Pr,RV,ArM (by omega),Ate (by omega),Ag (by omega)];rfl
theorem AcN{a:Nat}(h:a<9223372036854775808):quo? .i64 (a:Int) 4=some ((a/4:Nat):Int):=by
 rw[Pr,RV,ArM (by omega),Ate (by omega),Ag (by omega)];rfl
theorem Aqq{a:Nat}(h:a<9223372036854775808):quo? .i64 (a:Int) 8=some ((a/8:Nat):Int):=by
 rw[Pr,RV,ArM (by omega),Ate (by omega),Ag (by omega)];rfl
end
end Go.Pev.Pl
end
section
namespace Go.Pev.Pl
section
variable {α:Type}
theorem L7{xs:List α}{n:Nat}(z:α)(h:n<xs.length):idx xs (n:Int)=some (xs.getD n z):=by
 rw[idx_eq,Oj,ArM (by omega)]
 simp[h]
theorem AqS{xs:List α}{n:Nat}(h:n<xs.length):∃ x,idx xs (n:Int)=some x:=by
 rw[idx_eq,Oj,ArM (by omega)]
 exact⟨xs[n],by simp[h]⟩
theorem ANw(xs:List α)(n:Nat):idx xs (n:Int)=xs[n]? := by
 rw[idx_eq,Oj,ArM (by omega)]
 simp
theorem J2(xs:List α):idx xs (0:Int)=xs.head? := by
 rw[idx_eq,Oj,ArM (by omega)]
 cases xs<;>rfl
theorem QU(xs:List α)(n:Nat)(z:α):AY xs (AO (n:Int)) z=xs.getD n z:=by simp[AY,AO]
theorem DY(xs:List α)(n:Nat)(x:α):Az xs (AO (n:Int)) x=xs.set n x:=by simp[Az,AO]
theorem AR(xs:List α):AM xs=(xs.length:Int):=rfl
theorem AFN(n:Nat):AO (n:Int)=n:=by simp[AO]
theorem D1(xs ys:List α):BP xs ys=xs++ys:=rfl
theorem ALu{xs:List α}{l h:Nat}(h1:l≤h)(h2:h≤xs.length):EK xs (l:Int) (h:Int)=some ((xs.take h).drop l):=by
 rw[Zy,Ov,ArQ (by omega)]
 simp
end
theorem Bd{n:Int}(h:n≤4294967296):fits n=true:=(Gj n).2 h
theorem La{α:Type}{xs:List α}(h:xs.length≤4294967296):Qa xs=some xs:=by
 rw[AKa,LZ,(WT _).2 (by rw[AR];omega)]
theorem AlJ{α β:Type}(xs:List α)(ys:List β):ieq (AM xs) (AM ys)=decide (xs.length=ys.length):=by rw[AR,AR,ANv]
theorem Ah(a b:Int):ieq a b=decide (a=b):=by
 rw[CM]
 by_cases h:a=b<;>simp[h]
def walk{α β ρ:Type}(f:β→α→α⊕ρ)(fin:α→ρ):List β→α→ρ
 |[],a=>fin a
 |x::xs,a=>match f x a with
  |.inl a=>walk f fin xs a
  |.inr r=>r
theorem Adn{σ ρ α β:Type}{step:σ→Option (σ⊕ρ)}(st:Nat→α→σ)(xs:List β)(f:β→α→α⊕ρ)(fin:α→ρ)(I:Nat→α→Prop)
  (h:∀ i x a,i<xs.length→xs[i]? = some x→I i a→(∀ a',f x a = .inl a'→step (st i a)=some (.inl (st (i+1) a'))∧I (i+1) a')∧(∀ r,f x a = .inr r→step (st i a)=some (.inr r)))
  (hN:∀ a,I xs.length a→step (st xs.length a)=some (.inr (fin a))) :
  ∀ (m i n:Nat) (a:α),xs.length-i=m→i≤xs.length→m<n→I i a→Aj step n (st i a)=some (walk f fin (xs.drop i) a):=by
 intro m
 induction m with
 |zero=>
  intro i n a hk hi hn hI
  obtain⟨n,rfl⟩:∃ k,n=k+1:=⟨n-1,by omega⟩
  have e:i=xs.length:=by omega
  subst e
  rw[Aj,hN a hI,List.drop_length]
  rfl
 |succ m ih=>
  intro i n a hk hi hn hI
  obtain⟨n,rfl⟩:∃ k,n=k+1:=⟨n-1,by omega⟩
  have hi':i<xs.length:=by omega
  obtain⟨g1,g2⟩:=h i xs[i] a hi' (by simp[hi']) hI
  rw[Ar8 hi',walk,Aj]
  cases hf:f xs[i] a with
  |inl a'=>
   obtain⟨e,hI'⟩:=g1 a' hf
   rw[e]
   exact ih (i+1) n a' (by omega) (by omega) (by omega) hI'
  |inr r=>rw[g2 r hf]
theorem DI{σ ρ α β:Type}{step:σ→Option (σ⊕ρ)}(st:Nat→α→σ)(xs:List β)(f:β→α→α⊕ρ)(fin:α→ρ)(I:Nat→α→Prop)(hs:xs.length<9223372036854775808)
  (h:∀ i x a,i<xs.length→xs[i]? = some x→I i a→(∀ a',f x a = .inl a'→step (st i a)=some (.inl (st (i+1) a'))∧I (i+1) a')∧(∀ r,f x a = .inr r→step (st i a)=some (.inr r)))
  (hN:∀ a,I xs.length a→step (st xs.length a)=some (.inr (fin a))) (a:α) (h0:I 0 a):AU step many (st 0 a)=some (walk f fin xs a):=by
 have hm:9223372036854775808<many:=by simp only[many];omega
 rw[A3,Adn st xs f fin I h hN xs.length 0 many a (by omega) (by omega) (by omega) h0]
 rfl
theorem AOZ{α:Type}{xs ys:List α}(z:α)(hl:xs.length=ys.length)(h:∀ j,j<xs.length→xs.getD j z=ys.getD j z):xs=ys:=by
 apply Atm hl
 intro i h1 h2
 have:=h i h1
 simpa [h1,h2]using this
theorem AeW{σ ρ:Type}{step:σ→Option (σ⊕ρ)}(st:Nat→σ)(N:Nat)(P:Nat→Bool)(rt:Nat→ρ)(rf:ρ)
  (h:∀ i,i<N→step (st i)=if P i then some (.inr (rt i))else some (.inl (st (i+1)))) (hN:step (st N)=some (.inr rf)) :
  ∀ (m i n:Nat),N-i=m→i≤N→m<n→(∃ k,i≤k∧k<N∧P k=true∧(∀ j,i≤j→j<k→P j=false)∧Aj step n (st i)=some (rt k))∨((∀ j,i≤j→j<N→P j=false)∧Aj step n (st i)=some rf):=by
 intro m
 induction m with
 |zero=>
  intro i n hk hi hn
  obtain⟨n,rfl⟩:∃ k,n=k+1:=⟨n-1,by omega⟩
  have e:i=N:=by omega
  subst e
  exact .inr ⟨fun j h1 h2=>by omega,by rw[Aj,hN]⟩
 |succ m ih=>
  intro i n hk hi hn
  obtain⟨n,rfl⟩:∃ k,n=k+1:=⟨n-1,by omega⟩
  have hi':i<N:=by omega
  cases hP:P i
  ·have e:Aj step (n+1) (st i)=Aj step n (st (i+1)):=by rw[Aj,h i hi',hP];rfl
   rw[e]
   rcases ih (i+1) n (by omega) (by omega) (by omega)with⟨k,h1,h2,h3,h4,h5⟩|⟨h1,h2⟩
   ·refine .inl ⟨k,by omega,h2,h3,fun j a1 a2 => ?_,h5⟩
    by_cases ej:j=i
    ·subst ej;exact hP
    ·exact h4 j (by omega) a2
   ·refine .inr ⟨fun j a1 a2 => ?_,h2⟩
    by_cases ej:j=i
    ·subst ej;exact hP
    ·exact h1 j (by omega) a2
  ·exact .inl ⟨i,ArP _,hi',hP,fun j a1 a2=>by omega,by rw[Aj,h i hi',hP];rfl⟩
theorem Apc{σ ρ:Type}{step:σ→Option (σ⊕ρ)}(st:Nat→σ)(N:Nat)(P:Nat→Bool)(rt:Nat→ρ)(rf:ρ)(hs:N<9223372036854775808)
  (h:∀ i,i<N→step (st i)=if P i then some (.inr (rt i))else some (.inl (st (i+1)))) (hN:step (st N)=some (.inr rf)) :
  (∃ k,k<N∧P k=true∧(∀ j,j<k→P j=false)∧AU step many (st 0)=some (rt k))∨((∀ j,j<N→P j=false)∧AU step many (st 0)=some rf):=by
 have hm:9223372036854775808<many:=by simp only[many];omega
 rw[A3]
 rcases AeW st N P rt rf h hN N 0 many rfl (by omega) (by omega)with⟨k,h1,h2,h3,h4,h5⟩|⟨h1,h2⟩
 ·exact .inl ⟨k,h2,h3,fun j a=>h4 j (by omega) a,h5⟩
 ·exact .inr ⟨fun j a=>h1 j (by omega) a,h2⟩
end Go.Pev.Pl
end
section
namespace Go.Pev.Pl
section
variable {β:Type}
def BC(es:List (Int×β)):List Int:=es.map Prod.fst
theorem WC(es:List (Int×β)):(BC es).length=es.length:=by simp[BC]
theorem Dm(es:List (Int×β))(k:Int)(v:β)(j:Int):AS (Ad es k v) j=if j=k then some v else AS es j:=by
 induction es with
 |nil=>
  simp only[Ad,AS]
  by_cases h:k=j
  ·simp[h]
  ·simp[h,AsA h]
 |cons e es ih=>
  obtain⟨a,b⟩:=e
  simp only[Ad]
  by_cases h:a=k
  ·subst h
   simp only[Ar0,AS]
   by_cases h2:a=j
   ·simp[h2]
   ·simp[h2,AsA h2]
  ·simp only[h,ArY,AS,ih]
   by_cases h2:a=j
   ·subst h2;simp[h]
   ·simp[h2]
theorem P8(es:List (Int×β))(k:Int)(v:β):BC (Ad es k v)=if k∈BC es then BC es else BC es++[k]:=by
 induction es with
 |nil=>rfl
 |cons e es ih=>
  obtain⟨a,b⟩:=e
  simp only[Ad]
  by_cases h:a=k
  ·subst h;simp[BC]
  ·simp only[h,ArY]
   show a::BC (Ad es k v)=_
   rw[ih]
   have:k∈BC ((a,b)::es)↔k∈BC es:=by simp[BC,AsA h]
   simp only[this]
   split<;>rfl
theorem YW(es:List (Int×β))(k:Int):AS es k=none↔k∉BC es:=by
 induction es with
 |nil=>simp[AS,BC]
 |cons e es ih=>
  obtain⟨a,b⟩:=e
  simp only[AS]
  by_cases h:a=k
  ·simp[h,BC]
  ·simp only[h,ArY,ih]
   simp[BC,AsA h]
theorem E6(es:List (Int×β))(k:Int)(v:β)(j:Int):j∈BC (Ad es k v)↔j=k∨j∈BC es:=by
 rw[P8]
 split
 ·rename_i h
  constructor
  ·exact .inr
  ·rintro (rfl|h2)
   ·exact h
   ·exact h2
 ·simp[or_comm]
theorem Jv{es:List (Int×β)}(h:(BC es).Nodup)(k:Int)(v:β):(BC (Ad es k v)).Nodup:=by
 rw[P8]
 split
 ·exact h
 ·rename_i hk
  rw[Ass]
  exact⟨h,by simp,fun a ha b hb=>by rintro rfl;simp at hb;exact hk (hb▸ha)⟩
end
def dd:List Int→List Int→List Int
 |ks,[]=>ks
 |ks,x::xs=>dd (if x∈ks then ks else ks++[x]) xs
theorem Aqb:∀ (xs ks:List Int),(dd ks xs).length≤ks.length+xs.length∧((dd ks xs).length=ks.length+xs.length↔xs.Nodup∧∀ x∈xs,x∉ks):=by
 intro xs
 induction xs with
 |nil=>intro ks;simp[dd]
 |cons x xs ih=>
  intro ks
  rw[dd]
  by_cases h:x∈ks
  ·obtain⟨h1,_⟩:=ih ks
   rw[ArQ h]
   refine⟨by simp only[ArO];omega,?_,fun hh=>absurd h (hh.2 x (by simp))⟩
   intro e
   simp only[ArO]at e
   omega
  ·obtain⟨h1,h2⟩:=ih (ks++[x])
   rw[ArM h]
   simp only[ArJ,ArO,ArZ,Asa]at h1 h2 ⊢
   refine⟨by omega,?_⟩
   rw[show ks.length+(xs.length+1)=ks.length+1+xs.length by omega,h2,Arp]
   constructor
   ·rintro⟨g1,g2⟩
    refine⟨⟨fun hx=>g2 x hx (by simp),g1⟩,fun y hy => ?_⟩
    rcases ArK.1 hy with rfl|hy
    ·exact h
    ·exact fun hk=>g2 y hy (by simp[hk])
   ·rintro⟨⟨g1,g2⟩,g3⟩
    refine⟨g2,fun y hy hk => ?_⟩
    simp only[ArI,Arx]at hk
    rcases hk with hk|rfl
    ·exact g3 y (by simp[hy]) hk
    ·exact g1 hy
theorem AmH(xs:List Int):(dd [] xs).length=xs.length↔xs.Nodup:=by
 have:=(Aqb xs []).2
 simpa using this
theorem Bi{α β ρ:Type}(g:β→α→α)(fin:α→ρ):∀ (xs:List β) (a:α),walk (fun x a=>.inl (g x a)) fin xs a=fin (xs.foldl (fun a x=>g x a) a):=by
 intro xs
 induction xs with
 |nil=>intro a;rfl
 |cons x xs ih=>intro a;rw[walk,AsC];exact ih _
theorem Gk{σ ρ β:Type}{step:σ→Option (σ⊕ρ)}(st:Nat→σ)(xs:List β)(P:β→Bool)(rt:Nat→ρ)(rf:ρ)(hs:xs.length<9223372036854775808)
  (h:∀ i x,i<xs.length→xs[i]? = some x→step (st i)=if P x then some (.inr (rt i))else some (.inl (st (i+1)))) (hN:step (st xs.length)=some (.inr rf)) :
  AU step many (st 0)=some (if xs.any P then rt (xs.findIdx P)else rf):=by
 have key:∀ (l:List β) (a:Nat),walk (fun x (a:Nat)=>if P x then .inr (rt a)else .inl (a+1)) (fun _=>rf) l a=if l.any P then rt (a+l.findIdx P)else rf:=by
  intro l
  induction l with
  |nil=>intro a;rfl
  |cons x l ih=>
   intro a
   rw[walk,List.any_cons,At2]
   by_cases hx:P x=true
   ·simp[hx]
   ·simp only[hx,ArV,ArY,Bool.false_or,cond_false]
    rw[ih,show a+1+List.findIdx P l=a+(List.findIdx P l+1) by omega]
 have:=DI (step:=step) (fun i (a:Nat)=>st a) xs (fun x (a:Nat)=>if P x then .inr (rt a)else .inl (a+1)) (fun _=>rf) (fun i a=>a=i) hs
  (fun i x a hi hx ha=>by
   subst ha
   refine⟨fun a' h' => ?_,fun r h' => ?_⟩
   ·rw[h a x hi hx]
    split at h'
    ·cases h'
    ·rename_i hp
     cases h'
     simp[hp]
   ·rw[h a x hi hx]
    split at h'
    ·rename_i hp
     cases h'
     simp[hp]
    ·cases h')
  (fun a ha=>by subst ha;exact hN) 0 rfl
 rw[this,key,Asa]
theorem AW{α:Type}{xs:List α}{n:Nat}{x:α}(h:xs[n]? = some x):idx xs (n:Int)=some x:=by rw[ANw,h]
theorem BJ{α:Type}{xs:List α}{n:Nat}{x z:α}(h:xs[n]? = some x):AY xs (AO (n:Int)) z=x:=by
 rw[QU,ArF,h];rfl
theorem ABN{α:Type}{xs:List α}{h:Nat}(h2:h≤xs.length):EK xs (0:Int) (h:Int)=some (xs.take h):=by
 have:=ALu (xs:=xs) (l:=0) (AtO h) h2
 simpa using this
theorem Q8{α:Type}{xs:List α}{l:Nat}(h1:l≤xs.length):EK xs (l:Int) (AM xs)=some (xs.drop l):=by
 have:=ALu (xs:=xs) h1 (ArP _)
 rw[Arw]at this
 exact this
def pos(xs:List Int)(t:Int):Int:=if t∈xs then((xs.findIdx (fun x=>decide (x=t)):Nat):Int)else -1
theorem ApU(xs:List Int)(t:Int):(xs.any fun x=>decide (x=t))=decide (t∈xs):=by
 induction xs with
 |nil=>rfl
 |cons x xs ih=>simp only[List.any_cons,ih,ArK,Bool.decide_or];congr 1;exact AsX.2 eq_comm
theorem Aju{xs:List Int}{t:Int}(h:t∈xs):∃ k:Nat,pos xs t=(k:Int)∧k<xs.length∧xs[k]? = some t∧xs=xs.take k++t::xs.drop (k+1)∧t∉xs.take k:=by
 have hk:xs.findIdx (fun x=>decide (x=t))<xs.length:=Aty.2 ⟨t,h,by simp⟩
 have hg:xs[xs.findIdx (fun x=>decide (x=t))]'hk=t:=by
  have:=List.findIdx_getElem (xs:=xs) (p:=fun x=>decide (x=t)) (w:=hk)
  simpa using this
 refine⟨_,by rw[pos,ArQ h],hk,by rw[ArG hk,hg],?_,?_⟩
 ·conv=>lhs;rw[← AsO (xs.findIdx (fun x=>decide (x=t))) xs,Ar8 hk,hg]
 ·intro hm
  obtain⟨j,hj,e⟩:=AuK.1 hm
  have:=List.not_of_lt_findIdx (p:=fun x=>decide (x=t)) (xs:=xs) (i:=j) (by omega)
  simp[e]at this
theorem AcO{xs:List Int}{t:Int}(h:t∉xs):pos xs t = -1:=by rw[pos,ArM h]
end Go.Pev.Pl
end
section
namespace Go.Pev.Pl
section
variable {α β:Type} [DecidableEq α]
theorem AZU(es:List (α×β))(k:α)(v:β)(j:α):AS (Ad es k v) j=if j=k then some v else AS es j:=by
 induction es with
 |nil=>
  simp only[Ad,AS]
  by_cases h:j=k
  ·rw[ArQ h,ArQ h.symm]
  ·rw[ArM h,ArM (AsA h)]
 |cons e es ih=>
  obtain⟨a,x⟩:=e
  by_cases h1:a=k
  ·subst h1
   simp only[Ad,AS,Ar0]
   by_cases h:j=a
   ·rw[ArQ h,ArQ h.symm]
   ·rw[ArM h,ArM (AsA h),ArM (AsA h)]
  ·simp only[Ad,AS,h1,ArY,ih]
   by_cases h:a=j
   ·subst h
    rw[ArQ rfl,ArM h1,ArQ rfl]
   ·rw[ArM h,ArM h]
theorem AJS:∀ (es:List (α×β)) (k:α),Dz es k=none→∀ v,Ad es k v=es++[(k,v)]:=by
 intro es
 induction es with
 |nil=>intro k _ v;rfl
 |cons e es ih=>
  intro k h v
  obtain⟨a,b⟩:=e
  by_cases hk:a=k
  ·simp[Dz,hk]at h
  ·simp only[Dz,hk,ArY,Aua]at h
   simp only[Ad,hk,ArY,ih k h v,Arj]
theorem AJR:∀ (es:List (α×β)) (k:α) (n:Nat),Dz es k=some n→∀ v,n<es.length∧Ad es k v=es.modify n fun e=>(e.1,v):=by
 intro es
 induction es with
 |nil=>intro k n h;simp[Dz]at h
 |cons e es ih=>
  intro k n h v
  obtain⟨a,b⟩:=e
  by_cases hk:a=k
  ·simp only[Dz,hk,Ar0,ArE]at h
   subst h
   simp[Ad,hk]
  ·simp only[Dz,hk,ArY,ArX]at h
   obtain⟨m,hm,rfl⟩:=h
   obtain⟨h1,h2⟩:=ih k m hm v
   simp only[Ad,hk,ArY,ArO]
   exact⟨by omega,by rw[h2];rfl⟩
theorem AY8(es:List (α×β))(k:α)(z v:β):(ile (0:Int) (ZT es k)&&ilt (ZT es k) (AM (Ad es k z)))=true∧Afh (Ad es k z) (ZT es k) v=Ad es k v:=by
 rw[An,Ae]
 unfold ZT Afh
 cases h:Dz es k with
 |none=>
  rw[AJS es k h,AJS es k h,Option.getD_none,AsG]
  constructor
  ·rw[ArD (by omega),ArD (by rw[AR,ArJ];simp;omega)];rfl
  ·have:∀ (xs:List (α×β)),(xs++[(k,z)]).modify xs.length (fun e=>(e.1,v))=xs++[(k,v)]:=by
    intro xs
    induction xs with
    |nil=>rfl
    |cons x xs ih=>rw[Arj,ArO,List.modify_succ_cons,ih];rfl
   exact this es
 |some n=>
  obtain⟨h1,h2⟩:=AJR es k n h z
  obtain⟨_,h3⟩:=AJR es k n h v
  rw[h2,h3,AsB,AsG]
  constructor
  ·rw[ArD (by omega),ArD (by rw[AR,List.length_modify];omega)];rfl
  ·apply AsP
   intro i
   simp only[List.getElem?_modify]
   cases es[i]? with
   |none=>split<;>rfl
   |some e=>split<;>rfl
end
end Go.Pev.Pl
end
section
namespace Go.Pev.Pl
section
variable {α:Type} (z:α)
theorem AEZ{a o:List α}{m k:Nat}(h:a.drop m=o.drop m)(hk:m≤k):a.getD k z=o.getD k z:=by
 have:=Asp (fun l=>l.getD (k-m) z) h
 simp only[ArF,AsJ]at this
 rw[Nat.add_sub_cancel' hk]at this
 simpa [ArF]using this
theorem L6{xs:List α}{i:Nat}(h:i<xs.length):xs.take (i+1)=xs.take i++[xs.getD i z]:=by
 rw[Asi h];simp[h]
theorem AmD{σ ρ:Type}{step:σ→Option (σ⊕ρ)}(st:List α→Nat→Nat→σ)(fin:List α→Nat→ρ)(keep:α→Bool)(o:List α)
  (h:∀ a w j,a.length=o.length→j<o.length→w<j→a.getD j z=o.getD j z→step (st a w j)=some (.inl (if keep (o.getD j z)=true then st (a.set w (o.getD j z)) (w+1) (j+1)else st a w (j+1))))
  (hN:∀ a w,a.length=o.length→step (st a w o.length)=some (.inr (fin a w))) :
  ∀ (k j w:Nat) (a:List α) (cnt:Nat),j+k=o.length→a.length=o.length→w=((o.take j).filter keep).length→a.take w=(o.take j).filter keep→w<j→a.drop j=o.drop j→k<cnt →
  ∃ a':List α,Aj step cnt (st a w j)=some (fin a' (o.filter keep).length)∧a'.length=o.length∧a'.take (o.filter keep).length=o.filter keep:=by
 intro k
 induction k with
 |zero=>
  intro j w a cnt hk hl hw hq hwj hd hn
  obtain⟨cnt,rfl⟩:∃ k,cnt=k+1:=⟨cnt-1,by omega⟩
  have e:j=o.length:=by omega
  subst e
  rw[Arw]at hw hq
  rw[Aj,hN a w hl]
  exact⟨a,by rw[hw],hl,by rw[← hw];exact hq⟩
 |succ k ih=>
  intro j w a cnt hk hl hw hq hwj hd hn
  obtain⟨cnt,rfl⟩:∃ k,cnt=k+1:=⟨cnt-1,by omega⟩
  have g1:=AEZ z hd (ArP j)
  have hdd:a.drop (j+1)=o.drop (j+1):=by
   have:=Asp (List.drop 1) hd
   simpa only[AtA]using this
  have hst:(o.take (j+1)).filter keep=(o.take j).filter keep++if keep (o.getD j z)=true then [o.getD j z]else []:=by
   rw[L6 z (by omega),AsY]
   generalize o.getD j z=v
   by_cases h:keep v=true<;>simp[h]
  rw[Aj,h a w j hl (by omega) hwj g1]
  by_cases hv:keep (o.getD j z)=true
  ·rw[ArQ hv]at hst ⊢
   refine ih (j+1) (w+1) (a.set w (o.getD j z)) cnt (by omega) (by simp[hl]) (by rw[hst];simp[hw]) ?_ (by omega) ?_ (by omega)
   ·rw[hst,← hq,Asi (by simp;omega)]
    simp[List.take_set_of_le]
   ·rw[List.drop_set_of_lt (by omega)]
    exact hdd
  ·rw[ArM hv]at hst ⊢
   rw[AsH]at hst
   exact ih (j+1) w a cnt (by omega) hl (by rw[hst];exact hw) (by rw[hst];exact hq) (by omega) hdd (by omega)
theorem AhC{σ ρ σ' ρ':Type}{find:σ'→Option (σ'⊕ρ')}{step:σ→Option (σ⊕ρ)}(st:List α→Nat→Nat→σ)(fin:List α→Nat→ρ)(sf:Nat→σ')(fr:Nat→ρ')(fn:ρ')(keep:α→Bool)(o:List α)(hs:o.length<4294967296)
  (h:∀ a w j,a.length=o.length→j<o.length→w<j→a.getD j z=o.getD j z→step (st a w j)=some (.inl (if keep (o.getD j z)=true then st (a.set w (o.getD j z)) (w+1) (j+1)else st a w (j+1))))
  (hN:∀ a w,a.length=o.length→step (st a w o.length)=some (.inr (fin a w)))
  (f:∀ i,i<o.length→find (sf i)=if keep (o.getD i z)=true then some (.inl (sf (i+1)))else some (.inr (fr i))) (fN:find (sf o.length)=some (.inr fn)) :
  (o.filter keep=o∧AU find many (sf 0)=some fn) ∨
  (∃ k a',k<o.length∧AU find many (sf 0)=some (fr k)∧AU step many (st o k (k+1))=some (fin a' (o.filter keep).length)∧a'.length=o.length∧(o.filter keep).length≤o.length∧a'.take (o.filter keep).length=o.filter keep):=by
 have hm:4294967296<many:=by simp only[many];omega
 have hall:∀ n,(∀ j,j<n→j<o.length→keep (o.getD j z)=true)→(o.take n).filter keep=o.take n:=by
  intro n hj
  rw[AtX]
  intro x hx
  obtain⟨j,h1,rfl⟩:=AuK.1 hx
  have:=hj j (by omega) (by omega)
  simpa [show j<o.length by omega]using this
 rcases Apc (step:=find) sf o.length (fun i => !keep (o.getD i z)) fr fn (by omega) (fun i hi=>by rw[f i hi];cases keep (o.getD i z)<;>rfl) fN with⟨k,hk,hP,hF,e⟩|⟨hP,e⟩
 ·right
  have hkf:keep (o.getD k z)=false:=by
   cases hq:keep (o.getD k z)
   ·rfl
   ·rw[hq]at hP;cases hP
  have h1:(o.take k).filter keep=o.take k:=hall k fun j h1 _=>by
   have:=hF j h1
   cases hq:keep (o.getD j z)
   ·rw[hq]at this;cases this
   ·rfl
  have h2:(o.take (k+1)).filter keep=o.take k:=by
   rw[L6 z hk,AsY,h1,AsS,hkf]
   simp
  obtain⟨a',e2,e3,e4⟩:=AmD z st fin keep o h hN (o.length-(k+1)) (k+1) k o many (by omega) rfl (by rw[h2,ArU];omega) (by rw[h2]) (by omega) rfl (by omega)
  exact⟨k,a',hk,e,by rw[A3];exact e2,e3,Asw _ _,e4⟩
 ·left
  refine⟨?_,e⟩
  have:=hall o.length fun j _ h2=>by
   have:=hP j h2
   cases hq:keep (o.getD j z)
   ·rw[hq]at this;cases this
   ·rfl
  rwa [Arw]at this
theorem AbD{a:List α}{w:Nat}(h:w≤a.length):(Bs w (a.length-w) z a).take w=a.take w∧(Bs w (a.length-w) z a).length=a.length:=by
 constructor
 ·rw[Bs,List.take_append_of_le_length (by simp;omega),AtY,Nat.min_self]
 ·simp[Bs];omega
end
end Go.Pev.Pl
end
section
namespace Go.Pev.Pl
structure Tsk where
 lo:Nat
 hi:Nat
 up:Option Nat
 wait:Nat
theorem Ys{l:List Nat}(hn:l.Nodup){j0:Nat}(hj:j0∈l){Q Q':Nat→Bool}(h:∀ j∈l,j≠j0→Q' j=Q j):
  l.countP Q'+(Q j0).toNat=l.countP Q+(Q' j0).toNat:=by
 induction l with
 |nil=>cases hj
 |cons x l ih=>
  rw[Arp]at hn
  rw[AtK,AtK]
  by_cases hx:x=j0
  ·subst hx
   have:l.countP Q'=l.countP Q:=by
    refine Atg fun j hjl => ?_
    rw[h j (by simp[hjl]) (by rintro rfl;exact hn.1 hjl)]
   rw[this]
   cases Q x<;>cases Q' x<;>simp
  ·have h1:=h x (by simp) hx
   rw[h1]
   have:=ih hn.2 (by simpa [AsA hx]using hj) (fun j hjl=>h j (by simp[hjl]))
   omega
def Kg(ts:List Tsk)(A:List Nat)(j:Nat):Bool:=A.contains j||match ts[j]? with
 |some t=>decide (0<t.wait)
 |none=>false
def IT(ts:List Tsk)(A:List Nat)(i j:Nat):Bool:=match ts[j]? with
 |some t=>decide (t.up=some i)&&Kg ts A j
 |none=>false
def kids(ts:List Tsk)(A:List Nat)(i:Nat):Nat:=(List.range ts.length).countP (IT ts A i)
structure Tr(n:Nat)(ts:List Tsk)(A:List Nat)(u:Option Nat):Prop where
 tree:∀ (i:Nat) (t:Tsk),ts[i]? = some t→t.lo<t.hi∧t.hi≤n∧t.wait≤2∧(t.up=none→i=0)∧∀ x,t.up=some x→x<i
 nod:A.Nodup
 act:∀ a∈A,∃ t:Tsk,ts[a]? = some t∧t.wait=0
 leaf:∀ a∈A,∀ (j:Nat) (t:Tsk),ts[j]? = some t→t.up≠some a
 cnt:∀ (i:Nat) (t:Tsk),ts[i]? = some t→t.wait=kids ts A i+(if u=some i then 1 else 0)
theorem Js{ts:List Tsk}{A:List Nat}{j:Nat}{t:Tsk}(h:ts[j]? = some t):Kg ts A j=true↔j∈A∨0<t.wait:=by
 unfold Kg;rw[h];simp
theorem Mv{ts:List Tsk}{A:List Nat}{i:Nat}:0<kids ts A i↔∃ (j:Nat) (t:Tsk),ts[j]? = some t∧t.up=some i∧Kg ts A j=true:=by
 unfold kids
 rw[List.countP_pos_iff]
 constructor
 ·rintro⟨j,_,h⟩
  unfold IT at h
  cases ht:ts[j]? with
  |none=>rw[ht]at h;cases h
  |some t=>rw[ht]at h;simp only[ArL,ArH]at h;exact⟨j,t,ht,h.1,h.2⟩
 ·rintro⟨j,t,h1,h2,h3⟩
  refine⟨j,Arl.2 (ArW.1 h1).1,?_⟩
  unfold IT
  rw[h1];simp[h2,h3]
theorem Tr.descend{n:Nat}{ts:List Tsk}{A:List Nat}(h:Tr n ts A none):∀ (k i:Nat),ts.length-i≤k→∀ t:Tsk,ts[i]? = some t→Kg ts A i=true→A≠[]:=by
 intro k
 induction k with
 |zero=>
  intro i hk t ht
  have:=(ArW.1 ht).1
  omega
 |succ k ih=>
  intro i hk t ht hp
  rcases(Js ht).1 hp with h1|h1
  ·rintro rfl;cases h1
  ·rw[h.cnt i t ht]at h1
   simp at h1
   obtain⟨j,t',h2,h3,h4⟩:=Mv.1 h1
   have hlt:=(h.tree j t' h2).2.2.2.2 i h3
   have:=(ArW.1 ht).1
   exact ih j (by omega) t' h2 h4
theorem Tr.Aqf{n:Nat}{ts:List Tsk}{A:List Nat}(h:Tr n ts A none):∀ (i:Nat) (t:Tsk),ts[i]? = some t→Kg ts A i=true→Kg ts A 0=true:=by
 intro i
 induction i using Nat.strongRecOn with
 |ind i ih=>
  intro t ht hp
  cases hu:t.up with
  |none=>
   have:=(h.tree i t ht).2.2.2.1 hu
   subst this;exact hp
  |some x=>
   have hx:=(h.tree i t ht).2.2.2.2 x hu
   have hl:=(ArW.1 ht).1
   have hxs:ts[x]? = some (ts[x]'(by omega)):=ArG (by omega)
   refine ih x hx _ hxs ((Js hxs).2 (.inr ?_))
   rw[h.cnt x _ hxs]
   have:=Mv.2 ⟨i,t,ht,hu,hp⟩
   simp;exact this
def fin:Nat→List Tsk→Option Nat→List Tsk×Bool
 |_,ts,none=>(ts,true)
 |0,ts,some _=>(ts,false)
 |k+1,ts,some x=>match ts[x]? with
  |none=>(ts,false)
  |some t=>if t.wait=0 then(ts,false)else if 0<t.wait-1 then(ts.set x { t with wait:=t.wait-1 },false)else fin k (ts.set x { t with wait:=t.wait-1 }) t.up
def Alike(ts ts':List Tsk):Prop:=ts'.length=ts.length∧∀ (i:Nat) (t:Tsk),ts[i]? = some t→∃ t':Tsk,ts'[i]? = some t'∧t'.lo=t.lo∧t'.hi=t.hi∧t'.up=t.up
theorem Alike.refl(ts:List Tsk):Alike ts ts:=⟨rfl,fun _ t h=>⟨t,h,rfl,rfl,rfl⟩⟩
theorem Alike.trans{a b c:List Tsk}(h:Alike a b)(k:Alike b c):Alike a c:=
 ⟨k.1.trans h.1,fun i t ht=>by
  obtain⟨t',h1,h2,h3,h4⟩:=h.2 i t ht
  obtain⟨t'',k1,k2,k3,k4⟩:=k.2 i t' h1
  exact⟨t'',k1,k2.trans h2,k3.trans h3,k4.trans h4⟩⟩
theorem OG{α:Type}{l:List α}{x i:Nat}{a t:α}(h:(l.set x a)[i]? = some t):(i=x∧t=a∧x<l.length)∨(i≠x∧l[i]? = some t):=by
 rw[Ast]at h
 by_cases hx:x=i
 ·subst hx
  rw[ArQ rfl]at h
  by_cases hl:x<l.length
  ·rw[ArQ hl]at h;exact .inl ⟨rfl,(AsQ h).symm,hl⟩
  ·rw[ArM hl]at h;cases h
 ·rw[ArM hx]at h;exact .inr ⟨fun e=>hx e.symm,h⟩
theorem Pc{α:Type}{l:List α}{x:Nat}{a b:α}(h:l[x]? = some b):(l.set x a)[x]? = some a:=by
 rw[Ast,ArQ rfl,ArQ (ArW.1 h).1]
theorem Z0{α:Type}{l:List α}{x i:Nat}{a:α}(h:i≠x):(l.set x a)[i]? = l[i]? := by
 rw[Ast,ArM (AsA h)]
theorem XK{ts:List Tsk}{x:Nat}{t:Tsk}(h:ts[x]? = some t)(w:Nat):Alike ts (ts.set x { t with wait:=w }):=by
 refine⟨by simp,fun i s hs => ?_⟩
 by_cases hi:i=x
 ·subst hi
  rw[h]at hs;cases hs
  exact⟨_,Pc h,rfl,rfl,rfl⟩
 ·exact⟨s,by rw[Z0 hi];exact hs,rfl,rfl,rfl⟩
theorem Ak4{ts:List Tsk}{A:List Nat}{x:Nat}{t:Tsk}(h:ts[x]? = some t)(w:Nat)(i j:Nat)(hj:j≠x):IT (ts.set x { t with wait:=w }) A i j=IT ts A i j:=by
 unfold IT Kg;rw[Z0 hj]
theorem AAA{ts:List Tsk}{A:List Nat}{x:Nat}{t:Tsk}(h:ts[x]? = some t)(i:Nat):IT ts A i x=(decide (t.up=some i)&&(A.contains x||decide (0<t.wait))):=by
 unfold IT Kg;rw[h]
theorem Ak3{ts:List Tsk}{A:List Nat}{x:Nat}{t:Tsk}(h:ts[x]? = some t)(w i:Nat):
  kids (ts.set x { t with wait:=w }) A i+(decide (t.up=some i)&&(A.contains x||decide (0<t.wait))).toNat=kids ts A i+(decide (t.up=some i)&&(A.contains x||decide (0<w))).toNat:=by
 unfold kids
 rw[AsW]
 have:=Ys (l:=List.range ts.length) Asq (Arl.2 (ArW.1 h).1) (Q:=IT ts A i) (Q':=IT (ts.set x { t with wait:=w }) A i) (fun j _ hj=>Ak4 h w i j hj)
 rw[AAA h,AAA (Pc h)]at this
 exact this
theorem AqV{n:Nat}:∀ (k:Nat) (ts:List Tsk) (A:List Nat) (u:Option Nat),Tr n ts A u→(∀ x,u=some x→x<k∧x<ts.length∧x∉A)→(u=none→Kg ts A 0=false) →
  ∃ ts',fin k ts u=(ts',A.isEmpty)∧Tr n ts' A none∧Alike ts ts':=by
 have emp:∀ {ts:List Tsk} {A:List Nat},Tr n ts A none→Kg ts A 0=false→A.isEmpty=true:=by
  intro ts A h hp
  cases A with
  |nil=>rfl
  |cons a A=>
   obtain⟨t,ht,_⟩:=h.act a (by simp)
   have:=h.Aqf a t ht ((Js ht).2 (.inl (by simp)))
   rw[hp]at this;cases this
 intro k
 induction k with
 |zero=>
  intro ts A u h hu ht
  cases u with
  |some x=>exact absurd (hu x rfl).1 (by omega)
  |none=>exact⟨ts,by unfold fin;rw[emp h (ht rfl)],h,Alike.refl ts⟩
 |succ k ih=>
  intro ts A u h hu ht
  cases u with
  |none=>exact⟨ts,by unfold fin;rw[emp h (ht rfl)],h,Alike.refl ts⟩
  |some x=>
   obtain⟨h1,h2,h3⟩:=hu x rfl
   have hx:ts[x]? = some (ts[x]):=ArG h2
   generalize ts[x]=t at hx
   have hc:=h.cnt x t hx
   rw[ArQ rfl]at hc
   have hcon:A.contains x=false:=by simpa using h3
   have hks:=fun i=>Ak3 (A:=A) hx (t.wait-1) i
   have htr:=h.tree x t hx
   have htree:∀ (i:Nat) (s:Tsk),(ts.set x { t with wait:=t.wait-1 })[i]? = some s→s.lo<s.hi∧s.hi≤n∧s.wait≤2∧(s.up=none→i=0)∧∀ x,s.up=some x→x<i:=by
    intro i s hs
    rcases OG hs with⟨rfl,rfl,_⟩|⟨_,hs⟩
    ·exact⟨htr.1,htr.2.1,by show t.wait-1≤2;have:=htr.2.2.1;omega,htr.2.2.2⟩
    ·exact h.tree i s hs
   have hact:∀ a∈A,∃ s:Tsk,(ts.set x { t with wait:=t.wait-1 })[a]? = some s∧s.wait=0:=fun a ha=>by
    rw[Z0 (by rintro rfl;exact h3 ha)];exact h.act a ha
   have hleaf:∀ a∈A,∀ (j:Nat) (s:Tsk),(ts.set x { t with wait:=t.wait-1 })[j]? = some s→s.up≠some a:=by
    intro a ha j s hs
    rcases OG hs with⟨rfl,rfl,_⟩|⟨_,hs⟩
    ·exact h.leaf a ha j t hx
    ·exact h.leaf a ha j s hs
   by_cases hw:0<t.wait-1
   ·have hsame:∀ i,kids (ts.set x { t with wait:=t.wait-1 }) A i=kids ts A i:=fun i=>by
     have:=hks i
     rw[hcon,ArD hw,ArD (show 0<t.wait by omega)]at this
     omega
    have hT:Tr n (ts.set x { t with wait:=t.wait-1 }) A none:=⟨htree,h.nod,hact,hleaf,fun i s hs=>by
     rw[hsame]
     rcases OG hs with⟨rfl,rfl,_⟩|⟨hne,hs⟩
     ·simp;omega
     ·rw[h.cnt i s hs,ArM (by simp;exact fun e=>hne e.symm)];simp⟩
    refine⟨_,?_,hT,XK hx _⟩
    unfold fin
    rw[hx]
    simp only
    rw[ArM (by omega),ArQ hw]
    have:A≠[]:=hT.descend _ x (ArP _) _ (Pc hx) ((Js (Pc hx)).2 (.inr hw))
    cases A with
    |nil=>exact absurd rfl this
    |cons a A=>rfl
   ·have hw1:t.wait=1:=by omega
    have hup:∀ i,kids (ts.set x { t with wait:=t.wait-1 }) A i+(decide (t.up=some i)).toNat=kids ts A i:=fun i=>by
     have:=hks i
     rw[hcon,hw1]at this
     simp at this
     rw[hw1];exact this
    have hT:Tr n (ts.set x { t with wait:=t.wait-1 }) A t.up:=⟨htree,h.nod,hact,hleaf,fun i s hs=>by
     have h5:=hup i
     rcases OG hs with⟨rfl,rfl,_⟩|⟨hne,hs⟩
     ·show t.wait-1=_
      have:t.up≠some i:=fun e=>by have:=htr.2.2.2.2 i e;omega
      rw[ArM this]
      rw[ArC this]at h5
      simp at h5;omega
     ·rw[h.cnt i s hs,ArM (by simp;exact fun e=>hne e.symm)]
      by_cases he:t.up=some i
      ·rw[ArQ he];rw[ArD he]at h5;simp at h5;omega
      ·rw[ArM he];rw[ArC he]at h5;simp at h5;omega⟩
    obtain⟨ts',e1,e2,e3⟩:=ih _ A t.up hT (fun y hy=>by
     have:=htr.2.2.2.2 y hy
     exact⟨by omega,by simp;omega,fun hyA=>h.leaf y hyA x t hx hy⟩) (fun hn=>by
     have:=htr.2.2.2.1 hn
     subst this
     have:¬ Kg (ts.set 0 { t with wait:=t.wait-1 }) A 0=true:=by
      rw[Js (Pc hx)]
      rintro (h|h)
      ·exact h3 h
      ·exact hw h
     simpa using this)
    refine⟨ts',?_,e2,(XK hx _).trans e3⟩
    unfold fin
    rw[hx]
    simp only
    rw[ArM (by omega),ArM hw,e1]
theorem Tr.part{n:Nat}{ts:List Tsk}{a:Nat}{A:List Nat}(h:Tr n ts (a::A) none){t:Tsk}(ht:ts[a]? = some t){A8:Nat}(h1:t.lo<A8)(h2:A8<t.hi):
  Tr n (ts.set a { t with wait:=2 }++[⟨t.lo,A8,some a,0⟩,⟨A8,t.hi,some a,0⟩]) (ts.length::(ts.length+1)::A) none:=by
 have hal:=(ArW.1 ht).1
 have hnod:=h.nod
 rw[Arp]at hnod
 have hAl:∀ x∈A,x<ts.length:=fun x hx=>by
  obtain⟨s,hs,_⟩:=h.act x (by simp[hx])
  exact(ArW.1 hs).1
 have cases':∀ {i:Nat} {s:Tsk},(ts.set a { t with wait:=2 }++[⟨t.lo,A8,some a,0⟩,⟨A8,t.hi,some a,0⟩])[i]? = some s →
   (i=a∧s = { t with wait:=2 })∨(i≠a∧i<ts.length∧ts[i]? = some s)∨(i=ts.length∧s=⟨t.lo,A8,some a,0⟩)∨(i=ts.length+1∧s=⟨A8,t.hi,some a,0⟩):=by
  intro i s hs
  by_cases hi:i<ts.length
  ·rw[Arm (by simpa using hi)]at hs
   rcases OG hs with⟨e1,e2,_⟩|⟨e1,e2⟩
   ·exact .inl ⟨e1,e2⟩
   ·exact .inr (.inl ⟨e1,hi,e2⟩)
  ·rw[Aro (by simpa using hi),AsW]at hs
   obtain⟨d,rfl⟩:∃ d,i=ts.length+d:=⟨i-ts.length,by omega⟩
   rw[AuW]at hs
   match d,hs with
   |0,hs=>exact .inr (.inr (.inl ⟨rfl,(AsQ hs).symm⟩))
   |1,hs=>exact .inr (.inr (.inr ⟨rfl,(AsQ hs).symm⟩))
   |d+2,hs=>simp at hs
 have htr:=h.tree a t ht
 have hold:∀ {i:Nat} {s:Tsk},i≠a→ts[i]? = some s→(ts.set a { t with wait:=2 }++[⟨t.lo,A8,some a,0⟩,⟨A8,t.hi,some a,0⟩])[i]? = some s:=by
  intro i s hi hs
  have:=(ArW.1 hs).1
  rw[Arm (by simpa using this),Z0 hi];exact hs
 have hata:(ts.set a { t with wait:=2 }++[⟨t.lo,A8,some a,0⟩,⟨A8,t.hi,some a,0⟩])[a]? = some { t with wait:=2 }:=by
  rw[Arm (by simpa using hal),Pc ht]
 have hn0:(ts.set a { t with wait:=2 }++[⟨t.lo,A8,some a,0⟩,⟨A8,t.hi,some a,0⟩])[ts.length]? = some ⟨t.lo,A8,some a,0⟩:=by
  rw[Aro (by simp)];simp
 have hn1:(ts.set a { t with wait:=2 }++[⟨t.lo,A8,some a,0⟩,⟨A8,t.hi,some a,0⟩])[ts.length+1]? = some ⟨A8,t.hi,some a,0⟩:=by
  rw[Aro (by simp)];simp
 refine⟨?_,?_,?_,?_,?_⟩
 ·intro i s hs
  rcases cases' hs with⟨rfl,rfl⟩|⟨_,_,hs⟩|⟨rfl,rfl⟩|⟨rfl,rfl⟩
  ·exact⟨htr.1,htr.2.1,ArP _,htr.2.2.2⟩
  ·exact h.tree i s hs
  ·exact⟨h1,by show A8≤n;have:=htr.2.1;omega,AtO _,fun e=>(by cases e),fun x e=>(by cases e;exact hal)⟩
  ·exact⟨h2,htr.2.1,AtO _,fun e=>(by cases e),fun x e=>(by cases e;omega)⟩
 ·rw[Arp,Arp]
  refine⟨?_,?_,hnod.2⟩
  ·simp;exact fun hx=>absurd (hAl _ hx) (by omega)
  ·exact fun hx=>absurd (hAl _ hx) (by omega)
 ·intro x hx
  simp only[ArK]at hx
  rcases hx with rfl|rfl|hx
  ·exact⟨_,hn0,rfl⟩
  ·exact⟨_,hn1,rfl⟩
  ·obtain⟨s,hs,hw⟩:=h.act x (by simp[hx])
   exact⟨s,hold (by rintro rfl;exact hnod.1 hx) hs,hw⟩
 ·intro x hx j s hs
  simp only[ArK]at hx
  have hxa:x≠a:=by
   rcases hx with rfl|rfl|hx
   ·omega
   ·omega
   ·rintro rfl;exact hnod.1 hx
  rcases cases' hs with⟨rfl,rfl⟩|⟨_,hj,hs⟩|⟨rfl,rfl⟩|⟨rfl,rfl⟩
  ·show t.up≠some x
   intro e
   have:=htr.2.2.2.2 x e
   rcases hx with rfl|rfl|hx
   ·omega
   ·omega
   ·exact h.leaf x (by simp[hx]) j t ht e
  ·intro e
   have:=(h.tree j s hs).2.2.2.2 x e
   rcases hx with rfl|rfl|hx
   ·omega
   ·omega
   ·exact h.leaf x (by simp[hx]) j s hs e
  ·intro e;cases e;exact hxa rfl
  ·intro e;cases e;exact hxa rfl
 ·intro i s hs
  have hk:kids (ts.set a { t with wait:=2 }++[⟨t.lo,A8,some a,0⟩,⟨A8,t.hi,some a,0⟩]) (ts.length::(ts.length+1)::A) i=kids ts (a::A) i+if i=a then 2 else 0:=by
   unfold kids
   rw[ArJ,AsW]
   show(List.range (ts.length+2)).countP _=_
   rw[Arz,Arz,List.countP_append,List.countP_append]
   have e1:(List.range ts.length).countP (IT (ts.set a { t with wait:=2 }++[⟨t.lo,A8,some a,0⟩,⟨A8,t.hi,some a,0⟩]) (ts.length::(ts.length+1)::A) i)=(List.range ts.length).countP (IT ts (a::A) i):=by
    refine Atg fun j hj => ?_
    rw[Arl]at hj
    by_cases hja:j=a
    ·subst hja
     unfold IT Kg
     rw[hata,ht];simp
    ·have hs0:ts[j]? = some ts[j]:=ArG hj
     unfold IT Kg
     rw[hold hja hs0,hs0]
     have h3:¬ j=ts.length:=by omega
     have h4:¬ j=ts.length+1:=by omega
     simp[hja,h3,h4]
   rw[e1]
   have e2:IT (ts.set a { t with wait:=2 }++[⟨t.lo,A8,some a,0⟩,⟨A8,t.hi,some a,0⟩]) (ts.length::(ts.length+1)::A) i ts.length=decide (i=a):=by
    unfold IT Kg;rw[hn0];simp[eq_comm]
   have e3:IT (ts.set a { t with wait:=2 }++[⟨t.lo,A8,some a,0⟩,⟨A8,t.hi,some a,0⟩]) (ts.length::(ts.length+1)::A) i (ts.length+1)=decide (i=a):=by
    unfold IT Kg;rw[hn1];simp[eq_comm]
   simp only[AtK,List.countP_nil,e2,e3]
   by_cases hi:i=a
   ·simp[hi]
   ·simp[hi]
  rw[hk]
  rcases cases' hs with⟨rfl,rfl⟩|⟨hne,hj,hs⟩|⟨rfl,rfl⟩|⟨rfl,rfl⟩
  ·have:=h.cnt i t ht
   obtain⟨t',e1,e2⟩:=h.act i (by simp)
   rw[ht]at e1;cases e1
   rw[e2]at this
   simp at this ⊢
   omega
  ·rw[ArM hne];exact h.cnt i s hs
  ·rw[ArM (by omega)]
   have:kids ts (a::A) ts.length=0:=by
    refine Nat.eq_zero_of_not_pos fun hp => ?_
    obtain⟨j,s,h3,h4,_⟩:=Mv.1 hp
    have:=(h.tree j s h3).2.2.2.2 _ h4
    have:=(ArW.1 h3).1
    omega
   simp[this]
  ·rw[ArM (by omega)]
   have:kids ts (a::A) (ts.length+1)=0:=by
    refine Nat.eq_zero_of_not_pos fun hp => ?_
    obtain⟨j,s,h3,h4,_⟩:=Mv.1 hp
    have:=(h.tree j s h3).2.2.2.2 _ h4
    have:=(ArW.1 h3).1
    omega
   simp[this]
theorem AgD{ts:List Tsk}{A B:List Nat}(h:A.Perm B)(i:Nat):kids ts A i=kids ts B i:=by
 unfold kids
 refine Atg fun j _ => ?_
 unfold IT Kg
 have:A.contains j=B.contains j:=by
  rw[AsT];simp;exact h.mem_iff
 rw[this]
theorem Tr.perm{n:Nat}{ts:List Tsk}{A B:List Nat}(h:Tr n ts A none)(hp:A.Perm B):Tr n ts B none:=
 ⟨h.tree,hp.nodup_iff.1 h.nod,fun a ha=>h.act a (hp.mem_iff.2 ha),fun a ha=>h.leaf a (hp.mem_iff.2 ha),fun i t ht=>by rw[← AgD hp];exact h.cnt i t ht⟩
theorem Tr.did{n:Nat}{ts:List Tsk}{a:Nat}{A:List Nat}(h:Tr n ts (a::A) none){t:Tsk}(ht:ts[a]? = some t):
  ∃ ts',fin ts.length ts t.up=(ts',A.isEmpty)∧Tr n ts' A none∧Alike ts ts':=by
 have hnod:=h.nod
 rw[Arp]at hnod
 have hal:=(ArW.1 ht).1
 obtain⟨t',e1,hw⟩:=h.act a (by simp)
 rw[ht]at e1;cases e1
 have htr:=h.tree a t ht
 have hk:∀ i,kids ts A i+(decide (t.up=some i)).toNat=kids ts (a::A) i:=by
  intro i
  unfold kids
  have:=Ys (l:=List.range ts.length) Asq (Arl.2 hal) (Q:=IT ts (a::A) i) (Q':=IT ts A i) (fun j _ hj=>by
   unfold IT Kg
   have:(a::A).contains j=A.contains j:=by simp[hj]
   rw[this])
  rw[AAA ht,AAA ht,hw]at this
  have h3:A.contains a=false:=by simpa using hnod.1
  rw[h3]at this
  simp at this
  omega
 refine AqV ts.length ts A t.up ⟨h.tree,hnod.2,fun x hx=>h.act x (by simp[hx]),fun x hx=>h.leaf x (by simp[hx]),fun i s hs => ?_⟩ (fun x hx => ?_) (fun hu => ?_)
 ·have h5:=hk i
  have h6:=h.cnt i s hs
  simp at h6
  by_cases he:t.up=some i
  ·rw[ArQ he];rw[ArD he]at h5;simp at h5;omega
  ·rw[ArM he];rw[ArC he]at h5;simp at h5;omega
 ·have:=htr.2.2.2.2 x hx
  exact⟨by omega,by omega,fun hxA=>h.leaf x (by simp[hxA]) a t ht hx⟩
 ·have:=htr.2.2.2.1 hu
  subst this
  have:¬ Kg ts A 0=true:=by
   rw[Js ht]
   rintro (h|h)
   ·exact hnod.1 h
   ·omega
  simpa using this
end Go.Pev.Pl
end
section
namespace Go.Pev.Pl
def rng(ts:List Tsk)(a:Nat):List Nat:=match ts[a]? with
 |some t=>List.range' t.lo (t.hi-t.lo)
 |none=>[]
def MF(ts:List Tsk)(a:Nat):Nat:=match ts[a]? with
 |some t=>2*(t.hi-t.lo)-1
 |none=>0
def pot(ts:List Tsk)(A:List Nat):Nat:=(A.map (MF ts)).sum
def Oy(dn:List Bool)(lo:Nat):Nat→List Bool
 |0=>dn
 |k+1=>(Oy dn lo k).set (lo+k) true
theorem AJl(dn:List Bool)(lo k:Nat):(Oy dn lo k).length=dn.length:=by
 induction k with
 |zero=>rfl
 |succ k ih=>unfold Oy;rw[AsW,ih]
theorem Afv(dn:List Bool)(lo k u:Nat)(hu:u<dn.length):(Oy dn lo k)[u]? = some (decide (lo≤u∧u<lo+k)||dn[u]):=by
 induction k with
 |zero=>
  have:¬ (lo≤u∧u<lo+0):=by omega
  rw[ArC this]
  exact ArG hu
 |succ k ih=>
  unfold Oy
  rw[Ast]
  by_cases h:lo+k=u
  ·rw[ArQ h,ArQ (by rw[AJl];omega),ArD (by omega)];rfl
  ·rw[ArM h,ih]
   congr 2
   rw[AsT,ArH,ArH]
   omega
structure Iv(n:Nat)(ts:List Tsk)(dn:List Bool)(A U:List Nat)(D:Nat):Prop where
 len:dn.length=n
 tr:Tr n ts A none
 units:(A.flatMap (rng ts)++U).Perm (List.range n)
 dn:∀ u,u<n→dn[u]? = some (decide (u∈U))
 size:ts.length+1=2*(A.length+D)
 dle:D≤U.length
theorem AOQ{α β:Type}{l l':List α}(h:l.Perm l')(f:α→List β):(l.flatMap f).Perm (l'.flatMap f):=by
 induction h with
 |nil=>exact AuU _
 |cons x _ ih=>rw[Arv,Arv];exact ih.append_left _
 |swap x y l=>
  simp only[Arv,← Art]
  exact List.perm_append_comm.append_right _
 |trans _ _ h1 h2=>exact h1.trans h2
theorem Iv.perm{n:Nat}{ts:List Tsk}{dn:List Bool}{A B U:List Nat}{D:Nat}(h:Iv n ts dn A U D)(hp:A.Perm B):Iv n ts dn B U D:=
 ⟨h.len,h.tr.perm hp,((AOQ hp.symm _).append_right _).trans h.units,h.dn,by rw[← hp.length_eq];exact h.size,h.dle⟩
theorem ACg{ts:List Tsk}{A B:List Nat}(hp:A.Perm B):pot ts A=pot ts B:=(hp.map _).sum_nat
theorem Jn{ts ts':List Tsk}(h:Alike ts ts'){a:Nat}(ha:a<ts.length):rng ts' a=rng ts a∧MF ts' a=MF ts a:=by
 have hs:ts[a]? = some ts[a]:=ArG ha
 obtain⟨t',h1,h2,h3,_⟩:=h.2 a _ hs
 unfold rng MF
 rw[h1,hs]
 simp only[h2,h3,and_self]
theorem Iv.lt{n:Nat}{ts:List Tsk}{dn:List Bool}{A U:List Nat}{D:Nat}(h:Iv n ts dn A U D){a:Nat}(ha:a∈A):a<ts.length:=by
 obtain⟨t,ht,_⟩:=h.tr.act a ha
 exact(ArW.1 ht).1
theorem H0{α β:Type}{l:List α}{f g:α→List β}(h:∀ x∈l,f x=g x):l.flatMap f=l.flatMap g:=by
 induction l with
 |nil=>rfl
 |cons x l ih=>rw[Arv,Arv,h x (by simp),ih fun y hy=>h y (by simp[hy])]
theorem AMj{lo A8 hi:Nat}(h1:lo≤A8)(h2:A8≤hi):List.range' lo (A8-lo)++List.range' A8 (hi-A8)=List.range' lo (hi-lo):=by
 have:=List.range'_append_1 (s:=lo) (m:=A8-lo) (n:=hi-A8)
 rw[show lo+(A8-lo)=A8 by omega,show A8-lo+(hi-A8)=hi-lo by omega]at this
 exact this
theorem Iv.part{n:Nat}{ts:List Tsk}{dn:List Bool}{a:Nat}{A U:List Nat}{D:Nat}(h:Iv n ts dn (a::A) U D){t:Tsk}(ht:ts[a]? = some t){A8:Nat}(h1:t.lo<A8)(h2:A8<t.hi):
  Iv n (ts.set a { t with wait:=2 }++[⟨t.lo,A8,some a,0⟩,⟨A8,t.hi,some a,0⟩]) dn (ts.length::(ts.length+1)::A) U D ∧
  pot (ts.set a { t with wait:=2 }++[⟨t.lo,A8,some a,0⟩,⟨A8,t.hi,some a,0⟩]) (ts.length::(ts.length+1)::A)<pot ts (a::A) ∧
  ∀ x,x<ts.length→rng (ts.set a { t with wait:=2 }++[⟨t.lo,A8,some a,0⟩,⟨A8,t.hi,some a,0⟩]) x=rng ts x:=by
 have hold:∀ x,x<ts.length→rng (ts.set a { t with wait:=2 }++[⟨t.lo,A8,some a,0⟩,⟨A8,t.hi,some a,0⟩]) x=rng ts x∧MF (ts.set a { t with wait:=2 }++[⟨t.lo,A8,some a,0⟩,⟨A8,t.hi,some a,0⟩]) x=MF ts x:=by
  intro x hx
  have h3:=Jn (XK ht 2) hx
  rw[← h3.1,← h3.2]
  unfold rng MF
  rw[Arm (by simpa using hx)]
  exact⟨rfl,rfl⟩
 have hn0:(ts.set a { t with wait:=2 }++[⟨t.lo,A8,some a,0⟩,⟨A8,t.hi,some a,0⟩])[ts.length]? = some ⟨t.lo,A8,some a,0⟩:=by
  rw[Aro (by simp)];simp
 have hn1:(ts.set a { t with wait:=2 }++[⟨t.lo,A8,some a,0⟩,⟨A8,t.hi,some a,0⟩])[ts.length+1]? = some ⟨A8,t.hi,some a,0⟩:=by
  rw[Aro (by simp)];simp
 have hA:∀ x∈A,x<ts.length:=fun x hx=>h.lt (by simp[hx])
 refine⟨⟨h.len,h.tr.part ht h1 h2,?_,h.dn,?_,h.dle⟩,?_,fun x hx=>(hold x hx).1⟩
 ·rw[Arv,Arv,H0 fun x hx=>(hold x (hA x hx)).1]
  have e0:rng (ts.set a { t with wait:=2 }++[⟨t.lo,A8,some a,0⟩,⟨A8,t.hi,some a,0⟩]) ts.length=List.range' t.lo (A8-t.lo):=by unfold rng;rw[hn0]
  have e1:rng (ts.set a { t with wait:=2 }++[⟨t.lo,A8,some a,0⟩,⟨A8,t.hi,some a,0⟩]) (ts.length+1)=List.range' A8 (t.hi-A8):=by unfold rng;rw[hn1]
  rw[e0,e1,← Art,AMj (by omega) (by omega)]
  have:=h.units
  rw[Arv]at this
  have e2:rng ts a=List.range' t.lo (t.hi-t.lo):=by unfold rng;rw[ht]
  rw[e2]at this
  exact this
 ·have:=h.size
  simp only[ArJ,AsW,ArO,ArZ]at this ⊢
  omega
 ·unfold pot
  rw[Aru,Aru,Aru,Att,Att,Att,Asr fun x hx=>(hold x (hA x hx)).2]
  have e0:MF (ts.set a { t with wait:=2 }++[⟨t.lo,A8,some a,0⟩,⟨A8,t.hi,some a,0⟩]) ts.length=2*(A8-t.lo)-1:=by unfold MF;rw[hn0]
  have e1:MF (ts.set a { t with wait:=2 }++[⟨t.lo,A8,some a,0⟩,⟨A8,t.hi,some a,0⟩]) (ts.length+1)=2*(t.hi-A8)-1:=by unfold MF;rw[hn1]
  have e2:MF ts a=2*(t.hi-t.lo)-1:=by unfold MF;rw[ht]
  rw[e0,e1,e2]
  omega
theorem Iv.did{n:Nat}{ts:List Tsk}{dn:List Bool}{a:Nat}{A U:List Nat}{D:Nat}(h:Iv n ts dn (a::A) U D){t:Tsk}(ht:ts[a]? = some t):
  ∃ ts',fin ts.length ts t.up=(ts',A.isEmpty)∧Iv n ts' (Oy dn t.lo (t.hi-t.lo)) A (U++rng ts a) (D+1)∧pot ts' A<pot ts (a::A)∧Alike ts ts':=by
 obtain⟨ts',e1,e2,e3⟩:=h.tr.did ht
 have hA:∀ x∈A,x<ts.length:=fun x hx=>h.lt (by simp[hx])
 have htr:=h.tr.tree a t ht
 have e4:rng ts a=List.range' t.lo (t.hi-t.lo):=by unfold rng;rw[ht]
 refine⟨ts',e1,⟨by rw[AJl];exact h.len,e2,?_,?_,?_,?_⟩,?_,e3⟩
 ·rw[H0 fun x hx=>(Jn e3 (hA x hx)).1]
  refine List.Perm.trans ?_ h.units
  rw[Arv,← Art,Art (rng ts a)]
  exact AtN
 ·intro u hu
  rw[Afv _ _ _ _ (by rw[h.len];exact hu)]
  have h5:=h.dn u hu
  rw[ArG (by rw[h.len];exact hu)]at h5
  rw[AsQ h5,e4]
  congr 1
  rw[AsT,Asy,ArH,ArH,ArH,ArI,Atf]
  constructor
  ·rintro (h|h)
   ·exact .inr h
   ·exact .inl h
  ·rintro (h|h)
   ·exact .inr h
   ·exact .inl h
 ·rw[e3.1]
  have:=h.size
  simp only[ArO]at this
  omega
 ·rw[ArJ,e4,List.length_range']
  have:=h.dle
  have:=htr.1
  omega
 ·unfold pot
  rw[Aru,Att,Asr fun x hx=>(Jn e3 (hA x hx)).2]
  have:MF ts a=2*(t.hi-t.lo)-1:=by unfold MF;rw[ht]
  have:=htr.1
  omega
theorem Iv.bound{n:Nat}{ts:List Tsk}{dn:List Bool}{A U:List Nat}{D:Nat}(h:Iv n ts dn A U D):A.length+D≤n:=by
 have h1:=h.units.length_eq
 rw[ArJ,Are]at h1
 have h2:A.length≤(A.flatMap (rng ts)).length:=by
  have hA:∀ x∈A,0<(rng ts x).length:=fun x hx=>by
   obtain⟨t,ht,_⟩:=h.tr.act x hx
   have:=(h.tr.tree x t ht).1
   unfold rng;rw[ht];simp;omega
  clear h1 h
  induction A with
  |nil=>exact ArP _
  |cons a A ih=>
   rw[Arv,ArJ,ArO]
   have:=hA a (by simp)
   have:=ih fun x hx=>hA x (by simp[hx])
   omega
 have:=h.dle
 omega
theorem Iv.Aqd{n:Nat}{ts:List Tsk}{dn:List Bool}{a:Nat}{A U:List Nat}{D:Nat}(h:Iv n ts dn (a::A) U D){t:Tsk}(ht:ts[a]? = some t){A8:Nat}(h1:t.lo<A8)(h2:A8<t.hi):ts.length+2+1≤2*n:=by
 have h3:=(h.part ht h1 h2).1
 have:=h3.bound
 have h4:=h3.size
 simp only[ArJ,AsW,ArO,ArZ]at h4 this
 omega
theorem Iv.Apq{n:Nat}{ts:List Tsk}{dn:List Bool}{A U:List Nat}{D:Nat}(h:Iv n ts dn A U D){a:Nat}(ha:a∈A){t:Tsk}(ht:ts[a]? = some t):dn[t.lo]? = some false:=by
 have htr:=h.tr.tree a t ht
 rw[h.dn t.lo (by omega)]
 congr 1
 rw[AsI]
 intro hU
 have hnd:=(h.units.nodup_iff).2 Asq
 rw[Ass]at hnd
 refine hnd.2.2 t.lo (Ash.2 ⟨a,ha,?_⟩) t.lo hU rfl
 unfold rng;rw[ht]
 rw[Atf];omega
end Go.Pev.Pl
end
section
namespace Go.Pev.Pl
structure Crw where
 ts:List Tsk
 dn:List Bool
 ds:List (List Nat)
 ov:Bool
 st:Nat
 idl:Nat
structure Evt where
 w:Nat
 ft:Option (Nat×Nat)
 pt:Bool
def found(ds:List (List Nat))(p v:Nat):Option (Nat×Nat×List (List Nat)):=
 match(ds.getD p []).getLast? with
 |some t=>some (t,p,ds.set p (ds.getD p []).dropLast)
 |none=>match ds.getD v []with
  |t::r=>some (t,v,ds.set v r)
  |[]=>none
def A8(k:Tsk):Nat:=k.lo+(k.hi-k.lo)/2
def stp(g:Nat)(c:Crw)(p v:Nat):Crw×Evt:=
 match found c.ds p v with
 |none=>({ c with st:=c.st+1,idl:=c.idl+1 },⟨p,none,false⟩)
 |some (t,f,ds)=>match c.ts[t]? with
  |none=>(c,⟨p,none,false⟩)
  |some k=>if g<k.hi-k.lo then
    ({ c with ts:=c.ts.set t { k with wait:=2 }++[⟨k.lo,A8 k,some t,0⟩,⟨A8 k,k.hi,some t,0⟩],ds:=ds.set p (ds.getD p []++[c.ts.length+1,c.ts.length]),st:=c.st+1 },⟨p,some (f,t),true⟩)
   else({ ts:=(fin c.ts.length c.ts k.up).1,dn:=Oy c.dn k.lo (k.hi-k.lo),ds:=ds,ov:=c.ov||(fin c.ts.length c.ts k.up).2,st:=c.st+1,idl:=c.idl },⟨p,some (f,t),false⟩)
theorem J5{α:Type}{l:List α}{i:Nat}{a d:α}(h:l[i]? = some a):l.getD i d=a:=by
 rw[ArF,h];rfl
theorem AOP{l:List (List Nat)}{p:Nat}{x:List Nat}(h:l[p]? = some x)(y:List Nat):∃ R,l.flatten.Perm (x++R)∧(l.set p y).flatten.Perm (y++R):=by
 induction l generalizing p with
 |nil=>simp at h
 |cons a l ih=>
  cases p with
  |zero=>
   simp at h;subst h
   exact⟨l.flatten,by simp,by simp⟩
  |succ p=>
   obtain⟨R,h1,h2⟩:=ih (by simpa using h)
   refine⟨a++R,?_,?_⟩
   ·rw[Asl]
    refine(h1.append_left a).trans ?_
    rw[← Art,← Art]
    exact List.perm_append_comm.append_right R
   ·rw[List.set_cons_succ,Asl]
    refine(h2.append_left a).trans ?_
    rw[← Art,← Art]
    exact List.perm_append_comm.append_right R
theorem AEj{ds:List (List Nat)}{p v t f:Nat}{ds':List (List Nat)}(hp:p<ds.length)(hv:v<ds.length)(h:found ds p v=some (t,f,ds')):ds.flatten.Perm (t::ds'.flatten)∧ds'.length=ds.length∧f<ds.length:=by
 have e1:ds[p]? = some (ds.getD p []):=by rw[ArG hp,J5 (ArG hp)]
 have e2:ds[v]? = some (ds.getD v []):=by rw[ArG hv,J5 (ArG hv)]
 unfold found at h
 split at h
 ·rename_i x hx
  simp only[ArE,Ard]at h
  obtain⟨rfl,rfl,rfl⟩:=h
  obtain⟨ys,hy⟩:=AuL.1 hx
  rw[hy,List.dropLast_concat]
  rw[hy]at e1
  obtain⟨R,h1,h2⟩:=AOP e1 ys
  refine⟨h1.trans ?_,by simp,hp⟩
  refine List.Perm.trans ?_ (h2.symm.cons x)
  rw[Art]
  exact List.perm_middle
 ·split at h
  ·rename_i x r hx
   simp only[ArE,Ard]at h
   obtain⟨rfl,rfl,rfl⟩:=h
   rw[hx]at e2
   obtain⟨R,h1,h2⟩:=AOP e2 r
   exact⟨h1.trans (h2.symm.cons x),by simp,hv⟩
  ·cases h
theorem AaD{ds:List (List Nat)}{p v:Nat}(h:found ds p v=none):ds.getD p []=[]∧ds.getD v []=[]:=by
 unfold found at h
 split at h
 ·cases h
 ·rename_i hx
  split at h
  ·cases h
  ·rename_i hv
   exact⟨List.getLast?_eq_none_iff.1 hx,hv⟩
def evU(ts:List Tsk)(E:List Evt):List Nat:=E.flatMap fun e=>match e.ft with
 |some (_,t)=>if e.pt then []else rng ts t
 |none=>[]
structure StI(n W:Nat)(c:Crw)(E:List Evt):Prop where
 iv:∃ D,Iv n c.ts c.dn c.ds.flatten (evU c.ts E) D
 ov:c.ov=c.ds.flatten.isEmpty
 w:c.ds.length=W
 ev:∀ e∈E,∀ f t,e.ft=some (f,t)→t<c.ts.length
 st:c.st=E.length
 idl:c.idl≤E.length
theorem AAF(ts:List Tsk)(E E':List Evt):evU ts (E++E')=evU ts E++evU ts E':=by unfold evU;rw[AsV]
theorem AKB{ts ts':List Tsk}{E:List Evt}(hE:∀ e∈E,∀ f t,e.ft=some (f,t)→t<ts.length)(h:∀ x,x<ts.length→rng ts' x=rng ts x):evU ts' E=evU ts E:=by
 unfold evU
 refine H0 fun e he => ?_
 cases hf:e.ft with
 |none=>rfl
 |some q=>
  obtain⟨f,t⟩:=q
  simp only
  rw[h t (hE e he f t hf)]
theorem ALv{g n W:Nat}{c:Crw}{E:List Evt}{p v:Nat}(hg:1≤g)(h:StI n W c E)(hp:p<W)(hv:v<W):
  StI n W (stp g c p v).1 (E++[(stp g c p v).2]) ∧
  (((stp g c p v).1.ds=c.ds∧(stp g c p v).1.ts=c.ts∧c.ds.getD p []=[])∨pot (stp g c p v).1.ts (stp g c p v).1.ds.flatten<pot c.ts c.ds.flatten):=by
 obtain⟨D,hiv⟩:=h.iv
 unfold stp
 cases hf:found c.ds p v with
 |none=>
  refine⟨⟨⟨D,?_⟩,h.ov,h.w,?_,by simp[h.st],by have:=h.idl;simp;omega⟩,.inl ⟨rfl,rfl,(AaD hf).1⟩⟩
  ·rw[AAF]
   simpa [evU]using hiv
  ·intro e he f t hft
   rcases ArI.1 he with he|he
   ·exact h.ev e he f t hft
   ·simp at he;subst he;cases hft
 |some q=>
  obtain⟨t,f,ds'⟩:=q
  obtain⟨h1,h2,h3⟩:=AEj (by rw[h.w];exact hp) (by rw[h.w];exact hv) hf
  have hiv1:=hiv.perm h1
  obtain⟨k,hk,hkw⟩:=hiv1.tr.act t (by simp)
  have htr:=hiv1.tr.tree t k hk
  have htl:=(ArW.1 hk).1
  simp only[hk]
  by_cases hgr:g<k.hi-k.lo
  ·rw[ArQ hgr]
   have m1:k.lo<A8 k:=by unfold A8;omega
   have m2:A8 k<k.hi:=by unfold A8;omega
   obtain⟨i1,i2,i3⟩:=hiv1.part hk m1 m2
   have hpl:p<ds'.length:=by rw[h2,h.w];exact hp
   obtain⟨R,r1,r2⟩:=AOP (p:=p) (x:=ds'.getD p []) (by rw[ArG hpl,J5 (ArG hpl)]) (ds'.getD p []++[c.ts.length+1,c.ts.length])
   have hperm:(c.ts.length::(c.ts.length+1)::ds'.flatten).Perm (ds'.set p (ds'.getD p []++[c.ts.length+1,c.ts.length])).flatten:=by
    refine List.Perm.trans ?_ r2.symm
    refine((r1.cons _).cons _).trans ?_
    rw[Art]
    refine List.Perm.trans ?_ (List.perm_append_comm_assoc [c.ts.length+1,c.ts.length] _ _)
    simp only[Arj,Ary]
    exact List.Perm.swap _ _ _
   refine⟨⟨⟨D,?_⟩,?_,by simp[h2,h.w],?_,by simp[h.st],by have:=h.idl;simp;omega⟩,.inr ?_⟩
   ·rw[AAF,AKB h.ev i3]
    have:=i1.perm hperm
    simpa [evU]using this
   ·show c.ov=_
    rw[h.ov]
    have e1:c.ds.flatten≠[]:=by intro e;rw[e]at h1;exact absurd h1.length_eq (by simp)
    have e2:(ds'.set p (ds'.getD p []++[c.ts.length+1,c.ts.length])).flatten≠[]:=by intro e;rw[e]at hperm;exact absurd hperm.length_eq (by simp)
    rw[AuM.2 e1,AuM.2 e2]
   ·intro e he f' t' hft
    rcases ArI.1 he with he|he
    ·have:=h.ev e he f' t' hft
     simp;omega
    ·simp at he;subst he;cases hft
     simp;omega
   ·show pot _ _<_
    rw[← ACg hperm,ACg h1]
    exact i2
  ·rw[ArM hgr]
   obtain⟨ts',d1,d2,d3,d4⟩:=hiv1.did hk
   rw[d1]
   refine⟨⟨⟨D+1,?_⟩,?_,by rw[← h.w];exact h2,?_,by simp[h.st],by have:=h.idl;simp;omega⟩,.inr ?_⟩
   ·show Iv n ts' _ ds'.flatten (evU ts' _) _
    rw[AAF,AKB h.ev fun x hx=>(Jn d4 hx).1]
    have:evU ts' [⟨p,some (f,t),false⟩]=rng c.ts t:=by
     unfold evU;simp[(Jn d4 htl).1]
    rw[this]
    exact d2
   ·show(c.ov||_)=_
    rw[h.ov]
    have e1:c.ds.flatten≠[]:=by intro e;rw[e]at h1;exact absurd h1.length_eq (by simp)
    rw[AuM.2 e1];rfl
   ·intro e he f' t' hft
    show t'<ts'.length
    rw[d4.1]
    rcases ArI.1 he with he|he
    ·exact h.ev e he f' t' hft
    ·simp at he;subst he;cases hft
     exact htl
   ·show pot ts' _<_
    rw[ACg h1]
    exact d3
def Am(g W:Nat)(c:Crw×List Evt):Nat→Crw×List Evt
 |0=>c
 |t+1=>let s:=Am g W c t
  if s.1.ov then s else
   let x:=stp g s.1 (t % W) ((t % W+1+t/W) % W)
   (x.1,s.2++[x.2])
theorem Z1{g n W:Nat}(hg:1≤g)(hW:0<W){c:Crw×List Evt}(h:StI n W c.1 c.2):∀ t,StI n W (Am g W c t).1 (Am g W c t).2∧(Am g W c t).2.length≤c.2.length+t:=by
 intro t
 induction t with
 |zero=>exact⟨h,ArP _⟩
 |succ t ih=>
  unfold Am
  simp only
  split
  ·exact⟨ih.1,by omega⟩
  ·refine⟨(ALv hg ih.1 (Ata _ hW) (Ata _ hW)).1,?_⟩
   simp;omega
theorem Pe{g W:Nat}{c:Crw×List Evt}{t:Nat}(h:(Am g W c t).1.ov=true):∀ d,Am g W c (t+d)=Am g W c t:=by
 intro d
 induction d with
 |zero=>rfl
 |succ d ih=>
  rw[← AtI]
  show(let s:=Am g W c (t+d);if s.1.ov then s else _)=_
  simp only
  rw[ih,ArQ h]
theorem AXM{g n W:Nat}(hg:1≤g)(hW:0<W){c:Crw×List Evt}(h:StI n W c.1 c.2)(r:Nat):∀ j,j≤W →
  (∃ i,i≤j∧(Am g W c (r*W+i)).1.ov=true)∨pot (Am g W c (r*W+j)).1.ts (Am g W c (r*W+j)).1.ds.flatten<pot (Am g W c (r*W)).1.ts (Am g W c (r*W)).1.ds.flatten ∨
  ((Am g W c (r*W+j)).1.ds=(Am g W c (r*W)).1.ds∧(Am g W c (r*W+j)).1.ts=(Am g W c (r*W)).1.ts∧∀ i,i<j→(Am g W c (r*W)).1.ds.getD i []=[]):=by
 intro j
 induction j with
 |zero=>intro _;exact .inr (.inr ⟨rfl,rfl,fun i hi=>absurd hi (by omega)⟩)
 |succ j ih=>
  intro hj
  by_cases ho:(Am g W c (r*W+j)).1.ov=true
  ·exact .inl ⟨j,by omega,ho⟩
  have hstep:Am g W c (r*W+(j+1))=((stp g (Am g W c (r*W+j)).1 j ((j+1+r) % W)).1,(Am g W c (r*W+j)).2++[(stp g (Am g W c (r*W+j)).1 j ((j+1+r) % W)).2]):=by
   rw[← AtI]
   show(let s:=Am g W c (r*W+j);if s.1.ov then s else _)=_
   simp only
   rw[ArM ho]
   have e1:(r*W+j) % W=j:=by rw[Nat.add_comm,Nat.add_mul_mod_self_right];exact As7 (by omega)
   have e2:(r*W+j)/W=r:=by rw[Nat.add_comm,Nat.add_mul_div_right _ _ hW,Nat.div_eq_of_lt (by omega),Asa]
   rw[e1,e2]
  have hok:=ALv (p:=j) (v:=(j+1+r) % W) hg (Z1 hg hW h (r*W+j)).1 (by omega) (Ata _ hW)
  rw[hstep]
  rcases ih (by omega)with⟨i,h1,h2⟩|h1|⟨h1,h2,h3⟩
  ·exact .inl ⟨i,by omega,h2⟩
  ·rcases hok.2 with⟨k1,k2,_⟩|k1
   ·refine .inr (.inl ?_)
    show pot (stp g _ _ _).1.ts (stp g _ _ _).1.ds.flatten<_
    rw[k1,k2];exact h1
   ·exact .inr (.inl (Nat.lt_trans k1 h1))
  ·rcases hok.2 with⟨k1,k2,k3⟩|k1
   ·refine .inr (.inr ⟨k1.trans h1,k2.trans h2,fun i hi => ?_⟩)
    by_cases hij:i=j
    ·subst hij;rw[← h1];exact k3
    ·exact h3 i (by omega)
   ·refine .inr (.inl ?_)
    show pot (stp g _ _ _).1.ts (stp g _ _ _).1.ds.flatten<_
    rw[h1,h2]at k1;exact k1
theorem flatten_nil{l:List (List Nat)}(h:∀ i,i<l.length→l.getD i []=[]):l.flatten=[]:=by
 induction l with
 |nil=>rfl
 |cons a l ih=>
  have h0:=h 0 (by simp)
  simp at h0
  rw[Asl,h0,Ary]
  refine ih fun i hi => ?_
  have:=h (i+1) (by simp;omega)
  simpa using this
theorem AeV{g n W:Nat}(hg:1≤g)(hW:0<W){c:Crw×List Evt}(h:StI n W c.1 c.2):(Am g W c ((pot c.1.ts c.1.ds.flatten+1)*W)).1.ov=true:=by
 have main:∀ r,(Am g W c (r*W)).1.ov=true∨pot (Am g W c (r*W)).1.ts (Am g W c (r*W)).1.ds.flatten+r≤pot c.1.ts c.1.ds.flatten:=by
  intro r
  induction r with
  |zero=>rw[AtP];exact .inr (ArP _)
  |succ r ih=>
   rw[AsN,Asx]
   rcases ih with h1|h1
   ·exact .inl (by rw[Pe h1];exact h1)
   ·rcases AXM hg hW h r W (ArP _)with⟨i,h2,h3⟩|h2|⟨h2,h3,h4⟩
    ·refine .inl ?_
     have:=Pe h3 (W-i)
     rw[show r*W+i+(W-i)=r*W+W by omega]at this
     rw[this];exact h3
    ·exact .inr (by omega)
    ·have hs:=(Z1 hg hW h (r*W)).1
     have:=flatten_nil (l:=(Am g W c (r*W)).1.ds) (fun i hi=>h4 i (by rw[hs.w]at hi;exact hi))
     have ho:=hs.ov
     rw[this]at ho
     exact .inl (by rw[Pe ho];exact ho)
 rcases main (pot c.1.ts c.1.ds.flatten+1)with h1|h1
 ·exact h1
 ·omega
theorem StI.done{n W:Nat}{c:Crw}{E:List Evt}(h:StI n W c E)(ho:c.ov=true):(evU c.ts E).Perm (List.range n):=by
 obtain⟨D,hiv⟩:=h.iv
 have hv:=h.ov
 rw[ho]at hv
 have:=List.isEmpty_iff.1 hv.symm
 have hu:=hiv.units
 rw[this]at hu
 simpa using hu
end Go.Pev.Pl
end
