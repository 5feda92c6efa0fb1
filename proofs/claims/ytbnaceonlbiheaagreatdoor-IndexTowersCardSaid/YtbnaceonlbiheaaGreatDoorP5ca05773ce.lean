/- A part of the proofs of this seat: G28M4 G28M5 PevTake PevPanC PevDefer PevClip PevRaw PevRow G28P1 G28P2 G28P3 G28P4 G28P5 G28P6 G28P7 G28P8 G28P9 G28P10 G28P11 G28P12 G28P13 G28P14 G28P15 G28P16 G28P17 G28P18 G28P19 G28X1 G28M6 G28M7 G28P20. -/
import Derived.Test.YtbnaceonlbiheaaGreatDoorP571139ab34
import Derived.Recover
import Derived.KernelRfl
import Derived.Test.YtbnaceonlbiheaaGreatDoorProg
set_option linter.unusedVariables false
set_option linter.unusedSimpArgs false
set_option linter.unusedSectionVars false
set_option maxRecDepth 100000
section
namespace Go.Pev
noncomputable section
abbrev AUj:AD:=[(.tmp 0,.dat V6),(.tmp 1,.di),(.tmp 2,.di),(.tmp 3,.dat Us)]
abbrev AeM:AD:=[(.tmp 0,.dat V6),(.tmp 1,.di),(.tmp 11,.di),(.tmp 14,.di),(.tmp 16,.own 3 U0),(.tmp 45,.di),(.tmp 46,.di)]
abbrev AeK:AW:=[(.exit 2,[(.tmp 11,.di),(.tmp 14,.di),(.tmp 16,.own 3 U0)])]
def AeI[Lk]:(List Int×Int×Int×Int×List Int×Int×Int×Unit)→Option ((List Int×Int×Int×Int×List Int×Int×Int×Unit)⊕(Int×Int×List Int×Unit)⊕Unit):=fun(a0,a1,a2,a3,a4,a5,a6,_)=>
 match(ilt a6 a5)with
 |true=>match rby (a0,a4,a6,a1,())with|none=>none|some (y0,_)=>some (.inl (a0,a1,a2,a3,y0,a5,(IntKind.wrap .i64 (a6+1)),()))
 |false=>some (.inr (.inl (a2,a3,a4,())))
abbrev AeN:AD:=[(.tmp 0,.dat V6),(.tmp 1,.di),(.tmp 11,.di),(.tmp 14,.di),(.tmp 16,.own 3 U0),(.tmp 36,.di),(.tmp 37,.di)]
abbrev AeL:AW:=[(.exit 0,[(.tmp 0,.dat V6),(.tmp 1,.di),(.tmp 11,.di),(.tmp 14,.di),(.tmp 16,.own 3 U0)])]
def AeJ[Lk]:(List Int×Int×Int×Int×List Int×Int×Int×Unit)→Option ((List Int×Int×Int×Int×List Int×Int×Int×Unit)⊕(List Int×Int×Int×Int×List Int×Unit)⊕Unit):=fun(a0,a1,a2,a3,a4,a5,a6,_)=>
 match(ilt a6 a5)with
 |true=>match(fits ((AH a4)+(AH ([a6]:List (Int)))))with
  |true=>some (.inl (a0,a1,a2,a3,(Ai a4 ([a6]:List (Int))),a5,(IntKind.wrap .i64 (a6+1)),()))
  |false=>none
 |false=>some (.inr (.inl (a0,a1,a2,a3,a4,())))
def AUk[Lk]:(List Int×Int×Int×V0×Unit)→Option (Ub):=fun(a0,a1,a2,a3,_)=>
 match WB (a1,())with|none=>none|some (y0,_)=>match(ieq y0 0)with
 |true=>some (([]:List (Int)),0,1,())
 |false=>match AUV (a0,a2,(a3.1,(a3.2.1,(a3.2.2.1,()))),())with|none=>none|some (y1,y2,y3,y4,_)=>match(!(ieq y4 0))with
 |true=>some (([]:List (Int)),0,y4,())
 |false=>match AL AeJ many (a0,a1,y0,y3,([]:List (Int)),(AH a0),0,())with|none=>none|some r=>match r with
 |.inl (o5,o6,o7,o8,o9,_)=>match AL AeI many (o5,o6,o7,o8,o9,o7,0,())with|none=>none|some r=>match r with
  |.inl (o10,o11,o12,_)=>some (o12,(IntKind.wrap .i64 (o11*o10)),0,())
  |.inr _=>none
 |.inr _=>none
def AeP[Lk]:=fun v=>Lk.f (AUk v)
theorem AeO v:AeP v=AUk v:=AB _
abbrev AB5:AD:=[(.tmp 0,.dat V6),(.tmp 1,.dat U6)]
abbrev AB4:AD:=[(.tmp 0,.own 96 Uj),(.tmp 1,.dat .bool)]
abbrev APo:AD:=[(.tmp 0,.dat V6),(.tmp 6,.own 96 Uj),(.tmp 14,.dat U6),(.tmp 15,.di),(.tmp 16,.di)]
abbrev APn:AW:=[(.exit 0,[(.tmp 6,.own 96 Uj)])]
def APm[Lk]:Vd→Option (Vd⊕Ua⊕Unit):=fun(a0,a1,a2,a3,a4,_)=>
 match(ilt a4 a3)with
 |true=>match idx a2 a4 with|none=>none|some x0=>match idx a0 x0 with|none=>none|some x1=>match(fits ((AH a1)+(AH ([x1]:List (Int)))))with
  |true=>some (.inl (a0,(Ai a1 ([x1]:List (Int))),a2,a3,(IntKind.wrap .i64 (a4+1)),()))
  |false=>none
 |false=>some (.inr (.inl (a1,())))
def AB6[Lk]:Vc→Option ((List Int×Bool×Unit)):=fun(a0,a1,_)=>
 match AeW (a1,(AH a0),())with|none=>none|some (y0,_)=>match(!y0)with
 |true=>some (([]:List (Int)),false,())
 |false=>match AL APm many (a0,([]:List (Int)),a1,(AH a1),0,())with|none=>none|some r=>match r with
 |.inl (o1,_)=>some (o1,true,())
 |.inr _=>none
def AFD[Lk]:=fun v=>Lk.f (AB6 v)
theorem APp v:AFD v=AB6 v:=AB _
abbrev Ng:AD:=[(.tmp 0,.dat V6),(.tmp 1,.dat (.prod U0 (.prod U0 (.prod Us .unit))))]
abbrev AC5:AD:=[(.tmp 0,.own 96 Uj),(.tmp 1,.own 3 U0),(.tmp 2,.di),(.tmp 3,.di)]
abbrev ASR:AD:=[(.tmp 9,.di),(.tmp 11,.own 96 Uj),(.tmp 13,.own 3 U0),(.tmp 14,.di),(.tmp 15,.own 96 Uj),(.tmp 16,.own 3 U0),(.tmp 55,.own' 1),(.tmp 56,.di),(.tmp 57,.di)]
abbrev ASQ:AW:=[(.exit 0,[(.tmp 9,.di),(.tmp 14,.di),(.tmp 15,.own 96 Uj),(.tmp 16,.own 3 U0)])]
def ASP[Lk]:(Int×List Int×List Int×Int×List Int×List Int×Int×Int×Unit)→Option ((Int×List Int×List Int×Int×List Int×List Int×Int×Int×Unit)⊕(Int×Int×List Int×List Int×Unit)⊕Unit):=fun(a0,a1,a2,a3,a4,a5,a6,a7,_)=>
 match(ilt a7 a6)with
 |true=>match idx a2 a7 with|none=>none|some x0=>match(ilt (IntKind.wrap .i64 (a7+1)) (AH a2))with
  |true=>match idx a2 (IntKind.wrap .i64 (a7+1))with|none=>none|some x1=>match idx a1 (AJ a2 (AF a7) 0)with|none=>none|some x2=>match(fits ((AH a4)+(AH ([(AJ a1 (AF (AJ a2 (AF a7) 0)) 0)]:List (Int)))))with
   |true=>match(fits ((AH a5)+(AH ([(IntKind.wrap .i64 ((AJ a2 (AF (IntKind.wrap .i64 (a7+1))) 0)-(AJ a2 (AF a7) 0)))]:List (Int)))))with
    |true=>some (.inl (a0,a1,a2,a3,(Ai a4 ([(AJ a1 (AF (AJ a2 (AF a7) 0)) 0)]:List (Int))),(Ai a5 ([(IntKind.wrap .i64 ((AJ a2 (AF (IntKind.wrap .i64 (a7+1))) 0)-(AJ a2 (AF a7) 0)))]:List (Int))),a6,(IntKind.wrap .i64 (a7+1)),()))
    |false=>none
   |false=>none
  |false=>match idx a1 (AJ a2 (AF a7) 0)with|none=>none|some x3=>match(fits ((AH a4)+(AH ([(AJ a1 (AF (AJ a2 (AF a7) 0)) 0)]:List (Int)))))with
  |true=>match(fits ((AH a5)+(AH ([(IntKind.wrap .i64 ((AH a1)-(AJ a2 (AF a7) 0)))]:List (Int)))))with
   |true=>some (.inl (a0,a1,a2,a3,(Ai a4 ([(AJ a1 (AF (AJ a2 (AF a7) 0)) 0)]:List (Int))),(Ai a5 ([(IntKind.wrap .i64 ((AH a1)-(AJ a2 (AF a7) 0)))]:List (Int))),a6,(IntKind.wrap .i64 (a7+1)),()))
   |false=>none
  |false=>none
 |false=>some (.inr (.inl (a0,a3,a4,a5,())))
def AC6[Lk]:(List Int×(Int×Int×V0×Unit)×Unit)→Option (Va):=fun(a0,a1,_)=>
 match AeP (a0,a1.1,a1.2.1,(a1.2.2.1.1,(a1.2.2.1.2.1,(a1.2.2.1.2.2.1,()))),())with|none=>none|some (y0,y1,y2,_)=>match(!(ieq y2 0))with
 |true=>some (([]:List (Int)),([]:List (Int)),0,y2,())
 |false=>match AFD (a0,y0,())with|none=>none|some (y3,y4,_)=>match AGS (y3,())with|none=>none|some (y5,_)=>match AQD (y5,a1.2.1,(a1.2.2.1.1,(a1.2.2.1.2.1,(a1.2.2.1.2.2.1,()))),())with|none=>none|some (y6,y7,y8,_)=>match(!(ieq y8 0))with
 |true=>some (([]:List (Int)),([]:List (Int)),0,y8,())
 |false=>match AL ASP many (y1,y3,y6,y7,([]:List (Int)),([]:List (Int)),(AH y6),0,())with|none=>none|some r=>match r with
 |.inl (o9,o10,o11,o12,_)=>some (o11,o12,(IntKind.wrap .i64 (o9+o10)),0,())
 |.inr _=>none
def AGR[Lk]:=fun v=>Lk.f (AC6 v)
theorem ASS v:AGR v=AC6 v:=AB _
abbrev AWB:AD:=[(.tmp 0,.own 96 Uj),(.tmp 1,.di),(.tmp 2,.di)]
def AWC[Lk]:(List Int×(Int×Int×V0×Unit)×Unit)→Option (Ub):=fun(a0,a1,_)=>
 match AGR (a0,(a1.1,(a1.2.1,((a1.2.2.1.1,(a1.2.2.1.2.1,(a1.2.2.1.2.2.1,()))),()))),())with|none=>none|some (y0,y1,y2,y3,_)=>some (y0,y2,y3,())
def AhZ[Lk]:=fun v=>Lk.f (AWC v)
theorem AhY v:AhZ v=AWC v:=AB _
abbrev ALr:AD:=[(.tmp 0,.dat Vb),(.tmp 1,.dat (.prod U0 (.prod U0 (.prod Us .unit))))]
abbrev ALq:AD:=[(.tmp 0,.own 88 U4),(.tmp 1,.di),(.tmp 2,.di)]
abbrev AbO:AD:=[(.tmp 13,.di),(.tmp 14,.di),(.tmp 15,.own 88 U4),(.tmp 48,.own 96 Uj),(.tmp 49,.di),(.tmp 50,.di)]
abbrev AbM:AW:=[(.exit 2,[(.tmp 13,.di),(.tmp 14,.di),(.tmp 15,.own 88 U4)])]
def AbK[Lk]:(Int×Int×List U3×List Int×Int×Int×Unit)→Option ((Int×Int×List U3×List Int×Int×Int×Unit)⊕(Int×Int×List U3×Unit)⊕Unit):=fun(a0,a1,a2,a3,a4,a5,_)=>
 match(ilt a5 a4)with
 |true=>match idx a3 a5 with|none=>none|some x0=>match Ahg ((AJ a3 (AF a5) 0),())with|none=>none|some (y1,_)=>match(fits ((AH a2)+(AH ([y1]:List U3))))with
  |true=>some (.inl (a0,a1,(Ai a2 ([y1]:List U3)),a3,a4,(IntKind.wrap .i64 (a5+1)),()))
  |false=>none
 |false=>some (.inr (.inl (a0,a1,a2,())))
abbrev AbP:AD:=[(.tmp 3,.box 5),(.cell 0 0,.di),(.cell 0 1,.di),(.cell 0 2,.di),(.cell 0 3,.di),(.cell 0 4,.dat (.slice (.arr 2 U0))),(.tmp 7,.own 96 Uj),(.tmp 18,.dat Vb),(.tmp 19,.di),(.tmp 20,.di)]
abbrev AbN:AW:=[(.ret,[(.tmp 4,.nil U4),(.tmp 5,.di),(.tmp 6,.di)]),(.exit 0,[(.tmp 3,.box 5),(.cell 0 0,.di),(.cell 0 1,.di),(.cell 0 2,.di),(.cell 0 3,.di),(.cell 0 4,.dat (.slice (.arr 2 U0))),(.tmp 7,.own 96 Uj)])]
def AbL[Lk]:(Int×Int×Int×Int×List U5×List Int×List U3×Int×Int×Unit)→Option ((Int×Int×Int×Int×List U5×List Int×List U3×Int×Int×Unit)⊕U3⊕(Int×Int×Int×Int×List U5×List Int×Unit)⊕Unit):=fun(a0,a1,a2,a3,a4,a5,a6,a7,a8,_)=>
 match(ilt a8 a7)with
 |true=>match idx a6 a8 with|none=>none|some x0=>match AoU ((x0.1,(x0.2.1,())),())with|none=>none|some (y1,y2,_)=>match(!y2)with
  |true=>some (.inr (.inl (0,10,())))
  |false=>match(!(ieq x0.1 x0.2.1))with
  |true=>match(fits ((AH a5)+(AH ([y1]:List (Int)))))with
   |true=>some (.inl (a0,a1,a2,a3,a4,(Ai a5 ([y1]:List (Int))),a6,a7,(IntKind.wrap .i64 (a8+1)),()))
   |false=>none
  |false=>some (.inl (a0,a1,a2,a3,a4,a5,a6,a7,(IntKind.wrap .i64 (a8+1)),()))
 |false=>some (.inr (.inr (.inl (a0,a1,a2,a3,a4,a5,()))))
def ALs[Lk]:(List U3×(Int×Int×V0×Unit)×Unit)→Option (Ul):=fun(a0,a1,_)=>
 match AL AbL many (a1.1,a1.2.1,a1.2.2.1.1,a1.2.2.1.2.1,a1.2.2.1.2.2.1,([]:List (Int)),a0,(AH a0),0,())with|none=>none|some r=>match r with
 |.inl (o0,o1,_)=>some (([]:List U3),o0,o1,())
 |.inr r=>match r with
 |.inl (o2,o3,o4,o5,o6,o7,_)=>match AhZ (o7,(o2,(o3,((o4,(o5,(o6,()))),()))),())with|none=>none|some (y8,y9,y10,_)=>match AL AbK many (y9,y10,([]:List U3),y8,(AH y8),0,())with|none=>none|some r=>match r with
  |.inl (o11,o12,o13,_)=>some (o13,o11,o12,())
  |.inr _=>none
 |.inr _=>none
def ASX[Lk]:=fun v=>Lk.f (ALs v)
theorem AbQ v:ASX v=ALs v:=AB _
abbrev HV:AD:=[(.tmp 0,.dat U6),(.cap 1 0,.box 2),(.cell 0 0,.di),(.cell 0 1,.dat Uy),(.tmp 1,.clo 115 [(0,0)])]
abbrev Qb:AD:=[(.obj 0,.box 2),(.cell 0 0,.di),(.cell 0 1,.dat Uy),(.tmp 0,.di)]
abbrev AAT:AD:=[(.obj 0,.box 2),(.cell 0 0,.di),(.cell 0 1,.dat Uy),(.tmp 0,.dat U6),(.tmp 1,.clo 115 [(0,0)]),(.tmp 7,.di),(.tmp 8,.di)]
abbrev AAS:AW:=[(.ret,[(.obj 0,.box 2),(.cell 0 0,.di),(.cell 0 1,.dat Uy),(.tmp 4,.di)]),(.exit 0,[(.obj 0,.box 2),(.cell 0 0,.di),(.cell 0 1,.dat Uy)])]
def AAR[Lk]:(Int×List U1×List Int×Int×Int×Unit)→Option ((Int×List U1×List Int×Int×Int×Unit)⊕(Int×List U1×Int×Unit)⊕(Int×List U1×Unit)⊕Unit):=fun(a0,a1,a2,a3,a4,_)=>
 match(ilt a4 a3)with
 |true=>match idx a2 a4 with|none=>none|some x0=>match(ile a0 x0)with
  |true=>some (.inr (.inl (a0,a1,a4,())))
  |false=>some (.inl (a0,a1,a2,a3,(IntKind.wrap .i64 (a4+1)),()))
 |false=>some (.inr (.inr (.inl (a0,a1,()))))
def Qc[Lk]:(List Int×Int×List U1×Unit)→Option ((Int×List U1×Int×Unit)):=fun(a0,a1,a2,_)=>
 match AL AAR many (a1,a2,a0,(AH a0),0,())with|none=>none|some r=>match r with
 |.inl (o0,o1,o2,_)=>some (o0,o1,o2,())
 |.inr r=>match r with
 |.inl (o3,o4,_)=>some (o3,o4,(-1:Int),())
 |.inr _=>none
def O2[Lk]:=fun v=>Lk.f (Qc v)
theorem AAU v:O2 v=Qc v:=AB _
abbrev AYb:AD:=[(.tmp 0,.di),(.tmp 13,.dat Vb),(.tmp 14,.di),(.tmp 15,.di)]
def AYa[Lk]:(Int×List U3×Int×Int×Unit)→Option ((Int×List U3×Int×Int×Unit)⊕U8⊕(Unit)⊕Unit):=fun(a0,a1,a2,a3,_)=>
 match(ilt a3 a2)with
 |true=>match idx a1 a3 with|none=>none|some x0=>match(ilt (Bs x0.1 x0.2.1) 0)with
  |true=>some (.inr (.inl (10,())))
  |false=>match(ile a0 (imax x0.1 x0.2.1))with
  |true=>some (.inr (.inl (10,())))
  |false=>some (.inl (a0,a1,a2,(IntKind.wrap .i64 (a3+1)),()))
 |false=>some (.inr (.inr (.inl ())))
def AJA[Lk]:(Int×List U3×Unit)→Option (U8):=fun(a0,a1,_)=>
 match(ilt a0 1)with
 |true=>some (1,())
 |false=>match(ilt 64 a0)with
 |true=>some (1,())
 |false=>match AL AYa many (a0,a1,(AH a1),0,())with|none=>none|some r=>match r with
 |.inl (o0,_)=>some (o0,())
 |.inr r=>match r with
 |.inl _=>some (0,())
 |.inr _=>none
def AFA[Lk]:=fun v=>Lk.f (AJA v)
theorem AYc v:AFA v=AJA v:=AB _
abbrev AYj:AD:=[(.tmp 3,.own 3 U0),(.tmp 8,.di),(.tmp 9,.di)]
def AYi[Lk]:Ub→Option (Ub⊕Ua⊕Unit):=fun(a0,a1,a2,_)=>
 match(ilt a2 a1)with
 |true=>match idx a0 a2 with|none=>none|some x0=>some (.inl ((AX a0 (AF a2) a2),a1,(IntKind.wrap .i64 (a2+1)),()))
 |false=>some (.inr (.inl (a0,())))
def AJM[Lk]:U8→Option (Ua):=fun(a0,_)=>
 match(Bq a0&&Bq a0&&ile a0 a0&&true)with
 |true=>match AL AYi many ((Cb (AF a0) (0:Int)),(AH (Cb (AF a0) (0:Int))),(0:Int),())with|none=>none|some r=>match r with
  |.inl (o0,_)=>some (o0,())
  |.inr _=>none
 |false=>none
def AFC[Lk]:=fun v=>Lk.f (AJM v)
theorem AYk v:AFC v=AJM v:=AB _
abbrev ER:AD:=[(.tmp 0,.own 3 U0),(.tmp 1,.di)]
abbrev Pj:AD:=[(.obj 0,.own 3 U0),(.tmp 0,.di)]
abbrev AYN:AD:=[(.obj 0,.own 3 U0),(.tmp 0,.own' 0),(.tmp 1,.di)]
abbrev AYM:AW:=[(.exit 0,[(.obj 0,.own 3 U0),(.tmp 1,.di)])]
def AYL[Lk]:Uh→Option (Uh⊕Uh⊕Unit):=fun(a0,a1,_)=>
 match idx a0 a1 with|none=>none|some x0=>match(!(ieq (AJ a0 (AF a1) 0) a1))with
 |true=>match idx a0 a1 with|none=>none|some x1=>match idx a0 (AJ a0 (AF a1) 0)with|none=>none|some x2=>match idx a0 a1 with|none=>none|some x3=>match idx (AX a0 (AF a1) (AJ a0 (AF (AJ a0 (AF a1) 0)) 0)) a1 with|none=>none|some x4=>some (.inl ((AX a0 (AF a1) (AJ a0 (AF (AJ a0 (AF a1) 0)) 0)),(AJ (AX a0 (AF a1) (AJ a0 (AF (AJ a0 (AF a1) 0)) 0)) (AF a1) 0),()))
 |false=>some (.inr (.inl (a0,a1,())))
def AIw[Lk]:Uh→Option (Uh):=fun(a0,a1,_)=>
 match AL AYL many (a0,a1,())with|none=>none|some r=>match r with
 |.inl (o0,o1,_)=>some (o0,o1,())
 |.inr _=>none
def W5[Lk]:=fun v=>Lk.f (AIw v)
theorem AYO v:W5 v=AIw v:=AB _
abbrev Vz:AD:=[(.obj 0,.own 3 U0),(.tmp 0,.dat .bool)]
def AUe[Lk]:Ub→Option ((List Int×Bool×Unit)):=fun(a0,a1,a2,_)=>
 match W5 (a0,a1,())with|none=>none|some (y0,y1,_)=>match W5 (y0,a2,())with|none=>none|some (y2,y3,_)=>match idx y2 (imax y1 y3)with|none=>none|some x4=>some ((AX y2 (AF (imax y1 y3)) (Bs y1 y3)),(!(ieq y1 y3)),())
def Adr[Lk]:=fun v=>Lk.f (AUe v)
theorem Adq v:Adr v=AUe v:=AB _
abbrev Yf:AD:=[(.tmp 0,.dat Vb),(.cap 1 0,.own 3 U0),(.tmp 1,.bnd 176 0)]
abbrev LJ:AD:=[(.obj 0,.own 3 U0),(.tmp 0,.own 4 .bool)]
abbrev ALj:AD:=[(.obj 0,.own 3 U0),(.tmp 1,.bnd 176 0),(.tmp 5,.own 4 .bool),(.tmp 8,.dat Vb),(.tmp 9,.di),(.tmp 10,.di)]
abbrev ALi:AW:=[(.exit 0,[(.obj 0,.own 3 U0),(.tmp 5,.own 4 .bool)])]
def ALh[Lk]:(List Int×List Bool×List U3×Int×Int×Unit)→Option ((List Int×List Bool×List U3×Int×Int×Unit)⊕(List Int×List Bool×Unit)⊕Unit):=fun(a0,a1,a2,a3,a4,_)=>
 match(ilt a4 a3)with
 |true=>match idx a2 a4 with|none=>none|some x0=>match Adr (a0,x0.1,x0.2.1,())with|none=>none|some (y1,y2,_)=>match(fits ((AH a1)+(AH ([y2]:List (Bool)))))with
  |true=>some (.inl (y1,(Ai a1 ([y2]:List (Bool))),a2,a3,(IntKind.wrap .i64 (a4+1)),()))
  |false=>none
 |false=>some (.inr (.inl (a0,a1,())))
def Yg[Lk]:(List U3×List Int×Unit)→Option ((List Int×List Bool×Unit)):=fun(a0,a1,_)=>
 match AL ALh many (a1,([]:List (Bool)),a0,(AH a0),0,())with|none=>none|some r=>match r with
 |.inl (o0,o1,_)=>some (o0,o1,())
 |.inr _=>none
def Yh[Lk]:=fun v=>Lk.f (Yg v)
theorem ALk v:Yh v=Yg v:=AB _
abbrev AIx:AD:=[(.tmp 0,.own 3 U0),(.tmp 1,.dat Vb)]
def AIy[Lk]:(List Int×List U3×Unit)→Option ((List Int×List Bool×Unit)):=fun(a0,a1,_)=>
 match Yh (a1,a0,())with|none=>none|some (y0,y1,_)=>some (y0,y1,())
def AEx[Lk]:=fun v=>Lk.f (AIy v)
theorem AYP v:AEx v=AIy v:=AB _
abbrev AI7:AD:=[(.tmp 7,.own 3 U0),(.tmp 21,.di),(.tmp 22,.di)]
abbrev AI6:AW:=[(.exit 0,[(.tmp 7,.own 3 U0)])]
def AI5[Lk]:Ub→Option (Ub⊕Ua⊕Unit):=fun(a0,a1,a2,_)=>
 match(ilt a2 a1)with
 |true=>match W5 (a0,a2,())with|none=>none|some (y0,y1,_)=>match idx y0 a2 with|none=>none|some x2=>some (.inl ((AX y0 (AF a2) y1),a1,(IntKind.wrap .i64 (a2+1)),()))
 |false=>some (.inr (.inl (a0,())))
def XA[Lk]:(Int×List U3×Unit)→Option (Uh):=fun(a0,a1,_)=>
 match AFA (a0,a1,())with|none=>none|some (y0,_)=>match(!(ieq y0 0))with
 |true=>some (([]:List (Int)),y0,())
 |false=>match AFC (a0,())with|none=>none|some (y1,_)=>match AEx (y1,a1,())with|none=>none|some (y2,y3,_)=>match AL AI5 many (y2,(AH y2),0,())with|none=>none|some r=>match r with
 |.inl (o4,_)=>some (o4,0,())
 |.inr _=>none
def XB[Lk]:=fun v=>Lk.f (XA v)
theorem AI8 v:XB v=XA v:=AB _
def AVg[Lk]:U3→Option (Uc):=fun(a0,a1,_)=>
 match AZv (a0,())with|none=>none|some (y0,_)=>match y0 with
 |true=>match AZv (a1,())with|none=>none|some (y1,_)=>match(!y1)with
  |true=>some (true,())
  |false=>some ((ilt a0 a1),())
 |false=>some ((ilt a0 a1),())
def Fe[Lk]:=fun v=>Lk.f (AVg v)
theorem AgE v:Fe v=AVg v:=AB _
abbrev Dn:AD:=[(.obj 0,.own 3 U0)]
abbrev AlD:AD:=[(.obj 0,.own 3 U0),(.tmp 0,.own' 0),(.tmp 1,.di),(.tmp 2,.di),(.tmp 6,.di),(.tmp 7,.di)]
abbrev AlC:AW:=[(.exit 2,[(.obj 0,.own 3 U0),(.tmp 0,.own' 0),(.tmp 1,.di),(.tmp 2,.di),(.tmp 6,.di)])]
def AlA[Lk]:Up→Option (Up⊕U9⊕Unit):=fun(a0,a1,a2,a3,a4,_)=>
 match(ilt a1 a4)with
 |true=>match idx a0 a4 with|none=>none|some x0=>match idx a0 (IntKind.wrap .i64 (a4-1))with|none=>none|some x1=>match Fe ((AJ a0 (AF a4) 0),(AJ a0 (AF (IntKind.wrap .i64 (a4-1))) 0),())with|none=>none|some (y2,_)=>match y2 with
  |true=>match idx a0 (IntKind.wrap .i64 (a4-1))with|none=>none|some x3=>match idx a0 a4 with|none=>none|some x4=>match idx a0 a4 with|none=>none|some x5=>match idx (AX a0 (AF a4) (AJ a0 (AF (IntKind.wrap .i64 (a4-1))) 0)) (IntKind.wrap .i64 (a4-1))with|none=>none|some x6=>some (.inl ((AX (AX a0 (AF a4) (AJ a0 (AF (IntKind.wrap .i64 (a4-1))) 0)) (AF (IntKind.wrap .i64 (a4-1))) (AJ a0 (AF a4) 0)),a1,a2,a3,(IntKind.wrap .i64 (a4-1)),()))
  |false=>some (.inr (.inl (a0,a1,a2,a3,())))
 |false=>some (.inr (.inl (a0,a1,a2,a3,())))
abbrev AlE:AD:=[(.obj 0,.own 3 U0),(.tmp 0,.own' 0),(.tmp 1,.di),(.tmp 2,.di),(.tmp 6,.di)]
abbrev AFv:AW:=[(.exit 0,[(.obj 0,.own 3 U0)])]
def AlB[Lk]:U9→Option (U9⊕Ua⊕Unit):=fun(a0,a1,a2,a3,_)=>
 match(ilt a3 a2)with
 |true=>match AL AlA many (a0,a1,a2,a3,a3,())with|none=>none|some r=>match r with
  |.inl (o0,o1,o2,o3,_)=>some (.inl (o0,o1,o2,(IntKind.wrap .i64 (o3+1)),()))
  |.inr _=>none
 |false=>some (.inr (.inl (a0,())))
def AgV[Lk]:Ub→Option (Ua):=fun(a0,a1,a2,_)=>
 match AL AlB many (a0,a1,a2,(IntKind.wrap .i64 (a1+1)),())with|none=>none|some r=>match r with
 |.inl (o0,_)=>some (o0,())
 |.inr _=>none
def AoE[Lk]:=fun v=>Lk.f (AgV v)
theorem AlF v:AoE v=AgV v:=AB _
abbrev E4:AD:=[(.tmp 0,.own 3 U0),(.tmp 1,.di),(.tmp 2,.di),(.tmp 3,.di)]
abbrev Ad0:AD:=[(.obj 0,.own 3 U0),(.tmp 0,.own' 0),(.tmp 2,.di),(.tmp 3,.di),(.tmp 8,.di)]
abbrev Adz:AW:=[(.exit 0,[(.obj 0,.own 3 U0)]),(.ret,[(.obj 0,.own 3 U0)])]
def Ady[Lk]:U9→Option (U9⊕Ua⊕Ua⊕Unit):=fun(a0,a1,a2,a3,_)=>
 match(ile a1 (IntKind.wrap .i64 ((IntKind.wrap .i64 (2*a3))+1)))with
 |true=>some (.inr (.inl (a0,())))
 |false=>match(ilt (IntKind.wrap .i64 ((IntKind.wrap .i64 ((IntKind.wrap .i64 (2*a3))+1))+1)) a1)with
 |true=>match idx a0 (IntKind.wrap .i64 (a2+(IntKind.wrap .i64 ((IntKind.wrap .i64 (2*a3))+1))))with|none=>none|some x0=>match idx a0 (IntKind.wrap .i64 ((IntKind.wrap .i64 (a2+(IntKind.wrap .i64 ((IntKind.wrap .i64 (2*a3))+1))))+1))with|none=>none|some x1=>match Fe ((AJ a0 (AF (IntKind.wrap .i64 (a2+(IntKind.wrap .i64 ((IntKind.wrap .i64 (2*a3))+1))))) 0),(AJ a0 (AF (IntKind.wrap .i64 ((IntKind.wrap .i64 (a2+(IntKind.wrap .i64 ((IntKind.wrap .i64 (2*a3))+1))))+1))) 0),())with|none=>none|some (y2,_)=>match y2 with
  |true=>match idx a0 (IntKind.wrap .i64 (a2+a3))with|none=>none|some x3=>match idx a0 (IntKind.wrap .i64 (a2+(IntKind.wrap .i64 ((IntKind.wrap .i64 ((IntKind.wrap .i64 (2*a3))+1))+1))))with|none=>none|some x4=>match Fe ((AJ a0 (AF (IntKind.wrap .i64 (a2+a3))) 0),(AJ a0 (AF (IntKind.wrap .i64 (a2+(IntKind.wrap .i64 ((IntKind.wrap .i64 ((IntKind.wrap .i64 (2*a3))+1))+1))))) 0),())with|none=>none|some (y5,_)=>match(!y5)with
   |true=>some (.inr (.inr (.inl (a0,()))))
   |false=>match idx a0 (IntKind.wrap .i64 (a2+(IntKind.wrap .i64 ((IntKind.wrap .i64 ((IntKind.wrap .i64 (2*a3))+1))+1))))with|none=>none|some x6=>match idx a0 (IntKind.wrap .i64 (a2+a3))with|none=>none|some x7=>match idx a0 (IntKind.wrap .i64 (a2+a3))with|none=>none|some x8=>match idx (AX a0 (AF (IntKind.wrap .i64 (a2+a3))) (AJ a0 (AF (IntKind.wrap .i64 (a2+(IntKind.wrap .i64 ((IntKind.wrap .i64 ((IntKind.wrap .i64 (2*a3))+1))+1))))) 0)) (IntKind.wrap .i64 (a2+(IntKind.wrap .i64 ((IntKind.wrap .i64 ((IntKind.wrap .i64 (2*a3))+1))+1))))with|none=>none|some x9=>some (.inl ((AX (AX a0 (AF (IntKind.wrap .i64 (a2+a3))) (AJ a0 (AF (IntKind.wrap .i64 (a2+(IntKind.wrap .i64 ((IntKind.wrap .i64 ((IntKind.wrap .i64 (2*a3))+1))+1))))) 0)) (AF (IntKind.wrap .i64 (a2+(IntKind.wrap .i64 ((IntKind.wrap .i64 ((IntKind.wrap .i64 (2*a3))+1))+1))))) (AJ a0 (AF (IntKind.wrap .i64 (a2+a3))) 0)),a1,a2,(IntKind.wrap .i64 ((IntKind.wrap .i64 ((IntKind.wrap .i64 (2*a3))+1))+1)),()))
  |false=>match idx a0 (IntKind.wrap .i64 (a2+a3))with|none=>none|some x10=>match idx a0 (IntKind.wrap .i64 (a2+(IntKind.wrap .i64 ((IntKind.wrap .i64 (2*a3))+1))))with|none=>none|some x11=>match Fe ((AJ a0 (AF (IntKind.wrap .i64 (a2+a3))) 0),(AJ a0 (AF (IntKind.wrap .i64 (a2+(IntKind.wrap .i64 ((IntKind.wrap .i64 (2*a3))+1))))) 0),())with|none=>none|some (y12,_)=>match(!y12)with
  |true=>some (.inr (.inr (.inl (a0,()))))
  |false=>match idx a0 (IntKind.wrap .i64 (a2+(IntKind.wrap .i64 ((IntKind.wrap .i64 (2*a3))+1))))with|none=>none|some x13=>match idx a0 (IntKind.wrap .i64 (a2+a3))with|none=>none|some x14=>match idx a0 (IntKind.wrap .i64 (a2+a3))with|none=>none|some x15=>match idx (AX a0 (AF (IntKind.wrap .i64 (a2+a3))) (AJ a0 (AF (IntKind.wrap .i64 (a2+(IntKind.wrap .i64 ((IntKind.wrap .i64 (2*a3))+1))))) 0)) (IntKind.wrap .i64 (a2+(IntKind.wrap .i64 ((IntKind.wrap .i64 (2*a3))+1))))with|none=>none|some x16=>some (.inl ((AX (AX a0 (AF (IntKind.wrap .i64 (a2+a3))) (AJ a0 (AF (IntKind.wrap .i64 (a2+(IntKind.wrap .i64 ((IntKind.wrap .i64 (2*a3))+1))))) 0)) (AF (IntKind.wrap .i64 (a2+(IntKind.wrap .i64 ((IntKind.wrap .i64 (2*a3))+1))))) (AJ a0 (AF (IntKind.wrap .i64 (a2+a3))) 0)),a1,a2,(IntKind.wrap .i64 ((IntKind.wrap .i64 (2*a3))+1)),()))
 |false=>match idx a0 (IntKind.wrap .i64 (a2+a3))with|none=>none|some x17=>match idx a0 (IntKind.wrap .i64 (a2+(IntKind.wrap .i64 ((IntKind.wrap .i64 (2*a3))+1))))with|none=>none|some x18=>match Fe ((AJ a0 (AF (IntKind.wrap .i64 (a2+a3))) 0),(AJ a0 (AF (IntKind.wrap .i64 (a2+(IntKind.wrap .i64 ((IntKind.wrap .i64 (2*a3))+1))))) 0),())with|none=>none|some (y19,_)=>match(!y19)with
 |true=>some (.inr (.inr (.inl (a0,()))))
 |false=>match idx a0 (IntKind.wrap .i64 (a2+(IntKind.wrap .i64 ((IntKind.wrap .i64 (2*a3))+1))))with|none=>none|some x20=>match idx a0 (IntKind.wrap .i64 (a2+a3))with|none=>none|some x21=>match idx a0 (IntKind.wrap .i64 (a2+a3))with|none=>none|some x22=>match idx (AX a0 (AF (IntKind.wrap .i64 (a2+a3))) (AJ a0 (AF (IntKind.wrap .i64 (a2+(IntKind.wrap .i64 ((IntKind.wrap .i64 (2*a3))+1))))) 0)) (IntKind.wrap .i64 (a2+(IntKind.wrap .i64 ((IntKind.wrap .i64 (2*a3))+1))))with|none=>none|some x23=>some (.inl ((AX (AX a0 (AF (IntKind.wrap .i64 (a2+a3))) (AJ a0 (AF (IntKind.wrap .i64 (a2+(IntKind.wrap .i64 ((IntKind.wrap .i64 (2*a3))+1))))) 0)) (AF (IntKind.wrap .i64 (a2+(IntKind.wrap .i64 ((IntKind.wrap .i64 (2*a3))+1))))) (AJ a0 (AF (IntKind.wrap .i64 (a2+a3))) 0)),a1,a2,(IntKind.wrap .i64 ((IntKind.wrap .i64 (2*a3))+1)),()))
def AUf[Lk]:U9→Option (Ua):=fun(a0,a1,a2,a3,_)=>
 match AL Ady many (a0,a2,a3,a1,())with|none=>none|some r=>match r with
 |.inl (o0,_)=>some (o0,())
 |.inr r=>match r with
 |.inl (o1,_)=>some (o1,())
 |.inr _=>none
def AUg[Lk]:=fun v=>Lk.f (AUf v)
theorem Ad1 v:AUg v=AUf v:=AB _
abbrev Agt:AD:=[(.obj 0,.own 3 U0),(.tmp 0,.own' 0),(.tmp 6,.di),(.tmp 7,.di),(.tmp 10,.di)]
abbrev Agr:AW:=[(.exit 2,[(.obj 0,.own 3 U0)])]
def Agp[Lk]:U9→Option (U9⊕Ua⊕Unit):=fun(a0,a1,a2,a3,_)=>
 match(ile 0 a3)with
 |true=>match idx a0 (IntKind.wrap .i64 (a1+a3))with|none=>none|some x0=>match idx a0 a1 with|none=>none|some x1=>match idx a0 a1 with|none=>none|some x2=>match idx (AX a0 (AF a1) (AJ a0 (AF (IntKind.wrap .i64 (a1+a3))) 0)) (IntKind.wrap .i64 (a1+a3))with|none=>none|some x3=>match AUg ((AX (AX a0 (AF a1) (AJ a0 (AF (IntKind.wrap .i64 (a1+a3))) 0)) (AF (IntKind.wrap .i64 (a1+a3))) (AJ a0 (AF a1) 0)),a2,a3,a1,())with|none=>none|some (y4,_)=>some (.inl (y4,a1,a2,(IntKind.wrap .i64 (a3-1)),()))
 |false=>some (.inr (.inl (a0,())))
abbrev Agu:AD:=[(.obj 0,.own 3 U0),(.tmp 0,.own' 0),(.tmp 6,.di),(.tmp 7,.di),(.tmp 8,.di),(.tmp 9,.di)]
abbrev Ags:AW:=[(.exit 0,[(.obj 0,.own 3 U0),(.tmp 0,.own' 0),(.tmp 6,.di),(.tmp 7,.di),(.tmp 8,.di)])]
def Agq[Lk]:Up→Option (Up⊕U9⊕Unit):=fun(a0,a1,a2,a3,a4,_)=>
 match(ile 0 a4)with
 |true=>match AUg (a0,a4,a3,a1,())with|none=>none|some (y0,_)=>some (.inl (y0,a1,a2,a3,(IntKind.wrap .i64 (a4-1)),()))
 |false=>some (.inr (.inl (a0,a1,a2,a3,())))
def AVr[Lk]:Ub→Option (Ua):=fun(a0,a1,a2,_)=>
 match quo? .i64 (IntKind.wrap .i64 ((IntKind.wrap .i64 (a2-a1))-1)) 2 with|none=>none|some x0=>match AL Agq many (a0,a1,0,(IntKind.wrap .i64 (a2-a1)),x0,())with|none=>none|some r=>match r with
 |.inl (o1,o2,o3,o4,_)=>match AL Agp many (o1,o2,o3,(IntKind.wrap .i64 (o4-1)),())with|none=>none|some r=>match r with
  |.inl (o5,_)=>some (o5,())
  |.inr _=>none
 |.inr _=>none
def Agw[Lk]:=fun v=>Lk.f (AVr v)
theorem Agv v:Agw v=AVr v:=AB _
abbrev AcB:AD:=[(.obj 0,.own 3 U0),(.tmp 0,.own' 0),(.tmp 1,.di),(.tmp 6,.di),(.tmp 7,.box 1),(.cell 1 0,.dat (.int .u64)),(.tmp 8,.dat (.int .u64)),(.tmp 9,.di)]
def AcA[Lk]:Vf→Option (Vf⊕Ua⊕Unit):=fun(a0,a1,a2,a3,a4,a5,_)=>
 match quo? .i64 a2 4 with|none=>none|some x0=>match(ile a5 (IntKind.wrap .i64 ((IntKind.wrap .i64 (a1+(IntKind.wrap .i64 (x0*2))))+1)))with
 |true=>match xorNext (a3,())with|none=>none|some (y1,y2,_)=>match(ile a2 (IntKind.wrap .i64 (IntKind.wrap .u64 ((BitVec.ofInt (IntKind.bits .u64) y2 &&& BitVec.ofInt (IntKind.bits .u64) (IntKind.wrap .u64 (a4-1))).toNat))))with
  |true=>match idx a0 (IntKind.wrap .i64 (a1+(IntKind.wrap .i64 ((IntKind.wrap .i64 (IntKind.wrap .u64 ((BitVec.ofInt (IntKind.bits .u64) y2 &&& BitVec.ofInt (IntKind.bits .u64) (IntKind.wrap .u64 (a4-1))).toNat)))-a2))))with|none=>none|some x3=>match idx a0 a5 with|none=>none|some x4=>match idx a0 a5 with|none=>none|some x5=>match idx (AX a0 (AF a5) (AJ a0 (AF (IntKind.wrap .i64 (a1+(IntKind.wrap .i64 ((IntKind.wrap .i64 (IntKind.wrap .u64 ((BitVec.ofInt (IntKind.bits .u64) y2 &&& BitVec.ofInt (IntKind.bits .u64) (IntKind.wrap .u64 (a4-1))).toNat)))-a2))))) 0)) (IntKind.wrap .i64 (a1+(IntKind.wrap .i64 ((IntKind.wrap .i64 (IntKind.wrap .u64 ((BitVec.ofInt (IntKind.bits .u64) y2 &&& BitVec.ofInt (IntKind.bits .u64) (IntKind.wrap .u64 (a4-1))).toNat)))-a2))))with|none=>none|some x6=>some (.inl ((AX (AX a0 (AF a5) (AJ a0 (AF (IntKind.wrap .i64 (a1+(IntKind.wrap .i64 ((IntKind.wrap .i64 (IntKind.wrap .u64 ((BitVec.ofInt (IntKind.bits .u64) y2 &&& BitVec.ofInt (IntKind.bits .u64) (IntKind.wrap .u64 (a4-1))).toNat)))-a2))))) 0)) (AF (IntKind.wrap .i64 (a1+(IntKind.wrap .i64 ((IntKind.wrap .i64 (IntKind.wrap .u64 ((BitVec.ofInt (IntKind.bits .u64) y2 &&& BitVec.ofInt (IntKind.bits .u64) (IntKind.wrap .u64 (a4-1))).toNat)))-a2))))) (AJ a0 (AF a5) 0)),a1,a2,y1,a4,(IntKind.wrap .i64 (a5+1)),()))
  |false=>match idx a0 (IntKind.wrap .i64 (a1+(IntKind.wrap .i64 (IntKind.wrap .u64 ((BitVec.ofInt (IntKind.bits .u64) y2 &&& BitVec.ofInt (IntKind.bits .u64) (IntKind.wrap .u64 (a4-1))).toNat)))))with|none=>none|some x7=>match idx a0 a5 with|none=>none|some x8=>match idx a0 a5 with|none=>none|some x9=>match idx (AX a0 (AF a5) (AJ a0 (AF (IntKind.wrap .i64 (a1+(IntKind.wrap .i64 (IntKind.wrap .u64 ((BitVec.ofInt (IntKind.bits .u64) y2 &&& BitVec.ofInt (IntKind.bits .u64) (IntKind.wrap .u64 (a4-1))).toNat)))))) 0)) (IntKind.wrap .i64 (a1+(IntKind.wrap .i64 (IntKind.wrap .u64 ((BitVec.ofInt (IntKind.bits .u64) y2 &&& BitVec.ofInt (IntKind.bits .u64) (IntKind.wrap .u64 (a4-1))).toNat)))))with|none=>none|some x10=>some (.inl ((AX (AX a0 (AF a5) (AJ a0 (AF (IntKind.wrap .i64 (a1+(IntKind.wrap .i64 (IntKind.wrap .u64 ((BitVec.ofInt (IntKind.bits .u64) y2 &&& BitVec.ofInt (IntKind.bits .u64) (IntKind.wrap .u64 (a4-1))).toNat)))))) 0)) (AF (IntKind.wrap .i64 (a1+(IntKind.wrap .i64 (IntKind.wrap .u64 ((BitVec.ofInt (IntKind.bits .u64) y2 &&& BitVec.ofInt (IntKind.bits .u64) (IntKind.wrap .u64 (a4-1))).toNat)))))) (AJ a0 (AF a5) 0)),a1,a2,y1,a4,(IntKind.wrap .i64 (a5+1)),()))
 |false=>some (.inr (.inl (a0,())))
def AMT[Lk]:Ub→Option (Ua):=fun(a0,a1,a2,_)=>
 match(ile 8 (IntKind.wrap .i64 (a2-a1)))with
 |true=>match QB ((IntKind.wrap .i64 (a2-a1)),())with|none=>none|some (y0,_)=>match quo? .i64 (IntKind.wrap .i64 (a2-a1)) 4 with|none=>none|some x1=>match AL AcA many (a0,a1,(IntKind.wrap .i64 (a2-a1)),(IntKind.wrap .u64 (IntKind.wrap .i64 (a2-a1))),y0,(IntKind.wrap .i64 ((IntKind.wrap .i64 (a1+(IntKind.wrap .i64 (x1*2))))-1)),())with|none=>none|some r=>match r with
  |.inl (o2,_)=>some (o2,())
  |.inr _=>none
 |false=>some (a0,())
def ATD[Lk]:=fun v=>Lk.f (AMT v)
theorem AcC v:ATD v=AMT v:=AB _
abbrev ACQ:AD:=[(.tmp 0,.own 3 U0),(.tmp 1,.di),(.tmp 2,.di),(.tmp 3,.box 1),(.cell 1 0,.di)]
abbrev ACP:AD:=[(.obj 0,.own 3 U0),(.obj 1,.box 1),(.cell 1 0,.di),(.tmp 0,.di),(.tmp 1,.di)]
def ACR[Lk]:U9→Option (U9):=fun(a0,a1,a2,a3,_)=>
 match idx a0 a2 with|none=>none|some x0=>match idx a0 a1 with|none=>none|some x1=>match Fe ((AJ a0 (AF a2) 0),(AJ a0 (AF a1) 0),())with|none=>none|some (y2,_)=>match y2 with
 |true=>some (a0,(IntKind.wrap .i64 (a3+1)),a2,a1,())
 |false=>some (a0,a3,a1,a2,())
def P6[Lk]:=fun v=>Lk.f (ACR v)
theorem ARC v:P6 v=ACR v:=AB _
abbrev ACW:AD:=[(.tmp 0,.own 3 U0),(.tmp 1,.di),(.tmp 2,.di),(.tmp 3,.di),(.tmp 4,.box 1),(.cell 1 0,.di)]
abbrev NT:AD:=[(.obj 0,.own 3 U0),(.obj 1,.box 1),(.cell 1 0,.di),(.tmp 0,.di)]
def ACX[Lk]:Up→Option (Ub):=fun(a0,a1,a2,a3,a4,_)=>
 match P6 (a0,a1,a2,a4,())with|none=>none|some (y0,y1,y2,y3,_)=>match P6 (y0,y3,a3,y1,())with|none=>none|some (y4,y5,y6,y7,_)=>match P6 (y4,y2,y6,y5,())with|none=>none|some (y8,y9,y10,y11,_)=>some (y8,y9,y11,())
def QE[Lk]:=fun v=>Lk.f (ACX v)
theorem ARQ v:QE v=ACX v:=AB _
abbrev ACb:AD:=[(.tmp 0,.own 3 U0),(.tmp 1,.di),(.tmp 2,.box 1),(.cell 1 0,.di)]
def ACc[Lk]:Ub→Option (Ub):=fun(a0,a1,a2,_)=>
 match QE (a0,(IntKind.wrap .i64 (a1-1)),a1,(IntKind.wrap .i64 (a1+1)),a2,())with|none=>none|some (y0,y1,y2,_)=>some (y0,y1,y2,())
def QF[Lk]:=fun v=>Lk.f (ACc v)
theorem ARV v:QF v=ACc v:=AB _
abbrev AJs:AD:=[(.obj 0,.own 3 U0),(.tmp 0,.di),(.tmp 1,.di)]
def AJt[Lk]:Ub→Option (Ub):=fun(a0,a1,a2,_)=>
 match quo? .i64 (IntKind.wrap .i64 (a2-a1)) 4 with|none=>none|some x0=>match quo? .i64 (IntKind.wrap .i64 (a2-a1)) 4 with|none=>none|some x1=>match quo? .i64 (IntKind.wrap .i64 (a2-a1)) 4 with|none=>none|some x2=>match(ile 8 (IntKind.wrap .i64 (a2-a1)))with
 |true=>match(ile 50 (IntKind.wrap .i64 (a2-a1)))with
  |true=>match QF (a0,(IntKind.wrap .i64 (a1+(IntKind.wrap .i64 (x0*1)))),0,())with|none=>none|some (y3,y4,y5,_)=>match QF (y3,(IntKind.wrap .i64 (a1+(IntKind.wrap .i64 (x1*2)))),y4,())with|none=>none|some (y6,y7,y8,_)=>match QF (y6,(IntKind.wrap .i64 (a1+(IntKind.wrap .i64 (x2*3)))),y7,())with|none=>none|some (y9,y10,y11,_)=>match QE (y9,y5,y8,y11,y10,())with|none=>none|some (y12,y13,y14,_)=>match(ieq y13 0)with
   |true=>some (y12,y14,1,())
   |false=>match(ieq y13 12)with
   |true=>some (y12,y14,2,())
   |false=>some (y12,y14,0,())
  |false=>match QE (a0,(IntKind.wrap .i64 (a1+(IntKind.wrap .i64 (x0*1)))),(IntKind.wrap .i64 (a1+(IntKind.wrap .i64 (x1*2)))),(IntKind.wrap .i64 (a1+(IntKind.wrap .i64 (x2*3)))),0,())with|none=>none|some (y15,y16,y17,_)=>match(ieq y16 0)with
  |true=>some (y15,y17,1,())
  |false=>match(ieq y16 12)with
  |true=>some (y15,y17,2,())
  |false=>some (y15,y17,0,())
 |false=>match(ieq 0 0)with
 |true=>some (a0,(IntKind.wrap .i64 (a1+(IntKind.wrap .i64 (x1*2)))),1,())
 |false=>match(ieq 0 12)with
 |true=>some (a0,(IntKind.wrap .i64 (a1+(IntKind.wrap .i64 (x1*2)))),2,())
 |false=>some (a0,(IntKind.wrap .i64 (a1+(IntKind.wrap .i64 (x1*2)))),0,())
def AQS[Lk]:=fun v=>Lk.f (AJt v)
theorem AZM v:AQS v=AJt v:=AB _
abbrev Aj4:AD:=[(.obj 0,.own 3 U0),(.tmp 0,.own' 0),(.tmp 6,.di),(.tmp 7,.di)]
def Aj3[Lk]:Ub→Option (Ub⊕Ua⊕Unit):=fun(a0,a1,a2,_)=>
 match(ilt a1 a2)with
 |true=>match idx a0 a2 with|none=>none|some x0=>match idx a0 a1 with|none=>none|some x1=>match idx a0 a1 with|none=>none|some x2=>match idx (AX a0 (AF a1) (AJ a0 (AF a2) 0)) a2 with|none=>none|some x3=>some (.inl ((AX (AX a0 (AF a1) (AJ a0 (AF a2) 0)) (AF a2) (AJ a0 (AF a1) 0)),(IntKind.wrap .i64 (a1+1)),(IntKind.wrap .i64 (a2-1)),()))
 |false=>some (.inr (.inl (a0,())))
def AeX[Lk]:Ub→Option (Ua):=fun(a0,a1,a2,_)=>
 match AL Aj3 many (a0,a1,(IntKind.wrap .i64 (a2-1)),())with|none=>none|some r=>match r with
 |.inl (o0,_)=>some (o0,())
 |.inr _=>none
def AnI[Lk]:=fun v=>Lk.f (AeX v)
theorem Aj5 v:AnI v=AeX v:=AB _
abbrev AKQ:AD:=[(.obj 0,.own 3 U0),(.tmp 0,.own' 0),(.tmp 1,.di),(.tmp 2,.di),(.tmp 7,.di),(.tmp 8,.di),(.tmp 10,.di)]
abbrev AKM:AW:=[(.exit 6,[(.obj 0,.own 3 U0),(.tmp 0,.own' 0),(.tmp 1,.di),(.tmp 2,.di),(.tmp 7,.di),(.tmp 8,.di)])]
def TU[Lk]:Vf→Option (Vf⊕Up⊕Unit):=fun(a0,a1,a2,a3,a4,a5,_)=>
 match(ilt a5 a2)with
 |true=>match idx a0 a5 with|none=>none|some x0=>match idx a0 (IntKind.wrap .i64 (a5-1))with|none=>none|some x1=>match Fe ((AJ a0 (AF a5) 0),(AJ a0 (AF (IntKind.wrap .i64 (a5-1))) 0),())with|none=>none|some (y2,_)=>match(!y2)with
  |true=>some (.inr (.inl (a0,a1,a2,a3,a4,())))
  |false=>match idx a0 (IntKind.wrap .i64 (a5-1))with|none=>none|some x3=>match idx a0 a5 with|none=>none|some x4=>match idx a0 a5 with|none=>none|some x5=>match idx (AX a0 (AF a5) (AJ a0 (AF (IntKind.wrap .i64 (a5-1))) 0)) (IntKind.wrap .i64 (a5-1))with|none=>none|some x6=>some (.inl ((AX (AX a0 (AF a5) (AJ a0 (AF (IntKind.wrap .i64 (a5-1))) 0)) (AF (IntKind.wrap .i64 (a5-1))) (AJ a0 (AF a5) 0)),a1,a2,a3,a4,(IntKind.wrap .i64 (a5+1)),()))
 |false=>some (.inr (.inl (a0,a1,a2,a3,a4,())))
abbrev AKR:AD:=[(.obj 0,.own 3 U0),(.tmp 0,.own' 0),(.tmp 1,.di),(.tmp 2,.di),(.tmp 7,.di),(.tmp 8,.di),(.tmp 9,.di)]
abbrev AKN:AW:=[(.exit 4,[(.obj 0,.own 3 U0),(.tmp 0,.own' 0),(.tmp 1,.di),(.tmp 2,.di),(.tmp 7,.di),(.tmp 8,.di)])]
def AKJ[Lk]:Vf→Option (Vf⊕Up⊕Unit):=fun(a0,a1,a2,a3,a4,a5,_)=>
 match(ile 1 a5)with
 |true=>match idx a0 a5 with|none=>none|some x0=>match idx a0 (IntKind.wrap .i64 (a5-1))with|none=>none|some x1=>match Fe ((AJ a0 (AF a5) 0),(AJ a0 (AF (IntKind.wrap .i64 (a5-1))) 0),())with|none=>none|some (y2,_)=>match(!y2)with
  |true=>some (.inr (.inl (a0,a1,a2,a3,a4,())))
  |false=>match idx a0 (IntKind.wrap .i64 (a5-1))with|none=>none|some x3=>match idx a0 a5 with|none=>none|some x4=>match idx a0 a5 with|none=>none|some x5=>match idx (AX a0 (AF a5) (AJ a0 (AF (IntKind.wrap .i64 (a5-1))) 0)) (IntKind.wrap .i64 (a5-1))with|none=>none|some x6=>some (.inl ((AX (AX a0 (AF a5) (AJ a0 (AF (IntKind.wrap .i64 (a5-1))) 0)) (AF (IntKind.wrap .i64 (a5-1))) (AJ a0 (AF a5) 0)),a1,a2,a3,a4,(IntKind.wrap .i64 (a5-1)),()))
 |false=>some (.inr (.inl (a0,a1,a2,a3,a4,())))
abbrev TV:AD:=[(.obj 0,.own 3 U0),(.tmp 0,.own' 0),(.tmp 1,.di),(.tmp 2,.di),(.tmp 7,.di),(.tmp 8,.di)]
abbrev AKO:AW:=[(.exit 2,[(.obj 0,.own 3 U0),(.tmp 0,.own' 0),(.tmp 1,.di),(.tmp 2,.di),(.tmp 7,.di),(.tmp 8,.di)])]
def AKK[Lk]:Up→Option (Up⊕Up⊕Unit):=fun(a0,a1,a2,a3,a4,_)=>
 match(ilt a3 a2)with
 |true=>match idx a0 a3 with|none=>none|some x0=>match idx a0 (IntKind.wrap .i64 (a3-1))with|none=>none|some x1=>match Fe ((AJ a0 (AF a3) 0),(AJ a0 (AF (IntKind.wrap .i64 (a3-1))) 0),())with|none=>none|some (y2,_)=>match(!y2)with
  |true=>some (.inl (a0,a1,a2,(IntKind.wrap .i64 (a3+1)),a4,()))
  |false=>some (.inr (.inl (a0,a1,a2,a3,a4,())))
 |false=>some (.inr (.inl (a0,a1,a2,a3,a4,())))
abbrev AKP:AW:=[(.ret,[(.obj 0,.own 3 U0),(.tmp 6,.dat .bool)]),(.exit 0,[(.obj 0,.own 3 U0)])]
def AKL[Lk]:Up→Option (Up⊕(List Int×Bool×Unit)⊕Ua⊕Unit):=fun(a0,a1,a2,a3,a4,_)=>
 match(ilt a4 5)with
 |true=>match AL AKK many (a0,a1,a2,a3,a4,())with|none=>none|some r=>match r with
  |.inl (o0,o1,o2,o3,o4,_)=>match(ieq o3 o2)with
   |true=>some (.inr (.inl (o0,true,())))
   |false=>match(ilt (IntKind.wrap .i64 (o2-o1)) 50)with
   |true=>some (.inr (.inl (o0,false,())))
   |false=>match idx o0 (IntKind.wrap .i64 (o3-1))with|none=>none|some x5=>match idx o0 o3 with|none=>none|some x6=>match idx o0 o3 with|none=>none|some x7=>match idx (AX o0 (AF o3) (AJ o0 (AF (IntKind.wrap .i64 (o3-1))) 0)) (IntKind.wrap .i64 (o3-1))with|none=>none|some x8=>match(ile 2 (IntKind.wrap .i64 (o3-o1)))with
   |true=>match AL AKJ many ((AX (AX o0 (AF o3) (AJ o0 (AF (IntKind.wrap .i64 (o3-1))) 0)) (AF (IntKind.wrap .i64 (o3-1))) (AJ o0 (AF o3) 0)),o1,o2,o3,o4,(IntKind.wrap .i64 (o3-1)),())with|none=>none|some r=>match r with
    |.inl (o9,o10,o11,o12,o13,_)=>match(ile 2 (IntKind.wrap .i64 (o11-o12)))with
     |true=>match AL TU many (o9,o10,o11,o12,o13,(IntKind.wrap .i64 (o12+1)),())with|none=>none|some r=>match r with
      |.inl (o14,o15,o16,o17,o18,_)=>some (.inl (o14,o15,o16,o17,(IntKind.wrap .i64 (o18+1)),()))
      |.inr _=>none
     |false=>some (.inl (o9,o10,o11,o12,(IntKind.wrap .i64 (o13+1)),()))
    |.inr _=>none
   |false=>match(ile 2 (IntKind.wrap .i64 (o2-o3)))with
   |true=>match AL TU many ((AX (AX o0 (AF o3) (AJ o0 (AF (IntKind.wrap .i64 (o3-1))) 0)) (AF (IntKind.wrap .i64 (o3-1))) (AJ o0 (AF o3) 0)),o1,o2,o3,o4,(IntKind.wrap .i64 (o3+1)),())with|none=>none|some r=>match r with
    |.inl (o19,o20,o21,o22,o23,_)=>some (.inl (o19,o20,o21,o22,(IntKind.wrap .i64 (o23+1)),()))
    |.inr _=>none
   |false=>some (.inl ((AX (AX o0 (AF o3) (AJ o0 (AF (IntKind.wrap .i64 (o3-1))) 0)) (AF (IntKind.wrap .i64 (o3-1))) (AJ o0 (AF o3) 0)),o1,o2,o3,(IntKind.wrap .i64 (o4+1)),()))
  |.inr _=>none
 |false=>some (.inr (.inr (.inl (a0,()))))
def Xg[Lk]:Ub→Option ((List Int×Bool×Unit)):=fun(a0,a1,a2,_)=>
 match AL AKL many (a0,a1,a2,(IntKind.wrap .i64 (a1+1)),0,())with|none=>none|some r=>match r with
 |.inl (o0,o1,_)=>some (o0,o1,())
 |.inr r=>match r with
 |.inl (o2,_)=>some (o2,false,())
 |.inr _=>none
def Xh[Lk]:=fun v=>Lk.f (Xg v)
theorem AKS v:Xh v=Xg v:=AB _
abbrev OY:AD:=[(.obj 0,.own 3 U0),(.tmp 0,.own' 0),(.tmp 1,.di),(.tmp 9,.di),(.tmp 10,.di)]
abbrev AQ1:AW:=[(.exit 4,[(.obj 0,.own 3 U0),(.tmp 0,.own' 0),(.tmp 1,.di),(.tmp 9,.di),(.tmp 10,.di)])]
def AQy[Lk]:U9→Option (U9⊕U9⊕Unit):=fun(a0,a1,a2,a3,_)=>
 match(ile a2 a3)with
 |true=>match idx a0 a1 with|none=>none|some x0=>match idx a0 a3 with|none=>none|some x1=>match Fe ((AJ a0 (AF a1) 0),(AJ a0 (AF a3) 0),())with|none=>none|some (y2,_)=>match y2 with
  |true=>some (.inl (a0,a1,a2,(IntKind.wrap .i64 (a3-1)),()))
  |false=>some (.inr (.inl (a0,a1,a2,a3,())))
 |false=>some (.inr (.inl (a0,a1,a2,a3,())))
abbrev AQ2:AW:=[(.exit 2,[(.obj 0,.own 3 U0),(.tmp 0,.own' 0),(.tmp 1,.di),(.tmp 9,.di),(.tmp 10,.di)])]
def AQz[Lk]:U9→Option (U9⊕U9⊕Unit):=fun(a0,a1,a2,a3,_)=>
 match(ile a2 a3)with
 |true=>match idx a0 a1 with|none=>none|some x0=>match idx a0 a2 with|none=>none|some x1=>match Fe ((AJ a0 (AF a1) 0),(AJ a0 (AF a2) 0),())with|none=>none|some (y2,_)=>match(!y2)with
  |true=>some (.inl (a0,a1,(IntKind.wrap .i64 (a2+1)),a3,()))
  |false=>some (.inr (.inl (a0,a1,a2,a3,())))
 |false=>some (.inr (.inl (a0,a1,a2,a3,())))
abbrev AQ3:AW:=[(.exit 0,[(.obj 0,.own 3 U0),(.tmp 9,.di)])]
def AQ0[Lk]:U9→Option (U9⊕Uh⊕Unit):=fun(a0,a1,a2,a3,_)=>
 match AL AQz many (a0,a1,a2,a3,())with|none=>none|some r=>match r with
 |.inl (o0,o1,o2,o3,_)=>match AL AQy many (o0,o1,o2,o3,())with|none=>none|some r=>match r with
  |.inl (o4,o5,o6,o7,_)=>match(ilt o7 o6)with
   |true=>some (.inr (.inl (o4,o6,())))
   |false=>match idx o4 o7 with|none=>none|some x8=>match idx o4 o6 with|none=>none|some x9=>match idx o4 o6 with|none=>none|some x10=>match idx (AX o4 (AF o6) (AJ o4 (AF o7) 0)) o7 with|none=>none|some x11=>some (.inl ((AX (AX o4 (AF o6) (AJ o4 (AF o7) 0)) (AF o7) (AJ o4 (AF o6) 0)),o5,(IntKind.wrap .i64 (o6+1)),(IntKind.wrap .i64 (o7-1)),()))
  |.inr _=>none
 |.inr _=>none
def ACH[Lk]:U9→Option (Uh):=fun(a0,a1,a2,a3,_)=>
 match idx a0 a3 with|none=>none|some x0=>match idx a0 a1 with|none=>none|some x1=>match idx a0 a1 with|none=>none|some x2=>match idx (AX a0 (AF a1) (AJ a0 (AF a3) 0)) a3 with|none=>none|some x3=>match AL AQ0 many ((AX (AX a0 (AF a1) (AJ a0 (AF a3) 0)) (AF a3) (AJ a0 (AF a1) 0)),a1,(IntKind.wrap .i64 (a1+1)),(IntKind.wrap .i64 (a2-1)),())with|none=>none|some r=>match r with
 |.inl (o4,o5,_)=>some (o4,o5,())
 |.inr _=>none
def AFd[Lk]:=fun v=>Lk.f (ACH v)
theorem AQ4 v:AFd v=ACH v:=AB _
abbrev AVD:AD:=[(.obj 0,.own 3 U0),(.tmp 0,.di),(.tmp 1,.dat .bool)]
abbrev L7:AD:=[(.obj 0,.own 3 U0),(.tmp 0,.own' 0),(.tmp 1,.di),(.tmp 10,.di),(.tmp 11,.di)]
abbrev Afd:AW:=[(.exit 8,[(.obj 0,.own 3 U0),(.tmp 0,.own' 0),(.tmp 1,.di),(.tmp 10,.di),(.tmp 11,.di)])]
def AfY[Lk]:U9→Option (U9⊕U9⊕Unit):=fun(a0,a1,a2,a3,_)=>
 match(ile a2 a3)with
 |true=>match idx a0 a3 with|none=>none|some x0=>match idx a0 a1 with|none=>none|some x1=>match Fe ((AJ a0 (AF a3) 0),(AJ a0 (AF a1) 0),())with|none=>none|some (y2,_)=>match(!y2)with
  |true=>some (.inl (a0,a1,a2,(IntKind.wrap .i64 (a3-1)),()))
  |false=>some (.inr (.inl (a0,a1,a2,a3,())))
 |false=>some (.inr (.inl (a0,a1,a2,a3,())))
abbrev Afe:AW:=[(.exit 6,[(.obj 0,.own 3 U0),(.tmp 0,.own' 0),(.tmp 1,.di),(.tmp 10,.di),(.tmp 11,.di)])]
def AfZ[Lk]:U9→Option (U9⊕U9⊕Unit):=fun(a0,a1,a2,a3,_)=>
 match(ile a2 a3)with
 |true=>match idx a0 a2 with|none=>none|some x0=>match idx a0 a1 with|none=>none|some x1=>match Fe ((AJ a0 (AF a2) 0),(AJ a0 (AF a1) 0),())with|none=>none|some (y2,_)=>match y2 with
  |true=>some (.inl (a0,a1,(IntKind.wrap .i64 (a2+1)),a3,()))
  |false=>some (.inr (.inl (a0,a1,a2,a3,())))
 |false=>some (.inr (.inl (a0,a1,a2,a3,())))
abbrev Aff:AW:=[(.exit 4,[(.obj 0,.own 3 U0),(.tmp 0,.own' 0),(.tmp 1,.di),(.tmp 11,.di)])]
def Afa[Lk]:U9→Option (U9⊕Ub⊕Unit):=fun(a0,a1,a2,a3,_)=>
 match AL AfZ many (a0,a1,a2,a3,())with|none=>none|some r=>match r with
 |.inl (o0,o1,o2,o3,_)=>match AL AfY many (o0,o1,o2,o3,())with|none=>none|some r=>match r with
  |.inl (o4,o5,o6,o7,_)=>match(ilt o7 o6)with
   |true=>some (.inr (.inl (o4,o5,o7,())))
   |false=>match idx o4 o7 with|none=>none|some x8=>match idx o4 o6 with|none=>none|some x9=>match idx o4 o6 with|none=>none|some x10=>match idx (AX o4 (AF o6) (AJ o4 (AF o7) 0)) o7 with|none=>none|some x11=>some (.inl ((AX (AX o4 (AF o6) (AJ o4 (AF o7) 0)) (AF o7) (AJ o4 (AF o6) 0)),o5,(IntKind.wrap .i64 (o6+1)),(IntKind.wrap .i64 (o7-1)),()))
  |.inr _=>none
 |.inr _=>none
abbrev Afg:AW:=[(.exit 2,[(.obj 0,.own 3 U0),(.tmp 0,.own' 0),(.tmp 1,.di),(.tmp 10,.di),(.tmp 11,.di)])]
def Afb[Lk]:U9→Option (U9⊕U9⊕Unit):=fun(a0,a1,a2,a3,_)=>
 match(ile a2 a3)with
 |true=>match idx a0 a3 with|none=>none|some x0=>match idx a0 a1 with|none=>none|some x1=>match Fe ((AJ a0 (AF a3) 0),(AJ a0 (AF a1) 0),())with|none=>none|some (y2,_)=>match(!y2)with
  |true=>some (.inl (a0,a1,a2,(IntKind.wrap .i64 (a3-1)),()))
  |false=>some (.inr (.inl (a0,a1,a2,a3,())))
 |false=>some (.inr (.inl (a0,a1,a2,a3,())))
abbrev Afh:AW:=[(.exit 0,[(.obj 0,.own 3 U0),(.tmp 0,.own' 0),(.tmp 1,.di),(.tmp 10,.di),(.tmp 11,.di)])]
def Afc[Lk]:U9→Option (U9⊕U9⊕Unit):=fun(a0,a1,a2,a3,_)=>
 match(ile a2 a3)with
 |true=>match idx a0 a2 with|none=>none|some x0=>match idx a0 a1 with|none=>none|some x1=>match Fe ((AJ a0 (AF a2) 0),(AJ a0 (AF a1) 0),())with|none=>none|some (y2,_)=>match y2 with
  |true=>some (.inl (a0,a1,(IntKind.wrap .i64 (a2+1)),a3,()))
  |false=>some (.inr (.inl (a0,a1,a2,a3,())))
 |false=>some (.inr (.inl (a0,a1,a2,a3,())))
def AVE[Lk]:U9→Option ((List Int×Int×Bool×Unit)):=fun(a0,a1,a2,a3,_)=>
 match idx a0 a3 with|none=>none|some x0=>match idx a0 a1 with|none=>none|some x1=>match idx a0 a1 with|none=>none|some x2=>match idx (AX a0 (AF a1) (AJ a0 (AF a3) 0)) a3 with|none=>none|some x3=>match AL Afc many ((AX (AX a0 (AF a1) (AJ a0 (AF a3) 0)) (AF a3) (AJ a0 (AF a1) 0)),a1,(IntKind.wrap .i64 (a1+1)),(IntKind.wrap .i64 (a2-1)),())with|none=>none|some r=>match r with
 |.inl (o4,o5,o6,o7,_)=>match AL Afb many (o4,o5,o6,o7,())with|none=>none|some r=>match r with
  |.inl (o8,o9,o10,o11,_)=>match(ilt o11 o10)with
   |true=>match idx o8 o9 with|none=>none|some x12=>match idx o8 o11 with|none=>none|some x13=>match idx o8 o11 with|none=>none|some x14=>match idx (AX o8 (AF o11) (AJ o8 (AF o9) 0)) o9 with|none=>none|some x15=>some ((AX (AX o8 (AF o11) (AJ o8 (AF o9) 0)) (AF o9) (AJ o8 (AF o11) 0)),o11,true,())
   |false=>match idx o8 o11 with|none=>none|some x16=>match idx o8 o10 with|none=>none|some x17=>match idx o8 o10 with|none=>none|some x18=>match idx (AX o8 (AF o10) (AJ o8 (AF o11) 0)) o11 with|none=>none|some x19=>match AL Afa many ((AX (AX o8 (AF o10) (AJ o8 (AF o11) 0)) (AF o11) (AJ o8 (AF o10) 0)),o9,(IntKind.wrap .i64 (o10+1)),(IntKind.wrap .i64 (o11-1)),())with|none=>none|some r=>match r with
   |.inl (o20,o21,o22,_)=>match idx o20 o21 with|none=>none|some x23=>match idx o20 o22 with|none=>none|some x24=>match idx o20 o22 with|none=>none|some x25=>match idx (AX o20 (AF o22) (AJ o20 (AF o21) 0)) o21 with|none=>none|some x26=>some ((AX (AX o20 (AF o22) (AJ o20 (AF o21) 0)) (AF o21) (AJ o20 (AF o22) 0)),o22,false,())
   |.inr _=>none
  |.inr _=>none
 |.inr _=>none
def AVF[Lk]:=fun v=>Lk.f (AVE v)
theorem Afi v:AVF v=AVE v:=AB _
abbrev AU7:AD:=[(.obj 0,.own 3 U0),(.tmp 0,.own' 0),(.tmp 1,.di),(.tmp 2,.di),(.tmp 3,.di),(.tmp 8,.dat .bool),(.tmp 9,.dat .bool)]
abbrev AU6:AW:=[(.ret,[(.obj 0,.own 3 U0)])]
def AFW[Lk](self:U9→Option (Ua))(y7:List Int)(a1 a2 p l:Int)(a4 a5:Bool):Option (Vk⊕Ua⊕Unit):=
 match(ilt 0 a1)with
 |true=>match idx y7 (IntKind.wrap .i64 (a1-1))with|none=>none|some x9=>match idx y7 p with|none=>none|some x10=>match Fe ((AJ y7 (AF (IntKind.wrap .i64 (a1-1))) 0),(AJ y7 (AF p) 0),())with|none=>none|some (y11,_)=>match(!y11)with
  |true=>match AFd (y7,a1,a2,p,())with|none=>none|some (y12,y13,_)=>some (.inl (y12,y13,a2,l,a4,a5,()))
  |false=>match AVF (y7,a1,a2,p,())with|none=>none|some (y14,y15,y16,_)=>match quo? .i64 (IntKind.wrap .i64 (a2-a1)) 8 with|none=>none|some x17=>match(ilt (IntKind.wrap .i64 (y15-a1)) (IntKind.wrap .i64 (a2-y15)))with
  |true=>match self (y14,a1,y15,l,())with|none=>none|some (y18,_)=>some (.inl (y18,(IntKind.wrap .i64 (y15+1)),a2,l,(ile x17 (IntKind.wrap .i64 (y15-a1))),y16,()))
  |false=>match self (y14,(IntKind.wrap .i64 (y15+1)),a2,l,())with|none=>none|some (y19,_)=>some (.inl (y19,a1,y15,l,(ile x17 (IntKind.wrap .i64 (a2-y15))),y16,()))
 |false=>match AVF (y7,a1,a2,p,())with|none=>none|some (y20,y21,y22,_)=>match quo? .i64 (IntKind.wrap .i64 (a2-a1)) 8 with|none=>none|some x23=>match(ilt (IntKind.wrap .i64 (y21-a1)) (IntKind.wrap .i64 (a2-y21)))with
 |true=>match self (y20,a1,y21,l,())with|none=>none|some (y24,_)=>some (.inl (y24,(IntKind.wrap .i64 (y21+1)),a2,l,(ile x23 (IntKind.wrap .i64 (y21-a1))),y22,()))
 |false=>match self (y20,(IntKind.wrap .i64 (y21+1)),a2,l,())with|none=>none|some (y25,_)=>some (.inl (y25,a1,y21,l,(ile x23 (IntKind.wrap .i64 (a2-y21))),y22,()))
def AfI[Lk](self:U9→Option (Ua))(y6:List Int)(a1 a2 p h l:Int)(a4 a5:Bool):Option (Vk⊕Ua⊕Unit):=
 match a4 with
 |true=>match a5 with
  |true=>match(ieq h 1)with
   |true=>match Xh (y6,a1,a2,())with|none=>none|some (y7,y8,_)=>match y8 with
    |true=>some (.inr (.inl (y7,())))
    |false=>AFW self y7 a1 a2 p l a4 a5
   |false=>AFW self y6 a1 a2 p l a4 a5
  |false=>AFW self y6 a1 a2 p l a4 a5
 |false=>AFW self y6 a1 a2 p l a4 a5
def AfH[Lk](self:U9→Option (Ua))(y2:List Int)(a1 a2 l:Int)(a4 a5:Bool):Option (Vk⊕Ua⊕Unit):=
 match AQS (y2,a1,a2,())with|none=>none|some (y3,y4,y5,_)=>match(ieq y5 2)with
 |true=>match AnI (y3,a1,a2,())with|none=>none|some (y6,_)=>AfI self y6 a1 a2 (IntKind.wrap .i64 ((IntKind.wrap .i64 (a2-1))-(IntKind.wrap .i64 (y4-a1)))) 1 l a4 a5
 |false=>AfI self y3 a1 a2 y4 y5 l a4 a5
def AFX[Lk](self:U9→Option (Ua)):Vk→Option (Vk⊕Ua⊕Unit):=fun(a0,a1,a2,a3,a4,a5,_)=>
 match(ile (IntKind.wrap .i64 (a2-a1)) 12)with
 |true=>match AoE (a0,a1,a2,())with|none=>none|some (y0,_)=>some (.inr (.inl (y0,())))
 |false=>match(ieq a3 0)with
 |true=>match Agw (a0,a1,a2,())with|none=>none|some (y1,_)=>some (.inr (.inl (y1,())))
 |false=>match(!a4)with
 |true=>match ATD (a0,a1,a2,())with|none=>none|some (y2,_)=>AfH self y2 a1 a2 (IntKind.wrap .i64 (a3-1)) a4 a5
 |false=>AfH self a0 a1 a2 a3 a4 a5
def AfJ[Lk](self:U9→Option (Ua)):U9→Option (Ua):=fun(a0,a1,a2,a3,_)=>
 match AL (AFX self) many (a0,a1,a2,a3,true,true,())with|none=>none|some r=>match r with
 |.inl (o0,_)=>some (o0,())
 |.inr _=>none
def OV[Lk]:Nat→U9→Option (Ua)
 |0,_=>none
 |n+1,v=>AfJ (OV n) v
def AfK[Lk]:=fun v=>Lk.f (OV 100 v)
theorem AkT v:AfK v=OV 100 v:=AB _
def AUc[Lk]:Ua→Option (Ua):=fun(a0,_)=>
 match bitsLen ((IntKind.wrap .u64 (AH a0)),())with|none=>none|some (y0,_)=>match AfK (a0,0,(AH a0),y0,())with|none=>none|some (y1,_)=>some (y1,())
def Adk[Lk]:=fun v=>Lk.f (AUc v)
theorem Adj v:Adk v=AUc v:=AB _
abbrev AiH:AD:=[(.tmp 0,.dat Uy),(.tmp 1,.dat U2),(.tmp 2,.clo 169 [])]
abbrev Sx:AD:=[(.tmp 0,.di),(.tmp 1,.dat .bool)]
abbrev AmC:AD:=[(.tmp 0,.dat Uy),(.tmp 2,.clo 169 []),(.tmp 4,.box 4),(.cell 0 0,.di),(.cell 0 1,.di),(.cell 0 2,.di),(.cell 0 3,.dat .bool),(.tmp 8,.di),(.tmp 9,.di),(.tmp 10,.di)]
abbrev AmB:AW:=[(.exit 0,[(.tmp 0,.dat Uy),(.tmp 2,.clo 169 []),(.tmp 4,.box 4),(.cell 0 0,.di),(.cell 0 1,.di),(.cell 0 2,.di),(.cell 0 3,.dat .bool),(.tmp 8,.di),(.tmp 9,.di)])]
def AmA[Lk]:(List U1×Int×Int×Int×Bool×Int×Int×Int×Unit)→Option ((List U1×Int×Int×Int×Bool×Int×Int×Int×Unit)⊕(List U1×Int×Int×Int×Bool×Int×Int×Unit)⊕Unit):=fun(a0,a1,a2,a3,a4,a5,a6,a7,_)=>
 match(ilt a6 a7)with
 |true=>match shr? .u64 (IntKind.wrap .u64 (IntKind.wrap .i64 (a6+a7))) 1 with|none=>none|some x0=>match idx a0 (IntKind.wrap .i64 x0)with|none=>none|some x1=>match IX ((x1.1,(x1.2.1,(x1.2.2.1,(x1.2.2.2.1,())))),(a1,(a2,(a3,(a4,())))),())with|none=>none|some (y2,_)=>match(ilt y2 0)with
  |true=>some (.inl (a0,a1,a2,a3,a4,a5,(IntKind.wrap .i64 ((IntKind.wrap .i64 x0)+1)),a7,()))
  |false=>some (.inl (a0,a1,a2,a3,a4,a5,a6,(IntKind.wrap .i64 x0),()))
 |false=>some (.inr (.inl (a0,a1,a2,a3,a4,a5,a6,())))
def AiI[Lk]:(List U1×U1×Unit)→Option ((Int×Bool×Unit)):=fun(a0,a1,_)=>
 match AL AmA many (a0,a1.1,a1.2.1,a1.2.2.1,a1.2.2.2.1,(AH a0),0,(AH a0),())with|none=>none|some r=>match r with
 |.inl (o0,o1,o2,o3,o4,o5,o6,_)=>match(ilt o6 o5)with
  |true=>match idx o0 o6 with|none=>none|some x7=>match IX ((x7.1,(x7.2.1,(x7.2.2.1,(x7.2.2.2.1,())))),(o1,(o2,(o3,(o4,())))),())with|none=>none|some (y8,_)=>some (o6,(ieq y8 0),())
  |false=>some (o6,false,())
 |.inr _=>none
def AoY[Lk]:=fun v=>Lk.f (AiI v)
theorem AmD v:AoY v=AiI v:=AB _
abbrev Gn:AD:=[(.tmp 0,.dat Um),(.tmp 1,.di),(.tmp 2,.di)]
def AKt[Lk]:V2→Option ((Int×Bool×Unit)):=fun(a0,a1,a2,_)=>
 match AoY (a0.2.1,((Bs a1 a2),((imax a1 a2),(0,(false,())))),())with|none=>none|some (y0,y1,_)=>some (y0,y1,())
def ARc[Lk]:=fun v=>Lk.f (AKt v)
theorem AaJ v:ARc v=AKt v:=AB _
abbrev FG:AD:=[(.tmp 0,.own 3 U0),(.cap 1 0,.box 2),(.cell 1 0,.di),(.cell 1 1,.dat Ue),(.tmp 1,.clo 335 [(1,0)])]
abbrev ML:AD:=[(.obj 0,.own 3 U0),(.obj 1,.box 2),(.cell 1 0,.di),(.cell 1 1,.dat Ue),(.tmp 0,.di)]
abbrev VC:AD:=[(.obj 0,.own 3 U0),(.obj 1,.box 2),(.cell 1 0,.di),(.cell 1 1,.dat Ue),(.tmp 0,.own' 0),(.tmp 1,.clo 335 [(1,0)]),(.tmp 7,.di),(.tmp 8,.di)]
abbrev VB:AW:=[(.ret,[(.obj 0,.own 3 U0),(.obj 1,.box 2),(.cell 1 0,.di),(.cell 1 1,.dat Ue),(.tmp 4,.di)]),(.exit 0,[(.obj 0,.own 3 U0),(.obj 1,.box 2),(.cell 1 0,.di),(.cell 1 1,.dat Ue)])]
def VA[Lk]:(List Int×Int×List U5×Int×Int×Unit)→Option ((List Int×Int×List U5×Int×Int×Unit)⊕(List Int×Int×List U5×Int×Unit)⊕(List Int×Int×List U5×Unit)⊕Unit):=fun(a0,a1,a2,a3,a4,_)=>
 match(ilt a4 a3)with
 |true=>match idx a0 a4 with|none=>none|some x0=>match(ile a1 (AJ a0 (AF a4) 0))with
  |true=>some (.inr (.inl (a0,a1,a2,a4,())))
  |false=>some (.inl (a0,a1,a2,a3,(IntKind.wrap .i64 (a4+1)),()))
 |false=>some (.inr (.inr (.inl (a0,a1,a2,()))))
def MM[Lk]:(List Int×Int×List U5×Unit)→Option ((List Int×Int×List U5×Int×Unit)):=fun(a0,a1,a2,_)=>
 match AL VA many (a0,a1,a2,(AH a0),0,())with|none=>none|some r=>match r with
 |.inl (o0,o1,o2,o3,_)=>some (o0,o1,o2,o3,())
 |.inr r=>match r with
 |.inl (o4,o5,o6,_)=>some (o4,o5,o6,(-1:Int),())
 |.inr _=>none
def LA[Lk]:=fun v=>Lk.f (MM v)
theorem VD v:LA v=MM v:=AB _
abbrev AVs:AD:=[(.tmp 0,.nil U2),(.tmp 1,.di)]
abbrev WK:AD:=[(.tmp 0,.own 152 U2)]
def AVt[Lk]:U8→Option (V4):=fun(a0,_)=>
 match(ilt a0 0)with
 |true=>none
 |false=>match(ilt 0 (IntKind.wrap .i64 (a0-(IntKind.wrap .i64 (0-0)))))with
 |true=>match CE ([]:List Unit) 0 0 with|none=>none|some _u0=>match(Bq (IntKind.wrap .i64 (a0-(IntKind.wrap .i64 (0-0)))))with
  |true=>match CE (Cb (AF (IntKind.wrap .i64 (a0-(IntKind.wrap .i64 ((0:Int)-(0:Int)))))) ((0:Int),((0:Int),((0:Int),(false,()))))) (0:Int) (0:Int)with|none=>none|some x1=>some ((CL (AF (AH x1)) (Cb (AF (IntKind.wrap .i64 (a0-(IntKind.wrap .i64 ((0:Int)-(0:Int)))))) ((0:Int),((0:Int),((0:Int),(false,())))))),())
  |false=>none
 |false=>some (([]:List U1),())
def Ag4[Lk]:=fun v=>Lk.f (AVt v)
theorem Ag3 v:Ag4 v=AVt v:=AB _
abbrev ADA:AD:=[(.tmp 0,.dat (.slice Uy))]
abbrev ASk:AD:=[(.tmp 6,.own 152 U2),(.tmp 25,.dat (.slice Uy)),(.tmp 26,.di),(.tmp 27,.di)]
abbrev ASi:AW:=[(.exit 2,[(.tmp 6,.own 152 U2)])]
def ASg[Lk]:(List U1×List (List U1)×Int×Int×Unit)→Option ((List U1×List (List U1)×Int×Int×Unit)⊕V4⊕Unit):=fun(a0,a1,a2,a3,_)=>
 match(ilt a3 a2)with
 |true=>match idx a1 a3 with|none=>none|some x0=>match(fits ((AH a0)+(AH x0)))with
  |true=>some (.inl ((Ai a0 x0),a1,a2,(IntKind.wrap .i64 (a3+1)),()))
  |false=>none
 |false=>some (.inr (.inl (a0,())))
abbrev ASl:AD:=[(.tmp 0,.dat (.slice Uy)),(.tmp 3,.di),(.tmp 9,.dat (.slice Uy)),(.tmp 10,.di),(.tmp 11,.di)]
abbrev ASj:AW:=[(.exit 0,[(.tmp 0,.dat (.slice Uy)),(.tmp 3,.di)])]
def ASh[Lk]:(List (List U1)×Int×List (List U1)×Int×Int×Unit)→Option ((List (List U1)×Int×List (List U1)×Int×Int×Unit)⊕(List (List U1)×Int×Unit)⊕Unit):=fun(a0,a1,a2,a3,a4,_)=>
 match(ilt a4 a3)with
 |true=>match idx a2 a4 with|none=>none|some x0=>match(ilt (IntKind.wrap .i64 (a1+(AH x0))) 0)with
  |true=>none
  |false=>some (.inl (a0,(IntKind.wrap .i64 (a1+(AH x0))),a2,a3,(IntKind.wrap .i64 (a4+1)),()))
 |false=>some (.inr (.inl (a0,a1,())))
def ADB[Lk]:(List (List U1)×Unit)→Option (V4):=fun(a0,_)=>
 match AL ASh many (a0,0,a0,(AH a0),0,())with|none=>none|some r=>match r with
 |.inl (o0,o1,_)=>match Ag4 (o1,())with|none=>none|some (y2,_)=>match AL ASg many (y2,o0,(AH o0),0,())with|none=>none|some r=>match r with
  |.inl (o3,_)=>some (o3,())
  |.inr _=>none
 |.inr _=>none
def AGa[Lk]:=fun v=>Lk.f (ADB v)
theorem ASm v:AGa v=ADB v:=AB _
abbrev De:AD:=[(.tmp 0,.dat U6),(.cap 1 0,.box 1),(.cell 0 0,.dat U6),(.tmp 1,.clo 212 [(0,0)])]
abbrev JL:AD:=[(.obj 0,.box 1),(.cell 0 0,.dat U6),(.tmp 0,.di)]
abbrev O0:AD:=[(.obj 0,.box 1),(.cell 0 0,.dat U6),(.tmp 0,.dat U6),(.tmp 1,.clo 212 [(0,0)]),(.tmp 7,.di),(.tmp 8,.di)]
abbrev Oz:AW:=[(.ret,[(.obj 0,.box 1),(.cell 0 0,.dat U6),(.tmp 4,.di)]),(.exit 0,[(.obj 0,.box 1),(.cell 0 0,.dat U6)])]
def Oy[Lk]:Va→Option (Va⊕Uh⊕Ua⊕Unit):=fun(a0,a1,a2,a3,_)=>
 match(ilt a3 a2)with
 |true=>match idx a1 a3 with|none=>none|some x0=>match(ilt x0 0)with
  |true=>some (.inr (.inl (a0,a3,())))
  |false=>match(ile (AH a0) x0)with
  |true=>some (.inr (.inl (a0,a3,())))
  |false=>some (.inl (a0,a1,a2,(IntKind.wrap .i64 (a3+1)),()))
 |false=>some (.inr (.inr (.inl (a0,()))))
def JM[Lk]:Vc→Option (Uh):=fun(a0,a1,_)=>
 match AL Oy many (a1,a0,(AH a0),0,())with|none=>none|some r=>match r with
 |.inl (o0,o1,_)=>some (o0,o1,())
 |.inr r=>match r with
 |.inl (o2,_)=>some (o2,(-1:Int),())
 |.inr _=>none
def HE[Lk]:=fun v=>Lk.f (JM v)
theorem O1 v:HE v=JM v:=AB _
abbrev AL1:AD:=[(.tmp 0,.dat U6),(.cap 1 0,.box 1),(.cell 0 0,.dat U6),(.cap 1 1,.box 3),(.cell 1 0,.di),(.cell 1 1,.di),(.cell 1 2,.di),(.tmp 1,.clo 141 [(0,0),(1,0)])]
abbrev AL0:AD:=[(.obj 0,.box 1),(.cell 0 0,.dat U6),(.obj 1,.box 3),(.cell 1 0,.di),(.cell 1 1,.di),(.cell 1 2,.di),(.tmp 0,.di)]
abbrev Abj:AD:=[(.obj 0,.box 1),(.cell 0 0,.dat U6),(.obj 1,.box 3),(.cell 1 0,.di),(.cell 1 1,.di),(.cell 1 2,.di),(.tmp 1,.clo 141 [(0,0),(1,0)]),(.tmp 4,.di),(.tmp 7,.dat U6),(.tmp 8,.di),(.tmp 9,.di)]
abbrev Abi:AW:=[(.exit 0,[(.obj 0,.box 1),(.cell 0 0,.dat U6),(.obj 1,.box 3),(.cell 1 0,.di),(.cell 1 1,.di),(.cell 1 2,.di),(.tmp 4,.di)])]
def Abh[Lk]:(List Int×Int×Int×Int×Int×List Int×Int×Int×Unit)→Option ((List Int×Int×Int×Int×Int×List Int×Int×Int×Unit)⊕Up⊕Unit):=fun(a0,a1,a2,a3,a4,a5,a6,a7,_)=>
 match(ilt a7 a6)with
 |true=>match idx a5 a7 with|none=>none|some x0=>match idx a0 a2 with|none=>none|some x1=>match(ieq x0 x1)with
  |true=>some (.inl (a0,a1,a2,a3,(IntKind.wrap .i64 (a4+1)),a5,a6,(IntKind.wrap .i64 (a7+1)),()))
  |false=>some (.inl (a0,a1,a2,a3,a4,a5,a6,(IntKind.wrap .i64 (a7+1)),()))
 |false=>some (.inr (.inl (a0,a1,a2,a3,a4,())))
def AL2[Lk]:(List Int×List Int×Int×Int×Int×Unit)→Option (Up):=fun(a0,a1,a2,a3,a4,_)=>
 match AL Abh many (a1,a2,a3,a4,0,a0,(AH a0),0,())with|none=>none|some r=>match r with
 |.inl (o0,o1,o2,o3,o4,_)=>some (o0,o1,o2,o3,o4,())
 |.inr _=>none
def AGY[Lk]:=fun v=>Lk.f (AL2 v)
theorem Abk v:AGY v=AL2 v:=AB _
abbrev ALy:AD:=[(.tmp 0,.dat U6),(.tmp 1,.clo 142 [])]
abbrev Abf:AD:=[(.tmp 1,.clo 142 []),(.tmp 4,.di),(.tmp 7,.dat U6),(.tmp 8,.di),(.tmp 9,.di)]
abbrev Abe:AW:=[(.exit 0,[(.tmp 4,.di)])]
def Abd[Lk]:(Int×List Int×Int×Int×Unit)→Option ((Int×List Int×Int×Int×Unit)⊕U8⊕Unit):=fun(a0,a1,a2,a3,_)=>
 match(ilt a3 a2)with
 |true=>match idx a1 a3 with|none=>none|some x0=>match(ieq a3 x0)with
  |true=>some (.inl ((IntKind.wrap .i64 (a0+1)),a1,a2,(IntKind.wrap .i64 (a3+1)),()))
  |false=>some (.inl (a0,a1,a2,(IntKind.wrap .i64 (a3+1)),()))
 |false=>some (.inr (.inl (a0,())))
def ALz[Lk]:Ua→Option (U8):=fun(a0,_)=>
 match AL Abd many (0,a0,(AH a0),0,())with|none=>none|some r=>match r with
 |.inl (o0,_)=>some (o0,())
 |.inr _=>none
def ASd[Lk]:=fun v=>Lk.f (ALz v)
theorem Abg v:ASd v=ALz v:=AB _
abbrev ABP:AD:=[(.tmp 0,.dat (.slice (.int .u8))),(.tmp 1,.di)]
def ABQ[Lk]:Uh→Option ((Int×Bool×Unit)):=fun(a0,a1,_)=>
 match(ilt a1 0)with
 |true=>some (0,false,())
 |false=>match(ilt (IntKind.wrap .i64 ((AH a0)-2)) a1)with
 |true=>some (0,false,())
 |false=>match idx a0 a1 with|none=>none|some x0=>match shl? .i64 (IntKind.wrap .i64 x0) 8 with|none=>none|some x1=>match idx a0 (IntKind.wrap .i64 (a1+1))with|none=>none|some x2=>some ((IntKind.wrap .i64 ((BitVec.ofInt (IntKind.bits .i64) x1 ||| BitVec.ofInt (IntKind.bits .i64) (IntKind.wrap .i64 x2)).toNat)),true,())
def AUC[Lk]:=fun v=>Lk.f (ABQ v)
theorem AOp v:AUC v=ABQ v:=AB _
def AVy[Lk]:(U1×U1×Unit)→Option (U8):=fun(a0,a1,_)=>
 match Ay ((a0.1,(a0.2.1,())),(a1.1,(a1.2.1,())),())with|none=>none|some (y0,_)=>some (y0,())
def CK[Lk]:=fun v=>Lk.f (AVy v)
theorem AhC v:CK v=AVy v:=AB _
abbrev HB:AD:=[(.tmp 0,.own 152 U2),(.tmp 1,.di),(.tmp 2,.di),(.tmp 3,.clo 107 [])]
abbrev Dl:AD:=[(.obj 0,.own 152 U2)]
abbrev Ak3:AD:=[(.obj 0,.own 152 U2),(.tmp 0,.own' 0),(.tmp 1,.di),(.tmp 2,.di),(.tmp 3,.clo 107 []),(.tmp 8,.di),(.tmp 9,.di)]
abbrev Ak2:AW:=[(.exit 2,[(.obj 0,.own 152 U2),(.tmp 0,.own' 0),(.tmp 1,.di),(.tmp 2,.di),(.tmp 3,.clo 107 []),(.tmp 8,.di)])]
abbrev Ak4:AD:=[(.obj 0,.own 152 U2),(.tmp 0,.own' 0),(.tmp 1,.di),(.tmp 2,.di),(.tmp 3,.clo 107 []),(.tmp 8,.di)]
abbrev AFt:AW:=[(.exit 0,[(.obj 0,.own 152 U2)])]
def An9[Lk]:Ur→Option (V4):=SV ((0,(0,(0,(false,())))):U1) CK
def ApB[Lk](v:Ur):Option (V4):=Aad ((0,(0,(0,(false,())))):U1) CK v
theorem Ak5 v:ApB v=An9 v:=AB _
abbrev E2:AD:=[(.tmp 0,.own 152 U2),(.tmp 1,.di),(.tmp 2,.di),(.tmp 3,.di),(.tmp 4,.clo 107 [])]
abbrev Adt:AD:=[(.obj 0,.own 152 U2),(.tmp 0,.own' 0),(.tmp 2,.di),(.tmp 3,.di),(.tmp 4,.clo 107 []),(.tmp 10,.di)]
abbrev Ads:AW:=[(.exit 0,[(.obj 0,.own 152 U2)]),(.ret,[(.obj 0,.own 152 U2)])]
def Ajn[Lk]:Uw→Option (V4):=NI ((0,(0,(0,(false,())))):U1) CK
def AmV[Lk](v:Uw):Option (V4):=W7 ((0,(0,(0,(false,())))):U1) CK v
theorem Adu v:AmV v=Ajn v:=AB _
abbrev Agh:AD:=[(.obj 0,.own 152 U2),(.tmp 0,.own' 0),(.tmp 3,.clo 107 []),(.tmp 8,.di),(.tmp 9,.di),(.tmp 12,.di)]
abbrev Agf:AW:=[(.exit 2,[(.obj 0,.own 152 U2)])]
abbrev Agi:AD:=[(.obj 0,.own 152 U2),(.tmp 0,.own' 0),(.tmp 3,.clo 107 []),(.tmp 8,.di),(.tmp 9,.di),(.tmp 10,.di),(.tmp 11,.di)]
abbrev Agg:AW:=[(.exit 0,[(.obj 0,.own 152 U2),(.tmp 0,.own' 0),(.tmp 3,.clo 107 []),(.tmp 8,.di),(.tmp 9,.di),(.tmp 10,.di)])]
def AlP[Lk]:Ur→Option (V4):=Nc ((0,(0,(0,(false,())))):U1) CK
def Amk[Lk](v:Ur):Option (V4):=ACu ((0,(0,(0,(false,())))):U1) CK v
theorem Agj v:Amk v=AlP v:=AB _
abbrev Ab6:AD:=[(.obj 0,.own 152 U2),(.tmp 0,.own' 0),(.tmp 1,.di),(.tmp 8,.di),(.tmp 9,.box 1),(.cell 1 0,.dat (.int .u64)),(.tmp 10,.dat (.int .u64)),(.tmp 11,.di)]
def Ah8[Lk]:Ur→Option (V4):=KI ((0,(0,(0,(false,())))):U1) CK
def breakT[Lk](v:Ur):Option (V4):=Sv ((0,(0,(0,(false,())))):U1) CK v
theorem Ab7 v:breakT v=Ah8 v:=AB _
abbrev ACL:AD:=[(.tmp 0,.own 152 U2),(.tmp 1,.di),(.tmp 2,.di),(.tmp 3,.box 1),(.cell 1 0,.di),(.tmp 4,.clo 107 [])]
abbrev ACK:AD:=[(.obj 0,.own 152 U2),(.obj 1,.box 1),(.cell 1 0,.di),(.tmp 0,.di),(.tmp 1,.di)]
def AZk[Lk]:Uw→Option (Uw):=Hq ((0,(0,(0,(false,())))):U1) CK
def AVK[Lk](v:Uw):Option (Uw):=JA ((0,(0,(0,(false,())))):U1) CK v
theorem ARA v:AVK v=AZk v:=AB _
abbrev ACU:AD:=[(.tmp 0,.own 152 U2),(.tmp 1,.di),(.tmp 2,.di),(.tmp 3,.di),(.tmp 4,.box 1),(.cell 1 0,.di),(.tmp 5,.clo 107 [])]
abbrev NR:AD:=[(.obj 0,.own 152 U2),(.obj 1,.box 1),(.cell 1 0,.di),(.tmp 0,.di)]
def AZz[Lk]:(List U1×Int×Int×Int×Int×Unit)→Option (Ur):=Hr ((0,(0,(0,(false,())))):U1) CK
def AVW[Lk](v:(List U1×Int×Int×Int×Int×Unit)):Option (Ur):=JC ((0,(0,(0,(false,())))):U1) CK v
theorem ARO v:AVW v=AZz v:=AB _
abbrev ACZ:AD:=[(.tmp 0,.own 152 U2),(.tmp 1,.di),(.tmp 2,.box 1),(.cell 1 0,.di),(.tmp 3,.clo 107 [])]
def AZ6[Lk]:Ur→Option (Ur):=Hs ((0,(0,(0,(false,())))):U1) CK
def AVZ[Lk](v:Ur):Option (Ur):=JD ((0,(0,(0,(false,())))):U1) CK v
theorem ART v:AVZ v=AZ6 v:=AB _
abbrev AJq:AD:=[(.obj 0,.own 152 U2),(.tmp 0,.di),(.tmp 1,.di)]
def Aev[Lk]:Ur→Option (Ur):=Js ((0,(0,(0,(false,())))):U1) CK
def Aex[Lk](v:Ur):Option (Ur):=R8 ((0,(0,(0,(false,())))):U1) CK v
theorem AZK v:Aex v=Aev v:=AB _
abbrev Ajz:AD:=[(.obj 0,.own 152 U2),(.tmp 0,.own' 0),(.tmp 8,.di),(.tmp 9,.di)]
def AnD[Lk]:Ur→Option (V4):=R3 ((0,(0,(0,(false,())))):U1) CK
def Aoy[Lk](v:Ur):Option (V4):=AY2 ((0,(0,(0,(false,())))):U1) CK v
theorem Aj0 v:Aoy v=AnD v:=AB _
end
end Go.Pev
end
section
namespace Go.Pev
noncomputable section
abbrev Xe:AD:=[(.obj 0,.own 152 U2),(.tmp 0,.dat .bool)]
abbrev AJ7:AD:=[(.obj 0,.own 152 U2),(.tmp 0,.own' 0),(.tmp 1,.di),(.tmp 2,.di),(.tmp 3,.clo 107 []),(.tmp 9,.di),(.tmp 10,.di),(.tmp 12,.di)]
abbrev AJ3:AW:=[(.exit 6,[(.obj 0,.own 152 U2),(.tmp 0,.own' 0),(.tmp 1,.di),(.tmp 2,.di),(.tmp 3,.clo 107 []),(.tmp 9,.di),(.tmp 10,.di)])]
abbrev AJ8:AD:=[(.obj 0,.own 152 U2),(.tmp 0,.own' 0),(.tmp 1,.di),(.tmp 2,.di),(.tmp 3,.clo 107 []),(.tmp 9,.di),(.tmp 10,.di),(.tmp 11,.di)]
abbrev AJ4:AW:=[(.exit 4,[(.obj 0,.own 152 U2),(.tmp 0,.own' 0),(.tmp 1,.di),(.tmp 2,.di),(.tmp 3,.clo 107 []),(.tmp 9,.di),(.tmp 10,.di)])]
abbrev TR:AD:=[(.obj 0,.own 152 U2),(.tmp 0,.own' 0),(.tmp 1,.di),(.tmp 2,.di),(.tmp 3,.clo 107 []),(.tmp 9,.di),(.tmp 10,.di)]
abbrev AJ5:AW:=[(.exit 2,[(.obj 0,.own 152 U2),(.tmp 0,.own' 0),(.tmp 1,.di),(.tmp 2,.di),(.tmp 3,.clo 107 []),(.tmp 9,.di),(.tmp 10,.di)])]
abbrev AJ6:AW:=[(.ret,[(.obj 0,.own 152 U2),(.tmp 8,.dat .bool)]),(.exit 0,[(.obj 0,.own 152 U2)])]
def AQi[Lk]:Ur→Option ((List U1×Bool×Unit)):=Fx ((0,(0,(0,(false,())))):U1) CK
def AKA[Lk](v:Ur):Option ((List U1×Bool×Unit)):=Jt ((0,(0,(0,(false,())))):U1) CK v
theorem AJ9 v:AKA v=AQi v:=AB _
abbrev ACF:AD:=[(.obj 0,.own 152 U2),(.tmp 0,.di)]
abbrev OW:AD:=[(.obj 0,.own 152 U2),(.tmp 0,.own' 0),(.tmp 1,.di),(.tmp 4,.clo 107 []),(.tmp 11,.di),(.tmp 12,.di)]
abbrev AQq:AW:=[(.exit 4,[(.obj 0,.own 152 U2),(.tmp 0,.own' 0),(.tmp 1,.di),(.tmp 4,.clo 107 []),(.tmp 11,.di),(.tmp 12,.di)])]
abbrev AQr:AW:=[(.exit 2,[(.obj 0,.own 152 U2),(.tmp 0,.own' 0),(.tmp 1,.di),(.tmp 4,.clo 107 []),(.tmp 11,.di),(.tmp 12,.di)])]
abbrev AQs:AW:=[(.exit 0,[(.obj 0,.own 152 U2),(.tmp 11,.di)])]
def AZc[Lk]:Uw→Option ((List U1×Int×Unit)):=Hp ((0,(0,(0,(false,())))):U1) CK
def AVG[Lk](v:Uw):Option ((List U1×Int×Unit)):=NQ ((0,(0,(0,(false,())))):U1) CK v
theorem AQt v:AVG v=AZc v:=AB _
abbrev AVB:AD:=[(.obj 0,.own 152 U2),(.tmp 0,.di),(.tmp 1,.dat .bool)]
abbrev L4:AD:=[(.obj 0,.own 152 U2),(.tmp 0,.own' 0),(.tmp 1,.di),(.tmp 4,.clo 107 []),(.tmp 12,.di),(.tmp 13,.di)]
abbrev AfM:AW:=[(.exit 8,[(.obj 0,.own 152 U2),(.tmp 0,.own' 0),(.tmp 1,.di),(.tmp 4,.clo 107 []),(.tmp 12,.di),(.tmp 13,.di)])]
abbrev AfN:AW:=[(.exit 6,[(.obj 0,.own 152 U2),(.tmp 0,.own' 0),(.tmp 1,.di),(.tmp 4,.clo 107 []),(.tmp 12,.di),(.tmp 13,.di)])]
abbrev AfO:AW:=[(.exit 4,[(.obj 0,.own 152 U2),(.tmp 0,.own' 0),(.tmp 1,.di),(.tmp 13,.di)])]
abbrev AfP:AW:=[(.exit 2,[(.obj 0,.own 152 U2),(.tmp 0,.own' 0),(.tmp 1,.di),(.tmp 4,.clo 107 []),(.tmp 12,.di),(.tmp 13,.di)])]
abbrev AfQ:AW:=[(.exit 0,[(.obj 0,.own 152 U2),(.tmp 0,.own' 0),(.tmp 1,.di),(.tmp 4,.clo 107 []),(.tmp 12,.di),(.tmp 13,.di)])]
def AkZ[Lk]:Uw→Option ((List U1×Int×Bool×Unit)):=NP ((0,(0,(0,(false,())))):U1) CK
def Amf[Lk](v:Uw):Option ((List U1×Int×Bool×Unit)):=TY ((0,(0,(0,(false,())))):U1) CK v
theorem AfR v:Amf v=AkZ v:=AB _
abbrev AU2:AD:=[(.obj 0,.own 152 U2),(.tmp 0,.own' 0),(.tmp 1,.di),(.tmp 2,.di),(.tmp 3,.di),(.tmp 4,.clo 107 []),(.tmp 10,.dat .bool),(.tmp 11,.dat .bool)]
abbrev AU1:AW:=[(.ret,[(.obj 0,.own 152 U2)])]
def AU0[Lk](self:Uw→Option (V4)):(List U1×Int×Int×Int×Bool×Bool×Unit)→Option ((List U1×Int×Int×Int×Bool×Bool×Unit)⊕V4⊕Unit):=Kp ((0,(0,(0,(false,())))):U1) CK self
def Ang[Lk](self:Uw→Option (V4)):Uw→Option (V4):=SC ((0,(0,(0,(false,())))):U1) CK self
def Xb[Lk]:Nat→Uw→Option (V4):=Jb ((0,(0,(0,(false,())))):U1) CK
def AkM[Lk](v:Uw):Option (V4):=AZZ ((0,(0,(0,(false,())))):U1) CK v
theorem AkL v:AkM v=Xb 100 v:=AB _
abbrev AUZ:AD:=[(.tmp 0,.own 152 U2),(.tmp 1,.clo 107 [])]
def Ajf[Lk]:V4→Option (V4):=NH ((0,(0,(0,(false,())))):U1) CK
def Adh[Lk](v:V4):Option (V4):=AIv ((0,(0,(0,(false,())))):U1) CK v
theorem Adg v:Adh v=Ajf v:=AB _
def AVv[Lk]:(Uf×Int×Unit)→Option (Uc):=fun(a0,a1,_)=>
 some ((ile (IntKind.wrap .i64 ((AH a0.2.1)+a1)) 400),())
def Ag7[Lk]:=fun v=>Lk.f (AVv v)
theorem Ag6 v:Ag7 v=AVv v:=AB _
abbrev Q1:AD:=[(.obj 0,.own 88 U4),(.obj 1,.box 1),(.cell 1 0,.map U4 U0),(.obj 2,.map' 2),(.tmp 0,.win' 0)]
abbrev AAk:AD:=[(.obj 0,.own 88 U4),(.obj 1,.box 1),(.cell 1 0,.map U4 U0),(.obj 2,.map' 2),(.tmp 0,.own' 0),(.tmp 1,.clo 191 [(1,0)]),(.tmp 5,.di),(.tmp 6,.di)]
abbrev AAj:AW:=[(.exit 0,[(.obj 0,.own 88 U4),(.obj 1,.box 1),(.cell 1 0,.map U4 U0),(.obj 2,.map' 2),(.tmp 0,.own' 0),(.tmp 5,.di)])]
def AAi[Lk]:(List U3×List (U3×Int)×Int×Int×Unit)→Option ((List U3×List (U3×Int)×Int×Int×Unit)⊕(List U3×List (U3×Int)×Int×Unit)⊕Unit):=fun(a0,a1,a2,a3,_)=>
 match(ilt a3 (AH a0))with
 |true=>match idx a0 a3 with|none=>none|some x0=>match(!(ieq ((AR a1 ((AJ a0 (AF a3) (0,(0,()))).1,((AJ a0 (AF a3) (0,(0,()))).2.1,()))).getD 0) 0))with
  |true=>match idx a0 a2 with|none=>none|some x1=>some (.inl ((AX a0 (AF a2) ((AJ a0 (AF a3) (0,(0,()))).1,((AJ a0 (AF a3) (0,(0,()))).2.1,()))),a1,(IntKind.wrap .i64 (a2+1)),(IntKind.wrap .i64 (a3+1)),()))
  |false=>some (.inl (a0,a1,a2,(IntKind.wrap .i64 (a3+1)),()))
 |false=>some (.inr (.inl (a0,a1,a2,())))
def Q2[Lk]:(List U3×List (U3×Int)×Unit)→Option ((List U3×List (U3×Int)×Int×Unit)):=fun(a0,a1,_)=>
 match O4 (a0,a1,())with|none=>none|some (y0,y1,y2,_)=>match(ieq y2 (-1:Int))with
 |true=>some (y0,y1,(AH y0),())
 |false=>match AL AAi many (y0,y1,y2,(IntKind.wrap .i64 (y2+1)),())with|none=>none|some r=>match r with
 |.inl (o3,o4,o5,_)=>match CE o3 o5 (AH o3)with|none=>none|some x6=>match CE (C3 (AF o5) (AF (AH x6)) (0,(0,())) o3) 0 o5 with|none=>none|some x7=>some ((C3 (AF o5) (AF (AH x6)) (0,(0,())) o3),o4,(((AF (AH x7)):Nat):Int),())
 |.inr _=>none
def PC[Lk]:=fun v=>Lk.f (Q2 v)
theorem AAl v:PC v=Q2 v:=AB _
def O6[Lk]:U8→Option (Uc):=fun(a0,_)=>
 match(ile 0 a0)with
 |true=>some ((ile a0 1099511627776),())
 |false=>some (false,())
def MN[Lk]:=fun v=>Lk.f (O6 v)
theorem Tk v:MN v=O6 v:=AB _
def AmS[Lk]:U8→Option (Uc):=fun(a0,_)=>
 match(ile 1 a0)with
 |true=>some ((ile a0 3),())
 |false=>some (false,())
def wb1[Lk]:=fun v=>Lk.f (AmS v)
theorem Am3 v:wb1 v=AmS v:=AB _
end
end Go.Pev
end
section
namespace Go.Pev
open Go.RowKit
def ABp{R:Type}(slot:Nat)(H:List Ob)(fz:List Bool)(k:AV→Eff→Option R)(v:AV)(e:Eff):Option R:=
 match e.heap with
 |none=>match v with
  |.win id 0 n=>match(CH e H)[id]? with
   |some (.arr T t xs)=>match AZ (EY e fz) id&&Aq (CH e H) (EY e fz) (slot+3)&&(e.objs.any fun p=>Nat.beq p.1 id)with
    |true=>k (.own (slot+3)) { objs:=e.objs++[(id,.dead),(slot+3,.arr T t (CL n xs))],frz:=e.frz }
    |false=>none
   |_=>none
  |_=>none
 |some _=>none
def EO(s:Spec):Spec:=fun R args H fz slot k=>s R args H fz slot (ABp slot H fz k)
section
variable {P:Program} {g:FuncId}
theorem Aar{w:World}{F:Nat→Prop}{m:Mp}{H:List Ob}{fz:List Bool}(hi:HI w F m H fz){id n slot:Nat}{T:TypeId}{t:Ty}{xs:List t.den}(ho:H[id]? = some (.arr T t xs))(hf:AZ fz id=true)
  (hs:Aq H fz slot=true) {u:Value} (hr:Rep w F m H (.win id 0 n) u) :
  ∃ m',Af w F m H fz w F m' ((H.set id .dead).set slot (.arr T t (CL n xs))) fz∧Rep w F m' ((H.set id .dead).set slot (.arr T t (CL n xs))) (.own slot) u:=by
 have hob:=hi.obj id _ ho;obtain⟨h0,hob⟩:=hob;unfold Rep at hr;rw[ho]at hr;obtain⟨hle,hr⟩:=hr;rw[Aqg]at hle;have hsn:slot≠id:=AGD hs ho;have hkill:=Af.kill hi (CO ho hf);have zero:∀ a,n=0→u = .slice a 0 0→∃ m',Af w F m H fz w F m' ((H.set id .dead).set slot (.arr T t (CL n xs))) fz∧Rep w F m' ((H.set id .dead).set slot (.arr T t (CL n xs))) (.own slot) u:=by intro a hn hu;subst hn;subst hu;obtain⟨m',hg,hrep⟩:=Dr (w:=w) hkill.2 (K6 hs hsn) T h0 a;exact⟨m',hkill.trans hg,hrep⟩
 cases hm:m id with
  |none=>rw[hm]at hr hob;obtain⟨a,e1⟩:=hr;simp_all
  |some p=>
   obtain⟨b,cap⟩:=p;rw[hm]at hr hob;obtain⟨vs,row,e1,e2,e3,e4,e7,e8⟩:=hob;obtain⟨a,rfl,ha⟩:=hr;rcases ArR cap with hc|hc;simp_all;have:=ha hc;rw[Ar7]at this;subst this;have hk:=fun(x:t.den) cs (h:Dat w F t x cs)=>Dat.length t h;have hlen:(xs.take n).length=n:=by grind
   have hrw:=D5 hk n e7;have hrl:=A9 hk hrw;rw[hlen]at hrl;have hg:=Af.move (w':=w) hi (CO ho hf) hm hs (ob:=.arr T t (CL n xs)) trivial (b':=b) (c':=cap) (.inl rfl) rfl rfl rfl (Ap1 _) (fun _ _ _=>rfl) (fun _=>⟨h0,vs,row.take (n*t.size),e1,by
    show(xs.take n).length≤cap;omega,e3,e4,hrw,by
    grind⟩)
   refine⟨_,hg,?_⟩;have hlts:=Aj (BM hs).1;unfold Rep;rw[Ax (by grind),Am];show Value.slice _ n (cap-0)=Value.slice _ (xs.take n).length cap;grind
theorem AIt{s:Spec}(hs:Ak P g s):Ak P g (EO s):=by
 intro R args H fz slot k r hk;obtain⟨v,e,h1,h2,h3,h4⟩:=hs R args H fz slot _ r hk;unfold ABp at h1;split at h1;rename_i he;split at h1;rename_i id n;split at h1;rename_i T t xs ho;split at h1;rename_i hc;refine⟨_,_,h1,fun R' k' => ?_,h3,fun w F m vals hi hr => ?_⟩;unfold EO;rw[h2];simp only[ABp,he,ho,hc];refine(h4 w F m vals hi hr).mono ?_;rintro en w' ⟨u,rfl,F',m',hg,hrep⟩;simp only[Apt]at hc;obtain⟨m2,hg2,hr2⟩:=Aar hg.2 ho hc.1.1 hc.1.2 hrep;have eH:CH { objs:=e.objs++[(id,.dead),(slot+3,.arr T t (CL n xs))],frz:=e.frz } H=((CH e H).set id .dead).set (slot+3) (.arr T t (CL n xs)):=by rw[CP rfl,CP he,TL];rfl
 have eF:EY { objs:=e.objs++[(id,.dead),(slot+3,.arr T t (CL n xs))],frz:=e.frz } fz=EY e fz:=by rw[Cd rfl,Cd he]
 refine⟨u,rfl,F',m2,?_,?_⟩;rw[eH,eF];exact hg.trans hg2;grind;grind;grind;grind;grind
theorem JB{np na:Nat}{its outs:AD}{rs:List RS}{f:Au (leaves its)→Option (Au (leaves outs))}(hf:∀ x,f x=none):Ak P g (AG np na its outs rs f):=by intro R args H fz slot k r hk;unfold AG at hk;grind
end
section
variable {S:List Nat} {H H':List Ob}
theorem GN.AX9{s:Spec}(h:GN s):Hf s:=
 fun R args H H' fz fz' slot k S hS _ ha=>h R args H H' fz fz' slot k ⟨fun id hid=>ha.heap id (hS id hid),ha.slotH,ha.slotF,ha.len,fun id hid=>by cases hid⟩
def Tc:AD→Bool
 |[]=>true
 |(.obj _,_)::_=>false
 |_::r=>Tc r
def AnM(S:List Nat)(v:AV):Prop:=∀ id∈Ag v,id∈S
def Yz(S:List Nat)(bs:List Bnd):Prop:=∀ b∈bs,∀ id,b.id? = some id→id∈S
theorem Yz.get{bs:List Bnd}(h:Yz S bs){j:Nat}{b:Bnd}{id:Nat}(hj:bs[j]? = some b)(hi:b.id? = some id):id∈S:=h b (Ap0 hj) id hi
theorem Yz.snoc{bs:List Bnd}(h:Yz S bs){b:Bnd}(hb:∀ id,b.id? = some id→id∈S):Yz S (bs++[b]):=by intro x hx id hi;rcases Ap6.1 hx with hx|hx;exact h x hx id hi;grind
theorem AVe{tm:List AV}{bs:List Bnd}{l:Loc}(hS:∀ id∈BF tm,id∈S)(hc:WX S H)(hH:∀ id∈S,H[id]? = H'[id]?)(hb:Yz S bs)(hl:∀ j,l≠.obj j):
  look (lk tm) H bs l=look (lk tm) H' bs l∧∀ v,look (lk tm) H bs l=some v→AnM S v:=by
 cases l with
  |tmp t=>refine⟨rfl,fun v hv id hid=>hS id ?_⟩;exact Cf (Ap0 hv) hid
  |cell j c=>
   simp only[look];cases hj:bs[j]? with
    |none=>simp
    |some b=>
     cases b with
      |none=>simp
      |cut id=>simp
      |whole id=>
       have hid:=hb.get hj (id:=id) rfl;simp only;rw[hH id hid];refine⟨rfl,fun v hv => ?_⟩;cases ho:H'[id]? with
        |none=>grind
        |some o=>
         rw[ho]at hv;cases o<;>simp only at hv<;>first|grind|skip
         rename_i cs;intro i hi;exact hc id hid cs (by grind) i (Cf (Ap0 hv) hi)
  |cap t i=>
   refine⟨rfl,fun v hv => ?_⟩;simp only[look]at hv;cases ht:lk tm t with
    |none=>grind
    |some a=>
     rw[ht]at hv;cases a<;>simp only at hv<;>first|grind|skip
     rename_i f cs;intro id hid;refine hS id (Cf (Ap0 (show tm[t]? = _ from ht)) ?_);simp only[Ag];exact Cf (Ap0 hv) hid;rename_i f cs;intro id hid;refine hS id (Cf (Ap0 (show tm[t]? = _ from ht)) ?_);simp only[Ag];exact Cf (Ap0 hv) hid
  |obj j=>grind
theorem Kh{f:List Nat}{fz fz':List Bool}(hl:fz.length=fz'.length){id:Nat}(h:fz.getD id false=fz'.getD id false):(AY f fz).getD id false=(AY f fz').getD id false:=by rw[Av,Av,h,hl]
theorem Ahh{tm:List AV}(hS:∀ id∈BF tm,id∈S)(hc:WX S H)(hH:∀ id∈S,H[id]? = H'[id]?):∀ (its:AD) (fz fz':List Bool) (bs:List Bnd),Tc its=true→Yz S bs→fz.length=fz'.length→(∀ id∈S,fz.getD id false=fz'.getD id false) →
  dec (lk tm) H its fz bs=dec (lk tm) H' its fz' bs:=by
 intro its;induction its with
  |nil=>intro fz fz' bs _ _ _ _;rfl
  |cons p r ih=>
   intro fz fz' bs hn hb hlen hz;obtain⟨l,c⟩:=p;have hno:(∀ j,l≠.obj j)∧Tc r=true:=by
    cases l with
     |obj j=>cases hn
     |tmp t=>exact⟨fun j h=>(by cases h),hn⟩
     |cell a b=>exact⟨fun j h=>(by cases h),hn⟩
     |cap a b=>exact⟨fun j h=>(by cases h),hn⟩
   obtain⟨e1,e2⟩:=AVe hS hc hH hb hno.1;have ihr:=fun bs hb=>ih fz fz' bs hno.2 hb hlen hz;have unf:∀ id∈S,AZ fz id=AZ fz' id:=fun id hid=>by unfold AZ;grind
   cases c with
    |dat t=>
     simp only[dec,← e1];cases hv:look (lk tm) H bs l with
      |none=>rfl
      |some v=>
       simp only;rw[Tw t v fun id hid=>hH id (e2 v hv id hid)];cases Y3 H' t v with
        |none=>rfl
        |some q=>obtain⟨x,f⟩:=q;simp only;rw[ih (AY f fz) (AY f fz') bs hno.2 hb (by rw[DB,DB,hlen]) (fun id hid=>Kh hlen (hz id hid))]
    |own T e=>
     simp only[dec,← e1];cases hv:look (lk tm) H bs l with
      |none=>rfl
      |some v=>
       cases v with
        |nils e'=>simp only;rw[ihr _ (hb.snoc fun id h=>by cases h)]
        |own id=>have hid:id∈S:=e2 _ hv id (by simp[Ag]);simp only;rw[← hH id hid,unf id hid,ihr _ (hb.snoc fun id' h=>by simp only[Bnd.id?,Apq]at h;grind)]
        |win id off n=>
         have hid:id∈S:=e2 _ hv id (by simp[Ag]);cases off with
          |succ off=>rfl
          |zero=>simp only;rw[← hH id hid,unf id hid,ihr _ (hb.snoc fun id' h=>by simp only[Bnd.id?,Apq]at h;grind)]
        |_=>rfl
    |box n=>
     simp only[dec,← e1];cases hv:look (lk tm) H bs l with
      |none=>rfl
      |some v=>
       cases v with
        |ptr id off=>
         have hid:id∈S:=e2 _ hv id (by simp[Ag]);cases off with
          |succ off=>rfl
          |zero=>simp only;rw[← hH id hid,ihr _ (hb.snoc fun id' h=>by simp only[Bnd.id?,Apq]at h;grind)]
        |_=>rfl
    |map k v=>
     simp only[dec,← e1];cases hv:look (lk tm) H bs l with
      |none=>rfl
      |some u=>
       cases u with
        |mp id=>have hid:id∈S:=e2 _ hv id (by simp[Ag]);simp only;rw[← hH id hid,ihr _ (hb.snoc fun id' h=>by simp only[Bnd.id?,Apq]at h;grind)]
        |_=>rfl
    |rows T e t=>
     simp only[dec,← e1];cases hv:look (lk tm) H bs l with
      |none=>rfl
      |some u=>
       cases u with
        |own id=>have hid:id∈S:=e2 _ hv id (by simp[Ag]);simp only;rw[← hH id hid,unf id hid,ihr _ (hb.snoc fun id' h=>by simp only[Bnd.id?,Apq]at h;grind)]
        |_=>rfl
    |mrows j e t=>
     simp only[dec,← e1];cases hv:look (lk tm) H bs l with
      |none=>rfl
      |some u=>
       cases u with
        |mp id=>have hid:id∈S:=e2 _ hv id (by simp[Ag]);simp only;rw[← hH id hid,unf id hid,ihr _ (hb.snoc fun id' h=>by simp only[Bnd.id?,Apq]at h;grind)]
        |_=>rfl
    |aptr T e n=>
     simp only[dec,← e1];cases hv:look (lk tm) H bs l with
      |none=>rfl
      |some u=>
       cases u with
        |aptr id n'=>have hid:id∈S:=e2 _ hv id (by simp[Ag]);simp only;rw[← hH id hid,unf id hid,ihr _ (hb.snoc fun id' h=>by simp only[Bnd.id?,Apq]at h;grind)]
        |_=>rfl
    |aptr' j n=>simp only[dec,← e1,ihr bs hb]
    |bndp f j=>simp only[dec,← e1,ihr bs hb]
    |nilp=>simp only[dec,← e1,ihr bs hb]
    |own' j=>simp only[dec,← e1,ihr bs hb]
    |ptr' j off=>simp only[dec,← e1,ihr bs hb]
    |map' j=>simp only[dec,← e1,ihr bs hb]
    |sub' j=>simp only[dec,← e1,ihr bs hb]
    |win' j=>
     simp only[dec,← e1];rw[ihr bs hb];cases hv:look (lk tm) H bs l with
      |none=>rfl
      |some v=>
       cases v with
        |own id=>have hid:id∈S:=e2 _ hv id (by simp[Ag]);grind
        |win id off n=>grind
        |_=>simp
    |clo f ps=>simp only[dec,← e1,ihr bs hb]
    |bnd f j=>simp only[dec,← e1,ihr bs hb]
    |prs T j=>
     simp only[dec,← e1];cases hv:look (lk tm) H bs l with
      |none=>rfl
      |some v=>
       cases v with
        |nils e'=>simp only;rw[ihr _ (hb.snoc fun id h=>by cases h)]
        |own id=>have hid:id∈S:=e2 _ hv id (by simp[Ag]);simp only;rw[← hH id hid,ihr _ (hb.snoc fun id' h=>by simp only[Bnd.id?,Apq]at h;grind)]
        |_=>rfl
    |nil e=>simp only[dec,← e1,ihr bs hb]
theorem Qh{fz fz':List Bool}:∀ (n:Nat) (bs:List Bnd) (slot:Nat),(∀ s,slot≤s→s<slot+n→Aq H fz s=Aq H' fz' s)→FI H fz (CY n bs slot) bs=FI H' fz' (CY n bs slot) bs:=by
 intro n;induction n with
  |zero=>intro bs slot _;cases bs<;>rfl
  |succ n ih=>
   intro bs slot h;cases bs with
    |nil=>simp only[CY,FI,List.tail_nil];grind
    |cons b bs=>
     cases b with
      |whole id=>simp only[CY,FI,ArQ];grind
      |none=>simp only[CY,FI,ArQ];grind
      |cut id=>simp only[CY,FI,ArQ];grind
theorem Bw{np na:Nat}{its outs:AD}{rs:List RS}{f:Au (leaves its)→Option (Au (leaves outs))}(hno:Tc its=true)(hn:Nat.ble (Cq outs) 4=true):Hf (AG np na its outs rs f):=by intro R args H H' fz fz' slot k S hS hc ha;have hn4:=AqT hn;have hd:dec (lk args) H its fz []=dec (lk args) H' its fz' []:=Ahh hS hc ha.heap its fz fz' [] hno (fun b hb=>by cases hb) ha.len ha.wrF;unfold AG;rw[hd];split;rfl;rename_i x bs fr _;split;rfl;split;rfl;have hf:∀ (g:List Nat) s,slot≤s→s<slot+Cq outs→Aq H (AY g fz) s=Aq H' (AY g fz') s:=fun g s h1 h2=>EA ha h1 (by omega) g;unfold Ir;rw[Qh (fz:=fz) (fz':=fz') (Cq outs) (bs.take np) slot (hf []),Qh (fz:=AY fr fz) (fz':=AY fr fz') (Cq outs) (bs.take np) slot (hf fr)]
theorem Aai:∀ (n:Nat) (bs:List Bnd) (slot i:Nat),i∈CY n bs slot→(∃ b∈bs,b.id? = some i)∨(slot≤i∧i<slot+n):=by
 intro n;induction n with
  |zero=>intro bs slot i h;cases bs<;>cases h
  |succ n ih=>
   intro bs slot i h;have next:∀ bs',i∈slot::CY n bs' (slot+1)→(∃ b∈bs',b.id? = some i)∨(slot≤i∧i<slot+(n+1)):=by grind
   cases bs with
    |nil=>exact next [] h
    |cons b bs=>
     cases b with
      |whole id=>simp only[CY]at h;rcases Apv.1 h with rfl|h;exact .inl ⟨.whole i,by simp,rfl⟩;grind
      |none=>rcases next bs h with⟨b,hb,e⟩|h;all_goals grind
      |cut id=>rcases next bs h with⟨b,hb,e⟩|h;all_goals grind
theorem AbS{tm:List AV}(hS:∀ id∈BF tm,id∈S)(hc:WX S H):∀ (its:AD) (fz:List Bool) (bs:List Bnd) (x:Au (leaves its)) (bs':List Bnd) (fr:List Nat),Tc its=true→Yz S bs →
  dec (lk tm) H its fz bs=some (x,bs',fr)→Yz S bs':=by
 intro its;induction its with
  |nil=>intro fz bs x bs' fr _ hb h;simp only[dec,Apq]at h;grind
  |cons p r ih=>
   intro fz bs x bs' fr hn hb h;obtain⟨l,c⟩:=p;have hno:(∀ j,l≠.obj j)∧Tc r=true:=by
    cases l with
     |obj j=>cases hn
     |tmp t=>exact⟨fun j h=>(by cases h),hn⟩
     |cell a b=>exact⟨fun j h=>(by cases h),hn⟩
     |cap a b=>exact⟨fun j h=>(by cases h),hn⟩
   have e2:=(AVe (H':=H) hS hc (fun _ _=>rfl) hb hno.1 (l:=l)).2;have one:∀ {id:Nat} {b:Bnd},id∈S→b.id? = some id→Yz S (bs++[b]):=fun hid hbid=>hb.snoc fun id' h'=>by grind
   cases c<;>simp only[dec]at h
   case dat t=>
    grind
   case own T e=>
    split at h
    ·split at h
     ·split at h
      ·rename_i hd;cases h;exact ih _ _ _ _ _ hno.2 (hb.snoc fun id h=>by cases h) hd
      grind
     grind
    ·rename_i id hl
     split at h
     ·split at h
      ·split at h
       ·rename_i hd;cases h;exact ih _ _ _ _ _ hno.2 (one (e2 _ hl id (by simp[Ag])) rfl) hd
       grind
      grind
     grind
    ·rename_i id n hl
     split at h
     ·split at h
      ·split at h
       ·rename_i hd;cases h;exact ih _ _ _ _ _ hno.2 (one (e2 _ hl id (by simp[Ag])) rfl) hd
       grind
      grind
     grind
    grind
   case prs T j=>
    split at h
    ·split at h
     ·rename_i hd;cases h;exact ih _ _ _ _ _ hno.2 (hb.snoc fun id h=>by cases h) hd
     grind
    ·rename_i id hl
     split at h
     ·split at h
      ·split at h
       ·rename_i hd;cases h;exact ih _ _ _ _ _ hno.2 (one (e2 _ hl id (by simp[Ag])) rfl) hd
       grind
      grind
     grind
    grind
   case box n=>
    split at h
    ·rename_i id hl
     split at h
     ·split at h
      ·exact ih _ _ _ _ _ hno.2 (one (e2 _ hl id (by simp[Ag])) rfl) h
      grind
     grind
    grind
   case map k v=>
    split at h
    ·rename_i id hl
     split at h
     ·split at h
      ·split at h
       ·rename_i hd;cases h;exact ih _ _ _ _ _ hno.2 (one (e2 _ hl id (by simp[Ag])) rfl) hd
       grind
      grind
     grind
    grind
   case rows T e t=>
    split at h
    ·rename_i id hl
     split at h
     ·split at h
      ·split at h
       ·rename_i hd;cases h;exact ih _ _ _ _ _ hno.2 (one (e2 _ hl id (by simp[Ag])) rfl) hd
       grind
      grind
     grind
    grind
   case mrows j e t=>
    split at h
    ·rename_i id hl
     split at h
     ·split at h
      ·split at h
       ·rename_i hd;cases h;exact ih _ _ _ _ _ hno.2 (one (e2 _ hl id (by simp[Ag])) rfl) hd
       grind
      grind
     grind
    grind
   case aptr T e n=>
    split at h
    ·rename_i id n' hl
     split at h
     ·split at h
      ·split at h
       ·rename_i hd;cases h;exact ih _ _ _ _ _ hno.2 (one (e2 _ hl id (by simp[Ag])) rfl) hd
       grind
      grind
     grind
    grind
   case bndp f j=>
    split at h
    ·split at h
     ·exact ih _ _ _ _ _ hno.2 hb h
     grind
    grind
   case nilp=>
    cases hv:look (lk tm) H bs l with
    |none=>grind
    |some v=>
     rw[hv]at h
     cases v<;>simp only at h<;>first|exact ih _ _ _ _ _ hno.2 hb h|cases h
   case aptr' j n=>
    split at h
    ·split at h
     ·exact ih _ _ _ _ _ hno.2 hb h
     grind
    grind
   case own' j=>
    split at h
    ·split at h
     ·exact ih _ _ _ _ _ hno.2 hb h
     grind
    grind
   case ptr' j off=>
    split at h
    ·split at h
     ·exact ih _ _ _ _ _ hno.2 hb h
     grind
    grind
   case map' j=>
    split at h
    ·split at h
     ·exact ih _ _ _ _ _ hno.2 hb h
     grind
    grind
   case win' j=>
    grind
   case sub' j=>
    grind
   case clo f ps=>
    split at h
    ·split at h
     ·exact ih _ _ _ _ _ hno.2 hb h
     grind
    grind
   case bnd f j=>
    split at h
    ·split at h
     ·exact ih _ _ _ _ _ hno.2 hb h
     grind
    grind
   case nil e=>
    cases hv:look (lk tm) H bs l with
    |none=>grind
    |some v=>
     rw[hv]at h
     cases v<;>simp only at h<;>first|exact ih _ _ _ _ _ hno.2 hb h|cases h
theorem Ajc{np na:Nat}{its outs:AD}{rs:List RS}{f:Au (leaves its)→Option (Au (leaves outs))}(hno:Tc its=true)(hn:Nat.ble (Cq outs) 4=true):Hf (EO (AG np na its outs rs f)):=by
 intro R args H H' fz fz' slot k hS0 hS hc ha;have hn4:=AqT hn;have hd:dec (lk args) H its fz []=dec (lk args) H' its fz' []:=Ahh hS hc ha.heap its fz fz' [] hno (fun b hb=>by cases hb) ha.len ha.wrF;have hbs:∀ x bs fr,dec (lk args) H its fz []=some (x,bs,fr)→Yz hS0 bs:=fun x bs fr h=>AbS hS hc its fz [] x bs fr hno (fun b hb=>by cases hb) h;unfold EO AG;rw[hd]at hbs ⊢;split;rfl
 ·rename_i x bs fr hdec;have hb:=hbs x bs fr hdec;split;rfl
  ·split;rfl
   ·rename_i y _;have hf:∀ (g:List Nat) s,slot≤s→s<slot+Cq outs→Aq H (AY g fz) s=Aq H' (AY g fz') s:=fun g s h1 h2=>EA ha h1 (by omega) g;have key:∀ (e:Eff) (v:AV),e.heap=none→(∀ p∈e.objs,p.1∈given (bs.drop np)∨p.1∈CY (Cq outs) (bs.take np) slot)→ABp slot H fz k v e=ABp slot H' fz' k v e:=by
     intro e v he ho;unfold ABp;rw[he];simp only;have hfree:Aq (CH e H) (EY e fz) (slot+3)=Aq (CH e H') (EY e fz') (slot+3):=by rw[CP he,CP he,Cd he,Cd he];unfold Aq;rw[GQ e.objs H H' (ha.slotH (slot+3) (by omega) (by omega)),Kh ha.len (ha.slotF (slot+3) (by omega) (by omega))]
     cases v with
      |win id off n=>
       cases off with
        |succ off=>rfl
        |zero=>
         simp only;cases hany:(e.objs.any fun p=>Nat.beq p.1 id)with
          |false=>grind
          |true=>
           rw[Arw]at hany;obtain⟨p,hp,hpi⟩:=hany;have hpi:=AqS hpi;subst hpi;have hin:(∃ b∈bs,b.id? = some p.1)∨(slot≤p.1∧p.1<slot+Cq outs):=by rcases ho p hp with h|h;obtain⟨j,hj⟩:=Sd.1 h;exact .inl ⟨_,ArT (Ap0 hj),rfl⟩;·rcases Aai _ _ _ _ h with⟨b,h1,h2⟩|h;all_goals grind
           have h1:H[p.1]? = H'[p.1]? := by
            rcases hin with⟨b,hbm,hbi⟩|⟨h1,h2⟩
            exact ha.heap _ (hb b hbm _ hbi);exact ha.slotH _ h1 (by omega)
           have h2:fz.getD p.1 false=fz'.getD p.1 false:=by
            rcases hin with⟨b,hbm,hbi⟩|⟨h1,h2⟩
            exact ha.wrF _ (hb b hbm _ hbi);exact ha.slotF _ h1 (by omega)
           have h3:(CH e H)[p.1]? = (CH e H')[p.1]? := by rw[CP he,CP he];exact GQ e.objs H H' h1
           have h4:AZ (EY e fz) p.1=AZ (EY e fz') p.1:=by rw[Cd he,Cd he];unfold AZ;rw[Kh ha.len h2]
           grind
      |_=>rfl
    have mem:∀ p∈(given (bs.drop np)).map (fun i=>(i,Ob.dead))++(CY (Cq outs) (bs.take np) slot).zip ((encode (cellsOf rs) outs y).heap.map (Dc (CY (Cq outs) (bs.take np) slot))),p.1∈given (bs.drop np)∨p.1∈CY (Cq outs) (bs.take np) slot:=by intro p hp;rcases Ap6.1 hp with h|h;grind;exact .inr (List.of_mem_zip h).1
    unfold Ir;rw[Qh (fz:=fz) (fz':=fz') (Cq outs) (bs.take np) slot (hf []),Qh (fz:=AY fr fz) (fz':=AY fr fz') (Cq outs) (bs.take np) slot (hf fr)];split;·split;all_goals grind
    ·split;all_goals grind
end
def Amn(i:Nat)(args:List AV):Option FuncId:=
 match args[i]? with
 |some (.clo f _)=>some f
 |some (.bnd f _)=>some f
 |_=>none
def Env.BR(E:Env)(g:FuncId)(i:Nat)(c:FuncId)(s:Spec):Env where
 spec x:=match Nat.beq x g with
  |true=>fun R args H fz slot k=>match Amn i args with
   |some c'=>match Nat.beq c' c with
    |true=>s R args H fz slot k
    |false=>E.spec x R args H fz slot k
   |.none=>Option.none
  |false=>E.spec x
 loc x:=match Nat.beq x g with
  |true=>false
  |false=>E.loc x
 F7 x:=match Nat.beq x g with
  |true=>E.F7 g
  |false=>E.F7 x
 pan x:=match Nat.beq x g with
  |true=>.none
  |false=>E.pan x
theorem Env.Qt{P:Program}{E:Env}{g:FuncId}{i:Nat}{c:FuncId}{s:Spec}(h:AI P E)(hs:Ak P g s)(hl2:Hf s):AI P (E.BR g i c s):=by
 refine⟨?_,⟨?_,?_⟩,fun x s' hx => ?_⟩;intro x;simp only[Env.BR];cases hx:Nat.beq x g with
  |false=>exact h.1 x
  |true=>have:=AqS hx;subst this;intro R args H fz slot k r hk;simp only at hk;split at hk;rename_i c' hc';split at hk;rename_i hb;obtain⟨v,e,h1,h2,h3,h4⟩:=hs R args H fz slot k r hk;grind;rename_i hb;obtain⟨v,e,h1,h2,h3,h4⟩:=h.1 x R args H fz slot k r hk;grind;grind
 intro x hx;simp only[Env.BR]at hx ⊢;cases hb:Nat.beq x g with
  |true=>grind
  |false=>rw[hb]at hx;exact h.2.1.1 x hx
 intro x hx;simp only[Env.BR]at hx ⊢;cases hb:Nat.beq x g with
  |true=>rw[hb]at hx;have:=AqS hb;subst this;have h2:=h.2.1.2 x hx;intro R args H H' fz fz' slot k S a1 a2 a3;simp only;split;split;exact hl2 R args H H' fz fz' slot k S a1 a2 a3;exact h2 R args H H' fz fz' slot k S a1 a2 a3;rfl
  |false=>rw[hb]at hx;exact h.2.1.2 x hx
 simp only[Env.BR]at hx ⊢;cases hb:Nat.beq x g with
  |true=>grind
  |false=>rw[hb]at hx;exact h.2.2 x s' hx
end Go.Pev
end
section
namespace Go.Pev
open Go.RowKit
def AK4:List Value→Option (List (IntKind×Int))
 |[]=>some []
 |.int k n::r=>(AK4 r).map ((k,n) :: ·)
 |_::_=>none
def AjL:Exit→Option PV
 |.panic [⟨.iface T (.agg a),false,false⟩]=>(AK4 a.toList).map fun l=>(T,l)
 |_=>none
def AUo(T:TypeId)(ks:List IntKind)(e:Exit):Option (List Int):=
 match AjL e with
 |some (T',l)=>match decide (T'=T)&&decide (l.map (·.1)=ks)with
  |true=>some (l.map (·.2))
  |false=>none
 |none=>none
def Aef(T:TypeId)(ks:List IntKind)(ns:List Int):PV:=(T,ks.zip ns)
theorem AgR:∀ {vs:List Value} {l:List (IntKind×Int)},AK4 vs=some l→vs=l.map fun p=>Value.int p.1 p.2:=by
 intro vs;induction vs with
  |nil=>intro l h;simp only[AK4,Apq]at h;grind
  |cons v vs ih=>intro l h;unfold AK4 at h;split at h;grind;rename_i k n r h1;cases h1;simp only[Ap2]at h;grind;grind
theorem AUI{e:Exit}{p:PV}(h:AjL e=some p):e = .panic [CJ p]:=by unfold AjL at h;split at h;rename_i T a;simp only[Ap2]at h;obtain⟨l,h1,rfl⟩:=h;have:=AgR h1;simp only[CJ,Jd];rw[← this];grind
theorem AJg{T:TypeId}{ks:List IntKind}{e:Exit}{ns:List Int}(h:AUo T ks e=some ns):e = .panic [CJ (Aef T ks ns)]:=by
 unfold AUo at h;split at h;rename_i T' l hu;split at h;rename_i hc;simp only[Apt,Aps]at hc;obtain⟨rfl,rfl⟩:=hc;simp only[Apq]at h;subst h;rw[AUI hu];unfold Aef;have:∀ l:List (IntKind×Int),(l.map (·.1)).zip (l.map (·.2))=l:=by
  intro l;induction l with
   |nil=>rfl
   |cons p l ih=>grind
 rw[this];grind;grind
noncomputable section
abbrev Aig(os:AW)(pits:AD):Type:=ZB os⊕(List Int×Au (leaves pits))
def Rz(np nt:Nat)(its:AD)(os:AW)(T:TypeId)(ks:List IntKind)(pits:AD)(e:Exit)(st:St):Option (Au (leaves its)⊕Aig os pits):=
 match e with
 |.normal=>match decode np nt st its with
  |some d=>some (.inl d)
  |none=>none
 |.panic c=>match AUo T ks (.panic c)with
  |some ns=>match decode np nt st pits with
   |some d=>some (.inr (.inr (ns,d)))
   |none=>none
  |none=>none
 |e=>match Tb np nt e st os with
  |some x=>some (.inr (.inl x))
  |none=>none
def ARv(nt:Nat){R:Type}(T:TypeId)(ks:List IntKind)(pits:AD)(k:Exit→St→Option R)(os:AW):Aig os pits→Option R
 |.inl r=>YS nt k os r
 |.inr q=>k (.panic [CJ (Aef T ks q.1)]) (encode nt pits q.2)
def Kv[Lk](np nt:Nat)(its:AD)(os:AW)(T:TypeId)(ks:List IntKind)(pits:AD)(step:Au (leaves its)→Option (Au (leaves its)⊕Aig os pits)):ZC:=fun R st k=>
 match decode np nt st its with
 |none=>none
 |some v=>match AL step many v with
  |none=>none
  |some r=>ARv nt T ks pits k os r
def IK[Lk](P:Program)(E:Env)(h:Hints)(n np nt:Nat)(body:Code)(its:AD)(os:AW)(T:TypeId)(ks:List IntKind)(pits:AD)(v:Au (leaves its)):Option (Au (leaves its)⊕Aig os pits):=
 Az P E h _ body n (encode nt its v) (Rz np nt its os T ks pits)
def Cp[Lk](np:Nat)(P:Program)(E:Env)(h:Hints)(fn:Func)(its outs:AD)(rs:List RS)(T:TypeId)(ks:List IntKind)(pits:AD)(x:Au (leaves its)):Option (Au (leaves outs)⊕(List Int×Au (leaves pits))):=
 match fn.body with
 |none=>none
 |some c=>Az P E h _ c 0 (encode fn.ntmps its x) fun e st=>
  match e with
  |.normal=>match finish np P fn outs rs st with
   |some y=>some (.inl y)
   |none=>none
  |.ret=>match finish np P fn outs rs st with
   |some y=>some (.inl y)
   |none=>none
  |.panic c=>match AUo T ks (.panic c)with
   |some ns=>match dec (lk []) st.heap pits st.frz []with
    |some (z,bs,_)=>match pins np 0 bs&&(st.heap.take np).all BP with
     |true=>some (.inr (ns,z))
     |false=>none
    |none=>none
   |none=>none
  |_=>none
def HK(np na:Nat)(its outs:AD)(rs:List RS)(T:TypeId)(ks:List IntKind)(pits:AD)(f:Au (leaves its)→Option (Au (leaves outs)⊕(List Int×Au (leaves pits)))):KM:=fun R args H fz slot k kp=>
 match dec (lk args) H its fz []with
 |none=>none
 |some (x,bs,fr)=>match bs.all Bnd.AUH&&decide (bs.length=Cq its)&&decide (args.length=na)&&(Fy its&&Fy outs&&Fy pits)with
  |false=>none
  |true=>match f x with
   |none=>none
   |some (.inl y)=>Ir R (given (bs.drop np)) (bs.take np) fr rs (encode (cellsOf rs) outs y) (CY (Cq outs) (bs.take np) slot) H fz k
   |some (.inr q)=>Ir R (given (bs.drop np)) (bs.take np) fr [] (encode 0 pits q.2) (CY (Cq pits) (bs.take np) slot) H fz fun _ e=>kp (Aef T ks q.1) e
def Ca{α β:Type}:Option (α⊕β)→Option α
 |some (.inl y)=>some y
 |_=>none
end
section
variable {P:Program} {E:Env}
theorem Xz[DfI]{h':Hints}(hE:∀ g,Ak P g (E.spec g))(hL:D1 E)(hP:Fb P E){np nt n:Nat}{body:Code}{its:AD}{os:AW}{T:TypeId}{ks:List IntKind}{pits:AD}{stp:Au (leaves its)→Option (Au (leaves its)⊕Aig os pits)}
  (hstep:∀ v,stp v=IK P E h' n np nt body its os T ks pits v) (hl:BB P np h' body n):Iv P np (.loop body) (Kv np nt its os T ks pits stp):=by
 intro R st k r hk;unfold Kv at hk;split at hk;cases hk;rename_i v hv;split at hk;cases hk;rename_i x hx;have hout:∃ e st',k e st'=some r∧∀ (R':Type) (k':Exit→St→Option R'),ARv nt T ks pits k' os x=k' e st':=by
  cases x with
   |inl x=>exact ACw os x hk
   |inr q=>exact⟨_,_,hk,fun _ _=>rfl⟩
 obtain⟨e,st',h1,h2⟩:=hout;refine⟨e,st',h1,fun R' k'=>by simp only[Kv,hv,hx];grind,?_⟩
 have key:∀ (fuel:Nat) (v:Au (leaves its)),AU stp fuel v=some x→∀ (w:World) (F:Nat→Prop) (m:Mp) (a:Act) (Q:Exit→Act→World→Prop),SI w F m (encode nt its v) a →
   (∀ a' w' F' m',SI w' F' m' st' a'→Hg np w F m (encode nt its v).heap (encode nt its v).frz w' F' m' st'.heap st'.frz→Q e a' w')→Code.rounds P body Q fuel a w:=by
  intro fuel
  induction fuel with
  |zero=>intro v h;simp[AU]at h
  |succ fuel ih=>
   intro v h w F m a Q hs hq
   simp only[AU]at h
   rw[hstep v]at h
   cases hr:IK P E h' n np nt body its os T ks pits v with
   |none=>grind
   |some y=>
    rw[hr]at h
    unfold IK at hr
    obtain⟨e1,st1,g1,_,g3⟩:=CT hE hL hP body n hl _ _ _ _ hr
    show body.wp P (Exit.then (Code.rounds P body Q fuel) Q) a w
    refine g3 w F m a _ hs fun a' w' F' m' s1 x1 => ?_
    have fin:∀ (its':AD) (d:Au (leaves its')),decode np nt st1 its'=some d→(∀ (R':Type) (k':Exit→St→Option R'),ARv nt T ks pits k' os x=k' e1 (encode nt its' d))→Q e1 a' w':=by
     intro its' d o1 o2
     obtain⟨F2,m2,s2,x2⟩:=GF s1 o1
     have e3:=(h2 (Exit×St) fun e st=>some (e,st)).symm.trans (o2 (Exit×St) fun e st=>some (e,st))
     simp only[Apq,Ap9]at e3
     obtain⟨rfl,rfl⟩:=e3
     exact hq a' w' F2 m2 s2 (x1.trans x2)
    have other:e1≠.normal→(∀ c,e1≠.panic c)→Q e1 a' w':=by
     intro hn hp
     have g1':(match Tb np nt e1 st1 os with
      |some x=>some (Sum.inr (Sum.inl x))
      |none=>none)=some y:=by
      cases e1<;>first|grind|exact absurd rfl (hp _)|exact g1
     split at g1'
     ·rename_i z hz
      simp only[Apq]at g1';subst g1'
      simp only[Apq]at h;subst h
      obtain⟨its',d,o1,o2⟩:=AKh os _ hz
      exact fin its' d o1 o2
     grind
    cases e1 with
    |normal=>
     simp only[Rz]at g1
     split at g1
     ·rename_i d hd
      simp only[Apq]at g1;subst g1
      obtain⟨F2,m2,s2,x2⟩:=GF s1 hd
      show Code.rounds P body Q fuel a' w'
      exact ih d h w' F2 m2 a' Q s2 fun a3 w3 F3 m3 s3 x3=>hq a3 w3 F3 m3 s3 (x1.trans (x2.trans x3))
     grind
    |panic c=>
     simp only[Rz]at g1
     split at g1
     ·rename_i ns hns
      split at g1
      ·rename_i d hd
       simp only[Apq]at g1;subst g1
       simp only[Apq]at h;subst h
       exact fin pits d hd fun R' k'=>by rw[AJg hns];rfl
      grind
     grind
    |exit id=>exact other (by simp) (by simp)
    |goto l=>exact other (by simp) (by simp)
    |ret=>exact other (by simp) (by simp)
    |outgrown=>exact other (by simp) (by simp)
 intro w F m a Q hs hq;obtain⟨F2,m2,s2,x2⟩:=GF hs hv;exact wp_loop_rounds many (key many v (by rw[← At];exact hx) w F2 m2 a Q s2 fun a3 w3 F3 m3 s3 x3=>hq a3 w3 F3 m3 s3 (x2.trans x3))
variable {h:Hints} {g:FuncId} {fn:Func} {c:Code}
theorem AJx(hE:∀ g,Ak P g (E.spec g))(hL:D1 E)(hP:Fb P E)(hb:fn.body=some c){np:Nat}{its outs:AD}{rs:List RS}{T:TypeId}{ks:List IntKind}{pits:AD}(hl:BB P np h c 0)(x:Au (leaves its)){y:Au (leaves outs)}
  (hy:Cp np P E h fn its outs rs T ks pits x=some (.inl y)):DC np P E h fn its outs rs x=some y:=by unfold Cp at hy;unfold DC;rw[hb]at hy ⊢;simp only at hy ⊢;obtain⟨ex,st',g1,g2,_⟩:=CT hE hL hP c 0 hl _ _ _ _ hy;grind
theorem Aky(hE:∀ g,Ak P g (E.spec g))(hL:D1 E)(hP:Fb P E)(hb:fn.body=some c){np:Nat}{its outs:AD}{rs:List RS}{T:TypeId}{ks:List IntKind}{pits:AD}(hl:BB P np h c 0)(x:Au (leaves its)):
  Ca (Cp np P E h fn its outs rs T ks pits x)=DC np P E h fn its outs rs x:=by
 cases hy:Cp np P E h fn its outs rs T ks pits x with
  |some y=>
   cases y with
    |inl y=>exact(AJx hE hL hP hb hl x hy).symm
    |inr q=>
     cases hc:DC np P E h fn its outs rs x with
      |none=>rfl
      |some y=>exfalso;unfold DC at hc;unfold Cp at hy;rw[hb]at hy hc;simp only at hy hc;obtain⟨ex,st',g1,g2,_⟩:=CT hE hL hP c 0 hl _ _ _ _ hc;grind
  |none=>
   cases hc:DC np P E h fn its outs rs x with
    |none=>rfl
    |some y=>exfalso;unfold DC at hc;unfold Cp at hy;rw[hb]at hy hc;simp only at hy hc;obtain⟨ex,st',g1,g2,_⟩:=CT hE hL hP c 0 hl _ _ _ _ hc;grind
theorem Jw(hE:∀ g,Ak P g (E.spec g))(hL:D1 E)(hP:Fb P E)(hf:P.funcs[g]? = some fn)(hb:fn.body=some c)(hc:G4 P g)
  {np na:Nat} (hna:na≤fn.ntmps) {its outs:AD} {rs:List RS} {T:TypeId} {ks:List IntKind} {pits:AD} {f:Au (leaves its)→Option (Au (leaves outs)⊕(List Int×Au (leaves pits)))} (hfun:∀ x,f x=Cp np P E h fn its outs rs T ks pits x) (hl:BB P np h c 0) :
  Gb P g (AG np na its outs rs fun x=>Ca (f x)) (HK np na its outs rs T ks pits f):=by
 intro R args H fz slot k kp r hk;simp only[HK]at hk;split at hk;cases hk;rename_i x bs fr hdec;split at hk;cases hk;rename_i hchk;simp only[Apt,Aps]at hchk;obtain⟨⟨⟨huncut,hbl⟩,hal⟩,⟨hri,hro⟩,hrp⟩:=hchk;split at hk;cases hk;rename_i y hy;left;obtain⟨e,h4,_,_,h5,_⟩:=RD hk;refine⟨_,e,h4,fun R' k' kp' => ?_,fun R' k' => ?_⟩;simp only[HK,hdec,huncut,hbl,hal,hri,hro,hrp,hy,Apy,Aqr];grind;simp only[AG,hdec,huncut,hbl,hal,hri,hro,hy,Ca,Apy,Aqr];grind;rename_i q hy;right;obtain⟨ns,z⟩:=q;simp only at hk;obtain⟨e,h4,he1,he2,h5,hok,hnd,hfl⟩:=RD hk;refine⟨_,e,h4,fun R' k' kp' => ?_,hc,fun w F m vals hi hr => ?_⟩;simp only[HK,hdec,huncut,hbl,hal,hri,hro,hrp,hy,Apy,Aqr];grind;rw[hfun x]at hy;unfold Cp at hy;rw[hb]at hy;simp only at hy;obtain⟨ex,st',g1,_,g3⟩:=CT hE hL hP c 0 hl _ _ _ _ hy;have hfin:∃ bs' fr',ex = .panic [CJ (Aef T ks ns)]∧dec (lk []) st'.heap pits st'.frz []=some (z,bs',fr')∧pins np 0 bs'=true:=by
  cases ex with
   |normal=>grind
   |ret=>grind
   |panic ch=>simp only at g1;split at g1;rename_i ns' hns;split at g1;rename_i z' bs' fr' hd;split at g1;rename_i hp;simp only[Apq,Sum.inr.injEq,Ap9]at g1;obtain⟨rfl,rfl⟩:=g1;rw[Apt]at hp;exact⟨bs',fr',AJg hns,hd,hp.1⟩;grind;grind;grind
   |_=>grind
 obtain⟨bs',fr',rfl,hd',hp⟩:=hfin;refine calls_of_wp hf hb ?_;obtain⟨F2,m2,gA,invA,hsi⟩:=PH hi hr hal hna hdec;refine g3 w F2 m2 _ _ hsi fun a' w' F' m' s1 x1 => ?_;obtain⟨F3,m3,hg,_⟩:=Yx (rs:=[]) hi gA invA huncut hri hrp rfl rfl he1 he2 hok hnd hfl s1.heap x1 (vs:=[]) (us:=[]) KL rfl hd' hp;exact⟨s1.defers,rfl,F3,m3,hg⟩
theorem Ju (hE : AI P E) (hf : P.funcs[g]? = some fn) (hb : fn.body.isSome = true) (hn : (fn.name == "runtime.NumGoroutine") = false) {np na : Nat} (hna : Nat.ble na fn.ntmps = true) {its outs : AD} {rs : List RS} {T : TypeId} {ks : List IntKind} {pits : AD}
  {f:Au (leaves its)→Option (Au (leaves outs)⊕(List Int×Au (leaves pits)))} (hfun:∀ x,f x=Cp np P E h fn its outs rs T ks pits x) (hl:BB P np h (BU fn) 0):Ak P g (AG np na its outs rs fun x=>Ca (f x)):=
 H0 hE hf hb hn hna (fun x=>by rw[hfun];exact Aky hE.1 hE.2.1 hE.2.2 (FW hb) hl x) hl
def Env.AGJ(E:Env)(g:FuncId)(F7:Bool)(sn:Spec)(s:KM):Env where
 spec x:=match Nat.beq x g with
  |true=>sn
  |false=>E.spec x
 loc x:=match Nat.beq x g with
  |true=>false
  |false=>E.loc x
 F7 x:=match Nat.beq x g with
  |true=>F7
  |false=>E.F7 x
 pan x:=match Nat.beq x g with
  |true=>some s
  |false=>E.pan x
theorem Env.WM{F7:Bool}{sn:Spec}{s:KM}(h:AI P E)(hs:Ak P g sn)(hp:Gb P g sn s)(hl2:F7=true→Hf sn):AI P (E.AGJ g F7 sn s):=by
 refine⟨?_,⟨?_,?_⟩,fun x s' hx => ?_⟩;intro x;simp only[Env.AGJ];cases hx:Nat.beq x g with
  |true=>simp_all
  |false=>exact h.1 x
 intro x hx;simp only[Env.AGJ]at hx ⊢;cases hb:Nat.beq x g with
  |true=>grind
  |false=>rw[hb]at hx;exact h.2.1.1 x hx
 intro x hx;simp only[Env.AGJ]at hx ⊢;cases hb:Nat.beq x g with
  |true=>grind
  |false=>rw[hb]at hx;exact h.2.1.2 x hx
 simp only[Env.AGJ]at hx ⊢;cases hb:Nat.beq x g with
  |true=>simp_all
  |false=>rw[hb]at hx;exact h.2.2 x s' hx
def Abr(i:Nat)(c:FuncId)(s:KM)(s':Option KM):KM:=fun R args H fz slot k kp=>
 match Amn i args with
 |some c'=>match Nat.beq c' c with
  |true=>s R args H fz slot k kp
  |false=>match s' with
   |some s'=>s' R args H fz slot k kp
   |none=>none
 |none=>none
def Env.Tr(E:Env)(g:FuncId)(i:Nat)(c:FuncId)(sn:Spec)(s:KM):Env:=
 { E.BR g i c sn with pan:=fun x=>match Nat.beq x g with
  |true=>some (Abr i c s (E.pan g))
  |false=>E.pan x }
theorem Env.ALV{i:Nat}{c:FuncId}{sn:Spec}{s:KM}(h:AI P E)(hs:Ak P g sn)(hp:Gb P g sn s)(hl2:Hf sn):AI P (E.Tr g i c sn s):=by
 have h0:=Env.Qt (i:=i) (c:=c) h hs hl2;refine⟨h0.1,h0.2.1,fun x s' hx => ?_⟩;simp only[Env.Tr]at hx;cases hb:Nat.beq x g with
  |false=>
   rw[hb]at hx;have e:(E.Tr g i c sn s).spec x=E.spec x:=by simp only[Env.Tr,Env.BR,hb]
   rw[e];exact h.2.2 x s' hx
  |true=>
   rw[hb]at hx;have:=AqS hb;subst this;simp only[Apq]at hx;subst hx;intro R args H fz slot k kp r hk;unfold Abr at hk;split at hk;rename_i c' hc';have e:∀ (R':Type) (k':AV→Eff→Option R'),(E.Tr x i c sn s).spec x R' args H fz slot k'=match Nat.beq c' c with
     |true=>sn R' args H fz slot k'
     |false=>E.spec x R' args H fz slot k':=by
    intro R' k'
    simp only[Env.Tr,Env.BR,Nat.beq_refl,hc']<;>grind
   split at hk;rename_i hcc;rcases hp R args H fz slot k kp r hk with⟨v,e1,a1,a2,a3⟩|⟨p,e1,a1,a2,a3⟩
   exact .inl ⟨v,e1,a1,fun R' k' kp'=>by simp only[Abr,hc',hcc];grind,fun R' k'=>by grind⟩;exact .inr ⟨p,e1,a1,fun R' k' kp'=>by simp only[Abr,hc',hcc];grind,a3⟩;rename_i hcc;split at hk;rename_i s' hs';rcases h.2.2 x s' hs' R args H fz slot k kp r hk with⟨v,e1,a1,a2,a3⟩|⟨p,e1,a1,a2,a3⟩
   exact .inl ⟨v,e1,a1,fun R' k' kp'=>by simp only[Abr,hc',hcc,hs'];grind,fun R' k'=>by grind⟩;exact .inr ⟨p,e1,a1,fun R' k' kp'=>by simp only[Abr,hc',hcc,hs'];grind,a3⟩;grind;grind
end
end Go.Pev
end
section
namespace Go.Pev
open Go.RowKit
noncomputable section
def AGV:List Oper→Option (FuncId×List Operand×Tmp)
 |[o0,o1]=>match o0.op,o0.dst,o0.guard with
  |.makeFunc (.func g) first cs,some t,none=>match o1.op,o1.dst,o1.guard with
   |.defer c,none,none=>match c.callee with
    |.value (.tmp t')=>match Nat.beq t' t&&(c.args.isEmpty&&first.isEmpty)with
     |true=>some (g,cs.toList,t)
     |false=>none
    |_=>none
   |_,_,_=>none
  |_,_,_=>none
 |_=>none
def isRec(o:Oper):Bool:=match o.op,o.guard with
 |.call { callee:=.builtin .recover,args,.. },none=>args.isEmpty
 |_,_=>false
def SA[Lk](P:Program)(E:Env)(h:Hints)(R:Type)(fnC:Func)(rv:AV)(caps:List AV)(H:List Ob)(fz:List Bool)(k:St→Option R):Option R:=
 match fnC.body with
 |some (.seq (.region _ ops false) rest)=>match ops.toList with
  |[]=>none
  | o :: os => match isRec o && (Nat.beq (loops rest) 0 && (fnC.results.toList.isEmpty && (Nat.ble caps.length fnC.ntmps && !(fnC.name == "runtime.NumGoroutine")))) with
   |false=>none
   |true=>E7 P E R (o::os) os H.length ((({ tmps:=.of caps fnC.ntmps,heap:=H,frz:=fz }:St).pad (B9 (o::os))).put o.dst rv) fun st=>Az P E h R rest 0 st fun e st=>match e with
    |.normal=>k st
    |.ret=>k st
    |_=>none
 |_=>none
def Ko[Lk](P:Program)(E:Env)(h:Hints)(R:Type):Nat→Code→St→(Exit→St→Option R)→(List Oper→Code→St→Option R)→Option R
 |0,.seq (.region _ ops false) b,st,_,kd=>kd ops.toList b st
 |m+1,.seq a b,st,ke,kd=>match Nat.beq (loops a) 0 with
  |true=>Az P E h R a 0 st fun e st=>match e with
   |.normal=>Ko P E h R m b st ke kd
   |e=>ke e st
  |false=>none
 |_,_,_,_,_=>none
def Y0(H:List Ob):AV→Bool
 |.ptr i 0=>FE H i
 |_=>false
def AUt(np:Nat):AV→Bool
 |.ptr i 0=>decide (i<np)
 |_=>false
def AL6:Nat→Code→Code
 |0,.seq _ b=>b
 |m+1,.seq _ b=>AL6 m b
 |_,c=>c
def Ao7(t:Tmp):Operand→Bool
 |.tmp t' => !(Nat.beq t' t)
 |_=>true
def R9[Lk](P:Program)(E:Env)(fn:Func)(m:Nat)(its outs:AD)(rs:List RS)(hA hB hC:Hints)(itsB:AD)(npB:Nat)(x:Au (leaves its)):Option (Au (leaves outs)):=
 match fn.body with
 |none=>none
 |some c=>Ko P E hA _ m c (encode fn.ntmps its x)
  (fun e st=>match e with
   |.ret=>finish 0 P fn outs rs st
   |_=>none)
  fun ops b st=>match AGV ops with
   |none=>none
   |some (g,cs,t)=>match P.funcs[g]? with
    |none=>none
    |some fnC=>match decode 0 fn.ntmps (st.put (some t) (.clo g (cs.map (An st.tmps)))) itsB with
     |none=>none
     |some v=>match(Nat.blt t fn.ntmps&&cs.all (Ao7 t))&&(cs.map (An (encode fn.ntmps itsB v).tmps)).all fun a=>AUt npB a&&Y0 (encode fn.ntmps itsB v).heap a with
      |false=>none
      |true=>Az P E hB _ b 0 (encode fn.ntmps itsB v) fun e st2=>match(cs.map (An (encode fn.ntmps itsB v).tmps)).all (Y0 st2.heap)with
       |false=>none
       |true=>match e with
        |.normal=>SA P E hC _ fnC (.ifc none) (cs.map (An (encode fn.ntmps itsB v).tmps)) st2.heap st2.frz fun st3=>finish 0 P fn outs rs { tmps:=st2.tmps,heap:=st3.heap,frz:=st3.frz }
        |.ret=>SA P E hC _ fnC (.ifc none) (cs.map (An (encode fn.ntmps itsB v).tmps)) st2.heap st2.frz fun st3=>finish 0 P fn outs rs { tmps:=st2.tmps,heap:=st3.heap,frz:=st3.frz }
        |.panic ch=>match AjL (.panic ch)with
         |some p=>SA P E hC _ fnC (.ifc (some p)) (cs.map (An (encode fn.ntmps itsB v).tmps)) st2.heap st2.frz fun st3=>finish 0 P fn outs rs { tmps:=st2.tmps,heap:=st3.heap,frz:=st3.frz }
         |none=>none
        |_=>none
end
section
variable {P:Program} {E:Env} {h:Hints}
theorem AQV{R:Type}{r:R}(hE:∀ g,Ak P g (E.spec g)){ops:Array Oper}{Q:Exit→Act→List Frame→World→Prop}{cs:List Frame}{k:St→Option R}:∀ (rest pre:List Oper) (slot:Nat) (st:St) (w:World) (F:Nat→Prop) (m:Mp) (a:Act),ops.toList=pre++rest →
  E7 P E R ops.toList rest slot st k=some r→SI w F m st a→(∀ a' w',AmR r k w F m st.heap st.frz a' w'→Q .normal a' cs w')→wpOpsS P ops Q (List.range' pre.length rest.length) a cs w:=by
 intro rest;induction rest with
  |nil=>intro pre slot st w F m a _ h hs hq;exact hq a w ⟨st,F,m,h,hs,Ext.refl ..⟩
  |cons o rest ih=>
   intro pre slot st w F m a hops h hs hq;simp only[E7]at h;have hget:ops[pre.length]? = some o:=by rw[← Aqo,hops];simp
   have hops':ops.toList=(pre++[o])++rest:=by grind
   have hlen:(pre++[o]).length=pre.length+1:=by simp
   rw[Apw,ArF];simp only[wpOpsS,hget];obtain⟨st',hs',e1,e2,hh⟩:=O8 hs h;rcases hh with⟨hw,hy⟩|⟨hw,hn⟩
   rw[Ap5 hw];obtain⟨v,e,h1,_,h3⟩:=ED hE o.op R _ _ _ _ _ _ _ hy;have hwp:o.wp P a w (fun a' w'=>wpOpsS P ops Q (List.range' (pre.length+1) rest.length) a' cs w') (fun e a' w'=>Q e a' cs w'):=by
    refine h3 w F m a o _ _ rfl rfl hs'.heap (fun x=>EW hs'.tmps x) fun u w' F' m' hg hr => ?_;have hs2:=(hs'.go hg).put hr o.dst;have:=ih (pre++[o]) _ _ w' F' m' (a.put o.dst u) hops' h1 hs2 fun a' w'' ⟨st2,F2,m2,q1,q2,q3⟩=>hq a' w'' ⟨st2,F2,m2,q1,q2,by
     have hx:=hg.1;rw[e1,e2]at hx;refine hx.trans ?_;have:((st'.app e).put o.dst v).heap=CH e st.heap∧((st'.app e).put o.dst v).frz=EY e st.frz:=by cases o.dst<;>simp[St.put,St.app,e1,e2]
     grind⟩
    grind
   unfold Oper.wp at hwp;generalize (execOp a.eval o).run P w=res at hwp ⊢;split;simp[Oper.upon]at hwp;omega;rw[Ap4 (by simp[hw])];have hs2:SI w F m (st'.put o.dst Ba) (a.put o.dst undef):=hs'.put Pk o.dst;have:=ih (pre++[o]) _ _ w F m (a.put o.dst undef) hops' hn hs2 fun a' w'' ⟨st2,F2,m2,q1,q2,q3⟩=>hq a' w'' ⟨st2,F2,m2,q1,q2,by
    have:(st'.put o.dst Ba).heap=st.heap∧(st'.put o.dst Ba).frz=st.frz:=by cases o.dst<;>simp[St.put,e1,e2]
    grind⟩
   grind
theorem Hg.ext{w:World}{F:Nat→Prop}{m:Mp}{H:List Ob}{fz:List Bool}{w':World}{F':Nat→Prop}{m':Mp}{H':List Ob}{fz':List Bool}(x:Hg H.length w F m H fz w' F' m' H' fz'):Ext w F m H fz w' F' m' H' fz':=
 ⟨x.os,x.tape,x.output,x.size,x.keep,x.sub,x.bnd,x.own,fun i o ho hf=>x.comp i o (Aj ho) ho hf⟩
theorem Hg.ApZ{np:Nat}{w:World}{F:Nat→Prop}{m:Mp}{H:List Ob}{fz:List Bool}{w':World}{F':Nat→Prop}{m':Mp}{H':List Ob}{fz':List Bool}(x:Hg np w F m H fz w' F' m' H' fz'):Hg 0 w F m H fz w' F' m' H' fz':=
 ⟨x.os,x.tape,x.output,x.size,x.keep,x.sub,x.bnd,x.own,fun i o h=>absurd h (Nat.not_lt_zero _)⟩
theorem AZT(hE:∀ g,Ak P g (E.spec g))(hL:D1 E)(hP:Fb P E){R:Type}{r:R}{g:FuncId}{fnC:Func}{rv:AV}{caps:List AV}{H:List Ob}{fz:List Bool}{k:St→Option R}(hf:P.funcs[g]? = some fnC)(hk:SA P E h R fnC rv caps H fz k=some r):
  ∃ st3,k st3=some r∧G4 P g∧∀ (w:World) (F:Nat→Prop) (m:Mp) (vals:List Value) (u:FrameMode),HI w F m H fz→AT w F m H caps vals→((u = .returning∧rv = .ifc none)∨∃ p,u = .panicking [CJ p]∧rv = .ifc (some p)) →
   CallsD P g vals.toArray u w fun en u' w'=>(∃ v,en = .returned v)∧settle u' = .returning∧∃ F' m',Af w F m H fz w' F' m' st3.heap st3.frz:=by
 unfold SA at hk;split at hk;rename_i id ops rest hb;split at hk;cases hk;rename_i o os hops;split at hk;cases hk;rename_i hc;simp only[Apt]at hc;obtain⟨hrec,hl0,hres,hle,hnm⟩:=hc;have hl0:=AqS hl0;have hle:=AqT hle;obtain⟨st1,h1,h2⟩:=Xa hE _ _ _ _ hk;obtain⟨e,st3,g1,_,g3⟩:=CT hE hL hP (np:=st1.heap.length) rest 0 (LQ rest 0 hl0) R _ _ r h1;have hfin:k st3=some r∧(e = .normal∨e = .ret):=by grind
 refine⟨st3,hfin.1,Bm hf (by grind) (by grind),fun w F m vals u hi hr hu => ?_⟩;have hlv:=Ap hr;have hsi:SI w F m { tmps:=.of caps fnC.ntmps,heap:=H,frz:=fz } { tmps:=vals.toArray++Array.replicate (fnC.ntmps-vals.toArray.size) undef,defers:=[] }:=by refine⟨fun t => ?_,?_,hi,rfl⟩;have:=AEm hr (fnC.ntmps-caps.length) t;simp only[Aq0,hlv];exact this;simp[hlv,Tm.of];omega
 obtain⟨hs2,he2⟩:=hsi.pad (B9 (o::os));refine callsD_of_wpS hf hb fun c0 cs hc0 => ?_;refine wpS_seq (wpS_region ?_);have hop:o.guard=none∧∃ args ts,o.op = .call { callee:=.builtin .recover,args:=args,argTypes:=ts }∧args.isEmpty=true:=by unfold isRec at hrec;grind
 obtain⟨hg,args,ts,hop,hargs⟩:=hop;have hsize:ops.size=os.length+1:=by rw[← AqG,hops];rfl
 have h0:ops[0]? = some o:=by rw[← Aqo,hops];rfl
 rw[hsize,Arn,ArF];simp only[wpOpsS,h0];rw[Ap5 (by simp[Region.wanted,hg])];have hrun:(execOp (Act.eval { tmps:=vals.toArray++Array.replicate (fnC.ntmps-vals.toArray.size) undef,defers:=[] }) o).run P w = .ok .recover w:=by
  have ha:args = #[]:=by grind
  subst ha;simp[execOp,hop,resolve,invoke,builtin]
 rw[hrun];simp only
 have go:∀ (v:Value) (c1:Frame) (u':FrameMode),Rep w F m ((St.pad { tmps:=.of caps fnC.ntmps,heap:=H,frz:=fz } (B9 (o::os))).heap) rv v→c1 = { c0 with mode:=u' }→settle u' = .returning →
   wpOpsS P ops (Exit.thenS (rest.wpS P (bodyPostS P fnC c0 cs fun en u' w'=>(∃ v,en = .returned v)∧settle u' = .returning∧∃ F' m',Af w F m H fz w' F' m' st3.heap st3.frz)) (bodyPostS P fnC c0 cs fun en u' w'=>(∃ v,en = .returned v)∧settle u' = .returning∧∃ F' m',Af w F m H fz w' F' m' st3.heap st3.frz))
    (List.range' 1 os.length) (Act.put { tmps:=vals.toArray++Array.replicate (fnC.ntmps-vals.toArray.size) undef,defers:=[] } o.dst v) (c1::cs) w:=by
  intro v c1 u' hrv hc1 hst
  have hs3:=hs2.put hrv o.dst
  have h3:E7 P E St ops.toList os H.length ((St.pad { tmps:=.of caps fnC.ntmps,heap:=H,frz:=fz } (B9 (o::os))).put o.dst rv) some=some st1:=by
   grind
  have:=AQV (cs:=c1::cs) hE os [o] _ _ w F m _ (by grind) h3 hs3 (Q:=(Exit.thenS (rest.wpS P (bodyPostS P fnC c0 cs fun en u' w'=>(∃ v,en = .returned v)∧settle u' = .returning∧∃ F' m',Af w F m H fz w' F' m' st3.heap st3.frz)) (bodyPostS P fnC c0 cs fun en u' w'=>(∃ v,en = .returned v)∧settle u' = .returning∧∃ F' m',Af w F m H fz w' F' m' st3.heap st3.frz))) fun a' w' hp => ?_
  ·omega
  ·obtain⟨st',F',m',e1,s1,x1⟩:=hp
   cases e1
   show rest.wpS P _ a' (c1::cs) w'
   refine wpS_of_wp (g3 w' F' m' a' _ s1 fun a2 w2 F2 m2 s2 x2 => ?_)
   have hx:Ext w F m H fz w2 F2 m2 st3.heap st3.frz:=by
    have hh:=ET (St.pad { tmps:=.of caps fnC.ntmps,heap:=H,frz:=fz } (B9 (o::os))) o.dst rv
    rw[hh.1,hh.2]at x1
    exact he2.trans (x1.trans x2.ext)
   have hres':fnC.results.toList=[]:=by grind
   obtain⟨us,r1,_⟩:=Kj (P:=P) s2 (fn:=fnC) (vs:=[]) (by rw[hres'];rfl)
   have hpost:a2.defers=[]∧∃ u',(c1::cs:List Frame) = { c0 with mode:=u' }::cs∧∃ v,(results fnC a2.tmps).run P w2 = .ok v w2∧((∃ v',Ending.returned v = .returned v')∧settle u' = .returning∧∃ F' m',Af w F m H fz w2 F' m' st3.heap st3.frz):=
    ⟨s2.defers,u',by rw[hc1],_,r1,⟨_,rfl⟩,hst,F2,m2,hx,s2.heap⟩
   rcases hfin.2 with rfl|rfl<;>exact hpost
 rcases hu with⟨rfl,rfl⟩|⟨p,rfl,rfl⟩
 have hr0:recoverD (c0::cs)=none:=by simp[recoverD,hc0]
 rw[hr0];simp only;exact go .nilIface c0 .returning (by unfold Rep;rfl) (by cases c0;grind) rfl;have hr0:recoverD (c0::cs)=some (Jd (some p),{ c0 with mode:=.panicking [{ v:=Jd (some p),recovered:=true }] }::cs):=by simp[recoverD,hc0,CJ]
 rw[hr0];simp only;exact go _ _ (.panicking [{ v:=Jd (some p),recovered:=true }]) (by unfold Rep;rfl) rfl rfl;grind
theorem AZR(hE:∀ g,Ak P g (E.spec g))(hL:D1 E)(hP:Fb P E){R:Type}{r:R}{ke:Exit→St→Option R}{kd:List Oper→Code→St→Option R}:∀ (m:Nat) (c:Code) (st:St),Ko P E h R m c st ke kd=some r →
  (∃ e st',e≠.normal∧ke e st'=some r∧ApX P 0 c st e st') ∨
  (∃ id ops b st',kd ops.toList b st'=some r∧AL6 m c=b∧∀ (w:World) (F:Nat→Prop) (m:Mp) (a:Act) (Q:Exit→Act→World→Prop),SI w F m st a →
   (∀ a' w' F' m',SI w' F' m' st' a'→Hg 0 w F m st.heap st.frz w' F' m' st'.heap st'.frz→(Code.seq (.region id ops false) b).wp P Q a' w')→c.wp P Q a w):=by
 intro m;induction m with
  |zero=>
   intro c st hk;cases c with
    |seq a b=>cases a with
     |region id ops draw=>cases draw with
      |false=>
       simp only[Ko]at hk
       exact .inr ⟨id,ops,b,st,hk,rfl,fun w F m a Q hs hq=>hq a w F m hs (Hg.refl ..)⟩
      |true=>simp[Ko]at hk
     |_=>simp[Ko]at hk
    |_=>simp[Ko]at hk
  |succ m ih=>
   intro c st hk;cases c with
    |seq a b=>
     simp only[Ko]at hk;split at hk;rename_i hl0;have hl0:=AqS hl0;obtain⟨e,st1,h1,_,h3⟩:=CT hE hL hP (np:=0) a 0 (LQ a 0 hl0) R _ _ r hk;by_cases he:e = .normal;subst he;rcases ih b st1 h1 with⟨e2,st2,k1,k2,k3⟩|⟨id,ops,b',st2,k1,kb,k2⟩
     refine .inl ⟨e2,st2,k1,k2,fun w F m act Q hs hq=>wp_seq ?_⟩;refine h3 w F m act _ hs fun a' w' F' m' s1 x1 => ?_;exact k3 w' F' m' a' Q s1 fun a2 w2 F2 m2 s2 x2=>hq a2 w2 F2 m2 s2 (x1.trans x2);refine .inr ⟨id,ops,b',st2,k1,kb,fun w F m act Q hs hq=>wp_seq ?_⟩;refine h3 w F m act _ hs fun a' w' F' m' s1 x1 => ?_;exact k2 w' F' m' a' Q s1 fun a2 w2 F2 m2 s2 x2=>hq a2 w2 F2 m2 s2 (x1.trans x2);have h1':ke e st1=some r:=by grind
     refine .inl ⟨e,st1,he,h1',fun w F m act Q hs hq=>wp_seq ?_⟩;refine h3 w F m act _ hs fun a' w' F' m' s1 x1 => ?_;have:=hq a' w' F' m' s1 x1;cases e<;>first|grind|exact this
     grind
    |_=>simp[Ko]at hk
variable {g0:FuncId} {fn:Func} {c:Code}
theorem AGU{ops:List Oper}{g:FuncId}{cs:List Operand}{t:Tmp}(h:AGV ops=some (g,cs,t)):∃ o0 o1,ops=[o0,o1]∧o0.guard=none∧o0.dst=some t∧(∃ csA fst,o0.op = .makeFunc (.func g) fst csA∧fst.toList=[]∧csA.toList=cs) ∧
  o1.guard=none∧o1.dst=none∧∃ args ts,o1.op = .defer { callee:=.value (.tmp t),args:=args,argTypes:=ts }∧args.toList=[]:=by
 unfold AGV at h;split at h;rename_i o0 o1;split at h;rename_i g' first cs' t' h1 h2 h3
 split at h;rename_i cl h4 h5 h6;split at h;rename_i t2 h7;split at h;rename_i hc;simp only[Apt]at hc;simp only[Apq,Ap9]at h;obtain⟨rfl,rfl,rfl⟩:=h;have:=AqS hc.1;subst this;obtain⟨callee,args,ts⟩:=cl;grind;grind;grind;grind;grind;grind
theorem AQU{np:Nat}{H:List Ob}{v:AV}(h:(AUt np v&&Y0 H v)=true):∃ i cs,v = .ptr i 0∧i<np∧H[i]? = some (.box cs):=by rw[Apt]at h;obtain⟨h1,h2⟩:=h;unfold AUt at h1;split at h1;rename_i i;refine⟨i,?_⟩;simp only[Aps]at h1;simp only[Y0,FE]at h2;grind;grind
theorem Ab2{np:Nat}{w w':World}{F F':Nat→Prop}{m m':Mp}{H H':List Ob}{fz fz':List Bool}(x:Hg np w F m H fz w' F' m' H' fz'):∀ {vs:List AV} {us:List Value},(vs.all fun a=>AUt np a&&Y0 H a)=true→vs.all (Y0 H')=true→AT w F m H vs us→AT w' F' m' H' vs us:=by
 intro vs;induction vs with
  |nil=>intro us _ _ h;unfold AT at *;exact h
  |cons v vs ih=>
   intro us h1 h2 h;simp only[List.all_cons]at h1 h2;rw[Apt]at h1 h2;unfold AT at h ⊢;obtain⟨u,us',rfl,h3,h4⟩:=h;refine⟨u,us',rfl,?_,ih h1.2 h2.2 h4⟩;obtain⟨i,cs,rfl,hi,hb⟩:=AQU h1.1;have h5:=h2.1;simp only[Y0,FE]at h5;split at h5
   ·rename_i cs' hb';unfold Rep GM at h3 ⊢;rw[hb]at h3;rw[hb'];rcases x.comp i _ hi hb (by simp)with h6|⟨_,o',h6,h7,h8,_⟩
    all_goals grind
   grind
theorem AKm(hE:∀ g,Ak P g (E.spec g))(hL:D1 E)(hP:Fb P E)(hf:P.funcs[g0]? = some fn)(hb:fn.body=some c)(hc:G4 P g0)
  {m:Nat} {na:Nat} (hna:na≤fn.ntmps) {its outs:AD} {rs:List RS} {hA hB hC:Hints} {itsB:AD} {npB:Nat} {f:Au (leaves its)→Option (Au (leaves outs))} (hfun:∀ x,f x=R9 P E fn m its outs rs hA hB hC itsB npB x)
  (hl:∀ [DfI],BB P npB hB (AL6 m c) 0):Ak P g0 (AG 0 na its outs rs f):=by
 intro R args H fz slot k r hk;simp only[AG]at hk;split at hk;cases hk;rename_i x bs fr hdec;split at hk;cases hk;rename_i hchk;simp only[Apt,Aps]at hchk;obtain⟨⟨⟨huncut,hbl⟩,hal⟩,hri,hro⟩:=hchk;split at hk;cases hk;rename_i y hy;generalize hids:CY (Cq outs) (bs.take 0) slot=ids at hk;generalize hgv:given (bs.drop 0)=gv at hk;obtain⟨e,h4,he1,he2,h5,hok,hnd,hfl⟩:=RD hk;refine⟨_,e,h4,fun R' k' => ?_,hc,fun w F mm vals hi hr => ?_⟩;simp only[AG,hdec,huncut,hbl,hal,hri,hro,hy,Apy,Aqr,hids,hgv];grind;rw[hfun x]at hy;unfold R9 at hy;rw[hb]at hy;simp only at hy;refine calls_of_wp_defers hf hb ?_;obtain⟨F2,m2,gA,invA,hsi⟩:=PH hi hr hal hna hdec
 have fin:∀ (w':World) (F':Nat→Prop) (m':Mp) (st':St) (tm:Array Value),SI w' F' m' st' { tmps:=tm,defers:=[] }→Hg 0 w F2 m2 (encode fn.ntmps its x).heap (encode fn.ntmps its x).frz w' F' m' st'.heap st'.frz→finish 0 P fn outs rs st'=some y →
   Leaves P fn tm (fun en w'=>∃ u,en = .returned u∧∃ F' m',Af w F mm H fz w' F' m' (CH e H) (EY e fz)∧Rep w' F' m' (CH e H) (single (D6 rs (Iw ids (encode (cellsOf rs) outs y).tmps.list))) u) [] .returning w':=by
  intro w' F' m' st' tm hs x1 hfin
  obtain⟨vs,tm',bs',fr',hvs,htm,hd',hp⟩:=Tp hfin
  rw[Apt]at hp
  obtain⟨us,r1,r2⟩:=Kj hs hvs
  exact⟨_,r1,_,rfl,Yx hi gA invA huncut hri hro hids hgv he1 he2 hok hnd hfl hs.heap x1 r2 htm hd' hp.1⟩
 rcases AZR hE hL hP m c _ hy with⟨ex,st',hne,hke,hrun⟩|⟨id,ops,b,st',hkd,hcb,hrun⟩
 have hex:ex = .ret∧finish 0 P fn outs rs st'=some y:=by grind
 obtain⟨rfl,hke⟩:=hex;refine hrun w F2 m2 _ _ hsi fun a' w' F' m' s1 x1 => ?_;show Leaves P fn a'.tmps _ a'.defers .returning w';rw[show a'.defers=[]from s1.defers];exact fin w' F' m' st' a'.tmps ⟨s1.tmps,s1.size,s1.heap,rfl⟩ x1 hke;split at hkd;cases hkd;rename_i g cs t hdf;split at hkd;cases hkd;rename_i fnC hfC;split at hkd;cases hkd;rename_i v hv;split at hkd;cases hkd;rename_i hcap0;rw[Apt,Apt]at hcap0;obtain⟨⟨htn,hnt⟩,hcap⟩:=hcap0;refine hrun w F2 m2 _ _ hsi fun a' w' F' m' s1 x1 => ?_;obtain⟨o0,o1,hops,hg0,hd0,⟨csA,fst,hop0,hfst,hcs⟩,hg1,hd1,args1,ts1,hop1,hargs1⟩:=AGU hdf;have hsize:ops.size=2:=by rw[← AqG,hops];rfl
 have h0:ops[0]? = some o0:=by rw[← Aqo,hops];rfl
 have h1:ops[1]? = some o1:=by rw[← Aqo,hops];rfl
 have hfst':fst = #[]:=by grind
 have hargs1':args1 = #[]:=by grind
 subst hfst';subst hargs1';subst hcs;have hrun0:(execOp a'.eval o0).run P w' = .ok (.value (.func (.func g) #[] (csA.map a'.eval))) w':=by simp[execOp,hop0,Instr.makeFunc]
 have hcr:AT w' F' m' st'.heap (csA.toList.map (An st'.tmps)) (csA.map a'.eval).toList:=Y5 (fun x=>EW s1.tmps x) csA;have hrc:Rep w' F' m' st'.heap (.clo g (csA.toList.map (An st'.tmps))) (.func (.func g) #[] (csA.map a'.eval)):=by unfold Rep;grind
 have s2:=s1.put hrc (some t);obtain⟨F3,m3,s3,x3⟩:=GF s2 hv;have hev:(a'.put (some t) (.func (.func g) #[] (csA.map a'.eval))).eval (.tmp t) = .func (.func g) #[] (csA.map a'.eval):=by
  have h1:t<a'.tmps.size:=by
   have h2:(st'.put (some t) (.clo g (csA.toList.map (An st'.tmps)))).tmps.n=fn.ntmps:=by unfold decode at hv;grind
   rw[← s1.size];rw[show st'.tmps.n=fn.ntmps from h2];simp_all
  simp[Act.eval,Act.put,h1]
 have hrun1:(execOp (a'.put (some t) (.func (.func g) #[] (csA.map a'.eval))).eval o1).run P w' = .ok (.defer { target:=.fn (.func g) (csA.map a'.eval),args:=#[] }) w':=by simp[execOp,hop1,resolve,hev,Deferred.ofValue]
 refine wp_seq (wp_region ?_);rw[hsize];refine KS h0 hg0 (B4 hrun0 ?_);rw[hd0];refine KS h1 hg1 ?_;unfold Oper.wp;rw[hrun1,Oper.upon_defer,hd1];have e0:(a'.put (some t) (.func (.func g) #[] (csA.map a'.eval))).defers=[]:=s2.defers;have s3t:=s3.tmps;have s3s:=s3.size;have s3h:=s3.heap;letI D:DfI:=⟨[{ target:=.fn (.func g) (csA.map a'.eval),args:=#[] }]⟩
 have s4:@SI D w' F3 m3 (encode fn.ntmps itsB v) { (a'.put (some t) (.func (.func g) #[] (csA.map a'.eval)))with defers:={ target:=.fn (.func g) (csA.map a'.eval),args:=#[] }::(a'.put (some t) (.func (.func g) #[] (csA.map a'.eval))).defers }:=
  @SI.mk D _ _ _ _ _ s3t s3s s3h (by rw[e0];rfl)
 obtain⟨ex,st2,g1,_,g3⟩:=CT hE hL hP b 0 (hcb▸hl) _ _ _ _ hkd;have hcapr:AT w' F3 m3 (encode fn.ntmps itsB v).heap (csA.toList.map (An (encode fn.ntmps itsB v).tmps)) (csA.map a'.eval).toList:=by
  have h1:csA.map a'.eval=csA.map (a'.put (some t) (.func (.func g) #[] (csA.map a'.eval))).eval:=by
   apply Array.map_congr_left;intro z hz;rw[AqE]at hnt;have:=hnt z (by grind);cases z with
    |tmp t'=>
     have hne:t≠t':=by rintro rfl;simp[Ao7]at this
     simp[Act.eval,Act.put,Array.getElem?_setIfInBounds_ne hne]
    |_=>rfl
  rw[h1];exact Y5 (fun x=>EW s3t x) csA
 refine g3 w' F3 m3 _ _ s4 fun a2 w2 F4 m4 s5 x5 => ?_;split at g1;cases g1;rename_i hal2
 have closing:∀ (rv:AV) (u:FrameMode),u≠.run→((u = .returning∧rv = .ifc none)∨∃ p,u = .panicking [CJ p]∧rv = .ifc (some p)) →
   SA P E hC _ fnC rv (csA.toList.map (An (encode fn.ntmps itsB v).tmps)) st2.heap st2.frz (fun st3=>finish 0 P fn outs rs { tmps:=st2.tmps,heap:=st3.heap,frz:=st3.frz })=some y →
   Leaves P fn a2.tmps (fun en w'=>∃ u,en = .returned u∧∃ F' m',Af w F mm H fz w' F' m' (CH e H) (EY e fz)∧Rep w' F' m' (CH e H) (single (D6 rs (Iw ids (encode (cellsOf rs) outs y).tmps.list))) u) [{ target:=.fn (.func g) (csA.map a'.eval),args:=#[] }] u w2:=by
  intro rv u hne hmode hclo
  obtain⟨st3,k1,kc,k2⟩:=AZT hE hL hP hfC hclo
  refine leaves_cons (f:=g) (args:=csA.map a'.eval) hne (by simp[invoke,kc _ w2]) ?_
  have hcall:=k2 w2 F4 m4 _ u s5.heap (Ab2 x5 hcap hal2 hcapr) hmode
  rw[Arm]at hcall
  refine hcall.mono fun en u' w3 ⟨⟨v',hen⟩,hset,F5,m5,hgo⟩ => ?_
  subst hen
  show Leaves P fn a2.tmps _ [] (settle u') w3
  rw[hset]
  refine fin w3 F5 m5 { tmps:=st2.tmps,heap:=st3.heap,frz:=st3.frz } a2.tmps (@SI.mk noDf _ _ _ _ _ (fun t=>hgo.1.rep s5.heap (s5.tmps t)) s5.size hgo.2 rfl) ?_ k1
  exact x1.trans (x3.trans (x5.ApZ.trans (hgo.1.toN 0)))
 have hdf2:a2.defers=[{ target:=.fn (.func g) (csA.map a'.eval),args:=#[] }]:=s5.defers;cases ex with
  |normal=>show Leaves P fn a2.tmps _ a2.defers .returning w2;grind
  |ret=>show Leaves P fn a2.tmps _ a2.defers .returning w2;grind
  |panic ch=>simp only at g1;split at g1;rename_i p hp;have:=AUI hp;simp only[Exit.panic.injEq]at this;subst this;show Leaves P fn a2.tmps _ a2.defers (.panicking [CJ p]) w2;grind;grind
  |_=>grind
end
theorem CN[DfI]{P:Program}{np:Nat}{h:Hints}:∀ (c:Code) (n:Nat),loops c=0→BB P np h c n:=by
 intro c;induction c with
  |seq a b iha ihb=>intro n hl;simp only[loops]at hl;exact⟨iha n (by omega),ihb _ (by omega)⟩
  |cond c a b iha ihb=>intro n hl;simp only[loops]at hl;exact⟨iha n (by omega),ihb _ (by omega)⟩
  |block id c ih=>intro n hl;simp only[loops]at hl;exact ih n hl
  |loop c ih=>intro n hl;simp only[loops]at hl;omega
  |_=>intro n _;trivial
def S8[DfI](P:Program)(np:Nat)(h:Hints):List (Nat×Code)→Prop
 |[]=>True
 |p::l=>Iv P np (.loop p.2) (h.loop p.1)∧S8 P np h l
theorem Z2[DfI]{P:Program}{np:Nat}{h:Hints}:∀ {a b:List (Nat×Code)},S8 P np h (a++b)→S8 P np h a∧S8 P np h b:=by
 intro a;induction a with
  |nil=>exact fun h=>⟨trivial,h⟩
  |cons p a ih=>intro b h;exact⟨⟨h.1,(ih h.2).1⟩,(ih h.2).2⟩
theorem AG3[DfI]{P:Program}{np:Nat}{h:Hints}:∀ (c:Code) (n:Nat),S8 P np h (B5 c n)→BB P np h c n:=by
 intro c;induction c with
  |seq a b iha ihb=>intro n hl;have:=Z2 hl;exact⟨iha n this.1,ihb _ this.2⟩
  |cond c a b iha ihb=>intro n hl;have:=Z2 hl;exact⟨iha n this.1,ihb _ this.2⟩
  |block id c ih=>intro n hl;exact ih n hl
  |loop c ih=>intro n hl;exact hl.1
  |_=>intro n _;trivial
theorem Tz[DfI]{P:Program}{np:Nat}{h:Hints}{c:Code}{n:Nat}{l:List (Nat×Code)}(e:B5 c n=l)(a:S8 P np h l):BB P np h c n:=AG3 c n (by grind)
def Qo:List (Nat×List (List Nat))→Nat→List (List Nat)
 |[],_=>[]
 |(k,x)::l,n=>match Nat.beq k n with
  |true=>x
  |false=>Qo l n
end Go.Pev
end
section
namespace Go.Pev
open Go.RowKit
noncomputable def Ml(n:Nat):Spec:=fun R args _ _ _ k=>
 match args with
 |[.data (.slice e) xs]=>match decide (e.size=n)with
  |true=>k (.clip e xs) {}
  |false=>none
 |_=>none
structure AEU(P:Program)(fn:Func)(T e:TypeId)(n:Nat):Prop where
 body:fn.body=some (.seq (.region 0 #[Bh fn 0 0] false) (.seq (.region 1 #[Bh fn 1 0,Bh fn 1 1,Bh fn 1 2,Bh fn 1 3,Bh fn 1 4,Bh fn 1 5,Bh fn 1 6] false) .ret))
 nt:fn.ntmps=9
 res:fn.results = #[.tmp 2]
 d:(Bh fn 0 0).dst=some 2∧(Bh fn 1 0).dst=some 3∧(Bh fn 1 1).dst=some 4∧(Bh fn 1 2).dst=some 5∧(Bh fn 1 3).dst=some 6∧(Bh fn 1 4).dst=some 7∧(Bh fn 1 5).dst=some 8∧(Bh fn 1 6).dst=some 2
 g:(Bh fn 0 0).guard=none∧(Bh fn 1 0).guard=none∧(Bh fn 1 1).guard=none∧(Bh fn 1 2).guard=none∧(Bh fn 1 3).guard=none∧(Bh fn 1 4).guard=none∧(Bh fn 1 5).guard=none∧(Bh fn 1 6).guard=none
 o00:(Bh fn 0 0).op = .assign (.const (.slice none 0 0))
 o10:(Bh fn 1 0).op = .move (.tmp 0)
 o11:(Bh fn 1 1).op = .move (.tmp 0)
 o12:(Bh fn 1 2).op = .call { callee:=.builtin .len,args:=#[.tmp 4],argTypes:=#[T] }
 o13:(Bh fn 1 3).op = .move (.tmp 0)
 o14:(Bh fn 1 4).op = .call { callee:=.builtin .len,args:=#[.tmp 6],argTypes:=#[T] }
 o15:(Bh fn 1 5).op = .slice T (.tmp 3) none (some (.tmp 5)) (some (.tmp 7))
 o16:(Bh fn 1 6).op = .assign (.tmp 8)
 sl:P.underlying T=some (.slice e)
 sz:BT P e=some n
section
variable {P:Program} {g:FuncId} {fn:Func} {T e:TypeId} {n:Nat}
theorem Al5 (hs : AEU P fn T e n) (hf : P.funcs[g]? = some fn) (hn : (fn.name == "runtime.NumGoroutine") = false) : Ak P g (Ml n) := by
 intro R args H fz slot k r hk;unfold Ml at hk;split at hk;rename_i t xs;split at hk;rename_i hsz;refine⟨_,_,hk,fun R' k'=>by simp only[Ml,hsz],Bm hf (by rw[hs.body];rfl) hn,fun w F m vals hi hr => ?_⟩;simp only[Aps]at hsz;obtain⟨i,hi0,hsz'⟩:=A6 hs.sz;unfold AT at hr;obtain⟨v,vs',rfl,hrv,hnil⟩:=hr;unfold AT at hnil;subst hnil;have hrv:Dat w F (.slice t) xs [v]:=hrv;obtain⟨a,cap,e1,e2,e3⟩:=hrv;simp only[AqF,AsB]at e1;subst e1;refine calls_of_wp hf hs.body ?_;obtain⟨d0,d1,d2,d3,d4,d5,d6,d7⟩:=hs.d;obtain⟨g0,g1,g2,g3,g4,g5,g6,g7⟩:=hs.g;have hres:∀ (tm:Array Value) (w0:World),(results fn tm).run P w0 = .ok (tm.getD 2 undef) w0:=fun tm w0=>by simp[results,hs.res]
 refine wp_seq (wp_region ?_);simp only[Aq0,Apw,Ap8,Aqp,Ar4,AqI];refine CF (by rfl) g0 (B4 (Gu hs.o00) ?_);refine wp_seq (wp_region ?_);simp only[Aq0,Apw,Ap8,Aqp,Ar4,AqI,AqJ];refine CF (by rfl) g1 (B4 (KB hs.o10) ?_);refine CF (by rfl) g2 (B4 (KB hs.o11) ?_);refine CF (by rfl) g3 (B4 (u:=.int .i64 (List.length (α:=t.den) xs)) (w':=w) (by simp[execOp,hs.o12,resolve,invoke,builtin,Act.eval,Act.put,d0,d1,d2,hs.nt,Bg hs.sl]) ?_);refine CF (by rfl) g4 (B4 (KB hs.o13) ?_);refine CF (by rfl) g5 (B4 (u:=.int .i64 (List.length (α:=t.den) xs)) (w':=w) (by simp[execOp,hs.o14,resolve,invoke,builtin,Act.eval,Act.put,d0,d1,d2,d3,d4,hs.nt,Bg hs.sl]) ?_);have hrun:=Lw (P:=P) (w:=w) (kh:=.i64) (km:=.i64) hs.sl hi0 a (List.length (α:=t.den) xs) cap (l:=0) (h:=(List.length (α:=t.den) xs:Int)) (.inl ⟨rfl,rfl⟩) (by omega) (by omega) (by omega);refine CF (by rfl) g6 (B4 (u:=.slice a (List.length (α:=t.den) xs) (List.length (α:=t.den) xs)) (w':=w) (by simp[execOp,hs.o15,Act.eval,Act.put,d0,d1,d2,d3,d4,d5,hs.nt,hrun];intro _;cases a<;>rfl) ?_)
 refine CF (by rfl) g7 (B4 (Gu hs.o16) ?_);refine wp_ret ?_;refine⟨by simp[Act.put,d0,d1,d2,d3,d4,d5,d6,d7],_,hres _ _,?_⟩;refine⟨_,rfl,F,m,Af.refl hi,?_⟩;have:Rep w F m H (.clip t xs) (.slice a (List.length (α:=t.den) xs) (List.length (α:=t.den) xs)):=by unfold Rep;exact⟨⟨a,_,rfl,Ap1 _,e3⟩,a,rfl⟩
 show Rep _ _ _ H _ _;simpa [Act.put,Act.eval,d0,d1,d2,d3,d4,d5,d6,d7,hs.nt]using this;grind;grind
theorem Mk(n:Nat):GN (Ml n):=fun _ _ _ _ _ _ _ _ _=>rfl
end
end Go.Pev
end
section
namespace Go.Pev
noncomputable section
abbrev Tab:=Nat→AD×AW
def EK[Lk](P:Program)(E:Env)(np nt:Nat)(tab:Tab):Code→Nat→Hints→Hints
 |.seq a b,n,h=>EK P E np nt tab a n (EK P E np nt tab b (n+loops a) h)
 |.cond _ a b,n,h=>EK P E np nt tab a n (EK P E np nt tab b (n+loops a) h)
 |.block _ c,n,h=>EK P E np nt tab c n h
 |.loop c,n,h=>{ fp:=h.fp,loop:=fun m=>match Nat.beq m n with
   |true=>Kw np nt (tab n).1 (tab n).2 (roundOf P E (EK P E np nt tab c (n+1) h) (n+1) np nt c (tab n).1 (tab n).2)
   |false=>(EK P E np nt tab c (n+1) h).loop m }
 |_,_,h=>h
theorem YO(P:Program)(E:Env)(np nt:Nat)(tab:Tab):∀ (c:Code) (n:Nat) (h:Hints) (m:Nat),(m<n∨n+loops c≤m)→(EK P E np nt tab c n h).loop m=h.loop m:=by
 intro c;induction c with
  |seq a b iha ihb=>intro n h m hm;simp only[EK,loops]at *;grind
  |cond c a b iha ihb=>intro n h m hm;simp only[EK,loops]at *;grind
  |block id c ih=>intro n h m hm;exact ih n h m hm
  |loop c ih=>
   intro n h m hm;simp only[EK,loops]at *;have:Nat.beq m n=false:=by
    cases hb:Nat.beq m n with
     |true=>have:=AqS hb;omega
     |false=>rfl
   grind
  |_=>intro n h m hm;rfl
theorem OD{P:Program}{np:Nat}{h h':Hints}:∀ (c:Code) (n:Nat),(∀ m,n≤m→m<n+loops c→h'.loop m=h.loop m)→BB P np h c n→BB P np h' c n:=by
 intro c;induction c with
  |seq a b iha ihb=>intro n he hl;simp only[loops]at he;exact⟨iha n (fun m h1 h2=>he m h1 (by omega)) hl.1,ihb _ (fun m h1 h2=>he m (by omega) (by omega)) hl.2⟩
  |cond c a b iha ihb=>intro n he hl;simp only[loops]at he;exact⟨iha n (fun m h1 h2=>he m h1 (by omega)) hl.1,ihb _ (fun m h1 h2=>he m (by omega) (by omega)) hl.2⟩
  |block id c ih=>intro n he hl;exact ih n he hl
  |loop c ih=>intro n he hl;simp only[loops]at he;unfold BB at *;grind
  |_=>intro n he hl;trivial
theorem Aal{P:Program}{E:Env}(hE:AI P E){np nt:Nat}{tab:Tab}:∀ (c:Code) (n:Nat) (h:Hints),BB P np (EK P E np nt tab c n h) c n:=by
 intro c;induction c with
  |seq a b iha ihb=>intro n h;refine⟨iha n _,?_⟩;refine OD b _ (fun m h1 h2 => ?_) (ihb (n+loops a) h);simp only[EK];exact YO P E np nt tab a n _ m (by omega)
  |cond c a b iha ihb=>intro n h;refine⟨iha n _,?_⟩;refine OD b _ (fun m h1 h2 => ?_) (ihb (n+loops a) h);simp only[EK];exact YO P E np nt tab a n _ m (by omega)
  |block id c ih=>intro n h;exact ih n h
  |loop c ih=>intro n h;unfold BB;simp only[EK];rw[show Nat.beq n n=true from Nat.beq_refl n];exact QJ hE (fun _=>rfl) (ih (n+1) h)
  |_=>intro n h;trivial
structure Row where
 g:FuncId
 k:Nat:=0
 np:Nat:=0
 na:Nat:=0
 fl:Nat:=0
 clo:Option (Nat×FuncId):=none
 its:AD:=[]
 os:AW:=[]
 rs:List RS:=[]
 fp:List (Nat×List (List Nat)):=[]
 tab:List (Nat×AD×AW):=[]
def AhN{α:Type}(d:α):List (Nat×α)→Nat→α
 |[],_=>d
 |p::l,n=>match Nat.beq p.1 n with
  |true=>p.2
  |false=>AhN d l n
def Row.outs(r:Row):AD:=match r.os with
 |[]=>[]
 |o::_=>o.2
def Row.mark(r:Row)(i:Nat):Bool:=Nat.testBit r.fl i
def Row.hint[Lk](r:Row)(P:Program)(E:Env)(fn:Func):Hints:=
 EK P E r.np fn.ntmps (AhN ([],[]) r.tab) (BU fn) 0 { fp:=AhN [] r.fp }
def Row.loc(r:Row):Bool:=Yk r.its&&(Nat.ble (Cq r.outs) 4 && !r.mark 3)
def Row.F7(r:Row):Bool:=Tc r.its&&Nat.ble (Cq r.outs) 4
def Row.call(r:Row)(f:Au (leaves r.its)→Option (Au (leaves r.outs))):Spec:=AG r.np r.na r.its r.outs r.rs f
def Row.self[Lk](r:Row)(P:Program)(E:Env)(fn:Func):Au (leaves r.its)→Option (Au (leaves r.outs)):=
 DC r.np P E (r.hint P E fn) fn r.its r.outs r.rs
def Row.put[Lk](r:Row)(E:Env)(s:Spec):Env:=
 match r.clo with
 |none=>E.ext r.g r.loc r.F7 (match r.mark 3 with
  |true=>EO s
  |false=>s)
 |some (i,c)=>E.BR r.g i c (match r.mark 3 with
  |true=>EO s
  |false=>s)
def Row.okF(r:Row)(fn:Func):Bool:=
 fn.body.isSome && (!(fn.name == "runtime.NumGoroutine") && (Nat.ble r.na fn.ntmps && (match r.k with
  |1=>Nat.beq (loops (BU fn)) 0
  |_=>true)&&(match r.clo with
  |none=>true
  |some _=>r.F7)))
theorem Row.Ana{P:Program}{E:Env}{r:Row}(hE:AI P E){f:Au (leaves r.its)→Option (Au (leaves r.outs))}(hs:Ak P r.g (r.call f))(hc:(match r.clo with
  |none=>true
  |some _=>r.F7)=true):AI P (r.put E (r.call f)):=by
 have hin:r.F7=true→Hf (match r.mark 3 with
  |true=>EO (r.call f)
  |false=>r.call f):=by
  intro h
  simp only[Row.F7,Apt]at h
  cases r.mark 3 with
  |true=>exact Ajc h.1 h.2
  |false=>exact Bw h.1 h.2
 have hs':Ak P r.g (match r.mark 3 with
  |true=>EO (r.call f)
  |false=>r.call f):=by
  cases r.mark 3 with
  |true=>exact AIt hs
  |false=>exact hs
 unfold Row.put;split;refine Env.Bi hE hs' (fun h => ?_) hin;simp only[Row.loc,Apt]at h;have h3:r.mark 3=false:=by grind
 rw[h3];exact Kt h.1 h.2.1;rename_i i c hcl;rw[hcl]at hc;exact Env.Qt hE hs' (hin hc)
theorem Row.AYW {P : Program} {E : Env} {r : Row} {fn : Func} (hE : AI P E) (hf : P.funcs[r.g]? = some fn) (hb : fn.body.isSome = true) (hn : (fn.name == "runtime.NumGoroutine") = false) (ha : Nat.ble r.na fn.ntmps = true)
  {f:Au (leaves r.its)→Option (Au (leaves r.outs))} (he:∀ x,f x=r.self P E fn x):Ak P r.g (r.call f):=
 H0 hE hf hb hn ha he (Aal hE _ _ _)
end
end Go.Pev
end
section
namespace Go.Pev
noncomputable section
variable {P:Program} {E:Env} {r:Row} {fn:Func}
def Row.ev[Lk](r:Row)(E:Env):Env:={ E with keep:=r.mark 0,rows:=r.mark 1,arrs:=r.mark 2 }
def Row.Apk[Lk](r:Row)(E:Env)(f:Au (leaves r.its)→Option (Au (leaves r.outs))):Env:=r.put E (r.call f)
theorem Row.AE(r:Row)(hE:AI P E)(hf:P.funcs[r.g]? = some fn){f d:Au (leaves r.its)→Option (Au (leaves r.outs))}(he:∀ x,f x=d x)
  (hok:r.okF fn=true:=by kernel_rfl) (hd:∀ x,d x=r.self P (r.ev E) fn x:=by intro _;kernel_rfl):AI P (r.Apk E f):=by simp only[Row.okF,Apt,Aqz]at hok;obtain⟨hb,hn,⟨ha,hk⟩,hc⟩:=hok;exact Row.Ana hE (Row.AYW (E:=r.ev E) hE hf hb hn ha fun x=>(he x).trans (hd x)) hc
structure Ma{α β:Type}(f:α→β)where
 d:α→β
 h:∀ v,f v=d v
end
end Go.Pev
end
section
namespace Go.Pev
open Go.Proofs
noncomputable section
abbrev Akx:Row:=⟨247,0,0,1,0,none,CX,[(.ret,AP)],AA,[],[]⟩
def AW6[Lk]:Env:=Env.none.ext 247 true true (AG 0 1 CX AP AA Ami)
theorem ATp:AI Tryz.prog AW6:=Row.AE Akx Env.Akm Tryz.func247 AgF
abbrev AgT:Row:=⟨29,0,0,2,0,none,DO,[(.ret,AM)],AA,[(6,[[],[],[],[],[],[],[],[],[]])],[(0,Aac,Hx)]⟩
def ANv[Lk]:Env:=AW6.ext 29 true true (AG 0 2 DO AM AA Ov)
theorem ANu:AI Tryz.prog ANv:=Row.AE AgT ATp Tryz.func29 ACo
abbrev AdD:Row:=⟨123,0,0,1,0,none,AP,[(.ret,AM)],AA,[],[]⟩
def AMt[Lk]:Env:=ANv.ext 123 true true (AG 0 1 AP AM AA OK)
theorem AMs:AI Tryz.prog AMt:=Row.AE AdD ANu Tryz.func123 ABc
abbrev Aou:Row:=⟨173,0,0,2,0,none,C5,[(.ret,AM)],AA,[],[]⟩
def Amw[Lk]:Env:=AMt.ext 173 true true (AG 0 2 C5 AM AA tin)
theorem Aik:AI Tryz.prog Amw:=Row.AE Aou AMs Tryz.func173 AdR
abbrev Am9:Row:=⟨268,0,0,3,0,none,Lr,[(.ret,AP)],AA,[],[]⟩
def Ail[Lk]:Env:=Amw.ext 268 true true (AG 0 3 Lr AP AA AdW)
theorem AcV:AI Tryz.prog Ail:=Row.AE Am9 Aik Tryz.func268 AUR
abbrev AdC:Row:=⟨209,0,0,2,0,none,C5,[(.ret,Pa)],EN,[(5,[[],[],[],[],[],[],[],[],[]])],[]⟩
def AMr[Lk]:Env:=Ail.ext 209 true true (AG 0 2 C5 Pa EN AEg)
theorem AMq:AI Tryz.prog AMr:=Row.AE AdC AcV Tryz.func209 ABb
abbrev AjW:Row:=⟨170,0,0,1,0,none,AP,[(.ret,Vu)],I2,[],[(0,AdN,AIg)]⟩
def AWk[Lk]:Env:=AMr.ext 170 true true (AG 0 1 AP Vu I2 AUQ)
theorem ATT:AI Tryz.prog AWk:=Row.AE AjW AMq Tryz.func170 AIh
abbrev AgY:Row:=⟨137,0,0,2,0,none,Ci,[(.ret,AP)],AA,[],[(0,Aae,DY)]⟩
def ANx[Lk]:Env:=AWk.ext 137 true true (AG 0 2 Ci AP AA SY)
theorem ANw:AI Tryz.prog ANx:=Row.AE AgY ATT Tryz.func137 ACq
abbrev AL3:Row:=⟨231,0,0,2,0,none,Ci,[(.ret,AM)],AA,[],[]⟩
def UM[Lk]:Env:=ANx.ext 231 true true (AG 0 2 Ci AM AA GG)
theorem Zy:AI Tryz.prog UM:=Row.AE AL3 ANw Tryz.func231 Q6
abbrev An6:Row:=⟨125,0,0,1,0,none,E9,[(.ret,AP)],AA,[],[(0,AVU,AFi)]⟩
def Ai1[Lk]:Env:=UM.ext 125 true true (AG 0 1 E9 AP AA Afx)
theorem Acj:AI Tryz.prog Ai1:=Row.AE An6 Zy Tryz.func125 AVV
abbrev AlX:Row:=⟨219,0,0,2,0,none,AVu,[(.ret,BX)],AA,[],[]⟩
def AXD[Lk]:Env:=Ai1.ext 219 false true (AG 0 2 AVu BX AA ALE)
theorem ATw:AI Tryz.prog AXD:=Row.AE AlX Acj Tryz.func219 YQ
abbrev Abm:Row:=⟨149,0,0,1,0,none,ADC,[(.ret,BX)],AA,[],[(0,ASr,ASp),(1,ASq,ASo)]⟩
def S6[Lk]:Env:=AXD.ext 149 true true (AG 0 1 ADC BX AA Hc)
theorem Rc:AI Tryz.prog S6:=Row.AE Abm ATw Tryz.func149 PE
end
end Go.Pev
end
section
namespace Go.Pev
open Go.Proofs
noncomputable section
theorem AYv:Tryz.f207.body.isSome=true:=by kernel_rfl
theorem AYu : (Tryz.f207.name == "runtime.NumGoroutine") = false := by kernel_rfl
theorem AYt:loops (BU Tryz.f207)=0:=by kernel_rfl
def UG[Lk]:Env:=S6.ext 207 false false (Bb Tryz.prog S6 {} Tryz.f207)
theorem Za:AI Tryz.prog UG:=Env.Bi Rc (BI Rc Tryz.func207 AYv AYu AYt) (by simp) (by simp)
abbrev YK:Row:=⟨134,0,0,2,0,some (1,207),FF,[(.ret,AP)],AA,[],[(0,UZ,DY)]⟩
def Mv[Lk]:Env:=UG.BR 134 1 207 (AG 0 2 FF AP AA K9)
theorem RP:AI Tryz.prog Mv:=Row.AE YK Za Tryz.func134 LV
abbrev An2:Row:=⟨208,0,0,1,0,none,E9,[(.ret,AM)],AA,[],[(0,Akj,Aki)]⟩
def Aiy[Lk]:Env:=Mv.ext 208 true true (AG 0 1 E9 AM AA once)
theorem Acg:AI Tryz.prog Aiy:=Row.AE An2 RP Tryz.func208 AVO
abbrev AdB:Row:=⟨318,0,0,2,0,none,Ci,[(.ret,BX)],AA,[(1,[[],[],[],[],[],[],[],[0],[]])],[]⟩
def ZK[Lk]:Env:=Aiy.ext 318 true true (AG 0 2 Ci BX AA Wk)
theorem T9:AI Tryz.prog ZK:=Row.AE AdB Acg Tryz.func318 ABa
theorem AX6:Tryz.f230.body.isSome=true:=by kernel_rfl
theorem AX5 : (Tryz.f230.name == "runtime.NumGoroutine") = false := by kernel_rfl
theorem AX4:loops (BU Tryz.f230)=0:=by kernel_rfl
def UB[Lk]:Env:=ZK.ext 230 false false (Bb Tryz.prog ZK {} Tryz.f230)
theorem ZL:AI Tryz.prog UB:=Env.Bi T9 (BI T9 Tryz.func230 AX6 AX5 AX4) (by simp) (by simp)
abbrev SZ:Row:=⟨229,0,1,2,0,some (1,230),J8,[(.ret,J7)],AA,[],[(0,QX,QW)]⟩
def KN[Lk]:Env:=UB.BR 229 1 230 (AG 1 2 J8 J7 AA Ia)
theorem Nx:AI Tryz.prog KN:=Row.AE SZ ZL Tryz.func229 JJ
abbrev AdI:Row:=⟨174,0,0,2,0,none,Bt,[(.ret,AP)],AA,[],[]⟩
def ZM[Lk]:Env:=KN.ext 174 true true (AG 0 2 Bt AP AA Rm)
theorem UA:AI Tryz.prog ZM:=Row.AE AdI Nx Tryz.func174 ABf
theorem AmP:Tryz.f210.body.isSome=true:=by kernel_rfl
theorem AmO : (Tryz.f210.name == "runtime.NumGoroutine") = false := by kernel_rfl
theorem AmN:loops (BU Tryz.f210)=0:=by kernel_rfl
def AES[Lk]:Env:=ZM.ext 210 false false (Bb Tryz.prog ZM {} Tryz.f210)
theorem AII:AI Tryz.prog AES:=Env.Bi UA (BI UA Tryz.func210 AmP AmO AmN) (by simp) (by simp)
abbrev AoK:Row:=⟨126,0,0,2,0,none,AGA,[(.ret,AM)],AA,[(8,[[],[],[],[],[],[],[],[],[1000003],[],[],[],[],[],[],[],[],[0],[0],[0],[],[0],[0],[0],[2,26],[],[2,26],[2,26],[],[],[],[],[]]),(13,[[],[0],[0],[0],[2],[],[],[],[0],[0],[0],[6],[],[0],[0],[0],[4],[],[],[]]),(3,[[],[],[],[],[],[],[],[],[11],[],[],[],[8,10,12],[]])],[(0,Ald,Alc)]⟩
def Ai9[Lk]:Env:=AES.ext 126 true true (AG 0 2 AGA AM AA goes)
theorem Acr:AI Tryz.prog Ai9:=Row.AE AoK AII Tryz.func126 AVw
abbrev An5:Row:=⟨249,0,0,1,0,none,AP,[(.ret,AM)],AA,[],[]⟩
def Ai0[Lk]:Env:=Ai9.ext 249 true true (AG 0 1 AP AM AA AZv)
theorem Aci:AI Tryz.prog Ai0:=Row.AE An5 Acr Tryz.func249 AFf
abbrev ASs:Row:=⟨189,0,0,2,0,none,C5,[(.ret,AP)],AA,[],[]⟩
def Zz[Lk]:Env:=Ai0.ext 189 true true (AG 0 2 C5 AP AA EX)
theorem ABJ:AI Tryz.prog Zz:=Row.AE ASs Aci Tryz.func189 Mi
abbrev AjI:Row:=⟨321,0,0,2,0,none,DO,[(.ret,AP)],AA,[(1,[[],[],[],[],[],[],[],[]])],[]⟩
def AWd[Lk]:Env:=Zz.ext 321 true true (AG 0 2 DO AP AA B8)
theorem ATN:AI Tryz.prog AWd:=Row.AE AjI ABJ Tryz.func321 AIR
end
end Go.Pev
end
section
namespace Go.Pev
open Go.Proofs
noncomputable section
abbrev Akw:Row:=⟨248,0,0,1,0,none,NY,[(.ret,AP)],AA,[],[]⟩
def AW5[Lk]:Env:=AWd.ext 248 true true (AG 0 1 NY AP AA AVh)
theorem ATo:AI Tryz.prog AW5:=Row.AE Akw ATN Tryz.func248 AKv
abbrev AcG:Row:=⟨187,0,0,1,0,none,NY,[(.ret,AP)],AA,[],[]⟩
def AEP[Lk]:Env:=AW5.ext 187 true true (AG 0 1 NY AP AA bitsLen)
theorem AIE:AI Tryz.prog AEP:=Row.AE AcG ATo Tryz.func187 Y2
abbrev AXT:Row:=⟨295,0,1,1,0,none,ABM,[(.ret,ABL)],AA,[(3,[[],[0],[0],[],[0],[0],[],[],[0],[1]]),(2,[[],[0],[0],[],[0],[0],[],[],[0],[1]]),(1,[[],[0],[0],[],[0],[0],[],[],[0],[1]])],[]⟩
def ADO[Lk]:Env:=AEP.ext 295 false true (AG 1 1 ABM ABL AA xorNext)
theorem AG5:AI Tryz.prog ADO:=Row.AE AXT AIE Tryz.func295 WY
abbrev AZu:Row:=⟨294,0,0,1,0,none,AP,[(.ret,NY)],AA,[],[]⟩
def AD0[Lk]:Env:=ADO.ext 294 true true (AG 0 1 AP NY AA QB)
theorem AHp:AI Tryz.prog AD0:=Row.AE AZu AG5 Tryz.func294 Xv
abbrev AoC:Row:=⟨370,0,1,4,0,some (3,321),HC,[(.ret,Dm)],Ah,[(4,[[],[],[],[],[],[],[],[0],[0],[],[],[],[0],[0],[],[],[]]),(6,[[],[],[],[],[],[],[],[],[0],[0],[],[],[0],[0],[0],[1],[0],[1]])],[(0,Ak8,AFu),(1,Ak7,Ak6)]⟩
def Ai5[Lk]:Env:=AD0.BR 370 3 321 (AG 1 4 HC Dm Ah ApC)
theorem Acn:AI Tryz.prog Ai5:=Row.AE AoC AHp Tryz.func370 Ak9
abbrev Ajq:Row:=⟨390,0,1,5,0,some (4,321),E3,[(.ret,Dm)],Ah,[(6,[[],[],[],[],[],[],[],[],[],[],[],[],[0],[0],[],[],[],[],[0],[0],[0],[1],[0],[1]]),(5,[[],[],[],[],[],[0],[0],[],[],[],[],[0],[0],[],[],[]]),(3,[[],[],[],[],[],[],[],[],[],[],[0],[0],[],[],[],[],[],[0],[0],[],[],[]])],[(0,Adw,Adv)]⟩
def AWs[Lk]:Env:=Ai5.BR 390 4 321 (AG 1 5 E3 Dm Ah AmW)
theorem ATb:AI Tryz.prog AWs:=Row.AE Ajq Acn Tryz.func390 Adx
abbrev AlS:Row:=⟨371,0,1,4,0,some (3,321),HC,[(.ret,Dm)],Ah,[(10,[[],[],[],[],[],[],[],[],[],[],[0],[0],[],[],[0],[0],[0],[1],[0],[1]])],[(0,Agn,Agl),(1,Agm,Agk)]⟩
def AW9[Lk]:Env:=AWs.BR 371 3 321 (AG 1 4 HC Dm Ah Aml)
theorem ATs:AI Tryz.prog AW9:=Row.AE AlS ATb Tryz.func371 Ago
abbrev AiB:Row:=⟨372,0,1,4,0,some (3,321),HC,[(.ret,Dm)],Ah,[(10,[[],[],[],[],[],[],[],[],[],[],[0],[0],[],[],[0],[0],[0],[1],[0],[1]])],[(0,Ab8,AFu)]⟩
def AOf[Lk]:Env:=AW9.BR 372 3 321 (AG 1 4 HC Dm Ah AiC)
theorem AOe:AI Tryz.prog AOf:=Row.AE AiB ATs Tryz.func372 Ab9
abbrev AZn:Row:=⟨396,0,2,5,0,some (4,321),ACO,[(.ret,ACN)],AQ,[(1,[[],[],[],[0],[0],[],[],[0],[0],[],[]])],[]⟩
def ADx[Lk]:Env:=AOf.BR 396 4 321 (AG 2 5 ACO ACN AQ AVL)
theorem AHm:AI Tryz.prog ADx:=Row.AE AZn AOe Tryz.func396 ARB
abbrev AZ2:Row:=⟨392,0,2,6,0,some (5,321),ACV,[(.ret,NS)],AA,[],[]⟩
def AD2[Lk]:Env:=ADx.BR 392 5 321 (AG 2 6 ACV NS AA AVX)
theorem AHr:AI Tryz.prog AD2:=Row.AE AZ2 AHm Tryz.func392 ARP
abbrev AZ9:Row:=⟨391,0,2,4,0,some (3,321),ACa,[(.ret,NS)],AA,[],[]⟩
def AD6[Lk]:Env:=AD2.BR 391 3 321 (AG 2 4 ACa NS AA AVa)
theorem AHv:AI Tryz.prog AD6:=Row.AE AZ9 AHr Tryz.func391 ARU
abbrev Aez:Row:=⟨373,0,1,4,0,some (3,321),HC,[(.ret,AJr)],AQ,[],[]⟩
def ANX[Lk]:Env:=AD6.BR 373 3 321 (AG 1 4 HC AJr AQ Ae0)
theorem ANW:AI Tryz.prog ANX:=Row.AE Aez AHv Tryz.func373 AZL
end
end Go.Pev
end
section
namespace Go.Pev
open Go.Proofs
noncomputable section
abbrev AnG:Row:=⟨374,0,1,4,0,some (3,321),HC,[(.ret,Dm)],Ah,[(3,[[],[],[],[],[],[],[0],[0],[],[],[0],[0],[0],[1],[0],[1]])],[(0,Aj1,AFu)]⟩
def Ain[Lk]:Env:=ANX.BR 374 3 321 (AG 1 4 HC Dm Ah Aoz)
theorem AcX:AI Tryz.prog Ain:=Row.AE AnG ANW Tryz.func374 Aj2
abbrev AQl:Row:=⟨375,0,1,4,0,some (3,321),HC,[(.ret,Xf)],AA,[(11,[[],[],[],[],[],[],[],[],[0],[0],[],[],[0],[0],[0],[1],[0],[1]]),(5,[[],[],[],[],[],[],[],[0],[0],[],[],[],[0],[0],[],[],[],[]]),(17,[[],[],[],[],[],[],[],[],[0],[0],[],[],[0],[0],[0],[1],[0],[1]]),(16,[[],[],[],[0],[0],[],[],[],[0],[0],[],[],[]]),(23,[[],[],[],[],[],[],[],[],[0],[0],[],[],[0],[0],[0],[1],[0],[1]]),(22,[[],[],[],[0],[0],[],[],[],[0],[0],[],[],[]])],[(0,TT,AKE),(1,TT,AKD),(2,AKG,AKC),(3,AKF,AKB)]⟩
def Zf[Lk]:Env:=Ain.BR 375 3 321 (AG 1 4 HC Xf AA AKI)
theorem AA6:AI Tryz.prog Zf:=Row.AE AQl AcX Tryz.func375 AKH
abbrev AZf:Row:=⟨376,0,1,5,0,some (4,321),E3,[(.ret,ACG)],AA,[(8,[[],[],[],[],[],[],[0],[0],[],[],[0],[0],[0],[1],[0],[1]]),(3,[[],[],[],[],[],[],[],[0],[0],[],[],[0],[0],[],[],[],[]]),(5,[[],[],[],[],[],[],[],[0],[0],[],[],[0],[0],[],[],[]]),(1,[[],[],[],[],[],[],[0],[0],[],[],[0],[0],[0],[1],[0],[1]])],[(0,OX,AQw),(1,OX,AQv),(2,OX,AQu)]⟩
def ADt[Lk]:Env:=Zf.BR 376 4 321 (AG 1 5 E3 ACG AA AVH)
theorem AHh:AI Tryz.prog ADt:=Row.AE AZf AA6 Tryz.func376 AQx
abbrev Akc:Row:=⟨377,0,1,5,0,some (4,321),E3,[(.ret,AVC)],AQ,[(3,[[],[],[],[],[],[],[],[0],[0],[],[],[0],[0],[],[],[]]),(5,[[],[],[],[],[],[],[],[0],[0],[],[],[0],[0],[],[],[],[]]),(18,[[],[],[],[],[],[],[0],[0],[],[],[0],[0],[0],[1],[0],[1]]),(13,[[],[],[],[],[],[],[],[0],[0],[],[],[0],[0],[],[],[]]),(15,[[],[],[],[],[],[],[],[0],[0],[],[],[0],[0],[],[],[],[]]),(21,[[],[],[],[],[],[],[0],[0],[],[],[0],[0],[0],[1],[0],[1]]),(10,[[],[],[],[],[],[],[0],[0],[],[],[0],[0],[0],[1],[0],[1]]),(8,[[],[],[],[],[],[],[0],[0],[],[],[0],[0],[0],[1],[0],[1]]),(1,[[],[],[],[],[],[],[0],[0],[],[],[0],[0],[0],[1],[0],[1]])],[(0,L5,AfW),(1,L5,AfV),(2,L5,AfU),(3,L5,AfT),(4,L5,AfS)]⟩
def AHe[Lk]:Env:=ADt.BR 377 4 321 (AG 1 5 E3 AVC AQ Amg)
theorem Zd:AI Tryz.prog AHe:=Row.AE Akc AHh Tryz.func377 AfX
abbrev AQa(self:(List (List Int)×Int×Int×Int×Unit)→Option ((List (List Int)×Unit))):Hints:={ loop:=fun n=>match n with|0=>Kw 1 148 AU5 AU4 (AU3 self)|_=>fun _ _ _=>none,fp:=fun n=>match n with|17=>[[],[],[],[],[],[],[],[0],[0],[],[],[0],[0],[],[],[],[]]|_=>[] }
abbrev AFV(self:(List (List Int)×Int×Int×Int×Unit)→Option ((List (List Int)×Unit))):Env:=AHe.ext 346 false true (AG 1 5 E3 Dm Ah self)
theorem AQZ(self:(List (List Int)×Int×Int×Int×Unit)→Option ((List (List Int)×Unit))):∀ v,AU3 self v=roundOf Tryz.prog (AFV self) (AQa self) 1 1 148 (CZ Tryz.f346 0) AU5 AU4 v:=by rintro⟨a0,a1,a2,a3,a4,a5,⟨⟩⟩;kernel_rfl
theorem AkN:B5 (CZ Tryz.f346 0) 1=[]:=by kernel_rfl
theorem AkO(self:(List (List Int)×Int×Int×Int×Unit)→Option ((List (List Int)×Unit)))(hE:AI Tryz.prog (AFV self)):Iv Tryz.prog 1 (.loop (CZ Tryz.f346 0)) ((AQa self).loop 0):=QJ hE (AQZ self) (D0 AkN trivial)
theorem AfF(self:(List (List Int)×Int×Int×Int×Unit)→Option ((List (List Int)×Unit))):∀ v,Ani self v=DC 1 Tryz.prog (AFV self) (AQa self) Tryz.f346 E3 Dm Ah v:=by rintro⟨a0,a1,a2,a3,⟨⟩⟩;kernel_rfl
theorem Anh:B5 (BU Tryz.f346) 0=[(0,CZ Tryz.f346 0)]:=by kernel_rfl
theorem AQb:∀ n,Ak Tryz.prog 346 (AG 1 5 E3 Dm Ah (Xc n)):=by
 intro n;induction n with
  |zero=>exact JB fun _=>rfl
  |succ n ih=>have hE:AI Tryz.prog (AFV (Xc n)):=Env.Bi Zd ih ((by simp)) (fun _=>Bw rfl rfl);let self:=Xc n;exact H0 hE Tryz.func346 (by kernel_rfl) (by kernel_rfl) rfl (AfF self) (D0 Anh ⟨(AkO self hE),trivial⟩)
theorem AZX:Ak Tryz.prog 346 (AG 1 5 E3 Dm Ah AkQ):=by have e:AkQ=Xc 100:=funext AkP;rw[e];exact AQb _
def Ait[Lk]:Env:=AHe.BR 346 4 321 (AG 1 5 E3 Dm Ah AkQ)
theorem Acd:AI Tryz.prog Ait:=Env.Qt Zd AZX (Bw rfl rfl)
abbrev Aji:Row:=⟨320,0,1,2,0,some (1,321),AUa,[(.ret,Dm)],Ah,[],[]⟩
def AHJ[Lk]:Env:=Ait.BR 320 1 321 (AG 1 2 AUa Dm Ah AUb)
theorem ZU:AI Tryz.prog AHJ:=Row.AE Aji Acd Tryz.func320 Adi
theorem AdV:Tryz.f172.body.isSome=true:=by kernel_rfl
theorem AdU : (Tryz.f172.name == "runtime.NumGoroutine") = false := by kernel_rfl
theorem AdT:loops (BU Tryz.f172)=0:=by kernel_rfl
def ZQ[Lk]:Env:=AHJ.ext 172 false false (Bb Tryz.prog AHJ {} Tryz.f172)
theorem AA0:AI Tryz.prog ZQ:=Env.Bi ZU (BI ZU Tryz.func172 AdV AdU AdT) (by simp) (by simp)
abbrev Sa:Row:=⟨134,0,1,2,0,some (1,172),EB,[(.ret,J9)],AA,[],[(0,QZ,QY)]⟩
def KO[Lk]:Env:=ZQ.BR 134 1 172 (AG 1 2 EB J9 AA Ib)
theorem Ny:AI Tryz.prog KO:=Row.AE Sa AA0 Tryz.func134 JK
abbrev AoO:Row:=⟨265,0,0,1,0,none,AhR,[(.ret,BX)],AA,[],[(0,Alv,AV5)]⟩
def AjD[Lk]:Env:=KO.ext 265 true true (AG 0 1 AhR BX AA ends)
theorem Acv:AI Tryz.prog AjD:=Row.AE AoO Ny Tryz.func265 AV6
abbrev Ao6:Row:=⟨188,0,0,1,0,none,E9,[(.ret,AP)],AA,[],[(0,An1,An0)]⟩
def Amz[Lk]:Env:=AjD.ext 188 true true (AG 0 1 E9 AP AA orI)
theorem Aix:AI Tryz.prog Amz:=Row.AE Ao6 Acv Tryz.func188 Aft
abbrev Af2:Row:=⟨167,0,0,1,0,none,AP,[(.ret,AM)],AA,[],[]⟩
def ANj[Lk]:Env:=Amz.ext 167 true true (AG 0 1 AP AM AA Xy)
theorem ANi:AI Tryz.prog ANj:=Row.AE Af2 Aix Tryz.func167 SK
abbrev An7:Row:=⟨168,0,0,1,0,none,AP,[(.ret,AP)],AA,[],[]⟩
def Ai2[Lk]:Env:=ANj.ext 168 true true (AG 0 1 AP AP AA AFk)
theorem Ack:AI Tryz.prog Ai2:=Row.AE An7 ANi Tryz.func168 Akp
end
end Go.Pev
end
section
namespace Go.Pev
open Go.Proofs
noncomputable section
abbrev ARj:Row:=⟨169,0,0,2,0,none,Kz,[(.ret,AP)],AA,[(1,[[0],[0],[2],[2],[],[0],[0],[2],[2],[],[],[20],[]])],[]⟩
def Zl[Lk]:Env:=Ai2.ext 169 true true (AG 0 2 Kz AP AA IX)
theorem AA9:AI Tryz.prog Zl:=Row.AE ARj Ack Tryz.func169 Tg
abbrev Af0:Row:=⟨88,0,0,2,0,none,EU,[(.ret,Jy)],AA,[],[(0,AaG,ACf)]⟩
def ANh[Lk]:Env:=Zl.ext 88 true true (AG 0 2 EU Jy AA SJ)
theorem ANg:AI Tryz.prog ANh:=Row.AE Af0 AA9 Tryz.func88 SH
abbrev AL9:Row:=⟨30,0,0,2,0,none,CM,[(.ret,BX)],AA,[(14,[[],[],[0],[0],[],[],[0],[0],[],[]]),(13,[[],[],[],[],[],[],[],[],[],[],[],[],[],[],[],[],[],[],[],[0],[0],[],[],[0],[0],[],[]]),(12,[[],[],[],[],[],[],[],[],[],[],[],[]])],[(0,AGn,AGk),(1,AGm,AGj),(2,AGl,AGi)]⟩
def UN[Lk]:Env:=ANh.ext 30 true true (AG 0 2 CM BX AA Nm)
theorem Z0:AI Tryz.prog UN:=Row.AE AL9 ANg Tryz.func30 RA
abbrev AjV:Row:=⟨80,0,0,1,0,none,AP,[(.ret,AP)],AA,[],[(0,AdK,AFi)]⟩
def AWj[Lk]:Env:=UN.ext 80 true true (AG 0 1 AP AP AA Pd)
theorem ATS:AI Tryz.prog AWj:=Row.AE AjV Z0 Tryz.func80 AdL
abbrev AYx:Row:=⟨28,0,0,1,0,none,DV,[(.ret,AM)],AA,[(10,[[],[],[],[0],[0],[],[],[],[],[],[4],[4],[],[],[0],[0],[],[],[],[],[],[4],[4],[],[],[0],[0],[],[],[],[],[],[4],[4],[],[],[],[]]),(8,[[4],[4],[],[],[4],[4],[4],[4],[],[],[],[4],[4],[0],[0],[],[],[],[4],[4],[],[],[],[4],[4],[0],[0],[],[],[]])],[(0,APw,APu),(1,APv,APt)]⟩
def ADj[Lk]:Env:=AWj.ext 28 true true (AG 0 1 DV AM AA HQ)
theorem AHT:AI Tryz.prog ADj:=Row.AE AYx ATS Tryz.func28 Fm
abbrev AoH:Row:=⟨307,0,0,2,0,none,C5,[(.ret,AM)],AA,[],[]⟩
def Ai8[Lk]:Env:=ADj.ext 307 true true (AG 0 2 C5 AM AA AFx)
theorem Acq:AI Tryz.prog Ai8:=Row.AE AoH AHT Tryz.func307 AVm
abbrev AX8:Row:=⟨358,0,0,2,0,none,C5,[(.ret,Pa)],EN,[(5,[[],[],[],[],[],[],[],[],[],[],[],[]])],[]⟩
def ADT[Lk]:Env:=Ai8.ext 358 true true (AG 0 2 C5 Pa EN Pe)
theorem AHA:AI Tryz.prog ADT:=Row.AE AX8 Acq Tryz.func358 Wu
abbrev AmL:Row:=⟨310,0,0,3,0,none,Lr,[(.ret,AP)],AA,[],[]⟩
def AXR[Lk]:Env:=ADT.ext 310 true true (AG 0 3 Lr AP AA ADL)
theorem AUA:AI Tryz.prog AXR:=Row.AE AmL AHA Tryz.func310 AMY
abbrev Afy:Row:=⟨215,0,0,1,0,none,AP,[(.ret,Vu)],I2,[],[(0,AaE,AIg)]⟩
def ANf[Lk]:Env:=AXR.ext 215 true true (AG 0 1 AP Vu I2 Xx)
theorem ANe:AI Tryz.prog ANf:=Row.AE Afy AUA Tryz.func215 ACe
abbrev APP:Row:=⟨359,0,0,3,0,none,Lr,[(.ret,AM)],AA,[],[]⟩
def ZR[Lk]:Env:=ANf.ext 359 true true (AG 0 3 Lr AM AA Ph)
theorem AA1:AI Tryz.prog ZR:=Row.AE APP ANe Tryz.func359 TE
abbrev AdH:Row:=⟨340,0,0,2,0,none,AGA,[(.ret,AM)],AA,[(7,[[],[],[0],[0],[],[],[],[],[0],[],[0],[0],[],[],[],[],[0],[],[0],[0],[],[],[]])],[(0,AX3,AX0),(1,AX2,AXz),(2,AX1,AXy)]⟩
def AMx[Lk]:Env:=ZR.ext 340 true true (AG 0 2 AGA AM AA AEj)
theorem AMw:AI Tryz.prog AMx:=Row.AE AdH AA1 Tryz.func340 ABe
abbrev AZJ:Row:=⟨217,0,0,2,0,none,Ci,[(.ret,AP)],AA,[],[(0,AQR,DY)]⟩
def ADq[Lk]:Env:=AMx.ext 217 true true (AG 0 2 Ci AP AA Km)
theorem AHb:AI Tryz.prog ADq:=Row.AE AZJ AMw Tryz.func217 XZ
end
end Go.Pev
end
section
namespace Go.Pev
open Go.Proofs
noncomputable section
abbrev AYz:Row:=⟨146,0,0,1,0,none,E9,[(.ret,AM)],AA,[(6,[[],[],[],[],[],[],[],[],[],[],[],[],[],[],[],[],[],[],[],[],[],[],[]])],[(0,AP1,OR)]⟩
def ADl[Lk]:Env:=ADq.ext 146 true true (AG 0 1 E9 AM AA I5)
theorem AHV:AI Tryz.prog ADl:=Row.AE AYz AHb Tryz.func146 XR
abbrev AhF:Row:=⟨309,0,0,2,0,none,Ci,[(.ret,Gt)],AQ,[(4,[[],[],[],[],[17],[],[],[],[19],[],[]])],[]⟩
def AN3[Lk]:Env:=ADl.ext 309 true true (AG 0 2 Ci Gt AQ Se)
theorem AN2:AI Tryz.prog AN3:=Row.AE AhF AHV Tryz.func309 ACy
abbrev AZF:Row:=⟨341,0,0,1,0,none,E9,[(.ret,BX)],AA,[],[(0,AVU,AQN)]⟩
def ADo[Lk]:Env:=AN3.ext 341 true true (AG 0 1 E9 BX AA P1)
theorem AHZ:AI Tryz.prog ADo:=Row.AE AZF AN2 Tryz.func341 XW
abbrev AaN:Row:=⟨154,0,0,2,0,none,ACh,[(.ret,AM)],AA,[(6,[[],[],[],[],[],[],[],[],[],[]])],[(0,ARd,Hx)]⟩
def AD9[Lk]:Env:=ADo.ext 154 true true (AG 0 2 ACh AM AA QK)
theorem AHy:AI Tryz.prog AD9:=Row.AE AaN AHZ Tryz.func154 X1
abbrev AYy:Row:=⟨306,0,0,1,0,none,NL,[(.ret,AM)],AA,[(16,[[],[],[],[],[0],[0],[]])],[(0,AP0,APy),(1,APz,APx)]⟩
def ADk[Lk]:Env:=AD9.ext 306 true true (AG 0 1 NL AM AA Pv)
theorem AHU:AI Tryz.prog ADk:=Row.AE AYy AHy Tryz.func306 XQ
abbrev AZI:Row:=⟨308,0,0,2,0,none,Bt,[(.ret,AP)],AA,[],[(0,AQQ,DY)]⟩
def ADp[Lk]:Env:=ADk.ext 308 true true (AG 0 2 Bt AP AA Kl)
theorem AHa:AI Tryz.prog ADp:=Row.AE AZI AHU Tryz.func308 XY
abbrev AkA:Row:=⟨312,0,0,2,0,none,AUq,[(.ret,WD)],AA,[(3,[[],[],[],[],[],[],[],[],[],[],[],[],[0],[0],[],[]]),(5,[[],[],[],[],[3],[],[0],[5,6],[],[],[],[9],[]])],[(0,Aeh,Aeg)]⟩
def AWz[Lk]:Env:=ADp.ext 312 true true (AG 0 2 AUq WD AA AJi)
theorem ATi:AI Tryz.prog AWz:=Row.AE AkA AHa Tryz.func312 AJh
abbrev AIP:Row:=⟨311,0,0,2,0,none,TA,[(.ret,WD)],AA,[(1,[[],[],[],[],[1],[],[],[],[],[3],[]])],[]⟩
def T6[Lk]:Env:=AWz.ext 311 true true (AG 0 2 TA WD AA Fg)
theorem ZH:AI Tryz.prog T6:=Row.AE AIP ATi Tryz.func311 PT
abbrev AgB:Row:=⟨261,0,0,3,0,none,J1,[(.ret,QL)],I2,[(13,[[0],[0],[],[],[],[],[102],[],[110,100],[],[3],[]]),(11,[[],[0],[0],[],[],[],[],[87,96],[],[60],[99,60],[]]),(7,[[0],[],[],[0],[],[],[],[]]),(5,[[0],[],[],[0],[],[],[],[]])],[]⟩
def ANn[Lk]:Env:=T6.ext 261 true true (AG 0 3 J1 QL I2 Oh)
theorem ANm:AI Tryz.prog ANn:=Row.AE AgB ZH Tryz.func261 J2
abbrev AYG:Row:=⟨260,0,0,2,0,none,DT,[(.ret,AP)],AA,[(6,[[],[],[],[],[],[],[],[],[],[],[],[],[0],[0],[],[],[],[],[],[],[],[],[],[],[],[],[],[],[],[],[0],[0],[],[]])],[(0,API,DY)]⟩
def ADZ[Lk]:Env:=ANn.ext 260 true true (AG 0 2 DT AP AA Vx)
theorem AHG:AI Tryz.prog ADZ:=Row.AE AYG ANm Tryz.func260 Wz
abbrev AaO:Row:=⟨216,0,0,2,0,none,DT,[(.ret,Hu)],BE,[(8,[[0],[],[],[],[],[],[],[],[],[],[],[],[],[],[],[],[15],[]])],[(0,ARg,ARf)]⟩
def AEA[Lk]:Env:=ADZ.ext 216 true true (AG 0 2 DT Hu BE WH)
theorem AHz:AI Tryz.prog AEA:=Row.AE AaO AHG Tryz.func216 X2
abbrev An4:Row:=⟨145,0,0,2,0,none,CM,[(.ret,Bt)],AQ,[],[]⟩
def Aiz[Lk]:Env:=AEA.ext 145 true true (AG 0 2 CM Bt AQ Akk)
theorem Ach:AI Tryz.prog Aiz:=Row.AE An4 AHz Tryz.func145 AVT
end
end Go.Pev
end
section
namespace Go.Pev
open Go.Proofs
noncomputable section
abbrev AXx:Row:=⟨32,0,0,2,0,none,EU,[(.ret,Jy)],AA,[(6,[[],[0],[0],[],[],[],[],[0],[0],[],[],[],[],[],[],[3,4],[]])],[(0,AO4,ACf)]⟩
def ADS[Lk]:Env:=Aiz.ext 32 true true (AG 0 2 EU Jy AA Vt)
theorem AG9:AI Tryz.prog ADS:=Row.AE AXx Ach Tryz.func32 Wr
abbrev ARy:Row:=⟨71,0,0,2,0,none,EU,[(.ret,Bt)],AQ,[(3,[[0],[0],[0],[],[],[12],[],[],[3],[]])],[]⟩
def Zq[Lk]:Env:=ADS.ext 71 true true (AG 0 2 EU Bt AQ Qp)
theorem ABE:AI Tryz.prog Zq:=Row.AE ARy AG9 Tryz.func71 Tn
theorem Ahw : (Tryz.f131.name == "runtime.NumGoroutine") = false := by kernel_rfl
theorem AGg:GO Tryz.prog Tryz.f131 36 3 (.int .i64) where
 body:=by kernel_rfl
 nt:=by kernel_rfl
 res:=by kernel_rfl
 d:=⟨by kernel_rfl,by kernel_rfl,by kernel_rfl,by kernel_rfl,by kernel_rfl,by kernel_rfl,by kernel_rfl,by kernel_rfl⟩
 g:=⟨by kernel_rfl,by kernel_rfl,by kernel_rfl,by kernel_rfl,by kernel_rfl,by kernel_rfl,by kernel_rfl,by kernel_rfl⟩
 o00:=by kernel_rfl
 o10:=by kernel_rfl
 o11:=by kernel_rfl
 o20:=by kernel_rfl
 o30:=by kernel_rfl
 o31:=by kernel_rfl
 o32:=by kernel_rfl
 o33:=by kernel_rfl
 sl:=by kernel_rfl
 z:=by kernel_rfl
 by1:=by kernel_rfl
def AOT[Lk]:Env:=Zq.ext 131 true true (Da 3 (.int .i64))
theorem AOS:AI Tryz.prog AOT:=Env.Bi ABE (Mj AGg Tryz.func131 Ahw) (fun _=>BZ _ _) (fun _=>(BZ _ _).AX9)
abbrev Ahs:Row:=⟨133,0,0,2,0,none,Q8,[(.ret,CX)],AA,[],[]⟩
def AON[Lk]:Env:=AOT.ext 133 true true (AG 0 2 Q8 CX AA Sn)
theorem AOM:AI Tryz.prog AON:=Row.AE Ahs AOS Tryz.func133 Sm
abbrev Am5:Row:=⟨211,0,0,1,0,none,CX,[(.ret,AP)],AA,[],[]⟩
def Aih[Lk]:Env:=AON.ext 211 true true (AG 0 1 CX AP AA AXo)
theorem AcT:AI Tryz.prog Aih:=Row.AE Am5 AOM Tryz.func211 AUJ
abbrev Aby:Row:=⟨132,0,0,1,0,none,CX,[(.ret,AP)],AA,[],[]⟩
def AEM[Lk]:Env:=Aih.ext 132 true true (AG 0 1 CX AP AA WS)
theorem AIB:AI Tryz.prog AEM:=Row.AE Aby AcT Tryz.func132 Yv
abbrev AdA:Row:=⟨130,0,0,1,0,none,AP,[(.ret,AM)],AA,[],[]⟩
def ZI[Lk]:Env:=AEM.ext 130 true true (AG 0 1 AP AM AA AEe)
theorem T7:AI Tryz.prog ZI:=Row.AE AdA AIB Tryz.func130 ABZ
theorem AO0:Tryz.f129.body.isSome=true:=by kernel_rfl
theorem AOz : (Tryz.f129.name == "runtime.NumGoroutine") = false := by kernel_rfl
theorem AOy:loops (BU Tryz.f129)=0:=by kernel_rfl
def RN[Lk]:Env:=ZI.ext 129 false false (Bb Tryz.prog ZI {} Tryz.f129)
theorem VV:AI Tryz.prog RN:=Env.Bi T7 (BI T7 Tryz.func129 AO0 AOz AOy) (by simp) (by simp)
abbrev AAQ:Row:=⟨134,0,0,2,0,some (1,129),GV,[(.ret,AP)],AA,[],[(0,YJ,DY)]⟩
def OF[Lk]:Env:=RN.BR 134 1 129 (AG 0 2 GV AP AA MK)
theorem S2:AI Tryz.prog OF:=Row.AE AAQ VV Tryz.func134 MJ
abbrev AIZ:Row:=⟨59,0,0,2,0,none,I1,[(.ret,BX)],AA,[],[(0,AEf,PY)]⟩
def T8[Lk]:Env:=OF.ext 59 true true (AG 0 2 I1 BX AA NA)
theorem ZJ:AI Tryz.prog T8:=Row.AE AIZ S2 Tryz.func59 PZ
abbrev AoZ:Row:=⟨148,0,0,2,0,none,Q8,[(.ret,CX)],AA,[],[]⟩
def AjH[Lk]:Env:=T8.ext 148 true true (AG 0 2 Q8 CX AA AmG)
theorem Acy:AI Tryz.prog AjH:=Row.AE AoZ ZJ Tryz.func148 AWR
abbrev Al9:Row:=⟨218,0,0,2,0,none,AWO,[(.ret,CX)],AA,[],[]⟩
def AXN[Lk]:Env:=AjH.ext 218 true true (AG 0 2 AWO CX AA AWP)
theorem AT6:AI Tryz.prog AXN:=Row.AE Al9 Acy Tryz.func218 AMV
end
end Go.Pev
end
section
namespace Go.Pev
open Go.Proofs
noncomputable section
abbrev ARt:Row:=⟨147,0,0,1,0,none,CX,[(.ret,AP)],AA,[],[(0,ALB,AFi)]⟩
def Zo[Lk]:Env:=AXN.ext 147 true true (AG 0 1 CX AP AA Qj)
theorem ABC:AI Tryz.prog Zo:=Row.AE ARt AT6 Tryz.func147 Tl
abbrev ALA:Row:=⟨73,0,0,2,0,none,I1,[(.ret,BX)],AA,[],[(0,AF6,PY)]⟩
def UI[Lk]:Env:=Zo.ext 73 true true (AG 0 2 I1 BX AA Nb)
theorem Zn:AI Tryz.prog UI:=Row.AE ALA ABC Tryz.func73 Qi
abbrev Ab5:Row:=⟨72,0,0,2,0,none,DO,[(.ret,Nn)],H3,[],[(0,ATC,AS8),(1,ATB,AS7),(2,ATA,AS6),(3,AS9,AS5)]⟩
def AEO[Lk]:Env:=UI.ext 72 true true (AG 0 2 DO Nn H3 WU)
theorem AID:AI Tryz.prog AEO:=Row.AE Ab5 Zn Tryz.func72 Yy
abbrev AeD:Row:=⟨76,0,0,2,0,none,AJL,[(.ret,AM)],AA,[],[]⟩
def ZZ[Lk]:Env:=AEO.ext 76 true true (AG 0 2 AJL AM AA AFB)
theorem UE:AI Tryz.prog ZZ:=Row.AE AeD AID Tryz.func76 AB3
theorem Alb:Tryz.f191.body.isSome=true:=by kernel_rfl
theorem Ala : (Tryz.f191.name == "runtime.NumGoroutine") = false := by kernel_rfl
theorem AlZ:loops (BU Tryz.f191)=0:=by kernel_rfl
def AEE[Lk]:Env:=ZZ.ext 191 false false (Bb Tryz.prog ZZ {} Tryz.f191)
theorem AH3:AI Tryz.prog AEE:=Env.Bi UE (BI UE Tryz.func191 Alb Ala AlZ) (by simp) (by simp)
abbrev AF3:Row:=⟨225,0,3,2,0,some (1,191),HX,[(.ret,Qe)],AA,[],[(0,AAa,AAZ)]⟩
def RV[Lk]:Env:=AEE.BR 225 1 191 (AG 3 2 HX Qe AA O4)
theorem VY:AI Tryz.prog RV:=Row.AE AF3 AH3 Tryz.func225 AAb
abbrev ARw:Row:=⟨108,0,0,2,0,none,YT,[(.ret,AP)],AA,[(1,[[0],[0],[2],[2],[],[0],[0],[2],[2],[],[],[20],[]])],[]⟩
def Zp[Lk]:Env:=RV.ext 108 true true (AG 0 2 YT AP AA Ay)
theorem ABD:AI Tryz.prog Zp:=Row.AE ARw VY Tryz.func108 ALJ
abbrev AoG:Row:=⟨285,0,1,4,0,some (3,108),HD,[(.ret,Dp)],Ah,[(4,[[],[],[],[],[],[],[],[0],[0],[],[],[],[0],[0],[],[],[]]),(6,[[],[],[],[],[],[],[],[],[0],[0],[],[],[0],[0],[0],[1],[0],[1]])],[(0,AlK,AFw),(1,AlJ,AlI)]⟩
def Ai7[Lk]:Env:=Zp.BR 285 3 108 (AG 1 4 HD Dp Ah ApD)
theorem Acp:AI Tryz.prog Ai7:=Row.AE AoG ABD Tryz.func285 AlL
abbrev Ajt:Row:=⟨329,0,1,5,0,some (4,108),E5,[(.ret,Dp)],Ah,[(6,[[],[],[],[],[],[],[],[],[],[],[],[],[0],[0],[],[],[],[],[0],[0],[0],[1],[0],[1]]),(5,[[],[],[],[],[],[0],[0],[],[],[],[],[0],[0],[],[],[]]),(3,[[],[],[],[],[],[],[],[],[],[],[0],[0],[],[],[],[],[],[0],[0],[],[],[]])],[(0,Ad4,Ad3)]⟩
def AWu[Lk]:Env:=Ai7.BR 329 4 108 (AG 1 5 E5 Dp Ah AmX)
theorem ATd:AI Tryz.prog AWu:=Row.AE Ajt Acp Tryz.func329 Ad5
abbrev AlV:Row:=⟨286,0,1,4,0,some (3,108),HD,[(.ret,Dp)],Ah,[(10,[[],[],[],[],[],[],[],[],[],[],[0],[0],[],[],[0],[0],[0],[1],[0],[1]])],[(0,Ag1,Agz),(1,Ag0,Agy)]⟩
def AXB[Lk]:Env:=AWu.BR 286 3 108 (AG 1 4 HD Dp Ah Amm)
theorem ATu:AI Tryz.prog AXB:=Row.AE AlV ATd Tryz.func286 Ag2
abbrev AiF:Row:=⟨287,0,1,4,0,some (3,108),HD,[(.ret,Dp)],Ah,[(10,[[],[],[],[],[],[],[],[],[],[],[0],[0],[],[],[0],[0],[0],[1],[0],[1]])],[(0,AcE,AFw)]⟩
def AOj[Lk]:Env:=AXB.BR 287 3 108 (AG 1 4 HD Dp Ah AiG)
theorem AOi:AI Tryz.prog AOj:=Row.AE AiF ATu Tryz.func287 AcF
abbrev AZq:Row:=⟨353,0,2,5,0,some (4,108),ACT,[(.ret,ACS)],AQ,[(1,[[],[],[],[0],[0],[],[],[0],[0],[],[]])],[]⟩
def ADz[Lk]:Env:=AOj.BR 353 4 108 (AG 2 5 ACT ACS AQ AVM)
theorem AHo:AI Tryz.prog ADz:=Row.AE AZq AOi Tryz.func353 ARE
end
end Go.Pev
end
section
namespace Go.Pev
open Go.Proofs
noncomputable section
abbrev AZ5:Row:=⟨331,0,2,6,0,some (5,108),ACY,[(.ret,NU)],AA,[],[]⟩
def AD4[Lk]:Env:=ADz.BR 331 5 108 (AG 2 6 ACY NU AA AVY)
theorem AHt:AI Tryz.prog AD4:=Row.AE AZ5 AHo Tryz.func331 ARS
abbrev AaC:Row:=⟨330,0,2,4,0,some (3,108),ACd,[(.ret,NU)],AA,[],[]⟩
def AD8[Lk]:Env:=AD4.BR 330 3 108 (AG 2 4 ACd NU AA AVb)
theorem AHx:AI Tryz.prog AD8:=Row.AE AaC AHt Tryz.func330 ARX
abbrev Ae3:Row:=⟨288,0,1,4,0,some (3,108),HD,[(.ret,AJu)],AQ,[],[]⟩
def ANb[Lk]:Env:=AD8.BR 288 3 108 (AG 1 4 HD AJu AQ Ae4)
theorem ANa:AI Tryz.prog ANb:=Row.AE Ae3 AHx Tryz.func288 AZO
abbrev AnK:Row:=⟨289,0,1,4,0,some (3,108),HD,[(.ret,Dp)],Ah,[(3,[[],[],[],[],[],[],[0],[0],[],[],[0],[0],[0],[1],[0],[1]])],[(0,Aj7,AFw)]⟩
def Aip[Lk]:Env:=ANb.BR 289 3 108 (AG 1 4 HD Dp Ah Ao0)
theorem AcZ:AI Tryz.prog Aip:=Row.AE AnK ANa Tryz.func289 Aj8
abbrev AQo:Row:=⟨290,0,1,4,0,some (3,108),HD,[(.ret,Xi)],AA,[(11,[[],[],[],[],[],[],[],[],[0],[0],[],[],[0],[0],[0],[1],[0],[1]]),(5,[[],[],[],[],[],[],[],[0],[0],[],[],[],[0],[0],[],[],[],[]]),(17,[[],[],[],[],[],[],[],[],[0],[0],[],[],[0],[0],[0],[1],[0],[1]]),(16,[[],[],[],[0],[0],[],[],[],[0],[0],[],[],[]]),(23,[[],[],[],[],[],[],[],[],[0],[0],[],[],[0],[0],[0],[1],[0],[1]]),(22,[[],[],[],[0],[0],[],[],[],[0],[0],[],[],[]])],[(0,TX,AKX),(1,TX,AKW),(2,AKZ,AKV),(3,AKY,AKU)]⟩
def Zh[Lk]:Env:=Aip.BR 290 3 108 (AG 1 4 HD Xi AA AKb)
theorem AA8:AI Tryz.prog Zh:=Row.AE AQo AcZ Tryz.func290 AKa
abbrev AZi:Row:=⟨291,0,1,5,0,some (4,108),E5,[(.ret,ACI)],AA,[(8,[[],[],[],[],[],[],[0],[0],[],[],[0],[0],[0],[1],[0],[1]]),(3,[[],[],[],[],[],[],[],[0],[0],[],[],[0],[0],[],[],[],[]]),(5,[[],[],[],[],[],[],[],[0],[0],[],[],[0],[0],[],[],[]]),(1,[[],[],[],[],[],[],[0],[0],[],[],[0],[0],[0],[1],[0],[1]])],[(0,Od,AQ8),(1,Od,AQ7),(2,Od,AQ6)]⟩
def ADv[Lk]:Env:=Zh.BR 291 4 108 (AG 1 5 E5 ACI AA AVI)
theorem AHj:AI Tryz.prog ADv:=Row.AE AZi AA8 Tryz.func291 AQ9
abbrev Akf:Row:=⟨292,0,1,5,0,some (4,108),E5,[(.ret,AVJ)],AQ,[(3,[[],[],[],[],[],[],[],[0],[0],[],[],[0],[0],[],[],[]]),(5,[[],[],[],[],[],[],[],[0],[0],[],[],[0],[0],[],[],[],[]]),(18,[[],[],[],[],[],[],[0],[0],[],[],[0],[0],[0],[1],[0],[1]]),(13,[[],[],[],[],[],[],[],[0],[0],[],[],[0],[0],[],[],[]]),(15,[[],[],[],[],[],[],[],[0],[0],[],[],[0],[0],[],[],[],[]]),(21,[[],[],[],[],[],[],[0],[0],[],[],[0],[0],[0],[1],[0],[1]]),(10,[[],[],[],[],[],[],[0],[0],[],[],[0],[0],[0],[1],[0],[1]]),(8,[[],[],[],[],[],[],[0],[0],[],[],[0],[0],[0],[1],[0],[1]]),(1,[[],[],[],[],[],[],[0],[0],[],[],[0],[0],[0],[1],[0],[1]])],[(0,L8,Afo),(1,L8,Afn),(2,L8,Afm),(3,L8,Afl),(4,L8,Afk)]⟩
def AHk[Lk]:Env:=ADv.BR 292 4 108 (AG 1 5 E5 AVJ AQ Amh)
theorem Zj:AI Tryz.prog AHk:=Row.AE Akf AHj Tryz.func292 Afp
abbrev AQg(self:(List (Int×Int×Unit)×Int×Int×Int×Unit)→Option ((List (Int×Int×Unit)×Unit))):Hints:={ loop:=fun n=>match n with|0=>Kw 1 148 AVA AU9 (AU8 self)|_=>fun _ _ _=>none,fp:=fun n=>match n with|17=>[[],[],[],[],[],[],[],[0],[0],[],[],[0],[0],[],[],[],[]]|_=>[] }
abbrev AFb(self:(List (Int×Int×Unit)×Int×Int×Int×Unit)→Option ((List (Int×Int×Unit)×Unit))):Env:=AHk.ext 237 false true (AG 1 5 E5 Dp Ah self)
theorem AQf(self:(List (Int×Int×Unit)×Int×Int×Int×Unit)→Option ((List (Int×Int×Unit)×Unit))):∀ v,AU8 self v=roundOf Tryz.prog (AFb self) (AQg self) 1 1 148 (CZ Tryz.f237 0) AVA AU9 v:=by rintro⟨a0,a1,a2,a3,a4,a5,⟨⟩⟩;kernel_rfl
theorem AkV:B5 (CZ Tryz.f237 0) 1=[]:=by kernel_rfl
theorem AkW(self:(List (Int×Int×Unit)×Int×Int×Int×Unit)→Option ((List (Int×Int×Unit)×Unit)))(hE:AI Tryz.prog (AFb self)):Iv Tryz.prog 1 (.loop (CZ Tryz.f237 0)) ((AQg self).loop 0):=QJ hE (AQf self) (D0 AkV trivial)
theorem AfL(self:(List (Int×Int×Unit)×Int×Int×Int×Unit)→Option ((List (Int×Int×Unit)×Unit))):∀ v,Anl self v=DC 1 Tryz.prog (AFb self) (AQg self) Tryz.f237 E5 Dp Ah v:=by rintro⟨a0,a1,a2,a3,⟨⟩⟩;kernel_rfl
theorem Ank:B5 (BU Tryz.f237) 0=[(0,CZ Tryz.f237 0)]:=by kernel_rfl
theorem AQh:∀ n,Ak Tryz.prog 237 (AG 1 5 E5 Dp Ah (Xd n)):=by
 intro n;induction n with
  |zero=>exact JB fun _=>rfl
  |succ n ih=>have hE:AI Tryz.prog (AFb (Xd n)):=Env.Bi Zj ih ((by simp)) (fun _=>Bw rfl rfl);let self:=Xd n;exact H0 hE Tryz.func237 (by kernel_rfl) (by kernel_rfl) rfl (AfL self) (D0 Ank ⟨(AkW self hE),trivial⟩)
theorem AZa:Ak Tryz.prog 237 (AG 1 5 E5 Dp Ah AkY):=by have e:AkY=Xd 100:=funext AkX;rw[e];exact AQh _
def Aiv[Lk]:Env:=AHk.BR 237 4 108 (AG 1 5 E5 Dp Ah AkY)
theorem Acf:AI Tryz.prog Aiv:=Env.Qt Zj AZa (Bw rfl rfl)
abbrev Ajl:Row:=⟨184,0,1,2,0,some (1,108),AUd,[(.ret,Dp)],Ah,[],[]⟩
def AWp[Lk]:Env:=Aiv.BR 184 1 108 (AG 1 2 AUd Dp Ah Adn)
theorem ATY:AI Tryz.prog AWp:=Row.AE Ajl Acf Tryz.func184 Adm
abbrev AjJ:Row:=⟨161,0,0,1,0,none,AP,[(.ret,AM)],AA,[],[]⟩
def AWe[Lk]:Env:=AWp.ext 161 true true (AG 0 1 AP AM AA ABT)
theorem ATO:AI Tryz.prog AWe:=Row.AE AjJ ATY Tryz.func161 Ac4
abbrev Ac3:Row:=⟨164,0,0,1,0,none,AP,[(.ret,AM)],AA,[],[]⟩
def ZG[Lk]:Env:=AWe.ext 164 true true (AG 0 1 AP AM AA AOq)
theorem T5:AI Tryz.prog ZG:=Row.AE Ac3 ATO Tryz.func164 AXe
theorem AXa:Tryz.f160.body.isSome=true:=by kernel_rfl
theorem AXZ : (Tryz.f160.name == "runtime.NumGoroutine") = false := by kernel_rfl
theorem AXY:loops (BU Tryz.f160)=0:=by kernel_rfl
end
end Go.Pev
end
section
namespace Go.Pev
open Go.Proofs
noncomputable section
theorem AXX:Tryz.f163.body.isSome=true:=by kernel_rfl
theorem AXW : (Tryz.f163.name == "runtime.NumGoroutine") = false := by kernel_rfl
theorem AXV:loops (BU Tryz.f163)=0:=by kernel_rfl
def T4[Lk]:Env:=ZG.ext 160 false false (Bb Tryz.prog ZG {} Tryz.f160)
theorem ZF:AI Tryz.prog T4:=Env.Bi T5 (BI T5 Tryz.func160 AXa AXZ AXY) (by simp) (by simp)
abbrev AF2:Row:=⟨225,0,0,2,0,some (1,160),HW,[(.ret,AP)],AA,[],[(0,AAW,DY)]⟩
def RU[Lk]:Env:=T4.BR 225 1 160 (AG 0 2 HW AP AA O3)
theorem VX:AI Tryz.prog RU:=Row.AE AF2 ZF Tryz.func225 AAX
abbrev AAo:Row:=⟨162,0,0,2,0,some (1,160),HW,[(.ret,AM)],AA,[],[]⟩
def Jk[Lk]:Env:=RU.BR 162 1 160 (AG 0 2 HW AM AA JV)
theorem KP:AI Tryz.prog Jk:=Row.AE AAo VX Tryz.func162 Yo
def T3[Lk]:Env:=Jk.ext 163 false false (Bb Tryz.prog Jk {} Tryz.f163)
theorem ZE:AI Tryz.prog T3:=Env.Bi KP (BI KP Tryz.func163 AXX AXW AXV) (by simp) (by simp)
abbrev AF4:Row:=⟨226,0,0,2,0,some (1,163),HY,[(.ret,AP)],AA,[],[(0,AAd,DY)]⟩
def RW[Lk]:Env:=T3.BR 226 1 163 (AG 0 2 HY AP AA O5)
theorem VZ:AI Tryz.prog RW:=Row.AE AF4 ZE Tryz.func226 AAe
abbrev AAp:Row:=⟨165,0,0,2,0,some (1,163),HY,[(.ret,AM)],AA,[],[]⟩
def OH[Lk]:Env:=RW.BR 165 1 163 (AG 0 2 HY AM AA Mg)
theorem S4:AI Tryz.prog OH:=Row.AE AAp VZ Tryz.func165 Yp
abbrev Acz:Row:=⟨81,0,0,1,0,none,PO,[(.ret,AM)],AA,[],[]⟩
def AMp[Lk]:Env:=OH.ext 81 true true (AG 0 1 PO AM AA AOo)
theorem AMo:AI Tryz.prog AMp:=Row.AE Acz S4 Tryz.func81 AXU
abbrev AiU:Row:=⟨197,0,0,1,0,none,AMc,[(.ret,BX)],AA,[],[]⟩
def AOl[Lk]:Env:=AMp.ext 197 true true (AG 0 1 AMc BX AA ATJ)
theorem AOk:AI Tryz.prog AOl:=Row.AE AiU AMo Tryz.func197 AcK
abbrev AmE:Row:=⟨114,0,0,1,0,none,PO,[(.ret,BX)],AA,[],[(0,AiO,AiM),(1,AiN,AiL)]⟩
def AXO[Lk]:Env:=AOl.ext 114 true true (AG 0 1 PO BX AA AiQ)
theorem AT7:AI Tryz.prog AXO:=Row.AE AmE AOk Tryz.func114 AiP
abbrev Alz:Row:=⟨182,0,0,1,0,none,AP,[(.ret,AM)],AA,[],[]⟩
def AXI[Lk]:Env:=AXO.ext 182 true true (AG 0 1 AP AM AA AWF)
theorem AT1:AI Tryz.prog AXI:=Row.AE Alz AT7 Tryz.func182 Ahd
abbrev AoT:Row:=⟨99,0,0,1,0,none,AGQ,[(.ret,Aha)],AQ,[],[]⟩
def AjE[Lk]:Env:=AXI.ext 99 true true (AG 0 1 AGQ Aha AQ AoU)
theorem Acw:AI Tryz.prog AjE:=Row.AE AoT AT1 Tryz.func99 Aly
abbrev Al0:Row:=⟨101,0,0,1,0,none,CX,[(.ret,AGQ)],AA,[],[]⟩
def AXJ[Lk]:Env:=AjE.ext 101 true true (AG 0 1 CX AGQ AA Ahg)
theorem AT2:AI Tryz.prog AXJ:=Row.AE Al0 Acw Tryz.func101 Ahf
abbrev AbJ:Row:=⟨236,0,0,1,0,none,Nh,[(.ret,AC8)],AA,[],[(0,ASV,ASU)]⟩
def AEJ[Lk]:Env:=AXJ.ext 236 true true (AG 0 1 Nh AC8 AA AGS)
theorem AH8:AI Tryz.prog AEJ:=Row.AE AbJ AT2 Tryz.func236 ASW
end
end Go.Pev
end
section
namespace Go.Pev
open Go.Proofs
noncomputable section
abbrev AYr:Row:=⟨279,0,0,1,0,none,AP,[(.ret,AP)],AA,[],[]⟩
def ADh[Lk]:Env:=AEJ.ext 279 true true (AG 0 1 AP AP AA WB)
theorem AHR:AI Tryz.prog ADh:=Row.AE AYr AH8 Tryz.func279 APr
abbrev AeH:Row:=⟨352,0,0,2,0,none,C5,[(.ret,AM)],AA,[],[]⟩
def ANH[Lk]:Env:=ADh.ext 352 true true (AG 0 2 C5 AM AA APl)
theorem ANG:AI Tryz.prog ANH:=Row.AE AeH AHR Tryz.func352 AYp
abbrev Aeb:Row:=⟨328,0,0,3,0,none,AJb,[(.ret,CX)],AA,[],[]⟩
def ANN[Lk]:Env:=ANH.ext 328 true true (AG 0 3 AJb CX AA AFL)
theorem ANM:AI Tryz.prog ANN:=Row.AE Aeb ANG Tryz.func328 AY6
abbrev Ajx:Row:=⟨282,0,0,2,0,none,Ci,[(.ret,AM)],AA,[],[(0,AeU,AeT)]⟩
def AWx[Lk]:Env:=ANN.ext 282 true true (AG 0 2 Ci AM AA AeW)
theorem ATg:AI Tryz.prog AWx:=Row.AE Ajx ANM Tryz.func282 AeV
abbrev Ao1:Row:=⟨281,0,0,4,0,none,AmZ,[(.ret,BX)],AA,[(10,[[],[],[],[0],[0],[],[],[0],[0],[],[0],[1]])],[(0,AnW,AnT),(1,AnV,AnS),(2,AnU,AnR)]⟩
def Amx[Lk]:Env:=AWx.ext 281 true true (AG 0 4 AmZ BX AA rby)
theorem Aiq:AI Tryz.prog Amx:=Row.AE Ao1 ATg Tryz.func281 AnX
abbrev AIp:Row:=⟨177,0,0,2,0,none,C5,[(.ret,AM)],AA,[],[]⟩
def UC[Lk]:Env:=Amx.ext 177 true true (AG 0 2 C5 AM AA ND)
theorem ZP:AI Tryz.prog UC:=Row.AE AIp Aiq Tryz.func177 AEp
abbrev AYC:Row:=⟨198,0,0,1,0,none,ABk,[(.ret,AM)],AA,[],[(0,APC,OR)]⟩
def ADW[Lk]:Env:=UC.ext 198 true true (AG 0 1 ABk AM AA Vv)
theorem AHD:AI Tryz.prog ADW:=Row.AE AYC ZP Tryz.func198 APD
abbrev AYB:Row:=⟨304,0,0,2,0,none,DS,[(.ret,AP)],AA,[],[]⟩
def ADV[Lk]:Env:=ADW.ext 304 true true (AG 0 2 DS AP AA Pf)
theorem AHC:AI Tryz.prog ADV:=Row.AE AYB AHD Tryz.func304 APA
abbrev AYA:Row:=⟨305,0,0,1,0,none,ABh,[(.ret,AP)],AA,[],[]⟩
def ADU[Lk]:Env:=ADV.ext 305 true true (AG 0 1 ABh AP AA NC)
theorem AHB:AI Tryz.prog ADU:=Row.AE AYA AHC Tryz.func305 AO9
abbrev AYE:Row:=⟨257,0,0,2,0,none,DS,[(.ret,AM)],AA,[(1,[[0],[],[],[],[],[0],[0],[],[],[],[],[0],[0],[],[],[]])],[]⟩
def ADX[Lk]:Env:=ADU.ext 257 true true (AG 0 2 DS AM AA Vw)
theorem AHE:AI Tryz.prog ADX:=Row.AE AYE AHB Tryz.func257 APF
abbrev AYF:Row:=⟨95,0,0,2,0,none,C5,[(.ret,ABn)],H3,[],[]⟩
def ADY[Lk]:Env:=ADX.ext 95 true true (AG 0 2 C5 ABn H3 AEq)
theorem AHF:AI Tryz.prog ADY:=Row.AE AYF AHE Tryz.func95 APH
theorem Abq : (Tryz.f355.name == "runtime.NumGoroutine") = false := by kernel_rfl
theorem AAs:GO Tryz.prog Tryz.f355 111 212 (.prod (.int .i64) (.prod (.int .i64) (.prod (.int .i64) (.prod (.int .i64) .unit)))) where
 body:=by kernel_rfl
 nt:=by kernel_rfl
 res:=by kernel_rfl
 d:=⟨by kernel_rfl,by kernel_rfl,by kernel_rfl,by kernel_rfl,by kernel_rfl,by kernel_rfl,by kernel_rfl,by kernel_rfl⟩
 g:=⟨by kernel_rfl,by kernel_rfl,by kernel_rfl,by kernel_rfl,by kernel_rfl,by kernel_rfl,by kernel_rfl,by kernel_rfl⟩
 o00:=by kernel_rfl
 o10:=by kernel_rfl
 o11:=by kernel_rfl
 o20:=by kernel_rfl
 o30:=by kernel_rfl
 o31:=by kernel_rfl
 o32:=by kernel_rfl
 o33:=by kernel_rfl
 sl:=by kernel_rfl
 z:=by kernel_rfl
 by1:=by kernel_rfl
def AEL[Lk]:Env:=ADY.ext 355 true true (Da 212 (.prod (.int .i64) (.prod (.int .i64) (.prod (.int .i64) (.prod (.int .i64) .unit)))))
theorem AIA:AI Tryz.prog AEL:=Env.Bi AHF (Mj AAs Tryz.func355 Abq) (fun _=>BZ _ _) (fun _=>(BZ _ _).AX9)
end
end Go.Pev
end
section
namespace Go.Pev
open Go.Proofs
noncomputable section
theorem Ahx : (Tryz.f356.name == "runtime.NumGoroutine") = false := by kernel_rfl
theorem AGh:GO Tryz.prog Tryz.f356 98 4 .bool where
 body:=by kernel_rfl
 nt:=by kernel_rfl
 res:=by kernel_rfl
 d:=⟨by kernel_rfl,by kernel_rfl,by kernel_rfl,by kernel_rfl,by kernel_rfl,by kernel_rfl,by kernel_rfl,by kernel_rfl⟩
 g:=⟨by kernel_rfl,by kernel_rfl,by kernel_rfl,by kernel_rfl,by kernel_rfl,by kernel_rfl,by kernel_rfl,by kernel_rfl⟩
 o00:=by kernel_rfl
 o10:=by kernel_rfl
 o11:=by kernel_rfl
 o20:=by kernel_rfl
 o30:=by kernel_rfl
 o31:=by kernel_rfl
 o32:=by kernel_rfl
 o33:=by kernel_rfl
 sl:=by kernel_rfl
 z:=by kernel_rfl
 by1:=by kernel_rfl
def AOV[Lk]:Env:=AEL.ext 356 true true (Da 4 .bool)
theorem AOU:AI Tryz.prog AOV:=Env.Bi AIA (Mj AGh Tryz.func356 Ahx) (fun _=>BZ _ _) (fun _=>(BZ _ _).AX9)
theorem Ahv : (Tryz.f300.name == "runtime.NumGoroutine") = false := by kernel_rfl
theorem AGf:GO Tryz.prog Tryz.f300 37 36 (.slice (.int .i64)) where
 body:=by kernel_rfl
 nt:=by kernel_rfl
 res:=by kernel_rfl
 d:=⟨by kernel_rfl,by kernel_rfl,by kernel_rfl,by kernel_rfl,by kernel_rfl,by kernel_rfl,by kernel_rfl,by kernel_rfl⟩
 g:=⟨by kernel_rfl,by kernel_rfl,by kernel_rfl,by kernel_rfl,by kernel_rfl,by kernel_rfl,by kernel_rfl,by kernel_rfl⟩
 o00:=by kernel_rfl
 o10:=by kernel_rfl
 o11:=by kernel_rfl
 o20:=by kernel_rfl
 o30:=by kernel_rfl
 o31:=by kernel_rfl
 o32:=by kernel_rfl
 o33:=by kernel_rfl
 sl:=by kernel_rfl
 z:=by kernel_rfl
 by1:=by kernel_rfl
def AOR[Lk]:Env:=AOV.ext 300 true true (Da 36 (.slice (.int .i64)))
theorem AOQ:AI Tryz.prog AOR:=Env.Bi AOU (Mj AGf Tryz.func300 Ahv) (fun _=>BZ _ _) (fun _=>(BZ _ _).AX9)
theorem Al6 : (Tryz.f338.name == "runtime.NumGoroutine") = false := by kernel_rfl
theorem AL8:AEU Tryz.prog Tryz.f338 36 3 1 where
 body:=by kernel_rfl
 nt:=by kernel_rfl
 res:=by kernel_rfl
 d:=⟨by kernel_rfl,by kernel_rfl,by kernel_rfl,by kernel_rfl,by kernel_rfl,by kernel_rfl,by kernel_rfl,by kernel_rfl⟩
 g:=⟨by kernel_rfl,by kernel_rfl,by kernel_rfl,by kernel_rfl,by kernel_rfl,by kernel_rfl,by kernel_rfl,by kernel_rfl⟩
 o00:=by kernel_rfl
 o10:=by kernel_rfl
 o11:=by kernel_rfl
 o12:=by kernel_rfl
 o13:=by kernel_rfl
 o14:=by kernel_rfl
 o15:=by kernel_rfl
 o16:=by kernel_rfl
 sl:=by kernel_rfl
 sz:=by kernel_rfl
def AXL[Lk]:Env:=AOR.ext 338 true true (Ml 1)
theorem AT4:AI Tryz.prog AXL:=Env.Bi AOQ (Al5 AL8 Tryz.func338 Al6) (fun _=>Mk _) (fun _=>(Mk _).AX9)
abbrev AdO:Row:=⟨337,0,0,2,0,none,DS,[(.ret,AIj)],AIi,[(11,[[0],[0],[],[12],[12],[],[],[],[],[12],[12],[],[],[],[31,38],[0],[1]]),(10,[[12],[12],[12],[],[],[],[]]),(6,[[12],[],[0],[0],[],[],[12],[12],[],[],[]])],[]⟩
def AMz[Lk]:Env:=AXL.ext 337 true true (AG 0 2 DS AIj AIi APE)
theorem AMy:AI Tryz.prog AMz:=Row.AE AdO AT4 Tryz.func337 AYD
abbrev APG:Row:=⟨357,0,1,2,0,none,Ww,[(.ret,Wv)],AA,[],[(0,AIn,AIm)]⟩
def ZO[Lk]:Env:=AMz.ext 357 false true (AG 1 2 Ww Wv AA Wy)
theorem AAz:AI Tryz.prog ZO:=Row.AE APG AMy Tryz.func357 AIo
abbrev Am7:Row:=⟨339,0,0,2,0,none,DS,[(.ret,AdP)],AEo,[(12,[[0],[0],[0],[8],[8],[1000005,3],[7],[],[]]),(7,[[0],[0],[],[0],[0],[],[0],[1],[0],[1]]),(5,[[12],[],[0],[0],[],[],[12],[12],[],[],[],[0],[0],[12],[12],[],[],[]])],[(0,Aja,AjZ)]⟩
def Aij[Lk]:Env:=ZO.ext 339 true true (AG 0 2 DS AdP AEo Am8)
theorem AcU:AI Tryz.prog Aij:=Row.AE Am7 AAz Tryz.func339 Ajb
abbrev AS2:Row:=⟨199,0,0,1,0,none,AP,[(.ret,AM)],AA,[],[]⟩
def Z1[Lk]:Env:=Aij.ext 199 true true (AG 0 1 AP AM AA RB)
theorem ABK:AI Tryz.prog Z1:=Row.AE AS2 AcU Tryz.func199 AMN
abbrev Ahy:Row:=⟨200,0,0,2,0,none,DS,[(.ret,AM)],AA,[(1,[[],[],[],[],[0],[0],[],[],[],[],[0],[0],[],[],[],[],[],[],[],[0],[],[],[],[0],[0],[0],[0],[],[],[],[],[],[],[],[],[],[]])],[]⟩
def AOX[Lk]:Env:=Z1.ext 200 true true (AG 0 2 DS AM AA AS0)
theorem AOW:AI Tryz.prog AOX:=Row.AE Ahy ABK Tryz.func200 Abx
abbrev Ahn:Row:=⟨117,0,0,1,0,none,Q4,[(.ret,AM)],AA,[],[(0,Abb,OR),(1,Aba,AbZ)]⟩
def AOJ[Lk]:Env:=AOX.ext 117 true true (AG 0 1 Q4 AM AA ASc)
theorem AOI:AI Tryz.prog AOJ:=Row.AE Ahn AOW Tryz.func117 Abc
abbrev Ah5:Row:=⟨44,0,0,3,1,none,Lr,[(.ret,AMP)],AMO,[],[]⟩
def AOb[Lk]:Env:=AOJ.ext 44 true true (AG 0 3 Lr AMP AMO AS3)
theorem AOa:AI Tryz.prog AOb:=Row.AE Ah5 AOI Tryz.func44 Ab1
abbrev Al7:Row:=⟨256,0,0,1,0,none,Q4,[(.ret,AP)],AA,[],[(0,Ah1,Ah0)]⟩
def AXM[Lk]:Env:=AOb.ext 256 true true (AG 0 1 Q4 AP AA Ah3)
theorem AT5:AI Tryz.prog AXM:=Row.AE Al7 AOa Tryz.func256 Ah2
abbrev Abo:Row:=⟨301,0,2,2,0,none,Nk,[(.ret,Nj)],AA,[],[]⟩
def AEK[Lk]:Env:=AXM.ext 301 false true (AG 2 2 Nk Nj AA WR)
theorem AH9:AI Tryz.prog AEK:=Row.AE Abo AT5 Tryz.func301 ASt
end
end Go.Pev
end
section
namespace Go.Pev
open Go.Proofs
noncomputable section
abbrev Ah4:Row:=⟨302,0,2,3,0,none,AML,[(.ret,AMK)],AA,[(9,[[],[0],[0],[0],[0],[],[],[],[2],[3]]),(6,[[],[0],[0],[0],[0],[],[],[],[],[],[2],[3]]),(1,[[],[0],[0],[0],[0],[],[2],[2],[],[0],[0],[0],[0],[],[2],[2],[],[]])],[]⟩
def AOZ[Lk]:Env:=AEK.ext 302 false true (AG 2 3 AML AMK AA AS1)
theorem AOY:AI Tryz.prog AOZ:=Row.AE Ah4 AH9 Tryz.func302 Ab0
abbrev ApJ:Row:=⟨303,0,2,2,0,none,Nk,[(.ret,Nj)],AA,[(9,[[],[],[0],[0],[0],[0],[],[0],[0],[0],[0],[],[],[],[],[],[0],[0],[0],[1],[],[]]),(6,[[],[0],[0],[0],[0],[],[],[0],[0],[0],[0],[],[2],[2],[],[],[],[],[28],[2],[3,30]]),(3,[[],[],[0],[0],[0],[0],[],[0],[0],[0],[0],[],[],[],[],[],[],[0],[0],[0],[1],[],[],[]]),(1,[[],[0],[0],[0],[0],[],[0],[0],[0],[0],[]])],[]⟩
def Am1[Lk]:Env:=AOZ.ext 303 false true (AG 2 2 Nk Nj AA cgo)
theorem AjF:AI Tryz.prog Am1:=Row.AE ApJ AOY Tryz.func303 AoW
abbrev Al1:Row:=⟨255,0,0,3,0,none,AWK,[(.ret,AWJ)],AWI,[(18,[[],[14],[14],[14],[],[14],[14],[14],[3],[5],[]]),(14,[[],[14],[14],[14],[],[14],[14],[14],[3],[5],[]])],[]⟩
def AXK[Lk]:Env:=Am1.ext 255 true true (AG 0 3 AWK AWJ AWI Ahm)
theorem AT3:AI Tryz.prog AXK:=Row.AE Al1 AjF Tryz.func255 Ahl
abbrev Alw:Row:=⟨195,0,1,3,0,none,AV8,[(.ret,WQ)],AA,[(3,[[],[],[12],[],[0],[0],[0],[14],[],[3,16],[0],[0],[1],[0],[0],[1]])],[]⟩
def AXG[Lk]:Env:=AXK.ext 195 false true (AG 1 3 AV8 WQ AA AWA)
theorem ATz:AI Tryz.prog AXG:=Row.AE Alw AT3 Tryz.func195 AhV
abbrev AbG:Row:=⟨196,0,1,1,0,none,AC0,[(.ret,WQ)],AA,[],[(0,ASH,ASF),(1,ASG,ASE)]⟩
def AEG[Lk]:Env:=AXG.ext 196 false true (AG 1 1 AC0 WQ AA AGO)
theorem AH5:AI Tryz.prog AEG:=Row.AE AbG ATz Tryz.func196 ASI
abbrev AhU:Row:=⟨112,0,0,4,0,none,ALm,[(.ret,ALl)],BE,[(11,[[],[2],[2],[2],[],[2],[2],[2],[],[1],[],[]]),(14,[[],[2],[2],[2],[],[2],[2],[2],[],[1],[],[]])],[(0,AbE,AbD)]⟩
def AOF[Lk]:Env:=AEG.ext 112 true true (AG 0 4 ALm ALl BE ASB)
theorem AOE:AI Tryz.prog AOF:=Row.AE AhU AH5 Tryz.func112 AbF
abbrev AbH:Row:=⟨113,0,0,2,0,none,AC3,[(.ret,AC2)],AA,[],[(0,ASN,ASM)]⟩
def AEH[Lk]:Env:=AOF.ext 113 true true (AG 0 2 AC3 AC2 AA AGP)
theorem AH6:AI Tryz.prog AEH:=Row.AE AbH AOE Tryz.func113 ASO
abbrev AhG:Row:=⟨111,0,0,1,0,none,ALL,[(.ret,AM)],AA,[],[]⟩
def AN5[Lk]:Env:=AEH.ext 111 true true (AG 0 1 ALL AM AA ARx)
theorem AN4:AI Tryz.prog AN5:=Row.AE AhG AH6 Tryz.func111 Aau
abbrev AhH:Row:=⟨49,0,0,2,0,none,ALO,[(.ret,Bc)],BE,[],[(0,Aa0,Aay),(1,Aaz,Aax)]⟩
def AN7[Lk]:Env:=AN5.ext 49 true true (AG 0 2 ALO Bc BE AGE)
theorem AN6:AI Tryz.prog AN7:=Row.AE AhH AN4 Tryz.func49 Aa1
abbrev Adc:Row:=⟨348,0,0,1,0,none,AP,[(.ret,AM)],AA,[],[]⟩
def AM1[Lk]:Env:=AN7.ext 348 true true (AG 0 1 AP AM AA AEv)
theorem AM0:AI Tryz.prog AM1:=Row.AE Adc AN6 Tryz.func348 AYI
abbrev AYZ:Row:=⟨349,0,0,2,0,none,C5,[(.ret,AP)],AA,[],[]⟩
def ADe[Lk]:Env:=AM1.ext 349 true true (AG 0 2 C5 AP AA AE9)
theorem AHO:AI Tryz.prog ADe:=Row.AE AYZ AM0 Tryz.func349 APg
abbrev Aje:Row:=⟨351,0,0,3,0,none,AUW,[(.ret,Nh)],AA,[],[]⟩
def AHI[Lk]:Env:=ADe.ext 351 true true (AG 0 3 AUW Nh AA AUY)
theorem ZT:AI Tryz.prog AHI:=Row.AE Aje AHO Tryz.func351 Adf
end
end Go.Pev
end
section
namespace Go.Pev
open Go.Proofs
noncomputable section
theorem Adb:Tryz.f327.body.isSome=true:=by kernel_rfl
theorem Ada : (Tryz.f327.name == "runtime.NumGoroutine") = false := by kernel_rfl
theorem AdZ:loops (BU Tryz.f327)=0:=by kernel_rfl
def ZS[Lk]:Env:=AHI.ext 327 false false (Bb Tryz.prog AHI {} Tryz.f327)
theorem AA2:AI Tryz.prog ZS:=Env.Bi ZT (BI ZT Tryz.func327 Adb Ada AdZ) (by simp) (by simp)
abbrev AeF:Row:=⟨350,0,0,2,0,some (1,327),AJO,[(.ret,AJN)],AQ,[],[(0,AYn,AYm)]⟩
def ANF[Lk]:Env:=ZS.BR 350 1 327 (AG 0 2 AJO AJN AQ XJ)
theorem ANE:AI Tryz.prog ANF:=Row.AE AeF AA2 Tryz.func350 AYo
abbrev AYJ:Row:=⟨326,0,0,4,0,some (3,327),ABt,[(.ret,NG)],EN,[],[(0,APY,APV),(1,APX,APU),(2,APW,APT)]⟩
def ADa[Lk]:Env:=ANF.BR 326 3 327 (AG 0 4 ABt NG EN AEw)
theorem AHH:AI Tryz.prog ADa:=Row.AE AYJ ANE Tryz.func326 APZ
abbrev Ajd:Row:=⟨280,0,0,3,0,none,Vy,[(.ret,NG)],EN,[],[]⟩
def AWm[Lk]:Env:=ADa.ext 280 true true (AG 0 3 Vy NG EN AUV)
theorem ATV:AI Tryz.prog AWm:=Row.AE Ajd AHH Tryz.func280 AdY
abbrev Aet:Row:=⟨284,0,0,2,0,none,AJn,[(.ret,AJm)],AA,[],[(0,AZC,AZB)]⟩
def ANR[Lk]:Env:=AWm.ext 284 true true (AG 0 2 AJn AJm AA AQK)
theorem ANQ:AI Tryz.prog ANR:=Row.AE Aet ATV Tryz.func284 AZD
abbrev AY9:Row:=⟨283,0,0,3,0,none,Vy,[(.ret,Bc)],BE,[],[(0,AQI,AQH)]⟩
def ADn[Lk]:Env:=ANR.ext 283 true true (AG 0 3 Vy Bc BE AFO)
theorem AHY:AI Tryz.prog ADn:=Row.AE AY9 ANQ Tryz.func283 AQJ
abbrev Aee:Row:=⟨235,0,0,3,0,none,AJe,[(.ret,Bc)],BE,[(1,[[],[],[],[0],[2],[],[],[],[],[],[]])],[]⟩
def ANP[Lk]:Env:=ADn.ext 235 true true (AG 0 3 AJe Bc BE AQD)
theorem ANO:AI Tryz.prog ANP:=Row.AE Aee AHY Tryz.func235 AY7
abbrev Ajw:Row:=⟨233,0,0,4,0,none,AUj,[(.ret,Bc)],BE,[],[(0,AeN,AeL),(1,AeM,AeK)]⟩
def AWw[Lk]:Env:=ANP.ext 233 true true (AG 0 4 AUj Bc BE AeP)
theorem ATf:AI Tryz.prog AWw:=Row.AE Ajw ANO Tryz.func233 AeO
abbrev AYq:Row:=⟨234,0,0,2,0,none,AB5,[(.ret,AB4)],AQ,[],[(0,APo,APn)]⟩
def ADg[Lk]:Env:=AWw.ext 234 true true (AG 0 2 AB5 AB4 AQ AFD)
theorem AHQ:AI Tryz.prog ADg:=Row.AE AYq ATf Tryz.func234 APp
abbrev AbI:Row:=⟨183,0,0,2,0,none,Ng,[(.ret,AC5)],EN,[(5,[[],[10],[0],[0],[0],[0],[18],[],[],[],[],[],[],[]])],[(0,ASR,ASQ)]⟩
def AEI[Lk]:Env:=ADg.ext 183 true true (AG 0 2 Ng AC5 EN AGR)
theorem AH7:AI Tryz.prog AEI:=Row.AE AbI AHQ Tryz.func183 ASS
abbrev Alx:Row:=⟨100,0,0,2,0,none,Ng,[(.ret,AWB)],BE,[],[]⟩
def AXH[Lk]:Env:=AEI.ext 100 true true (AG 0 2 Ng AWB BE AhZ)
theorem AT0:AI Tryz.prog AXH:=Row.AE Alx AH7 Tryz.func100 AhY
abbrev Ahe:Row:=⟨46,0,0,2,0,none,ALr,[(.ret,ALq)],BE,[],[(0,AbP,AbN),(1,AbO,AbM)]⟩
def Zv[Lk]:Env:=AXH.ext 46 true true (AG 0 2 ALr ALq BE ASX)
theorem UJ:AI Tryz.prog Zv:=Row.AE Ahe AT0 Tryz.func46 AbQ
end
end Go.Pev
end
section
namespace Go.Pev
open Go.Proofs
noncomputable section
theorem AcP:Tryz.f115.body.isSome=true:=by kernel_rfl
theorem AcO : (Tryz.f115.name == "runtime.NumGoroutine") = false := by kernel_rfl
theorem AcN:loops (BU Tryz.f115)=0:=by kernel_rfl
def Rd[Lk]:Env:=Zv.ext 115 false false (Bb Tryz.prog Zv {} Tryz.f115)
theorem Vq:AI Tryz.prog Rd:=Env.Bi UJ (BI UJ Tryz.func115 AcP AcO AcN) (by simp) (by simp)
abbrev AF1:Row:=⟨134,0,1,2,0,some (1,115),HV,[(.ret,Qb)],AA,[],[(0,AAT,AAS)]⟩
def RT[Lk]:Env:=Rd.BR 134 1 115 (AG 1 2 HV Qb AA O2)
theorem VW:AI Tryz.prog RT:=Row.AE AF1 Vq Tryz.func134 AAU
abbrev Ad9:Row:=⟨91,0,0,2,0,none,CM,[(.ret,AP)],AA,[],[(0,AYb,DY)]⟩
def AM7[Lk]:Env:=RT.ext 91 true true (AG 0 2 CM AP AA AFA)
theorem AM6:AI Tryz.prog AM7:=Row.AE Ad9 VW Tryz.func91 AYc
abbrev AeE:Row:=⟨92,0,0,1,0,none,AP,[(.ret,BX)],AA,[],[(0,AYj,AV5)]⟩
def AND[Lk]:Env:=AM7.ext 92 true true (AG 0 1 AP BX AA AFC)
theorem ANC:AI Tryz.prog AND:=Row.AE AeE AM6 Tryz.func92 AYk
abbrev Ado:Row:=⟨94,0,1,2,0,none,ER,[(.ret,Pj)],AA,[],[(0,AYN,AYM)]⟩
def AM3[Lk]:Env:=AND.ext 94 false true (AG 1 2 ER Pj AA W5)
theorem AM2:AI Tryz.prog AM3:=Row.AE Ado ANC Tryz.func94 AYO
abbrev Ajm:Row:=⟨176,0,1,3,0,none,Bc,[(.ret,Vz)],AA,[],[]⟩
def AWq[Lk]:Env:=AM3.ext 176 false true (AG 1 3 Bc Vz AA Adr)
theorem ATZ:AI Tryz.prog AWq:=Row.AE Ajm AM2 Tryz.func176 Adq
abbrev ASA:Row:=⟨175,0,1,2,0,some (1,176),Yf,[(.ret,LJ)],AA,[],[(0,ALj,ALi)]⟩
def Zu[Lk]:Env:=AWq.BR 175 1 176 (AG 1 2 Yf LJ AA Yh)
theorem ABI:AI Tryz.prog Zu:=Row.AE ASA ATZ Tryz.func175 ALk
abbrev Adp:Row:=⟨93,0,1,2,0,none,AIx,[(.ret,LJ)],AA,[],[]⟩
def AM5[Lk]:Env:=Zu.ext 93 false true (AG 1 2 AIx LJ AA AEx)
theorem AM4:AI Tryz.prog AM5:=Row.AE Adp ABI Tryz.func93 AYP
abbrev APe:Row:=⟨41,0,0,2,0,none,CM,[(.ret,ER)],AQ,[],[(0,AI7,AI6)]⟩
def ZX[Lk]:Env:=AM5.ext 41 true true (AG 0 2 CM ER AQ XB)
theorem AA3:AI Tryz.prog ZX:=Row.AE APe AM4 Tryz.func41 AI8
theorem Ahu : (Tryz.f105.name == "runtime.NumGoroutine") = false := by kernel_rfl
theorem AGd:GO Tryz.prog Tryz.f105 22 152 (.prod (.int .i64) (.prod (.int .i64) (.prod (.int .i64) (.prod .bool .unit)))) where
 body:=by kernel_rfl
 nt:=by kernel_rfl
 res:=by kernel_rfl
 d:=⟨by kernel_rfl,by kernel_rfl,by kernel_rfl,by kernel_rfl,by kernel_rfl,by kernel_rfl,by kernel_rfl,by kernel_rfl⟩
 g:=⟨by kernel_rfl,by kernel_rfl,by kernel_rfl,by kernel_rfl,by kernel_rfl,by kernel_rfl,by kernel_rfl,by kernel_rfl⟩
 o00:=by kernel_rfl
 o10:=by kernel_rfl
 o11:=by kernel_rfl
 o20:=by kernel_rfl
 o30:=by kernel_rfl
 o31:=by kernel_rfl
 o32:=by kernel_rfl
 o33:=by kernel_rfl
 sl:=by kernel_rfl
 z:=by kernel_rfl
 by1:=by kernel_rfl
def AOP[Lk]:Env:=ZX.ext 105 true true (Da 152 (.prod (.int .i64) (.prod (.int .i64) (.prod (.int .i64) (.prod .bool .unit)))))
theorem AOO:AI Tryz.prog AOP:=Env.Bi AA3 (Mj AGd Tryz.func105 Ahu) (fun _=>BZ _ _) (fun _=>(BZ _ _).AX9)
abbrev Akv:Row:=⟨384,0,0,2,0,none,C5,[(.ret,AM)],AA,[],[]⟩
def AW4[Lk]:Env:=AOP.ext 384 true true (AG 0 2 C5 AM AA Fe)
theorem ATn:AI Tryz.prog AW4:=Row.AE Akv AOO Tryz.func384 AgE
abbrev AoD:Row:=⟨378,0,1,3,0,none,Bc,[(.ret,Dn)],Ah,[(4,[[],[],[],[],[],[],[0],[0],[],[],[],[0],[0],[],[]]),(6,[[],[],[],[],[],[],[],[],[0],[0],[],[],[0],[0],[0],[1],[0],[1]])],[(0,AlE,AFv),(1,AlD,AlC)]⟩
def Ai6[Lk]:Env:=AW4.ext 378 false true (AG 1 3 Bc Dn Ah AoE)
theorem Aco:AI Tryz.prog Ai6:=Row.AE AoD ATn Tryz.func378 AlF
end
end Go.Pev
end
section
namespace Go.Pev
open Go.Proofs
noncomputable section
abbrev Ajr:Row:=⟨393,0,1,4,0,none,E4,[(.ret,Dn)],Ah,[(6,[[],[],[],[],[],[],[],[],[],[],[],[],[0],[0],[],[],[],[],[0],[0],[0],[1],[0],[1]]),(5,[[],[],[],[],[0],[0],[],[],[],[],[0],[0],[],[]]),(3,[[],[],[],[],[],[],[],[],[],[0],[0],[],[],[],[],[],[0],[0],[],[]])],[(0,Ad0,Adz)]⟩
def AWt[Lk]:Env:=Ai6.ext 393 false true (AG 1 4 E4 Dn Ah AUg)
theorem ATc:AI Tryz.prog AWt:=Row.AE Ajr Aco Tryz.func393 Ad1
abbrev AlT:Row:=⟨379,0,1,3,0,none,Bc,[(.ret,Dn)],Ah,[(10,[[],[],[],[],[],[],[],[],[],[],[0],[0],[],[],[0],[0],[0],[1],[0],[1]])],[(0,Agu,Ags),(1,Agt,Agr)]⟩
def AXA[Lk]:Env:=AWt.ext 379 false true (AG 1 3 Bc Dn Ah Agw)
theorem ATt:AI Tryz.prog AXA:=Row.AE AlT ATc Tryz.func379 Agv
abbrev AiD:Row:=⟨380,0,1,3,0,none,Bc,[(.ret,Dn)],Ah,[(10,[[],[],[],[],[],[],[],[],[],[],[0],[0],[],[],[0],[0],[0],[1],[0],[1]])],[(0,AcB,AFv)]⟩
def AOh[Lk]:Env:=AXA.ext 380 false true (AG 1 3 Bc Dn Ah ATD)
theorem AOg:AI Tryz.prog AOh:=Row.AE AiD ATt Tryz.func380 AcC
abbrev AZo:Row:=⟨397,0,2,4,0,none,ACQ,[(.ret,ACP)],AQ,[(1,[[],[],[0],[0],[],[],[0],[0],[]])],[]⟩
def ADy[Lk]:Env:=AOh.ext 397 false true (AG 2 4 ACQ ACP AQ P6)
theorem AHn:AI Tryz.prog ADy:=Row.AE AZo AOg Tryz.func397 ARC
abbrev AZ3:Row:=⟨395,0,2,5,0,none,ACW,[(.ret,NT)],AA,[],[]⟩
def AD3[Lk]:Env:=ADy.ext 395 false true (AG 2 5 ACW NT AA QE)
theorem AHs:AI Tryz.prog AD3:=Row.AE AZ3 AHn Tryz.func395 ARQ
abbrev AaA:Row:=⟨394,0,2,3,0,none,ACb,[(.ret,NT)],AA,[],[]⟩
def AD7[Lk]:Env:=AD3.ext 394 false true (AG 2 3 ACb NT AA QF)
theorem AHw:AI Tryz.prog AD7:=Row.AE AaA AHs Tryz.func394 ARV
abbrev Ae1:Row:=⟨381,0,1,3,0,none,Bc,[(.ret,AJs)],AQ,[],[]⟩
def ANZ[Lk]:Env:=AD7.ext 381 false true (AG 1 3 Bc AJs AQ AQS)
theorem ANY:AI Tryz.prog ANZ:=Row.AE Ae1 AHw Tryz.func381 AZM
abbrev AnH:Row:=⟨382,0,1,3,0,none,Bc,[(.ret,Dn)],Ah,[(3,[[],[],[],[],[],[],[0],[0],[],[],[0],[0],[0],[1],[0],[1]])],[(0,Aj4,AFv)]⟩
def Aio[Lk]:Env:=ANZ.ext 382 false true (AG 1 3 Bc Dn Ah AnI)
theorem AcY:AI Tryz.prog Aio:=Row.AE AnH ANY Tryz.func382 Aj5
abbrev AQm:Row:=⟨383,0,1,3,0,none,Bc,[(.ret,Vz)],AA,[(11,[[],[],[],[],[],[],[],[],[0],[0],[],[],[0],[0],[0],[1],[0],[1]]),(5,[[],[],[],[],[],[],[0],[0],[],[],[],[0],[0],[],[],[]]),(17,[[],[],[],[],[],[],[],[],[0],[0],[],[],[0],[0],[0],[1],[0],[1]]),(16,[[],[],[0],[0],[],[],[],[0],[0],[],[]]),(23,[[],[],[],[],[],[],[],[],[0],[0],[],[],[0],[0],[0],[1],[0],[1]]),(22,[[],[],[0],[0],[],[],[],[0],[0],[],[]])],[(0,TV,AKP),(1,TV,AKO),(2,AKR,AKN),(3,AKQ,AKM)]⟩
def Zg[Lk]:Env:=Aio.ext 383 false true (AG 1 3 Bc Vz AA Xh)
theorem AA7:AI Tryz.prog Zg:=Row.AE AQm AcY Tryz.func383 AKS
abbrev AZg:Row:=⟨385,0,1,4,0,none,E4,[(.ret,Pj)],AA,[(8,[[],[],[],[],[],[],[0],[0],[],[],[0],[0],[0],[1],[0],[1]]),(3,[[],[],[],[],[],[],[0],[0],[],[],[0],[0],[],[],[]]),(5,[[],[],[],[],[],[],[0],[0],[],[],[0],[0],[],[]]),(1,[[],[],[],[],[],[],[0],[0],[],[],[0],[0],[0],[1],[0],[1]])],[(0,OY,AQ3),(1,OY,AQ2),(2,OY,AQ1)]⟩
def ADu[Lk]:Env:=Zg.ext 385 false true (AG 1 4 E4 Pj AA AFd)
theorem AHi:AI Tryz.prog ADu:=Row.AE AZg AA7 Tryz.func385 AQ4
abbrev Akd:Row:=⟨386,0,1,4,0,none,E4,[(.ret,AVD)],AQ,[(3,[[],[],[],[],[],[],[0],[0],[],[],[0],[0],[],[]]),(5,[[],[],[],[],[],[],[0],[0],[],[],[0],[0],[],[],[]]),(18,[[],[],[],[],[],[],[0],[0],[],[],[0],[0],[0],[1],[0],[1]]),(13,[[],[],[],[],[],[],[0],[0],[],[],[0],[0],[],[]]),(15,[[],[],[],[],[],[],[0],[0],[],[],[0],[0],[],[],[]]),(21,[[],[],[],[],[],[],[0],[0],[],[],[0],[0],[0],[1],[0],[1]]),(10,[[],[],[],[],[],[],[0],[0],[],[],[0],[0],[0],[1],[0],[1]]),(8,[[],[],[],[],[],[],[0],[0],[],[],[0],[0],[0],[1],[0],[1]]),(1,[[],[],[],[],[],[],[0],[0],[],[],[0],[0],[0],[1],[0],[1]])],[(0,L7,Afh),(1,L7,Afg),(2,L7,Aff),(3,L7,Afe),(4,L7,Afd)]⟩
def AHf[Lk]:Env:=ADu.ext 386 false true (AG 1 4 E4 AVD AQ AVF)
theorem Zi:AI Tryz.prog AHf:=Row.AE Akd AHi Tryz.func386 Afi
abbrev AQd(self:(List Int×Int×Int×Int×Unit)→Option ((List Int×Unit))):Hints:={ loop:=fun n=>match n with|0=>Kw 1 134 AU7 AU6 (AFX self)|_=>fun _ _ _=>none,fp:=fun n=>match n with|17=>[[],[],[],[],[],[],[0],[0],[],[],[0],[0],[],[],[]]|_=>[] }
abbrev AFY(self:(List Int×Int×Int×Int×Unit)→Option ((List Int×Unit))):Env:=AHf.ext 354 false true (AG 1 4 E4 Dn Ah self)
theorem AQc(self:(List Int×Int×Int×Int×Unit)→Option ((List Int×Unit))):∀ v,AFX self v=roundOf Tryz.prog (AFY self) (AQd self) 1 1 134 (CZ Tryz.f354 0) AU7 AU6 v:=by rintro⟨a0,a1,a2,a3,a4,a5,⟨⟩⟩;kernel_rfl
theorem AkR:B5 (CZ Tryz.f354 0) 1=[]:=by kernel_rfl
theorem AkS(self:(List Int×Int×Int×Int×Unit)→Option ((List Int×Unit)))(hE:AI Tryz.prog (AFY self)):Iv Tryz.prog 1 (.loop (CZ Tryz.f354 0)) ((AQd self).loop 0):=QJ hE (AQc self) (D0 AkR trivial)
theorem AfG(self:(List Int×Int×Int×Int×Unit)→Option ((List Int×Unit))):∀ v,AfJ self v=DC 1 Tryz.prog (AFY self) (AQd self) Tryz.f354 E4 Dn Ah v:=by rintro⟨a0,a1,a2,a3,⟨⟩⟩;kernel_rfl
theorem Anj:B5 (BU Tryz.f354) 0=[(0,CZ Tryz.f354 0)]:=by kernel_rfl
theorem AQe:∀ n,Ak Tryz.prog 354 (AG 1 4 E4 Dn Ah (OV n)):=by
 intro n;induction n with
  |zero=>exact JB fun _=>rfl
  |succ n ih=>have hE:AI Tryz.prog (AFY (OV n)):=Env.Bi Zi ih ((by simp)) (fun _=>Bw rfl rfl);let self:=OV n;exact H0 hE Tryz.func354 (by kernel_rfl) (by kernel_rfl) rfl (AfG self) (D0 Anj ⟨(AkS self hE),trivial⟩)
theorem AZY:Ak Tryz.prog 354 (AG 1 4 E4 Dn Ah AfK):=by have e:AfK=OV 100:=funext AkT;rw[e];exact AQe _
def Aiu[Lk]:Env:=AHf.ext 354 false true (AG 1 4 E4 Dn Ah AfK)
theorem Ace:AI Tryz.prog Aiu:=Env.Bi Zi AZY ((by simp)) (fun _=>Bw rfl rfl)
end
end Go.Pev
end
section
namespace Go.Pev
open Go.Proofs
noncomputable section
abbrev Ajj:Row:=⟨336,0,1,1,0,none,BX,[(.ret,Dn)],Ah,[],[]⟩
def AWo[Lk]:Env:=Aiu.ext 336 false true (AG 1 1 BX Dn Ah Adk)
theorem ATX:AI Tryz.prog AWo:=Row.AE Ajj Ace Tryz.func336 Adj
abbrev AoX:Row:=⟨333,0,0,3,0,some (2,169),AiH,[(.ret,Sx)],AQ,[(5,[[],[],[],[],[],[0],[],[]]),(8,[[],[],[],[],[],[],[],[],[],[],[0],[],[],[],[],[]])],[(0,AmC,AmB)]⟩
def AjG[Lk]:Env:=AWo.BR 333 2 169 (AG 0 3 AiH Sx AQ AoY)
theorem Acx:AI Tryz.prog AjG:=Row.AE AoX ATX Tryz.func333 AmD
abbrev Af6:Row:=⟨298,0,0,3,0,none,Gn,[(.ret,Sx)],AQ,[],[]⟩
def Zk[Lk]:Env:=AjG.ext 298 true true (AG 0 3 Gn Sx AQ ARc)
theorem UH:AI Tryz.prog Zk:=Row.AE Af6 Acx Tryz.func298 AaJ
theorem ARN:Tryz.f335.body.isSome=true:=by kernel_rfl
theorem ARM : (Tryz.f335.name == "runtime.NumGoroutine") = false := by kernel_rfl
theorem ARL:loops (BU Tryz.f335)=0:=by kernel_rfl
def OE[Lk]:Env:=Zk.ext 335 false false (Bb Tryz.prog Zk {} Tryz.f335)
theorem S0:AI Tryz.prog OE:=Env.Bi UH (BI UH Tryz.func335 ARN ARM ARL) (by simp) (by simp)
abbrev YL:Row:=⟨134,0,2,2,0,some (1,335),FG,[(.ret,ML)],AA,[],[(0,VC,VB)]⟩
def Mw[Lk]:Env:=OE.BR 134 1 335 (AG 2 2 FG ML AA LA)
theorem RQ:AI Tryz.prog Mw:=Row.AE YL S0 Tryz.func134 VD
abbrev AlW:Row:=⟨251,0,0,2,0,none,AVs,[(.ret,WK)],AA,[],[]⟩
def AXC[Lk]:Env:=Mw.ext 251 false true (AG 0 2 AVs WK AA Ag4)
theorem ATv:AI Tryz.prog AXC:=Row.AE AlW RQ Tryz.func251 Ag3
abbrev Abl:Row:=⟨193,0,0,1,0,none,ADA,[(.ret,WK)],AA,[],[(0,ASl,ASj),(1,ASk,ASi)]⟩
def S5[Lk]:Env:=AXC.ext 193 true true (AG 0 1 ADA WK AA AGa)
theorem Rb:AI Tryz.prog S5:=Row.AE Abl ATv Tryz.func193 ASm
theorem Aeq:Tryz.f254.body.isSome=true:=by kernel_rfl
theorem Aep : (Tryz.f254.name == "runtime.NumGoroutine") = false := by kernel_rfl
theorem Aeo:loops (BU Tryz.f254)=0:=by kernel_rfl
theorem Anz:Tryz.f253.body.isSome=true:=by kernel_rfl
theorem Anx : (Tryz.f253.name == "runtime.NumGoroutine") = false := by kernel_rfl
theorem Anw:loops (BU Tryz.f253)=0:=by kernel_rfl
theorem AbW:Tryz.f212.body.isSome=true:=by kernel_rfl
theorem AbV : (Tryz.f212.name == "runtime.NumGoroutine") = false := by kernel_rfl
theorem AbU:loops (BU Tryz.f212)=0:=by kernel_rfl
def RZ[Lk]:Env:=S5.ext 212 false false (Bb Tryz.prog S5 {} Tryz.f212)
theorem Vp:AI Tryz.prog RZ:=Env.Bi Rb (BI Rb Tryz.func212 AbW AbV AbU) (by simp) (by simp)
abbrev Qa:Row:=⟨134,0,1,2,0,some (1,212),De,[(.ret,JL)],AA,[],[(0,O0,Oz)]⟩
def Fc[Lk]:Env:=RZ.BR 134 1 212 (AG 1 2 De JL AA HE)
theorem G3:AI Tryz.prog Fc:=Row.AE Qa Vp Tryz.func134 O1
theorem Aof:Tryz.f141.body.isSome=true:=by kernel_rfl
theorem Aoe : (Tryz.f141.name == "runtime.NumGoroutine") = false := by kernel_rfl
theorem Aod:loops (BU Tryz.f141)=0:=by kernel_rfl
def AER[Lk]:Env:=Fc.ext 141 false false (Bb Tryz.prog Fc {} Tryz.f141)
theorem AIH:AI Tryz.prog AER:=Env.Bi G3 (BI G3 Tryz.func141 Aof Aoe Aod) (by simp) (by simp)
end
end Go.Pev
end
section
namespace Go.Pev
open Go.Proofs
noncomputable section
abbrev Ahp:Row:=⟨140,0,2,2,0,some (1,141),AL1,[(.ret,AL0)],AA,[],[(0,Abj,Abi)]⟩
def Zx[Lk]:Env:=AER.BR 140 1 141 (AG 2 2 AL1 AL0 AA AGY)
theorem UL:AI Tryz.prog Zx:=Row.AE Ahp AIH Tryz.func140 Abk
theorem Aoc:Tryz.f142.body.isSome=true:=by kernel_rfl
theorem Aob : (Tryz.f142.name == "runtime.NumGoroutine") = false := by kernel_rfl
theorem Aoa:loops (BU Tryz.f142)=0:=by kernel_rfl
def AEQ[Lk]:Env:=Zx.ext 142 false false (Bb Tryz.prog Zx {} Tryz.f142)
theorem AIF:AI Tryz.prog AEQ:=Env.Bi UL (BI UL Tryz.func142 Aoc Aob Aoa) (by simp) (by simp)
abbrev Aho:Row:=⟨140,0,0,2,0,some (1,142),ALy,[(.ret,AP)],AA,[],[(0,Abf,Abe)]⟩
def AOL[Lk]:Env:=AEQ.BR 140 1 142 (AG 0 2 ALy AP AA ASd)
theorem AOK:AI Tryz.prog AOL:=Row.AE Aho AIF Tryz.func140 Abg
abbrev AXd:Row:=⟨83,0,0,2,0,none,ABP,[(.ret,Sx)],AQ,[(3,[[],[],[],[],[],[],[],[],[],[],[],[],[],[],[]])],[]⟩
def ADP[Lk]:Env:=AOL.ext 83 true true (AG 0 2 ABP Sx AQ AUC)
theorem AG6:AI Tryz.prog ADP:=Row.AE AXd AOK Tryz.func83 AOp
abbrev Alq:Row:=⟨107,0,0,2,0,none,Kz,[(.ret,AP)],AA,[],[]⟩
def AXF[Lk]:Env:=ADP.ext 107 true true (AG 0 2 Kz AP AA CK)
theorem ATy:AI Tryz.prog AXF:=Row.AE Alq AG6 Tryz.func107 AhC
abbrev AoA:Row:=⟨239,0,1,4,0,some (3,107),HB,[(.ret,Dl)],Ah,[(4,[[],[],[],[],[],[],[],[0],[0],[],[],[],[0],[0],[],[],[]]),(6,[[],[],[],[],[],[],[],[],[0],[0],[],[],[0],[0],[0],[1],[0],[1]])],[(0,Ak4,AFt),(1,Ak3,Ak2)]⟩
def Ai4[Lk]:Env:=AXF.BR 239 3 107 (AG 1 4 HB Dl Ah ApB)
theorem Acm:AI Tryz.prog Ai4:=Row.AE AoA ATy Tryz.func239 Ak5
abbrev Ajo:Row:=⟨293,0,1,5,0,some (4,107),E2,[(.ret,Dl)],Ah,[(6,[[],[],[],[],[],[],[],[],[],[],[],[],[0],[0],[],[],[],[],[0],[0],[0],[1],[0],[1]]),(5,[[],[],[],[],[],[0],[0],[],[],[],[],[0],[0],[],[],[]]),(3,[[],[],[],[],[],[],[],[],[],[],[0],[0],[],[],[],[],[],[0],[0],[],[],[]])],[(0,Adt,Ads)]⟩
def AWr[Lk]:Env:=Ai4.BR 293 4 107 (AG 1 5 E2 Dl Ah AmV)
theorem ATa:AI Tryz.prog AWr:=Row.AE Ajo Acm Tryz.func293 Adu
abbrev AlQ:Row:=⟨240,0,1,4,0,some (3,107),HB,[(.ret,Dl)],Ah,[(10,[[],[],[],[],[],[],[],[],[],[],[0],[0],[],[],[0],[0],[0],[1],[0],[1]])],[(0,Agi,Agg),(1,Agh,Agf)]⟩
def AW8[Lk]:Env:=AWr.BR 240 3 107 (AG 1 4 HB Dl Ah Amk)
theorem ATr:AI Tryz.prog AW8:=Row.AE AlQ ATa Tryz.func240 Agj
abbrev Ah9:Row:=⟨241,0,1,4,0,some (3,107),HB,[(.ret,Dl)],Ah,[(10,[[],[],[],[],[],[],[],[],[],[],[0],[0],[],[],[0],[0],[0],[1],[0],[1]])],[(0,Ab6,AFt)]⟩
def AOd[Lk]:Env:=AW8.BR 241 3 107 (AG 1 4 HB Dl Ah breakT)
theorem AOc:AI Tryz.prog AOd:=Row.AE Ah9 ATr Tryz.func241 Ab7
abbrev AZl:Row:=⟨332,0,2,5,0,some (4,107),ACL,[(.ret,ACK)],AQ,[(1,[[],[],[],[0],[0],[],[],[0],[0],[],[]])],[]⟩
def ADw[Lk]:Env:=AOd.BR 332 4 107 (AG 2 5 ACL ACK AQ AVK)
theorem AHl:AI Tryz.prog ADw:=Row.AE AZl AOc Tryz.func332 ARA
abbrev AZ0:Row:=⟨297,0,2,6,0,some (5,107),ACU,[(.ret,NR)],AA,[],[]⟩
def AD1[Lk]:Env:=ADw.BR 297 5 107 (AG 2 6 ACU NR AA AVW)
theorem AHq:AI Tryz.prog AD1:=Row.AE AZ0 AHl Tryz.func297 ARO
abbrev AZ7:Row:=⟨296,0,2,4,0,some (3,107),ACZ,[(.ret,NR)],AA,[],[]⟩
def AD5[Lk]:Env:=AD1.BR 296 3 107 (AG 2 4 ACZ NR AA AVZ)
theorem AHu:AI Tryz.prog AD5:=Row.AE AZ7 AHq Tryz.func296 ART
end
end Go.Pev
end
section
namespace Go.Pev
open Go.Proofs
noncomputable section
abbrev Aew:Row:=⟨242,0,1,4,0,some (3,107),HB,[(.ret,AJq)],AQ,[],[]⟩
def ANV[Lk]:Env:=AD5.BR 242 3 107 (AG 1 4 HB AJq AQ Aex)
theorem ANU:AI Tryz.prog ANV:=Row.AE Aew AHu Tryz.func242 AZK
abbrev AnE:Row:=⟨243,0,1,4,0,some (3,107),HB,[(.ret,Dl)],Ah,[(3,[[],[],[],[],[],[],[0],[0],[],[],[0],[0],[0],[1],[0],[1]])],[(0,Ajz,AFt)]⟩
def Aim[Lk]:Env:=ANV.BR 243 3 107 (AG 1 4 HB Dl Ah Aoy)
theorem AcW:AI Tryz.prog Aim:=Row.AE AnE ANU Tryz.func243 Aj0
abbrev AQj:Row:=⟨244,0,1,4,0,some (3,107),HB,[(.ret,Xe)],AA,[(11,[[],[],[],[],[],[],[],[],[0],[0],[],[],[0],[0],[0],[1],[0],[1]]),(5,[[],[],[],[],[],[],[],[0],[0],[],[],[],[0],[0],[],[],[],[]]),(17,[[],[],[],[],[],[],[],[],[0],[0],[],[],[0],[0],[0],[1],[0],[1]]),(16,[[],[],[],[0],[0],[],[],[],[0],[0],[],[],[]]),(23,[[],[],[],[],[],[],[],[],[0],[0],[],[],[0],[0],[0],[1],[0],[1]]),(22,[[],[],[],[0],[0],[],[],[],[0],[0],[],[],[]])],[(0,TR,AJ6),(1,TR,AJ5),(2,AJ8,AJ4),(3,AJ7,AJ3)]⟩
def Ze[Lk]:Env:=Aim.BR 244 3 107 (AG 1 4 HB Xe AA AKA)
theorem AA5:AI Tryz.prog Ze:=Row.AE AQj AcW Tryz.func244 AJ9
abbrev AZd:Row:=⟨245,0,1,5,0,some (4,107),E2,[(.ret,ACF)],AA,[(8,[[],[],[],[],[],[],[0],[0],[],[],[0],[0],[0],[1],[0],[1]]),(3,[[],[],[],[],[],[],[],[0],[0],[],[],[0],[0],[],[],[],[]]),(5,[[],[],[],[],[],[],[],[0],[0],[],[],[0],[0],[],[],[]]),(1,[[],[],[],[],[],[],[0],[0],[],[],[0],[0],[0],[1],[0],[1]])],[(0,OW,AQs),(1,OW,AQr),(2,OW,AQq)]⟩
def ADs[Lk]:Env:=Ze.BR 245 4 107 (AG 1 5 E2 ACF AA AVG)
theorem AHg:AI Tryz.prog ADs:=Row.AE AZd AA5 Tryz.func245 AQt
abbrev Aka:Row:=⟨246,0,1,5,0,some (4,107),E2,[(.ret,AVB)],AQ,[(3,[[],[],[],[],[],[],[],[0],[0],[],[],[0],[0],[],[],[]]),(5,[[],[],[],[],[],[],[],[0],[0],[],[],[0],[0],[],[],[],[]]),(18,[[],[],[],[],[],[],[0],[0],[],[],[0],[0],[0],[1],[0],[1]]),(13,[[],[],[],[],[],[],[],[0],[0],[],[],[0],[0],[],[],[]]),(15,[[],[],[],[],[],[],[],[0],[0],[],[],[0],[0],[],[],[],[]]),(21,[[],[],[],[],[],[],[0],[0],[],[],[0],[0],[0],[1],[0],[1]]),(10,[[],[],[],[],[],[],[0],[0],[],[],[0],[0],[0],[1],[0],[1]]),(8,[[],[],[],[],[],[],[0],[0],[],[],[0],[0],[0],[1],[0],[1]]),(1,[[],[],[],[],[],[],[0],[0],[],[],[0],[0],[0],[1],[0],[1]])],[(0,L4,AfQ),(1,L4,AfP),(2,L4,AfO),(3,L4,AfN),(4,L4,AfM)]⟩
def AHd[Lk]:Env:=ADs.BR 246 4 107 (AG 1 5 E2 AVB AQ Amf)
theorem Zc:AI Tryz.prog AHd:=Row.AE Aka AHg Tryz.func246 AfR
abbrev AQX(self:(List (Int×Int×Int×Bool×Unit)×Int×Int×Int×Unit)→Option ((List (Int×Int×Int×Bool×Unit)×Unit))):Hints:={ loop:=fun n=>match n with|0=>Kw 1 148 AU2 AU1 (AU0 self)|_=>fun _ _ _=>none,fp:=fun n=>match n with|17=>[[],[],[],[],[],[],[],[0],[0],[],[],[0],[0],[],[],[],[]]|_=>[] }
abbrev AFU(self:(List (Int×Int×Int×Bool×Unit)×Int×Int×Int×Unit)→Option ((List (Int×Int×Int×Bool×Unit)×Unit))):Env:=AHd.ext 186 false true (AG 1 5 E2 Dl Ah self)
theorem AQW(self:(List (Int×Int×Int×Bool×Unit)×Int×Int×Int×Unit)→Option ((List (Int×Int×Int×Bool×Unit)×Unit))):∀ v,AU0 self v=roundOf Tryz.prog (AFU self) (AQX self) 1 1 148 (CZ Tryz.f186 0) AU2 AU1 v:=by rintro⟨a0,a1,a2,a3,a4,a5,⟨⟩⟩;kernel_rfl
theorem AkJ:B5 (CZ Tryz.f186 0) 1=[]:=by kernel_rfl
theorem AkK(self:(List (Int×Int×Int×Bool×Unit)×Int×Int×Int×Unit)→Option ((List (Int×Int×Int×Bool×Unit)×Unit)))(hE:AI Tryz.prog (AFU self)):Iv Tryz.prog 1 (.loop (CZ Tryz.f186 0)) ((AQX self).loop 0):=QJ hE (AQW self) (D0 AkJ trivial)
theorem AfE(self:(List (Int×Int×Int×Bool×Unit)×Int×Int×Int×Unit)→Option ((List (Int×Int×Int×Bool×Unit)×Unit))):∀ v,Ang self v=DC 1 Tryz.prog (AFU self) (AQX self) Tryz.f186 E2 Dl Ah v:=by rintro⟨a0,a1,a2,a3,⟨⟩⟩;kernel_rfl
theorem Anf:B5 (BU Tryz.f186) 0=[(0,CZ Tryz.f186 0)]:=by kernel_rfl
theorem AQY:∀ n,Ak Tryz.prog 186 (AG 1 5 E2 Dl Ah (Xb n)):=by
 intro n;induction n with
  |zero=>exact JB fun _=>rfl
  |succ n ih=>have hE:AI Tryz.prog (AFU (Xb n)):=Env.Bi Zc ih ((by simp)) (fun _=>Bw rfl rfl);let self:=Xb n;exact H0 hE Tryz.func186 (by kernel_rfl) (by kernel_rfl) rfl (AfE self) (D0 Anf ⟨(AkK self hE),trivial⟩)
theorem AZW:Ak Tryz.prog 186 (AG 1 5 E2 Dl Ah AkM):=by have e:AkM=Xb 100:=funext AkL;rw[e];exact AQY _
def Ais[Lk]:Env:=AHd.BR 186 4 107 (AG 1 5 E2 Dl Ah AkM)
theorem Acb:AI Tryz.prog Ais:=Env.Qt Zc AZW (Bw rfl rfl)
abbrev Ajg:Row:=⟨106,0,1,2,0,some (1,107),AUZ,[(.ret,Dl)],Ah,[],[]⟩
def AWn[Lk]:Env:=Ais.BR 106 1 107 (AG 1 2 AUZ Dl Ah Adh)
theorem ATW:AI Tryz.prog AWn:=Row.AE Ajg Acb Tryz.func106 Adg
abbrev AlY:Row:=⟨103,0,0,2,0,none,EU,[(.ret,AM)],AA,[],[]⟩
def AXE[Lk]:Env:=AWn.ext 103 true true (AG 0 2 EU AM AA Ag7)
theorem ATx:AI Tryz.prog AXE:=Row.AE AlY ATW Tryz.func103 Ag6
abbrev AGT:Row:=⟨190,0,3,2,8,some (1,191),HX,[(.ret,Q1)],AA,[],[(0,AAk,AAj)]⟩
def RY[Lk]:Env:=AXE.BR 190 1 191 (EO (AG 3 2 HX Q1 AA PC))
theorem Vo:AI Tryz.prog RY:=Row.AE AGT ATx Tryz.func190 AAl
abbrev ARs:Row:=⟨128,0,0,1,0,none,AP,[(.ret,AM)],AA,[],[]⟩
def Zm[Lk]:Env:=RY.ext 128 true true (AG 0 1 AP AM AA MN)
theorem ABB:AI Tryz.prog Zm:=Row.AE ARs Vo Tryz.func128 Tk
abbrev Aor:Row:=⟨221,0,0,1,0,none,AP,[(.ret,AM)],AA,[],[]⟩
def AWf[Lk]:Env:=Zm.ext 221 true true (AG 0 1 AP AM AA wb1)
theorem Ms:AI Tryz.prog AWf:=Row.AE Aor ABB Tryz.func221 Am3
end
end Go.Pev
end
section
namespace Go.Pev
open Go.Proofs
noncomputable section
set_option maxHeartbeats 8000000
attribute [local irreducible] AH AJ Ai CL Eo Cb AF C3 Bs imax idx CE ilt ile ieq seq? quo? rem? shl? shr? fits Bq IntKind.wrap AR Ae AAC AZw AX VG AL many LN
abbrev Gf:AD:=[(.tmp 0,.box 2),(.cell 0 0,.dat (.slice (.int .u8))),(.cell 0 1,.di),(.tmp 1,.clo 221 [])]
abbrev Ge:AD:=[(.tmp 0,.di),(.obj 0,.box 2),(.cell 0 0,.dat (.slice (.int .u8))),(.cell 0 1,.di)]
abbrev H7:List RS:=[.one]
abbrev Lg:AD:=[(.obj 0,.box 2)]
def Wa[Lk]:Hints:={ fp:=Qo [(1,[[],[0],[0],[0],[],[0],[0],[0],[],[]]),(3,[[],[0],[0],[0],[],[0],[0],[0],[],[],[],[]])] }
def Rh[Lk](v:Au (leaves Gf)):Option (Au (leaves Ge)⊕(List Int×Au (leaves Lg))):=Lk.f (Cp 1 Tryz.prog AWf Wa Tryz.f220 Gf Ge H7 239 [.i64,.i64] Lg v)
theorem ABS(v):Rh v=Cp 1 Tryz.prog AWf Wa Tryz.f220 Gf Ge H7 239 [.i64,.i64] Lg v:=AB _
theorem PS:BB Tryz.prog 1 Wa (BU Tryz.f220) 0:=CN _ 0 (by kernel_rfl)
theorem AXi:Gb Tryz.prog 220 (AG 1 2 Gf Ge H7 fun x=>Ca (Rh x)) (HK 1 2 Gf Ge H7 239 [.i64,.i64] Lg Rh):=Jw Ms.1 Ms.2.1 Ms.2.2 Tryz.func220 (FW (by kernel_rfl)) (Bm Tryz.func220 (by kernel_rfl) (by kernel_rfl)) (AqT rfl) ABS PS
theorem AXh:Ak Tryz.prog 220 (AG 1 2 Gf Ge H7 fun x=>Ca (Rh x)):=Ju Ms Tryz.func220 (by kernel_rfl) (by kernel_rfl) rfl ABS PS
def RL[Lk]:Env:=Env.Tr AWf 220 1 221 (AG 1 2 Gf Ge H7 fun x=>Ca (Rh x)) (HK 1 2 Gf Ge H7 239 [.i64,.i64] Lg Rh)
theorem G0:AI Tryz.prog RL:=Env.ALV Ms AXh AXi (Bw rfl rfl)
abbrev Gd:AD:=[(.tmp 0,.box 2),(.cell 0 0,.dat (.slice (.int .u8))),(.cell 0 1,.di),(.tmp 1,.clo 164 [])]
abbrev Gc:AD:=[(.tmp 0,.di),(.obj 0,.box 2),(.cell 0 0,.dat (.slice (.int .u8))),(.cell 0 1,.di)]
abbrev H6:List RS:=[.one]
abbrev Lf:AD:=[(.obj 0,.box 2)]
def WZ[Lk]:Hints:={ fp:=Qo [(1,[[],[0],[0],[0],[],[0],[0],[0],[],[]]),(3,[[],[0],[0],[0],[],[0],[0],[0],[],[],[],[]])] }
def Rg[Lk](v:Au (leaves Gd)):Option (Au (leaves Gc)⊕(List Int×Au (leaves Lf))):=Lk.f (Cp 1 Tryz.prog RL WZ Tryz.f220 Gd Gc H6 239 [.i64,.i64] Lf v)
theorem ABR(v):Rg v=Cp 1 Tryz.prog RL WZ Tryz.f220 Gd Gc H6 239 [.i64,.i64] Lf v:=AB _
theorem PR:BB Tryz.prog 1 WZ (BU Tryz.f220) 0:=CN _ 0 (by kernel_rfl)
theorem AXg:Gb Tryz.prog 220 (AG 1 2 Gd Gc H6 fun x=>Ca (Rg x)) (HK 1 2 Gd Gc H6 239 [.i64,.i64] Lf Rg):=Jw G0.1 G0.2.1 G0.2.2 Tryz.func220 (FW (by kernel_rfl)) (Bm Tryz.func220 (by kernel_rfl) (by kernel_rfl)) (AqT rfl) ABR PR
theorem AXf:Ak Tryz.prog 220 (AG 1 2 Gd Gc H6 fun x=>Ca (Rg x)):=Ju G0 Tryz.func220 (by kernel_rfl) (by kernel_rfl) rfl ABR PR
def RJ[Lk]:Env:=Env.Tr RL 220 1 164 (AG 1 2 Gd Gc H6 fun x=>Ca (Rg x)) (HK 1 2 Gd Gc H6 239 [.i64,.i64] Lf Rg)
theorem Gz:AI Tryz.prog RJ:=Env.ALV G0 AXf AXg (Bw rfl rfl)
abbrev I0:AD:=[(.tmp 0,.box 2),(.cell 0 0,.dat (.slice (.int .u8))),(.cell 0 1,.di)]
abbrev Iz:AD:=[(.tmp 0,.di),(.obj 0,.box 2),(.cell 0 0,.dat (.slice (.int .u8))),(.cell 0 1,.di)]
abbrev KR:List RS:=[.one]
abbrev PQ:AD:=[(.obj 0,.box 2)]
def AEX[Lk]:Hints:={ fp:=Qo [(1,[[],[0],[0],[0],[],[0],[0],[0],[],[],[],[],[],[]])] }
def ABN[Lk](v:Au (leaves I0)):Option (Au (leaves Iz)⊕(List Int×Au (leaves PQ))):=Lk.f (Cp 1 Tryz.prog RJ AEX Tryz.f222 I0 Iz KR 239 [.i64,.i64] PQ v)
theorem AIN(v):ABN v=Cp 1 Tryz.prog RJ AEX Tryz.f222 I0 Iz KR 239 [.i64,.i64] PQ v:=AB _
theorem S9:BB Tryz.prog 1 AEX (BU Tryz.f222) 0:=CN _ 0 (by kernel_rfl)
theorem Ac1:Gb Tryz.prog 222 (AG 1 1 I0 Iz KR fun x=>Ca (ABN x)) (HK 1 1 I0 Iz KR 239 [.i64,.i64] PQ ABN):=Jw Gz.1 Gz.2.1 Gz.2.2 Tryz.func222 (FW (by kernel_rfl)) (Bm Tryz.func222 (by kernel_rfl) (by kernel_rfl)) (AqT rfl) AIN S9
theorem Ac0:Ak Tryz.prog 222 (AG 1 1 I0 Iz KR fun x=>Ca (ABN x)):=Ju Gz Tryz.func222 (by kernel_rfl) (by kernel_rfl) rfl AIN S9
def Nq[Lk]:Env:=Env.AGJ RJ 222 true (AG 1 1 I0 Iz KR fun x=>Ca (ABN x)) (HK 1 1 I0 Iz KR 239 [.i64,.i64] PQ ABN)
theorem D2:AI Tryz.prog Nq:=Env.WM Gz Ac0 Ac1 (fun _=>Bw rfl rfl)
abbrev M8:AD:=[(.tmp 0,.box 2),(.cell 0 0,.dat (.slice (.int .u8))),(.cell 0 1,.di),(.tmp 2,.box 3),(.cell 1 0,.di),(.cell 1 1,.own 88 (.prod (.int .i64) (.prod (.int .i64) .unit))),(.cell 1 2,.own 46 (.prod (.int .i64) (.prod (.int .i64) (.prod (.int .i64) .unit)))),(.tmp 19,.di),(.tmp 20,.di)]
abbrev M7:AW:=[(.exit 0,[(.tmp 0,.box 2),(.cell 0 0,.dat (.slice (.int .u8))),(.cell 0 1,.di),(.tmp 2,.box 3),(.cell 1 0,.di),(.cell 1 1,.own 88 (.prod (.int .i64) (.prod (.int .i64) .unit))),(.cell 1 2,.own 46 (.prod (.int .i64) (.prod (.int .i64) (.prod (.int .i64) .unit))))])]
abbrev M6:AD:=[(.obj 0,.box 2)]
def ABU[Lk]:Hints:={ fp:=Qo [(9,[[2],[2],[],[1000005,1],[],[1000005,1],[],[1000005,1],[],[],[7,32],[2],[3]]),(10,[[2],[2],[],[1000005,1],[],[1000005,1],[],[],[5,24],[2],[3]])] }
theorem PU:BB Tryz.prog 1 { fp:=Qo [(9,[[2],[2],[],[1000005,1],[],[1000005,1],[],[1000005,1],[],[],[7,32],[2],[3]]),(10,[[2],[2],[],[1000005,1],[],[1000005,1],[],[],[5,24],[2],[3]])],loop:=fun _=>Kv 1 49 M8 M7 239 [.i64,.i64] M6 (IK Tryz.prog Nq ABU 1 1 49 (CZ Tryz.f157 0) M8 M7 239 [.i64,.i64] M6) } (BU Tryz.f157) 0:=Tz (l:=[(0,(CZ Tryz.f157 0))]) (by kernel_rfl) ⟨Xz D2.1 D2.2.1 D2.2.2 (fun _=>rfl) (CN _ _ (by kernel_rfl)),trivial⟩
abbrev Gh:AD:=[(.tmp 0,.box 2),(.cell 0 0,.dat (.slice (.int .u8))),(.cell 0 1,.di)]
abbrev Gg:AD:=[(.tmp 0,.dat (.prod (.int .i64) (.prod (.slice (.prod (.int .i64) (.prod (.int .i64) .unit))) (.prod (.slice (.prod (.int .i64) (.prod (.int .i64) (.prod (.int .i64) .unit)))) .unit)))),(.obj 0,.box 2),(.cell 0 0,.dat (.slice (.int .u8))),(.cell 0 1,.di)]
abbrev H8:List RS:=[.one]
abbrev Lj:AD:=[(.obj 0,.box 2)]
def AIS[Lk]:Hints:={ fp:=Qo [(9,[[2],[2],[],[1000005,1],[],[1000005,1],[],[1000005,1],[],[],[7,32],[2],[3]]),(10,[[2],[2],[],[1000005,1],[],[1000005,1],[],[],[5,24],[2],[3]])],loop:=fun _=>Kv 1 49 M8 M7 239 [.i64,.i64] M6 (IK Tryz.prog Nq ABU 1 1 49 (CZ Tryz.f157 0) M8 M7 239 [.i64,.i64] M6) }
def Ri[Lk](v:Au (leaves Gh)):Option (Au (leaves Gg)⊕(List Int×Au (leaves Lj))):=Lk.f (Cp 1 Tryz.prog Nq AIS Tryz.f157 Gh Gg H8 239 [.i64,.i64] Lj v)
theorem ABV(v):Ri v=Cp 1 Tryz.prog Nq AIS Tryz.f157 Gh Gg H8 239 [.i64,.i64] Lj v:=AB _
theorem AXk:Gb Tryz.prog 157 (AG 1 1 Gh Gg H8 fun x=>Ca (Ri x)) (HK 1 1 Gh Gg H8 239 [.i64,.i64] Lj Ri):=Jw D2.1 D2.2.1 D2.2.2 Tryz.func157 (FW (by kernel_rfl)) (Bm Tryz.func157 (by kernel_rfl) (by kernel_rfl)) (AqT rfl) ABV PU
theorem AXj:Ak Tryz.prog 157 (AG 1 1 Gh Gg H8 fun x=>Ca (Ri x)):=Ju D2 Tryz.func157 (by kernel_rfl) (by kernel_rfl) rfl ABV PU
def Mr[Lk]:Env:=Env.AGJ Nq 157 false (AG 1 1 Gh Gg H8 fun x=>Ca (Ri x)) (HK 1 1 Gh Gg H8 239 [.i64,.i64] Lj Ri)
theorem G1:AI Tryz.prog Mr:=Env.WM D2 AXj AXk (by simp)
abbrev KW:AD:=[(.tmp 3,.box 1),(.tmp 4,.box 1),(.cell 0 0,.di),(.cell 1 0,.di),(.tmp 5,.box 2),(.cell 2 0,.dat (.slice (.int .u8))),(.cell 2 1,.di),(.tmp 0,.dat (.slice (.int .u8))),(.tmp 2,.own 91 (.prod (.int .i64) (.prod (.slice (.prod (.int .i64) (.prod (.int .i64) .unit))) (.prod (.slice (.prod (.int .i64) (.prod (.int .i64) (.prod (.int .i64) .unit)))) .unit))))]
abbrev KV:AW:=[(.exit 0,[(.tmp 3,.box 1),(.tmp 4,.box 1),(.cell 0 0,.di),(.cell 1 0,.di),(.tmp 5,.box 2),(.cell 2 0,.dat (.slice (.int .u8))),(.cell 2 1,.di),(.tmp 0,.dat (.slice (.int .u8))),(.tmp 2,.own 91 (.prod (.int .i64) (.prod (.slice (.prod (.int .i64) (.prod (.int .i64) .unit))) (.prod (.slice (.prod (.int .i64) (.prod (.int .i64) (.prod (.int .i64) .unit)))) .unit))))])]
abbrev KU:AD:=[(.tmp 3,.box 1),(.tmp 4,.box 1),(.cell 0 0,.di),(.cell 1 0,.di),(.tmp 2,.own 91 (.prod (.int .i64) (.prod (.slice (.prod (.int .i64) (.prod (.int .i64) .unit))) (.prod (.slice (.prod (.int .i64) (.prod (.int .i64) (.prod (.int .i64) .unit)))) .unit))))]
def We[Lk]:Hints:={}
theorem Z3[DfI]:BB Tryz.prog 2 { fp:=Qo [(5,[[],[],[4],[4],[4],[],[1],[3]])],loop:=fun _=>Kv 2 27 KW KV 239 [.i64,.i64] KU (IK Tryz.prog Mr We 1 2 27 (CZ Tryz.f77 0) KW KV 239 [.i64,.i64] KU) } (AL6 1 (BU Tryz.f77)) 0:=Tz (l:=[(0,(CZ Tryz.f77 0))]) (by kernel_rfl) ⟨Xz G1.1 G1.2.1 G1.2.2 (fun _=>rfl) (CN _ _ (by kernel_rfl)),trivial⟩
def Nr[Lk]:Env:=Mr.ext 156 false false (Bb Tryz.prog Mr {} Tryz.f156)
theorem Hh:AI Tryz.prog Nr:=Env.Bi G1 (BI G1 Tryz.func156 (by kernel_rfl) (by kernel_rfl) (by kernel_rfl)) (by simp) (by simp)
abbrev Jm:AD:=[(.tmp 0,.dat (.slice (.int .u8)))]
abbrev Jl:AD:=[(.tmp 0,.dat (.slice (.prod (.int .i64) (.prod (.slice (.prod (.int .i64) (.prod (.int .i64) .unit))) (.prod (.slice (.prod (.int .i64) (.prod (.int .i64) (.prod (.int .i64) .unit)))) .unit))))),(.tmp 1,.di),(.tmp 2,.di)]
abbrev M9:List RS:=[.one,.one,.one]
abbrev ABW:AD:=[(.tmp 3,.box 1),(.tmp 4,.box 1),(.cell 0 0,.di),(.cell 1 0,.di),(.tmp 0,.dat (.slice (.int .u8))),(.tmp 2,.nil (.prod (.int .i64) (.prod (.slice (.prod (.int .i64) (.prod (.int .i64) .unit))) (.prod (.slice (.prod (.int .i64) (.prod (.int .i64) (.prod (.int .i64) .unit)))) .unit))))]
def Wd[Lk]:Hints:={ fp:=Qo [(5,[[],[],[4],[4],[4],[],[1],[3]])],loop:=fun _=>Kv 2 27 KW KV 239 [.i64,.i64] KU (IK Tryz.prog Mr We 1 2 27 (CZ Tryz.f77 0) KW KV 239 [.i64,.i64] KU) }
def Wc:Hints:={ fp:=Qo [(2,[[14],[14],[14],[14],[1],[3]])] }
def KX[Lk](v:Au (leaves Jm)):Option (Au (leaves Jl)):=Lk.f (R9 Tryz.prog Nr Tryz.f77 1 Jm Jl M9 {} Wd Wc ABW 2 v)
theorem AOs(v):KX v=R9 Tryz.prog Nr Tryz.f77 1 Jm Jl M9 {} Wd Wc ABW 2 v:=AB _
theorem AEZ:Ak Tryz.prog 77 (AG 0 1 Jm Jl M9 KX):=AKm Hh.1 Hh.2.1 Hh.2.2 Tryz.func77 (FW (by kernel_rfl)) (Bm Tryz.func77 (by kernel_rfl) (by kernel_rfl)) (AqT rfl) AOs Z3
def ADQ[Lk]:Env:=Nr.ext 77 true true (AG 0 1 Jm Jl M9 KX)
theorem AG7:AI Tryz.prog ADQ:=Env.Bi Hh AEZ (fun _=>Kt rfl rfl) (fun _=>Bw rfl rfl)
end
end Go.Pev
end
section
namespace Go.Pev
noncomputable section
def AE0[Lk]:U8→Option (Uc):=fun(a0,_)=>
 some ((ieq a0 (IntKind.wrap .i64 (IntKind.wrap .u16 a0))),())
def AUh[Lk]:=fun v=>Lk.f (AE0 v)
theorem AI0 v:AUh v=AE0 v:=AB _
abbrev FH:AD:=[(.tmp 0,.dat U6),(.tmp 1,.clo 150 [])]
abbrev VE:AD:=[(.tmp 0,.dat U6),(.tmp 1,.clo 150 []),(.tmp 7,.di),(.tmp 8,.di)]
def DQ[Lk]:Ub→Option (Ub⊕U8⊕(Unit)⊕Unit):=fun(a0,a1,a2,_)=>
 match(ilt a2 a1)with
 |true=>match idx a0 a2 with|none=>none|some x0=>match AUh (x0,())with|none=>none|some (y1,_)=>match(!y1)with
  |true=>some (.inr (.inl (a2,())))
  |false=>some (.inl (a0,a1,(IntKind.wrap .i64 (a2+1)),()))
 |false=>some (.inr (.inr (.inl ())))
def Ie[Lk]:Ua→Option (U8):=fun(a0,_)=>
 match AL DQ many (a0,(AH a0),0,())with|none=>none|some r=>match r with
 |.inl (o0,_)=>some (o0,())
 |.inr r=>match r with
 |.inl _=>some ((-1:Int),())
 |.inr _=>none
def LB[Lk]:=fun v=>Lk.f (Ie v)
theorem LW v:LB v=Ie v:=AB _
def HG[Lk]:Ua→Option (Uc):=fun(a0,_)=>
 match LB (a0,())with|none=>none|some (y0,_)=>some ((ile 0 y0),())
def GZ[Lk]:=fun v=>Lk.f (HG v)
theorem KG v:GZ v=HG v:=AB _
def Rs[Lk]:U8→Option (Uc):=fun(a0,_)=>
 match(ile 0 a0)with
 |true=>some ((ile a0 65535),())
 |false=>some (false,())
def NJ[Lk]:=fun v=>Lk.f (Rs v)
theorem W8 v:NJ v=Rs v:=AB _
abbrev AUK:AD:=[(.tmp 0,.own 5 (.int .u8))]
def AEc[Lk]:U8→Option (Ua):=fun(a0,_)=>
 match quo? .i64 a0 256 with|none=>none|some x0=>match rem? a0 256 with|none=>none|some x1=>some (([(IntKind.wrap .u8 x0),(IntKind.wrap .u8 x1)]:List (Int)),())
def ABX[Lk]:=fun v=>Lk.f (AEc v)
theorem AIX v:ABX v=AEc v:=AB _
abbrev LG:AD:=[(.tmp 0,.dat Ut)]
abbrev Dv:AD:=[(.tmp 0,.own 5 (.int .u8)),(.tmp 1,.di)]
abbrev ALe:AD:=[(.tmp 1,.box 3),(.cell 0 0,.di),(.cell 0 1,.di),(.cell 0 2,.dat U6),(.tmp 4,.own 5 (.int .u8)),(.tmp 5,.di)]
abbrev MW:AW:=[(.ret,[(.tmp 2,.nil (.int .u8)),(.tmp 3,.di)]),(.exit 0,[(.tmp 4,.own 5 (.int .u8))])]
def Du[Lk]:(Int×Int×List Int×List Int×Int×Unit)→Option ((Int×Int×List Int×List Int×Int×Unit)⊕U8⊕Ua⊕Unit):=fun(a0,a1,a2,a3,a4,_)=>
 match(ilt a4 (AH a2))with
 |true=>match idx a2 a4 with|none=>none|some x0=>match NJ (x0,())with|none=>none|some (y1,_)=>match(!y1)with
  |true=>some (.inr (.inl (1,())))
  |false=>match idx a2 a4 with|none=>none|some x2=>match ABX (x2,())with|none=>none|some (y3,_)=>match(fits ((AH a3)+(AH y3)))with
  |true=>some (.inl (a0,a1,a2,(Ai a3 y3),(IntKind.wrap .i64 (a4+1)),()))
  |false=>none
 |false=>some (.inr (.inr (.inl (a3,()))))
def PB[Lk]:(Ui×Unit)→Option (Uh):=fun(a0,_)=>
 match(ilt a0.1 0)with
 |true=>some (([]:List (Int)),1,())
 |false=>match(ilt 255 a0.1)with
 |true=>some (([]:List (Int)),1,())
 |false=>match NJ (a0.2.1,())with|none=>none|some (y0,_)=>match(!y0)with
 |true=>some (([]:List (Int)),1,())
 |false=>match NJ ((AH a0.2.2.1),())with|none=>none|some (y1,_)=>match(!y1)with
 |true=>some (([]:List (Int)),1,())
 |false=>match ABX (a0.2.1,())with|none=>none|some (y2,_)=>match(fits ((AH ([(IntKind.wrap .u8 a0.1)]:List (Int)))+(AH y2)))with
 |true=>match ABX ((AH a0.2.2.1),())with|none=>none|some (y3,_)=>match(fits ((AH (Ai ([(IntKind.wrap .u8 a0.1)]:List (Int)) y2))+(AH y3)))with
  |true=>match AL Du many (a0.1,a0.2.1,a0.2.2.1,(Ai (Ai ([(IntKind.wrap .u8 a0.1)]:List (Int)) y2) y3),0,())with|none=>none|some r=>match r with
   |.inl (o4,_)=>some (([]:List (Int)),o4,())
   |.inr r=>match r with
   |.inl (o5,_)=>some (o5,0,())
   |.inr _=>none
  |false=>none
 |false=>none
def Qz[Lk]:=fun v=>Lk.f (PB v)
theorem Ts v:Qz v=PB v:=AB _
abbrev AJH:AD:=[(.tmp 0,.dat Ut),(.tmp 1,.dat Ut)]
def AJI[Lk]:(Ui×Ui×Unit)→Option (Uc):=fun(a0,a1,_)=>
 match(ieq a0.1 a1.1)with
 |true=>match(ieq a0.2.1 a1.2.1)with
  |true=>match Ov (a0.2.2.1,a1.2.2.1,())with|none=>none|some (y0,_)=>some (y0,())
  |false=>some (false,())
 |false=>some (false,())
def Ry[Lk]:=fun v=>Lk.f (AJI v)
theorem AYe v:Ry v=AJI v:=AB _
abbrev Pq:AD:=[(.tmp 0,.dat Um),(.tmp 1,.dat Um)]
abbrev AYg:AD:=[(.tmp 2,.box 2),(.cell 0 0,.di),(.cell 0 1,.dat Uy),(.tmp 3,.box 2),(.cell 1 0,.di),(.cell 1 1,.dat Uy),(.tmp 5,.di)]
def AYf[Lk]:(Int×List U1×Int×List U1×Int×Unit)→Option ((Int×List U1×Int×List U1×Int×Unit)⊕Uc⊕(Unit)⊕Unit):=fun(a0,a1,a2,a3,a4,_)=>
 match(ilt a4 (AH a1))with
 |true=>match idx a1 a4 with|none=>none|some x0=>match idx a3 a4 with|none=>none|some x1=>match(!(ieq x0.1 x1.1&&(ieq x0.2.1 x1.2.1&&(ieq x0.2.2.1 x1.2.2.1&&((x0.2.2.2.1==x1.2.2.2.1)&&true)))))with
  |true=>some (.inr (.inl (false,())))
  |false=>some (.inl (a0,a1,a2,a3,(IntKind.wrap .i64 (a4+1)),()))
 |false=>some (.inr (.inr (.inl ())))
def AJJ[Lk]:(Uf×Uf×Unit)→Option (Uc):=fun(a0,a1,_)=>
 match(!(ieq a0.1 a1.1))with
 |true=>some (false,())
 |false=>match(!(ieq (AH a0.2.1) (AH a1.2.1)))with
 |true=>some (false,())
 |false=>match AL AYf many (a0.1,a0.2.1,a1.1,a1.2.1,0,())with|none=>none|some r=>match r with
 |.inl (o0,_)=>some (o0,())
 |.inr r=>match r with
 |.inl _=>some (true,())
 |.inr _=>none
def XH[Lk]:=fun v=>Lk.f (AJJ v)
theorem AYh v:XH v=AJJ v:=AB _
abbrev ALZ:AD:=[(.tmp 0,.dat Uy),(.tmp 1,.dat Uy)]
abbrev Aa8:AD:=[(.tmp 0,.dat Uy),(.tmp 1,.dat Uy),(.tmp 12,.di),(.tmp 13,.di)]
def Aa7[Lk]:(List U1×List U1×Int×Int×Unit)→Option ((List U1×List U1×Int×Int×Unit)⊕Uc⊕(Unit)⊕Unit):=fun(a0,a1,a2,a3,_)=>
 match(ilt a3 a2)with
 |true=>match idx a0 a3 with|none=>none|some x0=>match idx a1 a3 with|none=>none|some x1=>match(!(ieq x0.1 x1.1&&(ieq x0.2.1 x1.2.1&&(ieq x0.2.2.1 x1.2.2.1&&((x0.2.2.2.1==x1.2.2.2.1)&&true)))))with
  |true=>some (.inr (.inl (false,())))
  |false=>some (.inl (a0,a1,a2,(IntKind.wrap .i64 (a3+1)),()))
 |false=>some (.inr (.inr (.inl ())))
def ALa[Lk]:(List U1×List U1×Unit)→Option (Uc):=fun(a0,a1,_)=>
 match(!(ieq (AH a0) (AH a1)))with
 |true=>some (false,())
 |false=>match AL Aa7 many (a0,a1,(AH a0),0,())with|none=>none|some r=>match r with
 |.inl (o0,_)=>some (o0,())
 |.inr r=>match r with
 |.inl _=>some (true,())
 |.inr _=>none
def AR4[Lk]:=fun v=>Lk.f (ALa v)
theorem Aa9 v:AR4 v=ALa v:=AB _
def AVc[Lk]:(Uf×Uf×Unit)→Option (Uc):=fun(a0,a1,_)=>
 match(ieq a0.1 a1.1)with
 |true=>match AR4 (a0.2.1,a1.2.1,())with|none=>none|some (y0,_)=>some (y0,())
 |false=>some (false,())
def Af4[Lk]:=fun v=>Lk.f (AVc v)
theorem Af3 v:Af4 v=AVc v:=AB _
def HF[Lk]:Ua→Option (Uc):=fun(a0,_)=>
 match K9 (a0,())with|none=>none|some (y0,_)=>some ((ile 0 y0),())
def GY[Lk]:=fun v=>Lk.f (HF v)
theorem KF v:GY v=HF v:=AB _
abbrev JU:AD:=[(.obj 0,.box 2),(.cell 0 0,.di),(.cell 0 1,.dat Ue),(.tmp 0,.dat .bool)]
def FQ[Lk]:(List Int×Int×List U5×Unit)→Option ((Int×List U5×Bool×Unit)):=fun(a0,a1,a2,_)=>
 match Ib (a0,a1,a2,())with|none=>none|some (y0,y1,y2,_)=>some (y0,y1,(ile 0 y2),())
def Ec[Lk]:=fun v=>Lk.f (FQ v)
theorem Ij v:Ec v=FQ v:=AB _
def Ik[Lk]:Ua→Option (Uc):=fun(a0,_)=>
 match MK (a0,())with|none=>none|some (y0,_)=>some ((ile 0 y0),())
def Hb[Lk]:=fun v=>Lk.f (Ik v)
theorem LY v:Hb v=Ik v:=AB _
abbrev Il:AD:=[(.obj 0,.box 1),(.cell 0 0,.dat U6),(.tmp 0,.dat .bool)]
def Im[Lk]:Vc→Option ((List Int×Bool×Unit)):=fun(a0,a1,_)=>
 match HE (a0,a1,())with|none=>none|some (y0,y1,_)=>some (y0,(ile 0 y1),())
def GH[Lk]:=fun v=>Lk.f (Im v)
theorem Nv v:GH v=Im v:=AB _
abbrev N8:AD:=[(.obj 0,.box 2),(.cell 0 0,.di),(.cell 0 1,.dat Uy),(.tmp 0,.dat .bool)]
def N9[Lk]:(List Int×Int×List U1×Unit)→Option ((Int×List U1×Bool×Unit)):=fun(a0,a1,a2,_)=>
 match O2 (a0,a1,a2,())with|none=>none|some (y0,y1,y2,_)=>some (y0,y1,(ile 0 y2),())
def Mf[Lk]:=fun v=>Lk.f (N9 v)
theorem Yn v:Mf v=N9 v:=AB _
abbrev Mb:AD:=[(.obj 0,.own 3 U0),(.obj 1,.box 2),(.cell 1 0,.di),(.cell 1 1,.dat Ue),(.tmp 0,.win' 0)]
abbrev VJ:AD:=[(.obj 0,.own 3 U0),(.obj 1,.box 2),(.cell 1 0,.di),(.cell 1 1,.dat Ue),(.tmp 0,.own' 0),(.tmp 1,.clo 335 [(1,0)]),(.tmp 5,.di),(.tmp 6,.di)]
abbrev VI:AW:=[(.exit 0,[(.obj 0,.own 3 U0),(.obj 1,.box 2),(.cell 1 0,.di),(.cell 1 1,.dat Ue),(.tmp 0,.own' 0),(.tmp 5,.di)])]
def VH[Lk]:(List Int×Int×List U5×Int×Int×Unit)→Option ((List Int×Int×List U5×Int×Int×Unit)⊕(List Int×Int×List U5×Int×Unit)⊕Unit):=fun(a0,a1,a2,a3,a4,_)=>
 match(ilt a4 (AH a0))with
 |true=>match idx a0 a4 with|none=>none|some x0=>match(!(ile a1 (AJ a0 (AF a4) 0)))with
  |true=>match idx a0 a3 with|none=>none|some x1=>some (.inl ((AX a0 (AF a3) (AJ a0 (AF a4) 0)),a1,a2,(IntKind.wrap .i64 (a3+1)),(IntKind.wrap .i64 (a4+1)),()))
  |false=>some (.inl (a0,a1,a2,a3,(IntKind.wrap .i64 (a4+1)),()))
 |false=>some (.inr (.inl (a0,a1,a2,a3,())))
def Mc[Lk]:(List Int×Int×List U5×Unit)→Option ((List Int×Int×List U5×Int×Unit)):=fun(a0,a1,a2,_)=>
 match LA (a0,a1,a2,())with|none=>none|some (y0,y1,y2,y3,_)=>match(ieq y3 (-1:Int))with
 |true=>some (y0,y1,y2,(AH y0),())
 |false=>match AL VH many (y0,y1,y2,y3,(IntKind.wrap .i64 (y3+1)),())with|none=>none|some r=>match r with
 |.inl (o4,o5,o6,o7,_)=>match CE o4 o7 (AH o4)with|none=>none|some x8=>match CE (C3 (AF o7) (AF (AH x8)) 0 o4) 0 o7 with|none=>none|some x9=>some ((C3 (AF o7) (AF (AH x8)) 0 o4),o5,o6,(((AF (AH x9)):Nat):Int),())
 |.inr _=>none
def LM[Lk]:=fun v=>Lk.f (Mc v)
theorem VK v:LM v=Mc v:=AB _
def ALv[Lk]:Vc→Option (Uc):=fun(a0,a1,_)=>
 match GH (a1,a0,())with|none=>none|some (y0,y1,_)=>some ((!y1),())
def Yl[Lk]:=fun v=>Lk.f (ALv v)
theorem AbT v:Yl v=ALv v:=AB _
abbrev ADG:AD:=[(.tmp 0,.dat U6),(.tmp 1,.dat (.prod U0 U4))]
def ADH[Lk]:(List Int×Ug×Unit)→Option (U3):=fun(a0,a1,_)=>
 match(ieq a1.1 1)with
 |true=>match Yl (a0,([a1.2.1,a1.2.2.1]:List (Int)),())with|none=>none|some (y0,_)=>match(!y0)with
  |true=>some (0,10,())
  |false=>match idx a0 a1.2.1 with|none=>none|some x1=>match idx a0 a1.2.2.1 with|none=>none|some x2=>match(ieq x1 x2)with
  |true=>some (1,0,())
  |false=>some (0,0,())
 |false=>match(ieq a1.1 2)with
 |true=>match Yl (a0,([a1.2.1]:List (Int)),())with|none=>none|some (y3,_)=>match(!y3)with
  |true=>some (0,10,())
  |false=>match(ieq a1.1 2)with
  |true=>match idx a0 a1.2.1 with|none=>none|some x4=>some (x4,0,())
  |false=>match AGY (a0,a0,a1.1,a1.2.1,a1.2.2.1,())with|none=>none|some (y5,y6,y7,y8,y9,_)=>some (y9,0,())
 |false=>match(ieq a1.1 3)with
 |true=>match Yl (a0,([a1.2.1]:List (Int)),())with|none=>none|some (y10,_)=>match(!y10)with
  |true=>some (0,10,())
  |false=>match(ieq a1.1 2)with
  |true=>match idx a0 a1.2.1 with|none=>none|some x11=>some (x11,0,())
  |false=>match AGY (a0,a0,a1.1,a1.2.1,a1.2.2.1,())with|none=>none|some (y12,y13,y14,y15,y16,_)=>some (y16,0,())
 |false=>match(ieq a1.1 4)with
 |true=>match ASd (a0,())with|none=>none|some (y17,_)=>some (y17,0,())
 |false=>some (0,1,())
def AGu[Lk]:=fun v=>Lk.f (ADH v)
theorem AS4 v:AGu v=ADH v:=AB _
abbrev APd:AD:=[(.tmp 5,.own 5 (.int .u8)),(.tmp 33,.own 3 U0),(.tmp 34,.di),(.tmp 35,.di)]
abbrev APc:AW:=[(.exit 0,[(.tmp 5,.own 5 (.int .u8))])]
def Fk[Lk]:Va→Option (Va⊕Ua⊕Unit):=fun(a0,a1,a2,a3,_)=>
 match(ilt a3 a2)with
 |true=>match idx a1 a3 with|none=>none|some x0=>match shr? .i64 (AJ a1 (AF a3) 0) 8 with|none=>none|some x1=>match(fits ((AH a0)+(AH ([(IntKind.wrap .u8 x1),(IntKind.wrap .u8 (AJ a1 (AF a3) 0))]:List (Int)))))with
  |true=>some (.inl ((Ai a0 ([(IntKind.wrap .u8 x1),(IntKind.wrap .u8 (AJ a1 (AF a3) 0))]:List (Int))),a1,a2,(IntKind.wrap .i64 (a3+1)),()))
  |false=>none
 |false=>some (.inr (.inl (a0,())))
def Ru[Lk]:(Ui×Unit)→Option (Uh):=fun(a0,_)=>
 match Hc (([([a0.2.1,(AH a0.2.2.1)]:List (Int)),a0.2.2.1]:List U5),())with|none=>none|some (y0,_)=>match(!(ieq a0.1 (IntKind.wrap .i64 (IntKind.wrap .u8 a0.1))))with
 |true=>some (([]:List (Int)),1,())
 |false=>match GZ (y0,())with|none=>none|some (y1,_)=>match y1 with
 |true=>some (([]:List (Int)),1,())
 |false=>match AL Fk many (([(IntKind.wrap .u8 a0.1)]:List (Int)),y0,(AH y0),0,())with|none=>none|some r=>match r with
 |.inl (o2,_)=>some (o2,0,())
 |.inr _=>none
def WA[Lk]:=fun v=>Lk.f (Ru v)
theorem W9 v:WA v=Ru v:=AB _
def XM[Lk]:Ua→Option (Uc):=fun(a0,_)=>
 match(ilt 1000 (AH a0))with
 |true=>some (false,())
 |false=>match GY (a0,())with|none=>none|some (y0,_)=>match(!y0)with
 |true=>match once (a0,())with|none=>none|some (y1,_)=>some (y1,())
 |false=>some (false,())
def Ly[Lk]:=fun v=>Lk.f (XM v)
theorem AB7 v:Ly v=XM v:=AB _
abbrev AZH:AD:=[(.tmp 0,.dat U6),(.tmp 6,.own 3 U0),(.tmp 12,.dat U6),(.tmp 13,.di),(.tmp 14,.di)]
abbrev AZG:AW:=[(.exit 0,[(.tmp 6,.own 3 U0)])]
def Ho[Lk]:Vd→Option (Vd⊕Ua⊕Unit):=fun(a0,a1,a2,a3,a4,_)=>
 match(ilt a4 a3)with
 |true=>match idx a2 a4 with|none=>none|some x0=>match SY (a0,x0,())with|none=>none|some (y1,_)=>match(fits ((AH a1)+(AH ([y1]:List (Int)))))with
  |true=>some (.inl (a0,(Ai a1 ([y1]:List (Int))),a2,a3,(IntKind.wrap .i64 (a4+1)),()))
  |false=>none
 |false=>some (.inr (.inl (a1,())))
def XX[Lk]:Vc→Option ((List Int×Bool×Unit)):=fun(a0,a1,_)=>
 match Ly (a0,())with|none=>none|some (y0,_)=>match(!y0)with
 |true=>some (([]:List (Int)),false,())
 |false=>match AL Ho many (a0,([]:List (Int)),a1,(AH a1),0,())with|none=>none|some r=>match r with
 |.inl (o1,_)=>match GG (o1,(-1:Int),())with|none=>none|some (y2,_)=>some (o1,(!y2),())
 |.inr _=>none
def places[Lk]:=fun v=>Lk.f (XX v)
theorem ACE v:places v=XX v:=AB _
def AFG[Lk]:Uh→Option ((List Int×Bool×Unit)):=fun(a0,a1,_)=>
 match places (a0,([a1]:List (Int)),())with|none=>none|some (y0,y1,_)=>match(!y1)with
 |true=>some (([]:List (Int)),false,())
 |false=>match idx y0 0 with|none=>none|some x2=>match Wk (a0,(AJ y0 0 0),())with|none=>none|some (y3,_)=>some (y3,true,())
def AJZ[Lk]:=fun v=>Lk.f (AFG v)
theorem AJY v:AJZ v=AFG v:=AB _
def XN[Lk]:Ua→Option (Ua):=fun(a0,_)=>
 match Ly (a0,())with|none=>none|some (y0,_)=>match(!y0)with
 |true=>some (([]:List (Int)),())
 |false=>match(ieq (AH a0) 0)with
 |true=>some (([]:List (Int)),())
 |false=>match Afx (a0,())with|none=>none|some (y1,_)=>match SY (a0,y1,())with|none=>none|some (y2,_)=>match Wk (a0,y2,())with|none=>none|some (y3,_)=>some (y3,())
def AFE[Lk]:=fun v=>Lk.f (XN v)
theorem AB8 v:AFE v=XN v:=AB _
abbrev AXt:AD:=[(.tmp 3,.map U0 U0),(.tmp 78,.di),(.tmp 79,.di)]
abbrev AXq:AW:=[(.ret,[(.tmp 2,.dat .bool)]),(.exit 4,[])]
def Hj[Lk]:(List Uz×Int×Int×Unit)→Option ((List Uz×Int×Int×Unit)⊕Uc⊕(Unit)⊕Unit):=fun(a0,a1,a2,_)=>
 match(ilt a2 a1)with
 |true=>match(ieq ((AR a0 a2).getD 0) 0)with
  |true=>some (.inr (.inl (false,())))
  |false=>some (.inl (a0,a1,(IntKind.wrap .i64 (a2+1)),()))
 |false=>some (.inr (.inr (.inl ())))
abbrev AXu:AD:=[(.tmp 1,.box 2),(.cell 0 0,.di),(.cell 0 1,.dat Ue),(.tmp 3,.map U0 U0),(.tmp 4,.di),(.tmp 16,.dat Ue),(.tmp 17,.di),(.tmp 18,.di),(.tmp 26,.dat U6),(.tmp 28,.di),(.tmp 29,.di),(.tmp 30,.dat .bool),(.tmp 33,.dat U6),(.tmp 34,.dat .bool),(.tmp 35,.dat .bool),(.tmp 38,.dat U6),(.tmp 39,.di),(.tmp 40,.dat U6),(.tmp 42,.di),(.tmp 43,.dat .bool),(.tmp 46,.ptr' 0 0),(.tmp 47,.di),(.tmp 48,.dat U6),(.tmp 49,.dat .bool),(.tmp 50,.dat .bool),(.tmp 55,.dat U6),(.tmp 56,.di),(.tmp 57,.di)]
abbrev AXr:AW:=[(.ret,[(.tmp 2,.dat .bool)]),(.exit 2,[(.tmp 1,.box 2),(.cell 0 0,.di),(.cell 0 1,.dat Ue),(.tmp 3,.map U0 U0),(.tmp 4,.di),(.tmp 16,.dat Ue),(.tmp 17,.di),(.tmp 18,.di),(.tmp 26,.dat U6),(.tmp 28,.di),(.tmp 29,.di),(.tmp 30,.dat .bool),(.tmp 33,.dat U6),(.tmp 34,.dat .bool),(.tmp 35,.dat .bool),(.tmp 38,.dat U6),(.tmp 39,.di),(.tmp 40,.dat U6),(.tmp 42,.di),(.tmp 43,.dat .bool),(.tmp 46,.ptr' 0 0),(.tmp 47,.di),(.tmp 48,.dat U6),(.tmp 49,.dat .bool),(.tmp 50,.dat .bool)])]
def Fi[Lk]:Vi→Option (Vi⊕Uc⊕(Int×List U5×List Uz×Int×List U5×Int×Int×List Int×Int×Int×Bool×List Int×Bool×Bool×List Int×Int×List Int×Int×Bool×Int×List Int×Bool×Bool×Unit)⊕Unit):=fun(a0,a1,a2,a3,a4,a5,a6,a7,a8,a9,a10,a11,a12,a13,a14,a15,a16,a17,a18,a19,a20,a21,a22,a23,a24,a25,_)=>
 match(ilt a25 a24)with
 |true=>match idx a23 a25 with|none=>none|some x0=>match(ilt x0 a0)with
  |true=>match(ilt 0 ((AR a2 x0).getD 0))with
   |true=>some (.inr (.inl (false,())))
   |false=>some (.inl (a0,a1,(Ae a2 x0 (IntKind.wrap .i64 (((AR a2 x0).getD 0)+1))),a3,a4,a5,a6,a7,a8,a9,a10,a11,a12,a13,a14,a15,a16,a17,a18,a19,a20,a21,a22,a23,a24,(IntKind.wrap .i64 (a25+1)),()))
  |false=>some (.inl (a0,a1,(Ae a2 x0 (IntKind.wrap .i64 (((AR a2 x0).getD 0)+1))),a3,a4,a5,a6,a7,a8,a9,a10,a11,a12,a13,a14,a15,a16,a17,a18,a19,a20,a21,a22,a23,a24,(IntKind.wrap .i64 (a25+1)),()))
 |false=>some (.inr (.inr (.inl (a0,a1,a2,a3,a4,a5,a6,a7,a8,a9,a10,a11,a12,a13,a14,a15,a16,a17,a18,a19,a20,a21,a22,()))))
abbrev AXv:AD:=[(.tmp 1,.box 2),(.cell 0 0,.di),(.cell 0 1,.dat Ue),(.tmp 3,.map U0 U0),(.tmp 4,.di),(.tmp 16,.dat Ue),(.tmp 17,.di),(.tmp 18,.di)]
abbrev AXs:AW:=[(.ret,[(.tmp 2,.dat .bool)]),(.exit 0,[(.tmp 1,.box 2),(.cell 0 0,.di),(.cell 0 1,.dat Ue),(.tmp 3,.map U0 U0)])]
def Fj[Lk]:(Int×List U5×List Uz×Int×List U5×Int×Int×Unit)→Option ((Int×List U5×List Uz×Int×List U5×Int×Int×Unit)⊕Uc⊕(Int×List U5×List Uz×Unit)⊕Unit):=fun(a0,a1,a2,a3,a4,a5,a6,_)=>
 match(ilt a6 a5)with
 |true=>match idx a4 a6 with|none=>none|some x0=>match(ieq (AH x0) 0)with
  |true=>some (.inr (.inl (false,())))
  |false=>match idx x0 0 with|none=>none|some x1=>match(ile x1 a3)with
  |true=>some (.inr (.inl (false,())))
  |false=>match Ly (x0,())with|none=>none|some (y2,_)=>match(!y2)with
  |true=>some (.inr (.inl (false,())))
  |false=>match Afx (x0,())with|none=>none|some (y3,_)=>match idx x0 0 with|none=>none|some x4=>match(!(ieq y3 x4))with
  |true=>some (.inr (.inl (false,())))
  |false=>match goes (a0,x0,())with|none=>none|some (y5,_)=>match(!y5)with
  |true=>some (.inr (.inl (false,())))
  |false=>match idx x0 0 with|none=>none|some x6=>match AL Fi many (a0,a1,a2,x6,a4,a5,a6,x0,x1,a3,(ile x1 a3),x0,y2,(!y2),x0,y3,x0,x4,(!(ieq y3 x4)),a0,x0,y5,(!y5),x0,(AH x0),0,())with|none=>none|some r=>match r with
  |.inl (o7,_)=>some (.inr (.inl (o7,())))
  |.inr r=>match r with
  |.inl (o8,o9,o10,o11,o12,o13,o14,o15,o16,o17,o18,o19,o20,o21,o22,o23,o24,o25,o26,o27,o28,o29,o30,_)=>some (.inl (o8,o9,o10,o11,o12,o13,(IntKind.wrap .i64 (o14+1)),()))
  |.inr _=>none
 |false=>some (.inr (.inr (.inl (a0,a1,a2,()))))
def Wq[Lk]:(Uo×Unit)→Option (Uc):=fun(a0,_)=>
 match OK (a0.1,())with|none=>none|some (y0,_)=>match(!y0)with
 |true=>some (false,())
 |false=>match AL Fj many (a0.1,a0.2.1,([]:List Uz),(-1:Int),a0.2.1,(AH a0.2.1),0,())with|none=>none|some r=>match r with
 |.inl (o1,_)=>some (o1,())
 |.inr r=>match r with
 |.inl (o2,o3,o4,_)=>match AL Hj many (o4,o2,0,())with|none=>none|some r=>match r with
  |.inl (o5,_)=>some (o5,())
  |.inr r=>match r with
  |.inl _=>some (true,())
  |.inr _=>none
 |.inr _=>none
def OM[Lk]:=fun v=>Lk.f (Wq v)
theorem ABd v:OM v=Wq v:=AB _
def AGx[Lk]:(Uo×Int×Int×Unit)→Option (U8):=fun(a0,a1,a2,_)=>
 match OM ((a0.1,(a0.2.1,())),())with|none=>none|some (y0,_)=>match(!y0)with
 |true=>some (1,())
 |false=>match tin (a0.1,a1,())with|none=>none|some (y1,_)=>match(!y1)with
 |true=>some (10,())
 |false=>match tin (a0.1,a2,())with|none=>none|some (y2,_)=>match(!y2)with
 |true=>some (10,())
 |false=>some (0,())
def asked[Lk]:=fun v=>Lk.f (AGx v)
theorem AMW v:asked v=AGx v:=AB _
abbrev AUN:AD:=[(.tmp 0,.dat (.prod U0 (.prod Ue .unit))),(.tmp 1,.dat U6),(.tmp 2,.dat Ue)]
abbrev AUM:AD:=[(.tmp 0,.di),(.tmp 1,.own 36 U6)]
abbrev AUL:List RS:=[.agg 2]
abbrev Ac8:AD:=[(.tmp 3,.box 2),(.cell 0 0,.di),(.cell 0 1,.dat Ue),(.tmp 6,.box 2),(.cell 1 0,.di),(.cell 1 1,.nil U6),(.tmp 7,.own 36 U6),(.tmp 29,.dat Ue),(.tmp 30,.di),(.tmp 31,.di)]
abbrev Ac6:AW:=[(.exit 2,[(.tmp 3,.box 2),(.cell 0 0,.di),(.cell 0 1,.dat Ue),(.tmp 6,.box 2),(.cell 1 0,.di),(.cell 1 1,.nil U6),(.tmp 7,.own 36 U6)])]
def Lm[Lk]:(Int×List U5×Int×List U5×List U5×Int×Int×Unit)→Option ((Int×List U5×Int×List U5×List U5×Int×Int×Unit)⊕(Int×List U5×Int×List U5×Unit)⊕Unit):=fun(a0,a1,a2,a3,a4,a5,a6,_)=>
 match(ilt a6 a5)with
 |true=>match idx a4 a6 with|none=>none|some x0=>match AFE (x0,())with|none=>none|some (y1,_)=>match(fits ((AH a3)+(AH ([y1]:List U5))))with
  |true=>some (.inl (a0,a1,a2,(Ai a3 ([y1]:List U5)),a4,a5,(IntKind.wrap .i64 (a6+1)),()))
  |false=>none
 |false=>some (.inr (.inl (a0,a1,a2,a3,())))
abbrev Ac9:AD:=[(.tmp 1,.dat U6),(.tmp 2,.dat Ue),(.tmp 3,.box 2),(.cell 0 0,.di),(.cell 0 1,.dat Ue),(.tmp 6,.box 2),(.cell 1 0,.di),(.cell 1 1,.nil U6),(.tmp 7,.own 36 U6),(.tmp 13,.dat Ue),(.tmp 14,.di),(.tmp 15,.di)]
abbrev Ac7:AW:=[(.exit 0,[(.tmp 2,.dat Ue),(.tmp 3,.box 2),(.cell 0 0,.di),(.cell 0 1,.dat Ue),(.tmp 6,.box 2),(.cell 1 0,.di),(.cell 1 1,.nil U6),(.tmp 7,.own 36 U6)])]
def Ln[Lk]:(List Int×List U5×Int×List U5×Int×List U5×List U5×Int×Int×Unit)→Option ((List Int×List U5×Int×List U5×Int×List U5×List U5×Int×Int×Unit)⊕(List U5×Int×List U5×Int×List U5×Unit)⊕Unit):=fun(a0,a1,a2,a3,a4,a5,a6,a7,a8,_)=>
 match(ilt a8 a7)with
 |true=>match idx a6 a8 with|none=>none|some x0=>match GG (a0,a8,())with|none=>none|some (y1,_)=>match(!y1)with
  |true=>match(fits ((AH a5)+(AH ([x0]:List U5))))with
   |true=>some (.inl (a0,a1,a2,a3,a4,(Ai a5 ([x0]:List U5)),a6,a7,(IntKind.wrap .i64 (a8+1)),()))
   |false=>none
  |false=>some (.inl (a0,a1,a2,a3,a4,a5,a6,a7,(IntKind.wrap .i64 (a8+1)),()))
 |false=>some (.inr (.inl (a1,a2,a3,a4,a5,())))
def AEd[Lk]:(Uo×List Int×List U5×Unit)→Option ((Int×List U5×Unit)):=fun(a0,a1,a2,_)=>
 match AL Ln many (a1,a2,a0.1,a0.2.1,0,([]:List U5),a0.2.1,(AH a0.2.1),0,())with|none=>none|some r=>match r with
 |.inl (o0,o1,o2,o3,o4,_)=>match AL Lm many (o1,o2,o3,o4,o0,(AH o0),0,())with|none=>none|some r=>match r with
  |.inl (o5,o6,o7,o8,_)=>match AUb (o8,())with|none=>none|some (y9,_)=>some (o5,y9,())
  |.inr _=>none
 |.inr _=>none
def AUO[Lk]:=fun v=>Lk.f (AEd v)
theorem AIY v:AUO v=AEd v:=AB _
def I3[Lk]:(Uo×Int×Int×Unit)→Option ((Int×List U5×Int×Unit)):=fun(a0,a1,a2,_)=>
 match asked ((a0.1,(a0.2.1,())),a1,a2,())with|none=>none|some (y0,_)=>match(!(ieq y0 0))with
 |true=>some (a0.1,a0.2.1,y0,())
 |false=>match Rm ((a0.1,(a0.2.1,())),a1,())with|none=>none|some (y1,_)=>match Rm ((a0.1,(a0.2.1,())),a2,())with|none=>none|some (y2,_)=>match(ieq y1 y2)with
 |true=>some (a0.1,a0.2.1,5,())
 |false=>match idx a0.2.1 y1 with|none=>none|some x3=>match AJZ (x3,a1,())with|none=>none|some (y4,y5,_)=>match idx a0.2.1 y2 with|none=>none|some x6=>match AJZ (x6,a2,())with|none=>none|some (y7,y8,_)=>match CE y4 0 1 with|none=>none|some x9=>match AdW (a0.1,a1,a2,())with|none=>none|some (y10,_)=>match AdW (a0.1,a2,a1,())with|none=>none|some (y11,_)=>match CE y4 1 (AH y4)with|none=>none|some x12=>match Hc (([(Eo 0 (AF (AH x9)) y4),([y10]:List (Int)),y7,([y11]:List (Int)),(Eo 1 (AF (AH x12)) y4)]:List U5),())with|none=>none|some (y13,_)=>match AUO ((a0.1,(a0.2.1,())),([y1,y2]:List (Int)),([y13]:List U5),())with|none=>none|some (y14,y15,_)=>some (y14,y15,0,())
def N0[Lk]:=fun v=>Lk.f (I3 v)
theorem IC v:N0 v=I3 v:=AB _
abbrev ALK:AD:=[(.tmp 0,.dat (.prod U0 (.prod Ue .unit))),(.tmp 1,.dat U6)]
def YW[Lk]:(Uo×List Int×Unit)→Option (U8):=fun(a0,a1,_)=>
 match OM ((a0.1,(a0.2.1,())),())with|none=>none|some (y0,_)=>match(!y0)with
 |true=>some (1,())
 |false=>match Ec (a1,a0.1,a0.2.1,())with|none=>none|some (y1,y2,y3,_)=>match y3 with
 |true=>some (10,())
 |false=>some (0,())
def MQ[Lk]:=fun v=>Lk.f (YW v)
theorem ACx v:MQ v=YW v:=AB _
abbrev Yd:AD:=[(.tmp 0,.dat (.prod U0 (.prod Ue .unit))),(.tmp 1,.dat Vb),(.tmp 2,.clo 228 [])]
abbrev ALg:AD:=[(.tmp 2,.clo 228 []),(.tmp 3,.box 2),(.cell 0 0,.di),(.cell 0 1,.dat Ue),(.tmp 6,.box 2),(.cell 1 0,.di),(.cell 1 1,.nil U6),(.tmp 10,.own 4 .bool),(.tmp 23,.dat Vb),(.tmp 24,.di),(.tmp 25,.di)]
abbrev ALf:AW:=[(.exit 0,[(.tmp 3,.box 2),(.cell 0 0,.di),(.cell 0 1,.dat Ue),(.tmp 6,.box 2),(.cell 1 0,.di),(.cell 1 1,.nil U6),(.tmp 10,.own 4 .bool)])]
def Cn[Lk]:(Int×List U5×Int×List Bool×List U3×Int×Int×Unit)→Option ((Int×List U5×Int×List Bool×List U3×Int×Int×Unit)⊕(Int×List U5×Int×List Bool×Unit)⊕Unit):=fun(a0,a1,a2,a3,a4,a5,a6,_)=>
 match(ilt a6 a5)with
 |true=>match idx a4 a6 with|none=>none|some x0=>match N0 ((a0,(a1,())),x0.1,x0.2.1,())with|none=>none|some (y1,y2,y3,_)=>match(fits ((AH a3)+(AH ([(ieq y3 0)]:List (Bool)))))with
  |true=>some (.inl (y1,y2,a2,(Ai a3 ([(ieq y3 0)]:List (Bool))),a4,a5,(IntKind.wrap .i64 (a6+1)),()))
  |false=>none
 |false=>some (.inr (.inl (a0,a1,a2,a3,())))
def LI[Lk]:(Uo×List U3×Unit)→Option ((Uo×List Bool×Int×Unit)):=fun(a0,a1,_)=>
 match ends (a1,())with|none=>none|some (y0,_)=>match MQ ((a0.1,(a0.2.1,())),y0,())with|none=>none|some (y1,_)=>match(!(ieq y1 0))with
 |true=>some ((a0.1,(a0.2.1,())),([]:List (Bool)),y1,())
 |false=>match AL Cn many (a0.1,a0.2.1,0,([]:List (Bool)),a1,(AH a1),0,())with|none=>none|some r=>match r with
 |.inl (o2,o3,o4,o5,_)=>some ((o2,(o3,())),o5,0,())
 |.inr _=>none
def Ye[Lk]:=fun v=>Lk.f (LI v)
theorem MY v:Ye v=LI v:=AB _
def Qr[Lk]:(Uo×List U3×Unit)→Option ((Uo×List Bool×Int×Unit)):=fun(a0,a1,_)=>
 match Ye ((a0.1,(a0.2.1,())),a1,())with|none=>none|some (y0,y1,y2,_)=>some ((y0.1,(y0.2.1,())),y1,y2,())
def AR2[Lk]:=fun v=>Lk.f (Qr v)
theorem Sf v:AR2 v=Qr v:=AB _
def AV1[Lk]:(Int×List U3×Unit)→Option ((Uo×Int×Unit)):=fun(a0,a1,_)=>
 match AUQ (a0,())with|none=>none|some (y0,y1,y2,_)=>match(!(ieq y2 0))with
 |true=>some ((0,(([]:List U5),())),y2,())
 |false=>match AR2 ((y0,(y1,())),a1,())with|none=>none|some (y3,y4,y5,_)=>match(!(ieq y5 0))with
 |true=>some ((0,(([]:List U5),())),y5,())
 |false=>some ((y3.1,(y3.2.1,())),0,())
def fof[Lk]:=fun v=>Lk.f (AV1 v)
theorem AR0 v:fof v=AV1 v:=AB _
abbrev AaI:AD:=[(.tmp 1,.box 2),(.cell 0 0,.di),(.cell 0 1,.dat Uy),(.tmp 3,.di),(.tmp 23,.dat Uy),(.tmp 24,.di),(.tmp 25,.di)]
abbrev AaH:AW:=[(.ret,[(.tmp 2,.dat .bool)]),(.exit 0,[(.tmp 1,.box 2),(.cell 0 0,.di),(.cell 0 1,.dat Uy)])]
def F6[Lk]:(Int×List U1×Int×List U1×Int×Int×Unit)→Option ((Int×List U1×Int×List U1×Int×Int×Unit)⊕Uc⊕(Int×List U1×Unit)⊕Unit):=fun(a0,a1,a2,a3,a4,a5,_)=>
 match(ilt a5 a4)with
 |true=>match idx a3 a5 with|none=>none|some x0=>match(ilt x0.1 0)with
  |true=>some (.inr (.inl (false,())))
  |false=>match(ile x0.2.1 x0.1)with
  |true=>some (.inr (.inl (false,())))
  |false=>match(ile a0 x0.2.1)with
  |true=>some (.inr (.inl (false,())))
  |false=>match(ilt x0.2.2.1 0)with
  |true=>some (.inr (.inl (false,())))
  |false=>match(ilt a2 x0.2.2.1)with
  |true=>some (.inr (.inl (false,())))
  |false=>match(ilt 0 a5)with
  |true=>match idx a1 (IntKind.wrap .i64 (a5-1))with|none=>none|some x1=>match IX ((x1.1,(x1.2.1,(x1.2.2.1,(x1.2.2.2.1,())))),(x0.1,(x0.2.1,(x0.2.2.1,(x0.2.2.2.1,())))),())with|none=>none|some (y2,_)=>match(ile 0 y2)with
   |true=>some (.inr (.inl (false,())))
   |false=>some (.inl (a0,a1,a2,a3,a4,(IntKind.wrap .i64 (a5+1)),()))
  |false=>some (.inl (a0,a1,a2,a3,a4,(IntKind.wrap .i64 (a5+1)),()))
 |false=>some (.inr (.inr (.inl (a0,a1,()))))
def J0[Lk]:(Uf×Unit)→Option (Uc):=fun(a0,_)=>
 match Xy (a0.1,())with|none=>none|some (y0,_)=>match(!y0)with
 |true=>some (false,())
 |false=>match(ilt 400 (AH a0.2.1))with
 |true=>some (false,())
 |false=>match AFk (a0.1,())with|none=>none|some (y1,_)=>match AL F6 many (a0.1,a0.2.1,y1,a0.2.1,(AH a0.2.1),0,())with|none=>none|some r=>match r with
 |.inl (o2,_)=>some (o2,())
 |.inr r=>match r with
 |.inl (o3,o4,_)=>match SJ ((o3,(o4,())),0,())with|none=>none|some (y5,_)=>match fof (o3,y5,())with|none=>none|some (y6,y7,_)=>match(ieq y7 0)with
  |true=>some ((ieq (AH y6.2.1) (IntKind.wrap .i64 (o3-(AH y5)))),())
  |false=>some (false,())
 |.inr _=>none
def Ek[Lk]:=fun v=>Lk.f (J0 v)
theorem Jz v:Ek v=J0 v:=AB _
def AmU[Lk]:(Uo×Int×Unit)→Option (U8):=fun(a0,a1,_)=>
 match tin (a0.1,a1,())with|none=>none|some (y0,_)=>match(!y0)with
 |true=>some ((-1:Int),())
 |false=>match OM ((a0.1,(a0.2.1,())),())with|none=>none|some (y1,_)=>match(!y1)with
 |true=>some ((-1:Int),())
 |false=>match Rm ((a0.1,(a0.2.1,())),a1,())with|none=>none|some (y2,_)=>some (y2,())
def tof[Lk]:=fun v=>Lk.f (AmU v)
theorem Am6 v:tof v=AmU v:=AB _
def SQ[Lk]:(Uf×Int×Unit)→Option ((Uo×Int×Unit)):=fun(a0,a1,_)=>
 match Ek ((a0.1,(a0.2.1,())),())with|none=>none|some (y0,_)=>match(!y0)with
 |true=>some ((0,(([]:List U5),())),1,())
 |false=>match SJ ((a0.1,(a0.2.1,())),a1,())with|none=>none|some (y1,_)=>match fof (a0.1,y1,())with|none=>none|some (y2,y3,_)=>some ((y2.1,(y2.2.1,())),y3,())
def NW[Lk]:=fun v=>Lk.f (SQ v)
theorem X3 v:NW v=SQ v:=AB _
abbrev AOw:AD:=[(.tmp 1,.dat U6),(.tmp 4,.box 3),(.cell 0 0,.nil U0),(.cell 0 1,.nil U0),(.cell 0 2,.nil U6),(.tmp 6,.di),(.tmp 8,.box 3),(.cell 1 0,.own 3 U0),(.cell 1 1,.own 3 U0),(.cell 1 2,.own 36 U6),(.tmp 9,.aptr 219 U0 8),(.tmp 11,.di),(.tmp 42,.di),(.tmp 43,.di),(.tmp 68,.di),(.tmp 69,.di)]
abbrev AOu:AW:=[(.exit 2,[(.tmp 1,.dat U6),(.tmp 4,.box 3),(.cell 0 0,.nil U0),(.cell 0 1,.nil U0),(.cell 0 2,.nil U6),(.tmp 6,.di),(.tmp 8,.box 3),(.cell 1 0,.own 3 U0),(.cell 1 1,.own 3 U0),(.cell 1 2,.own 36 U6),(.tmp 9,.aptr 219 U0 8),(.tmp 42,.di),(.tmp 43,.di)])]
def Ee[Lk]:(List Int×Int×List Int×List Int×List U5×List Int×Int×Int×Int×Int×Int×Unit)→Option ((List Int×Int×List Int×List Int×List U5×List Int×Int×Int×Int×Int×Int×Unit)⊕(List Int×Int×List Int×List Int×List U5×List Int×Int×Int×Unit)⊕Unit):=fun(a0,a1,a2,a3,a4,a5,a6,a7,a8,a9,a10,_)=>
 match(ilt a10 a9)with
 |true=>match(ile 0 a10&&(ilt a10 8&&ilt a10 (AH a5)))with
  |true=>some (.inl (a0,a1,a2,a3,a4,(AX a5 (AF a10) a6),a6,a7,a8,a9,(IntKind.wrap .i64 (a10+1)),()))
  |false=>none
 |false=>some (.inr (.inl (a0,a1,a2,a3,a4,a5,a7,a8,())))
abbrev AOx:AD:=[(.tmp 1,.dat U6),(.tmp 4,.box 3),(.cell 0 0,.nil U0),(.cell 0 1,.nil U0),(.cell 0 2,.nil U6),(.tmp 6,.di),(.tmp 8,.box 3),(.cell 1 0,.own 3 U0),(.cell 1 1,.own 3 U0),(.cell 1 2,.own 36 U6),(.tmp 9,.aptr 219 U0 8),(.tmp 42,.di),(.tmp 43,.di)]
abbrev AOv:AW:=[(.exit 0,[(.tmp 4,.box 3),(.cell 0 0,.nil U0),(.cell 0 1,.nil U0),(.cell 0 2,.nil U6),(.tmp 8,.box 3),(.cell 1 0,.own 3 U0),(.cell 1 1,.own 3 U0),(.cell 1 2,.own 36 U6)])]
def H9[Lk]:(List Int×Int×List Int×List Int×List U5×List Int×Int×Int×Unit)→Option ((List Int×Int×List Int×List Int×List U5×List Int×Int×Int×Unit)⊕(List Int×List Int×List U5×Unit)⊕Unit):=fun(a0,a1,a2,a3,a4,a5,a6,a7,_)=>
 match(ilt a7 a6)with
 |true=>match rem? a7 a1 with|none=>none|some x0=>match(ile a1 a7)with
  |true=>match idx a0 (IntKind.wrap .i64 ((IntKind.wrap .i64 (a1-1))-x0))with|none=>none|some x1=>match CE a5 0 x1 with|none=>none|some x2=>match HH (Eo 0 (AF (AH x2)) a5)with|none=>none|some x3=>match idx a4 (IntKind.wrap .i64 ((IntKind.wrap .i64 (a1-1))-x0))with|none=>none|some x4=>match idx a0 (IntKind.wrap .i64 ((IntKind.wrap .i64 (a1-1))-x0))with|none=>none|some x5=>match AL Ee many (a0,a1,a2,a3,(AX a4 (AF (IntKind.wrap .i64 ((IntKind.wrap .i64 (a1-1))-x0))) x3),a5,(IntKind.wrap .i64 ((IntKind.wrap .i64 (a1-1))-x0)),a6,a7,x5,0,())with|none=>none|some r=>match r with
   |.inl (o6,o7,o8,o9,o10,o11,o12,o13,_)=>some (.inl (o6,o7,o8,o9,o10,o11,o12,(IntKind.wrap .i64 (o13+1)),()))
   |.inr _=>none
  |false=>match idx a0 (IntKind.wrap .i64 ((IntKind.wrap .i64 (a1-1))-x0))with|none=>none|some x14=>match AL Ee many (a0,a1,a2,a3,a4,a5,(IntKind.wrap .i64 ((IntKind.wrap .i64 (a1-1))-x0)),a6,a7,x14,0,())with|none=>none|some r=>match r with
  |.inl (o15,o16,o17,o18,o19,o20,o21,o22,_)=>some (.inl (o15,o16,o17,o18,o19,o20,o21,(IntKind.wrap .i64 (o22+1)),()))
  |.inr _=>none
 |false=>some (.inr (.inl (a2,a3,a4,())))
def Rk[Lk]:Vc→Option ((List Int×List Int×List U5×Int×Unit)):=fun(a0,a1,_)=>
 match(ieq (AH a0) 0)with
 |true=>some (([]:List (Int)),([]:List (Int)),([]:List U5),1,())
 |false=>match(!(ieq (AH a1) (AH a0)))with
 |true=>some (([]:List (Int)),([]:List (Int)),([]:List U5),1,())
 |false=>match Ly (a0,())with|none=>none|some (y0,_)=>match(!y0)with
 |true=>some (([]:List (Int)),([]:List (Int)),([]:List U5),1,())
 |false=>match Hb (a1,())with|none=>none|some (y1,_)=>match y1 with
 |true=>some (([]:List (Int)),([]:List (Int)),([]:List U5),1,())
 |false=>match HH a0 with|none=>none|some x2=>match HH a1 with|none=>none|some x3=>match(Bq (AH a0)&&Bq (AH a0)&&ile (AH a0) (AH a0)&&true)with
 |true=>match AL H9 many (a1,(AH a0),x2,x3,(Cb (AF (AH a0)) ([]:List (Int))),(Cb 8 (0:Int)),(IntKind.wrap .i64 ((2:Int)*(AH a0))),(0:Int),())with|none=>none|some r=>match r with
  |.inl (o4,o5,o6,_)=>some (o4,o5,o6,0,())
  |.inr _=>none
 |false=>none
def Vs[Lk]:=fun v=>Lk.f (Rk v)
theorem Wh v:Vs v=Rk v:=AB _
abbrev AaW:AD:=[(.tmp 3,.own 88 U4),(.tmp 10,.dat Uy),(.tmp 11,.di),(.tmp 12,.di)]
abbrev AaV:AW:=[(.exit 0,[(.tmp 3,.own 88 U4)])]
def AaU[Lk]:(List U3×List U1×Int×Int×Unit)→Option ((List U3×List U1×Int×Int×Unit)⊕Ux⊕Unit):=fun(a0,a1,a2,a3,_)=>
 match(ilt a3 a2)with
 |true=>match idx a1 a3 with|none=>none|some x0=>match(fits ((AH a0)+(AH ([(x0.1,(x0.2.1,()))]:List U3))))with
  |true=>some (.inl ((Ai a0 ([(x0.1,(x0.2.1,()))]:List U3)),a1,a2,(IntKind.wrap .i64 (a3+1)),()))
  |false=>none
 |false=>some (.inr (.inl (a0,())))
def AKw[Lk]:(Uf×Unit)→Option (Ux):=fun(a0,_)=>
 match Ek ((a0.1,(a0.2.1,())),())with|none=>none|some (y0,_)=>match(!y0)with
 |true=>some (([]:List U3),())
 |false=>match AL AaU many (([]:List U3),a0.2.1,(AH a0.2.1),0,())with|none=>none|some r=>match r with
 |.inl (o1,_)=>some (o1,())
 |.inr _=>none
def X4[Lk]:=fun v=>Lk.f (AKw v)
theorem AaX v:X4 v=AKw v:=AB _
abbrev I6:AD:=[(.tmp 0,.dat Um),(.tmp 1,.dat Vb)]
abbrev NO:AD:=[(.tmp 0,.own 88 U4),(.tmp 1,.di)]
abbrev Ae7:AD:=[(.tmp 2,.box 2),(.cell 0 0,.di),(.cell 0 1,.dat Uy),(.tmp 6,.box 1),(.cell 1 0,.map U4 U0),(.tmp 13,.dat Vb),(.tmp 14,.di),(.tmp 15,.di)]
abbrev Ae6:AW:=[(.ret,[(.tmp 4,.nil U4),(.tmp 5,.di)]),(.exit 0,[(.tmp 2,.box 2),(.cell 0 0,.di),(.cell 0 1,.dat Uy),(.tmp 6,.box 1),(.cell 1 0,.map U4 U0)])]
def Ae5[Lk]:(Int×List U1×List (U3×Int)×List U3×Int×Int×Unit)→Option ((Int×List U1×List (U3×Int)×List U3×Int×Int×Unit)⊕U8⊕(Int×List U1×List (U3×Int)×Unit)⊕Unit):=fun(a0,a1,a2,a3,a4,a5,_)=>
 match(ilt a5 a4)with
 |true=>match idx a3 a5 with|none=>none|some x0=>match(ilt (Bs x0.1 x0.2.1) 0)with
  |true=>some (.inr (.inl (10,())))
  |false=>match(ile a0 (imax x0.1 x0.2.1))with
  |true=>some (.inr (.inl (10,())))
  |false=>match(ile 0 (AAC a2 ((Bs x0.1 x0.2.1),((imax x0.1 x0.2.1),())))&&ilt (AAC a2 ((Bs x0.1 x0.2.1),((imax x0.1 x0.2.1),()))) (AH (Ae a2 ((Bs x0.1 x0.2.1),((imax x0.1 x0.2.1),())) ((AR a2 ((Bs x0.1 x0.2.1),((imax x0.1 x0.2.1),()))).getD 0))))with
  |true=>some (.inl (a0,a1,(AZw (Ae a2 ((Bs x0.1 x0.2.1),((imax x0.1 x0.2.1),())) ((AR a2 ((Bs x0.1 x0.2.1),((imax x0.1 x0.2.1),()))).getD 0)) (AAC a2 ((Bs x0.1 x0.2.1),((imax x0.1 x0.2.1),()))) (IntKind.wrap .i64 (((AR a2 ((Bs x0.1 x0.2.1),((imax x0.1 x0.2.1),()))).getD 0)+1))),a3,a4,(IntKind.wrap .i64 (a5+1)),()))
  |false=>none
 |false=>some (.inr (.inr (.inl (a0,a1,a2,()))))
def AUu[Lk]:(Uf×List U3×Unit)→Option ((List U3×Int×Unit)):=fun(a0,a1,_)=>
 match Ek ((a0.1,(a0.2.1,())),())with|none=>none|some (y0,_)=>match(!y0)with
 |true=>some (([]:List U3),1,())
 |false=>match AL Ae5 many (a0.1,a0.2.1,([]:List (U3×Int)),a1,(AH a1),0,())with|none=>none|some r=>match r with
 |.inl (o1,_)=>some (([]:List U3),o1,())
 |.inr r=>match r with
 |.inl (o2,o3,o4,_)=>match X4 ((o2,(o3,())),())with|none=>none|some (y5,_)=>match PC (y5,o4,())with|none=>none|some (y6,y7,y8,_)=>some ((CL (AF y8) y6),0,())
 |.inr _=>none
def AUv[Lk]:=fun v=>Lk.f (AUu v)
theorem Ae8 v:AUv v=AUu v:=AB _
abbrev Ali:AD:=[(.tmp 2,.box 2),(.cell 0 0,.di),(.cell 0 1,.dat Uy),(.tmp 6,.map U4 U0),(.tmp 9,.own 88 U4),(.tmp 26,.dat Vb),(.tmp 27,.di),(.tmp 28,.di)]
abbrev Alg:AW:=[(.ret,[(.tmp 4,.nil U4),(.tmp 5,.di)]),(.exit 2,[(.tmp 9,.own 88 U4)])]
def Ale[Lk]:(Int×List U1×List (U3×Int)×List U3×List U3×Int×Int×Unit)→Option ((Int×List U1×List (U3×Int)×List U3×List U3×Int×Int×Unit)⊕U8⊕Ux⊕Unit):=fun(a0,a1,a2,a3,a4,a5,a6,_)=>
 match(ilt a6 a5)with
 |true=>match idx a4 a6 with|none=>none|some x0=>match(ilt (Bs x0.1 x0.2.1) 0)with
  |true=>some (.inr (.inl (10,())))
  |false=>match(ile a0 (imax x0.1 x0.2.1))with
  |true=>some (.inr (.inl (10,())))
  |false=>match(ilt (Bs x0.1 x0.2.1) (imax x0.1 x0.2.1))with
  |true=>match(ieq ((AR a2 ((Bs x0.1 x0.2.1),((imax x0.1 x0.2.1),()))).getD 0) 0)with
   |true=>match(fits ((AH a3)+(AH ([((Bs x0.1 x0.2.1),((imax x0.1 x0.2.1),()))]:List U3))))with
    |true=>some (.inl (a0,a1,(Ae a2 ((Bs x0.1 x0.2.1),((imax x0.1 x0.2.1),())) 1),(Ai a3 ([((Bs x0.1 x0.2.1),((imax x0.1 x0.2.1),()))]:List U3)),a4,a5,(IntKind.wrap .i64 (a6+1)),()))
    |false=>none
   |false=>some (.inl (a0,a1,a2,a3,a4,a5,(IntKind.wrap .i64 (a6+1)),()))
  |false=>some (.inl (a0,a1,a2,a3,a4,a5,(IntKind.wrap .i64 (a6+1)),()))
 |false=>some (.inr (.inr (.inl (a3,()))))
abbrev Alj:AD:=[(.tmp 1,.dat Vb),(.tmp 2,.box 2),(.cell 0 0,.di),(.cell 0 1,.dat Uy),(.tmp 6,.map U4 U0),(.tmp 17,.own 88 U4),(.tmp 18,.di),(.tmp 19,.di)]
abbrev Alh:AW:=[(.exit 0,[(.tmp 1,.dat Vb),(.tmp 2,.box 2),(.cell 0 0,.di),(.cell 0 1,.dat Uy),(.tmp 6,.map U4 U0)])]
def Alf[Lk]:(List U3×Int×List U1×List (U3×Int)×List U3×Int×Int×Unit)→Option ((List U3×Int×List U1×List (U3×Int)×List U3×Int×Int×Unit)⊕(List U3×Int×List U1×List (U3×Int)×Unit)⊕Unit):=fun(a0,a1,a2,a3,a4,a5,a6,_)=>
 match(ilt a6 a5)with
 |true=>match idx a4 a6 with|none=>none|some x0=>some (.inl (a0,a1,a2,(Ae a3 ((AJ a4 (AF a6) (0,(0,()))).1,((AJ a4 (AF a6) (0,(0,()))).2.1,())) 1),a4,a5,(IntKind.wrap .i64 (a6+1)),()))
 |false=>some (.inr (.inl (a0,a1,a2,a3,())))
def Ag9[Lk]:(Uf×List U3×Unit)→Option ((List U3×Int×Unit)):=fun(a0,a1,_)=>
 match Ek ((a0.1,(a0.2.1,())),())with|none=>none|some (y0,_)=>match(!y0)with
 |true=>some (([]:List U3),1,())
 |false=>match X4 ((a0.1,(a0.2.1,())),())with|none=>none|some (y1,_)=>match AL Alf many (a1,a0.1,a0.2.1,([]:List (U3×Int)),y1,(AH y1),0,())with|none=>none|some r=>match r with
 |.inl (o2,o3,o4,o5,_)=>match AL Ale many (o3,o4,o5,([]:List U3),o2,(AH o2),0,())with|none=>none|some r=>match r with
  |.inl (o6,_)=>some (([]:List U3),o6,())
  |.inr r=>match r with
  |.inl (o7,_)=>match Adn (o7,())with|none=>none|some (y8,_)=>some (y8,0,())
  |.inr _=>none
 |.inr _=>none
def All[Lk]:=fun v=>Lk.f (Ag9 v)
theorem Alk v:All v=Ag9 v:=AB _
def AWS[Lk]:(Uf×Unit)→Option (U8):=fun(a0,_)=>
 match Ek ((a0.1,(a0.2.1,())),())with|none=>none|some (y0,_)=>match(!y0)with
 |true=>some (0,())
 |false=>some ((IntKind.wrap .i64 (400-(AH a0.2.1))),())
def AiT[Lk]:=fun v=>Lk.f (AWS v)
theorem AiS v:AiT v=AWS v:=AB _
abbrev AMh:AD:=[(.tmp 0,.dat Um),(.tmp 1,.dat (.prod U0 (.prod Vb (.prod (.slice (.prod U0 U4)) .unit)))),(.tmp 2,.dat (.prod U0 (.prod U0 (.prod Us .unit))))]
abbrev AMg:AD:=[(.tmp 0,.di),(.tmp 1,.own 88 U4),(.tmp 2,.dat (.slice (.prod U0 U4))),(.tmp 3,.di),(.tmp 4,.di)]
def AMi[Lk]:(Uf×(Int×(List U3)×(List Ug)×Unit)×(Int×Int×V0×Unit)×Unit)→Option ((Int×List U3×List Ug×Int×Int×Unit)):=fun(a0,a1,a2,_)=>
 match Ek ((a0.1,(a0.2.1,())),())with|none=>none|some (y0,_)=>match(!y0)with
 |true=>some (0,([]:List U3),([]:List Ug),0,1,())
 |false=>match AOo ((a1.1,(a1.2.1,(a1.2.2.1,()))),())with|none=>none|some (y1,_)=>match(!y1)with
 |true=>some (0,([]:List U3),([]:List Ug),0,1,())
 |false=>match AiQ ((a1.1,(a1.2.1,(a1.2.2.1,()))),())with|none=>none|some (y2,_)=>match Mf (y2,a0.1,a0.2.1,())with|none=>none|some (y3,y4,y5,_)=>match y5 with
 |true=>some (0,([]:List U3),([]:List Ug),0,10,())
 |false=>match(ieq a1.1 3)with
 |true=>some (a1.1,([]:List U3),a1.2.2.1,0,0,())
 |false=>match ASX (a1.2.1,(a2.1,(a2.2.1,((a2.2.2.1.1,(a2.2.2.1.2.1,(a2.2.2.1.2.2.1,()))),()))),())with|none=>none|some (y6,y7,y8,_)=>match(!(ieq y8 0))with
 |true=>some (0,([]:List U3),([]:List Ug),0,y8,())
 |false=>match(ieq a1.1 2)with
 |true=>match AUv ((y3,(y4,())),y6,())with|none=>none|some (y9,y10,_)=>some (a1.1,y9,([]:List Ug),y7,y10,())
 |false=>match All ((y3,(y4,())),y6,())with|none=>none|some (y11,y12,_)=>match AiT ((y3,(y4,())),())with|none=>none|some (y13,_)=>match(ilt y13 (AH y11))with
 |true=>some (0,([]:List U3),([]:List Ug),0,2,())
 |false=>some (a1.1,y11,([]:List Ug),y7,y12,())
def Aib[Lk]:=fun v=>Lk.f (AMi v)
theorem AcM v:Aib v=AMi v:=AB _
def AVf[Lk]:V2→Option (U8):=fun(a0,a1,a2,_)=>
 match Ek ((a0.1,(a0.2.1,())),())with|none=>none|some (y0,_)=>match(!y0)with
 |true=>some ((-1:Int),())
 |false=>match ARc ((a0.1,(a0.2.1,())),a1,a2,())with|none=>none|some (y1,y2,_)=>match(!y2)with
 |true=>some ((-1:Int),())
 |false=>some (y1,())
def AgD[Lk]:=fun v=>Lk.f (AVf v)
theorem AgC v:AgD v=AVf v:=AB _
def YY[Lk]:(Uo×Int×Unit)→Option (Uh):=fun(a0,a1,_)=>
 match MQ ((a0.1,(a0.2.1,())),([a1]:List (Int)),())with|none=>none|some (y0,_)=>match(!(ieq y0 0))with
 |true=>some (([]:List (Int)),y0,())
 |false=>match tof ((a0.1,(a0.2.1,())),a1,())with|none=>none|some (y1,_)=>match idx a0.2.1 y1 with|none=>none|some x2=>match HH x2 with|none=>none|some x3=>match LM (x3,a0.1,a0.2.1,())with|none=>none|some (y4,y5,y6,y7,_)=>match Adk ((CL (AF y7) y4),())with|none=>none|some (y8,_)=>some (y8,0,())
def Qq[Lk]:=fun v=>Lk.f (YY v)
theorem ALQ v:Qq v=YY v:=AB _
def AJw[Lk]:V2→Option (U3):=fun(a0,a1,a2,_)=>
 match Ek ((a0.1,(a0.2.1,())),())with|none=>none|some (y0,_)=>match(!y0)with
 |true=>some (0,1,())
 |false=>match(ilt (Bs a1 a2) 0)with
 |true=>some (0,10,())
 |false=>match(ile a0.1 (imax a1 a2))with
 |true=>some (0,10,())
 |false=>match AgD ((a0.1,(a0.2.1,())),a1,a2,())with|none=>none|some (y1,_)=>match(ilt y1 0)with
 |true=>some (0,6,())
 |false=>some (y1,0,())
def AFS[Lk]:=fun v=>Lk.f (AJw v)
theorem AZQ v:AFS v=AJw v:=AB _
abbrev AUr:AD:=[(.tmp 0,.dat Um),(.tmp 1,.di),(.tmp 2,.di),(.tmp 3,.di)]
def AUs[Lk]:(Uf×Int×Int×Int×Unit)→Option (Uh):=fun(a0,a1,a2,a3,_)=>
 match AFS ((a0.1,(a0.2.1,())),a1,a2,())with|none=>none|some (y0,y1,_)=>match(ieq y1 1)with
 |true=>some (([]:List (Int)),y1,())
 |false=>match(ieq y1 10)with
 |true=>some (([]:List (Int)),y1,())
 |false=>match NW ((a0.1,(a0.2.1,())),a3,())with|none=>none|some (y2,y3,_)=>match Qq ((y2.1,(y2.2.1,())),a1,())with|none=>none|some (y4,y5,_)=>match Qq ((y2.1,(y2.2.1,())),a2,())with|none=>none|some (y6,y7,_)=>match GG (y4,a2,())with|none=>none|some (y8,_)=>match y8 with
 |true=>some (([]:List (Int)),5,())
 |false=>match EX ((AH y4),(AH y6),())with|none=>none|some (y9,_)=>match idx y4 0 with|none=>none|some x10=>match idx y6 0 with|none=>none|some x11=>match EX ((AJ y4 0 0),(AJ y6 0 0),())with|none=>none|some (y12,_)=>match orI (([y9,y12]:List (Int)),())with|none=>none|some (y13,_)=>match(ilt y13 0)with
 |true=>some (y4,0,())
 |false=>some (y6,0,())
def Ael[Lk]:=fun v=>Lk.f (AUs v)
theorem Aek v:Ael v=AUs v:=AB _
abbrev Amd:AD:=[(.tmp 0,.box 8),(.cell 0 0,.di),(.cell 0 1,.own 152 U2),(.cell 0 2,.dat .bool),(.cell 0 3,.dat .bool),(.cell 0 4,.di),(.cell 0 5,.di),(.cell 0 6,.di),(.cell 0 7,.di),(.tmp 1,.di),(.tmp 2,.di),(.tmp 3,.di)]
abbrev Amc:AD:=[(.obj 0,.box 8),(.cell 0 0,.di),(.cell 0 1,.own 152 U2),(.cell 0 2,.dat .bool),(.cell 0 3,.dat .bool),(.cell 0 4,.di),(.cell 0 5,.di),(.cell 0 6,.di),(.cell 0 7,.di),(.obj 1,.own' 1),(.tmp 0,.dat .bool)]
abbrev Ans:AD:=[(.obj 0,.box 8),(.cell 0 0,.di),(.cell 0 1,.own 152 U2),(.cell 0 2,.dat .bool),(.cell 0 3,.dat .bool),(.cell 0 4,.di),(.cell 0 5,.di),(.cell 0 6,.di),(.cell 0 7,.di),(.obj 1,.own' 1),(.tmp 0,.ptr' 0 0),(.cap 14 0,.box 1),(.cell 2 0,.map U0 U0),(.tmp 14,.clo 253 [(2,0)]),(.tmp 86,.prs 329 1),(.tmp 87,.di),(.tmp 88,.di)]
abbrev Anp:AW:=[(.exit 5,[(.obj 0,.box 8),(.cell 0 0,.di),(.cell 0 1,.own 152 U2),(.cell 0 2,.dat .bool),(.cell 0 3,.dat .bool),(.cell 0 4,.di),(.cell 0 5,.di),(.cell 0 6,.di),(.cell 0 7,.di),(.obj 1,.own' 1)]),(.ret,[(.obj 0,.box 8),(.cell 0 0,.di),(.cell 0 1,.own 152 U2),(.cell 0 2,.dat .bool),(.cell 0 3,.dat .bool),(.cell 0 4,.di),(.cell 0 5,.di),(.cell 0 6,.di),(.cell 0 7,.di),(.obj 1,.own' 1),(.tmp 8,.dat .bool)])]
def Anm[Lk]:(Int×List U1×Bool×Bool×Int×Int×Int×Int×List Uz×List Int×Int×Int×Unit)→Option ((Int×List U1×Bool×Bool×Int×Int×Int×Int×List Uz×List Int×Int×Int×Unit)⊕(Int×List U1×Bool×Bool×Int×Int×Int×Int×Unit)⊕(Int×List U1×Bool×Bool×Int×Int×Int×Int×Bool×Unit)⊕Unit):=fun(a0,a1,a2,a3,a4,a5,a6,a7,a8,a9,a10,a11,_)=>
 match(ilt a11 a10)with
 |true=>match idx a9 a11 with|none=>none|some x0=>match(ieq (IntKind.wrap .i64 (((AR a8 (AJ a1 (AF (AJ a9 (AF a11) 0)) (0,(0,(0,(false,()))))).1).getD 0)+((AR a8 (AJ a1 (AF (AJ a9 (AF a11) 0)) (0,(0,(0,(false,()))))).2.1).getD 0))) 0)with
  |true=>some (.inl (a0,a1,a2,a3,a4,a5,a6,a7,a8,a9,a10,(IntKind.wrap .i64 (a11+1)),()))
  |false=>match(ieq (IntKind.wrap .i64 (((AR a8 (AJ a1 (AF (AJ a9 (AF a11) 0)) (0,(0,(0,(false,()))))).1).getD 0)+((AR a8 (AJ a1 (AF (AJ a9 (AF a11) 0)) (0,(0,(0,(false,()))))).2.1).getD 0))) 2)with
  |true=>some (.inl (a0,(AX a1 (AF (AJ a9 (AF a11) 0)) ((AJ a1 (AF (AJ a9 (AF a11) 0)) (0,(0,(0,(false,()))))).1,((AJ a1 (AF (AJ a9 (AF a11) 0)) (0,(0,(0,(false,()))))).2.1,((Bs a7 (IntKind.wrap .i64 ((AJ a1 (AF (AJ a9 (AF a11) 0)) (0,(0,(0,(false,()))))).2.2.1+1))),((AJ a1 (AF (AJ a9 (AF a11) 0)) (0,(0,(0,(false,()))))).2.2.2.1,()))))),a2,a3,a4,a5,(IntKind.wrap .i64 (a6+1)),a7,a8,a9,a10,(IntKind.wrap .i64 (a11+1)),()))
  |false=>match(ieq (IntKind.wrap .i64 (((AR a8 (AJ a1 (AF (AJ a9 (AF a11) 0)) (0,(0,(0,(false,()))))).1).getD 0)+((AR a8 (AJ a1 (AF (AJ a9 (AF a11) 0)) (0,(0,(0,(false,()))))).2.1).getD 0))) 1)with
  |true=>some (.inr (.inr (.inl (a0,(AX a1 (AF (AJ a9 (AF a11) 0)) ((AJ a1 (AF (AJ a9 (AF a11) 0)) (0,(0,(0,(false,()))))).1,((AJ a1 (AF (AJ a9 (AF a11) 0)) (0,(0,(0,(false,()))))).2.1,((AJ a1 (AF (AJ a9 (AF a11) 0)) (0,(0,(0,(false,()))))).2.2.1,(true,()))))),a2,true,(AJ (AX a1 (AF (AJ a9 (AF a11) 0)) ((AJ a1 (AF (AJ a9 (AF a11) 0)) (0,(0,(0,(false,()))))).1,((AJ a1 (AF (AJ a9 (AF a11) 0)) (0,(0,(0,(false,()))))).2.1,((AJ a1 (AF (AJ a9 (AF a11) 0)) (0,(0,(0,(false,()))))).2.2.1,(true,()))))) (AF (AJ a9 (AF a11) 0)) (0,(0,(0,(false,()))))).1,(AJ (AX a1 (AF (AJ a9 (AF a11) 0)) ((AJ a1 (AF (AJ a9 (AF a11) 0)) (0,(0,(0,(false,()))))).1,((AJ a1 (AF (AJ a9 (AF a11) 0)) (0,(0,(0,(false,()))))).2.1,((AJ a1 (AF (AJ a9 (AF a11) 0)) (0,(0,(0,(false,()))))).2.2.1,(true,()))))) (AF (AJ a9 (AF a11) 0)) (0,(0,(0,(false,()))))).2.1,a6,a7,true,()))))
  |false=>some (.inl (a0,a1,a2,a3,a4,a5,a6,a7,a8,a9,a10,(IntKind.wrap .i64 (a11+1)),()))
 |false=>some (.inr (.inl (a0,a1,a2,a3,a4,a5,a6,a7,())))
abbrev Ant:AD:=[(.obj 0,.box 8),(.cell 0 0,.di),(.cell 0 1,.own 152 U2),(.cell 0 2,.dat .bool),(.cell 0 3,.dat .bool),(.cell 0 4,.di),(.cell 0 5,.di),(.cell 0 6,.di),(.cell 0 7,.di),(.obj 1,.own' 1),(.tmp 0,.ptr' 0 0),(.tmp 3,.di),(.cap 14 0,.box 1),(.cell 2 0,.map U0 U0),(.tmp 14,.clo 253 [(2,0)]),(.tmp 15,.prs 329 1),(.tmp 47,.di),(.tmp 48,.di)]
abbrev Anq:AW:=[(.exit 2,[(.obj 0,.box 8),(.cell 0 0,.di),(.cell 0 1,.own 152 U2),(.cell 0 2,.dat .bool),(.cell 0 3,.dat .bool),(.cell 0 4,.di),(.cell 0 5,.di),(.cell 0 6,.di),(.cell 0 7,.di),(.obj 1,.own' 1),(.tmp 0,.ptr' 0 0),(.cap 14 0,.box 1),(.cell 2 0,.map U0 U0),(.tmp 14,.clo 253 [(2,0)]),(.tmp 15,.prs 329 1)])]
def Ann[Lk]:V5→Option (V5⊕(Int×List U1×Bool×Bool×Int×Int×Int×Int×List Uz×List Int×Unit)⊕Unit):=fun(a0,a1,a2,a3,a4,a5,a6,a7,a8,a9,a10,a11,a12,_)=>
 match(ilt a12 a11)with
 |true=>match idx a1 a12 with|none=>none|some x0=>match(!(ieq (AJ a1 (AF a12) (0,(0,(0,(false,()))))).2.2.1 a8))with
  |true=>some (.inl (a0,a1,a2,a3,a4,a5,a6,a7,a8,a9,a10,a11,(IntKind.wrap .i64 (a12+1)),()))
  |false=>match(!(AJ a1 (AF a12) (0,(0,(0,(false,()))))).2.2.2.1)with
  |true=>match(fits ((AH a10)+(AH ([(Int.ofNat (AF a12))]:List (Int)))))with
   |true=>some (.inl (a0,a1,a2,a3,a4,a5,a6,a7,a8,a9,(Ai a10 ([(Int.ofNat (AF a12))]:List (Int))),a11,(IntKind.wrap .i64 (a12+1)),()))
   |false=>none
  |false=>match(ieq (IntKind.wrap .i64 (((AR a9 (AJ a1 (AF a12) (0,(0,(0,(false,()))))).1).getD 0)+((AR a9 (AJ a1 (AF a12) (0,(0,(0,(false,()))))).2.1).getD 0))) 2)with
  |true=>some (.inl (a0,(AX a1 (AF a12) ((AJ a1 (AF a12) (0,(0,(0,(false,()))))).1,((AJ a1 (AF a12) (0,(0,(0,(false,()))))).2.1,((Bs a7 (IntKind.wrap .i64 ((AJ a1 (AF a12) (0,(0,(0,(false,()))))).2.2.1+1))),((AJ a1 (AF a12) (0,(0,(0,(false,()))))).2.2.2.1,()))))),a2,a3,a4,a5,(IntKind.wrap .i64 (a6+1)),a7,a8,a9,a10,a11,(IntKind.wrap .i64 (a12+1)),()))
  |false=>some (.inl (a0,a1,a2,a3,a4,a5,a6,a7,a8,a9,a10,a11,(IntKind.wrap .i64 (a12+1)),()))
 |false=>some (.inr (.inl (a0,a1,a2,a3,a4,a5,a6,a7,a9,a10,())))
abbrev Anu:AD:=[(.obj 0,.box 8),(.cell 0 0,.di),(.cell 0 1,.own 152 U2),(.cell 0 2,.dat .bool),(.cell 0 3,.dat .bool),(.cell 0 4,.di),(.cell 0 5,.di),(.cell 0 6,.di),(.cell 0 7,.di),(.obj 1,.own' 1),(.tmp 0,.ptr' 0 0),(.tmp 3,.di),(.tmp 11,.box 1),(.cell 2 0,.map U0 U0),(.tmp 32,.own 3 U0),(.tmp 33,.di),(.tmp 34,.di)]
abbrev Anr:AW:=[(.exit 0,[(.obj 0,.box 8),(.cell 0 0,.di),(.cell 0 1,.own 152 U2),(.cell 0 2,.dat .bool),(.cell 0 3,.dat .bool),(.cell 0 4,.di),(.cell 0 5,.di),(.cell 0 6,.di),(.cell 0 7,.di),(.obj 1,.own' 1),(.tmp 0,.ptr' 0 0),(.tmp 3,.di),(.tmp 11,.box 1),(.cell 2 0,.map U0 U0)])]
def Ano[Lk]:V5→Option (V5⊕(Int×List U1×Bool×Bool×Int×Int×Int×Int×Int×List Uz×Unit)⊕Unit):=fun(a0,a1,a2,a3,a4,a5,a6,a7,a8,a9,a10,a11,a12,_)=>
 match(ilt a12 a11)with
 |true=>match idx a10 a12 with|none=>none|some x0=>some (.inl (a0,a1,a2,a3,a4,a5,a6,a7,a8,(Ae a9 (AJ a10 (AF a12) 0) 1),a10,a11,(IntKind.wrap .i64 (a12+1)),()))
 |false=>some (.inr (.inl (a0,a1,a2,a3,a4,a5,a6,a7,a8,a9,())))
def Ame[Lk]:(Int×List U1×Bool×Bool×Int×Int×Int×Int×Int×Int×Int×Unit)→Option ((Int×List U1×Bool×Bool×Int×Int×Int×Int×Bool×Unit)):=fun(a0,a1,a2,a3,a4,a5,a6,a7,a8,a9,a10,_)=>
 match Ael ((a0,(a1,())),a8,a9,a10,())with|none=>none|some (y0,y1,_)=>match AL Ano many (a0,a1,a2,a3,a4,a5,a6,a7,a10,([]:List Uz),y0,(AH y0),0,())with|none=>none|some r=>match r with
 |.inl (o2,o3,o4,o5,o6,o7,o8,o9,o10,o11,_)=>match AL Ann many (o2,o3,o4,o5,o6,o7,o8,o9,o10,o11,([]:List (Int)),(AH o3),0,())with|none=>none|some r=>match r with
  |.inl (o12,o13,o14,o15,o16,o17,o18,o19,o20,o21,_)=>match AL Anm many (o12,o13,o14,o15,o16,o17,o18,o19,o20,o21,(AH o21),0,())with|none=>none|some r=>match r with
   |.inl (o22,o23,o24,o25,o26,o27,o28,o29,_)=>some (o22,o23,o24,o25,o26,o27,o28,o29,false,())
   |.inr r=>match r with
   |.inl (o30,o31,o32,o33,o34,o35,o36,o37,o38,_)=>some (o30,o31,o32,o33,o34,o35,o36,o37,o38,())
   |.inr _=>none
  |.inr _=>none
 |.inr _=>none
def pat[Lk]:=fun v=>Lk.f (Ame v)
theorem Anv v:pat v=Ame v:=AB _
abbrev Aer:AD:=[(.tmp 0,.di),(.tmp 1,.dat Uy),(.tmp 2,.dat Vn),(.tmp 3,.di)]
abbrev AFQ:List RS:=[.agg 2,.one,.one]
abbrev AkF:AD:=[(.tmp 6,.box 2),(.cell 0 0,.di),(.cell 0 1,.nil U2),(.tmp 7,.box 5),(.cell 1 0,.dat .bool),(.cell 1 1,.dat .bool),(.cell 1 2,.di),(.cell 1 3,.di),(.cell 1 4,.di),(.tmp 11,.box 4),(.cell 2 0,.di),(.cell 2 1,.di),(.cell 2 2,.di),(.cell 2 3,.dat .bool),(.tmp 12,.box 8),(.cell 3 0,.di),(.cell 3 1,.own 152 U2),(.cell 3 2,.dat .bool),(.cell 3 3,.dat .bool),(.cell 3 4,.di),(.cell 3 5,.di),(.cell 3 6,.di),(.cell 3 7,.di),(.tmp 13,.di)]
abbrev AkE:AW:=[(.exit 0,[(.tmp 6,.box 2),(.cell 0 0,.di),(.cell 0 1,.nil U2),(.tmp 7,.box 5),(.cell 1 0,.dat .bool),(.cell 1 1,.dat .bool),(.cell 1 2,.di),(.cell 1 3,.di),(.cell 1 4,.di),(.tmp 12,.box 8),(.cell 2 0,.di),(.cell 2 1,.own 152 U2),(.cell 2 2,.dat .bool),(.cell 2 3,.dat .bool),(.cell 2 4,.di),(.cell 2 5,.di),(.cell 2 6,.di),(.cell 2 7,.di)])]
def AkD[Lk]:(Int×Bool×Bool×Int×Int×Int×Int×Int×Int×Bool×Int×List U1×Bool×Bool×Int×Int×Int×Int×Int×Unit)→Option ((Int×Bool×Bool×Int×Int×Int×Int×Int×Int×Bool×Int×List U1×Bool×Bool×Int×Int×Int×Int×Int×Unit)⊕(Int×Bool×Bool×Int×Int×Int×Int×List U1×Bool×Bool×Int×Int×Int×Int×Unit)⊕Unit):=fun(a0,a1,a2,a3,a4,a5,a6,a7,a8,a9,a10,a11,a12,a13,a14,a15,a16,a17,a18,_)=>
 match a9 with
 |true=>match(ile 0 a18)with
  |true=>match pat (a10,a11,a12,a13,a14,a15,a16,a17,a6,a7,a18,())with|none=>none|some (y0,y1,y2,y3,y4,y5,y6,y7,y8,_)=>match(!y8)with
   |true=>some (.inl (a0,a1,a2,a3,a4,a5,a6,a7,a8,a9,y0,y1,y2,y3,y4,y5,y6,y7,(IntKind.wrap .i64 (a18-1)),()))
   |false=>some (.inr (.inl (a0,a1,a2,a3,a4,a5,y0,y1,y2,y3,y4,y5,y6,y7,())))
  |false=>some (.inr (.inl (a0,a1,a2,a3,a4,a5,a10,a11,a12,a13,a14,a15,a16,a17,())))
 |false=>some (.inr (.inl (a0,a1,a2,a3,a4,a5,a10,a11,a12,a13,a14,a15,a16,a17,())))
def Aes[Lk]:V2→Option ((Int×List U1×V9×Int×Unit)):=fun(a0,a1,a2,_)=>
 match AFS ((a0.1,(a0.2.1,())),a1,a2,())with|none=>none|some (y0,y1,_)=>match(!(ieq y1 0))with
 |true=>some (a0.1,a0.2.1,(false,(false,((0,(0,())),(0,())))),y1,())
 |false=>match idx a0.2.1 y0 with|none=>none|some x2=>match CE a0.2.1 0 y0 with|none=>none|some x3=>match CE a0.2.1 (IntKind.wrap .i64 (y0+1)) (AH a0.2.1)with|none=>none|some x4=>match AGa (([x3,x4]:List (List U1)),())with|none=>none|some (y5,_)=>match AFk (a0.1,())with|none=>none|some (y6,_)=>match AL AkD many (0,false,false,0,0,0,x2.1,x2.2.1,x2.2.2.1,x2.2.2.2.1,a0.1,y5,x2.2.2.2.1,false,0,0,0,y6,x2.2.2.1,())with|none=>none|some r=>match r with
 |.inl (o7,o8,o9,o10,o11,o12,o13,o14,o15,o16,o17,o18,o19,o20,_)=>some (o13,o14,(o15,(o16,((o17,(o18,())),(o19,())))),0,())
 |.inr _=>none
def Anc[Lk]:=fun v=>Lk.f (Aes v)
theorem AkG v:Anc v=Aes v:=AB _
abbrev AUw:AD:=[(.tmp 0,.dat Um),(.tmp 1,.own 196 Vn),(.tmp 2,.di)]
abbrev AfC:AD:=[(.tmp 2,.box 2),(.cell 0 0,.di),(.cell 0 1,.dat Uy),(.tmp 4,.box 2),(.cell 1 0,.di),(.cell 1 1,.nil U2),(.tmp 9,.own 196 Vn),(.tmp 10,.box 2),(.cell 3 0,.di),(.cell 3 1,.dat Uy),(.tmp 27,.own 88 U4),(.tmp 28,.di),(.tmp 29,.di)]
abbrev AfB:AW:=[(.ret,[(.tmp 4,.box 2),(.cell 0 0,.di),(.cell 0 1,.dat Uy),(.tmp 5,.nil Vn),(.tmp 6,.di)]),(.exit 0,[(.tmp 4,.box 2),(.cell 0 0,.di),(.cell 0 1,.nil U2),(.tmp 9,.own 196 Vn),(.tmp 10,.box 2),(.cell 2 0,.di),(.cell 2 1,.dat Uy)])]
def AfA[Lk]:(Int×List U1×Int×List V9×Int×List U1×List U3×Int×Int×Unit)→Option ((Int×List U1×Int×List V9×Int×List U1×List U3×Int×Int×Unit)⊕(Int×List U1×Int×Unit)⊕(Int×List V9×Int×List U1×Unit)⊕Unit):=fun(a0,a1,a2,a3,a4,a5,a6,a7,a8,_)=>
 match(ilt a8 a7)with
 |true=>match idx a6 a8 with|none=>none|some x0=>match Anc ((a4,(a5,())),(AJ a6 (AF a8) (0,(0,()))).1,(AJ a6 (AF a8) (0,(0,()))).2.1,())with|none=>none|some (y1,y2,y3,y4,_)=>match(!(ieq y4 0))with
  |true=>some (.inr (.inl (a0,a1,y4,())))
  |false=>match(fits ((AH a3)+(AH ([(y3.1,(y3.2.1,((y3.2.2.1.1,(y3.2.2.1.2.1,())),(y3.2.2.2.1,()))))]:List V9))))with
  |true=>some (.inl (a0,a1,a2,(Ai a3 ([(y3.1,(y3.2.1,((y3.2.2.1.1,(y3.2.2.1.2.1,())),(y3.2.2.2.1,()))))]:List V9)),y1,y2,a6,a7,(IntKind.wrap .i64 (a8+1)),()))
  |false=>none
 |false=>some (.inr (.inr (.inl (a2,a3,a4,a5,()))))
def AUx[Lk]:(Uf×List U3×Unit)→Option ((Uf×List V9×Int×Unit)):=fun(a0,a1,_)=>
 match AUv ((a0.1,(a0.2.1,())),a1,())with|none=>none|some (y0,y1,_)=>match(!(ieq y1 0))with
 |true=>some ((a0.1,(a0.2.1,())),([]:List V9),y1,())
 |false=>match AL AfA many (a0.1,a0.2.1,0,([]:List V9),a0.1,a0.2.1,y0,(AH y0),0,())with|none=>none|some r=>match r with
 |.inl (o2,o3,o4,_)=>some ((o2,(o3,())),([]:List V9),o4,())
 |.inr r=>match r with
 |.inl (o5,o6,o7,o8,_)=>some ((o7,(o8,())),o6,0,())
 |.inr _=>none
def Amb[Lk]:=fun v=>Lk.f (AUx v)
theorem AfD v:Amb v=AUx v:=AB _
def AUi[Lk]:(Uf×Unit)→Option ((List Int×Bool×Unit)):=fun(a0,_)=>
 match Ek ((a0.1,(a0.2.1,())),())with|none=>none|some (y0,_)=>match(!y0)with
 |true=>some (([]:List (Int)),false,())
 |false=>match X4 ((a0.1,(a0.2.1,())),())with|none=>none|some (y1,_)=>match XB (a0.1,y1,())with|none=>none|some (y2,y3,_)=>some (y2,true,())
def Ad8[Lk]:=fun v=>Lk.f (AUi v)
theorem Ad7 v:Ad8 v=AUi v:=AB _
abbrev XC:AD:=[(.tmp 0,.dat Um),(.tmp 1,.dat (.slice (.prod U0 U4)))]
abbrev AJD:AD:=[(.tmp 6,.own 3 U0),(.tmp 8,.own 3 U0),(.tmp 20,.dat (.slice (.prod U0 U4))),(.tmp 21,.di),(.tmp 22,.di)]
abbrev AJC:AW:=[(.ret,[(.tmp 4,.nil U0),(.tmp 5,.di)]),(.exit 0,[(.tmp 8,.own 3 U0)])]
def AJB[Lk]:(List Int×List Int×List Ug×Int×Int×Unit)→Option ((List Int×List Int×List Ug×Int×Int×Unit)⊕U8⊕Ua⊕Unit):=fun(a0,a1,a2,a3,a4,_)=>
 match(ilt a4 a3)with
 |true=>match idx a2 a4 with|none=>none|some x0=>match AGu (a0,(x0.1,(x0.2.1,(x0.2.2.1,()))),())with|none=>none|some (y1,y2,_)=>match(!(ieq y2 0))with
  |true=>some (.inr (.inl (y2,())))
  |false=>match(fits ((AH a1)+(AH ([y1]:List (Int)))))with
  |true=>some (.inl (a0,(Ai a1 ([y1]:List (Int))),a2,a3,(IntKind.wrap .i64 (a4+1)),()))
  |false=>none
 |false=>some (.inr (.inr (.inl (a1,()))))
def XD[Lk]:(Uf×List Ug×Unit)→Option (Uh):=fun(a0,a1,_)=>
 match Ad8 ((a0.1,(a0.2.1,())),())with|none=>none|some (y0,y1,_)=>match(!y1)with
 |true=>some (([]:List (Int)),1,())
 |false=>match AL AJB many (y0,([]:List (Int)),a1,(AH a1),0,())with|none=>none|some r=>match r with
 |.inl (o2,_)=>some (([]:List (Int)),o2,())
 |.inr r=>match r with
 |.inl (o3,_)=>some (o3,0,())
 |.inr _=>none
def AJF[Lk]:=fun v=>Lk.f (XD v)
theorem AJE v:AJF v=XD v:=AB _
def ALR[Lk]:(Uo×Int×Unit)→Option (U3):=fun(a0,a1,_)=>
 match MQ ((a0.1,(a0.2.1,())),([a1]:List (Int)),())with|none=>none|some (y0,_)=>match(!(ieq y0 0))with
 |true=>some (0,y0,())
 |false=>match tof ((a0.1,(a0.2.1,())),a1,())with|none=>none|some (y1,_)=>match idx a0.2.1 y1 with|none=>none|some x2=>match idx x2 0 with|none=>none|some x3=>some (x3,0,())
def AGF[Lk]:=fun v=>Lk.f (ALR v)
theorem Aa2 v:AGF v=ALR v:=AB _
abbrev AE5:AD:=[(.tmp 2,.box 2),(.cell 0 0,.di),(.cell 0 1,.dat Ue),(.tmp 7,.own 88 U4),(.tmp 24,.dat Vb),(.tmp 25,.di),(.tmp 26,.di)]
abbrev AE4:AW:=[(.exit 0,[(.tmp 7,.own 88 U4)])]
def AE3[Lk]:(Int×List U5×List U3×List U3×Int×Int×Unit)→Option ((Int×List U5×List U3×List U3×Int×Int×Unit)⊕Ux⊕Unit):=fun(a0,a1,a2,a3,a4,a5,_)=>
 match(ilt a5 a4)with
 |true=>match idx a3 a5 with|none=>none|some x0=>match AGF ((a0,(a1,())),x0.1,())with|none=>none|some (y1,y2,_)=>match AGF ((a0,(a1,())),x0.2.1,())with|none=>none|some (y3,y4,_)=>match(fits ((AH a2)+(AH ([(y1,(y3,()))]:List U3))))with
  |true=>some (.inl (a0,a1,(Ai a2 ([(y1,(y3,()))]:List U3)),a3,a4,(IntKind.wrap .i64 (a5+1)),()))
  |false=>none
 |false=>some (.inr (.inl (a2,())))
def TM[Lk]:(Uo×List U3×Unit)→Option ((List U3×Int×Unit)):=fun(a0,a1,_)=>
 match OM ((a0.1,(a0.2.1,())),())with|none=>none|some (y0,_)=>match(!y0)with
 |true=>some (([]:List U3),1,())
 |false=>match AFA (a0.1,a1,())with|none=>none|some (y1,_)=>match(!(ieq y1 0))with
 |true=>some (([]:List U3),y1,())
 |false=>match AL AE3 many (a0.1,a0.2.1,([]:List U3),a1,(AH a1),0,())with|none=>none|some r=>match r with
 |.inl (o2,_)=>some (o2,0,())
 |.inr _=>none
def Rv[Lk]:=fun v=>Lk.f (TM v)
theorem AE6 v:Rv v=TM v:=AB _
abbrev ABz:AD:=[(.tmp 0,.own 4 .bool),(.tmp 1,.di)]
def AB0[Lk]:(Uo×List U3×Unit)→Option ((List Bool×Int×Unit)):=fun(a0,a1,_)=>
 match Rv ((a0.1,(a0.2.1,())),a1,())with|none=>none|some (y0,y1,_)=>match(!(ieq y1 0))with
 |true=>some (([]:List (Bool)),y1,())
 |false=>match AFC (a0.1,())with|none=>none|some (y2,_)=>match AEx (y2,y0,())with|none=>none|some (y3,y4,_)=>some (y4,0,())
def AE7[Lk]:=fun v=>Lk.f (AB0 v)
theorem APf v:AE7 v=AB0 v:=AB _
end
end Go.Pev
end
section
namespace Go.Pev
noncomputable section
abbrev AhA:AD:=[(.tmp 0,.di),(.tmp 1,.dat Uy),(.tmp 2,.di),(.tmp 3,.di)]
abbrev Alo:AD:=[(.tmp 2,.box 2),(.cell 0 0,.di),(.cell 0 1,.dat Uy),(.tmp 4,.box 2),(.cell 1 0,.di),(.cell 1 1,.nil U2),(.tmp 7,.own 88 U4),(.tmp 11,.own 4 .bool),(.tmp 13,.own 152 U2),(.tmp 46,.own' 2),(.tmp 47,.di),(.tmp 48,.di)]
abbrev Aln:AW:=[(.exit 0,[(.tmp 2,.box 2),(.cell 0 0,.di),(.cell 0 1,.dat Uy),(.tmp 4,.box 2),(.cell 1 0,.di),(.cell 1 1,.nil U2),(.tmp 7,.own 88 U4),(.tmp 13,.own 152 U2)])]
def Alm[Lk]:(Int×List U1×Int×List U3×List Bool×List U1×Int×Int×Unit)→Option ((Int×List U1×Int×List U3×List Bool×List U1×Int×Int×Unit)⊕(Int×List U1×Int×List U3×List U1×Unit)⊕Unit):=fun(a0,a1,a2,a3,a4,a5,a6,a7,_)=>
 match(ilt a7 a6)with
 |true=>match idx a3 a7 with|none=>none|some x0=>match idx a4 a7 with|none=>none|some x1=>match(fits ((AH a5)+(AH ([((AJ a3 (AF a7) (0,(0,()))).1,((AJ a3 (AF a7) (0,(0,()))).2.1,(0,((AJ a4 (AF a7) false),()))))]:List U1))))with
  |true=>some (.inl (a0,a1,a2,a3,a4,(Ai a5 ([((AJ a3 (AF a7) (0,(0,()))).1,((AJ a3 (AF a7) (0,(0,()))).2.1,(0,((AJ a4 (AF a7) false),()))))]:List U1)),a6,(IntKind.wrap .i64 (a7+1)),()))
  |false=>none
 |false=>some (.inr (.inl (a0,a1,a2,a3,a5,())))
def AhB[Lk]:(Uf×List U3×Unit)→Option ((Int×List U1×Int×Int×Unit)):=fun(a0,a1,_)=>
 match All ((a0.1,(a0.2.1,())),a1,())with|none=>none|some (y0,y1,_)=>match(!(ieq y1 0))with
 |true=>some (a0.1,a0.2.1,0,y1,())
 |false=>match Ag7 ((a0.1,(a0.2.1,())),(AH y0),())with|none=>none|some (y2,_)=>match(!y2)with
 |true=>some (a0.1,a0.2.1,0,2,())
 |false=>match NW ((a0.1,(a0.2.1,())),0,())with|none=>none|some (y3,y4,_)=>match AE7 ((y3.1,(y3.2.1,())),y0,())with|none=>none|some (y5,y6,_)=>match HH a0.2.1 with|none=>none|some x7=>match AL Alm many (a0.1,a0.2.1,0,y0,y5,x7,(AH y0),0,())with|none=>none|some r=>match r with
 |.inl (o8,o9,o10,o11,o12,_)=>match Adh (o12,())with|none=>none|some (y13,_)=>some (o8,y13,(AH o11),0,())
 |.inr _=>none
def ApF[Lk]:=fun v=>Lk.f (AhB v)
theorem Alp v:ApF v=AhB v:=AB _
abbrev QR:AD:=[(.tmp 0,.dat (.prod Um U4))]
def X9[Lk]:(V2×Unit)→Option (Uc):=fun(a0,_)=>
 match Ek ((a0.1.1,(a0.1.2.1,())),())with|none=>none|some (y0,_)=>match y0 with
 |true=>match MN (a0.2.1,())with|none=>none|some (y1,_)=>match y1 with
  |true=>match MN (a0.2.2.1,())with|none=>none|some (y2,_)=>some (y2,())
  |false=>some (false,())
 |false=>some (false,())
def HA[Lk]:=fun v=>Lk.f (X9 v)
theorem ACm v:HA v=X9 v:=AB _
end
end Go.Pev
end
section
namespace Go.Pev
open Go.Proofs
noncomputable section
abbrev Aju:Row:=⟨151,0,0,1,0,none,AP,[(.ret,AM)],AA,[],[]⟩
def AHL[Lk]:Env:=ADQ.ext 151 true true (AG 0 1 AP AM AA AUh)
theorem ZV:AI Tryz.prog AHL:=Row.AE Aju AG7 Tryz.func151 AI0
theorem AoR:Tryz.f150.body.isSome=true:=by kernel_rfl
theorem AoQ : (Tryz.f150.name == "runtime.NumGoroutine") = false := by kernel_rfl
theorem AoP:loops (BU Tryz.f150)=0:=by kernel_rfl
def AEF[Lk]:Env:=AHL.ext 150 false false (Bb Tryz.prog AHL {} Tryz.f150)
theorem AH4:AI Tryz.prog AEF:=Env.Bi ZV (BI ZV Tryz.func150 AoR AoQ AoP) (by simp) (by simp)
abbrev YM:Row:=⟨134,0,0,2,0,some (1,150),FH,[(.ret,AP)],AA,[],[(0,VE,DY)]⟩
def Mx[Lk]:Env:=AEF.BR 134 1 150 (AG 0 2 FH AP AA LB)
theorem RR:AI Tryz.prog Mx:=Row.AE YM AH4 Tryz.func134 LW
abbrev VN:Row:=⟨60,0,0,2,0,some (1,150),FH,[(.ret,AM)],AA,[],[]⟩
def Ld[Lk]:Env:=Mx.BR 60 1 150 (AG 0 2 FH AM AA GZ)
theorem PM:AI Tryz.prog Ld:=Row.AE VN RR Tryz.func60 KG
abbrev AYQ:Row:=⟨152,0,0,1,0,none,AP,[(.ret,AM)],AA,[],[]⟩
def ADb[Lk]:Env:=Ld.ext 152 true true (AG 0 1 AP AM AA NJ)
theorem AHK:AI Tryz.prog ADb:=Row.AE AYQ PM Tryz.func152 W8
abbrev AjM:Row:=⟨153,0,0,1,0,none,AP,[(.ret,AUK)],AA,[],[]⟩
def AWh[Lk]:Env:=ADb.ext 153 true true (AG 0 1 AP AUK AA ABX)
theorem ATQ:AI Tryz.prog AWh:=Row.AE AjM AHK Tryz.func153 AIX
abbrev AR8:Row:=⟨75,0,0,1,0,none,LG,[(.ret,Dv)],AQ,[(3,[[0],[0],[],[],[0],[0],[],[19,20],[0],[0],[],[],[29,30],[]])],[(0,ALe,MW)]⟩
def Zs[Lk]:Env:=AWh.ext 75 true true (AG 0 1 LG Dv AQ Qz)
theorem ABG:AI Tryz.prog Zs:=Row.AE AR8 ATQ Tryz.func75 Ts
abbrev AeB:Row:=⟨70,0,0,2,0,none,AJH,[(.ret,AM)],AA,[],[]⟩
def AM9[Lk]:Env:=Zs.ext 70 true true (AG 0 2 AJH AM AA Ry)
theorem AM8:AI Tryz.prog AM9:=Row.AE AeB ABG Tryz.func70 AYe
abbrev AeC:Row:=⟨25,0,0,2,0,none,Pq,[(.ret,AM)],AA,[(6,[[0],[0],[],[],[],[2],[2],[],[],[],[]])],[(0,AYg,Hx)]⟩
def ANB[Lk]:Env:=AM9.ext 25 true true (AG 0 2 Pq AM AA XH)
theorem ANA:AI Tryz.prog ANB:=Row.AE AeC AM8 Tryz.func25 AYh
abbrev AhO:Row:=⟨122,0,0,2,0,none,ALZ,[(.ret,AM)],AA,[(6,[[],[],[],[],[],[],[],[],[]])],[(0,Aa8,Hx)]⟩
def AOD[Lk]:Env:=ANB.ext 122 true true (AG 0 2 ALZ AM AA AR4)
theorem AOC:AI Tryz.prog AOD:=Row.AE AhO ANA Tryz.func122 Aa9
abbrev Akq:Row:=⟨54,0,0,2,0,none,Pq,[(.ret,AM)],AA,[],[]⟩
def AW2[Lk]:Env:=AOD.ext 54 true true (AG 0 2 Pq AM AA Af4)
theorem ATl:AI Tryz.prog AW2:=Row.AE Akq AOC Tryz.func54 Af3
abbrev VM:Row:=⟨60,0,0,2,0,some (1,207),FF,[(.ret,AM)],AA,[],[]⟩
def Lc[Lk]:Env:=AW2.BR 60 1 207 (AG 0 2 FF AM AA GY)
theorem PL:AI Tryz.prog Lc:=Row.AE VM ATl Tryz.func60 KF
end
end Go.Pev
end
