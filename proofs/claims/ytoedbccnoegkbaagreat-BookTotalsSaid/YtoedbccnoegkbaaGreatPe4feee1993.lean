/- A part of the proofs of this seat: G32M3 G32M4 G32M5 PevTake PevPanC PevDefer PevClip PevRaw PevRow G32P1 G32P2 G32P3 G32P4 G32P5 G32P6 G32P7 G32P8 G32P9 G32P10 G32P11 G32P12 G32P13 G32P14 G32P15 G32P16 G32P17 G32P18 G32P19 G32P20. -/
import Derived.Test.YtoedbccnoegkbaaGreatP4449391bea
import Derived.Recover
import Derived.KernelRfl
import Derived.Test.YtoedbccnoegkbaaGreatProg
set_option linter.unusedVariables false
set_option linter.unusedSimpArgs false
set_option linter.unusedSectionVars false
set_option maxRecDepth 100000
section
namespace Go.Pev
noncomputable section
abbrev AA5:AB:=[(.tmp 0,.di),(.tmp 1,.dat Uo)]
abbrev BI:AB:=[(.tmp 0,.own 3 U0),(.tmp 1,.di),(.tmp 2,.di)]
abbrev ANl:AB:=[(.tmp 8,.own 212 U2),(.tmp 10,.own 3 U0),(.tmp 12,.box 2),(.cell 2 0,.di),(.cell 2 1,.di),(.tmp 44,.own 170 U3),(.tmp 45,.di),(.tmp 46,.di),(.tmp 54,.di),(.tmp 55,.di)]
abbrev ANj:AT:=[(.exit 2,[(.tmp 8,.own 212 U2),(.tmp 10,.own 3 U0),(.tmp 44,.own 170 U3),(.tmp 45,.di),(.tmp 46,.di)])]
def ANh[Lk]:(List U1×List Int×Int×Int×List U4×Int×Int×Int×Int×Unit)→Option ((List U1×List Int×Int×Int×List U4×Int×Int×Int×Int×Unit)⊕(List U1×List Int×List U4×Int×Int×Unit)⊕Unit):=fun(a0,a1,a2,a3,a4,a5,a6,a7,a8,_)=>
 match(ilt a8 a7)with
 |true=>match(fits ((AJ a1)+(AJ ([(IntKind.wrap .i64 (a2+a8))]:List (Int)))))with
  |true=>some (.inl (a0,(BE a1 ([(IntKind.wrap .i64 (a2+a8))]:List (Int))),a2,a3,a4,a5,a6,a7,(IntKind.wrap .i64 (a8+1)),()))
  |false=>none
 |false=>some (.inr (.inl (a0,a1,a4,a5,a6,())))
abbrev ANm:AB:=[(.tmp 8,.own 212 U2),(.tmp 10,.own 3 U0),(.tmp 44,.own 170 U3),(.tmp 45,.di),(.tmp 46,.di)]
abbrev ANk:AT:=[(.exit 0,[(.tmp 8,.own 212 U2),(.tmp 10,.own 3 U0)])]
def ANi[Lk]:(List U1×List Int×List U4×Int×Int×Unit)→Option ((List U1×List Int×List U4×Int×Int×Unit)⊕(List U1×List Int×Unit)⊕Unit):=fun(a0,a1,a2,a3,a4,_)=>
 match(ilt a4 a3)with
 |true=>match idx a2 a4 with|none=>none|some x0=>match AQ ANh many (a0,a1,(AI a2 (AE a4) (0,(0,()))).1,(AI a2 (AE a4) (0,(0,()))).2.1,a2,a3,a4,(IntKind.wrap .i64 ((AI a2 (AE a4) (0,(0,()))).2.1-(AI a2 (AE a4) (0,(0,()))).1)),0,())with|none=>none|some r=>match r with
  |.inl (o1,o2,o3,o4,o5,_)=>some (.inl (o1,o2,o3,o4,(IntKind.wrap .i64 (o5+1)),()))
  |.inr _=>none
 |false=>some (.inr (.inl (a0,a1,())))
def AA6[Lk]:(Int×Uv×Unit)→Option (Ud):=fun(a0,a1,_)=>
 match(ilt a0 0)with
 |true=>some (([]:List (Int)),0,1,())
 |false=>match(ilt 1000 a0)with
 |true=>some (([]:List (Int)),0,1,())
 |false=>match AGL ((a1.1,(a1.2.1,(a1.2.2.1,()))),())with|none=>none|some (y0,_)=>match(!y0)with
 |true=>some (([]:List (Int)),0,1,())
 |false=>match(ieq a0 0)with
 |true=>some (([]:List (Int)),0,0,())
 |false=>match AGT (a0,a1.1,a1.2.1,a1.2.2.1,())with|none=>none|some (y1,y2,y3,_)=>match(!(ieq y3 0))with
 |true=>some (([]:List (Int)),0,y3,())
 |false=>match XE (((y1.1.1,(y1.1.2.1,(y1.1.2.2.1,()))),(y1.2.1,(y1.2.2.1,(y1.2.2.2.1,(y1.2.2.2.2.1,()))))),y2,())with|none=>none|some (y4,_)=>match AQ ANi many (y2,([]:List (Int)),y4,(AJ y4),0,())with|none=>none|some r=>match r with
 |.inl (o5,o6,_)=>some (o6,(AJ o5),0,())
 |.inr _=>none
def W4[Lk]:=fun v=>Lk.f (AA6 v)
theorem ANn v:W4 v=AA6 v:=AD _
def Y4[Lk]:Ua→Option (Uk):=fun(a0,_)=>
 match(ile 1 a0)with
 |true=>some ((ile a0 100),())
 |false=>some (false,())
def Vw[Lk]:=fun v=>Lk.f (Y4 v)
theorem ALg v:Vw v=Y4 v:=AD _
def Sw[Lk]:U4→Option (Ua):=fun(a0,a1,_)=>
 match(ilt a0 0)with
 |true=>some (0,())
 |false=>match(ilt 1000 a0)with
 |true=>some (0,())
 |false=>match Vw (a1,())with|none=>none|some (y0,_)=>match(!y0)with
 |true=>some (0,())
 |false=>match quo? .i64 (IntKind.wrap .i64 ((IntKind.wrap .i64 (a0+a1))-1)) a1 with|none=>none|some x1=>some (x1,())
def WG[Lk]:=fun v=>Lk.f (Sw v)
theorem AEg v:WG v=Sw v:=AD _
abbrev AIX:AB:=[(.tmp 0,.dat Va),(.tmp 1,.di),(.tmp 2,.di)]
def AIY[Lk]:Ud→Option (Uc):=fun(a0,a1,a2,_)=>
 match EU a0 (IntKind.wrap .i64 (a1*a2)) (EN (AJ a0) (IntKind.wrap .i64 ((IntKind.wrap .i64 (a1+1))*a2)))with|none=>none|some x0=>some (x0,())
def AIZ[Lk]:=fun v=>Lk.f (AIY v)
theorem AQP v:AIZ v=AIY v:=AD _
abbrev ZQ:AB:=[(.tmp 0,.dat Va),(.tmp 1,.clo 320 [])]
abbrev ZP:AB:=[(.tmp 0,.own 195 Uj),(.tmp 1,.dat Uj)]
abbrev AL3:AB:=[(.tmp 1,.clo 320 []),(.tmp 6,.own 195 Uj),(.tmp 7,.dat Uj),(.tmp 13,.dat Va),(.tmp 14,.di),(.tmp 15,.di)]
abbrev AL2:AT:=[(.exit 0,[(.tmp 6,.own 195 Uj),(.tmp 7,.dat Uj)])]
def AL1[Lk]:(List Int×Int×List Int×Int×Int×Unit)→Option ((List Int×Int×List Int×Int×Int×Unit)⊕Ut⊕Unit):=fun(a0,a1,a2,a3,a4,_)=>
 match(ilt a4 a3)with
 |true=>match idx a2 a4 with|none=>none|some x0=>match idx a0 a4 with|none=>none|some x1=>some (.inl ((AX a0 (AE a4) a1),(IntKind.wrap .u32 (a1+x0)),a2,a3,(IntKind.wrap .i64 (a4+1)),()))
 |false=>some (.inr (.inl (a0,a1,())))
def ZR[Lk]:Uc→Option (Ut):=fun(a0,_)=>
 match(B8 (AJ a0)&&B8 (AJ a0)&&ile (AJ a0) (AJ a0)&&true)with
 |true=>match AQ AL1 many ((DV (AE (AJ a0)) (0:Int)),(0:Int),a0,(AJ a0),(0:Int),())with|none=>none|some r=>match r with
  |.inl (o0,o1,_)=>some (o0,o1,())
  |.inr _=>none
 |false=>none
def PO[Lk]:=fun v=>Lk.f (ZR v)
theorem AL4 v:PO v=ZR v:=AD _
abbrev Sq:AB:=[(.tmp 0,.dat Va),(.tmp 1,.di),(.tmp 2,.dat Uo),(.tmp 3,.clo 320 [])]
abbrev JV:AB:=[(.tmp 0,.own 195 Uj),(.tmp 1,.dat Uj),(.tmp 2,.di),(.tmp 3,.di)]
abbrev AEZ:AB:=[(.tmp 0,.dat Va),(.tmp 1,.di),(.tmp 3,.clo 320 []),(.tmp 8,.own 195 Uj),(.tmp 9,.dat Uj),(.tmp 10,.di),(.tmp 17,.own 195 Uj),(.tmp 19,.di),(.tmp 76,.own 3 U0),(.tmp 77,.di),(.tmp 78,.di),(.tmp 91,.own 195 Uj),(.tmp 92,.di),(.tmp 93,.di)]
abbrev AEW:AT:=[(.exit 4,[(.tmp 0,.dat Va),(.tmp 1,.di),(.tmp 3,.clo 320 []),(.tmp 8,.own 195 Uj),(.tmp 9,.dat Uj),(.tmp 10,.di),(.tmp 17,.own 195 Uj),(.tmp 76,.own 3 U0),(.tmp 77,.di),(.tmp 78,.di)])]
def AET[Lk]:(List Int×Int×List Int×Int×Int×List Int×Int×List Int×Int×Int×List Int×Int×Int×Unit)→Option ((List Int×Int×List Int×Int×Int×List Int×Int×List Int×Int×Int×List Int×Int×Int×Unit)⊕Vj⊕Unit):=fun(a0,a1,a2,a3,a4,a5,a6,a7,a8,a9,a10,a11,a12,_)=>
 match(ilt a12 a11)with
 |true=>match idx a10 a12 with|none=>none|some x0=>match idx a5 a6 with|none=>none|some x1=>match idx a2 (IntKind.wrap .i64 ((IntKind.wrap .i64 (a6*a1))+a12))with|none=>none|some x2=>some (.inl (a0,a1,(AX a2 (AE (IntKind.wrap .i64 ((IntKind.wrap .i64 (a6*a1))+a12))) (IntKind.wrap .u32 ((AI a5 (AE a6) 0)+(AI a10 (AE a12) 0)))),a3,a4,a5,a6,a7,a8,a9,a10,a11,(IntKind.wrap .i64 (a12+1)),()))
 |false=>some (.inr (.inl (a0,a1,a2,a3,a4,a5,a7,a8,a9,())))
abbrev AEa:AB:=[(.tmp 0,.dat Va),(.tmp 1,.di),(.tmp 3,.clo 320 []),(.tmp 8,.own 195 Uj),(.tmp 9,.dat Uj),(.tmp 10,.di),(.tmp 17,.own 195 Uj),(.tmp 76,.own 3 U0),(.tmp 77,.di),(.tmp 78,.di)]
abbrev AEX:AT:=[(.exit 2,[(.tmp 8,.own 195 Uj),(.tmp 9,.dat Uj),(.tmp 10,.di)])]
def AEU[Lk]:Vj→Option (Vj⊕Ud⊕Unit):=fun(a0,a1,a2,a3,a4,a5,a6,a7,a8,_)=>
 match(ilt a8 a7)with
 |true=>match idx a6 a8 with|none=>none|some x0=>match AIZ (a0,(AI a6 (AE a8) 0),a1,())with|none=>none|some (y1,_)=>match PO (y1,())with|none=>none|some (y2,y3,_)=>match AQ AET many (a0,a1,a2,a3,a4,a5,(AI a6 (AE a8) 0),a6,a7,a8,y2,(AJ y2),0,())with|none=>none|some r=>match r with
  |.inl (o4,o5,o6,o7,o8,o9,o10,o11,o12,_)=>some (.inl (o4,o5,o6,o7,o8,o9,o10,o11,(IntKind.wrap .i64 (o12+1)),()))
  |.inr _=>none
 |false=>some (.inr (.inl (a2,a3,a4,())))
abbrev AEb:AB:=[(.tmp 0,.dat Va),(.tmp 1,.di),(.tmp 3,.clo 320 []),(.tmp 10,.di),(.tmp 13,.own 3 U0),(.tmp 14,.own 195 Uj),(.tmp 48,.own' 0),(.tmp 49,.di),(.tmp 50,.di)]
abbrev AEY:AT:=[(.exit 0,[(.tmp 0,.dat Va),(.tmp 1,.di),(.tmp 3,.clo 320 []),(.tmp 10,.di),(.tmp 13,.own 3 U0),(.tmp 14,.own 195 Uj)])]
def AEV[Lk]:(List Int×Int×Int×List Int×List Int×Int×Int×Unit)→Option ((List Int×Int×Int×List Int×List Int×Int×Int×Unit)⊕(List Int×Int×Int×List Int×List Int×Unit)⊕Unit):=fun(a0,a1,a2,a3,a4,a5,a6,_)=>
 match(ilt a6 a5)with
 |true=>match idx a3 a6 with|none=>none|some x0=>match AIZ (a0,(AI a3 (AE a6) 0),a1,())with|none=>none|some (y1,_)=>match PO (y1,())with|none=>none|some (y2,y3,_)=>match idx a4 (AI a3 (AE a6) 0)with|none=>none|some x4=>some (.inl (a0,a1,a2,a3,(AX a4 (AE (AI a3 (AE a6) 0)) y3),a5,(IntKind.wrap .i64 (a6+1)),()))
 |false=>some (.inr (.inl (a0,a1,a2,a3,a4,())))
def Sr[Lk]:(List Int×Int×Uv×Unit)→Option (U8):=fun(a0,a1,a2,_)=>
 match Vw (a1,())with|none=>none|some (y0,_)=>match(!y0)with
 |true=>some (([]:List (Int)),0,0,1,())
 |false=>match(ilt 1000 (AJ a0))with
 |true=>some (([]:List (Int)),0,0,1,())
 |false=>match WG ((AJ a0),a1,())with|none=>none|some (y1,_)=>match W4 (y1,(a2.1,(a2.2.1,(a2.2.2.1,()))),())with|none=>none|some (y2,y3,y4,_)=>match(!(ieq y4 0))with
 |true=>some (([]:List (Int)),0,0,y4,())
 |false=>match(B8 y1&&B8 y1&&ile y1 y1&&true)with
 |true=>match AQ AEV many (a0,a1,y3,y2,(DV (AE y1) (0:Int)),(AJ y2),(0:Int),())with|none=>none|some r=>match r with
  |.inl (o5,o6,o7,o8,o9,_)=>match PO (o9,())with|none=>none|some (y10,y11,_)=>match(B8 (AJ o5)&&B8 (AJ o5)&&ile (AJ o5) (AJ o5)&&true)with
   |true=>match AQ AEU many (o5,o6,(DV (AE (AJ o5)) (0:Int)),y11,o7,y10,o8,(AJ o8),(0:Int),())with|none=>none|some r=>match r with
    |.inl (o12,o13,o14,_)=>some (o12,o13,(IntKind.wrap .i64 (2*o14)),0,())
    |.inr _=>none
   |false=>none
  |.inr _=>none
 |false=>none
def Vx[Lk]:=fun v=>Lk.f (Sr v)
theorem AEc v:Vx v=Sr v:=AD _
abbrev OV:AB:=[(.tmp 0,.dat Va),(.tmp 1,.di),(.tmp 2,.dat Uo)]
def AIV[Lk]:(List Int×Int×Uv×Unit)→Option (U8):=fun(a0,a1,a2,_)=>
 match Vx (a0,a1,(a2.1,(a2.2.1,(a2.2.2.1,()))),())with|none=>none|some (y0,y1,y2,y3,_)=>some (y0,y1,y2,y3,())
def AIW[Lk]:=fun v=>Lk.f (AIV v)
theorem AQK v:AIW v=AIV v:=AD _
abbrev Zj:AB:=[(.tmp 0,.dat Uy),(.tmp 1,.dat .bool)]
abbrev Zi:AB:=[(.tmp 0,.own 195 Uj)]
abbrev AMJ:AB:=[(.tmp 1,.dat .bool),(.tmp 5,.own 195 Uj),(.tmp 11,.dat Uy),(.tmp 12,.di),(.tmp 13,.di)]
abbrev AMI:AT:=[(.exit 0,[(.tmp 5,.own 195 Uj)])]
def AMH[Lk]:(Bool×List Int×List Bool×Int×Int×Unit)→Option ((Bool×List Int×List Bool×Int×Int×Unit)⊕Uc⊕Unit):=fun(a0,a1,a2,a3,a4,_)=>
 match(ilt a4 a3)with
 |true=>match idx a2 a4 with|none=>none|some x0=>match(!(x0==a0))with
  |true=>match idx a1 a4 with|none=>none|some x1=>some (.inl (a0,(AX a1 (AE a4) 1),a2,a3,(IntKind.wrap .i64 (a4+1)),()))
  |false=>some (.inl (a0,a1,a2,a3,(IntKind.wrap .i64 (a4+1)),()))
 |false=>some (.inr (.inl (a1,())))
def Zk[Lk]:(List Bool×Bool×Unit)→Option (Uc):=fun(a0,a1,_)=>
 match(B8 (AJ a0)&&B8 (AJ a0)&&ile (AJ a0) (AJ a0)&&true)with
 |true=>match AQ AMH many (a1,(DV (AE (AJ a0)) (0:Int)),a0,(AJ a0),(0:Int),())with|none=>none|some r=>match r with
  |.inl (o0,_)=>some (o0,())
  |.inr _=>none
 |false=>none
def AE3[Lk]:=fun v=>Lk.f (Zk v)
theorem AMK v:AE3 v=Zk v:=AD _
abbrev AE1:AB:=[(.tmp 0,.dat Va),(.tmp 9,.own 195 Uj),(.tmp 11,.di),(.tmp 14,.di),(.tmp 15,.own 3 U0),(.tmp 43,.own 3 U0),(.tmp 44,.di),(.tmp 45,.di)]
abbrev AE0:AT:=[(.exit 0,[(.tmp 11,.di),(.tmp 14,.di),(.tmp 15,.own 3 U0)])]
def AEz[Lk]:V7→Option (V7⊕(Int×Int×List Int×Unit)⊕Unit):=fun(a0,a1,a2,a3,a4,a5,a6,a7,_)=>
 match(ilt a7 a6)with
 |true=>match idx a5 a7 with|none=>none|some x0=>match idx a0 (AI a5 (AE a7) 0)with|none=>none|some x1=>match(ieq x1 1)with
  |true=>match idx a1 (AI a5 (AE a7) 0)with|none=>none|some x2=>match idx a4 (AI a1 (AE (AI a5 (AE a7) 0)) 0)with|none=>none|some x3=>some (.inl (a0,a1,a2,a3,(AX a4 (AE (AI a1 (AE (AI a5 (AE a7) 0)) 0)) (AI a5 (AE a7) 0)),a5,a6,(IntKind.wrap .i64 (a7+1)),()))
  |false=>some (.inl (a0,a1,a2,a3,a4,a5,a6,(IntKind.wrap .i64 (a7+1)),()))
 |false=>some (.inr (.inl (a2,a3,a4,())))
def S2[Lk]:(List Int×Int×Uv×Unit)→Option (Ud):=fun(a0,a1,a2,_)=>
 match AIW (a0,a1,(a2.1,(a2.2.1,(a2.2.2.1,()))),())with|none=>none|some (y0,y1,y2,y3,_)=>match(!(ieq y3 0))with
 |true=>some (([]:List (Int)),0,y3,())
 |false=>match W4 ((AJ a0),(a2.1,(a2.2.1,(a2.2.2.1,()))),())with|none=>none|some (y4,y5,y6,_)=>match(!(ieq y6 0))with
 |true=>some (([]:List (Int)),0,y6,())
 |false=>match(B8 y1&&B8 y1&&ile y1 y1&&true)with
 |true=>match AQ AEz many (a0,y0,y2,y5,(DV (AE y1) (0:Int)),y4,(AJ y4),(0:Int),())with|none=>none|some r=>match r with
  |.inl (o7,o8,o9,_)=>some (o9,(IntKind.wrap .i64 (o7+o8)),0,())
  |.inr _=>none
 |false=>none
def WO[Lk]:=fun v=>Lk.f (S2 v)
theorem AE2 v:WO v=S2 v:=AD _
abbrev Zd:AB:=[(.tmp 0,.dat Uy),(.tmp 1,.di),(.tmp 2,.dat Uo)]
def Ze[Lk]:(List Bool×Int×Uv×Unit)→Option (Ud):=fun(a0,a1,a2,_)=>
 match AE3 (a0,false,())with|none=>none|some (y0,_)=>match WO (y0,a1,(a2.1,(a2.2.1,(a2.2.2.1,()))),())with|none=>none|some (y1,y2,y3,_)=>some (y1,y2,y3,())
def AEw[Lk]:=fun v=>Lk.f (Ze v)
theorem AMF v:AEw v=Ze v:=AD _
abbrev AIi:AB:=[(.tmp 0,.dat Va),(.tmp 1,.di),(.tmp 2,.di),(.tmp 3,.dat Uo)]
abbrev AQ2:AB:=[(.tmp 0,.dat Va),(.tmp 1,.di),(.tmp 11,.di),(.tmp 14,.di),(.tmp 16,.own 3 U0),(.tmp 45,.di),(.tmp 46,.di)]
abbrev AQ0:AT:=[(.exit 2,[(.tmp 11,.di),(.tmp 14,.di),(.tmp 16,.own 3 U0)])]
def AQy[Lk]:Vg→Option (Vg⊕(Int×Int×List Int×Unit)⊕Unit):=fun(a0,a1,a2,a3,a4,a5,a6,_)=>
 match(ilt a6 a5)with
 |true=>match rby (a0,a4,a6,a1,())with|none=>none|some (y0,_)=>some (.inl (a0,a1,a2,a3,y0,a5,(IntKind.wrap .i64 (a6+1)),()))
 |false=>some (.inr (.inl (a2,a3,a4,())))
abbrev AQ3:AB:=[(.tmp 0,.dat Va),(.tmp 1,.di),(.tmp 11,.di),(.tmp 14,.di),(.tmp 16,.own 3 U0),(.tmp 36,.di),(.tmp 37,.di)]
abbrev AQ1:AT:=[(.exit 0,[(.tmp 0,.dat Va),(.tmp 1,.di),(.tmp 11,.di),(.tmp 14,.di),(.tmp 16,.own 3 U0)])]
def AQz[Lk]:Vg→Option (Vg⊕(List Int×Int×Int×Int×List Int×Unit)⊕Unit):=fun(a0,a1,a2,a3,a4,a5,a6,_)=>
 match(ilt a6 a5)with
 |true=>match(fits ((AJ a4)+(AJ ([a6]:List (Int)))))with
  |true=>some (.inl (a0,a1,a2,a3,(BE a4 ([a6]:List (Int))),a5,(IntKind.wrap .i64 (a6+1)),()))
  |false=>none
 |false=>some (.inr (.inl (a0,a1,a2,a3,a4,())))
def AIj[Lk]:(List Int×Int×Int×Uv×Unit)→Option (Ud):=fun(a0,a1,a2,a3,_)=>
 match OZ (a1,())with|none=>none|some (y0,_)=>match(ieq y0 0)with
 |true=>some (([]:List (Int)),0,1,())
 |false=>match AIW (a0,a2,(a3.1,(a3.2.1,(a3.2.2.1,()))),())with|none=>none|some (y1,y2,y3,y4,_)=>match(!(ieq y4 0))with
 |true=>some (([]:List (Int)),0,y4,())
 |false=>match AQ AQz many (a0,a1,y0,y3,([]:List (Int)),(AJ a0),0,())with|none=>none|some r=>match r with
 |.inl (o5,o6,o7,o8,o9,_)=>match AQ AQy many (o5,o6,o7,o8,o9,o7,0,())with|none=>none|some r=>match r with
  |.inl (o10,o11,o12,_)=>some (o12,(IntKind.wrap .i64 (o11*o10)),0,())
  |.inr _=>none
 |.inr _=>none
def AQ5[Lk]:=fun v=>Lk.f (AIj v)
theorem AQ4 v:AQ5 v=AIj v:=AD _
abbrev Sy:AB:=[(.tmp 0,.dat Va),(.tmp 1,.dat U7)]
abbrev Sx:AB:=[(.tmp 0,.own 195 Uj),(.tmp 1,.dat .bool)]
abbrev AEm:AB:=[(.tmp 0,.dat Va),(.tmp 6,.own 195 Uj),(.tmp 14,.dat U7),(.tmp 15,.di),(.tmp 16,.di)]
abbrev AEl:AT:=[(.exit 0,[(.tmp 6,.own 195 Uj)])]
def AEk[Lk]:Vm→Option (Vm⊕Uc⊕Unit):=fun(a0,a1,a2,a3,a4,_)=>
 match(ilt a4 a3)with
 |true=>match idx a2 a4 with|none=>none|some x0=>match idx a0 x0 with|none=>none|some x1=>match(fits ((AJ a1)+(AJ ([x1]:List (Int)))))with
  |true=>some (.inl (a0,(BE a1 ([x1]:List (Int))),a2,a3,(IntKind.wrap .i64 (a4+1)),()))
  |false=>none
 |false=>some (.inr (.inl (a1,())))
def Sz[Lk]:(List Int×List Int×Unit)→Option (Vl):=fun(a0,a1,_)=>
 match ARC (a1,(AJ a0),())with|none=>none|some (y0,_)=>match(!y0)with
 |true=>some (([]:List (Int)),false,())
 |false=>match AQ AEk many (a0,([]:List (Int)),a1,(AJ a1),0,())with|none=>none|some r=>match r with
 |.inl (o1,_)=>some (o1,true,())
 |.inr _=>none
def WJ[Lk]:=fun v=>Lk.f (Sz v)
theorem AEn v:WJ v=Sz v:=AD _
abbrev Jl:AB:=[(.tmp 0,.dat Va),(.tmp 1,.dat (.prod U0 (.prod U0 (.prod Uo .unit))))]
abbrev Tk:AB:=[(.tmp 0,.own 195 Uj),(.tmp 1,.own 3 U0),(.tmp 2,.di),(.tmp 3,.di)]
abbrev AGh:AB:=[(.tmp 9,.di),(.tmp 11,.own 195 Uj),(.tmp 13,.own 3 U0),(.tmp 14,.di),(.tmp 15,.own 195 Uj),(.tmp 16,.own 3 U0),(.tmp 55,.own' 1),(.tmp 56,.di),(.tmp 57,.di)]
abbrev AGg:AT:=[(.exit 0,[(.tmp 9,.di),(.tmp 14,.di),(.tmp 15,.own 195 Uj),(.tmp 16,.own 3 U0)])]
def AGf[Lk]:(Int×List Int×List Int×Int×List Int×List Int×Int×Int×Unit)→Option ((Int×List Int×List Int×Int×List Int×List Int×Int×Int×Unit)⊕(Int×Int×List Int×List Int×Unit)⊕Unit):=fun(a0,a1,a2,a3,a4,a5,a6,a7,_)=>
 match(ilt a7 a6)with
 |true=>match idx a2 a7 with|none=>none|some x0=>match(ilt (IntKind.wrap .i64 (a7+1)) (AJ a2))with
  |true=>match idx a2 (IntKind.wrap .i64 (a7+1))with|none=>none|some x1=>match idx a1 (AI a2 (AE a7) 0)with|none=>none|some x2=>match(fits ((AJ a4)+(AJ ([(AI a1 (AE (AI a2 (AE a7) 0)) 0)]:List (Int)))))with
   |true=>match(fits ((AJ a5)+(AJ ([(IntKind.wrap .i64 ((AI a2 (AE (IntKind.wrap .i64 (a7+1))) 0)-(AI a2 (AE a7) 0)))]:List (Int)))))with
    |true=>some (.inl (a0,a1,a2,a3,(BE a4 ([(AI a1 (AE (AI a2 (AE a7) 0)) 0)]:List (Int))),(BE a5 ([(IntKind.wrap .i64 ((AI a2 (AE (IntKind.wrap .i64 (a7+1))) 0)-(AI a2 (AE a7) 0)))]:List (Int))),a6,(IntKind.wrap .i64 (a7+1)),()))
    |false=>none
   |false=>none
  |false=>match idx a1 (AI a2 (AE a7) 0)with|none=>none|some x3=>match(fits ((AJ a4)+(AJ ([(AI a1 (AE (AI a2 (AE a7) 0)) 0)]:List (Int)))))with
  |true=>match(fits ((AJ a5)+(AJ ([(IntKind.wrap .i64 ((AJ a1)-(AI a2 (AE a7) 0)))]:List (Int)))))with
   |true=>some (.inl (a0,a1,a2,a3,(BE a4 ([(AI a1 (AE (AI a2 (AE a7) 0)) 0)]:List (Int))),(BE a5 ([(IntKind.wrap .i64 ((AJ a1)-(AI a2 (AE a7) 0)))]:List (Int))),a6,(IntKind.wrap .i64 (a7+1)),()))
   |false=>none
  |false=>none
 |false=>some (.inr (.inl (a0,a3,a4,a5,())))
def Tl[Lk]:(List Int×(Int×Int×Uv×Unit)×Unit)→Option ((List Int×List Int×Int×Int×Unit)):=fun(a0,a1,_)=>
 match AQ5 (a0,a1.1,a1.2.1,(a1.2.2.1.1,(a1.2.2.1.2.1,(a1.2.2.1.2.2.1,()))),())with|none=>none|some (y0,y1,y2,_)=>match(!(ieq y2 0))with
 |true=>some (([]:List (Int)),([]:List (Int)),0,y2,())
 |false=>match WJ (a0,y0,())with|none=>none|some (y3,y4,_)=>match XH (y3,())with|none=>none|some (y5,_)=>match AEw (y5,a1.2.1,(a1.2.2.1.1,(a1.2.2.1.2.1,(a1.2.2.1.2.2.1,()))),())with|none=>none|some (y6,y7,y8,_)=>match(!(ieq y8 0))with
 |true=>some (([]:List (Int)),([]:List (Int)),0,y8,())
 |false=>match AQ AGf many (y1,y3,y6,y7,([]:List (Int)),([]:List (Int)),(AJ y6),0,())with|none=>none|some r=>match r with
 |.inl (o9,o10,o11,o12,_)=>some (o11,o12,(IntKind.wrap .i64 (o9+o10)),0,())
 |.inr _=>none
def XG[Lk]:=fun v=>Lk.f (Tl v)
theorem AGi v:XG v=Tl v:=AD _
abbrev AJo:AB:=[(.tmp 0,.own 195 Uj),(.tmp 1,.di),(.tmp 2,.di)]
def AJp[Lk]:(List Int×(Int×Int×Uv×Unit)×Unit)→Option (Ud):=fun(a0,a1,_)=>
 match XG (a0,(a1.1,(a1.2.1,((a1.2.2.1.1,(a1.2.2.1.2.1,(a1.2.2.1.2.2.1,()))),()))),())with|none=>none|some (y0,y1,y2,y3,_)=>some (y0,y2,y3,())
def AT1[Lk]:=fun v=>Lk.f (AJp v)
theorem AT0 v:AT1 v=AJp v:=AD _
abbrev ABU:AB:=[(.tmp 0,.dat V8),(.tmp 1,.dat (.prod U0 (.prod U0 (.prod Uo .unit))))]
abbrev ABT:AB:=[(.tmp 0,.own 63 U3),(.tmp 1,.di),(.tmp 2,.di)]
abbrev AN7:AB:=[(.tmp 13,.di),(.tmp 14,.di),(.tmp 15,.own 63 U3),(.tmp 48,.own 195 Uj),(.tmp 49,.di),(.tmp 50,.di)]
abbrev AN5:AT:=[(.exit 2,[(.tmp 13,.di),(.tmp 14,.di),(.tmp 15,.own 63 U3)])]
def AN3[Lk]:(Int×Int×List U4×List Int×Int×Int×Unit)→Option ((Int×Int×List U4×List Int×Int×Int×Unit)⊕(Int×Int×List U4×Unit)⊕Unit):=fun(a0,a1,a2,a3,a4,a5,_)=>
 match(ilt a5 a4)with
 |true=>match idx a3 a5 with|none=>none|some x0=>match AT7 ((AI a3 (AE a5) 0),())with|none=>none|some (y1,_)=>match(fits ((AJ a2)+(AJ ([y1]:List U4))))with
  |true=>some (.inl (a0,a1,(BE a2 ([y1]:List U4)),a3,a4,(IntKind.wrap .i64 (a5+1)),()))
  |false=>none
 |false=>some (.inr (.inl (a0,a1,a2,())))
abbrev AN8:AB:=[(.tmp 3,.box 5),(.cell 0 0,.di),(.cell 0 1,.di),(.cell 0 2,.di),(.cell 0 3,.di),(.cell 0 4,.dat (.slice (.arr 2 U0))),(.tmp 7,.own 195 Uj),(.tmp 18,.dat V8),(.tmp 19,.di),(.tmp 20,.di)]
abbrev AN6:AT:=[(.ret,[(.tmp 4,.nil U3),(.tmp 5,.di),(.tmp 6,.di)]),(.exit 0,[(.tmp 3,.box 5),(.cell 0 0,.di),(.cell 0 1,.di),(.cell 0 2,.di),(.cell 0 3,.di),(.cell 0 4,.dat (.slice (.arr 2 U0))),(.tmp 7,.own 195 Uj)])]
def AN4[Lk]:(Int×Int×Int×Int×List U6×List Int×List U4×Int×Int×Unit)→Option ((Int×Int×Int×Int×List U6×List Int×List U4×Int×Int×Unit)⊕U4⊕(Int×Int×Int×Int×List U6×List Int×Unit)⊕Unit):=fun(a0,a1,a2,a3,a4,a5,a6,a7,a8,_)=>
 match(ilt a8 a7)with
 |true=>match idx a6 a8 with|none=>none|some x0=>match Aaq ((x0.1,(x0.2.1,())),())with|none=>none|some (y1,y2,_)=>match(!y2)with
  |true=>some (.inr (.inl (0,10,())))
  |false=>match(!(ieq x0.1 x0.2.1))with
  |true=>match(fits ((AJ a5)+(AJ ([y1]:List (Int)))))with
   |true=>some (.inl (a0,a1,a2,a3,a4,(BE a5 ([y1]:List (Int))),a6,a7,(IntKind.wrap .i64 (a8+1)),()))
   |false=>none
  |false=>some (.inl (a0,a1,a2,a3,a4,a5,a6,a7,(IntKind.wrap .i64 (a8+1)),()))
 |false=>some (.inr (.inr (.inl (a0,a1,a2,a3,a4,a5,()))))
def ABV[Lk]:(List U4×(Int×Int×Uv×Unit)×Unit)→Option (Ug):=fun(a0,a1,_)=>
 match AQ AN4 many (a1.1,a1.2.1,a1.2.2.1.1,a1.2.2.1.2.1,a1.2.2.1.2.2.1,([]:List (Int)),a0,(AJ a0),0,())with|none=>none|some r=>match r with
 |.inl (o0,o1,_)=>some (([]:List U4),o0,o1,())
 |.inr r=>match r with
 |.inl (o2,o3,o4,o5,o6,o7,_)=>match AT1 (o7,(o2,(o3,((o4,(o5,(o6,()))),()))),())with|none=>none|some (y8,y9,y10,_)=>match AQ AN3 many (y9,y10,([]:List U4),y8,(AJ y8),0,())with|none=>none|some r=>match r with
  |.inl (o11,o12,o13,_)=>some (o13,o11,o12,())
  |.inr _=>none
 |.inr _=>none
def AGn[Lk]:=fun v=>Lk.f (ABV v)
theorem AN9 v:AGn v=ABV v:=AD _
abbrev Fc:AB:=[(.tmp 0,.dat U7),(.cap 1 0,.box 2),(.cell 0 0,.di),(.cell 0 1,.dat Us),(.tmp 1,.clo 102 [(0,0)])]
abbrev LZ:AB:=[(.obj 0,.box 2),(.cell 0 0,.di),(.cell 0 1,.dat Us),(.tmp 0,.di)]
abbrev Rf:AB:=[(.obj 0,.box 2),(.cell 0 0,.di),(.cell 0 1,.dat Us),(.tmp 0,.dat U7),(.tmp 1,.clo 102 [(0,0)]),(.tmp 7,.di),(.tmp 8,.di)]
abbrev Re:AT:=[(.ret,[(.obj 0,.box 2),(.cell 0 0,.di),(.cell 0 1,.dat Us),(.tmp 4,.di)]),(.exit 0,[(.obj 0,.box 2),(.cell 0 0,.di),(.cell 0 1,.dat Us)])]
def Rd[Lk]:(Int×List U1×List Int×Int×Int×Unit)→Option ((Int×List U1×List Int×Int×Int×Unit)⊕(Int×List U1×Int×Unit)⊕(Int×List U1×Unit)⊕Unit):=fun(a0,a1,a2,a3,a4,_)=>
 match(ilt a4 a3)with
 |true=>match idx a2 a4 with|none=>none|some x0=>match(ile a0 x0)with
  |true=>some (.inr (.inl (a0,a1,a4,())))
  |false=>some (.inl (a0,a1,a2,a3,(IntKind.wrap .i64 (a4+1)),()))
 |false=>some (.inr (.inr (.inl (a0,a1,()))))
def La[Lk]:(List Int×Int×List U1×Unit)→Option ((Int×List U1×Int×Unit)):=fun(a0,a1,a2,_)=>
 match AQ Rd many (a1,a2,a0,(AJ a0),0,())with|none=>none|some r=>match r with
 |.inl (o0,o1,o2,_)=>some (o0,o1,o2,())
 |.inr r=>match r with
 |.inl (o3,o4,_)=>some (o3,o4,(-1:Int),())
 |.inr _=>none
def Kb[Lk]:=fun v=>Lk.f (La v)
theorem Rg v:Kb v=La v:=AD _
abbrev HA:AB:=[(.tmp 0,.di),(.tmp 1,.dat V8)]
abbrev ALs:AB:=[(.tmp 0,.di),(.tmp 13,.dat V8),(.tmp 14,.di),(.tmp 15,.di)]
def ALr[Lk]:(Int×List U4×Int×Int×Unit)→Option ((Int×List U4×Int×Int×Unit)⊕Ua⊕(Unit)⊕Unit):=fun(a0,a1,a2,a3,_)=>
 match(ilt a3 a2)with
 |true=>match idx a1 a3 with|none=>none|some x0=>match(ilt (EN x0.1 x0.2.1) 0)with
  |true=>some (.inr (.inl (10,())))
  |false=>match(ile a0 (imax x0.1 x0.2.1))with
  |true=>some (.inr (.inl (10,())))
  |false=>some (.inl (a0,a1,a2,(IntKind.wrap .i64 (a3+1)),()))
 |false=>some (.inr (.inr (.inl ())))
def ZG[Lk]:(Int×List U4×Unit)→Option (Ua):=fun(a0,a1,_)=>
 match(ilt a0 1)with
 |true=>some (1,())
 |false=>match(ilt 64 a0)with
 |true=>some (1,())
 |false=>match AQ ALr many (a0,a1,(AJ a1),0,())with|none=>none|some r=>match r with
 |.inl (o0,_)=>some (o0,())
 |.inr r=>match r with
 |.inl _=>some (0,())
 |.inr _=>none
def WH[Lk]:=fun v=>Lk.f (ZG v)
theorem ALt v:WH v=ZG v:=AD _
abbrev ALz:AB:=[(.tmp 3,.own 3 U0),(.tmp 8,.di),(.tmp 9,.di)]
def ALy[Lk]:Ud→Option (Ud⊕Uc⊕Unit):=fun(a0,a1,a2,_)=>
 match(ilt a2 a1)with
 |true=>match idx a0 a2 with|none=>none|some x0=>some (.inl ((AX a0 (AE a2) a2),a1,(IntKind.wrap .i64 (a2+1)),()))
 |false=>some (.inr (.inl (a0,())))
def ZO[Lk]:Ua→Option (Uc):=fun(a0,_)=>
 match(B8 a0&&B8 a0&&ile a0 a0&&true)with
 |true=>match AQ ALy many ((DV (AE a0) (0:Int)),(AJ (DV (AE a0) (0:Int))),(0:Int),())with|none=>none|some r=>match r with
  |.inl (o0,_)=>some (o0,())
  |.inr _=>none
 |false=>none
def WI[Lk]:=fun v=>Lk.f (ZO v)
theorem AL0 v:WI v=ZO v:=AD _
abbrev DX:AB:=[(.tmp 0,.own 3 U0),(.tmp 1,.di)]
abbrev Kz:AB:=[(.obj 0,.own 3 U0),(.tmp 0,.di)]
abbrev ALl:AB:=[(.obj 0,.own 3 U0),(.tmp 0,.own' 0),(.tmp 1,.di)]
abbrev ALk:AT:=[(.exit 0,[(.obj 0,.own 3 U0),(.tmp 1,.di)])]
def ALj[Lk]:Ut→Option (Ut⊕Ut⊕Unit):=fun(a0,a1,_)=>
 match idx a0 a1 with|none=>none|some x0=>match(!(ieq (AI a0 (AE a1) 0) a1))with
 |true=>match idx a0 a1 with|none=>none|some x1=>match idx a0 (AI a0 (AE a1) 0)with|none=>none|some x2=>match idx a0 a1 with|none=>none|some x3=>match idx (AX a0 (AE a1) (AI a0 (AE (AI a0 (AE a1) 0)) 0)) a1 with|none=>none|some x4=>some (.inl ((AX a0 (AE a1) (AI a0 (AE (AI a0 (AE a1) 0)) 0)),(AI (AX a0 (AE a1) (AI a0 (AE (AI a0 (AE a1) 0)) 0)) (AE a1) 0),()))
 |false=>some (.inr (.inl (a0,a1,())))
def Y5[Lk]:Ut→Option (Ut):=fun(a0,a1,_)=>
 match AQ ALj many (a0,a1,())with|none=>none|some r=>match r with
 |.inl (o0,o1,_)=>some (o0,o1,())
 |.inr _=>none
def PI[Lk]:=fun v=>Lk.f (Y5 v)
theorem ALm v:PI v=Y5 v:=AD _
abbrev OX:AB:=[(.obj 0,.own 3 U0),(.tmp 0,.dat .bool)]
def AIe[Lk]:Ud→Option (Vl):=fun(a0,a1,a2,_)=>
 match PI (a0,a1,())with|none=>none|some (y0,y1,_)=>match PI (y0,a2,())with|none=>none|some (y2,y3,_)=>match idx y2 (imax y1 y3)with|none=>none|some x4=>some ((AX y2 (AE (imax y1 y3)) (EN y1 y3)),(!(ieq y1 y3)),())
def AQc[Lk]:=fun v=>Lk.f (AIe v)
theorem AQb v:AQc v=AIe v:=AD _
abbrev QA:AB:=[(.tmp 0,.dat V8),(.cap 1 0,.own 3 U0),(.tmp 1,.bnd 203 0)]
abbrev IC:AB:=[(.obj 0,.own 3 U0),(.tmp 0,.own 4 .bool)]
abbrev ABO:AB:=[(.obj 0,.own 3 U0),(.tmp 1,.bnd 203 0),(.tmp 5,.own 4 .bool),(.tmp 8,.dat V8),(.tmp 9,.di),(.tmp 10,.di)]
abbrev ABN:AT:=[(.exit 0,[(.obj 0,.own 3 U0),(.tmp 5,.own 4 .bool)])]
def ABM[Lk]:(List Int×List Bool×List U4×Int×Int×Unit)→Option ((List Int×List Bool×List U4×Int×Int×Unit)⊕(List Int×List Bool×Unit)⊕Unit):=fun(a0,a1,a2,a3,a4,_)=>
 match(ilt a4 a3)with
 |true=>match idx a2 a4 with|none=>none|some x0=>match AQc (a0,x0.1,x0.2.1,())with|none=>none|some (y1,y2,_)=>match(fits ((AJ a1)+(AJ ([y2]:List (Bool)))))with
  |true=>some (.inl (y1,(BE a1 ([y2]:List (Bool))),a2,a3,(IntKind.wrap .i64 (a4+1)),()))
  |false=>none
 |false=>some (.inr (.inl (a0,a1,())))
def QB[Lk]:(List U4×List Int×Unit)→Option ((List Int×List Bool×Unit)):=fun(a0,a1,_)=>
 match AQ ABM many (a1,([]:List (Bool)),a0,(AJ a0),0,())with|none=>none|some r=>match r with
 |.inl (o0,o1,_)=>some (o0,o1,())
 |.inr _=>none
def QC[Lk]:=fun v=>Lk.f (QB v)
theorem ABP v:QC v=QB v:=AD _
abbrev Y6:AB:=[(.tmp 0,.own 3 U0),(.tmp 1,.dat V8)]
def Y7[Lk]:(List Int×List U4×Unit)→Option ((List Int×List Bool×Unit)):=fun(a0,a1,_)=>
 match QC (a1,a0,())with|none=>none|some (y0,y1,_)=>some (y0,y1,())
def Vy[Lk]:=fun v=>Lk.f (Y7 v)
theorem ALn v:Vy v=Y7 v:=AD _
abbrev ZE:AB:=[(.tmp 7,.own 3 U0),(.tmp 21,.di),(.tmp 22,.di)]
abbrev ZD:AT:=[(.exit 0,[(.tmp 7,.own 3 U0)])]
def ZC[Lk]:Ud→Option (Ud⊕Uc⊕Unit):=fun(a0,a1,a2,_)=>
 match(ilt a2 a1)with
 |true=>match PI (a0,a2,())with|none=>none|some (y0,y1,_)=>match idx y0 a2 with|none=>none|some x2=>some (.inl ((AX y0 (AE a2) y1),a1,(IntKind.wrap .i64 (a2+1)),()))
 |false=>some (.inr (.inl (a0,())))
def PJ[Lk]:(Int×List U4×Unit)→Option (Ut):=fun(a0,a1,_)=>
 match WH (a0,a1,())with|none=>none|some (y0,_)=>match(!(ieq y0 0))with
 |true=>some (([]:List (Int)),y0,())
 |false=>match WI (a0,())with|none=>none|some (y1,_)=>match Vy (y1,a1,())with|none=>none|some (y2,y3,_)=>match AQ ZC many (y2,(AJ y2),0,())with|none=>none|some r=>match r with
 |.inl (o4,_)=>some (o4,0,())
 |.inr _=>none
def PK[Lk]:=fun v=>Lk.f (PJ v)
theorem ZF v:PK v=PJ v:=AD _
def AJU[Lk]:U4→Option (Uk):=fun(a0,a1,_)=>
 match AMt (a0,())with|none=>none|some (y0,_)=>match y0 with
 |true=>match AMt (a1,())with|none=>none|some (y1,_)=>match(!y1)with
  |true=>some (true,())
  |false=>some ((ilt a0 a1),())
 |false=>some ((ilt a0 a1),())
def EO[Lk]:=fun v=>Lk.f (AJU v)
theorem ASo v:EO v=AJU v:=AD _
abbrev C4:AB:=[(.obj 0,.own 3 U0)]
abbrev AXi:AB:=[(.obj 0,.own 3 U0),(.tmp 0,.own' 0),(.tmp 1,.di),(.tmp 2,.di),(.tmp 6,.di),(.tmp 7,.di)]
abbrev AXh:AT:=[(.exit 2,[(.obj 0,.own 3 U0),(.tmp 0,.own' 0),(.tmp 1,.di),(.tmp 2,.di),(.tmp 6,.di)])]
def AXf[Lk]:Ul→Option (Ul⊕U8⊕Unit):=fun(a0,a1,a2,a3,a4,_)=>
 match(ilt a1 a4)with
 |true=>match idx a0 a4 with|none=>none|some x0=>match idx a0 (IntKind.wrap .i64 (a4-1))with|none=>none|some x1=>match EO ((AI a0 (AE a4) 0),(AI a0 (AE (IntKind.wrap .i64 (a4-1))) 0),())with|none=>none|some (y2,_)=>match y2 with
  |true=>match idx a0 (IntKind.wrap .i64 (a4-1))with|none=>none|some x3=>match idx a0 a4 with|none=>none|some x4=>match idx a0 a4 with|none=>none|some x5=>match idx (AX a0 (AE a4) (AI a0 (AE (IntKind.wrap .i64 (a4-1))) 0)) (IntKind.wrap .i64 (a4-1))with|none=>none|some x6=>some (.inl ((AX (AX a0 (AE a4) (AI a0 (AE (IntKind.wrap .i64 (a4-1))) 0)) (AE (IntKind.wrap .i64 (a4-1))) (AI a0 (AE a4) 0)),a1,a2,a3,(IntKind.wrap .i64 (a4-1)),()))
  |false=>some (.inr (.inl (a0,a1,a2,a3,())))
 |false=>some (.inr (.inl (a0,a1,a2,a3,())))
abbrev AXj:AB:=[(.obj 0,.own 3 U0),(.tmp 0,.own' 0),(.tmp 1,.di),(.tmp 2,.di),(.tmp 6,.di)]
abbrev Ws:AT:=[(.exit 0,[(.obj 0,.own 3 U0)])]
def AXg[Lk]:U8→Option (U8⊕Uc⊕Unit):=fun(a0,a1,a2,a3,_)=>
 match(ilt a3 a2)with
 |true=>match AQ AXf many (a0,a1,a2,a3,a3,())with|none=>none|some r=>match r with
  |.inl (o0,o1,o2,o3,_)=>some (.inl (o0,o1,o2,(IntKind.wrap .i64 (o3+1)),()))
  |.inr _=>none
 |false=>some (.inr (.inl (a0,())))
def AS2[Lk]:Ud→Option (Uc):=fun(a0,a1,a2,_)=>
 match AQ AXg many (a0,a1,a2,(IntKind.wrap .i64 (a1+1)),())with|none=>none|some r=>match r with
 |.inl (o0,_)=>some (o0,())
 |.inr _=>none
def Aaf[Lk]:=fun v=>Lk.f (AS2 v)
theorem AXk v:Aaf v=AS2 v:=AD _
abbrev D1:AB:=[(.tmp 0,.own 3 U0),(.tmp 1,.di),(.tmp 2,.di),(.tmp 3,.di)]
abbrev AQl:AB:=[(.obj 0,.own 3 U0),(.tmp 0,.own' 0),(.tmp 2,.di),(.tmp 3,.di),(.tmp 8,.di)]
abbrev AQk:AT:=[(.exit 0,[(.obj 0,.own 3 U0)]),(.ret,[(.obj 0,.own 3 U0)])]
def AQj[Lk]:U8→Option (U8⊕Uc⊕Uc⊕Unit):=fun(a0,a1,a2,a3,_)=>
 match(ile a1 (IntKind.wrap .i64 ((IntKind.wrap .i64 (2*a3))+1)))with
 |true=>some (.inr (.inl (a0,())))
 |false=>match(ilt (IntKind.wrap .i64 ((IntKind.wrap .i64 ((IntKind.wrap .i64 (2*a3))+1))+1)) a1)with
 |true=>match idx a0 (IntKind.wrap .i64 (a2+(IntKind.wrap .i64 ((IntKind.wrap .i64 (2*a3))+1))))with|none=>none|some x0=>match idx a0 (IntKind.wrap .i64 ((IntKind.wrap .i64 (a2+(IntKind.wrap .i64 ((IntKind.wrap .i64 (2*a3))+1))))+1))with|none=>none|some x1=>match EO ((AI a0 (AE (IntKind.wrap .i64 (a2+(IntKind.wrap .i64 ((IntKind.wrap .i64 (2*a3))+1))))) 0),(AI a0 (AE (IntKind.wrap .i64 ((IntKind.wrap .i64 (a2+(IntKind.wrap .i64 ((IntKind.wrap .i64 (2*a3))+1))))+1))) 0),())with|none=>none|some (y2,_)=>match y2 with
  |true=>match idx a0 (IntKind.wrap .i64 (a2+a3))with|none=>none|some x3=>match idx a0 (IntKind.wrap .i64 (a2+(IntKind.wrap .i64 ((IntKind.wrap .i64 ((IntKind.wrap .i64 (2*a3))+1))+1))))with|none=>none|some x4=>match EO ((AI a0 (AE (IntKind.wrap .i64 (a2+a3))) 0),(AI a0 (AE (IntKind.wrap .i64 (a2+(IntKind.wrap .i64 ((IntKind.wrap .i64 ((IntKind.wrap .i64 (2*a3))+1))+1))))) 0),())with|none=>none|some (y5,_)=>match(!y5)with
   |true=>some (.inr (.inr (.inl (a0,()))))
   |false=>match idx a0 (IntKind.wrap .i64 (a2+(IntKind.wrap .i64 ((IntKind.wrap .i64 ((IntKind.wrap .i64 (2*a3))+1))+1))))with|none=>none|some x6=>match idx a0 (IntKind.wrap .i64 (a2+a3))with|none=>none|some x7=>match idx a0 (IntKind.wrap .i64 (a2+a3))with|none=>none|some x8=>match idx (AX a0 (AE (IntKind.wrap .i64 (a2+a3))) (AI a0 (AE (IntKind.wrap .i64 (a2+(IntKind.wrap .i64 ((IntKind.wrap .i64 ((IntKind.wrap .i64 (2*a3))+1))+1))))) 0)) (IntKind.wrap .i64 (a2+(IntKind.wrap .i64 ((IntKind.wrap .i64 ((IntKind.wrap .i64 (2*a3))+1))+1))))with|none=>none|some x9=>some (.inl ((AX (AX a0 (AE (IntKind.wrap .i64 (a2+a3))) (AI a0 (AE (IntKind.wrap .i64 (a2+(IntKind.wrap .i64 ((IntKind.wrap .i64 ((IntKind.wrap .i64 (2*a3))+1))+1))))) 0)) (AE (IntKind.wrap .i64 (a2+(IntKind.wrap .i64 ((IntKind.wrap .i64 ((IntKind.wrap .i64 (2*a3))+1))+1))))) (AI a0 (AE (IntKind.wrap .i64 (a2+a3))) 0)),a1,a2,(IntKind.wrap .i64 ((IntKind.wrap .i64 ((IntKind.wrap .i64 (2*a3))+1))+1)),()))
  |false=>match idx a0 (IntKind.wrap .i64 (a2+a3))with|none=>none|some x10=>match idx a0 (IntKind.wrap .i64 (a2+(IntKind.wrap .i64 ((IntKind.wrap .i64 (2*a3))+1))))with|none=>none|some x11=>match EO ((AI a0 (AE (IntKind.wrap .i64 (a2+a3))) 0),(AI a0 (AE (IntKind.wrap .i64 (a2+(IntKind.wrap .i64 ((IntKind.wrap .i64 (2*a3))+1))))) 0),())with|none=>none|some (y12,_)=>match(!y12)with
  |true=>some (.inr (.inr (.inl (a0,()))))
  |false=>match idx a0 (IntKind.wrap .i64 (a2+(IntKind.wrap .i64 ((IntKind.wrap .i64 (2*a3))+1))))with|none=>none|some x13=>match idx a0 (IntKind.wrap .i64 (a2+a3))with|none=>none|some x14=>match idx a0 (IntKind.wrap .i64 (a2+a3))with|none=>none|some x15=>match idx (AX a0 (AE (IntKind.wrap .i64 (a2+a3))) (AI a0 (AE (IntKind.wrap .i64 (a2+(IntKind.wrap .i64 ((IntKind.wrap .i64 (2*a3))+1))))) 0)) (IntKind.wrap .i64 (a2+(IntKind.wrap .i64 ((IntKind.wrap .i64 (2*a3))+1))))with|none=>none|some x16=>some (.inl ((AX (AX a0 (AE (IntKind.wrap .i64 (a2+a3))) (AI a0 (AE (IntKind.wrap .i64 (a2+(IntKind.wrap .i64 ((IntKind.wrap .i64 (2*a3))+1))))) 0)) (AE (IntKind.wrap .i64 (a2+(IntKind.wrap .i64 ((IntKind.wrap .i64 (2*a3))+1))))) (AI a0 (AE (IntKind.wrap .i64 (a2+a3))) 0)),a1,a2,(IntKind.wrap .i64 ((IntKind.wrap .i64 (2*a3))+1)),()))
 |false=>match idx a0 (IntKind.wrap .i64 (a2+a3))with|none=>none|some x17=>match idx a0 (IntKind.wrap .i64 (a2+(IntKind.wrap .i64 ((IntKind.wrap .i64 (2*a3))+1))))with|none=>none|some x18=>match EO ((AI a0 (AE (IntKind.wrap .i64 (a2+a3))) 0),(AI a0 (AE (IntKind.wrap .i64 (a2+(IntKind.wrap .i64 ((IntKind.wrap .i64 (2*a3))+1))))) 0),())with|none=>none|some (y19,_)=>match(!y19)with
 |true=>some (.inr (.inr (.inl (a0,()))))
 |false=>match idx a0 (IntKind.wrap .i64 (a2+(IntKind.wrap .i64 ((IntKind.wrap .i64 (2*a3))+1))))with|none=>none|some x20=>match idx a0 (IntKind.wrap .i64 (a2+a3))with|none=>none|some x21=>match idx a0 (IntKind.wrap .i64 (a2+a3))with|none=>none|some x22=>match idx (AX a0 (AE (IntKind.wrap .i64 (a2+a3))) (AI a0 (AE (IntKind.wrap .i64 (a2+(IntKind.wrap .i64 ((IntKind.wrap .i64 (2*a3))+1))))) 0)) (IntKind.wrap .i64 (a2+(IntKind.wrap .i64 ((IntKind.wrap .i64 (2*a3))+1))))with|none=>none|some x23=>some (.inl ((AX (AX a0 (AE (IntKind.wrap .i64 (a2+a3))) (AI a0 (AE (IntKind.wrap .i64 (a2+(IntKind.wrap .i64 ((IntKind.wrap .i64 (2*a3))+1))))) 0)) (AE (IntKind.wrap .i64 (a2+(IntKind.wrap .i64 ((IntKind.wrap .i64 (2*a3))+1))))) (AI a0 (AE (IntKind.wrap .i64 (a2+a3))) 0)),a1,a2,(IntKind.wrap .i64 ((IntKind.wrap .i64 (2*a3))+1)),()))
def AIf[Lk]:U8→Option (Uc):=fun(a0,a1,a2,a3,_)=>
 match AQ AQj many (a0,a2,a3,a1,())with|none=>none|some r=>match r with
 |.inl (o0,_)=>some (o0,())
 |.inr r=>match r with
 |.inl (o1,_)=>some (o1,())
 |.inr _=>none
def AIg[Lk]:=fun v=>Lk.f (AIf v)
theorem AQm v:AIg v=AIf v:=AD _
abbrev ATL:AB:=[(.obj 0,.own 3 U0),(.tmp 0,.own' 0),(.tmp 6,.di),(.tmp 7,.di),(.tmp 10,.di)]
abbrev ATJ:AT:=[(.exit 2,[(.obj 0,.own 3 U0)])]
def ATH[Lk]:U8→Option (U8⊕Uc⊕Unit):=fun(a0,a1,a2,a3,_)=>
 match(ile 0 a3)with
 |true=>match idx a0 (IntKind.wrap .i64 (a1+a3))with|none=>none|some x0=>match idx a0 a1 with|none=>none|some x1=>match idx a0 a1 with|none=>none|some x2=>match idx (AX a0 (AE a1) (AI a0 (AE (IntKind.wrap .i64 (a1+a3))) 0)) (IntKind.wrap .i64 (a1+a3))with|none=>none|some x3=>match AIg ((AX (AX a0 (AE a1) (AI a0 (AE (IntKind.wrap .i64 (a1+a3))) 0)) (AE (IntKind.wrap .i64 (a1+a3))) (AI a0 (AE a1) 0)),a2,a3,a1,())with|none=>none|some (y4,_)=>some (.inl (y4,a1,a2,(IntKind.wrap .i64 (a3-1)),()))
 |false=>some (.inr (.inl (a0,())))
abbrev ATM:AB:=[(.obj 0,.own 3 U0),(.tmp 0,.own' 0),(.tmp 6,.di),(.tmp 7,.di),(.tmp 8,.di),(.tmp 9,.di)]
abbrev ATK:AT:=[(.exit 0,[(.obj 0,.own 3 U0),(.tmp 0,.own' 0),(.tmp 6,.di),(.tmp 7,.di),(.tmp 8,.di)])]
def ATI[Lk]:Ul→Option (Ul⊕U8⊕Unit):=fun(a0,a1,a2,a3,a4,_)=>
 match(ile 0 a4)with
 |true=>match AIg (a0,a4,a3,a1,())with|none=>none|some (y0,_)=>some (.inl (y0,a1,a2,a3,(IntKind.wrap .i64 (a4-1)),()))
 |false=>some (.inr (.inl (a0,a1,a2,a3,())))
def AJX[Lk]:Ud→Option (Uc):=fun(a0,a1,a2,_)=>
 match quo? .i64 (IntKind.wrap .i64 ((IntKind.wrap .i64 (a2-a1))-1)) 2 with|none=>none|some x0=>match AQ ATI many (a0,a1,0,(IntKind.wrap .i64 (a2-a1)),x0,())with|none=>none|some r=>match r with
 |.inl (o1,o2,o3,o4,_)=>match AQ ATH many (o1,o2,o3,(IntKind.wrap .i64 (o4-1)),())with|none=>none|some r=>match r with
  |.inl (o5,_)=>some (o5,())
  |.inr _=>none
 |.inr _=>none
def ATO[Lk]:=fun v=>Lk.f (AJX v)
theorem ATN v:ATO v=AJX v:=AD _
abbrev AOt:AB:=[(.obj 0,.own 3 U0),(.tmp 0,.own' 0),(.tmp 1,.di),(.tmp 6,.di),(.tmp 7,.box 1),(.cell 1 0,.dat (.int .u64)),(.tmp 8,.dat (.int .u64)),(.tmp 9,.di)]
def AOs[Lk]:V6→Option (V6⊕Uc⊕Unit):=fun(a0,a1,a2,a3,a4,a5,_)=>
 match quo? .i64 a2 4 with|none=>none|some x0=>match(ile a5 (IntKind.wrap .i64 ((IntKind.wrap .i64 (a1+(IntKind.wrap .i64 (x0*2))))+1)))with
 |true=>match xorNext (a3,())with|none=>none|some (y1,y2,_)=>match(ile a2 (IntKind.wrap .i64 (IntKind.wrap .u64 ((BitVec.ofInt (IntKind.bits .u64) y2 &&& BitVec.ofInt (IntKind.bits .u64) (IntKind.wrap .u64 (a4-1))).toNat))))with
  |true=>match idx a0 (IntKind.wrap .i64 (a1+(IntKind.wrap .i64 ((IntKind.wrap .i64 (IntKind.wrap .u64 ((BitVec.ofInt (IntKind.bits .u64) y2 &&& BitVec.ofInt (IntKind.bits .u64) (IntKind.wrap .u64 (a4-1))).toNat)))-a2))))with|none=>none|some x3=>match idx a0 a5 with|none=>none|some x4=>match idx a0 a5 with|none=>none|some x5=>match idx (AX a0 (AE a5) (AI a0 (AE (IntKind.wrap .i64 (a1+(IntKind.wrap .i64 ((IntKind.wrap .i64 (IntKind.wrap .u64 ((BitVec.ofInt (IntKind.bits .u64) y2 &&& BitVec.ofInt (IntKind.bits .u64) (IntKind.wrap .u64 (a4-1))).toNat)))-a2))))) 0)) (IntKind.wrap .i64 (a1+(IntKind.wrap .i64 ((IntKind.wrap .i64 (IntKind.wrap .u64 ((BitVec.ofInt (IntKind.bits .u64) y2 &&& BitVec.ofInt (IntKind.bits .u64) (IntKind.wrap .u64 (a4-1))).toNat)))-a2))))with|none=>none|some x6=>some (.inl ((AX (AX a0 (AE a5) (AI a0 (AE (IntKind.wrap .i64 (a1+(IntKind.wrap .i64 ((IntKind.wrap .i64 (IntKind.wrap .u64 ((BitVec.ofInt (IntKind.bits .u64) y2 &&& BitVec.ofInt (IntKind.bits .u64) (IntKind.wrap .u64 (a4-1))).toNat)))-a2))))) 0)) (AE (IntKind.wrap .i64 (a1+(IntKind.wrap .i64 ((IntKind.wrap .i64 (IntKind.wrap .u64 ((BitVec.ofInt (IntKind.bits .u64) y2 &&& BitVec.ofInt (IntKind.bits .u64) (IntKind.wrap .u64 (a4-1))).toNat)))-a2))))) (AI a0 (AE a5) 0)),a1,a2,y1,a4,(IntKind.wrap .i64 (a5+1)),()))
  |false=>match idx a0 (IntKind.wrap .i64 (a1+(IntKind.wrap .i64 (IntKind.wrap .u64 ((BitVec.ofInt (IntKind.bits .u64) y2 &&& BitVec.ofInt (IntKind.bits .u64) (IntKind.wrap .u64 (a4-1))).toNat)))))with|none=>none|some x7=>match idx a0 a5 with|none=>none|some x8=>match idx a0 a5 with|none=>none|some x9=>match idx (AX a0 (AE a5) (AI a0 (AE (IntKind.wrap .i64 (a1+(IntKind.wrap .i64 (IntKind.wrap .u64 ((BitVec.ofInt (IntKind.bits .u64) y2 &&& BitVec.ofInt (IntKind.bits .u64) (IntKind.wrap .u64 (a4-1))).toNat)))))) 0)) (IntKind.wrap .i64 (a1+(IntKind.wrap .i64 (IntKind.wrap .u64 ((BitVec.ofInt (IntKind.bits .u64) y2 &&& BitVec.ofInt (IntKind.bits .u64) (IntKind.wrap .u64 (a4-1))).toNat)))))with|none=>none|some x10=>some (.inl ((AX (AX a0 (AE a5) (AI a0 (AE (IntKind.wrap .i64 (a1+(IntKind.wrap .i64 (IntKind.wrap .u64 ((BitVec.ofInt (IntKind.bits .u64) y2 &&& BitVec.ofInt (IntKind.bits .u64) (IntKind.wrap .u64 (a4-1))).toNat)))))) 0)) (AE (IntKind.wrap .i64 (a1+(IntKind.wrap .i64 (IntKind.wrap .u64 ((BitVec.ofInt (IntKind.bits .u64) y2 &&& BitVec.ofInt (IntKind.bits .u64) (IntKind.wrap .u64 (a4-1))).toNat)))))) (AI a0 (AE a5) 0)),a1,a2,y1,a4,(IntKind.wrap .i64 (a5+1)),()))
 |false=>some (.inr (.inl (a0,())))
def AB5[Lk]:Ud→Option (Uc):=fun(a0,a1,a2,_)=>
 match(ile 8 (IntKind.wrap .i64 (a2-a1)))with
 |true=>match Of ((IntKind.wrap .i64 (a2-a1)),())with|none=>none|some (y0,_)=>match quo? .i64 (IntKind.wrap .i64 (a2-a1)) 4 with|none=>none|some x1=>match AQ AOs many (a0,a1,(IntKind.wrap .i64 (a2-a1)),(IntKind.wrap .u64 (IntKind.wrap .i64 (a2-a1))),y0,(IntKind.wrap .i64 ((IntKind.wrap .i64 (a1+(IntKind.wrap .i64 (x1*2))))-1)),())with|none=>none|some r=>match r with
  |.inl (o2,_)=>some (o2,())
  |.inr _=>none
 |false=>some (a0,())
def AHN[Lk]:=fun v=>Lk.f (AB5 v)
theorem AOu v:AHN v=AB5 v:=AD _
abbrev TD:AB:=[(.tmp 0,.own 3 U0),(.tmp 1,.di),(.tmp 2,.di),(.tmp 3,.box 1),(.cell 1 0,.di)]
abbrev TC:AB:=[(.obj 0,.own 3 U0),(.obj 1,.box 1),(.cell 1 0,.di),(.tmp 0,.di),(.tmp 1,.di)]
def TE[Lk]:U8→Option (U8):=fun(a0,a1,a2,a3,_)=>
 match idx a0 a2 with|none=>none|some x0=>match idx a0 a1 with|none=>none|some x1=>match EO ((AI a0 (AE a2) 0),(AI a0 (AE a1) 0),())with|none=>none|some (y2,_)=>match y2 with
 |true=>some (a0,(IntKind.wrap .i64 (a3+1)),a2,a1,())
 |false=>some (a0,a3,a1,a2,())
def K8[Lk]:=fun v=>Lk.f (TE v)
theorem AFr v:K8 v=TE v:=AD _
abbrev TK:AB:=[(.tmp 0,.own 3 U0),(.tmp 1,.di),(.tmp 2,.di),(.tmp 3,.di),(.tmp 4,.box 1),(.cell 1 0,.di)]
abbrev Jd:AB:=[(.obj 0,.own 3 U0),(.obj 1,.box 1),(.cell 1 0,.di),(.tmp 0,.di)]
def TL[Lk]:Ul→Option (Ud):=fun(a0,a1,a2,a3,a4,_)=>
 match K8 (a0,a1,a2,a4,())with|none=>none|some (y0,y1,y2,y3,_)=>match K8 (y0,y3,a3,y1,())with|none=>none|some (y4,y5,y6,y7,_)=>match K8 (y4,y2,y6,y5,())with|none=>none|some (y8,y9,y10,y11,_)=>some (y8,y9,y11,())
def LA[Lk]:=fun v=>Lk.f (TL v)
theorem AF1 v:LA v=TL v:=AD _
abbrev TP:AB:=[(.tmp 0,.own 3 U0),(.tmp 1,.di),(.tmp 2,.box 1),(.cell 1 0,.di)]
def TQ[Lk]:Ud→Option (Ud):=fun(a0,a1,a2,_)=>
 match LA (a0,(IntKind.wrap .i64 (a1-1)),a1,(IntKind.wrap .i64 (a1+1)),a2,())with|none=>none|some (y0,y1,y2,_)=>some (y0,y1,y2,())
def LB[Lk]:=fun v=>Lk.f (TQ v)
theorem AF5 v:LB v=TQ v:=AD _
abbrev Zp:AB:=[(.obj 0,.own 3 U0),(.tmp 0,.di),(.tmp 1,.di)]
def Zq[Lk]:Ud→Option (Ud):=fun(a0,a1,a2,_)=>
 match quo? .i64 (IntKind.wrap .i64 (a2-a1)) 4 with|none=>none|some x0=>match quo? .i64 (IntKind.wrap .i64 (a2-a1)) 4 with|none=>none|some x1=>match quo? .i64 (IntKind.wrap .i64 (a2-a1)) 4 with|none=>none|some x2=>match(ile 8 (IntKind.wrap .i64 (a2-a1)))with
 |true=>match(ile 50 (IntKind.wrap .i64 (a2-a1)))with
  |true=>match LB (a0,(IntKind.wrap .i64 (a1+(IntKind.wrap .i64 (x0*1)))),0,())with|none=>none|some (y3,y4,y5,_)=>match LB (y3,(IntKind.wrap .i64 (a1+(IntKind.wrap .i64 (x1*2)))),y4,())with|none=>none|some (y6,y7,y8,_)=>match LB (y6,(IntKind.wrap .i64 (a1+(IntKind.wrap .i64 (x2*3)))),y7,())with|none=>none|some (y9,y10,y11,_)=>match LA (y9,y5,y8,y11,y10,())with|none=>none|some (y12,y13,y14,_)=>match(ieq y13 0)with
   |true=>some (y12,y14,1,())
   |false=>match(ieq y13 12)with
   |true=>some (y12,y14,2,())
   |false=>some (y12,y14,0,())
  |false=>match LA (a0,(IntKind.wrap .i64 (a1+(IntKind.wrap .i64 (x0*1)))),(IntKind.wrap .i64 (a1+(IntKind.wrap .i64 (x1*2)))),(IntKind.wrap .i64 (a1+(IntKind.wrap .i64 (x2*3)))),0,())with|none=>none|some (y15,y16,y17,_)=>match(ieq y16 0)with
  |true=>some (y15,y17,1,())
  |false=>match(ieq y16 12)with
  |true=>some (y15,y17,2,())
  |false=>some (y15,y17,0,())
 |false=>match(ieq 0 0)with
 |true=>some (a0,(IntKind.wrap .i64 (a1+(IntKind.wrap .i64 (x1*2)))),1,())
 |false=>match(ieq 0 12)with
 |true=>some (a0,(IntKind.wrap .i64 (a1+(IntKind.wrap .i64 (x1*2)))),2,())
 |false=>some (a0,(IntKind.wrap .i64 (a1+(IntKind.wrap .i64 (x1*2)))),0,())
def AE7[Lk]:=fun v=>Lk.f (Zq v)
theorem AMS v:AE7 v=Zq v:=AD _
abbrev AWc:AB:=[(.obj 0,.own 3 U0),(.tmp 0,.own' 0),(.tmp 6,.di),(.tmp 7,.di)]
def AWb[Lk]:Ud→Option (Ud⊕Uc⊕Unit):=fun(a0,a1,a2,_)=>
 match(ilt a1 a2)with
 |true=>match idx a0 a2 with|none=>none|some x0=>match idx a0 a1 with|none=>none|some x1=>match idx a0 a1 with|none=>none|some x2=>match idx (AX a0 (AE a1) (AI a0 (AE a2) 0)) a2 with|none=>none|some x3=>some (.inl ((AX (AX a0 (AE a1) (AI a0 (AE a2) 0)) (AE a2) (AI a0 (AE a1) 0)),(IntKind.wrap .i64 (a1+1)),(IntKind.wrap .i64 (a2-1)),()))
 |false=>some (.inr (.inl (a0,())))
def ARE[Lk]:Ud→Option (Uc):=fun(a0,a1,a2,_)=>
 match AQ AWb many (a0,a1,(IntKind.wrap .i64 (a2-1)),())with|none=>none|some r=>match r with
 |.inl (o0,_)=>some (o0,())
 |.inr _=>none
def AZo[Lk]:=fun v=>Lk.f (ARE v)
theorem AWd v:AZo v=ARE v:=AD _
abbrev AAM:AB:=[(.obj 0,.own 3 U0),(.tmp 0,.own' 0),(.tmp 1,.di),(.tmp 2,.di),(.tmp 7,.di),(.tmp 8,.di),(.tmp 10,.di)]
abbrev AAI:AT:=[(.exit 6,[(.obj 0,.own 3 U0),(.tmp 0,.own' 0),(.tmp 1,.di),(.tmp 2,.di),(.tmp 7,.di),(.tmp 8,.di)])]
def NB[Lk]:V6→Option (V6⊕Ul⊕Unit):=fun(a0,a1,a2,a3,a4,a5,_)=>
 match(ilt a5 a2)with
 |true=>match idx a0 a5 with|none=>none|some x0=>match idx a0 (IntKind.wrap .i64 (a5-1))with|none=>none|some x1=>match EO ((AI a0 (AE a5) 0),(AI a0 (AE (IntKind.wrap .i64 (a5-1))) 0),())with|none=>none|some (y2,_)=>match(!y2)with
  |true=>some (.inr (.inl (a0,a1,a2,a3,a4,())))
  |false=>match idx a0 (IntKind.wrap .i64 (a5-1))with|none=>none|some x3=>match idx a0 a5 with|none=>none|some x4=>match idx a0 a5 with|none=>none|some x5=>match idx (AX a0 (AE a5) (AI a0 (AE (IntKind.wrap .i64 (a5-1))) 0)) (IntKind.wrap .i64 (a5-1))with|none=>none|some x6=>some (.inl ((AX (AX a0 (AE a5) (AI a0 (AE (IntKind.wrap .i64 (a5-1))) 0)) (AE (IntKind.wrap .i64 (a5-1))) (AI a0 (AE a5) 0)),a1,a2,a3,a4,(IntKind.wrap .i64 (a5+1)),()))
 |false=>some (.inr (.inl (a0,a1,a2,a3,a4,())))
abbrev AAN:AB:=[(.obj 0,.own 3 U0),(.tmp 0,.own' 0),(.tmp 1,.di),(.tmp 2,.di),(.tmp 7,.di),(.tmp 8,.di),(.tmp 9,.di)]
abbrev AAJ:AT:=[(.exit 4,[(.obj 0,.own 3 U0),(.tmp 0,.own' 0),(.tmp 1,.di),(.tmp 2,.di),(.tmp 7,.di),(.tmp 8,.di)])]
def AAF[Lk]:V6→Option (V6⊕Ul⊕Unit):=fun(a0,a1,a2,a3,a4,a5,_)=>
 match(ile 1 a5)with
 |true=>match idx a0 a5 with|none=>none|some x0=>match idx a0 (IntKind.wrap .i64 (a5-1))with|none=>none|some x1=>match EO ((AI a0 (AE a5) 0),(AI a0 (AE (IntKind.wrap .i64 (a5-1))) 0),())with|none=>none|some (y2,_)=>match(!y2)with
  |true=>some (.inr (.inl (a0,a1,a2,a3,a4,())))
  |false=>match idx a0 (IntKind.wrap .i64 (a5-1))with|none=>none|some x3=>match idx a0 a5 with|none=>none|some x4=>match idx a0 a5 with|none=>none|some x5=>match idx (AX a0 (AE a5) (AI a0 (AE (IntKind.wrap .i64 (a5-1))) 0)) (IntKind.wrap .i64 (a5-1))with|none=>none|some x6=>some (.inl ((AX (AX a0 (AE a5) (AI a0 (AE (IntKind.wrap .i64 (a5-1))) 0)) (AE (IntKind.wrap .i64 (a5-1))) (AI a0 (AE a5) 0)),a1,a2,a3,a4,(IntKind.wrap .i64 (a5-1)),()))
 |false=>some (.inr (.inl (a0,a1,a2,a3,a4,())))
abbrev NC:AB:=[(.obj 0,.own 3 U0),(.tmp 0,.own' 0),(.tmp 1,.di),(.tmp 2,.di),(.tmp 7,.di),(.tmp 8,.di)]
abbrev AAK:AT:=[(.exit 2,[(.obj 0,.own 3 U0),(.tmp 0,.own' 0),(.tmp 1,.di),(.tmp 2,.di),(.tmp 7,.di),(.tmp 8,.di)])]
def AAG[Lk]:Ul→Option (Ul⊕Ul⊕Unit):=fun(a0,a1,a2,a3,a4,_)=>
 match(ilt a3 a2)with
 |true=>match idx a0 a3 with|none=>none|some x0=>match idx a0 (IntKind.wrap .i64 (a3-1))with|none=>none|some x1=>match EO ((AI a0 (AE a3) 0),(AI a0 (AE (IntKind.wrap .i64 (a3-1))) 0),())with|none=>none|some (y2,_)=>match(!y2)with
  |true=>some (.inl (a0,a1,a2,(IntKind.wrap .i64 (a3+1)),a4,()))
  |false=>some (.inr (.inl (a0,a1,a2,a3,a4,())))
 |false=>some (.inr (.inl (a0,a1,a2,a3,a4,())))
abbrev AAL:AT:=[(.ret,[(.obj 0,.own 3 U0),(.tmp 6,.dat .bool)]),(.exit 0,[(.obj 0,.own 3 U0)])]
def AAH[Lk]:Ul→Option (Ul⊕Vl⊕Uc⊕Unit):=fun(a0,a1,a2,a3,a4,_)=>
 match(ilt a4 5)with
 |true=>match AQ AAG many (a0,a1,a2,a3,a4,())with|none=>none|some r=>match r with
  |.inl (o0,o1,o2,o3,o4,_)=>match(ieq o3 o2)with
   |true=>some (.inr (.inl (o0,true,())))
   |false=>match(ilt (IntKind.wrap .i64 (o2-o1)) 50)with
   |true=>some (.inr (.inl (o0,false,())))
   |false=>match idx o0 (IntKind.wrap .i64 (o3-1))with|none=>none|some x5=>match idx o0 o3 with|none=>none|some x6=>match idx o0 o3 with|none=>none|some x7=>match idx (AX o0 (AE o3) (AI o0 (AE (IntKind.wrap .i64 (o3-1))) 0)) (IntKind.wrap .i64 (o3-1))with|none=>none|some x8=>match(ile 2 (IntKind.wrap .i64 (o3-o1)))with
   |true=>match AQ AAF many ((AX (AX o0 (AE o3) (AI o0 (AE (IntKind.wrap .i64 (o3-1))) 0)) (AE (IntKind.wrap .i64 (o3-1))) (AI o0 (AE o3) 0)),o1,o2,o3,o4,(IntKind.wrap .i64 (o3-1)),())with|none=>none|some r=>match r with
    |.inl (o9,o10,o11,o12,o13,_)=>match(ile 2 (IntKind.wrap .i64 (o11-o12)))with
     |true=>match AQ NB many (o9,o10,o11,o12,o13,(IntKind.wrap .i64 (o12+1)),())with|none=>none|some r=>match r with
      |.inl (o14,o15,o16,o17,o18,_)=>some (.inl (o14,o15,o16,o17,(IntKind.wrap .i64 (o18+1)),()))
      |.inr _=>none
     |false=>some (.inl (o9,o10,o11,o12,(IntKind.wrap .i64 (o13+1)),()))
    |.inr _=>none
   |false=>match(ile 2 (IntKind.wrap .i64 (o2-o3)))with
   |true=>match AQ NB many ((AX (AX o0 (AE o3) (AI o0 (AE (IntKind.wrap .i64 (o3-1))) 0)) (AE (IntKind.wrap .i64 (o3-1))) (AI o0 (AE o3) 0)),o1,o2,o3,o4,(IntKind.wrap .i64 (o3+1)),())with|none=>none|some r=>match r with
    |.inl (o19,o20,o21,o22,o23,_)=>some (.inl (o19,o20,o21,o22,(IntKind.wrap .i64 (o23+1)),()))
    |.inr _=>none
   |false=>some (.inl ((AX (AX o0 (AE o3) (AI o0 (AE (IntKind.wrap .i64 (o3-1))) 0)) (AE (IntKind.wrap .i64 (o3-1))) (AI o0 (AE o3) 0)),o1,o2,o3,(IntKind.wrap .i64 (o4+1)),()))
  |.inr _=>none
 |false=>some (.inr (.inr (.inl (a0,()))))
def Pd[Lk]:Ud→Option (Vl):=fun(a0,a1,a2,_)=>
 match AQ AAH many (a0,a1,a2,(IntKind.wrap .i64 (a1+1)),0,())with|none=>none|some r=>match r with
 |.inl (o0,o1,_)=>some (o0,o1,())
 |.inr r=>match r with
 |.inl (o2,_)=>some (o2,false,())
 |.inr _=>none
def Pe[Lk]:=fun v=>Lk.f (Pd v)
theorem AAO v:Pe v=Pd v:=AD _
abbrev KN:AB:=[(.obj 0,.own 3 U0),(.tmp 0,.own' 0),(.tmp 1,.di),(.tmp 9,.di),(.tmp 10,.di)]
abbrev AFe:AT:=[(.exit 4,[(.obj 0,.own 3 U0),(.tmp 0,.own' 0),(.tmp 1,.di),(.tmp 9,.di),(.tmp 10,.di)])]
def AFb[Lk]:U8→Option (U8⊕U8⊕Unit):=fun(a0,a1,a2,a3,_)=>
 match(ile a2 a3)with
 |true=>match idx a0 a1 with|none=>none|some x0=>match idx a0 a3 with|none=>none|some x1=>match EO ((AI a0 (AE a1) 0),(AI a0 (AE a3) 0),())with|none=>none|some (y2,_)=>match y2 with
  |true=>some (.inl (a0,a1,a2,(IntKind.wrap .i64 (a3-1)),()))
  |false=>some (.inr (.inl (a0,a1,a2,a3,())))
 |false=>some (.inr (.inl (a0,a1,a2,a3,())))
abbrev AFf:AT:=[(.exit 2,[(.obj 0,.own 3 U0),(.tmp 0,.own' 0),(.tmp 1,.di),(.tmp 9,.di),(.tmp 10,.di)])]
def AFc[Lk]:U8→Option (U8⊕U8⊕Unit):=fun(a0,a1,a2,a3,_)=>
 match(ile a2 a3)with
 |true=>match idx a0 a1 with|none=>none|some x0=>match idx a0 a2 with|none=>none|some x1=>match EO ((AI a0 (AE a1) 0),(AI a0 (AE a2) 0),())with|none=>none|some (y2,_)=>match(!y2)with
  |true=>some (.inl (a0,a1,(IntKind.wrap .i64 (a2+1)),a3,()))
  |false=>some (.inr (.inl (a0,a1,a2,a3,())))
 |false=>some (.inr (.inl (a0,a1,a2,a3,())))
abbrev AFg:AT:=[(.exit 0,[(.obj 0,.own 3 U0),(.tmp 9,.di)])]
def AFd[Lk]:U8→Option (U8⊕Ut⊕Unit):=fun(a0,a1,a2,a3,_)=>
 match AQ AFc many (a0,a1,a2,a3,())with|none=>none|some r=>match r with
 |.inl (o0,o1,o2,o3,_)=>match AQ AFb many (o0,o1,o2,o3,())with|none=>none|some r=>match r with
  |.inl (o4,o5,o6,o7,_)=>match(ilt o7 o6)with
   |true=>some (.inr (.inl (o4,o6,())))
   |false=>match idx o4 o7 with|none=>none|some x8=>match idx o4 o6 with|none=>none|some x9=>match idx o4 o6 with|none=>none|some x10=>match idx (AX o4 (AE o6) (AI o4 (AE o7) 0)) o7 with|none=>none|some x11=>some (.inl ((AX (AX o4 (AE o6) (AI o4 (AE o7) 0)) (AE o7) (AI o4 (AE o6) 0)),o5,(IntKind.wrap .i64 (o6+1)),(IntKind.wrap .i64 (o7-1)),()))
  |.inr _=>none
 |.inr _=>none
def S5[Lk]:U8→Option (Ut):=fun(a0,a1,a2,a3,_)=>
 match idx a0 a3 with|none=>none|some x0=>match idx a0 a1 with|none=>none|some x1=>match idx a0 a1 with|none=>none|some x2=>match idx (AX a0 (AE a1) (AI a0 (AE a3) 0)) a3 with|none=>none|some x3=>match AQ AFd many ((AX (AX a0 (AE a1) (AI a0 (AE a3) 0)) (AE a3) (AI a0 (AE a1) 0)),a1,(IntKind.wrap .i64 (a1+1)),(IntKind.wrap .i64 (a2-1)),())with|none=>none|some r=>match r with
 |.inl (o4,o5,_)=>some (o4,o5,())
 |.inr _=>none
def Wd[Lk]:=fun v=>Lk.f (S5 v)
theorem AFh v:Wd v=S5 v:=AD _
abbrev AI8:AB:=[(.obj 0,.own 3 U0),(.tmp 0,.di),(.tmp 1,.dat .bool)]
abbrev Ic:AB:=[(.obj 0,.own 3 U0),(.tmp 0,.own' 0),(.tmp 1,.di),(.tmp 10,.di),(.tmp 11,.di)]
abbrev ASH:AT:=[(.exit 8,[(.obj 0,.own 3 U0),(.tmp 0,.own' 0),(.tmp 1,.di),(.tmp 10,.di),(.tmp 11,.di)])]
def ASC[Lk]:U8→Option (U8⊕U8⊕Unit):=fun(a0,a1,a2,a3,_)=>
 match(ile a2 a3)with
 |true=>match idx a0 a3 with|none=>none|some x0=>match idx a0 a1 with|none=>none|some x1=>match EO ((AI a0 (AE a3) 0),(AI a0 (AE a1) 0),())with|none=>none|some (y2,_)=>match(!y2)with
  |true=>some (.inl (a0,a1,a2,(IntKind.wrap .i64 (a3-1)),()))
  |false=>some (.inr (.inl (a0,a1,a2,a3,())))
 |false=>some (.inr (.inl (a0,a1,a2,a3,())))
abbrev ASI:AT:=[(.exit 6,[(.obj 0,.own 3 U0),(.tmp 0,.own' 0),(.tmp 1,.di),(.tmp 10,.di),(.tmp 11,.di)])]
def ASD[Lk]:U8→Option (U8⊕U8⊕Unit):=fun(a0,a1,a2,a3,_)=>
 match(ile a2 a3)with
 |true=>match idx a0 a2 with|none=>none|some x0=>match idx a0 a1 with|none=>none|some x1=>match EO ((AI a0 (AE a2) 0),(AI a0 (AE a1) 0),())with|none=>none|some (y2,_)=>match y2 with
  |true=>some (.inl (a0,a1,(IntKind.wrap .i64 (a2+1)),a3,()))
  |false=>some (.inr (.inl (a0,a1,a2,a3,())))
 |false=>some (.inr (.inl (a0,a1,a2,a3,())))
abbrev ASJ:AT:=[(.exit 4,[(.obj 0,.own 3 U0),(.tmp 0,.own' 0),(.tmp 1,.di),(.tmp 11,.di)])]
def ASE[Lk]:U8→Option (U8⊕Ud⊕Unit):=fun(a0,a1,a2,a3,_)=>
 match AQ ASD many (a0,a1,a2,a3,())with|none=>none|some r=>match r with
 |.inl (o0,o1,o2,o3,_)=>match AQ ASC many (o0,o1,o2,o3,())with|none=>none|some r=>match r with
  |.inl (o4,o5,o6,o7,_)=>match(ilt o7 o6)with
   |true=>some (.inr (.inl (o4,o5,o7,())))
   |false=>match idx o4 o7 with|none=>none|some x8=>match idx o4 o6 with|none=>none|some x9=>match idx o4 o6 with|none=>none|some x10=>match idx (AX o4 (AE o6) (AI o4 (AE o7) 0)) o7 with|none=>none|some x11=>some (.inl ((AX (AX o4 (AE o6) (AI o4 (AE o7) 0)) (AE o7) (AI o4 (AE o6) 0)),o5,(IntKind.wrap .i64 (o6+1)),(IntKind.wrap .i64 (o7-1)),()))
  |.inr _=>none
 |.inr _=>none
abbrev ASK:AT:=[(.exit 2,[(.obj 0,.own 3 U0),(.tmp 0,.own' 0),(.tmp 1,.di),(.tmp 10,.di),(.tmp 11,.di)])]
def ASF[Lk]:U8→Option (U8⊕U8⊕Unit):=fun(a0,a1,a2,a3,_)=>
 match(ile a2 a3)with
 |true=>match idx a0 a3 with|none=>none|some x0=>match idx a0 a1 with|none=>none|some x1=>match EO ((AI a0 (AE a3) 0),(AI a0 (AE a1) 0),())with|none=>none|some (y2,_)=>match(!y2)with
  |true=>some (.inl (a0,a1,a2,(IntKind.wrap .i64 (a3-1)),()))
  |false=>some (.inr (.inl (a0,a1,a2,a3,())))
 |false=>some (.inr (.inl (a0,a1,a2,a3,())))
abbrev ASL:AT:=[(.exit 0,[(.obj 0,.own 3 U0),(.tmp 0,.own' 0),(.tmp 1,.di),(.tmp 10,.di),(.tmp 11,.di)])]
def ASG[Lk]:U8→Option (U8⊕U8⊕Unit):=fun(a0,a1,a2,a3,_)=>
 match(ile a2 a3)with
 |true=>match idx a0 a2 with|none=>none|some x0=>match idx a0 a1 with|none=>none|some x1=>match EO ((AI a0 (AE a2) 0),(AI a0 (AE a1) 0),())with|none=>none|some (y2,_)=>match y2 with
  |true=>some (.inl (a0,a1,(IntKind.wrap .i64 (a2+1)),a3,()))
  |false=>some (.inr (.inl (a0,a1,a2,a3,())))
 |false=>some (.inr (.inl (a0,a1,a2,a3,())))
def AI9[Lk]:U8→Option ((List Int×Int×Bool×Unit)):=fun(a0,a1,a2,a3,_)=>
 match idx a0 a3 with|none=>none|some x0=>match idx a0 a1 with|none=>none|some x1=>match idx a0 a1 with|none=>none|some x2=>match idx (AX a0 (AE a1) (AI a0 (AE a3) 0)) a3 with|none=>none|some x3=>match AQ ASG many ((AX (AX a0 (AE a1) (AI a0 (AE a3) 0)) (AE a3) (AI a0 (AE a1) 0)),a1,(IntKind.wrap .i64 (a1+1)),(IntKind.wrap .i64 (a2-1)),())with|none=>none|some r=>match r with
 |.inl (o4,o5,o6,o7,_)=>match AQ ASF many (o4,o5,o6,o7,())with|none=>none|some r=>match r with
  |.inl (o8,o9,o10,o11,_)=>match(ilt o11 o10)with
   |true=>match idx o8 o9 with|none=>none|some x12=>match idx o8 o11 with|none=>none|some x13=>match idx o8 o11 with|none=>none|some x14=>match idx (AX o8 (AE o11) (AI o8 (AE o9) 0)) o9 with|none=>none|some x15=>some ((AX (AX o8 (AE o11) (AI o8 (AE o9) 0)) (AE o9) (AI o8 (AE o11) 0)),o11,true,())
   |false=>match idx o8 o11 with|none=>none|some x16=>match idx o8 o10 with|none=>none|some x17=>match idx o8 o10 with|none=>none|some x18=>match idx (AX o8 (AE o10) (AI o8 (AE o11) 0)) o11 with|none=>none|some x19=>match AQ ASE many ((AX (AX o8 (AE o10) (AI o8 (AE o11) 0)) (AE o11) (AI o8 (AE o10) 0)),o9,(IntKind.wrap .i64 (o10+1)),(IntKind.wrap .i64 (o11-1)),())with|none=>none|some r=>match r with
   |.inl (o20,o21,o22,_)=>match idx o20 o21 with|none=>none|some x23=>match idx o20 o22 with|none=>none|some x24=>match idx o20 o22 with|none=>none|some x25=>match idx (AX o20 (AE o22) (AI o20 (AE o21) 0)) o21 with|none=>none|some x26=>some ((AX (AX o20 (AE o22) (AI o20 (AE o21) 0)) (AE o21) (AI o20 (AE o22) 0)),o22,false,())
   |.inr _=>none
  |.inr _=>none
 |.inr _=>none
def AJA[Lk]:=fun v=>Lk.f (AI9 v)
theorem ASM v:AJA v=AI9 v:=AD _
abbrev AI2:AB:=[(.obj 0,.own 3 U0),(.tmp 0,.own' 0),(.tmp 1,.di),(.tmp 2,.di),(.tmp 3,.di),(.tmp 8,.dat .bool),(.tmp 9,.dat .bool)]
abbrev AI1:AT:=[(.ret,[(.obj 0,.own 3 U0)])]
def WX[Lk](self:U8→Option (Uc))(y7:List Int)(a1 a2 p l:Int)(a4 a5:Bool):Option (Vb⊕Uc⊕Unit):=
 match(ilt 0 a1)with
 |true=>match idx y7 (IntKind.wrap .i64 (a1-1))with|none=>none|some x9=>match idx y7 p with|none=>none|some x10=>match EO ((AI y7 (AE (IntKind.wrap .i64 (a1-1))) 0),(AI y7 (AE p) 0),())with|none=>none|some (y11,_)=>match(!y11)with
  |true=>match Wd (y7,a1,a2,p,())with|none=>none|some (y12,y13,_)=>some (.inl (y12,y13,a2,l,a4,a5,()))
  |false=>match AJA (y7,a1,a2,p,())with|none=>none|some (y14,y15,y16,_)=>match quo? .i64 (IntKind.wrap .i64 (a2-a1)) 8 with|none=>none|some x17=>match(ilt (IntKind.wrap .i64 (y15-a1)) (IntKind.wrap .i64 (a2-y15)))with
  |true=>match self (y14,a1,y15,l,())with|none=>none|some (y18,_)=>some (.inl (y18,(IntKind.wrap .i64 (y15+1)),a2,l,(ile x17 (IntKind.wrap .i64 (y15-a1))),y16,()))
  |false=>match self (y14,(IntKind.wrap .i64 (y15+1)),a2,l,())with|none=>none|some (y19,_)=>some (.inl (y19,a1,y15,l,(ile x17 (IntKind.wrap .i64 (a2-y15))),y16,()))
 |false=>match AJA (y7,a1,a2,p,())with|none=>none|some (y20,y21,y22,_)=>match quo? .i64 (IntKind.wrap .i64 (a2-a1)) 8 with|none=>none|some x23=>match(ilt (IntKind.wrap .i64 (y21-a1)) (IntKind.wrap .i64 (a2-y21)))with
 |true=>match self (y20,a1,y21,l,())with|none=>none|some (y24,_)=>some (.inl (y24,(IntKind.wrap .i64 (y21+1)),a2,l,(ile x23 (IntKind.wrap .i64 (y21-a1))),y22,()))
 |false=>match self (y20,(IntKind.wrap .i64 (y21+1)),a2,l,())with|none=>none|some (y25,_)=>some (.inl (y25,a1,y21,l,(ile x23 (IntKind.wrap .i64 (a2-y21))),y22,()))
def ARu[Lk](self:U8→Option (Uc))(y6:List Int)(a1 a2 p h l:Int)(a4 a5:Bool):Option (Vb⊕Uc⊕Unit):=
 match a4 with
 |true=>match a5 with
  |true=>match(ieq h 1)with
   |true=>match Pe (y6,a1,a2,())with|none=>none|some (y7,y8,_)=>match y8 with
    |true=>some (.inr (.inl (y7,())))
    |false=>WX self y7 a1 a2 p l a4 a5
   |false=>WX self y6 a1 a2 p l a4 a5
  |false=>WX self y6 a1 a2 p l a4 a5
 |false=>WX self y6 a1 a2 p l a4 a5
def ARt[Lk](self:U8→Option (Uc))(y2:List Int)(a1 a2 l:Int)(a4 a5:Bool):Option (Vb⊕Uc⊕Unit):=
 match AE7 (y2,a1,a2,())with|none=>none|some (y3,y4,y5,_)=>match(ieq y5 2)with
 |true=>match AZo (y3,a1,a2,())with|none=>none|some (y6,_)=>ARu self y6 a1 a2 (IntKind.wrap .i64 ((IntKind.wrap .i64 (a2-1))-(IntKind.wrap .i64 (y4-a1)))) 1 l a4 a5
 |false=>ARu self y3 a1 a2 y4 y5 l a4 a5
def WY[Lk](self:U8→Option (Uc)):Vb→Option (Vb⊕Uc⊕Unit):=fun(a0,a1,a2,a3,a4,a5,_)=>
 match(ile (IntKind.wrap .i64 (a2-a1)) 12)with
 |true=>match Aaf (a0,a1,a2,())with|none=>none|some (y0,_)=>some (.inr (.inl (y0,())))
 |false=>match(ieq a3 0)with
 |true=>match ATO (a0,a1,a2,())with|none=>none|some (y1,_)=>some (.inr (.inl (y1,())))
 |false=>match(!a4)with
 |true=>match AHN (a0,a1,a2,())with|none=>none|some (y2,_)=>ARt self y2 a1 a2 (IntKind.wrap .i64 (a3-1)) a4 a5
 |false=>ARt self a0 a1 a2 a3 a4 a5
def ARv[Lk](self:U8→Option (Uc)):U8→Option (Uc):=fun(a0,a1,a2,a3,_)=>
 match AQ (WY self) many (a0,a1,a2,a3,true,true,())with|none=>none|some r=>match r with
 |.inl (o0,_)=>some (o0,())
 |.inr _=>none
def KK[Lk]:Nat→U8→Option (Uc)
 |0,_=>none
 |n+1,v=>ARv (KK n) v
def ARw[Lk]:=fun v=>Lk.f (KK 100 v)
theorem AW2 v:ARw v=KK 100 v:=AD _
def AIc[Lk]:Uc→Option (Uc):=fun(a0,_)=>
 match bitsLen ((IntKind.wrap .u64 (AJ a0)),())with|none=>none|some (y0,_)=>match ARw (a0,0,(AJ a0),y0,())with|none=>none|some (y1,_)=>some (y1,())
def AQV[Lk]:=fun v=>Lk.f (AIc v)
theorem AQU v:AQV v=AIc v:=AD _
abbrev AUe:AB:=[(.tmp 0,.dat Us),(.tmp 1,.dat U2),(.tmp 2,.clo 50 [])]
abbrev Mq:AB:=[(.tmp 0,.di),(.tmp 1,.dat .bool)]
abbrev AYj:AB:=[(.tmp 0,.dat Us),(.tmp 2,.clo 50 []),(.tmp 4,.box 4),(.cell 0 0,.di),(.cell 0 1,.di),(.cell 0 2,.di),(.cell 0 3,.dat .bool),(.tmp 8,.di),(.tmp 9,.di),(.tmp 10,.di)]
abbrev AYi:AT:=[(.exit 0,[(.tmp 0,.dat Us),(.tmp 2,.clo 50 []),(.tmp 4,.box 4),(.cell 0 0,.di),(.cell 0 1,.di),(.cell 0 2,.di),(.cell 0 3,.dat .bool),(.tmp 8,.di),(.tmp 9,.di)])]
def AYh[Lk]:(List U1×Int×Int×Int×Bool×Int×Int×Int×Unit)→Option ((List U1×Int×Int×Int×Bool×Int×Int×Int×Unit)⊕(List U1×Int×Int×Int×Bool×Int×Int×Unit)⊕Unit):=fun(a0,a1,a2,a3,a4,a5,a6,a7,_)=>
 match(ilt a6 a7)with
 |true=>match shr? .u64 (IntKind.wrap .u64 (IntKind.wrap .i64 (a6+a7))) 1 with|none=>none|some x0=>match idx a0 (IntKind.wrap .i64 x0)with|none=>none|some x1=>match Ih ((x1.1,(x1.2.1,(x1.2.2.1,(x1.2.2.2.1,())))),(a1,(a2,(a3,(a4,())))),())with|none=>none|some (y2,_)=>match(ilt y2 0)with
  |true=>some (.inl (a0,a1,a2,a3,a4,a5,(IntKind.wrap .i64 ((IntKind.wrap .i64 x0)+1)),a7,()))
  |false=>some (.inl (a0,a1,a2,a3,a4,a5,a6,(IntKind.wrap .i64 x0),()))
 |false=>some (.inr (.inl (a0,a1,a2,a3,a4,a5,a6,())))
def AUf[Lk]:(List U1×U1×Unit)→Option ((Int×Bool×Unit)):=fun(a0,a1,_)=>
 match AQ AYh many (a0,a1.1,a1.2.1,a1.2.2.1,a1.2.2.2.1,(AJ a0),0,(AJ a0),())with|none=>none|some r=>match r with
 |.inl (o0,o1,o2,o3,o4,o5,o6,_)=>match(ilt o6 o5)with
  |true=>match idx o0 o6 with|none=>none|some x7=>match Ih ((x7.1,(x7.2.1,(x7.2.2.1,(x7.2.2.2.1,())))),(o1,(o2,(o3,(o4,())))),())with|none=>none|some (y8,_)=>some (o6,(ieq y8 0),())
  |false=>some (o6,false,())
 |.inr _=>none
def Aav[Lk]:=fun v=>Lk.f (AUf v)
theorem AYk v:Aav v=AUf v:=AD _
abbrev E0:AB:=[(.tmp 0,.dat V4),(.tmp 1,.di),(.tmp 2,.di)]
def AAk[Lk]:(Ui×Int×Int×Unit)→Option ((Int×Bool×Unit)):=fun(a0,a1,a2,_)=>
 match Aav (a0.2.1,((EN a1 a2),((imax a1 a2),(0,(false,())))),())with|none=>none|some (y0,y1,_)=>some (y0,y1,())
def AF8[Lk]:=fun v=>Lk.f (AAk v)
theorem ANJ v:AF8 v=AAk v:=AD _
abbrev D8:AB:=[(.tmp 0,.own 3 U0),(.cap 1 0,.box 2),(.cell 1 0,.di),(.cell 1 1,.dat Uf),(.tmp 1,.clo 217 [(1,0)])]
abbrev Io:AB:=[(.obj 0,.own 3 U0),(.obj 1,.box 2),(.cell 1 0,.di),(.cell 1 1,.dat Uf),(.tmp 0,.di)]
abbrev N1:AB:=[(.obj 0,.own 3 U0),(.obj 1,.box 2),(.cell 1 0,.di),(.cell 1 1,.dat Uf),(.tmp 0,.own' 0),(.tmp 1,.clo 217 [(1,0)]),(.tmp 7,.di),(.tmp 8,.di)]
abbrev N0:AT:=[(.ret,[(.obj 0,.own 3 U0),(.obj 1,.box 2),(.cell 1 0,.di),(.cell 1 1,.dat Uf),(.tmp 4,.di)]),(.exit 0,[(.obj 0,.own 3 U0),(.obj 1,.box 2),(.cell 1 0,.di),(.cell 1 1,.dat Uf)])]
def Nz[Lk]:(List Int×Int×List U6×Int×Int×Unit)→Option ((List Int×Int×List U6×Int×Int×Unit)⊕(List Int×Int×List U6×Int×Unit)⊕(List Int×Int×List U6×Unit)⊕Unit):=fun(a0,a1,a2,a3,a4,_)=>
 match(ilt a4 a3)with
 |true=>match idx a0 a4 with|none=>none|some x0=>match(ile a1 (AI a0 (AE a4) 0))with
  |true=>some (.inr (.inl (a0,a1,a2,a4,())))
  |false=>some (.inl (a0,a1,a2,a3,(IntKind.wrap .i64 (a4+1)),()))
 |false=>some (.inr (.inr (.inl (a0,a1,a2,()))))
def Ip[Lk]:(List Int×Int×List U6×Unit)→Option ((List Int×Int×List U6×Int×Unit)):=fun(a0,a1,a2,_)=>
 match AQ Nz many (a0,a1,a2,(AJ a0),0,())with|none=>none|some r=>match r with
 |.inl (o0,o1,o2,o3,_)=>some (o0,o1,o2,o3,())
 |.inr r=>match r with
 |.inl (o4,o5,o6,_)=>some (o4,o5,o6,(-1:Int),())
 |.inr _=>none
def H6[Lk]:=fun v=>Lk.f (Ip v)
theorem N2 v:H6 v=Ip v:=AD _
abbrev AJZ:AB:=[(.tmp 0,.nil U2),(.tmp 1,.di)]
abbrev Oj:AB:=[(.tmp 0,.own 73 U2)]
def AJa[Lk]:Ua→Option (Uz):=fun(a0,_)=>
 match(ilt a0 0)with
 |true=>none
 |false=>match(ilt 0 (IntKind.wrap .i64 (a0-(IntKind.wrap .i64 (0-0)))))with
 |true=>match EU ([]:List Unit) 0 0 with|none=>none|some _u0=>match(B8 (IntKind.wrap .i64 (a0-(IntKind.wrap .i64 (0-0)))))with
  |true=>match EU (DV (AE (IntKind.wrap .i64 (a0-(IntKind.wrap .i64 ((0:Int)-(0:Int)))))) ((0:Int),((0:Int),((0:Int),(false,()))))) (0:Int) (0:Int)with|none=>none|some x1=>some ((CL (AE (AJ x1)) (DV (AE (IntKind.wrap .i64 (a0-(IntKind.wrap .i64 ((0:Int)-(0:Int)))))) ((0:Int),((0:Int),((0:Int),(false,())))))),())
  |false=>none
 |false=>some (([]:List U1),())
def ATX[Lk]:=fun v=>Lk.f (AJa v)
theorem ATW v:ATX v=AJa v:=AD _
abbrev Tp:AB:=[(.tmp 0,.dat (.slice Us))]
abbrev AGz:AB:=[(.tmp 6,.own 73 U2),(.tmp 25,.dat (.slice Us)),(.tmp 26,.di),(.tmp 27,.di)]
abbrev AGx:AT:=[(.exit 2,[(.tmp 6,.own 73 U2)])]
def AGv[Lk]:(List U1×List (List U1)×Int×Int×Unit)→Option ((List U1×List (List U1)×Int×Int×Unit)⊕Uz⊕Unit):=fun(a0,a1,a2,a3,_)=>
 match(ilt a3 a2)with
 |true=>match idx a1 a3 with|none=>none|some x0=>match(fits ((AJ a0)+(AJ x0)))with
  |true=>some (.inl ((BE a0 x0),a1,a2,(IntKind.wrap .i64 (a3+1)),()))
  |false=>none
 |false=>some (.inr (.inl (a0,())))
abbrev AG0:AB:=[(.tmp 0,.dat (.slice Us)),(.tmp 3,.di),(.tmp 9,.dat (.slice Us)),(.tmp 10,.di),(.tmp 11,.di)]
abbrev AGy:AT:=[(.exit 0,[(.tmp 0,.dat (.slice Us)),(.tmp 3,.di)])]
def AGw[Lk]:(List (List U1)×Int×List (List U1)×Int×Int×Unit)→Option ((List (List U1)×Int×List (List U1)×Int×Int×Unit)⊕(List (List U1)×Int×Unit)⊕Unit):=fun(a0,a1,a2,a3,a4,_)=>
 match(ilt a4 a3)with
 |true=>match idx a2 a4 with|none=>none|some x0=>match(ilt (IntKind.wrap .i64 (a1+(AJ x0))) 0)with
  |true=>none
  |false=>some (.inl (a0,(IntKind.wrap .i64 (a1+(AJ x0))),a2,a3,(IntKind.wrap .i64 (a4+1)),()))
 |false=>some (.inr (.inl (a0,a1,())))
def Tq[Lk]:(List (List U1)×Unit)→Option (Uz):=fun(a0,_)=>
 match AQ AGw many (a0,0,a0,(AJ a0),0,())with|none=>none|some r=>match r with
 |.inl (o0,o1,_)=>match ATX (o1,())with|none=>none|some (y2,_)=>match AQ AGv many (y2,o0,(AJ o0),0,())with|none=>none|some r=>match r with
  |.inl (o3,_)=>some (o3,())
  |.inr _=>none
 |.inr _=>none
def XP[Lk]:=fun v=>Lk.f (Tq v)
theorem AG1 v:XP v=Tq v:=AD _
abbrev Cx:AB:=[(.tmp 0,.dat U7),(.cap 1 0,.box 1),(.cell 0 0,.dat U7),(.tmp 1,.clo 213 [(0,0)])]
abbrev Gi:AB:=[(.obj 0,.box 1),(.cell 0 0,.dat U7),(.tmp 0,.di)]
abbrev KZ:AB:=[(.obj 0,.box 1),(.cell 0 0,.dat U7),(.tmp 0,.dat U7),(.tmp 1,.clo 213 [(0,0)]),(.tmp 7,.di),(.tmp 8,.di)]
abbrev KY:AT:=[(.ret,[(.obj 0,.box 1),(.cell 0 0,.dat U7),(.tmp 4,.di)]),(.exit 0,[(.obj 0,.box 1),(.cell 0 0,.dat U7)])]
def KX[Lk]:(List Int×List Int×Int×Int×Unit)→Option ((List Int×List Int×Int×Int×Unit)⊕Ut⊕Uc⊕Unit):=fun(a0,a1,a2,a3,_)=>
 match(ilt a3 a2)with
 |true=>match idx a1 a3 with|none=>none|some x0=>match(ilt x0 0)with
  |true=>some (.inr (.inl (a0,a3,())))
  |false=>match(ile (AJ a0) x0)with
  |true=>some (.inr (.inl (a0,a3,())))
  |false=>some (.inl (a0,a1,a2,(IntKind.wrap .i64 (a3+1)),()))
 |false=>some (.inr (.inr (.inl (a0,()))))
def Gj[Lk]:(List Int×List Int×Unit)→Option (Ut):=fun(a0,a1,_)=>
 match AQ KX many (a1,a0,(AJ a0),0,())with|none=>none|some r=>match r with
 |.inl (o0,o1,_)=>some (o0,o1,())
 |.inr r=>match r with
 |.inl (o2,_)=>some (o2,(-1:Int),())
 |.inr _=>none
def FN[Lk]:=fun v=>Lk.f (Gj v)
theorem Ka v:FN v=Gj v:=AD _
abbrev GM:AB:=[(.obj 0,.box 1),(.cell 0 0,.dat U7),(.tmp 0,.dat .bool)]
def GN[Lk]:(List Int×List Int×Unit)→Option (Vl):=fun(a0,a1,_)=>
 match FN (a0,a1,())with|none=>none|some (y0,y1,_)=>some (y0,(ile 0 y1),())
def Ee[Lk]:=fun v=>Lk.f (GN v)
theorem Jv v:Ee v=GN v:=AD _
end
end Go.Pev
end
section
namespace Go.Pev
noncomputable section
abbrev ABe:AB:=[(.tmp 0,.dat U7),(.cap 1 0,.box 1),(.cell 0 0,.dat U7),(.cap 1 1,.box 3),(.cell 1 0,.di),(.cell 1 1,.di),(.cell 1 2,.di),(.tmp 1,.clo 166 [(0,0),(1,0)])]
abbrev ABd:AB:=[(.obj 0,.box 1),(.cell 0 0,.dat U7),(.obj 1,.box 3),(.cell 1 0,.di),(.cell 1 1,.di),(.cell 1 2,.di),(.tmp 0,.di)]
abbrev AOS:AB:=[(.obj 0,.box 1),(.cell 0 0,.dat U7),(.obj 1,.box 3),(.cell 1 0,.di),(.cell 1 1,.di),(.cell 1 2,.di),(.tmp 1,.clo 166 [(0,0),(1,0)]),(.tmp 4,.di),(.tmp 7,.dat U7),(.tmp 8,.di),(.tmp 9,.di)]
abbrev AOR:AT:=[(.exit 0,[(.obj 0,.box 1),(.cell 0 0,.dat U7),(.obj 1,.box 3),(.cell 1 0,.di),(.cell 1 1,.di),(.cell 1 2,.di),(.tmp 4,.di)])]
def AOQ[Lk]:(List Int×Int×Int×Int×Int×List Int×Int×Int×Unit)→Option ((List Int×Int×Int×Int×Int×List Int×Int×Int×Unit)⊕Ul⊕Unit):=fun(a0,a1,a2,a3,a4,a5,a6,a7,_)=>
 match(ilt a7 a6)with
 |true=>match idx a5 a7 with|none=>none|some x0=>match idx a0 a2 with|none=>none|some x1=>match(ieq x0 x1)with
  |true=>some (.inl (a0,a1,a2,a3,(IntKind.wrap .i64 (a4+1)),a5,a6,(IntKind.wrap .i64 (a7+1)),()))
  |false=>some (.inl (a0,a1,a2,a3,a4,a5,a6,(IntKind.wrap .i64 (a7+1)),()))
 |false=>some (.inr (.inl (a0,a1,a2,a3,a4,())))
def ABf[Lk]:(List Int×List Int×Int×Int×Int×Unit)→Option (Ul):=fun(a0,a1,a2,a3,a4,_)=>
 match AQ AOQ many (a1,a2,a3,a4,0,a0,(AJ a0),0,())with|none=>none|some r=>match r with
 |.inl (o0,o1,o2,o3,o4,_)=>some (o0,o1,o2,o3,o4,())
 |.inr _=>none
def XM[Lk]:=fun v=>Lk.f (ABf v)
theorem AOT v:XM v=ABf v:=AD _
abbrev ABb:AB:=[(.tmp 0,.dat U7),(.tmp 1,.clo 167 [])]
abbrev AOO:AB:=[(.tmp 1,.clo 167 []),(.tmp 4,.di),(.tmp 7,.dat U7),(.tmp 8,.di),(.tmp 9,.di)]
abbrev AON:AT:=[(.exit 0,[(.tmp 4,.di)])]
def AOM[Lk]:(Int×List Int×Int×Int×Unit)→Option ((Int×List Int×Int×Int×Unit)⊕Ua⊕Unit):=fun(a0,a1,a2,a3,_)=>
 match(ilt a3 a2)with
 |true=>match idx a1 a3 with|none=>none|some x0=>match(ieq a3 x0)with
  |true=>some (.inl ((IntKind.wrap .i64 (a0+1)),a1,a2,(IntKind.wrap .i64 (a3+1)),()))
  |false=>some (.inl (a0,a1,a2,(IntKind.wrap .i64 (a3+1)),()))
 |false=>some (.inr (.inl (a0,())))
def ABc[Lk]:Uc→Option (Ua):=fun(a0,_)=>
 match AQ AOM many (0,a0,(AJ a0),0,())with|none=>none|some r=>match r with
 |.inl (o0,_)=>some (o0,())
 |.inr _=>none
def AGt[Lk]:=fun v=>Lk.f (ABc v)
theorem AOP v:AGt v=ABc v:=AD _
abbrev SW:AB:=[(.tmp 0,.dat (.slice (.int .u8))),(.tmp 1,.di)]
def SX[Lk]:Ut→Option ((Int×Bool×Unit)):=fun(a0,a1,_)=>
 match(ilt a1 0)with
 |true=>some (0,false,())
 |false=>match(ilt (IntKind.wrap .i64 ((AJ a0)-2)) a1)with
 |true=>some (0,false,())
 |false=>match idx a0 a1 with|none=>none|some x0=>match shl? .i64 (IntKind.wrap .i64 x0) 8 with|none=>none|some x1=>match idx a0 (IntKind.wrap .i64 (a1+1))with|none=>none|some x2=>some ((IntKind.wrap .i64 ((BitVec.ofInt (IntKind.bits .i64) x1 ||| BitVec.ofInt (IntKind.bits .i64) (IntKind.wrap .i64 x2)).toNat)),true,())
def AIE[Lk]:=fun v=>Lk.f (SX v)
theorem AD7 v:AIE v=SX v:=AD _
def AJe[Lk]:(U1×U1×Unit)→Option (Ua):=fun(a0,a1,_)=>
 match Ap ((a0.1,(a0.2.1,())),(a1.1,(a1.2.1,())),())with|none=>none|some (y0,_)=>some (y0,())
def Bu[Lk]:=fun v=>Lk.f (AJe v)
theorem ATh v:Bu v=AJe v:=AD _
abbrev FK:AB:=[(.tmp 0,.own 73 U2),(.tmp 1,.di),(.tmp 2,.di),(.tmp 3,.clo 114 [])]
abbrev C2:AB:=[(.obj 0,.own 73 U2)]
abbrev AXY:AB:=[(.obj 0,.own 73 U2),(.tmp 0,.own' 0),(.tmp 1,.di),(.tmp 2,.di),(.tmp 3,.clo 114 []),(.tmp 8,.di),(.tmp 9,.di)]
abbrev AXX:AT:=[(.exit 2,[(.obj 0,.own 73 U2),(.tmp 0,.own' 0),(.tmp 1,.di),(.tmp 2,.di),(.tmp 3,.clo 114 []),(.tmp 8,.di)])]
abbrev AXZ:AB:=[(.obj 0,.own 73 U2),(.tmp 0,.own' 0),(.tmp 1,.di),(.tmp 2,.di),(.tmp 3,.clo 114 []),(.tmp 8,.di)]
abbrev Wq:AT:=[(.exit 0,[(.obj 0,.own 73 U2)])]
def Aaa[Lk]:Un→Option (Uz):=Wt ((0,(0,(0,(false,())))):U1) Bu
def AbI[Lk](v:Un):Option (Uz):=AXn ((0,(0,(0,(false,())))):U1) Bu v
theorem AXa v:AbI v=Aaa v:=AD _
abbrev Dz:AB:=[(.tmp 0,.own 73 U2),(.tmp 1,.di),(.tmp 2,.di),(.tmp 3,.di),(.tmp 4,.clo 114 [])]
abbrev AQe:AB:=[(.obj 0,.own 73 U2),(.tmp 0,.own' 0),(.tmp 2,.di),(.tmp 3,.di),(.tmp 4,.clo 114 []),(.tmp 10,.di)]
abbrev AQd:AT:=[(.exit 0,[(.obj 0,.own 73 U2)]),(.ret,[(.obj 0,.own 73 U2)])]
def AWL[Lk]:Ur→Option (Uz):=OY ((0,(0,(0,(false,())))):U1) Bu
def AY3[Lk](v:Ur):Option (Uz):=Y8 ((0,(0,(0,(false,())))):U1) Bu v
theorem AQf v:AY3 v=AWL v:=AD _
abbrev AS9:AB:=[(.obj 0,.own 73 U2),(.tmp 0,.own' 0),(.tmp 3,.clo 114 []),(.tmp 8,.di),(.tmp 9,.di),(.tmp 12,.di)]
abbrev AS7:AT:=[(.exit 2,[(.obj 0,.own 73 U2)])]
abbrev ATA:AB:=[(.obj 0,.own 73 U2),(.tmp 0,.own' 0),(.tmp 3,.clo 114 []),(.tmp 8,.di),(.tmp 9,.di),(.tmp 10,.di),(.tmp 11,.di)]
abbrev AS8:AT:=[(.exit 0,[(.obj 0,.own 73 U2),(.tmp 0,.own' 0),(.tmp 3,.clo 114 []),(.tmp 8,.di),(.tmp 9,.di),(.tmp 10,.di)])]
def AXv[Lk]:Un→Option (Uz):=Oi ((0,(0,(0,(false,())))):U1) Bu
def AZH[Lk](v:Un):Option (Uz):=AJY ((0,(0,(0,(false,())))):U1) Bu v
theorem ATB v:AZH v=AXv v:=AD _
abbrev AOo:AB:=[(.obj 0,.own 73 U2),(.tmp 0,.own' 0),(.tmp 1,.di),(.tmp 8,.di),(.tmp 9,.box 1),(.cell 1 0,.dat (.int .u64)),(.tmp 10,.dat (.int .u64)),(.tmp 11,.di)]
def AUT[Lk]:Un→Option (Uz):=L0 ((0,(0,(0,(false,())))):U1) Bu
def breakT[Lk](v:Un):Option (Uz):=Xd ((0,(0,(0,(false,())))):U1) Bu v
theorem AOp v:breakT v=AUT v:=AD _
abbrev S9:AB:=[(.tmp 0,.own 73 U2),(.tmp 1,.di),(.tmp 2,.di),(.tmp 3,.box 1),(.cell 1 0,.di),(.tmp 4,.clo 114 [])]
abbrev S8:AB:=[(.obj 0,.own 73 U2),(.obj 1,.box 1),(.cell 1 0,.di),(.tmp 0,.di),(.tmp 1,.di)]
def AMl[Lk]:Ur→Option (Ur):=JZ ((0,(0,(0,(false,())))):U1) Bu
def AJF[Lk](v:Ur):Option (Ur):=Ja ((0,(0,(0,(false,())))):U1) Bu v
theorem AFp v:AJF v=AMl v:=AD _
abbrev TI:AB:=[(.tmp 0,.own 73 U2),(.tmp 1,.di),(.tmp 2,.di),(.tmp 3,.di),(.tmp 4,.box 1),(.cell 1 0,.di),(.tmp 5,.clo 114 [])]
abbrev Jb:AB:=[(.obj 0,.own 73 U2),(.obj 1,.box 1),(.cell 1 0,.di),(.tmp 0,.di)]
def AMv[Lk]:(List U1×Int×Int×Int×Int×Unit)→Option (Un):=Je ((0,(0,(0,(false,())))):U1) Bu
def AJL[Lk](v:(List U1×Int×Int×Int×Int×Unit)):Option (Un):=Jf ((0,(0,(0,(false,())))):U1) Bu v
theorem AFz v:AJL v=AMv v:=AD _
abbrev TN:AB:=[(.tmp 0,.own 73 U2),(.tmp 1,.di),(.tmp 2,.box 1),(.cell 1 0,.di),(.tmp 3,.clo 114 [])]
def AM2[Lk]:Un→Option (Un):=Jh ((0,(0,(0,(false,())))):U1) Bu
def AJO[Lk](v:Un):Option (Un):=Ji ((0,(0,(0,(false,())))):U1) Bu v
theorem AF3 v:AJO v=AM2 v:=AD _
abbrev Zn:AB:=[(.obj 0,.own 73 U2),(.tmp 0,.di),(.tmp 1,.di)]
def ARX[Lk]:Un→Option (Un):=K5 ((0,(0,(0,(false,())))):U1) Bu
def ARZ[Lk](v:Un):Option (Un):=WS ((0,(0,(0,(false,())))):U1) Bu v
theorem AMQ v:ARZ v=ARX v:=AD _
abbrev AWX:AB:=[(.obj 0,.own 73 U2),(.tmp 0,.own' 0),(.tmp 8,.di),(.tmp 9,.di)]
def AZj[Lk]:Un→Option (Uz):=WK ((0,(0,(0,(false,())))):U1) Bu
def Aa8[Lk](v:Un):Option (Uz):=AWf ((0,(0,(0,(false,())))):U1) Bu v
theorem AWY v:Aa8 v=AZj v:=AD _
abbrev Pb:AB:=[(.obj 0,.own 73 U2),(.tmp 0,.dat .bool)]
abbrev Z3:AB:=[(.obj 0,.own 73 U2),(.tmp 0,.own' 0),(.tmp 1,.di),(.tmp 2,.di),(.tmp 3,.clo 114 []),(.tmp 9,.di),(.tmp 10,.di),(.tmp 12,.di)]
abbrev Zz:AT:=[(.exit 6,[(.obj 0,.own 73 U2),(.tmp 0,.own' 0),(.tmp 1,.di),(.tmp 2,.di),(.tmp 3,.clo 114 []),(.tmp 9,.di),(.tmp 10,.di)])]
abbrev Z4:AB:=[(.obj 0,.own 73 U2),(.tmp 0,.own' 0),(.tmp 1,.di),(.tmp 2,.di),(.tmp 3,.clo 114 []),(.tmp 9,.di),(.tmp 10,.di),(.tmp 11,.di)]
abbrev Z0:AT:=[(.exit 4,[(.obj 0,.own 73 U2),(.tmp 0,.own' 0),(.tmp 1,.di),(.tmp 2,.di),(.tmp 3,.clo 114 []),(.tmp 9,.di),(.tmp 10,.di)])]
abbrev M9:AB:=[(.obj 0,.own 73 U2),(.tmp 0,.own' 0),(.tmp 1,.di),(.tmp 2,.di),(.tmp 3,.clo 114 []),(.tmp 9,.di),(.tmp 10,.di)]
abbrev Z1:AT:=[(.exit 2,[(.obj 0,.own 73 U2),(.tmp 0,.own' 0),(.tmp 1,.di),(.tmp 2,.di),(.tmp 3,.clo 114 []),(.tmp 9,.di),(.tmp 10,.di)])]
abbrev Z2:AT:=[(.ret,[(.obj 0,.own 73 U2),(.tmp 8,.dat .bool)]),(.exit 0,[(.obj 0,.own 73 U2)])]
def AFM[Lk]:Un→Option ((List U1×Bool×Unit)):=Hp ((0,(0,(0,(false,())))):U1) Bu
def Z6[Lk](v:Un):Option ((List U1×Bool×Unit)):=K6 ((0,(0,(0,(false,())))):U1) Bu v
theorem Z5 v:Z6 v=AFM v:=AD _
abbrev S3:AB:=[(.obj 0,.own 73 U2),(.tmp 0,.di)]
abbrev KL:AB:=[(.obj 0,.own 73 U2),(.tmp 0,.own' 0),(.tmp 1,.di),(.tmp 4,.clo 114 []),(.tmp 11,.di),(.tmp 12,.di)]
abbrev AFT:AT:=[(.exit 4,[(.obj 0,.own 73 U2),(.tmp 0,.own' 0),(.tmp 1,.di),(.tmp 4,.clo 114 []),(.tmp 11,.di),(.tmp 12,.di)])]
abbrev AFU:AT:=[(.exit 2,[(.obj 0,.own 73 U2),(.tmp 0,.own' 0),(.tmp 1,.di),(.tmp 4,.clo 114 []),(.tmp 11,.di),(.tmp 12,.di)])]
abbrev AFV:AT:=[(.exit 0,[(.obj 0,.own 73 U2),(.tmp 11,.di)])]
def AMd[Lk]:Ur→Option ((List U1×Int×Unit)):=JY ((0,(0,(0,(false,())))):U1) Bu
def AJB[Lk](v:Ur):Option ((List U1×Int×Unit)):=Od ((0,(0,(0,(false,())))):U1) Bu v
theorem AFW v:AJB v=AMd v:=AD _
abbrev AI6:AB:=[(.obj 0,.own 73 U2),(.tmp 0,.di),(.tmp 1,.dat .bool)]
abbrev Ia:AB:=[(.obj 0,.own 73 U2),(.tmp 0,.own' 0),(.tmp 1,.di),(.tmp 4,.clo 114 []),(.tmp 12,.di),(.tmp 13,.di)]
abbrev AR0:AT:=[(.exit 8,[(.obj 0,.own 73 U2),(.tmp 0,.own' 0),(.tmp 1,.di),(.tmp 4,.clo 114 []),(.tmp 12,.di),(.tmp 13,.di)])]
abbrev AR1:AT:=[(.exit 6,[(.obj 0,.own 73 U2),(.tmp 0,.own' 0),(.tmp 1,.di),(.tmp 4,.clo 114 []),(.tmp 12,.di),(.tmp 13,.di)])]
abbrev AR2:AT:=[(.exit 4,[(.obj 0,.own 73 U2),(.tmp 0,.own' 0),(.tmp 1,.di),(.tmp 13,.di)])]
abbrev AR3:AT:=[(.exit 2,[(.obj 0,.own 73 U2),(.tmp 0,.own' 0),(.tmp 1,.di),(.tmp 4,.clo 114 []),(.tmp 12,.di),(.tmp 13,.di)])]
abbrev AR4:AT:=[(.exit 0,[(.obj 0,.own 73 U2),(.tmp 0,.own' 0),(.tmp 1,.di),(.tmp 4,.clo 114 []),(.tmp 12,.di),(.tmp 13,.di)])]
def AW8[Lk]:Ur→Option ((List U1×Int×Bool×Unit)):=Oc ((0,(0,(0,(false,())))):U1) Bu
def AZD[Lk](v:Ur):Option ((List U1×Int×Bool×Unit)):=AAa ((0,(0,(0,(false,())))):U1) Bu v
theorem AR5 v:AZD v=AW8 v:=AD _
abbrev AIx:AB:=[(.obj 0,.own 73 U2),(.tmp 0,.own' 0),(.tmp 1,.di),(.tmp 2,.di),(.tmp 3,.di),(.tmp 4,.clo 114 []),(.tmp 10,.dat .bool),(.tmp 11,.dat .bool)]
abbrev AIw:AT:=[(.ret,[(.obj 0,.own 73 U2)])]
def AIv[Lk](self:Ur→Option (Uz)):(List U1×Int×Int×Int×Bool×Bool×Unit)→Option ((List U1×Int×Int×Int×Bool×Bool×Unit)⊕Uz⊕Unit):=Oa ((0,(0,(0,(false,())))):U1) Bu self
def AZ9[Lk](self:Ur→Option (Uz)):Ur→Option (Uz):=Wb ((0,(0,(0,(false,())))):U1) Bu self
def PX[Lk]:Nat→Ur→Option (Uz):=PZ ((0,(0,(0,(false,())))):U1) Bu
def AWv[Lk](v:Ur):Option (Uz):=AW3 ((0,(0,(0,(false,())))):U1) Bu v
theorem AWu v:AWv v=PX 100 v:=AD _
abbrev AIa:AB:=[(.tmp 0,.own 73 U2),(.tmp 1,.clo 114 [])]
def AWD[Lk]:Uz→Option (Uz):=OW ((0,(0,(0,(false,())))):U1) Bu
def AQR[Lk](v:Uz):Option (Uz):=AQW ((0,(0,(0,(false,())))):U1) Bu v
theorem AQQ v:AQR v=AWD v:=AD _
def AJd[Lk]:(Ui×Int×Unit)→Option (Uk):=fun(a0,a1,_)=>
 some ((ile (IntKind.wrap .i64 ((AJ a0.2.1)+a1)) 400),())
def ATb[Lk]:=fun v=>Lk.f (AJd v)
theorem ATa v:ATb v=AJd v:=AD _
def IK[Lk]:Uc→Option (Uk):=fun(a0,_)=>
 match H5 (a0,())with|none=>none|some (y0,_)=>some ((ile 0 y0),())
def G5[Lk]:=fun v=>Lk.f (IK v)
theorem Mk v:G5 v=IK v:=AD _
abbrev Gp:AB:=[(.obj 0,.box 2),(.cell 0 0,.di),(.cell 0 1,.dat Uf),(.tmp 0,.dat .bool)]
def Gq[Lk]:(List Int×Int×List U6×Unit)→Option ((Int×List U6×Bool×Unit)):=fun(a0,a1,a2,_)=>
 match GJ (a0,a1,a2,())with|none=>none|some (y0,y1,y2,_)=>some (y0,y1,(ile 0 y2),())
def FP[Lk]:=fun v=>Lk.f (Gq v)
theorem Kh v:FP v=Gq v:=AD _
abbrev Ls:AB:=[(.obj 0,.own 63 U3),(.obj 1,.box 1),(.cell 1 0,.map U3 U0),(.obj 2,.map' 2),(.tmp 0,.win' 0)]
abbrev Ru:AB:=[(.obj 0,.own 63 U3),(.obj 1,.box 1),(.cell 1 0,.map U3 U0),(.obj 2,.map' 2),(.tmp 0,.own' 0),(.tmp 1,.clo 45 [(1,0)]),(.tmp 5,.di),(.tmp 6,.di)]
abbrev Rt:AT:=[(.exit 0,[(.obj 0,.own 63 U3),(.obj 1,.box 1),(.cell 1 0,.map U3 U0),(.obj 2,.map' 2),(.tmp 0,.own' 0),(.tmp 5,.di)])]
def Rs[Lk]:(List U4×List Vi×Int×Int×Unit)→Option ((List U4×List Vi×Int×Int×Unit)⊕(List U4×List Vi×Int×Unit)⊕Unit):=fun(a0,a1,a2,a3,_)=>
 match(ilt a3 (AJ a0))with
 |true=>match idx a0 a3 with|none=>none|some x0=>match(!(ieq ((AO a1 ((AI a0 (AE a3) (0,(0,()))).1,((AI a0 (AE a3) (0,(0,()))).2.1,()))).getD 0) 0))with
  |true=>match idx a0 a2 with|none=>none|some x1=>some (.inl ((AX a0 (AE a2) ((AI a0 (AE a3) (0,(0,()))).1,((AI a0 (AE a3) (0,(0,()))).2.1,()))),a1,(IntKind.wrap .i64 (a2+1)),(IntKind.wrap .i64 (a3+1)),()))
  |false=>some (.inl (a0,a1,a2,(IntKind.wrap .i64 (a3+1)),()))
 |false=>some (.inr (.inl (a0,a1,a2,())))
def Lt[Lk]:(List U4×List Vi×Unit)→Option ((List U4×List Vi×Int×Unit)):=fun(a0,a1,_)=>
 match Kd (a0,a1,())with|none=>none|some (y0,y1,y2,_)=>match(ieq y2 (-1:Int))with
 |true=>some (y0,y1,(AJ y0),())
 |false=>match AQ Rs many (y0,y1,y2,(IntKind.wrap .i64 (y2+1)),())with|none=>none|some r=>match r with
 |.inl (o3,o4,o5,_)=>match EU o3 o5 (AJ o3)with|none=>none|some x6=>match EU (Cj (AE o5) (AE (AJ x6)) (0,(0,())) o3) 0 o5 with|none=>none|some x7=>some ((Cj (AE o5) (AE (AJ x6)) (0,(0,())) o3),o4,(((AE (AJ x7)):Nat):Int),())
 |.inr _=>none
def Kg[Lk]:=fun v=>Lk.f (Lt v)
theorem Rv v:Kg v=Lt v:=AD _
abbrev J5:AB:=[(.obj 0,.box 2),(.cell 0 0,.di),(.cell 0 1,.dat Us),(.tmp 0,.dat .bool)]
def J6[Lk]:(List Int×Int×List U1×Unit)→Option ((Int×List U1×Bool×Unit)):=fun(a0,a1,a2,_)=>
 match Kb (a0,a1,a2,())with|none=>none|some (y0,y1,y2,_)=>some (y0,y1,(ile 0 y2),())
def I3[Lk]:=fun v=>Lk.f (J6 v)
theorem QI v:I3 v=J6 v:=AD _
abbrev Iz:AB:=[(.obj 0,.own 3 U0),(.obj 1,.box 2),(.cell 1 0,.di),(.cell 1 1,.dat Uf),(.tmp 0,.win' 0)]
abbrev N6:AB:=[(.obj 0,.own 3 U0),(.obj 1,.box 2),(.cell 1 0,.di),(.cell 1 1,.dat Uf),(.tmp 0,.own' 0),(.tmp 1,.clo 217 [(1,0)]),(.tmp 5,.di),(.tmp 6,.di)]
abbrev N5:AT:=[(.exit 0,[(.obj 0,.own 3 U0),(.obj 1,.box 2),(.cell 1 0,.di),(.cell 1 1,.dat Uf),(.tmp 0,.own' 0),(.tmp 5,.di)])]
def N4[Lk]:(List Int×Int×List U6×Int×Int×Unit)→Option ((List Int×Int×List U6×Int×Int×Unit)⊕(List Int×Int×List U6×Int×Unit)⊕Unit):=fun(a0,a1,a2,a3,a4,_)=>
 match(ilt a4 (AJ a0))with
 |true=>match idx a0 a4 with|none=>none|some x0=>match(!(ile a1 (AI a0 (AE a4) 0)))with
  |true=>match idx a0 a3 with|none=>none|some x1=>some (.inl ((AX a0 (AE a3) (AI a0 (AE a4) 0)),a1,a2,(IntKind.wrap .i64 (a3+1)),(IntKind.wrap .i64 (a4+1)),()))
  |false=>some (.inl (a0,a1,a2,a3,(IntKind.wrap .i64 (a4+1)),()))
 |false=>some (.inr (.inl (a0,a1,a2,a3,())))
def I0[Lk]:(List Int×Int×List U6×Unit)→Option ((List Int×Int×List U6×Int×Unit)):=fun(a0,a1,a2,_)=>
 match H6 (a0,a1,a2,())with|none=>none|some (y0,y1,y2,y3,_)=>match(ieq y3 (-1:Int))with
 |true=>some (y0,y1,y2,(AJ y0),())
 |false=>match AQ N4 many (y0,y1,y2,y3,(IntKind.wrap .i64 (y3+1)),())with|none=>none|some r=>match r with
 |.inl (o4,o5,o6,o7,_)=>match EU o4 o7 (AJ o4)with|none=>none|some x8=>match EU (Cj (AE o7) (AE (AJ x8)) 0 o4) 0 o7 with|none=>none|some x9=>some ((Cj (AE o7) (AE (AJ x8)) 0 o4),o5,o6,(((AE (AJ x9)):Nat):Int),())
 |.inr _=>none
def ID[Lk]:=fun v=>Lk.f (I0 v)
theorem N7 v:ID v=I0 v:=AD _
def ABY[Lk]:(List Int×List Int×Unit)→Option (Uk):=fun(a0,a1,_)=>
 match Ee (a1,a0,())with|none=>none|some (y0,y1,_)=>some ((!y1),())
def QG[Lk]:=fun v=>Lk.f (ABY v)
theorem AOC v:QG v=ABY v:=AD _
abbrev Tv:AB:=[(.tmp 0,.dat U7),(.tmp 1,.dat (.prod U0 U3))]
def Tw[Lk]:(List Int×Ue×Unit)→Option (U4):=fun(a0,a1,_)=>
 match(ieq a1.1 1)with
 |true=>match QG (a0,([a1.2.1,a1.2.2.1]:List (Int)),())with|none=>none|some (y0,_)=>match(!y0)with
  |true=>some (0,10,())
  |false=>match idx a0 a1.2.1 with|none=>none|some x1=>match idx a0 a1.2.2.1 with|none=>none|some x2=>match(ieq x1 x2)with
  |true=>some (1,0,())
  |false=>some (0,0,())
 |false=>match(ieq a1.1 2)with
 |true=>match QG (a0,([a1.2.1]:List (Int)),())with|none=>none|some (y3,_)=>match(!y3)with
  |true=>some (0,10,())
  |false=>match(ieq a1.1 2)with
  |true=>match idx a0 a1.2.1 with|none=>none|some x4=>some (x4,0,())
  |false=>match XM (a0,a0,a1.1,a1.2.1,a1.2.2.1,())with|none=>none|some (y5,y6,y7,y8,y9,_)=>some (y9,0,())
 |false=>match(ieq a1.1 3)with
 |true=>match QG (a0,([a1.2.1]:List (Int)),())with|none=>none|some (y10,_)=>match(!y10)with
  |true=>some (0,10,())
  |false=>match(ieq a1.1 2)with
  |true=>match idx a0 a1.2.1 with|none=>none|some x11=>some (x11,0,())
  |false=>match XM (a0,a0,a1.1,a1.2.1,a1.2.2.1,())with|none=>none|some (y12,y13,y14,y15,y16,_)=>some (y16,0,())
 |false=>match(ieq a1.1 4)with
 |true=>match AGt (a0,())with|none=>none|some (y17,_)=>some (y17,0,())
 |false=>some (0,1,())
def Xa[Lk]:=fun v=>Lk.f (Tw v)
theorem AHM v:Xa v=Tw v:=AD _
def ZT[Lk]:Uc→Option (Uk):=fun(a0,_)=>
 match(ilt 1000 (AJ a0))with
 |true=>some (false,())
 |false=>match G5 (a0,())with|none=>none|some (y0,_)=>match(!y0)with
 |true=>match once (a0,())with|none=>none|some (y1,_)=>some (y1,())
 |false=>some (false,())
def PS[Lk]:=fun v=>Lk.f (ZT v)
theorem AL7 v:PS v=ZT v:=AD _
abbrev HE:AB:=[(.tmp 0,.own 3 U0),(.tmp 1,.dat .bool)]
abbrev AMO:AB:=[(.tmp 0,.dat U7),(.tmp 6,.own 3 U0),(.tmp 12,.dat U7),(.tmp 13,.di),(.tmp 14,.di)]
abbrev AMN:AT:=[(.exit 0,[(.tmp 6,.own 3 U0)])]
def AMM[Lk]:Vm→Option (Vm⊕Uc⊕Unit):=fun(a0,a1,a2,a3,a4,_)=>
 match(ilt a4 a3)with
 |true=>match idx a2 a4 with|none=>none|some x0=>match Ps (a0,x0,())with|none=>none|some (y1,_)=>match(fits ((AJ a1)+(AJ ([y1]:List (Int)))))with
  |true=>some (.inl (a0,(BE a1 ([y1]:List (Int))),a2,a3,(IntKind.wrap .i64 (a4+1)),()))
  |false=>none
 |false=>some (.inr (.inl (a1,())))
def Zm[Lk]:(List Int×List Int×Unit)→Option (Vl):=fun(a0,a1,_)=>
 match PS (a0,())with|none=>none|some (y0,_)=>match(!y0)with
 |true=>some (([]:List (Int)),false,())
 |false=>match AQ AMM many (a0,([]:List (Int)),a1,(AJ a1),0,())with|none=>none|some r=>match r with
 |.inl (o1,_)=>match Ft (o1,(-1:Int),())with|none=>none|some (y2,_)=>some (o1,(!y2),())
 |.inr _=>none
def AE4[Lk]:=fun v=>Lk.f (Zm v)
theorem AMP v:AE4 v=Zm v:=AD _
def AIm[Lk]:Ut→Option (Vl):=fun(a0,a1,_)=>
 match AE4 (a0,([a1]:List (Int)),())with|none=>none|some (y0,y1,_)=>match(!y1)with
 |true=>some (([]:List (Int)),false,())
 |false=>match idx y0 0 with|none=>none|some x2=>match VZ (a0,(AI y0 0 0),())with|none=>none|some (y3,_)=>some (y3,true,())
def AIn[Lk]:=fun v=>Lk.f (AIm v)
theorem ARD v:AIn v=AIm v:=AD _
def ZU[Lk]:Uc→Option (Uc):=fun(a0,_)=>
 match PS (a0,())with|none=>none|some (y0,_)=>match(!y0)with
 |true=>some (([]:List (Int)),())
 |false=>match(ieq (AJ a0) 0)with
 |true=>some (([]:List (Int)),())
 |false=>match AXR (a0,())with|none=>none|some (y1,_)=>match Ps (a0,y1,())with|none=>none|some (y2,_)=>match VZ (a0,y2,())with|none=>none|some (y3,_)=>some (y3,())
def AEo[Lk]:=fun v=>Lk.f (ZU v)
theorem AL8 v:AEo v=ZU v:=AD _
abbrev Yp:AB:=[(.tmp 0,.dat Vk)]
abbrev ALO:AB:=[(.tmp 3,.map U0 U0),(.tmp 78,.di),(.tmp 79,.di)]
abbrev ALL:AT:=[(.ret,[(.tmp 2,.dat .bool)]),(.exit 4,[])]
def ALI[Lk]:(List Ux×Int×Int×Unit)→Option ((List Ux×Int×Int×Unit)⊕Uk⊕(Unit)⊕Unit):=fun(a0,a1,a2,_)=>
 match(ilt a2 a1)with
 |true=>match(ieq ((AO a0 a2).getD 0) 0)with
  |true=>some (.inr (.inl (false,())))
  |false=>some (.inl (a0,a1,(IntKind.wrap .i64 (a2+1)),()))
 |false=>some (.inr (.inr (.inl ())))
abbrev ALP:AB:=[(.tmp 1,.box 2),(.cell 0 0,.di),(.cell 0 1,.dat Uf),(.tmp 3,.map U0 U0),(.tmp 4,.di),(.tmp 16,.dat Uf),(.tmp 17,.di),(.tmp 18,.di),(.tmp 26,.dat U7),(.tmp 28,.di),(.tmp 29,.di),(.tmp 30,.dat .bool),(.tmp 33,.dat U7),(.tmp 34,.dat .bool),(.tmp 35,.dat .bool),(.tmp 38,.dat U7),(.tmp 39,.di),(.tmp 40,.dat U7),(.tmp 42,.di),(.tmp 43,.dat .bool),(.tmp 46,.ptr' 0 0),(.tmp 47,.di),(.tmp 48,.dat U7),(.tmp 49,.dat .bool),(.tmp 50,.dat .bool),(.tmp 55,.dat U7),(.tmp 56,.di),(.tmp 57,.di)]
abbrev ALM:AT:=[(.ret,[(.tmp 2,.dat .bool)]),(.exit 2,[(.tmp 1,.box 2),(.cell 0 0,.di),(.cell 0 1,.dat Uf),(.tmp 3,.map U0 U0),(.tmp 4,.di),(.tmp 16,.dat Uf),(.tmp 17,.di),(.tmp 18,.di),(.tmp 26,.dat U7),(.tmp 28,.di),(.tmp 29,.di),(.tmp 30,.dat .bool),(.tmp 33,.dat U7),(.tmp 34,.dat .bool),(.tmp 35,.dat .bool),(.tmp 38,.dat U7),(.tmp 39,.di),(.tmp 40,.dat U7),(.tmp 42,.di),(.tmp 43,.dat .bool),(.tmp 46,.ptr' 0 0),(.tmp 47,.di),(.tmp 48,.dat U7),(.tmp 49,.dat .bool),(.tmp 50,.dat .bool)])]
def ALJ[Lk]:V9→Option (V9⊕Uk⊕(Int×List U6×List Ux×Int×List U6×Int×Int×List Int×Int×Int×Bool×List Int×Bool×Bool×List Int×Int×List Int×Int×Bool×Int×List Int×Bool×Bool×Unit)⊕Unit):=fun(a0,a1,a2,a3,a4,a5,a6,a7,a8,a9,a10,a11,a12,a13,a14,a15,a16,a17,a18,a19,a20,a21,a22,a23,a24,a25,_)=>
 match(ilt a25 a24)with
 |true=>match idx a23 a25 with|none=>none|some x0=>match(ilt x0 a0)with
  |true=>match(ilt 0 ((AO a2 x0).getD 0))with
   |true=>some (.inr (.inl (false,())))
   |false=>some (.inl (a0,a1,(Ao a2 x0 (IntKind.wrap .i64 (((AO a2 x0).getD 0)+1))),a3,a4,a5,a6,a7,a8,a9,a10,a11,a12,a13,a14,a15,a16,a17,a18,a19,a20,a21,a22,a23,a24,(IntKind.wrap .i64 (a25+1)),()))
  |false=>some (.inl (a0,a1,(Ao a2 x0 (IntKind.wrap .i64 (((AO a2 x0).getD 0)+1))),a3,a4,a5,a6,a7,a8,a9,a10,a11,a12,a13,a14,a15,a16,a17,a18,a19,a20,a21,a22,a23,a24,(IntKind.wrap .i64 (a25+1)),()))
 |false=>some (.inr (.inr (.inl (a0,a1,a2,a3,a4,a5,a6,a7,a8,a9,a10,a11,a12,a13,a14,a15,a16,a17,a18,a19,a20,a21,a22,()))))
abbrev ALQ:AB:=[(.tmp 1,.box 2),(.cell 0 0,.di),(.cell 0 1,.dat Uf),(.tmp 3,.map U0 U0),(.tmp 4,.di),(.tmp 16,.dat Uf),(.tmp 17,.di),(.tmp 18,.di)]
abbrev ALN:AT:=[(.ret,[(.tmp 2,.dat .bool)]),(.exit 0,[(.tmp 1,.box 2),(.cell 0 0,.di),(.cell 0 1,.dat Uf),(.tmp 3,.map U0 U0)])]
def ALK[Lk]:(Int×List U6×List Ux×Int×List U6×Int×Int×Unit)→Option ((Int×List U6×List Ux×Int×List U6×Int×Int×Unit)⊕Uk⊕(Int×List U6×List Ux×Unit)⊕Unit):=fun(a0,a1,a2,a3,a4,a5,a6,_)=>
 match(ilt a6 a5)with
 |true=>match idx a4 a6 with|none=>none|some x0=>match(ieq (AJ x0) 0)with
  |true=>some (.inr (.inl (false,())))
  |false=>match idx x0 0 with|none=>none|some x1=>match(ile x1 a3)with
  |true=>some (.inr (.inl (false,())))
  |false=>match PS (x0,())with|none=>none|some (y2,_)=>match(!y2)with
  |true=>some (.inr (.inl (false,())))
  |false=>match AXR (x0,())with|none=>none|some (y3,_)=>match idx x0 0 with|none=>none|some x4=>match(!(ieq y3 x4))with
  |true=>some (.inr (.inl (false,())))
  |false=>match Aaj (a0,x0,())with|none=>none|some (y5,_)=>match(!y5)with
  |true=>some (.inr (.inl (false,())))
  |false=>match idx x0 0 with|none=>none|some x6=>match AQ ALJ many (a0,a1,a2,x6,a4,a5,a6,x0,x1,a3,(ile x1 a3),x0,y2,(!y2),x0,y3,x0,x4,(!(ieq y3 x4)),a0,x0,y5,(!y5),x0,(AJ x0),0,())with|none=>none|some r=>match r with
  |.inl (o7,_)=>some (.inr (.inl (o7,())))
  |.inr r=>match r with
  |.inl (o8,o9,o10,o11,o12,o13,o14,o15,o16,o17,o18,o19,o20,o21,o22,o23,o24,o25,o26,o27,o28,o29,o30,_)=>some (.inl (o8,o9,o10,o11,o12,o13,(IntKind.wrap .i64 (o14+1)),()))
  |.inr _=>none
 |false=>some (.inr (.inr (.inl (a0,a1,a2,()))))
def Yq[Lk]:(Uw×Unit)→Option (Uk):=fun(a0,_)=>
 match MQ (a0.1,())with|none=>none|some (y0,_)=>match(!y0)with
 |true=>some (false,())
 |false=>match AQ ALK many (a0.1,a0.2.1,([]:List Ux),(-1:Int),a0.2.1,(AJ a0.2.1),0,())with|none=>none|some r=>match r with
 |.inl (o1,_)=>some (o1,())
 |.inr r=>match r with
 |.inl (o2,o3,o4,_)=>match AQ ALI many (o4,o2,0,())with|none=>none|some r=>match r with
  |.inl (o5,_)=>some (o5,())
  |.inr r=>match r with
  |.inl _=>some (true,())
  |.inr _=>none
 |.inr _=>none
def MR[Lk]:=fun v=>Lk.f (Yq v)
theorem ALR v:MR v=Yq v:=AD _
abbrev Ov:AB:=[(.tmp 0,.dat Vk),(.tmp 1,.di),(.tmp 2,.di)]
def AJ9[Lk]:(Uw×Int×Int×Unit)→Option (Ua):=fun(a0,a1,a2,_)=>
 match MR ((a0.1,(a0.2.1,())),())with|none=>none|some (y0,_)=>match(!y0)with
 |true=>some (1,())
 |false=>match tin (a0.1,a1,())with|none=>none|some (y1,_)=>match(!y1)with
 |true=>some (10,())
 |false=>match tin (a0.1,a2,())with|none=>none|some (y2,_)=>match(!y2)with
 |true=>some (10,())
 |false=>some (0,())
def asked[Lk]:=fun v=>Lk.f (AJ9 v)
theorem AUz v:asked v=AJ9 v:=AD _
abbrev AIO:AB:=[(.tmp 0,.dat Vk),(.tmp 1,.dat U7),(.tmp 2,.dat Uf)]
abbrev AIN:AB:=[(.tmp 0,.di),(.tmp 1,.own 68 U7)]
abbrev AIM:List RS:=[.agg 2]
abbrev APr:AB:=[(.tmp 3,.box 2),(.cell 0 0,.di),(.cell 0 1,.dat Uf),(.tmp 6,.box 2),(.cell 1 0,.di),(.cell 1 1,.nil U7),(.tmp 7,.own 68 U7),(.tmp 29,.dat Uf),(.tmp 30,.di),(.tmp 31,.di)]
abbrev APp:AT:=[(.exit 2,[(.tmp 3,.box 2),(.cell 0 0,.di),(.cell 0 1,.dat Uf),(.tmp 6,.box 2),(.cell 1 0,.di),(.cell 1 1,.nil U7),(.tmp 7,.own 68 U7)])]
def APn[Lk]:(Int×List U6×Int×List U6×List U6×Int×Int×Unit)→Option ((Int×List U6×Int×List U6×List U6×Int×Int×Unit)⊕(Int×List U6×Int×List U6×Unit)⊕Unit):=fun(a0,a1,a2,a3,a4,a5,a6,_)=>
 match(ilt a6 a5)with
 |true=>match idx a4 a6 with|none=>none|some x0=>match AEo (x0,())with|none=>none|some (y1,_)=>match(fits ((AJ a3)+(AJ ([y1]:List U6))))with
  |true=>some (.inl (a0,a1,a2,(BE a3 ([y1]:List U6)),a4,a5,(IntKind.wrap .i64 (a6+1)),()))
  |false=>none
 |false=>some (.inr (.inl (a0,a1,a2,a3,())))
abbrev APs:AB:=[(.tmp 1,.dat U7),(.tmp 2,.dat Uf),(.tmp 3,.box 2),(.cell 0 0,.di),(.cell 0 1,.dat Uf),(.tmp 6,.box 2),(.cell 1 0,.di),(.cell 1 1,.nil U7),(.tmp 7,.own 68 U7),(.tmp 13,.dat Uf),(.tmp 14,.di),(.tmp 15,.di)]
abbrev APq:AT:=[(.exit 0,[(.tmp 2,.dat Uf),(.tmp 3,.box 2),(.cell 0 0,.di),(.cell 0 1,.dat Uf),(.tmp 6,.box 2),(.cell 1 0,.di),(.cell 1 1,.nil U7),(.tmp 7,.own 68 U7)])]
def APo[Lk]:(List Int×List U6×Int×List U6×Int×List U6×List U6×Int×Int×Unit)→Option ((List Int×List U6×Int×List U6×Int×List U6×List U6×Int×Int×Unit)⊕(List U6×Int×List U6×Int×List U6×Unit)⊕Unit):=fun(a0,a1,a2,a3,a4,a5,a6,a7,a8,_)=>
 match(ilt a8 a7)with
 |true=>match idx a6 a8 with|none=>none|some x0=>match Ft (a0,a8,())with|none=>none|some (y1,_)=>match(!y1)with
  |true=>match(fits ((AJ a5)+(AJ ([x0]:List U6))))with
   |true=>some (.inl (a0,a1,a2,a3,a4,(BE a5 ([x0]:List U6)),a6,a7,(IntKind.wrap .i64 (a8+1)),()))
   |false=>none
  |false=>some (.inl (a0,a1,a2,a3,a4,a5,a6,a7,(IntKind.wrap .i64 (a8+1)),()))
 |false=>some (.inr (.inl (a1,a2,a3,a4,a5,())))
def AIP[Lk]:(Uw×List Int×List U6×Unit)→Option ((Int×List U6×Unit)):=fun(a0,a1,a2,_)=>
 match AQ APo many (a1,a2,a0.1,a0.2.1,0,([]:List U6),a0.2.1,(AJ a0.2.1),0,())with|none=>none|some r=>match r with
 |.inl (o0,o1,o2,o3,o4,_)=>match AQ APn many (o1,o2,o3,o4,o0,(AJ o0),0,())with|none=>none|some r=>match r with
  |.inl (o5,o6,o7,o8,_)=>match AQT (o8,())with|none=>none|some (y9,_)=>some (o5,y9,())
  |.inr _=>none
 |.inr _=>none
def APu[Lk]:=fun v=>Lk.f (AIP v)
theorem APt v:APu v=AIP v:=AD _
abbrev AIS:AB:=[(.tmp 0,.di),(.tmp 1,.dat Uf),(.tmp 2,.di)]
def AIT[Lk]:(Uw×Int×Int×Unit)→Option ((Int×List U6×Int×Unit)):=fun(a0,a1,a2,_)=>
 match asked ((a0.1,(a0.2.1,())),a1,a2,())with|none=>none|some (y0,_)=>match(!(ieq y0 0))with
 |true=>some (a0.1,a0.2.1,y0,())
 |false=>match O9 ((a0.1,(a0.2.1,())),a1,())with|none=>none|some (y1,_)=>match O9 ((a0.1,(a0.2.1,())),a2,())with|none=>none|some (y2,_)=>match(ieq y1 y2)with
 |true=>some (a0.1,a0.2.1,5,())
 |false=>match idx a0.2.1 y1 with|none=>none|some x3=>match AIn (x3,a1,())with|none=>none|some (y4,y5,_)=>match idx a0.2.1 y2 with|none=>none|some x6=>match AIn (x6,a2,())with|none=>none|some (y7,y8,_)=>match EU y4 0 1 with|none=>none|some x9=>match AV8 (a0.1,a1,a2,())with|none=>none|some (y10,_)=>match AV8 (a0.1,a2,a1,())with|none=>none|some (y11,_)=>match EU y4 1 (AJ y4)with|none=>none|some x12=>match Oq (([(HT 0 (AE (AJ x9)) y4),([y10]:List (Int)),y7,([y11]:List (Int)),(HT 1 (AE (AJ x12)) y4)]:List U6),())with|none=>none|some (y13,_)=>match APu ((a0.1,(a0.2.1,())),([y1,y2]:List (Int)),([y13]:List U6),())with|none=>none|some (y14,y15,_)=>some (y14,y15,0,())
def AP8[Lk]:=fun v=>Lk.f (AIT v)
theorem AP7 v:AP8 v=AIT v:=AD _
abbrev AA0:AB:=[(.tmp 0,.dat Vk),(.tmp 1,.dat U7)]
def AA1[Lk]:(Uw×List Int×Unit)→Option (Ua):=fun(a0,a1,_)=>
 match MR ((a0.1,(a0.2.1,())),())with|none=>none|some (y0,_)=>match(!y0)with
 |true=>some (1,())
 |false=>match FP (a1,a0.1,a0.2.1,())with|none=>none|some (y1,y2,y3,_)=>match y3 with
 |true=>some (10,())
 |false=>some (0,())
def P2[Lk]:=fun v=>Lk.f (AA1 v)
theorem ANe v:P2 v=AA1 v:=AD _
abbrev P7:AB:=[(.tmp 0,.dat Vk),(.tmp 1,.dat V8),(.tmp 2,.clo 128 [])]
abbrev IB:AB:=[(.tmp 0,.dat Vk),(.tmp 1,.own 4 .bool),(.tmp 2,.di)]
abbrev ABK:AB:=[(.tmp 2,.clo 128 []),(.tmp 3,.box 2),(.cell 0 0,.di),(.cell 0 1,.dat Uf),(.tmp 6,.box 2),(.cell 1 0,.di),(.cell 1 1,.nil U7),(.tmp 10,.own 4 .bool),(.tmp 23,.dat V8),(.tmp 24,.di),(.tmp 25,.di)]
abbrev ABJ:AT:=[(.exit 0,[(.tmp 3,.box 2),(.cell 0 0,.di),(.cell 0 1,.dat Uf),(.tmp 6,.box 2),(.cell 1 0,.di),(.cell 1 1,.nil U7),(.tmp 10,.own 4 .bool)])]
def ABI[Lk]:(Int×List U6×Int×List Bool×List U4×Int×Int×Unit)→Option ((Int×List U6×Int×List Bool×List U4×Int×Int×Unit)⊕(Int×List U6×Int×List Bool×Unit)⊕Unit):=fun(a0,a1,a2,a3,a4,a5,a6,_)=>
 match(ilt a6 a5)with
 |true=>match idx a4 a6 with|none=>none|some x0=>match AP8 ((a0,(a1,())),x0.1,x0.2.1,())with|none=>none|some (y1,y2,y3,_)=>match(fits ((AJ a3)+(AJ ([(ieq y3 0)]:List (Bool)))))with
  |true=>some (.inl (y1,y2,a2,(BE a3 ([(ieq y3 0)]:List (Bool))),a4,a5,(IntKind.wrap .i64 (a6+1)),()))
  |false=>none
 |false=>some (.inr (.inl (a0,a1,a2,a3,())))
def P8[Lk]:(Uw×List U4×Unit)→Option ((Uw×List Bool×Int×Unit)):=fun(a0,a1,_)=>
 match ends (a1,())with|none=>none|some (y0,_)=>match P2 ((a0.1,(a0.2.1,())),y0,())with|none=>none|some (y1,_)=>match(!(ieq y1 0))with
 |true=>some ((a0.1,(a0.2.1,())),([]:List (Bool)),y1,())
 |false=>match AQ ABI many (a0.1,a0.2.1,0,([]:List (Bool)),a1,(AJ a1),0,())with|none=>none|some r=>match r with
 |.inl (o2,o3,o4,o5,_)=>some ((o2,(o3,())),o5,0,())
 |.inr _=>none
def P9[Lk]:=fun v=>Lk.f (P8 v)
theorem ABL v:P9 v=P8 v:=AD _
abbrev HQ:AB:=[(.tmp 0,.dat Vk),(.tmp 1,.dat V8)]
def AA8[Lk]:(Uw×List U4×Unit)→Option ((Uw×List Bool×Int×Unit)):=fun(a0,a1,_)=>
 match P9 ((a0.1,(a0.2.1,())),a1,())with|none=>none|some (y0,y1,y2,_)=>some ((y0.1,(y0.2.1,())),y1,y2,())
def AGN[Lk]:=fun v=>Lk.f (AA8 v)
theorem ANo v:AGN v=AA8 v:=AD _
def AZK[Lk]:(Int×List U4×Unit)→Option ((Uw×Int×Unit)):=fun(a0,a1,_)=>
 match AP6 (a0,())with|none=>none|some (y0,y1,y2,_)=>match(!(ieq y2 0))with
 |true=>some ((0,(([]:List U6),())),y2,())
 |false=>match AGN ((y0,(y1,())),a1,())with|none=>none|some (y3,y4,y5,_)=>match(!(ieq y5 0))with
 |true=>some ((0,(([]:List U6),())),y5,())
 |false=>some ((y3.1,(y3.2.1,())),0,())
def fof[Lk]:=fun v=>Lk.f (AZK v)
theorem Aam v:fof v=AZK v:=AD _
abbrev DZ:AB:=[(.tmp 0,.dat V4)]
abbrev ANH:AB:=[(.tmp 1,.box 2),(.cell 0 0,.di),(.cell 0 1,.dat Us),(.tmp 3,.di),(.tmp 23,.dat Us),(.tmp 24,.di),(.tmp 25,.di)]
abbrev ANG:AT:=[(.ret,[(.tmp 2,.dat .bool)]),(.exit 0,[(.tmp 1,.box 2),(.cell 0 0,.di),(.cell 0 1,.dat Us)])]
def ANF[Lk]:Vn→Option (Vn⊕Uk⊕(Int×List U1×Unit)⊕Unit):=fun(a0,a1,a2,a3,a4,a5,_)=>
 match(ilt a5 a4)with
 |true=>match idx a3 a5 with|none=>none|some x0=>match(ilt x0.1 0)with
  |true=>some (.inr (.inl (false,())))
  |false=>match(ile x0.2.1 x0.1)with
  |true=>some (.inr (.inl (false,())))
  |false=>match(ile a0 x0.2.1)with
  |true=>some (.inr (.inl (false,())))
  |false=>match(ilt x0.2.2.1 0)with
  |true=>some (.inr (.inl (false,())))
  |false=>match(ilt a2 x0.2.2.1)with
  |true=>some (.inr (.inl (false,())))
  |false=>match(ilt 0 a5)with
  |true=>match idx a1 (IntKind.wrap .i64 (a5-1))with|none=>none|some x1=>match Ih ((x1.1,(x1.2.1,(x1.2.2.1,(x1.2.2.2.1,())))),(x0.1,(x0.2.1,(x0.2.2.1,(x0.2.2.2.1,())))),())with|none=>none|some (y2,_)=>match(ile 0 y2)with
   |true=>some (.inr (.inl (false,())))
   |false=>some (.inl (a0,a1,a2,a3,a4,(IntKind.wrap .i64 (a5+1)),()))
  |false=>some (.inl (a0,a1,a2,a3,a4,(IntKind.wrap .i64 (a5+1)),()))
 |false=>some (.inr (.inr (.inl (a0,a1,()))))
def AAj[Lk]:(Ui×Unit)→Option (Uk):=fun(a0,_)=>
 match Wi (a0.1,())with|none=>none|some (y0,_)=>match(!y0)with
 |true=>some (false,())
 |false=>match(ilt 400 (AJ a0.2.1))with
 |true=>some (false,())
 |false=>match ASh (a0.1,())with|none=>none|some (y1,_)=>match AQ ANF many (a0.1,a0.2.1,y1,a0.2.1,(AJ a0.2.1),0,())with|none=>none|some r=>match r with
 |.inl (o2,_)=>some (o2,())
 |.inr r=>match r with
 |.inl (o3,o4,_)=>match Wh ((o3,(o4,())),0,())with|none=>none|some (y5,_)=>match fof (o3,y5,())with|none=>none|some (y6,y7,_)=>match(ieq y7 0)with
  |true=>some ((ieq (AJ y6.2.1) (IntKind.wrap .i64 (o3-(AJ y5)))),())
  |false=>some (false,())
 |.inr _=>none
def Cg[Lk]:=fun v=>Lk.f (AAj v)
theorem ANI v:Cg v=AAj v:=AD _
def AY1[Lk]:(Uw×Int×Unit)→Option (Ua):=fun(a0,a1,_)=>
 match tin (a0.1,a1,())with|none=>none|some (y0,_)=>match(!y0)with
 |true=>some ((-1:Int),())
 |false=>match MR ((a0.1,(a0.2.1,())),())with|none=>none|some (y1,_)=>match(!y1)with
 |true=>some ((-1:Int),())
 |false=>match O9 ((a0.1,(a0.2.1,())),a1,())with|none=>none|some (y2,_)=>some (y2,())
def tof[Lk]:=fun v=>Lk.f (AY1 v)
theorem AZa v:tof v=AY1 v:=AD _
def TS[Lk]:(Ui×Int×Unit)→Option ((Uw×Int×Unit)):=fun(a0,a1,_)=>
 match Cg ((a0.1,(a0.2.1,())),())with|none=>none|some (y0,_)=>match(!y0)with
 |true=>some ((0,(([]:List U6),())),1,())
 |false=>match Wh ((a0.1,(a0.2.1,())),a1,())with|none=>none|some (y1,_)=>match fof (a0.1,y1,())with|none=>none|some (y2,y3,_)=>some ((y2.1,(y2.2.1,())),y3,())
def Oh[Lk]:=fun v=>Lk.f (TS v)
theorem AF9 v:Oh v=TS v:=AD _
abbrev ANP:AB:=[(.tmp 3,.own 63 U3),(.tmp 10,.dat Us),(.tmp 11,.di),(.tmp 12,.di)]
abbrev ANO:AT:=[(.exit 0,[(.tmp 3,.own 63 U3)])]
def ANN[Lk]:(List U4×List U1×Int×Int×Unit)→Option ((List U4×List U1×Int×Int×Unit)⊕Uu⊕Unit):=fun(a0,a1,a2,a3,_)=>
 match(ilt a3 a2)with
 |true=>match idx a1 a3 with|none=>none|some x0=>match(fits ((AJ a0)+(AJ ([(x0.1,(x0.2.1,()))]:List U4))))with
  |true=>some (.inl ((BE a0 ([(x0.1,(x0.2.1,()))]:List U4)),a1,a2,(IntKind.wrap .i64 (a3+1)),()))
  |false=>none
 |false=>some (.inr (.inl (a0,())))
def AAl[Lk]:(Ui×Unit)→Option (Uu):=fun(a0,_)=>
 match Cg ((a0.1,(a0.2.1,())),())with|none=>none|some (y0,_)=>match(!y0)with
 |true=>some (([]:List U4),())
 |false=>match AQ ANN many (([]:List U4),a0.2.1,(AJ a0.2.1),0,())with|none=>none|some r=>match r with
 |.inl (o1,_)=>some (o1,())
 |.inr _=>none
def Po[Lk]:=fun v=>Lk.f (AAl v)
theorem ANQ v:Po v=AAl v:=AD _
abbrev Ga:AB:=[(.tmp 0,.dat V4),(.tmp 1,.dat V8)]
abbrev JX:AB:=[(.tmp 0,.own 63 U3),(.tmp 1,.di)]
abbrev ARj:AB:=[(.tmp 2,.box 2),(.cell 0 0,.di),(.cell 0 1,.dat Us),(.tmp 6,.box 1),(.cell 1 0,.map U3 U0),(.tmp 13,.dat V8),(.tmp 14,.di),(.tmp 15,.di)]
abbrev ARi:AT:=[(.ret,[(.tmp 4,.nil U3),(.tmp 5,.di)]),(.exit 0,[(.tmp 2,.box 2),(.cell 0 0,.di),(.cell 0 1,.dat Us),(.tmp 6,.box 1),(.cell 1 0,.map U3 U0)])]
def ARh[Lk]:(Int×List U1×List Vi×List U4×Int×Int×Unit)→Option ((Int×List U1×List Vi×List U4×Int×Int×Unit)⊕Ua⊕(Int×List U1×List Vi×Unit)⊕Unit):=fun(a0,a1,a2,a3,a4,a5,_)=>
 match(ilt a5 a4)with
 |true=>match idx a3 a5 with|none=>none|some x0=>match(ilt (EN x0.1 x0.2.1) 0)with
  |true=>some (.inr (.inl (10,())))
  |false=>match(ile a0 (imax x0.1 x0.2.1))with
  |true=>some (.inr (.inl (10,())))
  |false=>match(ile 0 (WQ a2 ((EN x0.1 x0.2.1),((imax x0.1 x0.2.1),())))&&ilt (WQ a2 ((EN x0.1 x0.2.1),((imax x0.1 x0.2.1),()))) (AJ (Ao a2 ((EN x0.1 x0.2.1),((imax x0.1 x0.2.1),())) ((AO a2 ((EN x0.1 x0.2.1),((imax x0.1 x0.2.1),()))).getD 0))))with
  |true=>some (.inl (a0,a1,(ASd (Ao a2 ((EN x0.1 x0.2.1),((imax x0.1 x0.2.1),())) ((AO a2 ((EN x0.1 x0.2.1),((imax x0.1 x0.2.1),()))).getD 0)) (WQ a2 ((EN x0.1 x0.2.1),((imax x0.1 x0.2.1),()))) (IntKind.wrap .i64 (((AO a2 ((EN x0.1 x0.2.1),((imax x0.1 x0.2.1),()))).getD 0)+1))),a3,a4,(IntKind.wrap .i64 (a5+1)),()))
  |false=>none
 |false=>some (.inr (.inr (.inl (a0,a1,a2,()))))
def AIs[Lk]:(Ui×List U4×Unit)→Option ((List U4×Int×Unit)):=fun(a0,a1,_)=>
 match Cg ((a0.1,(a0.2.1,())),())with|none=>none|some (y0,_)=>match(!y0)with
 |true=>some (([]:List U4),1,())
 |false=>match AQ ARh many (a0.1,a0.2.1,([]:List Vi),a1,(AJ a1),0,())with|none=>none|some r=>match r with
 |.inl (o1,_)=>some (([]:List U4),o1,())
 |.inr r=>match r with
 |.inl (o2,o3,o4,_)=>match Po ((o2,(o3,())),())with|none=>none|some (y5,_)=>match Kg (y5,o4,())with|none=>none|some (y6,y7,y8,_)=>some ((CL (AE y8) y6),0,())
 |.inr _=>none
def Zt[Lk]:=fun v=>Lk.f (AIs v)
theorem ARk v:Zt v=AIs v:=AD _
abbrev AYG:AB:=[(.tmp 2,.box 2),(.cell 0 0,.di),(.cell 0 1,.dat Us),(.tmp 6,.map U3 U0),(.tmp 9,.own 63 U3),(.tmp 26,.dat V8),(.tmp 27,.di),(.tmp 28,.di)]
abbrev AYE:AT:=[(.ret,[(.tmp 4,.nil U3),(.tmp 5,.di)]),(.exit 2,[(.tmp 9,.own 63 U3)])]
def AYC[Lk]:(Int×List U1×List Vi×List U4×List U4×Int×Int×Unit)→Option ((Int×List U1×List Vi×List U4×List U4×Int×Int×Unit)⊕Ua⊕Uu⊕Unit):=fun(a0,a1,a2,a3,a4,a5,a6,_)=>
 match(ilt a6 a5)with
 |true=>match idx a4 a6 with|none=>none|some x0=>match(ilt (EN x0.1 x0.2.1) 0)with
  |true=>some (.inr (.inl (10,())))
  |false=>match(ile a0 (imax x0.1 x0.2.1))with
  |true=>some (.inr (.inl (10,())))
  |false=>match(ilt (EN x0.1 x0.2.1) (imax x0.1 x0.2.1))with
  |true=>match(ieq ((AO a2 ((EN x0.1 x0.2.1),((imax x0.1 x0.2.1),()))).getD 0) 0)with
   |true=>match(fits ((AJ a3)+(AJ ([((EN x0.1 x0.2.1),((imax x0.1 x0.2.1),()))]:List U4))))with
    |true=>some (.inl (a0,a1,(Ao a2 ((EN x0.1 x0.2.1),((imax x0.1 x0.2.1),())) 1),(BE a3 ([((EN x0.1 x0.2.1),((imax x0.1 x0.2.1),()))]:List U4)),a4,a5,(IntKind.wrap .i64 (a6+1)),()))
    |false=>none
   |false=>some (.inl (a0,a1,a2,a3,a4,a5,(IntKind.wrap .i64 (a6+1)),()))
  |false=>some (.inl (a0,a1,a2,a3,a4,a5,(IntKind.wrap .i64 (a6+1)),()))
 |false=>some (.inr (.inr (.inl (a3,()))))
abbrev AYH:AB:=[(.tmp 1,.dat V8),(.tmp 2,.box 2),(.cell 0 0,.di),(.cell 0 1,.dat Us),(.tmp 6,.map U3 U0),(.tmp 17,.own 63 U3),(.tmp 18,.di),(.tmp 19,.di)]
abbrev AYF:AT:=[(.exit 0,[(.tmp 1,.dat V8),(.tmp 2,.box 2),(.cell 0 0,.di),(.cell 0 1,.dat Us),(.tmp 6,.map U3 U0)])]
def AYD[Lk]:(List U4×Int×List U1×List Vi×List U4×Int×Int×Unit)→Option ((List U4×Int×List U1×List Vi×List U4×Int×Int×Unit)⊕(List U4×Int×List U1×List Vi×Unit)⊕Unit):=fun(a0,a1,a2,a3,a4,a5,a6,_)=>
 match(ilt a6 a5)with
 |true=>match idx a4 a6 with|none=>none|some x0=>some (.inl (a0,a1,a2,(Ao a3 ((AI a4 (AE a6) (0,(0,()))).1,((AI a4 (AE a6) (0,(0,()))).2.1,())) 1),a4,a5,(IntKind.wrap .i64 (a6+1)),()))
 |false=>some (.inr (.inl (a0,a1,a2,a3,())))
def ATe[Lk]:(Ui×List U4×Unit)→Option ((List U4×Int×Unit)):=fun(a0,a1,_)=>
 match Cg ((a0.1,(a0.2.1,())),())with|none=>none|some (y0,_)=>match(!y0)with
 |true=>some (([]:List U4),1,())
 |false=>match Po ((a0.1,(a0.2.1,())),())with|none=>none|some (y1,_)=>match AQ AYD many (a1,a0.1,a0.2.1,([]:List Vi),y1,(AJ y1),0,())with|none=>none|some r=>match r with
 |.inl (o2,o3,o4,o5,_)=>match AQ AYC many (o3,o4,o5,([]:List U4),o2,(AJ o2),0,())with|none=>none|some r=>match r with
  |.inl (o6,_)=>some (([]:List U4),o6,())
  |.inr r=>match r with
  |.inl (o7,_)=>match AQY (o7,())with|none=>none|some (y8,_)=>some (y8,0,())
  |.inr _=>none
 |.inr _=>none
def AYJ[Lk]:=fun v=>Lk.f (ATe v)
theorem AYI v:AYJ v=ATe v:=AD _
def AKA[Lk]:(Ui×Unit)→Option (Ua):=fun(a0,_)=>
 match Cg ((a0.1,(a0.2.1,())),())with|none=>none|some (y0,_)=>match(!y0)with
 |true=>some (0,())
 |false=>some ((IntKind.wrap .i64 (400-(AJ a0.2.1))),())
def AU2[Lk]:=fun v=>Lk.f (AKA v)
theorem AU1 v:AU2 v=AKA v:=AD _
abbrev L6:AB:=[(.tmp 0,.dat V4),(.tmp 1,.dat (.prod U0 (.prod V8 (.prod Vf .unit)))),(.tmp 2,.dat (.prod U0 (.prod U0 (.prod Uo .unit))))]
abbrev ACF:AB:=[(.tmp 0,.di),(.tmp 1,.own 63 U3),(.tmp 2,.dat Vf),(.tmp 3,.di),(.tmp 4,.di)]
def ACG[Lk]:(Ui×Vh×(Int×Int×Uv×Unit)×Unit)→Option ((Int×List U4×List Ue×Int×Int×Unit)):=fun(a0,a1,a2,_)=>
 match Cg ((a0.1,(a0.2.1,())),())with|none=>none|some (y0,_)=>match(!y0)with
 |true=>some (0,([]:List U4),([]:List Ue),0,1,())
 |false=>match AD6 ((a1.1,(a1.2.1,(a1.2.2.1,()))),())with|none=>none|some (y1,_)=>match(!y1)with
 |true=>some (0,([]:List U4),([]:List Ue),0,1,())
 |false=>match AUy ((a1.1,(a1.2.1,(a1.2.2.1,()))),())with|none=>none|some (y2,_)=>match I3 (y2,a0.1,a0.2.1,())with|none=>none|some (y3,y4,y5,_)=>match y5 with
 |true=>some (0,([]:List U4),([]:List Ue),0,10,())
 |false=>match(ieq a1.1 3)with
 |true=>some (a1.1,([]:List U4),a1.2.2.1,0,0,())
 |false=>match AGn (a1.2.1,(a2.1,(a2.2.1,((a2.2.2.1.1,(a2.2.2.1.2.1,(a2.2.2.1.2.2.1,()))),()))),())with|none=>none|some (y6,y7,y8,_)=>match(!(ieq y8 0))with
 |true=>some (0,([]:List U4),([]:List Ue),0,y8,())
 |false=>match(ieq a1.1 2)with
 |true=>match Zt ((y3,(y4,())),y6,())with|none=>none|some (y9,y10,_)=>some (a1.1,y9,([]:List Ue),y7,y10,())
 |false=>match AYJ ((y3,(y4,())),y6,())with|none=>none|some (y11,y12,_)=>match AU2 ((y3,(y4,())),())with|none=>none|some (y13,_)=>match(ilt y13 (AJ y11))with
 |true=>some (0,([]:List U4),([]:List Ue),0,2,())
 |false=>some (a1.1,y11,([]:List Ue),y7,y12,())
def AVL[Lk]:=fun v=>Lk.f (ACG v)
theorem APA v:AVL v=ACG v:=AD _
def AJS[Lk]:(Ui×Int×Int×Unit)→Option (Ua):=fun(a0,a1,a2,_)=>
 match Cg ((a0.1,(a0.2.1,())),())with|none=>none|some (y0,_)=>match(!y0)with
 |true=>some ((-1:Int),())
 |false=>match AF8 ((a0.1,(a0.2.1,())),a1,a2,())with|none=>none|some (y1,y2,_)=>match(!y2)with
 |true=>some ((-1:Int),())
 |false=>some (y1,())
def AJT[Lk]:=fun v=>Lk.f (AJS v)
theorem ASn v:AJT v=AJS v:=AD _
def P3[Lk]:(Uw×Int×Unit)→Option (Ut):=fun(a0,a1,_)=>
 match P2 ((a0.1,(a0.2.1,())),([a1]:List (Int)),())with|none=>none|some (y0,_)=>match(!(ieq y0 0))with
 |true=>some (([]:List (Int)),y0,())
 |false=>match tof ((a0.1,(a0.2.1,())),a1,())with|none=>none|some (y1,_)=>match idx a0.2.1 y1 with|none=>none|some x2=>match I6 x2 with|none=>none|some x3=>match ID (x3,a0.1,a0.2.1,())with|none=>none|some (y4,y5,y6,y7,_)=>match AQV ((CL (AE y7) y4),())with|none=>none|some (y8,_)=>some (y8,0,())
def Lj[Lk]:=fun v=>Lk.f (P3 v)
theorem AA7 v:Lj v=P3 v:=AD _
def Zu[Lk]:(Ui×Int×Int×Unit)→Option (U4):=fun(a0,a1,a2,_)=>
 match Cg ((a0.1,(a0.2.1,())),())with|none=>none|some (y0,_)=>match(!y0)with
 |true=>some (0,1,())
 |false=>match(ilt (EN a1 a2) 0)with
 |true=>some (0,10,())
 |false=>match(ile a0.1 (imax a1 a2))with
 |true=>some (0,10,())
 |false=>match AJT ((a0.1,(a0.2.1,())),a1,a2,())with|none=>none|some (y1,_)=>match(ilt y1 0)with
 |true=>some (0,6,())
 |false=>some (y1,0,())
def WT[Lk]:=fun v=>Lk.f (Zu v)
theorem AMV v:WT v=Zu v:=AD _
abbrev AIp:AB:=[(.tmp 0,.dat V4),(.tmp 1,.di),(.tmp 2,.di),(.tmp 3,.di)]
def AIq[Lk]:(Ui×Int×Int×Int×Unit)→Option (Ut):=fun(a0,a1,a2,a3,_)=>
 match WT ((a0.1,(a0.2.1,())),a1,a2,())with|none=>none|some (y0,y1,_)=>match(ieq y1 1)with
 |true=>some (([]:List (Int)),y1,())
 |false=>match(ieq y1 10)with
 |true=>some (([]:List (Int)),y1,())
 |false=>match Oh ((a0.1,(a0.2.1,())),a3,())with|none=>none|some (y2,y3,_)=>match Lj ((y2.1,(y2.2.1,())),a1,())with|none=>none|some (y4,y5,_)=>match Lj ((y2.1,(y2.2.1,())),a2,())with|none=>none|some (y6,y7,_)=>match Ft (y4,a2,())with|none=>none|some (y8,_)=>match y8 with
 |true=>some (([]:List (Int)),5,())
 |false=>match EG ((AJ y4),(AJ y6),())with|none=>none|some (y9,_)=>match idx y4 0 with|none=>none|some x10=>match idx y6 0 with|none=>none|some x11=>match EG ((AI y4 0 0),(AI y6 0 0),())with|none=>none|some (y12,_)=>match orI (([y9,y12]:List (Int)),())with|none=>none|some (y13,_)=>match(ilt y13 0)with
 |true=>some (y4,0,())
 |false=>some (y6,0,())
def ARN[Lk]:=fun v=>Lk.f (AIq v)
theorem ARM v:ARN v=AIq v:=AD _
abbrev AZB:AB:=[(.tmp 0,.box 8),(.cell 0 0,.di),(.cell 0 1,.own 73 U2),(.cell 0 2,.dat .bool),(.cell 0 3,.dat .bool),(.cell 0 4,.di),(.cell 0 5,.di),(.cell 0 6,.di),(.cell 0 7,.di),(.tmp 1,.di),(.tmp 2,.di),(.tmp 3,.di)]
abbrev AZA:AB:=[(.obj 0,.box 8),(.cell 0 0,.di),(.cell 0 1,.own 73 U2),(.cell 0 2,.dat .bool),(.cell 0 3,.dat .bool),(.cell 0 4,.di),(.cell 0 5,.di),(.cell 0 6,.di),(.cell 0 7,.di),(.obj 1,.own' 1),(.tmp 0,.dat .bool)]
abbrev AaL:AB:=[(.obj 0,.box 8),(.cell 0 0,.di),(.cell 0 1,.own 73 U2),(.cell 0 2,.dat .bool),(.cell 0 3,.dat .bool),(.cell 0 4,.di),(.cell 0 5,.di),(.cell 0 6,.di),(.cell 0 7,.di),(.obj 1,.own' 1),(.tmp 0,.ptr' 0 0),(.cap 14 0,.box 1),(.cell 2 0,.map U0 U0),(.tmp 14,.clo 121 [(2,0)]),(.tmp 86,.prs 192 1),(.tmp 87,.di),(.tmp 88,.di)]
abbrev AaI:AT:=[(.exit 5,[(.obj 0,.box 8),(.cell 0 0,.di),(.cell 0 1,.own 73 U2),(.cell 0 2,.dat .bool),(.cell 0 3,.dat .bool),(.cell 0 4,.di),(.cell 0 5,.di),(.cell 0 6,.di),(.cell 0 7,.di),(.obj 1,.own' 1)]),(.ret,[(.obj 0,.box 8),(.cell 0 0,.di),(.cell 0 1,.own 73 U2),(.cell 0 2,.dat .bool),(.cell 0 3,.dat .bool),(.cell 0 4,.di),(.cell 0 5,.di),(.cell 0 6,.di),(.cell 0 7,.di),(.obj 1,.own' 1),(.tmp 8,.dat .bool)])]
def AaF[Lk]:(Int×List U1×Bool×Bool×Int×Int×Int×Int×List Ux×List Int×Int×Int×Unit)→Option ((Int×List U1×Bool×Bool×Int×Int×Int×Int×List Ux×List Int×Int×Int×Unit)⊕(Int×List U1×Bool×Bool×Int×Int×Int×Int×Unit)⊕(Int×List U1×Bool×Bool×Int×Int×Int×Int×Bool×Unit)⊕Unit):=fun(a0,a1,a2,a3,a4,a5,a6,a7,a8,a9,a10,a11,_)=>
 match(ilt a11 a10)with
 |true=>match idx a9 a11 with|none=>none|some x0=>match(ieq (IntKind.wrap .i64 (((AO a8 (AI a1 (AE (AI a9 (AE a11) 0)) (0,(0,(0,(false,()))))).1).getD 0)+((AO a8 (AI a1 (AE (AI a9 (AE a11) 0)) (0,(0,(0,(false,()))))).2.1).getD 0))) 0)with
  |true=>some (.inl (a0,a1,a2,a3,a4,a5,a6,a7,a8,a9,a10,(IntKind.wrap .i64 (a11+1)),()))
  |false=>match(ieq (IntKind.wrap .i64 (((AO a8 (AI a1 (AE (AI a9 (AE a11) 0)) (0,(0,(0,(false,()))))).1).getD 0)+((AO a8 (AI a1 (AE (AI a9 (AE a11) 0)) (0,(0,(0,(false,()))))).2.1).getD 0))) 2)with
  |true=>some (.inl (a0,(AX a1 (AE (AI a9 (AE a11) 0)) ((AI a1 (AE (AI a9 (AE a11) 0)) (0,(0,(0,(false,()))))).1,((AI a1 (AE (AI a9 (AE a11) 0)) (0,(0,(0,(false,()))))).2.1,((EN a7 (IntKind.wrap .i64 ((AI a1 (AE (AI a9 (AE a11) 0)) (0,(0,(0,(false,()))))).2.2.1+1))),((AI a1 (AE (AI a9 (AE a11) 0)) (0,(0,(0,(false,()))))).2.2.2.1,()))))),a2,a3,a4,a5,(IntKind.wrap .i64 (a6+1)),a7,a8,a9,a10,(IntKind.wrap .i64 (a11+1)),()))
  |false=>match(ieq (IntKind.wrap .i64 (((AO a8 (AI a1 (AE (AI a9 (AE a11) 0)) (0,(0,(0,(false,()))))).1).getD 0)+((AO a8 (AI a1 (AE (AI a9 (AE a11) 0)) (0,(0,(0,(false,()))))).2.1).getD 0))) 1)with
  |true=>some (.inr (.inr (.inl (a0,(AX a1 (AE (AI a9 (AE a11) 0)) ((AI a1 (AE (AI a9 (AE a11) 0)) (0,(0,(0,(false,()))))).1,((AI a1 (AE (AI a9 (AE a11) 0)) (0,(0,(0,(false,()))))).2.1,((AI a1 (AE (AI a9 (AE a11) 0)) (0,(0,(0,(false,()))))).2.2.1,(true,()))))),a2,true,(AI (AX a1 (AE (AI a9 (AE a11) 0)) ((AI a1 (AE (AI a9 (AE a11) 0)) (0,(0,(0,(false,()))))).1,((AI a1 (AE (AI a9 (AE a11) 0)) (0,(0,(0,(false,()))))).2.1,((AI a1 (AE (AI a9 (AE a11) 0)) (0,(0,(0,(false,()))))).2.2.1,(true,()))))) (AE (AI a9 (AE a11) 0)) (0,(0,(0,(false,()))))).1,(AI (AX a1 (AE (AI a9 (AE a11) 0)) ((AI a1 (AE (AI a9 (AE a11) 0)) (0,(0,(0,(false,()))))).1,((AI a1 (AE (AI a9 (AE a11) 0)) (0,(0,(0,(false,()))))).2.1,((AI a1 (AE (AI a9 (AE a11) 0)) (0,(0,(0,(false,()))))).2.2.1,(true,()))))) (AE (AI a9 (AE a11) 0)) (0,(0,(0,(false,()))))).2.1,a6,a7,true,()))))
  |false=>some (.inl (a0,a1,a2,a3,a4,a5,a6,a7,a8,a9,a10,(IntKind.wrap .i64 (a11+1)),()))
 |false=>some (.inr (.inl (a0,a1,a2,a3,a4,a5,a6,a7,())))
abbrev AaM:AB:=[(.obj 0,.box 8),(.cell 0 0,.di),(.cell 0 1,.own 73 U2),(.cell 0 2,.dat .bool),(.cell 0 3,.dat .bool),(.cell 0 4,.di),(.cell 0 5,.di),(.cell 0 6,.di),(.cell 0 7,.di),(.obj 1,.own' 1),(.tmp 0,.ptr' 0 0),(.tmp 3,.di),(.cap 14 0,.box 1),(.cell 2 0,.map U0 U0),(.tmp 14,.clo 121 [(2,0)]),(.tmp 15,.prs 192 1),(.tmp 47,.di),(.tmp 48,.di)]
abbrev AaJ:AT:=[(.exit 2,[(.obj 0,.box 8),(.cell 0 0,.di),(.cell 0 1,.own 73 U2),(.cell 0 2,.dat .bool),(.cell 0 3,.dat .bool),(.cell 0 4,.di),(.cell 0 5,.di),(.cell 0 6,.di),(.cell 0 7,.di),(.obj 1,.own' 1),(.tmp 0,.ptr' 0 0),(.cap 14 0,.box 1),(.cell 2 0,.map U0 U0),(.tmp 14,.clo 121 [(2,0)]),(.tmp 15,.prs 192 1)])]
def AaG[Lk]:V0→Option (V0⊕(Int×List U1×Bool×Bool×Int×Int×Int×Int×List Ux×List Int×Unit)⊕Unit):=fun(a0,a1,a2,a3,a4,a5,a6,a7,a8,a9,a10,a11,a12,_)=>
 match(ilt a12 a11)with
 |true=>match idx a1 a12 with|none=>none|some x0=>match(!(ieq (AI a1 (AE a12) (0,(0,(0,(false,()))))).2.2.1 a8))with
  |true=>some (.inl (a0,a1,a2,a3,a4,a5,a6,a7,a8,a9,a10,a11,(IntKind.wrap .i64 (a12+1)),()))
  |false=>match(!(AI a1 (AE a12) (0,(0,(0,(false,()))))).2.2.2.1)with
  |true=>match(fits ((AJ a10)+(AJ ([(Int.ofNat (AE a12))]:List (Int)))))with
   |true=>some (.inl (a0,a1,a2,a3,a4,a5,a6,a7,a8,a9,(BE a10 ([(Int.ofNat (AE a12))]:List (Int))),a11,(IntKind.wrap .i64 (a12+1)),()))
   |false=>none
  |false=>match(ieq (IntKind.wrap .i64 (((AO a9 (AI a1 (AE a12) (0,(0,(0,(false,()))))).1).getD 0)+((AO a9 (AI a1 (AE a12) (0,(0,(0,(false,()))))).2.1).getD 0))) 2)with
  |true=>some (.inl (a0,(AX a1 (AE a12) ((AI a1 (AE a12) (0,(0,(0,(false,()))))).1,((AI a1 (AE a12) (0,(0,(0,(false,()))))).2.1,((EN a7 (IntKind.wrap .i64 ((AI a1 (AE a12) (0,(0,(0,(false,()))))).2.2.1+1))),((AI a1 (AE a12) (0,(0,(0,(false,()))))).2.2.2.1,()))))),a2,a3,a4,a5,(IntKind.wrap .i64 (a6+1)),a7,a8,a9,a10,a11,(IntKind.wrap .i64 (a12+1)),()))
  |false=>some (.inl (a0,a1,a2,a3,a4,a5,a6,a7,a8,a9,a10,a11,(IntKind.wrap .i64 (a12+1)),()))
 |false=>some (.inr (.inl (a0,a1,a2,a3,a4,a5,a6,a7,a9,a10,())))
abbrev AaN:AB:=[(.obj 0,.box 8),(.cell 0 0,.di),(.cell 0 1,.own 73 U2),(.cell 0 2,.dat .bool),(.cell 0 3,.dat .bool),(.cell 0 4,.di),(.cell 0 5,.di),(.cell 0 6,.di),(.cell 0 7,.di),(.obj 1,.own' 1),(.tmp 0,.ptr' 0 0),(.tmp 3,.di),(.tmp 11,.box 1),(.cell 2 0,.map U0 U0),(.tmp 32,.own 3 U0),(.tmp 33,.di),(.tmp 34,.di)]
abbrev AaK:AT:=[(.exit 0,[(.obj 0,.box 8),(.cell 0 0,.di),(.cell 0 1,.own 73 U2),(.cell 0 2,.dat .bool),(.cell 0 3,.dat .bool),(.cell 0 4,.di),(.cell 0 5,.di),(.cell 0 6,.di),(.cell 0 7,.di),(.obj 1,.own' 1),(.tmp 0,.ptr' 0 0),(.tmp 3,.di),(.tmp 11,.box 1),(.cell 2 0,.map U0 U0)])]
def AaH[Lk]:V0→Option (V0⊕(Int×List U1×Bool×Bool×Int×Int×Int×Int×Int×List Ux×Unit)⊕Unit):=fun(a0,a1,a2,a3,a4,a5,a6,a7,a8,a9,a10,a11,a12,_)=>
 match(ilt a12 a11)with
 |true=>match idx a10 a12 with|none=>none|some x0=>some (.inl (a0,a1,a2,a3,a4,a5,a6,a7,a8,(Ao a9 (AI a10 (AE a12) 0) 1),a10,a11,(IntKind.wrap .i64 (a12+1)),()))
 |false=>some (.inr (.inl (a0,a1,a2,a3,a4,a5,a6,a7,a8,a9,())))
def AZC[Lk]:(Int×List U1×Bool×Bool×Int×Int×Int×Int×Int×Int×Int×Unit)→Option ((Int×List U1×Bool×Bool×Int×Int×Int×Int×Bool×Unit)):=fun(a0,a1,a2,a3,a4,a5,a6,a7,a8,a9,a10,_)=>
 match ARN ((a0,(a1,())),a8,a9,a10,())with|none=>none|some (y0,y1,_)=>match AQ AaH many (a0,a1,a2,a3,a4,a5,a6,a7,a10,([]:List Ux),y0,(AJ y0),0,())with|none=>none|some r=>match r with
 |.inl (o2,o3,o4,o5,o6,o7,o8,o9,o10,o11,_)=>match AQ AaG many (o2,o3,o4,o5,o6,o7,o8,o9,o10,o11,([]:List (Int)),(AJ o3),0,())with|none=>none|some r=>match r with
  |.inl (o12,o13,o14,o15,o16,o17,o18,o19,o20,o21,_)=>match AQ AaF many (o12,o13,o14,o15,o16,o17,o18,o19,o20,o21,(AJ o21),0,())with|none=>none|some r=>match r with
   |.inl (o22,o23,o24,o25,o26,o27,o28,o29,_)=>some (o22,o23,o24,o25,o26,o27,o28,o29,false,())
   |.inr r=>match r with
   |.inl (o30,o31,o32,o33,o34,o35,o36,o37,o38,_)=>some (o30,o31,o32,o33,o34,o35,o36,o37,o38,())
   |.inr _=>none
  |.inr _=>none
 |.inr _=>none
def pat[Lk]:=fun v=>Lk.f (AZC v)
theorem AaO v:pat v=AZC v:=AD _
end
end Go.Pev
end
section
namespace Go.Pev
noncomputable section
abbrev ART:AB:=[(.tmp 0,.di),(.tmp 1,.dat Us),(.tmp 2,.dat Ve),(.tmp 3,.di)]
abbrev WR:List RS:=[.agg 2,.one,.one]
abbrev AWn:AB:=[(.tmp 6,.box 2),(.cell 0 0,.di),(.cell 0 1,.nil U2),(.tmp 7,.box 5),(.cell 1 0,.dat .bool),(.cell 1 1,.dat .bool),(.cell 1 2,.di),(.cell 1 3,.di),(.cell 1 4,.di),(.tmp 11,.box 4),(.cell 2 0,.di),(.cell 2 1,.di),(.cell 2 2,.di),(.cell 2 3,.dat .bool),(.tmp 12,.box 8),(.cell 3 0,.di),(.cell 3 1,.own 73 U2),(.cell 3 2,.dat .bool),(.cell 3 3,.dat .bool),(.cell 3 4,.di),(.cell 3 5,.di),(.cell 3 6,.di),(.cell 3 7,.di),(.tmp 13,.di)]
abbrev AWm:AT:=[(.exit 0,[(.tmp 6,.box 2),(.cell 0 0,.di),(.cell 0 1,.nil U2),(.tmp 7,.box 5),(.cell 1 0,.dat .bool),(.cell 1 1,.dat .bool),(.cell 1 2,.di),(.cell 1 3,.di),(.cell 1 4,.di),(.tmp 12,.box 8),(.cell 2 0,.di),(.cell 2 1,.own 73 U2),(.cell 2 2,.dat .bool),(.cell 2 3,.dat .bool),(.cell 2 4,.di),(.cell 2 5,.di),(.cell 2 6,.di),(.cell 2 7,.di)])]
def AWl[Lk]:(Int×Bool×Bool×Int×Int×Int×Int×Int×Int×Bool×Int×List U1×Bool×Bool×Int×Int×Int×Int×Int×Unit)→Option ((Int×Bool×Bool×Int×Int×Int×Int×Int×Int×Bool×Int×List U1×Bool×Bool×Int×Int×Int×Int×Int×Unit)⊕(Int×Bool×Bool×Int×Int×Int×Int×List U1×Bool×Bool×Int×Int×Int×Int×Unit)⊕Unit):=fun(a0,a1,a2,a3,a4,a5,a6,a7,a8,a9,a10,a11,a12,a13,a14,a15,a16,a17,a18,_)=>
 match a9 with
 |true=>match(ile 0 a18)with
  |true=>match pat (a10,a11,a12,a13,a14,a15,a16,a17,a6,a7,a18,())with|none=>none|some (y0,y1,y2,y3,y4,y5,y6,y7,y8,_)=>match(!y8)with
   |true=>some (.inl (a0,a1,a2,a3,a4,a5,a6,a7,a8,a9,y0,y1,y2,y3,y4,y5,y6,y7,(IntKind.wrap .i64 (a18-1)),()))
   |false=>some (.inr (.inl (a0,a1,a2,a3,a4,a5,y0,y1,y2,y3,y4,y5,y6,y7,())))
  |false=>some (.inr (.inl (a0,a1,a2,a3,a4,a5,a10,a11,a12,a13,a14,a15,a16,a17,())))
 |false=>some (.inr (.inl (a0,a1,a2,a3,a4,a5,a10,a11,a12,a13,a14,a15,a16,a17,())))
def ARU[Lk]:(Ui×Int×Int×Unit)→Option ((Int×List U1×V3×Int×Unit)):=fun(a0,a1,a2,_)=>
 match WT ((a0.1,(a0.2.1,())),a1,a2,())with|none=>none|some (y0,y1,_)=>match(!(ieq y1 0))with
 |true=>some (a0.1,a0.2.1,(false,(false,((0,(0,())),(0,())))),y1,())
 |false=>match idx a0.2.1 y0 with|none=>none|some x2=>match EU a0.2.1 0 y0 with|none=>none|some x3=>match EU a0.2.1 (IntKind.wrap .i64 (y0+1)) (AJ a0.2.1)with|none=>none|some x4=>match XP (([x3,x4]:List (List U1)),())with|none=>none|some (y5,_)=>match ASh (a0.1,())with|none=>none|some (y6,_)=>match AQ AWl many (0,false,false,0,0,0,x2.1,x2.2.1,x2.2.2.1,x2.2.2.2.1,a0.1,y5,x2.2.2.2.1,false,0,0,0,y6,x2.2.2.1,())with|none=>none|some r=>match r with
 |.inl (o7,o8,o9,o10,o11,o12,o13,o14,o15,o16,o17,o18,o19,o20,_)=>some (o13,o14,(o15,(o16,((o17,(o18,())),(o19,())))),0,())
 |.inr _=>none
def AWp[Lk]:=fun v=>Lk.f (ARU v)
theorem AWo v:AWp v=ARU v:=AD _
abbrev AIt:AB:=[(.tmp 0,.dat V4),(.tmp 1,.own 103 Ve),(.tmp 2,.di)]
abbrev ARo:AB:=[(.tmp 2,.box 2),(.cell 0 0,.di),(.cell 0 1,.dat Us),(.tmp 4,.box 2),(.cell 1 0,.di),(.cell 1 1,.nil U2),(.tmp 9,.own 103 Ve),(.tmp 10,.box 2),(.cell 3 0,.di),(.cell 3 1,.dat Us),(.tmp 27,.own 63 U3),(.tmp 28,.di),(.tmp 29,.di)]
abbrev ARn:AT:=[(.ret,[(.tmp 4,.box 2),(.cell 0 0,.di),(.cell 0 1,.dat Us),(.tmp 5,.nil Ve),(.tmp 6,.di)]),(.exit 0,[(.tmp 4,.box 2),(.cell 0 0,.di),(.cell 0 1,.nil U2),(.tmp 9,.own 103 Ve),(.tmp 10,.box 2),(.cell 2 0,.di),(.cell 2 1,.dat Us)])]
def ARm[Lk]:(Int×List U1×Int×List V3×Int×List U1×List U4×Int×Int×Unit)→Option ((Int×List U1×Int×List V3×Int×List U1×List U4×Int×Int×Unit)⊕(Int×List U1×Int×Unit)⊕(Int×List V3×Int×List U1×Unit)⊕Unit):=fun(a0,a1,a2,a3,a4,a5,a6,a7,a8,_)=>
 match(ilt a8 a7)with
 |true=>match idx a6 a8 with|none=>none|some x0=>match AWp ((a4,(a5,())),(AI a6 (AE a8) (0,(0,()))).1,(AI a6 (AE a8) (0,(0,()))).2.1,())with|none=>none|some (y1,y2,y3,y4,_)=>match(!(ieq y4 0))with
  |true=>some (.inr (.inl (a0,a1,y4,())))
  |false=>match(fits ((AJ a3)+(AJ ([(y3.1,(y3.2.1,((y3.2.2.1.1,(y3.2.2.1.2.1,())),(y3.2.2.2.1,()))))]:List V3))))with
  |true=>some (.inl (a0,a1,a2,(BE a3 ([(y3.1,(y3.2.1,((y3.2.2.1.1,(y3.2.2.1.2.1,())),(y3.2.2.2.1,()))))]:List V3)),y1,y2,a6,a7,(IntKind.wrap .i64 (a8+1)),()))
  |false=>none
 |false=>some (.inr (.inr (.inl (a2,a3,a4,a5,()))))
def AIu[Lk]:(Ui×List U4×Unit)→Option ((Ui×List V3×Int×Unit)):=fun(a0,a1,_)=>
 match Zt ((a0.1,(a0.2.1,())),a1,())with|none=>none|some (y0,y1,_)=>match(!(ieq y1 0))with
 |true=>some ((a0.1,(a0.2.1,())),([]:List V3),y1,())
 |false=>match AQ ARm many (a0.1,a0.2.1,0,([]:List V3),a0.1,a0.2.1,y0,(AJ y0),0,())with|none=>none|some r=>match r with
 |.inl (o2,o3,o4,_)=>some ((o2,(o3,())),([]:List V3),o4,())
 |.inr r=>match r with
 |.inl (o5,o6,o7,o8,_)=>some ((o7,(o8,())),o6,0,())
 |.inr _=>none
def AY9[Lk]:=fun v=>Lk.f (AIu v)
theorem ARp v:AY9 v=AIu v:=AD _
def AIh[Lk]:(Ui×Unit)→Option (Vl):=fun(a0,_)=>
 match Cg ((a0.1,(a0.2.1,())),())with|none=>none|some (y0,_)=>match(!y0)with
 |true=>some (([]:List (Int)),false,())
 |false=>match Po ((a0.1,(a0.2.1,())),())with|none=>none|some (y1,_)=>match PK (a0.1,y1,())with|none=>none|some (y2,y3,_)=>some (y2,true,())
def AQs[Lk]:=fun v=>Lk.f (AIh v)
theorem AQr v:AQs v=AIh v:=AD _
abbrev PL:AB:=[(.tmp 0,.dat V4),(.tmp 1,.dat Vf)]
abbrev ZJ:AB:=[(.tmp 6,.own 3 U0),(.tmp 8,.own 3 U0),(.tmp 20,.dat Vf),(.tmp 21,.di),(.tmp 22,.di)]
abbrev ZI:AT:=[(.ret,[(.tmp 4,.nil U0),(.tmp 5,.di)]),(.exit 0,[(.tmp 8,.own 3 U0)])]
def ZH[Lk]:(List Int×List Int×List Ue×Int×Int×Unit)→Option ((List Int×List Int×List Ue×Int×Int×Unit)⊕Ua⊕Uc⊕Unit):=fun(a0,a1,a2,a3,a4,_)=>
 match(ilt a4 a3)with
 |true=>match idx a2 a4 with|none=>none|some x0=>match Xa (a0,(x0.1,(x0.2.1,(x0.2.2.1,()))),())with|none=>none|some (y1,y2,_)=>match(!(ieq y2 0))with
  |true=>some (.inr (.inl (y2,())))
  |false=>match(fits ((AJ a1)+(AJ ([y1]:List (Int)))))with
  |true=>some (.inl (a0,(BE a1 ([y1]:List (Int))),a2,a3,(IntKind.wrap .i64 (a4+1)),()))
  |false=>none
 |false=>some (.inr (.inr (.inl (a1,()))))
def PM[Lk]:(Ui×List Ue×Unit)→Option (Ut):=fun(a0,a1,_)=>
 match AQs ((a0.1,(a0.2.1,())),())with|none=>none|some (y0,y1,_)=>match(!y1)with
 |true=>some (([]:List (Int)),1,())
 |false=>match AQ ZH many (y0,([]:List (Int)),a1,(AJ a1),0,())with|none=>none|some r=>match r with
 |.inl (o2,_)=>some (([]:List (Int)),o2,())
 |.inr r=>match r with
 |.inl (o3,_)=>some (o3,0,())
 |.inr _=>none
def ZL[Lk]:=fun v=>Lk.f (PM v)
theorem ZK v:ZL v=PM v:=AD _
def AA9[Lk]:(Uw×Int×Unit)→Option (U4):=fun(a0,a1,_)=>
 match P2 ((a0.1,(a0.2.1,())),([a1]:List (Int)),())with|none=>none|some (y0,_)=>match(!(ieq y0 0))with
 |true=>some (0,y0,())
 |false=>match tof ((a0.1,(a0.2.1,())),a1,())with|none=>none|some (y1,_)=>match idx a0.2.1 y1 with|none=>none|some x2=>match idx x2 0 with|none=>none|some x3=>some (x3,0,())
def W5[Lk]:=fun v=>Lk.f (AA9 v)
theorem ANp v:W5 v=AA9 v:=AD _
abbrev WC:AB:=[(.tmp 2,.box 2),(.cell 0 0,.di),(.cell 0 1,.dat Uf),(.tmp 7,.own 63 U3),(.tmp 24,.dat V8),(.tmp 25,.di),(.tmp 26,.di)]
abbrev WB:AT:=[(.exit 0,[(.tmp 7,.own 63 U3)])]
def WA[Lk]:(Int×List U6×List U4×List U4×Int×Int×Unit)→Option ((Int×List U6×List U4×List U4×Int×Int×Unit)⊕Uu⊕Unit):=fun(a0,a1,a2,a3,a4,a5,_)=>
 match(ilt a5 a4)with
 |true=>match idx a3 a5 with|none=>none|some x0=>match W5 ((a0,(a1,())),x0.1,())with|none=>none|some (y1,y2,_)=>match W5 ((a0,(a1,())),x0.2.1,())with|none=>none|some (y3,y4,_)=>match(fits ((AJ a2)+(AJ ([(y1,(y3,()))]:List U4))))with
  |true=>some (.inl (a0,a1,(BE a2 ([(y1,(y3,()))]:List U4)),a3,a4,(IntKind.wrap .i64 (a5+1)),()))
  |false=>none
 |false=>some (.inr (.inl (a2,())))
def M7[Lk]:(Uw×List U4×Unit)→Option ((List U4×Int×Unit)):=fun(a0,a1,_)=>
 match MR ((a0.1,(a0.2.1,())),())with|none=>none|some (y0,_)=>match(!y0)with
 |true=>some (([]:List U4),1,())
 |false=>match WH (a0.1,a1,())with|none=>none|some (y1,_)=>match(!(ieq y1 0))with
 |true=>some (([]:List U4),y1,())
 |false=>match AQ WA many (a0.1,a0.2.1,([]:List U4),a1,(AJ a1),0,())with|none=>none|some r=>match r with
 |.inl (o2,_)=>some (o2,0,())
 |.inr _=>none
def MU[Lk]:=fun v=>Lk.f (M7 v)
theorem WD v:MU v=M7 v:=AD _
abbrev Su:AB:=[(.tmp 0,.own 4 .bool),(.tmp 1,.di)]
def Sv[Lk]:(Uw×List U4×Unit)→Option ((List Bool×Int×Unit)):=fun(a0,a1,_)=>
 match MU ((a0.1,(a0.2.1,())),a1,())with|none=>none|some (y0,y1,_)=>match(!(ieq y1 0))with
 |true=>some (([]:List (Bool)),y1,())
 |false=>match WI (a0.1,())with|none=>none|some (y2,_)=>match Vy (y2,y0,())with|none=>none|some (y3,y4,_)=>some (y4,0,())
def WE[Lk]:=fun v=>Lk.f (Sv v)
theorem AEf v:WE v=Sv v:=AD _
abbrev ATf:AB:=[(.tmp 0,.di),(.tmp 1,.dat Us),(.tmp 2,.di),(.tmp 3,.di)]
abbrev AYM:AB:=[(.tmp 2,.box 2),(.cell 0 0,.di),(.cell 0 1,.dat Us),(.tmp 4,.box 2),(.cell 1 0,.di),(.cell 1 1,.nil U2),(.tmp 7,.own 63 U3),(.tmp 11,.own 4 .bool),(.tmp 13,.own 73 U2),(.tmp 46,.own' 2),(.tmp 47,.di),(.tmp 48,.di)]
abbrev AYL:AT:=[(.exit 0,[(.tmp 2,.box 2),(.cell 0 0,.di),(.cell 0 1,.dat Us),(.tmp 4,.box 2),(.cell 1 0,.di),(.cell 1 1,.nil U2),(.tmp 7,.own 63 U3),(.tmp 13,.own 73 U2)])]
def AYK[Lk]:(Int×List U1×Int×List U4×List Bool×List U1×Int×Int×Unit)→Option ((Int×List U1×Int×List U4×List Bool×List U1×Int×Int×Unit)⊕(Int×List U1×Int×List U4×List U1×Unit)⊕Unit):=fun(a0,a1,a2,a3,a4,a5,a6,a7,_)=>
 match(ilt a7 a6)with
 |true=>match idx a3 a7 with|none=>none|some x0=>match idx a4 a7 with|none=>none|some x1=>match(fits ((AJ a5)+(AJ ([((AI a3 (AE a7) (0,(0,()))).1,((AI a3 (AE a7) (0,(0,()))).2.1,(0,((AI a4 (AE a7) false),()))))]:List U1))))with
  |true=>some (.inl (a0,a1,a2,a3,a4,(BE a5 ([((AI a3 (AE a7) (0,(0,()))).1,((AI a3 (AE a7) (0,(0,()))).2.1,(0,((AI a4 (AE a7) false),()))))]:List U1)),a6,(IntKind.wrap .i64 (a7+1)),()))
  |false=>none
 |false=>some (.inr (.inl (a0,a1,a2,a3,a5,())))
def ATg[Lk]:(Ui×List U4×Unit)→Option ((Int×List U1×Int×Int×Unit)):=fun(a0,a1,_)=>
 match AYJ ((a0.1,(a0.2.1,())),a1,())with|none=>none|some (y0,y1,_)=>match(!(ieq y1 0))with
 |true=>some (a0.1,a0.2.1,0,y1,())
 |false=>match ATb ((a0.1,(a0.2.1,())),(AJ y0),())with|none=>none|some (y2,_)=>match(!y2)with
 |true=>some (a0.1,a0.2.1,0,2,())
 |false=>match Oh ((a0.1,(a0.2.1,())),0,())with|none=>none|some (y3,y4,_)=>match WE ((y3.1,(y3.2.1,())),y0,())with|none=>none|some (y5,y6,_)=>match I6 a0.2.1 with|none=>none|some x7=>match AQ AYK many (a0.1,a0.2.1,0,y0,y5,x7,(AJ y0),0,())with|none=>none|some r=>match r with
 |.inl (o8,o9,o10,o11,o12,_)=>match AQR (o12,())with|none=>none|some (y13,_)=>some (o8,y13,(AJ o11),0,())
 |.inr _=>none
def AbM[Lk]:=fun v=>Lk.f (ATg v)
theorem AYN v:AbM v=ATg v:=AD _
def Px[Lk]:Ua→Option (Uk):=fun(a0,_)=>
 match(ile 0 a0)with
 |true=>some ((ile a0 1099511627776),())
 |false=>some (false,())
def Lg[Lk]:=fun v=>Lk.f (Px v)
theorem AAy v:Lg v=Px v:=AD _
abbrev AAr:AB:=[(.tmp 0,.dat (.prod V4 U3))]
def AAs[Lk]:((Ui×Int×Int×Unit)×Unit)→Option (Uk):=fun(a0,_)=>
 match Cg ((a0.1.1,(a0.1.2.1,())),())with|none=>none|some (y0,_)=>match y0 with
 |true=>match Lg (a0.2.1,())with|none=>none|some (y1,_)=>match y1 with
  |true=>match Lg (a0.2.2.1,())with|none=>none|some (y2,_)=>some (y2,())
  |false=>some (false,())
 |false=>some (false,())
def ASx[Lk]:=fun v=>Lk.f (AAs v)
theorem ANT v:ASx v=AAs v:=AD _
def AY0[Lk]:Ua→Option (Uk):=fun(a0,_)=>
 match(ile 1 a0)with
 |true=>some ((ile a0 3),())
 |false=>some (false,())
def wb1[Lk]:=fun v=>Lk.f (AY0 v)
theorem AZZ v:wb1 v=AY0 v:=AD _
end
end Go.Pev
end
section
namespace Go.Pev
open Go.RowKit
def Sn{R:Type}(slot:Nat)(H:List Ob)(fz:List Bool)(k:AV→Eff→Option R)(v:AV)(e:Eff):Option R:=
 match e.heap with
 |none=>match v with
  |.win id 0 n=>match(Bj e H)[id]? with
   |some (.arr T t xs)=>match AW (Dc e fz) id&&Ai (Bj e H) (Dc e fz) (slot+3)&&(e.objs.any fun p=>Nat.beq p.1 id)with
    |true=>k (.own (slot+3)) { objs:=e.objs++[(id,.dead),(slot+3,.arr T t (CL n xs))],frz:=e.frz }
    |false=>none
   |_=>none
  |_=>none
 |some _=>none
def DW(s:Spec):Spec:=fun R args H fz slot k=>s R args H fz slot (Sn slot H fz k)
section
variable {P:Program} {g:FuncId}
theorem ANd{w:World}{F:Nat→Prop}{m:Mp}{H:List Ob}{fz:List Bool}(hi:HI w F m H fz){id n slot:Nat}{T:TypeId}{t:Ty}{xs:List t.den}(ho:H[id]? = some (.arr T t xs))(hf:AW fz id=true)
  (hs:Ai H fz slot=true) {u:Value} (hr:Rep w F m H (.win id 0 n) u) :
  ∃ m',Aa w F m H fz w F m' ((H.set id .dead).set slot (.arr T t (CL n xs))) fz∧Rep w F m' ((H.set id .dead).set slot (.arr T t (CL n xs))) (.own slot) u:=by
 have hob:=hi.obj id _ ho;obtain⟨h0,hob⟩:=hob;unfold Rep at hr;rw[ho]at hr;obtain⟨hle,hr⟩:=hr;rw[Ab5]at hle;have hsn:slot≠id:=W3 hs ho;have hkill:=Aa.kill hi (Bx ho hf);have zero:∀ a,n=0→u = .slice a 0 0→∃ m',Aa w F m H fz w F m' ((H.set id .dead).set slot (.arr T t (CL n xs))) fz∧Rep w F m' ((H.set id .dead).set slot (.arr T t (CL n xs))) (.own slot) u:=by intro a hn hu;subst hn;subst hu;obtain⟨m',hg,hrep⟩:=C8 (w:=w) hkill.2 (Hz hs hsn) T h0 a;exact⟨m',hkill.trans hg,hrep⟩
 cases hm:m id with
  |none=>
   rw[hm]at hr hob;obtain⟨a,e1⟩:=hr;simp only at hob;subst hob;have hn:n=0:=by simpa using hle
   exact zero a hn (by rw[e1,hn])
  |some p=>
   obtain⟨b,cap⟩:=p;rw[hm]at hr hob;obtain⟨vs,row,e1,e2,e3,e4,e7,e8⟩:=hob;obtain⟨a,rfl,ha⟩:=hr;rcases AcK cap with hc|hc;have:n=0:=by omega
   exact zero a this (by rw[this,hc]);have:=ha hc;rw[AdL]at this;subst this;have hk:=fun(x:t.den) cs (h:Dat w F t x cs)=>Dat.length t h;have hlen:(xs.take n).length=n:=by rw[Abn];omega
   have hrw:=DI hk n e7;have hrl:=Ar hk hrw;rw[hlen]at hrl;have hg:=Aa.move (w':=w) hi (Bx ho hf) hm hs (ob:=.arr T t (CL n xs)) trivial (b':=b) (c':=cap) (.inl rfl) rfl rfl rfl (Abd _) (fun _ _ _=>rfl) (fun _=>⟨h0,vs,row.take (n*t.size),e1,by
    show(xs.take n).length≤cap;rw[hlen];omega,e3,e4,hrw,by
    rw[hrl,← e8,Ac9,Acw];rw[Ar hk e7];exact Ab0 _ hle⟩)
   refine⟨_,hg,?_⟩;have hlts:=AY (A3 hs).1;unfold Rep;rw[Ak (by simpa using hlts),Af];show Value.slice _ n (cap-0)=Value.slice _ (xs.take n).length cap;rw[hlen,Nat.sub_zero]
theorem Y3{s:Spec}(hs:Ad P g s):Ad P g (DW s):=by
 intro R args H fz slot k r hk;obtain⟨v,e,h1,h2,h3,h4⟩:=hs R args H fz slot _ r hk;unfold Sn at h1;split at h1;rename_i he;split at h1;rename_i id n;split at h1;rename_i T t xs ho;split at h1;rename_i hc;refine⟨_,_,h1,fun R' k' => ?_,h3,fun w F m vals hi hr => ?_⟩;unfold DW;rw[h2];simp only[Sn,he,ho,hc];refine(h4 w F m vals hi hr).mono ?_;rintro en w' ⟨u,rfl,F',m',hg,hrep⟩;simp only[Aba]at hc;obtain⟨m2,hg2,hr2⟩:=ANd hg.2 ho hc.1.1 hc.1.2 hrep;have eH:Bj { objs:=e.objs++[(id,.dead),(slot+3,.arr T t (CL n xs))],frz:=e.frz } H=((Bj e H).set id .dead).set (slot+3) (.arr T t (CL n xs)):=by rw[By rfl,By he,M6];rfl
 have eF:Dc { objs:=e.objs++[(id,.dead),(slot+3,.arr T t (CL n xs))],frz:=e.frz } fz=Dc e fz:=by rw[CE rfl,CE he]
 refine⟨u,rfl,F',m2,?_,?_⟩;rw[eH,eF];exact hg.trans hg2;rw[eH];exact hr2;cases h1;cases h1;cases h1;cases h1
theorem Gc{np na:Nat}{its outs:AB}{rs:List RS}{f:Ag (leaves its)→Option (Ag (leaves outs))}(hf:∀ x,f x=none):Ad P g (AF np na its outs rs f):=by intro R args H fz slot k r hk;unfold AF at hk;split at hk;cases hk;split at hk;cases hk;rw[hf]at hk;cases hk
end
section
variable {S:List Nat} {H H':List Ob}
theorem Ei.ALX{s:Spec}(h:Ei s):Fk s:=
 fun R args H H' fz fz' slot k S hS _ ha=>h R args H H' fz fz' slot k ⟨fun id hid=>ha.heap id (hS id hid),ha.slotH,ha.slotF,ha.len,fun id hid=>by cases hid⟩
def NJ:AB→Bool
 |[]=>true
 |(.obj _,_)::_=>false
 |_::r=>NJ r
def AZt(S:List Nat)(v:AV):Prop:=∀ id∈Ab v,id∈S
def QS(S:List Nat)(bs:List Bnd):Prop:=∀ b∈bs,∀ id,b.id? = some id→id∈S
theorem QS.get{bs:List Bnd}(h:QS S bs){j:Nat}{b:Bnd}{id:Nat}(hj:bs[j]? = some b)(hi:b.id? = some id):id∈S:=h b (Abj hj) id hi
theorem QS.snoc{bs:List Bnd}(h:QS S bs){b:Bnd}(hb:∀ id,b.id? = some id→id∈S):QS S (bs++[b]):=by intro x hx id hi;rcases Abt.1 hx with hx|hx;exact h x hx id hi;simp only[Ac2]at hx;subst hx;exact hb id hi
theorem AJR{tm:List AV}{bs:List Bnd}{l:Loc}(hS:∀ id∈Ay tm,id∈S)(hc:Oz S H)(hH:∀ id∈S,H[id]? = H'[id]?)(hb:QS S bs)(hl:∀ j,l≠.obj j):
  look (lk tm) H bs l=look (lk tm) H' bs l∧∀ v,look (lk tm) H bs l=some v→AZt S v:=by
 cases l with
  |tmp t=>refine⟨rfl,fun v hv id hid=>hS id ?_⟩;exact CG (Abj hv) hid
  |cell j c=>
   simp only[look];cases hj:bs[j]? with
    |none=>exact⟨rfl,fun v hv=>by cases hv⟩
    |some b=>
     cases b with
      |none=>exact⟨rfl,fun v hv=>by cases hv⟩
      |cut id=>exact⟨rfl,fun v hv=>by cases hv⟩
      |whole id=>
       have hid:=hb.get hj (id:=id) rfl;simp only;rw[hH id hid];refine⟨rfl,fun v hv => ?_⟩;cases ho:H'[id]? with
        |none=>rw[ho]at hv;cases hv
        |some o=>
         rw[ho]at hv;cases o<;>simp only at hv<;>first|(cases hv;done)|skip
         rename_i cs;intro i hi;exact hc id hid cs (by rw[hH id hid,ho]) i (CG (Abj hv) hi)
  |cap t i=>
   refine⟨rfl,fun v hv => ?_⟩;simp only[look]at hv;cases ht:lk tm t with
    |none=>rw[ht]at hv;cases hv
    |some a=>
     rw[ht]at hv;cases a<;>simp only at hv<;>first|(cases hv;done)|skip
     rename_i f cs;intro id hid;refine hS id (CG (Abj (show tm[t]? = _ from ht)) ?_);simp only[Ab];exact CG (Abj hv) hid;rename_i f cs;intro id hid;refine hS id (CG (Abj (show tm[t]? = _ from ht)) ?_);simp only[Ab];exact CG (Abj hv) hid
  |obj j=>exact absurd rfl (hl j)
theorem Hm{f:List Nat}{fz fz':List Bool}(hl:fz.length=fz'.length){id:Nat}(h:fz.getD id false=fz'.getD id false):(AS f fz).getD id false=(AS f fz').getD id false:=by rw[Al,Al,h,hl]
theorem AT8{tm:List AV}(hS:∀ id∈Ay tm,id∈S)(hc:Oz S H)(hH:∀ id∈S,H[id]? = H'[id]?):∀ (its:AB) (fz fz':List Bool) (bs:List Bnd),NJ its=true→QS S bs→fz.length=fz'.length→(∀ id∈S,fz.getD id false=fz'.getD id false) →
  dec (lk tm) H its fz bs=dec (lk tm) H' its fz' bs:=by
 intro its;induction its with
  |nil=>intro fz fz' bs _ _ _ _;rfl
  |cons p r ih=>
   intro fz fz' bs hn hb hlen hz;obtain⟨l,c⟩:=p;have hno:(∀ j,l≠.obj j)∧NJ r=true:=by
    cases l with
     |obj j=>cases hn
     |tmp t=>exact⟨fun j h=>(by cases h),hn⟩
     |cell a b=>exact⟨fun j h=>(by cases h),hn⟩
     |cap a b=>exact⟨fun j h=>(by cases h),hn⟩
   obtain⟨e1,e2⟩:=AJR hS hc hH hb hno.1;have ihr:=fun bs hb=>ih fz fz' bs hno.2 hb hlen hz;have unf:∀ id∈S,AW fz id=AW fz' id:=fun id hid=>by unfold AW;rw[hz id hid]
   cases c with
    |dat t=>
     simp only[dec,← e1];cases hv:look (lk tm) H bs l with
      |none=>rfl
      |some v=>
       simp only;rw[NX t v fun id hid=>hH id (e2 v hv id hid)];cases NY H' t v with
        |none=>rfl
        |some q=>obtain⟨x,f⟩:=q;simp only;rw[ih (AS f fz) (AS f fz') bs hno.2 hb (by rw[Cc,Cc,hlen]) (fun id hid=>Hm hlen (hz id hid))]
    |own T e=>
     simp only[dec,← e1];cases hv:look (lk tm) H bs l with
      |none=>rfl
      |some v=>
       cases v with
        |nils e'=>simp only;rw[ihr _ (hb.snoc fun id h=>by cases h)]
        |own id=>have hid:id∈S:=e2 _ hv id (by simp[Ab]);simp only;rw[← hH id hid,unf id hid,ihr _ (hb.snoc fun id' h=>by simp only[Bnd.id?,AbZ]at h;subst h;exact hid)]
        |win id off n=>
         have hid:id∈S:=e2 _ hv id (by simp[Ab]);cases off with
          |succ off=>rfl
          |zero=>simp only;rw[← hH id hid,unf id hid,ihr _ (hb.snoc fun id' h=>by simp only[Bnd.id?,AbZ]at h;subst h;exact hid)]
        |_=>rfl
    |box n=>
     simp only[dec,← e1];cases hv:look (lk tm) H bs l with
      |none=>rfl
      |some v=>
       cases v with
        |ptr id off=>
         have hid:id∈S:=e2 _ hv id (by simp[Ab]);cases off with
          |succ off=>rfl
          |zero=>simp only;rw[← hH id hid,ihr _ (hb.snoc fun id' h=>by simp only[Bnd.id?,AbZ]at h;subst h;exact hid)]
        |_=>rfl
    |map k v=>
     simp only[dec,← e1];cases hv:look (lk tm) H bs l with
      |none=>rfl
      |some u=>
       cases u with
        |mp id=>have hid:id∈S:=e2 _ hv id (by simp[Ab]);simp only;rw[← hH id hid,ihr _ (hb.snoc fun id' h=>by simp only[Bnd.id?,AbZ]at h;subst h;exact hid)]
        |_=>rfl
    |rows T e t=>
     simp only[dec,← e1];cases hv:look (lk tm) H bs l with
      |none=>rfl
      |some u=>
       cases u with
        |own id=>have hid:id∈S:=e2 _ hv id (by simp[Ab]);simp only;rw[← hH id hid,unf id hid,ihr _ (hb.snoc fun id' h=>by simp only[Bnd.id?,AbZ]at h;subst h;exact hid)]
        |_=>rfl
    |mrows j e t=>
     simp only[dec,← e1];cases hv:look (lk tm) H bs l with
      |none=>rfl
      |some u=>
       cases u with
        |mp id=>have hid:id∈S:=e2 _ hv id (by simp[Ab]);simp only;rw[← hH id hid,unf id hid,ihr _ (hb.snoc fun id' h=>by simp only[Bnd.id?,AbZ]at h;subst h;exact hid)]
        |_=>rfl
    |aptr T e n=>
     simp only[dec,← e1];cases hv:look (lk tm) H bs l with
      |none=>rfl
      |some u=>
       cases u with
        |aptr id n'=>have hid:id∈S:=e2 _ hv id (by simp[Ab]);simp only;rw[← hH id hid,unf id hid,ihr _ (hb.snoc fun id' h=>by simp only[Bnd.id?,AbZ]at h;subst h;exact hid)]
        |_=>rfl
    |aptr' j n=>simp only[dec,← e1,ihr bs hb]
    |bndp f j=>simp only[dec,← e1,ihr bs hb]
    |nilp=>simp only[dec,← e1,ihr bs hb]
    |own' j=>simp only[dec,← e1,ihr bs hb]
    |ptr' j off=>simp only[dec,← e1,ihr bs hb]
    |map' j=>simp only[dec,← e1,ihr bs hb]
    |sub' j=>simp only[dec,← e1,ihr bs hb]
    |win' j=>
     simp only[dec,← e1];rw[ihr bs hb];cases hv:look (lk tm) H bs l with
      |none=>rfl
      |some v=>
       cases v with
        |own id=>
         have hid:id∈S:=e2 _ hv id (by simp[Ab]);cases bs[j]? with
          |none=>rfl
          |some b=>
           cases b with
            |whole id'=>
             refine Eq.trans (b:=match decide (id=id'),H[id]? with
              |true,some (.arr _ _ ys)=>(match dec (lk tm) H' r fz' bs with
               |some (xs,bs',g)=>some ((AJ ys,xs),bs',g)
               |none=>none)
              |_,_=>none) rfl ?_
             rw[hH id hid];rfl
            |_=>rfl
        |win id off n=>
         cases off with
          |succ off=>cases bs[j]?<;>rfl
          |zero=>
           cases bs[j]? with
            |none=>rfl
            |some b=>cases b<;>rfl
        |_=>cases bs[j]?<;>rfl
    |clo f ps=>simp only[dec,← e1,ihr bs hb]
    |bnd f j=>simp only[dec,← e1,ihr bs hb]
    |prs T j=>
     simp only[dec,← e1];cases hv:look (lk tm) H bs l with
      |none=>rfl
      |some v=>
       cases v with
        |nils e'=>simp only;rw[ihr _ (hb.snoc fun id h=>by cases h)]
        |own id=>have hid:id∈S:=e2 _ hv id (by simp[Ab]);simp only;rw[← hH id hid,ihr _ (hb.snoc fun id' h=>by simp only[Bnd.id?,AbZ]at h;subst h;exact hid)]
        |_=>rfl
    |nil e=>simp only[dec,← e1,ihr bs hb]
theorem Lf{fz fz':List Bool}:∀ (n:Nat) (bs:List Bnd) (slot:Nat),(∀ s,slot≤s→s<slot+n→Ai H fz s=Ai H' fz' s)→D9 H fz (B7 n bs slot) bs=D9 H' fz' (B7 n bs slot) bs:=by
 intro n;induction n with
  |zero=>intro bs slot _;cases bs<;>rfl
  |succ n ih=>
   intro bs slot h;cases bs with
    |nil=>simp only[B7,D9,List.tail_nil];rw[h slot (Abd _) (by omega),ih [] (slot+1) fun s h1 h2=>h s (by omega) (by omega)]
    |cons b bs=>
     cases b with
      |whole id=>simp only[B7,D9,Ac0];rw[ih bs slot fun s h1 h2=>h s h1 (by omega)]
      |none=>simp only[B7,D9,Ac0];rw[h slot (Abd _) (by omega),ih bs (slot+1) fun s h1 h2=>h s (by omega) (by omega)]
      |cut id=>simp only[B7,D9,Ac0];rw[h slot (Abd _) (by omega),ih bs (slot+1) fun s h1 h2=>h s (by omega) (by omega)]
theorem BZ{np na:Nat}{its outs:AB}{rs:List RS}{f:Ag (leaves its)→Option (Ag (leaves outs))}(hno:NJ its=true)(hn:Nat.ble (CI outs) 4=true):Fk (AF np na its outs rs f):=by intro R args H H' fz fz' slot k S hS hc ha;have hn4:=Abu hn;have hd:dec (lk args) H its fz []=dec (lk args) H' its fz' []:=AT8 hS hc ha.heap its fz fz' [] hno (fun b hb=>by cases hb) ha.len ha.wrF;unfold AF;rw[hd];split;rfl;rename_i x bs fr _;split;rfl;split;rfl;have hf:∀ (g:List Nat) s,slot≤s→s<slot+CI outs→Ai H (AS g fz) s=Ai H' (AS g fz') s:=fun g s h1 h2=>DM ha h1 (by omega) g;unfold GQ;rw[Lf (fz:=fz) (fz':=fz') (CI outs) (bs.take np) slot (hf []),Lf (fz:=AS fr fz) (fz':=AS fr fz') (CI outs) (bs.take np) slot (hf fr)]
theorem ANa:∀ (n:Nat) (bs:List Bnd) (slot i:Nat),i∈B7 n bs slot→(∃ b∈bs,b.id? = some i)∨(slot≤i∧i<slot+n):=by
 intro n;induction n with
  |zero=>intro bs slot i h;cases bs<;>cases h
  |succ n ih=>
   intro bs slot i h;have next:∀ bs',i∈slot::B7 n bs' (slot+1)→(∃ b∈bs',b.id? = some i)∨(slot≤i∧i<slot+(n+1)):=by intro bs' h;rcases AcH.1 h with rfl|h;exact .inr ⟨Abd _,by omega⟩;rcases ih bs' (slot+1) i h with h|h;exact .inl h;exact .inr ⟨by omega,by omega⟩
   cases bs with
    |nil=>exact next [] h
    |cons b bs=>
     cases b with
      |whole id=>simp only[B7]at h;rcases AcH.1 h with rfl|h;exact .inl ⟨.whole i,by simp,rfl⟩;rcases ih bs slot i h with⟨b,hb,e⟩|h;exact .inl ⟨b,by simp[hb],e⟩;exact .inr ⟨h.1,by omega⟩
      |none=>rcases next bs h with⟨b,hb,e⟩|h;exact .inl ⟨b,by simp[hb],e⟩;exact .inr h
      |cut id=>rcases next bs h with⟨b,hb,e⟩|h;exact .inl ⟨b,by simp[hb],e⟩;exact .inr h
theorem AOB{tm:List AV}(hS:∀ id∈Ay tm,id∈S)(hc:Oz S H):∀ (its:AB) (fz:List Bool) (bs:List Bnd) (x:Ag (leaves its)) (bs':List Bnd) (fr:List Nat),NJ its=true→QS S bs →
  dec (lk tm) H its fz bs=some (x,bs',fr)→QS S bs':=by
 intro its;induction its with
  |nil=>intro fz bs x bs' fr _ hb h;simp only[dec,AbZ]at h;cases h;exact hb
  |cons p r ih=>
   intro fz bs x bs' fr hn hb h;obtain⟨l,c⟩:=p;have hno:(∀ j,l≠.obj j)∧NJ r=true:=by
    cases l with
     |obj j=>cases hn
     |tmp t=>exact⟨fun j h=>(by cases h),hn⟩
     |cell a b=>exact⟨fun j h=>(by cases h),hn⟩
     |cap a b=>exact⟨fun j h=>(by cases h),hn⟩
   have e2:=(AJR (H':=H) hS hc (fun _ _=>rfl) hb hno.1 (l:=l)).2;have one:∀ {id:Nat} {b:Bnd},id∈S→b.id? = some id→QS S (bs++[b]):=fun hid hbid=>hb.snoc fun id' h'=>by rw[hbid]at h';cases h';exact hid
   cases c<;>simp only[dec]at h
   case dat t=>
    split at h
    ·split at h
     ·split at h
      ·split at h
       ·rename_i hd;cases h;exact ih _ _ _ _ _ hno.2 hb hd
       ·cases h
      ·cases h
     ·cases h
    ·cases h
   case own T e=>
    split at h
    ·split at h
     ·split at h
      ·rename_i hd;cases h;exact ih _ _ _ _ _ hno.2 (hb.snoc fun id h=>by cases h) hd
      ·cases h
     ·cases h
    ·rename_i id hl
     split at h
     ·split at h
      ·split at h
       ·rename_i hd;cases h;exact ih _ _ _ _ _ hno.2 (one (e2 _ hl id (by simp[Ab])) rfl) hd
       ·cases h
      ·cases h
     ·cases h
    ·rename_i id n hl
     split at h
     ·split at h
      ·split at h
       ·rename_i hd;cases h;exact ih _ _ _ _ _ hno.2 (one (e2 _ hl id (by simp[Ab])) rfl) hd
       ·cases h
      ·cases h
     ·cases h
    ·cases h
   case prs T j=>
    split at h
    ·split at h
     ·rename_i hd;cases h;exact ih _ _ _ _ _ hno.2 (hb.snoc fun id h=>by cases h) hd
     ·cases h
    ·rename_i id hl
     split at h
     ·split at h
      ·split at h
       ·rename_i hd;cases h;exact ih _ _ _ _ _ hno.2 (one (e2 _ hl id (by simp[Ab])) rfl) hd
       ·cases h
      ·cases h
     ·cases h
    ·cases h
   case box n=>
    split at h
    ·rename_i id hl
     split at h
     ·split at h
      ·exact ih _ _ _ _ _ hno.2 (one (e2 _ hl id (by simp[Ab])) rfl) h
      ·cases h
     ·cases h
    ·cases h
   case map k v=>
    split at h
    ·rename_i id hl
     split at h
     ·split at h
      ·split at h
       ·rename_i hd;cases h;exact ih _ _ _ _ _ hno.2 (one (e2 _ hl id (by simp[Ab])) rfl) hd
       ·cases h
      ·cases h
     ·cases h
    ·cases h
   case rows T e t=>
    split at h
    ·rename_i id hl
     split at h
     ·split at h
      ·split at h
       ·rename_i hd;cases h;exact ih _ _ _ _ _ hno.2 (one (e2 _ hl id (by simp[Ab])) rfl) hd
       ·cases h
      ·cases h
     ·cases h
    ·cases h
   case mrows j e t=>
    split at h
    ·rename_i id hl
     split at h
     ·split at h
      ·split at h
       ·rename_i hd;cases h;exact ih _ _ _ _ _ hno.2 (one (e2 _ hl id (by simp[Ab])) rfl) hd
       ·cases h
      ·cases h
     ·cases h
    ·cases h
   case aptr T e n=>
    split at h
    ·rename_i id n' hl
     split at h
     ·split at h
      ·split at h
       ·rename_i hd;cases h;exact ih _ _ _ _ _ hno.2 (one (e2 _ hl id (by simp[Ab])) rfl) hd
       ·cases h
      ·cases h
     ·cases h
    ·cases h
   case bndp f j=>
    split at h
    ·split at h
     ·exact ih _ _ _ _ _ hno.2 hb h
     ·cases h
    ·cases h
   case nilp=>
    cases hv:look (lk tm) H bs l with
    |none=>rw[hv]at h;cases h
    |some v=>
     rw[hv]at h
     cases v<;>simp only at h<;>first|exact ih _ _ _ _ _ hno.2 hb h|cases h
   case aptr' j n=>
    split at h
    ·split at h
     ·exact ih _ _ _ _ _ hno.2 hb h
     ·cases h
    ·cases h
   case own' j=>
    split at h
    ·split at h
     ·exact ih _ _ _ _ _ hno.2 hb h
     ·cases h
    ·cases h
   case ptr' j off=>
    split at h
    ·split at h
     ·exact ih _ _ _ _ _ hno.2 hb h
     ·cases h
    ·cases h
   case map' j=>
    split at h
    ·split at h
     ·exact ih _ _ _ _ _ hno.2 hb h
     ·cases h
    ·cases h
   case win' j=>
    split at h
    ·split at h
     ·split at h
      ·rename_i hd;cases h;exact ih _ _ _ _ _ hno.2 hb hd
      ·cases h
     ·cases h
    ·split at h
     ·split at h
      ·rename_i hd;cases h;exact ih _ _ _ _ _ hno.2 hb hd
      ·cases h
     ·cases h
    ·cases h
   case sub' j=>
    split at h
    ·split at h
     ·split at h
      ·rename_i hd;cases h;exact ih _ _ _ _ _ hno.2 hb hd
      ·cases h
     ·cases h
    ·cases h
   case clo f ps=>
    split at h
    ·split at h
     ·exact ih _ _ _ _ _ hno.2 hb h
     ·cases h
    ·cases h
   case bnd f j=>
    split at h
    ·split at h
     ·exact ih _ _ _ _ _ hno.2 hb h
     ·cases h
    ·cases h
   case nil e=>
    cases hv:look (lk tm) H bs l with
    |none=>rw[hv]at h;cases h
    |some v=>
     rw[hv]at h
     cases v<;>simp only at h<;>first|exact ih _ _ _ _ _ hno.2 hb h|cases h
theorem AV9{np na:Nat}{its outs:AB}{rs:List RS}{f:Ag (leaves its)→Option (Ag (leaves outs))}(hno:NJ its=true)(hn:Nat.ble (CI outs) 4=true):Fk (DW (AF np na its outs rs f)):=by
 intro R args H H' fz fz' slot k hS0 hS hc ha;have hn4:=Abu hn;have hd:dec (lk args) H its fz []=dec (lk args) H' its fz' []:=AT8 hS hc ha.heap its fz fz' [] hno (fun b hb=>by cases hb) ha.len ha.wrF;have hbs:∀ x bs fr,dec (lk args) H its fz []=some (x,bs,fr)→QS hS0 bs:=fun x bs fr h=>AOB hS hc its fz [] x bs fr hno (fun b hb=>by cases hb) h;unfold DW AF;rw[hd]at hbs ⊢;split;rfl;rename_i x bs fr hdec;have hb:=hbs x bs fr hdec;split;rfl;split;rfl;rename_i y _;have hf:∀ (g:List Nat) s,slot≤s→s<slot+CI outs→Ai H (AS g fz) s=Ai H' (AS g fz') s:=fun g s h1 h2=>DM ha h1 (by omega) g;have key:∀ (e:Eff) (v:AV),e.heap=none→(∀ p∈e.objs,p.1∈given (bs.drop np)∨p.1∈B7 (CI outs) (bs.take np) slot)→Sn slot H fz k v e=Sn slot H' fz' k v e:=by
  intro e v he ho;unfold Sn;rw[he];simp only;have hfree:Ai (Bj e H) (Dc e fz) (slot+3)=Ai (Bj e H') (Dc e fz') (slot+3):=by rw[By he,By he,CE he,CE he];unfold Ai;rw[El e.objs H H' (ha.slotH (slot+3) (by omega) (by omega)),Hm ha.len (ha.slotF (slot+3) (by omega) (by omega))]
  cases v with
   |win id off n=>
    cases off with
     |succ off=>rfl
     |zero=>
      simp only;cases hany:(e.objs.any fun p=>Nat.beq p.1 id)with
       |false=>
        simp only[Bool.and_false];cases (Bj e H)[id]? with
         |none=>cases (Bj e H')[id]? with
          |none=>rfl
          |some o=>cases o<;>rfl
         |some o=>cases (Bj e H')[id]? with
          |none=>cases o<;>rfl
          |some o'=>cases o<;>cases o'<;>rfl
       |true=>
        rw[List.any_eq_true]at hany;obtain⟨p,hp,hpi⟩:=hany;have hpi:=Abp hpi;subst hpi;have hin:(∃ b∈bs,b.id? = some p.1)∨(slot≤p.1∧p.1<slot+CI outs):=by rcases ho p hp with h|h;obtain⟨j,hj⟩:=Me.1 h;exact .inl ⟨_,AcT (Abj hj),rfl⟩;rcases ANa _ _ _ _ h with⟨b,h1,h2⟩|h;exact .inl ⟨b,Ac6 h1,h2⟩;exact .inr h
        have h1:H[p.1]? = H'[p.1]? := by
         rcases hin with⟨b,hbm,hbi⟩|⟨h1,h2⟩
         exact ha.heap _ (hb b hbm _ hbi);exact ha.slotH _ h1 (by omega)
        have h2:fz.getD p.1 false=fz'.getD p.1 false:=by
         rcases hin with⟨b,hbm,hbi⟩|⟨h1,h2⟩
         exact ha.wrF _ (hb b hbm _ hbi);exact ha.slotF _ h1 (by omega)
        have h3:(Bj e H)[p.1]? = (Bj e H')[p.1]? := by rw[By he,By he];exact El e.objs H H' h1
        have h4:AW (Dc e fz) p.1=AW (Dc e fz') p.1:=by rw[CE he,CE he];unfold AW;rw[Hm ha.len h2]
        rw[h3,h4,hfree]
   |_=>rfl
 have mem:∀ p∈(given (bs.drop np)).map (fun i=>(i,Ob.dead))++(B7 (CI outs) (bs.take np) slot).zip ((encode (cellsOf rs) outs y).heap.map (Cw (B7 (CI outs) (bs.take np) slot))),p.1∈given (bs.drop np)∨p.1∈B7 (CI outs) (bs.take np) slot:=by intro p hp;rcases Abt.1 hp with h|h;obtain⟨i,hi,rfl⟩:=Acl.1 h;exact .inl hi;exact .inr (List.of_mem_zip h).1
 unfold GQ;rw[Lf (fz:=fz) (fz':=fz') (CI outs) (bs.take np) slot (hf []),Lf (fz:=AS fr fz) (fz':=AS fr fz') (CI outs) (bs.take np) slot (hf fr)];split;split;exact key { objs:=_ } _ rfl mem;rfl;split;exact key { objs:=_,frz:=_ } _ rfl mem;rfl
end
def AZM(i:Nat)(args:List AV):Option FuncId:=
 match args[i]? with
 |some (.clo f _)=>some f
 |some (.bnd f _)=>some f
 |_=>none
def Env.BA(E:Env)(g:FuncId)(i:Nat)(c:FuncId)(s:Spec):Env where
 spec x:=match Nat.beq x g with
  |true=>fun R args H fz slot k=>match AZM i args with
   |some c'=>match Nat.beq c' c with
    |true=>s R args H fz slot k
    |false=>E.spec x R args H fz slot k
   |.none=>Option.none
  |false=>E.spec x
 loc x:=match Nat.beq x g with
  |true=>false
  |false=>E.loc x
 EM x:=match Nat.beq x g with
  |true=>E.EM g
  |false=>E.EM x
 pan x:=match Nat.beq x g with
  |true=>.none
  |false=>E.pan x
theorem Env.Lm{P:Program}{E:Env}{g:FuncId}{i:Nat}{c:FuncId}{s:Spec}(h:AH P E)(hs:Ad P g s)(hl2:Fk s):AH P (E.BA g i c s):=by
 refine⟨?_,⟨?_,?_⟩,fun x s' hx => ?_⟩;intro x;simp only[Env.BA];cases hx:Nat.beq x g with
  |false=>exact h.1 x
  |true=>have:=Abp hx;subst this;intro R args H fz slot k r hk;simp only at hk;split at hk;rename_i c' hc';split at hk;rename_i hb;obtain⟨v,e,h1,h2,h3,h4⟩:=hs R args H fz slot k r hk;exact⟨v,e,h1,fun R' k'=>by simp only[hc',hb];exact h2 R' k',h3,h4⟩;rename_i hb;obtain⟨v,e,h1,h2,h3,h4⟩:=h.1 x R args H fz slot k r hk;exact⟨v,e,h1,fun R' k'=>by simp only[hc',hb];exact h2 R' k',h3,h4⟩;cases hk
 intro x hx;simp only[Env.BA]at hx ⊢;cases hb:Nat.beq x g with
  |true=>rw[hb]at hx;cases hx
  |false=>rw[hb]at hx;exact h.2.1.1 x hx
 intro x hx;simp only[Env.BA]at hx ⊢;cases hb:Nat.beq x g with
  |true=>rw[hb]at hx;have:=Abp hb;subst this;have h2:=h.2.1.2 x hx;intro R args H H' fz fz' slot k S a1 a2 a3;simp only;split;split;exact hl2 R args H H' fz fz' slot k S a1 a2 a3;exact h2 R args H H' fz fz' slot k S a1 a2 a3;rfl
  |false=>rw[hb]at hx;exact h.2.1.2 x hx
 simp only[Env.BA]at hx ⊢;cases hb:Nat.beq x g with
  |true=>rw[hb]at hx;cases hx
  |false=>rw[hb]at hx;exact h.2.2 x s' hx
end Go.Pev
end
section
namespace Go.Pev
open Go.RowKit
def AAt:List Value→Option (List (IntKind×Int))
 |[]=>some []
 |.int k n::r=>(AAt r).map ((k,n) :: ·)
 |_::_=>none
def AVz:Exit→Option PV
 |.panic [⟨.iface T (.agg a),false,false⟩]=>(AAt a.toList).map fun l=>(T,l)
 |_=>none
def AIo(T:TypeId)(ks:List IntKind)(e:Exit):Option (List Int):=
 match AVz e with
 |some (T',l)=>match decide (T'=T)&&decide (l.map (·.1)=ks)with
  |true=>some (l.map (·.2))
  |false=>none
 |none=>none
def ARK(T:TypeId)(ks:List IntKind)(ns:List Int):PV:=(T,ks.zip ns)
theorem ASz:∀ {vs:List Value} {l:List (IntKind×Int)},AAt vs=some l→vs=l.map fun p=>Value.int p.1 p.2:=by
 intro vs;induction vs with
  |nil=>intro l h;simp only[AAt,AbZ]at h;subst h;rfl
  |cons v vs ih=>intro l h;unfold AAt at h;split at h;rename_i h1;cases h1;rename_i k n r h1;cases h1;simp only[Abc]at h;obtain⟨l',h2,rfl⟩:=h;rw[ih h2];rfl;cases h
theorem AIL{e:Exit}{p:PV}(h:AVz e=some p):e = .panic [Bm p]:=by unfold AVz at h;split at h;rename_i T a;simp only[Abc]at h;obtain⟨l,h1,rfl⟩:=h;have:=ASz h1;simp only[Bm,Gz];rw[← this];cases h
theorem Zf{T:TypeId}{ks:List IntKind}{e:Exit}{ns:List Int}(h:AIo T ks e=some ns):e = .panic [Bm (ARK T ks ns)]:=by
 unfold AIo at h;split at h;rename_i T' l hu;split at h;rename_i hc;simp only[Aba,Abb]at hc;obtain⟨rfl,rfl⟩:=hc;simp only[AbZ]at h;subst h;rw[AIL hu];unfold ARK;have:∀ l:List (IntKind×Int),(l.map (·.1)).zip (l.map (·.2))=l:=by
  intro l;induction l with
   |nil=>rfl
   |cons p l ih=>simp only[AcL,List.zip_cons_cons,ih]
 rw[this];cases h;cases h
noncomputable section
abbrev AVN(os:AT)(pits:AB):Type:=Qe os⊕(List Int×Ag (leaves pits))
def MV(np nt:Nat)(its:AB)(os:AT)(T:TypeId)(ks:List IntKind)(pits:AB)(e:Exit)(st:St):Option (Ag (leaves its)⊕AVN os pits):=
 match e with
 |.normal=>match decode np nt st its with
  |some d=>some (.inl d)
  |none=>none
 |.panic c=>match AIo T ks (.panic c)with
  |some ns=>match decode np nt st pits with
   |some d=>some (.inr (.inr (ns,d)))
   |none=>none
  |none=>none
 |e=>match NI np nt e st os with
  |some x=>some (.inr (.inl x))
  |none=>none
def AGI(nt:Nat){R:Type}(T:TypeId)(ks:List IntKind)(pits:AB)(k:Exit→St→Option R)(os:AT):AVN os pits→Option R
 |.inl r=>Pz nt k os r
 |.inr q=>k (.panic [Bm (ARK T ks q.1)]) (encode nt pits q.2)
def Ht[Lk](np nt:Nat)(its:AB)(os:AT)(T:TypeId)(ks:List IntKind)(pits:AB)(step:Ag (leaves its)→Option (Ag (leaves its)⊕AVN os pits)):Qf:=fun R st k=>
 match decode np nt st its with
 |none=>none
 |some v=>match AQ step many v with
  |none=>none
  |some r=>AGI nt T ks pits k os r
def F9[Lk](P:Program)(E:Env)(h:Hints)(n np nt:Nat)(body:Code)(its:AB)(os:AT)(T:TypeId)(ks:List IntKind)(pits:AB)(v:Ag (leaves its)):Option (Ag (leaves its)⊕AVN os pits):=
 An P E h _ body n (encode nt its v) (MV np nt its os T ks pits)
def CM[Lk](np:Nat)(P:Program)(E:Env)(h:Hints)(fn:Func)(its outs:AB)(rs:List RS)(T:TypeId)(ks:List IntKind)(pits:AB)(x:Ag (leaves its)):Option (Ag (leaves outs)⊕(List Int×Ag (leaves pits))):=
 match fn.body with
 |none=>none
 |some c=>An P E h _ c 0 (encode fn.ntmps its x) fun e st=>
  match e with
  |.normal=>match finish np P fn outs rs st with
   |some y=>some (.inl y)
   |none=>none
  |.ret=>match finish np P fn outs rs st with
   |some y=>some (.inl y)
   |none=>none
  |.panic c=>match AIo T ks (.panic c)with
   |some ns=>match dec (lk []) st.heap pits st.frz []with
    |some (z,bs,_)=>match pins np 0 bs&&(st.heap.take np).all A8 with
     |true=>some (.inr (ns,z))
     |false=>none
    |none=>none
   |none=>none
  |_=>none
def FU(np na:Nat)(its outs:AB)(rs:List RS)(T:TypeId)(ks:List IntKind)(pits:AB)(f:Ag (leaves its)→Option (Ag (leaves outs)⊕(List Int×Ag (leaves pits)))):HY:=fun R args H fz slot k kp=>
 match dec (lk args) H its fz []with
 |none=>none
 |some (x,bs,fr)=>match bs.all Bnd.AIK&&decide (bs.length=CI its)&&decide (args.length=na)&&(EX its&&EX outs&&EX pits)with
  |false=>none
  |true=>match f x with
   |none=>none
   |some (.inl y)=>GQ R (given (bs.drop np)) (bs.take np) fr rs (encode (cellsOf rs) outs y) (B7 (CI outs) (bs.take np) slot) H fz k
   |some (.inr q)=>GQ R (given (bs.drop np)) (bs.take np) fr [] (encode 0 pits q.2) (B7 (CI pits) (bs.take np) slot) H fz fun _ e=>kp (ARK T ks q.1) e
def CB{α β:Type}:Option (α⊕β)→Option α
 |some (.inl y)=>some y
 |_=>none
end
section
variable {P:Program} {E:Env}
theorem Pn[DfI]{h':Hints}(hE:∀ g,Ad P g (E.spec g))(hL:DG E)(hP:EL P E){np nt n:Nat}{body:Code}{its:AB}{os:AT}{T:TypeId}{ks:List IntKind}{pits:AB}{stp:Ag (leaves its)→Option (Ag (leaves its)⊕AVN os pits)}
  (hstep:∀ v,stp v=F9 P E h' n np nt body its os T ks pits v) (hl:Ax P np h' body n):GU P np (.loop body) (Ht np nt its os T ks pits stp):=by
 intro R st k r hk;unfold Ht at hk;split at hk;cases hk;rename_i v hv;split at hk;cases hk;rename_i x hx;have hout:∃ e st',k e st'=some r∧∀ (R':Type) (k':Exit→St→Option R'),AGI nt T ks pits k' os x=k' e st':=by
  cases x with
   |inl x=>exact Tb os x hk
   |inr q=>exact⟨_,_,hk,fun _ _=>rfl⟩
 obtain⟨e,st',h1,h2⟩:=hout;refine⟨e,st',h1,fun R' k'=>by simp only[Ht,hv,hx];exact h2 R' k',?_⟩
 have key:∀ (fuel:Nat) (v:Ag (leaves its)),E2 stp fuel v=some x→∀ (w:World) (F:Nat→Prop) (m:Mp) (a:Act) (Q:Exit→Act→World→Prop),SI w F m (encode nt its v) a →
   (∀ a' w' F' m',SI w' F' m' st' a'→Fl np w F m (encode nt its v).heap (encode nt its v).frz w' F' m' st'.heap st'.frz→Q e a' w')→Code.rounds P body Q fuel a w:=by
  intro fuel
  induction fuel with
  |zero=>intro v h;simp[E2]at h
  |succ fuel ih=>
   intro v h w F m a Q hs hq
   simp only[E2]at h
   rw[hstep v]at h
   cases hr:F9 P E h' n np nt body its os T ks pits v with
   |none=>rw[hr]at h;cases h
   |some y=>
    rw[hr]at h
    unfold F9 at hr
    obtain⟨e1,st1,g1,_,g3⟩:=B2 hE hL hP body n hl _ _ _ _ hr
    show body.wp P (Exit.then (Code.rounds P body Q fuel) Q) a w
    refine g3 w F m a _ hs fun a' w' F' m' s1 x1 => ?_
    have fin:∀ (its':AB) (d:Ag (leaves its')),decode np nt st1 its'=some d→(∀ (R':Type) (k':Exit→St→Option R'),AGI nt T ks pits k' os x=k' e1 (encode nt its' d))→Q e1 a' w':=by
     intro its' d o1 o2
     obtain⟨F2,m2,s2,x2⟩:=Ed s1 o1
     have e3:=(h2 (Exit×St) fun e st=>some (e,st)).symm.trans (o2 (Exit×St) fun e st=>some (e,st))
     simp only[AbZ,Abf]at e3
     obtain⟨rfl,rfl⟩:=e3
     exact hq a' w' F2 m2 s2 (x1.trans x2)
    have other:e1≠.normal→(∀ c,e1≠.panic c)→Q e1 a' w':=by
     intro hn hp
     have g1':(match NI np nt e1 st1 os with
      |some x=>some (Sum.inr (Sum.inl x))
      |none=>none)=some y:=by
      cases e1<;>first|exact absurd rfl hn|exact absurd rfl (hp _)|exact g1
     split at g1'
     ·rename_i z hz
      simp only[AbZ]at g1';subst g1'
      simp only[AbZ]at h;subst h
      obtain⟨its',d,o1,o2⟩:=AAb os _ hz
      exact fin its' d o1 o2
     ·cases g1'
    cases e1 with
    |normal=>
     simp only[MV]at g1
     split at g1
     ·rename_i d hd
      simp only[AbZ]at g1;subst g1
      obtain⟨F2,m2,s2,x2⟩:=Ed s1 hd
      show Code.rounds P body Q fuel a' w'
      exact ih d h w' F2 m2 a' Q s2 fun a3 w3 F3 m3 s3 x3=>hq a3 w3 F3 m3 s3 (x1.trans (x2.trans x3))
     ·cases g1
    |panic c=>
     simp only[MV]at g1
     split at g1
     ·rename_i ns hns
      split at g1
      ·rename_i d hd
       simp only[AbZ]at g1;subst g1
       simp only[AbZ]at h;subst h
       exact fin pits d hd fun R' k'=>by rw[Zf hns];rfl
      ·cases g1
     ·cases g1
    |exit id=>exact other (by simp) (by simp)
    |goto l=>exact other (by simp) (by simp)
    |ret=>exact other (by simp) (by simp)
    |outgrown=>exact other (by simp) (by simp)
 intro w F m a Q hs hq;obtain⟨F2,m2,s2,x2⟩:=Ed hs hv;exact wp_loop_rounds many (key many v (by rw[← LI];exact hx) w F2 m2 a Q s2 fun a3 w3 F3 m3 s3 x3=>hq a3 w3 F3 m3 s3 (x2.trans x3))
variable {h:Hints} {g:FuncId} {fn:Func} {c:Code}
theorem Zv(hE:∀ g,Ad P g (E.spec g))(hL:DG E)(hP:EL P E)(hb:fn.body=some c){np:Nat}{its outs:AB}{rs:List RS}{T:TypeId}{ks:List IntKind}{pits:AB}(hl:Ax P np h c 0)(x:Ag (leaves its)){y:Ag (leaves outs)}
  (hy:CM np P E h fn its outs rs T ks pits x=some (.inl y)):Cd np P E h fn its outs rs x=some y:=by
 unfold CM at hy;unfold Cd;rw[hb]at hy ⊢;simp only at hy ⊢;obtain⟨ex,st',g1,g2,_⟩:=B2 hE hL hP c 0 hl _ _ _ _ hy;refine(g2 _ _).trans ?_;cases ex with
  |normal=>simp only at g1 ⊢;split at g1;rename_i z hz;simp only[AbZ,Sum.inl.injEq]at g1;rw[hz,g1];cases g1
  |ret=>simp only at g1 ⊢;split at g1;rename_i z hz;simp only[AbZ,Sum.inl.injEq]at g1;rw[hz,g1];cases g1
  |panic ch=>simp only at g1;split at g1;split at g1;split at g1;simp at g1;cases g1;cases g1;cases g1
  |_=>simp at g1
theorem AXW(hE:∀ g,Ad P g (E.spec g))(hL:DG E)(hP:EL P E)(hb:fn.body=some c){np:Nat}{its outs:AB}{rs:List RS}{T:TypeId}{ks:List IntKind}{pits:AB}(hl:Ax P np h c 0)(x:Ag (leaves its)):
  CB (CM np P E h fn its outs rs T ks pits x)=Cd np P E h fn its outs rs x:=by
 cases hy:CM np P E h fn its outs rs T ks pits x with
  |some y=>
   cases y with
    |inl y=>exact(Zv hE hL hP hb hl x hy).symm
    |inr q=>
     cases hc:Cd np P E h fn its outs rs x with
      |none=>rfl
      |some y=>exfalso;unfold Cd at hc;unfold CM at hy;rw[hb]at hy hc;simp only at hy hc;obtain⟨ex,st',g1,g2,_⟩:=B2 hE hL hP c 0 hl _ _ _ _ hc;have g2:∀ (R':Type) (k':Exit→St→Option R'),An P E h R' c 0 (encode fn.ntmps its x) k'=k' ex st':=g2;rw[g2]at hy;cases ex<;>simp only at g1 hy<;>(try cases g1;done)<;>(rw[g1]at hy;simp at hy)
  |none=>
   cases hc:Cd np P E h fn its outs rs x with
    |none=>rfl
    |some y=>exfalso;unfold Cd at hc;unfold CM at hy;rw[hb]at hy hc;simp only at hy hc;obtain⟨ex,st',g1,g2,_⟩:=B2 hE hL hP c 0 hl _ _ _ _ hc;have g2:∀ (R':Type) (k':Exit→St→Option R'),An P E h R' c 0 (encode fn.ntmps its x) k'=k' ex st':=g2;rw[g2]at hy;cases ex<;>simp only at g1 hy<;>(try cases g1;done)<;>(rw[g1]at hy;simp at hy)
theorem HH(hE:∀ g,Ad P g (E.spec g))(hL:DG E)(hP:EL P E)(hf:P.funcs[g]? = some fn)(hb:fn.body=some c)(hc:FF P g)
  {np na:Nat} (hna:na≤fn.ntmps) {its outs:AB} {rs:List RS} {T:TypeId} {ks:List IntKind} {pits:AB} {f:Ag (leaves its)→Option (Ag (leaves outs)⊕(List Int×Ag (leaves pits)))} (hfun:∀ x,f x=CM np P E h fn its outs rs T ks pits x) (hl:Ax P np h c 0) :
  Ep P g (AF np na its outs rs fun x=>CB (f x)) (FU np na its outs rs T ks pits f):=by
 intro R args H fz slot k kp r hk;simp only[FU]at hk;split at hk;cases hk;rename_i x bs fr hdec;split at hk;cases hk;rename_i hchk;simp only[Aba,Abb]at hchk;obtain⟨⟨⟨huncut,hbl⟩,hal⟩,⟨hri,hro⟩,hrp⟩:=hchk;split at hk;cases hk;rename_i y hy;left;obtain⟨e,h4,_,_,h5,_⟩:=L3 hk;refine⟨_,e,h4,fun R' k' kp' => ?_,fun R' k' => ?_⟩;simp only[FU,hdec,huncut,hbl,hal,hri,hro,hrp,hy,Aby,Aca];exact h5 R' k';simp only[AF,hdec,huncut,hbl,hal,hri,hro,hy,CB,Aby,Aca];exact h5 R' k';rename_i q hy;right;obtain⟨ns,z⟩:=q;simp only at hk;obtain⟨e,h4,he1,he2,h5,hok,hnd,hfl⟩:=L3 hk;refine⟨_,e,h4,fun R' k' kp' => ?_,hc,fun w F m vals hi hr => ?_⟩;simp only[FU,hdec,huncut,hbl,hal,hri,hro,hrp,hy,Aby,Aca];exact h5 R' _;rw[hfun x]at hy;unfold CM at hy;rw[hb]at hy;simp only at hy;obtain⟨ex,st',g1,_,g3⟩:=B2 hE hL hP c 0 hl _ _ _ _ hy;have hfin:∃ bs' fr',ex = .panic [Bm (ARK T ks ns)]∧dec (lk []) st'.heap pits st'.frz []=some (z,bs',fr')∧pins np 0 bs'=true:=by
  cases ex with
   |normal=>simp only at g1;split at g1<;>simp at g1
   |ret=>simp only at g1;split at g1<;>simp at g1
   |panic ch=>simp only at g1;split at g1;rename_i ns' hns;split at g1;rename_i z' bs' fr' hd;split at g1;rename_i hp;simp only[AbZ,Sum.inr.injEq,Abf]at g1;obtain⟨rfl,rfl⟩:=g1;rw[Aba]at hp;exact⟨bs',fr',Zf hns,hd,hp.1⟩;cases g1;cases g1;cases g1
   |_=>simp at g1
 obtain⟨bs',fr',rfl,hd',hp⟩:=hfin;refine calls_of_wp hf hb ?_;obtain⟨F2,m2,gA,invA,hsi⟩:=Kj hi hr hal hna hdec;refine g3 w F2 m2 _ _ hsi fun a' w' F' m' s1 x1 => ?_;obtain⟨F3,m3,hg,_⟩:=QR (rs:=[]) hi gA invA huncut hri hrp rfl rfl he1 he2 hok hnd hfl s1.heap x1 (vs:=[]) (us:=[]) HX rfl hd' hp;exact⟨s1.defers,rfl,F3,m3,hg⟩
theorem HF (hE : AH P E) (hf : P.funcs[g]? = some fn) (hb : fn.body.isSome = true) (hn : (fn.name == "runtime.NumGoroutine") = false) {np na : Nat} (hna : Nat.ble na fn.ntmps = true) {its outs : AB} {rs : List RS} {T : TypeId} {ks : List IntKind} {pits : AB}
  {f:Ag (leaves its)→Option (Ag (leaves outs)⊕(List Int×Ag (leaves pits)))} (hfun:∀ x,f x=CM np P E h fn its outs rs T ks pits x) (hl:Ax P np h (BC fn) 0):Ad P g (AF np na its outs rs fun x=>CB (f x)):=
 Fu hE hf hb hn hna (fun x=>by rw[hfun];exact AXW hE.1 hE.2.1 hE.2.2 (EI hb) hl x) hl
def Env.XA(E:Env)(g:FuncId)(EM:Bool)(sn:Spec)(s:HY):Env where
 spec x:=match Nat.beq x g with
  |true=>sn
  |false=>E.spec x
 loc x:=match Nat.beq x g with
  |true=>false
  |false=>E.loc x
 EM x:=match Nat.beq x g with
  |true=>EM
  |false=>E.EM x
 pan x:=match Nat.beq x g with
  |true=>some s
  |false=>E.pan x
theorem Env.Om{EM:Bool}{sn:Spec}{s:HY}(h:AH P E)(hs:Ad P g sn)(hp:Ep P g sn s)(hl2:EM=true→Fk sn):AH P (E.XA g EM sn s):=by
 refine⟨?_,⟨?_,?_⟩,fun x s' hx => ?_⟩;intro x;simp only[Env.XA];cases hx:Nat.beq x g with
  |true=>have:=Abp hx;subst this;exact hs
  |false=>exact h.1 x
 intro x hx;simp only[Env.XA]at hx ⊢;cases hb:Nat.beq x g with
  |true=>rw[hb]at hx;cases hx
  |false=>rw[hb]at hx;exact h.2.1.1 x hx
 intro x hx;simp only[Env.XA]at hx ⊢;cases hb:Nat.beq x g with
  |true=>rw[hb]at hx;exact hl2 hx
  |false=>rw[hb]at hx;exact h.2.1.2 x hx
 simp only[Env.XA]at hx ⊢;cases hb:Nat.beq x g with
  |true=>rw[hb]at hx;simp only[AbZ]at hx;subst hx;have:=Abp hb;subst this;exact hp
  |false=>rw[hb]at hx;exact h.2.2 x s' hx
def AOa(i:Nat)(c:FuncId)(s:HY)(s':Option HY):HY:=fun R args H fz slot k kp=>
 match AZM i args with
 |some c'=>match Nat.beq c' c with
  |true=>s R args H fz slot k kp
  |false=>match s' with
   |some s'=>s' R args H fz slot k kp
   |none=>none
 |none=>none
def Env.NS(E:Env)(g:FuncId)(i:Nat)(c:FuncId)(sn:Spec)(s:HY):Env:=
 { E.BA g i c sn with pan:=fun x=>match Nat.beq x g with
  |true=>some (AOa i c s (E.pan g))
  |false=>E.pan x }
theorem Env.ABD{i:Nat}{c:FuncId}{sn:Spec}{s:HY}(h:AH P E)(hs:Ad P g sn)(hp:Ep P g sn s)(hl2:Fk sn):AH P (E.NS g i c sn s):=by
 have h0:=Env.Lm (i:=i) (c:=c) h hs hl2;refine⟨h0.1,h0.2.1,fun x s' hx => ?_⟩;simp only[Env.NS]at hx;cases hb:Nat.beq x g with
  |false=>
   rw[hb]at hx;have e:(E.NS g i c sn s).spec x=E.spec x:=by simp only[Env.NS,Env.BA,hb]
   rw[e];exact h.2.2 x s' hx
  |true=>
   rw[hb]at hx;have:=Abp hb;subst this;simp only[AbZ]at hx;subst hx;intro R args H fz slot k kp r hk;unfold AOa at hk;split at hk
   ·rename_i c' hc';have e:∀ (R':Type) (k':AV→Eff→Option R'),(E.NS x i c sn s).spec x R' args H fz slot k'=match Nat.beq c' c with
      |true=>sn R' args H fz slot k'
      |false=>E.spec x R' args H fz slot k':=by
     intro R' k'
     simp only[Env.NS,Env.BA,Nat.beq_refl,hc']
     all_goals (cases Nat.beq c' c<;>rfl)
    split at hk;rename_i hcc;rcases hp R args H fz slot k kp r hk with⟨v,e1,a1,a2,a3⟩|⟨p,e1,a1,a2,a3⟩
    exact .inl ⟨v,e1,a1,fun R' k' kp'=>by simp only[AOa,hc',hcc];exact a2 R' k' kp',fun R' k'=>by rw[e,hcc];exact a3 R' k'⟩;exact .inr ⟨p,e1,a1,fun R' k' kp'=>by simp only[AOa,hc',hcc];exact a2 R' k' kp',a3⟩;rename_i hcc;split at hk;rename_i s' hs';rcases h.2.2 x s' hs' R args H fz slot k kp r hk with⟨v,e1,a1,a2,a3⟩|⟨p,e1,a1,a2,a3⟩
    exact .inl ⟨v,e1,a1,fun R' k' kp'=>by simp only[AOa,hc',hcc,hs'];exact a2 R' k' kp',fun R' k'=>by rw[e,hcc];exact a3 R' k'⟩;exact .inr ⟨p,e1,a1,fun R' k' kp'=>by simp only[AOa,hc',hcc,hs'];exact a2 R' k' kp',a3⟩;cases hk
   cases hk
end
end Go.Pev
end
section
namespace Go.Pev
open Go.RowKit
noncomputable section
def XK:List Oper→Option (FuncId×List Operand×Tmp)
 |[o0,o1]=>match o0.op,o0.dst,o0.guard with
  |.makeFunc (.func g) first cs,some t,none=>match o1.op,o1.dst,o1.guard with
   |.defer c,none,none=>match c.callee with
    |.value (.tmp t')=>match Nat.beq t' t&&(c.args.isEmpty&&first.isEmpty)with
     |true=>some (g,cs.toList,t)
     |false=>none
    |_=>none
   |_,_,_=>none
  |_,_,_=>none
 |_=>none
def isRec(o:Oper):Bool:=match o.op,o.guard with
 |.call { callee:=.builtin .recover,args,.. },none=>args.isEmpty
 |_,_=>false
def MX[Lk](P:Program)(E:Env)(h:Hints)(R:Type)(fnC:Func)(rv:AV)(caps:List AV)(H:List Ob)(fz:List Bool)(k:St→Option R):Option R:=
 match fnC.body with
 |some (.seq (.region _ ops false) rest)=>match ops.toList with
  |[]=>none
  | o :: os => match isRec o && (Nat.beq (loops rest) 0 && (fnC.results.toList.isEmpty && (Nat.ble caps.length fnC.ntmps && !(fnC.name == "runtime.NumGoroutine")))) with
   |false=>none
   |true=>D4 P E R (o::os) os H.length ((({ tmps:=.of caps fnC.ntmps,heap:=H,frz:=fz }:St).pad (Bn (o::os))).put o.dst rv) fun st=>An P E h R rest 0 st fun e st=>match e with
    |.normal=>k st
    |.ret=>k st
    |_=>none
 |_=>none
def Ho[Lk](P:Program)(E:Env)(h:Hints)(R:Type):Nat→Code→St→(Exit→St→Option R)→(List Oper→Code→St→Option R)→Option R
 |0,.seq (.region _ ops false) b,st,_,kd=>kd ops.toList b st
 |m+1,.seq a b,st,ke,kd=>match Nat.beq (loops a) 0 with
  |true=>An P E h R a 0 st fun e st=>match e with
   |.normal=>Ho P E h R m b st ke kd
   |e=>ke e st
  |false=>none
 |_,_,_,_,_=>none
def QT(H:List Ob):AV→Bool
 |.ptr i 0=>D6 H i
 |_=>false
def AIr(np:Nat):AV→Bool
 |.ptr i 0=>decide (i<np)
 |_=>false
def ABj:Nat→Code→Code
 |0,.seq _ b=>b
 |m+1,.seq _ b=>ABj m b
 |_,c=>c
def AbF(t:Tmp):Operand→Bool
 |.tmp t' => !(Nat.beq t' t)
 |_=>true
def MW[Lk](P:Program)(E:Env)(fn:Func)(m:Nat)(its outs:AB)(rs:List RS)(hA hB hC:Hints)(itsB:AB)(npB:Nat)(x:Ag (leaves its)):Option (Ag (leaves outs)):=
 match fn.body with
 |none=>none
 |some c=>Ho P E hA _ m c (encode fn.ntmps its x)
  (fun e st=>match e with
   |.ret=>finish 0 P fn outs rs st
   |_=>none)
  fun ops b st=>match XK ops with
   |none=>none
   |some (g,cs,t)=>match P.funcs[g]? with
    |none=>none
    |some fnC=>match decode 0 fn.ntmps (st.put (some t) (.clo g (cs.map (Ah st.tmps)))) itsB with
     |none=>none
     |some v=>match(Nat.blt t fn.ntmps&&cs.all (AbF t))&&(cs.map (Ah (encode fn.ntmps itsB v).tmps)).all fun a=>AIr npB a&&QT (encode fn.ntmps itsB v).heap a with
      |false=>none
      |true=>An P E hB _ b 0 (encode fn.ntmps itsB v) fun e st2=>match(cs.map (Ah (encode fn.ntmps itsB v).tmps)).all (QT st2.heap)with
       |false=>none
       |true=>match e with
        |.normal=>MX P E hC _ fnC (.ifc none) (cs.map (Ah (encode fn.ntmps itsB v).tmps)) st2.heap st2.frz fun st3=>finish 0 P fn outs rs { tmps:=st2.tmps,heap:=st3.heap,frz:=st3.frz }
        |.ret=>MX P E hC _ fnC (.ifc none) (cs.map (Ah (encode fn.ntmps itsB v).tmps)) st2.heap st2.frz fun st3=>finish 0 P fn outs rs { tmps:=st2.tmps,heap:=st3.heap,frz:=st3.frz }
        |.panic ch=>match AVz (.panic ch)with
         |some p=>MX P E hC _ fnC (.ifc (some p)) (cs.map (Ah (encode fn.ntmps itsB v).tmps)) st2.heap st2.frz fun st3=>finish 0 P fn outs rs { tmps:=st2.tmps,heap:=st3.heap,frz:=st3.frz }
         |none=>none
        |_=>none
end
section
variable {P:Program} {E:Env} {h:Hints}
theorem AE9{R:Type}{r:R}(hE:∀ g,Ad P g (E.spec g)){ops:Array Oper}{Q:Exit→Act→List Frame→World→Prop}{cs:List Frame}{k:St→Option R}:∀ (rest pre:List Oper) (slot:Nat) (st:St) (w:World) (F:Nat→Prop) (m:Mp) (a:Act),ops.toList=pre++rest →
  D4 P E R ops.toList rest slot st k=some r→SI w F m st a→(∀ a' w',AYy r k w F m st.heap st.frz a' w'→Q .normal a' cs w')→wpOpsS P ops Q (List.range' pre.length rest.length) a cs w:=by
 intro rest;induction rest with
  |nil=>intro pre slot st w F m a _ h hs hq;exact hq a w ⟨st,F,m,h,hs,Ext.refl ..⟩
  |cons o rest ih=>
   intro pre slot st w F m a hops h hs hq;simp only[D4]at h;have hget:ops[pre.length]? = some o:=by rw[← AcG,hops];simp
   have hops':ops.toList=(pre++[o])++rest:=by rw[hops];simp
   have hlen:(pre++[o]).length=pre.length+1:=by simp
   rw[Abz,Acs];simp only[wpOpsS,hget];obtain⟨st',hs',e1,e2,hh⟩:=Kf hs h;rcases hh with⟨hw,hy⟩|⟨hw,hn⟩
   rw[AcO hw];obtain⟨v,e,h1,_,h3⟩:=DP hE o.op R _ _ _ _ _ _ _ hy;have hwp:o.wp P a w (fun a' w'=>wpOpsS P ops Q (List.range' (pre.length+1) rest.length) a' cs w') (fun e a' w'=>Q e a' cs w'):=by
    refine h3 w F m a o _ _ rfl rfl hs'.heap (fun x=>Db hs'.tmps x) fun u w' F' m' hg hr => ?_;have hs2:=(hs'.go hg).put hr o.dst;have:=ih (pre++[o]) _ _ w' F' m' (a.put o.dst u) hops' h1 hs2 fun a' w'' ⟨st2,F2,m2,q1,q2,q3⟩=>hq a' w'' ⟨st2,F2,m2,q1,q2,by
     have hx:=hg.1;rw[e1,e2]at hx;refine hx.trans ?_;have:((st'.app e).put o.dst v).heap=Bj e st.heap∧((st'.app e).put o.dst v).frz=Dc e st.frz:=by cases o.dst<;>simp[St.put,St.app,e1,e2]
     rw[this.1,this.2]at q3;exact q3⟩
    rw[hlen]at this;exact this
   unfold Oper.wp at hwp;generalize (execOp a.eval o).run P w=res at hwp ⊢;split;simp[Oper.upon]at hwp;exact hwp;rw[Acg (by simp[hw])];have hs2:SI w F m (st'.put o.dst A6) (a.put o.dst undef):=hs'.put K0 o.dst;have:=ih (pre++[o]) _ _ w F m (a.put o.dst undef) hops' hn hs2 fun a' w'' ⟨st2,F2,m2,q1,q2,q3⟩=>hq a' w'' ⟨st2,F2,m2,q1,q2,by
    have:(st'.put o.dst A6).heap=st.heap∧(st'.put o.dst A6).frz=st.frz:=by cases o.dst<;>simp[St.put,e1,e2]
    rw[this.1,this.2]at q3;exact q3⟩
   rw[hlen]at this;exact this
theorem Fl.ext{w:World}{F:Nat→Prop}{m:Mp}{H:List Ob}{fz:List Bool}{w':World}{F':Nat→Prop}{m':Mp}{H':List Ob}{fz':List Bool}(x:Fl H.length w F m H fz w' F' m' H' fz'):Ext w F m H fz w' F' m' H' fz':=
 ⟨x.os,x.tape,x.output,x.size,x.keep,x.sub,x.bnd,x.own,fun i o ho hf=>x.comp i o (AY ho) ho hf⟩
theorem Fl.AbS{np:Nat}{w:World}{F:Nat→Prop}{m:Mp}{H:List Ob}{fz:List Bool}{w':World}{F':Nat→Prop}{m':Mp}{H':List Ob}{fz':List Bool}(x:Fl np w F m H fz w' F' m' H' fz'):Fl 0 w F m H fz w' F' m' H' fz':=
 ⟨x.os,x.tape,x.output,x.size,x.keep,x.sub,x.bnd,x.own,fun i o h=>absurd h (Nat.not_lt_zero _)⟩
theorem AMY(hE:∀ g,Ad P g (E.spec g))(hL:DG E)(hP:EL P E){R:Type}{r:R}{g:FuncId}{fnC:Func}{rv:AV}{caps:List AV}{H:List Ob}{fz:List Bool}{k:St→Option R}(hf:P.funcs[g]? = some fnC)(hk:MX P E h R fnC rv caps H fz k=some r):
  ∃ st3,k st3=some r∧FF P g∧∀ (w:World) (F:Nat→Prop) (m:Mp) (vals:List Value) (u:FrameMode),HI w F m H fz→AP w F m H caps vals→((u = .returning∧rv = .ifc none)∨∃ p,u = .panicking [Bm p]∧rv = .ifc (some p)) →
   CallsD P g vals.toArray u w fun en u' w'=>(∃ v,en = .returned v)∧settle u' = .returning∧∃ F' m',Aa w F m H fz w' F' m' st3.heap st3.frz:=by
 unfold MX at hk;split at hk;rename_i id ops rest hb;split at hk;cases hk;rename_i o os hops;split at hk;cases hk;rename_i hc;simp only[Aba]at hc;obtain⟨hrec,hl0,hres,hle,hnm⟩:=hc;have hl0:=Abp hl0;have hle:=Abu hle;obtain⟨st1,h1,h2⟩:=PW hE _ _ _ _ hk;obtain⟨e,st3,g1,_,g3⟩:=B2 hE hL hP (np:=st1.heap.length) rest 0 (IG rest 0 hl0) R _ _ r h1;have hfin:k st3=some r∧(e = .normal∨e = .ret):=by cases e<;>simp only at g1<;>first|exact⟨g1,.inl rfl⟩|exact⟨g1,.inr rfl⟩|cases g1
 refine⟨st3,hfin.1,BS hf (by rw[hb];rfl) (by simpa using hnm),fun w F m vals u hi hr hu => ?_⟩;have hlv:=Ae hr;have hsi:SI w F m { tmps:=.of caps fnC.ntmps,heap:=H,frz:=fz } { tmps:=vals.toArray++Array.replicate (fnC.ntmps-vals.toArray.size) undef,defers:=[] }:=by refine⟨fun t => ?_,?_,hi,rfl⟩;have:=Vq hr (fnC.ntmps-caps.length) t;simp only[Ab7,hlv];exact this;simp[hlv,Tm.of];omega
 obtain⟨hs2,he2⟩:=hsi.pad (Bn (o::os));refine callsD_of_wpS hf hb fun c0 cs hc0 => ?_;refine wpS_seq (wpS_region ?_);have hop:o.guard=none∧∃ args ts,o.op = .call { callee:=.builtin .recover,args:=args,argTypes:=ts }∧args.isEmpty=true:=by unfold isRec at hrec;split at hrec;rename_i args ts h1 h2;exact⟨h2,args,ts,h1,hrec⟩;cases hrec
 obtain⟨hg,args,ts,hop,hargs⟩:=hop;have hsize:ops.size=os.length+1:=by rw[← Abe,hops];rfl
 have h0:ops[0]? = some o:=by rw[← AcG,hops];rfl
 rw[hsize,Ac8,Acs];simp only[wpOpsS,h0];rw[AcO (by simp[Region.wanted,hg])];have hrun:(execOp (Act.eval { tmps:=vals.toArray++Array.replicate (fnC.ntmps-vals.toArray.size) undef,defers:=[] }) o).run P w = .ok .recover w:=by
  have ha:args = #[]:=by simpa using hargs
  subst ha;simp[execOp,hop,resolve,invoke,builtin]
 rw[hrun];simp only
 have go:∀ (v:Value) (c1:Frame) (u':FrameMode),Rep w F m ((St.pad { tmps:=.of caps fnC.ntmps,heap:=H,frz:=fz } (Bn (o::os))).heap) rv v→c1 = { c0 with mode:=u' }→settle u' = .returning →
   wpOpsS P ops (Exit.thenS (rest.wpS P (bodyPostS P fnC c0 cs fun en u' w'=>(∃ v,en = .returned v)∧settle u' = .returning∧∃ F' m',Aa w F m H fz w' F' m' st3.heap st3.frz)) (bodyPostS P fnC c0 cs fun en u' w'=>(∃ v,en = .returned v)∧settle u' = .returning∧∃ F' m',Aa w F m H fz w' F' m' st3.heap st3.frz))
    (List.range' 1 os.length) (Act.put { tmps:=vals.toArray++Array.replicate (fnC.ntmps-vals.toArray.size) undef,defers:=[] } o.dst v) (c1::cs) w:=by
  intro v c1 u' hrv hc1 hst
  have hs3:=hs2.put hrv o.dst
  have h3:D4 P E St ops.toList os H.length ((St.pad { tmps:=.of caps fnC.ntmps,heap:=H,frz:=fz } (Bn (o::os))).put o.dst rv) some=some st1:=by
   rw[hops];exact h2 St some
  have:=AE9 (cs:=c1::cs) hE os [o] _ _ w F m _ (by rw[hops];rfl) h3 hs3 (Q:=(Exit.thenS (rest.wpS P (bodyPostS P fnC c0 cs fun en u' w'=>(∃ v,en = .returned v)∧settle u' = .returning∧∃ F' m',Aa w F m H fz w' F' m' st3.heap st3.frz)) (bodyPostS P fnC c0 cs fun en u' w'=>(∃ v,en = .returned v)∧settle u' = .returning∧∃ F' m',Aa w F m H fz w' F' m' st3.heap st3.frz))) fun a' w' hp => ?_
  ·exact this
  ·obtain⟨st',F',m',e1,s1,x1⟩:=hp
   cases e1
   show rest.wpS P _ a' (c1::cs) w'
   refine wpS_of_wp (g3 w' F' m' a' _ s1 fun a2 w2 F2 m2 s2 x2 => ?_)
   have hx:Ext w F m H fz w2 F2 m2 st3.heap st3.frz:=by
    have hh:=DY (St.pad { tmps:=.of caps fnC.ntmps,heap:=H,frz:=fz } (Bn (o::os))) o.dst rv
    rw[hh.1,hh.2]at x1
    exact he2.trans (x1.trans x2.ext)
   have hres':fnC.results.toList=[]:=by simpa using hres
   obtain⟨us,r1,_⟩:=Hn (P:=P) s2 (fn:=fnC) (vs:=[]) (by rw[hres'];rfl)
   have hpost:a2.defers=[]∧∃ u',(c1::cs:List Frame) = { c0 with mode:=u' }::cs∧∃ v,(results fnC a2.tmps).run P w2 = .ok v w2∧((∃ v',Ending.returned v = .returned v')∧settle u' = .returning∧∃ F' m',Aa w F m H fz w2 F' m' st3.heap st3.frz):=
    ⟨s2.defers,u',by rw[hc1],_,r1,⟨_,rfl⟩,hst,F2,m2,hx,s2.heap⟩
   rcases hfin.2 with rfl|rfl<;>exact hpost
 rcases hu with⟨rfl,rfl⟩|⟨p,rfl,rfl⟩
 have hr0:recoverD (c0::cs)=none:=by simp[recoverD,hc0]
 rw[hr0];simp only;exact go .nilIface c0 .returning (by unfold Rep;rfl) (by cases c0;simp only at hc0;subst hc0;rfl) rfl;have hr0:recoverD (c0::cs)=some (Gz (some p),{ c0 with mode:=.panicking [{ v:=Gz (some p),recovered:=true }] }::cs):=by simp[recoverD,hc0,Bm]
 rw[hr0];simp only;exact go _ _ (.panicking [{ v:=Gz (some p),recovered:=true }]) (by unfold Rep;rfl) rfl rfl;cases hk
theorem AMW(hE:∀ g,Ad P g (E.spec g))(hL:DG E)(hP:EL P E){R:Type}{r:R}{ke:Exit→St→Option R}{kd:List Oper→Code→St→Option R}:∀ (m:Nat) (c:Code) (st:St),Ho P E h R m c st ke kd=some r →
  (∃ e st',e≠.normal∧ke e st'=some r∧AbR P 0 c st e st') ∨
  (∃ id ops b st',kd ops.toList b st'=some r∧ABj m c=b∧∀ (w:World) (F:Nat→Prop) (m:Mp) (a:Act) (Q:Exit→Act→World→Prop),SI w F m st a →
   (∀ a' w' F' m',SI w' F' m' st' a'→Fl 0 w F m st.heap st.frz w' F' m' st'.heap st'.frz→(Code.seq (.region id ops false) b).wp P Q a' w')→c.wp P Q a w):=by
 intro m;induction m with
  |zero=>
   intro c st hk;cases c with
    |seq a b=>cases a with
     |region id ops draw=>cases draw with
      |false=>
       simp only[Ho]at hk
       exact .inr ⟨id,ops,b,st,hk,rfl,fun w F m a Q hs hq=>hq a w F m hs (Fl.refl ..)⟩
      |true=>simp[Ho]at hk
     |_=>simp[Ho]at hk
    |_=>simp[Ho]at hk
  |succ m ih=>
   intro c st hk;cases c with
    |seq a b=>
     simp only[Ho]at hk;split at hk;rename_i hl0;have hl0:=Abp hl0;obtain⟨e,st1,h1,_,h3⟩:=B2 hE hL hP (np:=0) a 0 (IG a 0 hl0) R _ _ r hk;by_cases he:e = .normal;subst he;rcases ih b st1 h1 with⟨e2,st2,k1,k2,k3⟩|⟨id,ops,b',st2,k1,kb,k2⟩
     refine .inl ⟨e2,st2,k1,k2,fun w F m act Q hs hq=>wp_seq ?_⟩;refine h3 w F m act _ hs fun a' w' F' m' s1 x1 => ?_;exact k3 w' F' m' a' Q s1 fun a2 w2 F2 m2 s2 x2=>hq a2 w2 F2 m2 s2 (x1.trans x2);refine .inr ⟨id,ops,b',st2,k1,kb,fun w F m act Q hs hq=>wp_seq ?_⟩;refine h3 w F m act _ hs fun a' w' F' m' s1 x1 => ?_;exact k2 w' F' m' a' Q s1 fun a2 w2 F2 m2 s2 x2=>hq a2 w2 F2 m2 s2 (x1.trans x2);have h1':ke e st1=some r:=by cases e<;>first|exact absurd rfl he|exact h1
     refine .inl ⟨e,st1,he,h1',fun w F m act Q hs hq=>wp_seq ?_⟩;refine h3 w F m act _ hs fun a' w' F' m' s1 x1 => ?_;have:=hq a' w' F' m' s1 x1;cases e<;>first|exact absurd rfl he|exact this
     cases hk
    |_=>simp[Ho]at hk
variable {g0:FuncId} {fn:Func} {c:Code}
theorem XJ{ops:List Oper}{g:FuncId}{cs:List Operand}{t:Tmp}(h:XK ops=some (g,cs,t)):∃ o0 o1,ops=[o0,o1]∧o0.guard=none∧o0.dst=some t∧(∃ csA fst,o0.op = .makeFunc (.func g) fst csA∧fst.toList=[]∧csA.toList=cs) ∧
  o1.guard=none∧o1.dst=none∧∃ args ts,o1.op = .defer { callee:=.value (.tmp t),args:=args,argTypes:=ts }∧args.toList=[]:=by
 unfold XK at h;split at h;rename_i o0 o1;split at h;rename_i g' first cs' t' h1 h2 h3
 split at h;rename_i cl h4 h5 h6;split at h;rename_i t2 h7;split at h;rename_i hc;simp only[Aba]at hc;simp only[AbZ,Abf]at h;obtain⟨rfl,rfl,rfl⟩:=h;have:=Abp hc.1;subst this;obtain⟨callee,args,ts⟩:=cl;simp only at h7 hc;subst h7;exact⟨o0,o1,rfl,h3,h2,⟨cs',first,h1,by simpa using hc.2.2,rfl⟩,h6,h5,args,ts,h4,by simpa using hc.2.1⟩;cases h;cases h;cases h;cases h;cases h
theorem AE8{np:Nat}{H:List Ob}{v:AV}(h:(AIr np v&&QT H v)=true):∃ i cs,v = .ptr i 0∧i<np∧H[i]? = some (.box cs):=by rw[Aba]at h;obtain⟨h1,h2⟩:=h;unfold AIr at h1;split at h1;rename_i i;refine⟨i,?_⟩;simp only[Abb]at h1;simp only[QT,D6]at h2;split at h2;rename_i cs hb;exact⟨cs,rfl,h1,hb⟩;cases h2;cases h1
theorem AOk{np:Nat}{w w':World}{F F':Nat→Prop}{m m':Mp}{H H':List Ob}{fz fz':List Bool}(x:Fl np w F m H fz w' F' m' H' fz'):∀ {vs:List AV} {us:List Value},(vs.all fun a=>AIr np a&&QT H a)=true→vs.all (QT H')=true→AP w F m H vs us→AP w' F' m' H' vs us:=by
 intro vs;induction vs with
  |nil=>intro us _ _ h;unfold AP at *;exact h
  |cons v vs ih=>
   intro us h1 h2 h;simp only[List.all_cons]at h1 h2;rw[Aba]at h1 h2;unfold AP at h ⊢;obtain⟨u,us',rfl,h3,h4⟩:=h;refine⟨u,us',rfl,?_,ih h1.2 h2.2 h4⟩;obtain⟨i,cs,rfl,hi,hb⟩:=AE8 h1.1;have h5:=h2.1;simp only[QT,D6]at h5;split at h5;rename_i cs' hb';unfold Rep Eh at h3 ⊢;rw[hb]at h3;rw[hb'];rcases x.comp i _ hi hb (by simp)with h6|⟨_,o',h6,h7,h8,_⟩
   rw[hb']at h6;cases h6;rw[h8];exact h3;cases h5
theorem AAf(hE:∀ g,Ad P g (E.spec g))(hL:DG E)(hP:EL P E)(hf:P.funcs[g0]? = some fn)(hb:fn.body=some c)(hc:FF P g0)
  {m:Nat} {na:Nat} (hna:na≤fn.ntmps) {its outs:AB} {rs:List RS} {hA hB hC:Hints} {itsB:AB} {npB:Nat} {f:Ag (leaves its)→Option (Ag (leaves outs))} (hfun:∀ x,f x=MW P E fn m its outs rs hA hB hC itsB npB x)
  (hl:∀ [DfI],Ax P npB hB (ABj m c) 0):Ad P g0 (AF 0 na its outs rs f):=by
 intro R args H fz slot k r hk;simp only[AF]at hk;split at hk;cases hk;rename_i x bs fr hdec;split at hk;cases hk;rename_i hchk;simp only[Aba,Abb]at hchk;obtain⟨⟨⟨huncut,hbl⟩,hal⟩,hri,hro⟩:=hchk;split at hk;cases hk;rename_i y hy;generalize hids:B7 (CI outs) (bs.take 0) slot=ids at hk;generalize hgv:given (bs.drop 0)=gv at hk;obtain⟨e,h4,he1,he2,h5,hok,hnd,hfl⟩:=L3 hk;refine⟨_,e,h4,fun R' k' => ?_,hc,fun w F mm vals hi hr => ?_⟩;simp only[AF,hdec,huncut,hbl,hal,hri,hro,hy,Aby,Aca,hids,hgv];exact h5 R' k';rw[hfun x]at hy;unfold MW at hy;rw[hb]at hy;simp only at hy;refine calls_of_wp_defers hf hb ?_;obtain⟨F2,m2,gA,invA,hsi⟩:=Kj hi hr hal hna hdec
 have fin:∀ (w':World) (F':Nat→Prop) (m':Mp) (st':St) (tm:Array Value),SI w' F' m' st' { tmps:=tm,defers:=[] }→Fl 0 w F2 m2 (encode fn.ntmps its x).heap (encode fn.ntmps its x).frz w' F' m' st'.heap st'.frz→finish 0 P fn outs rs st'=some y →
   Leaves P fn tm (fun en w'=>∃ u,en = .returned u∧∃ F' m',Aa w F mm H fz w' F' m' (Bj e H) (Dc e fz)∧Rep w' F' m' (Bj e H) (single (DJ rs (GW ids (encode (cellsOf rs) outs y).tmps.list))) u) [] .returning w':=by
  intro w' F' m' st' tm hs x1 hfin
  obtain⟨vs,tm',bs',fr',hvs,htm,hd',hp⟩:=NQ hfin
  rw[Aba]at hp
  obtain⟨us,r1,r2⟩:=Hn hs hvs
  exact⟨_,r1,_,rfl,QR hi gA invA huncut hri hro hids hgv he1 he2 hok hnd hfl hs.heap x1 r2 htm hd' hp.1⟩
 rcases AMW hE hL hP m c _ hy with⟨ex,st',hne,hke,hrun⟩|⟨id,ops,b,st',hkd,hcb,hrun⟩
 have hex:ex = .ret∧finish 0 P fn outs rs st'=some y:=by cases ex<;>simp only at hke<;>first|exact⟨rfl,hke⟩|cases hke
 obtain⟨rfl,hke⟩:=hex;refine hrun w F2 m2 _ _ hsi fun a' w' F' m' s1 x1 => ?_;show Leaves P fn a'.tmps _ a'.defers .returning w';rw[show a'.defers=[]from s1.defers];exact fin w' F' m' st' a'.tmps ⟨s1.tmps,s1.size,s1.heap,rfl⟩ x1 hke;split at hkd;cases hkd;rename_i g cs t hdf;split at hkd;cases hkd;rename_i fnC hfC;split at hkd;cases hkd;rename_i v hv;split at hkd;cases hkd;rename_i hcap0;rw[Aba,Aba]at hcap0;obtain⟨⟨htn,hnt⟩,hcap⟩:=hcap0;refine hrun w F2 m2 _ _ hsi fun a' w' F' m' s1 x1 => ?_;obtain⟨o0,o1,hops,hg0,hd0,⟨csA,fst,hop0,hfst,hcs⟩,hg1,hd1,args1,ts1,hop1,hargs1⟩:=XJ hdf;have hsize:ops.size=2:=by rw[← Abe,hops];rfl
 have h0:ops[0]? = some o0:=by rw[← AcG,hops];rfl
 have h1:ops[1]? = some o1:=by rw[← AcG,hops];rfl
 have hfst':fst = #[]:=by rw[← AdD];exact hfst
 have hargs1':args1 = #[]:=by rw[← AdD];exact hargs1
 subst hfst';subst hargs1';subst hcs;have hrun0:(execOp a'.eval o0).run P w' = .ok (.value (.func (.func g) #[] (csA.map a'.eval))) w':=by simp[execOp,hop0,Instr.makeFunc]
 have hcr:AP w' F' m' st'.heap (csA.toList.map (Ah st'.tmps)) (csA.map a'.eval).toList:=Qa (fun x=>Db s1.tmps x) csA;have hrc:Rep w' F' m' st'.heap (.clo g (csA.toList.map (Ah st'.tmps))) (.func (.func g) #[] (csA.map a'.eval)):=by unfold Rep;exact⟨_,rfl,hcr⟩
 have s2:=s1.put hrc (some t);obtain⟨F3,m3,s3,x3⟩:=Ed s2 hv;have hev:(a'.put (some t) (.func (.func g) #[] (csA.map a'.eval))).eval (.tmp t) = .func (.func g) #[] (csA.map a'.eval):=by
  have h1:t<a'.tmps.size:=by
   have h2:(st'.put (some t) (.clo g (csA.toList.map (Ah st'.tmps)))).tmps.n=fn.ntmps:=by unfold decode at hv;split at hv;rename_i h3;simpa using h3;cases hv
   rw[← s1.size];rw[show st'.tmps.n=fn.ntmps from h2];exact Abu (show Nat.ble (t+1) fn.ntmps=true from htn)
  simp[Act.eval,Act.put,h1]
 have hrun1:(execOp (a'.put (some t) (.func (.func g) #[] (csA.map a'.eval))).eval o1).run P w' = .ok (.defer { target:=.fn (.func g) (csA.map a'.eval),args:=#[] }) w':=by simp[execOp,hop1,resolve,hev,Deferred.ofValue]
 refine wp_seq (wp_region ?_);rw[hsize];refine He h0 hg0 (Bg hrun0 ?_);rw[hd0];refine He h1 hg1 ?_;unfold Oper.wp;rw[hrun1,Oper.upon_defer,hd1];have e0:(a'.put (some t) (.func (.func g) #[] (csA.map a'.eval))).defers=[]:=s2.defers;have s3t:=s3.tmps;have s3s:=s3.size;have s3h:=s3.heap;letI D:DfI:=⟨[{ target:=.fn (.func g) (csA.map a'.eval),args:=#[] }]⟩
 have s4:@SI D w' F3 m3 (encode fn.ntmps itsB v) { (a'.put (some t) (.func (.func g) #[] (csA.map a'.eval)))with defers:={ target:=.fn (.func g) (csA.map a'.eval),args:=#[] }::(a'.put (some t) (.func (.func g) #[] (csA.map a'.eval))).defers }:=
  @SI.mk D _ _ _ _ _ s3t s3s s3h (by rw[e0];rfl)
 obtain⟨ex,st2,g1,_,g3⟩:=B2 hE hL hP b 0 (hcb▸hl) _ _ _ _ hkd;have hcapr:AP w' F3 m3 (encode fn.ntmps itsB v).heap (csA.toList.map (Ah (encode fn.ntmps itsB v).tmps)) (csA.map a'.eval).toList:=by
  have h1:csA.map a'.eval=csA.map (a'.put (some t) (.func (.func g) #[] (csA.map a'.eval))).eval:=by
   apply Array.map_congr_left;intro z hz;rw[Abk]at hnt;have:=hnt z (by simpa using hz);cases z with
    |tmp t'=>
     have hne:t≠t':=by rintro rfl;simp[AbF]at this
     simp[Act.eval,Act.put,AdC hne]
    |_=>rfl
  rw[h1];exact Qa (fun x=>Db s3t x) csA
 refine g3 w' F3 m3 _ _ s4 fun a2 w2 F4 m4 s5 x5 => ?_;split at g1;cases g1;rename_i hal2
 have closing:∀ (rv:AV) (u:FrameMode),u≠.run→((u = .returning∧rv = .ifc none)∨∃ p,u = .panicking [Bm p]∧rv = .ifc (some p)) →
   MX P E hC _ fnC rv (csA.toList.map (Ah (encode fn.ntmps itsB v).tmps)) st2.heap st2.frz (fun st3=>finish 0 P fn outs rs { tmps:=st2.tmps,heap:=st3.heap,frz:=st3.frz })=some y →
   Leaves P fn a2.tmps (fun en w'=>∃ u,en = .returned u∧∃ F' m',Aa w F mm H fz w' F' m' (Bj e H) (Dc e fz)∧Rep w' F' m' (Bj e H) (single (DJ rs (GW ids (encode (cellsOf rs) outs y).tmps.list))) u) [{ target:=.fn (.func g) (csA.map a'.eval),args:=#[] }] u w2:=by
  intro rv u hne hmode hclo
  obtain⟨st3,k1,kc,k2⟩:=AMY hE hL hP hfC hclo
  refine leaves_cons (f:=g) (args:=csA.map a'.eval) hne (by simp[invoke,kc _ w2]) ?_
  have hcall:=k2 w2 F4 m4 _ u s5.heap (AOk x5 hcap hal2 hcapr) hmode
  rw[AcU]at hcall
  refine hcall.mono fun en u' w3 ⟨⟨v',hen⟩,hset,F5,m5,hgo⟩ => ?_
  subst hen
  show Leaves P fn a2.tmps _ [] (settle u') w3
  rw[hset]
  refine fin w3 F5 m5 { tmps:=st2.tmps,heap:=st3.heap,frz:=st3.frz } a2.tmps (@SI.mk noDf _ _ _ _ _ (fun t=>hgo.1.rep s5.heap (s5.tmps t)) s5.size hgo.2 rfl) ?_ k1
  exact x1.trans (x3.trans (x5.AbS.trans (hgo.1.toN 0)))
 have hdf2:a2.defers=[{ target:=.fn (.func g) (csA.map a'.eval),args:=#[] }]:=s5.defers;cases ex with
  |normal=>show Leaves P fn a2.tmps _ a2.defers .returning w2;rw[hdf2];exact closing _ .returning (by simp) (.inl ⟨rfl,rfl⟩) g1
  |ret=>show Leaves P fn a2.tmps _ a2.defers .returning w2;rw[hdf2];exact closing _ .returning (by simp) (.inl ⟨rfl,rfl⟩) g1
  |panic ch=>simp only at g1;split at g1;rename_i p hp;have:=AIL hp;simp only[Exit.panic.injEq]at this;subst this;show Leaves P fn a2.tmps _ a2.defers (.panicking [Bm p]) w2;rw[hdf2];exact closing _ (.panicking [Bm p]) (by simp) (.inr ⟨p,rfl,rfl⟩) g1;cases g1
  |_=>simp at g1
end
theorem Bw[DfI]{P:Program}{np:Nat}{h:Hints}:∀ (c:Code) (n:Nat),loops c=0→Ax P np h c n:=by
 intro c;induction c with
  |seq a b iha ihb=>intro n hl;simp only[loops]at hl;exact⟨iha n (by omega),ihb _ (by omega)⟩
  |cond c a b iha ihb=>intro n hl;simp only[loops]at hl;exact⟨iha n (by omega),ihb _ (by omega)⟩
  |block id c ih=>intro n hl;simp only[loops]at hl;exact ih n hl
  |loop c ih=>intro n hl;simp only[loops]at hl;omega
  |_=>intro n _;trivial
def M0[DfI](P:Program)(np:Nat)(h:Hints):List (Nat×Code)→Prop
 |[]=>True
 |p::l=>GU P np (.loop p.2) (h.loop p.1)∧M0 P np h l
theorem RP[DfI]{P:Program}{np:Nat}{h:Hints}:∀ {a b:List (Nat×Code)},M0 P np h (a++b)→M0 P np h a∧M0 P np h b:=by
 intro a;induction a with
  |nil=>exact fun h=>⟨trivial,h⟩
  |cons p a ih=>intro b h;exact⟨⟨h.1,(ih h.2).1⟩,(ih h.2).2⟩
theorem Xj[DfI]{P:Program}{np:Nat}{h:Hints}:∀ (c:Code) (n:Nat),M0 P np h (Bh c n)→Ax P np h c n:=by
 intro c;induction c with
  |seq a b iha ihb=>intro n hl;have:=RP hl;exact⟨iha n this.1,ihb _ this.2⟩
  |cond c a b iha ihb=>intro n hl;have:=RP hl;exact⟨iha n this.1,ihb _ this.2⟩
  |block id c ih=>intro n hl;exact ih n hl
  |loop c ih=>intro n hl;exact hl.1
  |_=>intro n _;trivial
theorem Na[DfI]{P:Program}{np:Nat}{h:Hints}{c:Code}{n:Nat}{l:List (Nat×Code)}(e:Bh c n=l)(a:M0 P np h l):Ax P np h c n:=Xj c n (by rw[e];exact a)
def Li:List (Nat×List (List Nat))→Nat→List (List Nat)
 |[],_=>[]
 |(k,x)::l,n=>match Nat.beq k n with
  |true=>x
  |false=>Li l n
end Go.Pev
end
section
namespace Go.Pev
open Go.RowKit
noncomputable def I8(n:Nat):Spec:=fun R args _ _ _ k=>
 match args with
 |[.data (.slice e) xs]=>match decide (e.size=n)with
  |true=>k (.clip e xs) {}
  |false=>none
 |_=>none
structure VS(P:Program)(fn:Func)(T e:TypeId)(n:Nat):Prop where
 body:fn.body=some (.seq (.region 0 #[BM fn 0 0] false) (.seq (.region 1 #[BM fn 1 0,BM fn 1 1,BM fn 1 2,BM fn 1 3,BM fn 1 4,BM fn 1 5,BM fn 1 6] false) .ret))
 nt:fn.ntmps=9
 res:fn.results = #[.tmp 2]
 d:(BM fn 0 0).dst=some 2∧(BM fn 1 0).dst=some 3∧(BM fn 1 1).dst=some 4∧(BM fn 1 2).dst=some 5∧(BM fn 1 3).dst=some 6∧(BM fn 1 4).dst=some 7∧(BM fn 1 5).dst=some 8∧(BM fn 1 6).dst=some 2
 g:(BM fn 0 0).guard=none∧(BM fn 1 0).guard=none∧(BM fn 1 1).guard=none∧(BM fn 1 2).guard=none∧(BM fn 1 3).guard=none∧(BM fn 1 4).guard=none∧(BM fn 1 5).guard=none∧(BM fn 1 6).guard=none
 o00:(BM fn 0 0).op = .assign (.const (.slice none 0 0))
 o10:(BM fn 1 0).op = .move (.tmp 0)
 o11:(BM fn 1 1).op = .move (.tmp 0)
 o12:(BM fn 1 2).op = .call { callee:=.builtin .len,args:=#[.tmp 4],argTypes:=#[T] }
 o13:(BM fn 1 3).op = .move (.tmp 0)
 o14:(BM fn 1 4).op = .call { callee:=.builtin .len,args:=#[.tmp 6],argTypes:=#[T] }
 o15:(BM fn 1 5).op = .slice T (.tmp 3) none (some (.tmp 5)) (some (.tmp 7))
 o16:(BM fn 1 6).op = .assign (.tmp 8)
 sl:P.underlying T=some (.slice e)
 sz:Az P e=some n
section
variable {P:Program} {g:FuncId} {fn:Func} {T e:TypeId} {n:Nat}
theorem AYa (hs : VS P fn T e n) (hf : P.funcs[g]? = some fn) (hn : (fn.name == "runtime.NumGoroutine") = false) : Ad P g (I8 n) := by
 intro R args H fz slot k r hk;unfold I8 at hk;split at hk;rename_i t xs;split at hk;rename_i hsz;refine⟨_,_,hk,fun R' k'=>by simp only[I8,hsz],BS hf (by rw[hs.body];rfl) hn,fun w F m vals hi hr => ?_⟩;simp only[Abb]at hsz;obtain⟨i,hi0,hsz'⟩:=Av hs.sz;unfold AP at hr;obtain⟨v,vs',rfl,hrv,hnil⟩:=hr;unfold AP at hnil;subst hnil;have hrv:Dat w F (.slice t) xs [v]:=hrv;obtain⟨a,cap,e1,e2,e3⟩:=hrv;simp only[AcY,AdQ]at e1;subst e1;refine calls_of_wp hf hs.body ?_;obtain⟨d0,d1,d2,d3,d4,d5,d6,d7⟩:=hs.d;obtain⟨g0,g1,g2,g3,g4,g5,g6,g7⟩:=hs.g;have hres:∀ (tm:Array Value) (w0:World),(results fn tm).run P w0 = .ok (tm.getD 2 undef) w0:=fun tm w0=>by simp[results,hs.res]
 refine wp_seq (wp_region ?_);simp only[Ab7,Abz,AcF,Ach,AdF,AcS];refine Bq (by rfl) g0 (Bg (E5 hs.o00) ?_);refine wp_seq (wp_region ?_);simp only[Ab7,Abz,AcF,Ach,AdF,AcS,AcN];refine Bq (by rfl) g1 (Bg (HR hs.o10) ?_);refine Bq (by rfl) g2 (Bg (HR hs.o11) ?_);refine Bq (by rfl) g3 (Bg (u:=.int .i64 (List.length (α:=t.den) xs)) (w':=w) (by simp[execOp,hs.o12,resolve,invoke,builtin,Act.eval,Act.put,d0,d1,d2,hs.nt,BL hs.sl]) ?_);refine Bq (by rfl) g4 (Bg (HR hs.o13) ?_);refine Bq (by rfl) g5 (Bg (u:=.int .i64 (List.length (α:=t.den) xs)) (w':=w) (by simp[execOp,hs.o14,resolve,invoke,builtin,Act.eval,Act.put,d0,d1,d2,d3,d4,hs.nt,BL hs.sl]) ?_);have hrun:=IY (P:=P) (w:=w) (kh:=.i64) (km:=.i64) hs.sl hi0 a (List.length (α:=t.den) xs) cap (l:=0) (h:=(List.length (α:=t.den) xs:Int)) (.inl ⟨rfl,rfl⟩) (by omega) (by omega) (by omega);refine Bq (by rfl) g6 (Bg (u:=.slice a (List.length (α:=t.den) xs) (List.length (α:=t.den) xs)) (w':=w) (by simp[execOp,hs.o15,Act.eval,Act.put,d0,d1,d2,d3,d4,d5,hs.nt,hrun];intro _;cases a<;>rfl) ?_)
 refine Bq (by rfl) g7 (Bg (E5 hs.o16) ?_);refine wp_ret ?_;refine⟨by simp[Act.put,d0,d1,d2,d3,d4,d5,d6,d7],_,hres _ _,?_⟩;refine⟨_,rfl,F,m,Aa.refl hi,?_⟩;have:Rep w F m H (.clip t xs) (.slice a (List.length (α:=t.den) xs) (List.length (α:=t.den) xs)):=by unfold Rep;exact⟨⟨a,_,rfl,Abd _,e3⟩,a,rfl⟩
 show Rep _ _ _ H _ _;simpa [Act.put,Act.eval,d0,d1,d2,d3,d4,d5,d6,d7,hs.nt]using this;cases hk;cases hk
theorem I7(n:Nat):Ei (I8 n):=fun _ _ _ _ _ _ _ _ _=>rfl
end
end Go.Pev
end
section
namespace Go.Pev
noncomputable section
abbrev Tab:=Nat→AB×AT
def DU[Lk](P:Program)(E:Env)(np nt:Nat)(tab:Tab):Code→Nat→Hints→Hints
 |.seq a b,n,h=>DU P E np nt tab a n (DU P E np nt tab b (n+loops a) h)
 |.cond _ a b,n,h=>DU P E np nt tab a n (DU P E np nt tab b (n+loops a) h)
 |.block _ c,n,h=>DU P E np nt tab c n h
 |.loop c,n,h=>{ fp:=h.fp,loop:=fun m=>match Nat.beq m n with
   |true=>Hu np nt (tab n).1 (tab n).2 (roundOf P E (DU P E np nt tab c (n+1) h) (n+1) np nt c (tab n).1 (tab n).2)
   |false=>(DU P E np nt tab c (n+1) h).loop m }
 |_,_,h=>h
theorem Py(P:Program)(E:Env)(np nt:Nat)(tab:Tab):∀ (c:Code) (n:Nat) (h:Hints) (m:Nat),(m<n∨n+loops c≤m)→(DU P E np nt tab c n h).loop m=h.loop m:=by
 intro c;induction c with
  |seq a b iha ihb=>intro n h m hm;simp only[DU,loops]at *;rw[iha n _ m (by omega),ihb _ _ m (by omega)]
  |cond c a b iha ihb=>intro n h m hm;simp only[DU,loops]at *;rw[iha n _ m (by omega),ihb _ _ m (by omega)]
  |block id c ih=>intro n h m hm;exact ih n h m hm
  |loop c ih=>
   intro n h m hm;simp only[DU,loops]at *;have:Nat.beq m n=false:=by
    cases hb:Nat.beq m n with
     |true=>have:=Abp hb;omega
     |false=>rfl
   rw[this];exact ih _ _ m (by omega)
  |_=>intro n h m hm;rfl
theorem KB{P:Program}{np:Nat}{h h':Hints}:∀ (c:Code) (n:Nat),(∀ m,n≤m→m<n+loops c→h'.loop m=h.loop m)→Ax P np h c n→Ax P np h' c n:=by
 intro c;induction c with
  |seq a b iha ihb=>intro n he hl;simp only[loops]at he;exact⟨iha n (fun m h1 h2=>he m h1 (by omega)) hl.1,ihb _ (fun m h1 h2=>he m (by omega) (by omega)) hl.2⟩
  |cond c a b iha ihb=>intro n he hl;simp only[loops]at he;exact⟨iha n (fun m h1 h2=>he m h1 (by omega)) hl.1,ihb _ (fun m h1 h2=>he m (by omega) (by omega)) hl.2⟩
  |block id c ih=>intro n he hl;exact ih n he hl
  |loop c ih=>intro n he hl;simp only[loops]at he;unfold Ax at *;rw[he n (Abd _) (by omega)];exact hl
  |_=>intro n he hl;trivial
theorem ANc{P:Program}{E:Env}(hE:AH P E){np nt:Nat}{tab:Tab}:∀ (c:Code) (n:Nat) (h:Hints),Ax P np (DU P E np nt tab c n h) c n:=by
 intro c;induction c with
  |seq a b iha ihb=>intro n h;refine⟨iha n _,?_⟩;refine KB b _ (fun m h1 h2 => ?_) (ihb (n+loops a) h);simp only[DU];exact Py P E np nt tab a n _ m (by omega)
  |cond c a b iha ihb=>intro n h;refine⟨iha n _,?_⟩;refine KB b _ (fun m h1 h2 => ?_) (ihb (n+loops a) h);simp only[DU];exact Py P E np nt tab a n _ m (by omega)
  |block id c ih=>intro n h;exact ih n h
  |loop c ih=>intro n h;unfold Ax;simp only[DU];rw[show Nat.beq n n=true from Nat.beq_refl n];exact LD hE (fun _=>rfl) (ih (n+1) h)
  |_=>intro n h;trivial
structure Row where
 g:FuncId
 k:Nat:=0
 np:Nat:=0
 na:Nat:=0
 fl:Nat:=0
 clo:Option (Nat×FuncId):=none
 its:AB:=[]
 os:AT:=[]
 rs:List RS:=[]
 fp:List (Nat×List (List Nat)):=[]
 tab:List (Nat×AB×AT):=[]
def ATr{α:Type}(d:α):List (Nat×α)→Nat→α
 |[],_=>d
 |p::l,n=>match Nat.beq p.1 n with
  |true=>p.2
  |false=>ATr d l n
def Row.outs(r:Row):AB:=match r.os with
 |[]=>[]
 |o::_=>o.2
def Row.mark(r:Row)(i:Nat):Bool:=Nat.testBit r.fl i
def Row.hint[Lk](r:Row)(P:Program)(E:Env)(fn:Func):Hints:=
 DU P E r.np fn.ntmps (ATr ([],[]) r.tab) (BC fn) 0 { fp:=ATr [] r.fp }
def Row.loc(r:Row):Bool:=NU r.its&&(Nat.ble (CI r.outs) 4 && !r.mark 3)
def Row.EM(r:Row):Bool:=NJ r.its&&Nat.ble (CI r.outs) 4
def Row.call(r:Row)(f:Ag (leaves r.its)→Option (Ag (leaves r.outs))):Spec:=AF r.np r.na r.its r.outs r.rs f
def Row.self[Lk](r:Row)(P:Program)(E:Env)(fn:Func):Ag (leaves r.its)→Option (Ag (leaves r.outs)):=
 Cd r.np P E (r.hint P E fn) fn r.its r.outs r.rs
def Row.put[Lk](r:Row)(E:Env)(s:Spec):Env:=
 match r.clo with
 |none=>E.ext r.g r.loc r.EM (match r.mark 3 with
  |true=>DW s
  |false=>s)
 |some (i,c)=>E.BA r.g i c (match r.mark 3 with
  |true=>DW s
  |false=>s)
def Row.okF(r:Row)(fn:Func):Bool:=
 fn.body.isSome && (!(fn.name == "runtime.NumGoroutine") && (Nat.ble r.na fn.ntmps && (match r.k with
  |1=>Nat.beq (loops (BC fn)) 0
  |_=>true)&&(match r.clo with
  |none=>true
  |some _=>r.EM)))
def Row.ok(r:Row)(P:Program):Bool:=
 match P.funcs[r.g]? with
 |none=>false
 |some fn=>r.okF fn
theorem Row.AZ6{P:Program}{E:Env}{r:Row}(hE:AH P E){f:Ag (leaves r.its)→Option (Ag (leaves r.outs))}(hs:Ad P r.g (r.call f))(hc:(match r.clo with
  |none=>true
  |some _=>r.EM)=true):AH P (r.put E (r.call f)):=by
 have hin:r.EM=true→Fk (match r.mark 3 with
  |true=>DW (r.call f)
  |false=>r.call f):=by
  intro h
  simp only[Row.EM,Aba]at h
  cases r.mark 3 with
  |true=>exact AV9 h.1 h.2
  |false=>exact BZ h.1 h.2
 have hs':Ad P r.g (match r.mark 3 with
  |true=>DW (r.call f)
  |false=>r.call f):=by
  cases r.mark 3 with
  |true=>exact Y3 hs
  |false=>exact hs
 unfold Row.put;split;refine Env.BQ hE hs' (fun h => ?_) hin;simp only[Row.loc,Aba]at h;have h3:r.mark 3=false:=by simpa using h.2.2
 rw[h3];exact Hr h.1 h.2.1;rename_i i c hcl;rw[hcl]at hc;exact Env.Lm hE hs' (hin hc)
theorem Row.ALo {P : Program} {E : Env} {r : Row} {fn : Func} (hE : AH P E) (hf : P.funcs[r.g]? = some fn) (hb : fn.body.isSome = true) (hn : (fn.name == "runtime.NumGoroutine") = false) (ha : Nat.ble r.na fn.ntmps = true)
  {f:Ag (leaves r.its)→Option (Ag (leaves r.outs))} (he:∀ x,f x=r.self P E fn x):Ad P r.g (r.call f):=
 Fu hE hf hb hn ha he (ANc hE _ _ _)
end
end Go.Pev
end
section
namespace Go.Pev
noncomputable section
variable {P:Program} {E:Env} {r:Row} {fn:Func}
def Row.ev[Lk](r:Row)(E:Env):Env:={ E with keep:=r.mark 0,rows:=r.mark 1,arrs:=r.mark 2 }
def Row.AbW[Lk](r:Row)(E:Env)(f:Ag (leaves r.its)→Option (Ag (leaves r.outs))):Env:=r.put E (r.call f)
theorem Row.AG(r:Row)(hE:AH P E)(hf:P.funcs[r.g]? = some fn){f d:Ag (leaves r.its)→Option (Ag (leaves r.outs))}(he:∀ x,f x=d x)
  (hok:r.okF fn=true:=by kernel_rfl) (hd:∀ x,d x=r.self P (r.ev E) fn x:=by intro _;kernel_rfl):AH P (r.AbW E f):=by simp only[Row.okF,Aba,AcQ]at hok;obtain⟨hb,hn,⟨ha,hk⟩,hc⟩:=hok;exact Row.AZ6 hE (Row.ALo (E:=r.ev E) hE hf hb hn ha fun x=>(he x).trans (hd x)) hc
structure Ma{α β:Type}(f:α→β)where
 d:α→β
 h:∀ v,f v=d v
def Ma.of{α β:Type}{f d:α→β}(h:∀ v,f v=d v:=by intro v;conv=>lhs;reduce):Ma f:=⟨d,h⟩
structure Md[Lk](r:Row)(P:Program)(E:Env)(fn:Func)where
 d:Ag (leaves r.its)→Option (Ag (leaves r.outs))
 h:∀ v,d v=r.self P (r.ev E) fn v
def Md.of[Lk]{r:Row}{P:Program}{E:Env}{fn:Func}{d:Ag (leaves r.its)→Option (Ag (leaves r.outs))}(h:∀ v,r.self P (r.ev E) fn v=d v:=by intro v;conv=>lhs;reduce):Md r P E fn:=⟨d,fun v=>(h v).symm⟩
def Row.AbO[Lk](r:Row)(E:Env)(s:Ag (leaves r.its)→Option (Ag (leaves r.outs))):Env:=E.ext r.g (NU r.its&&Nat.ble (CI r.outs) 4) r.EM (r.call s)
structure Mr[Lk](r:Row)(P:Program)(E:Env)(fn:Func)where
 d:(Ag (leaves r.its)→Option (Ag (leaves r.outs)))→Ag (leaves r.its)→Option (Ag (leaves r.outs))
 h:∀ s v,d s v=r.self P (r.AbO E s) fn v
def Mr.of[Lk]{r:Row}{P:Program}{E:Env}{fn:Func}{d:(Ag (leaves r.its)→Option (Ag (leaves r.outs)))→Ag (leaves r.its)→Option (Ag (leaves r.outs))}(h:∀ s v,r.self P (r.AbO E s) fn v=d s v:=by intro s v;conv=>lhs;reduce):Mr r P E fn:=⟨d,fun s v=>(h s v).symm⟩
def Row.rf{α β:Type}(d:(α→Option β)→α→Option β):Nat→α→Option β
 |0,_=>none
 |n+1,v=>d (rf d n) v
end
end Go.Pev
end
section
namespace Go.Pev
open Go.Proofs
noncomputable section
abbrev APx:Row:=⟨126,0,0,1,0,none,AK,[(.ret,AN)],AA,[],[]⟩
def ACQ[Lk]:Env:=Env.none.ext 126 true true (AF 0 1 AK AN AA MQ)
theorem ACP:AH Tryz.prog ACQ:=Row.AG APx Env.AXL Tryz.func126 ALH
abbrev Aa6:Row:=⟨221,0,0,2,0,none,DT,[(.ret,AN)],AA,[],[]⟩
def AZS[Lk]:Env:=ACQ.ext 221 true true (AF 0 2 DT AN AA tin)
theorem AVR:AH Tryz.prog AZS:=Row.AG Aa6 ACP Tryz.func221 AZd
abbrev AZe:Row:=⟨176,0,0,3,0,none,Vu,[(.ret,AK)],AA,[],[]⟩
def AVS[Lk]:Env:=AZS.ext 176 true true (AF 0 3 Vu AK AA AV8)
theorem APG:AH Tryz.prog AVS:=Row.AG AZe AVR Tryz.func176 AV7
abbrev APw:Row:=⟨295,0,0,2,0,none,DT,[(.ret,Yl)],Ex,[(5,[[],[],[],[],[],[],[],[],[]])],[]⟩
def ACO[Lk]:Env:=AVS.ext 295 true true (AF 0 2 DT Yl Ex AEC)
theorem ACN:AH Tryz.prog ACO:=Row.AG APw APG Tryz.func295 ALG
abbrev AV1:Row:=⟨79,0,0,1,0,none,AK,[(.ret,AIQ)],OS,[],[(0,AP4,AP3)]⟩
def AKJ[Lk]:Env:=ACO.ext 79 true true (AF 0 1 AK AIQ OS AP6)
theorem AHZ:AH Tryz.prog AKJ:=Row.AG AV1 ACN Tryz.func79 AP5
abbrev AS3:Row:=⟨219,0,0,2,0,none,Da,[(.ret,AK)],AA,[],[(0,ANV,EZ)]⟩
def ADI[Lk]:Env:=AKJ.ext 219 true true (AF 0 2 Da AK AA Ps)
theorem ADH:AH Tryz.prog ADI:=Row.AG AS3 AHZ Tryz.func219 ANW
abbrev ABg:Row:=⟨169,0,0,2,0,none,Da,[(.ret,AN)],AA,[],[]⟩
def Np[Lk]:Env:=ADI.ext 169 true true (AF 0 2 Da AN AA Ft)
theorem RG:AH Tryz.prog Np:=Row.AG ABg ADH Tryz.func169 XN
abbrev AaY:Row:=⟨261,0,0,1,0,none,Gx,[(.ret,AK)],AA,[],[(0,AXP,AXO)]⟩
def AVh[Lk]:Env:=Np.ext 261 true true (AF 0 1 Gx AK AA AXR)
theorem APS:AH Tryz.prog AVh:=Row.AG AaY RG Tryz.func261 AXQ
abbrev AX3:Row:=⟨226,0,0,2,0,none,AJb,[(.ret,Bl)],AA,[],[]⟩
def AKi[Lk]:Env:=AVh.ext 226 false true (AF 0 2 AJb Bl AA ATZ)
theorem AHy:AH Tryz.prog AKi:=Row.AG AX3 APS Tryz.func226 ATY
abbrev AOV:Row:=⟨175,0,0,1,0,none,Tr,[(.ret,Bl)],AA,[],[(0,AG7,AG5),(1,AG6,AG4)]⟩
def My[Lk]:Env:=AKi.ext 175 true true (AF 0 1 Tr Bl AA Oq)
theorem ML:AH Tryz.prog My:=Row.AG AOV AHy Tryz.func175 AG8
theorem AMD:Tryz.f293.body.isSome=true:=by kernel_rfl
theorem AMC : (Tryz.f293.name == "runtime.NumGoroutine") = false := by kernel_rfl
theorem AMB:loops (BC Tryz.f293)=0:=by kernel_rfl
def Nk[Lk]:Env:=My.ext 293 false false (BN Tryz.prog My {} Tryz.f293)
theorem Qv:AH Tryz.prog Nk:=Env.BQ ML (A7 ML Tryz.func293 AMD AMC AMB) (by simp) (by simp)
abbrev Pu:Row:=⟨63,0,0,2,0,some (1,293),D7,[(.ret,AK)],AA,[],[(0,Nx,EZ)]⟩
def JF[Lk]:Env:=Nk.BA 63 1 293 (AF 0 2 D7 AK AA H5)
theorem MA:AH Tryz.prog JF:=Row.AG Pu Qv Tryz.func63 Ny
end
end Go.Pev
end
section
namespace Go.Pev
open Go.Proofs
noncomputable section
abbrev AaW:Row:=⟨294,0,0,1,0,none,Gx,[(.ret,AN)],AA,[],[(0,AXI,AXH)]⟩
def AVf[Lk]:Env:=JF.ext 294 true true (AF 0 1 Gx AN AA once)
theorem APQ:AH Tryz.prog AVf:=Row.AG AaW MA Tryz.func294 AXJ
abbrev APv:Row:=⟨225,0,0,2,0,none,Da,[(.ret,Bl)],AA,[(1,[[],[],[],[],[],[],[],[0],[]])],[]⟩
def Qj[Lk]:Env:=AVf.ext 225 true true (AF 0 2 Da Bl AA VZ)
theorem Nf:AH Tryz.prog Qj:=Row.AG APv APQ Tryz.func225 ALF
theorem ALV:Tryz.f223.body.isSome=true:=by kernel_rfl
theorem ALU : (Tryz.f223.name == "runtime.NumGoroutine") = false := by kernel_rfl
theorem ALT:loops (BC Tryz.f223)=0:=by kernel_rfl
def Nh[Lk]:Env:=Qj.ext 223 false false (BN Tryz.prog Qj {} Tryz.f223)
theorem Qk:AH Tryz.prog Nh:=Env.BQ Nf (A7 Nf Tryz.func223 ALV ALU ALT) (by simp) (by simp)
abbrev Mb:Row:=⟨222,0,1,2,0,some (1,223),HM,[(.ret,HL)],AA,[],[(0,LR,LQ)]⟩
def HZ[Lk]:Env:=Nh.BA 222 1 223 (AF 1 2 HM HL AA GI)
theorem Jx:AH Tryz.prog HZ:=Row.AG Mb Qk Tryz.func222 LS
abbrev AP0:Row:=⟨173,0,0,2,0,none,Cn,[(.ret,AK)],AA,[],[]⟩
def Ql[Lk]:Env:=HZ.ext 173 true true (AF 0 2 Cn AK AA O9)
theorem Ng:AH Tryz.prog Ql:=Row.AG AP0 Jx Tryz.func173 ALS
theorem AYx:Tryz.f296.body.isSome=true:=by kernel_rfl
theorem AYw : (Tryz.f296.name == "runtime.NumGoroutine") = false := by kernel_rfl
theorem AYv:loops (BC Tryz.f296)=0:=by kernel_rfl
def VQ[Lk]:Env:=Ql.ext 296 false false (BN Tryz.prog Ql {} Tryz.f296)
theorem Yd:AH Tryz.prog VQ:=Env.BQ Ng (A7 Ng Tryz.func296 AYx AYw AYv) (by simp) (by simp)
abbrev Aai:Row:=⟨262,0,0,2,0,none,ATc,[(.ret,AN)],AA,[(8,[[],[],[],[],[],[],[],[],[1000003],[],[],[],[],[],[],[],[],[0],[0],[0],[],[0],[0],[0],[2,26],[],[2,26],[2,26],[],[],[],[],[]]),(13,[[],[0],[0],[0],[2],[],[],[],[0],[0],[0],[6],[],[0],[0],[0],[4],[],[],[]]),(3,[[],[],[],[],[],[],[],[],[11],[],[],[],[8,10,12],[]])],[(0,AYA,AX9)]⟩
def AVn[Lk]:Env:=VQ.ext 262 true true (AF 0 2 ATc AN AA Aaj)
theorem APY:AH Tryz.prog AVn:=Row.AG Aai Yd Tryz.func262 AYB
abbrev AaX:Row:=⟨125,0,0,1,0,none,AK,[(.ret,AN)],AA,[],[]⟩
def AVg[Lk]:Env:=AVn.ext 125 true true (AF 0 1 AK AN AA AMt)
theorem APR:AH Tryz.prog AVg:=Row.AG AaX APY Tryz.func125 AXM
abbrev AG9:Row:=⟨78,0,0,2,0,none,DT,[(.ret,AK)],AA,[],[]⟩
def RI[Lk]:Env:=AVg.ext 78 true true (AF 0 2 DT AK AA EG)
theorem SO:AH Tryz.prog RI:=Row.AG AG9 APR Tryz.func78 ABi
abbrev AVw:Row:=⟨229,0,0,2,0,none,JO,[(.ret,AK)],AA,[(1,[[],[],[],[],[],[],[],[]])],[]⟩
def AKE[Lk]:Env:=RI.ext 229 true true (AF 0 2 JO AK AA Bt)
theorem AHV:AH Tryz.prog AKE:=Row.AG AVw SO Tryz.func229 APj
abbrev AXV:Row:=⟨124,0,0,1,0,none,Jj,[(.ret,AK)],AA,[],[]⟩
def AKc[Lk]:Env:=AKE.ext 124 true true (AF 0 1 Jj AK AA ASq)
theorem AHs:AH Tryz.prog AKc:=Row.AG AXV AHV Tryz.func124 ASp
abbrev AOy:Row:=⟨76,0,0,1,0,none,Jj,[(.ret,AK)],AA,[],[]⟩
def VN[Lk]:Env:=AKc.ext 76 true true (AF 0 1 Jj AK AA bitsLen)
theorem YZ:AH Tryz.prog VN:=Row.AG AOy AHs Tryz.func76 AHP
end
end Go.Pev
end
section
namespace Go.Pev
open Go.Proofs
noncomputable section
abbrev AKx:Row:=⟨265,0,1,1,0,none,SS,[(.ret,SR)],AA,[(3,[[],[0],[0],[],[0],[0],[],[],[0],[1]]),(2,[[],[0],[0],[],[0],[0],[],[],[0],[1]]),(1,[[],[0],[0],[],[0],[0],[],[],[0],[1]])],[]⟩
def T6[Lk]:Env:=VN.ext 265 false true (AF 1 1 SS SR AA xorNext)
theorem Xl:AH Tryz.prog T6:=Row.AG AKx YZ Tryz.func265 AD5
abbrev AMs:Row:=⟨264,0,0,1,0,none,AK,[(.ret,Jj)],AA,[],[]⟩
def UU[Lk]:Env:=T6.ext 264 true true (AF 0 1 AK Jj AA Of)
theorem YG:AH Tryz.prog UU:=Row.AG AMs Xl Tryz.func264 AFv
abbrev Aad:Row:=⟨307,0,1,4,0,some (3,229),FL,[(.ret,C3)],AZ,[(4,[[],[],[],[],[],[],[],[0],[0],[],[],[],[0],[0],[],[],[]]),(6,[[],[],[],[],[],[],[],[],[0],[0],[],[],[0],[0],[0],[1],[0],[1]])],[(0,AXd,Wr),(1,AXc,AXb)]⟩
def AVk[Lk]:Env:=UU.BA 307 3 229 (AF 1 4 FL C3 AZ AbJ)
theorem APV:AH Tryz.prog AVk:=Row.AG Aad YG Tryz.func307 AXe
abbrev AWO:Row:=⟨331,0,1,5,0,some (4,229),D0,[(.ret,C3)],AZ,[(6,[[],[],[],[],[],[],[],[],[],[],[],[],[0],[0],[],[],[],[],[0],[0],[0],[1],[0],[1]]),(5,[[],[],[],[],[],[0],[0],[],[],[],[],[0],[0],[],[],[]]),(3,[[],[],[],[],[],[],[],[],[],[],[0],[0],[],[],[],[],[],[0],[0],[],[],[]])],[(0,AQh,AQg)]⟩
def AKR[Lk]:Env:=AVk.BA 331 4 229 (AF 1 5 D0 C3 AZ AY4)
theorem AHh:AH Tryz.prog AKR:=Row.AG AWO APV Tryz.func331 AQi
abbrev AXy:Row:=⟨308,0,1,4,0,some (3,229),FL,[(.ret,C3)],AZ,[(10,[[],[],[],[],[],[],[],[],[],[],[0],[0],[],[],[0],[0],[0],[1],[0],[1]])],[(0,ATF,ATD),(1,ATE,ATC)]⟩
def AKe[Lk]:Env:=AKR.BA 308 3 229 (AF 1 4 FL C3 AZ AZI)
theorem AHu:AH Tryz.prog AKe:=Row.AG AXy AHh Tryz.func308 ATG
abbrev AUW:Row:=⟨309,0,1,4,0,some (3,229),FL,[(.ret,C3)],AZ,[(10,[[],[],[],[],[],[],[],[],[],[],[0],[0],[],[],[0],[0],[0],[1],[0],[1]])],[(0,AOq,Wr)]⟩
def ADs[Lk]:Env:=AKe.BA 309 3 229 (AF 1 4 FL C3 AZ AUX)
theorem ADr:AH Tryz.prog ADs:=Row.AG AUW AHu Tryz.func309 AOr
abbrev AMo:Row:=⟨341,0,2,5,0,some (4,229),TB,[(.ret,TA)],AM,[(1,[[],[],[],[0],[0],[],[],[0],[0],[],[]])],[]⟩
def UR[Lk]:Env:=ADs.BA 341 4 229 (AF 2 5 TB TA AM AJG)
theorem YD:AH Tryz.prog UR:=Row.AG AMo ADr Tryz.func341 AFq
abbrev AMy:Row:=⟨333,0,2,6,0,some (5,229),TJ,[(.ret,Jc)],AA,[],[]⟩
def UX[Lk]:Env:=UR.BA 333 5 229 (AF 2 6 TJ Jc AA AJM)
theorem YI:AH Tryz.prog UX:=Row.AG AMy YD Tryz.func333 AF0
abbrev AM5:Row:=⟨332,0,2,4,0,some (3,229),TO,[(.ret,Jc)],AA,[],[]⟩
def VB[Lk]:Env:=UX.BA 332 3 229 (AF 2 4 TO Jc AA AJP)
theorem YM:AH Tryz.prog VB:=Row.AG AM5 YI Tryz.func332 AF4
abbrev ARb:Row:=⟨310,0,1,4,0,some (3,229),FL,[(.ret,Zo)],AM,[],[]⟩
def AC0[Lk]:Env:=VB.BA 310 3 229 (AF 1 4 FL Zo AM ARc)
theorem ACz:AH Tryz.prog AC0:=Row.AG ARb YM Tryz.func310 AMR
abbrev AZm:Row:=⟨311,0,1,4,0,some (3,229),FL,[(.ret,C3)],AZ,[(3,[[],[],[],[],[],[],[0],[0],[],[],[0],[0],[0],[1],[0],[1]])],[(0,AWZ,Wr)]⟩
def AVU[Lk]:Env:=AC0.BA 311 3 229 (AF 1 4 FL C3 AZ Aa9)
theorem API:AH Tryz.prog AVU:=Row.AG AZm ACz Tryz.func311 AWa
abbrev AFP:Row:=⟨312,0,1,4,0,some (3,229),FL,[(.ret,Pc)],AA,[(11,[[],[],[],[],[],[],[],[],[0],[0],[],[],[0],[0],[0],[1],[0],[1]]),(5,[[],[],[],[],[],[],[],[0],[0],[],[],[],[0],[0],[],[],[],[]]),(17,[[],[],[],[],[],[],[],[],[0],[0],[],[],[0],[0],[0],[1],[0],[1]]),(16,[[],[],[],[0],[0],[],[],[],[0],[0],[],[],[]]),(23,[[],[],[],[],[],[],[],[],[0],[0],[],[],[0],[0],[0],[1],[0],[1]]),(22,[[],[],[],[0],[0],[],[],[],[0],[0],[],[],[]])],[(0,NA,AAA),(1,NA,Z9),(2,AAC,Z8),(3,AAB,Z7)]⟩
def Q0[Lk]:Env:=AVU.BA 312 3 229 (AF 1 4 FL Pc AA AAE)
theorem SD:AH Tryz.prog Q0:=Row.AG AFP API Tryz.func312 AAD
end
end Go.Pev
end
section
namespace Go.Pev
open Go.Proofs
noncomputable section
abbrev AMg:Row:=⟨313,0,1,5,0,some (4,229),D0,[(.ret,S4)],AA,[(8,[[],[],[],[],[],[],[0],[0],[],[],[0],[0],[0],[1],[0],[1]]),(3,[[],[],[],[],[],[],[],[0],[0],[],[],[0],[0],[],[],[],[]]),(5,[[],[],[],[],[],[],[],[0],[0],[],[],[0],[0],[],[],[]]),(1,[[],[],[],[],[],[],[0],[0],[],[],[0],[0],[0],[1],[0],[1]])],[(0,KM,AFZ),(1,KM,AFY),(2,KM,AFX)]⟩
def UN[Lk]:Env:=Q0.BA 313 4 229 (AF 1 5 D0 S4 AA AJC)
theorem X8:AH Tryz.prog UN:=Row.AG AMg SD Tryz.func313 AFa
abbrev AXB:Row:=⟨314,0,1,5,0,some (4,229),D0,[(.ret,AI7)],AM,[(3,[[],[],[],[],[],[],[],[0],[0],[],[],[0],[0],[],[],[]]),(5,[[],[],[],[],[],[],[],[0],[0],[],[],[0],[0],[],[],[],[]]),(18,[[],[],[],[],[],[],[0],[0],[],[],[0],[0],[0],[1],[0],[1]]),(13,[[],[],[],[],[],[],[],[0],[0],[],[],[0],[0],[],[],[]]),(15,[[],[],[],[],[],[],[],[0],[0],[],[],[0],[0],[],[],[],[]]),(21,[[],[],[],[],[],[],[0],[0],[],[],[0],[0],[0],[1],[0],[1]]),(10,[[],[],[],[],[],[],[0],[0],[],[],[0],[0],[0],[1],[0],[1]]),(8,[[],[],[],[],[],[],[0],[0],[],[],[0],[0],[0],[1],[0],[1]]),(1,[[],[],[],[],[],[],[0],[0],[],[],[0],[0],[0],[1],[0],[1]])],[(0,Ib,ASA),(1,Ib,AR9),(2,Ib,AR8),(3,Ib,AR7),(4,Ib,AR6)]⟩
def X5[Lk]:Env:=UN.BA 314 4 229 (AF 1 5 D0 AI7 AM AZE)
theorem Qy:AH Tryz.prog X5:=Row.AG AXB X8 Tryz.func314 ASB
abbrev AFE(self:(List (List Int)×Int×Int×Int×Unit)→Option ((List (List Int)×Unit))):Hints:={ loop:=fun n=>match n with|0=>Hu 1 148 AI0 AIz (AIy self)|_=>fun _ _ _=>none,fp:=fun n=>match n with|17=>[[],[],[],[],[],[],[],[0],[0],[],[],[0],[0],[],[],[],[]]|_=>[] }
abbrev WW(self:(List (List Int)×Int×Int×Int×Unit)→Option ((List (List Int)×Unit))):Env:=X5.ext 269 false true (AF 1 5 D0 C3 AZ self)
theorem AFD(self:(List (List Int)×Int×Int×Int×Unit)→Option ((List (List Int)×Unit))):∀ v,AIy self v=roundOf Tryz.prog (WW self) (AFE self) 1 1 148 (CA Tryz.f269 0) AI0 AIz v:=by rintro⟨a0,a1,a2,a3,a4,a5,⟨⟩⟩;kernel_rfl
theorem AWw:Bh (CA Tryz.f269 0) 1=[]:=by kernel_rfl
theorem AWx(self:(List (List Int)×Int×Int×Int×Unit)→Option ((List (List Int)×Unit)))(hE:AH Tryz.prog (WW self)):GU Tryz.prog 1 (.loop (CA Tryz.f269 0)) ((AFE self).loop 0):=LD hE (AFD self) (DF AWw trivial)
theorem ARr(self:(List (List Int)×Int×Int×Int×Unit)→Option ((List (List Int)×Unit))):∀ v,AaB self v=Cd 1 Tryz.prog (WW self) (AFE self) Tryz.f269 D0 C3 AZ v:=by rintro⟨a0,a1,a2,a3,⟨⟩⟩;kernel_rfl
theorem AaA:Bh (BC Tryz.f269) 0=[(0,CA Tryz.f269 0)]:=by kernel_rfl
theorem AFF:∀ n,Ad Tryz.prog 269 (AF 1 5 D0 C3 AZ (PY n)):=by
 intro n;induction n with
  |zero=>exact Gc fun _=>rfl
  |succ n ih=>have hE:AH Tryz.prog (WW (PY n)):=Env.BQ Qy ih ((by simp)) (fun _=>BZ rfl rfl);let self:=PY n;exact Fu hE Tryz.func269 (by kernel_rfl) (by kernel_rfl) rfl (ARr self) (DF AaA ⟨(AWx self hE),trivial⟩)
theorem AMa:Ad Tryz.prog 269 (AF 1 5 D0 C3 AZ AWz):=by have e:AWz=PY 100:=funext AWy;rw[e];exact AFF _
def AVa[Lk]:Env:=X5.BA 269 4 229 (AF 1 5 D0 C3 AZ AWz)
theorem APN:AH Tryz.prog AVa:=Env.Lm Qy AMa (BZ rfl rfl)
abbrev AWG:Row:=⟨228,0,1,2,0,some (1,229),AIb,[(.ret,C3)],AZ,[],[]⟩
def Xw[Lk]:Env:=AVa.BA 228 1 229 (AF 1 2 AIb C3 AZ AQT)
theorem Qr:AH Tryz.prog Xw:=Row.AG AWG APN Tryz.func228 AQS
theorem AQE:Tryz.f220.body.isSome=true:=by kernel_rfl
theorem AQD : (Tryz.f220.name == "runtime.NumGoroutine") = false := by kernel_rfl
theorem AQC:loops (BC Tryz.f220)=0:=by kernel_rfl
def Qo[Lk]:Env:=Xw.ext 220 false false (BN Tryz.prog Xw {} Tryz.f220)
theorem R8:AH Tryz.prog Qo:=Env.BQ Qr (A7 Qr Tryz.func220 AQE AQD AQC) (by simp) (by simp)
abbrev Mc:Row:=⟨63,0,1,2,0,some (1,220),DN,[(.ret,HO)],AA,[],[(0,LW,LV)]⟩
def Ha[Lk]:Env:=Qo.BA 63 1 220 (AF 1 2 DN HO AA GJ)
theorem Jy:AH Tryz.prog Ha:=Row.AG Mc R8 Tryz.func63 LX
abbrev Aao:Row:=⟨171,0,0,1,0,none,ATu,[(.ret,Bl)],AA,[],[(0,AYR,AJk)]⟩
def AVr[Lk]:Env:=Ha.ext 171 true true (AF 0 1 ATu Bl AA ends)
theorem APb:AH Tryz.prog AVr:=Row.AG Aao Jy Tryz.func171 AYS
abbrev AbE:Row:=⟨77,0,0,1,0,none,Gx,[(.ret,AK)],AA,[],[(0,AaU,AaT)]⟩
def AZV[Lk]:Env:=AVr.ext 77 true true (AF 0 1 Gx AK AA orI)
theorem AVe:AH Tryz.prog AZV:=Row.AG AbE APb Tryz.func77 AaV
abbrev ASi:Row:=⟨48,0,0,1,0,none,AK,[(.ret,AN)],AA,[],[]⟩
def ADA[Lk]:Env:=AZV.ext 48 true true (AF 0 1 AK AN AA Wi)
theorem AC9:AH Tryz.prog ADA:=Row.AG ASi AVe Tryz.func48 ANE
abbrev AaZ:Row:=⟨49,0,0,1,0,none,AK,[(.ret,AK)],AA,[],[]⟩
def AVi[Lk]:Env:=ADA.ext 49 true true (AF 0 1 AK AK AA ASh)
theorem APT:AH Tryz.prog AVi:=Row.AG AaZ AC9 Tryz.func49 AXS
abbrev AGA:Row:=⟨50,0,0,2,0,none,Hw,[(.ret,AK)],AA,[(1,[[0],[0],[2],[2],[],[0],[0],[2],[2],[],[],[20],[]])],[]⟩
def Q6[Lk]:Env:=AVi.ext 50 true true (AF 0 2 Hw AK AA Ih)
theorem SG:AH Tryz.prog Q6:=Row.AG AGA APT Tryz.func50 AAm
abbrev ASf:Row:=⟨51,0,0,2,0,none,HJ,[(.ret,LC)],AA,[],[(0,ANC,ANB)]⟩
def AC8[Lk]:Env:=Q6.ext 51 true true (AF 0 2 HJ LC AA Wh)
theorem AC7:AH Tryz.prog AC8:=Row.AG ASf SG Tryz.func51 AND
end
end Go.Pev
end
section
namespace Go.Pev
open Go.Proofs
noncomputable section
theorem AUJ : (Tryz.f215.name == "runtime.NumGoroutine") = false := by kernel_rfl
theorem XS:Ej Tryz.prog Tryz.f215 68 3 (.int .i64) where
 body:=by kernel_rfl
 nt:=by kernel_rfl
 res:=by kernel_rfl
 d:=⟨by kernel_rfl,by kernel_rfl,by kernel_rfl,by kernel_rfl,by kernel_rfl,by kernel_rfl,by kernel_rfl,by kernel_rfl⟩
 g:=⟨by kernel_rfl,by kernel_rfl,by kernel_rfl,by kernel_rfl,by kernel_rfl,by kernel_rfl,by kernel_rfl,by kernel_rfl⟩
 o00:=by kernel_rfl
 o10:=by kernel_rfl
 o11:=by kernel_rfl
 o20:=by kernel_rfl
 o30:=by kernel_rfl
 o31:=by kernel_rfl
 o32:=by kernel_rfl
 o33:=by kernel_rfl
 sl:=by kernel_rfl
 z:=by kernel_rfl
 by1:=by kernel_rfl
def RJ[Lk]:Env:=AC8.ext 215 true true (Cv 3 (.int .i64))
theorem Nr:AH Tryz.prog RJ:=Env.BQ AC7 (I5 XS Tryz.func215 AUJ) (fun _=>BH _ _) (fun _=>(BH _ _).ALX)
theorem AX7:Tryz.f45.body.isSome=true:=by kernel_rfl
theorem AX6 : (Tryz.f45.name == "runtime.NumGoroutine") = false := by kernel_rfl
theorem AX5:loops (BC Tryz.f45)=0:=by kernel_rfl
def VF[Lk]:Env:=RJ.ext 45 false false (BN Tryz.prog RJ {} Tryz.f45)
theorem YQ:AH Tryz.prog VF:=Env.BQ Nr (A7 Nr Tryz.func45 AX7 AX6 AX5) (by simp) (by simp)
abbrev Wz:Row:=⟨71,0,3,2,0,some (1,45),Ff,[(.ret,Lc)],AA,[],[(0,Rm,Rl)]⟩
def ME[Lk]:Env:=VF.BA 71 1 45 (AF 3 2 Ff Lc AA Kd)
theorem OK:AH Tryz.prog ME:=Row.AG Wz YQ Tryz.func71 Rn
abbrev AGK:Row:=⟨115,0,0,2,0,none,P0,[(.ret,AK)],AA,[(1,[[0],[0],[2],[2],[],[0],[0],[2],[2],[],[],[20],[]])],[]⟩
def Q9[Lk]:Env:=ME.ext 115 true true (AF 0 2 P0 AK AA Ap)
theorem SK:AH Tryz.prog Q9:=Row.AG AGK OK Tryz.func115 AAz
abbrev Aah:Row:=⟨246,0,1,4,0,some (3,115),FM,[(.ret,C5)],AZ,[(4,[[],[],[],[],[],[],[],[0],[0],[],[],[],[0],[0],[],[],[]]),(6,[[],[],[],[],[],[],[],[],[0],[0],[],[],[0],[0],[0],[1],[0],[1]])],[(0,AXq,Wu),(1,AXp,AXo)]⟩
def AVm[Lk]:Env:=Q9.BA 246 3 115 (AF 1 4 FM C5 AZ AbK)
theorem APX:AH Tryz.prog AVm:=Row.AG Aah SK Tryz.func246 AXr
abbrev AWR:Row:=⟨283,0,1,5,0,some (4,115),D2,[(.ret,C5)],AZ,[(6,[[],[],[],[],[],[],[],[],[],[],[],[],[0],[0],[],[],[],[],[0],[0],[0],[1],[0],[1]]),(5,[[],[],[],[],[],[0],[0],[],[],[],[],[0],[0],[],[],[]]),(3,[[],[],[],[],[],[],[],[],[],[],[0],[0],[],[],[],[],[],[0],[0],[],[],[]])],[(0,AQp,AQo)]⟩
def AKT[Lk]:Env:=AVm.BA 283 4 115 (AF 1 5 D2 C5 AZ AY5)
theorem AHj:AH Tryz.prog AKT:=Row.AG AWR APX Tryz.func283 AQq
abbrev AX1:Row:=⟨247,0,1,4,0,some (3,115),FM,[(.ret,C5)],AZ,[(10,[[],[],[],[],[],[],[],[],[],[],[0],[0],[],[],[0],[0],[0],[1],[0],[1]])],[(0,ATU,ATS),(1,ATT,ATR)]⟩
def AKg[Lk]:Env:=AKT.BA 247 3 115 (AF 1 4 FM C5 AZ AZJ)
theorem AHw:AH Tryz.prog AKg:=Row.AG AX1 AHj Tryz.func247 ATV
abbrev AUa:Row:=⟨248,0,1,4,0,some (3,115),FM,[(.ret,C5)],AZ,[(10,[[],[],[],[],[],[],[],[],[],[],[0],[0],[],[],[0],[0],[0],[1],[0],[1]])],[(0,AOw,Wu)]⟩
def ADw[Lk]:Env:=AKg.BA 248 3 115 (AF 1 4 FM C5 AZ AUb)
theorem ADv:AH Tryz.prog ADw:=Row.AG AUa AHw Tryz.func248 AOx
abbrev AMr:Row:=⟨322,0,2,5,0,some (4,115),TG,[(.ret,TF)],AM,[(1,[[],[],[],[0],[0],[],[],[0],[0],[],[]])],[]⟩
def UT[Lk]:Env:=ADw.BA 322 4 115 (AF 2 5 TG TF AM AJH)
theorem YF:AH Tryz.prog UT:=Row.AG AMr ADv Tryz.func322 AFs
abbrev AM1:Row:=⟨285,0,2,6,0,some (5,115),TM,[(.ret,Jg)],AA,[],[]⟩
def UZ[Lk]:Env:=UT.BA 285 5 115 (AF 2 6 TM Jg AA AJN)
theorem YK:AH Tryz.prog UZ:=Row.AG AM1 YF Tryz.func285 AF2
abbrev AM8:Row:=⟨284,0,2,4,0,some (3,115),TR,[(.ret,Jg)],AA,[],[]⟩
def VD[Lk]:Env:=UZ.BA 284 3 115 (AF 2 4 TR Jg AA AJQ)
theorem YO:AH Tryz.prog VD:=Row.AG AM8 YK Tryz.func284 AF6
abbrev ARf:Row:=⟨249,0,1,4,0,some (3,115),FM,[(.ret,Zr)],AM,[],[]⟩
def AC4[Lk]:Env:=VD.BA 249 3 115 (AF 1 4 FM Zr AM ARg)
theorem AC3:AH Tryz.prog AC4:=Row.AG ARf YO Tryz.func249 AMT
end
end Go.Pev
end
section
namespace Go.Pev
open Go.Proofs
noncomputable section
abbrev AZq:Row:=⟨250,0,1,4,0,some (3,115),FM,[(.ret,C5)],AZ,[(3,[[],[],[],[],[],[],[0],[0],[],[],[0],[0],[0],[1],[0],[1]])],[(0,AWg,Wu)]⟩
def AVW[Lk]:Env:=AC4.BA 250 3 115 (AF 1 4 FM C5 AZ AbA)
theorem APK:AH Tryz.prog AVW:=Row.AG AZq AC3 Tryz.func250 AWh
abbrev AFS:Row:=⟨251,0,1,4,0,some (3,115),FM,[(.ret,Pf)],AA,[(11,[[],[],[],[],[],[],[],[],[0],[0],[],[],[0],[0],[0],[1],[0],[1]]),(5,[[],[],[],[],[],[],[],[0],[0],[],[],[],[0],[0],[],[],[],[]]),(17,[[],[],[],[],[],[],[],[],[0],[0],[],[],[0],[0],[0],[1],[0],[1]]),(16,[[],[],[],[0],[0],[],[],[],[0],[0],[],[],[]]),(23,[[],[],[],[],[],[],[],[],[0],[0],[],[],[0],[0],[0],[1],[0],[1]]),(22,[[],[],[],[0],[0],[],[],[],[0],[0],[],[],[]])],[(0,NF,AAV),(1,NF,AAU),(2,AAX,AAT),(3,AAW,AAS)]⟩
def Q2[Lk]:Env:=AVW.BA 251 3 115 (AF 1 4 FM Pf AA AAZ)
theorem SF:AH Tryz.prog Q2:=Row.AG AFS APK Tryz.func251 AAY
abbrev AMj:Row:=⟨252,0,1,5,0,some (4,115),D2,[(.ret,S6)],AA,[(8,[[],[],[],[],[],[],[0],[0],[],[],[0],[0],[0],[1],[0],[1]]),(3,[[],[],[],[],[],[],[],[0],[0],[],[],[0],[0],[],[],[],[]]),(5,[[],[],[],[],[],[],[],[0],[0],[],[],[0],[0],[],[],[]]),(1,[[],[],[],[],[],[],[0],[0],[],[],[0],[0],[0],[1],[0],[1]])],[(0,KO,AFn),(1,KO,AFm),(2,KO,AFl)]⟩
def UP[Lk]:Env:=Q2.BA 252 4 115 (AF 1 5 D2 S6 AA AJD)
theorem YA:AH Tryz.prog UP:=Row.AG AMj SF Tryz.func252 AFo
abbrev AXE:Row:=⟨253,0,1,5,0,some (4,115),D2,[(.ret,AJE)],AM,[(3,[[],[],[],[],[],[],[],[0],[0],[],[],[0],[0],[],[],[]]),(5,[[],[],[],[],[],[],[],[0],[0],[],[],[0],[0],[],[],[],[]]),(18,[[],[],[],[],[],[],[0],[0],[],[],[0],[0],[0],[1],[0],[1]]),(13,[[],[],[],[],[],[],[],[0],[0],[],[],[0],[0],[],[],[]]),(15,[[],[],[],[],[],[],[],[0],[0],[],[],[0],[0],[],[],[],[]]),(21,[[],[],[],[],[],[],[0],[0],[],[],[0],[0],[0],[1],[0],[1]]),(10,[[],[],[],[],[],[],[0],[0],[],[],[0],[0],[0],[1],[0],[1]]),(8,[[],[],[],[],[],[],[0],[0],[],[],[0],[0],[0],[1],[0],[1]]),(1,[[],[],[],[],[],[],[0],[0],[],[],[0],[0],[0],[1],[0],[1]])],[(0,Ie,ASW),(1,Ie,ASV),(2,Ie,ASU),(3,Ie,AST),(4,Ie,ASS)]⟩
def YB[Lk]:Env:=UP.BA 253 4 115 (AF 1 5 D2 AJE AM AZF)
theorem Q4:AH Tryz.prog YB:=Row.AG AXE YA Tryz.func253 ASX
abbrev AFK(self:(List (Int×Int×Unit)×Int×Int×Int×Unit)→Option ((List (Int×Int×Unit)×Unit))):Hints:={ loop:=fun n=>match n with|0=>Hu 1 148 AI5 AI4 (AI3 self)|_=>fun _ _ _=>none,fp:=fun n=>match n with|17=>[[],[],[],[],[],[],[],[0],[0],[],[],[0],[0],[],[],[],[]]|_=>[] }
abbrev Wc(self:(List (Int×Int×Unit)×Int×Int×Int×Unit)→Option ((List (Int×Int×Unit)×Unit))):Env:=YB.ext 195 false true (AF 1 5 D2 C5 AZ self)
theorem AFJ(self:(List (Int×Int×Unit)×Int×Int×Int×Unit)→Option ((List (Int×Int×Unit)×Unit))):∀ v,AI3 self v=roundOf Tryz.prog (Wc self) (AFK self) 1 1 148 (CA Tryz.f195 0) AI5 AI4 v:=by rintro⟨a0,a1,a2,a3,a4,a5,⟨⟩⟩;kernel_rfl
theorem AW4:Bh (CA Tryz.f195 0) 1=[]:=by kernel_rfl
theorem AW5(self:(List (Int×Int×Unit)×Int×Int×Int×Unit)→Option ((List (Int×Int×Unit)×Unit)))(hE:AH Tryz.prog (Wc self)):GU Tryz.prog 1 (.loop (CA Tryz.f195 0)) ((AFK self).loop 0):=LD hE (AFJ self) (DF AW4 trivial)
theorem ARz(self:(List (Int×Int×Unit)×Int×Int×Int×Unit)→Option ((List (Int×Int×Unit)×Unit))):∀ v,AaE self v=Cd 1 Tryz.prog (Wc self) (AFK self) Tryz.f195 D2 C5 AZ v:=by rintro⟨a0,a1,a2,a3,⟨⟩⟩;kernel_rfl
theorem AaD:Bh (BC Tryz.f195) 0=[(0,CA Tryz.f195 0)]:=by kernel_rfl
theorem AFL:∀ n,Ad Tryz.prog 195 (AF 1 5 D2 C5 AZ (Pa n)):=by
 intro n;induction n with
  |zero=>exact Gc fun _=>rfl
  |succ n ih=>have hE:AH Tryz.prog (Wc (Pa n)):=Env.BQ Q4 ih ((by simp)) (fun _=>BZ rfl rfl);let self:=Pa n;exact Fu hE Tryz.func195 (by kernel_rfl) (by kernel_rfl) rfl (ARz self) (DF AaD ⟨(AW5 self hE),trivial⟩)
theorem AMc:Ad Tryz.prog 195 (AF 1 5 D2 C5 AZ AW7):=by have e:AW7=Pa 100:=funext AW6;rw[e];exact AFL _
def AVc[Lk]:Env:=YB.BA 195 4 115 (AF 1 5 D2 C5 AZ AW7)
theorem APP:AH Tryz.prog AVc:=Env.Lm Q4 AMc (BZ rfl rfl)
abbrev AWJ:Row:=⟨155,0,1,2,0,some (1,115),AId,[(.ret,C5)],AZ,[],[]⟩
def AKO[Lk]:Env:=AVc.BA 155 1 115 (AF 1 2 AId C5 AZ AQY)
theorem AHe:AH Tryz.prog AKO:=Row.AG AWJ APP Tryz.func155 AQX
abbrev AVx:Row:=⟨147,0,0,1,0,none,AK,[(.ret,AN)],AA,[],[]⟩
def AKF[Lk]:Env:=AKO.ext 147 true true (AF 0 1 AK AN AA Sa)
theorem AHW:AH Tryz.prog AKF:=Row.AG AVx AHe Tryz.func147 APk
abbrev APi:Row:=⟨84,0,0,1,0,none,AK,[(.ret,AN)],AA,[],[]⟩
def Qi[Lk]:Env:=AKF.ext 84 true true (AF 0 1 AK AN AA AD8)
theorem Nd:AH Tryz.prog Qi:=Row.AG APi AHW Tryz.func84 AK6
theorem AK4:Tryz.f146.body.isSome=true:=by kernel_rfl
theorem AK3 : (Tryz.f146.name == "runtime.NumGoroutine") = false := by kernel_rfl
theorem AK2:loops (BC Tryz.f146)=0:=by kernel_rfl
theorem AK1:Tryz.f149.body.isSome=true:=by kernel_rfl
theorem AK0 : (Tryz.f149.name == "runtime.NumGoroutine") = false := by kernel_rfl
theorem AKz:loops (BC Tryz.f149)=0:=by kernel_rfl
def Nc[Lk]:Env:=Qi.ext 146 false false (BN Tryz.prog Qi {} Tryz.f146)
theorem Qh:AH Tryz.prog Nc:=Env.BQ Nd (A7 Nd Tryz.func146 AK4 AK3 AK2) (by simp) (by simp)
abbrev Wy:Row:=⟨71,0,0,2,0,some (1,146),Fe,[(.ret,AK)],AA,[],[(0,Ri,EZ)]⟩
def MD[Lk]:Env:=Nc.BA 71 1 146 (AF 0 2 Fe AK AA Kc)
theorem OJ:AH Tryz.prog MD:=Row.AG Wy Qh Tryz.func71 Rj
abbrev Ry:Row:=⟨148,0,0,2,0,some (1,146),Fe,[(.ret,AN)],AA,[],[]⟩
def G7[Lk]:Env:=MD.BA 148 1 146 (AF 0 2 Fe AN AA Gr)
theorem Hb:AH Tryz.prog G7:=Row.AG Ry OJ Tryz.func148 QJ
def Nb[Lk]:Env:=G7.ext 149 false false (BN Tryz.prog G7 {} Tryz.f149)
theorem Qg:AH Tryz.prog Nb:=Env.BQ Hb (A7 Hb Tryz.func149 AK1 AK0 AKz) (by simp) (by simp)
end
end Go.Pev
end
section
namespace Go.Pev
open Go.Proofs
noncomputable section
abbrev W0:Row:=⟨192,0,0,2,0,some (1,149),Fg,[(.ret,AK)],AA,[],[(0,Rp,EZ)]⟩
def MF[Lk]:Env:=Nb.BA 192 1 149 (AF 0 2 Fg AK AA Ke)
theorem OL:AH Tryz.prog MF:=Row.AG W0 Qg Tryz.func192 Rq
abbrev Rz:Row:=⟨150,0,0,2,0,some (1,149),Fg,[(.ret,AN)],AA,[],[]⟩
def KF[Lk]:Env:=MF.BA 150 1 149 (AF 0 2 Fg AN AA I4)
theorem Mw:AH Tryz.prog KF:=Row.AG Rz OL Tryz.func150 QK
abbrev APf:Row:=⟨100,0,0,1,0,none,Kq,[(.ret,AN)],AA,[],[]⟩
def ACL[Lk]:Env:=KF.ext 100 true true (AF 0 1 Kq AN AA AD6)
theorem ACK:AH Tryz.prog ACL:=Row.AG APf Mw Tryz.func100 AKy
abbrev AU3:Row:=⟨151,0,0,1,0,none,ACC,[(.ret,Bl)],AA,[],[]⟩
def AD2[Lk]:Env:=ACL.ext 151 true true (AF 0 1 ACC Bl AA AHS)
theorem AD1:AH Tryz.prog AD2:=Row.AG AU3 ACK Tryz.func151 AO6
abbrev AYo:Row:=⟨101,0,0,1,0,none,Kq,[(.ret,Bl)],AA,[],[(0,AUw,AUu),(1,AUv,AUt)]⟩
def AKu[Lk]:Env:=AD2.ext 101 true true (AF 0 1 Kq Bl AA AUy)
theorem AIA:AH Tryz.prog AKu:=Row.AG AYo AD1 Tryz.func101 AUx
abbrev AYW:Row:=⟨193,0,0,1,0,none,AK,[(.ret,AN)],AA,[],[]⟩
def AKn[Lk]:Env:=AKu.ext 193 true true (AF 0 1 AK AN AA AJr)
theorem AH3:AH Tryz.prog AKn:=Row.AG AYW AIA Tryz.func193 AT4
abbrev Aap:Row:=⟨152,0,0,1,0,none,XF,[(.ret,AT2)],AM,[],[]⟩
def AVs[Lk]:Env:=AKn.ext 152 true true (AF 0 1 XF AT2 AM Aaq)
theorem APc:AH Tryz.prog AVs:=Row.AG Aap AH3 Tryz.func152 AYV
abbrev AYX:Row:=⟨154,0,0,1,0,none,Oo,[(.ret,XF)],AA,[],[]⟩
def AKo[Lk]:Env:=AVs.ext 154 true true (AF 0 1 Oo XF AA AT7)
theorem AH4:AH Tryz.prog AKo:=Row.AG AYX APc Tryz.func154 AT6
abbrev AN2:Row:=⟨245,0,0,1,0,none,Jm,[(.ret,Tn)],AA,[],[(0,AGl,AGk)]⟩
def VJ[Lk]:Env:=AKo.ext 245 true true (AF 0 1 Jm Tn AA XH)
theorem YU:AH Tryz.prog VJ:=Row.AG AN2 AH4 Tryz.func245 AGm
abbrev AL9:Row:=⟨277,0,0,1,0,none,AK,[(.ret,AK)],AA,[],[]⟩
def UJ[Lk]:Env:=VJ.ext 277 true true (AF 0 1 AK AK AA OZ)
theorem X0:AH Tryz.prog UJ:=Row.AG AL9 YU Tryz.func277 AEp
abbrev AQx:Row:=⟨339,0,0,2,0,none,DT,[(.ret,AN)],AA,[],[]⟩
def ACk[Lk]:Env:=UJ.ext 339 true true (AF 0 2 DT AN AA AEj)
theorem ACj:AH Tryz.prog ACk:=Row.AG AQx X0 Tryz.func339 AL5
abbrev ARG:Row:=⟨321,0,0,3,0,none,Za,[(.ret,Oo)],AA,[],[]⟩
def ACq[Lk]:Env:=ACk.ext 321 true true (AF 0 3 Za Oo AA WN)
theorem ACp:AH Tryz.prog ACq:=Row.AG ARG ACj Tryz.func321 AME
end
end Go.Pev
end
section
namespace Go.Pev
open Go.Proofs
noncomputable section
abbrev AWV:Row:=⟨280,0,0,2,0,none,Da,[(.ret,AN)],AA,[],[(0,ARA,AQ9)]⟩
def AKW[Lk]:Env:=ACq.ext 280 true true (AF 0 2 Da AN AA ARC)
theorem AHm:AH Tryz.prog AKW:=Row.AG AWV ACp Tryz.func280 ARB
abbrev AbB:Row:=⟨279,0,0,4,0,none,AY7,[(.ret,Bl)],AA,[(10,[[],[],[],[0],[0],[],[],[0],[0],[],[0],[1]])],[(0,AZ2,AZz),(1,AZ1,AZy),(2,AZ0,AZx)]⟩
def AZT[Lk]:Env:=AKW.ext 279 true true (AF 0 4 AY7 Bl AA rby)
theorem AVX:AH Tryz.prog AZT:=Row.AG AbB AHm Tryz.func279 AZ3
abbrev Y1:Row:=⟨254,0,0,2,0,none,DT,[(.ret,AN)],AA,[],[]⟩
def Ni[Lk]:Env:=AZT.ext 254 true true (AF 0 2 DT AN AA JU)
theorem Qn:AH Tryz.prog Ni:=Row.AG Y1 AVX Tryz.func254 Vs
abbrev ALa:Row:=⟨286,0,0,1,0,none,Sh,[(.ret,AN)],AA,[],[(0,AEI,PB)]⟩
def UC[Lk]:Env:=Ni.ext 286 true true (AF 0 1 Sh AN AA OT)
theorem Xr:AH Tryz.prog UC:=Row.AG ALa Qn Tryz.func286 AEJ
abbrev ALZ:Row:=⟨323,0,0,2,0,none,Cr,[(.ret,AK)],AA,[],[]⟩
def UB[Lk]:Env:=UC.ext 323 true true (AF 0 2 Cr AK AA Kx)
theorem Xq:AH Tryz.prog UB:=Row.AG ALZ Xr Tryz.func323 AEG
abbrev ALY:Row:=⟨324,0,0,1,0,none,Se,[(.ret,AK)],AA,[],[]⟩
def UA[Lk]:Env:=UB.ext 324 true true (AF 0 1 Se AK AA JT)
theorem Xp:AH Tryz.prog UA:=Row.AG ALY Xq Tryz.func324 AEF
abbrev ALc:Row:=⟨289,0,0,2,0,none,Cr,[(.ret,AN)],AA,[(1,[[0],[],[],[],[],[0],[0],[],[],[],[],[0],[0],[],[],[]])],[]⟩
def UD[Lk]:Env:=UA.ext 289 true true (AF 0 2 Cr AN AA OU)
theorem Xs:AH Tryz.prog UD:=Row.AG ALc Xp Tryz.func289 AEL
abbrev ALd:Row:=⟨196,0,0,2,0,none,DT,[(.ret,Sl)],Sk,[],[]⟩
def UE[Lk]:Env:=UD.ext 196 true true (AF 0 2 DT Sl Sk Vt)
theorem Xt:AH Tryz.prog UE:=Row.AG ALd Xs Tryz.func196 AEN
theorem AOY : (Tryz.f325.name == "runtime.NumGoroutine") = false := by kernel_rfl
theorem R2:Ej Tryz.prog Tryz.f325 159 218 (.prod (.int .i64) (.prod (.int .i64) (.prod (.int .i64) (.prod (.int .i64) .unit)))) where
 body:=by kernel_rfl
 nt:=by kernel_rfl
 res:=by kernel_rfl
 d:=⟨by kernel_rfl,by kernel_rfl,by kernel_rfl,by kernel_rfl,by kernel_rfl,by kernel_rfl,by kernel_rfl,by kernel_rfl⟩
 g:=⟨by kernel_rfl,by kernel_rfl,by kernel_rfl,by kernel_rfl,by kernel_rfl,by kernel_rfl,by kernel_rfl,by kernel_rfl⟩
 o00:=by kernel_rfl
 o10:=by kernel_rfl
 o11:=by kernel_rfl
 o20:=by kernel_rfl
 o30:=by kernel_rfl
 o31:=by kernel_rfl
 o32:=by kernel_rfl
 o33:=by kernel_rfl
 sl:=by kernel_rfl
 z:=by kernel_rfl
 by1:=by kernel_rfl
def VL[Lk]:Env:=UE.ext 325 true true (Cv 218 (.prod (.int .i64) (.prod (.int .i64) (.prod (.int .i64) (.prod (.int .i64) .unit)))))
theorem YW:AH Tryz.prog VL:=Env.BQ Xt (I5 R2 Tryz.func325 AOY) (fun _=>BH _ _) (fun _=>(BH _ _).ALX)
theorem AUK : (Tryz.f326.name == "runtime.NumGoroutine") = false := by kernel_rfl
theorem XT:Ej Tryz.prog Tryz.f326 149 4 .bool where
 body:=by kernel_rfl
 nt:=by kernel_rfl
 res:=by kernel_rfl
 d:=⟨by kernel_rfl,by kernel_rfl,by kernel_rfl,by kernel_rfl,by kernel_rfl,by kernel_rfl,by kernel_rfl,by kernel_rfl⟩
 g:=⟨by kernel_rfl,by kernel_rfl,by kernel_rfl,by kernel_rfl,by kernel_rfl,by kernel_rfl,by kernel_rfl,by kernel_rfl⟩
 o00:=by kernel_rfl
 o10:=by kernel_rfl
 o11:=by kernel_rfl
 o20:=by kernel_rfl
 o30:=by kernel_rfl
 o31:=by kernel_rfl
 o32:=by kernel_rfl
 o33:=by kernel_rfl
 sl:=by kernel_rfl
 z:=by kernel_rfl
 by1:=by kernel_rfl
def ADg[Lk]:Env:=VL.ext 326 true true (Cv 4 .bool)
theorem ADf:AH Tryz.prog ADg:=Env.BQ YW (I5 XT Tryz.func326 AUK) (fun _=>BH _ _) (fun _=>(BH _ _).ALX)
theorem AUI : (Tryz.f256.name == "runtime.NumGoroutine") = false := by kernel_rfl
theorem XR:Ej Tryz.prog Tryz.f256 107 68 (.slice (.int .i64)) where
 body:=by kernel_rfl
 nt:=by kernel_rfl
 res:=by kernel_rfl
 d:=⟨by kernel_rfl,by kernel_rfl,by kernel_rfl,by kernel_rfl,by kernel_rfl,by kernel_rfl,by kernel_rfl,by kernel_rfl⟩
 g:=⟨by kernel_rfl,by kernel_rfl,by kernel_rfl,by kernel_rfl,by kernel_rfl,by kernel_rfl,by kernel_rfl,by kernel_rfl⟩
 o00:=by kernel_rfl
 o10:=by kernel_rfl
 o11:=by kernel_rfl
 o20:=by kernel_rfl
 o30:=by kernel_rfl
 o31:=by kernel_rfl
 o32:=by kernel_rfl
 o33:=by kernel_rfl
 sl:=by kernel_rfl
 z:=by kernel_rfl
 by1:=by kernel_rfl
def ADe[Lk]:Env:=ADg.ext 256 true true (Cv 68 (.slice (.int .i64)))
theorem ADd:AH Tryz.prog ADe:=Env.BQ ADf (I5 XR Tryz.func256 AUI) (fun _=>BH _ _) (fun _=>(BH _ _).ALX)
theorem AYb : (Tryz.f291.name == "runtime.NumGoroutine") = false := by kernel_rfl
theorem ABk:VS Tryz.prog Tryz.f291 68 3 1 where
 body:=by kernel_rfl
 nt:=by kernel_rfl
 res:=by kernel_rfl
 d:=⟨by kernel_rfl,by kernel_rfl,by kernel_rfl,by kernel_rfl,by kernel_rfl,by kernel_rfl,by kernel_rfl,by kernel_rfl⟩
 g:=⟨by kernel_rfl,by kernel_rfl,by kernel_rfl,by kernel_rfl,by kernel_rfl,by kernel_rfl,by kernel_rfl,by kernel_rfl⟩
 o00:=by kernel_rfl
 o10:=by kernel_rfl
 o11:=by kernel_rfl
 o12:=by kernel_rfl
 o13:=by kernel_rfl
 o14:=by kernel_rfl
 o15:=by kernel_rfl
 o16:=by kernel_rfl
 sl:=by kernel_rfl
 sz:=by kernel_rfl
def AKq[Lk]:Env:=ADe.ext 291 true true (I8 1)
theorem AH6:AH Tryz.prog AKq:=Env.BQ ADd (AYa ABk Tryz.func291 AYb) (fun _=>I7 _) (fun _=>(I7 _).ALX)
end
end Go.Pev
end
section
namespace Go.Pev
open Go.Proofs
noncomputable section
abbrev AP9:Row:=⟨290,0,0,2,0,none,Cr,[(.ret,Yv)],Yu,[(11,[[0],[0],[],[12],[12],[],[],[],[],[12],[12],[],[],[],[31,38],[0],[1]]),(10,[[12],[12],[12],[],[],[],[]]),(6,[[12],[],[0],[0],[],[],[12],[12],[],[],[]])],[]⟩
def ACU[Lk]:Env:=AKq.ext 290 true true (AF 0 2 Cr Yv Yu AEK)
theorem ACT:AH Tryz.prog ACU:=Row.AG AP9 AH6 Tryz.func290 ALb
abbrev AEM:Row:=⟨327,0,1,2,0,none,PD,[(.ret,PC)],AA,[],[(0,Yz,Yy)]⟩
def Qm[Lk]:Env:=ACU.ext 327 false true (AF 1 2 PD PC AA PF)
theorem R7:AH Tryz.prog Qm:=Row.AG AEM ACT Tryz.func327 Y0
abbrev AZb:Row:=⟨292,0,0,2,0,none,Cr,[(.ret,AQA)],Vr,[(12,[[0],[0],[0],[8],[8],[1000005,3],[7],[],[]]),(7,[[0],[0],[],[0],[0],[],[0],[1],[0],[1]]),(5,[[12],[],[0],[0],[],[],[12],[12],[],[],[],[0],[0],[12],[12],[],[],[]])],[(0,AV5,AV4)]⟩
def AVQ[Lk]:Env:=Qm.ext 292 true true (AF 0 2 Cr AQA Vr AZc)
theorem APF:AH Tryz.prog AVQ:=Row.AG AZb R7 Tryz.func292 AV6
abbrev AHK:Row:=⟨287,0,0,1,0,none,AK,[(.ret,AN)],AA,[],[]⟩
def RL[Lk]:Env:=AVQ.ext 287 true true (AF 0 1 AK AN AA Lz)
theorem SP:AH Tryz.prog RL:=Row.AG AHK APF Tryz.func287 ABy
abbrev AUL:Row:=⟨288,0,0,2,0,none,Cr,[(.ret,AN)],AA,[(1,[[],[],[],[],[0],[0],[],[],[],[],[0],[0],[],[],[],[],[],[],[],[0],[],[],[],[0],[0],[0],[0],[],[],[],[],[],[],[],[],[],[]])],[]⟩
def ADi[Lk]:Env:=RL.ext 288 true true (AF 0 2 Cr AN AA AHI)
theorem ADh:AH Tryz.prog ADi:=Row.AG AUL SP Tryz.func288 AOg
abbrev AUD:Row:=⟨255,0,0,1,0,none,Lv,[(.ret,AN)],AA,[],[(0,AOK,PB),(1,AOJ,AOI)]⟩
def ADY[Lk]:Env:=ADi.ext 255 true true (AF 0 1 Lv AN AA AGs)
theorem ADX:AH Tryz.prog ADY:=Row.AG AUD ADh Tryz.func255 AOL
abbrev AUR:Row:=⟨156,0,0,3,1,none,Vu,[(.ret,AB0)],ABz,[],[]⟩
def ADm[Lk]:Env:=ADY.ext 156 true true (AF 0 3 Vu AB0 ABz AHL)
theorem ADl:AH Tryz.prog ADm:=Row.AG AUR ADX Tryz.func156 AOj
abbrev AYc:Row:=⟨198,0,0,1,0,none,Lv,[(.ret,AK)],AA,[],[(0,AUN,ABt)]⟩
def AKr[Lk]:Env:=ADm.ext 198 true true (AF 0 1 Lv AK AA AUP)
theorem AH7:AH Tryz.prog AKr:=Row.AG AYc ADl Tryz.func198 AUO
abbrev AOW:Row:=⟨257,0,2,2,0,none,Jp,[(.ret,Jo)],AA,[],[]⟩
def VK[Lk]:Env:=AKr.ext 257 false true (AF 2 2 Jp Jo AA Ot)
theorem YV:AH Tryz.prog VK:=Row.AG AOW AH7 Tryz.func257 AHA
abbrev AUQ:Row:=⟨258,0,2,3,0,none,ABw,[(.ret,ABv)],AA,[(9,[[],[0],[0],[0],[0],[],[],[],[2],[3]]),(6,[[],[0],[0],[0],[0],[],[],[],[],[],[2],[3]]),(1,[[],[0],[0],[0],[0],[],[2],[2],[],[0],[0],[0],[0],[],[2],[2],[],[]])],[]⟩
def ADk[Lk]:Env:=VK.ext 258 false true (AF 2 3 ABw ABv AA AHJ)
theorem ADj:AH Tryz.prog ADk:=Row.AG AUQ YV Tryz.func258 AOi
abbrev AbQ:Row:=⟨259,0,2,2,0,none,Jp,[(.ret,Jo)],AA,[(9,[[],[],[0],[0],[0],[0],[],[0],[0],[0],[0],[],[],[],[],[],[0],[0],[0],[1],[],[]]),(6,[[],[0],[0],[0],[0],[],[],[0],[0],[0],[0],[],[2],[2],[],[],[],[],[28],[2],[3,30]]),(3,[[],[],[0],[0],[0],[0],[],[0],[0],[0],[0],[],[],[],[],[],[],[0],[0],[0],[1],[],[],[]]),(1,[[],[0],[0],[0],[0],[],[0],[0],[0],[0],[]])],[]⟩
def AZX[Lk]:Env:=ADk.ext 259 false true (AF 2 2 Jp Jo AA cgo)
theorem AVt:AH Tryz.prog AZX:=Row.AG AbQ ADj Tryz.func259 Aas
abbrev AYY:Row:=⟨197,0,0,3,0,none,AJw,[(.ret,AJv)],AJu,[(18,[[],[14],[14],[14],[],[14],[14],[14],[3],[5],[]]),(14,[[],[14],[14],[14],[],[14],[14],[14],[3],[5],[]])],[]⟩
def AKp[Lk]:Env:=AZX.ext 197 true true (AF 0 3 AJw AJv AJu AUC)
theorem AH5:AH Tryz.prog AKp:=Row.AG AYY AVt Tryz.func197 AUB
end
end Go.Pev
end
section
namespace Go.Pev
open Go.Proofs
noncomputable section
abbrev AYT:Row:=⟨157,0,1,3,0,none,AJl,[(.ret,On)],AA,[(3,[[],[],[12],[],[0],[0],[0],[14],[],[3,16],[0],[0],[1],[0],[0],[1]])],[]⟩
def AKl[Lk]:Env:=AKp.ext 157 false true (AF 1 3 AJl On AA AJn)
theorem AH1:AH Tryz.prog AKl:=Row.AG AYT AH5 Tryz.func157 ATz
abbrev ANz:Row:=⟨158,0,1,1,0,none,Tf,[(.ret,On)],AA,[],[(0,AGZ,AGX),(1,AGY,AGW)]⟩
def VG[Lk]:Env:=AKl.ext 158 false true (AF 1 1 Tf On AA XD)
theorem YR:AH Tryz.prog VG:=Row.AG ANz AH1 Tryz.func158 AGa
abbrev ATy:Row:=⟨107,0,0,4,0,none,ABR,[(.ret,ABQ)],BD,[(11,[[],[2],[2],[2],[],[2],[2],[2],[],[1],[],[]]),(14,[[],[2],[2],[2],[],[2],[2],[2],[],[1],[],[]])],[(0,ANx,ANw)]⟩
def ADU[Lk]:Env:=VG.ext 107 true true (AF 0 4 ABR ABQ BD AGT)
theorem ADT:AH Tryz.prog ADU:=Row.AG ATy YR Tryz.func107 ANy
abbrev AN0:Row:=⟨108,0,0,2,0,none,Ti,[(.ret,Th)],AA,[],[(0,AGd,AGc)]⟩
def VH[Lk]:Env:=ADU.ext 108 true true (AF 0 2 Ti Th AA XE)
theorem YS:AH Tryz.prog VH:=Row.AG AN0 ADT Tryz.func108 AGe
abbrev ATk:Row:=⟨106,0,0,1,0,none,AA2,[(.ret,AN)],AA,[],[]⟩
def ADM[Lk]:Env:=VH.ext 106 true true (AF 0 1 AA2 AN AA AGL)
theorem ADL:AH Tryz.prog ADM:=Row.AG ATk YS Tryz.func106 ANg
abbrev ATl:Row:=⟨67,0,0,2,0,none,AA5,[(.ret,BI)],BD,[],[(0,ANm,ANk),(1,ANl,ANj)]⟩
def ADO[Lk]:Env:=ADM.ext 67 true true (AF 0 2 AA5 BI BD W4)
theorem ADN:AH Tryz.prog ADO:=Row.AG ATl ADL Tryz.func67 ANn
abbrev AQO:Row:=⟨335,0,0,1,0,none,AK,[(.ret,AN)],AA,[],[]⟩
def ACW[Lk]:Env:=ADO.ext 335 true true (AF 0 1 AK AN AA Vw)
theorem ACV:AH Tryz.prog ACW:=Row.AG AQO ADN Tryz.func335 ALg
abbrev ALq:Row:=⟨336,0,0,2,0,none,DT,[(.ret,AK)],AA,[],[]⟩
def UH[Lk]:Env:=ACW.ext 336 true true (AF 0 2 DT AK AA WG)
theorem Xy:AH Tryz.prog UH:=Row.AG ALq ACV Tryz.func336 AEg
abbrev AWC:Row:=⟨338,0,0,3,0,none,AIX,[(.ret,Jm)],AA,[],[]⟩
def Xv[Lk]:Env:=UH.ext 338 true true (AF 0 3 AIX Jm AA AIZ)
theorem Qq:AH Tryz.prog Xv:=Row.AG AWC Xy Tryz.func338 AQP
theorem AQN:Tryz.f320.body.isSome=true:=by kernel_rfl
theorem AQM : (Tryz.f320.name == "runtime.NumGoroutine") = false := by kernel_rfl
theorem AQL:loops (BC Tryz.f320)=0:=by kernel_rfl
def Qp[Lk]:Env:=Xv.ext 320 false false (BN Tryz.prog Xv {} Tryz.f320)
theorem R9:AH Tryz.prog Qp:=Env.BQ Qq (A7 Qq Tryz.func320 AQN AQM AQL) (by simp) (by simp)
abbrev AQw:Row:=⟨337,0,0,2,0,some (1,320),ZQ,[(.ret,ZP)],AM,[],[(0,AL3,AL2)]⟩
def ACi[Lk]:Env:=Qp.BA 337 1 320 (AF 0 2 ZQ ZP AM PO)
theorem ACh:AH Tryz.prog ACi:=Row.AG AQw R9 Tryz.func337 AL4
abbrev ALh:Row:=⟨319,0,0,4,0,some (3,320),Sq,[(.ret,JV)],Ex,[],[(0,AEb,AEY),(1,AEa,AEX),(2,AEZ,AEW)]⟩
def UF[Lk]:Env:=ACi.BA 319 3 320 (AF 0 4 Sq JV Ex Vx)
theorem Xu:AH Tryz.prog UF:=Row.AG ALh ACh Tryz.func319 AEc
end
end Go.Pev
end
section
namespace Go.Pev
open Go.Proofs
noncomputable section
abbrev AWB:Row:=⟨278,0,0,3,0,none,OV,[(.ret,JV)],Ex,[],[]⟩
def AKL[Lk]:Env:=UF.ext 278 true true (AF 0 3 OV JV Ex AIW)
theorem AHb:AH Tryz.prog AKL:=Row.AG AWB Xu Tryz.func278 AQK
abbrev ARV:Row:=⟨282,0,0,2,0,none,Zj,[(.ret,Zi)],AA,[],[(0,AMJ,AMI)]⟩
def ACu[Lk]:Env:=AKL.ext 282 true true (AF 0 2 Zj Zi AA AE3)
theorem ACt:AH Tryz.prog ACu:=Row.AG ARV AHb Tryz.func282 AMK
abbrev AMG:Row:=⟨281,0,0,3,0,none,OV,[(.ret,BI)],BD,[],[(0,AE1,AE0)]⟩
def UK[Lk]:Env:=ACu.ext 281 true true (AF 0 3 OV BI BD WO)
theorem X2:AH Tryz.prog UK:=Row.AG AMG ACt Tryz.func281 AE2
abbrev ARJ:Row:=⟨244,0,0,3,0,none,Zd,[(.ret,BI)],BD,[(1,[[],[],[],[0],[2],[],[],[],[],[],[]])],[]⟩
def ACs[Lk]:Env:=UK.ext 244 true true (AF 0 3 Zd BI BD AEw)
theorem ACr:AH Tryz.prog ACs:=Row.AG ARJ X2 Tryz.func244 AMF
abbrev AWU:Row:=⟨242,0,0,4,0,none,AIi,[(.ret,BI)],BD,[],[(0,AQ3,AQ1),(1,AQ2,AQ0)]⟩
def AKV[Lk]:Env:=ACs.ext 242 true true (AF 0 4 AIi BI BD AQ5)
theorem AHl:AH Tryz.prog AKV:=Row.AG AWU ACr Tryz.func242 AQ4
abbrev AL6:Row:=⟨243,0,0,2,0,none,Sy,[(.ret,Sx)],AM,[],[(0,AEm,AEl)]⟩
def UI[Lk]:Env:=AKV.ext 243 true true (AF 0 2 Sy Sx AM WJ)
theorem Xz:AH Tryz.prog UI:=Row.AG AL6 AHl Tryz.func243 AEn
abbrev AN1:Row:=⟨194,0,0,2,0,none,Jl,[(.ret,Tk)],Ex,[(5,[[],[10],[0],[0],[0],[0],[18],[],[],[],[],[],[],[]])],[(0,AGh,AGg)]⟩
def VI[Lk]:Env:=UI.ext 194 true true (AF 0 2 Jl Tk Ex XG)
theorem YT:AH Tryz.prog VI:=Row.AG AN1 Xz Tryz.func194 AGi
abbrev AYU:Row:=⟨153,0,0,2,0,none,Jl,[(.ret,AJo)],BD,[],[]⟩
def AKm[Lk]:Env:=VI.ext 153 true true (AF 0 2 Jl AJo BD AT1)
theorem AH2:AH Tryz.prog AKm:=Row.AG AYU YT Tryz.func153 AT0
abbrev AT5:Row:=⟨103,0,0,2,0,none,ABU,[(.ret,ABT)],BD,[],[(0,AN8,AN6),(1,AN7,AN5)]⟩
def RD[Lk]:Env:=AKm.ext 103 true true (AF 0 2 ABU ABT BD AGn)
theorem Nm:AH Tryz.prog RD:=Row.AG AT5 AH2 Tryz.func103 AN9
theorem APD:Tryz.f102.body.isSome=true:=by kernel_rfl
theorem APC : (Tryz.f102.name == "runtime.NumGoroutine") = false := by kernel_rfl
theorem APB:loops (BC Tryz.f102)=0:=by kernel_rfl
def Ns[Lk]:Env:=RD.ext 102 false false (BN Tryz.prog RD {} Tryz.f102)
theorem RO:AH Tryz.prog Ns:=Env.BQ Nm (A7 Nm Tryz.func102 APD APC APB) (by simp) (by simp)
abbrev Wx:Row:=⟨63,0,1,2,0,some (1,102),Fc,[(.ret,LZ)],AA,[],[(0,Rf,Re)]⟩
def MC[Lk]:Env:=Ns.BA 63 1 102 (AF 1 2 Fc LZ AA Kb)
theorem OI:AH Tryz.prog MC:=Row.AG Wx RO Tryz.func63 Rg
abbrev AQt:Row:=⟨200,0,0,2,0,none,HA,[(.ret,AK)],AA,[],[(0,ALs,EZ)]⟩
def ACc[Lk]:Env:=MC.ext 200 true true (AF 0 2 HA AK AA WH)
theorem ACb:AH Tryz.prog ACc:=Row.AG AQt OI Tryz.func200 ALt
end
end Go.Pev
end
section
namespace Go.Pev
open Go.Proofs
noncomputable section
abbrev AQv:Row:=⟨160,0,0,1,0,none,AK,[(.ret,Bl)],AA,[],[(0,ALz,AJk)]⟩
def ACg[Lk]:Env:=ACc.ext 160 true true (AF 0 1 AK Bl AA WI)
theorem ACf:AH Tryz.prog ACg:=Row.AG AQv ACb Tryz.func160 AL0
abbrev AQZ:Row:=⟨212,0,1,2,0,none,DX,[(.ret,Kz)],AA,[],[(0,ALl,ALk)]⟩
def ACY[Lk]:Env:=ACg.ext 212 false true (AF 1 2 DX Kz AA PI)
theorem ACX:AH Tryz.prog ACY:=Row.AG AQZ ACf Tryz.func212 ALm
abbrev AWK:Row:=⟨203,0,1,3,0,none,BI,[(.ret,OX)],AA,[],[]⟩
def AKP[Lk]:Env:=ACY.ext 203 false true (AF 1 3 BI OX AA AQc)
theorem AHf:AH Tryz.prog AKP:=Row.AG AWK ACX Tryz.func203 AQb
abbrev AGS:Row:=⟨202,0,1,2,0,some (1,203),QA,[(.ret,IC)],AA,[],[(0,ABO,ABN)]⟩
def RC[Lk]:Env:=AKP.BA 202 1 203 (AF 1 2 QA IC AA QC)
theorem SN:AH Tryz.prog RC:=Row.AG AGS AHf Tryz.func202 ABP
abbrev AQa:Row:=⟨161,0,1,2,0,none,Y6,[(.ret,IC)],AA,[],[]⟩
def ACa[Lk]:Env:=RC.ext 161 false true (AF 1 2 Y6 IC AA Vy)
theorem ACZ:AH Tryz.prog ACa:=Row.AG AQa SN Tryz.func161 ALn
abbrev AEe:Row:=⟨163,0,0,2,0,none,HA,[(.ret,DX)],AM,[],[(0,ZE,ZD)]⟩
def Qt[Lk]:Env:=ACa.ext 163 true true (AF 0 2 HA DX AM PK)
theorem SA:AH Tryz.prog Qt:=Row.AG AEe ACZ Tryz.func163 ZF
theorem AUH : (Tryz.f112.name == "runtime.NumGoroutine") = false := by kernel_rfl
theorem XQ:Ej Tryz.prog Tryz.f112 30 73 (.prod (.int .i64) (.prod (.int .i64) (.prod (.int .i64) (.prod .bool .unit)))) where
 body:=by kernel_rfl
 nt:=by kernel_rfl
 res:=by kernel_rfl
 d:=⟨by kernel_rfl,by kernel_rfl,by kernel_rfl,by kernel_rfl,by kernel_rfl,by kernel_rfl,by kernel_rfl,by kernel_rfl⟩
 g:=⟨by kernel_rfl,by kernel_rfl,by kernel_rfl,by kernel_rfl,by kernel_rfl,by kernel_rfl,by kernel_rfl,by kernel_rfl⟩
 o00:=by kernel_rfl
 o10:=by kernel_rfl
 o11:=by kernel_rfl
 o20:=by kernel_rfl
 o30:=by kernel_rfl
 o31:=by kernel_rfl
 o32:=by kernel_rfl
 o33:=by kernel_rfl
 sl:=by kernel_rfl
 z:=by kernel_rfl
 by1:=by kernel_rfl
def ADc[Lk]:Env:=Qt.ext 112 true true (Cv 73 (.prod (.int .i64) (.prod (.int .i64) (.prod (.int .i64) (.prod .bool .unit)))))
theorem ADb:AH Tryz.prog ADc:=Env.BQ SA (I5 XQ Tryz.func112 AUH) (fun _=>BH _ _) (fun _=>(BH _ _).ALX)
abbrev AXU:Row:=⟨304,0,0,2,0,none,DT,[(.ret,AN)],AA,[],[]⟩
def AKb[Lk]:Env:=ADc.ext 304 true true (AF 0 2 DT AN AA EO)
theorem AHr:AH Tryz.prog AKb:=Row.AG AXU ADb Tryz.func304 ASo
abbrev Aae:Row:=⟨298,0,1,3,0,none,BI,[(.ret,C4)],AZ,[(4,[[],[],[],[],[],[],[0],[0],[],[],[],[0],[0],[],[]]),(6,[[],[],[],[],[],[],[],[],[0],[0],[],[],[0],[0],[0],[1],[0],[1]])],[(0,AXj,Ws),(1,AXi,AXh)]⟩
def AVl[Lk]:Env:=AKb.ext 298 false true (AF 1 3 BI C4 AZ Aaf)
theorem APW:AH Tryz.prog AVl:=Row.AG Aae AHr Tryz.func298 AXk
abbrev AWP:Row:=⟨328,0,1,4,0,none,D1,[(.ret,C4)],AZ,[(6,[[],[],[],[],[],[],[],[],[],[],[],[],[0],[0],[],[],[],[],[0],[0],[0],[1],[0],[1]]),(5,[[],[],[],[],[0],[0],[],[],[],[],[0],[0],[],[]]),(3,[[],[],[],[],[],[],[],[],[],[0],[0],[],[],[],[],[],[0],[0],[],[]])],[(0,AQl,AQk)]⟩
def AKS[Lk]:Env:=AVl.ext 328 false true (AF 1 4 D1 C4 AZ AIg)
theorem AHi:AH Tryz.prog AKS:=Row.AG AWP APW Tryz.func328 AQm
abbrev AXz:Row:=⟨299,0,1,3,0,none,BI,[(.ret,C4)],AZ,[(10,[[],[],[],[],[],[],[],[],[],[],[0],[0],[],[],[0],[0],[0],[1],[0],[1]])],[(0,ATM,ATK),(1,ATL,ATJ)]⟩
def AKf[Lk]:Env:=AKS.ext 299 false true (AF 1 3 BI C4 AZ ATO)
theorem AHv:AH Tryz.prog AKf:=Row.AG AXz AHi Tryz.func299 ATN
abbrev AUY:Row:=⟨300,0,1,3,0,none,BI,[(.ret,C4)],AZ,[(10,[[],[],[],[],[],[],[],[],[],[],[0],[0],[],[],[0],[0],[0],[1],[0],[1]])],[(0,AOt,Ws)]⟩
def ADu[Lk]:Env:=AKf.ext 300 false true (AF 1 3 BI C4 AZ AHN)
theorem ADt:AH Tryz.prog ADu:=Row.AG AUY AHv Tryz.func300 AOu
end
end Go.Pev
end
section
namespace Go.Pev
open Go.Proofs
noncomputable section
abbrev AMp:Row:=⟨340,0,2,4,0,none,TD,[(.ret,TC)],AM,[(1,[[],[],[0],[0],[],[],[0],[0],[]])],[]⟩
def US[Lk]:Env:=ADu.ext 340 false true (AF 2 4 TD TC AM K8)
theorem YE:AH Tryz.prog US:=Row.AG AMp ADt Tryz.func340 AFr
abbrev AMz:Row:=⟨330,0,2,5,0,none,TK,[(.ret,Jd)],AA,[],[]⟩
def UY[Lk]:Env:=US.ext 330 false true (AF 2 5 TK Jd AA LA)
theorem YJ:AH Tryz.prog UY:=Row.AG AMz YE Tryz.func330 AF1
abbrev AM6:Row:=⟨329,0,2,3,0,none,TP,[(.ret,Jd)],AA,[],[]⟩
def VC[Lk]:Env:=UY.ext 329 false true (AF 2 3 TP Jd AA LB)
theorem YN:AH Tryz.prog VC:=Row.AG AM6 YJ Tryz.func329 AF5
abbrev ARd:Row:=⟨301,0,1,3,0,none,BI,[(.ret,Zp)],AM,[],[]⟩
def AC2[Lk]:Env:=VC.ext 301 false true (AF 1 3 BI Zp AM AE7)
theorem AC1:AH Tryz.prog AC2:=Row.AG ARd YN Tryz.func301 AMS
abbrev AZn:Row:=⟨302,0,1,3,0,none,BI,[(.ret,C4)],AZ,[(3,[[],[],[],[],[],[],[0],[0],[],[],[0],[0],[0],[1],[0],[1]])],[(0,AWc,Ws)]⟩
def AVV[Lk]:Env:=AC2.ext 302 false true (AF 1 3 BI C4 AZ AZo)
theorem APJ:AH Tryz.prog AVV:=Row.AG AZn AC1 Tryz.func302 AWd
abbrev AFQ:Row:=⟨303,0,1,3,0,none,BI,[(.ret,OX)],AA,[(11,[[],[],[],[],[],[],[],[],[0],[0],[],[],[0],[0],[0],[1],[0],[1]]),(5,[[],[],[],[],[],[],[0],[0],[],[],[],[0],[0],[],[],[]]),(17,[[],[],[],[],[],[],[],[],[0],[0],[],[],[0],[0],[0],[1],[0],[1]]),(16,[[],[],[0],[0],[],[],[],[0],[0],[],[]]),(23,[[],[],[],[],[],[],[],[],[0],[0],[],[],[0],[0],[0],[1],[0],[1]]),(22,[[],[],[0],[0],[],[],[],[0],[0],[],[]])],[(0,NC,AAL),(1,NC,AAK),(2,AAN,AAJ),(3,AAM,AAI)]⟩
def Q1[Lk]:Env:=AVV.ext 303 false true (AF 1 3 BI OX AA Pe)
theorem SE:AH Tryz.prog Q1:=Row.AG AFQ APJ Tryz.func303 AAO
abbrev AMh:Row:=⟨305,0,1,4,0,none,D1,[(.ret,Kz)],AA,[(8,[[],[],[],[],[],[],[0],[0],[],[],[0],[0],[0],[1],[0],[1]]),(3,[[],[],[],[],[],[],[0],[0],[],[],[0],[0],[],[],[]]),(5,[[],[],[],[],[],[],[0],[0],[],[],[0],[0],[],[]]),(1,[[],[],[],[],[],[],[0],[0],[],[],[0],[0],[0],[1],[0],[1]])],[(0,KN,AFg),(1,KN,AFf),(2,KN,AFe)]⟩
def UO[Lk]:Env:=Q1.ext 305 false true (AF 1 4 D1 Kz AA Wd)
theorem X9:AH Tryz.prog UO:=Row.AG AMh SE Tryz.func305 AFh
abbrev AXC:Row:=⟨306,0,1,4,0,none,D1,[(.ret,AI8)],AM,[(3,[[],[],[],[],[],[],[0],[0],[],[],[0],[0],[],[]]),(5,[[],[],[],[],[],[],[0],[0],[],[],[0],[0],[],[],[]]),(18,[[],[],[],[],[],[],[0],[0],[],[],[0],[0],[0],[1],[0],[1]]),(13,[[],[],[],[],[],[],[0],[0],[],[],[0],[0],[],[]]),(15,[[],[],[],[],[],[],[0],[0],[],[],[0],[0],[],[],[]]),(21,[[],[],[],[],[],[],[0],[0],[],[],[0],[0],[0],[1],[0],[1]]),(10,[[],[],[],[],[],[],[0],[0],[],[],[0],[0],[0],[1],[0],[1]]),(8,[[],[],[],[],[],[],[0],[0],[],[],[0],[0],[0],[1],[0],[1]]),(1,[[],[],[],[],[],[],[0],[0],[],[],[0],[0],[0],[1],[0],[1]])],[(0,Ic,ASL),(1,Ic,ASK),(2,Ic,ASJ),(3,Ic,ASI),(4,Ic,ASH)]⟩
def X6[Lk]:Env:=UO.ext 306 false true (AF 1 4 D1 AI8 AM AJA)
theorem Q3:AH Tryz.prog X6:=Row.AG AXC X9 Tryz.func306 ASM
abbrev AFH(self:(List Int×Int×Int×Int×Unit)→Option ((List Int×Unit))):Hints:={ loop:=fun n=>match n with|0=>Hu 1 134 AI2 AI1 (WY self)|_=>fun _ _ _=>none,fp:=fun n=>match n with|17=>[[],[],[],[],[],[],[0],[0],[],[],[0],[0],[],[],[]]|_=>[] }
abbrev WZ(self:(List Int×Int×Int×Int×Unit)→Option ((List Int×Unit))):Env:=X6.ext 268 false true (AF 1 4 D1 C4 AZ self)
theorem AFG(self:(List Int×Int×Int×Int×Unit)→Option ((List Int×Unit))):∀ v,WY self v=roundOf Tryz.prog (WZ self) (AFH self) 1 1 134 (CA Tryz.f268 0) AI2 AI1 v:=by rintro⟨a0,a1,a2,a3,a4,a5,⟨⟩⟩;kernel_rfl
theorem AW0:Bh (CA Tryz.f268 0) 1=[]:=by kernel_rfl
theorem AW1(self:(List Int×Int×Int×Int×Unit)→Option ((List Int×Unit)))(hE:AH Tryz.prog (WZ self)):GU Tryz.prog 1 (.loop (CA Tryz.f268 0)) ((AFH self).loop 0):=LD hE (AFG self) (DF AW0 trivial)
theorem ARs(self:(List Int×Int×Int×Int×Unit)→Option ((List Int×Unit))):∀ v,ARv self v=Cd 1 Tryz.prog (WZ self) (AFH self) Tryz.f268 D1 C4 AZ v:=by rintro⟨a0,a1,a2,a3,⟨⟩⟩;kernel_rfl
theorem AaC:Bh (BC Tryz.f268) 0=[(0,CA Tryz.f268 0)]:=by kernel_rfl
theorem AFI:∀ n,Ad Tryz.prog 268 (AF 1 4 D1 C4 AZ (KK n)):=by
 intro n;induction n with
  |zero=>exact Gc fun _=>rfl
  |succ n ih=>have hE:AH Tryz.prog (WZ (KK n)):=Env.BQ Q3 ih ((by simp)) (fun _=>BZ rfl rfl);let self:=KK n;exact Fu hE Tryz.func268 (by kernel_rfl) (by kernel_rfl) rfl (ARs self) (DF AaC ⟨(AW1 self hE),trivial⟩)
theorem AMb:Ad Tryz.prog 268 (AF 1 4 D1 C4 AZ ARw):=by have e:ARw=KK 100:=funext AW2;rw[e];exact AFI _
def AVb[Lk]:Env:=X6.ext 268 false true (AF 1 4 D1 C4 AZ ARw)
theorem APO:AH Tryz.prog AVb:=Env.BQ Q3 AMb ((by simp)) (fun _=>BZ rfl rfl)
abbrev AWH:Row:=⟨218,0,1,1,0,none,Bl,[(.ret,C4)],AZ,[],[]⟩
def AKN[Lk]:Env:=AVb.ext 218 false true (AF 1 1 Bl C4 AZ AQV)
theorem AHd:AH Tryz.prog AKN:=Row.AG AWH APO Tryz.func218 AQU
abbrev Aau:Row:=⟨118,0,0,3,0,some (2,50),AUe,[(.ret,Mq)],AM,[(5,[[],[],[],[],[],[0],[],[]]),(8,[[],[],[],[],[],[],[],[],[],[],[0],[],[],[],[],[]])],[(0,AYj,AYi)]⟩
def AVv[Lk]:Env:=AKN.BA 118 2 50 (AF 0 3 AUe Mq AM Aav)
theorem APe:AH Tryz.prog AVv:=Row.AG Aau AHd Tryz.func118 AYk
abbrev ASk:Row:=⟨72,0,0,3,0,none,E0,[(.ret,Mq)],AM,[],[]⟩
def Q5[Lk]:Env:=AVv.ext 72 true true (AF 0 3 E0 Mq AM AF8)
theorem Nl:AH Tryz.prog Q5:=Row.AG ASk APe Tryz.func72 ANJ
end
end Go.Pev
end
section
namespace Go.Pev
open Go.Proofs
noncomputable section
theorem AFy:Tryz.f217.body.isSome=true:=by kernel_rfl
theorem AFx : (Tryz.f217.name == "runtime.NumGoroutine") = false := by kernel_rfl
theorem AFw:loops (BC Tryz.f217)=0:=by kernel_rfl
def KC[Lk]:Env:=Q5.ext 217 false false (BN Tryz.prog Q5 {} Tryz.f217)
theorem Mt:AH Tryz.prog KC:=Env.BQ Nl (A7 Nl Tryz.func217 AFy AFx AFw) (by simp) (by simp)
abbrev Pv:Row:=⟨63,0,2,2,0,some (1,217),D8,[(.ret,Io)],AA,[],[(0,N1,N0)]⟩
def JG[Lk]:Env:=KC.BA 63 1 217 (AF 2 2 D8 Io AA H6)
theorem MB:AH Tryz.prog JG:=Row.AG Pv Mt Tryz.func63 N2
abbrev AX2:Row:=⟨119,0,0,2,0,none,AJZ,[(.ret,Oj)],AA,[],[]⟩
def AKh[Lk]:Env:=JG.ext 119 false true (AF 0 2 AJZ Oj AA ATX)
theorem AHx:AH Tryz.prog AKh:=Row.AG AX2 MB Tryz.func119 ATW
abbrev AOU:Row:=⟨74,0,0,1,0,none,Tp,[(.ret,Oj)],AA,[],[(0,AG0,AGy),(1,AGz,AGx)]⟩
def Mx[Lk]:Env:=AKh.ext 74 true true (AF 0 1 Tp Oj AA XP)
theorem MK:AH Tryz.prog Mx:=Row.AG AOU AHx Tryz.func74 AG1
theorem ARS:Tryz.f122.body.isSome=true:=by kernel_rfl
theorem ARR : (Tryz.f122.name == "runtime.NumGoroutine") = false := by kernel_rfl
theorem ARQ:loops (BC Tryz.f122)=0:=by kernel_rfl
theorem AaR:Tryz.f121.body.isSome=true:=by kernel_rfl
theorem AaQ : (Tryz.f121.name == "runtime.NumGoroutine") = false := by kernel_rfl
theorem AaP:loops (BC Tryz.f121)=0:=by kernel_rfl
theorem AOF:Tryz.f213.body.isSome=true:=by kernel_rfl
theorem AOE : (Tryz.f213.name == "runtime.NumGoroutine") = false := by kernel_rfl
theorem AOD:loops (BC Tryz.f213)=0:=by kernel_rfl
def MI[Lk]:Env:=Mx.ext 213 false false (BN Tryz.prog Mx {} Tryz.f213)
theorem ON:AH Tryz.prog MI:=Env.BQ MK (A7 MK Tryz.func213 AOF AOE AOD) (by simp) (by simp)
abbrev LY:Row:=⟨63,0,1,2,0,some (1,213),Cx,[(.ret,Gi)],AA,[],[(0,KZ,KY)]⟩
def Gt[Lk]:Env:=MI.BA 63 1 213 (AF 1 2 Cx Gi AA FN)
theorem JH:AH Tryz.prog Gt:=Row.AG LY ON Tryz.func63 Ka
abbrev Ki:Row:=⟨38,0,1,2,0,some (1,213),Cx,[(.ret,GM)],AA,[],[]⟩
def Dp[Lk]:Env:=Gt.BA 38 1 213 (AF 1 2 Cx GM AA Ee)
theorem ER:AH Tryz.prog Dp:=Row.AG Ki JH Tryz.func38 Jv
theorem Aa1:Tryz.f166.body.isSome=true:=by kernel_rfl
theorem Aa0 : (Tryz.f166.name == "runtime.NumGoroutine") = false := by kernel_rfl
theorem Aaz:loops (BC Tryz.f166)=0:=by kernel_rfl
def VP[Lk]:Env:=Dp.ext 166 false false (BN Tryz.prog Dp {} Tryz.f166)
theorem Yc:AH Tryz.prog VP:=Env.BQ ER (A7 ER Tryz.func166 Aa1 Aa0 Aaz) (by simp) (by simp)
abbrev AUF:Row:=⟨165,0,2,2,0,some (1,166),ABe,[(.ret,ABd)],AA,[],[(0,AOS,AOR)]⟩
def RF[Lk]:Env:=VP.BA 165 1 166 (AF 2 2 ABe ABd AA XM)
theorem No:AH Tryz.prog RF:=Row.AG AUF Yc Tryz.func165 AOT
theorem Aay:Tryz.f167.body.isSome=true:=by kernel_rfl
theorem Aax : (Tryz.f167.name == "runtime.NumGoroutine") = false := by kernel_rfl
theorem Aaw:loops (BC Tryz.f167)=0:=by kernel_rfl
def VO[Lk]:Env:=RF.ext 167 false false (BN Tryz.prog RF {} Tryz.f167)
theorem Yb:AH Tryz.prog VO:=Env.BQ No (A7 No Tryz.func167 Aay Aax Aaw) (by simp) (by simp)
end
end Go.Pev
end
section
namespace Go.Pev
open Go.Proofs
noncomputable section
abbrev AUE:Row:=⟨165,0,0,2,0,some (1,167),ABb,[(.ret,AK)],AA,[],[(0,AOO,AON)]⟩
def ADa[Lk]:Env:=VO.BA 165 1 167 (AF 0 2 ABb AK AA AGt)
theorem ADZ:AH Tryz.prog ADa:=Row.AG AUE Yb Tryz.func165 AOP
abbrev AK5:Row:=⟨129,0,0,2,0,none,SW,[(.ret,Mq)],AM,[(3,[[],[],[],[],[],[],[],[],[],[],[],[],[],[],[]])],[]⟩
def T7[Lk]:Env:=ADa.ext 129 true true (AF 0 2 SW Mq AM AIE)
theorem Xm:AH Tryz.prog T7:=Row.AG AK5 ADZ Tryz.func129 AD7
abbrev AYO:Row:=⟨114,0,0,2,0,none,Hw,[(.ret,AK)],AA,[],[]⟩
def AKk[Lk]:Env:=T7.ext 114 true true (AF 0 2 Hw AK AA Bu)
theorem AH0:AH Tryz.prog AKk:=Row.AG AYO Xm Tryz.func114 ATh
abbrev Aab:Row:=⟨204,0,1,4,0,some (3,114),FK,[(.ret,C2)],AZ,[(4,[[],[],[],[],[],[],[],[0],[0],[],[],[],[0],[0],[],[],[]]),(6,[[],[],[],[],[],[],[],[],[0],[0],[],[],[0],[0],[0],[1],[0],[1]])],[(0,AXZ,Wq),(1,AXY,AXX)]⟩
def AVj[Lk]:Env:=AKk.BA 204 3 114 (AF 1 4 FK C2 AZ AbI)
theorem APU:AH Tryz.prog AVj:=Row.AG Aab AH0 Tryz.func204 AXa
abbrev AWM:Row:=⟨263,0,1,5,0,some (4,114),Dz,[(.ret,C2)],AZ,[(6,[[],[],[],[],[],[],[],[],[],[],[],[],[0],[0],[],[],[],[],[0],[0],[0],[1],[0],[1]]),(5,[[],[],[],[],[],[0],[0],[],[],[],[],[0],[0],[],[],[]]),(3,[[],[],[],[],[],[],[],[],[],[],[0],[0],[],[],[],[],[],[0],[0],[],[],[]])],[(0,AQe,AQd)]⟩
def AKQ[Lk]:Env:=AVj.BA 263 4 114 (AF 1 5 Dz C2 AZ AY3)
theorem AHg:AH Tryz.prog AKQ:=Row.AG AWM APU Tryz.func263 AQf
abbrev AXw:Row:=⟨205,0,1,4,0,some (3,114),FK,[(.ret,C2)],AZ,[(10,[[],[],[],[],[],[],[],[],[],[],[0],[0],[],[],[0],[0],[0],[1],[0],[1]])],[(0,ATA,AS8),(1,AS9,AS7)]⟩
def AKd[Lk]:Env:=AKQ.BA 205 3 114 (AF 1 4 FK C2 AZ AZH)
theorem AHt:AH Tryz.prog AKd:=Row.AG AXw AHg Tryz.func205 ATB
abbrev AUU:Row:=⟨206,0,1,4,0,some (3,114),FK,[(.ret,C2)],AZ,[(10,[[],[],[],[],[],[],[],[],[],[],[0],[0],[],[],[0],[0],[0],[1],[0],[1]])],[(0,AOo,Wq)]⟩
def ADq[Lk]:Env:=AKd.BA 206 3 114 (AF 1 4 FK C2 AZ breakT)
theorem ADp:AH Tryz.prog ADq:=Row.AG AUU AHt Tryz.func206 AOp
abbrev AMm:Row:=⟨297,0,2,5,0,some (4,114),S9,[(.ret,S8)],AM,[(1,[[],[],[],[0],[0],[],[],[0],[0],[],[]])],[]⟩
def UQ[Lk]:Env:=ADq.BA 297 4 114 (AF 2 5 S9 S8 AM AJF)
theorem YC:AH Tryz.prog UQ:=Row.AG AMm ADp Tryz.func297 AFp
abbrev AMw:Row:=⟨267,0,2,6,0,some (5,114),TI,[(.ret,Jb)],AA,[],[]⟩
def UW[Lk]:Env:=UQ.BA 267 5 114 (AF 2 6 TI Jb AA AJL)
theorem YH:AH Tryz.prog UW:=Row.AG AMw YC Tryz.func267 AFz
abbrev AM3:Row:=⟨266,0,2,4,0,some (3,114),TN,[(.ret,Jb)],AA,[],[]⟩
def VA[Lk]:Env:=UW.BA 266 3 114 (AF 2 4 TN Jb AA AJO)
theorem YL:AH Tryz.prog VA:=Row.AG AM3 YH Tryz.func266 AF3
abbrev ARY:Row:=⟨207,0,1,4,0,some (3,114),FK,[(.ret,Zn)],AM,[],[]⟩
def ACy[Lk]:Env:=VA.BA 207 3 114 (AF 1 4 FK Zn AM ARZ)
theorem ACx:AH Tryz.prog ACy:=Row.AG ARY YL Tryz.func207 AMQ
abbrev AZk:Row:=⟨208,0,1,4,0,some (3,114),FK,[(.ret,C2)],AZ,[(3,[[],[],[],[],[],[],[0],[0],[],[],[0],[0],[0],[1],[0],[1]])],[(0,AWX,Wq)]⟩
def AVT[Lk]:Env:=ACy.BA 208 3 114 (AF 1 4 FK C2 AZ Aa8)
theorem APH:AH Tryz.prog AVT:=Row.AG AZk ACx Tryz.func208 AWY
end
end Go.Pev
end
section
namespace Go.Pev
open Go.Proofs
noncomputable section
abbrev AFN:Row:=⟨209,0,1,4,0,some (3,114),FK,[(.ret,Pb)],AA,[(11,[[],[],[],[],[],[],[],[],[0],[0],[],[],[0],[0],[0],[1],[0],[1]]),(5,[[],[],[],[],[],[],[],[0],[0],[],[],[],[0],[0],[],[],[],[]]),(17,[[],[],[],[],[],[],[],[],[0],[0],[],[],[0],[0],[0],[1],[0],[1]]),(16,[[],[],[],[0],[0],[],[],[],[0],[0],[],[],[]]),(23,[[],[],[],[],[],[],[],[],[0],[0],[],[],[0],[0],[0],[1],[0],[1]]),(22,[[],[],[],[0],[0],[],[],[],[0],[0],[],[],[]])],[(0,M9,Z2),(1,M9,Z1),(2,Z4,Z0),(3,Z3,Zz)]⟩
def Qz[Lk]:Env:=AVT.BA 209 3 114 (AF 1 4 FK Pb AA Z6)
theorem SC:AH Tryz.prog Qz:=Row.AG AFN APH Tryz.func209 Z5
abbrev AMe:Row:=⟨210,0,1,5,0,some (4,114),Dz,[(.ret,S3)],AA,[(8,[[],[],[],[],[],[],[0],[0],[],[],[0],[0],[0],[1],[0],[1]]),(3,[[],[],[],[],[],[],[],[0],[0],[],[],[0],[0],[],[],[],[]]),(5,[[],[],[],[],[],[],[],[0],[0],[],[],[0],[0],[],[],[]]),(1,[[],[],[],[],[],[],[0],[0],[],[],[0],[0],[0],[1],[0],[1]])],[(0,KL,AFV),(1,KL,AFU),(2,KL,AFT)]⟩
def UM[Lk]:Env:=Qz.BA 210 4 114 (AF 1 5 Dz S3 AA AJB)
theorem X7:AH Tryz.prog UM:=Row.AG AMe SC Tryz.func210 AFW
abbrev AW9:Row:=⟨211,0,1,5,0,some (4,114),Dz,[(.ret,AI6)],AM,[(3,[[],[],[],[],[],[],[],[0],[0],[],[],[0],[0],[],[],[]]),(5,[[],[],[],[],[],[],[],[0],[0],[],[],[0],[0],[],[],[],[]]),(18,[[],[],[],[],[],[],[0],[0],[],[],[0],[0],[0],[1],[0],[1]]),(13,[[],[],[],[],[],[],[],[0],[0],[],[],[0],[0],[],[],[]]),(15,[[],[],[],[],[],[],[],[0],[0],[],[],[0],[0],[],[],[],[]]),(21,[[],[],[],[],[],[],[0],[0],[],[],[0],[0],[0],[1],[0],[1]]),(10,[[],[],[],[],[],[],[0],[0],[],[],[0],[0],[0],[1],[0],[1]]),(8,[[],[],[],[],[],[],[0],[0],[],[],[0],[0],[0],[1],[0],[1]]),(1,[[],[],[],[],[],[],[0],[0],[],[],[0],[0],[0],[1],[0],[1]])],[(0,Ia,AR4),(1,Ia,AR3),(2,Ia,AR2),(3,Ia,AR1),(4,Ia,AR0)]⟩
def X4[Lk]:Env:=UM.BA 211 4 114 (AF 1 5 Dz AI6 AM AZD)
theorem Qx:AH Tryz.prog X4:=Row.AG AW9 X7 Tryz.func211 AR5
abbrev AFB(self:(List (Int×Int×Int×Bool×Unit)×Int×Int×Int×Unit)→Option ((List (Int×Int×Int×Bool×Unit)×Unit))):Hints:={ loop:=fun n=>match n with|0=>Hu 1 148 AIx AIw (AIv self)|_=>fun _ _ _=>none,fp:=fun n=>match n with|17=>[[],[],[],[],[],[],[],[0],[0],[],[],[0],[0],[],[],[],[]]|_=>[] }
abbrev WV(self:(List (Int×Int×Int×Bool×Unit)×Int×Int×Int×Unit)→Option ((List (Int×Int×Int×Bool×Unit)×Unit))):Env:=X4.ext 162 false true (AF 1 5 Dz C2 AZ self)
theorem AFA(self:(List (Int×Int×Int×Bool×Unit)×Int×Int×Int×Unit)→Option ((List (Int×Int×Int×Bool×Unit)×Unit))):∀ v,AIv self v=roundOf Tryz.prog (WV self) (AFB self) 1 1 148 (CA Tryz.f162 0) AIx AIw v:=by rintro⟨a0,a1,a2,a3,a4,a5,⟨⟩⟩;kernel_rfl
theorem AWs:Bh (CA Tryz.f162 0) 1=[]:=by kernel_rfl
theorem AWt(self:(List (Int×Int×Int×Bool×Unit)×Int×Int×Int×Unit)→Option ((List (Int×Int×Int×Bool×Unit)×Unit)))(hE:AH Tryz.prog (WV self)):GU Tryz.prog 1 (.loop (CA Tryz.f162 0)) ((AFB self).loop 0):=LD hE (AFA self) (DF AWs trivial)
theorem ARq(self:(List (Int×Int×Int×Bool×Unit)×Int×Int×Int×Unit)→Option ((List (Int×Int×Int×Bool×Unit)×Unit))):∀ v,AZ9 self v=Cd 1 Tryz.prog (WV self) (AFB self) Tryz.f162 Dz C2 AZ v:=by rintro⟨a0,a1,a2,a3,⟨⟩⟩;kernel_rfl
theorem AZ8:Bh (BC Tryz.f162) 0=[(0,CA Tryz.f162 0)]:=by kernel_rfl
theorem AFC:∀ n,Ad Tryz.prog 162 (AF 1 5 Dz C2 AZ (PX n)):=by
 intro n;induction n with
  |zero=>exact Gc fun _=>rfl
  |succ n ih=>have hE:AH Tryz.prog (WV (PX n)):=Env.BQ Qx ih ((by simp)) (fun _=>BZ rfl rfl);let self:=PX n;exact Fu hE Tryz.func162 (by kernel_rfl) (by kernel_rfl) rfl (ARq self) (DF AZ8 ⟨(AWt self hE),trivial⟩)
theorem AMZ:Ad Tryz.prog 162 (AF 1 5 Dz C2 AZ AWv):=by have e:AWv=PX 100:=funext AWu;rw[e];exact AFC _
def AVZ[Lk]:Env:=X4.BA 162 4 114 (AF 1 5 Dz C2 AZ AWv)
theorem APM:AH Tryz.prog AVZ:=Env.Lm Qx AMZ (BZ rfl rfl)
abbrev AWE:Row:=⟨113,0,1,2,0,some (1,114),AIa,[(.ret,C2)],AZ,[],[]⟩
def AKM[Lk]:Env:=AVZ.BA 113 1 114 (AF 1 2 AIa C2 AZ AQR)
theorem AHc:AH Tryz.prog AKM:=Row.AG AWE APM Tryz.func113 AQQ
abbrev AX4:Row:=⟨109,0,0,2,0,none,HJ,[(.ret,AN)],AA,[],[]⟩
def AKj[Lk]:Env:=AKM.ext 109 true true (AF 0 2 HJ AN AA ATb)
theorem AHz:AH Tryz.prog AKj:=Row.AG AX4 AHc Tryz.func109 ATa
abbrev N8:Row:=⟨38,0,0,2,0,some (1,293),D7,[(.ret,AN)],AA,[],[]⟩
def IQ[Lk]:Env:=AKj.BA 38 1 293 (AF 0 2 D7 AN AA G5)
theorem Ko:AH Tryz.prog IQ:=Row.AG N8 AHz Tryz.func38 Mk
abbrev Ly:Row:=⟨38,0,1,2,0,some (1,220),DN,[(.ret,Gp)],AA,[],[]⟩
def Gu[Lk]:Env:=IQ.BA 38 1 220 (AF 1 2 DN Gp AA FP)
theorem JJ:AH Tryz.prog Gu:=Row.AG Ly Ko Tryz.func38 Kh
abbrev XI:Row:=⟨43,0,3,2,8,some (1,45),Ff,[(.ret,Ls)],AA,[],[(0,Ru,Rt)]⟩
def MH[Lk]:Env:=Gu.BA 43 1 45 (DW (AF 3 2 Ff Ls AA Kg))
theorem OM:AH Tryz.prog MH:=Row.AG XI JJ Tryz.func43 Rv
abbrev Rx:Row:=⟨38,0,1,2,0,some (1,102),Fc,[(.ret,J5)],AA,[],[]⟩
def KE[Lk]:Env:=MH.BA 38 1 102 (AF 1 2 Fc J5 AA I3)
theorem Mv:AH Tryz.prog KE:=Row.AG Rx OM Tryz.func38 QI
abbrev QE:Row:=⟨214,0,2,2,8,some (1,217),D8,[(.ret,Iz)],AA,[],[(0,N6,N5)]⟩
def JI[Lk]:Env:=KE.BA 214 1 217 (DW (AF 2 2 D8 Iz AA ID))
theorem MG:AH Tryz.prog JI:=Row.AG QE Mv Tryz.func214 N7
abbrev AUA:Row:=⟨164,0,0,2,0,none,JO,[(.ret,AN)],AA,[],[]⟩
def ADW[Lk]:Env:=JI.ext 164 true true (AF 0 2 JO AN AA QG)
theorem ADV:AH Tryz.prog ADW:=Row.AG AUA MG Tryz.func164 AOC
end
end Go.Pev
end
section
namespace Go.Pev
open Go.Proofs
noncomputable section
abbrev AOl:Row:=⟨117,0,0,2,0,none,Tv,[(.ret,DT)],AM,[(5,[[0],[2],[2],[],[],[0],[2],[2],[],[],[],[]])],[]⟩
def VM[Lk]:Env:=ADW.ext 117 true true (AF 0 2 Tv DT AM Xa)
theorem YX:AH Tryz.prog VM:=Row.AG AOl ADV Tryz.func117 AHM
abbrev AQ6:Row:=⟨260,0,0,1,0,none,Gx,[(.ret,AN)],AA,[],[]⟩
def ACm[Lk]:Env:=VM.ext 260 true true (AF 0 1 Gx AN AA PS)
theorem ACl:AH Tryz.prog ACm:=Row.AG AQ6 YX Tryz.func260 AL7
abbrev ARW:Row:=⟨224,0,0,2,0,none,JO,[(.ret,HE)],AM,[],[(0,AMO,AMN)]⟩
def ACw[Lk]:Env:=ACm.ext 224 true true (AF 0 2 JO HE AM AE4)
theorem ACv:AH Tryz.prog ACw:=Row.AG ARW ACl Tryz.func224 AMP
abbrev AWW:Row:=⟨174,0,0,2,0,none,Da,[(.ret,HE)],AM,[],[]⟩
def AKX[Lk]:Env:=ACw.ext 174 true true (AF 0 2 Da HE AM AIn)
theorem AHn:AH Tryz.prog AKX:=Row.AG AWW ACv Tryz.func174 ARD
abbrev AQ7:Row:=⟨227,0,0,1,0,none,Gx,[(.ret,Bl)],AA,[],[]⟩
def ACo[Lk]:Env:=AKX.ext 227 true true (AF 0 1 Gx Bl AA AEo)
theorem ACn:AH Tryz.prog ACo:=Row.AG AQ7 AHn Tryz.func227 AL8
abbrev APz:Row:=⟨199,0,0,1,0,none,Yp,[(.ret,AN)],AA,[(8,[[],[],[],[],[],[],[],[],[],[],[],[],[],[],[],[],[],[],[],[],[],[],[],[],[0],[0],[],[],[],[]])],[(0,ALQ,ALN),(1,ALP,ALM),(2,ALO,ALL)]⟩
def ACS[Lk]:Env:=ACo.ext 199 true true (AF 0 1 Yp AN AA MR)
theorem ACR:AH Tryz.prog ACS:=Row.AG APz ACn Tryz.func199 ALR
abbrev AYq:Row:=⟨172,0,0,3,0,none,Ov,[(.ret,AK)],AA,[],[]⟩
def AKv[Lk]:Env:=ACS.ext 172 true true (AF 0 3 Ov AK AA asked)
theorem AIB:AH Tryz.prog AKv:=Row.AG AYq ACR Tryz.func172 AUz
abbrev AV0:Row:=⟨177,0,0,3,0,none,AIO,[(.ret,AIN)],AIM,[],[(0,APs,APq),(1,APr,APp)]⟩
def AKI[Lk]:Env:=AKv.ext 177 true true (AF 0 3 AIO AIN AIM APu)
theorem AHY:AH Tryz.prog AKI:=Row.AG AV0 AIB Tryz.func177 APt
abbrev AV2:Row:=⟨128,0,0,3,0,none,Ov,[(.ret,AIS)],OS,[(9,[[],[28],[0],[0],[],[],[],[],[],[0],[0],[],[],[],[],[],[28],[28,52,36,62],[64],[]]),(4,[[0],[],[],[0],[],[],[],[]])],[]⟩
def AKK[Lk]:Env:=AKI.ext 128 true true (AF 0 3 Ov AIS OS AP8)
theorem AHa:AH Tryz.prog AKK:=Row.AG AV2 AHY Tryz.func128 AP7
abbrev ATi:Row:=⟨170,0,0,2,0,none,AA0,[(.ret,AK)],AA,[],[]⟩
def ADK[Lk]:Env:=AKK.ext 170 true true (AF 0 2 AA0 AK AA P2)
theorem ADJ:AH Tryz.prog ADK:=Row.AG ATi AHa Tryz.func170 ANe
abbrev AGR:Row:=⟨127,0,0,3,0,some (2,128),P7,[(.ret,IB)],BD,[(1,[[0],[],[],[4],[]])],[(0,ABK,ABJ)]⟩
def RB[Lk]:Env:=ADK.BA 127 2 128 (AF 0 3 P7 IB BD P9)
theorem SM:AH Tryz.prog RB:=Row.AG AGR ADJ Tryz.func127 ABL
abbrev ATm:Row:=⟨80,0,0,2,0,none,HQ,[(.ret,IB)],BD,[],[]⟩
def ADQ[Lk]:Env:=RB.ext 80 true true (AF 0 2 HQ IB BD AGN)
theorem ADP:AH Tryz.prog ADQ:=Row.AG ATm SM Tryz.func80 ANo
end
end Go.Pev
end
section
namespace Go.Pev
open Go.Proofs
noncomputable section
abbrev AbN:Row:=⟨52,0,0,2,0,none,HA,[(.ret,Cn)],AM,[],[]⟩
def AZW[Lk]:Env:=ADQ.ext 52 true true (AF 0 2 HA Cn AM fof)
theorem AVq:AH Tryz.prog AZW:=Row.AG AbN ADP Tryz.func52 Aam
abbrev ASj:Row:=⟨31,0,0,1,0,none,DZ,[(.ret,AN)],AA,[(7,[[2],[2],[],[],[2],[2],[2],[2],[],[],[],[2],[2],[0],[0],[],[],[],[2],[2],[],[],[],[2],[2],[],[],[],[],[],[],[],[0],[0],[],[],[],[],[2],[],[],[],[]])],[(0,ANH,ANG)]⟩
def ADC[Lk]:Env:=AZW.ext 31 true true (AF 0 1 DZ AN AA Cg)
theorem ADB:AH Tryz.prog ADC:=Row.AG ASj AVq Tryz.func31 ANI
abbrev Aa5:Row:=⟨216,0,0,2,0,none,Cn,[(.ret,AK)],AA,[],[]⟩
def AZR[Lk]:Env:=ADC.ext 216 true true (AF 0 2 Cn AK AA tof)
theorem AVP:AH Tryz.prog AZR:=Row.AG Aa5 ADB Tryz.func216 AZa
abbrev ANM:Row:=⟨110,0,0,2,0,none,HJ,[(.ret,Cn)],AM,[(3,[[0],[0],[0],[],[],[12],[],[],[3],[]])],[]⟩
def VE[Lk]:Env:=AZR.ext 110 true true (AF 0 2 HJ Cn AM Oh)
theorem YP:AH Tryz.prog VE:=Row.AG ANM AVP Tryz.func110 AF9
abbrev ASr:Row:=⟨44,0,0,1,0,none,DZ,[(.ret,LC)],AA,[],[(0,ANP,ANO)]⟩
def ADE[Lk]:Env:=VE.ext 44 true true (AF 0 1 DZ LC AA Po)
theorem ADD:AH Tryz.prog ADE:=Row.AG ASr YP Tryz.func44 ANQ
abbrev AWq:Row:=⟨29,0,0,2,0,none,Ga,[(.ret,JX)],AM,[(10,[[2],[6],[4],[],[5],[],[5]])],[(0,ARj,ARi)]⟩
def AKY[Lk]:Env:=ADE.ext 29 true true (AF 0 2 Ga JX AM Zt)
theorem AHo:AH Tryz.prog AKY:=Row.AG AWq ADD Tryz.func29 ARk
abbrev Aak:Row:=⟨104,0,0,2,0,none,Ga,[(.ret,JX)],AM,[],[(0,AYH,AYF),(1,AYG,AYE)]⟩
def AVo[Lk]:Env:=AKY.ext 104 true true (AF 0 2 Ga JX AM AYJ)
theorem APZ:AH Tryz.prog AVo:=Row.AG Aak AHo Tryz.func104 AYI
abbrev AYt:Row:=⟨105,0,0,1,0,none,DZ,[(.ret,AK)],AA,[],[]⟩
def AKw[Lk]:Env:=AVo.ext 105 true true (AF 0 1 DZ AK AA AU2)
theorem AIC:AH Tryz.prog AKw:=Row.AG AYt APZ Tryz.func105 AU1
abbrev AVK:Row:=⟨65,0,0,3,0,none,L6,[(.ret,ACF)],Vr,[(16,[[48],[48],[50],[0],[],[]])],[]⟩
def AD4[Lk]:Env:=AKw.ext 65 true true (AF 0 3 L6 ACF Vr AVL)
theorem AD3:AH Tryz.prog AD4:=Row.AG AVK AIC Tryz.func65 APA
abbrev AXT:Row:=⟨46,0,0,3,0,none,E0,[(.ret,AK)],AA,[],[]⟩
def AKa[Lk]:Env:=AD4.ext 46 true true (AF 0 3 E0 AK AA AJT)
theorem AHq:AH Tryz.prog AKa:=Row.AG AXT AD3 Tryz.func46 ASn
abbrev AGM:Row:=⟨168,0,0,2,0,none,Cn,[(.ret,DX)],AM,[(4,[[0],[0],[0],[],[],[],[],[],[],[1000005,21,1],[]])],[]⟩
def RA[Lk]:Env:=AKa.ext 168 true true (AF 0 2 Cn DX AM Lj)
theorem SL:AH Tryz.prog RA:=Row.AG AGM AHq Tryz.func168 AA7
abbrev ARl:Row:=⟨73,0,0,3,0,none,E0,[(.ret,DT)],AM,[],[]⟩
def AC6[Lk]:Env:=RA.ext 73 true true (AF 0 3 E0 DT AM WT)
theorem AC5:AH Tryz.prog AC6:=Row.AG ARl SL Tryz.func73 AMV
end
end Go.Pev
end
section
namespace Go.Pev
open Go.Proofs
noncomputable section
abbrev AWk:Row:=⟨120,0,0,4,0,none,AIp,[(.ret,DX)],AM,[(9,[[],[20],[],[28],[],[],[20],[20],[],[28],[28],[],[],[60],[],[]])],[]⟩
def X1[Lk]:Env:=AC6.ext 120 true true (AF 0 4 AIp DX AM ARN)
theorem Qw:AH Tryz.prog X1:=Row.AG AWk AC5 Tryz.func120 ARM
def JE[Lk]:Env:=X1.ext 122 false false (BN Tryz.prog X1 { fp:=fun n=>match n with|0=>[[],[],[0],[0],[0],[],[2],[2],[2],[],[],[2],[2],[3]]|_=>[] } Tryz.f122)
theorem JD:AH Tryz.prog JE:=Env.BQ Qw (A7 Qw Tryz.func122 ARS ARR ARQ) (by simp) (by simp)
def UL[Lk]:Env:=JE.ext 121 false false (BN Tryz.prog JE {} Tryz.f121)
theorem X3:AH Tryz.prog UL:=Env.BQ JD (A7 JD Tryz.func121 AaR AaQ AaP) (by simp) (by simp)
abbrev AbD:Row:=⟨75,0,2,4,0,none,AZB,[(.ret,AZA)],AA,[(29,[[],[],[],[2],[2],[2],[],[2],[2],[2],[],[0],[0],[0],[1],[0],[0],[0],[1]])],[(0,AaN,AaK),(1,AaM,AaJ),(2,AaL,AaI)]⟩
def AZU[Lk]:Env:=UL.ext 75 false true (AF 2 4 AZB AZA AA pat)
theorem AVd:AH Tryz.prog AZU:=Row.AG AbD X3 Tryz.func75 AaO
abbrev AZ7:Row:=⟨47,0,0,3,0,none,E0,[(.ret,ART)],WR,[(9,[[],[4],[4],[4],[],[4],[4],[4],[1],[3],[]]),(5,[[0],[0],[0],[0],[],[],[0],[0],[],[],[],[],[16],[],[14],[14],[],[0],[0],[],[],[18],[]])],[(0,AWn,AWm)]⟩
def AVY[Lk]:Env:=AZU.ext 47 true true (AF 0 3 E0 ART WR AWp)
theorem APL:AH Tryz.prog AVY:=Row.AG AZ7 AVd Tryz.func47 AWo
abbrev AWr:Row:=⟨69,0,0,2,0,none,Ga,[(.ret,AIt)],BD,[(12,[[20],[],[22],[],[5,24],[7],[]])],[(0,ARo,ARn)]⟩
def AKZ[Lk]:Env:=AVY.ext 69 true true (AF 0 2 Ga AIt BD AY9)
theorem AHp:AH Tryz.prog AKZ:=Row.AG AWr APL Tryz.func69 ARp
abbrev AWT:Row:=⟨116,0,0,1,0,none,DZ,[(.ret,HE)],AM,[(3,[[0],[0],[0],[],[10],[],[],[],[],[]])],[]⟩
def AKU[Lk]:Env:=AKZ.ext 116 true true (AF 0 1 DZ HE AM AQs)
theorem AHk:AH Tryz.prog AKU:=Row.AG AWT AHp Tryz.func116 AQr
abbrev AEh:Row:=⟨70,0,0,2,0,none,PL,[(.ret,DX)],AM,[],[(0,ZJ,ZI)]⟩
def Qu[Lk]:Env:=AKU.ext 70 true true (AF 0 2 PL DX AM ZL)
theorem SB:AH Tryz.prog Qu:=Row.AG AEh AHk Tryz.func70 ZK
abbrev ATn:Row:=⟨201,0,0,2,0,none,Cn,[(.ret,DT)],AM,[(4,[[0],[0],[0],[],[],[],[],[],[],[],[]])],[]⟩
def ADS[Lk]:Env:=Qu.ext 201 true true (AF 0 2 Cn DT AM W5)
theorem ADR:AH Tryz.prog ADS:=Row.AG ATn SB Tryz.func201 ANp
abbrev ZB:Row:=⟨159,0,0,2,0,none,HQ,[(.ret,JX)],AM,[],[(0,WC,WB)]⟩
def Nj[Lk]:Env:=ADS.ext 159 true true (AF 0 2 HQ JX AM MU)
theorem Qs:AH Tryz.prog Nj:=Row.AG ZB ADR Tryz.func159 WD
abbrev ALp:Row:=⟨111,0,0,2,0,none,HQ,[(.ret,Su)],AM,[],[]⟩
def UG[Lk]:Env:=Nj.ext 111 true true (AF 0 2 HQ Su AM WE)
theorem Xx:AH Tryz.prog UG:=Row.AG ALp Qs Tryz.func111 AEf
abbrev Aal:Row:=⟨68,0,0,2,0,none,Ga,[(.ret,ATf)],WR,[(12,[[],[10],[10],[10],[10],[],[],[6],[6],[],[],[9,12],[]])],[(0,AYM,AYL)]⟩
def AVp[Lk]:Env:=UG.ext 68 true true (AF 0 2 Ga ATf WR AbM)
theorem APa:AH Tryz.prog AVp:=Row.AG Aal Xx Tryz.func68 AYN
abbrev AGH:Row:=⟨64,0,0,1,0,none,AK,[(.ret,AN)],AA,[],[]⟩
def Q8[Lk]:Env:=AVp.ext 64 true true (AF 0 1 AK AN AA Lg)
theorem SJ:AH Tryz.prog Q8:=Row.AG AGH APa Tryz.func64 AAy
abbrev ASw:Row:=⟨40,0,0,1,0,none,AAr,[(.ret,AN)],AA,[],[]⟩
def ADG[Lk]:Env:=Q8.ext 40 true true (AF 0 1 AAr AN AA ASx)
theorem ADF:AH Tryz.prog ADG:=Row.AG ASw SJ Tryz.func40 ANT
end
end Go.Pev
end
section
namespace Go.Pev
open Go.Proofs
noncomputable section
abbrev Aa3:Row:=⟨82,0,0,1,0,none,AK,[(.ret,AN)],AA,[],[]⟩
def AKG[Lk]:Env:=ADG.ext 82 true true (AF 0 1 AK AN AA wb1)
theorem JC:AH Tryz.prog AKG:=Row.AG Aa3 ADF Tryz.func82 AZZ
end
end Go.Pev
end
