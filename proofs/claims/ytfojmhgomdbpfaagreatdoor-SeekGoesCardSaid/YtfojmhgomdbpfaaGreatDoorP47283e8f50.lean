/- A part of the proofs of this seat: G29M3 G29M4 G29M5 G29M Pln PlnB T18a T18b T18c PlnM DKA T18d PevTake PevClaim DKB. -/
import Derived.Test.YtfojmhgomdbpfaaGreatDoorP16763c05ce
import Derived.IntWalk
import Derived.Sort.AssemblyPlain
import Derived.ProofKit
import Derived.ChangeArms
import Derived.ReadAgain
import Derived.Deep.Slices
import Derived.OpenShut
import Derived.KernelRfl
set_option linter.unusedVariables false
set_option linter.unusedSimpArgs false
set_option linter.unusedSectionVars false
set_option maxRecDepth 100000
section
namespace Go.Pev
noncomputable section
attribute [local irreducible] O1 Ln Pz On AeA AeB AeC TS AAh Xy AEe Lw AY many IntKind.wrap AI A4 AU A2 Bq DY EN AK Bo CR imax AP Ae
abbrev AJY:AE:=[(.tmp 0,.dat Uf),(.tmp 1,.di),(.tmp 2,.di)]
abbrev AJX:AE:=[(.tmp 0,.di),(.tmp 1,.dat Uz),(.tmp 2,.dat (.prod .bool (.prod .bool (.prod U2 (.prod U0 .unit))))),(.tmp 3,.di)]
abbrev AJV:List RS:=[.agg 2,.one,.one]
abbrev AOa:AE:=[(.tmp 6,.box 2),(.cell 0 0,.di),(.cell 0 1,.nil U5),(.tmp 7,.box 5),(.cell 1 0,.dat .bool),(.cell 1 1,.dat .bool),(.cell 1 2,.di),(.cell 1 3,.di),(.cell 1 4,.di),(.tmp 10,.box 4),(.cell 2 0,.di),(.cell 2 1,.di),(.cell 2 2,.di),(.cell 2 3,.dat .bool),(.tmp 11,.box 2),(.cell 3 0,.di),(.cell 3 1,.own 57 U5),(.tmp 12,.box 5),(.cell 5 0,.dat .bool),(.cell 5 1,.dat .bool),(.cell 5 2,.di),(.cell 5 3,.di),(.cell 5 4,.di),(.tmp 13,.di),(.tmp 14,.di),(.tmp 15,.own 3 U0),(.tmp 19,.di),(.tmp 79,.ptr' 2 3),(.tmp 80,.dat .bool)]
abbrev AOX:At:=[(.ret,[(.tmp 6,.box 2),(.cell 0 0,.di),(.cell 0 1,.own 57 U5),(.tmp 7,.box 5),(.cell 2 0,.dat .bool),(.cell 2 1,.dat .bool),(.cell 2 2,.di),(.cell 2 3,.di),(.cell 2 4,.di),(.tmp 8,.di)]),(.exit 5,[(.tmp 6,.box 2),(.cell 0 0,.di),(.cell 0 1,.nil U5),(.tmp 7,.box 5),(.cell 1 0,.dat .bool),(.cell 1 1,.dat .bool),(.cell 1 2,.di),(.cell 1 3,.di),(.cell 1 4,.di),(.tmp 10,.box 4),(.cell 2 0,.di),(.cell 2 1,.di),(.cell 2 2,.di),(.cell 2 3,.dat .bool),(.tmp 11,.box 2),(.cell 3 0,.di),(.cell 3 1,.own 57 U5),(.tmp 12,.box 5),(.cell 5 0,.dat .bool),(.cell 5 1,.dat .bool),(.cell 5 2,.di),(.cell 5 3,.di),(.cell 5 4,.di),(.tmp 13,.di),(.tmp 14,.di),(.tmp 79,.ptr' 2 3),(.tmp 80,.dat .bool)])]
def Gm[Lk]:Uh→Option (Uh⊕(Int×List U4×Bool×Bool×Int×Int×Int×Int×Unit)⊕(Int×Bool×Bool×Int×Int×Int×Int×Int×Int×Bool×Int×List U4×Bool×Bool×Int×Int×Int×Int×Int×Bool×Unit)⊕Unit):=fun(a0,a1,a2,a3,a4,a5,a6,a7,a8,a9,a10,a11,a12,a13,a14,a15,a16,a17,a18,a19,a20,a21,_)=>
 match(ilt a20 (AI a11))with
 |true=>match idx a11 a20 with|none=>none|some x0=>match(AU a11 (AK a20) (0,(0,(0,(false,()))))).2.2.2.1 with
  |true=>some (.inl (a0,a1,a2,a3,a4,a5,a6,a7,a8,a9,a10,a11,a12,a13,a14,a15,a16,a17,a18,a19,(IntKind.wrap .i64 (a20+1)),a21,()))
  |false=>match(!(ieq (AU a11 (AK a20) (0,(0,(0,(false,()))))).2.2.1 a18))with
  |true=>some (.inl (a0,a1,a2,a3,a4,a5,a6,a7,a8,a9,a10,a11,a12,a13,a14,a15,a16,a17,a18,a19,(IntKind.wrap .i64 (a20+1)),a21,()))
  |false=>match Kd (a19,(AU a11 (AK a20) (0,(0,(0,(false,()))))).1,())with|none=>none|some (y1,_)=>match y1 with
  |true=>match Kd (a19,(AU a11 (AK a20) (0,(0,(0,(false,()))))).2.1,())with|none=>none|some (y2,_)=>match y2 with
   |true=>match idx a11 a20 with|none=>none|some x3=>some (.inl (a0,a1,a2,a3,a4,a5,a6,a7,a8,a9,a10,(A4 a11 (AK a20) ((AU a11 (AK a20) (0,(0,(0,(false,()))))).1,((AU a11 (AK a20) (0,(0,(0,(false,()))))).2.1,((CR a17 (IntKind.wrap .i64 (a18+1))),((AU a11 (AK a20) (0,(0,(0,(false,()))))).2.2.2.1,()))))),a12,a13,a14,a15,(IntKind.wrap .i64 (a16+1)),a17,a18,a19,(IntKind.wrap .i64 (a20+1)),a21,()))
   |false=>match Kd (a19,(AU a11 (AK a20) (0,(0,(0,(false,()))))).1,())with|none=>none|some (y4,_)=>match y4 with
   |true=>match idx a11 a20 with|none=>none|some x5=>some (.inr (.inl (a10,(A4 a11 (AK a20) ((AU a11 (AK a20) (0,(0,(0,(false,()))))).1,((AU a11 (AK a20) (0,(0,(0,(false,()))))).2.1,((AU a11 (AK a20) (0,(0,(0,(false,()))))).2.2.1,(true,()))))),a12,true,(AU a11 (AK a20) (0,(0,(0,(false,()))))).1,(AU a11 (AK a20) (0,(0,(0,(false,()))))).2.1,a16,0,())))
   |false=>match Kd (a19,(AU a11 (AK a20) (0,(0,(0,(false,()))))).2.1,())with|none=>none|some (y6,_)=>match y6 with
   |true=>match idx a11 a20 with|none=>none|some x7=>some (.inr (.inl (a10,(A4 a11 (AK a20) ((AU a11 (AK a20) (0,(0,(0,(false,()))))).1,((AU a11 (AK a20) (0,(0,(0,(false,()))))).2.1,((AU a11 (AK a20) (0,(0,(0,(false,()))))).2.2.1,(true,()))))),a12,true,(AU a11 (AK a20) (0,(0,(0,(false,()))))).1,(AU a11 (AK a20) (0,(0,(0,(false,()))))).2.1,a16,0,())))
   |false=>some (.inl (a0,a1,a2,a3,a4,a5,a6,a7,a8,a9,a10,a11,a12,a13,a14,a15,a16,a17,a18,a19,(IntKind.wrap .i64 (a20+1)),a21,()))
  |false=>match Kd (a19,(AU a11 (AK a20) (0,(0,(0,(false,()))))).1,())with|none=>none|some (y8,_)=>match y8 with
  |true=>match idx a11 a20 with|none=>none|some x9=>some (.inr (.inl (a10,(A4 a11 (AK a20) ((AU a11 (AK a20) (0,(0,(0,(false,()))))).1,((AU a11 (AK a20) (0,(0,(0,(false,()))))).2.1,((AU a11 (AK a20) (0,(0,(0,(false,()))))).2.2.1,(true,()))))),a12,true,(AU a11 (AK a20) (0,(0,(0,(false,()))))).1,(AU a11 (AK a20) (0,(0,(0,(false,()))))).2.1,a16,0,())))
  |false=>match Kd (a19,(AU a11 (AK a20) (0,(0,(0,(false,()))))).2.1,())with|none=>none|some (y10,_)=>match y10 with
  |true=>match idx a11 a20 with|none=>none|some x11=>some (.inr (.inl (a10,(A4 a11 (AK a20) ((AU a11 (AK a20) (0,(0,(0,(false,()))))).1,((AU a11 (AK a20) (0,(0,(0,(false,()))))).2.1,((AU a11 (AK a20) (0,(0,(0,(false,()))))).2.2.1,(true,()))))),a12,true,(AU a11 (AK a20) (0,(0,(0,(false,()))))).1,(AU a11 (AK a20) (0,(0,(0,(false,()))))).2.1,a16,0,())))
  |false=>some (.inl (a0,a1,a2,a3,a4,a5,a6,a7,a8,a9,a10,a11,a12,a13,a14,a15,a16,a17,a18,a19,(IntKind.wrap .i64 (a20+1)),a21,()))
 |false=>some (.inr (.inr (.inl (a0,a1,a2,a3,a4,a5,a6,a7,a8,a9,a10,a11,a12,a13,a14,a15,a16,a17,a18,a21,()))))
abbrev AOb:AE:=[(.tmp 6,.box 2),(.cell 0 0,.di),(.cell 0 1,.nil U5),(.tmp 7,.box 5),(.cell 1 0,.dat .bool),(.cell 1 1,.dat .bool),(.cell 1 2,.di),(.cell 1 3,.di),(.cell 1 4,.di),(.tmp 10,.box 4),(.cell 2 0,.di),(.cell 2 1,.di),(.cell 2 2,.di),(.cell 2 3,.dat .bool),(.tmp 11,.box 2),(.cell 3 0,.di),(.cell 3 1,.own 57 U5),(.tmp 12,.box 5),(.cell 5 0,.dat .bool),(.cell 5 1,.dat .bool),(.cell 5 2,.di),(.cell 5 3,.di),(.cell 5 4,.di),(.tmp 13,.di),(.tmp 14,.di),(.tmp 15,.own 3 U0),(.tmp 17,.di),(.tmp 79,.ptr' 2 3),(.tmp 80,.dat .bool)]
abbrev AOY:At:=[(.exit 3,[(.tmp 6,.box 2),(.cell 0 0,.di),(.cell 0 1,.nil U5),(.tmp 7,.box 5),(.cell 1 0,.dat .bool),(.cell 1 1,.dat .bool),(.cell 1 2,.di),(.cell 1 3,.di),(.cell 1 4,.di),(.tmp 10,.box 4),(.cell 2 0,.di),(.cell 2 1,.di),(.cell 2 2,.di),(.cell 2 3,.dat .bool),(.tmp 11,.box 2),(.cell 3 0,.di),(.cell 3 1,.own 57 U5),(.tmp 12,.box 5),(.cell 5 0,.dat .bool),(.cell 5 1,.dat .bool),(.cell 5 2,.di),(.cell 5 3,.di),(.cell 5 4,.di),(.tmp 13,.di),(.tmp 14,.di),(.tmp 15,.own 3 U0),(.tmp 79,.ptr' 2 3),(.tmp 80,.dat .bool)])]
def Gn[Lk]:Uh→Option (Uh⊕(Int×Bool×Bool×Int×Int×Int×Int×Int×Int×Bool×Int×List U4×Bool×Bool×Int×Int×Int×Int×Int×List Int×Bool×Unit)⊕Unit):=fun(a0,a1,a2,a3,a4,a5,a6,a7,a8,a9,a10,a11,a12,a13,a14,a15,a16,a17,a18,a19,a20,a21,_)=>
 match(ilt a20 (AI a11))with
 |true=>match idx a11 a20 with|none=>none|some x0=>match(AU a11 (AK a20) (0,(0,(0,(false,()))))).2.2.2.1 with
  |true=>match(ieq (AU a11 (AK a20) (0,(0,(0,(false,()))))).2.2.1 a18)with
   |true=>match Kd (a19,(AU a11 (AK a20) (0,(0,(0,(false,()))))).1,())with|none=>none|some (y1,_)=>match y1 with
    |true=>match Kd (a19,(AU a11 (AK a20) (0,(0,(0,(false,()))))).2.1,())with|none=>none|some (y2,_)=>match y2 with
     |true=>match idx a11 a20 with|none=>none|some x3=>some (.inl (a0,a1,a2,a3,a4,a5,a6,a7,a8,a9,a10,(A4 a11 (AK a20) ((AU a11 (AK a20) (0,(0,(0,(false,()))))).1,((AU a11 (AK a20) (0,(0,(0,(false,()))))).2.1,((CR a17 (IntKind.wrap .i64 (a18+1))),((AU a11 (AK a20) (0,(0,(0,(false,()))))).2.2.2.1,()))))),a12,a13,a14,a15,(IntKind.wrap .i64 (a16+1)),a17,a18,a19,(IntKind.wrap .i64 (a20+1)),a21,()))
     |false=>some (.inl (a0,a1,a2,a3,a4,a5,a6,a7,a8,a9,a10,a11,a12,a13,a14,a15,a16,a17,a18,a19,(IntKind.wrap .i64 (a20+1)),a21,()))
    |false=>some (.inl (a0,a1,a2,a3,a4,a5,a6,a7,a8,a9,a10,a11,a12,a13,a14,a15,a16,a17,a18,a19,(IntKind.wrap .i64 (a20+1)),a21,()))
   |false=>some (.inl (a0,a1,a2,a3,a4,a5,a6,a7,a8,a9,a10,a11,a12,a13,a14,a15,a16,a17,a18,a19,(IntKind.wrap .i64 (a20+1)),a21,()))
  |false=>some (.inl (a0,a1,a2,a3,a4,a5,a6,a7,a8,a9,a10,a11,a12,a13,a14,a15,a16,a17,a18,a19,(IntKind.wrap .i64 (a20+1)),a21,()))
 |false=>some (.inr (.inl (a0,a1,a2,a3,a4,a5,a6,a7,a8,a9,a10,a11,a12,a13,a14,a15,a16,a17,a18,a19,a21,())))
abbrev AOc:AE:=[(.tmp 6,.box 2),(.cell 0 0,.di),(.cell 0 1,.nil U5),(.tmp 7,.box 5),(.cell 1 0,.dat .bool),(.cell 1 1,.dat .bool),(.cell 1 2,.di),(.cell 1 3,.di),(.cell 1 4,.di),(.tmp 10,.box 4),(.cell 2 0,.di),(.cell 2 1,.di),(.cell 2 2,.di),(.cell 2 3,.dat .bool),(.tmp 11,.box 2),(.cell 3 0,.di),(.cell 3 1,.own 57 U5),(.tmp 12,.box 5),(.cell 5 0,.dat .bool),(.cell 5 1,.dat .bool),(.cell 5 2,.di),(.cell 5 3,.di),(.cell 5 4,.di),(.tmp 13,.di),(.tmp 14,.di)]
abbrev AOZ:At:=[(.ret,[(.tmp 6,.box 2),(.cell 0 0,.di),(.cell 0 1,.own 57 U5),(.tmp 7,.box 5),(.cell 2 0,.dat .bool),(.cell 2 1,.dat .bool),(.cell 2 2,.di),(.cell 2 3,.di),(.cell 2 4,.di),(.tmp 8,.di)]),(.exit 1,[(.tmp 6,.box 2),(.cell 0 0,.di),(.cell 0 1,.nil U5),(.tmp 7,.box 5),(.cell 1 0,.dat .bool),(.cell 1 1,.dat .bool),(.cell 1 2,.di),(.cell 1 3,.di),(.cell 1 4,.di),(.tmp 11,.box 2),(.cell 2 0,.di),(.cell 2 1,.own 57 U5),(.tmp 12,.box 5),(.cell 4 0,.dat .bool),(.cell 4 1,.dat .bool),(.cell 4 2,.di),(.cell 4 3,.di),(.cell 4 4,.di)])]
def FA[Lk]:Ve→Option (Ve⊕(Int×List U4×Bool×Bool×Int×Int×Int×Int×Unit)⊕(Int×Bool×Bool×Int×Int×Int×Int×List U4×Bool×Bool×Int×Int×Int×Unit)⊕Unit):=fun(a0,a1,a2,a3,a4,a5,a6,a7,a8,a9,a10,a11,a12,a13,a14,a15,a16,a17,a18,_)=>
 match(ile 0 a18)with
 |true=>match a9 with
  |true=>match Z9 ((a10,(a11,())),a6,a7,a18,())with|none=>none|some (y0,y1,_)=>match AW Gn many (a0,a1,a2,a3,a4,a5,a6,a7,a8,a9,a10,a11,a12,a13,a14,a15,a16,a17,a18,y0,0,a9,())with|none=>none|some r=>match r with
   |.inl (o2,o3,o4,o5,o6,o7,o8,o9,o10,o11,o12,o13,o14,o15,o16,o17,o18,o19,o20,o21,o22,_)=>match AW Gm many (o2,o3,o4,o5,o6,o7,o8,o9,o10,o11,o12,o13,o14,o15,o16,o17,o18,o19,o20,o21,0,o22,())with|none=>none|some r=>match r with
    |.inl (o23,o24,o25,o26,o27,o28,o29,o30,_)=>some (.inr (.inl (o23,o24,o25,o26,o27,o28,o29,o30,())))
    |.inr r=>match r with
    |.inl (o31,o32,o33,o34,o35,o36,o37,o38,o39,o40,o41,o42,o43,o44,o45,o46,o47,o48,o49,o50,_)=>some (.inl (o31,o32,o33,o34,o35,o36,o37,o38,o39,o40,o41,o42,o43,o44,o45,o46,o47,o48,(IntKind.wrap .i64 (o49-1)),()))
    |.inr _=>none
   |.inr _=>none
  |false=>some (.inr (.inr (.inl (a0,a1,a2,a3,a4,a5,a10,a11,a12,a13,a14,a15,a16,()))))
 |false=>some (.inr (.inr (.inl (a0,a1,a2,a3,a4,a5,a10,a11,a12,a13,a14,a15,a16,()))))
def Yi[Lk]:V3→Option ((Int×List U4×(Bool×Bool×U1×Int×Unit)×Int×Unit)):=fun(a0,a1,a2,_)=>
 match C2 ((a0.1,(a0.2.1,())),())with|none=>none|some (y0,_)=>match(!y0)with
 |true=>some (a0.1,a0.2.1,(false,(false,((0,(0,())),(0,())))),1,())
 |false=>match APA ((a0.1,(a0.2.1,())),a1,())with|none=>none|some (y1,_)=>match(!y1)with
 |true=>some (a0.1,a0.2.1,(false,(false,((0,(0,())),(0,())))),10,())
 |false=>match APA ((a0.1,(a0.2.1,())),a2,())with|none=>none|some (y2,_)=>match(!y2)with
 |true=>some (a0.1,a0.2.1,(false,(false,((0,(0,())),(0,())))),10,())
 |false=>match UZ ((a0.1,(a0.2.1,())),a1,a2,())with|none=>none|some (y3,_)=>match(ilt y3 0)with
 |true=>some (a0.1,a0.2.1,(false,(false,((0,(0,())),(0,())))),6,())
 |false=>match idx a0.2.1 y3 with|none=>none|some x4=>match By a0.2.1 0 y3 with|none=>none|some x5=>match(fits ((AI ([]:List U4))+(AI x5)))with
 |true=>match By a0.2.1 (IntKind.wrap .i64 (y3+1)) (AI a0.2.1)with|none=>none|some x6=>match(fits ((AI (A2 ([]:List U4) x5))+(AI x6)))with
  |true=>match ML (a0.1,())with|none=>none|some (y7,_)=>match AW FA many (0,false,false,0,0,0,x4.1,x4.2.1,x4.2.2.1,x4.2.2.2.1,a0.1,(A2 (A2 ([]:List U4) x5) x6),x4.2.2.2.1,false,0,0,0,y7,x4.2.2.1,())with|none=>none|some r=>match r with
   |.inl (o8,o9,o10,o11,o12,o13,o14,o15,_)=>some (o8,o9,(o10,(o11,((o12,(o13,())),(o14,())))),o15,())
   |.inr r=>match r with
   |.inl (o16,o17,o18,o19,o20,o21,o22,o23,o24,o25,o26,o27,o28,_)=>some (o22,o23,(o24,(o25,((o26,(o27,())),(o28,())))),0,())
   |.inr _=>none
  |false=>none
 |false=>none
def ABo[Lk]:=fun v=>Lk.f (Yi v)
theorem AOd v:ABo v=Yi v:=AG _
abbrev TB:AE:=[(.tmp 0,.dat Uf)]
abbrev TA:AE:=[(.tmp 0,.dat .bool)]
abbrev S9:List RS:=[.one]
abbrev Zz:AE:=[(.tmp 1,.box 2),(.cell 0 0,.di),(.cell 0 1,.dat Uz),(.tmp 6,.di),(.tmp 7,.di),(.tmp 11,.di)]
abbrev Zv:At:=[(.ret,[(.tmp 2,.dat .bool)]),(.exit 6,[(.tmp 1,.box 2),(.cell 0 0,.di),(.cell 0 1,.dat Uz),(.tmp 6,.di),(.tmp 7,.di)])]
def Dc[Lk]:(Int×List U4×Int×Int×Int×Unit)→Option ((Int×List U4×Int×Int×Int×Unit)⊕Ue⊕Vm⊕Unit):=fun(a0,a1,a2,a3,a4,_)=>
 match(ilt a4 a0)with
 |true=>match Fs ((a0,(a1,())),a4,a3,())with|none=>none|some (y0,_)=>match(ilt (imax 1 a2) (AI y0))with
  |true=>some (.inr (.inl (false,())))
  |false=>some (.inl (a0,a1,a2,a3,(IntKind.wrap .i64 (a4+1)),()))
 |false=>some (.inr (.inr (.inl (a0,a1,a2,a3,()))))
abbrev Z0:AE:=[(.tmp 1,.box 2),(.cell 0 0,.di),(.cell 0 1,.dat Uz),(.tmp 6,.di),(.tmp 7,.di),(.tmp 8,.own 3 U0),(.tmp 9,.di)]
abbrev Zw:At:=[(.ret,[(.tmp 2,.dat .bool)]),(.exit 4,[(.tmp 1,.box 2),(.cell 0 0,.di),(.cell 0 1,.dat Uz),(.tmp 6,.di),(.tmp 7,.di)])]
def Dd[Lk]:(Int×List U4×Int×Int×List Int×Int×Unit)→Option ((Int×List U4×Int×Int×List Int×Int×Unit)⊕Ue⊕Vm⊕Unit):=fun(a0,a1,a2,a3,a4,a5,_)=>
 match(ilt a5 (AI a1))with
 |true=>match idx a1 a5 with|none=>none|some x0=>match(!x0.2.2.2.1)with
  |true=>match(ieq x0.2.2.1 a3)with
   |true=>match idx a4 x0.1 with|none=>none|some x1=>match idx a4 x0.2.1 with|none=>none|some x2=>match(!(ieq (AU a4 (AK x0.1) 0) (AU a4 (AK x0.2.1) 0)))with
    |true=>some (.inr (.inl (false,())))
    |false=>some (.inl (a0,a1,a2,a3,a4,(IntKind.wrap .i64 (a5+1)),()))
   |false=>some (.inl (a0,a1,a2,a3,a4,(IntKind.wrap .i64 (a5+1)),()))
  |false=>some (.inl (a0,a1,a2,a3,a4,(IntKind.wrap .i64 (a5+1)),()))
 |false=>some (.inr (.inr (.inl (a0,a1,a2,a3,()))))
abbrev Z1:AE:=[(.tmp 1,.box 2),(.cell 0 0,.di),(.cell 0 1,.dat Uz),(.tmp 6,.di),(.tmp 7,.di)]
abbrev Zx:At:=[(.ret,[(.tmp 2,.dat .bool)]),(.exit 2,[])]
def EY[Lk]:Vm→Option (Vm⊕Ue⊕(Unit)⊕Unit):=fun(a0,a1,a2,a3,_)=>
 match ML (a0,())with|none=>none|some (y0,_)=>match(ile a3 y0)with
 |true=>match Iv ((a0,(a1,())),a3,())with|none=>none|some (y1,_)=>match DT (a0,y1,())with|none=>none|some (y2,_)=>match AW Dd many (a0,a1,a2,a3,y2,0,())with|none=>none|some r=>match r with
  |.inl (o3,_)=>some (.inr (.inl (o3,())))
  |.inr r=>match r with
  |.inl (o4,o5,o6,o7,_)=>match AW Dc many (o4,o5,o6,o7,0,())with|none=>none|some r=>match r with
   |.inl (o8,_)=>some (.inr (.inl (o8,())))
   |.inr r=>match r with
   |.inl (o9,o10,o11,o12,_)=>match quo? .i64 o11 2 with|none=>none|some x13=>some (.inl (o9,o10,x13,(IntKind.wrap .i64 (o12+1)),()))
   |.inr _=>none
  |.inr _=>none
 |false=>some (.inr (.inr (.inl ())))
abbrev Z2:AE:=[(.tmp 1,.box 2),(.cell 0 0,.di),(.cell 0 1,.dat Uz),(.tmp 3,.own 3 U0),(.tmp 4,.own 3 U0),(.tmp 5,.di)]
abbrev Zy:At:=[(.ret,[(.tmp 2,.dat .bool)]),(.exit 0,[(.tmp 1,.box 2),(.cell 0 0,.di),(.cell 0 1,.dat Uz)])]
def EZ[Lk]:(Int×List U4×List Int×List Int×Int×Unit)→Option ((Int×List U4×List Int×List Int×Int×Unit)⊕Ue⊕(Int×List U4×Unit)⊕Unit):=fun(a0,a1,a2,a3,a4,_)=>
 match(ilt a4 a0)with
 |true=>match idx a2 a4 with|none=>none|some x0=>match idx a3 a4 with|none=>none|some x1=>match(!(ieq (AU a2 (AK a4) 0) (AU a3 (AK a4) 0)))with
  |true=>some (.inr (.inl (false,())))
  |false=>some (.inl (a0,a1,a2,a3,(IntKind.wrap .i64 (a4+1)),()))
 |false=>some (.inr (.inr (.inl (a0,a1,()))))
def KG[Lk]:(Ul×Unit)→Option (Ue):=fun(a0,_)=>
 match C2 ((a0.1,(a0.2.1,())),())with|none=>none|some (y0,_)=>match(!y0)with
 |true=>some (false,())
 |false=>match Rj ((a0.1,(a0.2.1,())),())with|none=>none|some (y1,_)=>match DT (a0.1,y1,())with|none=>none|some (y2,_)=>match Iv ((a0.1,(a0.2.1,())),0,())with|none=>none|some (y3,_)=>match DT (a0.1,y3,())with|none=>none|some (y4,_)=>match AW EZ many (a0.1,a0.2.1,y2,y4,0,())with|none=>none|some r=>match r with
 |.inl (o5,_)=>some (o5,())
 |.inr r=>match r with
 |.inl (o6,o7,_)=>match AW EY many (o6,o7,o6,0,())with|none=>none|some r=>match r with
  |.inl (o8,_)=>some (o8,())
  |.inr r=>match r with
  |.inl _=>some (true,())
  |.inr _=>none
 |.inr _=>none
def K5[Lk]:=fun v=>Lk.f (KG v)
theorem PJ v:K5 v=KG v:=AG _
abbrev AIP:AE:=[(.tmp 0,.dat U2),(.tmp 1,.dat U2)]
abbrev AIO:AE:=[(.tmp 0,.di)]
abbrev AIN:List RS:=[.one]
def Yd[Lk]:(U1×U1×Unit)→Option (U9):=fun(a0,a1,_)=>
 match Dn (a0.1,a1.1,())with|none=>none|some (y0,_)=>match Dn (a0.2.1,a1.2.1,())with|none=>none|some (y1,_)=>match orI (([y0,y1]:List (Int)),())with|none=>none|some (y2,_)=>some (y2,())
def BR[Lk]:=fun v=>Lk.f (Yd v)
theorem AMc v:BR v=Yd v:=AG _
abbrev AUV:AE:=[(.tmp 0,.own 34 U2),(.tmp 1,.di),(.tmp 2,.di),(.tmp 3,.clo 60 [])]
abbrev AUU:AE:=[(.obj 0,.own 34 U2)]
abbrev AUT:List RS:=[]
abbrev AW4:AE:=[(.obj 0,.own 34 U2),(.tmp 0,.own' 0),(.tmp 1,.di),(.tmp 2,.di),(.tmp 3,.clo 60 []),(.tmp 8,.di),(.tmp 9,.di)]
abbrev AW2:At:=[(.exit 2,[(.obj 0,.own 34 U2),(.tmp 0,.own' 0),(.tmp 1,.di),(.tmp 2,.di),(.tmp 3,.clo 60 []),(.tmp 8,.di)])]
def AW0[Lk]:Uj→Option (Uj⊕U8⊕Unit):=OH ((0,(0,())):U1) BR
abbrev AW5:AE:=[(.obj 0,.own 34 U2),(.tmp 0,.own' 0),(.tmp 1,.di),(.tmp 2,.di),(.tmp 3,.clo 60 []),(.tmp 8,.di)]
abbrev AW3:At:=[(.exit 0,[(.obj 0,.own 34 U2)])]
def AW1[Lk]:U8→Option (U8⊕Un⊕Unit):=OI ((0,(0,())):U1) BR
def Ad4[Lk]:Ud→Option (Un):=ACG ((0,(0,())):U1) BR
def AiW[Lk](v:Ud):Option (Un):=Ad2 ((0,(0,())):U1) BR v
theorem Ag0 v:AiW v=Ad4 v:=AG _
abbrev AIX:AE:=[(.tmp 0,.own 34 U2),(.tmp 1,.di),(.tmp 2,.di),(.tmp 3,.di),(.tmp 4,.clo 60 [])]
abbrev AIW:AE:=[(.obj 0,.own 34 U2)]
abbrev AIV:List RS:=[]
abbrev AMl:AE:=[(.obj 0,.own 34 U2),(.tmp 0,.own' 0),(.tmp 2,.di),(.tmp 3,.di),(.tmp 4,.clo 60 []),(.tmp 10,.di)]
abbrev AMk:At:=[(.exit 0,[(.obj 0,.own 34 U2)]),(.ret,[(.obj 0,.own 34 U2)])]
def AMj[Lk]:U8→Option (U8⊕Un⊕Un⊕Unit):=KI ((0,(0,())):U1) BR
def AWE[Lk]:U8→Option (Un):=Ql ((0,(0,())):U1) BR
def AcL[Lk](v:U8):Option (Un):=AFr ((0,(0,())):U1) BR v
theorem AcK v:AcL v=AWE v:=AG _
abbrev AKK:AE:=[(.tmp 0,.own 34 U2),(.tmp 1,.di),(.tmp 2,.di),(.tmp 3,.clo 60 [])]
abbrev AKJ:AE:=[(.obj 0,.own 34 U2)]
abbrev AKI:List RS:=[]
abbrev APR:AE:=[(.obj 0,.own 34 U2),(.tmp 0,.own' 0),(.tmp 3,.clo 60 []),(.tmp 8,.di),(.tmp 9,.di),(.tmp 12,.di)]
abbrev APP:At:=[(.exit 2,[(.obj 0,.own 34 U2)])]
def APM[Lk]:U8→Option (U8⊕Un⊕Unit):=Kb ((0,(0,())):U1) BR
abbrev APS:AE:=[(.obj 0,.own 34 U2),(.tmp 0,.own' 0),(.tmp 3,.clo 60 []),(.tmp 8,.di),(.tmp 9,.di),(.tmp 10,.di),(.tmp 11,.di)]
abbrev APQ:At:=[(.exit 0,[(.obj 0,.own 34 U2),(.tmp 0,.own' 0),(.tmp 3,.clo 60 []),(.tmp 8,.di),(.tmp 9,.di),(.tmp 10,.di)])]
def APO[Lk]:Uj→Option (Uj⊕U8⊕Unit):=Kc ((0,(0,())):U1) BR
def AXB[Lk]:Ud→Option (Un):=Ra ((0,(0,())):U1) BR
def AeP[Lk](v:Ud):Option (Un):=APK ((0,(0,())):U1) BR v
theorem AeO v:AeP v=AXB v:=AG _
abbrev ADl:AE:=[(.tmp 0,.own 34 U2),(.tmp 1,.di),(.tmp 2,.di),(.tmp 3,.clo 60 [])]
abbrev ADk:AE:=[(.obj 0,.own 34 U2)]
abbrev ADj:List RS:=[]
abbrev AG0:AE:=[(.obj 0,.own 34 U2),(.tmp 0,.own' 0),(.tmp 1,.di),(.tmp 8,.di),(.tmp 9,.box 1),(.cell 1 0,.dat (.int .u64)),(.tmp 10,.dat (.int .u64)),(.tmp 11,.di)]
abbrev AGz:At:=[(.exit 0,[(.obj 0,.own 34 U2)])]
def AGy[Lk]:Uu→Option (Uu⊕Un⊕Unit):=GD ((0,(0,())):U1) BR
def AQT[Lk]:Ud→Option (Un):=Ni ((0,(0,())):U1) BR
def AVZ[Lk](v:Ud):Option (Un):=ADi ((0,(0,())):U1) BR v
theorem Aa9 v:AVZ v=AQT v:=AG _
abbrev Tj:AE:=[(.tmp 0,.own 34 U2),(.tmp 1,.di),(.tmp 2,.di),(.tmp 3,.box 1),(.cell 1 0,.di),(.tmp 4,.clo 60 [])]
abbrev Ti:AE:=[(.obj 0,.own 34 U2),(.obj 1,.box 1),(.cell 1 0,.di),(.tmp 0,.di),(.tmp 1,.di)]
abbrev Th:List RS:=[.one,.one]
def AGM[Lk]:U8→Option (U8):=KQ ((0,(0,())):U1) BR
def AJS[Lk](v:U8):Option (U8):=LI ((0,(0,())):U1) BR v
theorem ATT v:AJS v=AGM v:=AG _
abbrev Tu:AE:=[(.tmp 0,.own 34 U2),(.tmp 1,.di),(.tmp 2,.di),(.tmp 3,.di),(.tmp 4,.box 1),(.cell 1 0,.di),(.tmp 5,.clo 60 [])]
abbrev Tt:AE:=[(.obj 0,.own 34 U2),(.obj 1,.box 1),(.cell 1 0,.di),(.tmp 0,.di)]
abbrev Ts:List RS:=[.one]
def AGQ[Lk]:Uj→Option (Ud):=KT ((0,(0,())):U1) BR
def AJl[Lk](v:Uj):Option (Ud):=LS ((0,(0,())):U1) BR v
theorem ATt v:AJl v=AGQ v:=AG _
abbrev T3:AE:=[(.tmp 0,.own 34 U2),(.tmp 1,.di),(.tmp 2,.box 1),(.cell 1 0,.di),(.tmp 3,.clo 60 [])]
abbrev T2:AE:=[(.obj 0,.own 34 U2),(.obj 1,.box 1),(.cell 1 0,.di),(.tmp 0,.di)]
abbrev Tz:List RS:=[.one]
def AGS[Lk]:Ud→Option (Ud):=KU ((0,(0,())):U1) BR
def AJp[Lk](v:Ud):Option (Ud):=LU ((0,(0,())):U1) BR v
theorem ATw v:AJp v=AGS v:=AG _
abbrev AAz:AE:=[(.tmp 0,.own 34 U2),(.tmp 1,.di),(.tmp 2,.di),(.tmp 3,.clo 60 [])]
abbrev AAy:AE:=[(.obj 0,.own 34 U2),(.tmp 0,.di),(.tmp 1,.di)]
abbrev AAx:List RS:=[.one,.one]
def ANG[Lk]:Ud→Option (Ud):=Mw ((0,(0,())):U1) BR
def ASv[Lk](v:Ud):Option (Ud):=AAw ((0,(0,())):U1) BR v
theorem AYz v:ASv v=ANG v:=AG _
abbrev ASY:AE:=[(.tmp 0,.own 34 U2),(.tmp 1,.di),(.tmp 2,.di),(.tmp 3,.clo 60 [])]
abbrev ASX:AE:=[(.obj 0,.own 34 U2)]
abbrev ASW:List RS:=[]
abbrev AWS:AE:=[(.obj 0,.own 34 U2),(.tmp 0,.own' 0),(.tmp 8,.di),(.tmp 9,.di)]
abbrev AWR:At:=[(.exit 0,[(.obj 0,.own 34 U2)])]
def AWQ[Lk]:Ud→Option (Ud⊕Un⊕Unit):=Qu ((0,(0,())):U1) BR
def Acg[Lk]:Ud→Option (Un):=AAf ((0,(0,())):U1) BR
def Ah9[Lk](v:Ud):Option (Un):=Ace ((0,(0,())):U1) BR v
theorem AgI v:Ah9 v=Acg v:=AG _
abbrev Pf:AE:=[(.tmp 0,.own 34 U2),(.tmp 1,.di),(.tmp 2,.di),(.tmp 3,.clo 60 [])]
abbrev Pe:AE:=[(.obj 0,.own 34 U2),(.tmp 0,.dat .bool)]
abbrev Pd:List RS:=[.one]
abbrev XD:AE:=[(.obj 0,.own 34 U2),(.tmp 0,.own' 0),(.tmp 1,.di),(.tmp 2,.di),(.tmp 3,.clo 60 []),(.tmp 9,.di),(.tmp 10,.di),(.tmp 12,.di)]
abbrev W9:At:=[(.exit 6,[(.obj 0,.own 34 U2),(.tmp 0,.own' 0),(.tmp 1,.di),(.tmp 2,.di),(.tmp 3,.clo 60 []),(.tmp 9,.di),(.tmp 10,.di)])]
def W5[Lk]:Uu→Option (Uu⊕Uj⊕Unit):=Et ((0,(0,())):U1) BR
abbrev XE:AE:=[(.obj 0,.own 34 U2),(.tmp 0,.own' 0),(.tmp 1,.di),(.tmp 2,.di),(.tmp 3,.clo 60 []),(.tmp 9,.di),(.tmp 10,.di),(.tmp 11,.di)]
abbrev XA:At:=[(.exit 4,[(.obj 0,.own 34 U2),(.tmp 0,.own' 0),(.tmp 1,.di),(.tmp 2,.di),(.tmp 3,.clo 60 []),(.tmp 9,.di),(.tmp 10,.di)])]
def W6[Lk]:Uu→Option (Uu⊕Uj⊕Unit):=Eu ((0,(0,())):U1) BR
abbrev XF:AE:=[(.obj 0,.own 34 U2),(.tmp 0,.own' 0),(.tmp 1,.di),(.tmp 2,.di),(.tmp 3,.clo 60 []),(.tmp 9,.di),(.tmp 10,.di)]
abbrev XB:At:=[(.exit 2,[(.obj 0,.own 34 U2),(.tmp 0,.own' 0),(.tmp 1,.di),(.tmp 2,.di),(.tmp 3,.clo 60 []),(.tmp 9,.di),(.tmp 10,.di)])]
def W7[Lk]:Uj→Option (Uj⊕Uj⊕Unit):=Gj ((0,(0,())):U1) BR
abbrev XG:AE:=[(.obj 0,.own 34 U2),(.tmp 0,.own' 0),(.tmp 1,.di),(.tmp 2,.di),(.tmp 3,.clo 60 []),(.tmp 9,.di),(.tmp 10,.di)]
abbrev XC:At:=[(.ret,[(.obj 0,.own 34 U2),(.tmp 8,.dat .bool)]),(.exit 0,[(.obj 0,.own 34 U2)])]
def W8[Lk]:Uj→Option (Uj⊕(List U1×Bool×Unit)⊕Un⊕Unit):=CZ ((0,(0,())):U1) BR
def ABO[Lk]:Ud→Option ((List U1×Bool×Unit)):=H7 ((0,(0,())):U1) BR
def ABP[Lk](v:Ud):Option ((List U1×Bool×Unit)):=Mx ((0,(0,())):U1) BR v
theorem ANy v:ABP v=ABO v:=AG _
abbrev Td:AE:=[(.tmp 0,.own 34 U2),(.tmp 1,.di),(.tmp 2,.di),(.tmp 3,.di),(.tmp 4,.clo 60 [])]
abbrev Tc:AE:=[(.obj 0,.own 34 U2),(.tmp 0,.di)]
abbrev Tb:List RS:=[.one]
abbrev ABg:AE:=[(.obj 0,.own 34 U2),(.tmp 0,.own' 0),(.tmp 1,.di),(.tmp 4,.clo 60 []),(.tmp 11,.di),(.tmp 12,.di)]
abbrev ABd:At:=[(.exit 4,[(.obj 0,.own 34 U2),(.tmp 0,.own' 0),(.tmp 1,.di),(.tmp 4,.clo 60 []),(.tmp 11,.di),(.tmp 12,.di)])]
def ABa[Lk]:U8→Option (U8⊕U8⊕Unit):=H8 ((0,(0,())):U1) BR
abbrev ABh:AE:=[(.obj 0,.own 34 U2),(.tmp 0,.own' 0),(.tmp 1,.di),(.tmp 4,.clo 60 []),(.tmp 11,.di),(.tmp 12,.di)]
abbrev ABe:At:=[(.exit 2,[(.obj 0,.own 34 U2),(.tmp 0,.own' 0),(.tmp 1,.di),(.tmp 4,.clo 60 []),(.tmp 11,.di),(.tmp 12,.di)])]
def ABb[Lk]:U8→Option (U8⊕U8⊕Unit):=H9 ((0,(0,())):U1) BR
abbrev ABi:AE:=[(.obj 0,.own 34 U2),(.tmp 0,.own' 0),(.tmp 1,.di),(.tmp 4,.clo 60 []),(.tmp 11,.di),(.tmp 12,.di)]
abbrev ABf:At:=[(.exit 0,[(.obj 0,.own 34 U2),(.tmp 11,.di)])]
def ABc[Lk]:U8→Option (U8⊕(List U1×Int×Unit)⊕Unit):=IA ((0,(0,())):U1) BR
def AGH[Lk]:U8→Option ((List U1×Int×Unit)):=KO ((0,(0,())):U1) BR
def AJL[Lk](v:U8):Option ((List U1×Int×Unit)):=Q4 ((0,(0,())):U1) BR v
theorem ATP v:AJL v=AGH v:=AG _
abbrev AJO:AE:=[(.tmp 0,.own 34 U2),(.tmp 1,.di),(.tmp 2,.di),(.tmp 3,.di),(.tmp 4,.clo 60 [])]
abbrev AJN:AE:=[(.obj 0,.own 34 U2),(.tmp 0,.di),(.tmp 1,.dat .bool)]
abbrev AJM:List RS:=[.one,.one]
abbrev AOL:AE:=[(.obj 0,.own 34 U2),(.tmp 0,.own' 0),(.tmp 1,.di),(.tmp 4,.clo 60 []),(.tmp 12,.di),(.tmp 13,.di)]
abbrev AOG:At:=[(.exit 8,[(.obj 0,.own 34 U2),(.tmp 0,.own' 0),(.tmp 1,.di),(.tmp 4,.clo 60 []),(.tmp 12,.di),(.tmp 13,.di)])]
def AN7[Lk]:U8→Option (U8⊕U8⊕Unit):=My ((0,(0,())):U1) BR
abbrev AOM:AE:=[(.obj 0,.own 34 U2),(.tmp 0,.own' 0),(.tmp 1,.di),(.tmp 4,.clo 60 []),(.tmp 12,.di),(.tmp 13,.di)]
abbrev AOH:At:=[(.exit 6,[(.obj 0,.own 34 U2),(.tmp 0,.own' 0),(.tmp 1,.di),(.tmp 4,.clo 60 []),(.tmp 12,.di),(.tmp 13,.di)])]
def AN9[Lk]:U8→Option (U8⊕U8⊕Unit):=Mz ((0,(0,())):U1) BR
abbrev AON:AE:=[(.obj 0,.own 34 U2),(.tmp 0,.own' 0),(.tmp 1,.di),(.tmp 4,.clo 60 []),(.tmp 12,.di),(.tmp 13,.di)]
abbrev AOI:At:=[(.exit 4,[(.obj 0,.own 34 U2),(.tmp 0,.own' 0),(.tmp 1,.di),(.tmp 13,.di)])]
def AOB[Lk]:U8→Option (U8⊕Ud⊕Unit):=M0 ((0,(0,())):U1) BR
abbrev AOO:AE:=[(.obj 0,.own 34 U2),(.tmp 0,.own' 0),(.tmp 1,.di),(.tmp 4,.clo 60 []),(.tmp 12,.di),(.tmp 13,.di)]
abbrev AOJ:At:=[(.exit 2,[(.obj 0,.own 34 U2),(.tmp 0,.own' 0),(.tmp 1,.di),(.tmp 4,.clo 60 []),(.tmp 12,.di),(.tmp 13,.di)])]
def AOD[Lk]:U8→Option (U8⊕U8⊕Unit):=M3 ((0,(0,())):U1) BR
abbrev AOP:AE:=[(.obj 0,.own 34 U2),(.tmp 0,.own' 0),(.tmp 1,.di),(.tmp 4,.clo 60 []),(.tmp 12,.di),(.tmp 13,.di)]
abbrev AOK:At:=[(.exit 0,[(.obj 0,.own 34 U2),(.tmp 0,.own' 0),(.tmp 1,.di),(.tmp 4,.clo 60 []),(.tmp 12,.di),(.tmp 13,.di)])]
def AOF[Lk]:U8→Option (U8⊕U8⊕Unit):=M4 ((0,(0,())):U1) BR
def AWg[Lk]:U8→Option ((List U1×Int×Bool×Unit)):=Q3 ((0,(0,())):U1) BR
def AdL[Lk](v:U8):Option ((List U1×Int×Bool×Unit)):=ABQ ((0,(0,())):U1) BR v
theorem AdK v:AdL v=AWg v:=AG _
abbrev ABC:AE:=[(.tmp 0,.own 34 U2),(.tmp 1,.di),(.tmp 2,.di),(.tmp 3,.di),(.tmp 4,.clo 60 [])]
abbrev ABB:AE:=[(.obj 0,.own 34 U2)]
abbrev ABA:List RS:=[]
abbrev AWe:AE:=[(.obj 0,.own 34 U2),(.tmp 0,.own' 0),(.tmp 1,.di),(.tmp 2,.di),(.tmp 3,.di),(.tmp 4,.clo 60 []),(.tmp 10,.dat .bool),(.tmp 11,.dat .bool)]
abbrev AWd:At:=[(.ret,[(.obj 0,.own 34 U2)])]
def AWc[Lk](self:U8→Option (Un)):(List U1×Int×Int×Int×Bool×Bool×Unit)→Option ((List U1×Int×Int×Int×Bool×Bool×Unit)⊕Un⊕Unit):=OC ((0,(0,())):U1) BR self
def AiF[Lk](self:U8→Option (Un)):U8→Option (Un):=AA9 ((0,(0,())):U1) BR self
def ABD[Lk]:Nat→U8→Option (Un):=LH ((0,(0,())):U1) BR
def AgS[Lk](v:U8):Option (Un):=Acv ((0,(0,())):U1) BR v
theorem AgR v:AgS v=ABD 100 v:=AG _
abbrev AIJ:AE:=[(.tmp 0,.own 34 U2),(.tmp 1,.clo 60 [])]
abbrev AII:AE:=[(.obj 0,.own 34 U2)]
abbrev AIH:List RS:=[]
def AV7[Lk]:Un→Option (Un):=Qj ((0,(0,())):U1) BR
def AFo[Lk](v:Un):Option (Un):=AV6 ((0,(0,())):U1) BR v
theorem AcB v:AFo v=AV7 v:=AG _
abbrev ADV:AE:=[(.tmp 0,.dat (.slice (.int .u32))),(.tmp 1,.di)]
abbrev ADU:AE:=[(.tmp 0,.dat (.int .u32))]
abbrev ADT:List RS:=[.one]
def ADW[Lk]:Us→Option (U9):=fun(a0,a1,_)=>
 match(ilt a1 0)with
 |true=>some (0,())
 |false=>match(ieq (AI a0) 0)with
 |true=>some (0,())
 |false=>match rem? a1 (AI a0)with|none=>none|some x0=>match idx a0 x0 with|none=>none|some x1=>some (x1,())
def AKs[Lk]:=fun v=>Lk.f (ADW v)
theorem Aar v:AKs v=ADW v:=AG _
abbrev AQq:AE:=[(.tmp 0,.dat (.int .u32))]
abbrev AQp:AE:=[(.tmp 0,.di)]
abbrev AQo:List RS:=[.one]
def AQr[Lk]:U9→Option (U9):=fun(a0,_)=>
 match(ieq a0 0)with
 |true=>some (32,())
 |false=>match shr? .u32 (IntKind.wrap .u32 ((IntKind.wrap .u32 ((BitVec.ofInt (IntKind.bits .u32) a0 &&& BitVec.ofInt (IntKind.bits .u32) (IntKind.wrap .u32 (0-a0))).toNat))*125613361)) 27 with|none=>none|some x0=>match(ile 0 x0&&(ilt x0 32&&ilt x0 (AI AaU)))with
 |true=>some ((IntKind.wrap .i64 (AU AaU (AK x0) 0)),())
 |false=>none
def AfT[Lk]:=fun v=>Lk.f (AQr v)
theorem AfS v:AfT v=AQr v:=AG _
abbrev Vt:AE:=[(.tmp 0,.dat (.int .u32))]
abbrev Vs:AE:=[(.tmp 0,.di)]
abbrev Vr:List RS:=[.one]
def Vu[Lk]:U9→Option (U9):=fun(a0,_)=>
 match AfT (a0,())with|none=>none|some (y0,_)=>some ((CR (IntKind.wrap .i64 (y0+1)) 8),())
def Ys[Lk]:=fun v=>Lk.f (Vu v)
theorem AVU v:Ys v=Vu v:=AG _
abbrev ZA:AE:=[(.tmp 0,.di)]
abbrev Y9:AE:=[(.tmp 0,.dat .bool)]
abbrev Y8:List RS:=[.one]
def ZB[Lk]:U9→Option (Ue):=fun(a0,_)=>
 match(ile 1 a0)with
 |true=>some ((ile a0 8),())
 |false=>some (false,())
def AHZ[Lk]:=fun v=>Lk.f (ZB v)
theorem AXo v:AHZ v=ZB v:=AG _
abbrev Jq:AE:=[(.tmp 0,.dat U6),(.tmp 1,.clo 70 [])]
abbrev Jp:AE:=[(.tmp 0,.di)]
abbrev Jo:List RS:=[.one]
abbrev NN:AE:=[(.tmp 0,.dat U6),(.tmp 1,.clo 70 []),(.tmp 7,.di),(.tmp 8,.di)]
abbrev NM:At:=[(.ret,[(.tmp 4,.di)]),(.exit 0,[])]
def II[Lk]:Uq→Option (Uq⊕U9⊕(Unit)⊕Unit):=fun(a0,a1,a2,_)=>
 match(ilt a2 a1)with
 |true=>match idx a0 a2 with|none=>none|some x0=>match AHZ (x0,())with|none=>none|some (y1,_)=>match(!y1)with
  |true=>some (.inr (.inl (a2,())))
  |false=>some (.inl (a0,a1,(IntKind.wrap .i64 (a2+1)),()))
 |false=>some (.inr (.inr (.inl ())))
def Js[Lk]:Up→Option (U9):=fun(a0,_)=>
 match AW II many (a0,(AI a0),0,())with|none=>none|some r=>match r with
 |.inl (o0,_)=>some (o0,())
 |.inr r=>match r with
 |.inl _=>some ((-1:Int),())
 |.inr _=>none
def JF[Lk]:=fun v=>Lk.f (Js v)
theorem ACT v:JF v=Js v:=AG _
abbrev IZ:AE:=[(.tmp 0,.dat U6),(.tmp 1,.clo 70 [])]
abbrev IY:AE:=[(.tmp 0,.dat .bool)]
abbrev IX:List RS:=[.one]
def Ia[Lk]:Up→Option (Ue):=fun(a0,_)=>
 match JF (a0,())with|none=>none|some (y0,_)=>some ((ile 0 y0),())
def HR[Lk]:=fun v=>Lk.f (Ia v)
theorem YD v:HR v=Ia v:=AG _
abbrev Sv:AE:=[(.tmp 0,.dat U6),(.tmp 1,.dat U6)]
abbrev Su:AE:=[(.tmp 0,.own 3 U0),(.tmp 1,.own 3 U0),(.tmp 2,.own 43 U6),(.tmp 3,.di)]
abbrev Ss:List RS:=[.agg 3,.one]
abbrev ZF:AE:=[(.tmp 1,.dat U6),(.tmp 4,.box 3),(.cell 0 0,.nil U0),(.cell 0 1,.nil U0),(.cell 0 2,.nil U6),(.tmp 6,.di),(.tmp 8,.box 3),(.cell 1 0,.own 3 U0),(.cell 1 1,.own 3 U0),(.cell 1 2,.own 43 U6),(.tmp 9,.aptr 114 U0 8),(.tmp 11,.di),(.tmp 42,.di),(.tmp 43,.di),(.tmp 68,.di),(.tmp 69,.di)]
abbrev ZD:At:=[(.exit 2,[(.tmp 1,.dat U6),(.tmp 4,.box 3),(.cell 0 0,.nil U0),(.cell 0 1,.nil U0),(.cell 0 2,.nil U6),(.tmp 6,.di),(.tmp 8,.box 3),(.cell 1 0,.own 3 U0),(.cell 1 1,.own 3 U0),(.cell 1 2,.own 43 U6),(.tmp 9,.aptr 114 U0 8),(.tmp 42,.di),(.tmp 43,.di)])]
def Kw[Lk]:Vn→Option (Vn⊕V8⊕Unit):=fun(a0,a1,a2,a3,a4,a5,a6,a7,a8,a9,a10,_)=>
 match(ilt a10 a9)with
 |true=>match(ile 0 a10&&(ilt a10 8&&ilt a10 (AI a5)))with
  |true=>some (.inl (a0,a1,a2,a3,a4,(A4 a5 (AK a10) a6),a6,a7,a8,a9,(IntKind.wrap .i64 (a10+1)),()))
  |false=>none
 |false=>some (.inr (.inl (a0,a1,a2,a3,a4,a5,a7,a8,())))
abbrev ZG:AE:=[(.tmp 1,.dat U6),(.tmp 4,.box 3),(.cell 0 0,.nil U0),(.cell 0 1,.nil U0),(.cell 0 2,.nil U6),(.tmp 6,.di),(.tmp 8,.box 3),(.cell 1 0,.own 3 U0),(.cell 1 1,.own 3 U0),(.cell 1 2,.own 43 U6),(.tmp 9,.aptr 114 U0 8),(.tmp 42,.di),(.tmp 43,.di)]
abbrev ZE:At:=[(.exit 0,[(.tmp 4,.box 3),(.cell 0 0,.nil U0),(.cell 0 1,.nil U0),(.cell 0 2,.nil U6),(.tmp 8,.box 3),(.cell 1 0,.own 3 U0),(.cell 1 1,.own 3 U0),(.cell 1 2,.own 43 U6)])]
def PC[Lk]:V8→Option (V8⊕(List Int×List Int×List U3×Unit)⊕Unit):=fun(a0,a1,a2,a3,a4,a5,a6,a7,_)=>
 match(ilt a7 a6)with
 |true=>match rem? a7 a1 with|none=>none|some x0=>match(ile a1 a7)with
  |true=>match idx a0 (IntKind.wrap .i64 ((IntKind.wrap .i64 (a1-1))-x0))with|none=>none|some x1=>match By a5 0 x1 with|none=>none|some x2=>match QK (DY 0 (AK (AI x2)) a5)with|none=>none|some x3=>match idx a4 (IntKind.wrap .i64 ((IntKind.wrap .i64 (a1-1))-x0))with|none=>none|some x4=>match idx a0 (IntKind.wrap .i64 ((IntKind.wrap .i64 (a1-1))-x0))with|none=>none|some x5=>match AW Kw many (a0,a1,a2,a3,(A4 a4 (AK (IntKind.wrap .i64 ((IntKind.wrap .i64 (a1-1))-x0))) x3),a5,(IntKind.wrap .i64 ((IntKind.wrap .i64 (a1-1))-x0)),a6,a7,x5,0,())with|none=>none|some r=>match r with
   |.inl (o6,o7,o8,o9,o10,o11,o12,o13,_)=>some (.inl (o6,o7,o8,o9,o10,o11,o12,(IntKind.wrap .i64 (o13+1)),()))
   |.inr _=>none
  |false=>match idx a0 (IntKind.wrap .i64 ((IntKind.wrap .i64 (a1-1))-x0))with|none=>none|some x14=>match AW Kw many (a0,a1,a2,a3,a4,a5,(IntKind.wrap .i64 ((IntKind.wrap .i64 (a1-1))-x0)),a6,a7,x14,0,())with|none=>none|some r=>match r with
  |.inl (o15,o16,o17,o18,o19,o20,o21,o22,_)=>some (.inl (o15,o16,o17,o18,o19,o20,o21,(IntKind.wrap .i64 (o22+1)),()))
  |.inr _=>none
 |false=>some (.inr (.inl (a2,a3,a4,())))
def Sw[Lk]:Vg→Option ((List Int×List Int×List U3×Int×Unit)):=fun(a0,a1,_)=>
 match(ieq (AI a0) 0)with
 |true=>some (([]:List (Int)),([]:List (Int)),([]:List U3),1,())
 |false=>match(!(ieq (AI a1) (AI a0)))with
 |true=>some (([]:List (Int)),([]:List (Int)),([]:List U3),1,())
 |false=>match Mq (a0,())with|none=>none|some (y0,_)=>match(!y0)with
 |true=>some (([]:List (Int)),([]:List (Int)),([]:List U3),1,())
 |false=>match HR (a1,())with|none=>none|some (y1,_)=>match y1 with
 |true=>some (([]:List (Int)),([]:List (Int)),([]:List U3),1,())
 |false=>match QK a0 with|none=>none|some x2=>match QK a1 with|none=>none|some x3=>match(Fb (AI a0)&&Fb (AI a0)&&ile (AI a0) (AI a0)&&true)with
 |true=>match AW PC many (a1,(AI a0),x2,x3,(EN (AK (AI a0)) ([]:List (Int))),(EN 8 (0:Int)),(IntKind.wrap .i64 ((2:Int)*(AI a0))),(0:Int),())with|none=>none|some r=>match r with
  |.inl (o4,o5,o6,_)=>some (o4,o5,o6,0,())
  |.inr _=>none
 |false=>none
def Qd[Lk]:=fun v=>Lk.f (Sw v)
theorem AQ0 v:Qd v=Sw v:=AG _
abbrev Me:AE:=[(.tmp 0,.dat U6),(.tmp 1,.dat (.slice (.int .u32)))]
abbrev Md:AE:=[(.tmp 0,.own 3 U0)]
abbrev Mc:List RS:=[.one]
abbrev Qc:AE:=[(.tmp 1,.dat (.slice (.int .u32))),(.tmp 5,.own 3 U0),(.tmp 8,.dat U6),(.tmp 9,.di),(.tmp 10,.di)]
abbrev Qb:At:=[(.exit 0,[(.tmp 5,.own 3 U0)])]
def Kv[Lk]:Va→Option (Va⊕Up⊕Unit):=fun(a0,a1,a2,a3,a4,_)=>
 match(ilt a4 a3)with
 |true=>match idx a2 a4 with|none=>none|some x0=>match(ilt x0 0)with
  |true=>match(fits ((AI a1)+(AI ([1]:List (Int)))))with
   |true=>some (.inl (a0,(A2 a1 ([1]:List (Int))),a2,a3,(IntKind.wrap .i64 (a4+1)),()))
   |false=>none
  |false=>match AKs (a0,x0,())with|none=>none|some (y1,_)=>match Ys (y1,())with|none=>none|some (y2,_)=>match(fits ((AI a1)+(AI ([y2]:List (Int)))))with
  |true=>some (.inl (a0,(A2 a1 ([y2]:List (Int))),a2,a3,(IntKind.wrap .i64 (a4+1)),()))
  |false=>none
 |false=>some (.inr (.inl (a1,())))
def Mg[Lk]:Vg→Option (Up):=fun(a0,a1,_)=>
 match AW Kv many (a1,([]:List (Int)),a0,(AI a0),0,())with|none=>none|some r=>match r with
 |.inl (o0,_)=>some (o0,())
 |.inr _=>none
def Nz[Lk]:=fun v=>Lk.f (Mg v)
theorem AHc v:Nz v=Mg v:=AG _
abbrev ACx:AE:=[(.tmp 0,.dat U6),(.tmp 1,.dat U6)]
abbrev ACw:AE:=[(.tmp 0,.dat .bool)]
abbrev ACv:List RS:=[.one]
abbrev AGq:AE:=[(.tmp 0,.dat U6),(.tmp 1,.dat U6),(.tmp 12,.di),(.tmp 13,.di)]
abbrev AGp:At:=[(.ret,[(.tmp 4,.dat .bool)]),(.exit 0,[])]
def VA[Lk]:(List Int×List Int×Int×Int×Unit)→Option ((List Int×List Int×Int×Int×Unit)⊕Ue⊕(Unit)⊕Unit):=fun(a0,a1,a2,a3,_)=>
 match(ilt a3 a2)with
 |true=>match idx a0 a3 with|none=>none|some x0=>match idx a1 a3 with|none=>none|some x1=>match(!(ieq x0 x1))with
  |true=>some (.inr (.inl (false,())))
  |false=>some (.inl (a0,a1,a2,(IntKind.wrap .i64 (a3+1)),()))
 |false=>some (.inr (.inr (.inl ())))
def ACz[Lk]:Vg→Option (Ue):=fun(a0,a1,_)=>
 match(!(ieq (AI a0) (AI a1)))with
 |true=>some (false,())
 |false=>match AW VA many (a0,a1,(AI a0),0,())with|none=>none|some r=>match r with
 |.inl (o0,_)=>some (o0,())
 |.inr r=>match r with
 |.inl _=>some (true,())
 |.inr _=>none
def VB[Lk]:=fun v=>Lk.f (ACz v)
theorem Aah v:VB v=ACz v:=AG _
abbrev VE:AE:=[(.tmp 0,.dat Ug),(.tmp 1,.dat Ug),(.tmp 2,.clo 146 [])]
abbrev VD:AE:=[(.tmp 0,.dat .bool)]
abbrev VC:List RS:=[.one]
abbrev AC1:AE:=[(.tmp 1,.dat Ug),(.tmp 2,.clo 146 []),(.tmp 15,.dat Ug),(.tmp 16,.di),(.tmp 17,.di)]
abbrev AC0:At:=[(.ret,[(.tmp 6,.dat .bool)]),(.exit 0,[])]
def QA[Lk]:(List U3×List U3×Int×Int×Unit)→Option ((List U3×List U3×Int×Int×Unit)⊕Ue⊕(Unit)⊕Unit):=fun(a0,a1,a2,a3,_)=>
 match(ilt a3 a2)with
 |true=>match idx a1 a3 with|none=>none|some x0=>match idx a0 a3 with|none=>none|some x1=>match VB (x0,x1,())with|none=>none|some (y2,_)=>match(!y2)with
  |true=>some (.inr (.inl (false,())))
  |false=>some (.inl (a0,a1,a2,(IntKind.wrap .i64 (a3+1)),()))
 |false=>some (.inr (.inr (.inl ())))
def VG[Lk]:(List U3×List U3×Unit)→Option (Ue):=fun(a0,a1,_)=>
 match(!(ieq (AI a0) (AI a1)))with
 |true=>some (false,())
 |false=>match AW QA many (a1,a0,(AI a0),0,())with|none=>none|some r=>match r with
 |.inl (o0,_)=>some (o0,())
 |.inr r=>match r with
 |.inl _=>some (true,())
 |.inr _=>none
def Yp[Lk]:=fun v=>Lk.f (VG v)
theorem AUw v:Yp v=VG v:=AG _
abbrev Y6:AE:=[(.tmp 0,.dat V6),(.tmp 1,.dat V6)]
abbrev Y5:AE:=[(.tmp 0,.dat .bool)]
abbrev Y4:List RS:=[.one]
def Y7[Lk]:(Vf×Vf×Unit)→Option (Ue):=fun(a0,a1,_)=>
 match VB (a0.1,a1.1,())with|none=>none|some (y0,_)=>match y0 with
 |true=>match VB (a0.2.1,a1.2.1,())with|none=>none|some (y1,_)=>match y1 with
  |true=>match Yp (a0.2.2.1,a1.2.2.1,())with|none=>none|some (y2,_)=>some (y2,())
  |false=>some (false,())
 |false=>some (false,())
def AHU[Lk]:=fun v=>Lk.f (Y7 v)
theorem AXk v:AHU v=Y7 v:=AG _
abbrev Sq:AE:=[(.tmp 0,.dat V6)]
abbrev Sp:AE:=[(.tmp 0,.dat .bool)]
abbrev So:List RS:=[.one]
def Sr[Lk]:(Vf×Unit)→Option (Ue):=fun(a0,_)=>
 match Qd (a0.1,a0.2.1,())with|none=>none|some (y0,y1,y2,y3,_)=>match(ieq y3 0)with
 |true=>match AHU ((y0,(y1,(y2,()))),(a0.1,(a0.2.1,(a0.2.2.1,()))),())with|none=>none|some (y4,_)=>some (y4,())
 |false=>some (false,())
def YU[Lk]:=fun v=>Lk.f (Sr v)
theorem AQt v:YU v=Sr v:=AG _
abbrev Jv:AE:=[(.tmp 0,.dat U6),(.tmp 1,.clo 100 [])]
abbrev Ju:AE:=[(.tmp 0,.di)]
abbrev Jt:List RS:=[.one]
abbrev NP:AE:=[(.tmp 0,.dat U6),(.tmp 1,.clo 100 []),(.tmp 7,.di),(.tmp 8,.di)]
abbrev NO:At:=[(.ret,[(.tmp 4,.di)]),(.exit 0,[])]
def IJ[Lk]:Uq→Option (Uq⊕U9⊕(Unit)⊕Unit):=fun(a0,a1,a2,_)=>
 match(ilt a2 a1)with
 |true=>match idx a0 a2 with|none=>none|some x0=>match(ilt x0 (-1073741824:Int))with
  |true=>some (.inr (.inl (a2,())))
  |false=>match(ilt 1073741824 x0)with
  |true=>some (.inr (.inl (a2,())))
  |false=>some (.inl (a0,a1,(IntKind.wrap .i64 (a2+1)),()))
 |false=>some (.inr (.inr (.inl ())))
def Jx[Lk]:Up→Option (U9):=fun(a0,_)=>
 match AW IJ many (a0,(AI a0),0,())with|none=>none|some r=>match r with
 |.inl (o0,_)=>some (o0,())
 |.inr r=>match r with
 |.inl _=>some ((-1:Int),())
 |.inr _=>none
def JG[Lk]:=fun v=>Lk.f (Jx v)
theorem ACW v:JG v=Jx v:=AG _
abbrev Ie:AE:=[(.tmp 0,.dat U6),(.tmp 1,.clo 100 [])]
abbrev Ic:AE:=[(.tmp 0,.dat .bool)]
abbrev Ib:List RS:=[.one]
def Ig[Lk]:Up→Option (Ue):=fun(a0,_)=>
 match JG (a0,())with|none=>none|some (y0,_)=>some ((ile 0 y0),())
def HS[Lk]:=fun v=>Lk.f (Ig v)
theorem YE v:HS v=Ig v:=AG _
abbrev AAF:AE:=[(.tmp 0,.dat V6),(.tmp 1,.dat U6)]
abbrev AAE:AE:=[(.tmp 0,.dat Ug),(.tmp 1,.di)]
abbrev AAD:List RS:=[.one,.one]
abbrev AFw:AE:=[(.tmp 6,.di),(.tmp 7,.own 3 U0),(.tmp 10,.rows 43 3 U0),(.tmp 11,.di),(.tmp 56,.dat Ug),(.tmp 57,.di),(.tmp 58,.di),(.tmp 63,.dat U6),(.tmp 64,.di),(.tmp 65,.di)]
abbrev AFt:At:=[(.exit 4,[(.tmp 6,.di),(.tmp 7,.own 3 U0),(.tmp 10,.rows 43 3 U0),(.tmp 56,.dat Ug),(.tmp 57,.di),(.tmp 58,.di)])]
def TG[Lk]:(Int×List Int×List U3×Int×List U3×Int×Int×List Int×Int×Int×Unit)→Option ((Int×List Int×List U3×Int×List U3×Int×Int×List Int×Int×Int×Unit)⊕Vk⊕Unit):=fun(a0,a1,a2,a3,a4,a5,a6,a7,a8,a9,_)=>
 match(ilt a9 a8)with
 |true=>match idx a7 a9 with|none=>none|some x0=>match idx a1 x0 with|none=>none|some x1=>match idx a1 a3 with|none=>none|some x2=>match(ile x0 a3)with
  |true=>match idx a1 a0 with|none=>none|some x3=>match idx a2 a3 with|none=>none|some x4=>match(fits ((AI (AU a2 (AK a3) ([]:List (Int))))+(AI ([(IntKind.wrap .i64 ((IntKind.wrap .i64 ((AU a1 (AK x0) 0)-(AU a1 (AK a3) 0)))+(AU a1 (AK a0) 0)))]:List (Int)))))with
   |true=>match idx (A4 a2 (AK a3) (A2 (AU a2 (AK a3) ([]:List (Int))) ([(IntKind.wrap .i64 ((IntKind.wrap .i64 ((AU a1 (AK x0) 0)-(AU a1 (AK a3) 0)))+(AU a1 (AK a0) 0)))]:List (Int)))) a3 with|none=>none|some x5=>match(ieq (((AK a3):Nat):Int) (((AK a3):Nat):Int)&&ieq (((AK a3):Nat):Int) (((AK a3):Nat):Int))with
    |true=>some (.inl (a0,a1,(A4 a2 (AK a3) (A2 (AU a2 (AK a3) ([]:List (Int))) ([(IntKind.wrap .i64 ((IntKind.wrap .i64 ((AU a1 (AK x0) 0)-(AU a1 (AK a3) 0)))+(AU a1 (AK a0) 0)))]:List (Int)))),a3,a4,a5,a6,a7,a8,(IntKind.wrap .i64 (a9+1)),()))
    |false=>none
   |false=>none
  |false=>match idx a2 a3 with|none=>none|some x6=>match(fits ((AI (AU a2 (AK a3) ([]:List (Int))))+(AI ([(IntKind.wrap .i64 ((AU a1 (AK x0) 0)-(AU a1 (AK a3) 0)))]:List (Int)))))with
  |true=>match idx (A4 a2 (AK a3) (A2 (AU a2 (AK a3) ([]:List (Int))) ([(IntKind.wrap .i64 ((AU a1 (AK x0) 0)-(AU a1 (AK a3) 0)))]:List (Int)))) a3 with|none=>none|some x7=>match(ieq (((AK a3):Nat):Int) (((AK a3):Nat):Int)&&ieq (((AK a3):Nat):Int) (((AK a3):Nat):Int))with
   |true=>some (.inl (a0,a1,(A4 a2 (AK a3) (A2 (AU a2 (AK a3) ([]:List (Int))) ([(IntKind.wrap .i64 ((AU a1 (AK x0) 0)-(AU a1 (AK a3) 0)))]:List (Int)))),a3,a4,a5,a6,a7,a8,(IntKind.wrap .i64 (a9+1)),()))
   |false=>none
  |false=>none
 |false=>some (.inr (.inl (a0,a1,a2,a4,a5,a6,())))
abbrev AFx:AE:=[(.tmp 6,.di),(.tmp 7,.own 3 U0),(.tmp 10,.rows 43 3 U0),(.tmp 56,.dat Ug),(.tmp 57,.di),(.tmp 58,.di)]
abbrev AFu:At:=[(.exit 2,[(.tmp 10,.rows 43 3 U0)])]
def TH[Lk]:Vk→Option (Vk⊕Uo⊕Unit):=fun(a0,a1,a2,a3,a4,a5,_)=>
 match(ilt a5 a4)with
 |true=>match idx a3 a5 with|none=>none|some x0=>match AW TG many (a0,a1,a2,a5,a3,a4,a5,x0,(AI x0),0,())with|none=>none|some r=>match r with
  |.inl (o1,o2,o3,o4,o5,o6,_)=>some (.inl (o1,o2,o3,o4,o5,(IntKind.wrap .i64 (o6+1)),()))
  |.inr _=>none
 |false=>some (.inr (.inl (a2,())))
abbrev AFy:AE:=[(.tmp 2,.box 3),(.cell 0 0,.dat U6),(.cell 0 1,.dat U6),(.cell 0 2,.dat Ug),(.tmp 6,.di),(.tmp 7,.own 3 U0),(.tmp 35,.dat U6),(.tmp 36,.di),(.tmp 37,.di)]
abbrev AFv:At:=[(.exit 0,[(.tmp 2,.box 3),(.cell 0 0,.dat U6),(.cell 0 1,.dat U6),(.cell 0 2,.dat Ug),(.tmp 6,.di),(.tmp 7,.own 3 U0)])]
def TJ[Lk]:(List Int×List Int×List U3×Int×List Int×List Int×Int×Int×Unit)→Option ((List Int×List Int×List U3×Int×List Int×List Int×Int×Int×Unit)⊕(List Int×List Int×List U3×Int×List Int×Unit)⊕Unit):=fun(a0,a1,a2,a3,a4,a5,a6,a7,_)=>
 match(ilt a7 a6)with
 |true=>match idx a5 a7 with|none=>none|some x0=>match idx a4 a7 with|none=>none|some x1=>match idx a4 (IntKind.wrap .i64 (a7+1))with|none=>none|some x2=>some (.inl (a0,a1,a2,a3,(A4 a4 (AK (IntKind.wrap .i64 (a7+1))) (IntKind.wrap .i64 ((AU a4 (AK a7) 0)+x0))),a5,a6,(IntKind.wrap .i64 (a7+1)),()))
 |false=>some (.inr (.inl (a0,a1,a2,a3,a4,())))
def AAG[Lk]:(Vf×List Int×Unit)→Option (Vc):=fun(a0,a1,_)=>
 match(!(ieq (AI a1) (AI a0.1)))with
 |true=>some (([]:List U3),1,())
 |false=>match YU ((a0.1,(a0.2.1,(a0.2.2.1,()))),())with|none=>none|some (y0,_)=>match(!y0)with
 |true=>some (([]:List U3),1,())
 |false=>match HS (a1,())with|none=>none|some (y1,_)=>match y1 with
 |true=>some (([]:List U3),1,())
 |false=>match(Fb (IntKind.wrap .i64 ((AI a0.1)+1))&&Fb (IntKind.wrap .i64 ((AI a0.1)+1))&&ile (IntKind.wrap .i64 ((AI a0.1)+1)) (IntKind.wrap .i64 ((AI a0.1)+1))&&true)with
 |true=>match AW TJ many (a0.1,a0.2.1,a0.2.2.1,(AI a0.1),(EN (AK (IntKind.wrap .i64 ((AI a0.1)+(1:Int)))) (0:Int)),a1,(AI a1),(0:Int),())with|none=>none|some r=>match r with
  |.inl (o2,o3,o4,o5,o6,_)=>match(Fb o5&&Fb o5&&ile o5 o5&&true)with
   |true=>match AW TH many (o5,o6,(EN (AK o5) ([]:List Int)),o4,(AI o4),(0:Int),())with|none=>none|some r=>match r with
    |.inl (o7,_)=>some (o7,0,())
    |.inr _=>none
   |false=>none
  |.inr _=>none
 |false=>none
def AIp[Lk]:=fun v=>Lk.f (AAG v)
theorem AYc v:AIp v=AAG v:=AG _
abbrev AA2:AE:=[(.tmp 0,.dat V6),(.tmp 1,.dat (.slice .bool))]
abbrev AA1:AE:=[(.tmp 0,.dat Ug),(.tmp 1,.di)]
abbrev AA0:List RS:=[.one,.one]
abbrev AGF:AE:=[(.tmp 2,.box 3),(.cell 0 0,.dat U6),(.cell 0 1,.dat U6),(.cell 0 2,.dat Ug),(.tmp 6,.own 3 U0),(.tmp 12,.dat (.slice .bool)),(.tmp 13,.di),(.tmp 14,.di)]
abbrev AGE:At:=[(.exit 0,[(.tmp 2,.box 3),(.cell 0 0,.dat U6),(.cell 0 1,.dat U6),(.cell 0 2,.dat Ug),(.tmp 6,.own 3 U0)])]
def TW[Lk]:(List Int×List Int×List U3×List Int×List Bool×Int×Int×Unit)→Option ((List Int×List Int×List U3×List Int×List Bool×Int×Int×Unit)⊕(List Int×List Int×List U3×List Int×Unit)⊕Unit):=fun(a0,a1,a2,a3,a4,a5,a6,_)=>
 match(ilt a6 a5)with
 |true=>match idx a4 a6 with|none=>none|some x0=>match x0 with
  |true=>match idx a3 a6 with|none=>none|some x1=>some (.inl (a0,a1,a2,(A4 a3 (AK a6) 1),a4,a5,(IntKind.wrap .i64 (a6+1)),()))
  |false=>some (.inl (a0,a1,a2,a3,a4,a5,(IntKind.wrap .i64 (a6+1)),()))
 |false=>some (.inr (.inl (a0,a1,a2,a3,())))
def AA4[Lk]:(Vf×List Bool×Unit)→Option (Vc):=fun(a0,a1,_)=>
 match(Fb (AI a1)&&Fb (AI a1)&&ile (AI a1) (AI a1)&&true)with
 |true=>match AW TW many (a0.1,a0.2.1,a0.2.2.1,(EN (AK (AI a1)) (0:Int)),a1,(AI a1),(0:Int),())with|none=>none|some r=>match r with
  |.inl (o0,o1,o2,o3,_)=>match AIp ((o0,(o1,(o2,()))),o3,())with|none=>none|some (y4,y5,_)=>some (y4,y5,())
  |.inr _=>none
 |false=>none
def AI5[Lk]:=fun v=>Lk.f (AA4 v)
theorem AY3 v:AI5 v=AA4 v:=AG _
abbrev AR9:AE:=[(.tmp 0,.dat Uf),(.tmp 1,.di),(.tmp 2,.di)]
abbrev AR8:At:=[(.ret,[(.tmp 0,.nilp),(.tmp 1,.di)]),(.ret,[(.tmp 0,.box 4),(.cell 0 0,.di),(.cell 0 1,.dat U6),(.cell 0 2,.map U0 U0),(.cell 0 3,.dat (.mapi .i64 Um)),(.tmp 1,.di)])]
abbrev AR7:List RS:=[.one,.one]
abbrev AWI:AE:=[(.tmp 2,.di),(.tmp 10,.box 4),(.cell 0 0,.di),(.cell 0 1,.dat U6),(.cell 0 2,.map U0 U0),(.cell 0 3,.mrows .i64 34 U2),(.tmp 14,.box 4),(.cell 3 0,.di),(.cell 3 1,.di),(.cell 3 2,.di),(.cell 3 3,.dat .bool),(.tmp 65,.dat Uz),(.tmp 66,.di),(.tmp 67,.di),(.tmp 74,.ptr' 3 2),(.tmp 75,.di),(.tmp 76,.di),(.tmp 77,.dat .bool),(.tmp 83,.dat (.arr 2 U0)),(.tmp 84,.di)]
abbrev AWF:At:=[(.exit 5,[(.tmp 2,.di),(.tmp 10,.box 4),(.cell 0 0,.di),(.cell 0 1,.dat U6),(.cell 0 2,.map U0 U0),(.cell 0 3,.mrows .i64 34 U2),(.tmp 65,.dat Uz),(.tmp 66,.di),(.tmp 67,.di),(.tmp 75,.di),(.tmp 76,.di),(.tmp 77,.dat .bool)])]
def GR[Lk]:Vd→Option (Vd⊕(Int×Int×List Int×List Ub×List Ua×List U4×Int×Int×Int×Int×Bool×Unit)⊕Unit):=fun(a0,a1,a2,a3,a4,a5,a6,a7,a8,a9,a10,a11,a12,a13,a14,a15,a16,_)=>
 match(ilt a16 2)with
 |true=>match idx ([(AU a15 0 0),(AU a15 1 0)]:List (Int)) a16 with|none=>none|some x0=>match(fits ((AI (AU (List.map Prod.snd a4) (C3 (List.map Prod.fst a4) x0) ([]:List U1)))+(AI ([(a5,(a6,()))]:List U1))))with
  |true=>match(ieq (((C3 (List.map Prod.fst a4) x0):Nat):Int) (((C3 (List.map Prod.fst a4) x0):Nat):Int)&&ieq ((C3 (List.map Prod.fst a4) x0:Nat):Int) (((C3 (List.map Prod.fst a4) x0):Nat):Int))with
   |true=>some (.inl (a0,a1,a2,a3,(List.zip (Lr (List.map Prod.fst a4) (C3 (List.map Prod.fst a4) x0) x0) (Lr (List.map Prod.snd a4) (C3 (List.map Prod.fst a4) x0) (A2 (AU (List.map Prod.snd a4) (C3 (List.map Prod.fst a4) x0) ([]:List U1)) ([(a5,(a6,()))]:List U1)))),a5,a6,a7,a8,a9,a10,a11,a12,a13,a14,a15,(IntKind.wrap .i64 (a16+1)),()))
   |false=>none
  |false=>none
 |false=>some (.inr (.inl (a0,a1,a2,a3,(List.zip (List.map Prod.fst a4) (List.map Prod.snd a4)),a9,a10,a11,a12,a13,a14,())))
abbrev AWJ:AE:=[(.tmp 2,.di),(.tmp 10,.box 4),(.cell 0 0,.di),(.cell 0 1,.dat U6),(.cell 0 2,.map U0 U0),(.cell 0 3,.mrows .i64 34 U2),(.tmp 65,.dat Uz),(.tmp 66,.di),(.tmp 67,.di)]
abbrev AWG:At:=[(.exit 3,[(.tmp 10,.box 4),(.cell 0 0,.di),(.cell 0 1,.dat U6),(.cell 0 2,.map U0 U0),(.cell 0 3,.mrows .i64 34 U2)])]
def Iy[Lk]:(Int×Int×List Int×List Ub×List Ua×List U4×Int×Int×Unit)→Option ((Int×Int×List Int×List Ub×List Ua×List U4×Int×Int×Unit)⊕(Int×List Int×List Ub×List Ua×Unit)⊕Unit):=fun(a0,a1,a2,a3,a4,a5,a6,a7,_)=>
 match(ilt a7 a6)with
 |true=>match idx a5 a7 with|none=>none|some x0=>match x0.2.2.2.1 with
  |true=>some (.inl (a0,a1,a2,a3,(List.zip (List.map Prod.fst a4) (List.map Prod.snd a4)),a5,a6,(IntKind.wrap .i64 (a7+1)),()))
  |false=>match(!(ieq x0.2.2.1 a0))with
  |true=>some (.inl (a0,a1,a2,a3,(List.zip (List.map Prod.fst a4) (List.map Prod.snd a4)),a5,a6,(IntKind.wrap .i64 (a7+1)),()))
  |false=>match AW GR many (a0,a1,a2,a3,(List.zip (List.map Prod.fst a4) (List.map Prod.snd a4)),x0.1,x0.2.1,x0.2.2.1,x0.2.2.2.1,a5,a6,a7,x0.2.2.1,a0,(!(ieq x0.2.2.1 a0)),([x0.1,x0.2.1]:List (Int)),0,())with|none=>none|some r=>match r with
  |.inl (o1,o2,o3,o4,o5,o6,o7,o8,o9,o10,o11,_)=>some (.inl (o1,o2,o3,o4,(List.zip (List.map Prod.fst o5) (List.map Prod.snd o5)),o6,o7,(IntKind.wrap .i64 (o8+1)),()))
  |.inr _=>none
 |false=>some (.inr (.inl (a1,a2,a3,(List.zip (List.map Prod.fst a4) (List.map Prod.snd a4)),())))
abbrev AWK:AE:=[(.tmp 2,.di),(.tmp 3,.box 2),(.cell 0 0,.di),(.cell 0 1,.dat Uz),(.tmp 10,.box 4),(.cell 1 0,.di),(.cell 1 1,.dat U6),(.cell 1 2,.map U0 U0),(.cell 1 3,.mrows .i64 34 U2),(.tmp 52,.dat U6),(.tmp 53,.di),(.tmp 54,.di)]
abbrev AWH:At:=[(.exit 1,[(.tmp 2,.di),(.tmp 3,.box 2),(.cell 0 0,.di),(.cell 0 1,.dat Uz),(.tmp 10,.box 4),(.cell 1 0,.di),(.cell 1 1,.dat U6),(.cell 1 2,.map U0 U0),(.cell 1 3,.mrows .i64 34 U2)])]
def Iz[Lk]:(Int×Int×List U4×Int×List Int×List Ub×List Ua×List Int×Int×Int×Unit)→Option ((Int×Int×List U4×Int×List Int×List Ub×List Ua×List Int×Int×Int×Unit)⊕(Int×Int×List U4×Int×List Int×List Ub×List Ua×Unit)⊕Unit):=fun(a0,a1,a2,a3,a4,a5,a6,a7,a8,a9,_)=>
 match(ilt a9 a8)with
 |true=>match idx a7 a9 with|none=>none|some x0=>some (.inl (a0,a1,a2,a3,a4,(Ae a5 x0 1),(List.zip (List.map Prod.fst a6) (List.map Prod.snd a6)),a7,a8,(IntKind.wrap .i64 (a9+1)),()))
 |false=>some (.inr (.inl (a0,a1,a2,a3,a4,a5,(List.zip (List.map Prod.fst a6) (List.map Prod.snd a6)),())))
def AId[Lk]:V3→Option (U9⊕V1⊕Unit):=fun(a0,a1,a2,_)=>
 match OG ((a0.1,(a0.2.1,())),a2,())with|none=>none|some (y0,y1,_)=>match(!(ieq y1 0))with
 |true=>some (.inl (y1,()))
 |false=>match(ilt a1 0)with
 |true=>some (.inl (10,()))
 |false=>match(ile a0.1 a1)with
 |true=>some (.inl (10,()))
 |false=>match tof ((y0.1,(y0.2.1,())),a1,())with|none=>none|some (y2,_)=>match idx y0.2.1 y2 with|none=>none|some x3=>match AW Iz many (a2,a0.1,a0.2.1,a0.1,x3,([]:List Ub),(List.zip ([]:List (Int)) ([]:List (List U1))),x3,(AI x3),0,())with|none=>none|some r=>match r with
 |.inl (o4,o5,o6,o7,o8,o9,o10,_)=>match AW Iy many (o4,o7,o8,o9,(List.zip (List.map Prod.fst o10) (List.map Prod.snd o10)),o6,(AI o6),0,())with|none=>none|some r=>match r with
  |.inl (o11,o12,o13,o14,_)=>some (.inr (.inl (o11,o12,o13,(List.zip (List.map Prod.fst o14) (List.map Prod.snd o14)),0,())))
  |.inr _=>none
 |.inr _=>none
def seen[Lk](v:V3):Option (U9⊕V1⊕Unit):=Lk.f (AId v)
theorem AWL v:seen v=AId v:=AG _
abbrev TE:AE:=[(.tmp 0,.box 4),(.cell 0 0,.di),(.cell 0 1,.dat U6),(.cell 0 2,.map U0 U0),(.cell 0 3,.dat (.mapi .i64 Um)),(.tmp 1,.dat U2)]
abbrev TD:AE:=[(.obj 0,.box 4),(.cell 0 0,.di),(.cell 0 1,.dat U6),(.cell 0 2,.map U0 U0),(.cell 0 3,.dat (.mapi .i64 Um)),(.obj 1,.map' 1),(.tmp 0,.dat .bool)]
abbrev TC:List RS:=[.one]
def N6[Lk]:(Int×List Int×List Ub×List Ua×U1×Unit)→Option ((Int×List Int×List Ub×List Ua×Bool×Unit)):=fun(a0,a1,a2,a3,a4,_)=>
 some (a0,a1,a2,a3,(ieq (IntKind.wrap .i64 (((AP a2 a4.1).getD 0)+((AP a2 a4.2.1).getD 0))) 1),())
def K8[Lk]:=fun v=>Lk.f (N6 v)
theorem Z3 v:K8 v=N6 v:=AG _
abbrev PR:AE:=[(.tmp 0,.box 4),(.cell 0 0,.di),(.cell 0 1,.dat U6),(.cell 0 2,.map U0 U0),(.cell 0 3,.dat (.mapi .i64 Um)),(.tmp 1,.di)]
abbrev PQ:AE:=[(.obj 0,.box 4),(.cell 0 0,.di),(.cell 0 1,.dat U6),(.cell 0 2,.map U0 U0),(.cell 0 3,.dat (.mapi .i64 Um)),(.obj 1,.map' 1),(.tmp 0,.dat .bool)]
abbrev PO:List RS:=[.one]
def K7[Lk]:V1→Option ((Int×List Int×List Ub×List Ua×Bool×Unit)):=fun(a0,a1,a2,a3,a4,_)=>
 match(ilt a4 a0)with
 |true=>some (a0,a1,a2,a3,(ilt 0 (AI ((AP a3 a4).getD ([]:List U1)))),())
 |false=>some (a0,a1,a2,a3,false,())
def Hw[Lk]:=fun v=>Lk.f (K7 v)
theorem Wj v:Hw v=K7 v:=AG _
abbrev Jm:AE:=[(.tmp 0,.own 3 U0),(.cap 1 0,.box 1),(.cell 1 0,.box 4),(.cell 2 0,.di),(.cell 2 1,.dat U6),(.cell 2 2,.map U0 U0),(.cell 2 3,.dat (.mapi .i64 Um)),(.tmp 1,.clo 65 [(1,0)])]
abbrev Jl:AE:=[(.obj 0,.own 3 U0),(.obj 1,.box 1),(.cell 1 0,.box 4),(.cell 2 0,.di),(.cell 2 1,.dat U6),(.cell 2 2,.map U0 U0),(.cell 2 3,.dat (.mapi .i64 Um)),(.obj 2,.ptr' 2 0),(.obj 3,.map' 3),(.tmp 0,.di)]
abbrev Jk:List RS:=[.one]
abbrev NJ:AE:=[(.obj 0,.own 3 U0),(.obj 1,.box 1),(.cell 1 0,.box 4),(.cell 2 0,.di),(.cell 2 1,.dat U6),(.cell 2 2,.map U0 U0),(.cell 2 3,.dat (.mapi .i64 Um)),(.obj 2,.ptr' 2 0),(.obj 3,.map' 3),(.tmp 0,.own' 0),(.tmp 1,.clo 65 [(1,0)]),(.tmp 7,.di),(.tmp 8,.di)]
abbrev NI:At:=[(.ret,[(.obj 0,.own 3 U0),(.obj 1,.box 1),(.cell 1 0,.box 4),(.cell 2 0,.di),(.cell 2 1,.dat U6),(.cell 2 2,.map U0 U0),(.cell 2 3,.dat (.mapi .i64 Um)),(.obj 2,.ptr' 2 0),(.obj 3,.map' 3),(.tmp 4,.di)]),(.exit 0,[(.obj 0,.own 3 U0),(.obj 1,.box 1),(.cell 1 0,.box 4),(.cell 2 0,.di),(.cell 2 1,.dat U6),(.cell 2 2,.map U0 U0),(.cell 2 3,.dat (.mapi .i64 Um)),(.obj 2,.ptr' 2 0),(.obj 3,.map' 3)])]
def B1[Lk]:Uy→Option (Uy⊕V4⊕Vl⊕Unit):=fun(a0,a1,a2,a3,a4,a5,a6,_)=>
 match(ilt a6 a5)with
 |true=>match idx a0 a6 with|none=>none|some x0=>match Hw (a1,a2,a3,a4,(AU a0 (AK a6) 0),())with|none=>none|some (y1,y2,y3,y4,y5,_)=>match(!y5)with
  |true=>some (.inr (.inl (a0,y1,y2,y3,y4,a6,())))
  |false=>some (.inl (a0,y1,y2,y3,y4,a5,(IntKind.wrap .i64 (a6+1)),()))
 |false=>some (.inr (.inr (.inl (a0,a1,a2,a3,a4,()))))
def GX[Lk]:Vl→Option (V4):=fun(a0,a1,a2,a3,a4,_)=>
 match AW B1 many (a0,a1,a2,a3,a4,(AI a0),0,())with|none=>none|some r=>match r with
 |.inl (o0,o1,o2,o3,o4,o5,_)=>some (o0,o1,o2,o3,o4,o5,())
 |.inr r=>match r with
 |.inl (o6,o7,o8,o9,o10,_)=>some (o6,o7,o8,o9,o10,(-1:Int),())
 |.inr _=>none
def JB[Lk]:=fun v=>Lk.f (GX v)
theorem NK v:JB v=GX v:=AG _
abbrev J3:AE:=[(.tmp 0,.own 3 U0),(.cap 1 0,.box 1),(.cell 1 0,.box 4),(.cell 2 0,.di),(.cell 2 1,.dat U6),(.cell 2 2,.map U0 U0),(.cell 2 3,.dat (.mapi .i64 Um)),(.tmp 1,.clo 65 [(1,0)])]
abbrev J2:AE:=[(.obj 0,.own 3 U0),(.obj 1,.box 1),(.cell 1 0,.box 4),(.cell 2 0,.di),(.cell 2 1,.dat U6),(.cell 2 2,.map U0 U0),(.cell 2 3,.dat (.mapi .i64 Um)),(.obj 2,.ptr' 2 0),(.obj 3,.map' 3),(.tmp 0,.win' 0)]
abbrev J1:List RS:=[.one]
abbrev NW:AE:=[(.obj 0,.own 3 U0),(.obj 1,.box 1),(.cell 1 0,.box 4),(.cell 2 0,.di),(.cell 2 1,.dat U6),(.cell 2 2,.map U0 U0),(.cell 2 3,.dat (.mapi .i64 Um)),(.obj 2,.ptr' 2 0),(.obj 3,.map' 3),(.tmp 0,.own' 0),(.tmp 1,.clo 65 [(1,0)]),(.tmp 5,.di),(.tmp 6,.di)]
abbrev NV:At:=[(.exit 0,[(.obj 0,.own 3 U0),(.obj 1,.box 1),(.cell 1 0,.box 4),(.cell 2 0,.di),(.cell 2 1,.dat U6),(.cell 2 2,.map U0 U0),(.cell 2 3,.dat (.mapi .i64 Um)),(.obj 2,.ptr' 2 0),(.obj 3,.map' 3),(.tmp 0,.own' 0),(.tmp 5,.di)])]
def Cu[Lk]:Uy→Option (Uy⊕V4⊕Unit):=fun(a0,a1,a2,a3,a4,a5,a6,_)=>
 match(ilt a6 (AI a0))with
 |true=>match idx a0 a6 with|none=>none|some x0=>match Hw (a1,a2,a3,a4,(AU a0 (AK a6) 0),())with|none=>none|some (y1,y2,y3,y4,y5,_)=>match(!(!y5))with
  |true=>match idx a0 a5 with|none=>none|some x6=>some (.inl ((A4 a0 (AK a5) (AU a0 (AK a6) 0)),y1,y2,y3,y4,(IntKind.wrap .i64 (a5+1)),(IntKind.wrap .i64 (a6+1)),()))
  |false=>some (.inl (a0,y1,y2,y3,y4,a5,(IntKind.wrap .i64 (a6+1)),()))
 |false=>some (.inr (.inl (a0,a1,a2,a3,a4,a5,())))
def Ga[Lk]:Vl→Option (V4):=fun(a0,a1,a2,a3,a4,_)=>
 match JB (a0,a1,a2,a3,a4,())with|none=>none|some (y0,y1,y2,y3,y4,y5,_)=>match(ieq y5 (-1:Int))with
 |true=>some (y0,y1,y2,y3,y4,(AI y0),())
 |false=>match AW Cu many (y0,y1,y2,y3,y4,y5,(IntKind.wrap .i64 (y5+1)),())with|none=>none|some r=>match r with
 |.inl (o6,o7,o8,o9,o10,o11,_)=>match By o6 o11 (AI o6)with|none=>none|some x12=>match By (Bo (AK o11) (AK (AI x12)) 0 o6) 0 o11 with|none=>none|some x13=>some ((Bo (AK o11) (AK (AI x12)) 0 o6),o7,o8,o9,o10,(((AK (AI x13)):Nat):Int),())
 |.inr _=>none
def JO[Lk]:=fun v=>Lk.f (Ga v)
theorem NX v:JO v=Ga v:=AG _
abbrev PN:AE:=[(.tmp 0,.box 4),(.cell 0 0,.di),(.cell 0 1,.dat U6),(.cell 0 2,.map U0 U0),(.cell 0 3,.dat (.mapi .i64 Um))]
abbrev PM:AE:=[(.obj 0,.box 4),(.cell 0 0,.di),(.cell 0 1,.dat U6),(.cell 0 2,.map U0 U0),(.cell 0 3,.dat (.mapi .i64 Um)),(.obj 1,.map' 1),(.tmp 0,.own 3 U0)]
abbrev PL:List RS:=[.one]
def K6[Lk]:(Int×List Int×List Ub×List Ua×Unit)→Option ((Int×List Int×List Ub×List Ua×List Int×Unit)):=fun(a0,a1,a2,a3,_)=>
 match QK a1 with|none=>none|some x0=>match JO (x0,a0,a1,a2,a3,())with|none=>none|some (y1,y2,y3,y4,y5,y6,_)=>some (y2,y3,y4,y5,(Bq (AK y6) y1),())
def Hv[Lk]:=fun v=>Lk.f (K6 v)
theorem Wi v:Hv v=K6 v:=AG _
abbrev ARv:AE:=[(.tmp 0,.box 4),(.cell 0 0,.di),(.cell 0 1,.dat U6),(.cell 0 2,.map U0 U0),(.cell 0 3,.dat (.mapi .i64 Um)),(.tmp 1,.dat U6)]
abbrev ARu:AE:=[(.obj 0,.box 4),(.cell 0 0,.di),(.cell 0 1,.dat U6),(.cell 0 2,.map U0 U0),(.cell 0 3,.dat (.mapi .i64 Um)),(.obj 1,.map' 1),(.tmp 0,.own 34 U2)]
abbrev ARt:List RS:=[.one]
abbrev AWA:AE:=[(.obj 0,.box 4),(.cell 0 0,.di),(.cell 0 1,.dat U6),(.cell 0 2,.map U0 U0),(.cell 0 3,.dat (.mapi .i64 Um)),(.obj 1,.map' 1),(.tmp 0,.ptr' 0 0),(.tmp 5,.map U2 U0),(.tmp 6,.own 34 U2),(.tmp 12,.dat U6),(.tmp 13,.di),(.tmp 14,.di),(.tmp 23,.dat Um),(.tmp 24,.di),(.tmp 25,.di)]
abbrev AV8:At:=[(.exit 2,[(.obj 0,.box 4),(.cell 0 0,.di),(.cell 0 1,.dat U6),(.cell 0 2,.map U0 U0),(.cell 0 3,.dat (.mapi .i64 Um)),(.obj 1,.map' 1),(.tmp 0,.ptr' 0 0),(.tmp 5,.map U2 U0),(.tmp 6,.own 34 U2),(.tmp 12,.dat U6),(.tmp 13,.di),(.tmp 14,.di)])]
def Iw[Lk]:Vh→Option (Vh⊕V2⊕Unit):=fun(a0,a1,a2,a3,a4,a5,a6,a7,a8,a9,a10,a11,_)=>
 match(ilt a11 a10)with
 |true=>match idx a9 a11 with|none=>none|some x0=>match(ile 0 (Q0 a4 (x0.1,(x0.2.1,())))&&ilt (Q0 a4 (x0.1,(x0.2.1,()))) (AI (Ae a4 (x0.1,(x0.2.1,())) ((AP a4 (x0.1,(x0.2.1,()))).getD 0))))with
  |true=>match(ieq ((AP (AOi (Ae a4 (x0.1,(x0.2.1,())) ((AP a4 (x0.1,(x0.2.1,()))).getD 0)) (Q0 a4 (x0.1,(x0.2.1,()))) (IntKind.wrap .i64 (((AP a4 (x0.1,(x0.2.1,()))).getD 0)+1))) (x0.1,(x0.2.1,()))).getD 0) 1)with
   |true=>match(fits ((AI a5)+(AI ([(x0.1,(x0.2.1,()))]:List U1))))with
    |true=>some (.inl (a0,a1,a2,a3,(AOi (Ae a4 (x0.1,(x0.2.1,())) ((AP a4 (x0.1,(x0.2.1,()))).getD 0)) (Q0 a4 (x0.1,(x0.2.1,()))) (IntKind.wrap .i64 (((AP a4 (x0.1,(x0.2.1,()))).getD 0)+1))),(A2 a5 ([(x0.1,(x0.2.1,()))]:List U1)),a6,a7,a8,a9,a10,(IntKind.wrap .i64 (a11+1)),()))
    |false=>none
   |false=>some (.inl (a0,a1,a2,a3,(AOi (Ae a4 (x0.1,(x0.2.1,())) ((AP a4 (x0.1,(x0.2.1,()))).getD 0)) (Q0 a4 (x0.1,(x0.2.1,()))) (IntKind.wrap .i64 (((AP a4 (x0.1,(x0.2.1,()))).getD 0)+1))),a5,a6,a7,a8,a9,a10,(IntKind.wrap .i64 (a11+1)),()))
  |false=>none
 |false=>some (.inr (.inl (a0,a1,a2,a3,a4,a5,a6,a7,a8,())))
abbrev AWB:AE:=[(.obj 0,.box 4),(.cell 0 0,.di),(.cell 0 1,.dat U6),(.cell 0 2,.map U0 U0),(.cell 0 3,.dat (.mapi .i64 Um)),(.obj 1,.map' 1),(.tmp 0,.ptr' 0 0),(.tmp 5,.map U2 U0),(.tmp 6,.own 34 U2),(.tmp 12,.dat U6),(.tmp 13,.di),(.tmp 14,.di)]
abbrev AV9:At:=[(.exit 0,[(.obj 0,.box 4),(.cell 0 0,.di),(.cell 0 1,.dat U6),(.cell 0 2,.map U0 U0),(.cell 0 3,.dat (.mapi .i64 Um)),(.obj 1,.map' 1),(.tmp 6,.own 34 U2)])]
def K9[Lk]:V2→Option (V2⊕(Int×List Int×List Ub×List Ua×List U1×Unit)⊕Unit):=fun(a0,a1,a2,a3,a4,a5,a6,a7,a8,_)=>
 match(ilt a8 a7)with
 |true=>match idx a6 a8 with|none=>none|some x0=>match AW Iw many (a0,a1,a2,a3,a4,a5,a6,a7,a8,((AP a3 x0).getD ([]:List U1)),(AI ((AP a3 x0).getD ([]:List U1))),0,())with|none=>none|some r=>match r with
  |.inl (o1,o2,o3,o4,o5,o6,o7,o8,o9,_)=>some (.inl (o1,o2,o3,o4,o5,o6,o7,o8,(IntKind.wrap .i64 (o9+1)),()))
  |.inr _=>none
 |false=>some (.inr (.inl (a0,a1,a2,a3,a5,())))
def AIQ[Lk]:(Int×List Int×List Ub×List Ua×List Int×Unit)→Option ((Int×List Int×List Ub×List Ua×List U1×Unit)):=fun(a0,a1,a2,a3,a4,_)=>
 match AW K9 many (a0,a1,a2,a3,([]:List (U1×Int)),([]:List U1),a4,(AI a4),0,())with|none=>none|some r=>match r with
 |.inl (o0,o1,o2,o3,o4,_)=>match AFo (o4,())with|none=>none|some (y5,_)=>some (o0,o1,o2,o3,y5,())
 |.inr _=>none
def ARw[Lk]:=fun v=>Lk.f (AIQ v)
theorem AWC v:ARw v=AIQ v:=AG _
abbrev Le:AE:=[(.tmp 0,.own 34 U2),(.cap 1 0,.box 1),(.cell 1 0,.box 4),(.cell 2 0,.di),(.cell 2 1,.dat U6),(.cell 2 2,.map U0 U0),(.cell 2 3,.dat (.mapi .i64 Um)),(.tmp 1,.clo 31 [(1,0)])]
abbrev Ld:AE:=[(.obj 0,.own 34 U2),(.obj 1,.box 1),(.cell 1 0,.box 4),(.cell 2 0,.di),(.cell 2 1,.dat U6),(.cell 2 2,.map U0 U0),(.cell 2 3,.dat (.mapi .i64 Um)),(.obj 2,.ptr' 2 0),(.obj 3,.map' 3),(.tmp 0,.di)]
abbrev Lc:List RS:=[.one]
abbrev Ov:AE:=[(.obj 0,.own 34 U2),(.obj 1,.box 1),(.cell 1 0,.box 4),(.cell 2 0,.di),(.cell 2 1,.dat U6),(.cell 2 2,.map U0 U0),(.cell 2 3,.dat (.mapi .i64 Um)),(.obj 2,.ptr' 2 0),(.obj 3,.map' 3),(.tmp 0,.own' 0),(.tmp 1,.clo 31 [(1,0)]),(.tmp 7,.di),(.tmp 8,.di)]
abbrev Ou:At:=[(.ret,[(.obj 0,.own 34 U2),(.obj 1,.box 1),(.cell 1 0,.box 4),(.cell 2 0,.di),(.cell 2 1,.dat U6),(.cell 2 2,.map U0 U0),(.cell 2 3,.dat (.mapi .i64 Um)),(.obj 2,.ptr' 2 0),(.obj 3,.map' 3),(.tmp 4,.di)]),(.exit 0,[(.obj 0,.own 34 U2),(.obj 1,.box 1),(.cell 1 0,.box 4),(.cell 2 0,.di),(.cell 2 1,.dat U6),(.cell 2 2,.map U0 U0),(.cell 2 3,.dat (.mapi .i64 Um)),(.obj 2,.ptr' 2 0),(.obj 3,.map' 3)])]
def CG[Lk]:V0→Option (V0⊕V5⊕V9⊕Unit):=fun(a0,a1,a2,a3,a4,a5,a6,_)=>
 match(ilt a6 a5)with
 |true=>match idx a0 a6 with|none=>none|some x0=>match K8 (a1,a2,a3,a4,((AU a0 (AK a6) (0,(0,()))).1,((AU a0 (AK a6) (0,(0,()))).2.1,())),())with|none=>none|some (y1,y2,y3,y4,y5,_)=>match(!y5)with
  |true=>some (.inr (.inl (a0,y1,y2,y3,y4,a6,())))
  |false=>some (.inl (a0,y1,y2,y3,y4,a5,(IntKind.wrap .i64 (a6+1)),()))
 |false=>some (.inr (.inr (.inl (a0,a1,a2,a3,a4,()))))
def HN[Lk]:V9→Option (V5):=fun(a0,a1,a2,a3,a4,_)=>
 match AW CG many (a0,a1,a2,a3,a4,(AI a0),0,())with|none=>none|some r=>match r with
 |.inl (o0,o1,o2,o3,o4,o5,_)=>some (o0,o1,o2,o3,o4,o5,())
 |.inr r=>match r with
 |.inl (o6,o7,o8,o9,o10,_)=>some (o6,o7,o8,o9,o10,(-1:Int),())
 |.inr _=>none
def Lg[Lk]:=fun v=>Lk.f (HN v)
theorem Ow v:Lg v=HN v:=AG _
end
end Go.Pev
end
section
namespace Go.Pev
noncomputable section
attribute [local irreducible] O1 Ln Pz On AeA AeB AeC TS AAh Xy AEe Lw AY many IntKind.wrap AI A4 AU A2 Bq DY EN AK Bo CR imax AP Ae
abbrev Lu:AE:=[(.tmp 0,.own 34 U2),(.cap 1 0,.box 1),(.cell 1 0,.box 4),(.cell 2 0,.di),(.cell 2 1,.dat U6),(.cell 2 2,.map U0 U0),(.cell 2 3,.dat (.mapi .i64 Um)),(.tmp 1,.clo 31 [(1,0)])]
abbrev Lt:AE:=[(.obj 0,.own 34 U2),(.obj 1,.box 1),(.cell 1 0,.box 4),(.cell 2 0,.di),(.cell 2 1,.dat U6),(.cell 2 2,.map U0 U0),(.cell 2 3,.dat (.mapi .i64 Um)),(.obj 2,.ptr' 2 0),(.obj 3,.map' 3),(.tmp 0,.win' 0)]
abbrev Ls:List RS:=[.one]
abbrev O4:AE:=[(.obj 0,.own 34 U2),(.obj 1,.box 1),(.cell 1 0,.box 4),(.cell 2 0,.di),(.cell 2 1,.dat U6),(.cell 2 2,.map U0 U0),(.cell 2 3,.dat (.mapi .i64 Um)),(.obj 2,.ptr' 2 0),(.obj 3,.map' 3),(.tmp 0,.own' 0),(.tmp 1,.clo 31 [(1,0)]),(.tmp 5,.di),(.tmp 6,.di)]
abbrev O3:At:=[(.exit 0,[(.obj 0,.own 34 U2),(.obj 1,.box 1),(.cell 1 0,.box 4),(.cell 2 0,.di),(.cell 2 1,.dat U6),(.cell 2 2,.map U0 U0),(.cell 2 3,.dat (.mapi .i64 Um)),(.obj 2,.ptr' 2 0),(.obj 3,.map' 3),(.tmp 0,.own' 0),(.tmp 5,.di)])]
def DR[Lk]:V0→Option (V0⊕V5⊕Unit):=fun(a0,a1,a2,a3,a4,a5,a6,_)=>
 match(ilt a6 (AI a0))with
 |true=>match idx a0 a6 with|none=>none|some x0=>match K8 (a1,a2,a3,a4,((AU a0 (AK a6) (0,(0,()))).1,((AU a0 (AK a6) (0,(0,()))).2.1,())),())with|none=>none|some (y1,y2,y3,y4,y5,_)=>match(!(!y5))with
  |true=>match idx a0 a5 with|none=>none|some x6=>some (.inl ((A4 a0 (AK a5) ((AU a0 (AK a6) (0,(0,()))).1,((AU a0 (AK a6) (0,(0,()))).2.1,()))),y1,y2,y3,y4,(IntKind.wrap .i64 (a5+1)),(IntKind.wrap .i64 (a6+1)),()))
  |false=>some (.inl (a0,y1,y2,y3,y4,a5,(IntKind.wrap .i64 (a6+1)),()))
 |false=>some (.inr (.inl (a0,a1,a2,a3,a4,a5,())))
def HQ[Lk]:V9→Option (V5):=fun(a0,a1,a2,a3,a4,_)=>
 match Lg (a0,a1,a2,a3,a4,())with|none=>none|some (y0,y1,y2,y3,y4,y5,_)=>match(ieq y5 (-1:Int))with
 |true=>some (y0,y1,y2,y3,y4,(AI y0),())
 |false=>match AW DR many (y0,y1,y2,y3,y4,y5,(IntKind.wrap .i64 (y5+1)),())with|none=>none|some r=>match r with
 |.inl (o6,o7,o8,o9,o10,o11,_)=>match By o6 o11 (AI o6)with|none=>none|some x12=>match By (Bo (AK o11) (AK (AI x12)) (0,(0,())) o6) 0 o11 with|none=>none|some x13=>some ((Bo (AK o11) (AK (AI x12)) (0,(0,())) o6),o7,o8,o9,o10,(((AK (AI x13)):Nat):Int),())
 |.inr _=>none
def IV[Lk]:=fun v=>Lk.f (HQ v)
theorem O5 v:IV v=HQ v:=AG _
abbrev ARb:AE:=[(.tmp 0,.dat Uf),(.tmp 1,.di),(.tmp 2,.di)]
abbrev ARa:AE:=[(.tmp 0,.own 34 U2),(.tmp 1,.di)]
abbrev ARZ:List RS:=[.one,.one]
def AIB[Lk]:V3→Option ((List U1×Int×Unit)):=fun(a0,a1,a2,_)=>
 match seen ((a0.1,(a0.2.1,())),a1,a2,())with|none=>none|some r=>match r with
 |.inl (y0,_)=>match(!(ieq y0 0))with
  |true=>some (([]:List U1),y0,())
  |false=>none
 |.inr r=>match r with
 |.inl (y1,y2,y3,y4,y5,_)=>match(!(ieq y5 0))with
  |true=>some (([]:List U1),y5,())
  |false=>match Hv (y1,y2,y3,y4,())with|none=>none|some (y6,y7,y8,y9,y10,_)=>match ARw (y6,y7,y8,y9,y10,())with|none=>none|some (y11,y12,y13,y14,y15,_)=>match IV (y15,y11,y12,y13,y14,())with|none=>none|some (y16,y17,y18,y19,y20,y21,_)=>some ((Bq (AK y21) y16),0,())
 |.inr _=>none
def AMS[Lk]:=fun v=>Lk.f (AIB v)
theorem AV4 v:AMS v=AIB v:=AG _
abbrev Zt:AE:=[(.tmp 0,.dat Uf),(.tmp 1,.di),(.tmp 2,.di),(.tmp 3,.di)]
abbrev Zs:AE:=[(.tmp 0,.own 34 U2),(.tmp 1,.di)]
abbrev Zr:List RS:=[.one,.one]
def Zu[Lk]:(Ul×Int×Int×Int×Unit)→Option ((List U1×Int×Unit)):=fun(a0,a1,a2,a3,_)=>
 match seen ((a0.1,(a0.2.1,())),a1,a2,())with|none=>none|some r=>match r with
 |.inl (y0,_)=>match(!(ieq y0 0))with
  |true=>some (([]:List U1),y0,())
  |false=>none
 |.inr r=>match r with
 |.inl (y1,y2,y3,y4,y5,_)=>match(!(ieq y5 0))with
  |true=>some (([]:List U1),y5,())
  |false=>match Hv (y1,y2,y3,y4,())with|none=>none|some (y6,y7,y8,y9,y10,_)=>match By y10 0 (imax 0 (CR a3 (AI y10)))with|none=>none|some x11=>match ARw (y6,y7,y8,y9,(DY 0 (AK (AI x11)) y10),())with|none=>none|some (y12,y13,y14,y15,y16,_)=>some (y16,0,())
 |.inr _=>none
def AIA[Lk]:=fun v=>Lk.f (Zu v)
theorem AYE v:AIA v=Zu v:=AG _
abbrev Lj:AE:=[(.tmp 0,.dat Um),(.cap 1 0,.box 4),(.cell 0 0,.di),(.cell 0 1,.dat U6),(.cell 0 2,.map U0 U0),(.cell 0 3,.dat (.mapi .i64 Um)),(.tmp 1,.bndp 32 0)]
abbrev Li:AE:=[(.obj 0,.box 4),(.cell 0 0,.di),(.cell 0 1,.dat U6),(.cell 0 2,.map U0 U0),(.cell 0 3,.dat (.mapi .i64 Um)),(.obj 1,.map' 1),(.tmp 0,.di)]
abbrev Lh:List RS:=[.one]
abbrev Oy:AE:=[(.obj 0,.box 4),(.cell 0 0,.di),(.cell 0 1,.dat U6),(.cell 0 2,.map U0 U0),(.cell 0 3,.dat (.mapi .i64 Um)),(.obj 1,.map' 1),(.tmp 0,.dat Um),(.tmp 1,.bndp 32 0),(.tmp 7,.di),(.tmp 8,.di)]
abbrev Ox:At:=[(.ret,[(.obj 0,.box 4),(.cell 0 0,.di),(.cell 0 1,.dat U6),(.cell 0 2,.map U0 U0),(.cell 0 3,.dat (.mapi .i64 Um)),(.obj 1,.map' 1),(.tmp 4,.di)]),(.exit 0,[(.obj 0,.box 4),(.cell 0 0,.di),(.cell 0 1,.dat U6),(.cell 0 2,.map U0 U0),(.cell 0 3,.dat (.mapi .i64 Um)),(.obj 1,.map' 1)])]
def Ci[Lk]:(Int×List Int×List Ub×List Ua×List U1×Int×Int×Unit)→Option ((Int×List Int×List Ub×List Ua×List U1×Int×Int×Unit)⊕V1⊕(Int×List Int×List Ub×List Ua×Unit)⊕Unit):=fun(a0,a1,a2,a3,a4,a5,a6,_)=>
 match(ilt a6 a5)with
 |true=>match idx a4 a6 with|none=>none|some x0=>match K8 (a0,a1,a2,a3,(x0.1,(x0.2.1,())),())with|none=>none|some (y1,y2,y3,y4,y5,_)=>match y5 with
  |true=>some (.inr (.inl (y1,y2,y3,y4,a6,())))
  |false=>some (.inl (y1,y2,y3,y4,a4,a5,(IntKind.wrap .i64 (a6+1)),()))
 |false=>some (.inr (.inr (.inl (a0,a1,a2,a3,()))))
def HO[Lk]:V9→Option (V1):=fun(a0,a1,a2,a3,a4,_)=>
 match AW Ci many (a1,a2,a3,a4,a0,(AI a0),0,())with|none=>none|some r=>match r with
 |.inl (o0,o1,o2,o3,o4,_)=>some (o0,o1,o2,o3,o4,())
 |.inr r=>match r with
 |.inl (o5,o6,o7,o8,_)=>some (o5,o6,o7,o8,(-1:Int),())
 |.inr _=>none
def IP[Lk]:=fun v=>Lk.f (HO v)
theorem Oz v:IP v=HO v:=AG _
abbrev AH8:AE:=[(.tmp 0,.dat Uf),(.tmp 1,.di),(.tmp 2,.di)]
abbrev AH7:AE:=[(.tmp 0,.dat (.prod .bool (.prod U2 U2))),(.tmp 1,.di)]
abbrev AH6:List RS:=[.one,.one]
abbrev AMP:AE:=[(.tmp 6,.box 5),(.cell 0 0,.dat .bool),(.cell 0 1,.di),(.cell 0 2,.di),(.cell 0 3,.di),(.cell 0 4,.di),(.tmp 8,.box 4),(.cell 1 0,.di),(.cell 1 1,.dat U6),(.cell 1 2,.map U0 U0),(.cell 1 3,.dat (.mapi .i64 Um)),(.tmp 9,.dat U6)]
abbrev AMO:At:=[(.exit 0,[(.tmp 6,.box 5),(.cell 0 0,.dat .bool),(.cell 0 1,.di),(.cell 0 2,.di),(.cell 0 3,.di),(.cell 0 4,.di)])]
def Gg[Lk]:(Bool×Int×Int×Int×Int×Int×List Int×List Ub×List Ua×List Int×Unit)→Option ((Bool×Int×Int×Int×Int×Int×List Int×List Ub×List Ua×List Int×Unit)⊕(Bool×Int×Int×Int×Int×Unit)⊕Unit):=fun(a0,a1,a2,a3,a4,a5,a6,a7,a8,a9,_)=>
 match(!a0)with
 |true=>match(ilt a4 (AI a9))with
  |true=>match shl? .i64 1 (IntKind.wrap .u64 a3)with|none=>none|some x0=>match By a9 0 (CR (AI a9) x0)with|none=>none|some x1=>match ARw (a5,a6,a7,a8,x1,())with|none=>none|some (y2,y3,y4,y5,y6,_)=>match IP (y6,y2,y3,y4,y5,())with|none=>none|some (y7,y8,y9,y10,y11,_)=>match(ile 0 y11)with
   |true=>match idx y6 y11 with|none=>none|some x12=>some (.inl (true,(AU y6 (AK y11) (0,(0,()))).1,(AU y6 (AK y11) (0,(0,()))).2.1,(IntKind.wrap .i64 (a3+1)),(CR (AI a9) x0),y7,y8,y9,y10,a9,()))
   |false=>some (.inl (a0,a1,a2,(IntKind.wrap .i64 (a3+1)),(CR (AI a9) x0),y7,y8,y9,y10,a9,()))
  |false=>some (.inr (.inl (a0,a1,a2,a3,a4,())))
 |false=>some (.inr (.inl (a0,a1,a2,a3,a4,())))
def Yc[Lk]:V3→Option (((Bool×U1×Int×Int×Unit)×Int×Unit)):=fun(a0,a1,a2,_)=>
 match seen ((a0.1,(a0.2.1,())),a1,a2,())with|none=>none|some r=>match r with
 |.inl (y0,_)=>match(!(ieq y0 0))with
  |true=>some ((false,((0,(0,())),(0,(0,())))),y0,())
  |false=>none
 |.inr r=>match r with
 |.inl (y1,y2,y3,y4,y5,_)=>match(!(ieq y5 0))with
  |true=>some ((false,((0,(0,())),(0,(0,())))),y5,())
  |false=>match Hv (y1,y2,y3,y4,())with|none=>none|some (y6,y7,y8,y9,y10,_)=>match AW Gg many (false,0,0,0,0,y6,y7,y8,y9,y10,())with|none=>none|some r=>match r with
  |.inl (o11,o12,o13,o14,o15,_)=>some ((o11,((o12,(o13,())),(o14,(o15,())))),0,())
  |.inr _=>none
 |.inr _=>none
def Mj[Lk]:=fun v=>Lk.f (Yc v)
theorem AMQ v:Mj v=Yc v:=AG _
abbrev Zk:AE:=[(.tmp 0,.dat Uf),(.tmp 1,.di),(.tmp 2,.di),(.tmp 3,.dat (.slice (.int .u32)))]
abbrev Zj:AE:=[(.tmp 0,.dat V6),(.tmp 1,.dat Ug),(.tmp 2,.di)]
abbrev Zi:List RS:=[.one,.one,.one]
abbrev AFm:AE:=[(.tmp 8,.box 3),(.cell 0 0,.own 3 U0),(.cell 0 1,.own 3 U0),(.cell 0 2,.own 43 U6),(.tmp 11,.box 4),(.cell 4 0,.di),(.cell 4 1,.dat U6),(.cell 4 2,.map U0 U0),(.cell 4 3,.dat (.mapi .i64 Um)),(.tmp 12,.own 4 .bool),(.tmp 43,.dat U6),(.tmp 44,.di),(.tmp 45,.di)]
abbrev AFl:At:=[(.exit 0,[(.tmp 8,.box 3),(.cell 0 0,.own 3 U0),(.cell 0 1,.own 3 U0),(.cell 0 2,.own 43 U6),(.tmp 12,.own 4 .bool)])]
def S7[Lk]:Vj→Option (Vj⊕(List Int×List Int×List U3×List Bool×Unit)⊕Unit):=fun(a0,a1,a2,a3,a4,a5,a6,a7,a8,a9,a10,_)=>
 match(ilt a10 a9)with
 |true=>match idx a8 a10 with|none=>none|some x0=>match Hw (a3,a4,a5,a6,x0,())with|none=>none|some (y1,y2,y3,y4,y5,_)=>match(fits ((AI a7)+(AI ([y5]:List (Bool)))))with
  |true=>some (.inl (a0,a1,a2,y1,y2,y3,y4,(A2 a7 ([y5]:List (Bool))),a8,a9,(IntKind.wrap .i64 (a10+1)),()))
  |false=>none
 |false=>some (.inr (.inl (a0,a1,a2,a7,())))
def Zm[Lk]:(Ul×Int×Int×List Int×Unit)→Option ((Vf×List U3×Int×Unit)):=fun(a0,a1,a2,a3,_)=>
 match seen ((a0.1,(a0.2.1,())),a1,a2,())with|none=>none|some r=>match r with
 |.inl (y0,_)=>match(!(ieq y0 0))with
  |true=>some ((([]:List (Int)),(([]:List (Int)),(([]:List U3),()))),([]:List U3),y0,())
  |false=>none
 |.inr r=>match r with
 |.inl (y1,y2,y3,y4,y5,_)=>match(!(ieq y5 0))with
  |true=>some ((([]:List (Int)),(([]:List (Int)),(([]:List U3),()))),([]:List U3),y5,())
  |false=>match Nz (y2,a3,())with|none=>none|some (y6,_)=>match Qd (y2,y6,())with|none=>none|some (y7,y8,y9,y10,_)=>match AW S7 many (y7,y8,y9,y1,y2,y3,y4,([]:List (Bool)),y2,(AI y2),0,())with|none=>none|some r=>match r with
  |.inl (o11,o12,o13,o14,_)=>match AI5 ((o11,(o12,(o13,()))),o14,())with|none=>none|some (y15,y16,_)=>some ((o11,(o12,(o13,()))),y15,y16,())
  |.inr _=>none
 |.inr _=>none
def AH4[Lk]:=fun v=>Lk.f (Zm v)
theorem AX9 v:AH4 v=Zm v:=AG _
def Zf[Lk]:V3→Option (Up):=fun(a0,a1,a2,_)=>
 match ACj ((a0.1,(a0.2.1,())),a2,())with|none=>none|some (y0,y1,_)=>match AiL ((y0.1,(y0.2.1,())),a1,())with|none=>none|some (y2,_)=>match(ilt y2 0)with
 |true=>some (([]:List (Int)),())
 |false=>match idx y0.2.1 y2 with|none=>none|some x3=>some (x3,())
def Abg[Lk]:=fun v=>Lk.f (Zf v)
theorem AX1 v:Abg v=Zf v:=AG _
abbrev WA:AE:=[]
abbrev Vz:AE:=[(.tmp 0,.dat .bool)]
abbrev Vy:List RS:=[.one]
def WB[Lk]:(Unit)→Option (Ue):=fun _=>
 match Mj ((5,(([(0,(1,(0,(true,())))),(0,(2,(0,(true,())))),(1,(2,(0,(false,())))),(1,(3,(0,(false,()))))]:List U4),())),2,0,())with|none=>none|some (y0,y1,_)=>match Mj ((5,(([(0,(1,(0,(true,())))),(0,(2,(0,(true,())))),(1,(2,(0,(false,())))),(1,(3,(0,(false,()))))]:List U4),())),3,0,())with|none=>none|some (y2,y3,_)=>match Mj ((5,(([(0,(1,(0,(true,())))),(0,(2,(0,(true,())))),(1,(2,(0,(false,())))),(1,(3,(0,(false,()))))]:List U4),())),4,0,())with|none=>none|some (y4,y5,_)=>match AMS ((5,(([(0,(1,(0,(true,())))),(0,(2,(0,(true,())))),(1,(2,(0,(false,())))),(1,(3,(0,(false,()))))]:List U4),())),0,0,())with|none=>none|some (y6,y7,_)=>match AIA ((5,(([(0,(1,(0,(true,())))),(0,(2,(0,(true,())))),(1,(2,(0,(false,())))),(1,(3,(0,(false,()))))]:List U4),())),0,0,1,())with|none=>none|some (y8,y9,_)=>match AH4 ((5,(([(0,(1,(0,(true,())))),(0,(2,(0,(true,())))),(1,(2,(0,(false,())))),(1,(3,(0,(false,()))))]:List U4),())),1,0,([1]:List (Int)),())with|none=>none|some (y10,y11,y12,_)=>match Mj ((5,(([(0,(1,(0,(true,())))),(0,(2,(0,(true,())))),(1,(2,(0,(false,())))),(1,(3,(0,(false,()))))]:List U4),())),5,0,())with|none=>none|some (y13,y14,_)=>match AMS ((0,(([]:List U4),())),0,0,())with|none=>none|some (y15,y16,_)=>match(!(ieq y1 0))with
 |true=>some (false,())
 |false=>match(!(ieq y3 0))with
 |true=>some (false,())
 |false=>match(!(ieq y5 0))with
 |true=>some (false,())
 |false=>match(!(ieq y7 0))with
 |true=>some (false,())
 |false=>match(!(ieq y9 0))with
 |true=>some (false,())
 |false=>match(!(ieq y12 0))with
 |true=>some (false,())
 |false=>match(!(ieq y14 10))with
 |true=>some (false,())
 |false=>match(!(ieq y16 1))with
 |true=>some (false,())
 |false=>match(!(ieq (AI y11) 7))with
 |true=>some (false,())
 |false=>match((y0.1==true)&&(ieq y0.2.1.1 1&&(ieq y0.2.1.2.1 3&&(ieq y0.2.2.1 2&&(ieq y0.2.2.2.1 2&&true)))))with
 |true=>match((y2.1==true)&&(ieq y2.2.1.1 1&&(ieq y2.2.1.2.1 3&&(ieq y2.2.2.1 1&&(ieq y2.2.2.2.1 1&&true)))))with
  |true=>match((y4.1==false)&&(ieq y4.2.1.1 0&&(ieq y4.2.1.2.1 0&&(ieq y4.2.2.1 0&&(ieq y4.2.2.2.1 0&&true)))))with
   |true=>match AAN (y6,([(1,(3,()))]:List U1),())with|none=>none|some (y17,_)=>match y17 with
    |true=>match AAN (y8,([(1,(2,()))]:List U1),())with|none=>none|some (y18,_)=>match y18 with
     |true=>match La (y10.1,([0,7,2,15,6,1,10]:List (Int)),())with|none=>none|some (y19,_)=>match y19 with
      |true=>match idx y11 2 with|none=>none|some x20=>match La (x20,([1]:List (Int)),())with|none=>none|some (y21,_)=>match y21 with
       |true=>match idx y11 5 with|none=>none|some x22=>match La (x22,([1]:List (Int)),())with|none=>none|some (y23,_)=>match y23 with
        |true=>match idx y11 0 with|none=>none|some x24=>match La (x24,([0]:List (Int)),())with|none=>none|some (y25,_)=>some (y25,())
        |false=>some (false,())
       |false=>some (false,())
      |false=>some (false,())
     |false=>some (false,())
    |false=>some (false,())
   |false=>some (false,())
  |false=>some (false,())
 |false=>some (false,())
def JT[Lk]:=fun v=>Lk.f (WB v)
theorem AVe v:JT v=WB v:=AG _
abbrev UU:AE:=[(.tmp 0,.dat Uf)]
abbrev UT:AE:=[(.tmp 0,.dat .bool)]
abbrev US:List RS:=[.one]
def OK[Lk]:(Ul×Unit)→Option (Ue):=fun(a0,_)=>
 match(ilt 30 (AI a0.2.1))with
 |true=>some (true,())
 |false=>some ((ilt 12 a0.1),())
def OL[Lk]:=fun v=>Lk.f (OK v)
theorem ACa v:OL v=OK v:=AG _
end
end Go.Pev
end
section
namespace Go.Pev
noncomputable section
attribute [local irreducible] O1 Ln Pz On AeA AeB AeC TS AAh Xy AEe Lw AY many IntKind.wrap AI A4 AU A2 Bq DY EN AK Bo CR imax AP Ae
abbrev PW:AE:=[(.tmp 0,.dat Uf),(.tmp 1,.di),(.tmp 2,.di)]
abbrev PV:AE:=[(.tmp 0,.dat .bool)]
abbrev PU:List RS:=[.one]
abbrev Wo:AE:=[(.tmp 1,.di),(.tmp 2,.di),(.tmp 8,.box 2),(.cell 0 0,.di),(.cell 0 1,.own 57 U5),(.tmp 10,.box 5),(.cell 2 0,.dat .bool),(.cell 2 1,.dat .bool),(.cell 2 2,.di),(.cell 2 3,.di),(.cell 2 4,.di),(.tmp 12,.di)]
abbrev Wn:At:=[(.ret,[(.tmp 6,.dat .bool)]),(.exit 0,[(.tmp 10,.box 5),(.cell 0 0,.dat .bool),(.cell 0 1,.dat .bool),(.cell 0 2,.di),(.cell 0 3,.di),(.cell 0 4,.di)])]
def Cw[Lk]:(Int×Int×Int×List U4×Bool×Bool×Int×Int×Int×Int×Unit)→Option ((Int×Int×Int×List U4×Bool×Bool×Int×Int×Int×Int×Unit)⊕Ue⊕(Bool×Bool×Int×Int×Int×Unit)⊕Unit):=fun(a0,a1,a2,a3,a4,a5,a6,a7,a8,a9,_)=>
 match(ile 0 a9)with
 |true=>match Mj ((a2,(a3,())),a0,a9,())with|none=>none|some (y0,y1,_)=>match Mj ((a2,(a3,())),a1,a9,())with|none=>none|some (y2,y3,_)=>match AMS ((a2,(a3,())),a0,a9,())with|none=>none|some (y4,y5,_)=>match(!(ieq y1 0))with
  |true=>some (.inr (.inl (false,())))
  |false=>match(!(ieq y3 0))with
  |true=>some (.inr (.inl (false,())))
  |false=>match(!(ieq y5 0))with
  |true=>some (.inr (.inl (false,())))
  |false=>match(!(y0.1==y2.1))with
  |true=>some (.inr (.inl (false,())))
  |false=>match(!(y0.1==(ilt 0 (AI y4))))with
  |true=>some (.inr (.inl (false,())))
  |false=>match y0.1 with
  |true=>match a5 with
   |true=>match idx y4 0 with|none=>none|some x6=>some (.inr (.inl ((ieq a6 (AU y4 0 (0,(0,()))).1&&(ieq a7 (AU y4 0 (0,(0,()))).2.1&&true)),())))
   |false=>some (.inr (.inl (false,())))
  |false=>some (.inl (a0,a1,a2,a3,a4,a5,a6,a7,a8,(IntKind.wrap .i64 (a9-1)),()))
 |false=>some (.inr (.inr (.inl (a4,a5,a6,a7,a8,()))))
def LB[Lk]:V3→Option (Ue):=fun(a0,a1,a2,_)=>
 match JT ()with|none=>none|some (y0,_)=>match(!y0)with
 |true=>some (false,())
 |false=>match OL ((a0.1,(a0.2.1,())),())with|none=>none|some (y1,_)=>match y1 with
 |true=>some (true,())
 |false=>match K5 ((a0.1,(a0.2.1,())),())with|none=>none|some (y2,_)=>match(!y2)with
 |true=>some (true,())
 |false=>match UZ ((a0.1,(a0.2.1,())),a1,a2,())with|none=>none|some (y3,_)=>match(ilt y3 0)with
 |true=>some (true,())
 |false=>match idx a0.2.1 y3 with|none=>none|some x4=>match(!x4.2.2.2.1)with
 |true=>some (true,())
 |false=>match By a0.2.1 0 y3 with|none=>none|some x5=>match(fits ((AI ([]:List U4))+(AI x5)))with
 |true=>match By a0.2.1 (IntKind.wrap .i64 (y3+1)) (AI a0.2.1)with|none=>none|some x6=>match(fits ((AI (A2 ([]:List U4) x5))+(AI x6)))with
  |true=>match ABo ((a0.1,(a0.2.1,())),a1,a2,())with|none=>none|some (y7,y8,y9,y10,_)=>match(!(ieq y10 0))with
   |true=>some (false,())
   |false=>match idx a0.2.1 y3 with|none=>none|some x11=>match AW Cw many (a1,a2,a0.1,(A2 (A2 ([]:List U4) x5) x6),y9.1,y9.2.1,y9.2.2.1.1,y9.2.2.1.2.1,y9.2.2.2.1,x11.2.2.1,())with|none=>none|some r=>match r with
   |.inl (o12,_)=>some (o12,())
   |.inr r=>match r with
   |.inl (o13,o14,o15,o16,o17,_)=>some ((!o14),())
   |.inr _=>none
  |false=>none
 |false=>none
def KJ[Lk]:=fun v=>Lk.f (LB v)
theorem Wp v:KJ v=LB v:=AG _
end
end Go.Pev
end
section

end
section
namespace Go.Pev.Pl
theorem Ah{n:Int}(h:-9223372036854775808≤n∧n≤9223372036854775807):IntKind.wrap .i64 n=n:=IntWalk.i64_in n h
section
variable {α:Type} [Inhabited α]
theorem A8{d:Array α}{n:Nat}(h:n<d.size):idx d.toList (n:Int)=some d[n]! := by
 rw[idx_eq,Pz,AjS (by omega)]
 simp[h]
theorem Bc{d:Array α}{n:Nat}{z:α}(h:n<d.size):AU d.toList (AK (n:Int)) z=d[n]! := by
 simp[AU,AK,h]
theorem JN{d:Array α}{n:Nat}{x:α}:A4 d.toList (AK (n:Int)) x=(d.setIfInBounds n x).toList:=by
 simp[A4,AK]
theorem AXN{d:Array α}:AI d.toList=(d.size:Int):=by simp[AI]
theorem KF(d:Array α)(i j:Nat):(d.setIfInBounds i d[j]!).setIfInBounds j d[i]! = Go.Sort.swp d i j:=rfl
theorem size_swp(d:Array α)(i j:Nat):(Go.Sort.swp d i j).size=d.size:=by simp[Go.Sort.swp]
end
theorem AO(a b:Nat):ilt (a:Int) (b:Int)=decide (a<b):=by rw[Ai];simp
theorem ET(a b:Nat):ile (a:Int) (b:Int)=decide (a≤b):=by rw[Ax];simp
theorem AKB(a b:Nat):ieq (a:Int) (b:Int)=decide (a=b):=by
 rw[B9]
 by_cases h:a=b
 ·simp[h]
 ·simp[h];omega
section
theorem wrap_add{a b:Nat}(h:a+b<9223372036854775808):IntKind.wrap .i64 ((a:Int)+(b:Int))=((a+b:Nat):Int):=by rw[Ah (by omega)];omega
theorem AN{a:Nat}(h:a+1<9223372036854775808):IntKind.wrap .i64 ((a:Int)+1)=((a+1:Nat):Int):=by rw[Ah (by omega)];omega
theorem AXg{a:Nat}(h:2*a<9223372036854775808):IntKind.wrap .i64 ((2:Int)*(a:Int))=((2*a:Nat):Int):=by rw[Ah (by omega)];omega
theorem AXf{a:Nat}(h:a<9223372036854775808):IntKind.wrap .i64 ((a:Int)*1)=((a*1:Nat):Int):=by rw[Ah (by omega)];omega
theorem Ny{a:Nat}(h:a*2<9223372036854775808):IntKind.wrap .i64 ((a:Int)*2)=((a*2:Nat):Int):=by rw[Ah (by omega)];omega
theorem AXe{a:Nat}(h:a*3<9223372036854775808):IntKind.wrap .i64 ((a:Int)*3)=((a*3:Nat):Int):=by rw[Ah (by omega)];omega
theorem EH{a b:Nat}(h:b≤a∧a<9223372036854775808):IntKind.wrap .i64 ((a:Int)-(b:Int))=((a-b:Nat):Int):=by rw[Ah (by omega)];omega
theorem BL{a:Nat}(h:1≤a∧a<9223372036854775808):IntKind.wrap .i64 ((a:Int)-1)=((a-1:Nat):Int):=by rw[Ah (by omega)];omega
theorem Ahf{a:Nat}(h:a<9223372036854775808):quo? .i64 (a:Int) 2=some ((a/2:Nat):Int):=by
 rw[TQ,TS,AjS (by omega),AlM (by omega),Ah (by omega)];rfl
theorem AWU{a:Nat}(h:a<9223372036854775808):quo? .i64 (a:Int) 4=some ((a/4:Nat):Int):=by
 rw[TQ,TS,AjS (by omega),AlM (by omega),Ah (by omega)];rfl
theorem Ais{a:Nat}(h:a<9223372036854775808):quo? .i64 (a:Int) 8=some ((a/8:Nat):Int):=by
 rw[TQ,TS,AjS (by omega),AlM (by omega),Ah (by omega)];rfl
end
end Go.Pev.Pl
end
section
namespace Go.Pev.Pl
section
variable {α:Type}
theorem Cc{xs:List α}{n:Nat}(z:α)(h:n<xs.length):idx xs (n:Int)=some (xs.getD n z):=by
 rw[idx_eq,Pz,AjS (by omega)]
 simp[h]
theorem AKC(xs:List α)(n:Nat):idx xs (n:Int)=xs[n]? := by
 rw[idx_eq,Pz,AjS (by omega)]
 simp
theorem EK(xs:List α):idx xs (0:Int)=xs.head? := by
 rw[idx_eq,Pz,AjS (by omega)]
 cases xs<;>rfl
theorem Eg(xs:List α)(n:Nat)(z:α):AU xs (AK (n:Int)) z=xs.getD n z:=by simp[AU,AK]
theorem ADA(xs:List α)(n:Nat)(x:α):A4 xs (AK (n:Int)) x=xs.set n x:=by simp[A4,AK]
theorem AL(xs:List α):AI xs=(xs.length:Int):=rfl
theorem J0(n:Nat):AK (n:Int)=n:=by simp[AK]
theorem Cj(xs ys:List α):A2 xs ys=xs++ys:=rfl
theorem AH2{xs:List α}{l h:Nat}(h1:l≤h)(h2:h≤xs.length):By xs (l:Int) (h:Int)=some ((xs.take h).drop l):=by
 rw[Yb,On,AjV (by omega)]
 simp
end
theorem BY{n:Int}(h:n≤4294967296):fits n=true:=(FL n).2 h
theorem AVN{α:Type}{xs:List α}(h:xs.length≤4294967296):QK xs=some xs:=by
 rw[AGu,Lw,(UY _).2 (by rw[AL];omega)]
theorem ACO{α β:Type}(xs:List α)(ys:List β):ieq (AI xs) (AI ys)=decide (xs.length=ys.length):=by rw[AL,AL,AKB]
theorem Ar(a b:Int):ieq a b=decide (a=b):=by
 rw[B9]
 by_cases h:a=b<;>simp[h]
def walk{α β ρ:Type}(f:β→α→α⊕ρ)(fin:α→ρ):List β→α→ρ
 |[],a=>fin a
 |x::xs,a=>match f x a with
  |.inl a=>walk f fin xs a
  |.inr r=>r
theorem AXi{σ ρ α β:Type}{step:σ→Option (σ⊕ρ)}(st:Nat→α→σ)(xs:List β)(f:β→α→α⊕ρ)(fin:α→ρ)(I:Nat→α→Prop)
  (h:∀ i x a,i<xs.length→xs[i]? = some x→I i a→(∀ a',f x a = .inl a'→step (st i a)=some (.inl (st (i+1) a'))∧I (i+1) a')∧(∀ r,f x a = .inr r→step (st i a)=some (.inr r)))
  (hN:∀ a,I xs.length a→step (st xs.length a)=some (.inr (fin a))) :
  ∀ (m i n:Nat) (a:α),xs.length-i=m→i≤xs.length→m<n→I i a→AY step n (st i a)=some (walk f fin (xs.drop i) a):=by
 intro m
 induction m with
 |zero=>
  intro i n a hk hi hn hI
  obtain⟨n,rfl⟩:∃ k,n=k+1:=⟨n-1,by omega⟩
  have e:i=xs.length:=by omega
  subst e
  rw[AY,hN a hI,List.drop_length]
  rfl
 |succ m ih=>
  intro i n a hk hi hn hI
  obtain⟨n,rfl⟩:∃ k,n=k+1:=⟨n-1,by omega⟩
  have hi':i<xs.length:=by omega
  obtain⟨g1,g2⟩:=h i xs[i] a hi' (by simp[hi']) hI
  rw[Aj7 hi',walk,AY]
  cases hf:f xs[i] a with
  |inl a'=>
   obtain⟨e,hI'⟩:=g1 a' hf
   rw[e]
   exact ih (i+1) n a' (by omega) (by omega) (by omega) hI'
  |inr r=>rw[g2 r hf]
theorem DZ{σ ρ α β:Type}{step:σ→Option (σ⊕ρ)}(st:Nat→α→σ)(xs:List β)(f:β→α→α⊕ρ)(fin:α→ρ)(I:Nat→α→Prop)(hs:xs.length<9223372036854775808)
  (h:∀ i x a,i<xs.length→xs[i]? = some x→I i a→(∀ a',f x a = .inl a'→step (st i a)=some (.inl (st (i+1) a'))∧I (i+1) a')∧(∀ r,f x a = .inr r→step (st i a)=some (.inr r)))
  (hN:∀ a,I xs.length a→step (st xs.length a)=some (.inr (fin a))) (a:α) (h0:I 0 a):AW step many (st 0 a)=some (walk f fin xs a):=by
 have hm:9223372036854775808<many:=by simp only[many];omega
 rw[An,AXi st xs f fin I h hN xs.length 0 many a (by omega) (by omega) (by omega) h0]
 rfl
theorem HP{α:Type}{xs ys:List α}(z:α)(hl:xs.length=ys.length)(h:∀ j,j<xs.length→xs.getD j z=ys.getD j z):xs=ys:=by
 apply AmR hl
 intro i h1 h2
 have:=h i h1
 simpa [h1,h2]using this
theorem XH{α:Type}{xs ys:List α}(z:α){j:Nat}(h:xs.getD j z≠ys.getD j z):xs≠ys:=fun e=>h (by rw[e])
theorem AYV{σ ρ:Type}{step:σ→Option (σ⊕ρ)}(st:Nat→σ)(N:Nat)(P:Nat→Bool)(rt:Nat→ρ)(rf:ρ)
  (h:∀ i,i<N→step (st i)=if P i then some (.inr (rt i))else some (.inl (st (i+1)))) (hN:step (st N)=some (.inr rf)) :
  ∀ (m i n:Nat),N-i=m→i≤N→m<n→(∃ k,i≤k∧k<N∧P k=true∧(∀ j,i≤j→j<k→P j=false)∧AY step n (st i)=some (rt k))∨((∀ j,i≤j→j<N→P j=false)∧AY step n (st i)=some rf):=by
 intro m
 induction m with
 |zero=>
  intro i n hk hi hn
  obtain⟨n,rfl⟩:∃ k,n=k+1:=⟨n-1,by omega⟩
  have e:i=N:=by omega
  subst e
  exact .inr ⟨fun j h1 h2=>by omega,by rw[AY,hN]⟩
 |succ m ih=>
  intro i n hk hi hn
  obtain⟨n,rfl⟩:∃ k,n=k+1:=⟨n-1,by omega⟩
  have hi':i<N:=by omega
  cases hP:P i
  ·have e:AY step (n+1) (st i)=AY step n (st (i+1)):=by rw[AY,h i hi',hP];rfl
   rw[e]
   rcases ih (i+1) n (by omega) (by omega) (by omega)with⟨k,h1,h2,h3,h4,h5⟩|⟨h1,h2⟩
   ·refine .inl ⟨k,by omega,h2,h3,fun j a1 a2 => ?_,h5⟩
    by_cases ej:j=i
    ·subst ej;exact hP
    ·exact h4 j (by omega) a2
   ·refine .inr ⟨fun j a1 a2 => ?_,h2⟩
    by_cases ej:j=i
    ·subst ej;exact hP
    ·exact h1 j (by omega) a2
  ·exact .inl ⟨i,AjR _,hi',hP,fun j a1 a2=>by omega,by rw[AY,h i hi',hP];rfl⟩
theorem AMs{σ ρ:Type}{step:σ→Option (σ⊕ρ)}(st:Nat→σ)(N:Nat)(P:Nat→Bool)(rt:Nat→ρ)(rf:ρ)(hs:N<9223372036854775808)
  (h:∀ i,i<N→step (st i)=if P i then some (.inr (rt i))else some (.inl (st (i+1)))) (hN:step (st N)=some (.inr rf)) :
  (∃ k,k<N∧P k=true∧(∀ j,j<k→P j=false)∧AW step many (st 0)=some (rt k))∨((∀ j,j<N→P j=false)∧AW step many (st 0)=some rf):=by
 have hm:9223372036854775808<many:=by simp only[many];omega
 rw[An]
 rcases AYV st N P rt rf h hN N 0 many rfl (by omega) (by omega)with⟨k,h1,h2,h3,h4,h5⟩|⟨h1,h2⟩
 ·exact .inl ⟨k,h2,h3,fun j a=>h4 j (by omega) a,h5⟩
 ·exact .inr ⟨fun j a=>h1 j (by omega) a,h2⟩
end Go.Pev.Pl
end
section
namespace Go.Pev.Pl
inductive Tok where
 |ver (v:Int)
 |arc (u v:Int)
 deriving DecidableEq
namespace Tok
def st:Tok→Int
 |.ver v=>v
 |.arc _ v=>v
def step(s:List Int×List Int):Tok→Option (List Int×List Int)
 |.ver v=>match s.1 with
  |w::_=>if w=v then some s else none
  |[]=>none
 |.arc u v=>match s.1 with
  |w::r=>if w=u then match r with
    |p::r'=>if p=v then some (p::r',s.2)else if v∈s.2 then none else some (v::w::r,v::s.2)
    |[]=>if v∈s.2 then none else some (v::w::r,v::s.2)
   else none
  |[]=>none
def run:List Int×List Int→List Tok→Option (List Int×List Int)
 |s,[]=>some s
 |s,t::l=>match step s t with
  |some s=>run s l
  |none=>none
theorem De(s:List Int×List Int)(a b:List Tok):run s (a++b)=(run s a).bind fun s=>run s b:=by
 induction a generalizing s with
 |nil=>rfl
 |cons t a ih=>
  simp only[Ajl,run]
  cases step s t with
  |none=>rfl
  |some s=>exact ih s
theorem B7{s s':List Int×List Int}{t:Tok}(h:step s t=some s'):
  (∃ v r,t = .ver v∧s.1=v::r∧s'=s) ∨
  (∃ u v r,t = .arc u v∧s.1=u::v::r∧s'=(v::r,s.2)) ∨
  (∃ u v r,t = .arc u v∧s.1=u::r∧r.head?≠some v∧v∉s.2∧s'=(v::u::r,v::s.2)):=by
 obtain⟨way,c⟩:=s
 cases t with
 |ver v=>
  cases way with
  |nil=>simp[step]at h
  |cons w r=>
   simp only[step]at h
   split at h
   ·rename_i e;cases h;exact .inl ⟨v,r,rfl,by simp[e],rfl⟩
   ·cases h
 |arc u v=>
  cases way with
  |nil=>simp[step]at h
  |cons w r=>
   simp only[step]at h
   split at h
   ·rename_i e
    subst e
    cases r with
    |nil=>
     simp only at h
     split at h
     ·cases h
     ·rename_i hc;cases h;exact .inr (.inr ⟨w,v,[],rfl,rfl,by simp,hc,rfl⟩)
    |cons p r=>
     simp only at h
     split at h
     ·rename_i e;subst e;cases h;exact .inr (.inl ⟨w,p,r,rfl,rfl,rfl⟩)
     ·split at h
      ·cases h
      ·rename_i e hc;cases h;exact .inr (.inr ⟨w,v,p::r,rfl,rfl,by simpa using e,hc,rfl⟩)
   ·cases h
theorem Db(v:Int)(r c:List Int):step (v::r,c) (.ver v)=some (v::r,c):=by simp[step]
theorem Gf(u v:Int)(r c:List Int):step (u::v::r,c) (.arc u v)=some (v::r,c):=by simp[step]
theorem Fe(u v:Int)(r c:List Int)(h1:r.head?≠some v)(h2:v∉c):step (u::r,c) (.arc u v)=some (v::u::r,v::c):=by
 cases r with
 |nil=>simp[step,h2]
 |cons p r=>
  have:p≠v:=by simpa using h1
  simp[step,h2,this]
def Inv(s:List Int×List Int):Prop:=s.1.Nodup∧(∀ x∈s.1,x∈s.2)
theorem Zn{s s':List Int×List Int}{t:Tok}(h:step s t=some s')(hi:Inv s):Inv s'∧(∀ x∈s.2,x∈s'.2)∧s'.1.head? = some t.st:=by
 obtain⟨way,c⟩:=s
 obtain⟨h1,h2⟩:=hi
 rcases B7 h with⟨v,r,rfl,hw,rfl⟩|⟨u,v,r,rfl,hw,rfl⟩|⟨u,v,r,rfl,hw,_,hn,rfl⟩
 ·exact⟨⟨h1,h2⟩,fun x hx=>hx,by rw[hw];rfl⟩
 ·simp only at hw h1 h2
  subst hw
  refine⟨⟨?_,?_⟩,fun x hx=>hx,rfl⟩
  ·exact(Ajr.1 h1).2
  ·intro x hx;exact h2 x (by simp only at hx;simp[AjN.1 hx])
 ·simp only at hw h1 h2 hn
  subst hw
  refine⟨⟨?_,?_⟩,fun x hx=>by simp[hx],rfl⟩
  ·exact Ajr.2 ⟨fun hm=>hn (h2 _ hm),h1⟩
  ·intro x hx
   rcases AjN.1 hx with rfl|hx
   ·simp
   ·exact Ajj _ (h2 x hx)
theorem I1{l:List Tok}:∀ {s s':List Int×List Int},run s l=some s'→Inv s→Inv s'∧(∀ x∈s.2,x∈s'.2)∧∀ t,l.getLast? = some t→s'.1.head? = some t.st:=by
 induction l with
 |nil=>intro s s' h hi;cases h;exact⟨hi,fun x hx=>hx,fun t ht=>by simp at ht⟩
 |cons t l ih=>
  intro s s' h hi
  simp only[run]at h
  split at h
  ·rename_i s1 h1
   obtain⟨q1,q2,q3⟩:=Zn h1 hi
   obtain⟨p1,p2,p3⟩:=ih h q1
   refine⟨p1,fun x hx=>p2 x (q2 x hx),fun t' ht' => ?_⟩
   cases l with
   |nil=>simp at ht';subst ht';simp only[run]at h;cases h;exact q3
   |cons y l=>exact p3 t' (by rw[AmF]at ht';exact ht')
  ·cases h
theorem Ha{Z:Int→Prop}:∀ {l:List Tok} {way way' c d c2 low:List Int},run (way,c) l=some (way',d)→way≠[]→(∀ x,x∈c2↔x∈c∨Z x) →
  (∀ u v,.arc u v∈l→¬ Z v)→(∀ y∈low,Z y)→∃ d2,run (way++low,c2) l=some (way'++low,d2)∧(∀ x,x∈d2↔x∈d∨Z x):=by
 intro l
 induction l with
 |nil=>intro way way' c d c2 low h _ hc _ _;cases h;exact⟨c2,rfl,hc⟩
 |cons t l ih=>
  intro way way' c d c2 low h hne hc hz hl
  simp only[run]at h
  split at h
  ·rename_i s1 h1
   have hz':∀ u v,Tok.arc u v∈l→¬ Z v:=fun u v hm=>hz u v (Ajj _ hm)
   rcases B7 h1 with⟨v,r,rfl,hw,rfl⟩|⟨u,v,r,rfl,hw,rfl⟩|⟨u,v,r,rfl,hw,hh,hn,rfl⟩
   ·simp only at hw
    subst hw
    obtain⟨d2,e1,e2⟩:=ih h hne hc hz' hl
    exact⟨d2,by simp only[run,Ajl,Db];exact e1,e2⟩
   ·simp only at hw
    subst hw
    obtain⟨d2,e1,e2⟩:=ih h (by simp) hc hz' hl
    exact⟨d2,by simp only[run,Ajl,Gf];exact e1,e2⟩
   ·simp only at hw hn
    subst hw
    have hzv:=hz u v (by simp)
    have hn2:v∉c2:=by rw[hc];rintro (h|h);exact hn h;exact hzv h
    have hh2:(r++low).head?≠some v:=by
     cases r with
     |nil=>
      cases low with
      |nil=>simp
      |cons y low=>
       simp only[Ajv,List.head?_cons,ne_eq,AjH]
       rintro rfl
       exact hzv (hl _ (by simp))
     |cons p r=>simpa using hh
    obtain⟨d2,e1,e2⟩:=ih (c2:=v::c2) h (by simp) (by intro x;simp only[AjN,hc,or_assoc]) hz' hl
    exact⟨d2,by simp only[run,Ajl,Fe _ _ _ _ hh2 hn2];exact e1,e2⟩
  ·cases h
theorem AAQ{z:Int}:∀ {l:List Tok} {way way' c2 d2 c:List Int},run (way,c2) l=some (way',d2)→z∉way→(∀ x,x∈c2↔x∈c∨x=z)→z∉c →
  .ver z∉l∧∃ d,run (way,c) l=some (way',d)∧(∀ x,x∈d2↔x∈d∨x=z)∧z∉d:=by
 intro l
 induction l with
 |nil=>intro way way' c2 d2 c h _ hc hz;cases h;exact⟨by simp,c,rfl,hc,hz⟩
 |cons t l ih=>
  intro way way' c2 d2 c h hzw hc hz
  simp only[run]at h
  split at h
  ·rename_i s1 h1
   rcases B7 h1 with⟨v,r,rfl,hw,rfl⟩|⟨u,v,r,rfl,hw,rfl⟩|⟨u,v,r,rfl,hw,hh,hn,rfl⟩
   ·simp only at hw
    subst hw
    obtain⟨e0,d,e1,e2,e3⟩:=ih h hzw hc hz
    refine⟨?_,d,by simp only[run,Db];exact e1,e2,e3⟩
    rintro hm
    rcases AjN.1 hm with hm|hm
    ·cases hm;exact hzw (by simp)
    ·exact e0 hm
   ·simp only at hw
    subst hw
    obtain⟨e0,d,e1,e2,e3⟩:=ih h (fun hm=>hzw (Ajj _ hm)) hc hz
    refine⟨?_,d,by simp only[run,Gf];exact e1,e2,e3⟩
    rintro hm
    rcases AjN.1 hm with hm|hm
    ·cases hm
    ·exact e0 hm
   ·simp only at hw hn
    subst hw
    have hvz:v≠z:=by rintro rfl;exact hn ((hc v).2 (.inr rfl))
    have hn':v∉c:=fun hm=>hn ((hc v).2 (.inl hm))
    obtain⟨e0,d,e1,e2,e3⟩:=ih (c:=v::c) h (by intro hm;rcases AjN.1 hm with hm|hm;exact hvz hm.symm;exact hzw hm)
     (by intro x;simp only[AjN,hc,or_assoc])
     (by intro hm;rcases AjN.1 hm with hm|hm;exact hvz hm.symm;exact hz hm)
    refine⟨?_,d,by simp only[run,Fe _ _ _ _ hh hn'];exact e1,e2,e3⟩
    rintro hm
    rcases AjN.1 hm with hm|hm
    ·cases hm
    ·exact e0 hm
  ·cases h
def Rot(a b:List Tok):Prop:=∃ x y,a=x++y∧b=y++x
theorem Rot.refl(a:List Tok):Rot a a:=⟨[],a,rfl,by simp⟩
theorem Rot.symm{a b:List Tok}(h:Rot a b):Rot b a:=by obtain⟨x,y,h1,h2⟩:=h;exact⟨y,x,h2,h1⟩
theorem Rot.trans{a b c:List Tok}(h:Rot a b)(g:Rot b c):Rot a c:=by
 obtain⟨x,y,rfl,h2⟩:=h
 obtain⟨z,w,h3,rfl⟩:=g
 rw[h2]at h3
 rcases List.append_eq_append_iff.1 h3 with⟨k,h4,h5⟩|⟨k,h4,h5⟩
 ·subst h4 h5
  exact⟨k,w++y,by simp,by simp⟩
 ·subst h4 h5
  exact⟨x++z,k,by simp,by simp⟩
theorem Rot.perm{a b:List Tok}(h:Rot a b):a.Perm b:=by
 obtain⟨x,y,rfl,rfl⟩:=h
 exact Aky
theorem Rot.mem{a b:List Tok}(h:Rot a b)(t:Tok):t∈a↔t∈b:=h.perm.mem_iff
theorem Rot.nodup{a b:List Tok}(h:Rot a b):a.Nodup↔b.Nodup:=h.perm.nodup_iff
theorem Rot.length{a b:List Tok}(h:Rot a b):a.length=b.length:=h.perm.length_eq
inductive T:List Tok→Prop
 |one (v:Int):T [.ver v]
 |add (x:Tok) (l:List Tok) (v:Int):T (x::l)→x.st≠v→.ver v∉x::l→T (x :: .arc x.st v :: .ver v :: .arc v x.st::l)
 |rot (a b:List Tok):T (a++b)→T (b++a)
theorem T.ATc{a b:List Tok}(h:T a)(r:Rot a b):T b:=by obtain⟨x,y,rfl,rfl⟩:=r;exact T.rot x y h
theorem T.facts{l:List Tok}(h:T l):l≠[]∧(∀ t∈l,.ver t.st∈l)∧(∀ u v,.arc u v∈l→.ver u∈l∧.ver v∈l∧.arc v u∈l∧u≠v):=by
 induction h with
 |one v=>exact⟨by simp,by simp[st],by simp⟩
 |add x l v h hne hv ih=>
  obtain⟨_,i2,i3⟩:=ih
  have hsub:∀ t,t∈x::l→t∈x::Tok.arc x.st v :: .ver v :: .arc v x.st::l:=by
   intro t ht
   rcases AjN.1 ht with rfl|ht
   ·simp
   ·simp[ht]
  have hx:=hsub _ (i2 x (by simp))
  have cases3:∀ t,t∈x::Tok.arc x.st v :: .ver v :: .arc v x.st::l→t∈x::l∨t = .arc x.st v∨t = .ver v∨t = .arc v x.st:=by
   intro t ht
   simp only[AjN]at ht ⊢
   rcases ht with h|h|h|h|h<;>simp[h]
  refine⟨by simp,fun t ht => ?_,fun a b hab => ?_⟩
  ·rcases cases3 t ht with h|rfl|rfl|rfl
   ·exact hsub _ (i2 t h)
   ·simp[st]
   ·simp[st]
   ·exact hx
  ·rcases cases3 _ hab with h|h|h|h
   ·obtain⟨p1,p2,p3,p4⟩:=i3 a b h
    exact⟨hsub _ p1,hsub _ p2,hsub _ p3,p4⟩
   ·cases h;exact⟨hx,by simp,by simp,hne⟩
   ·cases h
   ·cases h;exact⟨by simp,hx,by simp,Ajz hne⟩
 |rot a b h ih=>
  obtain⟨i1,i2,i3⟩:=ih
  have hm:∀ t,t∈a++b↔t∈b++a:=fun t=>List.perm_append_comm.mem_iff
  refine⟨by intro e;simp only[List.append_eq_nil_iff]at e;exact i1 (by simp[e.1,e.2]),fun t ht=>(hm _).1 (i2 t ((hm _).2 ht)),fun u v huv => ?_⟩
  obtain⟨p1,p2,p3,p4⟩:=i3 u v ((hm _).2 huv)
  exact⟨(hm _).1 p1,(hm _).1 p2,(hm _).1 p3,p4⟩
theorem T.nodup{l:List Tok}(h:T l):l.Nodup:=by
 induction h with
 |one v=>simp
 |add x l v h hne hv ih=>
  obtain⟨_,_,f3⟩:=h.facts
  have h1:Tok.arc x.st v∉x::l:=fun hm=>hv (f3 _ _ hm).2.1
  have h2:Tok.arc v x.st∉x::l:=fun hm=>hv (f3 _ _ hm).1
  simp only[AjN,not_or]at h1 h2 hv
  have ih':=Ajr.1 ih
  simp only[Ajr,AjN,not_or]
  refine⟨⟨fun e=>h1.1 e.symm,fun e=>hv.1 e.symm,fun e=>h2.1 e.symm,ih'.1⟩,⟨by simp,?_,h1.2⟩,⟨by simp,hv.2⟩,h2.2,ih'.2⟩
  intro e
  simp only[Tok.arc.injEq]at e
  exact hne e.1
 |rot a b h ih=>exact(List.perm_append_comm.nodup_iff).1 ih
def C(l:List Tok):Prop:=∀ r,Rot l r→∀ t,r.getLast? = some t→∃ c,run ([t.st],[t.st]) r=some ([t.st],c)∧∀ x,x∈c↔.ver x∈l
end Tok
end Go.Pev.Pl
end
section
namespace Go.Pev.Pl.Tok
theorem getLast?_app{a b:List Tok}{t:Tok}(h:b.getLast? = some t):(a++b).getLast? = some t:=by
 rw[Ald,h];rfl
theorem A3(s:List Int×List Int)(t:Tok)(l:List Tok):run s (t::l)=(step s t).bind fun s=>run s l:=by
 rw[run]
 cases step s t<;>rfl
theorem OV(v:Int):Inv ([v],[v]):=⟨by simp,by simp⟩
theorem T.toC{l:List Tok}(h:T l):C l:=by
 induction h with
 |one v=>
  intro r hr t ht
  have:r=[.ver v]:=List.perm_singleton.1 hr.perm.symm
  subst this
  simp at ht
  subst ht
  exact⟨[v],by simp[run,st,step],by simp⟩
 |rot a b h ih=>
  intro r hr t ht
  obtain⟨c,h1,h2⟩:=ih r (Rot.trans ⟨a,b,rfl,rfl⟩ hr) t ht
  exact⟨c,h1,fun x=>(h2 x).trans (List.perm_append_comm.mem_iff)⟩
 |add x l v h hne hv ih=>
  obtain⟨_,f2,f3⟩:=h.facts
  have hnz:∀ u w,Tok.arc u w∈x::l→¬ (w=v):=fun u w hm e=>hv (e▸(f3 u w hm).2.1)
  have fin:∀ {d2 c:List Int},(∀ y,y∈d2↔y∈c∨y=v)→(∀ y,y∈c↔.ver y∈x::l)→∀ y,y∈d2↔Tok.ver y∈x :: .arc x.st v :: .ver v :: .arc v x.st::l:=by
   intro d2 c e1 e2 y
   rw[e1,e2]
   simp only[AjN,reduceCtorEq,false_or,Tok.ver.injEq]
   constructor
   ·rintro ((h|h)|h)<;>simp[h]
   ·rintro (h|h|h)<;>simp[h]
  have triple:∀ {w' c1:List Int},Inv (x.st::w',c1)→v∉c1→∀ p,run (x.st::w',c1) (.arc x.st v :: .ver v :: .arc v x.st::p)=run (x.st::w',v::c1) p:=by
   intro w' c1 hi hn p
   have hh:w'.head?≠some v:=by
    intro e
    exact hn (hi.2 v (Ajj _ (List.mem_of_head? e)))
   rw[A3,Fe _ _ _ _ hh hn,Aj2,A3,Db,Aj2,A3,Gf,Aj2]
  have G:∀ q1 p1,l=p1++q1→∀ t,(q1++x :: .arc x.st v :: .ver v :: .arc v x.st::p1).getLast? = some t→∃ c,run ([t.st],[t.st]) (q1++x :: .arc x.st v :: .ver v :: .arc v x.st::p1)=some ([t.st],c)∧∀ y,y∈c↔.ver y∈x :: .arc x.st v :: .ver v :: .arc v x.st::l:=by
   intro q1 p1 hl t ht
   have hrot:Rot (x::l) (q1++x::p1):=⟨x::p1,q1,by simp[hl],rfl⟩
   have ht0:∃ t0,(q1++x::p1).getLast? = some t0∧t0.st=t.st:=by
    cases p1 with
    |nil=>
     refine⟨x,getLast?_app (by simp),?_⟩
     rw[show q1++[x,Tok.arc x.st v,.ver v,.arc v x.st]=(q1++[x,Tok.arc x.st v,.ver v])++[Tok.arc v x.st] by simp,AlB]at ht
     cases ht;rfl
    |cons y p1=>
     refine⟨t,?_,rfl⟩
     rw[show q1++x::Tok.arc x.st v :: .ver v :: .arc v x.st::y::p1=(q1++[x,Tok.arc x.st v,.ver v,.arc v x.st])++y::p1 by simp,Ald]at ht
     rw[show q1++x::y::p1=(q1++[x])++y::p1 by simp,Ald]
     exact ht
   obtain⟨t0,e0,e1⟩:=ht0
   obtain⟨c,h1,h2⟩:=ih _ hrot t0 e0
   rw[e1,show q1++x::p1=(q1++[x])++p1 by simp,De,Aj0]at h1
   obtain⟨⟨w1,c1⟩,g1,g2⟩:=h1
   obtain⟨i1,i2,i3⟩:=I1 g1 (OV _)
   obtain⟨j1,j2,j3⟩:=I1 g2 i1
   have i3':=i3 x (by simp)
   simp only at i3'
   cases w1 with
   |nil=>simp at i3'
   |cons w0 w'=>
    simp at i3'
    subst i3'
    have hn:v∉c1:=fun hm=>hv ((h2 v).1 (j2 v hm))
    obtain⟨d2,k1,k2⟩:=Ha (Z:=(· = v)) (c2:=v::c1) (low:=[]) g2 (by simp) (fun y=>by simp[or_comm]) (fun u w hm=>hnz u w (by simp[hl,hm])) (by simp)
    refine⟨d2,?_,fin k2 h2⟩
    rw[show q1++x::Tok.arc x.st v :: .ver v :: .arc v x.st::p1=(q1++[x])++Tok.arc x.st v :: .ver v :: .arc v x.st::p1 by simp,De,g1,Aj2,triple i1 hn]
    simpa using k1
  intro r hr t ht
  obtain⟨p,q,hpq,rfl⟩:=hr
  have base:∀ t0:Tok,(l++[x]).getLast? = some t0→t0=x:=fun t0 h=>by rw[AlB]at h;exact(AkR h).symm
  obtain⟨c,h1,h2⟩:=ih (l++[x]) ⟨[x],l,rfl,rfl⟩ x (by simp)
  match p with
  |[]=>
   simp only[Ajv]at hpq
   subst hpq
   have:=G [] l (by simp) t (by simpa using ht)
   simpa using this
  |[y]=>
   simp only[Ajl,Ajv,Ajg]at hpq
   obtain⟨rfl,rfl⟩:=hpq
   have:t=x:=by
    rw[AlB]at ht
    exact(AkR ht).symm
   subst this
   have hn:v∉[t.st]:=by simp;exact Ajz hne
   obtain⟨d2,k1,k2⟩:=Ha (Z:=(· = v)) (c2:=[v,t.st]) (low:=[]) h1 (by simp) (fun y=>by simp[or_comm]) (fun u w hm=>hnz u w (by simpa [or_comm]using hm)) (by simp)
   refine⟨d2,?_,fin k2 h2⟩
   rw[show(Tok.arc t.st v :: .ver v :: .arc v t.st::l)++[t]=Tok.arc t.st v :: .ver v :: .arc v t.st::(l++[t]) by simp,triple (OV _) hn]
   simpa using k1
  |[y,z]=>
   simp only[Ajl,Ajv,Ajg]at hpq
   obtain⟨rfl,rfl,rfl⟩:=hpq
   have:t = .arc x.st v:=by
    rw[show(Tok.ver v :: .arc v x.st::l)++[x,.arc x.st v]=(Tok.ver v :: .arc v x.st::l++[x])++[.arc x.st v] by simp,AlB]at ht
    exact(AkR ht).symm
   subst this
   obtain⟨d2,k1,k2⟩:=Ha (Z:=(· = v)) (c2:=[x.st,v]) (low:=[v]) h1 (by simp) (fun y=>by simp) (fun u w hm=>hnz u w (by simpa [or_comm]using hm)) (by simp)
   refine⟨d2,?_,fin k2 h2⟩
   rw[show(Tok.ver v :: .arc v x.st::l)++[x,.arc x.st v]=Tok.ver v :: .arc v x.st::((l++[x])++[.arc x.st v]) by simp]
   rw[A3]
   show(step ([v],[v]) _).bind _=_
   rw[Db,Aj2,A3,Fe _ _ _ _ (by simp) (by simp;exact hne),Aj2,De]
   rw[show([x.st]++[v]:List Int)=[x.st,v]from rfl]at k1
   rw[k1,Aj2,A3,Gf]
   rfl
  |[y,z,w]=>
   simp only[Ajl,Ajv,Ajg]at hpq
   obtain⟨rfl,rfl,rfl,rfl⟩:=hpq
   have:t = .ver v:=by
    rw[show(Tok.arc v x.st::l)++[x,.arc x.st v,.ver v]=(Tok.arc v x.st::l++[x,.arc x.st v])++[.ver v] by simp,AlB]at ht
    exact(AkR ht).symm
   subst this
   obtain⟨d2,k1,k2⟩:=Ha (Z:=(· = v)) (c2:=[x.st,v]) (low:=[v]) h1 (by simp) (fun y=>by simp) (fun u w hm=>hnz u w (by simpa [or_comm]using hm)) (by simp)
   refine⟨d2,?_,fin k2 h2⟩
   rw[show(Tok.arc v x.st::l)++[x,.arc x.st v,.ver v]=Tok.arc v x.st::((l++[x])++[.arc x.st v,.ver v]) by simp]
   rw[A3]
   show(step ([v],[v]) _).bind _=_
   rw[Fe _ _ _ _ (by simp) (by simp;exact hne),Aj2,De]
   rw[show([x.st]++[v]:List Int)=[x.st,v]from rfl]at k1
   rw[k1,Aj2,A3,Gf,Aj2,A3,Db]
   rfl
  |y::z::w::w2::p1=>
   simp only[Ajl,Ajg]at hpq
   obtain⟨rfl,rfl,rfl,rfl,rfl⟩:=hpq
   exact G q p1 rfl t ht
def comp(P:List Tok):List Int→List Tok
 |[]=>[]
 |w::r=>(if .ver w∈P then []else [.ver w])++match r with
  |[]=>[]
  |p::_=>.arc w p::comp P r
theorem QJ{P P':List Tok}:∀ {way:List Int},(∀ w∈way,(Tok.ver w∈P↔Tok.ver w∈P'))→comp P way=comp P' way:=by
 intro way
 induction way with
 |nil=>intro _;rfl
 |cons w r ih=>
  intro h
  have h1:=h w (by simp)
  have h2:=ih fun x hx=>h x (Ajj _ hx)
  simp only[comp,h1,h2]
theorem AeV:∀ (M P:List Tok) (way c c':List Int) (r:Int) (t0:Tok),run (way,c) M=some ([r],c')→Inv (way,c)→P.getLast? = some t0→way.head? = some t0.st →
  T (P++comp P way)→(∀ x,.ver x∈P++comp P way→x∈c)→(∀ x∈c',Tok.ver x∈P++M)→(P++M).Nodup→T (P++M):=by
 intro M
 induction M with
 |nil=>
  intro P way c c' r t0 h hi hl hh hT hc hc' hn
  cases h
  have:=hc' r (hi.2 r (by simp))
  rw[AkV]at this
  simpa [comp,this]using hT
 |cons t M ih=>
  intro P way c c' r t0 h hi hl hh hT hc hc' hn
  rw[A3,Aj0]at h
  obtain⟨⟨w1,c1⟩,h1,h2⟩:=h
  obtain⟨hi1,hsub,hhd⟩:=Zn h1 hi
  have asso:P++t::M=(P++[t])++M:=by simp
  rw[asso]at hn hc' ⊢
  have hnt:t∉P:=by
   have:=(AlG.1 (AlG.1 hn).1)
   intro hm
   exact this.2.2 t hm t (by simp) rfl
  rcases B7 h1 with⟨v,rr,rfl,hw,e⟩|⟨u,v,rr,rfl,hw,e⟩|⟨u,v,rr,rfl,hw,hh2,hn2,e⟩
  ·cases e
   simp only at hw
   subst hw
   have key:comp P (v::rr) = .ver v::comp (P++[.ver v]) (v::rr):=by
    have e2:comp P rr=comp (P++[.ver v]) rr:=QJ fun w hwm=>by
     have:w≠v:=by rintro rfl;exact(Ajr.1 hi.1).1 hwm
     simp[this]
    simp only[comp,hnt,e2]
    simp
   rw[key]at hT hc
   exact ih _ _ _ _ _ (.ver v) h2 hi1 (by simp) hhd (by simpa using hT) (fun x hx=>hc x (by simpa using hx)) hc' hn
  ·cases e
   simp only at hw
   subst hw
   have hu:Tok.ver u∈P:=by
    have hun:=(Ajr.1 hi.1).1
    obtain⟨g1,_⟩:=AAQ (z:=u) (c:=c.filter (·≠u)) h2 hun (fun x=>by
     simp only[Ajp,AjI]
     constructor
     ·intro h
      by_cases e:x=u
      ·exact .inr e
      ·exact .inl ⟨h,by simpa using e⟩
     ·rintro (h|rfl)
      ·exact h.1
      ·exact hi.2 x (by simp)) (by simp)
    have hmono:=(I1 h2 hi1).2.1 u (hi.2 u (by simp))
    have:=hc' u hmono
    simp only[AjL,Aje,reduceCtorEq,Alp]at this
    rcases this with h|h
    ·exact h
    ·exact absurd h g1
   have key:comp P (u::v::rr) = .arc u v::comp (P++[.arc u v]) (v::rr):=by
    have e2:comp P (v::rr)=comp (P++[.arc u v]) (v::rr):=QJ fun w hwm=>by simp
    rw[← e2]
    simp only[comp,hu]
    simp
   rw[key]at hT hc
   exact ih _ _ _ _ _ (.arc u v) h2 hi1 (by simp) hhd (by simpa using hT) (fun x hx=>hc x (by simpa using hx)) hc' hn
  ·cases e
   simp only at hw hn2
   subst hw
   have hu:u=t0.st:=by simpa using hh
   subst hu
   have hvc:∀ x,Tok.ver x∈P++comp P (t0.st::rr)→x≠v:=by rintro x hx rfl;exact hn2 (hc x hx)
   have hvP:Tok.ver v∉P++comp P (t0.st::rr):=fun hm=>hvc v hm rfl
   have hvP':Tok.ver v∉P:=fun hm=>hvP (by simp[hm])
   have key:comp (P++[.arc t0.st v]) (v::t0.st::rr) = .ver v :: .arc v t0.st::comp P (t0.st::rr):=by
    have e2:comp (P++[.arc t0.st v]) (t0.st::rr)=comp P (t0.st::rr):=QJ fun w hwm=>by simp
    rw[← e2]
    simp only[comp,AjL,hvP',Aje,reduceCtorEq,Alp,Ajb]
    rfl
   have hne:t0.st≠v:=by rintro e;exact hn2 (e▸hi.2 t0.st (by simp))
   refine ih _ _ _ _ _ (.arc t0.st v) h2 hi1 (by simp) hhd ?_ ?_ hc' hn
   ·rw[key]
    obtain⟨P0,rfl⟩:∃ P0,P=P0++[t0]:=List.getLast?_eq_some_iff.1 hl
    have hT1:T (t0::(comp (P0++[t0]) (t0.st::rr)++P0)):=hT.ATc ⟨P0,t0::comp (P0++[t0]) (t0.st::rr),by simp,by simp⟩
    have hT2:=T.add t0 _ v hT1 hne (by
     intro hm
     apply hvP
     simp only[AjL,AjN,Ak7,Alp]at hm ⊢
     rcases hm with h|h|h<;>simp[h])
    exact hT2.ATc ⟨t0 :: .arc t0.st v :: .ver v :: .arc v t0.st::comp (P0++[t0]) (t0.st::rr),P0,by simp,by simp⟩
   ·intro x hx
    rw[key]at hx
    simp only[AjL,AjN,Ak7,Alp,reduceCtorEq,Tok.ver.injEq,false_or]at hx
    rcases hx with h|h|h
    ·exact Ajj _ (hc x (by simp[h]))
    ·simp[h]
    ·exact Ajj _ (hc x (by simp[h]))
def Ap(l:List Tok):Prop:=∃ r l' c,l = .ver r::l'∧run ([r],[r]) l=some ([r],c)∧∀ x∈c,Tok.ver x∈l
theorem Ap.toT{l:List Tok}(h:Ap l)(hn:l.Nodup):T l:=by
 obtain⟨r,l',c,rfl,h1,h2⟩:=h
 rw[A3,Db,Aj2]at h1
 have:=AeV l' [.ver r] [r] [r] c r (.ver r) h1 (OV r) (by simp) (by simp[st]) (by simp[comp];exact T.one r) (by simp[comp]) (by simpa using h2) (by simpa using hn)
 simpa using this
theorem T.AHs{r:Int}{l:List Tok}(h:T (.ver r::l)):Ap (.ver r::l):=by
 obtain⟨t,ht⟩:∃ t,(Tok.ver r::l).getLast? = some t:=⟨_,Alq (by simp)⟩
 obtain⟨c,h1,h2⟩:=h.toC _ (Rot.refl _) t ht
 have h1':=h1
 rw[A3,Aj0]at h1'
 obtain⟨s,g1,_⟩:=h1'
 have e:t.st=r:=by
  simp only[step]at g1
  split at g1
  ·assumption
  ·cases g1
 rw[e]at h1
 exact⟨r,l,c,rfl,h1,fun x hx=>(h2 x).1 hx⟩
end Go.Pev.Pl.Tok
end
section
namespace Go.Pev.Pl.Tok
theorem T.AP9{l:List Tok}(h:T l):∃ v r,Rot l (.ver v::r):=by
 obtain⟨f1,f2,_⟩:=h.facts
 obtain⟨t,ht⟩:=List.exists_mem_of_ne_nil l f1
 obtain⟨a,b,rfl⟩:=AmC (f2 t ht)
 exact⟨t.st,b++a,a,.ver t.st::b,rfl,rfl⟩
theorem T.less{x:Tok}{v:Int}{l:List Tok}(h:T (x :: .arc x.st v :: .ver v :: .arc v x.st::l)):T (x::l):=by
 have hC:=h.toC
 have hn:=h.nodup
 obtain⟨_,f2,f3⟩:=h.facts
 have hne:x.st≠v:=(f3 x.st v (by simp)).2.2.2
 have hvl:Tok.ver v∉l:=by
  intro hm
  simp only[Ajr,AjN,not_or]at hn
  exact hn.2.2.1.2 hm
 have hvx:x≠.ver v:=by rintro rfl;exact hne rfl
 have key:∀ p q,l=p++q→∀ t0,(q++x::p).getLast? = some t0→∃ c,run ([t0.st],[t0.st]) (q++x::p)=some ([t0.st],c)∧∀ y,y∈c↔.ver y∈x::l:=by
  intro p q hl t0 ht0
  have hrot:Rot (x :: .arc x.st v :: .ver v :: .arc v x.st::l) (q++x :: .arc x.st v :: .ver v :: .arc v x.st::p):=⟨x :: .arc x.st v :: .ver v :: .arc v x.st::p,q,by simp[hl],rfl⟩
  have ht:∃ t,(q++x::Tok.arc x.st v :: .ver v :: .arc v x.st::p).getLast? = some t∧t.st=t0.st:=by
   cases p with
   |nil=>
    rw[AlB]at ht0
    cases ht0
    exact⟨.arc v x.st,by rw[show q++[x,Tok.arc x.st v,.ver v,.arc v x.st]=(q++[x,Tok.arc x.st v,.ver v])++[Tok.arc v x.st] by simp,AlB],rfl⟩
   |cons y p=>
    refine⟨t0,?_,rfl⟩
    rw[show q++x::Tok.arc x.st v :: .ver v :: .arc v x.st::y::p=(q++[x,Tok.arc x.st v,.ver v,.arc v x.st])++y::p by simp,Ald]
    rw[show q++x::y::p=(q++[x])++y::p by simp,Ald]at ht0
    exact ht0
  obtain⟨t,e0,e1⟩:=ht
  obtain⟨c,h1,h2⟩:=hC _ hrot t e0
  rw[e1,show q++x::Tok.arc x.st v :: .ver v :: .arc v x.st::p=(q++[x])++Tok.arc x.st v :: .ver v :: .arc v x.st::p by simp,De,Aj0]at h1
  obtain⟨⟨w1,c1⟩,g1,g2⟩:=h1
  obtain⟨i1,i2,i3⟩:=I1 g1 (OV _)
  have i3':=i3 x (by simp)
  simp only at i3'
  cases w1 with
  |nil=>simp at i3'
  |cons w0 w'=>
   simp at i3'
   subst i3'
   rw[A3,Aj0]at g2
   obtain⟨s1,k1,k2⟩:=g2
   rcases B7 k1 with⟨v',r,e,_⟩|⟨u',v',r,e,hw,rfl⟩|⟨u',v',r,e,hw,hh,hnc,rfl⟩
   ·cases e
   ·cases e
    simp only[Ajg]at hw
    obtain⟨_,rfl⟩:=hw
    exfalso
    rw[A3,Db,Aj2,A3,Aj0]at k2
    obtain⟨s2,m1,_⟩:=k2
    have hnd:=i1.1
    rcases B7 m1 with⟨v',r',e,_⟩|⟨u',v',r',e,hw,rfl⟩|⟨u',v',r',e,hw,hh,hnc,rfl⟩
    ·cases e
    ·cases e
     simp only[Ajg]at hw
     obtain⟨_,rfl⟩:=hw
     simp at hnd
    ·cases e
     exact hnc (i1.2 _ (by simp))
   ·cases e
    simp only[Ajg,Ala]at hw
    subst hw
    simp only at hnc
    rw[A3,Db,Aj2,A3,Gf,Aj2]at k2
    have hvw:v∉x.st::w':=fun hm=>hnc (i1.2 v hm)
    obtain⟨_,d,m1,m2,m3⟩:=AAQ (z:=v) (c:=c1) k2 hvw (fun y=>by simp[or_comm]) hnc
    refine⟨d,?_,fun y => ?_⟩
    ·rw[show q++x::p=(q++[x])++p by simp,De,g1,Aj2,m1]
    ·have q1:=m2 y
     have q2:=h2 y
     by_cases e:y=v
     ·subst e
      refine⟨fun h=>absurd h m3,fun h => ?_⟩
      rcases AjN.1 h with h|h
      ·exact absurd h.symm hvx
      ·exact absurd h hvl
     ·rw[q2]at q1
      simp only[e,Alp]at q1
      rw[← q1]
      simp[e]
 obtain⟨s,b,a,hsb⟩:∃ s a b,x::l=a ++ .ver s::b:=by
  have:=f2 x (by simp)
  simp only[AjN,reduceCtorEq,false_or,Tok.ver.injEq,hne]at this
  rcases this with h|h
  ·exact⟨x.st,[],l,by rw[← h];rfl⟩
  ·obtain⟨a,b,rfl⟩:=AmC h
   exact⟨x.st,x::a,b,rfl⟩
 have hg:Ap (.ver s::a++b):=by
  have hr:∃ p q,l=p++q∧q++x::p = .ver s::a++b:=by
   cases b with
   |nil=>
    simp only[Ajv,Ajg]at hsb
    obtain⟨rfl,rfl⟩:=hsb
    exact⟨l,[],by simp,by simp⟩
   |cons y b=>
    simp only[Ajl,Ajg]at hsb
    obtain⟨rfl,rfl⟩:=hsb
    exact⟨b,.ver s::a,rfl,by simp⟩
  obtain⟨p,q,hl,e⟩:=hr
  obtain⟨t0,ht0⟩:∃ t0,(q++x::p).getLast? = some t0:=⟨_,Alq (by simp)⟩
  obtain⟨c,h1,h2⟩:=key p q hl t0 ht0
  rw[e]at h1
  have h1':=h1
  rw[Ajl,A3,Aj0]at h1'
  obtain⟨s',g1,_⟩:=h1'
  have e':t0.st=s:=by
   simp only[step]at g1
   split at g1
   ·assumption
   ·cases g1
  rw[e']at h1
  refine⟨s,a++b,c,rfl,h1,fun y hy => ?_⟩
  have:=(h2 y).1 hy
  rw[hsb]at this
  simp only[AjL,AjN]at this ⊢
  rcases this with h|h|h<;>simp[h]
 have hrot2:Rot (.ver s::a++b) (x::l):=⟨.ver s::a,b,rfl,hsb⟩
 have hnx:(x::l).Nodup:=by
  simp only[Ajr,AjN,not_or]at hn ⊢
  exact⟨hn.1.2.2.2,hn.2.2.2.2⟩
 exact(hg.toT (hrot2.nodup.2 hnx)).ATc hrot2
theorem T.leaf{l:List Tok}(h:T l):(∃ v,l=[.ver v])∨∃ x v r,Rot l (x :: .arc x.st v :: .ver v :: .arc v x.st::r):=by
 induction h with
 |one v=>exact .inl ⟨v,rfl⟩
 |add x l v h hne hv ih=>exact .inr ⟨x,v,l,Rot.refl _⟩
 |rot a b h ih=>
  rcases ih with⟨v,e⟩|⟨x,v,r,hr⟩
  ·have hr:Rot [.ver v] (b++a):=⟨a,b,e.symm,rfl⟩
   exact .inl ⟨v,List.perm_singleton.1 hr.perm.symm⟩
  ·exact .inr ⟨x,v,r,Rot.trans ⟨b,a,rfl,rfl⟩ hr⟩
def Mb:List Tok→List Int
 |[]=>[]
 |.ver v::l=>v::Mb l
 |.arc _ _::l=>Mb l
theorem RD{v:Int}:∀ {l:List Tok},v∈Mb l↔.ver v∈l
 |[]=>by simp[Mb]
 |.ver w::l=>by simp[Mb,RD (l:=l)]
 |.arc _ _::l=>by simp[Mb,RD (l:=l)]
theorem ALl(a b:List Tok):Mb (a++b)=Mb a++Mb b:=by
 induction a with
 |nil=>rfl
 |cons t a ih=>cases t<;>simp[Mb,ih]
theorem T.len{l:List Tok}(h:T l):l.length+2=3*(Mb l).length:=by
 induction h with
 |one v=>rfl
 |add x l v h hne hv ih=>
  cases x<;>simp[Mb]at ih ⊢<;>omega
 |rot a b h ih=>
  simp only[ALl,AjQ]at ih ⊢
  omega
end Go.Pev.Pl.Tok
end
section
namespace Go.Pev.Pl
section
variable {β:Type}
def BI(es:List (Int×β)):List Int:=es.map Prod.fst
theorem UG(es:List (Int×β)):(BI es).length=es.length:=by simp[BI]
theorem D3(es:List (Int×β))(k:Int)(v:β)(j:Int):AP (Ae es k v) j=if j=k then some v else AP es j:=by
 induction es with
 |nil=>
  simp only[Ae,AP]
  by_cases h:k=j
  ·simp[h]
  ·simp[h,Ajz h]
 |cons e es ih=>
  obtain⟨a,b⟩:=e
  simp only[Ae]
  by_cases h:a=k
  ·subst h
   simp only[Ajs,AP]
   by_cases h2:a=j
   ·simp[h2]
   ·simp[h2,Ajz h2]
  ·simp only[h,Ajb,AP,ih]
   by_cases h2:a=j
   ·subst h2;simp[h]
   ·simp[h2]
theorem Pt(es:List (Int×β))(k:Int)(v:β):BI (Ae es k v)=if k∈BI es then BI es else BI es++[k]:=by
 induction es with
 |nil=>rfl
 |cons e es ih=>
  obtain⟨a,b⟩:=e
  simp only[Ae]
  by_cases h:a=k
  ·subst h;simp[BI]
  ·simp only[h,Ajb]
   show a::BI (Ae es k v)=_
   rw[ih]
   have:k∈BI ((a,b)::es)↔k∈BI es:=by simp[BI,Ajz h]
   simp only[this]
   split<;>rfl
theorem XJ(es:List (Int×β))(k:Int):AP es k=none↔k∉BI es:=by
 induction es with
 |nil=>simp[AP,BI]
 |cons e es ih=>
  obtain⟨a,b⟩:=e
  simp only[AP]
  by_cases h:a=k
  ·simp[h,BI]
  ·simp only[h,Ajb,ih]
   simp[BI,Ajz h]
theorem FF(es:List (Int×β))(k:Int)(v:β)(j:Int):j∈BI (Ae es k v)↔j=k∨j∈BI es:=by
 rw[Pt]
 split
 ·rename_i h
  constructor
  ·exact .inr
  ·rintro (rfl|h2)
   ·exact h
   ·exact h2
 ·simp[or_comm]
theorem KR{es:List (Int×β)}(h:(BI es).Nodup)(k:Int)(v:β):(BI (Ae es k v)).Nodup:=by
 rw[Pt]
 split
 ·exact h
 ·rename_i hk
  rw[AlG]
  exact⟨h,by simp,fun a ha b hb=>by rintro rfl;simp at hb;exact hk (hb▸ha)⟩
end
def dd:List Int→List Int→List Int
 |ks,[]=>ks
 |ks,x::xs=>dd (if x∈ks then ks else ks++[x]) xs
theorem Aid:∀ (xs ks:List Int),(dd ks xs).length≤ks.length+xs.length∧((dd ks xs).length=ks.length+xs.length↔xs.Nodup∧∀ x∈xs,x∉ks):=by
 intro xs
 induction xs with
 |nil=>intro ks;simp[dd]
 |cons x xs ih=>
  intro ks
  rw[dd]
  by_cases h:x∈ks
  ·obtain⟨h1,_⟩:=ih ks
   rw[AjV h]
   refine⟨by simp only[AjP];omega,?_,fun hh=>absurd h (hh.2 x (by simp))⟩
   intro e
   simp only[AjP]at e
   omega
  ·obtain⟨h1,h2⟩:=ih (ks++[x])
   rw[AjS h]
   simp only[AjQ,AjP,Ajh,AkK]at h1 h2 ⊢
   refine⟨by omega,?_⟩
   rw[show ks.length+(xs.length+1)=ks.length+1+xs.length by omega,h2,Ajr]
   constructor
   ·rintro⟨g1,g2⟩
    refine⟨⟨fun hx=>g2 x hx (by simp),g1⟩,fun y hy => ?_⟩
    rcases AjN.1 hy with rfl|hy
    ·exact h
    ·exact fun hk=>g2 y hy (by simp[hk])
   ·rintro⟨⟨g1,g2⟩,g3⟩
    refine⟨g2,fun y hy hk => ?_⟩
    simp only[AjL,Aje]at hk
    rcases hk with hk|rfl
    ·exact g3 y (by simp[hy]) hk
    ·exact g1 hy
theorem Aet(xs:List Int):(dd [] xs).length=xs.length↔xs.Nodup:=by
 have:=(Aid xs []).2
 simpa using this
theorem Bd{α β ρ:Type}(g:β→α→α)(fin:α→ρ):∀ (xs:List β) (a:α),walk (fun x a=>.inl (g x a)) fin xs a=fin (xs.foldl (fun a x=>g x a) a):=by
 intro xs
 induction xs with
 |nil=>intro a;rfl
 |cons x xs ih=>intro a;rw[walk,AkC];exact ih _
theorem HD{σ ρ β:Type}{step:σ→Option (σ⊕ρ)}(st:Nat→σ)(xs:List β)(P:β→Bool)(rt:Nat→ρ)(rf:ρ)(hs:xs.length<9223372036854775808)
  (h:∀ i x,i<xs.length→xs[i]? = some x→step (st i)=if P x then some (.inr (rt i))else some (.inl (st (i+1)))) (hN:step (st xs.length)=some (.inr rf)) :
  AW step many (st 0)=some (if xs.any P then rt (xs.findIdx P)else rf):=by
 have key:∀ (l:List β) (a:Nat),walk (fun x (a:Nat)=>if P x then .inr (rt a)else .inl (a+1)) (fun _=>rf) l a=if l.any P then rt (a+l.findIdx P)else rf:=by
  intro l
  induction l with
  |nil=>intro a;rfl
  |cons x l ih=>
   intro a
   rw[walk,AmP,Alc]
   by_cases hx:P x=true
   ·simp[hx]
   ·simp only[hx,Aja,Ajb,Bool.false_or,cond_false]
    rw[ih,show a+1+List.findIdx P l=a+(List.findIdx P l+1) by omega]
 have:=DZ (step:=step) (fun i (a:Nat)=>st a) xs (fun x (a:Nat)=>if P x then .inr (rt a)else .inl (a+1)) (fun _=>rf) (fun i a=>a=i) hs
  (fun i x a hi hx ha=>by
   subst ha
   refine⟨fun a' h' => ?_,fun r h' => ?_⟩
   ·rw[h a x hi hx]
    split at h'
    ·cases h'
    ·rename_i hp
     cases h'
     simp[hp]
   ·rw[h a x hi hx]
    split at h'
    ·rename_i hp
     cases h'
     simp[hp]
    ·cases h')
  (fun a ha=>by subst ha;exact hN) 0 rfl
 rw[this,key,AkK]
theorem Ag{α:Type}{xs:List α}{n:Nat}{x:α}(h:xs[n]? = some x):idx xs (n:Int)=some x:=by rw[AKC,h]
theorem VN{α:Type}{xs:List α}{n:Nat}{x z:α}(h:xs[n]? = some x):AU xs (AK (n:Int)) z=x:=by
 rw[Eg,AjK,h];rfl
theorem Hu{α:Type}{xs:List α}{h:Nat}(h2:h≤xs.length):By xs (0:Int) (h:Int)=some (xs.take h):=by
 have:=AH2 (xs:=xs) (l:=0) (Al5 h) h2
 simpa using this
theorem Da{α:Type}{xs:List α}{l:Nat}(h1:l≤xs.length):By xs (l:Int) (AI xs)=some (xs.drop l):=by
 have:=AH2 (xs:=xs) h1 (AjR _)
 rw[Akk]at this
 exact this
def pos(xs:List Int)(t:Int):Int:=if t∈xs then((xs.findIdx (fun x=>decide (x=t)):Nat):Int)else -1
theorem ALJ(xs:List Int)(t:Int):(xs.any fun x=>decide (x=t))=decide (t∈xs):=by
 induction xs with
 |nil=>rfl
 |cons x xs ih=>simp only[AmP,ih,AjN,Bool.decide_or];congr 1;exact Akb.2 eq_comm
theorem AI1{xs:List Int}{t:Int}(h:t∈xs):∃ k:Nat,pos xs t=(k:Int)∧k<xs.length∧xs[k]? = some t∧xs=xs.take k++t::xs.drop (k+1)∧t∉xs.take k:=by
 have hk:xs.findIdx (fun x=>decide (x=t))<xs.length:=Ak2.2 ⟨t,h,by simp⟩
 have hg:xs[xs.findIdx (fun x=>decide (x=t))]'hk=t:=by
  have:=Al4 (xs:=xs) (p:=fun x=>decide (x=t)) (w:=hk)
  simpa using this
 refine⟨_,by rw[pos,AjV h],hk,by rw[AjM hk,hg],?_,?_⟩
 ·conv=>lhs;rw[← AkD (xs.findIdx (fun x=>decide (x=t))) xs,Aj7 hk,hg]
 ·intro hm
  obtain⟨j,hj,e⟩:=AlP.1 hm
  have:=List.not_of_lt_findIdx (p:=fun x=>decide (x=t)) (xs:=xs) (i:=j) (by omega)
  simp[e]at this
theorem Qz{xs:List Int}{t:Int}(h:t∉xs):pos xs t = -1:=by rw[pos,AjS h]
end Go.Pev.Pl
end
section
section
namespace Go.Pev.Pl
open Tok
def In(n v:Int):Prop:=1≤n∧n≤64∧0≤v∧v<n
instance (n v:Int):Decidable (In n v):=inferInstanceAs (Decidable (_∧_))
def Sz(n:Int):Prop:=1≤n∧n≤64
instance (n:Int):Decidable (Sz n):=inferInstanceAs (Decidable (_∧_))
theorem Ky(n:Int):Mh (n,())=some (decide (Sz n),()):=by
 rw[AFZ,Qg]
 simp only[Ax]
 by_cases h1:1≤n<;>by_cases h2:n≤64<;>simp[Sz,h1,h2]
theorem Ya(n v:Int):tin (n,v,())=some (decide (In n v),()):=by
 rw[Abw,AVz]
 simp only[Ky,Ax,Ai]
 by_cases h1:1≤n<;>by_cases h2:n≤64<;>by_cases h3:0≤v<;>simp[In,Sz,h1,h2,h3]
def Ai3(n v:Int):Int:=if In n v then v else -1
def EG(n u v:Int):Int:=if In n u∧In n v∧u≠v then n*(u+1)+v else -1
theorem Fq{n u:Int}(h1:1≤n)(h2:n≤64)(h3:0≤u)(h4:u≤64):0≤n*u∧n*u≤4096:=by
 refine⟨Int.mul_nonneg (by omega) h3,?_⟩
 have:=Int.mul_le_mul h2 h4 h3 (by omega)
 omega
theorem AMK(n u v:Int):AX6 (n,u,v,())=some (EG n u v,()):=by
 rw[AV0,AH1]
 simp only[Ya,EG,Ar]
 by_cases h3:u=v
 ·simp[h3]
 ·by_cases h1:In n u
  ·by_cases h2:In n v
   ·obtain⟨a1,a2,a3,a4⟩:=h1
    obtain⟨b1,b2,b3,b4⟩:=h2
    have hb:=Fq (u:=u+1) a1 a2 (by omega) (by omega)
    rw[Ah (n:=u+1) (by omega),Ah (n:=n*(u+1)) (by omega),Ah (n:=n*(u+1)+v) (by omega)]
    simp[In,a1,a2,a3,a4,b3,b4,h3]
   ·simp[h1,h2,h3]
  ·simp[h1,h3]
def CD(n t:Int):Option Tok:=
 if In n t then some (.ver t)
 else if Sz n∧n≤t∧t<n*(n+1)∧t/n-1≠t % n then some (.arc (t/n-1) (t % n))
 else none
def Od:Option Tok→Int×Int×Bool×Bool×Unit
 |some (.ver v)=>(v,0,false,true,())
 |some (.arc u v)=>(u,v,true,true,())
 |none=>(0,0,false,false,())
def Dm(n:Int):Tok→Int
 |.ver v=>v
 |.arc u v=>n*(u+1)+v
def okT(n:Int):Tok→Prop
 |.ver v=>In n v
 |.arc u v=>In n u∧In n v∧u≠v
theorem Yq{n u v:Int}(h1:In n u)(h2:In n v):n≤n*(u+1)+v∧n*(u+1)+v<n*(n+1)∧(n*(u+1)+v)/n=u+1∧(n*(u+1)+v) % n=v:=by
 obtain⟨a1,a2,a3,a4⟩:=h1
 obtain⟨b1,b2,b3,b4⟩:=h2
 have e2:n*(u+1)=n*u+n:=by rw[AmK,AmL]
 have e3:n*(n+1)=n*n+n:=by rw[AmK,AmL]
 have hb:=Fq (u:=u) a1 a2 (by omega) (by omega)
 have hle:n*(u+1)≤n*n:=Int.mul_le_mul_of_nonneg_left (by omega) (by omega)
 have hd:(n*(u+1)+v)/n=u+1:=by
  rw[Int.add_comm,Int.add_mul_ediv_left _ _ (by omega),Int.ediv_eq_zero_of_lt b3 b4];omega
 have hm:(n*(u+1)+v) % n=v:=by
  rw[Int.add_comm,Int.add_mul_emod_self_left,Int.emod_eq_of_lt b3 b4]
 exact⟨by omega,by omega,hd,hm⟩
theorem AKl{n t:Int}(hn:Sz n)(h1:n≤t)(h2:t<n*(n+1)):In n (t/n-1)∧In n (t % n)∧n*(t/n-1+1)+t % n=t:=by
 obtain⟨a1,a2⟩:=hn
 have g1:1≤t/n:=(Int.le_ediv_iff_mul_le (by omega)).2 (by omega)
 have g2:t/n<n+1:=(Int.ediv_lt_iff_lt_mul (by omega)).2 (by rw[Int.mul_comm];exact h2)
 have g3:=Int.emod_nonneg t (show n≠0 by omega)
 have g4:=Int.emod_lt_of_pos t (show 0<n by omega)
 have g5:=Int.mul_ediv_add_emod t n
 refine⟨⟨a1,a2,by omega,by omega⟩,⟨a1,a2,g3,g4⟩,?_⟩
 rw[Int.sub_add_cancel]
 exact g5
theorem Dx{n:Int}{t:Tok}(h:okT n t):CD n (Dm n t)=some t:=by
 cases t with
 |ver v=>simp only[okT]at h;simp[CD,Dm,h]
 |arc u v=>
  obtain⟨h1,h2,h3⟩:=h
  obtain⟨g1,g2,g3,g4⟩:=Yq h1 h2
  have hni:¬ In n (n*(u+1)+v):=fun h=>by have:=h.2.2.2;omega
  have:u+1-1=u:=by omega
  simp only[CD,Dm,hni,Ajb,g3,g4,this]
  rw[AjV ⟨⟨h1.1,h1.2.1⟩,g1,g2,h3⟩]
theorem VI{n x:Int}{t:Tok}(h:CD n x=some t):okT n t∧Dm n t=x:=by
 rw[CD]at h
 split at h
 ·cases h;exact⟨by assumption,rfl⟩
 ·split at h
  ·rename_i hh
   cases h
   obtain⟨d1,d2,d3⟩:=AKl hh.1 hh.2.1 hh.2.2.1
   exact⟨⟨d1,d2,hh.2.2.2⟩,d3⟩
  ·cases h
theorem FT{n u v:Int}(h:okT n (.arc u v)):EG n u v=Dm n (.arc u v):=by
 simp only[okT]at h
 rw[EG,AjV h];rfl
theorem GZ{n:Int}{a b:Tok}(ha:okT n a)(hb:okT n b)(h:Dm n a=Dm n b):a=b:=by
 have:=Dx ha
 rw[h,Dx hb]at this
 exact(AkR this).symm
theorem AQ5(n t:Int)(ht:-9223372036854775808≤t∧t≤9223372036854775807):ZO (n,t,())=some (Od (CD n t)):=by
 rw[AFY,Qf]
 simp only[Ky]
 by_cases hs:Sz n
 ·obtain⟨a1,a2⟩:=hs
  have hb:=Fq (u:=n) a1 a2 (by omega) (by omega)
  have e3:n*(n+1)=n*n+n:=by rw[AmK,AmL]
  rw[Ah (n:=n+1) (by omega),Ah (n:=n*(n+1)) (by omega)]
  simp only[Sz,a1,a2,and_self,AjU,AjT,Ai,Ax]
  by_cases h1:t<0
  ·have hni:¬ In n t:=fun h=>by have:=h.2.2.1;omega
   have h2:¬ n≤t:=by omega
   simp only[h1,AjU,CD,hni,Ajb,h2,AlS,and_false,Od]
  ·simp only[h1,Aji]
   by_cases h2:n*(n+1)≤t
   ·have hni:¬ In n t:=fun h=>by have:=h.2.2.2;omega
    have h3:¬ t<n*(n+1):=by omega
    simp only[h2,AjU,CD,hni,Ajb,h3,AlS,and_false,Od]
   ·simp only[h2,Aji]
    by_cases h3:t<n
    ·have hi:In n t:=⟨a1,a2,by omega,h3⟩
     simp only[h3,AjU,CD,hi,Ajs,Od]
    ·have hni:¬ In n t:=fun h=>h3 h.2.2.2
     have hq:t.tdiv n=t/n:=AlM (by omega)
     have hm:t.tmod n=t % n:=Int.tmod_eq_emod_of_nonneg (by omega)
     obtain⟨d1,d2,d3⟩:=AKl (t:=t) ⟨a1,a2⟩ (by omega) (by omega)
     have q1:=d1.2.2.1
     have q2:=d1.2.2.2
     simp only[h3,Aji,TQ,TS,AIx,AAh]
     rw[AjS (by omega),AjS (by omega),hq,hm,Ah (n:=t/n) (by omega)]
     simp only[]
     rw[Ah (n:=t/n-1) (by omega),Ar,CD,AjS hni]
     by_cases h4:t/n-1=t % n
     ·rw[AjS (by intro h;exact h.2.2.2 h4),AjG h4];rfl
     ·rw[AjV ⟨⟨a1,a2⟩,by omega,by omega,h4⟩,AjF h4];rfl
 ·have hni:¬ In n t:=fun h=>hs ⟨h.1,h.2.1⟩
  simp only[hs,Aji,Ajw,CD,hni,Ajb,AlS,Od]
theorem AUK(xs ys:List Int)(hs:xs.length<9223372036854775808):La (xs,ys,())=some (decide (xs=ys),()):=by
 rw[AGa,RI,ACO]
 by_cases hl:xs.length=ys.length
 ·rw[AjG hl]
  simp only[AjT]
  rcases AMs (step:=E0) (fun i=>(xs,ys,((i:Nat):Int),())) xs.length (fun i => !decide (xs.getD i 0=ys.getD i 0)) (fun _=>.inl (false,())) (.inr (.inl ())) hs (fun i hi=>by
   rw[E0,AL,AO,AjG hi]
   simp (disch:=omega) only[Cc (0:Int),AN,Ar]
   by_cases h:xs.getD i 0=ys.getD i 0
   ·rw[AjG h];simp
   ·rw[AjF h];simp) (by rw[E0,AL,AO,AjF (by omega)])with⟨k,hk,hP,_,e⟩|⟨h,e⟩
  ·have e':AW E0 many (xs,ys,(0:Int),())=_:=e
   rw[e']
   have:xs≠ys:=XH (0:Int) (j:=k) (by simpa using hP)
   simp[this]
  ·have e':AW E0 many (xs,ys,(0:Int),())=_:=e
   rw[e']
   have:xs=ys:=HP (0:Int) hl fun j hj=>by simpa using h j hj
   simp[this]
 ·rw[AjF hl]
  have:xs≠ys:=fun e=>hl (by rw[e])
  simp[this]
def BU(n:Nat):List (List Int):=(List.range n).map fun(v:Nat)=>[(v:Int)]
theorem Qk(n:Nat):BU (n+1)=BU n++[[(n:Int)]]:=by simp[BU,Aki]
theorem Wk(n:Nat):(BU n).length=n:=by simp[BU]
theorem ARJ(N:Nat)(hN:N≤64)(c:Int):∀ (k i n:Nat),i+k=N→k<n→AY Hr n (c,(N:Int),BU i,(N:Int),(i:Int),())=some (.inl (c,(N:Int),BU N,())):=by
 intro k
 induction k with
 |zero=>
  intro i n hi hn
  obtain⟨n,rfl⟩:∃ k,n=k+1:=⟨n-1,by omega⟩
  have:i=N:=by omega
  subst this
  rw[AY,Hr,AO,AjF (by omega)]
 |succ k ih=>
  intro i n hi hn
  obtain⟨n,rfl⟩:∃ k,n=k+1:=⟨n-1,by omega⟩
  rw[AY,Hr,AO,AjG (by omega)]
  simp only[AL,Wk,AjP,Ajh]
  rw[BY (by omega),AN (by omega)]
  simp only[Cj,← Qk]
  exact ih (i+1) n (by omega) (by omega)
def HL(n:Int):Int×List (List Int)×Int×Unit:=if Sz n then(n,BU n.toNat,0,())else(0,[],1,())
theorem AFi(n:Int):AMH (n,())=some (HL n):=by
 have hm:4294967296<many:=by simp only[many];omega
 rw[AMG,YZ,HL]
 simp only[Ky]
 by_cases h:Sz n
 ·obtain⟨h1,h2⟩:=h
  obtain⟨N,rfl⟩:=AjO (show 0≤n by omega)
  have hS:Sz (N:Int):=⟨by omega,by omega⟩
  have e:=ARJ N (by omega) 0 N 0 many (by omega) (by omega)
  have e':AY Hr many (0,(N:Int),[],(N:Int),(0:Int),())=_:=e
  simp[hS,An,e']
 ·simp[h]
end Go.Pev.Pl
end
section
namespace Go.Pev.Pl
theorem Px(xs:List Int)(t:Int)(hs:xs.length<9223372036854775808):Py (xs,t,())=some (pos xs t,()):=by
 rw[AGe,RL]
 have e:=HD (step:=Fw) (fun i=>(xs,t,AI xs,(i:Int),())) xs (fun x=>decide (x=t)) (fun i=>.inl ((i:Int),())) (.inr (.inl ())) hs
  (fun i x hi hx=>by
   rw[Fw,AL,AO,AjG hi]
   simp only[Ag hx,Ar]
   by_cases h:x=t
   ·simp[h]
   ·simp only[h,Ajz h,Aji];rw[AN (by omega)];simp)
  (by rw[Fw,AL,AO,AjF (by omega)])
 have e':AW Fw many (xs,t,AI xs,(0:Int),())=_:=e
 rw[e',ALJ,pos]
 by_cases h:t∈xs<;>simp[h]
theorem J5(xs:List Int)(t:Int)(hs:xs.length<9223372036854775808):GB (xs,t,())=some (decide (t∈xs),()):=by
 rw[Rn,JP]
 simp only[Px xs t hs,Ax]
 by_cases h:t∈xs
 ·obtain⟨k,e,_⟩:=AI1 h
  rw[e];simp[h]
 ·rw[Qz h];simp[h]
def Rt(xs:List Int):Prop:=xs.length≤1000∧(∀ x∈xs,0≤x∧x≤10000)∧xs.Nodup
instance (xs:List Int):Decidable (Rt xs):=inferInstanceAs (Decidable (_∧_∧_))
theorem Q8(xs:List Int):xs.Nodup↔∀ i,i<xs.length→xs.getD i 0∉xs.take i:=by
 rw[List.Nodup,Akt]
 constructor
 ·intro h i hi hm
  obtain⟨j,hj,e⟩:=AlP.1 hm
  have:=h j i (by omega) hi (by omega)
  rw[AjK,AjM hi,Aju]at e
  exact this e
 ·intro h i j hi hj hij e
  apply h j hj
  rw[AjK,AjM hj,Aju,← e]
  exact AlP.2 ⟨i,by omega,rfl⟩
theorem AP8(xs:List Int)(hs:xs.length<9223372036854775808):EO (xs,())=some (xs.any (fun x=>decide (x<0)||decide (10000<x)),()):=by
 rw[Kh,EU,MP,FI]
 have e:=HD (step:=CA) (fun i=>(xs,AI xs,(i:Int),())) xs (fun x=>decide (x<0)||decide (10000<x)) (fun i=>.inl ((i:Int),())) (.inr (.inl ())) hs
  (fun i x hi hx=>by
   rw[CA,AL,AO,AjG hi]
   simp only[Ag hx,Ai]
   rw[AN (by omega)]
   by_cases h:x<0
   ·simp[h]
   ·by_cases h2:10000<x
    ·simp[h,h2]
    ·simp[h,h2])
  (by rw[CA,AL,AO,AjF (by omega)])
 have e':AW CA many (xs,AI xs,(0:Int),())=_:=e
 rw[e']
 generalize (xs.any fun x=>decide (x<0)||decide (10000<x))=b
 cases b<;>simp[Ax]
theorem Adc(xs:List Int)(hs:xs.length<9223372036854775808):once (xs,())=some (decide xs.Nodup,()):=by
 rw[AWl,AJZ]
 have e:=DZ (step:=LK) (fun i m=>(xs,m,xs,AI xs,(i:Int),())) xs (fun x m=>.inl (Ae m x (IntKind.wrap .i64 (((AP m x).getD (0:Int))+(1:Int))))) (fun m=>.inl (xs,m,())) (fun _ _=>True) hs
  (fun i x m hi hx _=>by
   refine⟨fun m' h' => ?_,fun r h'=>by cases h'⟩
   cases h'
   rw[LK,AL,AO,AjG hi]
   simp only[Ag hx]
   rw[AN (by omega)]
   exact⟨rfl,trivial⟩)
  (fun m _=>by rw[LK,AL,AO,AjF (by omega)]) [] trivial
 have e':AW LK many (xs,([]:List (Int×Int)),xs,AI xs,(0:Int),())=_:=e
 rw[e',Bd]
 have key:∀ (l:List Int) (m:List (Int×Int)),BI (l.foldl (fun m x=>Ae m x (IntKind.wrap .i64 (((AP m x).getD (0:Int))+(1:Int)))) m)=dd (BI m) l:=by
  intro l
  induction l with
  |nil=>intro m;rfl
  |cons x l ih=>intro m;rw[AkC,ih,Pt,dd]
 have hk:=key xs []
 generalize xs.foldl (fun m x=>Ae m x (IntKind.wrap .i64 (((AP m x).getD (0:Int))+(1:Int)))) []=m at *
 simp only[ACO]
 have:m.length=(dd [] xs).length:=by rw[← UG,hk];rfl
 rw[this]
 simp only[Aet]
theorem PY(xs:List Int):Mq (xs,())=some (decide (Rt xs),()):=by
 rw[AF1,Qo,AL,Ai]
 by_cases hl:xs.length≤1000
 ·rw[AjF (by omega)]
  simp only[AP8 xs (by omega),Adc xs (by omega)]
  have hany:(xs.any fun x=>decide (x<0)||decide (10000<x)) = !decide (∀ x∈xs,0≤x∧x≤10000):=by
   rw[AkW]
   simp only[AkS,AkU,AjI,AkN,AkB]
   constructor
   ·rintro⟨x,hx,h⟩ hh
    have:=hh x hx
    omega
   ·intro h
    refine Aj6 fun hc=>h fun x hx => ?_
    refine Aj6 fun hn=>hc ⟨x,hx,by omega⟩
  rw[hany]
  by_cases h1:∀ x∈xs,0≤x∧x≤10000
  ·rw[AjG h1]
   by_cases h2:xs.Nodup
   ·rw[AjG h2,AjG (show Rt xs from⟨hl,h1,h2⟩)];rfl
   ·rw[AjF h2,AjF (show ¬ Rt xs from fun h=>h2 h.2.2)];rfl
  ·rw[AjF h1,AjF (show ¬ Rt xs from fun h=>h1 h.2.1)];rfl
 ·rw[AjG (by omega),AjF (show ¬ Rt xs from fun h=>hl h.1)]
def rot(xs:List Int)(k:Nat):List Int:=xs.drop k++xs.take k
theorem AaK(n:Nat)(hn:n<4294967296):APa ((n:Int),())=some ([],()):=by
 have e0:IntKind.wrap .i64 ((n:Int)-IntKind.wrap .i64 ((0:Int)-0))=(n:Int):=by rw[Ah (n:=(0:Int)-0) (by omega),Ah (by omega)];omega
 rw[APZ,Yn]
 simp only[e0,Ai]
 rw[AjF (by omega)]
 simp only[]
 by_cases h:0<n
 ·rw[AjG (by omega)]
  have s1:By ([]:List Unit) (0:Int) (0:Int)=some []:=by rw[Yb];rfl
  have s2:By (EN (AK (n:Int)) (0:Int)) (0:Int) (0:Int)=some []:=by
   rw[Yb,On,AjV (by omega)]
   simp
  have s3:Fb (n:Int)=true:=(OM _).2 (by omega)
  simp only[s1,s2,s3]
  rfl
 ·rw[AjF (by omega)]
theorem JJ{α:Type}{xss:List (List α)}{i:Nat}{x:List α}(h:xss[i]? = some x):(xss.take (i+1)).flatten=(xss.take i).flatten++x:=by
 rw[List.take_add_one,h];simp
theorem MQ{α:Type}(xss:List (List α))(i:Nat):(xss.take i).flatten.length≤xss.flatten.length:=by
 conv=>rhs;rw[← AkD i xss,List.flatten_append,AjQ]
 omega
theorem Nc(xss:List (List Int))(hs:xss.length<4294967296)(h:xss.flatten.length<4294967296):JQ (xss,())=some (xss.flatten,()):=by
 rw[ADR,OO]
 have e:=DZ (step:=Ei) (fun i (a:Nat)=>(xss,(a:Int),xss,AI xss,(i:Int),())) xss (fun x a=>.inl (a+x.length)) (fun a=>.inl (xss,(a:Int),())) (fun i a=>a=(xss.take i).flatten.length) (by omega)
  (fun i x a hi hx ha=>by
   refine⟨fun m' h' => ?_,fun r h'=>by cases h'⟩
   cases h'
   have h1:=JJ hx
   have h2:=MQ xss (i+1)
   rw[h1,AjQ]at h2
   rw[Ei]
   simp only[AL]
   rw[AO,AjG hi]
   simp only[Ag hx]
   rw[wrap_add (by omega),AN (by omega),Ai,AjF (by omega)]
   exact⟨rfl,by rw[h1,AjQ,ha]⟩)
  (fun a _=>by rw[Ei,AL,AO,AjF (by omega)]) 0 rfl
 have e':AW Ei many (xss,(0:Int),xss,AI xss,(0:Int),())=_:=e
 rw[e',Bd]
 have hsum:∀ (l:List (List Int)) (a:Nat),l.foldl (fun a x=>a+x.length) a=a+l.flatten.length:=by
  intro l
  induction l with
  |nil=>intro a;rfl
  |cons x l ih=>intro a;rw[AkC,ih,AlR,AjQ];omega
 rw[hsum,AkK]
 simp only[AaK _ h]
 have g:=DZ (step:=Eh) (fun i (a:List Int)=>(a,xss,AI xss,(i:Int),())) xss (fun x a=>.inl (a++x)) (fun a=>.inl (a,())) (fun i a=>a=(xss.take i).flatten) (by omega)
  (fun i x a hi hx ha=>by
   refine⟨fun m' h' => ?_,fun r h'=>by cases h'⟩
   cases h'
   have h1:=JJ hx
   have h2:=MQ xss (i+1)
   rw[h1,AjQ]at h2
   rw[Eh]
   simp only[AL]
   rw[AO,AjG hi]
   simp only[Ag hx]
   rw[AN (by omega),BY (by rw[ha];omega)]
   exact⟨rfl,by rw[h1,ha]⟩)
  (fun a _=>by rw[Eh,AL,AO,AjF (by omega)]) [] rfl
 have g':AW Eh many ([],xss,AI xss,(0:Int),())=_:=g
 rw[g',Bd]
 have hcat:∀ (l:List (List Int)) (a:List Int),l.foldl (fun a x=>a++x) a=a++l.flatten:=by
  intro l
  induction l with
  |nil=>intro a;simp
  |cons x l ih=>intro a;rw[AkC,ih,AlR,AkF]
 rw[hcat]
 rfl
theorem ZH(xs:List Int)(k:Nat)(hk:k≤xs.length)(hs:xs.length<2147483648):Sx (xs,(k:Int),())=some (rot xs k,()):=by
 rw[AFX,Qe]
 simp only[Da hk,Hu hk]
 rw[Nc _ (by simp) (by simp;omega)]
 simp[rot]
def A7(xs:List Int)(t:Int):List Int:=rot xs (xs.findIdx (fun x=>decide (x=t)))
def JI(xs:List Int)(t:Int):List Int×Bool×Unit:=if Rt xs∧t∈xs then(A7 xs t,true,())else([],false,())
theorem AAa{xs:List Int}{t:Int}(h:t∈xs):∃ a b,xs=a++t::b∧t∉a∧A7 xs t=t::b++a:=by
 obtain⟨k,e,hk,hg,h1,h2⟩:=AI1 h
 rw[pos,AjV h]at e
 have e':xs.findIdx (fun x=>decide (x=t))=k:=by omega
 refine⟨_,_,h1,h2,?_⟩
 rw[A7,e',rot]
 congr 1
 rw[Aj7 hk]
 congr 1
 simpa [hk]using hg
theorem AF4(xs:List Int)(t:Int):AF5 (xs,t,())=some (JI xs t):=by
 rw[AM7,Ye,AGD,Q1,JI]
 simp only[PY]
 by_cases hr:Rt xs
 ·have hl:=hr.1
  simp only[hr,AjU,AjT,Ala]
  have e:AW Es many (xs,[],[t],AI [t],(0:Int),())=some (.inl ([pos xs t],())):=by
   have g:=DZ (step:=Es) (fun i (a:List Int)=>(xs,a,[t],AI [t],(i:Int),())) [t] (fun x a=>.inl (a++[pos xs x])) (fun a=>.inl (a,())) (fun i a=>a.length=i) (by simp)
    (fun i x a hi hx ha=>by
     refine⟨fun m' h' => ?_,fun r h'=>by cases h'⟩
     cases h'
     rw[Es,AL,AO,AjG hi]
     simp only[Ag hx,Px xs x (by omega)]
     simp only[AjP,Ajh]at hi
     rw[AN (by omega),BY (by simp only[AL,AjP,Ajh];omega)]
     exact⟨rfl,by simp[ha]⟩)
    (fun a _=>by rw[Es,AL,AO,AjF (by omega)]) [] rfl
   have g':AW Es many (xs,[],[t],AI [t],(0:Int),())=_:=g
   rw[g'];rfl
  rw[e]
  simp only[J5 [pos xs t] (-1) (by simp)]
  by_cases h:t∈xs
  ·have hk:xs.findIdx (fun x=>decide (x=t))<xs.length:=Ak2.2 ⟨t,h,by simp⟩
   rw[pos,AjV h,AjV h,A7]
   generalize xs.findIdx (fun x=>decide (x=t))=k at *
   rw[AjF (by simp)]
   have i0:idx [(k:Int)] (0:Int)=some (k:Int):=by rw[EK];rfl
   have d0:AU [(k:Int)] 0 (0:Int)=(k:Int):=rfl
   simp only[Ajw,AjT,i0,d0,ZH xs k (by omega) (by omega)]
  ·rw[Qz h,AjS h]
   simp
 ·simp[hr]
def Gp:List Int→Int
 |[]=>0
 |x::xs=>xs.foldl (fun a y=>CR a y) x
theorem AUn:∀ (xs:List Int) (a:Int),(xs.foldl (fun a y=>CR a y) a)≤a∧(∀ x∈xs,xs.foldl (fun a y=>CR a y) a≤x)∧(xs.foldl (fun a y=>CR a y) a=a∨xs.foldl (fun a y=>CR a y) a∈xs):=by
 intro xs
 induction xs with
 |nil=>intro a;simp
 |cons x xs ih=>
  intro a
  rw[AkC]
  obtain⟨h1,h2,h3⟩:=ih (CR a x)
  have hm:CR a x≤a∧CR a x≤x∧(CR a x=a∨CR a x=x):=by
   rw[CR];split<;>omega
  refine⟨by omega,fun y hy => ?_,?_⟩
  ·rcases AjN.1 hy with rfl|hy
   ·omega
   ·exact h2 y hy
  ·rcases h3 with h|h
   ·rcases hm.2.2 with e|e
    ·exact .inl (by rw[h,e])
    ·exact .inr (by rw[h,e];simp)
   ·exact .inr (Ajj _ h)
theorem Ez{xs:List Int}(h:xs≠[]):Gp xs∈xs∧∀ x∈xs,Gp xs≤x:=by
 cases xs with
 |nil=>exact absurd rfl h
 |cons x xs=>
  obtain⟨h1,h2,h3⟩:=AUn xs x
  refine⟨?_,fun y hy => ?_⟩
  ·rcases h3 with h|h
   ·rw[Gp,h];simp
   ·exact Ajj _ h
  ·rcases AjN.1 hy with rfl|hy
   ·exact h1
   ·exact h2 y hy
theorem Agh{xs:List Int}{m:Int}(h1:m∈xs)(h2:∀ x∈xs,m≤x):Gp xs=m:=by
 obtain⟨g1,g2⟩:=Ez (List.ne_nil_of_mem h1)
 have:=g2 m h1
 have:=h2 _ g1
 omega
theorem AOl(xs:List Int)(h:xs≠[])(hs:xs.length<9223372036854775808):AZZ (xs,())=some (Gp xs,()):=by
 cases xs with
 |nil=>exact absurd rfl h
 |cons x xs=>
  rw[AWs,AJf,AL,Ai,AjF (by simp only[AjP];omega)]
  have i0:idx (x::xs) (0:Int)=some x:=by rw[EK];rfl
  simp only[i0]
  simp only[AjP]at hs
  have e:=DZ (step:=LQ) (fun i (a:Int)=>(x::xs,a,((i+1:Nat):Int),())) xs (fun y a=>.inl (CR a y)) (fun a=>.inl (a,())) (fun _ _=>True) (by omega)
   (fun i y a hi hy _=>by
    refine⟨fun m' h' => ?_,fun r h'=>by cases h'⟩
    cases h'
    rw[LQ,AL,AO,AjG (by simp only[AjP];omega)]
    simp only[Ag (xs:=x::xs) (n:=i+1) (by simpa using hy)]
    rw[AN (by omega)]
    exact⟨rfl,trivial⟩)
   (fun a _=>by rw[LQ,AL,AO,AjF (by simp)]) x trivial
  have e':AW LQ many (x::xs,x,(1:Int),())=_:=e
  rw[e',Bd]
  rfl
def plain(xs:List Int):List Int:=if Rt xs∧xs≠[]then A7 xs (Gp xs)else []
theorem ASG(xs:List Int):AAY (xs,())=some (plain xs,()):=by
 rw[AF2,Qp,plain]
 simp only[PY]
 by_cases hr:Rt xs
 ·have hl:=hr.1
  simp only[hr,AjU,AjT,Ala]
  by_cases h:xs=[]
  ·subst h;simp[AL,B9]
  ·have hp:0<xs.length:=List.length_pos_iff.2 h
   rw[AL,Ar,AjF (by omega)]
   have hm:=(Ez h).1
   have hk:xs.findIdx (fun x=>decide (x=Gp xs))<xs.length:=Ak2.2 ⟨_,hm,by simp⟩
   simp only[AOl xs h (by omega),Px xs _ (show xs.length<9223372036854775808 by omega)]
   rw[pos,AjV hm,AjV (by simpa using h),A7]
   simp only[ZH xs _ (Ak4 hk) (by omega)]
 ·simp[hr]
theorem H3{xs:List Int}(hr:Rt xs)(h:xs≠[]):∃ a b,xs=a++Gp xs::b∧plain xs=Gp xs::b++a:=by
 obtain⟨a,b,h1,_,h2⟩:=AAa (Ez h).1
 exact⟨a,b,h1,by rw[plain,AjV ⟨hr,h⟩,h2]⟩
end Go.Pev.Pl
end
section
namespace Go.Pev.Pl
open Tok
def TI(n:Int)(xs:List Int):Prop:=∃ L,xs=L.map (Dm n)∧(∀ t∈L,okT n t)∧T L
noncomputable instance (n:Int) (xs:List Int):Decidable (TI n xs):=Classical.propDecidable _
abbrev AVi:=List Int×List (Int×Int)×List (Int×Int)
abbrev Ahq:=(Bool×Unit)⊕(List Int×List (Int×Int)×List (Int×Int)×Unit)⊕Unit
def goF(n x:Int)(s:AVi):AVi⊕Ahq:=
 match CD n x with
 |none=>.inr (.inl (false,()))
 |some t=>match Tok.step (s.1,BI s.2.1) t with
  |none=>.inr (.inl (false,()))
  |some s'=>match t with
   |.ver v=>.inl (s'.1,s.2.1,Ae s.2.2 v (IntKind.wrap .i64 (((AP s.2.2 v).getD (0:Int))+(1:Int))))
   |.arc _ v=>.inl (s'.1,if v∈BI s.2.1 then s.2.1 else Ae s.2.1 v 1,s.2.2)
def one(came:List (Int×Int)):Prop:=∀ k,(0<(AP came k).getD (0:Int))↔k∈BI came
theorem AZM{came:List (Int×Int)}(h:one came)(v:Int):one (Ae came v 1):=by
 intro k
 rw[D3,FF]
 by_cases e:k=v
 ·simp[e]
 ·simp only[e,Ajb,false_or];exact h k
theorem AaQ(n:Int)(xs:List Int)(i:Nat)(x:Int)(hx:xs[i]? = some x)(hi:i<xs.length)(hl:xs.length<4294967296)(hxr:-9223372036854775808≤x∧x≤9223372036854775807)
  (w:Int) (r:List Int) (came met:List (Int×Int)) (hr:r.length<4294967295) (hc:one came) (hsub:∀ y∈w::r,y∈BI came) :
  JH (n,(w::r).reverse,came,met,xs,AI xs,(i:Int),())=match goF n x (w::r,came,met)with
   |.inl s=>some (.inl (n,s.1.reverse,s.2.1,s.2.2,xs,AI xs,((i+1:Nat):Int),()))
   |.inr y=>some (.inr y):=by
 have hd:AI ((w::r).reverse)=((r.length+1:Nat):Int):=by simp[AL]
 have e1:IntKind.wrap .i64 (((r.length+1:Nat):Int)-1)=(r.length:Int):=by rw[BL (by omega)];rfl
 have i1:idx ((w::r).reverse) (r.length:Int)=some w:=by rw[AKC];simp
 have g1:AU ((w::r).reverse) (AK (r.length:Int)) (0:Int)=w:=by rw[Eg];simp
 have f1:∀ v:Int,fits (AI ((w::r).reverse)+AI [v])=true:=fun v=>BY (by rw[hd,AL];simp only[AjP,Ajh];omega)
 have ap:∀ v:Int,A2 ((w::r).reverse) [v]=(v::w::r).reverse:=fun v=>by simp[Cj]
 rw[JH,AL,AO,AjG hi]
 rw[AL]at hd
 simp only[Ag hx,AQ5 n x hxr,goF]
 cases ht:CD n x with
 |none=>rfl
 |some t=>
  cases t with
  |ver v=>
   simp only[Od,AjT,Ajw,AL,hd,e1,i1,g1,Ar,Tok.step]
   rw[AN (by omega)]
   by_cases h:w=v
   ·simp[h]
   ·simp[h]
  |arc u v=>
   simp only[Od,AjT,AL,hd,e1,i1,g1,Ar,Tok.step]
   rw[AN (by omega)]
   by_cases h:w=u
   ·subst h
    rw[AjG rfl]
    simp only[AjT]
    cases r with
    |nil=>
     have z:ilt (0:Int) ((([]:List Int).length:Nat):Int)=false:=by rw[Ai];rfl
     simp only[z]
     rw[Ai]
     have hcv:=hc v
     by_cases hv:v∈BI came
     ·rw[AjG (hcv.2 hv)]
      simp[hv]
     ·rw[AjF (fun h=>hv (hcv.1 h))]
      have f2:=f1 v
      rw[AL,hd]at f2
      have hz:(AP came v).getD (0:Int)=0:=by rw[(XJ came v).2 hv];rfl
      have w1:IntKind.wrap .i64 ((0:Int)+1)=1:=by rw[Ah (by omega)];rfl
      rw[AL]at f2
      simp only[f2,ap v,hz,w1,hv,Ajb,Ajs]
    |cons p r=>
     have z:ilt (0:Int) (((p::r).length:Nat):Int)=true:=by rw[Ai,AjG (by simp only[AjP];omega)]
     have e2:IntKind.wrap .i64 ((((p::r).length:Nat):Int)-1)=(r.length:Int):=by
      rw[BL (by simp only[AjP]at hr ⊢;omega)];rfl
     have i2:idx ((w::p::r).reverse) (r.length:Int)=some p:=by rw[AKC];simp
     have g2:AU ((w::p::r).reverse) (AK (r.length:Int)) (0:Int)=p:=by rw[Eg];simp
     simp only[z,e2,i2,g2]
     by_cases hp:p=v
     ·subst hp
      rw[AjG rfl]
      have hmem:p∈BI came:=hsub p (by simp)
      have s1:By ((w::p::r).reverse) (0:Int) (((p::r).length:Nat):Int)=some ((p::r).reverse):=by
       rw[Hu (by simp)]
       rw[List.reverse_cons,AmA (by simp)]
      have t1:Bq (AK (((p::r).reverse.length:Nat):Int)) ((w::p::r).reverse)=(p::r).reverse:=by
       rw[Bq,J0,List.reverse_cons (a:=w),AmA rfl]
      simp only[s1,t1,hmem,Ajs]
     ·rw[AjF hp]
      simp only[hp,Ajb]
      rw[Ai]
      have hcv:=hc v
      by_cases hv:v∈BI came
      ·rw[AjG (hcv.2 hv)]
       simp[hv]
      ·rw[AjF (fun h=>hv (hcv.1 h))]
       have f2:=f1 v
       rw[AL,hd]at f2
       have hz:(AP came v).getD (0:Int)=0:=by rw[(XJ came v).2 hv];rfl
       have w1:IntKind.wrap .i64 ((0:Int)+1)=1:=by rw[Ah (by omega)];rfl
       rw[AL]at f2
       simp only[f2,ap v,hz,w1,hv,Ajb,Ajs]
   ·rw[AjF h]
    simp[h]
end Go.Pev.Pl
end
section
namespace Go.Pev.Pl
open Tok
theorem Cg{a b:List Int}(ha:a.Nodup)(h:∀ x∈a,x∈b):a.length≤b.length:=by
 induction a generalizing b with
 |nil=>simp
 |cons x a ih=>
  obtain⟨b1,b2,rfl⟩:=AmC (h x (by simp))
  rw[Ajr]at ha
  have:=ih (b:=b1++b2) ha.2 fun y hy=>by
   have:=h y (Ajj _ hy)
   simp only[AjL,AjN]at this ⊢
   rcases this with h|rfl|h
   ·exact .inl h
   ·exact absurd hy ha.1
   ·exact .inr h
  simp only[AjQ,AjP]at this ⊢
  omega
theorem Q7{a b:List Int}(ha:a.Nodup)(h:∀ x∈a,x∈b)(hl:b.length≤a.length):∀ x∈b,x∈a:=by
 intro x hx
 refine Aj6 fun hn => ?_
 have:=Cg (a:=x::a) (b:=b) (Ajr.2 ⟨hn,ha⟩) fun y hy=>by
  rcases AjN.1 hy with rfl|hy
  ·exact hx
  ·exact h y hy
 simp only[AjP]at this
 omega
theorem Zo{way c c2:List Int}(h:∀ x,x∈c↔x∈c2)(t:Tok):
  (Tok.step (way,c) t=none↔Tok.step (way,c2) t=none)∧∀ w1 c1,Tok.step (way,c) t=some (w1,c1)→∃ c1',Tok.step (way,c2) t=some (w1,c1')∧∀ x,x∈c1↔x∈c1':=by
 cases t with
 |ver v=>
  cases way with
  |nil=>simp[Tok.step]
  |cons w r=>
   by_cases e:w=v
   ·simp only[Tok.step,e,Ajs]
    exact⟨by simp,fun w1 c1 hh=>by cases hh;exact⟨c2,rfl,h⟩⟩
   ·simp[Tok.step,e]
 |arc u v=>
  cases way with
  |nil=>simp[Tok.step]
  |cons w r=>
   by_cases e:w=u
   ·cases r with
    |nil=>
     by_cases hv:v∈c
     ·simp[Tok.step,e,hv,(h v).1 hv]
     ·have hv2:v∉c2:=fun q=>hv ((h v).2 q)
      simp only[Tok.step,e,Ajs,hv,hv2,Ajb]
      exact⟨by simp,fun w1 c1 hh=>by cases hh;exact⟨v::c2,rfl,fun x=>by simp[h]⟩⟩
    |cons p r=>
     by_cases e2:p=v
     ·simp only[Tok.step,e,Ajs,e2]
      exact⟨by simp,fun w1 c1 hh=>by cases hh;exact⟨c2,rfl,h⟩⟩
     ·by_cases hv:v∈c
      ·simp[Tok.step,e,e2,hv,(h v).1 hv]
      ·have hv2:v∉c2:=fun q=>hv ((h v).2 q)
       simp only[Tok.step,e,Ajs,e2,hv,hv2,Ajb]
       exact⟨by simp,fun w1 c1 hh=>by cases hh;exact⟨v::c2,rfl,fun x=>by simp[h]⟩⟩
   ·simp[Tok.step,e]
structure GI(s:AVi):Prop where
 ne:s.1≠[]
 one:one s.2.1
 sub:∀ y∈s.1,y∈BI s.2.1
 nc:(BI s.2.1).Nodup
 nm:(BI s.2.2).Nodup
theorem AXG{n x:Int}{s s':AVi}(hi:GI s)(h:goF n x s = .inl s'):
  GI s'∧s'.1.length≤s.1.length+1∧∃ t c1,CD n x=some t∧Tok.step (s.1,BI s.2.1) t=some (s'.1,c1)∧(∀ x,x∈c1↔x∈BI s'.2.1)∧(∀ y,y∈BI s'.2.2↔y∈BI s.2.2∨Tok.ver y=t):=by
 rw[goF]at h
 cases ht:CD n x with
 |none=>rw[ht]at h;cases h
 |some t=>
  rw[ht]at h
  simp only at h
  cases hs:Tok.step (s.1,BI s.2.1) t with
  |none=>rw[hs]at h;cases h
  |some q=>
   obtain⟨w1,c1⟩:=q
   rw[hs]at h
   rcases B7 hs with⟨v,r,rfl,hw,e⟩|⟨u,v,r,rfl,hw,e⟩|⟨u,v,r,rfl,hw,hh,hn,e⟩
   ·cases h
    cases e
    refine⟨⟨hi.ne,hi.one,hi.sub,hi.nc,KR hi.nm _ _⟩,by simp,_,_,rfl,hs,fun x=>Iff.rfl,fun y => ?_⟩
    rw[FF]
    simp[or_comm]
   ·cases h
    cases e
    simp only at hw
    have hv:v∈BI s.2.1:=hi.sub v (by rw[hw];simp)
    simp only[hv,Ajs]
    refine⟨⟨by simp,hi.one,fun y hy=>hi.sub y (by rw[hw];exact Ajj _ hy),hi.nc,hi.nm⟩,by rw[hw];simp,_,_,rfl,hs,fun x=>Iff.rfl,fun y=>by simp⟩
   ·cases h
    cases e
    simp only at hw hn
    simp only[hn,Ajb]
    refine⟨⟨by simp,AZM hi.one v,fun y hy => ?_,KR hi.nc _ _,hi.nm⟩,by rw[hw];simp,_,_,rfl,hs,fun x => ?_,fun y=>by simp⟩
    ·rw[FF]
     rcases AjN.1 hy with rfl|hy
     ·exact .inl rfl
     ·exact .inr (hi.sub y (by rw[hw];exact hy))
    ·rw[FF,AjN]
def APd(s:AVi):Ahq:=.inr (.inl (s.1.reverse,s.2.1,s.2.2,()))
theorem AaO(n:Int):∀ (xs:List Int) (s:AVi) (c:List Int),GI s→(∀ x,x∈c↔x∈BI s.2.1) →
  (∃ L s' c',xs=L.map (Dm n)∧(∀ t∈L,okT n t)∧run (s.1,c) L=some (s'.1,c')∧walk (goF n) APd xs s=APd s'∧GI s'∧(∀ x,x∈c'↔x∈BI s'.2.1)∧(∀ x,x∈BI s'.2.2↔x∈BI s.2.2∨Tok.ver x∈L)) ∨
  (walk (goF n) APd xs s = .inl (false,())∧∀ L,xs=L.map (Dm n)→(∀ t∈L,okT n t)→run (s.1,c) L=none):=by
 intro xs
 induction xs with
 |nil=>intro s c hi hc;exact .inl ⟨[],s,c,rfl,by simp,rfl,rfl,hi,hc,by simp⟩
 |cons x xs ih=>
  intro s c hi hc
  rw[walk]
  have bad:∀ {t},CD n x=some t→Tok.step (s.1,BI s.2.1) t=none→∀ L,x::xs=L.map (Dm n)→(∀ t∈L,okT n t)→run (s.1,c) L=none:=by
   intro t ht hs L hL hok
   cases L with
   |nil=>cases hL
   |cons t' L=>
    simp only[Ajm,Ajg]at hL
    have h1:=Dx (hok t' (by simp))
    rw[← hL.1,ht]at h1
    cases h1
    rw[A3,((Zo hc t).1).2 hs]
    rfl
  cases hg:goF n x s with
  |inr r=>
   simp only
   have hr:r = .inl (false,())∧∀ L,x::xs=L.map (Dm n)→(∀ t∈L,okT n t)→run (s.1,c) L=none:=by
    rw[goF]at hg
    cases ht:CD n x with
    |none=>
     rw[ht]at hg
     cases hg
     refine⟨rfl,fun L hL hok => ?_⟩
     cases L with
     |nil=>cases hL
     |cons t' L=>
      simp only[Ajm,Ajg]at hL
      have h1:=Dx (hok t' (by simp))
      rw[← hL.1,ht]at h1
      cases h1
    |some t=>
     rw[ht]at hg
     simp only at hg
     cases hs:Tok.step (s.1,BI s.2.1) t with
     |none=>rw[hs]at hg;cases hg;exact⟨rfl,bad ht hs⟩
     |some q=>
      rw[hs]at hg
      cases t<;>cases hg
   rw[hr.1]
   exact .inr ⟨rfl,hr.2⟩
  |inl s'=>
   simp only
   obtain⟨hi',_,t,c1,ht,hs,hcc,hm⟩:=AXG hi hg
   obtain⟨c1',hs',hcc'⟩:=(Zo (c:=BI s.2.1) (c2:=c) (fun x=>(hc x).symm) t).2 _ _ hs
   obtain⟨g1,g2⟩:=VI ht
   rcases ih s' c1' hi' (fun x=>(hcc' x).symm.trans (hcc x))with⟨L,s2,c2,a1,a2,a3,a4,a5,a6,a7⟩|⟨a1,a2⟩
   ·refine .inl ⟨t::L,s2,c2,by simp[g2,a1],?_,by rw[A3,hs'];exact a3,a4,a5,a6,fun y => ?_⟩
    ·intro y hy
     rcases AjN.1 hy with rfl|hy
     ·exact g1
     ·exact a2 y hy
    ·rw[a7,hm,AjN,or_assoc]
   ·refine .inr ⟨a1,fun L hL hok => ?_⟩
    cases L with
    |nil=>cases hL
    |cons t' L=>
     simp only[Ajm,Ajg]at hL
     have h1:=Dx (hok t' (by simp))
     rw[← hL.1,ht]at h1
     cases h1
     rw[A3,hs']
     exact a2 L hL.2 fun y hy=>hok y (Ajj _ hy)
theorem ASD:∀ {l:List Tok} {s s':List Int×List Int},run s l=some s'→s'.1.getLast? = s.1.getLast? := by
 intro l
 induction l with
 |nil=>intro s s' h;cases h;rfl
 |cons t l ih=>
  intro s s' h
  rw[A3,Aj0]at h
  obtain⟨s1,h1,h2⟩:=h
  rw[ih h2]
  rcases B7 h1 with⟨v,r,rfl,hw,rfl⟩|⟨u,v,r,rfl,hw,rfl⟩|⟨u,v,r,rfl,hw,hh,hn,rfl⟩
  ·rfl
  ·rw[hw,AmF]
  ·rw[hw,AmF]
theorem AcU:∀ {l:List Tok} {s s':List Int×List Int},run s l=some s'→Tok.Inv s→∀ x,Tok.ver x∈l→x∈s'.2:=by
 intro l
 induction l with
 |nil=>intro s s' _ _ x hx;cases hx
 |cons t l ih=>
  intro s s' h hi x hx
  rw[A3,Aj0]at h
  obtain⟨s1,h1,h2⟩:=h
  obtain⟨i1,i2,i3⟩:=Zn h1 hi
  rcases AjN.1 hx with rfl|hx
  ·have:=(I1 h2 i1).2.1
   refine this x (i1.2 x ?_)
   simp only[st]at i3
   exact List.mem_of_head? i3
  ·exact ih h2 i1 x hx
theorem AZi{n:Int}{L:List Tok}(h:(L.map (Dm n)).Nodup):L.Nodup:=by
 rw[List.Nodup,Ake]at h
 exact h.imp fun h e=>h (by rw[e])
theorem AXT{n x:Int}{xs:List Int}(h:TI n (x::xs))(hm:Gp (x::xs)=x):In n x:=by
 obtain⟨L,h1,h2,h3⟩:=h
 obtain⟨v,r,hr⟩:=h3.AP9
 have hv:Tok.ver v∈L:=(hr.mem _).2 (by simp)
 have hvx:v∈x::xs:=by rw[h1];exact Ajc.2 ⟨_,hv,rfl⟩
 have h4:=(Ez (xs:=x::xs) (by simp)).2 v hvx
 rw[hm]at h4
 have h5:=(h2 _ hv).2.2.2
 cases L with
 |nil=>cases h1
 |cons t L=>
  simp only[Ajm,Ajg]at h1
  have h6:=h2 t (by simp)
  cases t with
  |ver w=>rw[h1.1];exact h6
  |arc p q=>
   have:=(Yq h6.1 h6.2.1).1
   have e:x=n*(p+1)+q:=h1.1
   omega
theorem AeT(n:Int)(xs:List Int)(h0:xs≠[])(hs:xs.length<2147483648)(hr:∀ x∈xs, -9223372036854775808≤x∧x≤9223372036854775807)(hn:xs.Nodup)(hm:∀ x,xs.head? = some x→Gp xs=x):
  goes (n,xs,())=some (decide (TI n xs),()):=by
 cases xs with
 |nil=>exact absurd rfl h0
 |cons x0 tl=>
  rw[AXF,AKV]
  have i0:idx (x0::tl) (0:Int)=some x0:=by rw[EK];rfl
  simp only[i0,Ya]
  by_cases hin:In n x0
  ·rw[AjG hin]
   simp only[AjT]
   have hS:GI ([x0],Ae [] x0 1,[]):=by
    refine⟨by simp,fun k => ?_,fun y hy => ?_,?_,by simp[BI]⟩
    ·have:AP (Ae ([]:List (Int×Int)) x0 1) k=if k=x0 then some 1 else none:=by rw[D3];rfl
     rw[this]
     by_cases e:k=x0<;>simp[e,Ae,BI]
    ·simp at hy;subst hy;simp[Ae,BI]
    ·simp[Ae,BI]
   have e:=DZ (step:=JH) (fun i (s:AVi)=>(n,s.1.reverse,s.2.1,s.2.2,x0::tl,AI (x0::tl),(i:Int),())) (x0::tl) (goF n) APd (fun i s=>GI s∧s.1.length≤i+1) (by omega)
    (fun i x s hi hx ⟨hI,hlen⟩=>by
     obtain⟨way,came,met⟩:=s
     cases way with
     |nil=>exact absurd rfl hI.ne
     |cons w r=>
      have hst:=AaQ n (x0::tl) i x hx hi (by omega) (hr x (AjW hx)) w r came met (by simp only[AjP]at hlen hi hs;omega) hI.one hI.sub
      refine⟨fun s' h' => ?_,fun y h' => ?_⟩
      ·rw[h']at hst
       obtain⟨g1,g2,_⟩:=AXG hI h'
       refine⟨hst,g1,?_⟩
       simp only at g2 hlen
       omega
      ·rw[h']at hst
       exact hst)
    (fun s _=>by rw[JH,AL,AO,AjF (by omega)];rfl) ([x0],Ae [] x0 1,[]) ⟨hS,by simp⟩
   have e':AW JH many (n,[x0],Ae [] x0 1,[],x0::tl,AI (x0::tl),(0:Int),())=_:=e
   rw[e']
   have hk0:BI (Ae ([]:List (Int×Int)) x0 1)=[x0]:=rfl
   rcases AaO n (x0::tl) ([x0],Ae [] x0 1,[]) [x0] hS (fun x=>by rw[hk0])with⟨L,s',c',a1,a2,a3,a4,a5,a6,a7⟩|⟨a1,a2⟩
   ·rw[a4]
    obtain⟨t,L',rfl⟩:∃ t L',L=t::L':=by cases L with
     |nil=>cases a1
     |cons t L'=>exact⟨t,L',rfl⟩
    have ht:t = .ver x0:=by
     have h1:=Dx (a2 t (by simp))
     simp only[Ajm,Ajg]at a1
     rw[← a1.1,CD,AjV hin]at h1
     exact(AkR h1).symm
    subst ht
    have hLn:(Tok.ver x0::L').Nodup:=AZi (n:=n) (by rw[← a1];exact hn)
    have hbot:=ASD a3
    have hvs:=AcU a3 (OV x0)
    have hk:(BI s'.2.2).length≤(BI s'.2.1).length:=Cg a5.nm fun x hx=>by
     have:=(a7 x).1 hx
     simp only[BI,AlJ,Ak7,false_or]at this
     exact(a6 x).1 (hvs x this)
    have hiff:(s'.1.length=1∧(BI s'.2.2).length=(BI s'.2.1).length)↔TI n (x0::tl):=by
     constructor
     ·rintro⟨l1,l2⟩
      obtain⟨w,hw⟩:=List.length_eq_one_iff.1 l1
      rw[hw]at hbot a3
      simp at hbot
      subst hbot
      refine⟨_,a1,a2,Tok.Ap.toT ⟨w,L',c',rfl,a3,fun x hx => ?_⟩ hLn⟩
      have h1:=Q7 a5.nm (fun x hx=>by
       have:=(a7 x).1 hx
       simp only[BI,AlJ,Ak7,false_or]at this
       exact(a6 x).1 (hvs x this)) (by omega) x ((a6 x).1 hx)
      have:=(a7 x).1 h1
      simpa [BI]using this
     ·rintro⟨K,k1,k2,k3⟩
      have hKL:K=Tok.ver x0::L':=by
       have:∀ (A B:List Tok),A.map (Dm n)=B.map (Dm n)→(∀ t∈A,okT n t)→(∀ t∈B,okT n t)→A=B:=by
        intro A
        induction A with
        |nil=>intro B h _ _;cases B with
         |nil=>rfl
         |cons b B=>cases h
        |cons a A ih=>
         intro B h hA hB
         cases B with
         |nil=>cases h
         |cons b B=>
          simp only[Ajm,Ajg]at h
          rw[GZ (hA a (by simp)) (hB b (by simp)) h.1,ih B h.2 (fun t ht=>hA t (by simp[ht])) fun t ht=>hB t (by simp[ht])]
       exact this _ _ (by rw[← k1,a1]) k2 a2
      subst hKL
      obtain⟨r,l',c,q1,q2,q3⟩:=k3.AHs
      cases q1
      rw[a3]at q2
      cases hs':s'.1 with
      |nil=>rw[hs']at q2;cases q2
      |cons w r'=>
       rw[hs']at q2
       cases q2
       refine⟨rfl,?_⟩
       have:=Cg a5.nc (b:=BI s'.2.2) fun x hx=>(a7 x).2 (.inr (q3 x ((a6 x).2 hx)))
       omega
    simp only[APd,Ar,AL,List.length_reverse]
    rw[UG,UG]at hiff
    by_cases l1:s'.1.length=1
    ·rw[AjG (show(s'.1.length:Int)=1 by omega)]
     simp only[l1,Ala]at hiff
     by_cases l2:s'.2.2.length=s'.2.1.length
     ·rw[AjG (show(s'.2.2.length:Int)=(s'.2.1.length:Int) by omega),AjG (hiff.1 l2)]
     ·rw[AjF (show ¬ (s'.2.2.length:Int)=(s'.2.1.length:Int) by omega),AjF (fun h=>l2 (hiff.2 h))]
    ·rw[AjF (show ¬ (s'.1.length:Int)=1 by omega),AjF (fun h=>l1 (hiff.2 h).1)]
   ·rw[a1]
    have:¬ TI n (x0::tl):=by
     rintro⟨K,k1,k2,k3⟩
     obtain⟨r,l',c,q1,q2,q3⟩:Tok.Ap K:=by
      obtain⟨t,L',rfl⟩:∃ t L',K=t::L':=by cases K with
       |nil=>cases k1
       |cons t L'=>exact⟨t,L',rfl⟩
      have h1:=Dx (k2 t (by simp))
      simp only[Ajm,Ajg]at k1
      rw[← k1.1,CD,AjV hin]at h1
      cases h1
      exact k3.AHs
     have hr0:r=x0:=by
      subst q1
      simp only[Ajm,Ajg]at k1
      exact k1.1.symm
     subst hr0
     have:=a2 K k1 k2
     simp only at this
     rw[q2]at this
     cases this
    simp[this]
  ·rw[AjF hin]
   have:¬ TI n (x0::tl):=fun h=>hin (AXT h (hm x0 rfl))
   simp[this]
end Go.Pev.Pl
end
end
section
namespace Go.Pev.Pl.Tok
theorem AhB{v:Int}{p:List Tok}{c:List Int}(h:run ([v],[v]) p=some ([v],c))(hc:∀ x∈c,Tok.ver x∈p)(hn:p.Nodup):T p:=by
 cases p with
 |nil=>
  cases h
  have:=hc v (by simp)
  cases this
 |cons t p=>
  have h':=h
  rw[A3,Aj0]at h'
  obtain⟨s1,h1,h2⟩:=h'
  rcases B7 h1 with⟨y,r,rfl,hw,rfl⟩|⟨a,b,r,rfl,hw,rfl⟩|⟨a,b,r,rfl,hw,hh,hnc,rfl⟩
  ·simp only[Ajg]at hw
   obtain⟨rfl,rfl⟩:=hw
   exact Ap.toT ⟨_,p,c,rfl,h,hc⟩ hn
  ·simp at hw
  ·simp only[Ajg]at hw
   obtain⟨rfl,rfl⟩:=hw
   simp only at hnc
   have hne:v≠b:=by rintro rfl;exact hnc (by simp)
   have hT:T ([Tok.arc v b]++comp [Tok.arc v b] [b,v]):=by
    have:comp [Tok.arc v b] [b,v]=[.ver b,.arc b v,.ver v]:=by simp[comp]
    rw[this]
    have h3:=T.add (.ver v) [] b (T.one v) hne (by simp;exact Ajz hne)
    exact T.rot [.ver v] [.arc v b,.ver b,.arc b v] h3
   have:=AeV p [.arc v b] [b,v] [b,v] c v (.arc v b) h2 ⟨by simp;exact Ajz hne,by simp⟩ (by simp) rfl hT (by
    intro x hx
    have e:comp [Tok.arc v b] [b,v]=[.ver b,.arc b v,.ver v]:=by simp[comp]
    rw[e]at hx
    simp at hx
    simp[hx]) hc hn
   exact this
theorem T.join{u v:Int}{a b:List Tok}(hA:T (.ver u::a))(hB:T (.ver v::b))(hd:∀ x,Tok.ver x∈Tok.ver u::a→Tok.ver x∉Tok.ver v::b):
  T (.ver u :: .arc u v::(.ver v::b ++ .arc v u::a)):=by
 obtain⟨_,fA2,fA3⟩:=hA.facts
 obtain⟨_,fB2,fB3⟩:=hB.facts
 have nA:=hA.nodup
 have nB:=hB.nodup
 obtain⟨_,_,c1,e1,h1,m1⟩:=hA.AHs
 cases e1
 obtain⟨_,_,c2,e2,h2,m2⟩:=hB.AHs
 cases e2
 have huv:u≠v:=by rintro rfl;exact hd u (by simp) (by simp)
 have nAB:∀ t,t∈Tok.ver u::a→t∉Tok.ver v::b:=fun t ht hb=>hd _ (fA2 t ht) (fB2 t hb)
 have n1:Tok.arc u v∉Tok.ver u::a:=fun h=>hd v (fA3 _ _ h).2.1 (by simp)
 have n2:Tok.arc u v∉Tok.ver v::b:=fun h=>hd u (by simp) (fB3 _ _ h).1
 have n3:Tok.arc v u∉Tok.ver u::a:=fun h=>hd v (fA3 _ _ h).1 (by simp)
 have n4:Tok.arc v u∉Tok.ver v::b:=fun h=>hd u (by simp) (fB3 _ _ h).2.1
 have hnd:(Tok.ver u :: .arc u v::(.ver v::b ++ .arc v u::a)).Nodup:=by
  rw[Ajr]at nA
  have q1:Tok.ver u∉Tok.ver v::b:=nAB _ (by simp)
  rw[Ajr,Ajr,AlG,Ajr (a:=Tok.arc v u)]
  refine⟨?_,?_,nB,⟨fun h=>n3 (Ajj _ h),nA.2⟩,fun x hx y hy => ?_⟩
  ·intro h
   rcases AjN.1 h with h|h
   ·cases h
   ·rcases AjL.1 h with h|h
    ·exact q1 h
    ·rcases AjN.1 h with h|h
     ·cases h
     ·exact nA.1 h
  ·intro h
   rcases AjL.1 h with h|h
   ·exact n2 h
   ·rcases AjN.1 h with h|h
    ·cases h;exact huv rfl
    ·exact n1 (Ajj _ h)
  ·rintro rfl
   rcases AjN.1 hy with h|h
   ·subst h;exact n4 hx
   ·exact nAB x (Ajj _ h) hx
 rw[A3,Db,Aj2]at h1
 obtain⟨d2,k1,k2⟩:=Ha (Z:=(· = u)) (c2:=[v,u]) (low:=[u]) h2 (by simp) (fun y=>by simp) (fun p w hm=>by rintro rfl;exact hd w (by simp) (fB3 _ _ hm).2.1) (by simp)
 obtain⟨d3,g1,g2⟩:=Ha (Z:=(·∈c2)) (c2:=d2) (low:=[]) h1 (by simp) (fun y=>by rw[k2];simp[or_comm]) (fun p w hm hz=>hd w (fA3 _ _ (Ajj _ hm)).2.1 (m2 w hz)) (by simp)
 refine Ap.toT ⟨u,_,d3,rfl,?_,fun x hx => ?_⟩ hnd
 ·rw[A3,Db,Aj2,A3,Fe _ _ _ _ (by simp) (by simp;exact Ajz huv),Aj2,De]
  rw[show([v]++[u]:List Int)=[v,u]from rfl]at k1
  rw[k1,Aj2,A3,Gf,Aj2]
  simpa using g1
 ·rcases(g2 x).1 hx with h|h
  ·have:=m1 x h
   simp only[AjN,AjL]at this ⊢
   rcases this with h|h<;>simp[h]
  ·have:=m2 x h
   simp only[AjN,AjL]at this ⊢
   rcases this with h|h<;>simp[h]
theorem Ah5{u v:Int}(huv:u≠v):∀ {l:List Tok} {x w1 c c1 c0:List Int},run (x++[v,u],c) l=some (w1,c1)→Tok.arc v u∉l→(∀ y,y∈c↔y∈c0∨y=u)→u∉c0 →
  ∃ x' d,w1=x'++[v,u]∧run (x++[v],c0) l=some (x'++[v],d)∧(∀ y,y∈c1↔y∈d∨y=u)∧u∉d:=by
 intro l
 induction l with
 |nil=>intro x w1 c c1 c0 h _ hc hu;cases h;exact⟨x,c0,rfl,rfl,hc,hu⟩
 |cons t l ih=>
  intro x w1 c c1 c0 h hna hc hu
  rw[A3,Aj0]at h
  obtain⟨s1,h1,h2⟩:=h
  have hna':Tok.arc v u∉l:=fun h=>hna (Ajj _ h)
  rcases B7 h1 with⟨y,r,rfl,hw,rfl⟩|⟨a,b,r,rfl,hw,rfl⟩|⟨a,b,r,rfl,hw,hh,hnc,rfl⟩
  ·obtain⟨x',d,g1,g2,g3⟩:=ih h2 hna' hc hu
   refine⟨x',d,g1,?_,g3⟩
   simp only at hw
   have:∃ r',x++[v]=y::r':=by
    cases x with
    |nil=>simp at hw;exact⟨[],by simp[hw.1]⟩
    |cons z x=>simp at hw;exact⟨x++[v],by simp[hw.1]⟩
   obtain⟨r',e⟩:=this
   rw[A3,e,Db,Aj2,← e]
   exact g2
  ·simp only at hw
   cases x with
   |nil=>
    simp only[Ajv,Ajg]at hw
    obtain⟨rfl,rfl,_⟩:=hw
    exact absurd (by simp) hna
   |cons z x=>
    simp only[Ajl,Ajg]at hw
    obtain⟨rfl,hw⟩:=hw
    simp only[← hw]at h2
    obtain⟨x',d,g1,g2,g3⟩:=ih h2 hna' hc hu
    refine⟨x',d,g1,?_,g3⟩
    have:∃ r',x++[v]=b::r':=by
     cases x with
     |nil=>simp at hw;exact⟨[],by simp[hw.1]⟩
     |cons y x=>simp at hw;exact⟨x++[v],by simp[hw.1]⟩
    obtain⟨r',e⟩:=this
    rw[A3,Ajl,e,Gf,Aj2,← e]
    exact g2
  ·simp only at hw hnc
   have hub:u≠b:=by rintro rfl;exact hnc ((hc u).2 (.inr rfl))
   have hbc:b∉c0:=fun h=>hnc ((hc b).2 (.inl h))
   have h2':run ((b::x)++[v,u],b::c) l=some (w1,c1):=by
    rw[← hw]at h2
    exact h2
   obtain⟨x',d,g1,g2,g3⟩:=ih (c0:=b::c0) h2' hna' (fun y=>by simp only[AjN,hc,or_assoc]) (by
    intro hm
    rcases AjN.1 hm with h|h
    ·exact hub h
    ·exact hu h)
   refine⟨x',d,g1,?_,g3⟩
   have:∃ r',x++[v]=a::r'∧r'.head?≠some b:=by
    cases x with
    |nil=>
     simp at hw
     exact⟨[],by simp[hw.1],by simp⟩
    |cons z x=>
     simp only[Ajl,Ajg]at hw
     refine⟨x++[v],by simp[hw.1],?_⟩
     rw[← hw.2]at hh
     cases x with
     |nil=>simpa using hh
     |cons y x=>simpa using hh
   obtain⟨r',e,e2⟩:=this
   rw[A3,e,Fe _ _ _ _ e2 hbc,Aj2,← e]
   exact g2
theorem T.split{u v:Int}{p q:List Tok}(h:T (.arc u v::(p ++ .arc v u::q))):T p∧Tok.ver v∈p:=by
 have hn:=h.nodup
 obtain⟨_,f2,f3⟩:=h.facts
 have huv:u≠v:=(f3 u v (by simp)).2.2.2
 obtain⟨t,ht⟩:∃ t,(Tok.arc u v::(p ++ .arc v u::q)).getLast? = some t:=⟨_,Alq (by simp)⟩
 obtain⟨c,h1,h2⟩:=h.toC _ (Rot.refl _) t ht
 rw[A3,Aj0]at h1
 obtain⟨s1,k1,k2⟩:=h1
 rcases B7 k1 with⟨y,r,e,hw,_⟩|⟨a,b,r,e,hw,_⟩|⟨a,b,r,e,hw,hh,hnc,rfl⟩
 ·cases e
 ·cases e;simp at hw
 ·cases e
  simp only[Ajg]at hw
  obtain⟨htu,rfl⟩:=hw
  rw[htu]at k2
  simp only at k2
  rw[De,Aj0]at k2
  obtain⟨⟨w1,c1⟩,g1,g2⟩:=k2
  have hi:Inv ([v,u],[v,u]):=⟨by simp;exact Ajz huv,by simp⟩
  obtain⟨i1,i2,_⟩:=I1 g1 hi
  rw[Ajr,AlG,Ajr (a:=Tok.arc v u)]at hn
  have hnp:Tok.arc v u∉p:=fun hm=>hn.2.2.2 _ hm _ (by simp) rfl
  obtain⟨x',d,e1,e2,e3,e4⟩:=Ah5 (x:=[]) (c0:=[v]) huv g1 hnp (fun y=>by simp) (by simp;exact huv)
  rw[A3,Aj0]at g2
  obtain⟨s2,j1,j2⟩:=g2
  have hx':x'=[]∧s2=([u],c1):=by
   rcases B7 j1 with⟨y,r,e,hw,_⟩|⟨a,b,r,e,hw,hs⟩|⟨a,b,r,e,hw,hh,hnc,_⟩
   ·cases e
   ·cases e
    simp only at hw
    rw[e1]at hw
    cases x' with
    |nil=>
     simp only[Ajv,Ajg,Ala]at hw
     rw[hs,← hw]
     exact⟨rfl,rfl⟩
    |cons z x'=>
     exfalso
     have hnd:=i1.1
     simp only at hnd
     rw[e1,hw]at hnd
     simp only[Ajl,Ajg]at hw
     have:v∈u::r:=by rw[← hw.2];simp
     rw[Ajr]at hnd
     exact hnd.1 this
   ·cases e
    exact absurd (i2 u (by simp)) hnc
  obtain⟨rfl,rfl⟩:=hx'
  have hmet:∀ x∈d,Tok.ver x∈p:=by
   intro x hx
   have hxu:x≠u:=by rintro rfl;exact e4 hx
   have hx1:x∈c1:=(e3 x).2 (.inl hx)
   have hi2:Inv ([u],c1):=⟨by simp,fun y hy=>by simp at hy;subst hy;exact i2 y (by simp)⟩
   have hx2:=(I1 j2 hi2).2.1 x hx1
   have hx3:=(h2 x).1 hx2
   obtain⟨g,_⟩:=AAQ (z:=x) (c:=c1.filter (·≠x)) j2 (by simp;exact hxu) (fun y=>by
    simp only[Ajp,AjI]
    constructor
    ·intro hh
     by_cases e:y=x
     ·exact .inr e
     ·exact .inl ⟨hh,by simpa using e⟩
    ·rintro (hh|rfl)
     ·exact hh.1
     ·exact hx1) (by simp)
   simp only[AjN,reduceCtorEq,AjL,false_or]at hx3
   rcases hx3 with hh|hh
   ·exact hh
   ·exact absurd hh g
  have e2':run ([v],[v]) p=some ([v],d):=e2
  have hvd:v∈d:=(I1 e2' (OV v)).2.1 v (by simp)
  exact⟨AhB e2' hmet hn.2.1,hmet v hvd⟩
end Go.Pev.Pl.Tok
end
section
namespace Go.Pev
open Go.RowKit
def AFk{R:Type}(slot:Nat)(H:List Ob)(fz:List Bool)(k:AV→Eff→Option R)(v:AV)(e:Eff):Option R:=
 match e.heap with
 |none=>match v with
  |.win id 0 n=>match(CT e H)[id]? with
   |some (.arr T t xs)=>match Aj (GG e fz) id&&Av (CT e H) (GG e fz) (slot+3)&&(e.objs.any fun p=>Nat.beq p.1 id)with
    |true=>k (.own (slot+3)) { objs:=e.objs++[(id,.dead),(slot+3,.arr T t (Bq n xs))],frz:=e.frz }
    |false=>none
   |_=>none
  |_=>none
 |some _=>none
def KE(s:Spec):Spec:=fun R args H fz slot k=>s R args H fz slot (AFk slot H fz k)
section
variable {P:Program} {g:FuncId}
theorem AaP{w:World}{F:Nat→Prop}{m:Mp}{H:List Ob}{fz:List Bool}(hi:HI w F m H fz){id n slot:Nat}{T:TypeId}{t:Ty}{xs:List t.den}(ho:H[id]? = some (.arr T t xs))(hf:Aj fz id=true)
  (hs:Av H fz slot=true) {u:Value} (hr:Rep w F m H (.win id 0 n) u) :
  ∃ m',Ap w F m H fz w F m' ((H.set id .dead).set slot (.arr T t (Bq n xs))) fz∧Rep w F m' ((H.set id .dead).set slot (.arr T t (Bq n xs))) (.own slot) u:=by
 have hob:=hi.obj id _ ho
 obtain⟨h0,hob⟩:=hob
 unfold Rep at hr
 rw[ho]at hr
 obtain⟨hle,hr⟩:=hr
 rw[AkK]at hle
 have hsn:slot≠id:=AKX hs ho
 have hkill:=Ap.kill hi (CH ho hf)
 have zero:∀ a,n=0→u = .slice a 0 0→∃ m',Ap w F m H fz w F m' ((H.set id .dead).set slot (.arr T t (Bq n xs))) fz∧Rep w F m' ((H.set id .dead).set slot (.arr T t (Bq n xs))) (.own slot) u:=by
  intro a hn hu
  subst hn;subst hu
  obtain⟨m',hg,hrep⟩:=Dk (w:=w) hkill.2 (LZ hs hsn) T h0 a
  exact⟨m',hkill.trans hg,hrep⟩
 cases hm:m id with
 |none=>
  rw[hm]at hr hob
  obtain⟨a,e1⟩:=hr
  simp only at hob
  subst hob
  have hn:n=0:=by simpa using hle
  exact zero a hn (by rw[e1,hn])
 |some p=>
  obtain⟨b,cap⟩:=p
  rw[hm]at hr hob
  obtain⟨vs,row,e1,e2,e3,e4,e7,e8⟩:=hob
  obtain⟨a,rfl,ha⟩:=hr
  rcases Akg cap with hc|hc
  ·have:n=0:=by omega
   exact zero a this (by rw[this,hc])
  ·have:=ha hc
   rw[Alu]at this
   subst this
   have hk:=fun(x:t.den) cs (h:Dat w F t x cs)=>Dat.length t h
   have hlen:(xs.take n).length=n:=by rw[AjY];omega
   have hrw:=Dz hk n e7
   have hrl:=A6 hk hrw
   rw[hlen]at hrl
   have hg:=Ap.move (w':=w) hi (CH ho hf) hm hs (ob:=.arr T t (Bq n xs)) trivial (b':=b) (c':=cap) (.inl rfl) rfl rfl rfl (AjR _) (fun _ _ _=>rfl) (fun _=>⟨h0,vs,row.take (n*t.size),e1,by
    show(xs.take n).length≤cap
    rw[hlen];omega,e3,e4,hrw,by
    rw[hrl,← e8,AlV,AkG]
    rw[A6 hk e7]
    exact AkH _ hle⟩)
   refine⟨_,hg,?_⟩
   have hlts:=Al (BO hs).1
   unfold Rep
   rw[Aw (by simpa using hlts),As]
   show Value.slice _ n (cap-0)=Value.slice _ (xs.take n).length cap
   rw[hlen,Nat.sub_zero]
theorem We{s:Spec}(hs:AR P g s):AR P g (KE s):=by
 intro R args H fz slot k r hk
 obtain⟨v,e,h1,h2,h3,h4⟩:=hs R args H fz slot _ r hk
 unfold AFk at h1
 split at h1
 ·rename_i he
  split at h1
  ·rename_i id n
   split at h1
   ·rename_i T t xs ho
    split at h1
    ·rename_i hc
     refine⟨_,_,h1,fun R' k' => ?_,h3,fun w F m vals hi hr => ?_⟩
     ·unfold KE
      rw[h2]
      simp only[AFk,he,ho,hc]
     ·refine(h4 w F m vals hi hr).mono ?_
      rintro en w' ⟨u,rfl,F',m',hg,hrep⟩
      simp only[AjJ]at hc
      obtain⟨m2,hg2,hr2⟩:=AaP hg.2 ho hc.1.1 hc.1.2 hrep
      have eH:CT { objs:=e.objs++[(id,.dead),(slot+3,.arr T t (Bq n xs))],frz:=e.frz } H=((CT e H).set id .dead).set (slot+3) (.arr T t (Bq n xs)):=by
       rw[CL rfl,CL he,Wm]
       rfl
      have eF:GG { objs:=e.objs++[(id,.dead),(slot+3,.arr T t (Bq n xs))],frz:=e.frz } fz=GG e fz:=by
       rw[CW rfl,CW he]
      refine⟨u,rfl,F',m2,?_,?_⟩
      ·rw[eH,eF];exact hg.trans hg2
      ·rw[eH];exact hr2
    ·cases h1
   ·cases h1
  ·cases h1
 ·cases h1
theorem XI{np na:Nat}{its outs:AE}{rs:List RS}{f:CB (leaves its)→Option (CB (leaves outs))}(hf:∀ x,f x=none):AR P g (AF np na its outs rs f):=by
 intro R args H fz slot k r hk
 unfold AF at hk
 split at hk
 ·cases hk
 ·split at hk
  ·cases hk
  ·rw[hf]at hk;cases hk
end
section
variable {S:List Nat} {H H':List Ob}
theorem Hh.Ai5{s:Spec}(h:Hh s):OU s:=
 fun R args H H' fz fz' slot k S hS _ ha=>h R args H H' fz fz' slot k ⟨fun id hid=>ha.heap id (hS id hid),ha.slotH,ha.slotF,ha.len,fun id hid=>by cases hid⟩
def ABp:AE→Bool
 |[]=>true
 |(.obj _,_)::_=>false
 |_::r=>ABp r
def AiA(S:List Nat)(v:AV):Prop:=∀ id∈Am v,id∈S
def ADd(S:List Nat)(bs:List Bnd):Prop:=∀ b∈bs,∀ id,b.id? = some id→id∈S
theorem ADd.get{bs:List Bnd}(h:ADd S bs){j:Nat}{b:Bnd}{id:Nat}(hj:bs[j]? = some b)(hi:b.id? = some id):id∈S:=h b (AjW hj) id hi
theorem ADd.snoc{bs:List Bnd}(h:ADd S bs){b:Bnd}(hb:∀ id,b.id? = some id→id∈S):ADd S (bs++[b]):=by
 intro x hx id hi
 rcases AjL.1 hx with hx|hx
 ·exact h x hx id hi
 ·simp only[Aje]at hx;subst hx;exact hb id hi
theorem AWt{tm:List AV}{bs:List Bnd}{l:Loc}(hS:∀ id∈BH tm,id∈S)(hc:Yz S H)(hH:∀ id∈S,H[id]? = H'[id]?)(hb:ADd S bs)(hl:∀ j,l≠.obj j):
  look tm H bs l=look tm H' bs l∧∀ v,look tm H bs l=some v→AiA S v:=by
 cases l with
 |tmp t=>
  refine⟨rfl,fun v hv id hid=>hS id ?_⟩
  exact CY (AjW hv) hid
 |cell j c=>
  simp only[look]
  cases hj:bs[j]? with
  |none=>exact⟨rfl,fun v hv=>by cases hv⟩
  |some b=>
   cases b with
   |none=>exact⟨rfl,fun v hv=>by cases hv⟩
   |cut id=>exact⟨rfl,fun v hv=>by cases hv⟩
   |whole id=>
    have hid:=hb.get hj (id:=id) rfl
    simp only
    rw[hH id hid]
    refine⟨rfl,fun v hv => ?_⟩
    cases ho:H'[id]? with
    |none=>rw[ho]at hv;cases hv
    |some o=>
     rw[ho]at hv
     cases o<;>simp only at hv<;>first|(cases hv;done)|skip
     rename_i cs
     intro i hi
     exact hc id hid cs (by rw[hH id hid,ho]) i (CY (AjW hv) hi)
 |cap t i=>
  refine⟨rfl,fun v hv => ?_⟩
  simp only[look]at hv
  cases ht:tm[t]? with
  |none=>rw[ht]at hv;cases hv
  |some a=>
   rw[ht]at hv
   cases a<;>simp only at hv<;>first|(cases hv;done)|skip
   ·rename_i f cs
    intro id hid
    refine hS id (CY (AjW ht) ?_)
    simp only[Am]
    exact CY (AjW hv) hid
   ·rename_i f cs
    intro id hid
    refine hS id (CY (AjW ht) ?_)
    simp only[Am]
    exact CY (AjW hv) hid
 |obj j=>exact absurd rfl (hl j)
theorem LA{f:List Nat}{fz fz':List Bool}(hl:fz.length=fz'.length){id:Nat}(h:fz.getD id false=fz'.getD id false):(Ak f fz).getD id false=(Ak f fz').getD id false:=by
 rw[Ay,Ay,h,hl]
theorem Aes{tm:List AV}(hS:∀ id∈BH tm,id∈S)(hc:Yz S H)(hH:∀ id∈S,H[id]? = H'[id]?):∀ (its:AE) (fz fz':List Bool) (bs:List Bnd),ABp its=true→ADd S bs→fz.length=fz'.length→(∀ id∈S,fz.getD id false=fz'.getD id false) →
  dec tm H its fz bs=dec tm H' its fz' bs:=by
 intro its
 induction its with
 |nil=>intro fz fz' bs _ _ _ _;rfl
 |cons p r ih=>
  intro fz fz' bs hn hb hlen hz
  obtain⟨l,c⟩:=p
  have hno:(∀ j,l≠.obj j)∧ABp r=true:=by
   cases l with
   |obj j=>cases hn
   |tmp t=>exact⟨fun j h=>(by cases h),hn⟩
   |cell a b=>exact⟨fun j h=>(by cases h),hn⟩
   |cap a b=>exact⟨fun j h=>(by cases h),hn⟩
  obtain⟨e1,e2⟩:=AWt hS hc hH hb hno.1
  have ihr:=fun bs hb=>ih fz fz' bs hno.2 hb hlen hz
  have unf:∀ id∈S,Aj fz id=Aj fz' id:=fun id hid=>by unfold Aj;rw[hz id hid]
  cases c with
  |dat t=>
   simp only[dec,← e1]
   cases hv:look tm H bs l with
   |none=>rfl
   |some v=>
    simp only
    rw[XW t v fun id hid=>hH id (e2 v hv id hid)]
    cases XX H' t v with
    |none=>rfl
    |some q=>
     obtain⟨x,f⟩:=q
     simp only
     rw[ih (Ak f fz) (Ak f fz') bs hno.2 hb (by rw[C0,C0,hlen]) (fun id hid=>LA hlen (hz id hid))]
  |own T e=>
   simp only[dec,← e1]
   cases hv:look tm H bs l with
   |none=>rfl
   |some v=>
    cases v with
    |nils e'=>simp only;rw[ihr _ (hb.snoc fun id h=>by cases h)]
    |own id=>
     have hid:id∈S:=e2 _ hv id (by simp[Am])
     simp only
     rw[← hH id hid,unf id hid,ihr _ (hb.snoc fun id' h=>by simp only[Bnd.id?,AjH]at h;subst h;exact hid)]
    |win id off n=>
     have hid:id∈S:=e2 _ hv id (by simp[Am])
     cases off with
     |succ off=>rfl
     |zero=>
      simp only
      rw[← hH id hid,unf id hid,ihr _ (hb.snoc fun id' h=>by simp only[Bnd.id?,AjH]at h;subst h;exact hid)]
    |_=>rfl
  |box n=>
   simp only[dec,← e1]
   cases hv:look tm H bs l with
   |none=>rfl
   |some v=>
    cases v with
    |ptr id off=>
     have hid:id∈S:=e2 _ hv id (by simp[Am])
     cases off with
     |succ off=>rfl
     |zero=>
      simp only
      rw[← hH id hid,ihr _ (hb.snoc fun id' h=>by simp only[Bnd.id?,AjH]at h;subst h;exact hid)]
    |_=>rfl
  |map k v=>
   simp only[dec,← e1]
   cases hv:look tm H bs l with
   |none=>rfl
   |some u=>
    cases u with
    |mp id=>
     have hid:id∈S:=e2 _ hv id (by simp[Am])
     simp only
     rw[← hH id hid,ihr _ (hb.snoc fun id' h=>by simp only[Bnd.id?,AjH]at h;subst h;exact hid)]
    |_=>rfl
  |rows T e t=>
   simp only[dec,← e1]
   cases hv:look tm H bs l with
   |none=>rfl
   |some u=>
    cases u with
    |own id=>
     have hid:id∈S:=e2 _ hv id (by simp[Am])
     simp only
     rw[← hH id hid,unf id hid,ihr _ (hb.snoc fun id' h=>by simp only[Bnd.id?,AjH]at h;subst h;exact hid)]
    |_=>rfl
  |mrows j e t=>
   simp only[dec,← e1]
   cases hv:look tm H bs l with
   |none=>rfl
   |some u=>
    cases u with
    |mp id=>
     have hid:id∈S:=e2 _ hv id (by simp[Am])
     simp only
     rw[← hH id hid,unf id hid,ihr _ (hb.snoc fun id' h=>by simp only[Bnd.id?,AjH]at h;subst h;exact hid)]
    |_=>rfl
  |aptr T e n=>
   simp only[dec,← e1]
   cases hv:look tm H bs l with
   |none=>rfl
   |some u=>
    cases u with
    |aptr id n'=>
     have hid:id∈S:=e2 _ hv id (by simp[Am])
     simp only
     rw[← hH id hid,unf id hid,ihr _ (hb.snoc fun id' h=>by simp only[Bnd.id?,AjH]at h;subst h;exact hid)]
    |_=>rfl
  |aptr' j n=>simp only[dec,← e1,ihr bs hb]
  |bndp f j=>simp only[dec,← e1,ihr bs hb]
  |nilp=>simp only[dec,← e1,ihr bs hb]
  |own' j=>simp only[dec,← e1,ihr bs hb]
  |ptr' j off=>simp only[dec,← e1,ihr bs hb]
  |map' j=>simp only[dec,← e1,ihr bs hb]
  |sub' j=>simp only[dec,← e1,ihr bs hb]
  |win' j=>
   simp only[dec,← e1]
   rw[ihr bs hb]
   cases hv:look tm H bs l with
   |none=>rfl
   |some v=>
    cases v with
    |own id=>
     have hid:id∈S:=e2 _ hv id (by simp[Am])
     cases bs[j]? with
     |none=>rfl
     |some b=>
      cases b with
      |whole id'=>
       refine Eq.trans (b:=match decide (id=id'),H[id]? with
        |true,some (.arr _ _ ys)=>(match dec tm H' r fz' bs with
         |some (xs,bs',g)=>some ((AI ys,xs),bs',g)
         |none=>none)
        |_,_=>none) rfl ?_
       rw[hH id hid]
       rfl
      |_=>rfl
    |win id off n=>
     cases off with
     |succ off=>cases bs[j]?<;>rfl
     |zero=>
      cases bs[j]? with
      |none=>rfl
      |some b=>cases b<;>rfl
    |_=>cases bs[j]?<;>rfl
  |clo f ps=>simp only[dec,← e1,ihr bs hb]
  |bnd f j=>simp only[dec,← e1,ihr bs hb]
  |prs T j=>
   simp only[dec,← e1]
   cases hv:look tm H bs l with
   |none=>rfl
   |some v=>
    cases v with
    |nils e'=>simp only;rw[ihr _ (hb.snoc fun id h=>by cases h)]
    |own id=>
     have hid:id∈S:=e2 _ hv id (by simp[Am])
     simp only
     rw[← hH id hid,ihr _ (hb.snoc fun id' h=>by simp only[Bnd.id?,AjH]at h;subst h;exact hid)]
    |_=>rfl
  |nil e=>simp only[dec,← e1,ihr bs hb]
theorem RY{fz fz':List Bool}:∀ (n:Nat) (bs:List Bnd) (slot:Nat),(∀ s,slot≤s→s<slot+n→Av H fz s=Av H' fz' s)→Fa H fz (Cl n bs slot) bs=Fa H' fz' (Cl n bs slot) bs:=by
 intro n
 induction n with
 |zero=>intro bs slot _;cases bs<;>rfl
 |succ n ih=>
  intro bs slot h
  cases bs with
  |nil=>
   simp only[Cl,Fa,List.tail_nil]
   rw[h slot (AjR _) (by omega),ih [] (slot+1) fun s h1 h2=>h s (by omega) (by omega)]
  |cons b bs=>
   cases b with
   |whole id=>
    simp only[Cl,Fa,AlO]
    rw[ih bs slot fun s h1 h2=>h s h1 (by omega)]
   |none=>
    simp only[Cl,Fa,AlO]
    rw[h slot (AjR _) (by omega),ih bs (slot+1) fun s h1 h2=>h s (by omega) (by omega)]
   |cut id=>
    simp only[Cl,Fa,AlO]
    rw[h slot (AjR _) (by omega),ih bs (slot+1) fun s h1 h2=>h s (by omega) (by omega)]
theorem AJ{np na:Nat}{its outs:AE}{rs:List RS}{f:CB (leaves its)→Option (CB (leaves outs))}(hno:ABp its=true)(hn:Nat.ble (C8 outs) 4=true):OU (AF np na its outs rs f):=by
 intro R args H H' fz fz' slot k S hS hc ha
 have hn4:=Alx hn
 have hd:dec args H its fz []=dec args H' its fz' []:=Aes hS hc ha.heap its fz fz' [] hno (fun b hb=>by cases hb) ha.len ha.wrF
 unfold AF
 rw[hd]
 split
 ·rfl
 ·rename_i x bs fr _
  split
  ·rfl
  ·split
   ·rfl
   ·have hf:∀ (g:List Nat) s,slot≤s→s<slot+C8 outs→Av H (Ak g fz) s=Av H' (Ak g fz') s:=fun g s h1 h2=>D5 ha h1 (by omega) g
    unfold J6
    rw[RY (fz:=fz) (fz':=fz') (C8 outs) (bs.take np) slot (hf []),RY (fz:=Ak fr fz) (fz':=Ak fr fz') (C8 outs) (bs.take np) slot (hf fr)]
theorem AaA:∀ (n:Nat) (bs:List Bnd) (slot i:Nat),i∈Cl n bs slot→(∃ b∈bs,b.id? = some i)∨(slot≤i∧i<slot+n):=by
 intro n
 induction n with
 |zero=>intro bs slot i h;cases bs<;>cases h
 |succ n ih=>
  intro bs slot i h
  have next:∀ bs',i∈slot::Cl n bs' (slot+1)→(∃ b∈bs',b.id? = some i)∨(slot≤i∧i<slot+(n+1)):=by
   intro bs' h
   rcases AjN.1 h with rfl|h
   ·exact .inr ⟨AjR _,by omega⟩
   ·rcases ih bs' (slot+1) i h with h|h
    ·exact .inl h
    ·exact .inr ⟨by omega,by omega⟩
  cases bs with
  |nil=>exact next [] h
  |cons b bs=>
   cases b with
   |whole id=>
    simp only[Cl]at h
    rcases AjN.1 h with rfl|h
    ·exact .inl ⟨.whole i,by simp,rfl⟩
    ·rcases ih bs slot i h with⟨b,hb,e⟩|h
     ·exact .inl ⟨b,by simp[hb],e⟩
     ·exact .inr ⟨h.1,by omega⟩
   |none=>rcases next bs h with⟨b,hb,e⟩|h;exact .inl ⟨b,by simp[hb],e⟩;exact .inr h
   |cut id=>rcases next bs h with⟨b,hb,e⟩|h;exact .inl ⟨b,by simp[hb],e⟩;exact .inr h
theorem Aao{tm:List AV}(hS:∀ id∈BH tm,id∈S)(hc:Yz S H):∀ (its:AE) (fz:List Bool) (bs:List Bnd) (x:CB (leaves its)) (bs':List Bnd) (fr:List Nat),ABp its=true→ADd S bs →
  dec tm H its fz bs=some (x,bs',fr)→ADd S bs':=by
 intro its
 induction its with
 |nil=>intro fz bs x bs' fr _ hb h;simp only[dec,AjH]at h;cases h;exact hb
 |cons p r ih=>
  intro fz bs x bs' fr hn hb h
  obtain⟨l,c⟩:=p
  have hno:(∀ j,l≠.obj j)∧ABp r=true:=by
   cases l with
   |obj j=>cases hn
   |tmp t=>exact⟨fun j h=>(by cases h),hn⟩
   |cell a b=>exact⟨fun j h=>(by cases h),hn⟩
   |cap a b=>exact⟨fun j h=>(by cases h),hn⟩
  have e2:=(AWt (H':=H) hS hc (fun _ _=>rfl) hb hno.1 (l:=l)).2
  have one:∀ {id:Nat} {b:Bnd},id∈S→b.id? = some id→ADd S (bs++[b]):=fun hid hbid=>hb.snoc fun id' h'=>by rw[hbid]at h';cases h';exact hid
  cases c<;>simp only[dec]at h
  case dat t=>
   split at h
   ·split at h
    ·split at h
     ·split at h
      ·rename_i hd;cases h;exact ih _ _ _ _ _ hno.2 hb hd
      ·cases h
     ·cases h
    ·cases h
   ·cases h
  case own T e=>
   split at h
   ·split at h
    ·split at h
     ·rename_i hd;cases h;exact ih _ _ _ _ _ hno.2 (hb.snoc fun id h=>by cases h) hd
     ·cases h
    ·cases h
   ·rename_i id hl
    split at h
    ·split at h
     ·split at h
      ·rename_i hd;cases h;exact ih _ _ _ _ _ hno.2 (one (e2 _ hl id (by simp[Am])) rfl) hd
      ·cases h
     ·cases h
    ·cases h
   ·rename_i id n hl
    split at h
    ·split at h
     ·split at h
      ·rename_i hd;cases h;exact ih _ _ _ _ _ hno.2 (one (e2 _ hl id (by simp[Am])) rfl) hd
      ·cases h
     ·cases h
    ·cases h
   ·cases h
  case prs T j=>
   split at h
   ·split at h
    ·rename_i hd;cases h;exact ih _ _ _ _ _ hno.2 (hb.snoc fun id h=>by cases h) hd
    ·cases h
   ·rename_i id hl
    split at h
    ·split at h
     ·split at h
      ·rename_i hd;cases h;exact ih _ _ _ _ _ hno.2 (one (e2 _ hl id (by simp[Am])) rfl) hd
      ·cases h
     ·cases h
    ·cases h
   ·cases h
  case box n=>
   split at h
   ·rename_i id hl
    split at h
    ·split at h
     ·exact ih _ _ _ _ _ hno.2 (one (e2 _ hl id (by simp[Am])) rfl) h
     ·cases h
    ·cases h
   ·cases h
  case map k v=>
   split at h
   ·rename_i id hl
    split at h
    ·split at h
     ·split at h
      ·rename_i hd;cases h;exact ih _ _ _ _ _ hno.2 (one (e2 _ hl id (by simp[Am])) rfl) hd
      ·cases h
     ·cases h
    ·cases h
   ·cases h
  case rows T e t=>
   split at h
   ·rename_i id hl
    split at h
    ·split at h
     ·split at h
      ·rename_i hd;cases h;exact ih _ _ _ _ _ hno.2 (one (e2 _ hl id (by simp[Am])) rfl) hd
      ·cases h
     ·cases h
    ·cases h
   ·cases h
  case mrows j e t=>
   split at h
   ·rename_i id hl
    split at h
    ·split at h
     ·split at h
      ·rename_i hd;cases h;exact ih _ _ _ _ _ hno.2 (one (e2 _ hl id (by simp[Am])) rfl) hd
      ·cases h
     ·cases h
    ·cases h
   ·cases h
  case aptr T e n=>
   split at h
   ·rename_i id n' hl
    split at h
    ·split at h
     ·split at h
      ·rename_i hd;cases h;exact ih _ _ _ _ _ hno.2 (one (e2 _ hl id (by simp[Am])) rfl) hd
      ·cases h
     ·cases h
    ·cases h
   ·cases h
  case bndp f j=>
   split at h
   ·split at h
    ·exact ih _ _ _ _ _ hno.2 hb h
    ·cases h
   ·cases h
  case nilp=>
   cases hv:look tm H bs l with
   |none=>rw[hv]at h;cases h
   |some v=>
    rw[hv]at h
    cases v<;>simp only at h<;>first|exact ih _ _ _ _ _ hno.2 hb h|cases h
  case aptr' j n=>
   split at h
   ·split at h
    ·exact ih _ _ _ _ _ hno.2 hb h
    ·cases h
   ·cases h
  case own' j=>
   split at h
   ·split at h
    ·exact ih _ _ _ _ _ hno.2 hb h
    ·cases h
   ·cases h
  case ptr' j off=>
   split at h
   ·split at h
    ·exact ih _ _ _ _ _ hno.2 hb h
    ·cases h
   ·cases h
  case map' j=>
   split at h
   ·split at h
    ·exact ih _ _ _ _ _ hno.2 hb h
    ·cases h
   ·cases h
  case win' j=>
   split at h
   ·split at h
    ·split at h
     ·rename_i hd;cases h;exact ih _ _ _ _ _ hno.2 hb hd
     ·cases h
    ·cases h
   ·split at h
    ·split at h
     ·rename_i hd;cases h;exact ih _ _ _ _ _ hno.2 hb hd
     ·cases h
    ·cases h
   ·cases h
  case sub' j=>
   split at h
   ·split at h
    ·split at h
     ·rename_i hd;cases h;exact ih _ _ _ _ _ hno.2 hb hd
     ·cases h
    ·cases h
   ·cases h
  case clo f ps=>
   split at h
   ·split at h
    ·exact ih _ _ _ _ _ hno.2 hb h
    ·cases h
   ·cases h
  case bnd f j=>
   split at h
   ·split at h
    ·exact ih _ _ _ _ _ hno.2 hb h
    ·cases h
   ·cases h
  case nil e=>
   cases hv:look tm H bs l with
   |none=>rw[hv]at h;cases h
   |some v=>
    rw[hv]at h
    cases v<;>simp only at h<;>first|exact ih _ _ _ _ _ hno.2 hb h|cases h
theorem AV1{np na:Nat}{its outs:AE}{rs:List RS}{f:CB (leaves its)→Option (CB (leaves outs))}(hno:ABp its=true)(hn:Nat.ble (C8 outs) 4=true):OU (KE (AF np na its outs rs f)):=by
 intro R args H H' fz fz' slot k hS0 hS hc ha
 have hn4:=Alx hn
 have hd:dec args H its fz []=dec args H' its fz' []:=Aes hS hc ha.heap its fz fz' [] hno (fun b hb=>by cases hb) ha.len ha.wrF
 have hbs:∀ x bs fr,dec args H its fz []=some (x,bs,fr)→ADd hS0 bs:=fun x bs fr h=>Aao hS hc its fz [] x bs fr hno (fun b hb=>by cases hb) h
 unfold KE AF
 rw[hd]at hbs ⊢
 split
 ·rfl
 ·rename_i x bs fr hdec
  have hb:=hbs x bs fr hdec
  split
  ·rfl
  ·split
   ·rfl
   ·rename_i y _
    have hf:∀ (g:List Nat) s,slot≤s→s<slot+C8 outs→Av H (Ak g fz) s=Av H' (Ak g fz') s:=fun g s h1 h2=>D5 ha h1 (by omega) g
    have key:∀ (e:Eff) (v:AV),e.heap=none→(∀ p∈e.objs,p.1∈given (bs.drop np)∨p.1∈Cl (C8 outs) (bs.take np) slot)→AFk slot H fz k v e=AFk slot H' fz' k v e:=by
     intro e v he ho
     unfold AFk
     rw[he]
     simp only
     have hfree:Av (CT e H) (GG e fz) (slot+3)=Av (CT e H') (GG e fz') (slot+3):=by
      rw[CL he,CL he,CW he,CW he]
      unfold Av
      rw[GQ e.objs H H' (ha.slotH (slot+3) (by omega) (by omega)),LA ha.len (ha.slotF (slot+3) (by omega) (by omega))]
     cases v with
     |win id off n=>
      cases off with
      |succ off=>rfl
      |zero=>
       simp only
       cases hany:(e.objs.any fun p=>Nat.beq p.1 id)with
       |false=>
        simp only[AmE]
        cases (CT e H)[id]? with
        |none=>cases (CT e H')[id]? with
         |none=>rfl
         |some o=>cases o<;>rfl
        |some o=>cases (CT e H')[id]? with
         |none=>cases o<;>rfl
         |some o'=>cases o<;>cases o'<;>rfl
       |true=>
        rw[AkS]at hany
        obtain⟨p,hp,hpi⟩:=hany
        have hpi:=Aka hpi
        subst hpi
        have hin:(∃ b∈bs,b.id? = some p.1)∨(slot≤p.1∧p.1<slot+C8 outs):=by
         rcases ho p hp with h|h
         ·obtain⟨j,hj⟩:=UW.1 h
          exact .inl ⟨_,Akr (AjW hj),rfl⟩
         ·rcases AaA _ _ _ _ h with⟨b,h1,h2⟩|h
          ·exact .inl ⟨b,Ak8 h1,h2⟩
          ·exact .inr h
        have h1:H[p.1]? = H'[p.1]? := by
         rcases hin with⟨b,hbm,hbi⟩|⟨h1,h2⟩
         ·exact ha.heap _ (hb b hbm _ hbi)
         ·exact ha.slotH _ h1 (by omega)
        have h2:fz.getD p.1 false=fz'.getD p.1 false:=by
         rcases hin with⟨b,hbm,hbi⟩|⟨h1,h2⟩
         ·exact ha.wrF _ (hb b hbm _ hbi)
         ·exact ha.slotF _ h1 (by omega)
        have h3:(CT e H)[p.1]? = (CT e H')[p.1]? := by
         rw[CL he,CL he]
         exact GQ e.objs H H' h1
        have h4:Aj (GG e fz) p.1=Aj (GG e fz') p.1:=by
         rw[CW he,CW he]
         unfold Aj
         rw[LA ha.len h2]
        rw[h3,h4,hfree]
     |_=>rfl
    have mem:∀ p∈(given (bs.drop np)).map (fun i=>(i,Ob.dead))++(Cl (C8 outs) (bs.take np) slot).zip ((encode (cellsOf rs) outs y).heap.map (Dg (Cl (C8 outs) (bs.take np) slot))),p.1∈given (bs.drop np)∨p.1∈Cl (C8 outs) (bs.take np) slot:=by
     intro p hp
     rcases AjL.1 hp with h|h
     ·obtain⟨i,hi,rfl⟩:=Ajc.1 h;exact .inl hi
     ·exact .inr (List.of_mem_zip h).1
    unfold J6
    rw[RY (fz:=fz) (fz':=fz') (C8 outs) (bs.take np) slot (hf []),RY (fz:=Ak fr fz) (fz':=Ak fr fz') (C8 outs) (bs.take np) slot (hf fr)]
    split
    ·split
     ·exact key { objs:=_ } _ rfl mem
     ·rfl
    ·split
     ·exact key { objs:=_,frz:=_ } _ rfl mem
     ·rfl
end
def Ai1(i:Nat)(args:List AV):Option FuncId:=
 match args[i]? with
 |some (.clo f _)=>some f
 |some (.bnd f _)=>some f
 |_=>none
def Env.CJ(E:Env)(g:FuncId)(i:Nat)(c:FuncId)(s:Spec):Env where
 spec x:=match Nat.beq x g with
  |true=>fun R args H fz slot k=>match Ai1 i args with
   |some c'=>match Nat.beq c' c with
    |true=>s R args H fz slot k
    |false=>E.spec x R args H fz slot k
   |.none=>Option.none
  |false=>E.spec x
 loc x:=match Nat.beq x g with
  |true=>false
  |false=>E.loc x
 loc2 x:=match Nat.beq x g with
  |true=>E.loc2 g
  |false=>E.loc2 x
theorem Env.A0{P:Program}{E:Env}{g:FuncId}{i:Nat}{c:FuncId}{s:Spec}(h:AZ P E)(hs:AR P g s)(hl2:OU s):AZ P (E.CJ g i c s):=by
 refine⟨?_,?_,?_⟩
 ·intro x
  simp only[Env.CJ]
  cases hx:Nat.beq x g with
  |false=>exact h.1 x
  |true=>
   have:=Aka hx
   subst this
   intro R args H fz slot k r hk
   simp only at hk
   split at hk
   ·rename_i c' hc'
    split at hk
    ·rename_i hb
     obtain⟨v,e,h1,h2,h3,h4⟩:=hs R args H fz slot k r hk
     exact⟨v,e,h1,fun R' k'=>by simp only[hc',hb];exact h2 R' k',h3,h4⟩
    ·rename_i hb
     obtain⟨v,e,h1,h2,h3,h4⟩:=h.1 x R args H fz slot k r hk
     exact⟨v,e,h1,fun R' k'=>by simp only[hc',hb];exact h2 R' k',h3,h4⟩
   ·cases hk
 ·intro x hx
  simp only[Env.CJ]at hx ⊢
  cases hb:Nat.beq x g with
  |true=>rw[hb]at hx;cases hx
  |false=>rw[hb]at hx;exact h.2.1 x hx
 ·intro x hx
  simp only[Env.CJ]at hx ⊢
  cases hb:Nat.beq x g with
  |true=>
   rw[hb]at hx
   have:=Aka hb
   subst this
   have h2:=h.2.2 x hx
   intro R args H H' fz fz' slot k S a1 a2 a3
   simp only
   split
   ·split
    ·exact hl2 R args H H' fz fz' slot k S a1 a2 a3
    ·exact h2 R args H H' fz fz' slot k S a1 a2 a3
   ·rfl
  |false=>rw[hb]at hx;exact h.2.2 x hx
end Go.Pev
end
section
namespace Go.Pev
open Go.RowKit Go.ChangeShapes Go.WideShapes Go.ChangeAt
def PZ(P:Program)(rd:TypeId→Option Ty):List Field→Nat→Option Ty
 |[],_=>some .unit
 |f::r,off=>match rd f.type,PZ P rd r (off+P.cellsOf f.type)with
  |some a,some b=>match Nat.beq f.offset off&&Nat.beq (P.cellsOf f.type) a.size with
   |true=>some (.prod a b)
   |false=>none
  |_,_=>none
def Fj(P:Program):Nat→TypeId→Option Ty
 |0,_=>none
 |n+1,t=>match P.underlying t with
  |some .bool=>some .bool
  |some (.int k)=>some (.int k)
  |some (.slice e)=>match Fj P n e with
   |some a=>match Nat.beq (P.cellsOf e) a.size && !(Nat.beq a.size 0)with
    |true=>some (.slice a)
    |false=>none
   |none=>none
  |some (.array c e)=>match Fj P n e with
   |some a=>match Nat.beq (P.cellsOf e) a.size&&Nat.beq (P.cellsOf t) (c*a.size)with
    |true=>some (.arr c a)
    |false=>none
   |none=>none
  |some (.struct fs)=>match PZ P (Fj P n) fs.toList 0 with
   |some a=>match Nat.beq (P.cellsOf t) a.size with
    |true=>some a
    |false=>none
   |none=>none
  |_=>none
def wfD:(t:Ty)→t.den→Prop
 |.unit,_=>True
 |.bool,_=>True
 |.int k,n=>k.min≤n∧n≤k.max
 |.slice e,xs=>List.length (α:=e.den) xs≤maxLen∧∀ x∈(xs:List e.den),wfD e x
 |.prod a b,d=>wfD a d.1∧wfD b d.2
 |.arr n e,xs=>List.length (α:=e.den) xs=n∧∀ x∈(xs:List e.den),wfD e x
 |.nul _,_=>True
 |.mapi _ _,_=>True
section
variable {H:Type} {enc:TypeId×Value→H} {P:Program} {w:World} {spare:Nat→Bool} {held:Bool}
abbrev below(w:World):Nat→Prop:=fun b=>b<w.heap.size
theorem Ahr{k:IntKind}{n:Int}(h:(Lit.int k n).wf=true):k.min≤n∧n≤k.max:=by
 simpa [Lit.wf]using h
theorem AWM{α:Type}{R:α→List Value→Prop}{k:Nat}:∀ (m:Nat) (f:Nat→List Value),(∀ i,i<m→(f i).length=k∧∃ x,R x (f i))→∃ xs:List α,xs.length=m∧rows R xs ((List.range m).flatMap f)∧∀ x∈xs,∃ i,i<m∧R x (f i):=by
 intro m
 induction m with
 |zero=>intro f _;exact⟨[],rfl,rfl,fun x hx=>by cases hx⟩
 |succ m ih=>
  intro f h
  obtain⟨xs,h1,h2,h3⟩:=ih f fun i hi=>h i (by omega)
  obtain⟨_,x,hx⟩:=h m (by omega)
  refine⟨xs++[x],by simp[h1],?_,fun y hy => ?_⟩
  ·rw[Aki,Al7]
   exact H0 h2 (by simp;exact⟨f m,[],by simp,hx,rfl⟩)
  ·rcases AjL.1 hy with hy|hy
   ·obtain⟨i,hi,hr⟩:=h3 y hy;exact⟨i,by omega,hr⟩
   ·simp only[Aje]at hy;subst hy;exact⟨m,by omega,hx⟩
theorem Aeg{f:Nat→List Value}{k:Nat}:∀ (m:Nat),(∀ i,i<m→(f i).length=k)→∀ (j:Nat) (u:Value),((List.range m).flatMap f)[j]? = some u→∃ i r,i<m∧r<k∧j=i*k+r∧(f i)[r]? = some u:=by
 intro m
 induction m with
 |zero=>intro _ j u h;simp at h
 |succ m ih=>
  intro hl j u h
  rw[Aki,Al7]at h
  have hlen:∀ m',m'≤m→((List.range m').flatMap f).length=m'*k:=by
   intro m' hm'
   induction m' with
   |zero=>simp
   |succ m' ih'=>
    rw[Aki,Al7,AjQ,ih' (by omega)]
    simp[hl m' (by omega),AkJ]
  rcases Aj3 j (m*k)with hj|hj
  ·rw[Ajo (by rw[hlen m (AjR _)];exact hj)]at h
   obtain⟨i,r,h1,h2,h3,h4⟩:=ih (fun i hi=>hl i (by omega)) j u h
   exact⟨i,r,by omega,h2,h3,h4⟩
  ·rw[Ajq (by rw[hlen m (AjR _)];exact hj),hlen m (AjR _)]at h
   simp only[Akv,List.flatMap_nil,AkV]at h
   have hr:j-m*k<k:=by
    have:=Ft h
    rwa [hl m (by omega)]at this
   exact⟨m,j-m*k,by omega,hr,by omega,h⟩
theorem AfF(a:Addr)(i j:Nat):(a.add i).add j=a.add (i+j):=by
 unfold Addr.add
 by_cases hi:i=0
 ·subst hi;simp
 ·by_cases hj:j=0
  ·subst hj;simp
  ·have:¬ (i+j=0):=by omega
   simp[hi,hj,AmO]
theorem AVT{α:Type}[Inhabited α]{n:Nat}{p:Nat→α→Prop}(h:∀ i,i<n→∃ x,p i x):∃ f:Nat→α,∀ i,i<n→p i (f i):=by
 classical
 refine⟨fun i=>if hi:i<n then Classical.choose (h i hi)else default,fun i hi => ?_⟩
 simp only[dif_pos hi]
 exact Classical.choose_spec (h i hi)
theorem ASf{rd:TypeId→Option Ty}{cs:List Value}(hrd:∀ (f:Field) (a:Ty),rd f.type=some a→(P.cellsOf f.type=a.size)→(∃ y:Nat×(DataW H×List MemPlace),DataW.trod enc P w 0 spare held y.1 f.type ((cs.drop f.offset).take (P.cellsOf f.type))=some y.2)→∃ d:a.den,Dat w (below w) a d ((cs.drop f.offset).take (P.cellsOf f.type))∧wfD a d):
  ∀ (fs:List Field) (off:Nat) (t:Ty),PZ P rd fs off=some t→off+t.size=cs.length→(∀ f∈fs,∃ y:Nat×(DataW H×List MemPlace),DataW.trod enc P w 0 spare held y.1 f.type ((cs.drop f.offset).take (P.cellsOf f.type))=some y.2) →
   ∃ d:t.den,Dat w (below w) t d (cs.drop off)∧wfD t d:=by
 intro fs
 induction fs with
 |nil=>
  intro off t h hl _
  simp only[PZ,AjH]at h
  subst h
  refine⟨(),?_,trivial⟩
  show cs.drop off=[]
  simp[Ty.size]at hl
  exact List.drop_eq_nil_of_le (by omega)
 |cons f r ih=>
  intro off t h hl hf
  simp only[PZ]at h
  split at h
  ·rename_i a b ha hb
   split at h
   ·rename_i hc
    simp only[AjH]at h
    subst h
    simp only[AjJ]at hc
    have h1:=Aka hc.1
    have h2:=Aka hc.2
    obtain⟨d,hd,hw⟩:=hrd f a ha h2 (hf f (by simp))
    simp only[Ty.size]at hl
    obtain⟨e,he,hw'⟩:=ih (off+P.cellsOf f.type) b hb (by omega) fun g hg=>hf g (by simp[hg])
    refine⟨(d,e),⟨(cs.drop off).take (P.cellsOf f.type),cs.drop (off+P.cellsOf f.type),?_,?_,he⟩,hw,hw'⟩
    ·rw[← Ak9,AkD]
    ·rw[h1]at hd;exact hd
   ·cases h
  ·cases h
theorem Abb:∀ (n:Nat) (t:TypeId) (ty:Ty) (fuel:Nat) (cs:List Value) (x:DataW H×List MemPlace),Fj P n t=some ty→DataW.trod enc P w 0 spare held fuel t cs=some x→∃ d:ty.den,Dat w (below w) ty d cs∧wfD ty d:=by
 intro n
 induction n with
 |zero=>intro t ty fuel cs x h;cases h
 |succ n ih=>
  intro t ty fuel cs x h hx
  simp only[Fj]at h
  split at h
  ·rename_i hu
   simp only[AjH]at h;subst h
   obtain⟨b,rfl,_⟩:=DataW.trod_bool hu hx
   exact⟨b,rfl,trivial⟩
  ·rename_i k hu
   simp only[AjH]at h;subst h
   obtain⟨m,rfl,_,hw⟩:=DataW.trod_int hu hx
   exact⟨m,rfl,Ahr hw⟩
  ·rename_i e hu
   split at h
   ·rename_i a ha
    split at h
    ·rename_i hc
     simp only[AjH]at h;subst h
     rw[AjJ]at hc
     have hpos:a.size≠0:=fun h0=>by rw[h0]at hc;simp at hc
     have hc:=Aka hc.1
     rcases DataW.trod_slice hu hx with⟨rfl,_⟩|⟨ad,len,cap,elems,rest,m,rfl,rfl,_,_,hle,hmax,hlen,hel,_⟩
     ·exact⟨[],⟨none,0,rfl,AjR _,fun hne=>absurd rfl hne⟩,Al5 _,fun x hx=>by cases hx⟩
     ·-- each element
      have each:∀ i,i<len→∃ cs',w.cells? 0 (ad.add (i*P.cellsOf e)) (P.cellsOf e)=some cs'∧∃ d:a.den,Dat w (below w) a d cs'∧wfD a d:=by
       intro i hi
       have h1:=hel i hi
       rw[AjM (by omega),Aj0]at h1
       obtain⟨cs',h2,h3⟩:=h1
       exact⟨cs',h2,ih e a m cs' _ ha h3⟩
      obtain⟨f,hf⟩:=AVT (α:=List Value) (p:=fun i cs'=>w.cells? 0 (ad.add (i*P.cellsOf e)) (P.cellsOf e)=some cs'∧∃ d:a.den,Dat w (below w) a d cs'∧wfD a d) each
      have hfl:∀ i,i<len→(f i).length=a.size:=by
       intro i hi
       obtain⟨_,hl,_⟩:=World.cells?_some (hf i hi).1
       rw[hl,hc]
      obtain⟨xs,h1,h2,h3⟩:=AWM (R:=fun(d:a.den) cs=>Dat w (below w) a d cs∧wfD a d) (k:=a.size) len f fun i hi=>⟨hfl i hi,(hf i hi).2⟩
      refine⟨xs,⟨some ad,cap,by rw[h1],by rw[h1];exact hle,fun hne=>⟨ad,(List.range len).flatMap f,rfl,?_,BM (fun x _ cs hx=>hx.1) h2,fun j u hu => ?_⟩⟩,by rw[h1];exact AkO hle hmax,fun x hx => ?_⟩
      ·-- the block is there
       have hl0:0<len:=by
        rcases Akg len with h0|h0
        ·exact absurd (Ajd (by rw[h1,h0])) hne
        ·exact h0
       have hb:=World.cells?_block (hf 0 hl0).1 (by omega)
       rw[Alu]at hb
       have e0:ad.add 0=ad:=by simp[Addr.add]
       rw[e0]at hb
       exact hb
      ·obtain⟨i,r,hi,hr,rfl,hur⟩:=Aeg len hfl j u hu
       obtain⟨_,_,hcell⟩:=World.cells?_some (hf i hi).1
       have:=hcell r (by rw[hc];exact hr)
       rw[hur]at this
       rw[← this,hc,AfF]
      ·obtain⟨i,_,hr⟩:=h3 x hx
       exact hr.2
    ·cases h
   ·cases h
  ·rename_i c e hu
   split at h
   ·rename_i a ha
    split at h
    ·rename_i hc
     simp only[AjH]at h;subst h
     rw[AjJ]at hc
     have hc1:=Aka hc.1
     have hc2:=Aka hc.2
     obtain⟨xs,m,rfl,_,hl,hxs,hfs⟩:=DataW.trod_array hu hx
     rw[hc2]at hl
     obtain⟨ys,h1,h2,h3⟩:=AWM (R:=fun(d:a.den) cs=>Dat w (below w) a d cs∧wfD a d) (k:=a.size) c (fun i=>(cs.drop (i*a.size)).take a.size) fun i hi=>by
      have hi1:i*a.size+a.size≤c*a.size:=by
       have:=AkH a.size (show i+1≤c from hi)
       rwa [AkJ,Ak0]at this
      have h1:=hfs i hi
      rw[AjM (by omega),hc1]at h1
      exact⟨by rw[AjY,Ajt,hl];omega,ih e a m _ _ ha h1⟩
     have hjoin:∀ k,k≤c→(List.range k).flatMap (fun i=>(cs.drop (i*a.size)).take a.size)=cs.take (k*a.size):=by
      intro k
      induction k with
      |zero=>intro _;simp
      |succ k ihk=>
       intro hk
       rw[Aki,Al7,ihk (by omega),AkJ,Ak0,List.take_add]
       simp
     rw[hjoin c (AjR _),← hl,Akk]at h2
     exact⟨ys,⟨h1,BM (fun x _ cs hx=>hx.1) h2⟩,h1,fun x hx=>by obtain⟨i,_,hr⟩:=h3 x hx;exact hr.2⟩
    ·cases h
   ·cases h
  ·rename_i fs hu
   split at h
   ·rename_i a ha
    split at h
    ·rename_i hc
     simp only[AjH]at h;subst h
     have hc:=Aka hc
     obtain⟨xs,m,rfl,_,hl,hxs,hfs⟩:=DataW.trod_struct hu hx
     obtain⟨d,hd,hw⟩:=ASf (enc:=enc) (w:=w) (spare:=spare) (held:=held) (cs:=cs) (fun f b hb _ ⟨y,hy⟩=>ih f.type b y.1 _ y.2 hb hy) fs.toList 0 _ ha (by rw[hl,hc];omega) (fun f hf=>by
      obtain⟨i,hi⟩:=Al3 hf
      have h1:=hfs i f (by simpa using hi)
      have hlt:i<xs.length:=by rw[hxs];simpa using Ft hi
      rw[AjM hlt]at h1
      exact⟨(m,xs[i]),h1⟩)
     rw[AlU]at hd
     exact⟨d,hd,hw⟩
    ·cases h
   ·cases h
  ·cases h
theorem ATa{r:Reach}{b0:Nat}{t:TypeId}{v:Value}(hval:Value.okWide P w r b0 t v)(hn:∀ d,P.underlying t=some d→(match d with|.bool|.int _|.slice _=>true|_=>false)=true){ty:Ty}{n:Nat}(h:Fj P (n+1) t=some ty):v.cells.toList=[v]:=by
 simp only[Value.okWide]at hval
 have hu:∃ d,P.underlying t=some d:=by
  cases hu:P.underlying t with
  |none=>simp only[Fj,hu]at h;cases h
  |some d=>exact⟨d,rfl⟩
 obtain⟨d,hu⟩:=hu
 have:=hn d hu
 rw[hu]at hval
 cases d<;>simp only[Aja]at this<;>simp only[Cell.okWide,hu]at hval<;>cases v<;>first|rfl|(simp_all [Cell.ok])
theorem ZT{r:Reach}{b0:Nat}{t:TypeId}{v:Value}{ps:List MemPlace}{dd:DataW H}(hval:Value.okWide P w r b0 t v)(hd:DataW.Trod enc P w 0 spare held t v dd ps){ty:Ty}{n:Nat}(h:Fj P (n+1) t=some ty):
  ∃ d:ty.den,Bi w (below w) ty d v∧wfD ty d:=by
 obtain⟨fuel,hf⟩:=hd
 obtain⟨d,h1,h2⟩:=Abb (n+1) t ty fuel _ _ h hf
 refine⟨d,?_,h2⟩
 have one:(∀ d,P.underlying t=some d→(match d with|.bool|.int _|.slice _=>true|_=>false)=true)→ty.isAgg=false→Bi w (below w) ty d v:=by
  intro hn hg
  unfold Bi
  rw[hg]
  rw[ATa hval hn h]at h1
  exact h1
 have agg:(∃ cs,v = .agg cs)→ty.isAgg=true→Bi w (below w) ty d v:=by
  rintro⟨cs,rfl⟩ hg
  unfold Bi
  rw[hg]
  exact⟨cs,rfl,h1⟩
 have hu:∃ d,P.underlying t=some d:=by
  cases hu:P.underlying t with
  |none=>simp only[Fj,hu]at h;cases h
  |some d=>exact⟨d,rfl⟩
 obtain⟨td,hu⟩:=hu
 simp only[Fj,hu]at h
 split at h
 ·rename_i hq;cases hq;simp only[AjH]at h;subst h
  exact one (fun d hd=>by rw[hu]at hd;cases hd;rfl) rfl
 ·rename_i k hq;cases hq;simp only[AjH]at h;subst h
  exact one (fun d hd=>by rw[hu]at hd;cases hd;rfl) rfl
 ·rename_i e hq;cases hq
  split at h
  ·split at h
   ·simp only[AjH]at h;subst h
    exact one (fun d hd=>by rw[hu]at hd;cases hd;rfl) rfl
   ·cases h
  ·cases h
 ·rename_i c e hq;cases hq
  have hv:∃ cs,v = .agg cs:=by
   simp only[Value.okWide,hu]at hval
   obtain⟨cs,rfl,_⟩:=hval
   exact⟨cs,rfl⟩
  split at h
  ·split at h
   ·simp only[AjH]at h;subst h
    exact agg hv rfl
   ·cases h
  ·cases h
 ·rename_i fs hq;cases hq
  have hv:∃ cs,v = .agg cs:=by
   simp only[Value.okWide,hu]at hval
   obtain⟨cs,rfl,_⟩:=hval
   exact⟨cs,rfl⟩
  split at h
  ·rename_i a ha
   split at h
   ·simp only[AjH]at h;subst h
    refine agg hv ?_
    cases hfs:fs.toList with
    |nil=>rw[hfs]at ha;simp only[PZ,AjH]at ha;subst ha;rfl
    |cons f r=>
     rw[hfs]at ha
     simp only[PZ]at ha
     split at ha
     ·split at ha
      ·simp only[AjH]at ha;subst ha;rfl
      ·cases ha
     ·cases ha
   ·cases h
  ·cases h
 ·cases h
theorem AFV{g:FuncId}{s:Spec}(hs:AR P g s){args:List AV}{b:Bool}{e:Eff}(hrun:s (AV×Eff) args [] [] 0 (fun v e=>some (v,e))=some (.data .bool b,e)){vals:List Value}
  (hr:Ad w (below w) (fun _=>none) [] args vals) (hglo:AbJ w (below w):=by intro p h;simp[AKW]at h):Calls P g vals.toArray w fun en w'=>en = .returned (.bool b)∧Below w.heap.size w w':=by
 obtain⟨v,e',h1,_,_,h4⟩:=hs _ args [] [] 0 _ _ hrun
 simp only[AjH,Ajk]at h1
 obtain⟨rfl,rfl⟩:=h1
 have hi:HI w (below w) (fun _=>none) [] []:=⟨fun id o h=>by simp at h,fun i T e t xs ver out h=>by simp at h,fun i T e t xs ver out h=>by simp at h,fun i j b c b' c' _ _ _ h=>(nomatch h),fun i b c _ h=>(nomatch h),fun i T t xs b c h=>by simp at h,fun b h=>h,hglo,rfl⟩
 refine(h4 w _ _ vals hi hr).mono ?_
 rintro en w' ⟨u,rfl,F',m',⟨hx,_⟩,hu⟩
 have hb:u = .bool b:=Cp hu
 subst hb
 exact⟨rfl,hx.os,hx.tape,hx.output,hx.size,fun i hi=>hx.keep i hi fun j c _ h=>by cases h⟩
end
section
variable {H:Type} {enc:TypeId×Value→H} {P:Program}
theorem AEm{f:Func}{s:ChangeSpec}{apart fresh handsOn again:Bool}{W W':World}{args:Array Value}{v:Value}{ds gs:List (DataW H)}{before pa pv:List MemPlace}
  (hW:DataW.Whole enc P f.params.toList s.vars apart W args.toList ds gs before)
  (hres:∀ (b:Nat) (sp:Nat→Bool) (hd:Bool),DataW.TrodAll enc P W' b sp hd f.resultTypes.toList (v.resultList f.resultTypes.size) (s.fn H (ds++gs)).results [])
  (hargs:∀ sp:Nat→Bool,(∀ p∈before,sp p.block=true)→DataW.TrodAll enc P W' 0 sp true f.params.toList args.toList (s.fn H (ds++gs)).args pa)
  (hvars:∀ sp:Nat→Bool,(∀ p∈before,sp p.block=true)→DataW.TrodVars enc P W' sp s.vars (s.fn H (ds++gs)).vars pv)
  (hps:before=pa++pv) (hb:Below W.heap.size W W')
  (hok:∀ (j:Nat) (t:TypeId) (r:Value),f.resultTypes[j]? = some t→(v.resultList f.resultTypes.size)[j]? = some r→Value.okWide P W' .any 0 t r) :
  s.post enc P f apart fresh handsOn again W args v W':=by
 have hlt:∀ p∈before,p.block<W.heap.size:=fun p hp=>hW.lt p hp
 have hold:∀ p∈before,(fun b=>decide (b<W.heap.size)) p.block=true:=fun p hp=>by simpa using hlt p hp
 refine⟨ds,gs,before,[],pa,pv,hW,hres _ _ _,hargs _ hold,hvars _ hold,World.keptBut_mono (fun p hp=>⟨hp,?_⟩) (hb.frame (·∈before)),fun _ => ?_⟩
 ·rw[hps,AjL]at hp
  exact Or.inr hp
 ·obtain⟨_,_,_,_,_,hz,hn⟩:=hW
  refine⟨hok,_,_,([]++pa)++pv,⟨[]++pa,pv,trodAll_append (hargs _ (fun _ _=>rfl)) (hres _ _ _),hvars _ (fun _ _=>rfl),rfl,?_,?_⟩,?_⟩
  ·intro b off hp
   have hin:MemPlace.cell b off∈before:=by rw[hps];simpa using hp
   rw[hb.frozen (hlt _ hin)]
   exact hz b off hin
  ·intro ha
   have:=hn ha
   rw[hps]at this
   simpa using this
  ·intro p hp _
   rw[hps]
   simpa using hp
theorem PD{t:TypeId}(hl:laidOutB P=true)(hr:P.readableRec t=true)(hrow:t<P.types.size){W W':World}{v:Value}{d:DataW H}{ps:List MemPlace}
  (h:DataW.Trod enc P W 0 (fun _=>true) true t v d ps) (hb:Below W.heap.size W W') (hlt:∀ x∈ps,x.block<W.heap.size) {sp:Nat→Bool} (hs:∀ x∈ps,sp x.block=true) :
  DataW.Trod enc P W' 0 sp true t v d ps:=
 WideElems.Trod_stays hl hr hrow h (fun x hx=>hb.same (hlt x hx)) hs
end
end Go.Pev
end
section
section
namespace Go.Pev.Pl
open Tok
theorem Yf{a b:Nat}(hb:0<b):rem? (a:Int) (b:Int)=some ((a % b:Nat):Int):=by
 rw[AIx,AAh,AjS (by omega)]
 rfl
theorem LP{a b:Nat}(h:a<2*b):a % b=if a<b then a else a-b:=by
 split
 ·exact AmS (by assumption)
 ·rw[Nat.mod_eq_sub_mod (by omega),AmS (by omega)]
def K4(n t u:Int):Bool:=match CD n t with
 |some x=>decide (x.st=u)
 |none=>false
theorem N9{l:List Int}{j:Nat}(hj:j≤l.length):(rot l j).length=l.length:=by
 simp[rot];omega
theorem GS{l:List Int}{j k:Nat}(hj:j<l.length)(hk:k<l.length):(rot l j).getD k 0=l.getD ((j+k) % l.length) 0:=by
 rw[LP (by omega),rot]
 by_cases h:j+k<l.length
 ·rw[AjV h,AjK,Ajo (by simp;omega),AkI,AjK]
 ·rw[AjS h,AjK,Ajq (by simp;omega),List.getElem?_take_of_lt (by simp;omega),AjK]
  congr 2
  simp;omega
def Red(n:Int)(l l':List Int):Prop:=∃ j x u v rest,j<l.length∧rot l j=x::Dm n (.arc u v)::v::Dm n (.arc v u)::rest∧okT n (.arc u v)∧K4 n x u=true∧l'=rest++[x]
def Fi(l:List Int)(i:Nat):List Int:=(List.range' 3 (l.length-3)).map fun k=>l.getD ((i+k) % l.length) 0
theorem AYq{l:List Int}{i j:Nat}(hl:4≤l.length)(hj:j<l.length)(hij:i=if j+1=l.length then 0 else j+1):Fi l i=(rot l j).drop 4++[(rot l j).getD 0 0]:=by
 apply AmR
 ·simp[Fi,N9 (Ak4 hj)];omega
 ·intro m h1 h2
  simp only[Fi,AkM,List.length_range']at h1
  simp only[Fi,List.getElem_map,List.getElem_range',Ak0]
  have hi:i<l.length:=by rw[hij];split<;>omega
  by_cases hm:m<l.length-4
  ·rw[List.getElem_append_left (by simp[N9 (Ak4 hj)];omega),List.getElem_drop]
   have:=GS (l:=l) (j:=j) (k:=4+m) hj (by omega)
   rw[AjK,AjM (by rw[N9 (Ak4 hj)];omega),Aju]at this
   rw[this]
   congr 1
   rw[LP (by omega),LP (by omega),hij]
   (repeat' split)<;>omega
  ·rw[List.getElem_append_right (by simp[N9 (Ak4 hj)];omega)]
   simp only[List.getElem_singleton]
   rw[GS hj (by omega)]
   congr 1
   rw[LP (by omega),LP (by omega),hij]
   (repeat' split)<;>omega
theorem Aix{α:Type}{l:List α}(z:α)(h:4≤l.length):l=l.getD 0 z::l.getD 1 z::l.getD 2 z::l.getD 3 z::l.drop 4:=by
 match l,h with
 |a::b::c::d::r,_=>rfl
def LW(n:Int)(l:List Int)(i:Nat):Bool:=
 decide (4≤l.length)&&match CD n (l.getD i 0)with
  |some (.arc u v)=>decide (l.getD ((i+1) % l.length) 0=v)&&(decide (l.getD ((i+2) % l.length) 0=EG n v u)&&K4 n (l.getD ((i+l.length-1) % l.length) 0) u)
  |_=>false
theorem FD{n u v:Int}(h:okT n (.arc u v)):okT n (.arc v u):=⟨h.2.1,h.1,Ajz h.2.2⟩
theorem AUD{n:Int}{l:List Int}{i:Nat}(hi:i<l.length)(h:LW n l i=true):Red n l (Fi l i):=by
 rw[LW,AjJ,AjI]at h
 obtain⟨hl,h⟩:=h
 cases ht:CD n (l.getD i 0)with
 |none=>rw[ht]at h;cases h
 |some t=>
  rw[ht]at h
  cases t with
  |ver v=>cases h
  |arc u v=>
   simp only[AjJ,AjI]at h
   obtain⟨h1,h2,h3⟩:=h
   obtain⟨g1,g2⟩:=VI ht
   let j:=if i=0 then l.length-1 else i-1
   have hj:j<l.length:=by simp only[j];split<;>omega
   have hij:i=if j+1=l.length then 0 else j+1:=by simp only[j];(repeat' split)<;>omega
   have m0:(i+l.length-1) % l.length=(j+0) % l.length:=by
    rw[LP (by omega),LP (by omega)];simp only[j];(repeat' split)<;>omega
   have m1:i=(j+1) % l.length:=by rw[LP (by omega)];simp only[j];(repeat' split)<;>omega
   have m2:(i+1) % l.length=(j+2) % l.length:=by
    rw[LP (by omega),LP (by omega)];simp only[j];(repeat' split)<;>omega
   have m3:(i+2) % l.length=(j+3) % l.length:=by
    rw[LP (by omega),LP (by omega)];simp only[j];(repeat' split)<;>omega
   have hlr:4≤(rot l j).length:=by rw[N9 (Ak4 hj)];exact hl
   have e:=Aix (0:Int) hlr
   have r0:=GS (l:=l) (k:=0) hj (by omega)
   have r1:=GS (l:=l) (k:=1) hj (by omega)
   have r2:=GS (l:=l) (k:=2) hj (by omega)
   have r3:=GS (l:=l) (k:=3) hj (by omega)
   rw[← m0]at r0
   rw[← m1]at r1
   rw[← m2,h1]at r2
   rw[← m3,h2,FT (FD g1)]at r3
   refine⟨j,(rot l j).getD 0 0,u,v,(rot l j).drop 4,hj,?_,g1,by rw[r0];exact h3,AYq hl hj hij⟩
   rw[r1,r2,r3,← g2]at e
   exact e
theorem ASe{n:Int}{l l':List Int}(h:Red n l l'):∃ i,i<l.length∧LW n l i=true:=by
 obtain⟨j,x,u,v,rest,hj,hr,hok,hst,_⟩:=h
 have hl:4≤l.length:=by
  have:=AkZ List.length hr
  rw[N9 (Ak4 hj)]at this
  simp only[AjP]at this
  omega
 let i:=if j+1=l.length then 0 else j+1
 have hi:i<l.length:=by simp only[i];split<;>omega
 have m0:(i+l.length-1) % l.length=(j+0) % l.length:=by
  rw[LP (by omega),LP (by omega)];simp only[i];(repeat' split)<;>omega
 have m1:i=(j+1) % l.length:=by rw[LP (by omega)];simp only[i];(repeat' split)<;>omega
 have m2:(i+1) % l.length=(j+2) % l.length:=by
  rw[LP (by omega),LP (by omega)];simp only[i];(repeat' split)<;>omega
 have m3:(i+2) % l.length=(j+3) % l.length:=by
  rw[LP (by omega),LP (by omega)];simp only[i];(repeat' split)<;>omega
 have r0:=GS (l:=l) (k:=0) hj (by omega)
 have r1:=GS (l:=l) (k:=1) hj (by omega)
 have r2:=GS (l:=l) (k:=2) hj (by omega)
 have r3:=GS (l:=l) (k:=3) hj (by omega)
 rw[hr]at r0 r1 r2 r3
 rw[← m0]at r0
 rw[← m1]at r1
 rw[← m2]at r2
 rw[← m3]at r3
 simp only[List.getD_cons_zero,List.getD_cons_succ]at r0 r1 r2 r3
 refine⟨i,hi,?_⟩
 rw[LW,← r1,Dx hok]
 simp only[← r0,← r2,← r3,hst,FT (FD hok),hl,AjU,Akx]
theorem AiB{n:Int}{l l':List Int}(h:Red n l l')(hn:l.Nodup):TI n l↔TI n l':=by
 obtain⟨j,x,u,v,rest,hj,hr,hok,hst,rfl⟩:=h
 obtain⟨X,hX,hXs⟩:∃ X,CD n x=some X∧X.st=u:=by
  rw[K4]at hst
  cases hx:CD n x with
  |none=>rw[hx]at hst;cases hst
  |some X=>rw[hx]at hst;exact⟨X,rfl,by simpa using hst⟩
 obtain⟨hX1,hX2⟩:=VI hX
 have hnr:(rot l j).Nodup:=by
  rw[rot]
  exact(List.perm_append_comm.nodup_iff).2 (by rw[AkD];exact hn)
 rw[hr]at hnr
 constructor
 ·rintro⟨L,h1,h2,h3⟩
  have hL:rot l j=(L.drop j++L.take j).map (Dm n):=by rw[rot,h1];simp
  have hTr:T (L.drop j++L.take j):=T.rot (L.take j) (L.drop j) (by rw[AkD];exact h3)
  have hok2:∀ t∈L.drop j++L.take j,okT n t:=fun t ht=>h2 t (by
   rw[← AkD j L]
   simp only[AjL]at ht ⊢
   exact ht.symm)
  generalize L.drop j++L.take j=M at *
  rw[hr]at hL
  match M,hL with
  |[_,_],hL=>simp at hL
  |[_,_,_],hL=>simp at hL
  |a::b::c::d::r,hL=>
   simp only[Ajm,Ajg]at hL
   obtain⟨e1,e2,e3,e4,e5⟩:=hL
   have q1:X=a:=GZ hX1 (hok2 a (by simp)) (by rw[hX2,e1])
   have q2:Tok.arc u v=b:=GZ hok (hok2 b (by simp)) e2
   have q3:Tok.ver v=c:=GZ (show okT n (.ver v)from hok.2.1) (hok2 c (by simp)) e3
   have q4:Tok.arc v u=d:=GZ (FD hok) (hok2 d (by simp)) e4
   subst q1 q2 q3 q4
   subst hXs
   have:=T.less hTr
   refine⟨r++[X],by simp[e5,hX2],fun t ht=>hok2 t ?_,T.rot [X] r this⟩
   simp only[AjL,Aje]at ht
   rcases ht with h|h<;>simp[h]
 ·rintro⟨K,k1,k2,k3⟩
  obtain⟨K1,K2,rfl,e1,e2⟩:=AmM.1 k1.symm
  obtain⟨X',K3,rfl,e3,e4⟩:=List.map_eq_cons_iff.1 e2
  rw[List.map_eq_nil_iff]at e4
  subst e4
  have q1:X'=X:=GZ (k2 X' (by simp)) hX1 (by rw[hX2,e3])
  subst q1
  have t1:T (X'::K1):=T.rot K1 [X'] k3
  subst hXs
  have hvm:∀ t,t∈X'::K1→okT n t:=fun t ht=>k2 t (by
   simp only[AjN,AjL,Aje]at ht ⊢
   rcases ht with h|h<;>simp[h])
  have hnv:Tok.ver v∉X'::K1:=by
   intro hm
   have hvl:v=x∨v∈rest:=by
    rcases AjN.1 hm with h|h
    ·left;rw[← hX2,← h];rfl
    ·right;rw[← e1];exact Ajc.2 ⟨_,h,rfl⟩
   simp only[Ajr,AjN,not_or]at hnr
   rcases hvl with h|h
   ·exact hnr.1.2.1 h.symm
   ·exact hnr.2.2.1.2 h
  have t2:=T.add X' K1 v t1 hok.2.2 hnv
  have hmap:rot l j=(X' :: .arc X'.st v :: .ver v :: .arc v X'.st::K1).map (Dm n):=by
   rw[hr];simp only[Ajm,hX2,e1];rfl
  have hok3:∀ t∈X'::Tok.arc X'.st v :: .ver v :: .arc v X'.st::K1,okT n t:=by
   intro t ht
   simp only[AjN]at ht
   rcases ht with rfl|rfl|rfl|rfl|h
   ·exact hX1
   ·exact hok
   ·exact hok.2.1
   ·exact FD hok
   ·exact hvm t (Ajj _ h)
  generalize X'::Tok.arc X'.st v :: .ver v :: .arc v X'.st::K1=M at *
  rw[rot]at hmap
  obtain⟨M1,M2,rfl,f1,f2⟩:=AmM.1 hmap.symm
  refine⟨M2++M1,by rw[Aks,f1,f2,AkD],fun t ht=>hok3 t ?_,T.rot M1 M2 t2⟩
  simp only[AjL]at ht ⊢
  exact ht.symm
theorem Aii{n:Int}{l:List Int}(h:TI n l)(hl:1<l.length):∃ l',Red n l l':=by
 obtain⟨L,h1,h2,h3⟩:=h
 rcases h3.leaf with⟨v,e⟩|⟨x,v,r,p,q,e1,e2⟩
 ·rw[h1,e]at hl;simp at hl
 ·have hmap:l.map id=(p++q).map (Dm n):=by rw[List.map_id,h1,e1]
  rw[List.map_id]at hmap
  have hok:∀ t∈q++p,okT n t:=fun t ht=>h2 t (by rw[e1];simp only[AjL]at ht ⊢;exact ht.symm)
  have key:∀ j,j<l.length→rot l j=(q++p).map (Dm n)→∃ l',Red n l l':=by
   intro j hj hrj
   rw[← e2]at hok
   rw[← e2]at hrj
   have ha:okT n (.arc x.st v):=hok _ (by simp)
   exact⟨_,j,Dm n x,x.st,v,r.map (Dm n),hj,by rw[hrj];rfl,ha,by rw[K4,Dx (hok x (by simp))];simp,rfl⟩
  by_cases hq:q=[]
  ·subst hq
   refine key 0 (by omega) ?_
   simp[rot,hmap]
  ·have hj:p.length<l.length:=by
    rw[hmap,AkM,AjQ]
    have:=List.length_pos_iff.2 hq
    omega
   refine key p.length hj ?_
   rw[rot,hmap,Aks]
   rw[List.drop_left' (by simp),AmA (by simp),Aks]
end Go.Pev.Pl
end
section
namespace Go.Pev.Pl
open Tok
theorem ASa{l:List Int}{i:Nat}(hi:i<l.length):∀ x∈Fi l i,x∈l:=by
 intro x hx
 simp only[Fi,Ajc]at hx
 obtain⟨k,_,rfl⟩:=hx
 have hk:(i+k) % l.length<l.length:=Nat.mod_lt _ (by omega)
 rw[AjK,AjM hk,Aju]
 exact Akc hk
theorem AYr{n:Int}{l l':List Int}(h:Red n l l')(hn:l.Nodup):l'.Nodup:=by
 obtain⟨j,x,u,v,rest,hj,hr,hok,hst,rfl⟩:=h
 have hnr:(rot l j).Nodup:=by
  rw[rot]
  exact(List.perm_append_comm.nodup_iff).2 (by rw[AkD];exact hn)
 rw[hr]at hnr
 have:(x::rest).Nodup:=by
  simp only[Ajr,AjN,not_or]at hnr ⊢
  exact⟨hnr.1.2.2.2,hnr.2.2.2.2⟩
 exact(Aky (l₁:=[x]) (l₂:=rest)).nodup_iff.1 this
theorem AfL(n t:Int):TI n [t]↔In n t:=by
 constructor
 ·rintro⟨L,h1,h2,h3⟩
  rcases h3.leaf with⟨v,e⟩|⟨x,v,r,hr⟩
  ·subst e
   simp only[Ajm,AlJ,Ajg,Alz]at h1
   rw[h1]
   exact h2 (.ver v) (by simp)
  ·have h4:=hr.length
   have h5:=AkZ List.length h1
   simp only[AjP,Ajh,AkM]at h4 h5
   omega
 ·intro h
  exact⟨[.ver t],rfl,fun x hx=>by simp at hx;subst hx;exact h,T.one t⟩
theorem AfM(n:Int):¬ TI n []:=by
 rintro⟨L,h1,h2,h3⟩
 have:=h3.facts.1
 cases L with
 |nil=>exact this rfl
 |cons t L=>cases h1
end Go.Pev.Pl
end
section
namespace Go.Pev.Pl
open Tok
def RG(n:Int)(xs:List Int):Prop:=Rt xs∧xs≠[]∧Gp xs=xs.headD 0∧TI n xs
def okR(n:Int):List Int→Int→List (List Int)→Prop
 |_,_,[]=>True
 |seen,last,l::ls=>RG n l∧last<l.headD 0∧(∀ t∈l,t<n→t∉seen)∧okR n (seen++l.filter (fun t=>decide (t<n))) (l.headD 0) ls
def RF(n:Int)(rings:List (List Int)):Prop:=Sz n∧okR n [] (-1) rings∧∀ v,0≤v→v<n→v∈rings.flatten
noncomputable instance (n:Int) (rings:List (List Int)):Decidable (RF n rings):=Classical.propDecidable _
noncomputable instance (n:Int) (xs:List Int):Decidable (RG n xs):=Classical.propDecidable _
def MI(n:Int)(met:List (Int×Int))(seen:List Int):Prop:=∀ t,t<n→(AP met t).getD (0:Int)=if t∈seen then 1 else 0
theorem AHk(n:Int)(l:List Int)(hl:l.length<1073741824)(d1:List (List Int))(d3:Int)(d4:List (List Int))(d5 d6:Int)(d7:List Int)(d8 d9:Int)(d10:Bool)(d11:List Int)(d12 d13:Bool)(d14:List Int)(d15:Int)(d16:List Int)(d17:Int)(d18:Bool)(d19:Int)(d20:List Int)(d21 d22:Bool):
  ∀ (m k cnt:Nat) (met:List (Int×Int)) (seen:List Int),k+m=l.length→MI n met seen→(l.drop k).Nodup→m<cnt →
  ((∀ t∈l.drop k,t<n→t∉seen)∧∃ met',AY Du cnt (n,d1,met,d3,d4,d5,d6,d7,d8,d9,d10,d11,d12,d13,d14,d15,d16,d17,d18,d19,d20,d21,d22,l,(l.length:Int),(k:Int),()) =
    some (.inr (.inl (n,d1,met',d3,d4,d5,d6,d7,d8,d9,d10,d11,d12,d13,d14,d15,d16,d17,d18,d19,d20,d21,d22,())))∧MI n met' (seen++(l.drop k).filter (fun t=>decide (t<n)))) ∨
  (¬ (∀ t∈l.drop k,t<n→t∉seen)∧AY Du cnt (n,d1,met,d3,d4,d5,d6,d7,d8,d9,d10,d11,d12,d13,d14,d15,d16,d17,d18,d19,d20,d21,d22,l,(l.length:Int),(k:Int),())=some (.inl (false,()))):=by
 intro m
 induction m with
 |zero=>
  intro k cnt met seen hk hm hn hc
  obtain⟨cnt,rfl⟩:∃ c,cnt=c+1:=⟨cnt-1,by omega⟩
  have e:l.drop k=[]:=AkY (by omega)
  rw[e]
  refine .inl ⟨by simp,met,?_,by simpa using hm⟩
  rw[AY,Du,AO,AjF (by omega)]
 |succ m ih=>
  intro k cnt met seen hk hm hn hc
  obtain⟨cnt,rfl⟩:∃ c,cnt=c+1:=⟨cnt-1,by omega⟩
  have hk':k<l.length:=by omega
  have e:l.drop k=l.getD k 0::l.drop (k+1):=by
   rw[Aj7 hk',AjK,AjM hk',Aju]
  rw[AY,Du,AO,AjG hk']
  simp only[Cc (0:Int) hk']
  rw[e]at hn ⊢
  generalize l.getD k 0=t at *
  rw[Ajr]at hn
  rw[AN (by omega),Ai]
  by_cases ht:t<n
  ·rw[AjG ht]
   have hmt:=hm t ht
   simp only[hmt,Ai]
   by_cases hs:t∈seen
   ·rw[AjV hs,AjG (by omega)]
    exact .inr ⟨fun h=>h t (by simp) ht hs,rfl⟩
   ·rw[AjS hs,AjF (by omega)]
    simp only[]
    have w1:IntKind.wrap .i64 ((0:Int)+1)=1:=by rw[Ah (by omega)];rfl
    rw[w1]
    have hm':MI n (Ae met t 1) (seen++[t]):=by
     intro y hy
     rw[D3]
     by_cases e2:y=t
     ·simp[e2]
     ·simp only[e2,Ajb,AjL,Aje,Alp];exact hm y hy
    have hiff:(∀ y∈t::l.drop (k+1),y<n→y∉seen)↔∀ y∈l.drop (k+1),y<n→y∉seen++[t]:=by
     constructor
     ·intro h y hy hyn hm2
      simp only[AjL,Aje]at hm2
      rcases hm2 with h2|rfl
      ·exact h y (Ajj _ hy) hyn h2
      ·exact hn.1 hy
     ·intro h y hy hyn hm2
      rcases AjN.1 hy with rfl|hy
      ·exact hs hm2
      ·exact h y hy hyn (by simp[hm2])
    rcases ih (k+1) cnt _ _ (by omega) hm' hn.2 (by omega)with⟨q1,met',q2,q3⟩|⟨q1,q2⟩
    ·refine .inl ⟨hiff.2 q1,met',q2,?_⟩
     rw[AmG (by simpa using ht)]
     simpa using q3
    ·exact .inr ⟨fun h=>q1 (hiff.1 h),q2⟩
  ·rw[AjF ht]
   simp only[]
   have hm':MI n (Ae met t (IntKind.wrap .i64 (((AP met t).getD (0:Int))+(1:Int)))) seen:=by
    intro y hy
    rw[D3,AjS (by omega)]
    exact hm y hy
   have hiff:(∀ y∈t::l.drop (k+1),y<n→y∉seen)↔∀ y∈l.drop (k+1),y<n→y∉seen:=by
    constructor
    ·intro h y hy;exact h y (Ajj _ hy)
    ·intro h y hy hyn
     rcases AjN.1 hy with rfl|hy
     ·exact absurd hyn ht
     ·exact h y hy hyn
   rcases ih (k+1) cnt _ _ (by omega) hm' hn.2 (by omega)with⟨q1,met',q2,q3⟩|⟨q1,q2⟩
   ·refine .inl ⟨hiff.2 q1,met',q2,?_⟩
    rw[AmH (by simpa using ht)]
    exact q3
   ·exact .inr ⟨fun h=>q1 (hiff.1 h),q2⟩
theorem ZU(n:Int)(rings:List (List Int))(hlen:rings.length<1073741824)(hr:∀ l∈rings,l.length<9223372036854775808∧∀ x∈l, -9223372036854775808≤x∧x≤9223372036854775807):
  ∀ (ls:List (List Int)) (i cnt:Nat) (met:List (Int×Int)) (last:Int) (seen:List Int),rings.drop i=ls→i≤rings.length→MI n met seen→ls.length<cnt →
  (okR n seen last ls∧∃ met' seen',AY Dv cnt (n,rings,met,last,rings,(rings.length:Int),(i:Int),())=some (.inr (.inl (n,rings,met',())))∧MI n met' seen'∧∀ v,v∈seen'↔v∈seen∨(v<n∧v∈ls.flatten)) ∨
  (¬ okR n seen last ls∧AY Dv cnt (n,rings,met,last,rings,(rings.length:Int),(i:Int),())=some (.inl (false,()))):=by
 have hmany:4294967296<many:=by simp only[many];omega
 intro ls
 induction ls with
 |nil=>
  intro i cnt met last seen hd hi hm hc
  obtain⟨cnt,rfl⟩:∃ c,cnt=c+1:=⟨cnt-1,by simp at hc;omega⟩
  have:rings.length≤i:=by simpa using hd
  refine .inl ⟨trivial,met,seen,?_,hm,by simp⟩
  rw[AY,Dv,AO,AjF (by omega)]
 |cons l ls ih=>
  intro i cnt met last seen hd hi hm hc
  simp only[AjP]at hc
  obtain⟨cnt,rfl⟩:∃ c,cnt=c+1:=⟨cnt-1,by omega⟩
  have hi':i<rings.length:=by
   refine Aj6 fun h => ?_
   rw[AkY (by omega)]at hd
   cases hd
  rw[Aj7 hi']at hd
  simp only[Ajg]at hd
  obtain⟨hd1,hd2⟩:=hd
  have hx:rings[i]? = some l:=by rw[AjM hi',hd1]
  have hmem:l∈rings:=AjW hx
  obtain⟨hl,hlr⟩:=hr l hmem
  rw[AY,Dv,AO,AjG hi',okR]
  simp only[Ag hx,Ar]
  cases l with
  |nil=>
   rw[AL,AjG (by simp)]
   exact .inr ⟨fun h=>h.1.2.1 rfl,rfl⟩
  |cons x tl=>
   rw[AL,AjF (by simp only[AjP];omega)]
   have i0:idx (x::tl) (0:Int)=some x:=by rw[EK];rfl
   simp only[i0,AmB,Ax]
   by_cases c1:x≤last
   ·rw[AjG c1]
    exact .inr ⟨fun h=>by omega,rfl⟩
   ·rw[AjF c1]
    simp only[PY]
    by_cases c2:Rt (x::tl)
    ·rw[AjG c2]
     have hl:(x::tl).length<1073741824:=by have:=c2.1;omega
     simp only[AjT,AOl (x::tl) (by simp) (by omega)]
     by_cases c3:Gp (x::tl)=x
     ·rw[AjG c3]
      simp only[AjT]
      rw[AeT n (x::tl) (by simp) (by omega) hlr c2.2.2 (fun y hy=>by simp at hy;rw[← hy];exact c3)]
      by_cases c4:TI n (x::tl)
      ·rw[AjG c4]
       simp only[AjT,An]
       have hRG:RG n (x::tl):=⟨c2,by simp,c3,c4⟩
       rcases AHk n (x::tl) hl rings x rings (rings.length:Int) (i:Int) (x::tl) x last false (x::tl) true false (x::tl) (Gp (x::tl)) (x::tl) x false n (x::tl) true false (x::tl).length 0 many met seen (by omega) hm (by rw[AlU];exact c2.2.2) (by omega)with⟨q1,met',q2,q3⟩|⟨q1,q2⟩
       ·rw[AlU]at q1 q3
        have q2':AY Du many (n,rings,met,x,rings,(rings.length:Int),(i:Int),x::tl,x,last,false,x::tl,true,false,x::tl,Gp (x::tl),x::tl,x,false,n,x::tl,true,false,x::tl,((x::tl).length:Int),(0:Int),())=_:=q2
        simp only[q2',AN (show i+1<9223372036854775808 by omega)]
        rcases ih (i+1) cnt met' x (seen++(x::tl).filter (fun t=>decide (t<n))) hd2 (by omega) q3 (by omega)with⟨p1,met2,seen2,p2,p3,p4⟩|⟨p1,p2⟩
        ·refine .inl ⟨⟨hRG,by omega,q1,p1⟩,met2,seen2,p2,p3,fun v => ?_⟩
         rw[p4,AjL,Ajp,AlR,AjL]
         simp only[AjI]
         constructor
         ·rintro ((h|h)|h)
          ·exact .inl h
          ·exact .inr ⟨h.2,.inl h.1⟩
          ·exact .inr ⟨h.1,.inr h.2⟩
         ·rintro (h|⟨h,h2|h2⟩)
          ·exact .inl (.inl h)
          ·exact .inl (.inr ⟨h2,h⟩)
          ·exact .inr ⟨h,h2⟩
        ·exact .inr ⟨fun h=>p1 h.2.2.2,p2⟩
       ·rw[AlU]at q1
        have q2':AY Du many (n,rings,met,x,rings,(rings.length:Int),(i:Int),x::tl,x,last,false,x::tl,true,false,x::tl,Gp (x::tl),x::tl,x,false,n,x::tl,true,false,x::tl,((x::tl).length:Int),(0:Int),())=_:=q2
        simp only[q2']
        exact .inr ⟨fun h=>q1 h.2.2.1,by trivial⟩
      ·rw[AjF c4]
       exact .inr ⟨fun h=>c4 h.1.2.2.2,rfl⟩
     ·rw[AjF c3]
      exact .inr ⟨fun h=>c3 h.1.2.2.1,rfl⟩
    ·rw[AjF c2]
     exact .inr ⟨fun h=>c2 h.1.1,rfl⟩
theorem PE(n:Int)(rings:List (List Int))(hlen:rings.length<1073741824)(hr:∀ l∈rings,l.length<9223372036854775808∧∀ x∈l, -9223372036854775808≤x∧x≤9223372036854775807):
  PF ((n,(rings,())),())=some (decide (RF n rings),()):=by
 have hmany:4294967296<many:=by simp only[many];omega
 rw[AFg,Qh]
 simp only[Ky]
 by_cases hS:Sz n
 ·rw[AjG hS]
  simp only[AjT,An,AL]
  rcases ZU n rings hlen hr rings 0 many [] (-1) [] (by simp) (by omega) (fun t _=>by simp[AP]) (by omega)with⟨p1,met,seen,p2,p3,p4⟩|⟨p1,p2⟩
  ·have p2':AY Dv many (n,rings,[], -1,rings,(rings.length:Int),(0:Int),())=_:=p2
   simp only[p2']
   obtain⟨s1,s2⟩:=hS
   obtain⟨N,rfl⟩:=AjO (show 0≤n by omega)
   have e:=AMs (step:=En) (fun i=>(met,(N:Int),(i:Int),())) N (fun i=>decide ((i:Int)∉seen)) (fun _=>.inl (false,())) (.inr (.inl ())) (by omega)
    (fun i hi=>by
     have:=p3 (i:Int) (by omega)
     rw[En,AO,AjG hi]
     simp only[this,Ar]
     by_cases h:(i:Int)∈seen
     ·simp only[h,Ajs,not_true]
      rw[AN (by omega)];simp
     ·simp[h])
    (by rw[En,AO,AjF (by omega)])
   rw[An]at e
   have hv:∀ v,v∈seen↔(v<(N:Int)∧v∈rings.flatten):=fun v=>by rw[p4];simp
   rcases e with⟨k,k1,k2,_,k4⟩|⟨k1,k4⟩
   ·have k4':AY En many (met,(N:Int),(0:Int),())=_:=k4
    rw[k4',AjF]
    rintro⟨_,_,h⟩
    simp only[AjI]at k2
    exact k2 ((hv _).2 ⟨by omega,h (k:Int) (by omega) (by omega)⟩)
   ·have k4':AY En many (met,(N:Int),(0:Int),())=_:=k4
    rw[k4',AjG]
    refine⟨⟨s1,s2⟩,p1,fun v v1 v2 => ?_⟩
    obtain⟨k,rfl⟩:=AjO v1
    have:=k1 k (by omega)
    simp only[AkB,Alr]at this
    exact((hv _).1 this).2
  ·have p2':AY Dv many (n,rings,[], -1,rings,(rings.length:Int),(0:Int),())=_:=p2
   simp only[p2']
   rw[AjF (fun h=>p1 h.2.1)]
 ·rw[AjF hS,AjF (fun h=>hS h.1)];rfl
end Go.Pev.Pl
end
section
namespace Go.Pev.Pl
open Tok
def MB(N:Nat)(met:List Bool)(seen:List Int):Prop:=met.length=N∧∀ k,k<N→met.getD k false=decide ((k:Int)∈seen)
theorem AAn{xs:List Int}(hr:Rt xs)(h:xs≠[]):plain xs=xs↔Gp xs=xs.headD 0:=by
 obtain⟨a,b,h1,h2⟩:=H3 hr h
 constructor
 ·intro e
  rw[e]at h2
  rw[h2]
  have:Gp xs=Gp xs:=rfl
  conv=>lhs;rw[← h2]
  rfl
 ·intro e
  cases a with
  |nil=>rw[h2,AkV];exact h1.symm
  |cons y a=>
   exfalso
   have hn:=hr.2.2
   have hy:y=Gp xs:=by rw[e,h1];rfl
   rw[h1,Ajl,Ajr]at hn
   exact hn.1 (by rw[← hy];simp)
theorem AZR{n:Int}:∀ {ls:List (List Int)} {seen:List Int} {last:Int},okR n seen last ls→seen.Nodup→(seen++ls.flatten.filter (fun t=>decide (t<n))).Nodup∧∀ l∈ls,RG n l:=by
 intro ls
 induction ls with
 |nil=>intro seen last _ h;simpa using h
 |cons l ls ih=>
  intro seen last ⟨h1,h2,h3,h4⟩ hs
  obtain⟨g1,g2⟩:=ih h4 (by
   rw[AlG]
   refine⟨hs,(h1.1.2.2).filter _,fun a ha b hb => ?_⟩
   rintro rfl
   simp only[Ajp,AjI]at hb
   exact h3 a hb.1 hb.2 ha)
  refine⟨by rw[AlR,Ak6,← AkF];exact g1,fun k hk => ?_⟩
  rcases AjN.1 hk with rfl|hk
  ·exact h1
  ·exact g2 k hk
theorem OT{n:Int}{l:List Int}(h:RG n l):In n (l.headD 0):=by
 obtain⟨h1,h2,h3,h4⟩:=h
 cases l with
 |nil=>exact absurd rfl h2
 |cons x l=>exact AXT h4 h3
theorem AWm{n:Int}(hn:1≤n):∀ {ls:List (List Int)} {seen:List Int} {last:Int},okR n seen last ls→-1≤last→last<n→(ls.length:Int)≤n-1-last:=by
 intro ls
 induction ls with
 |nil=>intro seen last _ _ h;simp;omega
 |cons l ls ih=>
  intro seen last ⟨h1,h2,h3,h4⟩ hl hl2
  have hh:=(OT h1).2.2
  have:=ih h4 (by omega) hh.2
  simp only[AjP]
  omega
end Go.Pev.Pl
end
section
namespace Go.Pev.Pl
open Tok
def hd(l:List Int):Int:=l.headD 0
def Dis(n:Int)(a b:List Int):Prop:=∀ t∈a,t<n→t∉b
structure FR(n:Int)(rings:List (List Int)):Prop where
 sz:Sz n
 rg:∀ l∈rings,RG n l
 up:rings.Pairwise (fun a b=>hd a<hd b)
 dis:rings.Pairwise (Dis n)
 cov:∀ v,In n v→∃ l∈rings,v∈l
theorem Dis.symm{n:Int}{a b:List Int}(h:Dis n a b):Dis n b a:=fun t ht hn ha=>h t ha hn ht
theorem AWn{n:Int}:∀ {ls:List (List Int)} {seen:List Int} {last:Int},okR n seen last ls↔(∀ l∈ls,RG n l∧last<hd l∧∀ t∈l,t<n→t∉seen)∧ls.Pairwise (fun a b=>hd a<hd b)∧ls.Pairwise (Dis n):=by
 intro ls
 induction ls with
 |nil=>intro seen last;simp[okR]
 |cons l ls ih=>
  intro seen last
  rw[okR,ih,Aj9,Aj9]
  constructor
  ·rintro⟨h1,h2,h3,h4,h5,h6⟩
   refine⟨fun k hk => ?_,⟨fun k hk=>(h4 k hk).2.1,h5⟩,⟨fun k hk t ht htn htk => ?_,h6⟩⟩
   ·rcases AjN.1 hk with rfl|hk
    ·exact⟨h1,h2,h3⟩
    ·obtain⟨q1,q2,q3⟩:=h4 k hk
     exact⟨q1,Int.lt_trans h2 q2,fun t ht htn hts=>q3 t ht htn (by simp[hts])⟩
   ·exact(h4 k hk).2.2 t htk htn (by simp[ht,htn])
  ·rintro⟨h1,⟨h2,h3⟩,⟨h4,h5⟩⟩
   obtain⟨q1,q2,q3⟩:=h1 l (by simp)
   refine⟨q1,q2,q3,fun k hk => ?_,h3,h5⟩
   obtain⟨p1,p2,p3⟩:=h1 k (by simp[hk])
   refine⟨p1,h2 k hk,fun t ht htn hts => ?_⟩
   simp only[AjL,Ajp]at hts
   rcases hts with h|h
   ·exact p3 t ht htn h
   ·exact h4 k hk t h.1 htn ht
theorem L0{n:Int}{rings:List (List Int)}:RF n rings↔FR n rings:=by
 constructor
 ·rintro⟨h1,h2,h3⟩
  obtain⟨q1,q2,q3⟩:=AWn.1 h2
  refine⟨h1,fun l hl=>(q1 l hl).1,q2,q3,fun v hv => ?_⟩
  obtain⟨l,hl,h⟩:=AmT.1 (h3 v hv.2.2.1 hv.2.2.2)
  exact⟨l,hl,h⟩
 ·rintro⟨h1,h2,h3,h4,h5⟩
  refine⟨h1,AWn.2 ⟨fun l hl=>⟨h2 l hl,?_,by simp⟩,h3,h4⟩,fun v v1 v2 => ?_⟩
  ·have:=(OT (h2 l hl)).2.2.1
   show(-1:Int)<l.headD 0
   omega
  ·obtain⟨l,hl,h⟩:=h5 v ⟨h1.1,h1.2,v1,v2⟩
   exact AmT.2 ⟨l,hl,h⟩
theorem Wh{ys zs:List (List Int)}(hz:zs.Pairwise (fun a b=>hd a<hd b))(hp:ys.Perm zs)(hy:ys.Pairwise (fun a b=>¬ hd b<hd a)):ys=zs:=by
 have hinj:∀ a∈zs,∀ b∈zs,hd a=hd b→a=b:=by
  intro a ha b hb e
  refine Aj6 fun hne => ?_
  obtain⟨i,hi,rfl⟩:=Aku ha
  obtain⟨j,hj,rfl⟩:=Aku hb
  rw[Akt]at hz
  rcases AmI i j with h|h|h
  ·have:=hz i j hi hj h;omega
  ·subst h;exact hne rfl
  ·have:=hz j i hj hi h;omega
 refine List.Perm.eq_of_pairwise (le:=fun a b=>¬ hd b<hd a) ?_ hy ?_ hp
 ·intro a b ha hb h1 h2
  exact hinj a (hp.mem_iff.1 ha) b hb (by omega)
 ·exact hz.imp fun h=>by omega
def plc(rings:List (List Int))(v:Int):Int:=if rings.any (fun l=>decide (v∈l))then((rings.findIdx (fun l=>decide (v∈l)):Nat):Int)else -1
theorem Ho(n:Int)(rings:List (List Int))(v:Int)(hlen:rings.length<1073741824)(hr:∀ l∈rings,l.length<9223372036854775808):PG ((n,(rings,())),v,())=some (plc rings v,()):=by
 rw[AFh,Qi,JA,D6]
 have e:=HD (step:=Bm) (fun i=>(v,rings,AI rings,(i:Int),())) rings (fun l=>decide (v∈l)) (fun i=>.inl (v,(i:Int),())) (.inr (.inl (v,()))) (by omega)
  (fun i l hi hx=>by
   have hl:=hr l (AjW hx)
   rw[Bm,AL,AO,AjG hi]
   simp only[Ag hx,J5 l v (by omega)]
   rw[AN (by omega)]
   by_cases h:v∈l
   ·rw[AjG h];rfl
   ·rw[AjF h];rfl)
  (by rw[Bm,AL,AO,AjF (by omega)])
 have e':AW Bm many (v,rings,AI rings,(0:Int),())=_:=e
 simp only[e',plc]
 cases rings.any (fun l=>decide (v∈l))<;>rfl
theorem Mt{rings:List (List Int)}{v:Int}(h:∃ l∈rings,v∈l):∃ k l,plc rings v=((k:Nat):Int)∧rings[k]? = some l∧v∈l∧k<rings.length:=by
 obtain⟨l,hl,hv⟩:=h
 have hany:rings.any (fun l=>decide (v∈l))=true:=AkS.2 ⟨l,hl,by simpa using hv⟩
 have hk:rings.findIdx (fun l=>decide (v∈l))<rings.length:=Ak2.2 ⟨l,hl,by simpa using hv⟩
 refine⟨_,rings[rings.findIdx (fun l=>decide (v∈l))],by rw[plc,AjV hany],by rw[AjM hk],?_,hk⟩
 have:=Al4 (xs:=rings) (p:=fun l=>decide (v∈l)) (w:=hk)
 simpa using this
theorem FR.uniq{n:Int}{rings:List (List Int)}(h:FR n rings){i j:Nat}{a b:List Int}{v:Int}(hi:rings[i]? = some a)(hj:rings[j]? = some b)(hn:v<n)(ha:v∈a)(hb:v∈b):i=j:=by
 obtain⟨hi1,rfl⟩:=AkQ.1 hi
 obtain⟨hj1,rfl⟩:=AkQ.1 hj
 have hd:=Akt.1 h.dis
 rcases AmI i j with g|g|g
 ·exact absurd hb (hd i j hi1 hj1 g v ha hn)
 ·exact g
 ·exact absurd ha (hd j i hj1 hi1 g v hb hn)
theorem FR.AI2{n:Int}{rings:List (List Int)}(h:FR n rings){k:Nat}{a:List Int}{v:Int}(hk:rings[k]? = some a)(hn:v<n)(ha:v∈a):plc rings v=(k:Int):=by
 obtain⟨j,l,e,hj,hv,_⟩:=Mt ⟨a,AjW hk,ha⟩
 rw[e,h.uniq hj hk hn hv ha]
theorem ACu{α:Type}{l:List α}{i:Nat}{a:α}(h:l[i]? = some a):l.Perm (a::l.eraseIdx i):=by
 obtain⟨hi,rfl⟩:=AkQ.1 h
 rw[List.eraseIdx_eq_take_drop_succ]
 conv=>lhs;rw[← AkD i l,Aj7 hi]
 exact List.perm_middle
theorem JM{α:Type}{l:List α}{i j:Nat}{a b:α}(hij:i<j)(hi:l[i]? = some a)(hj:l[j]? = some b):l.Perm (a::b::(l.eraseIdx j).eraseIdx i):=by
 have h1:=ACu hj
 have h2:(l.eraseIdx j)[i]? = some a:=by rw[List.getElem?_eraseIdx_of_lt hij,hi]
 exact h1.trans (((ACu h2).cons b).trans (List.Perm.swap a b _))
theorem AZQ{n:Int}{t:Tok}(h:okT n t):0≤Dm n t∧Dm n t≤4160∧Dm n t<n*(n+1):=by
 cases t with
 |ver v=>
  obtain⟨h1,h2,h3,h4⟩:=h
  have:n*1≤n*(n+1):=Int.mul_le_mul_of_nonneg_left (by omega) (by omega)
  simp only[Dm];omega
 |arc u v=>
  obtain⟨h1,h2,_⟩:=h
  obtain⟨g1,g2,_⟩:=Yq h1 h2
  have hb:=Fq (u:=n+1-1) h1.1 h1.2.1 (by have:=h1.1;omega) (by have:=h1.2.1;omega)
  have e:n*(n+1)=n*(n+1-1)+n:=by rw[show n+1-1=n by omega,AmK,AmL]
  have:=h1.1
  have:=h1.2.1
  simp only[Dm]
  omega
theorem AiJ{n:Int}{t:Tok}(h:okT n t):Sz n:=by
 cases t with
 |ver v=>exact⟨h.1,h.2.1⟩
 |arc u v=>exact⟨h.1.1,h.1.2.1⟩
theorem PB:∀ {L:List Tok},L.Nodup→(Mb L).Nodup
 |[],_=>by simp[Mb]
 |.ver v::L,h=>by
  rw[Ajr]at h
  rw[Mb,Ajr]
  exact⟨fun hm=>h.1 (RD.1 hm),PB h.2⟩
 |.arc _ _::L,h=>by
  rw[Ajr]at h
  rw[Mb]
  exact PB h.2
theorem Ahp{n:Int}{xs:List Int}(h:TI n xs):Rt xs:=by
 obtain⟨L,rfl,h2,h3⟩:=h
 have hn:=h3.nodup
 refine⟨?_,fun x hx => ?_,?_⟩
 ·obtain⟨v,r,hr⟩:=h3.AP9
  have hS:Sz n:=AiJ (h2 (.ver v) ((hr.mem _).2 (by simp)))
  have hl:=h3.len
  have hv:=Cg (a:=Mb L) (b:=(List.range n.toNat).map (fun(k:Nat)=>(k:Int))) (PB hn) fun x hx=>by
   have:=h2 _ (RD.1 hx)
   have h5:=this.2.2
   rw[Ajc]
   exact⟨x.toNat,by rw[AkP];omega,by omega⟩
  have h6:=hS.2
  simp only[AkM,Ajx]at hv ⊢
  omega
 ·obtain⟨t,ht,rfl⟩:=Ajc.1 hx
  have:=AZQ (h2 t ht)
  omega
 ·rw[List.Nodup,Ake]
  exact hn.imp_of_mem fun ha hb hne e=>hne (GZ (h2 _ ha) (h2 _ hb) e)
def ALQ(a b:List Int):Prop:=∃ x y,a=x++y∧b=y++x
theorem ALQ.perm{a b:List Int}(h:ALQ a b):a.Perm b:=by
 obtain⟨x,y,rfl,rfl⟩:=h
 exact Aky
theorem ALQ.symm{a b:List Int}(h:ALQ a b):ALQ b a:=by obtain⟨x,y,h1,h2⟩:=h;exact⟨y,x,h2,h1⟩
theorem AfK{n:Int}{a b:List Int}(h:TI n a)(r:ALQ a b):TI n b:=by
 obtain⟨L,h1,h2,h3⟩:=h
 obtain⟨x,y,rfl,rfl⟩:=r
 obtain⟨L1,L2,rfl,e1,e2⟩:=AmM.1 h1.symm
 refine⟨L2++L1,by rw[Aks,e1,e2],fun t ht=>h2 t ?_,T.rot L1 L2 h3⟩
 simp only[AjL]at ht ⊢
 exact ht.symm
theorem Cf{xs:List Int}{t:Int}(h:t∈xs):ALQ xs (A7 xs t):=by
 obtain⟨a,b,e1,_,e3⟩:=AAa h
 exact⟨a,t::b,e1,by rw[e3]⟩
theorem AZX{xs ys:List Int}(h:xs.Perm ys)(hne:xs≠[]):Gp ys=Gp xs:=by
 obtain⟨h1,h2⟩:=Ez hne
 exact Agh (h.mem_iff.1 h1) fun x hx=>h2 x (h.mem_iff.2 hx)
theorem ASk{xs:List Int}(hr:Rt xs)(hne:xs≠[]):ALQ xs (plain xs):=by
 rw[plain,AjV ⟨hr,hne⟩]
 exact Cf (Ez hne).1
theorem Aho{n:Int}{xs:List Int}(h:TI n xs):xs≠[]:=by rintro rfl;exact AfM n h
theorem ADt{n:Int}{xs:List Int}(h:TI n xs):RG n (plain xs)∧ALQ xs (plain xs):=by
 have hr:=Ahp h
 have hne:=Aho h
 have h1:=ASk hr hne
 have h2:=AfK h h1
 refine⟨⟨Ahp h2,Aho h2,?_,h2⟩,h1⟩
 rw[AZX h1.perm hne]
 obtain⟨a,b,_,e⟩:=H3 hr hne
 rw[e];rfl
theorem RG.self{n:Int}{xs:List Int}(h:RG n xs):plain xs=xs:=(AAn h.1 h.2.1).2 h.2.2.1
theorem AQe{n:Int}{xs:List Int}(h:TI n xs){t:Tok}(ht:okT n t)(hx:Dm n t∈xs):∃ a,A7 xs (Dm n t)=(t::a).map (Dm n)∧T (t::a)∧(∀ y∈t::a,okT n y):=by
 have h1:=AfK h (Cf hx)
 obtain⟨a,b,e1,e2,e3⟩:=AAa hx
 obtain⟨L,q1,q2,q3⟩:=h1
 rw[e3,Ajl]at q1
 cases L with
 |nil=>cases q1
 |cons t' L=>
  simp only[Ajm,Ajg]at q1
  have:=GZ ht (q2 t' (by simp)) q1.1
  subst this
  exact⟨L,by rw[e3,Ajl,Ajm,q1.2],q3,q2⟩
end Go.Pev.Pl
end
section
namespace Go.Pev.Pl
open Go.RowKit Tok
theorem Dj(a:Int):ieq a a=true:=by rw[B9];simp
def Dom(rings:List (List Int)):Prop:=rings.length<1073741824∧∀ l∈rings,l.length<9223372036854775808∧∀ x∈l, -9223372036854775808≤x∧x≤9223372036854775807
theorem FR.dom{n:Int}{rings:List (List Int)}(h:FR n rings):Dom rings:=by
 have h1:=L0.2 h
 have h2:=AWm h.sz.1 h1.2.1 (by omega) (by have:=h.sz.1;omega)
 have h3:=h.sz.2
 refine⟨by omega,fun l hl => ?_⟩
 have:=(h.rg l hl).1
 exact⟨by have:=this.1;omega,fun x hx=>by have:=this.2.1 x hx;omega⟩
theorem UQ{l:List Int}(h:l≠[]):hd l∈l:=by
 cases l with
 |nil=>exact absurd rfl h
 |cons x l=>simp[hd]
end Go.Pev.Pl
end
section
namespace Go.Pev.Pl
open Tok
noncomputable def AQW(n:Int)(rings:List (List Int))(ok:Bool):Int:=if RF n rings then if ok then 0 else 10 else 1
theorem AVD(n:Int)(rings:List (List Int))(xs:List Int)(hs:xs.length<9223372036854775808):DN (xs,n,rings,())=some (n,rings,xs.any (fun x=>decide (x<0)||decide (n≤x)),()):=by
 rw[IW,DV,JE,D7]
 have e:=HD (step:=Bn) (fun i=>(n,rings,xs,AI xs,(i:Int),())) xs (fun x=>decide (x<0)||decide (n≤x)) (fun i=>.inl (n,rings,(i:Int),())) (.inr (.inl (n,rings,()))) hs
  (fun i x hi hx=>by
   rw[Bn,AL,AO,AjG hi]
   simp only[Ag hx,Ai,Ax]
   rw[AN (by omega)]
   by_cases h:x<0
   ·simp[h]
   ·by_cases h2:n≤x
    ·simp[h,h2]
    ·simp[h,h2])
  (by rw[Bn,AL,AO,AjF (by omega)])
 have e':AW Bn many (n,rings,xs,AI xs,(0:Int),())=_:=e
 rw[e']
 generalize (xs.any fun x=>decide (x<0)||decide (n≤x))=b
 cases b<;>simp[Ax]
theorem AVh{n v:Int}(hS:Sz n):(decide (v<0)||decide (n≤v)) = !decide (In n v):=by
 by_cases h:In n v
 ·obtain⟨_,_,h3,h4⟩:=h
  simp[In,hS.1,hS.2,h3,h4]
 ·have:v<0∨n≤v:=by
   refine Aj6 fun hc=>h ⟨hS.1,hS.2,by omega,by omega⟩
  rcases this with g|g<;>simp[h,g]
theorem ACd(n:Int)(rings:List (List Int))(xs:List Int)(hD:Dom rings)(hs:xs.length<9223372036854775808):P6 ((n,(rings,())),xs,())=some (AQW n rings (xs.all fun v=>decide (In n v)),()):=by
 rw[AGj,Rd]
 simp only[PE n rings hD.1 hD.2,AVD n rings xs hs,AQW]
 by_cases h:RF n rings
 ·have hb:(xs.any fun x=>decide (x<0)||decide (n≤x)) = !(xs.all fun v=>decide (In n v)):=by
   rw[List.not_all_eq_any_not]
   congr 1
   funext x
   exact AVh h.1
  simp only[h,AjU,AjT,hb,Ajs]
  cases xs.all fun v=>decide (In n v)<;>rfl
 ·simp[h]
end Go.Pev.Pl
end
section
namespace Go.Pev.Pl.SG
open Go.Sort
structure SP(α:Type)where
 z:α
 c:α×α×Unit→Option (Int×Unit)
 ok:α→Prop
 okz:α
 Tk:ok okz
 lt:α→α→Bool
 swo:SWO lt
 VZ:∀ {x y:α},ok x→ok y→∃ r,c (x,y,())=some (r,())∧ilt r (0:Int)=lt x y
variable {α:Type} {S:SP α}
abbrev EL{α:Type}(S:SP α):={x:α // S.ok x}
instance:Inhabited (EL S):=⟨⟨S.okz,S.Tk⟩⟩
def rep(d:Array (EL S)):List α:=d.toList.map Subtype.val
theorem A8{d:Array (EL S)}{n:Nat}(h:n<d.size):idx (rep d) (n:Int)=some (d[n]!).val:=by
 rw[idx_eq,Pz,AjS (by omega)]
 simp[rep,h]
theorem Bc{d:Array (EL S)}{n:Nat}{z:α}(h:n<d.size):AU (rep d) (AK (n:Int)) z=(d[n]!).val:=by
 simp[AU,AK,rep,h]
theorem JN{d:Array (EL S)}{n:Nat}{x:(EL S)}:A4 (rep d) (AK (n:Int)) x.val=rep (d.setIfInBounds n x):=by
 simp[A4,AK,rep,List.map_set]
theorem AXN{d:Array (EL S)}:AI (rep d)=(d.size:Int):=by simp[AI,rep]
def ltX(x y:(EL S)):Bool:=S.lt x.val y.val
theorem Ab1:SWO (ltX (S:=S)):=⟨fun x=>S.swo.irrefl x.val,fun x y z=>S.swo.trans x.val y.val z.val,fun x y z=>S.swo.ntrans x.val y.val z.val⟩
noncomputable def AhM(x y:(EL S)):Int:=match S.c (x.val,y.val,())with
 |some (c,_)=>c
 |none=>0
theorem Cb(x y:(EL S)):S.c (x.val,y.val,())=some (AhM x y,()):=by
 obtain⟨c,e,_⟩:=S.VZ x.property y.property
 rw[AhM,e]
theorem DU(x y:(EL S)):ilt (AhM x y) (0:Int)=ltX x y:=by
 obtain⟨c,e,h⟩:=S.VZ x.property y.property
 rw[AhM,e]
 exact h
theorem Agu(a b i:Nat):∀ (j:Nat) (d:Array (EL S)) (n:Nat),j<d.size→d.size<4611686018427387904→j<n →
  AY (OH S.z S.c) n ((rep d),(a:Int),(b:Int),(i:Int),(j:Int),())=some (.inl ((rep (insInner ltX a j d)),(a:Int),(b:Int),(i:Int),())):=by
 intro j
 induction j with
 |zero=>
  intro d n hj hs hn
  obtain⟨n,rfl⟩:∃ k,n=k+1:=⟨n-1,by omega⟩
  have h0:ilt (a:Int) ((0:Nat):Int)=false:=by rw[AO];simp
  simp only[AY,OH,h0,insInner]
 |succ j ih=>
  intro d n hj hs hn
  obtain⟨n,rfl⟩:∃ k,n=k+1:=⟨n-1,by omega⟩
  have e1:IntKind.wrap .i64 (((j+1:Nat):Int)-1)=(j:Int):=by rw[Ah (by omega)];omega
  have hj':j<d.size:=by omega
  simp only[AY,OH,AO,e1,A8 hj,A8 hj',Bc hj,Bc hj',Cb,DU,insInner,gt_iff_lt]
  by_cases h1:a<j+1
  ·cases h2:ltX d[j+1]! d[j]!
   ·simp only[h1,AjU,h2,AmE,Aja,Ajb]
   ·simp only[h1,AjU,h2,Bool.and_true,Ajs,JN]
    rw[A8 (by simpa using hj')]
    simp only[KF]
    exact ih (swp d (j+1) j) n (by rw[size_swp];omega) (by rw[size_swp];omega) (by omega)
  ·simp only[h1,Aji,AlC,Aja,Ajb]
theorem Je(lt:(EL S)→(EL S)→Bool)(a j:Nat)(d:Array (EL S)):(insInner lt a j d).size=d.size:=by
 induction j generalizing d with
 |zero=>rfl
 |succ j ih=>
  rw[insInner]
  split
  ·rw[ih,size_swp]
  ·rfl
theorem Ad1(a b:Nat):∀ (k i:Nat) (d:Array (EL S)) (n:Nat),b-i=k→b≤d.size→d.size<4611686018427387904→d.size<many→k<n →
  AY (OI S.z S.c) n ((rep d),(a:Int),(b:Int),(i:Int),())=some (.inl ((rep (insOuter ltX a b i d)),())):=by
 intro k
 induction k with
 |zero=>
  intro i d n hk hb hs hm hn
  obtain⟨n,rfl⟩:∃ k,n=k+1:=⟨n-1,by omega⟩
  have h0:¬ i<b:=by omega
  rw[insOuter]
  simp only[AY,OI,AO,h0,Aji,Ajb]
 |succ k ih=>
  intro i d n hk hb hs hm hn
  obtain⟨n,rfl⟩:∃ k,n=k+1:=⟨n-1,by omega⟩
  have h0:i<b:=by omega
  have e1:IntKind.wrap .i64 ((i:Int)+1)=((i+1:Nat):Int):=by rw[Ah (by omega)];omega
  rw[insOuter]
  simp only[AY,OI,AO,h0,AjU,Ajs,An]
  rw[Agu a b i i d many (by omega) hs (by omega)]
  simp only[e1]
  exact ih (i+1) _ n (by omega) (by rw[Je];omega) (by rw[Je];omega) (by rw[Je];omega) (by omega)
theorem Ad0(d:Array (EL S))(a b:Nat)(hab:a≤b)(hb:b≤d.size)(hs:d.size<4294967296):(Ad2 S.z S.c) ((rep d),(a:Int),(b:Int),())=some ((rep (insertionSort ltX d a b)),()):=by
 have hm:d.size<many:=by simp only[many];omega
 have e1:IntKind.wrap .i64 ((a:Int)+1)=((a+1:Nat):Int):=by rw[Ah (by omega)];omega
 rw[Agv,ACG]
 simp only[e1,An]
 rw[Ad1 a b (b-(a+1)) (a+1) d many rfl hb (by omega) hm (by omega)]
 rfl
end Go.Pev.Pl.SG
end
end
