/- A part of the proofs of this seat: G29M3 G29M4 G29M5 G29M Pln PlnB T18a T18b T18c PlnM DKA T18d PevTake PevClaim DKB. -/
import Derived.Test.YtfojmhgomdbpfaaGreatDoorP0d4c738dc9
import Derived.IntWalk
import Derived.Sort.AssemblyPlain
import Derived.ProofKit
import Derived.ChangeArms
import Derived.ReadAgain
import Derived.Deep.Slices
import Derived.OpenShut
import Derived.KernelRfl
set_option linter.unusedVariables false
set_option linter.unusedSimpArgs false
set_option linter.unusedSectionVars false
set_option maxRecDepth 100000
section
namespace Go.Pev
noncomputable section
attribute [local irreducible] PM Ln O6 PD Adz Ad0 Ad1 Tt AA2 AAL AAK Ly AX many IntKind.wrap AG BB AY A2 Bp DK EA AN Bm Ci imax AP Af
abbrev AIz:AE:=[(.tmp 0,.dat U2),(.tmp 1,.dat U2)]
abbrev AIy:AE:=[(.tmp 0,.di)]
abbrev AIx:List RS:=[.one]
def Y3[Lk]:(U1×U1×Unit)→Option (U8):=fun(a0,a1,_)=>
 match Dh (a0.1,a1.1,())with|none=>none|some (y0,_)=>match Dh (a0.2.1,a1.2.1,())with|none=>none|some (y1,_)=>match orI (([y0,y1]:List (Int)),())with|none=>none|some (y2,_)=>some (y2,())
def BQ[Lk]:=fun v=>Lk.f (Y3 v)
theorem AMh v:BQ v=Y3 v:=AH _
abbrev AUM:AE:=[(.tmp 0,.own 34 U2),(.tmp 1,.di),(.tmp 2,.di),(.tmp 3,.clo 60 [])]
abbrev AUL:AE:=[(.obj 0,.own 34 U2)]
abbrev AUK:List RS:=[]
abbrev AW0:AE:=[(.obj 0,.own 34 U2),(.tmp 0,.own' 0),(.tmp 1,.di),(.tmp 2,.di),(.tmp 3,.clo 60 []),(.tmp 8,.di),(.tmp 9,.di)]
abbrev AWy:At:=[(.exit 2,[(.obj 0,.own 34 U2),(.tmp 0,.own' 0),(.tmp 1,.di),(.tmp 2,.di),(.tmp 3,.clo 60 []),(.tmp 8,.di)])]
def AWw[Lk]:Uh→Option (Uh⊕U7⊕Unit):=OV ((0,(0,())):U1) BQ
abbrev AW1:AE:=[(.obj 0,.own 34 U2),(.tmp 0,.own' 0),(.tmp 1,.di),(.tmp 2,.di),(.tmp 3,.clo 60 []),(.tmp 8,.di)]
abbrev AWz:At:=[(.exit 0,[(.obj 0,.own 34 U2)])]
def AWx[Lk]:U7→Option (U7⊕Uk⊕Unit):=OW ((0,(0,())):U1) BQ
def Adt[Lk]:Ue→Option (Uk):=ACe ((0,(0,())):U1) BQ
def AiP[Lk](v:Ue):Option (Uk):=Adr ((0,(0,())):U1) BQ v
theorem Agr v:AiP v=Adt v:=AH _
abbrev AI7:AE:=[(.tmp 0,.own 34 U2),(.tmp 1,.di),(.tmp 2,.di),(.tmp 3,.di),(.tmp 4,.clo 60 [])]
abbrev AI6:AE:=[(.obj 0,.own 34 U2)]
abbrev AI5:List RS:=[]
abbrev AMp:AE:=[(.obj 0,.own 34 U2),(.tmp 0,.own' 0),(.tmp 2,.di),(.tmp 3,.di),(.tmp 4,.clo 60 []),(.tmp 10,.di)]
abbrev AMo:At:=[(.exit 0,[(.obj 0,.own 34 U2)]),(.ret,[(.obj 0,.own 34 U2)])]
def AMn[Lk]:U7→Option (U7⊕Uk⊕Uk⊕Unit):=KL ((0,(0,())):U1) BQ
def AWC[Lk]:U7→Option (Uk):=RB ((0,(0,())):U1) BQ
def AcB[Lk](v:U7):Option (Uk):=AGY ((0,(0,())):U1) BQ v
theorem AcA v:AcB v=AWC v:=AH _
abbrev AKi:AE:=[(.tmp 0,.own 34 U2),(.tmp 1,.di),(.tmp 2,.di),(.tmp 3,.clo 60 [])]
abbrev AKh:AE:=[(.obj 0,.own 34 U2)]
abbrev AKg:List RS:=[]
abbrev APP:AE:=[(.obj 0,.own 34 U2),(.tmp 0,.own' 0),(.tmp 3,.clo 60 []),(.tmp 8,.di),(.tmp 9,.di),(.tmp 12,.di)]
abbrev APN:At:=[(.exit 2,[(.obj 0,.own 34 U2)])]
def APK[Lk]:U7→Option (U7⊕Uk⊕Unit):=Kb ((0,(0,())):U1) BQ
abbrev APQ:AE:=[(.obj 0,.own 34 U2),(.tmp 0,.own' 0),(.tmp 3,.clo 60 []),(.tmp 8,.di),(.tmp 9,.di),(.tmp 10,.di),(.tmp 11,.di)]
abbrev APO:At:=[(.exit 0,[(.obj 0,.own 34 U2),(.tmp 0,.own' 0),(.tmp 3,.clo 60 []),(.tmp 8,.di),(.tmp 9,.di),(.tmp 10,.di)])]
def APM[Lk]:Uh→Option (Uh⊕U7⊕Unit):=Kc ((0,(0,())):U1) BQ
def AW6[Lk]:Ue→Option (Uk):=R6 ((0,(0,())):U1) BQ
def AeG[Lk](v:Ue):Option (Uk):=API ((0,(0,())):U1) BQ v
theorem AeF v:AeG v=AW6 v:=AH _
abbrev AEG:AE:=[(.tmp 0,.own 34 U2),(.tmp 1,.di),(.tmp 2,.di),(.tmp 3,.clo 60 [])]
abbrev AEF:AE:=[(.obj 0,.own 34 U2)]
abbrev AEE:List RS:=[]
abbrev AHh:AE:=[(.obj 0,.own 34 U2),(.tmp 0,.own' 0),(.tmp 1,.di),(.tmp 8,.di),(.tmp 9,.box 1),(.cell 1 0,.dat (.int .u64)),(.tmp 10,.dat (.int .u64)),(.tmp 11,.di)]
abbrev AHg:At:=[(.exit 0,[(.obj 0,.own 34 U2)])]
def AHf[Lk]:Uu→Option (Uu⊕Uk⊕Unit):=GK ((0,(0,())):U1) BQ
def AQQ[Lk]:Ue→Option (Uk):=Nu ((0,(0,())):U1) BQ
def AVY[Lk](v:Ue):Option (Uk):=AED ((0,(0,())):U1) BQ v
theorem Aau v:AVY v=AQQ v:=AH _
abbrev UI:AE:=[(.tmp 0,.own 34 U2),(.tmp 1,.di),(.tmp 2,.di),(.tmp 3,.box 1),(.cell 1 0,.di),(.tmp 4,.clo 60 [])]
abbrev UH:AE:=[(.obj 0,.own 34 U2),(.obj 1,.box 1),(.cell 1 0,.di),(.tmp 0,.di),(.tmp 1,.di)]
abbrev UG:List RS:=[.one,.one]
def AG7[Lk]:U7→Option (U7):=KR ((0,(0,())):U1) BQ
def AJx[Lk](v:U7):Option (U7):=LF ((0,(0,())):U1) BQ v
theorem ATM v:AJx v=AG7 v:=AH _
abbrev UT:AE:=[(.tmp 0,.own 34 U2),(.tmp 1,.di),(.tmp 2,.di),(.tmp 3,.di),(.tmp 4,.box 1),(.cell 1 0,.di),(.tmp 5,.clo 60 [])]
abbrev US:AE:=[(.obj 0,.own 34 U2),(.obj 1,.box 1),(.cell 1 0,.di),(.tmp 0,.di)]
abbrev UR:List RS:=[.one]
def AHA[Lk]:Uh→Option (Ue):=KU ((0,(0,())):U1) BQ
def AJ9[Lk](v:Uh):Option (Ue):=LM ((0,(0,())):U1) BQ v
theorem ATk v:AJ9 v=AHA v:=AH _
abbrev VA:AE:=[(.tmp 0,.own 34 U2),(.tmp 1,.di),(.tmp 2,.box 1),(.cell 1 0,.di),(.tmp 3,.clo 60 [])]
abbrev UZ:AE:=[(.obj 0,.own 34 U2),(.obj 1,.box 1),(.cell 1 0,.di),(.tmp 0,.di)]
abbrev UY:List RS:=[.one]
def AHC[Lk]:Ue→Option (Ue):=KV ((0,(0,())):U1) BQ
def AKD[Lk](v:Ue):Option (Ue):=LN ((0,(0,())):U1) BQ v
theorem ATn v:AKD v=AHC v:=AH _
abbrev ABN:AE:=[(.tmp 0,.own 34 U2),(.tmp 1,.di),(.tmp 2,.di),(.tmp 3,.clo 60 [])]
abbrev ABM:AE:=[(.obj 0,.own 34 U2),(.tmp 0,.di),(.tmp 1,.di)]
abbrev ABL:List RS:=[.one,.one]
def ANQ[Lk]:Ue→Option (Ue):=NB ((0,(0,())):U1) BQ
def ASp[Lk](v:Ue):Option (Ue):=ABK ((0,(0,())):U1) BQ v
theorem AYs v:ASp v=ANQ v:=AH _
abbrev ASQ:AE:=[(.tmp 0,.own 34 U2),(.tmp 1,.di),(.tmp 2,.di),(.tmp 3,.clo 60 [])]
abbrev ASP:AE:=[(.obj 0,.own 34 U2)]
abbrev ASO:List RS:=[]
abbrev AWP:AE:=[(.obj 0,.own 34 U2),(.tmp 0,.own' 0),(.tmp 8,.di),(.tmp 9,.di)]
abbrev AWO:At:=[(.exit 0,[(.obj 0,.own 34 U2)])]
def AWN[Lk]:Ue→Option (Ue⊕Uk⊕Unit):=RV ((0,(0,())):U1) BQ
def AcW[Lk]:Ue→Option (Uk):=AA0 ((0,(0,())):U1) BQ
def Ah2[Lk](v:Ue):Option (Uk):=AcU ((0,(0,())):U1) BQ v
theorem Af8 v:Ah2 v=AcW v:=AH _
abbrev P1:AE:=[(.tmp 0,.own 34 U2),(.tmp 1,.di),(.tmp 2,.di),(.tmp 3,.clo 60 [])]
abbrev Pz:AE:=[(.obj 0,.own 34 U2),(.tmp 0,.dat .bool)]
abbrev Py:List RS:=[.one]
abbrev Xg:AE:=[(.obj 0,.own 34 U2),(.tmp 0,.own' 0),(.tmp 1,.di),(.tmp 2,.di),(.tmp 3,.clo 60 []),(.tmp 9,.di),(.tmp 10,.di),(.tmp 12,.di)]
abbrev Xc:At:=[(.exit 6,[(.obj 0,.own 34 U2),(.tmp 0,.own' 0),(.tmp 1,.di),(.tmp 2,.di),(.tmp 3,.clo 60 []),(.tmp 9,.di),(.tmp 10,.di)])]
def XY[Lk]:Uu→Option (Uu⊕Uh⊕Unit):=Et ((0,(0,())):U1) BQ
abbrev Xh:AE:=[(.obj 0,.own 34 U2),(.tmp 0,.own' 0),(.tmp 1,.di),(.tmp 2,.di),(.tmp 3,.clo 60 []),(.tmp 9,.di),(.tmp 10,.di),(.tmp 11,.di)]
abbrev Xd:At:=[(.exit 4,[(.obj 0,.own 34 U2),(.tmp 0,.own' 0),(.tmp 1,.di),(.tmp 2,.di),(.tmp 3,.clo 60 []),(.tmp 9,.di),(.tmp 10,.di)])]
def XZ[Lk]:Uu→Option (Uu⊕Uh⊕Unit):=Eu ((0,(0,())):U1) BQ
abbrev Xi:AE:=[(.obj 0,.own 34 U2),(.tmp 0,.own' 0),(.tmp 1,.di),(.tmp 2,.di),(.tmp 3,.clo 60 []),(.tmp 9,.di),(.tmp 10,.di)]
abbrev Xe:At:=[(.exit 2,[(.obj 0,.own 34 U2),(.tmp 0,.own' 0),(.tmp 1,.di),(.tmp 2,.di),(.tmp 3,.clo 60 []),(.tmp 9,.di),(.tmp 10,.di)])]
def Xa[Lk]:Uh→Option (Uh⊕Uh⊕Unit):=Gt ((0,(0,())):U1) BQ
abbrev Xj:AE:=[(.obj 0,.own 34 U2),(.tmp 0,.own' 0),(.tmp 1,.di),(.tmp 2,.di),(.tmp 3,.clo 60 []),(.tmp 9,.di),(.tmp 10,.di)]
abbrev Xf:At:=[(.ret,[(.obj 0,.own 34 U2),(.tmp 8,.dat .bool)]),(.exit 0,[(.obj 0,.own 34 U2)])]
def Xb[Lk]:Uh→Option (Uh⊕(List U1×Bool×Unit)⊕Uk⊕Unit):=CY ((0,(0,())):U1) BQ
def ABm[Lk]:Ue→Option ((List U1×Bool×Unit)):=IA ((0,(0,())):U1) BQ
def ABn[Lk](v:Ue):Option ((List U1×Bool×Unit)):=NC ((0,(0,())):U1) BQ v
theorem AN8 v:ABn v=ABm v:=AH _
abbrev UB:AE:=[(.tmp 0,.own 34 U2),(.tmp 1,.di),(.tmp 2,.di),(.tmp 3,.di),(.tmp 4,.clo 60 [])]
abbrev UA:AE:=[(.obj 0,.own 34 U2),(.tmp 0,.di)]
abbrev T9:List RS:=[.one]
abbrev AB4:AE:=[(.obj 0,.own 34 U2),(.tmp 0,.own' 0),(.tmp 1,.di),(.tmp 4,.clo 60 []),(.tmp 11,.di),(.tmp 12,.di)]
abbrev AB1:At:=[(.exit 4,[(.obj 0,.own 34 U2),(.tmp 0,.own' 0),(.tmp 1,.di),(.tmp 4,.clo 60 []),(.tmp 11,.di),(.tmp 12,.di)])]
def ABy[Lk]:U7→Option (U7⊕U7⊕Unit):=IB ((0,(0,())):U1) BQ
abbrev AB5:AE:=[(.obj 0,.own 34 U2),(.tmp 0,.own' 0),(.tmp 1,.di),(.tmp 4,.clo 60 []),(.tmp 11,.di),(.tmp 12,.di)]
abbrev AB2:At:=[(.exit 2,[(.obj 0,.own 34 U2),(.tmp 0,.own' 0),(.tmp 1,.di),(.tmp 4,.clo 60 []),(.tmp 11,.di),(.tmp 12,.di)])]
def ABz[Lk]:U7→Option (U7⊕U7⊕Unit):=IC ((0,(0,())):U1) BQ
abbrev AB6:AE:=[(.obj 0,.own 34 U2),(.tmp 0,.own' 0),(.tmp 1,.di),(.tmp 4,.clo 60 []),(.tmp 11,.di),(.tmp 12,.di)]
abbrev AB3:At:=[(.exit 0,[(.obj 0,.own 34 U2),(.tmp 11,.di)])]
def AB0[Lk]:U7→Option (U7⊕(List U1×Int×Unit)⊕Unit):=ID ((0,(0,())):U1) BQ
def AG2[Lk]:U7→Option ((List U1×Int×Unit)):=KP ((0,(0,())):U1) BQ
def AJq[Lk](v:U7):Option ((List U1×Int×Unit)):=Rg ((0,(0,())):U1) BQ v
theorem ATI v:AJq v=AG2 v:=AH _
abbrev AJt:AE:=[(.tmp 0,.own 34 U2),(.tmp 1,.di),(.tmp 2,.di),(.tmp 3,.di),(.tmp 4,.clo 60 [])]
abbrev AJs:AE:=[(.obj 0,.own 34 U2),(.tmp 0,.di),(.tmp 1,.dat .bool)]
abbrev AJr:List RS:=[.one,.one]
abbrev AOV:AE:=[(.obj 0,.own 34 U2),(.tmp 0,.own' 0),(.tmp 1,.di),(.tmp 4,.clo 60 []),(.tmp 12,.di),(.tmp 13,.di)]
abbrev AOQ:At:=[(.exit 8,[(.obj 0,.own 34 U2),(.tmp 0,.own' 0),(.tmp 1,.di),(.tmp 4,.clo 60 []),(.tmp 12,.di),(.tmp 13,.di)])]
def AOH[Lk]:U7→Option (U7⊕U7⊕Unit):=ND ((0,(0,())):U1) BQ
abbrev AOW:AE:=[(.obj 0,.own 34 U2),(.tmp 0,.own' 0),(.tmp 1,.di),(.tmp 4,.clo 60 []),(.tmp 12,.di),(.tmp 13,.di)]
abbrev AOR:At:=[(.exit 6,[(.obj 0,.own 34 U2),(.tmp 0,.own' 0),(.tmp 1,.di),(.tmp 4,.clo 60 []),(.tmp 12,.di),(.tmp 13,.di)])]
def AOJ[Lk]:U7→Option (U7⊕U7⊕Unit):=NF ((0,(0,())):U1) BQ
abbrev AOX:AE:=[(.obj 0,.own 34 U2),(.tmp 0,.own' 0),(.tmp 1,.di),(.tmp 4,.clo 60 []),(.tmp 12,.di),(.tmp 13,.di)]
abbrev AOS:At:=[(.exit 4,[(.obj 0,.own 34 U2),(.tmp 0,.own' 0),(.tmp 1,.di),(.tmp 13,.di)])]
def AOL[Lk]:U7→Option (U7⊕Ue⊕Unit):=NG ((0,(0,())):U1) BQ
abbrev AOY:AE:=[(.obj 0,.own 34 U2),(.tmp 0,.own' 0),(.tmp 1,.di),(.tmp 4,.clo 60 []),(.tmp 12,.di),(.tmp 13,.di)]
abbrev AOT:At:=[(.exit 2,[(.obj 0,.own 34 U2),(.tmp 0,.own' 0),(.tmp 1,.di),(.tmp 4,.clo 60 []),(.tmp 12,.di),(.tmp 13,.di)])]
def AON[Lk]:U7→Option (U7⊕U7⊕Unit):=NH ((0,(0,())):U1) BQ
abbrev AOZ:AE:=[(.obj 0,.own 34 U2),(.tmp 0,.own' 0),(.tmp 1,.di),(.tmp 4,.clo 60 []),(.tmp 12,.di),(.tmp 13,.di)]
abbrev AOU:At:=[(.exit 0,[(.obj 0,.own 34 U2),(.tmp 0,.own' 0),(.tmp 1,.di),(.tmp 4,.clo 60 []),(.tmp 12,.di),(.tmp 13,.di)])]
def AOP[Lk]:U7→Option (U7⊕U7⊕Unit):=NI ((0,(0,())):U1) BQ
def AWc[Lk]:U7→Option ((List U1×Int×Bool×Unit)):=Rf ((0,(0,())):U1) BQ
def AdF[Lk](v:U7):Option ((List U1×Int×Bool×Unit)):=ABo ((0,(0,())):U1) BQ v
theorem AdE v:AdF v=AWc v:=AH _
abbrev ABa:AE:=[(.tmp 0,.own 34 U2),(.tmp 1,.di),(.tmp 2,.di),(.tmp 3,.di),(.tmp 4,.clo 60 [])]
abbrev ABZ:AE:=[(.obj 0,.own 34 U2)]
abbrev ABY:List RS:=[]
abbrev AWa:AE:=[(.obj 0,.own 34 U2),(.tmp 0,.own' 0),(.tmp 1,.di),(.tmp 2,.di),(.tmp 3,.di),(.tmp 4,.clo 60 []),(.tmp 10,.dat .bool),(.tmp 11,.dat .bool)]
abbrev AWZ:At:=[(.ret,[(.obj 0,.own 34 U2)])]
def AWY[Lk](self:U7→Option (Uk)):(List U1×Int×Int×Int×Bool×Bool×Unit)→Option ((List U1×Int×Int×Int×Bool×Bool×Unit)⊕Uk⊕Unit):=OQ ((0,(0,())):U1) BQ self
def Ah8[Lk](self:U7→Option (Uk)):U7→Option (Uk):=ABX ((0,(0,())):U1) BQ self
def ABb[Lk]:Nat→U7→Option (Uk):=LD ((0,(0,())):U1) BQ
def AgI[Lk](v:U7):Option (Uk):=Aco ((0,(0,())):U1) BQ v
theorem AgH v:AgI v=ABb 100 v:=AH _
abbrev AIt:AE:=[(.tmp 0,.own 34 U2),(.tmp 1,.clo 60 [])]
abbrev AIs:AE:=[(.obj 0,.own 34 U2)]
abbrev AIr:List RS:=[]
def AV4[Lk]:Uk→Option (Uk):=Q9 ((0,(0,())):U1) BQ
def AGV[Lk](v:Uk):Option (Uk):=AV3 ((0,(0,())):U1) BQ v
theorem Ab0 v:AGV v=AV4 v:=AH _
abbrev ADk:AE:=[(.tmp 0,.dat (.slice (.int .u32))),(.tmp 1,.di)]
abbrev ADj:AE:=[(.tmp 0,.dat (.int .u32))]
abbrev ADi:List RS:=[.one]
def SW[Lk]:Us→Option (U8):=fun(a0,a1,_)=>
 match(ilt a1 0)with
 |true=>some (0,())
 |false=>match(ieq (AG a0) 0)with
 |true=>some (0,())
 |false=>match rem? a1 (AG a0)with|none=>none|some x0=>match idx a0 x0 with|none=>none|some x1=>some (x1,())
def WN[Lk]:=fun v=>Lk.f (SW v)
theorem AHa v:WN v=SW v:=AH _
abbrev AQp:AE:=[(.tmp 0,.dat (.int .u32))]
abbrev AQo:AE:=[(.tmp 0,.di)]
abbrev AQn:List RS:=[.one]
def AIC[Lk]:U8→Option (U8):=fun(a0,_)=>
 match(ieq a0 0)with
 |true=>some (32,())
 |false=>match shr? .u32 (IntKind.wrap .u32 ((IntKind.wrap .u32 ((BitVec.ofInt (IntKind.bits .u32) a0 &&& BitVec.ofInt (IntKind.bits .u32) (IntKind.wrap .u32 (0-a0))).toNat))*125613361)) 27 with|none=>none|some x0=>match(ile 0 x0&&(ilt x0 32&&ilt x0 (AG APZ)))with
 |true=>some ((IntKind.wrap .i64 (AY APZ (AN x0) 0)),())
 |false=>none
def AQq[Lk]:=fun v=>Lk.f (AIC v)
theorem AVu v:AQq v=AIC v:=AH _
abbrev WW:AE:=[(.tmp 0,.dat (.int .u32))]
abbrev WV:AE:=[(.tmp 0,.di)]
abbrev WU:List RS:=[.one]
def Oh[Lk]:U8→Option (U8):=fun(a0,_)=>
 match AQq (a0,())with|none=>none|some (y0,_)=>some ((Ci (IntKind.wrap .i64 (y0+1)) 8),())
def SX[Lk]:=fun v=>Lk.f (Oh v)
theorem ADo v:SX v=Oh v:=AH _
abbrev Za:AE:=[(.tmp 0,.di)]
abbrev ZZ:AE:=[(.tmp 0,.dat .bool)]
abbrev ZY:List RS:=[.one]
def Qz[Lk]:U8→Option (Uf):=fun(a0,_)=>
 match(ile 1 a0)with
 |true=>some ((ile a0 8),())
 |false=>some (false,())
def Zb[Lk]:=fun v=>Lk.f (Qz v)
theorem AGC v:Zb v=Qz v:=AH _
abbrev Jq:AE:=[(.tmp 0,.dat U4),(.tmp 1,.clo 70 [])]
abbrev Jp:AE:=[(.tmp 0,.di)]
abbrev Jo:List RS:=[.one]
abbrev NY:AE:=[(.tmp 0,.dat U4),(.tmp 1,.clo 70 []),(.tmp 7,.di),(.tmp 8,.di)]
abbrev NW:At:=[(.ret,[(.tmp 4,.di)]),(.exit 0,[])]
def CO[Lk]:Uq→Option (Uq⊕U8⊕(Unit)⊕Unit):=fun(a0,a1,a2,_)=>
 match(ilt a2 a1)with
 |true=>match idx a0 a2 with|none=>none|some x0=>match Zb (x0,())with|none=>none|some (y1,_)=>match(!y1)with
  |true=>some (.inr (.inl (a2,())))
  |false=>some (.inl (a0,a1,(IntKind.wrap .i64 (a2+1)),()))
 |false=>some (.inr (.inr (.inl ())))
def Gf[Lk]:Ul→Option (U8):=fun(a0,_)=>
 match AS CO many (a0,(AG a0),0,())with|none=>none|some r=>match r with
 |.inl (o0,_)=>some (o0,())
 |.inr r=>match r with
 |.inl _=>some ((-1:Int),())
 |.inr _=>none
def JF[Lk]:=fun v=>Lk.f (Gf v)
theorem NZ v:JF v=Gf v:=AH _
abbrev Ia:AE:=[(.tmp 0,.dat U4),(.tmp 1,.clo 70 [])]
abbrev IZ:AE:=[(.tmp 0,.dat .bool)]
abbrev IY:List RS:=[.one]
def FQ[Lk]:Ul→Option (Uf):=fun(a0,_)=>
 match JF (a0,())with|none=>none|some (y0,_)=>some ((ile 0 y0),())
def FT[Lk]:=fun v=>Lk.f (FQ v)
theorem MV v:FT v=FQ v:=AH _
abbrev TN:AE:=[(.tmp 0,.dat U4),(.tmp 1,.dat U4)]
abbrev TM:AE:=[(.tmp 0,.own 3 U0),(.tmp 1,.own 3 U0),(.tmp 2,.own 43 U4),(.tmp 3,.di)]
abbrev TL:List RS:=[.agg 3,.one]
abbrev Zf:AE:=[(.tmp 1,.dat U4),(.tmp 4,.box 3),(.cell 0 0,.nil U0),(.cell 0 1,.nil U0),(.cell 0 2,.nil U4),(.tmp 6,.di),(.tmp 8,.box 3),(.cell 1 0,.own 3 U0),(.cell 1 1,.own 3 U0),(.cell 1 2,.own 43 U4),(.tmp 9,.aptr 114 U0 8),(.tmp 11,.di),(.tmp 42,.di),(.tmp 43,.di),(.tmp 68,.di),(.tmp 69,.di)]
abbrev Zd:At:=[(.exit 2,[(.tmp 1,.dat U4),(.tmp 4,.box 3),(.cell 0 0,.nil U0),(.cell 0 1,.nil U0),(.cell 0 2,.nil U4),(.tmp 6,.di),(.tmp 8,.box 3),(.cell 1 0,.own 3 U0),(.cell 1 1,.own 3 U0),(.cell 1 2,.own 43 U4),(.tmp 9,.aptr 114 U0 8),(.tmp 42,.di),(.tmp 43,.di)])]
def Cz[Lk]:Vm→Option (Vm⊕Va⊕Unit):=fun(a0,a1,a2,a3,a4,a5,a6,a7,a8,a9,a10,_)=>
 match(ilt a10 a9)with
 |true=>match(ile 0 a10&&(ilt a10 8&&ilt a10 (AG a5)))with
  |true=>some (.inl (a0,a1,a2,a3,a4,(BB a5 (AN a10) a6),a6,a7,a8,a9,(IntKind.wrap .i64 (a10+1)),()))
  |false=>none
 |false=>some (.inr (.inl (a0,a1,a2,a3,a4,a5,a7,a8,())))
abbrev Zg:AE:=[(.tmp 1,.dat U4),(.tmp 4,.box 3),(.cell 0 0,.nil U0),(.cell 0 1,.nil U0),(.cell 0 2,.nil U4),(.tmp 6,.di),(.tmp 8,.box 3),(.cell 1 0,.own 3 U0),(.cell 1 1,.own 3 U0),(.cell 1 2,.own 43 U4),(.tmp 9,.aptr 114 U0 8),(.tmp 42,.di),(.tmp 43,.di)]
abbrev Ze:At:=[(.exit 0,[(.tmp 4,.box 3),(.cell 0 0,.nil U0),(.cell 0 1,.nil U0),(.cell 0 2,.nil U4),(.tmp 8,.box 3),(.cell 1 0,.own 3 U0),(.cell 1 1,.own 3 U0),(.cell 1 2,.own 43 U4)])]
def EM[Lk]:Va→Option (Va⊕(List Int×List Int×List U3×Unit)⊕Unit):=fun(a0,a1,a2,a3,a4,a5,a6,a7,_)=>
 match(ilt a7 a6)with
 |true=>match rem? a7 a1 with|none=>none|some x0=>match(ile a1 a7)with
  |true=>match idx a0 (IntKind.wrap .i64 ((IntKind.wrap .i64 (a1-1))-x0))with|none=>none|some x1=>match Ce a5 0 x1 with|none=>none|some x2=>match Qc (DK 0 (AN (AG x2)) a5)with|none=>none|some x3=>match idx a4 (IntKind.wrap .i64 ((IntKind.wrap .i64 (a1-1))-x0))with|none=>none|some x4=>match idx a0 (IntKind.wrap .i64 ((IntKind.wrap .i64 (a1-1))-x0))with|none=>none|some x5=>match AS Cz many (a0,a1,a2,a3,(BB a4 (AN (IntKind.wrap .i64 ((IntKind.wrap .i64 (a1-1))-x0))) x3),a5,(IntKind.wrap .i64 ((IntKind.wrap .i64 (a1-1))-x0)),a6,a7,x5,0,())with|none=>none|some r=>match r with
   |.inl (o6,o7,o8,o9,o10,o11,o12,o13,_)=>some (.inl (o6,o7,o8,o9,o10,o11,o12,(IntKind.wrap .i64 (o13+1)),()))
   |.inr _=>none
  |false=>match idx a0 (IntKind.wrap .i64 ((IntKind.wrap .i64 (a1-1))-x0))with|none=>none|some x14=>match AS Cz many (a0,a1,a2,a3,a4,a5,(IntKind.wrap .i64 ((IntKind.wrap .i64 (a1-1))-x0)),a6,a7,x14,0,())with|none=>none|some r=>match r with
  |.inl (o15,o16,o17,o18,o19,o20,o21,o22,_)=>some (.inl (o15,o16,o17,o18,o19,o20,o21,(IntKind.wrap .i64 (o22+1)),()))
  |.inr _=>none
 |false=>some (.inr (.inl (a2,a3,a4,())))
def OC[Lk]:V9→Option ((List Int×List Int×List U3×Int×Unit)):=fun(a0,a1,_)=>
 match(ieq (AG a0) 0)with
 |true=>some (([]:List (Int)),([]:List (Int)),([]:List U3),1,())
 |false=>match(!(ieq (AG a1) (AG a0)))with
 |true=>some (([]:List (Int)),([]:List (Int)),([]:List U3),1,())
 |false=>match K8 (a0,())with|none=>none|some (y0,_)=>match(!y0)with
 |true=>some (([]:List (Int)),([]:List (Int)),([]:List U3),1,())
 |false=>match FT (a1,())with|none=>none|some (y1,_)=>match y1 with
 |true=>some (([]:List (Int)),([]:List (Int)),([]:List U3),1,())
 |false=>match Qc a0 with|none=>none|some x2=>match Qc a1 with|none=>none|some x3=>match(D6 (AG a0)&&D6 (AG a0)&&ile (AG a0) (AG a0)&&true)with
 |true=>match AS EM many (a1,(AG a0),x2,x3,(EA (AN (AG a0)) ([]:List (Int))),(EA 8 (0:Int)),(IntKind.wrap .i64 ((2:Int)*(AG a0))),(0:Int),())with|none=>none|some r=>match r with
  |.inl (o4,o5,o6,_)=>some (o4,o5,o6,0,())
  |.inr _=>none
 |false=>none
def OE[Lk]:=fun v=>Lk.f (OC v)
theorem Zh v:OE v=OC v:=AH _
abbrev Mm:AE:=[(.tmp 0,.dat U4),(.tmp 1,.dat (.slice (.int .u32)))]
abbrev Ml:AE:=[(.tmp 0,.own 3 U0)]
abbrev Mk:List RS:=[.one]
abbrev Q1:AE:=[(.tmp 1,.dat (.slice (.int .u32))),(.tmp 5,.own 3 U0),(.tmp 8,.dat U4),(.tmp 9,.di),(.tmp 10,.di)]
abbrev Q0:At:=[(.exit 0,[(.tmp 5,.own 3 U0)])]
def Cy[Lk]:Vc→Option (Vc⊕Ul⊕Unit):=fun(a0,a1,a2,a3,a4,_)=>
 match(ilt a4 a3)with
 |true=>match idx a2 a4 with|none=>none|some x0=>match(ilt x0 0)with
  |true=>match(fits ((AG a1)+(AG ([1]:List (Int)))))with
   |true=>some (.inl (a0,(A2 a1 ([1]:List (Int))),a2,a3,(IntKind.wrap .i64 (a4+1)),()))
   |false=>none
  |false=>match WN (a0,x0,())with|none=>none|some (y1,_)=>match SX (y1,())with|none=>none|some (y2,_)=>match(fits ((AG a1)+(AG ([y2]:List (Int)))))with
  |true=>some (.inl (a0,(A2 a1 ([y2]:List (Int))),a2,a3,(IntKind.wrap .i64 (a4+1)),()))
  |false=>none
 |false=>some (.inr (.inl (a1,())))
def Iw[Lk]:V9→Option (Ul):=fun(a0,a1,_)=>
 match AS Cy many (a1,([]:List (Int)),a0,(AG a0),0,())with|none=>none|some r=>match r with
 |.inl (o0,_)=>some (o0,())
 |.inr _=>none
def KE[Lk]:=fun v=>Lk.f (Iw v)
theorem Q2 v:KE v=Iw v:=AH _
abbrev ADG:AE:=[(.tmp 0,.dat U4),(.tmp 1,.dat U4)]
abbrev ADF:AE:=[(.tmp 0,.dat .bool)]
abbrev ADE:List RS:=[.one]
abbrev AHW:AE:=[(.tmp 0,.dat U4),(.tmp 1,.dat U4),(.tmp 12,.di),(.tmp 13,.di)]
abbrev AHV:At:=[(.ret,[(.tmp 4,.dat .bool)]),(.exit 0,[])]
def GC[Lk]:Vg→Option (Vg⊕Uf⊕(Unit)⊕Unit):=fun(a0,a1,a2,a3,_)=>
 match(ilt a3 a2)with
 |true=>match idx a0 a3 with|none=>none|some x0=>match idx a1 a3 with|none=>none|some x1=>match(!(ieq x0 x1))with
  |true=>some (.inr (.inl (false,())))
  |false=>some (.inl (a0,a1,a2,(IntKind.wrap .i64 (a3+1)),()))
 |false=>some (.inr (.inr (.inl ())))
def SB[Lk]:V9→Option (Uf):=fun(a0,a1,_)=>
 match(!(ieq (AG a0) (AG a1)))with
 |true=>some (false,())
 |false=>match AS GC many (a0,a1,(AG a0),0,())with|none=>none|some r=>match r with
 |.inl (o0,_)=>some (o0,())
 |.inr r=>match r with
 |.inl _=>some (true,())
 |.inr _=>none
def QS[Lk]:=fun v=>Lk.f (SB v)
theorem AHX v:QS v=SB v:=AH _
abbrev Vz:AE:=[(.tmp 0,.dat Ua),(.tmp 1,.dat Ua),(.tmp 2,.clo 146 [])]
abbrev Vy:AE:=[(.tmp 0,.dat .bool)]
abbrev Vx:List RS:=[.one]
abbrev ADJ:AE:=[(.tmp 1,.dat Ua),(.tmp 2,.clo 146 []),(.tmp 15,.dat Ua),(.tmp 16,.di),(.tmp 17,.di)]
abbrev ADI:At:=[(.ret,[(.tmp 6,.dat .bool)]),(.exit 0,[])]
def EW[Lk]:(List U3×List U3×Int×Int×Unit)→Option ((List U3×List U3×Int×Int×Unit)⊕Uf⊕(Unit)⊕Unit):=fun(a0,a1,a2,a3,_)=>
 match(ilt a3 a2)with
 |true=>match idx a1 a3 with|none=>none|some x0=>match idx a0 a3 with|none=>none|some x1=>match QS (x0,x1,())with|none=>none|some (y2,_)=>match(!y2)with
  |true=>some (.inr (.inl (false,())))
  |false=>some (.inl (a0,a1,a2,(IntKind.wrap .i64 (a3+1)),()))
 |false=>some (.inr (.inr (.inl ())))
def Od[Lk]:(List U3×List U3×Unit)→Option (Uf):=fun(a0,a1,_)=>
 match(!(ieq (AG a0) (AG a1)))with
 |true=>some (false,())
 |false=>match AS EW many (a1,a0,(AG a0),0,())with|none=>none|some r=>match r with
 |.inl (o0,_)=>some (o0,())
 |.inr r=>match r with
 |.inl _=>some (true,())
 |.inr _=>none
def SF[Lk]:=fun v=>Lk.f (Od v)
theorem ADK v:SF v=Od v:=AH _
abbrev ZV:AE:=[(.tmp 0,.dat Un),(.tmp 1,.dat Un)]
abbrev ZU:AE:=[(.tmp 0,.dat .bool)]
abbrev ZT:List RS:=[.one]
def Qw[Lk]:(Up×Up×Unit)→Option (Uf):=fun(a0,a1,_)=>
 match QS (a0.1,a1.1,())with|none=>none|some (y0,_)=>match y0 with
 |true=>match QS (a0.2.1,a1.2.1,())with|none=>none|some (y1,_)=>match y1 with
  |true=>match SF (a0.2.2.1,a1.2.2.1,())with|none=>none|some (y2,_)=>some (y2,())
  |false=>some (false,())
 |false=>some (false,())
def ZW[Lk]:=fun v=>Lk.f (Qw v)
theorem AGA v:ZW v=Qw v:=AH _
abbrev TK:AE:=[(.tmp 0,.dat Un)]
abbrev TJ:AE:=[(.tmp 0,.dat .bool)]
abbrev TH:List RS:=[.one]
def OB[Lk]:(Up×Unit)→Option (Uf):=fun(a0,_)=>
 match OE (a0.1,a0.2.1,())with|none=>none|some (y0,y1,y2,y3,_)=>match(ieq y3 0)with
 |true=>match ZW ((y0,(y1,(y2,()))),(a0.1,(a0.2.1,(a0.2.2.1,()))),())with|none=>none|some (y4,_)=>some (y4,())
 |false=>some (false,())
def Qx[Lk]:=fun v=>Lk.f (OB v)
theorem ZX v:Qx v=OB v:=AH _
abbrev Ju:AE:=[(.tmp 0,.dat U4),(.tmp 1,.clo 100 [])]
abbrev Jt:AE:=[(.tmp 0,.di)]
abbrev Js:List RS:=[.one]
abbrev Nb:AE:=[(.tmp 0,.dat U4),(.tmp 1,.clo 100 []),(.tmp 7,.di),(.tmp 8,.di)]
abbrev Na:At:=[(.ret,[(.tmp 4,.di)]),(.exit 0,[])]
def CP[Lk]:Uq→Option (Uq⊕U8⊕(Unit)⊕Unit):=fun(a0,a1,a2,_)=>
 match(ilt a2 a1)with
 |true=>match idx a0 a2 with|none=>none|some x0=>match(ilt x0 (-1073741824:Int))with
  |true=>some (.inr (.inl (a2,())))
  |false=>match(ilt 1073741824 x0)with
  |true=>some (.inr (.inl (a2,())))
  |false=>some (.inl (a0,a1,(IntKind.wrap .i64 (a2+1)),()))
 |false=>some (.inr (.inr (.inl ())))
def Gg[Lk]:Ul→Option (U8):=fun(a0,_)=>
 match AS CP many (a0,(AG a0),0,())with|none=>none|some r=>match r with
 |.inl (o0,_)=>some (o0,())
 |.inr r=>match r with
 |.inl _=>some ((-1:Int),())
 |.inr _=>none
def JG[Lk]:=fun v=>Lk.f (Gg v)
theorem Nc v:JG v=Gg v:=AH _
abbrev Ie:AE:=[(.tmp 0,.dat U4),(.tmp 1,.clo 100 [])]
abbrev Ic:AE:=[(.tmp 0,.dat .bool)]
abbrev Ib:List RS:=[.one]
def FU[Lk]:Ul→Option (Uf):=fun(a0,_)=>
 match JG (a0,())with|none=>none|some (y0,_)=>some ((ile 0 y0),())
def FV[Lk]:=fun v=>Lk.f (FU v)
theorem MW v:FV v=FU v:=AH _
abbrev AAV:AE:=[(.tmp 0,.dat Un),(.tmp 1,.dat U4)]
abbrev AAU:AE:=[(.tmp 0,.dat Ua),(.tmp 1,.di)]
abbrev AAT:List RS:=[.one,.one]
abbrev AGd:AE:=[(.tmp 6,.di),(.tmp 7,.own 3 U0),(.tmp 10,.rows 43 3 U0),(.tmp 11,.di),(.tmp 56,.dat Ua),(.tmp 57,.di),(.tmp 58,.di),(.tmp 63,.dat U4),(.tmp 64,.di),(.tmp 65,.di)]
abbrev AGa:At:=[(.exit 4,[(.tmp 6,.di),(.tmp 7,.own 3 U0),(.tmp 10,.rows 43 3 U0),(.tmp 56,.dat Ua),(.tmp 57,.di),(.tmp 58,.di)])]
def Em[Lk]:(Int×List Int×List U3×Int×List U3×Int×Int×List Int×Int×Int×Unit)→Option ((Int×List Int×List U3×Int×List U3×Int×Int×List Int×Int×Int×Unit)⊕Vj⊕Unit):=fun(a0,a1,a2,a3,a4,a5,a6,a7,a8,a9,_)=>
 match(ilt a9 a8)with
 |true=>match idx a7 a9 with|none=>none|some x0=>match idx a1 x0 with|none=>none|some x1=>match idx a1 a3 with|none=>none|some x2=>match(ile x0 a3)with
  |true=>match idx a1 a0 with|none=>none|some x3=>match idx a2 a3 with|none=>none|some x4=>match(fits ((AG (AY a2 (AN a3) ([]:List (Int))))+(AG ([(IntKind.wrap .i64 ((IntKind.wrap .i64 ((AY a1 (AN x0) 0)-(AY a1 (AN a3) 0)))+(AY a1 (AN a0) 0)))]:List (Int)))))with
   |true=>match idx (BB a2 (AN a3) (A2 (AY a2 (AN a3) ([]:List (Int))) ([(IntKind.wrap .i64 ((IntKind.wrap .i64 ((AY a1 (AN x0) 0)-(AY a1 (AN a3) 0)))+(AY a1 (AN a0) 0)))]:List (Int)))) a3 with|none=>none|some x5=>match(ieq (((AN a3):Nat):Int) (((AN a3):Nat):Int)&&ieq (((AN a3):Nat):Int) (((AN a3):Nat):Int))with
    |true=>some (.inl (a0,a1,(BB a2 (AN a3) (A2 (AY a2 (AN a3) ([]:List (Int))) ([(IntKind.wrap .i64 ((IntKind.wrap .i64 ((AY a1 (AN x0) 0)-(AY a1 (AN a3) 0)))+(AY a1 (AN a0) 0)))]:List (Int)))),a3,a4,a5,a6,a7,a8,(IntKind.wrap .i64 (a9+1)),()))
    |false=>none
   |false=>none
  |false=>match idx a2 a3 with|none=>none|some x6=>match(fits ((AG (AY a2 (AN a3) ([]:List (Int))))+(AG ([(IntKind.wrap .i64 ((AY a1 (AN x0) 0)-(AY a1 (AN a3) 0)))]:List (Int)))))with
  |true=>match idx (BB a2 (AN a3) (A2 (AY a2 (AN a3) ([]:List (Int))) ([(IntKind.wrap .i64 ((AY a1 (AN x0) 0)-(AY a1 (AN a3) 0)))]:List (Int)))) a3 with|none=>none|some x7=>match(ieq (((AN a3):Nat):Int) (((AN a3):Nat):Int)&&ieq (((AN a3):Nat):Int) (((AN a3):Nat):Int))with
   |true=>some (.inl (a0,a1,(BB a2 (AN a3) (A2 (AY a2 (AN a3) ([]:List (Int))) ([(IntKind.wrap .i64 ((AY a1 (AN x0) 0)-(AY a1 (AN a3) 0)))]:List (Int)))),a3,a4,a5,a6,a7,a8,(IntKind.wrap .i64 (a9+1)),()))
   |false=>none
  |false=>none
 |false=>some (.inr (.inl (a0,a1,a2,a4,a5,a6,())))
abbrev AGe:AE:=[(.tmp 6,.di),(.tmp 7,.own 3 U0),(.tmp 10,.rows 43 3 U0),(.tmp 56,.dat Ua),(.tmp 57,.di),(.tmp 58,.di)]
abbrev AGb:At:=[(.exit 2,[(.tmp 10,.rows 43 3 U0)])]
def En[Lk]:Vj→Option (Vj⊕Uj⊕Unit):=fun(a0,a1,a2,a3,a4,a5,_)=>
 match(ilt a5 a4)with
 |true=>match idx a3 a5 with|none=>none|some x0=>match AS Em many (a0,a1,a2,a5,a3,a4,a5,x0,(AG x0),0,())with|none=>none|some r=>match r with
  |.inl (o1,o2,o3,o4,o5,o6,_)=>some (.inl (o1,o2,o3,o4,o5,(IntKind.wrap .i64 (o6+1)),()))
  |.inr _=>none
 |false=>some (.inr (.inl (a2,())))
abbrev AGf:AE:=[(.tmp 2,.box 3),(.cell 0 0,.dat U4),(.cell 0 1,.dat U4),(.cell 0 2,.dat Ua),(.tmp 6,.di),(.tmp 7,.own 3 U0),(.tmp 35,.dat U4),(.tmp 36,.di),(.tmp 37,.di)]
abbrev AGc:At:=[(.exit 0,[(.tmp 2,.box 3),(.cell 0 0,.dat U4),(.cell 0 1,.dat U4),(.cell 0 2,.dat Ua),(.tmp 6,.di),(.tmp 7,.own 3 U0)])]
def Eo[Lk]:(List Int×List Int×List U3×Int×List Int×List Int×Int×Int×Unit)→Option ((List Int×List Int×List U3×Int×List Int×List Int×Int×Int×Unit)⊕(List Int×List Int×List U3×Int×List Int×Unit)⊕Unit):=fun(a0,a1,a2,a3,a4,a5,a6,a7,_)=>
 match(ilt a7 a6)with
 |true=>match idx a5 a7 with|none=>none|some x0=>match idx a4 a7 with|none=>none|some x1=>match idx a4 (IntKind.wrap .i64 (a7+1))with|none=>none|some x2=>some (.inl (a0,a1,a2,a3,(BB a4 (AN (IntKind.wrap .i64 (a7+1))) (IntKind.wrap .i64 ((AY a4 (AN a7) 0)+x0))),a5,a6,(IntKind.wrap .i64 (a7+1)),()))
 |false=>some (.inr (.inl (a0,a1,a2,a3,a4,())))
def RI[Lk]:(Up×List Int×Unit)→Option (V7):=fun(a0,a1,_)=>
 match(!(ieq (AG a1) (AG a0.1)))with
 |true=>some (([]:List U3),1,())
 |false=>match Qx ((a0.1,(a0.2.1,(a0.2.2.1,()))),())with|none=>none|some (y0,_)=>match(!y0)with
 |true=>some (([]:List U3),1,())
 |false=>match FV (a1,())with|none=>none|some (y1,_)=>match y1 with
 |true=>some (([]:List U3),1,())
 |false=>match(D6 (IntKind.wrap .i64 ((AG a0.1)+1))&&D6 (IntKind.wrap .i64 ((AG a0.1)+1))&&ile (IntKind.wrap .i64 ((AG a0.1)+1)) (IntKind.wrap .i64 ((AG a0.1)+1))&&true)with
 |true=>match AS Eo many (a0.1,a0.2.1,a0.2.2.1,(AG a0.1),(EA (AN (IntKind.wrap .i64 ((AG a0.1)+(1:Int)))) (0:Int)),a1,(AG a1),(0:Int),())with|none=>none|some r=>match r with
  |.inl (o2,o3,o4,o5,o6,_)=>match(D6 o5&&D6 o5&&ile o5 o5&&true)with
   |true=>match AS En many (o5,o6,(EA (AN o5) ([]:List Int)),o4,(AG o4),(0:Int),())with|none=>none|some r=>match r with
    |.inl (o7,_)=>some (o7,0,())
    |.inr _=>none
   |false=>none
  |.inr _=>none
 |false=>none
def AAW[Lk]:=fun v=>Lk.f (RI v)
theorem AGg v:AAW v=RI v:=AH _
abbrev ABQ:AE:=[(.tmp 0,.dat Un),(.tmp 1,.dat (.slice .bool))]
abbrev ABP:AE:=[(.tmp 0,.dat Ua),(.tmp 1,.di)]
abbrev ABO:List RS:=[.one,.one]
abbrev AGz:AE:=[(.tmp 2,.box 3),(.cell 0 0,.dat U4),(.cell 0 1,.dat U4),(.cell 0 2,.dat Ua),(.tmp 6,.own 3 U0),(.tmp 12,.dat (.slice .bool)),(.tmp 13,.di),(.tmp 14,.di)]
abbrev AGy:At:=[(.exit 0,[(.tmp 2,.box 3),(.cell 0 0,.dat U4),(.cell 0 1,.dat U4),(.cell 0 2,.dat Ua),(.tmp 6,.own 3 U0)])]
def Fs[Lk]:(List Int×List Int×List U3×List Int×List Bool×Int×Int×Unit)→Option ((List Int×List Int×List U3×List Int×List Bool×Int×Int×Unit)⊕(List Int×List Int×List U3×List Int×Unit)⊕Unit):=fun(a0,a1,a2,a3,a4,a5,a6,_)=>
 match(ilt a6 a5)with
 |true=>match idx a4 a6 with|none=>none|some x0=>match x0 with
  |true=>match idx a3 a6 with|none=>none|some x1=>some (.inl (a0,a1,a2,(BB a3 (AN a6) 1),a4,a5,(IntKind.wrap .i64 (a6+1)),()))
  |false=>some (.inl (a0,a1,a2,a3,a4,a5,(IntKind.wrap .i64 (a6+1)),()))
 |false=>some (.inr (.inl (a0,a1,a2,a3,())))
def Rd[Lk]:(Up×List Bool×Unit)→Option (V7):=fun(a0,a1,_)=>
 match(D6 (AG a1)&&D6 (AG a1)&&ile (AG a1) (AG a1)&&true)with
 |true=>match AS Fs many (a0.1,a0.2.1,a0.2.2.1,(EA (AN (AG a1)) (0:Int)),a1,(AG a1),(0:Int),())with|none=>none|some r=>match r with
  |.inl (o0,o1,o2,o3,_)=>match AAW ((o0,(o1,(o2,()))),o3,())with|none=>none|some (y4,y5,_)=>some (y4,y5,())
  |.inr _=>none
 |false=>none
def ABS[Lk]:=fun v=>Lk.f (Rd v)
theorem AG0 v:ABS v=Rd v:=AH _
abbrev AR0:AE:=[(.tmp 0,.dat Ux),(.tmp 1,.di),(.tmp 2,.di)]
abbrev ARz:At:=[(.ret,[(.tmp 0,.nilp),(.tmp 1,.di)]),(.ret,[(.tmp 0,.box 4),(.cell 0 0,.di),(.cell 0 1,.dat U4),(.cell 0 2,.map U0 U0),(.cell 0 3,.dat (.mapi .i64 Um)),(.tmp 1,.di)])]
abbrev ARy:List RS:=[.one,.one]
abbrev AWG:AE:=[(.tmp 2,.di),(.tmp 10,.box 4),(.cell 0 0,.di),(.cell 0 1,.dat U4),(.cell 0 2,.map U0 U0),(.cell 0 3,.mrows .i64 34 U2),(.tmp 14,.box 4),(.cell 3 0,.di),(.cell 3 1,.di),(.cell 3 2,.di),(.cell 3 3,.dat .bool),(.tmp 65,.dat U9),(.tmp 66,.di),(.tmp 67,.di),(.tmp 74,.ptr' 3 2),(.tmp 75,.di),(.tmp 76,.di),(.tmp 77,.dat .bool),(.tmp 83,.dat (.arr 2 U0)),(.tmp 84,.di)]
abbrev AWD:At:=[(.exit 5,[(.tmp 2,.di),(.tmp 10,.box 4),(.cell 0 0,.di),(.cell 0 1,.dat U4),(.cell 0 2,.map U0 U0),(.cell 0 3,.mrows .i64 34 U2),(.tmp 65,.dat U9),(.tmp 66,.di),(.tmp 67,.di),(.tmp 75,.di),(.tmp 76,.di),(.tmp 77,.dat .bool)])]
def GY[Lk]:Vd→Option (Vd⊕(Int×Int×List Int×List Uc×List Ub×List U5×Int×Int×Int×Int×Bool×Unit)⊕Unit):=fun(a0,a1,a2,a3,a4,a5,a6,a7,a8,a9,a10,a11,a12,a13,a14,a15,a16,_)=>
 match(ilt a16 2)with
 |true=>match idx ([(AY a15 0 0),(AY a15 1 0)]:List (Int)) a16 with|none=>none|some x0=>match(fits ((AG (AY (List.map Prod.snd a4) (C2 (List.map Prod.fst a4) x0) ([]:List U1)))+(AG ([(a5,(a6,()))]:List U1))))with
  |true=>match(ieq (((C2 (List.map Prod.fst a4) x0):Nat):Int) (((C2 (List.map Prod.fst a4) x0):Nat):Int)&&ieq ((C2 (List.map Prod.fst a4) x0:Nat):Int) (((C2 (List.map Prod.fst a4) x0):Nat):Int))with
   |true=>some (.inl (a0,a1,a2,a3,(List.zip (Lr (List.map Prod.fst a4) (C2 (List.map Prod.fst a4) x0) x0) (Lr (List.map Prod.snd a4) (C2 (List.map Prod.fst a4) x0) (A2 (AY (List.map Prod.snd a4) (C2 (List.map Prod.fst a4) x0) ([]:List U1)) ([(a5,(a6,()))]:List U1)))),a5,a6,a7,a8,a9,a10,a11,a12,a13,a14,a15,(IntKind.wrap .i64 (a16+1)),()))
   |false=>none
  |false=>none
 |false=>some (.inr (.inl (a0,a1,a2,a3,(List.zip (List.map Prod.fst a4) (List.map Prod.snd a4)),a9,a10,a11,a12,a13,a14,())))
abbrev AWH:AE:=[(.tmp 2,.di),(.tmp 10,.box 4),(.cell 0 0,.di),(.cell 0 1,.dat U4),(.cell 0 2,.map U0 U0),(.cell 0 3,.mrows .i64 34 U2),(.tmp 65,.dat U9),(.tmp 66,.di),(.tmp 67,.di)]
abbrev AWE:At:=[(.exit 3,[(.tmp 10,.box 4),(.cell 0 0,.di),(.cell 0 1,.dat U4),(.cell 0 2,.map U0 U0),(.cell 0 3,.mrows .i64 34 U2)])]
def Iz[Lk]:(Int×Int×List Int×List Uc×List Ub×List U5×Int×Int×Unit)→Option ((Int×Int×List Int×List Uc×List Ub×List U5×Int×Int×Unit)⊕(Int×List Int×List Uc×List Ub×Unit)⊕Unit):=fun(a0,a1,a2,a3,a4,a5,a6,a7,_)=>
 match(ilt a7 a6)with
 |true=>match idx a5 a7 with|none=>none|some x0=>match x0.2.2.2.1 with
  |true=>some (.inl (a0,a1,a2,a3,(List.zip (List.map Prod.fst a4) (List.map Prod.snd a4)),a5,a6,(IntKind.wrap .i64 (a7+1)),()))
  |false=>match(!(ieq x0.2.2.1 a0))with
  |true=>some (.inl (a0,a1,a2,a3,(List.zip (List.map Prod.fst a4) (List.map Prod.snd a4)),a5,a6,(IntKind.wrap .i64 (a7+1)),()))
  |false=>match AS GY many (a0,a1,a2,a3,(List.zip (List.map Prod.fst a4) (List.map Prod.snd a4)),x0.1,x0.2.1,x0.2.2.1,x0.2.2.2.1,a5,a6,a7,x0.2.2.1,a0,(!(ieq x0.2.2.1 a0)),([x0.1,x0.2.1]:List (Int)),0,())with|none=>none|some r=>match r with
  |.inl (o1,o2,o3,o4,o5,o6,o7,o8,o9,o10,o11,_)=>some (.inl (o1,o2,o3,o4,(List.zip (List.map Prod.fst o5) (List.map Prod.snd o5)),o6,o7,(IntKind.wrap .i64 (o8+1)),()))
  |.inr _=>none
 |false=>some (.inr (.inl (a1,a2,a3,(List.zip (List.map Prod.fst a4) (List.map Prod.snd a4)),())))
abbrev AWI:AE:=[(.tmp 2,.di),(.tmp 3,.box 2),(.cell 0 0,.di),(.cell 0 1,.dat U9),(.tmp 10,.box 4),(.cell 1 0,.di),(.cell 1 1,.dat U4),(.cell 1 2,.map U0 U0),(.cell 1 3,.mrows .i64 34 U2),(.tmp 52,.dat U4),(.tmp 53,.di),(.tmp 54,.di)]
abbrev AWF:At:=[(.exit 1,[(.tmp 2,.di),(.tmp 3,.box 2),(.cell 0 0,.di),(.cell 0 1,.dat U9),(.tmp 10,.box 4),(.cell 1 0,.di),(.cell 1 1,.dat U4),(.cell 1 2,.map U0 U0),(.cell 1 3,.mrows .i64 34 U2)])]
def I0[Lk]:Vn→Option (Vn⊕(Int×Int×List U5×Int×List Int×List Uc×List Ub×Unit)⊕Unit):=fun(a0,a1,a2,a3,a4,a5,a6,a7,a8,a9,_)=>
 match(ilt a9 a8)with
 |true=>match idx a7 a9 with|none=>none|some x0=>some (.inl (a0,a1,a2,a3,a4,(Af a5 x0 1),(List.zip (List.map Prod.fst a6) (List.map Prod.snd a6)),a7,a8,(IntKind.wrap .i64 (a9+1)),()))
 |false=>some (.inr (.inl (a0,a1,a2,a3,a4,a5,(List.zip (List.map Prod.fst a6) (List.map Prod.snd a6)),())))
def Tc[Lk]:(Uo×Int×Int×Unit)→Option (U8⊕V1⊕Unit):=fun(a0,a1,a2,_)=>
 match LS ((a0.1,(a0.2.1,())),a2,())with|none=>none|some (y0,y1,_)=>match(!(ieq y1 0))with
 |true=>some (.inl (y1,()))
 |false=>match(ilt a1 0)with
 |true=>some (.inl (10,()))
 |false=>match(ile a0.1 a1)with
 |true=>some (.inl (10,()))
 |false=>match tof ((y0.1,(y0.2.1,())),a1,())with|none=>none|some (y2,_)=>match idx y0.2.1 y2 with|none=>none|some x3=>match AS I0 many (a2,a0.1,a0.2.1,a0.1,x3,([]:List Uc),(List.zip ([]:List (Int)) ([]:List (List U1))),x3,(AG x3),0,())with|none=>none|some r=>match r with
 |.inl (o4,o5,o6,o7,o8,o9,o10,_)=>match AS Iz many (o4,o7,o8,o9,(List.zip (List.map Prod.fst o10) (List.map Prod.snd o10)),o6,(AG o6),0,())with|none=>none|some r=>match r with
  |.inl (o11,o12,o13,o14,_)=>some (.inr (.inl (o11,o12,o13,(List.zip (List.map Prod.fst o14) (List.map Prod.snd o14)),0,())))
  |.inr _=>none
 |.inr _=>none
def seen[Lk](v:(Uo×Int×Int×Unit)):Option (U8⊕V1⊕Unit):=Lk.f (Tc v)
theorem Y4 v:seen v=Tc v:=AH _
abbrev Ta:AE:=[(.tmp 0,.box 4),(.cell 0 0,.di),(.cell 0 1,.dat U4),(.cell 0 2,.map U0 U0),(.cell 0 3,.dat (.mapi .i64 Um)),(.tmp 1,.dat U2)]
abbrev TZ:AE:=[(.obj 0,.box 4),(.cell 0 0,.di),(.cell 0 1,.dat U4),(.cell 0 2,.map U0 U0),(.cell 0 3,.dat (.mapi .i64 Um)),(.obj 1,.map' 1),(.tmp 0,.dat .bool)]
abbrev TY:List RS:=[.one]
def Tb[Lk]:(Int×List Int×List Uc×List Ub×U1×Unit)→Option ((Int×List Int×List Uc×List Ub×Bool×Unit)):=fun(a0,a1,a2,a3,a4,_)=>
 some (a0,a1,a2,a3,(ieq (IntKind.wrap .i64 (((AP a2 a4.1).getD 0)+((AP a2 a4.2.1).getD 0))) 1),())
def OG[Lk]:=fun v=>Lk.f (Tb v)
theorem ARj v:OG v=Tb v:=AH _
abbrev Po:AE:=[(.tmp 0,.box 4),(.cell 0 0,.di),(.cell 0 1,.dat U4),(.cell 0 2,.map U0 U0),(.cell 0 3,.dat (.mapi .i64 Um)),(.tmp 1,.di)]
abbrev Pn:AE:=[(.obj 0,.box 4),(.cell 0 0,.di),(.cell 0 1,.dat U4),(.cell 0 2,.map U0 U0),(.cell 0 3,.dat (.mapi .i64 Um)),(.obj 1,.map' 1),(.tmp 0,.dat .bool)]
abbrev Pm:List RS:=[.one]
def K4[Lk]:V1→Option ((Int×List Int×List Uc×List Ub×Bool×Unit)):=fun(a0,a1,a2,a3,a4,_)=>
 match(ilt a4 a0)with
 |true=>some (a0,a1,a2,a3,(ilt 0 (AG ((AP a3 a4).getD ([]:List U1)))),())
 |false=>some (a0,a1,a2,a3,false,())
def Hx[Lk]:=fun v=>Lk.f (K4 v)
theorem XF v:Hx v=K4 v:=AH _
abbrev Jm:AE:=[(.tmp 0,.own 3 U0),(.cap 1 0,.box 1),(.cell 1 0,.box 4),(.cell 2 0,.di),(.cell 2 1,.dat U4),(.cell 2 2,.map U0 U0),(.cell 2 3,.dat (.mapi .i64 Um)),(.tmp 1,.clo 65 [(1,0)])]
abbrev Jl:AE:=[(.obj 0,.own 3 U0),(.obj 1,.box 1),(.cell 1 0,.box 4),(.cell 2 0,.di),(.cell 2 1,.dat U4),(.cell 2 2,.map U0 U0),(.cell 2 3,.dat (.mapi .i64 Um)),(.obj 2,.ptr' 2 0),(.obj 3,.map' 3),(.tmp 0,.di)]
abbrev Jk:List RS:=[.one]
abbrev NT:AE:=[(.obj 0,.own 3 U0),(.obj 1,.box 1),(.cell 1 0,.box 4),(.cell 2 0,.di),(.cell 2 1,.dat U4),(.cell 2 2,.map U0 U0),(.cell 2 3,.dat (.mapi .i64 Um)),(.obj 2,.ptr' 2 0),(.obj 3,.map' 3),(.tmp 0,.own' 0),(.tmp 1,.clo 65 [(1,0)]),(.tmp 7,.di),(.tmp 8,.di)]
abbrev NS:At:=[(.ret,[(.obj 0,.own 3 U0),(.obj 1,.box 1),(.cell 1 0,.box 4),(.cell 2 0,.di),(.cell 2 1,.dat U4),(.cell 2 2,.map U0 U0),(.cell 2 3,.dat (.mapi .i64 Um)),(.obj 2,.ptr' 2 0),(.obj 3,.map' 3),(.tmp 4,.di)]),(.exit 0,[(.obj 0,.own 3 U0),(.obj 1,.box 1),(.cell 1 0,.box 4),(.cell 2 0,.di),(.cell 2 1,.dat U4),(.cell 2 2,.map U0 U0),(.cell 2 3,.dat (.mapi .i64 Um)),(.obj 2,.ptr' 2 0),(.obj 3,.map' 3)])]
def B1[Lk]:Uz→Option (Uz⊕V3⊕Vk⊕Unit):=fun(a0,a1,a2,a3,a4,a5,a6,_)=>
 match(ilt a6 a5)with
 |true=>match idx a0 a6 with|none=>none|some x0=>match Hx (a1,a2,a3,a4,(AY a0 (AN a6) 0),())with|none=>none|some (y1,y2,y3,y4,y5,_)=>match(!y5)with
  |true=>some (.inr (.inl (a0,y1,y2,y3,y4,a6,())))
  |false=>some (.inl (a0,y1,y2,y3,y4,a5,(IntKind.wrap .i64 (a6+1)),()))
 |false=>some (.inr (.inr (.inl (a0,a1,a2,a3,a4,()))))
def Ge[Lk]:Vk→Option (V3):=fun(a0,a1,a2,a3,a4,_)=>
 match AS B1 many (a0,a1,a2,a3,a4,(AG a0),0,())with|none=>none|some r=>match r with
 |.inl (o0,o1,o2,o3,o4,o5,_)=>some (o0,o1,o2,o3,o4,o5,())
 |.inr r=>match r with
 |.inl (o6,o7,o8,o9,o10,_)=>some (o6,o7,o8,o9,o10,(-1:Int),())
 |.inr _=>none
def JB[Lk]:=fun v=>Lk.f (Ge v)
theorem NU v:JB v=Ge v:=AH _
abbrev J2:AE:=[(.tmp 0,.own 3 U0),(.cap 1 0,.box 1),(.cell 1 0,.box 4),(.cell 2 0,.di),(.cell 2 1,.dat U4),(.cell 2 2,.map U0 U0),(.cell 2 3,.dat (.mapi .i64 Um)),(.tmp 1,.clo 65 [(1,0)])]
abbrev J1:AE:=[(.obj 0,.own 3 U0),(.obj 1,.box 1),(.cell 1 0,.box 4),(.cell 2 0,.di),(.cell 2 1,.dat U4),(.cell 2 2,.map U0 U0),(.cell 2 3,.dat (.mapi .i64 Um)),(.obj 2,.ptr' 2 0),(.obj 3,.map' 3),(.tmp 0,.win' 0)]
abbrev J0:List RS:=[.one]
abbrev Nl:AE:=[(.obj 0,.own 3 U0),(.obj 1,.box 1),(.cell 1 0,.box 4),(.cell 2 0,.di),(.cell 2 1,.dat U4),(.cell 2 2,.map U0 U0),(.cell 2 3,.dat (.mapi .i64 Um)),(.obj 2,.ptr' 2 0),(.obj 3,.map' 3),(.tmp 0,.own' 0),(.tmp 1,.clo 65 [(1,0)]),(.tmp 5,.di),(.tmp 6,.di)]
abbrev Nk:At:=[(.exit 0,[(.obj 0,.own 3 U0),(.obj 1,.box 1),(.cell 1 0,.box 4),(.cell 2 0,.di),(.cell 2 1,.dat U4),(.cell 2 2,.map U0 U0),(.cell 2 3,.dat (.mapi .i64 Um)),(.obj 2,.ptr' 2 0),(.obj 3,.map' 3),(.tmp 0,.own' 0),(.tmp 5,.di)])]
def Ct[Lk]:Uz→Option (Uz⊕V3⊕Unit):=fun(a0,a1,a2,a3,a4,a5,a6,_)=>
 match(ilt a6 (AG a0))with
 |true=>match idx a0 a6 with|none=>none|some x0=>match Hx (a1,a2,a3,a4,(AY a0 (AN a6) 0),())with|none=>none|some (y1,y2,y3,y4,y5,_)=>match(!(!y5))with
  |true=>match idx a0 a5 with|none=>none|some x6=>some (.inl ((BB a0 (AN a5) (AY a0 (AN a6) 0)),y1,y2,y3,y4,(IntKind.wrap .i64 (a5+1)),(IntKind.wrap .i64 (a6+1)),()))
  |false=>some (.inl (a0,y1,y2,y3,y4,a5,(IntKind.wrap .i64 (a6+1)),()))
 |false=>some (.inr (.inl (a0,a1,a2,a3,a4,a5,())))
def Gj[Lk]:Vk→Option (V3):=fun(a0,a1,a2,a3,a4,_)=>
 match JB (a0,a1,a2,a3,a4,())with|none=>none|some (y0,y1,y2,y3,y4,y5,_)=>match(ieq y5 (-1:Int))with
 |true=>some (y0,y1,y2,y3,y4,(AG y0),())
 |false=>match AS Ct many (y0,y1,y2,y3,y4,y5,(IntKind.wrap .i64 (y5+1)),())with|none=>none|some r=>match r with
 |.inl (o6,o7,o8,o9,o10,o11,_)=>match Ce o6 o11 (AG o6)with|none=>none|some x12=>match Ce (Bm (AN o11) (AN (AG x12)) 0 o6) 0 o11 with|none=>none|some x13=>some ((Bm (AN o11) (AN (AG x12)) 0 o6),o7,o8,o9,o10,(((AN (AG x13)):Nat):Int),())
 |.inr _=>none
def JO[Lk]:=fun v=>Lk.f (Gj v)
theorem Nm v:JO v=Gj v:=AH _
abbrev Pk:AE:=[(.tmp 0,.box 4),(.cell 0 0,.di),(.cell 0 1,.dat U4),(.cell 0 2,.map U0 U0),(.cell 0 3,.dat (.mapi .i64 Um))]
abbrev Pj:AE:=[(.obj 0,.box 4),(.cell 0 0,.di),(.cell 0 1,.dat U4),(.cell 0 2,.map U0 U0),(.cell 0 3,.dat (.mapi .i64 Um)),(.obj 1,.map' 1),(.tmp 0,.own 3 U0)]
abbrev Ph:List RS:=[.one]
def K0[Lk]:(Int×List Int×List Uc×List Ub×Unit)→Option ((Int×List Int×List Uc×List Ub×List Int×Unit)):=fun(a0,a1,a2,a3,_)=>
 match Qc a1 with|none=>none|some x0=>match JO (x0,a0,a1,a2,a3,())with|none=>none|some (y1,y2,y3,y4,y5,y6,_)=>some (y2,y3,y4,y5,(Bp (AN y6) y1),())
def Hw[Lk]:=fun v=>Lk.f (K0 v)
theorem XE v:Hw v=K0 v:=AH _
abbrev ARp:AE:=[(.tmp 0,.box 4),(.cell 0 0,.di),(.cell 0 1,.dat U4),(.cell 0 2,.map U0 U0),(.cell 0 3,.dat (.mapi .i64 Um)),(.tmp 1,.dat U4)]
abbrev ARo:AE:=[(.obj 0,.box 4),(.cell 0 0,.di),(.cell 0 1,.dat U4),(.cell 0 2,.map U0 U0),(.cell 0 3,.dat (.mapi .i64 Um)),(.obj 1,.map' 1),(.tmp 0,.own 34 U2)]
abbrev ARn:List RS:=[.one]
abbrev AV8:AE:=[(.obj 0,.box 4),(.cell 0 0,.di),(.cell 0 1,.dat U4),(.cell 0 2,.map U0 U0),(.cell 0 3,.dat (.mapi .i64 Um)),(.obj 1,.map' 1),(.tmp 0,.ptr' 0 0),(.tmp 5,.map U2 U0),(.tmp 6,.own 34 U2),(.tmp 12,.dat U4),(.tmp 13,.di),(.tmp 14,.di),(.tmp 23,.dat Um),(.tmp 24,.di),(.tmp 25,.di)]
abbrev AV6:At:=[(.exit 2,[(.obj 0,.box 4),(.cell 0 0,.di),(.cell 0 1,.dat U4),(.cell 0 2,.map U0 U0),(.cell 0 3,.dat (.mapi .i64 Um)),(.obj 1,.map' 1),(.tmp 0,.ptr' 0 0),(.tmp 5,.map U2 U0),(.tmp 6,.own 34 U2),(.tmp 12,.dat U4),(.tmp 13,.di),(.tmp 14,.di)])]
def Iy[Lk]:Vf→Option (Vf⊕V2⊕Unit):=fun(a0,a1,a2,a3,a4,a5,a6,a7,a8,a9,a10,a11,_)=>
 match(ilt a11 a10)with
 |true=>match idx a9 a11 with|none=>none|some x0=>match(ile 0 (Rb a4 (x0.1,(x0.2.1,())))&&ilt (Rb a4 (x0.1,(x0.2.1,()))) (AG (Af a4 (x0.1,(x0.2.1,())) ((AP a4 (x0.1,(x0.2.1,()))).getD 0))))with
  |true=>match(ieq ((AP (AOg (Af a4 (x0.1,(x0.2.1,())) ((AP a4 (x0.1,(x0.2.1,()))).getD 0)) (Rb a4 (x0.1,(x0.2.1,()))) (IntKind.wrap .i64 (((AP a4 (x0.1,(x0.2.1,()))).getD 0)+1))) (x0.1,(x0.2.1,()))).getD 0) 1)with
   |true=>match(fits ((AG a5)+(AG ([(x0.1,(x0.2.1,()))]:List U1))))with
    |true=>some (.inl (a0,a1,a2,a3,(AOg (Af a4 (x0.1,(x0.2.1,())) ((AP a4 (x0.1,(x0.2.1,()))).getD 0)) (Rb a4 (x0.1,(x0.2.1,()))) (IntKind.wrap .i64 (((AP a4 (x0.1,(x0.2.1,()))).getD 0)+1))),(A2 a5 ([(x0.1,(x0.2.1,()))]:List U1)),a6,a7,a8,a9,a10,(IntKind.wrap .i64 (a11+1)),()))
    |false=>none
   |false=>some (.inl (a0,a1,a2,a3,(AOg (Af a4 (x0.1,(x0.2.1,())) ((AP a4 (x0.1,(x0.2.1,()))).getD 0)) (Rb a4 (x0.1,(x0.2.1,()))) (IntKind.wrap .i64 (((AP a4 (x0.1,(x0.2.1,()))).getD 0)+1))),a5,a6,a7,a8,a9,a10,(IntKind.wrap .i64 (a11+1)),()))
  |false=>none
 |false=>some (.inr (.inl (a0,a1,a2,a3,a4,a5,a6,a7,a8,())))
abbrev AV9:AE:=[(.obj 0,.box 4),(.cell 0 0,.di),(.cell 0 1,.dat U4),(.cell 0 2,.map U0 U0),(.cell 0 3,.dat (.mapi .i64 Um)),(.obj 1,.map' 1),(.tmp 0,.ptr' 0 0),(.tmp 5,.map U2 U0),(.tmp 6,.own 34 U2),(.tmp 12,.dat U4),(.tmp 13,.di),(.tmp 14,.di)]
abbrev AV7:At:=[(.exit 0,[(.obj 0,.box 4),(.cell 0 0,.di),(.cell 0 1,.dat U4),(.cell 0 2,.map U0 U0),(.cell 0 3,.dat (.mapi .i64 Um)),(.obj 1,.map' 1),(.tmp 6,.own 34 U2)])]
def K5[Lk]:V2→Option (V2⊕(Int×List Int×List Uc×List Ub×List U1×Unit)⊕Unit):=fun(a0,a1,a2,a3,a4,a5,a6,a7,a8,_)=>
 match(ilt a8 a7)with
 |true=>match idx a6 a8 with|none=>none|some x0=>match AS Iy many (a0,a1,a2,a3,a4,a5,a6,a7,a8,((AP a3 x0).getD ([]:List U1)),(AG ((AP a3 x0).getD ([]:List U1))),0,())with|none=>none|some r=>match r with
  |.inl (o1,o2,o3,o4,o5,o6,o7,o8,o9,_)=>some (.inl (o1,o2,o3,o4,o5,o6,o7,o8,(IntKind.wrap .i64 (o9+1)),()))
  |.inr _=>none
 |false=>some (.inr (.inl (a0,a1,a2,a3,a5,())))
def AI0[Lk]:(Int×List Int×List Uc×List Ub×List Int×Unit)→Option ((Int×List Int×List Uc×List Ub×List U1×Unit)):=fun(a0,a1,a2,a3,a4,_)=>
 match AS K5 many (a0,a1,a2,a3,([]:List (U1×Int)),([]:List U1),a4,(AG a4),0,())with|none=>none|some r=>match r with
 |.inl (o0,o1,o2,o3,o4,_)=>match AGV (o4,())with|none=>none|some (y5,_)=>some (o0,o1,o2,o3,y5,())
 |.inr _=>none
def ARq[Lk]:=fun v=>Lk.f (AI0 v)
theorem AWA v:ARq v=AI0 v:=AH _
abbrev Lb:AE:=[(.tmp 0,.own 34 U2),(.cap 1 0,.box 1),(.cell 1 0,.box 4),(.cell 2 0,.di),(.cell 2 1,.dat U4),(.cell 2 2,.map U0 U0),(.cell 2 3,.dat (.mapi .i64 Um)),(.tmp 1,.clo 31 [(1,0)])]
abbrev La:AE:=[(.obj 0,.own 34 U2),(.obj 1,.box 1),(.cell 1 0,.box 4),(.cell 2 0,.di),(.cell 2 1,.dat U4),(.cell 2 2,.map U0 U0),(.cell 2 3,.dat (.mapi .i64 Um)),(.obj 2,.ptr' 2 0),(.obj 3,.map' 3),(.tmp 0,.di)]
abbrev LZ:List RS:=[.one]
abbrev PI:AE:=[(.obj 0,.own 34 U2),(.obj 1,.box 1),(.cell 1 0,.box 4),(.cell 2 0,.di),(.cell 2 1,.dat U4),(.cell 2 2,.map U0 U0),(.cell 2 3,.dat (.mapi .i64 Um)),(.obj 2,.ptr' 2 0),(.obj 3,.map' 3),(.tmp 0,.own' 0),(.tmp 1,.clo 31 [(1,0)]),(.tmp 7,.di),(.tmp 8,.di)]
abbrev PH:At:=[(.ret,[(.obj 0,.own 34 U2),(.obj 1,.box 1),(.cell 1 0,.box 4),(.cell 2 0,.di),(.cell 2 1,.dat U4),(.cell 2 2,.map U0 U0),(.cell 2 3,.dat (.mapi .i64 Um)),(.obj 2,.ptr' 2 0),(.obj 3,.map' 3),(.tmp 4,.di)]),(.exit 0,[(.obj 0,.own 34 U2),(.obj 1,.box 1),(.cell 1 0,.box 4),(.cell 2 0,.di),(.cell 2 1,.dat U4),(.cell 2 2,.map U0 U0),(.cell 2 3,.dat (.mapi .i64 Um)),(.obj 2,.ptr' 2 0),(.obj 3,.map' 3)])]
def Jw[Lk]:V0→Option (V0⊕V4⊕Vb⊕Unit):=fun(a0,a1,a2,a3,a4,a5,a6,_)=>
 match(ilt a6 a5)with
 |true=>match idx a0 a6 with|none=>none|some x0=>match OG (a1,a2,a3,a4,((AY a0 (AN a6) (0,(0,()))).1,((AY a0 (AN a6) (0,(0,()))).2.1,())),())with|none=>none|some (y1,y2,y3,y4,y5,_)=>match(!y5)with
  |true=>some (.inr (.inl (a0,y1,y2,y3,y4,a6,())))
  |false=>some (.inl (a0,y1,y2,y3,y4,a5,(IntKind.wrap .i64 (a6+1)),()))
 |false=>some (.inr (.inr (.inl (a0,a1,a2,a3,a4,()))))
def Ld[Lk]:Vb→Option (V4):=fun(a0,a1,a2,a3,a4,_)=>
 match AS Jw many (a0,a1,a2,a3,a4,(AG a0),0,())with|none=>none|some r=>match r with
 |.inl (o0,o1,o2,o3,o4,o5,_)=>some (o0,o1,o2,o3,o4,o5,())
 |.inr r=>match r with
 |.inl (o6,o7,o8,o9,o10,_)=>some (o6,o7,o8,o9,o10,(-1:Int),())
 |.inr _=>none
def Le[Lk]:=fun v=>Lk.f (Ld v)
theorem AFf v:Le v=Ld v:=AH _
end
end Go.Pev
end
section
namespace Go.Pev
noncomputable section
attribute [local irreducible] PM Ln O6 PD Adz Ad0 Ad1 Tt AA2 AAL AAK Ly AX many IntKind.wrap AG BB AY A2 Bp DK EA AN Bm Ci imax AP Af
abbrev Lu:AE:=[(.tmp 0,.own 34 U2),(.cap 1 0,.box 1),(.cell 1 0,.box 4),(.cell 2 0,.di),(.cell 2 1,.dat U4),(.cell 2 2,.map U0 U0),(.cell 2 3,.dat (.mapi .i64 Um)),(.tmp 1,.clo 31 [(1,0)])]
abbrev Lt:AE:=[(.obj 0,.own 34 U2),(.obj 1,.box 1),(.cell 1 0,.box 4),(.cell 2 0,.di),(.cell 2 1,.dat U4),(.cell 2 2,.map U0 U0),(.cell 2 3,.dat (.mapi .i64 Um)),(.obj 2,.ptr' 2 0),(.obj 3,.map' 3),(.tmp 0,.win' 0)]
abbrev Ls:List RS:=[.one]
abbrev PR:AE:=[(.obj 0,.own 34 U2),(.obj 1,.box 1),(.cell 1 0,.box 4),(.cell 2 0,.di),(.cell 2 1,.dat U4),(.cell 2 2,.map U0 U0),(.cell 2 3,.dat (.mapi .i64 Um)),(.obj 2,.ptr' 2 0),(.obj 3,.map' 3),(.tmp 0,.own' 0),(.tmp 1,.clo 31 [(1,0)]),(.tmp 5,.di),(.tmp 6,.di)]
abbrev PQ:At:=[(.exit 0,[(.obj 0,.own 34 U2),(.obj 1,.box 1),(.cell 1 0,.box 4),(.cell 2 0,.di),(.cell 2 1,.dat U4),(.cell 2 2,.map U0 U0),(.cell 2 3,.dat (.mapi .i64 Um)),(.obj 2,.ptr' 2 0),(.obj 3,.map' 3),(.tmp 0,.own' 0),(.tmp 5,.di)])]
def J4[Lk]:V0→Option (V0⊕V4⊕Unit):=fun(a0,a1,a2,a3,a4,a5,a6,_)=>
 match(ilt a6 (AG a0))with
 |true=>match idx a0 a6 with|none=>none|some x0=>match OG (a1,a2,a3,a4,((AY a0 (AN a6) (0,(0,()))).1,((AY a0 (AN a6) (0,(0,()))).2.1,())),())with|none=>none|some (y1,y2,y3,y4,y5,_)=>match(!(!y5))with
  |true=>match idx a0 a5 with|none=>none|some x6=>some (.inl ((BB a0 (AN a5) ((AY a0 (AN a6) (0,(0,()))).1,((AY a0 (AN a6) (0,(0,()))).2.1,()))),y1,y2,y3,y4,(IntKind.wrap .i64 (a5+1)),(IntKind.wrap .i64 (a6+1)),()))
  |false=>some (.inl (a0,y1,y2,y3,y4,a5,(IntKind.wrap .i64 (a6+1)),()))
 |false=>some (.inr (.inl (a0,a1,a2,a3,a4,a5,())))
def Lw[Lk]:Vb→Option (V4):=fun(a0,a1,a2,a3,a4,_)=>
 match Le (a0,a1,a2,a3,a4,())with|none=>none|some (y0,y1,y2,y3,y4,y5,_)=>match(ieq y5 (-1:Int))with
 |true=>some (y0,y1,y2,y3,y4,(AG y0),())
 |false=>match AS J4 many (y0,y1,y2,y3,y4,y5,(IntKind.wrap .i64 (y5+1)),())with|none=>none|some r=>match r with
 |.inl (o6,o7,o8,o9,o10,o11,_)=>match Ce o6 o11 (AG o6)with|none=>none|some x12=>match Ce (Bm (AN o11) (AN (AG x12)) (0,(0,())) o6) 0 o11 with|none=>none|some x13=>some ((Bm (AN o11) (AN (AG x12)) (0,(0,())) o6),o7,o8,o9,o10,(((AN (AG x13)):Nat):Int),())
 |.inr _=>none
def Lx[Lk]:=fun v=>Lk.f (Lw v)
theorem AFq v:Lx v=Lw v:=AH _
abbrev ARb:AE:=[(.tmp 0,.dat Ux),(.tmp 1,.di),(.tmp 2,.di)]
abbrev ARa:AE:=[(.tmp 0,.own 34 U2),(.tmp 1,.di)]
abbrev ARZ:List RS:=[.one,.one]
def ARc[Lk]:(Uo×Int×Int×Unit)→Option ((List U1×Int×Unit)):=fun(a0,a1,a2,_)=>
 match seen ((a0.1,(a0.2.1,())),a1,a2,())with|none=>none|some r=>match r with
 |.inl (y0,_)=>match(!(ieq y0 0))with
  |true=>some (([]:List U1),y0,())
  |false=>none
 |.inr r=>match r with
 |.inl (y1,y2,y3,y4,y5,_)=>match(!(ieq y5 0))with
  |true=>some (([]:List U1),y5,())
  |false=>match Hw (y1,y2,y3,y4,())with|none=>none|some (y6,y7,y8,y9,y10,_)=>match ARq (y6,y7,y8,y9,y10,())with|none=>none|some (y11,y12,y13,y14,y15,_)=>match Lx (y15,y11,y12,y13,y14,())with|none=>none|some (y16,y17,y18,y19,y20,y21,_)=>some ((Bp (AN y21) y16),0,())
 |.inr _=>none
def Abx[Lk]:=fun v=>Lk.f (ARc v)
theorem Afb v:Abx v=ARc v:=AH _
abbrev AAH:AE:=[(.tmp 0,.dat Ux),(.tmp 1,.di),(.tmp 2,.di),(.tmp 3,.di)]
abbrev AAG:AE:=[(.tmp 0,.own 34 U2),(.tmp 1,.di)]
abbrev AAF:List RS:=[.one,.one]
def Q8[Lk]:(Uo×Int×Int×Int×Unit)→Option ((List U1×Int×Unit)):=fun(a0,a1,a2,a3,_)=>
 match seen ((a0.1,(a0.2.1,())),a1,a2,())with|none=>none|some r=>match r with
 |.inl (y0,_)=>match(!(ieq y0 0))with
  |true=>some (([]:List U1),y0,())
  |false=>none
 |.inr r=>match r with
 |.inl (y1,y2,y3,y4,y5,_)=>match(!(ieq y5 0))with
  |true=>some (([]:List U1),y5,())
  |false=>match Hw (y1,y2,y3,y4,())with|none=>none|some (y6,y7,y8,y9,y10,_)=>match Ce y10 0 (imax 0 (Ci a3 (AG y10)))with|none=>none|some x11=>match ARq (y6,y7,y8,y9,(DK 0 (AN (AG x11)) y10),())with|none=>none|some (y12,y13,y14,y15,y16,_)=>some (y16,0,())
 |.inr _=>none
def TX[Lk]:=fun v=>Lk.f (Q8 v)
theorem AGU v:TX v=Q8 v:=AH _
abbrev Lh:AE:=[(.tmp 0,.dat Um),(.cap 1 0,.box 4),(.cell 0 0,.di),(.cell 0 1,.dat U4),(.cell 0 2,.map U0 U0),(.cell 0 3,.dat (.mapi .i64 Um)),(.tmp 1,.bndp 32 0)]
abbrev Lg:AE:=[(.obj 0,.box 4),(.cell 0 0,.di),(.cell 0 1,.dat U4),(.cell 0 2,.map U0 U0),(.cell 0 3,.dat (.mapi .i64 Um)),(.obj 1,.map' 1),(.tmp 0,.di)]
abbrev Lf:List RS:=[.one]
abbrev PK:AE:=[(.obj 0,.box 4),(.cell 0 0,.di),(.cell 0 1,.dat U4),(.cell 0 2,.map U0 U0),(.cell 0 3,.dat (.mapi .i64 Um)),(.obj 1,.map' 1),(.tmp 0,.dat Um),(.tmp 1,.bndp 32 0),(.tmp 7,.di),(.tmp 8,.di)]
abbrev PJ:At:=[(.ret,[(.obj 0,.box 4),(.cell 0 0,.di),(.cell 0 1,.dat U4),(.cell 0 2,.map U0 U0),(.cell 0 3,.dat (.mapi .i64 Um)),(.obj 1,.map' 1),(.tmp 4,.di)]),(.exit 0,[(.obj 0,.box 4),(.cell 0 0,.di),(.cell 0 1,.dat U4),(.cell 0 2,.map U0 U0),(.cell 0 3,.dat (.mapi .i64 Um)),(.obj 1,.map' 1)])]
def Jx[Lk]:(Int×List Int×List Uc×List Ub×List U1×Int×Int×Unit)→Option ((Int×List Int×List Uc×List Ub×List U1×Int×Int×Unit)⊕V1⊕(Int×List Int×List Uc×List Ub×Unit)⊕Unit):=fun(a0,a1,a2,a3,a4,a5,a6,_)=>
 match(ilt a6 a5)with
 |true=>match idx a4 a6 with|none=>none|some x0=>match OG (a0,a1,a2,a3,(x0.1,(x0.2.1,())),())with|none=>none|some (y1,y2,y3,y4,y5,_)=>match y5 with
  |true=>some (.inr (.inl (y1,y2,y3,y4,a6,())))
  |false=>some (.inl (y1,y2,y3,y4,a4,a5,(IntKind.wrap .i64 (a6+1)),()))
 |false=>some (.inr (.inr (.inl (a0,a1,a2,a3,()))))
def Lj[Lk]:Vb→Option (V1):=fun(a0,a1,a2,a3,a4,_)=>
 match AS Jx many (a1,a2,a3,a4,a0,(AG a0),0,())with|none=>none|some r=>match r with
 |.inl (o0,o1,o2,o3,o4,_)=>some (o0,o1,o2,o3,o4,())
 |.inr r=>match r with
 |.inl (o5,o6,o7,o8,_)=>some (o5,o6,o7,o8,(-1:Int),())
 |.inr _=>none
def Ll[Lk]:=fun v=>Lk.f (Lj v)
theorem AFi v:Ll v=Lj v:=AH _
abbrev AIl:AE:=[(.tmp 0,.dat Ux),(.tmp 1,.di),(.tmp 2,.di)]
abbrev AIk:AE:=[(.tmp 0,.dat (.prod .bool (.prod U2 U2))),(.tmp 1,.di)]
abbrev AIj:List RS:=[.one,.one]
abbrev AMZ:AE:=[(.tmp 6,.box 5),(.cell 0 0,.dat .bool),(.cell 0 1,.di),(.cell 0 2,.di),(.cell 0 3,.di),(.cell 0 4,.di),(.tmp 8,.box 4),(.cell 1 0,.di),(.cell 1 1,.dat U4),(.cell 1 2,.map U0 U0),(.cell 1 3,.dat (.mapi .i64 Um)),(.tmp 9,.dat U4)]
abbrev AMY:At:=[(.exit 0,[(.tmp 6,.box 5),(.cell 0 0,.dat .bool),(.cell 0 1,.di),(.cell 0 2,.di),(.cell 0 3,.di),(.cell 0 4,.di)])]
def AAD[Lk]:(Bool×Int×Int×Int×Int×Int×List Int×List Uc×List Ub×List Int×Unit)→Option ((Bool×Int×Int×Int×Int×Int×List Int×List Uc×List Ub×List Int×Unit)⊕(Bool×Int×Int×Int×Int×Unit)⊕Unit):=fun(a0,a1,a2,a3,a4,a5,a6,a7,a8,a9,_)=>
 match(!a0)with
 |true=>match(ilt a4 (AG a9))with
  |true=>match shl? .i64 1 (IntKind.wrap .u64 a3)with|none=>none|some x0=>match Ce a9 0 (Ci (AG a9) x0)with|none=>none|some x1=>match ARq (a5,a6,a7,a8,x1,())with|none=>none|some (y2,y3,y4,y5,y6,_)=>match Ll (y6,y2,y3,y4,y5,())with|none=>none|some (y7,y8,y9,y10,y11,_)=>match(ile 0 y11)with
   |true=>match idx y6 y11 with|none=>none|some x12=>some (.inl (true,(AY y6 (AN y11) (0,(0,()))).1,(AY y6 (AN y11) (0,(0,()))).2.1,(IntKind.wrap .i64 (a3+1)),(Ci (AG a9) x0),y7,y8,y9,y10,a9,()))
   |false=>some (.inl (a0,a1,a2,(IntKind.wrap .i64 (a3+1)),(Ci (AG a9) x0),y7,y8,y9,y10,a9,()))
  |false=>some (.inr (.inl (a0,a1,a2,a3,a4,())))
 |false=>some (.inr (.inl (a0,a1,a2,a3,a4,())))
def AIn[Lk]:(Uo×Int×Int×Unit)→Option (((Bool×U1×Int×Int×Unit)×Int×Unit)):=fun(a0,a1,a2,_)=>
 match seen ((a0.1,(a0.2.1,())),a1,a2,())with|none=>none|some r=>match r with
 |.inl (y0,_)=>match(!(ieq y0 0))with
  |true=>some ((false,((0,(0,())),(0,(0,())))),y0,())
  |false=>none
 |.inr r=>match r with
 |.inl (y1,y2,y3,y4,y5,_)=>match(!(ieq y5 0))with
  |true=>some ((false,((0,(0,())),(0,(0,())))),y5,())
  |false=>match Hw (y1,y2,y3,y4,())with|none=>none|some (y6,y7,y8,y9,y10,_)=>match AS AAD many (false,0,0,0,0,y6,y7,y8,y9,y10,())with|none=>none|some r=>match r with
  |.inl (o11,o12,o13,o14,o15,_)=>some ((o11,((o12,(o13,())),(o14,(o15,())))),0,())
  |.inr _=>none
 |.inr _=>none
def AAE[Lk]:=fun v=>Lk.f (AIn v)
theorem Abt v:AAE v=AIn v:=AH _
abbrev Z8:AE:=[(.tmp 0,.dat Ux),(.tmp 1,.di),(.tmp 2,.di),(.tmp 3,.dat (.slice (.int .u32)))]
abbrev Z7:AE:=[(.tmp 0,.dat Un),(.tmp 1,.dat Ua),(.tmp 2,.di)]
abbrev Z6:List RS:=[.one,.one,.one]
abbrev AGS:AE:=[(.tmp 8,.box 3),(.cell 0 0,.own 3 U0),(.cell 0 1,.own 3 U0),(.cell 0 2,.own 43 U4),(.tmp 11,.box 4),(.cell 4 0,.di),(.cell 4 1,.dat U4),(.cell 4 2,.map U0 U0),(.cell 4 3,.dat (.mapi .i64 Um)),(.tmp 12,.own 4 .bool),(.tmp 43,.dat U4),(.tmp 44,.di),(.tmp 45,.di)]
abbrev AGR:At:=[(.exit 0,[(.tmp 8,.box 3),(.cell 0 0,.own 3 U0),(.cell 0 1,.own 3 U0),(.cell 0 2,.own 43 U4),(.tmp 12,.own 4 .bool)])]
def Fh[Lk]:Vi→Option (Vi⊕(List Int×List Int×List U3×List Bool×Unit)⊕Unit):=fun(a0,a1,a2,a3,a4,a5,a6,a7,a8,a9,a10,_)=>
 match(ilt a10 a9)with
 |true=>match idx a8 a10 with|none=>none|some x0=>match Hx (a3,a4,a5,a6,x0,())with|none=>none|some (y1,y2,y3,y4,y5,_)=>match(fits ((AG a7)+(AG ([y5]:List (Bool)))))with
  |true=>some (.inl (a0,a1,a2,y1,y2,y3,y4,(A2 a7 ([y5]:List (Bool))),a8,a9,(IntKind.wrap .i64 (a10+1)),()))
  |false=>none
 |false=>some (.inr (.inl (a0,a1,a2,a7,())))
def Mr[Lk]:(Uo×Int×Int×List Int×Unit)→Option ((Up×List U3×Int×Unit)):=fun(a0,a1,a2,a3,_)=>
 match seen ((a0.1,(a0.2.1,())),a1,a2,())with|none=>none|some r=>match r with
 |.inl (y0,_)=>match(!(ieq y0 0))with
  |true=>some ((([]:List (Int)),(([]:List (Int)),(([]:List U3),()))),([]:List U3),y0,())
  |false=>none
 |.inr r=>match r with
 |.inl (y1,y2,y3,y4,y5,_)=>match(!(ieq y5 0))with
  |true=>some ((([]:List (Int)),(([]:List (Int)),(([]:List U3),()))),([]:List U3),y5,())
  |false=>match KE (y2,a3,())with|none=>none|some (y6,_)=>match OE (y2,y6,())with|none=>none|some (y7,y8,y9,y10,_)=>match AS Fh many (y7,y8,y9,y1,y2,y3,y4,([]:List (Bool)),y2,(AG y2),0,())with|none=>none|some r=>match r with
  |.inl (o11,o12,o13,o14,_)=>match ABS ((o11,(o12,(o13,()))),o14,())with|none=>none|some (y15,y16,_)=>some ((o11,(o12,(o13,()))),y15,y16,())
  |.inr _=>none
 |.inr _=>none
def Pe[Lk]:=fun v=>Lk.f (Mr v)
theorem TW v:Pe v=Mr v:=AH _
abbrev Wc:AE:=[(.tmp 0,.dat U4),(.tmp 1,.dat U4)]
abbrev Wb:AE:=[(.tmp 0,.own 3 U0),(.tmp 1,.own 3 U0),(.tmp 2,.own 43 U4),(.tmp 3,.di)]
abbrev Wa:List RS:=[.agg 3,.one]
abbrev AD3:AE:=[(.tmp 1,.dat U4),(.tmp 4,.box 3),(.cell 0 0,.nil U0),(.cell 0 1,.nil U0),(.cell 0 2,.nil U4),(.tmp 6,.di),(.tmp 8,.box 3),(.cell 1 0,.own 3 U0),(.cell 1 1,.own 3 U0),(.cell 1 2,.own 43 U4),(.tmp 9,.di),(.tmp 10,.own 3 U0),(.tmp 11,.di),(.tmp 12,.di)]
abbrev ADz:At:=[(.exit 6,[(.tmp 1,.dat U4),(.tmp 4,.box 3),(.cell 0 0,.nil U0),(.cell 0 1,.nil U0),(.cell 0 2,.nil U4),(.tmp 6,.di),(.tmp 8,.box 3),(.cell 1 0,.own 3 U0),(.cell 1 1,.own 3 U0),(.cell 1 2,.own 43 U4),(.tmp 9,.di),(.tmp 10,.own 3 U0),(.tmp 11,.di),(.tmp 12,.di)])]
def Ee[Lk]:V6→Option (V6⊕V6⊕Unit):=fun(a0,a1,a2,a3,a4,a5,a6,a7,a8,_)=>
 match rem? (IntKind.wrap .i64 (a5+a8)) a1 with|none=>none|some x0=>match idx a0 x0 with|none=>none|some x1=>match(ile x1 a7)with
 |true=>some (.inl (a0,a1,a2,a3,a4,a5,a6,a7,(IntKind.wrap .i64 (a8+1)),()))
 |false=>some (.inr (.inl (a0,a1,a2,a3,a4,a5,a6,a7,a8,())))
abbrev AD4:AE:=[(.tmp 1,.dat U4),(.tmp 4,.box 3),(.cell 0 0,.nil U0),(.cell 0 1,.nil U0),(.cell 0 2,.nil U4),(.tmp 6,.di),(.tmp 8,.box 3),(.cell 1 0,.own 3 U0),(.cell 1 1,.own 3 U0),(.cell 1 2,.own 43 U4),(.tmp 9,.di),(.tmp 10,.own 3 U0),(.tmp 11,.di)]
abbrev AD0:At:=[(.exit 4,[(.tmp 1,.dat U4),(.tmp 4,.box 3),(.cell 0 0,.nil U0),(.cell 0 1,.nil U0),(.cell 0 2,.nil U4),(.tmp 6,.di),(.tmp 8,.box 3),(.cell 1 0,.own 3 U0),(.cell 1 1,.own 3 U0),(.cell 1 2,.own 43 U4),(.tmp 9,.di),(.tmp 10,.own 3 U0)])]
def Dj[Lk]:(List Int×Int×List Int×List Int×List U3×Int×List Int×Int×Unit)→Option ((List Int×Int×List Int×List Int×List U3×Int×List Int×Int×Unit)⊕(List Int×Int×List Int×List Int×List U3×Int×List Int×Unit)⊕Unit):=fun(a0,a1,a2,a3,a4,a5,a6,a7,_)=>
 match idx a0 a5 with|none=>none|some x0=>match(ilt a7 x0)with
 |true=>match AS Ee many (a0,a1,a2,a3,a4,a5,a6,a7,1,())with|none=>none|some r=>match r with
  |.inl (o1,o2,o3,o4,o5,o6,o7,o8,o9,_)=>match rem? (IntKind.wrap .i64 (o6+o9)) o2 with|none=>none|some x10=>match(fits ((AG o7)+(AG ([x10]:List (Int)))))with
   |true=>some (.inl (o1,o2,o3,o4,o5,o6,(A2 o7 ([x10]:List (Int))),(IntKind.wrap .i64 (o8+1)),()))
   |false=>none
  |.inr _=>none
 |false=>some (.inr (.inl (a0,a1,a2,a3,a4,a5,a6,())))
abbrev AD5:AE:=[(.tmp 1,.dat U4),(.tmp 4,.box 3),(.cell 0 0,.nil U0),(.cell 0 1,.nil U0),(.cell 0 2,.nil U4),(.tmp 6,.di),(.tmp 8,.box 3),(.cell 1 0,.own 3 U0),(.cell 1 1,.own 3 U0),(.cell 1 2,.own 43 U4),(.tmp 9,.di)]
abbrev AD1:At:=[(.exit 2,[(.tmp 4,.box 3),(.cell 0 0,.nil U0),(.cell 0 1,.nil U0),(.cell 0 2,.nil U4),(.tmp 8,.box 3),(.cell 1 0,.own 3 U0),(.cell 1 1,.own 3 U0),(.cell 1 2,.own 43 U4)])]
def Ef[Lk]:(List Int×Int×List Int×List Int×List U3×Int×Unit)→Option ((List Int×Int×List Int×List Int×List U3×Int×Unit)⊕(List Int×List Int×List U3×Unit)⊕Unit):=fun(a0,a1,a2,a3,a4,a5,_)=>
 match(ilt a5 a1)with
 |true=>match AS Dj many (a0,a1,a2,a3,a4,a5,([]:List (Int)),0,())with|none=>none|some r=>match r with
  |.inl (o0,o1,o2,o3,o4,o5,o6,_)=>match(fits ((AG o4)+(AG ([o6]:List U3))))with
   |true=>some (.inl (o0,o1,o2,o3,(A2 o4 ([o6]:List U3)),(IntKind.wrap .i64 (o5+1)),()))
   |false=>none
  |.inr _=>none
 |false=>some (.inr (.inl (a2,a3,a4,())))
abbrev AD6:AE:=[(.tmp 0,.dat U4),(.tmp 1,.dat U4),(.tmp 4,.box 3),(.cell 0 0,.nil U0),(.cell 0 1,.nil U0),(.cell 0 2,.nil U4),(.tmp 6,.di),(.tmp 7,.di)]
abbrev AD2:At:=[(.ret,[(.tmp 4,.box 3),(.cell 0 0,.nil U0),(.cell 0 1,.nil U0),(.cell 0 2,.nil U4),(.tmp 5,.di)]),(.exit 0,[(.tmp 0,.dat U4),(.tmp 1,.dat U4),(.tmp 4,.box 3),(.cell 0 0,.nil U0),(.cell 0 1,.nil U0),(.cell 0 2,.nil U4),(.tmp 6,.di)])]
def Eg[Lk]:Vg→Option (Vg⊕U8⊕(List Int×List Int×Int×Unit)⊕Unit):=fun(a0,a1,a2,a3,_)=>
 match(ilt a3 a2)with
 |true=>match idx a1 a3 with|none=>none|some x0=>match(ilt x0 1)with
  |true=>some (.inr (.inl (1,())))
  |false=>match idx a1 a3 with|none=>none|some x1=>match(ilt 8 x1)with
  |true=>some (.inr (.inl (1,())))
  |false=>some (.inl (a0,a1,a2,(IntKind.wrap .i64 (a3+1)),()))
 |false=>some (.inr (.inr (.inl (a0,a1,a2,()))))
def Ol[Lk]:V9→Option ((List Int×List Int×List U3×Int×Unit)):=fun(a0,a1,_)=>
 match HN (a0,())with|none=>none|some (y0,_)=>match(!y0)with
 |true=>some (([]:List (Int)),([]:List (Int)),([]:List U3),1,())
 |false=>match(ieq (AG a0) 0)with
 |true=>some (([]:List (Int)),([]:List (Int)),([]:List U3),1,())
 |false=>match(!(ieq (AG a1) (AG a0)))with
 |true=>some (([]:List (Int)),([]:List (Int)),([]:List U3),1,())
 |false=>match AS Eg many (a0,a1,(AG a0),0,())with|none=>none|some r=>match r with
 |.inl (o1,_)=>some (([]:List (Int)),([]:List (Int)),([]:List U3),o1,())
 |.inr r=>match r with
 |.inl (o2,o3,o4,_)=>match(fits ((AG ([]:List (Int)))+(AG o2)))with
  |true=>match(fits ((AG ([]:List (Int)))+(AG o3)))with
   |true=>match AS Ef many (o3,o4,(A2 ([]:List (Int)) o2),(A2 ([]:List (Int)) o3),([]:List U3),0,())with|none=>none|some r=>match r with
    |.inl (o5,o6,o7,_)=>some (o5,o6,o7,0,())
    |.inr _=>none
   |false=>none
  |false=>none
 |.inr _=>none
def SZ[Lk]:=fun v=>Lk.f (Ol v)
theorem AD7 v:SZ v=Ol v:=AH _
abbrev AAa:AE:=[(.tmp 0,.dat Un),(.tmp 1,.dat Un)]
abbrev AAZ:AE:=[(.tmp 0,.dat .bool)]
abbrev AAY:List RS:=[.one]
def RJ[Lk]:(Up×Up×Unit)→Option (Uf):=fun(a0,a1,_)=>
 match IL (a0.1,a1.1,())with|none=>none|some (y0,_)=>match y0 with
 |true=>match IL (a0.2.1,a1.2.1,())with|none=>none|some (y1,_)=>match y1 with
  |true=>match LQ (a0.2.2.1,a1.2.2.1,())with|none=>none|some (y2,_)=>some (y2,())
  |false=>some (false,())
 |false=>some (false,())
def AAb[Lk]:=fun v=>Lk.f (RJ v)
theorem AGh v:AAb v=RJ v:=AH _
abbrev Tn:AE:=[(.tmp 0,.dat Un)]
abbrev Tm:AE:=[(.tmp 0,.dat .bool)]
abbrev Tl:List RS:=[.one]
def OL[Lk]:(Up×Unit)→Option (Uf):=fun(a0,_)=>
 match SZ (a0.1,a0.2.1,())with|none=>none|some (y0,y1,y2,y3,_)=>match(ieq y3 0)with
 |true=>match AAb ((y0,(y1,(y2,()))),(a0.1,(a0.2.1,(a0.2.2.1,()))),())with|none=>none|some (y4,_)=>some (y4,())
 |false=>some (false,())
def RU[Lk]:=fun v=>Lk.f (OL v)
theorem AAw v:RU v=OL v:=AH _
abbrev AKG:AE:=[(.tmp 0,.di)]
abbrev AKF:AE:=[(.tmp 0,.dat .bool)]
abbrev AKE:List RS:=[.one]
def ZA[Lk]:U8→Option (Uf):=fun(a0,_)=>
 match(ile (-1073741824:Int) a0)with
 |true=>some ((ile a0 1073741824),())
 |false=>some (false,())
def AOp[Lk]:=fun v=>Lk.f (ZA v)
theorem AOo v:AOp v=ZA v:=AH _
abbrev WZ:AE:=[(.tmp 0,.dat Un),(.tmp 1,.dat U4)]
abbrev WY:AE:=[(.tmp 0,.own 43 U4),(.tmp 1,.di)]
abbrev WX:List RS:=[.one,.one]
abbrev ADu:AE:=[(.tmp 1,.dat U4),(.tmp 2,.box 3),(.cell 0 0,.dat U4),(.cell 0 1,.dat U4),(.cell 0 2,.dat Ua),(.tmp 6,.di),(.tmp 8,.own 43 U4),(.tmp 9,.di),(.tmp 10,.own 3 U0),(.tmp 11,.di),(.tmp 12,.di),(.tmp 13,.di)]
abbrev ADq:At:=[(.exit 6,[(.tmp 1,.dat U4),(.tmp 2,.box 3),(.cell 0 0,.dat U4),(.cell 0 1,.dat U4),(.cell 0 2,.dat Ua),(.tmp 6,.di),(.tmp 8,.own 43 U4),(.tmp 9,.di),(.tmp 10,.own 3 U0),(.tmp 11,.di),(.tmp 12,.di)])]
def Eb[Lk]:Vl→Option (Vl⊕(List Int×List Int×List Int×List U3×Int×List U3×Int×List Int×Int×Int×Unit)⊕Unit):=fun(a0,a1,a2,a3,a4,a5,a6,a7,a8,a9,a10,_)=>
 match idx a3 a6 with|none=>none|some x0=>match idx x0 a8 with|none=>none|some x1=>match(!(ieq a10 x1))with
 |true=>match idx a0 a10 with|none=>none|some x2=>match rem? (IntKind.wrap .i64 (a10+1)) a4 with|none=>none|some x3=>some (.inl (a0,a1,a2,a3,a4,a5,a6,a7,a8,(IntKind.wrap .i64 (a9+x2)),x3,()))
 |false=>some (.inr (.inl (a0,a1,a2,a3,a4,a5,a6,a7,a8,a9,())))
abbrev ADv:AE:=[(.tmp 1,.dat U4),(.tmp 2,.box 3),(.cell 0 0,.dat U4),(.cell 0 1,.dat U4),(.cell 0 2,.dat Ua),(.tmp 6,.di),(.tmp 8,.own 43 U4),(.tmp 9,.di),(.tmp 10,.own 3 U0),(.tmp 11,.di)]
abbrev ADr:At:=[(.exit 4,[(.tmp 1,.dat U4),(.tmp 2,.box 3),(.cell 0 0,.dat U4),(.cell 0 1,.dat U4),(.cell 0 2,.dat Ua),(.tmp 6,.di),(.tmp 8,.own 43 U4),(.tmp 9,.di),(.tmp 10,.own 3 U0)])]
def Di[Lk]:(List Int×List Int×List Int×List U3×Int×List U3×Int×List Int×Int×Unit)→Option ((List Int×List Int×List Int×List U3×Int×List U3×Int×List Int×Int×Unit)⊕(List Int×List Int×List Int×List U3×Int×List U3×Int×List Int×Unit)⊕Unit):=fun(a0,a1,a2,a3,a4,a5,a6,a7,a8,_)=>
 match idx a3 a6 with|none=>none|some x0=>match(ilt a8 (AG x0))with
 |true=>match idx a0 a6 with|none=>none|some x1=>match rem? (IntKind.wrap .i64 (a6+1)) a4 with|none=>none|some x2=>match AS Eb many (a0,a1,a2,a3,a4,a5,a6,a7,a8,x1,x2,())with|none=>none|some r=>match r with
  |.inl (o3,o4,o5,o6,o7,o8,o9,o10,o11,o12,_)=>match(fits ((AG o10)+(AG ([o12]:List (Int)))))with
   |true=>some (.inl (o3,o4,o5,o6,o7,o8,o9,(A2 o10 ([o12]:List (Int))),(IntKind.wrap .i64 (o11+1)),()))
   |false=>none
  |.inr _=>none
 |false=>some (.inr (.inl (a0,a1,a2,a3,a4,a5,a6,a7,())))
abbrev ADw:AE:=[(.tmp 1,.dat U4),(.tmp 2,.box 3),(.cell 0 0,.dat U4),(.cell 0 1,.dat U4),(.cell 0 2,.dat Ua),(.tmp 6,.di),(.tmp 8,.own 43 U4),(.tmp 9,.di)]
abbrev ADs:At:=[(.exit 2,[(.tmp 8,.own 43 U4)])]
def Ec[Lk]:(List Int×List Int×List Int×List U3×Int×List U3×Int×Unit)→Option ((List Int×List Int×List Int×List U3×Int×List U3×Int×Unit)⊕Uj⊕Unit):=fun(a0,a1,a2,a3,a4,a5,a6,_)=>
 match(ilt a6 a4)with
 |true=>match AS Di many (a0,a1,a2,a3,a4,a5,a6,([]:List (Int)),0,())with|none=>none|some r=>match r with
  |.inl (o0,o1,o2,o3,o4,o5,o6,o7,_)=>match(fits ((AG o5)+(AG ([o7]:List U3))))with
   |true=>some (.inl (o0,o1,o2,o3,o4,(A2 o5 ([o7]:List U3)),(IntKind.wrap .i64 (o6+1)),()))
   |false=>none
  |.inr _=>none
 |false=>some (.inr (.inl (a5,())))
abbrev ADx:AE:=[(.tmp 1,.dat U4),(.tmp 2,.box 3),(.cell 0 0,.dat U4),(.cell 0 1,.dat U4),(.cell 0 2,.dat Ua),(.tmp 6,.di),(.tmp 7,.di)]
abbrev ADt:At:=[(.ret,[(.tmp 4,.nil U4),(.tmp 5,.di)]),(.exit 0,[(.tmp 1,.dat U4),(.tmp 2,.box 3),(.cell 0 0,.dat U4),(.cell 0 1,.dat U4),(.cell 0 2,.dat Ua),(.tmp 6,.di)])]
def Ed[Lk]:(List Int×List Int×List Int×List U3×Int×Int×Unit)→Option ((List Int×List Int×List Int×List U3×Int×Int×Unit)⊕U8⊕(List Int×List Int×List Int×List U3×Int×Unit)⊕Unit):=fun(a0,a1,a2,a3,a4,a5,_)=>
 match(ilt a5 a4)with
 |true=>match idx a0 a5 with|none=>none|some x0=>match AOp (x0,())with|none=>none|some (y1,_)=>match(!y1)with
  |true=>some (.inr (.inl (1,())))
  |false=>some (.inl (a0,a1,a2,a3,a4,(IntKind.wrap .i64 (a5+1)),()))
 |false=>some (.inr (.inr (.inl (a0,a1,a2,a3,a4,()))))
def Oj[Lk]:(Up×List Int×Unit)→Option (V7):=fun(a0,a1,_)=>
 match RU ((a0.1,(a0.2.1,(a0.2.2.1,()))),())with|none=>none|some (y0,_)=>match(!y0)with
 |true=>some (([]:List U3),1,())
 |false=>match(!(ieq (AG a1) (AG a0.1)))with
 |true=>some (([]:List U3),1,())
 |false=>match AS Ed many (a1,a0.1,a0.2.1,a0.2.2.1,(AG a0.1),0,())with|none=>none|some r=>match r with
 |.inl (o1,_)=>some (([]:List U3),o1,())
 |.inr r=>match r with
 |.inl (o2,o3,o4,o5,o6,_)=>match AS Ec many (o2,o3,o4,o5,o6,([]:List U3),0,())with|none=>none|some r=>match r with
  |.inl (o7,_)=>some (o7,0,())
  |.inr _=>none
 |.inr _=>none
def SY[Lk]:=fun v=>Lk.f (Oj v)
theorem ADy v:SY v=Oj v:=AH _
abbrev Mh:AE:=[(.tmp 0,.dat Un),(.tmp 1,.dat Ua)]
abbrev Mg:AE:=[(.tmp 0,.dat U4)]
abbrev Mf:List RS:=[.one]
abbrev Qt:AE:=[(.tmp 1,.dat Ua),(.tmp 2,.box 3),(.cell 0 0,.dat U4),(.cell 0 1,.dat U4),(.cell 0 2,.dat Ua),(.tmp 5,.own 3 U0),(.tmp 6,.di)]
abbrev Qs:At:=[(.ret,[(.tmp 4,.nil U0)]),(.exit 0,[(.tmp 1,.dat Ua),(.tmp 2,.box 3),(.cell 0 0,.dat U4),(.cell 0 1,.dat U4),(.cell 0 2,.dat Ua),(.tmp 5,.own 3 U0)])]
def Cx[Lk]:(List U3×List Int×List Int×List U3×List Int×Int×Unit)→Option ((List U3×List Int×List Int×List U3×List Int×Int×Unit)⊕(Unit)⊕(List U3×List Int×List Int×List U3×List Int×Unit)⊕Unit):=fun(a0,a1,a2,a3,a4,a5,_)=>
 match(ilt a5 (AG a0))with
 |true=>match idx a0 a5 with|none=>none|some x0=>match(ieq (AG x0) 0)with
  |true=>some (.inr (.inl ()))
  |false=>match idx a0 a5 with|none=>none|some x1=>match idx x1 0 with|none=>none|some x2=>match(fits ((AG a4)+(AG ([x2]:List (Int)))))with
  |true=>some (.inl (a0,a1,a2,a3,(A2 a4 ([x2]:List (Int))),(IntKind.wrap .i64 (a5+1)),()))
  |false=>none
 |false=>some (.inr (.inr (.inl (a0,a1,a2,a3,a4,()))))
def Iv[Lk]:(Up×List U3×Unit)→Option (Ul):=fun(a0,a1,_)=>
 match AS Cx many (a1,a0.1,a0.2.1,a0.2.2.1,([]:List (Int)),0,())with|none=>none|some r=>match r with
 |.inl _=>some (([]:List (Int)),())
 |.inr r=>match r with
 |.inl (o0,o1,o2,o3,o4,_)=>match SY ((o1,(o2,(o3,()))),o4,())with|none=>none|some (y5,y6,_)=>match(!(ieq y6 0))with
  |true=>some (([]:List (Int)),())
  |false=>match LQ (y5,o0,())with|none=>none|some (y7,_)=>match(!y7)with
  |true=>some (([]:List (Int)),())
  |false=>some (o4,())
 |.inr _=>none
def KD[Lk]:=fun v=>Lk.f (Iv v)
theorem Qu v:KD v=Iv v:=AH _
abbrev Tj:AE:=[(.tmp 0,.dat Un),(.tmp 1,.dat Ua)]
abbrev Ti:AE:=[(.tmp 0,.dat .bool)]
abbrev Th:List RS:=[.one]
abbrev AAu:AE:=[(.tmp 5,.dat U4),(.tmp 6,.di)]
abbrev AAt:At:=[(.ret,[(.tmp 4,.dat .bool)]),(.exit 0,[(.tmp 5,.dat U4)])]
def ER[Lk]:Us→Option (Us⊕Uf⊕Ul⊕Unit):=fun(a0,a1,_)=>
 match(ilt a1 (AG a0))with
 |true=>match idx a0 a1 with|none=>none|some x0=>match(!(ieq x0 0))with
  |true=>match idx a0 a1 with|none=>none|some x1=>match(!(ieq x1 1))with
   |true=>some (.inr (.inl (false,())))
   |false=>some (.inl (a0,(IntKind.wrap .i64 (a1+1)),()))
  |false=>some (.inl (a0,(IntKind.wrap .i64 (a1+1)),()))
 |false=>some (.inr (.inr (.inl (a0,()))))
def OK[Lk]:(Up×List U3×Unit)→Option (Uf):=fun(a0,a1,_)=>
 match KD ((a0.1,(a0.2.1,(a0.2.2.1,()))),a1,())with|none=>none|some (y0,_)=>match AS ER many (y0,0,())with|none=>none|some r=>match r with
 |.inl (o1,_)=>some (o1,())
 |.inr r=>match r with
 |.inl (o2,_)=>some ((ilt 0 (AG o2)),())
 |.inr _=>none
def RT[Lk]:=fun v=>Lk.f (OK v)
theorem AAv v:RT v=OK v:=AH _
abbrev Vv:AE:=[(.tmp 0,.dat Un),(.tmp 1,.dat Ua),(.tmp 2,.di),(.tmp 3,.di)]
abbrev Vu:AE:=[(.tmp 0,.own 3 U0),(.tmp 1,.di)]
abbrev Vt:List RS:=[.one,.one]
abbrev ADA:AE:=[(.tmp 1,.dat Ua),(.tmp 2,.di),(.tmp 3,.di),(.tmp 10,.di),(.tmp 11,.own 3 U0),(.tmp 12,.di)]
abbrev AC9:At:=[(.exit 0,[(.tmp 11,.own 3 U0)])]
def De[Lk]:(List U3×Int×Int×Int×List Int×Int×Unit)→Option ((List U3×Int×Int×Int×List Int×Int×Unit)⊕Ul⊕Unit):=fun(a0,a1,a2,a3,a4,a5,_)=>
 match(ilt a5 a3)with
 |true=>match(ilt (AG a4) a2)with
  |true=>match rem? (IntKind.wrap .i64 (a1+a5)) a3 with|none=>none|some x0=>match idx a0 x0 with|none=>none|some x1=>match idx x1 0 with|none=>none|some x2=>match(ieq x2 1)with
   |true=>match(fits ((AG a4)+(AG ([x0]:List (Int)))))with
    |true=>some (.inl (a0,a1,a2,a3,(A2 a4 ([x0]:List (Int))),(IntKind.wrap .i64 (a5+1)),()))
    |false=>none
   |false=>some (.inl (a0,a1,a2,a3,a4,(IntKind.wrap .i64 (a5+1)),()))
  |false=>some (.inr (.inl (a4,())))
 |false=>some (.inr (.inl (a4,())))
def Oa[Lk]:(Up×List U3×Int×Int×Unit)→Option (Us):=fun(a0,a1,a2,a3,_)=>
 match RT ((a0.1,(a0.2.1,(a0.2.2.1,()))),a1,())with|none=>none|some (y0,_)=>match(!y0)with
 |true=>some (([]:List (Int)),1,())
 |false=>match(ilt a2 0)with
 |true=>some (([]:List (Int)),6,())
 |false=>match(ile (AG a0.1) a2)with
 |true=>some (([]:List (Int)),6,())
 |false=>match AS De many (a1,a2,a3,(AG a0.1),([]:List (Int)),0,())with|none=>none|some r=>match r with
 |.inl (o1,_)=>some (o1,0,())
 |.inr _=>none
def Oc[Lk]:=fun v=>Lk.f (Oa v)
theorem ADB v:Oc v=Oa v:=AH _
def On[Lk]:(Uo×Int×Unit)→Option (U8):=fun(a0,a1,_)=>
 match HM ((a0.1,(a0.2.1,())),())with|none=>none|some (y0,_)=>match(!y0)with
 |true=>some (1,())
 |false=>match(ilt a1 0)with
 |true=>some (10,())
 |false=>match(ile a0.1 a1)with
 |true=>some (10,())
 |false=>some (0,())
def ZI[Lk]:=fun v=>Lk.f (On v)
theorem AEK v:ZI v=On v:=AH _
def Z3[Lk]:(Uo×Int×Int×Unit)→Option (Ul):=fun(a0,a1,a2,_)=>
 match AC5 ((a0.1,(a0.2.1,())),a2,())with|none=>none|some (y0,y1,_)=>match AiE ((y0.1,(y0.2.1,())),a1,())with|none=>none|some (y2,_)=>match(ilt y2 0)with
 |true=>some (([]:List (Int)),())
 |false=>match idx y0.2.1 y2 with|none=>none|some x3=>some (x3,())
def ARD[Lk]:=fun v=>Lk.f (Z3 v)
theorem AXs v:ARD v=Z3 v:=AH _
abbrev Wi:AE:=[]
abbrev Wh:AE:=[(.tmp 0,.dat .bool)]
abbrev Wg:List RS:=[.one]
def Wj[Lk]:(Unit)→Option (Uf):=fun _=>
 match AAE ((5,(([(0,(1,(0,(true,())))),(0,(2,(0,(true,())))),(1,(2,(0,(false,())))),(1,(3,(0,(false,()))))]:List U5),())),2,0,())with|none=>none|some (y0,y1,_)=>match AAE ((5,(([(0,(1,(0,(true,())))),(0,(2,(0,(true,())))),(1,(2,(0,(false,())))),(1,(3,(0,(false,()))))]:List U5),())),3,0,())with|none=>none|some (y2,y3,_)=>match AAE ((5,(([(0,(1,(0,(true,())))),(0,(2,(0,(true,())))),(1,(2,(0,(false,())))),(1,(3,(0,(false,()))))]:List U5),())),4,0,())with|none=>none|some (y4,y5,_)=>match Abx ((5,(([(0,(1,(0,(true,())))),(0,(2,(0,(true,())))),(1,(2,(0,(false,())))),(1,(3,(0,(false,()))))]:List U5),())),0,0,())with|none=>none|some (y6,y7,_)=>match TX ((5,(([(0,(1,(0,(true,())))),(0,(2,(0,(true,())))),(1,(2,(0,(false,())))),(1,(3,(0,(false,()))))]:List U5),())),0,0,1,())with|none=>none|some (y8,y9,_)=>match Pe ((5,(([(0,(1,(0,(true,())))),(0,(2,(0,(true,())))),(1,(2,(0,(false,())))),(1,(3,(0,(false,()))))]:List U5),())),1,0,([1]:List (Int)),())with|none=>none|some (y10,y11,y12,_)=>match AAE ((5,(([(0,(1,(0,(true,())))),(0,(2,(0,(true,())))),(1,(2,(0,(false,())))),(1,(3,(0,(false,()))))]:List U5),())),5,0,())with|none=>none|some (y13,y14,_)=>match Abx ((0,(([]:List U5),())),0,0,())with|none=>none|some (y15,y16,_)=>match(!(ieq y1 0))with
 |true=>some (false,())
 |false=>match(!(ieq y3 0))with
 |true=>some (false,())
 |false=>match(!(ieq y5 0))with
 |true=>some (false,())
 |false=>match(!(ieq y7 0))with
 |true=>some (false,())
 |false=>match(!(ieq y9 0))with
 |true=>some (false,())
 |false=>match(!(ieq y12 0))with
 |true=>some (false,())
 |false=>match(!(ieq y14 10))with
 |true=>some (false,())
 |false=>match(!(ieq y16 1))with
 |true=>some (false,())
 |false=>match(!(ieq (AG y11) 7))with
 |true=>some (false,())
 |false=>match((y0.1==true)&&(ieq y0.2.1.1 1&&(ieq y0.2.1.2.1 3&&(ieq y0.2.2.1 2&&(ieq y0.2.2.2.1 2&&true)))))with
 |true=>match((y2.1==true)&&(ieq y2.2.1.1 1&&(ieq y2.2.1.2.1 3&&(ieq y2.2.2.1 1&&(ieq y2.2.2.2.1 1&&true)))))with
  |true=>match((y4.1==false)&&(ieq y4.2.1.1 0&&(ieq y4.2.1.2.1 0&&(ieq y4.2.2.1 0&&(ieq y4.2.2.2.1 0&&true)))))with
   |true=>match Pt (y6,([(1,(3,()))]:List U1),())with|none=>none|some (y17,_)=>match y17 with
    |true=>match Pt (y8,([(1,(2,()))]:List U1),())with|none=>none|some (y18,_)=>match y18 with
     |true=>match IL (y10.1,([0,7,2,15,6,1,10]:List (Int)),())with|none=>none|some (y19,_)=>match y19 with
      |true=>match idx y11 2 with|none=>none|some x20=>match IL (x20,([1]:List (Int)),())with|none=>none|some (y21,_)=>match y21 with
       |true=>match idx y11 5 with|none=>none|some x22=>match IL (x22,([1]:List (Int)),())with|none=>none|some (y23,_)=>match y23 with
        |true=>match idx y11 0 with|none=>none|some x24=>match IL (x24,([0]:List (Int)),())with|none=>none|some (y25,_)=>some (y25,())
        |false=>some (false,())
       |false=>some (false,())
      |false=>some (false,())
     |false=>some (false,())
    |false=>some (false,())
   |false=>some (false,())
  |false=>some (false,())
 |false=>some (false,())
def JS[Lk]:=fun v=>Lk.f (Wj v)
theorem AVd v:JS v=Wj v:=AH _
abbrev Vp:AE:=[(.tmp 0,.dat Ux)]
abbrev Vo:AE:=[(.tmp 0,.dat .bool)]
abbrev VZ:List RS:=[.one]
def OY[Lk]:(Uo×Unit)→Option (Uf):=fun(a0,_)=>
 match(ilt 30 (AG a0.2.1))with
 |true=>some (true,())
 |false=>some ((ilt 12 a0.1),())
def OZ[Lk]:=fun v=>Lk.f (OY v)
theorem ACw v:OZ v=OY v:=AH _
abbrev Jf:AE:=[(.tmp 0,.dat Ux),(.tmp 1,.dat (.arr 2 U0)),(.tmp 2,.dat (.slice (.int .u32)))]
abbrev Je:AE:=[(.tmp 0,.dat .bool)]
abbrev Jd:List RS:=[.one]
abbrev Mw:AE:=[(.tmp 3,.box 2),(.cell 0 0,.di),(.cell 0 1,.dat U9),(.tmp 4,.box 2),(.cell 1 0,.di),(.cell 1 1,.di),(.tmp 7,.box 3),(.cell 2 0,.dat U4),(.cell 2 1,.dat U4),(.cell 2 2,.dat Ua),(.tmp 8,.dat Ua),(.tmp 10,.di),(.tmp 11,.own 3 U0),(.tmp 13,.own 34 U2),(.tmp 15,.own 34 U2),(.tmp 16,.di),(.tmp 17,.box 4),(.cell 6 0,.di),(.cell 6 1,.di),(.cell 6 2,.di),(.cell 6 3,.dat .bool),(.tmp 18,.dat .bool),(.tmp 19,.di),(.tmp 70,.di),(.tmp 71,.dat .bool)]
abbrev Mt:At:=[(.exit 4,[(.tmp 3,.box 2),(.cell 0 0,.di),(.cell 0 1,.dat U9),(.tmp 4,.box 2),(.cell 1 0,.di),(.cell 1 1,.di),(.tmp 7,.box 3),(.cell 2 0,.dat U4),(.cell 2 1,.dat U4),(.cell 2 2,.dat Ua),(.tmp 8,.dat Ua),(.tmp 10,.di),(.tmp 11,.own 3 U0),(.tmp 13,.own 34 U2),(.tmp 15,.own 34 U2),(.tmp 16,.di),(.tmp 17,.box 4),(.cell 6 0,.di),(.cell 6 1,.di),(.cell 6 2,.di),(.cell 6 3,.dat .bool),(.tmp 18,.dat .bool),(.tmp 70,.di),(.tmp 71,.dat .bool)])]
def Bx[Lk]:V5→Option (V5⊕(Int×List U5×Int×Int×List Int×List Int×List U3×List U3×Int×List Int×List U1×List U1×Int×Int×Int×Int×Bool×Bool×Int×Bool×Unit)⊕Unit):=fun(a0,a1,a2,a3,a4,a5,a6,a7,a8,a9,a10,a11,a12,a13,a14,a15,a16,a17,a18,a19,a20,_)=>
 match(ilt a18 (AG a9))with
 |true=>match a17 with
  |true=>some (.inl (a0,a1,a2,a3,a4,a5,a6,a7,a8,a9,a10,a11,a12,a13,a14,a15,a16,true,(IntKind.wrap .i64 (a18+1)),a19,a20,()))
  |false=>match idx a9 a18 with|none=>none|some x0=>match idx a4 (AY a9 (AN a18) 0)with|none=>none|some x1=>match(ieq x1 a13)with
  |true=>some (.inl (a0,a1,a2,a3,a4,a5,a6,a7,a8,a9,a10,a11,a12,a13,a14,a15,a16,true,(IntKind.wrap .i64 (a18+1)),a19,a20,()))
  |false=>match idx a9 a18 with|none=>none|some x2=>match idx a4 (AY a9 (AN a18) 0)with|none=>none|some x3=>some (.inl (a0,a1,a2,a3,a4,a5,a6,a7,a8,a9,a10,a11,a12,a13,a14,a15,a16,(ieq x3 a14),(IntKind.wrap .i64 (a18+1)),a19,a20,()))
 |false=>some (.inr (.inl (a0,a1,a2,a3,a4,a5,a6,a7,a8,a9,a10,a11,a12,a13,a14,a15,a16,a17,a19,a20,())))
abbrev Mx:AE:=[(.tmp 3,.box 2),(.cell 0 0,.di),(.cell 0 1,.dat U9),(.tmp 4,.box 2),(.cell 1 0,.di),(.cell 1 1,.di),(.tmp 7,.box 3),(.cell 2 0,.dat U4),(.cell 2 1,.dat U4),(.cell 2 2,.dat Ua),(.tmp 8,.dat Ua),(.tmp 10,.di),(.tmp 11,.own 3 U0),(.tmp 13,.own 34 U2),(.tmp 15,.own 34 U2),(.tmp 16,.di),(.tmp 70,.di),(.tmp 71,.dat .bool)]
abbrev Mu:At:=[(.exit 2,[(.tmp 3,.box 2),(.cell 0 0,.di),(.cell 0 1,.dat U9),(.tmp 4,.box 2),(.cell 1 0,.di),(.cell 1 1,.di),(.tmp 7,.box 3),(.cell 2 0,.dat U4),(.cell 2 1,.dat U4),(.cell 2 2,.dat Ua),(.tmp 8,.dat Ua),(.tmp 10,.di),(.tmp 13,.own 34 U2),(.tmp 15,.own 34 U2),(.tmp 70,.di),(.tmp 71,.dat .bool)])]
def By[Lk]:Ve→Option (Ve⊕(Int×List U5×Int×Int×List Int×List Int×List U3×List U3×Int×List U1×List U1×Int×Bool×Unit)⊕Unit):=fun(a0,a1,a2,a3,a4,a5,a6,a7,a8,a9,a10,a11,a12,a13,a14,_)=>
 match(ilt a12 (AG a1))with
 |true=>match idx a1 a12 with|none=>none|some x0=>match AS Bx many (a0,a1,a2,a3,a4,a5,a6,a7,a8,a9,a10,a11,a12,x0.1,x0.2.1,x0.2.2.1,x0.2.2.2.1,false,0,a13,a14,())with|none=>none|some r=>match r with
  |.inl (o1,o2,o3,o4,o5,o6,o7,o8,o9,o10,o11,o12,o13,o14,o15,o16,o17,o18,o19,o20,_)=>match o18 with
   |true=>match(!o17)with
    |true=>match(ieq o16 o4)with
     |true=>match(fits ((AG o12)+(AG ([(o14,(o15,()))]:List U1))))with
      |true=>some (.inl (o1,o2,o3,o4,o5,o6,o7,o8,o9,o10,o11,(A2 o12 ([(o14,(o15,()))]:List U1)),(IntKind.wrap .i64 (o13+1)),o19,o20,()))
      |false=>none
     |false=>some (.inl (o1,o2,o3,o4,o5,o6,o7,o8,o9,o10,o11,o12,(IntKind.wrap .i64 (o13+1)),o19,o20,()))
    |false=>some (.inl (o1,o2,o3,o4,o5,o6,o7,o8,o9,o10,o11,o12,(IntKind.wrap .i64 (o13+1)),o19,o20,()))
   |false=>some (.inl (o1,o2,o3,o4,o5,o6,o7,o8,o9,o10,o11,o12,(IntKind.wrap .i64 (o13+1)),o19,o20,()))
  |.inr _=>none
 |false=>some (.inr (.inl (a0,a1,a2,a3,a4,a5,a6,a7,a8,a10,a11,a13,a14,())))
abbrev My:AE:=[(.tmp 3,.box 2),(.cell 0 0,.di),(.cell 0 1,.dat U9),(.tmp 4,.box 2),(.cell 1 0,.di),(.cell 1 1,.di),(.tmp 7,.box 3),(.cell 2 0,.dat U4),(.cell 2 1,.dat U4),(.cell 2 2,.dat Ua),(.tmp 8,.dat Ua),(.tmp 10,.di)]
abbrev Mv:At:=[(.ret,[(.tmp 6,.dat .bool)]),(.exit 0,[])]
def CN[Lk]:(Int×List U5×Int×Int×List Int×List Int×List U3×List U3×Int×Unit)→Option ((Int×List U5×Int×Int×List Int×List Int×List U3×List U3×Int×Unit)⊕Uf⊕(Unit)⊕Unit):=fun(a0,a1,a2,a3,a4,a5,a6,a7,a8,_)=>
 match(ilt a8 13)with
 |true=>match Oc ((a4,(a5,(a6,()))),a7,0,a8,())with|none=>none|some (y0,y1,_)=>match TX ((a0,(a1,())),a2,a3,a8,())with|none=>none|some (y2,y3,_)=>match(!(ieq y1 0))with
  |true=>some (.inr (.inl (false,())))
  |false=>match(!(ieq y3 0))with
  |true=>some (.inr (.inl (false,())))
  |false=>match AS By many (a0,a1,a2,a3,a4,a5,a6,a7,a8,y0,y2,([]:List U1),0,y3,(!(ieq y3 0)),())with|none=>none|some r=>match r with
  |.inl (o4,o5,o6,o7,o8,o9,o10,o11,o12,o13,o14,o15,o16,_)=>match Pt (o13,o14,())with|none=>none|some (y17,_)=>match(!y17)with
   |true=>some (.inr (.inl (false,())))
   |false=>some (.inl (o4,o5,o6,o7,o8,o9,o10,o11,(IntKind.wrap .i64 (o12+1)),()))
  |.inr _=>none
 |false=>some (.inr (.inr (.inl ())))
def GZ[Lk]:(Uo×List Int×List Int×Unit)→Option (Uf):=fun(a0,a1,a2,_)=>
 match JS ()with|none=>none|some (y0,_)=>match(!y0)with
 |true=>some (false,())
 |false=>match OZ ((a0.1,(a0.2.1,())),())with|none=>none|some (y1,_)=>match y1 with
 |true=>some (true,())
 |false=>match Pe ((a0.1,(a0.2.1,())),(AY a1 0 0),(AY a1 1 0),a2,())with|none=>none|some (y2,y3,y4,_)=>match(!(ieq y4 0))with
 |true=>match(ieq (AG y2.1) 0)with
  |true=>some ((ieq (AG y3) 0),())
  |false=>some (false,())
 |false=>match AS CN many (a0.1,a0.2.1,(AY a1 0 0),(AY a1 1 0),y2.1,y2.2.1,y2.2.2.1,y3,0,())with|none=>none|some r=>match r with
 |.inl (o5,_)=>some (o5,())
 |.inr r=>match r with
 |.inl _=>some (true,())
 |.inr _=>none
def El[Lk]:=fun v=>Lk.f (GZ v)
theorem Mz v:El v=GZ v:=AH _
end
end Go.Pev
end
section
namespace Go.Pev
noncomputable section
attribute [local irreducible] PM Ln O6 PD Adz Ad0 Ad1 Tt AA2 AAL AAK Ly AX many IntKind.wrap AG BB AY A2 Bp DK EA AN Bm Ci imax AP Af
end
end Go.Pev
end
section

end
section
namespace Go.Pev.Pl
theorem Ai{n:Int}(h:-9223372036854775808≤n∧n≤9223372036854775807):IntKind.wrap .i64 n=n:=IntWalk.i64_in n h
section
variable {α:Type} [Inhabited α]
theorem A7{d:Array α}{n:Nat}(h:n<d.size):idx d.toList (n:Int)=some d[n]! := by
 rw[idx_eq,O6,AjQ (by omega)]
 simp[h]
theorem Ba{d:Array α}{n:Nat}{z:α}(h:n<d.size):AY d.toList (AN (n:Int)) z=d[n]! := by
 simp[AY,AN,h]
theorem JN{d:Array α}{n:Nat}{x:α}:BB d.toList (AN (n:Int)) x=(d.setIfInBounds n x).toList:=by
 simp[BB,AN]
theorem AXJ{d:Array α}:AG d.toList=(d.size:Int):=by simp[AG]
theorem KI(d:Array α)(i j:Nat):(d.setIfInBounds i d[j]!).setIfInBounds j d[i]! = Go.Sort.swp d i j:=rfl
theorem size_swp(d:Array α)(i j:Nat):(Go.Sort.swp d i j).size=d.size:=by simp[Go.Sort.swp]
end
theorem AL(a b:Nat):ilt (a:Int) (b:Int)=decide (a<b):=by rw[Ag];simp
theorem DA(a b:Nat):ile (a:Int) (b:Int)=decide (a≤b):=by rw[Ar];simp
theorem AKa(a b:Nat):ieq (a:Int) (b:Int)=decide (a=b):=by
 rw[B9]
 by_cases h:a=b
 ·simp[h]
 ·simp[h];omega
section
theorem wrap_add{a b:Nat}(h:a+b<9223372036854775808):IntKind.wrap .i64 ((a:Int)+(b:Int))=((a+b:Nat):Int):=by rw[Ai (by omega)];omega
theorem AM{a:Nat}(h:a+1<9223372036854775808):IntKind.wrap .i64 ((a:Int)+1)=((a+1:Nat):Int):=by rw[Ai (by omega)];omega
theorem AF9{a:Nat}(h:2*a<9223372036854775808):IntKind.wrap .i64 ((2:Int)*(a:Int))=((2*a:Nat):Int):=by rw[Ai (by omega)];omega
theorem AXZ{a:Nat}(h:a<9223372036854775808):IntKind.wrap .i64 ((a:Int)*1)=((a*1:Nat):Int):=by rw[Ai (by omega)];omega
theorem OA{a:Nat}(h:a*2<9223372036854775808):IntKind.wrap .i64 ((a:Int)*2)=((a*2:Nat):Int):=by rw[Ai (by omega)];omega
theorem AXY{a:Nat}(h:a*3<9223372036854775808):IntKind.wrap .i64 ((a:Int)*3)=((a*3:Nat):Int):=by rw[Ai (by omega)];omega
theorem DV{a b:Nat}(h:b≤a∧a<9223372036854775808):IntKind.wrap .i64 ((a:Int)-(b:Int))=((a-b:Nat):Int):=by rw[Ai (by omega)];omega
theorem BG{a:Nat}(h:1≤a∧a<9223372036854775808):IntKind.wrap .i64 ((a:Int)-1)=((a-1:Nat):Int):=by rw[Ai (by omega)];omega
theorem Aip{a:Nat}(h:a<9223372036854775808):quo? .i64 (a:Int) 2=some ((a/2:Nat):Int):=by
 rw[Ts,Tt,AjQ (by omega),AlL (by omega),Ai (by omega)];rfl
theorem AWQ{a:Nat}(h:a<9223372036854775808):quo? .i64 (a:Int) 4=some ((a/4:Nat):Int):=by
 rw[Ts,Tt,AjQ (by omega),AlL (by omega),Ai (by omega)];rfl
theorem Aio{a:Nat}(h:a<9223372036854775808):quo? .i64 (a:Int) 8=some ((a/8:Nat):Int):=by
 rw[Ts,Tt,AjQ (by omega),AlL (by omega),Ai (by omega)];rfl
end
end Go.Pev.Pl
end
section
namespace Go.Pev.Pl
section
variable {α:Type}
theorem Bs{xs:List α}{n:Nat}(z:α)(h:n<xs.length):idx xs (n:Int)=some (xs.getD n z):=by
 rw[idx_eq,O6,AjQ (by omega)]
 simp[h]
theorem Ad2{xs:List α}{n:Nat}(h:n<xs.length):∃ x,idx xs (n:Int)=some x:=by
 rw[idx_eq,O6,AjQ (by omega)]
 exact⟨xs[n],by simp[h]⟩
theorem Rv(xs:List α)(n:Nat):idx xs (n:Int)=xs[n]? := by
 rw[idx_eq,O6,AjQ (by omega)]
 simp
theorem Gy(xs:List α):idx xs (0:Int)=xs.head? := by
 rw[idx_eq,O6,AjQ (by omega)]
 cases xs<;>rfl
theorem GG(xs:List α)(n:Nat)(z:α):AY xs (AN (n:Int)) z=xs.getD n z:=by simp[AY,AN]
theorem Nj(xs:List α)(n:Nat)(x:α):BB xs (AN (n:Int)) x=xs.set n x:=by simp[BB,AN]
theorem AK(xs:List α):AG xs=(xs.length:Int):=rfl
theorem GF(n:Nat):AN (n:Int)=n:=by simp[AN]
theorem DC(xs ys:List α):A2 xs ys=xs++ys:=rfl
theorem AIg{xs:List α}{l h:Nat}(h1:l≤h)(h2:h≤xs.length):Ce xs (l:Int) (h:Int)=some ((xs.take h).drop l):=by
 rw[Y2,PD,AjP (by omega)]
 simp
end
theorem BK{n:Int}(h:n≤4294967296):fits n=true:=(FL n).2 h
theorem Lz{α:Type}{xs:List α}(h:xs.length≤4294967296):Qc xs=some xs:=by
 rw[AHb,Ly,(Vs _).2 (by rw[AK];omega)]
theorem ACl{α β:Type}(xs:List α)(ys:List β):ieq (AG xs) (AG ys)=decide (xs.length=ys.length):=by rw[AK,AK,AKa]
theorem An(a b:Int):ieq a b=decide (a=b):=by
 rw[B9]
 by_cases h:a=b<;>simp[h]
def walk{α β ρ:Type}(f:β→α→α⊕ρ)(fin:α→ρ):List β→α→ρ
 |[],a=>fin a
 |x::xs,a=>match f x a with
  |.inl a=>walk f fin xs a
  |.inr r=>r
theorem AXb{σ ρ α β:Type}{step:σ→Option (σ⊕ρ)}(st:Nat→α→σ)(xs:List β)(f:β→α→α⊕ρ)(fin:α→ρ)(I:Nat→α→Prop)
  (h:∀ i x a,i<xs.length→xs[i]? = some x→I i a→(∀ a',f x a = .inl a'→step (st i a)=some (.inl (st (i+1) a'))∧I (i+1) a')∧(∀ r,f x a = .inr r→step (st i a)=some (.inr r)))
  (hN:∀ a,I xs.length a→step (st xs.length a)=some (.inr (fin a))) :
  ∀ (m i n:Nat) (a:α),xs.length-i=m→i≤xs.length→m<n→I i a→AX step n (st i a)=some (walk f fin (xs.drop i) a):=by
 intro m
 induction m with
 |zero=>
  intro i n a hk hi hn hI
  obtain⟨n,rfl⟩:∃ k,n=k+1:=⟨n-1,by omega⟩
  have e:i=xs.length:=by omega
  subst e
  rw[AX,hN a hI,List.drop_length]
  rfl
 |succ m ih=>
  intro i n a hk hi hn hI
  obtain⟨n,rfl⟩:∃ k,n=k+1:=⟨n-1,by omega⟩
  have hi':i<xs.length:=by omega
  obtain⟨g1,g2⟩:=h i xs[i] a hi' (by simp[hi']) hI
  rw[AkC hi',walk,AX]
  cases hf:f xs[i] a with
  |inl a'=>
   obtain⟨e,hI'⟩:=g1 a' hf
   rw[e]
   exact ih (i+1) n a' (by omega) (by omega) (by omega) hI'
  |inr r=>rw[g2 r hf]
theorem Bn{σ ρ α β:Type}{step:σ→Option (σ⊕ρ)}(st:Nat→α→σ)(xs:List β)(f:β→α→α⊕ρ)(fin:α→ρ)(I:Nat→α→Prop)(hs:xs.length<9223372036854775808)
  (h:∀ i x a,i<xs.length→xs[i]? = some x→I i a→(∀ a',f x a = .inl a'→step (st i a)=some (.inl (st (i+1) a'))∧I (i+1) a')∧(∀ r,f x a = .inr r→step (st i a)=some (.inr r)))
  (hN:∀ a,I xs.length a→step (st xs.length a)=some (.inr (fin a))) (a:α) (h0:I 0 a):AS step many (st 0 a)=some (walk f fin xs a):=by
 have hm:9223372036854775808<many:=by simp only[many];omega
 rw[Au,AXb st xs f fin I h hN xs.length 0 many a (by omega) (by omega) (by omega) h0]
 rfl
theorem Bv{α:Type}{xs ys:List α}(z:α)(hl:xs.length=ys.length)(h:∀ j,j<xs.length→xs.getD j z=ys.getD j z):xs=ys:=by
 apply AmT hl
 intro i h1 h2
 have:=h i h1
 simpa [h1,h2]using this
theorem Xk{α:Type}{xs ys:List α}(z:α){j:Nat}(h:xs.getD j z≠ys.getD j z):xs≠ys:=fun e=>h (by rw[e])
theorem AYJ{σ ρ:Type}{step:σ→Option (σ⊕ρ)}(st:Nat→σ)(N:Nat)(P:Nat→Bool)(rt:Nat→ρ)(rf:ρ)
  (h:∀ i,i<N→step (st i)=if P i then some (.inr (rt i))else some (.inl (st (i+1)))) (hN:step (st N)=some (.inr rf)) :
  ∀ (m i n:Nat),N-i=m→i≤N→m<n→(∃ k,i≤k∧k<N∧P k=true∧(∀ j,i≤j→j<k→P j=false)∧AX step n (st i)=some (rt k))∨((∀ j,i≤j→j<N→P j=false)∧AX step n (st i)=some rf):=by
 intro m
 induction m with
 |zero=>
  intro i n hk hi hn
  obtain⟨n,rfl⟩:∃ k,n=k+1:=⟨n-1,by omega⟩
  have e:i=N:=by omega
  subst e
  exact .inr ⟨fun j h1 h2=>by omega,by rw[AX,hN]⟩
 |succ m ih=>
  intro i n hk hi hn
  obtain⟨n,rfl⟩:∃ k,n=k+1:=⟨n-1,by omega⟩
  have hi':i<N:=by omega
  cases hP:P i
  ·have e:AX step (n+1) (st i)=AX step n (st (i+1)):=by rw[AX,h i hi',hP];rfl
   rw[e]
   rcases ih (i+1) n (by omega) (by omega) (by omega)with⟨k,h1,h2,h3,h4,h5⟩|⟨h1,h2⟩
   ·refine .inl ⟨k,by omega,h2,h3,fun j a1 a2 => ?_,h5⟩
    by_cases ej:j=i
    ·subst ej;exact hP
    ·exact h4 j (by omega) a2
   ·refine .inr ⟨fun j a1 a2 => ?_,h2⟩
    by_cases ej:j=i
    ·subst ej;exact hP
    ·exact h1 j (by omega) a2
  ·exact .inl ⟨i,AjO _,hi',hP,fun j a1 a2=>by omega,by rw[AX,h i hi',hP];rfl⟩
theorem AMt{σ ρ:Type}{step:σ→Option (σ⊕ρ)}(st:Nat→σ)(N:Nat)(P:Nat→Bool)(rt:Nat→ρ)(rf:ρ)(hs:N<9223372036854775808)
  (h:∀ i,i<N→step (st i)=if P i then some (.inr (rt i))else some (.inl (st (i+1)))) (hN:step (st N)=some (.inr rf)) :
  (∃ k,k<N∧P k=true∧(∀ j,j<k→P j=false)∧AS step many (st 0)=some (rt k))∨((∀ j,j<N→P j=false)∧AS step many (st 0)=some rf):=by
 have hm:9223372036854775808<many:=by simp only[many];omega
 rw[Au]
 rcases AYJ st N P rt rf h hN N 0 many rfl (by omega) (by omega)with⟨k,h1,h2,h3,h4,h5⟩|⟨h1,h2⟩
 ·exact .inl ⟨k,h2,h3,fun j a=>h4 j (by omega) a,h5⟩
 ·exact .inr ⟨fun j a=>h1 j (by omega) a,h2⟩
end Go.Pev.Pl
end
section
namespace Go.Pev.Pl
inductive Tok where
 |ver (v:Int)
 |arc (u v:Int)
 deriving DecidableEq
namespace Tok
def st:Tok→Int
 |.ver v=>v
 |.arc _ v=>v
def step(s:List Int×List Int):Tok→Option (List Int×List Int)
 |.ver v=>match s.1 with
  |w::_=>if w=v then some s else none
  |[]=>none
 |.arc u v=>match s.1 with
  |w::r=>if w=u then match r with
    |p::r'=>if p=v then some (p::r',s.2)else if v∈s.2 then none else some (v::w::r,v::s.2)
    |[]=>if v∈s.2 then none else some (v::w::r,v::s.2)
   else none
  |[]=>none
def run:List Int×List Int→List Tok→Option (List Int×List Int)
 |s,[]=>some s
 |s,t::l=>match step s t with
  |some s=>run s l
  |none=>none
theorem DY(s:List Int×List Int)(a b:List Tok):run s (a++b)=(run s a).bind fun s=>run s b:=by
 induction a generalizing s with
 |nil=>rfl
 |cons t a ih=>
  simp only[Ajm,run]
  cases step s t with
  |none=>rfl
  |some s=>exact ih s
theorem B7{s s':List Int×List Int}{t:Tok}(h:step s t=some s'):
  (∃ v r,t = .ver v∧s.1=v::r∧s'=s) ∨
  (∃ u v r,t = .arc u v∧s.1=u::v::r∧s'=(v::r,s.2)) ∨
  (∃ u v r,t = .arc u v∧s.1=u::r∧r.head?≠some v∧v∉s.2∧s'=(v::u::r,v::s.2)):=by
 obtain⟨way,c⟩:=s
 cases t with
 |ver v=>
  cases way with
  |nil=>simp[step]at h
  |cons w r=>
   simp only[step]at h
   split at h
   ·rename_i e;cases h;exact .inl ⟨v,r,rfl,by simp[e],rfl⟩
   ·cases h
 |arc u v=>
  cases way with
  |nil=>simp[step]at h
  |cons w r=>
   simp only[step]at h
   split at h
   ·rename_i e
    subst e
    cases r with
    |nil=>
     simp only at h
     split at h
     ·cases h
     ·rename_i hc;cases h;exact .inr (.inr ⟨w,v,[],rfl,rfl,by simp,hc,rfl⟩)
    |cons p r=>
     simp only at h
     split at h
     ·rename_i e;subst e;cases h;exact .inr (.inl ⟨w,p,r,rfl,rfl,rfl⟩)
     ·split at h
      ·cases h
      ·rename_i e hc;cases h;exact .inr (.inr ⟨w,v,p::r,rfl,rfl,by simpa using e,hc,rfl⟩)
   ·cases h
theorem DX(v:Int)(r c:List Int):step (v::r,c) (.ver v)=some (v::r,c):=by simp[step]
theorem Gr(u v:Int)(r c:List Int):step (u::v::r,c) (.arc u v)=some (v::r,c):=by simp[step]
theorem Fi(u v:Int)(r c:List Int)(h1:r.head?≠some v)(h2:v∉c):step (u::r,c) (.arc u v)=some (v::u::r,v::c):=by
 cases r with
 |nil=>simp[step,h2]
 |cons p r=>
  have:p≠v:=by simpa using h1
  simp[step,h2,this]
def Inv(s:List Int×List Int):Prop:=s.1.Nodup∧(∀ x∈s.1,x∈s.2)
theorem AAA{s s':List Int×List Int}{t:Tok}(h:step s t=some s')(hi:Inv s):Inv s'∧(∀ x∈s.2,x∈s'.2)∧s'.1.head? = some t.st:=by
 obtain⟨way,c⟩:=s
 obtain⟨h1,h2⟩:=hi
 rcases B7 h with⟨v,r,rfl,hw,rfl⟩|⟨u,v,r,rfl,hw,rfl⟩|⟨u,v,r,rfl,hw,_,hn,rfl⟩
 ·exact⟨⟨h1,h2⟩,fun x hx=>hx,by rw[hw];rfl⟩
 ·simp only at hw h1 h2
  subst hw
  refine⟨⟨?_,?_⟩,fun x hx=>hx,rfl⟩
  ·exact(Aju.1 h1).2
  ·intro x hx;exact h2 x (by simp only at hx;simp[AjN.1 hx])
 ·simp only at hw h1 h2 hn
  subst hw
  refine⟨⟨?_,?_⟩,fun x hx=>by simp[hx],rfl⟩
  ·exact Aju.2 ⟨fun hm=>hn (h2 _ hm),h1⟩
  ·intro x hx
   rcases AjN.1 hx with rfl|hx
   ·simp
   ·exact Ajh _ (h2 x hx)
theorem I2{l:List Tok}:∀ {s s':List Int×List Int},run s l=some s'→Inv s→Inv s'∧(∀ x∈s.2,x∈s'.2)∧∀ t,l.getLast? = some t→s'.1.head? = some t.st:=by
 induction l with
 |nil=>intro s s' h hi;cases h;exact⟨hi,fun x hx=>hx,fun t ht=>by simp at ht⟩
 |cons t l ih=>
  intro s s' h hi
  simp only[run]at h
  split at h
  ·rename_i s1 h1
   obtain⟨q1,q2,q3⟩:=AAA h1 hi
   obtain⟨p1,p2,p3⟩:=ih h q1
   refine⟨p1,fun x hx=>p2 x (q2 x hx),fun t' ht' => ?_⟩
   cases l with
   |nil=>simp at ht';subst ht';simp only[run]at h;cases h;exact q3
   |cons y l=>exact p3 t' (by rw[AmI]at ht';exact ht')
  ·cases h
theorem Hb{Z:Int→Prop}:∀ {l:List Tok} {way way' c d c2 low:List Int},run (way,c) l=some (way',d)→way≠[]→(∀ x,x∈c2↔x∈c∨Z x) →
  (∀ u v,.arc u v∈l→¬ Z v)→(∀ y∈low,Z y)→∃ d2,run (way++low,c2) l=some (way'++low,d2)∧(∀ x,x∈d2↔x∈d∨Z x):=by
 intro l
 induction l with
 |nil=>intro way way' c d c2 low h _ hc _ _;cases h;exact⟨c2,rfl,hc⟩
 |cons t l ih=>
  intro way way' c d c2 low h hne hc hz hl
  simp only[run]at h
  split at h
  ·rename_i s1 h1
   have hz':∀ u v,Tok.arc u v∈l→¬ Z v:=fun u v hm=>hz u v (Ajh _ hm)
   rcases B7 h1 with⟨v,r,rfl,hw,rfl⟩|⟨u,v,r,rfl,hw,rfl⟩|⟨u,v,r,rfl,hw,hh,hn,rfl⟩
   ·simp only at hw
    subst hw
    obtain⟨d2,e1,e2⟩:=ih h hne hc hz' hl
    exact⟨d2,by simp only[run,Ajm,DX];exact e1,e2⟩
   ·simp only at hw
    subst hw
    obtain⟨d2,e1,e2⟩:=ih h (by simp) hc hz' hl
    exact⟨d2,by simp only[run,Ajm,Gr];exact e1,e2⟩
   ·simp only at hw hn
    subst hw
    have hzv:=hz u v (by simp)
    have hn2:v∉c2:=by rw[hc];rintro (h|h);exact hn h;exact hzv h
    have hh2:(r++low).head?≠some v:=by
     cases r with
     |nil=>
      cases low with
      |nil=>simp
      |cons y low=>
       simp only[Ajs,List.head?_cons,ne_eq,AjH]
       rintro rfl
       exact hzv (hl _ (by simp))
     |cons p r=>simpa using hh
    obtain⟨d2,e1,e2⟩:=ih (c2:=v::c2) h (by simp) (by intro x;simp only[AjN,hc,or_assoc]) hz' hl
    exact⟨d2,by simp only[run,Ajm,Fi _ _ _ _ hh2 hn2];exact e1,e2⟩
  ·cases h
theorem AAi{z:Int}:∀ {l:List Tok} {way way' c2 d2 c:List Int},run (way,c2) l=some (way',d2)→z∉way→(∀ x,x∈c2↔x∈c∨x=z)→z∉c →
  .ver z∉l∧∃ d,run (way,c) l=some (way',d)∧(∀ x,x∈d2↔x∈d∨x=z)∧z∉d:=by
 intro l
 induction l with
 |nil=>intro way way' c2 d2 c h _ hc hz;cases h;exact⟨by simp,c,rfl,hc,hz⟩
 |cons t l ih=>
  intro way way' c2 d2 c h hzw hc hz
  simp only[run]at h
  split at h
  ·rename_i s1 h1
   rcases B7 h1 with⟨v,r,rfl,hw,rfl⟩|⟨u,v,r,rfl,hw,rfl⟩|⟨u,v,r,rfl,hw,hh,hn,rfl⟩
   ·simp only at hw
    subst hw
    obtain⟨e0,d,e1,e2,e3⟩:=ih h hzw hc hz
    refine⟨?_,d,by simp only[run,DX];exact e1,e2,e3⟩
    rintro hm
    rcases AjN.1 hm with hm|hm
    ·cases hm;exact hzw (by simp)
    ·exact e0 hm
   ·simp only at hw
    subst hw
    obtain⟨e0,d,e1,e2,e3⟩:=ih h (fun hm=>hzw (Ajh _ hm)) hc hz
    refine⟨?_,d,by simp only[run,Gr];exact e1,e2,e3⟩
    rintro hm
    rcases AjN.1 hm with hm|hm
    ·cases hm
    ·exact e0 hm
   ·simp only at hw hn
    subst hw
    have hvz:v≠z:=by rintro rfl;exact hn ((hc v).2 (.inr rfl))
    have hn':v∉c:=fun hm=>hn ((hc v).2 (.inl hm))
    obtain⟨e0,d,e1,e2,e3⟩:=ih (c:=v::c) h (by intro hm;rcases AjN.1 hm with hm|hm;exact hvz hm.symm;exact hzw hm)
     (by intro x;simp only[AjN,hc,or_assoc])
     (by intro hm;rcases AjN.1 hm with hm|hm;exact hvz hm.symm;exact hz hm)
    refine⟨?_,d,by simp only[run,Fi _ _ _ _ hh hn'];exact e1,e2,e3⟩
    rintro hm
    rcases AjN.1 hm with hm|hm
    ·cases hm
    ·exact e0 hm
  ·cases h
def Rot(a b:List Tok):Prop:=∃ x y,a=x++y∧b=y++x
theorem Rot.refl(a:List Tok):Rot a a:=⟨[],a,rfl,by simp⟩
theorem Rot.symm{a b:List Tok}(h:Rot a b):Rot b a:=by obtain⟨x,y,h1,h2⟩:=h;exact⟨y,x,h2,h1⟩
theorem Rot.trans{a b c:List Tok}(h:Rot a b)(g:Rot b c):Rot a c:=by
 obtain⟨x,y,rfl,h2⟩:=h
 obtain⟨z,w,h3,rfl⟩:=g
 rw[h2]at h3
 rcases List.append_eq_append_iff.1 h3 with⟨k,h4,h5⟩|⟨k,h4,h5⟩
 ·subst h4 h5
  exact⟨k,w++y,by simp,by simp⟩
 ·subst h4 h5
  exact⟨x++z,k,by simp,by simp⟩
theorem Rot.perm{a b:List Tok}(h:Rot a b):a.Perm b:=by
 obtain⟨x,y,rfl,rfl⟩:=h
 exact Ak7
theorem Rot.mem{a b:List Tok}(h:Rot a b)(t:Tok):t∈a↔t∈b:=h.perm.mem_iff
theorem Rot.nodup{a b:List Tok}(h:Rot a b):a.Nodup↔b.Nodup:=h.perm.nodup_iff
theorem Rot.length{a b:List Tok}(h:Rot a b):a.length=b.length:=h.perm.length_eq
inductive T:List Tok→Prop
 |one (v:Int):T [.ver v]
 |add (x:Tok) (l:List Tok) (v:Int):T (x::l)→x.st≠v→.ver v∉x::l→T (x :: .arc x.st v :: .ver v :: .arc v x.st::l)
 |rot (a b:List Tok):T (a++b)→T (b++a)
theorem T.ATT{a b:List Tok}(h:T a)(r:Rot a b):T b:=by obtain⟨x,y,rfl,rfl⟩:=r;exact T.rot x y h
theorem T.facts{l:List Tok}(h:T l):l≠[]∧(∀ t∈l,.ver t.st∈l)∧(∀ u v,.arc u v∈l→.ver u∈l∧.ver v∈l∧.arc v u∈l∧u≠v):=by
 induction h with
 |one v=>exact⟨by simp,by simp[st],by simp⟩
 |add x l v h hne hv ih=>
  obtain⟨_,i2,i3⟩:=ih
  have hsub:∀ t,t∈x::l→t∈x::Tok.arc x.st v :: .ver v :: .arc v x.st::l:=by
   intro t ht
   rcases AjN.1 ht with rfl|ht
   ·simp
   ·simp[ht]
  have hx:=hsub _ (i2 x (by simp))
  have cases3:∀ t,t∈x::Tok.arc x.st v :: .ver v :: .arc v x.st::l→t∈x::l∨t = .arc x.st v∨t = .ver v∨t = .arc v x.st:=by
   intro t ht
   simp only[AjN]at ht ⊢
   rcases ht with h|h|h|h|h<;>simp[h]
  refine⟨by simp,fun t ht => ?_,fun a b hab => ?_⟩
  ·rcases cases3 t ht with h|rfl|rfl|rfl
   ·exact hsub _ (i2 t h)
   ·simp[st]
   ·simp[st]
   ·exact hx
  ·rcases cases3 _ hab with h|h|h|h
   ·obtain⟨p1,p2,p3,p4⟩:=i3 a b h
    exact⟨hsub _ p1,hsub _ p2,hsub _ p3,p4⟩
   ·cases h;exact⟨hx,by simp,by simp,hne⟩
   ·cases h
   ·cases h;exact⟨by simp,hx,by simp,Ajy hne⟩
 |rot a b h ih=>
  obtain⟨i1,i2,i3⟩:=ih
  have hm:∀ t,t∈a++b↔t∈b++a:=fun t=>List.perm_append_comm.mem_iff
  refine⟨by intro e;simp only[List.append_eq_nil_iff]at e;exact i1 (by simp[e.1,e.2]),fun t ht=>(hm _).1 (i2 t ((hm _).2 ht)),fun u v huv => ?_⟩
  obtain⟨p1,p2,p3,p4⟩:=i3 u v ((hm _).2 huv)
  exact⟨(hm _).1 p1,(hm _).1 p2,(hm _).1 p3,p4⟩
theorem T.nodup{l:List Tok}(h:T l):l.Nodup:=by
 induction h with
 |one v=>simp
 |add x l v h hne hv ih=>
  obtain⟨_,_,f3⟩:=h.facts
  have h1:Tok.arc x.st v∉x::l:=fun hm=>hv (f3 _ _ hm).2.1
  have h2:Tok.arc v x.st∉x::l:=fun hm=>hv (f3 _ _ hm).1
  simp only[AjN,not_or]at h1 h2 hv
  have ih':=Aju.1 ih
  simp only[Aju,AjN,not_or]
  refine⟨⟨fun e=>h1.1 e.symm,fun e=>hv.1 e.symm,fun e=>h2.1 e.symm,ih'.1⟩,⟨by simp,?_,h1.2⟩,⟨by simp,hv.2⟩,h2.2,ih'.2⟩
  intro e
  simp only[Tok.arc.injEq]at e
  exact hne e.1
 |rot a b h ih=>exact(List.perm_append_comm.nodup_iff).1 ih
def C(l:List Tok):Prop:=∀ r,Rot l r→∀ t,r.getLast? = some t→∃ c,run ([t.st],[t.st]) r=some ([t.st],c)∧∀ x,x∈c↔.ver x∈l
end Tok
end Go.Pev.Pl
end
section
namespace Go.Pev.Pl.Tok
theorem getLast?_app{a b:List Tok}{t:Tok}(h:b.getLast? = some t):(a++b).getLast? = some t:=by
 rw[Alh,h];rfl
theorem A3(s:List Int×List Int)(t:Tok)(l:List Tok):run s (t::l)=(step s t).bind fun s=>run s l:=by
 rw[run]
 cases step s t<;>rfl
theorem Ou(v:Int):Inv ([v],[v]):=⟨by simp,by simp⟩
theorem T.toC{l:List Tok}(h:T l):C l:=by
 induction h with
 |one v=>
  intro r hr t ht
  have:r=[.ver v]:=List.perm_singleton.1 hr.perm.symm
  subst this
  simp at ht
  subst ht
  exact⟨[v],by simp[run,st,step],by simp⟩
 |rot a b h ih=>
  intro r hr t ht
  obtain⟨c,h1,h2⟩:=ih r (Rot.trans ⟨a,b,rfl,rfl⟩ hr) t ht
  exact⟨c,h1,fun x=>(h2 x).trans (List.perm_append_comm.mem_iff)⟩
 |add x l v h hne hv ih=>
  obtain⟨_,f2,f3⟩:=h.facts
  have hnz:∀ u w,Tok.arc u w∈x::l→¬ (w=v):=fun u w hm e=>hv (e▸(f3 u w hm).2.1)
  have fin:∀ {d2 c:List Int},(∀ y,y∈d2↔y∈c∨y=v)→(∀ y,y∈c↔.ver y∈x::l)→∀ y,y∈d2↔Tok.ver y∈x :: .arc x.st v :: .ver v :: .arc v x.st::l:=by
   intro d2 c e1 e2 y
   rw[e1,e2]
   simp only[AjN,reduceCtorEq,false_or,Tok.ver.injEq]
   constructor
   ·rintro ((h|h)|h)<;>simp[h]
   ·rintro (h|h|h)<;>simp[h]
  have triple:∀ {w' c1:List Int},Inv (x.st::w',c1)→v∉c1→∀ p,run (x.st::w',c1) (.arc x.st v :: .ver v :: .arc v x.st::p)=run (x.st::w',v::c1) p:=by
   intro w' c1 hi hn p
   have hh:w'.head?≠some v:=by
    intro e
    exact hn (hi.2 v (Ajh _ (List.mem_of_head? e)))
   rw[A3,Fi _ _ _ _ hh hn,Aj1,A3,DX,Aj1,A3,Gr,Aj1]
  have G:∀ q1 p1,l=p1++q1→∀ t,(q1++x :: .arc x.st v :: .ver v :: .arc v x.st::p1).getLast? = some t→∃ c,run ([t.st],[t.st]) (q1++x :: .arc x.st v :: .ver v :: .arc v x.st::p1)=some ([t.st],c)∧∀ y,y∈c↔.ver y∈x :: .arc x.st v :: .ver v :: .arc v x.st::l:=by
   intro q1 p1 hl t ht
   have hrot:Rot (x::l) (q1++x::p1):=⟨x::p1,q1,by simp[hl],rfl⟩
   have ht0:∃ t0,(q1++x::p1).getLast? = some t0∧t0.st=t.st:=by
    cases p1 with
    |nil=>
     refine⟨x,getLast?_app (by simp),?_⟩
     rw[show q1++[x,Tok.arc x.st v,.ver v,.arc v x.st]=(q1++[x,Tok.arc x.st v,.ver v])++[Tok.arc v x.st] by simp,AlG]at ht
     cases ht;rfl
    |cons y p1=>
     refine⟨t,?_,rfl⟩
     rw[show q1++x::Tok.arc x.st v :: .ver v :: .arc v x.st::y::p1=(q1++[x,Tok.arc x.st v,.ver v,.arc v x.st])++y::p1 by simp,Alh]at ht
     rw[show q1++x::y::p1=(q1++[x])++y::p1 by simp,Alh]
     exact ht
   obtain⟨t0,e0,e1⟩:=ht0
   obtain⟨c,h1,h2⟩:=ih _ hrot t0 e0
   rw[e1,show q1++x::p1=(q1++[x])++p1 by simp,DY,Ajz]at h1
   obtain⟨⟨w1,c1⟩,g1,g2⟩:=h1
   obtain⟨i1,i2,i3⟩:=I2 g1 (Ou _)
   obtain⟨j1,j2,j3⟩:=I2 g2 i1
   have i3':=i3 x (by simp)
   simp only at i3'
   cases w1 with
   |nil=>simp at i3'
   |cons w0 w'=>
    simp at i3'
    subst i3'
    have hn:v∉c1:=fun hm=>hv ((h2 v).1 (j2 v hm))
    obtain⟨d2,k1,k2⟩:=Hb (Z:=(· = v)) (c2:=v::c1) (low:=[]) g2 (by simp) (fun y=>by simp[or_comm]) (fun u w hm=>hnz u w (by simp[hl,hm])) (by simp)
    refine⟨d2,?_,fin k2 h2⟩
    rw[show q1++x::Tok.arc x.st v :: .ver v :: .arc v x.st::p1=(q1++[x])++Tok.arc x.st v :: .ver v :: .arc v x.st::p1 by simp,DY,g1,Aj1,triple i1 hn]
    simpa using k1
  intro r hr t ht
  obtain⟨p,q,hpq,rfl⟩:=hr
  have base:∀ t0:Tok,(l++[x]).getLast? = some t0→t0=x:=fun t0 h=>by rw[AlG]at h;exact(AkR h).symm
  obtain⟨c,h1,h2⟩:=ih (l++[x]) ⟨[x],l,rfl,rfl⟩ x (by simp)
  match p with
  |[]=>
   simp only[Ajs]at hpq
   subst hpq
   have:=G [] l (by simp) t (by simpa using ht)
   simpa using this
  |[y]=>
   simp only[Ajm,Ajs,Aje]at hpq
   obtain⟨rfl,rfl⟩:=hpq
   have:t=x:=by
    rw[AlG]at ht
    exact(AkR ht).symm
   subst this
   have hn:v∉[t.st]:=by simp;exact Ajy hne
   obtain⟨d2,k1,k2⟩:=Hb (Z:=(· = v)) (c2:=[v,t.st]) (low:=[]) h1 (by simp) (fun y=>by simp[or_comm]) (fun u w hm=>hnz u w (by simpa [or_comm]using hm)) (by simp)
   refine⟨d2,?_,fin k2 h2⟩
   rw[show(Tok.arc t.st v :: .ver v :: .arc v t.st::l)++[t]=Tok.arc t.st v :: .ver v :: .arc v t.st::(l++[t]) by simp,triple (Ou _) hn]
   simpa using k1
  |[y,z]=>
   simp only[Ajm,Ajs,Aje]at hpq
   obtain⟨rfl,rfl,rfl⟩:=hpq
   have:t = .arc x.st v:=by
    rw[show(Tok.ver v :: .arc v x.st::l)++[x,.arc x.st v]=(Tok.ver v :: .arc v x.st::l++[x])++[.arc x.st v] by simp,AlG]at ht
    exact(AkR ht).symm
   subst this
   obtain⟨d2,k1,k2⟩:=Hb (Z:=(· = v)) (c2:=[x.st,v]) (low:=[v]) h1 (by simp) (fun y=>by simp) (fun u w hm=>hnz u w (by simpa [or_comm]using hm)) (by simp)
   refine⟨d2,?_,fin k2 h2⟩
   rw[show(Tok.ver v :: .arc v x.st::l)++[x,.arc x.st v]=Tok.ver v :: .arc v x.st::((l++[x])++[.arc x.st v]) by simp]
   rw[A3]
   show(step ([v],[v]) _).bind _=_
   rw[DX,Aj1,A3,Fi _ _ _ _ (by simp) (by simp;exact hne),Aj1,DY]
   rw[show([x.st]++[v]:List Int)=[x.st,v]from rfl]at k1
   rw[k1,Aj1,A3,Gr]
   rfl
  |[y,z,w]=>
   simp only[Ajm,Ajs,Aje]at hpq
   obtain⟨rfl,rfl,rfl,rfl⟩:=hpq
   have:t = .ver v:=by
    rw[show(Tok.arc v x.st::l)++[x,.arc x.st v,.ver v]=(Tok.arc v x.st::l++[x,.arc x.st v])++[.ver v] by simp,AlG]at ht
    exact(AkR ht).symm
   subst this
   obtain⟨d2,k1,k2⟩:=Hb (Z:=(· = v)) (c2:=[x.st,v]) (low:=[v]) h1 (by simp) (fun y=>by simp) (fun u w hm=>hnz u w (by simpa [or_comm]using hm)) (by simp)
   refine⟨d2,?_,fin k2 h2⟩
   rw[show(Tok.arc v x.st::l)++[x,.arc x.st v,.ver v]=Tok.arc v x.st::((l++[x])++[.arc x.st v,.ver v]) by simp]
   rw[A3]
   show(step ([v],[v]) _).bind _=_
   rw[Fi _ _ _ _ (by simp) (by simp;exact hne),Aj1,DY]
   rw[show([x.st]++[v]:List Int)=[x.st,v]from rfl]at k1
   rw[k1,Aj1,A3,Gr,Aj1,A3,DX]
   rfl
  |y::z::w::w2::p1=>
   simp only[Ajm,Aje]at hpq
   obtain⟨rfl,rfl,rfl,rfl,rfl⟩:=hpq
   exact G q p1 rfl t ht
def comp(P:List Tok):List Int→List Tok
 |[]=>[]
 |w::r=>(if .ver w∈P then []else [.ver w])++match r with
  |[]=>[]
  |p::_=>.arc w p::comp P r
theorem Qb{P P':List Tok}:∀ {way:List Int},(∀ w∈way,(Tok.ver w∈P↔Tok.ver w∈P'))→comp P way=comp P' way:=by
 intro way
 induction way with
 |nil=>intro _;rfl
 |cons w r ih=>
  intro h
  have h1:=h w (by simp)
  have h2:=ih fun x hx=>h x (Ajh _ hx)
  simp only[comp,h1,h2]
theorem AeK:∀ (M P:List Tok) (way c c':List Int) (r:Int) (t0:Tok),run (way,c) M=some ([r],c')→Inv (way,c)→P.getLast? = some t0→way.head? = some t0.st →
  T (P++comp P way)→(∀ x,.ver x∈P++comp P way→x∈c)→(∀ x∈c',Tok.ver x∈P++M)→(P++M).Nodup→T (P++M):=by
 intro M
 induction M with
 |nil=>
  intro P way c c' r t0 h hi hl hh hT hc hc' hn
  cases h
  have:=hc' r (hi.2 r (by simp))
  rw[AkS]at this
  simpa [comp,this]using hT
 |cons t M ih=>
  intro P way c c' r t0 h hi hl hh hT hc hc' hn
  rw[A3,Ajz]at h
  obtain⟨⟨w1,c1⟩,h1,h2⟩:=h
  obtain⟨hi1,hsub,hhd⟩:=AAA h1 hi
  have asso:P++t::M=(P++[t])++M:=by simp
  rw[asso]at hn hc' ⊢
  have hnt:t∉P:=by
   have:=(AlH.1 (AlH.1 hn).1)
   intro hm
   exact this.2.2 t hm t (by simp) rfl
  rcases B7 h1 with⟨v,rr,rfl,hw,e⟩|⟨u,v,rr,rfl,hw,e⟩|⟨u,v,rr,rfl,hw,hh2,hn2,e⟩
  ·cases e
   simp only at hw
   subst hw
   have key:comp P (v::rr) = .ver v::comp (P++[.ver v]) (v::rr):=by
    have e2:comp P rr=comp (P++[.ver v]) rr:=Qb fun w hwm=>by
     have:w≠v:=by rintro rfl;exact(Aju.1 hi.1).1 hwm
     simp[this]
    simp only[comp,hnt,e2]
    simp
   rw[key]at hT hc
   exact ih _ _ _ _ _ (.ver v) h2 hi1 (by simp) hhd (by simpa using hT) (fun x hx=>hc x (by simpa using hx)) hc' hn
  ·cases e
   simp only at hw
   subst hw
   have hu:Tok.ver u∈P:=by
    have hun:=(Aju.1 hi.1).1
    obtain⟨g1,_⟩:=AAi (z:=u) (c:=c.filter (·≠u)) h2 hun (fun x=>by
     simp only[AkE,AjJ]
     constructor
     ·intro h
      by_cases e:x=u
      ·exact .inr e
      ·exact .inl ⟨h,by simpa using e⟩
     ·rintro (h|rfl)
      ·exact h.1
      ·exact hi.2 x (by simp)) (by simp)
    have hmono:=(I2 h2 hi1).2.1 u (hi.2 u (by simp))
    have:=hc' u hmono
    simp only[AjL,Ajk,reduceCtorEq,Alo]at this
    rcases this with h|h
    ·exact h
    ·exact absurd h g1
   have key:comp P (u::v::rr) = .arc u v::comp (P++[.arc u v]) (v::rr):=by
    have e2:comp P (v::rr)=comp (P++[.arc u v]) (v::rr):=Qb fun w hwm=>by simp
    rw[← e2]
    simp only[comp,hu]
    simp
   rw[key]at hT hc
   exact ih _ _ _ _ _ (.arc u v) h2 hi1 (by simp) hhd (by simpa using hT) (fun x hx=>hc x (by simpa using hx)) hc' hn
  ·cases e
   simp only at hw hn2
   subst hw
   have hu:u=t0.st:=by simpa using hh
   subst hu
   have hvc:∀ x,Tok.ver x∈P++comp P (t0.st::rr)→x≠v:=by rintro x hx rfl;exact hn2 (hc x hx)
   have hvP:Tok.ver v∉P++comp P (t0.st::rr):=fun hm=>hvc v hm rfl
   have hvP':Tok.ver v∉P:=fun hm=>hvP (by simp[hm])
   have key:comp (P++[.arc t0.st v]) (v::t0.st::rr) = .ver v :: .arc v t0.st::comp P (t0.st::rr):=by
    have e2:comp (P++[.arc t0.st v]) (t0.st::rr)=comp P (t0.st::rr):=Qb fun w hwm=>by simp
    rw[← e2]
    simp only[comp,AjL,hvP',Ajk,reduceCtorEq,Alo,Ajc]
    rfl
   have hne:t0.st≠v:=by rintro e;exact hn2 (e▸hi.2 t0.st (by simp))
   refine ih _ _ _ _ _ (.arc t0.st v) h2 hi1 (by simp) hhd ?_ ?_ hc' hn
   ·rw[key]
    obtain⟨P0,rfl⟩:∃ P0,P=P0++[t0]:=List.getLast?_eq_some_iff.1 hl
    have hT1:T (t0::(comp (P0++[t0]) (t0.st::rr)++P0)):=hT.ATT ⟨P0,t0::comp (P0++[t0]) (t0.st::rr),by simp,by simp⟩
    have hT2:=T.add t0 _ v hT1 hne (by
     intro hm
     apply hvP
     simp only[AjL,AjN,AlC,Alo]at hm ⊢
     rcases hm with h|h|h<;>simp[h])
    exact hT2.ATT ⟨t0 :: .arc t0.st v :: .ver v :: .arc v t0.st::comp (P0++[t0]) (t0.st::rr),P0,by simp,by simp⟩
   ·intro x hx
    rw[key]at hx
    simp only[AjL,AjN,AlC,Alo,reduceCtorEq,Tok.ver.injEq,false_or]at hx
    rcases hx with h|h|h
    ·exact Ajh _ (hc x (by simp[h]))
    ·simp[h]
    ·exact Ajh _ (hc x (by simp[h]))
def Ap(l:List Tok):Prop:=∃ r l' c,l = .ver r::l'∧run ([r],[r]) l=some ([r],c)∧∀ x∈c,Tok.ver x∈l
theorem Ap.toT{l:List Tok}(h:Ap l)(hn:l.Nodup):T l:=by
 obtain⟨r,l',c,rfl,h1,h2⟩:=h
 rw[A3,DX,Aj1]at h1
 have:=AeK l' [.ver r] [r] [r] c r (.ver r) h1 (Ou r) (by simp) (by simp[st]) (by simp[comp];exact T.one r) (by simp[comp]) (by simpa using h2) (by simpa using hn)
 simpa using this
theorem T.AIW{r:Int}{l:List Tok}(h:T (.ver r::l)):Ap (.ver r::l):=by
 obtain⟨t,ht⟩:∃ t,(Tok.ver r::l).getLast? = some t:=⟨_,Alp (by simp)⟩
 obtain⟨c,h1,h2⟩:=h.toC _ (Rot.refl _) t ht
 have h1':=h1
 rw[A3,Ajz]at h1'
 obtain⟨s,g1,_⟩:=h1'
 have e:t.st=r:=by
  simp only[step]at g1
  split at g1
  ·assumption
  ·cases g1
 rw[e]at h1
 exact⟨r,l,c,rfl,h1,fun x hx=>(h2 x).1 hx⟩
end Go.Pev.Pl.Tok
end
section
namespace Go.Pev.Pl.Tok
theorem T.AP1{l:List Tok}(h:T l):∃ v r,Rot l (.ver v::r):=by
 obtain⟨f1,f2,_⟩:=h.facts
 obtain⟨t,ht⟩:=List.exists_mem_of_ne_nil l f1
 obtain⟨a,b,rfl⟩:=AmD (f2 t ht)
 exact⟨t.st,b++a,a,.ver t.st::b,rfl,rfl⟩
theorem T.less{x:Tok}{v:Int}{l:List Tok}(h:T (x :: .arc x.st v :: .ver v :: .arc v x.st::l)):T (x::l):=by
 have hC:=h.toC
 have hn:=h.nodup
 obtain⟨_,f2,f3⟩:=h.facts
 have hne:x.st≠v:=(f3 x.st v (by simp)).2.2.2
 have hvl:Tok.ver v∉l:=by
  intro hm
  simp only[Aju,AjN,not_or]at hn
  exact hn.2.2.1.2 hm
 have hvx:x≠.ver v:=by rintro rfl;exact hne rfl
 have key:∀ p q,l=p++q→∀ t0,(q++x::p).getLast? = some t0→∃ c,run ([t0.st],[t0.st]) (q++x::p)=some ([t0.st],c)∧∀ y,y∈c↔.ver y∈x::l:=by
  intro p q hl t0 ht0
  have hrot:Rot (x :: .arc x.st v :: .ver v :: .arc v x.st::l) (q++x :: .arc x.st v :: .ver v :: .arc v x.st::p):=⟨x :: .arc x.st v :: .ver v :: .arc v x.st::p,q,by simp[hl],rfl⟩
  have ht:∃ t,(q++x::Tok.arc x.st v :: .ver v :: .arc v x.st::p).getLast? = some t∧t.st=t0.st:=by
   cases p with
   |nil=>
    rw[AlG]at ht0
    cases ht0
    exact⟨.arc v x.st,by rw[show q++[x,Tok.arc x.st v,.ver v,.arc v x.st]=(q++[x,Tok.arc x.st v,.ver v])++[Tok.arc v x.st] by simp,AlG],rfl⟩
   |cons y p=>
    refine⟨t0,?_,rfl⟩
    rw[show q++x::Tok.arc x.st v :: .ver v :: .arc v x.st::y::p=(q++[x,Tok.arc x.st v,.ver v,.arc v x.st])++y::p by simp,Alh]
    rw[show q++x::y::p=(q++[x])++y::p by simp,Alh]at ht0
    exact ht0
  obtain⟨t,e0,e1⟩:=ht
  obtain⟨c,h1,h2⟩:=hC _ hrot t e0
  rw[e1,show q++x::Tok.arc x.st v :: .ver v :: .arc v x.st::p=(q++[x])++Tok.arc x.st v :: .ver v :: .arc v x.st::p by simp,DY,Ajz]at h1
  obtain⟨⟨w1,c1⟩,g1,g2⟩:=h1
  obtain⟨i1,i2,i3⟩:=I2 g1 (Ou _)
  have i3':=i3 x (by simp)
  simp only at i3'
  cases w1 with
  |nil=>simp at i3'
  |cons w0 w'=>
   simp at i3'
   subst i3'
   rw[A3,Ajz]at g2
   obtain⟨s1,k1,k2⟩:=g2
   rcases B7 k1 with⟨v',r,e,_⟩|⟨u',v',r,e,hw,rfl⟩|⟨u',v',r,e,hw,hh,hnc,rfl⟩
   ·cases e
   ·cases e
    simp only[Aje]at hw
    obtain⟨_,rfl⟩:=hw
    exfalso
    rw[A3,DX,Aj1,A3,Ajz]at k2
    obtain⟨s2,m1,_⟩:=k2
    have hnd:=i1.1
    rcases B7 m1 with⟨v',r',e,_⟩|⟨u',v',r',e,hw,rfl⟩|⟨u',v',r',e,hw,hh,hnc,rfl⟩
    ·cases e
    ·cases e
     simp only[Aje]at hw
     obtain⟨_,rfl⟩:=hw
     simp at hnd
    ·cases e
     exact hnc (i1.2 _ (by simp))
   ·cases e
    simp only[Aje,Alf]at hw
    subst hw
    simp only at hnc
    rw[A3,DX,Aj1,A3,Gr,Aj1]at k2
    have hvw:v∉x.st::w':=fun hm=>hnc (i1.2 v hm)
    obtain⟨_,d,m1,m2,m3⟩:=AAi (z:=v) (c:=c1) k2 hvw (fun y=>by simp[or_comm]) hnc
    refine⟨d,?_,fun y => ?_⟩
    ·rw[show q++x::p=(q++[x])++p by simp,DY,g1,Aj1,m1]
    ·have q1:=m2 y
     have q2:=h2 y
     by_cases e:y=v
     ·subst e
      refine⟨fun h=>absurd h m3,fun h => ?_⟩
      rcases AjN.1 h with h|h
      ·exact absurd h.symm hvx
      ·exact absurd h hvl
     ·rw[q2]at q1
      simp only[e,Alo]at q1
      rw[← q1]
      simp[e]
 obtain⟨s,b,a,hsb⟩:∃ s a b,x::l=a ++ .ver s::b:=by
  have:=f2 x (by simp)
  simp only[AjN,reduceCtorEq,false_or,Tok.ver.injEq,hne]at this
  rcases this with h|h
  ·exact⟨x.st,[],l,by rw[← h];rfl⟩
  ·obtain⟨a,b,rfl⟩:=AmD h
   exact⟨x.st,x::a,b,rfl⟩
 have hg:Ap (.ver s::a++b):=by
  have hr:∃ p q,l=p++q∧q++x::p = .ver s::a++b:=by
   cases b with
   |nil=>
    simp only[Ajs,Aje]at hsb
    obtain⟨rfl,rfl⟩:=hsb
    exact⟨l,[],by simp,by simp⟩
   |cons y b=>
    simp only[Ajm,Aje]at hsb
    obtain⟨rfl,rfl⟩:=hsb
    exact⟨b,.ver s::a,rfl,by simp⟩
  obtain⟨p,q,hl,e⟩:=hr
  obtain⟨t0,ht0⟩:∃ t0,(q++x::p).getLast? = some t0:=⟨_,Alp (by simp)⟩
  obtain⟨c,h1,h2⟩:=key p q hl t0 ht0
  rw[e]at h1
  have h1':=h1
  rw[Ajm,A3,Ajz]at h1'
  obtain⟨s',g1,_⟩:=h1'
  have e':t0.st=s:=by
   simp only[step]at g1
   split at g1
   ·assumption
   ·cases g1
  rw[e']at h1
  refine⟨s,a++b,c,rfl,h1,fun y hy => ?_⟩
  have:=(h2 y).1 hy
  rw[hsb]at this
  simp only[AjL,AjN]at this ⊢
  rcases this with h|h|h<;>simp[h]
 have hrot2:Rot (.ver s::a++b) (x::l):=⟨.ver s::a,b,rfl,hsb⟩
 have hnx:(x::l).Nodup:=by
  simp only[Aju,AjN,not_or]at hn ⊢
  exact⟨hn.1.2.2.2,hn.2.2.2.2⟩
 exact(hg.toT (hrot2.nodup.2 hnx)).ATT hrot2
theorem T.leaf{l:List Tok}(h:T l):(∃ v,l=[.ver v])∨∃ x v r,Rot l (x :: .arc x.st v :: .ver v :: .arc v x.st::r):=by
 induction h with
 |one v=>exact .inl ⟨v,rfl⟩
 |add x l v h hne hv ih=>exact .inr ⟨x,v,l,Rot.refl _⟩
 |rot a b h ih=>
  rcases ih with⟨v,e⟩|⟨x,v,r,hr⟩
  ·have hr:Rot [.ver v] (b++a):=⟨a,b,e.symm,rfl⟩
   exact .inl ⟨v,List.perm_singleton.1 hr.perm.symm⟩
  ·exact .inr ⟨x,v,r,Rot.trans ⟨b,a,rfl,rfl⟩ hr⟩
def Mj:List Tok→List Int
 |[]=>[]
 |.ver v::l=>v::Mj l
 |.arc _ _::l=>Mj l
theorem Rl{v:Int}:∀ {l:List Tok},v∈Mj l↔.ver v∈l
 |[]=>by simp[Mj]
 |.ver w::l=>by simp[Mj,Rl (l:=l)]
 |.arc _ _::l=>by simp[Mj,Rl (l:=l)]
theorem ALx(a b:List Tok):Mj (a++b)=Mj a++Mj b:=by
 induction a with
 |nil=>rfl
 |cons t a ih=>cases t<;>simp[Mj,ih]
theorem T.len{l:List Tok}(h:T l):l.length+2=3*(Mj l).length:=by
 induction h with
 |one v=>rfl
 |add x l v h hne hv ih=>
  cases x<;>simp[Mj]at ih ⊢<;>omega
 |rot a b h ih=>
  simp only[ALx,AjS]at ih ⊢
  omega
end Go.Pev.Pl.Tok
end
section
namespace Go.Pev.Pl
section
variable {β:Type}
def BI(es:List (Int×β)):List Int:=es.map Prod.fst
theorem VO(es:List (Int×β)):(BI es).length=es.length:=by simp[BI]
theorem Dv(es:List (Int×β))(k:Int)(v:β)(j:Int):AP (Af es k v) j=if j=k then some v else AP es j:=by
 induction es with
 |nil=>
  simp only[Af,AP]
  by_cases h:k=j
  ·simp[h]
  ·simp[h,Ajy h]
 |cons e es ih=>
  obtain⟨a,b⟩:=e
  simp only[Af]
  by_cases h:a=k
  ·subst h
   simp only[Ajw,AP]
   by_cases h2:a=j
   ·simp[h2]
   ·simp[h2,Ajy h2]
  ·simp only[h,Ajc,AP,ih]
   by_cases h2:a=j
   ·subst h2;simp[h]
   ·simp[h2]
theorem QE(es:List (Int×β))(k:Int)(v:β):BI (Af es k v)=if k∈BI es then BI es else BI es++[k]:=by
 induction es with
 |nil=>rfl
 |cons e es ih=>
  obtain⟨a,b⟩:=e
  simp only[Af]
  by_cases h:a=k
  ·subst h;simp[BI]
  ·simp only[h,Ajc]
   show a::BI (Af es k v)=_
   rw[ih]
   have:k∈BI ((a,b)::es)↔k∈BI es:=by simp[BI,Ajy h]
   simp only[this]
   split<;>rfl
theorem Xm(es:List (Int×β))(k:Int):AP es k=none↔k∉BI es:=by
 induction es with
 |nil=>simp[AP,BI]
 |cons e es ih=>
  obtain⟨a,b⟩:=e
  simp only[AP]
  by_cases h:a=k
  ·simp[h,BI]
  ·simp only[h,Ajc,ih]
   simp[BI,Ajy h]
theorem FF(es:List (Int×β))(k:Int)(v:β)(j:Int):j∈BI (Af es k v)↔j=k∨j∈BI es:=by
 rw[QE]
 split
 ·rename_i h
  constructor
  ·exact .inr
  ·rintro (rfl|h2)
   ·exact h
   ·exact h2
 ·simp[or_comm]
theorem KS{es:List (Int×β)}(h:(BI es).Nodup)(k:Int)(v:β):(BI (Af es k v)).Nodup:=by
 rw[QE]
 split
 ·exact h
 ·rename_i hk
  rw[AlH]
  exact⟨h,by simp,fun a ha b hb=>by rintro rfl;simp at hb;exact hk (hb▸ha)⟩
end
def dd:List Int→List Int→List Int
 |ks,[]=>ks
 |ks,x::xs=>dd (if x∈ks then ks else ks++[x]) xs
theorem AiU:∀ (xs ks:List Int),(dd ks xs).length≤ks.length+xs.length∧((dd ks xs).length=ks.length+xs.length↔xs.Nodup∧∀ x∈xs,x∉ks):=by
 intro xs
 induction xs with
 |nil=>intro ks;simp[dd]
 |cons x xs ih=>
  intro ks
  rw[dd]
  by_cases h:x∈ks
  ·obtain⟨h1,_⟩:=ih ks
   rw[AjP h]
   refine⟨by simp only[AjR];omega,?_,fun hh=>absurd h (hh.2 x (by simp))⟩
   intro e
   simp only[AjR]at e
   omega
  ·obtain⟨h1,h2⟩:=ih (ks++[x])
   rw[AjQ h]
   simp only[AjS,AjR,Aji,AkI]at h1 h2 ⊢
   refine⟨by omega,?_⟩
   rw[show ks.length+(xs.length+1)=ks.length+1+xs.length by omega,h2,Aju]
   constructor
   ·rintro⟨g1,g2⟩
    refine⟨⟨fun hx=>g2 x hx (by simp),g1⟩,fun y hy => ?_⟩
    rcases AjN.1 hy with rfl|hy
    ·exact h
    ·exact fun hk=>g2 y hy (by simp[hk])
   ·rintro⟨⟨g1,g2⟩,g3⟩
    refine⟨g2,fun y hy hk => ?_⟩
    simp only[AjL,Ajk]at hk
    rcases hk with hk|rfl
    ·exact g3 y (by simp[hy]) hk
    ·exact g1 hy
theorem Aei(xs:List Int):(dd [] xs).length=xs.length↔xs.Nodup:=by
 have:=(AiU xs []).2
 simpa using this
theorem A0{α β ρ:Type}(g:β→α→α)(fin:α→ρ):∀ (xs:List β) (a:α),walk (fun x a=>.inl (g x a)) fin xs a=fin (xs.foldl (fun a x=>g x a) a):=by
 intro xs
 induction xs with
 |nil=>intro a;rfl
 |cons x xs ih=>intro a;rw[walk,Ajt];exact ih _
theorem PN{σ ρ β:Type}{step:σ→Option (σ⊕ρ)}(st:Nat→σ)(xs:List β)(P:β→Bool)(rt:Nat→ρ)(rf:ρ)(hs:xs.length<9223372036854775808)
  (h:∀ i x,i<xs.length→xs[i]? = some x→step (st i)=if P x then some (.inr (rt i))else some (.inl (st (i+1)))) (hN:step (st xs.length)=some (.inr rf)) :
  AS step many (st 0)=some (if xs.any P then rt (xs.findIdx P)else rf):=by
 have key:∀ (l:List β) (a:Nat),walk (fun x (a:Nat)=>if P x then .inr (rt a)else .inl (a+1)) (fun _=>rf) l a=if l.any P then rt (a+l.findIdx P)else rf:=by
  intro l
  induction l with
  |nil=>intro a;rfl
  |cons x l ih=>
   intro a
   rw[walk,List.any_cons,Alq]
   by_cases hx:P x=true
   ·simp[hx]
   ·simp only[hx,Ajf,Ajc,Bool.false_or,cond_false]
    rw[ih,show a+1+List.findIdx P l=a+(List.findIdx P l+1) by omega]
 have:=Bn (step:=step) (fun i (a:Nat)=>st a) xs (fun x (a:Nat)=>if P x then .inr (rt a)else .inl (a+1)) (fun _=>rf) (fun i a=>a=i) hs
  (fun i x a hi hx ha=>by
   subst ha
   refine⟨fun a' h' => ?_,fun r h' => ?_⟩
   ·rw[h a x hi hx]
    split at h'
    ·cases h'
    ·rename_i hp
     cases h'
     simp[hp]
   ·rw[h a x hi hx]
    split at h'
    ·rename_i hp
     cases h'
     simp[hp]
    ·cases h')
  (fun a ha=>by subst ha;exact hN) 0 rfl
 rw[this,key,AkI]
theorem Ae{α:Type}{xs:List α}{n:Nat}{x:α}(h:xs[n]? = some x):idx xs (n:Int)=some x:=by rw[Rv,h]
theorem Kg{α:Type}{xs:List α}{n:Nat}{x z:α}(h:xs[n]? = some x):AY xs (AN (n:Int)) z=x:=by
 rw[GG,AjI,h];rfl
theorem Ky{α:Type}{xs:List α}{h:Nat}(h2:h≤xs.length):Ce xs (0:Int) (h:Int)=some (xs.take h):=by
 have:=AIg (xs:=xs) (l:=0) (AmN h) h2
 simpa using this
theorem Gq{α:Type}{xs:List α}{l:Nat}(h1:l≤xs.length):Ce xs (l:Int) (AG xs)=some (xs.drop l):=by
 have:=AIg (xs:=xs) h1 (AjO _)
 rw[Akv]at this
 exact this
def pos(xs:List Int)(t:Int):Int:=if t∈xs then((xs.findIdx (fun x=>decide (x=t)):Nat):Int)else -1
theorem AXN(xs:List Int)(t:Int):(xs.any fun x=>decide (x=t))=decide (t∈xs):=by
 induction xs with
 |nil=>rfl
 |cons x xs ih=>simp only[List.any_cons,ih,AjN,Bool.decide_or];congr 1;exact AlN.2 eq_comm
theorem AJW{xs:List Int}{t:Int}(h:t∈xs):∃ k:Nat,pos xs t=(k:Int)∧k<xs.length∧xs[k]? = some t∧xs=xs.take k++t::xs.drop (k+1)∧t∉xs.take k:=by
 have hk:xs.findIdx (fun x=>decide (x=t))<xs.length:=AlZ.2 ⟨t,h,by simp⟩
 have hg:xs[xs.findIdx (fun x=>decide (x=t))]'hk=t:=by
  have:=List.findIdx_getElem (xs:=xs) (p:=fun x=>decide (x=t)) (w:=hk)
  simpa using this
 refine⟨_,by rw[pos,AjP h],hk,by rw[AjM hk,hg],?_,?_⟩
 ·conv=>lhs;rw[← AkF (xs.findIdx (fun x=>decide (x=t))) xs,AkC hk,hg]
 ·intro hm
  obtain⟨j,hj,e⟩:=AlP.1 hm
  have:=List.not_of_lt_findIdx (p:=fun x=>decide (x=t)) (xs:=xs) (i:=j) (by omega)
  simp[e]at this
theorem Ra{xs:List Int}{t:Int}(h:t∉xs):pos xs t = -1:=by rw[pos,AjQ h]
end Go.Pev.Pl
end
section
section
namespace Go.Pev.Pl
open Tok
def In(n v:Int):Prop:=1≤n∧n≤64∧0≤v∧v<n
instance (n v:Int):Decidable (In n v):=inferInstanceAs (Decidable (_∧_))
def Sz(n:Int):Prop:=1≤n∧n≤64
instance (n:Int):Decidable (Sz n):=inferInstanceAs (Decidable (_∧_))
theorem Kv(n:Int):Mo (n,())=some (decide (Sz n),()):=by
 rw[AGF,Q5]
 simp only[Ar]
 by_cases h1:1≤n<;>by_cases h2:n≤64<;>simp[Sz,h1,h2]
theorem Y1(n v:Int):tin (n,v,())=some (decide (In n v),()):=by
 rw[Abj,AVx]
 simp only[Kv,Ar,Ag]
 by_cases h1:1≤n<;>by_cases h2:n≤64<;>by_cases h3:0≤v<;>simp[In,Sz,h1,h2,h3]
def Ai3(n v:Int):Int:=if In n v then v else -1
def EB(n u v:Int):Int:=if In n u∧In n v∧u≠v then n*(u+1)+v else -1
theorem Fw{n u:Int}(h1:1≤n)(h2:n≤64)(h3:0≤u)(h4:u≤64):0≤n*u∧n*u≤4096:=by
 refine⟨Int.mul_nonneg (by omega) h3,?_⟩
 have:=Int.mul_le_mul h2 h4 h3 (by omega)
 omega
theorem AMT(n u v:Int):AXx (n,u,v,())=some (EB n u v,()):=by
 rw[AVy,AIf]
 simp only[Y1,EB,An]
 by_cases h3:u=v
 ·simp[h3]
 ·by_cases h1:In n u
  ·by_cases h2:In n v
   ·obtain⟨a1,a2,a3,a4⟩:=h1
    obtain⟨b1,b2,b3,b4⟩:=h2
    have hb:=Fw (u:=u+1) a1 a2 (by omega) (by omega)
    rw[Ai (n:=u+1) (by omega),Ai (n:=n*(u+1)) (by omega),Ai (n:=n*(u+1)+v) (by omega)]
    simp[In,a1,a2,a3,a4,b3,b4,h3]
   ·simp[h1,h2,h3]
  ·simp[h1,h3]
def CD(n t:Int):Option Tok:=
 if In n t then some (.ver t)
 else if Sz n∧n≤t∧t<n*(n+1)∧t/n-1≠t % n then some (.arc (t/n-1) (t % n))
 else none
def O4:Option Tok→Int×Int×Bool×Bool×Unit
 |some (.ver v)=>(v,0,false,true,())
 |some (.arc u v)=>(u,v,true,true,())
 |none=>(0,0,false,false,())
def Dg(n:Int):Tok→Int
 |.ver v=>v
 |.arc u v=>n*(u+1)+v
def okT(n:Int):Tok→Prop
 |.ver v=>In n v
 |.arc u v=>In n u∧In n v∧u≠v
theorem ZF{n u v:Int}(h1:In n u)(h2:In n v):n≤n*(u+1)+v∧n*(u+1)+v<n*(n+1)∧(n*(u+1)+v)/n=u+1∧(n*(u+1)+v) % n=v:=by
 obtain⟨a1,a2,a3,a4⟩:=h1
 obtain⟨b1,b2,b3,b4⟩:=h2
 have e2:n*(u+1)=n*u+n:=by rw[AmP,AmQ]
 have e3:n*(n+1)=n*n+n:=by rw[AmP,AmQ]
 have hb:=Fw (u:=u) a1 a2 (by omega) (by omega)
 have hle:n*(u+1)≤n*n:=Int.mul_le_mul_of_nonneg_left (by omega) (by omega)
 have hd:(n*(u+1)+v)/n=u+1:=by
  rw[Int.add_comm,Int.add_mul_ediv_left _ _ (by omega),Int.ediv_eq_zero_of_lt b3 b4];omega
 have hm:(n*(u+1)+v) % n=v:=by
  rw[Int.add_comm,Int.add_mul_emod_self_left,Int.emod_eq_of_lt b3 b4]
 exact⟨by omega,by omega,hd,hm⟩
theorem AK4{n t:Int}(hn:Sz n)(h1:n≤t)(h2:t<n*(n+1)):In n (t/n-1)∧In n (t % n)∧n*(t/n-1+1)+t % n=t:=by
 obtain⟨a1,a2⟩:=hn
 have g1:1≤t/n:=(Int.le_ediv_iff_mul_le (by omega)).2 (by omega)
 have g2:t/n<n+1:=(Int.ediv_lt_iff_lt_mul (by omega)).2 (by rw[Int.mul_comm];exact h2)
 have g3:=Int.emod_nonneg t (show n≠0 by omega)
 have g4:=Int.emod_lt_of_pos t (show 0<n by omega)
 have g5:=Int.mul_ediv_add_emod t n
 refine⟨⟨a1,a2,by omega,by omega⟩,⟨a1,a2,g3,g4⟩,?_⟩
 rw[Int.sub_add_cancel]
 exact g5
theorem Dr{n:Int}{t:Tok}(h:okT n t):CD n (Dg n t)=some t:=by
 cases t with
 |ver v=>simp only[okT]at h;simp[CD,Dg,h]
 |arc u v=>
  obtain⟨h1,h2,h3⟩:=h
  obtain⟨g1,g2,g3,g4⟩:=ZF h1 h2
  have hni:¬ In n (n*(u+1)+v):=fun h=>by have:=h.2.2.2;omega
  have:u+1-1=u:=by omega
  simp only[CD,Dg,hni,Ajc,g3,g4,this]
  rw[AjP ⟨⟨h1.1,h1.2.1⟩,g1,g2,h3⟩]
theorem WC{n x:Int}{t:Tok}(h:CD n x=some t):okT n t∧Dg n t=x:=by
 rw[CD]at h
 split at h
 ·cases h;exact⟨by assumption,rfl⟩
 ·split at h
  ·rename_i hh
   cases h
   obtain⟨d1,d2,d3⟩:=AK4 hh.1 hh.2.1 hh.2.2.1
   exact⟨⟨d1,d2,hh.2.2.2⟩,d3⟩
  ·cases h
theorem FZ{n u v:Int}(h:okT n (.arc u v)):EB n u v=Dg n (.arc u v):=by
 simp only[okT]at h
 rw[EB,AjP h];rfl
theorem Gi{n:Int}{a b:Tok}(ha:okT n a)(hb:okT n b)(h:Dg n a=Dg n b):a=b:=by
 have:=Dr ha
 rw[h,Dr hb]at this
 exact(AkR this).symm
theorem AQ3(n t:Int)(ht:-9223372036854775808≤t∧t≤9223372036854775807):Zp (n,t,())=some (O4 (CD n t)):=by
 rw[AGE,Q4]
 simp only[Kv]
 by_cases hs:Sz n
 ·obtain⟨a1,a2⟩:=hs
  have hb:=Fw (u:=n) a1 a2 (by omega) (by omega)
  have e3:n*(n+1)=n*n+n:=by rw[AmP,AmQ]
  rw[Ai (n:=n+1) (by omega),Ai (n:=n*(n+1)) (by omega)]
  simp only[Sz,a1,a2,and_self,AjV,AjT,Ag,Ar]
  by_cases h1:t<0
  ·have hni:¬ In n t:=fun h=>by have:=h.2.2.1;omega
   have h2:¬ n≤t:=by omega
   simp only[h1,AjV,CD,hni,Ajc,h2,AlU,and_false,O4]
  ·simp only[h1,Ajj]
   by_cases h2:n*(n+1)≤t
   ·have hni:¬ In n t:=fun h=>by have:=h.2.2.2;omega
    have h3:¬ t<n*(n+1):=by omega
    simp only[h2,AjV,CD,hni,Ajc,h3,AlU,and_false,O4]
   ·simp only[h2,Ajj]
    by_cases h3:t<n
    ·have hi:In n t:=⟨a1,a2,by omega,h3⟩
     simp only[h3,AjV,CD,hi,Ajw,O4]
    ·have hni:¬ In n t:=fun h=>h3 h.2.2.2
     have hq:t.tdiv n=t/n:=AlL (by omega)
     have hm:t.tmod n=t % n:=Int.tmod_eq_emod_of_nonneg (by omega)
     obtain⟨d1,d2,d3⟩:=AK4 (t:=t) ⟨a1,a2⟩ (by omega) (by omega)
     have q1:=d1.2.2.1
     have q2:=d1.2.2.2
     simp only[h3,Ajj,Ts,Tt,AJR,AA2]
     rw[AjQ (by omega),AjQ (by omega),hq,hm,Ai (n:=t/n) (by omega)]
     simp only[]
     rw[Ai (n:=t/n-1) (by omega),An,CD,AjQ hni]
     by_cases h4:t/n-1=t % n
     ·rw[AjQ (by intro h;exact h.2.2.2 h4),AjG h4];rfl
     ·rw[AjP ⟨⟨a1,a2⟩,by omega,by omega,h4⟩,AjF h4];rfl
 ·have hni:¬ In n t:=fun h=>hs ⟨h.1,h.2.1⟩
  simp only[hs,Ajj,Aj2,CD,hni,Ajc,AlU,O4]
theorem QI(xs ys:List Int)(hs:xs.length<9223372036854775808):IL (xs,ys,())=some (decide (xs=ys),()):=by
 rw[AHK,Rp,ACl]
 by_cases hl:xs.length=ys.length
 ·rw[AjG hl]
  simp only[AjT]
  rcases AMt (step:=E0) (fun i=>(xs,ys,((i:Nat):Int),())) xs.length (fun i => !decide (xs.getD i 0=ys.getD i 0)) (fun _=>.inl (false,())) (.inr (.inl ())) hs (fun i hi=>by
   rw[E0,AK,AL,AjG hi]
   simp (disch:=omega) only[Bs (0:Int),AM,An]
   by_cases h:xs.getD i 0=ys.getD i 0
   ·rw[AjG h];simp
   ·rw[AjF h];simp) (by rw[E0,AK,AL,AjF (by omega)])with⟨k,hk,hP,_,e⟩|⟨h,e⟩
  ·have e':AS E0 many (xs,ys,(0:Int),())=_:=e
   rw[e']
   have:xs≠ys:=Xk (0:Int) (j:=k) (by simpa using hP)
   simp[this]
  ·have e':AS E0 many (xs,ys,(0:Int),())=_:=e
   rw[e']
   have:xs=ys:=Bv (0:Int) hl fun j hj=>by simpa using h j hj
   simp[this]
 ·rw[AjF hl]
  have:xs≠ys:=fun e=>hl (by rw[e])
  simp[this]
def BT(n:Nat):List (List Int):=(List.range n).map fun(v:Nat)=>[(v:Int)]
theorem RA(n:Nat):BT (n+1)=BT n++[[(n:Int)]]:=by simp[BT,Ake]
theorem XG(n:Nat):(BT n).length=n:=by simp[BT]
theorem ARG(N:Nat)(hN:N≤64)(c:Int):∀ (k i n:Nat),i+k=N→k<n→AX Ht n (c,(N:Int),BT i,(N:Int),(i:Int),())=some (.inl (c,(N:Int),BT N,())):=by
 intro k
 induction k with
 |zero=>
  intro i n hi hn
  obtain⟨n,rfl⟩:∃ k,n=k+1:=⟨n-1,by omega⟩
  have:i=N:=by omega
  subst this
  rw[AX,Ht,AL,AjF (by omega)]
 |succ k ih=>
  intro i n hi hn
  obtain⟨n,rfl⟩:∃ k,n=k+1:=⟨n-1,by omega⟩
  rw[AX,Ht,AL,AjG (by omega)]
  simp only[AK,XG,AjR,Aji]
  rw[BK (by omega),AM (by omega)]
  simp only[DC,← RA]
  exact ih (i+1) n (by omega) (by omega)
def HQ(n:Int):Int×List (List Int)×Int×Unit:=if Sz n then(n,BT n.toNat,0,())else(0,[],1,())
theorem AGO(n:Int):AMQ (n,())=some (HQ n):=by
 have hm:4294967296<many:=by simp only[many];omega
 rw[AMP,Y0,HQ]
 simp only[Kv]
 by_cases h:Sz n
 ·obtain⟨h1,h2⟩:=h
  obtain⟨N,rfl⟩:=AjU (show 0≤n by omega)
  have hS:Sz (N:Int):=⟨by omega,by omega⟩
  have e:=ARG N (by omega) 0 N 0 many (by omega) (by omega)
  have e':AX Ht many (0,(N:Int),[],(N:Int),(0:Int),())=_:=e
  simp[hS,Au,e']
 ·simp[h]
end Go.Pev.Pl
end
section
namespace Go.Pev.Pl
theorem QJ(xs:List Int)(t:Int)(hs:xs.length<9223372036854775808):QK (xs,t,())=some (pos xs t,()):=by
 rw[AHO,Rr]
 have e:=PN (step:=Fz) (fun i=>(xs,t,AG xs,(i:Int),())) xs (fun x=>decide (x=t)) (fun i=>.inl ((i:Int),())) (.inr (.inl ())) hs
  (fun i x hi hx=>by
   rw[Fz,AK,AL,AjG hi]
   simp only[Ae hx,An]
   by_cases h:x=t
   ·simp[h]
   ·simp only[h,Ajy h,Ajj];rw[AM (by omega)];simp)
  (by rw[Fz,AK,AL,AjF (by omega)])
 have e':AS Fz many (xs,t,AG xs,(0:Int),())=_:=e
 rw[e',AXN,pos]
 by_cases h:t∈xs<;>simp[h]
theorem J5(xs:List Int)(t:Int)(hs:xs.length<9223372036854775808):GH (xs,t,())=some (decide (t∈xs),()):=by
 rw[SO,JP]
 simp only[QJ xs t hs,Ar]
 by_cases h:t∈xs
 ·obtain⟨k,e,_⟩:=AJW h
  rw[e];simp[h]
 ·rw[Ra h];simp[h]
def Rt(xs:List Int):Prop:=xs.length≤1000∧(∀ x∈xs,0≤x∧x≤10000)∧xs.Nodup
instance (xs:List Int):Decidable (Rt xs):=inferInstanceAs (Decidable (_∧_∧_))
theorem Rj(xs:List Int):xs.Nodup↔∀ i,i<xs.length→xs.getD i 0∉xs.take i:=by
 rw[List.Nodup,Akw]
 constructor
 ·intro h i hi hm
  obtain⟨j,hj,e⟩:=AlP.1 hm
  have:=h j i (by omega) hi (by omega)
  rw[AjI,AjM hi,Ajn]at e
  exact this e
 ·intro h i j hi hj hij e
  apply h j hj
  rw[AjI,AjM hj,Ajn,← e]
  exact AlP.2 ⟨i,by omega,rfl⟩
theorem AP0(xs:List Int)(hs:xs.length<9223372036854775808):ED (xs,())=some (xs.any (fun x=>decide (x<0)||decide (10000<x)),()):=by
 rw[Kh,EI,MT,FI]
 have e:=PN (step:=CA) (fun i=>(xs,AG xs,(i:Int),())) xs (fun x=>decide (x<0)||decide (10000<x)) (fun i=>.inl ((i:Int),())) (.inr (.inl ())) hs
  (fun i x hi hx=>by
   rw[CA,AK,AL,AjG hi]
   simp only[Ae hx,Ag]
   rw[AM (by omega)]
   by_cases h:x<0
   ·simp[h]
   ·by_cases h2:10000<x
    ·simp[h,h2]
    ·simp[h,h2])
  (by rw[CA,AK,AL,AjF (by omega)])
 have e':AS CA many (xs,AG xs,(0:Int),())=_:=e
 rw[e']
 generalize (xs.any fun x=>decide (x<0)||decide (10000<x))=b
 cases b<;>simp[Ar]
theorem AdR(xs:List Int)(hs:xs.length<9223372036854775808):once (xs,())=some (decide xs.Nodup,()):=by
 rw[AWg,AJz]
 have e:=Bn (step:=LG) (fun i m=>(xs,m,xs,AG xs,(i:Int),())) xs (fun x m=>.inl (Af m x (IntKind.wrap .i64 (((AP m x).getD (0:Int))+(1:Int))))) (fun m=>.inl (xs,m,())) (fun _ _=>True) hs
  (fun i x m hi hx _=>by
   refine⟨fun m' h' => ?_,fun r h'=>by cases h'⟩
   cases h'
   rw[LG,AK,AL,AjG hi]
   simp only[Ae hx]
   rw[AM (by omega)]
   exact⟨rfl,trivial⟩)
  (fun m _=>by rw[LG,AK,AL,AjF (by omega)]) [] trivial
 have e':AS LG many (xs,([]:List (Int×Int)),xs,AG xs,(0:Int),())=_:=e
 rw[e',A0]
 have key:∀ (l:List Int) (m:List (Int×Int)),BI (l.foldl (fun m x=>Af m x (IntKind.wrap .i64 (((AP m x).getD (0:Int))+(1:Int)))) m)=dd (BI m) l:=by
  intro l
  induction l with
  |nil=>intro m;rfl
  |cons x l ih=>intro m;rw[Ajt,ih,QE,dd]
 have hk:=key xs []
 generalize xs.foldl (fun m x=>Af m x (IntKind.wrap .i64 (((AP m x).getD (0:Int))+(1:Int)))) []=m at *
 simp only[ACl]
 have:m.length=(dd [] xs).length:=by rw[← VO,hk];rfl
 rw[this]
 simp only[Aei]
theorem K7(xs:List Int):K8 (xs,())=some (decide (Rt xs),()):=by
 rw[AGl,RN,AK,Ag]
 by_cases hl:xs.length≤1000
 ·rw[AjF (by omega)]
  simp only[AP0 xs (by omega),AdR xs (by omega)]
  have hany:(xs.any fun x=>decide (x<0)||decide (10000<x)) = !decide (∀ x∈xs,0≤x∧x≤10000):=by
   rw[Alb]
   simp only[AlX,AkW,AjJ,Akn,AkA]
   constructor
   ·rintro⟨x,hx,h⟩ hh
    have:=hh x hx
    omega
   ·intro h
    refine AkK fun hc=>h fun x hx => ?_
    refine AkK fun hn=>hc ⟨x,hx,by omega⟩
  rw[hany]
  by_cases h1:∀ x∈xs,0≤x∧x≤10000
  ·rw[AjG h1]
   by_cases h2:xs.Nodup
   ·rw[AjG h2,AjG (show Rt xs from⟨hl,h1,h2⟩)];rfl
   ·rw[AjF h2,AjF (show ¬ Rt xs from fun h=>h2 h.2.2)];rfl
  ·rw[AjF h1,AjF (show ¬ Rt xs from fun h=>h1 h.2.1)];rfl
 ·rw[AjG (by omega),AjF (show ¬ Rt xs from fun h=>hl h.1)]
def rot(xs:List Int)(k:Nat):List Int:=xs.drop k++xs.take k
theorem AaC(n:Nat)(hn:n<4294967296):APU ((n:Int),())=some ([],()):=by
 have e0:IntKind.wrap .i64 ((n:Int)-IntKind.wrap .i64 ((0:Int)-0))=(n:Int):=by rw[Ai (n:=(0:Int)-0) (by omega),Ai (by omega)];omega
 rw[APT,ZD]
 simp only[e0,Ag]
 rw[AjF (by omega)]
 simp only[]
 by_cases h:0<n
 ·rw[AjG (by omega)]
  have s1:Ce ([]:List Unit) (0:Int) (0:Int)=some []:=by rw[Y2];rfl
  have s2:Ce (EA (AN (n:Int)) (0:Int)) (0:Int) (0:Int)=some []:=by
   rw[Y2,PD,AjP (by omega)]
   simp
  have s3:D6 (n:Int)=true:=(E1 _).2 (by omega)
  simp only[s1,s2,s3]
  rfl
 ·rw[AjF (by omega)]
theorem JJ{α:Type}{xss:List (List α)}{i:Nat}{x:List α}(h:xss[i]? = some x):(xss.take (i+1)).flatten=(xss.take i).flatten++x:=by
 rw[List.take_add_one,h];simp
theorem MU{α:Type}(xss:List (List α))(i:Nat):(xss.take i).flatten.length≤xss.flatten.length:=by
 conv=>rhs;rw[← AkF i xss,List.flatten_append,AjS]
 omega
theorem Nr(xss:List (List Int))(hs:xss.length<4294967296)(h:xss.flatten.length<4294967296):JQ (xss,())=some (xss.flatten,()):=by
 rw[ADg,Oe]
 have e:=Bn (step:=EY) (fun i (a:Nat)=>(xss,(a:Int),xss,AG xss,(i:Int),())) xss (fun x a=>.inl (a+x.length)) (fun a=>.inl (xss,(a:Int),())) (fun i a=>a=(xss.take i).flatten.length) (by omega)
  (fun i x a hi hx ha=>by
   refine⟨fun m' h' => ?_,fun r h'=>by cases h'⟩
   cases h'
   have h1:=JJ hx
   have h2:=MU xss (i+1)
   rw[h1,AjS]at h2
   rw[EY]
   simp only[AK]
   rw[AL,AjG hi]
   simp only[Ae hx]
   rw[wrap_add (by omega),AM (by omega),Ag,AjF (by omega)]
   exact⟨rfl,by rw[h1,AjS,ha]⟩)
  (fun a _=>by rw[EY,AK,AL,AjF (by omega)]) 0 rfl
 have e':AS EY many (xss,(0:Int),xss,AG xss,(0:Int),())=_:=e
 rw[e',A0]
 have hsum:∀ (l:List (List Int)) (a:Nat),l.foldl (fun a x=>a+x.length) a=a+l.flatten.length:=by
  intro l
  induction l with
  |nil=>intro a;rfl
  |cons x l ih=>intro a;rw[Ajt,ih,AlS,AjS];omega
 rw[hsum,AkI]
 simp only[AaC _ h]
 have g:=Bn (step:=EX) (fun i (a:List Int)=>(a,xss,AG xss,(i:Int),())) xss (fun x a=>.inl (a++x)) (fun a=>.inl (a,())) (fun i a=>a=(xss.take i).flatten) (by omega)
  (fun i x a hi hx ha=>by
   refine⟨fun m' h' => ?_,fun r h'=>by cases h'⟩
   cases h'
   have h1:=JJ hx
   have h2:=MU xss (i+1)
   rw[h1,AjS]at h2
   rw[EX]
   simp only[AK]
   rw[AL,AjG hi]
   simp only[Ae hx]
   rw[AM (by omega),BK (by rw[ha];omega)]
   exact⟨rfl,by rw[h1,ha]⟩)
  (fun a _=>by rw[EX,AK,AL,AjF (by omega)]) [] rfl
 have g':AS EX many ([],xss,AG xss,(0:Int),())=_:=g
 rw[g',A0]
 have hcat:∀ (l:List (List Int)) (a:List Int),l.foldl (fun a x=>a++x) a=a++l.flatten:=by
  intro l
  induction l with
  |nil=>intro a;simp
  |cons x l ih=>intro a;rw[Ajt,ih,AlS,AkU]
 rw[hcat]
 rfl
theorem Zi(xs:List Int)(k:Nat)(hk:k≤xs.length)(hs:xs.length<2147483648):TO (xs,(k:Int),())=some (rot xs k,()):=by
 rw[AGD,Q3]
 simp only[Gq hk,Ky hk]
 rw[Nr _ (by simp) (by simp;omega)]
 simp[rot]
def A6(xs:List Int)(t:Int):List Int:=rot xs (xs.findIdx (fun x=>decide (x=t)))
def JI(xs:List Int)(t:Int):List Int×Bool×Unit:=if Rt xs∧t∈xs then(A6 xs t,true,())else([],false,())
theorem AAs{xs:List Int}{t:Int}(h:t∈xs):∃ a b,xs=a++t::b∧t∉a∧A6 xs t=t::b++a:=by
 obtain⟨k,e,hk,hg,h1,h2⟩:=AJW h
 rw[pos,AjP h]at e
 have e':xs.findIdx (fun x=>decide (x=t))=k:=by omega
 refine⟨_,_,h1,h2,?_⟩
 rw[A6,e',rot]
 congr 1
 rw[AkC hk]
 congr 1
 simpa [hk]using hg
theorem AGn(xs:List Int)(t:Int):AGo (xs,t,())=some (JI xs t):=by
 rw[ANF,Y5,AGx,Rc,JI]
 simp only[K7]
 by_cases hr:Rt xs
 ·have hl:=hr.1
  simp only[hr,AjV,AjT,Alf]
  have e:AS Es many (xs,[],[t],AG [t],(0:Int),())=some (.inl ([pos xs t],())):=by
   have g:=Bn (step:=Es) (fun i (a:List Int)=>(xs,a,[t],AG [t],(i:Int),())) [t] (fun x a=>.inl (a++[pos xs x])) (fun a=>.inl (a,())) (fun i a=>a.length=i) (by simp)
    (fun i x a hi hx ha=>by
     refine⟨fun m' h' => ?_,fun r h'=>by cases h'⟩
     cases h'
     rw[Es,AK,AL,AjG hi]
     simp only[Ae hx,QJ xs x (by omega)]
     simp only[AjR,Aji]at hi
     rw[AM (by omega),BK (by simp only[AK,AjR,Aji];omega)]
     exact⟨rfl,by simp[ha]⟩)
    (fun a _=>by rw[Es,AK,AL,AjF (by omega)]) [] rfl
   have g':AS Es many (xs,[],[t],AG [t],(0:Int),())=_:=g
   rw[g'];rfl
  rw[e]
  simp only[J5 [pos xs t] (-1) (by simp)]
  by_cases h:t∈xs
  ·have hk:xs.findIdx (fun x=>decide (x=t))<xs.length:=AlZ.2 ⟨t,h,by simp⟩
   rw[pos,AjP h,AjP h,A6]
   generalize xs.findIdx (fun x=>decide (x=t))=k at *
   rw[AjF (by simp)]
   have i0:idx [(k:Int)] (0:Int)=some (k:Int):=by rw[Gy];rfl
   have d0:AY [(k:Int)] 0 (0:Int)=(k:Int):=rfl
   simp only[Aj2,AjT,i0,d0,Zi xs k (by omega) (by omega)]
  ·rw[Ra h,AjQ h]
   simp
 ·simp[hr]
def Gw:List Int→Int
 |[]=>0
 |x::xs=>xs.foldl (fun a y=>Ci a y) x
theorem AUa:∀ (xs:List Int) (a:Int),(xs.foldl (fun a y=>Ci a y) a)≤a∧(∀ x∈xs,xs.foldl (fun a y=>Ci a y) a≤x)∧(xs.foldl (fun a y=>Ci a y) a=a∨xs.foldl (fun a y=>Ci a y) a∈xs):=by
 intro xs
 induction xs with
 |nil=>intro a;simp
 |cons x xs ih=>
  intro a
  rw[Ajt]
  obtain⟨h1,h2,h3⟩:=ih (Ci a x)
  have hm:Ci a x≤a∧Ci a x≤x∧(Ci a x=a∨Ci a x=x):=by
   rw[Ci];split<;>omega
  refine⟨by omega,fun y hy => ?_,?_⟩
  ·rcases AjN.1 hy with rfl|hy
   ·omega
   ·exact h2 y hy
  ·rcases h3 with h|h
   ·rcases hm.2.2 with e|e
    ·exact .inl (by rw[h,e])
    ·exact .inr (by rw[h,e];simp)
   ·exact .inr (Ajh _ h)
theorem Ez{xs:List Int}(h:xs≠[]):Gw xs∈xs∧∀ x∈xs,Gw xs≤x:=by
 cases xs with
 |nil=>exact absurd rfl h
 |cons x xs=>
  obtain⟨h1,h2,h3⟩:=AUa xs x
  refine⟨?_,fun y hy => ?_⟩
  ·rcases h3 with h|h
   ·rw[Gw,h];simp
   ·exact Ajh _ h
  ·rcases AjN.1 hy with rfl|hy
   ·exact h1
   ·exact h2 y hy
theorem AgW{xs:List Int}{m:Int}(h1:m∈xs)(h2:∀ x∈xs,m≤x):Gw xs=m:=by
 obtain⟨g1,g2⟩:=Ez (List.ne_nil_of_mem h1)
 have:=g2 m h1
 have:=h2 _ g1
 omega
theorem AOj(xs:List Int)(h:xs≠[])(hs:xs.length<9223372036854775808):AZO (xs,())=some (Gw xs,()):=by
 cases xs with
 |nil=>exact absurd rfl h
 |cons x xs=>
  rw[AWn,AJ5,AK,Ag,AjF (by simp only[AjR];omega)]
  have i0:idx (x::xs) (0:Int)=some x:=by rw[Gy];rfl
  simp only[i0]
  simp only[AjR]at hs
  have e:=Bn (step:=LL) (fun i (a:Int)=>(x::xs,a,((i+1:Nat):Int),())) xs (fun y a=>.inl (Ci a y)) (fun a=>.inl (a,())) (fun _ _=>True) (by omega)
   (fun i y a hi hy _=>by
    refine⟨fun m' h' => ?_,fun r h'=>by cases h'⟩
    cases h'
    rw[LL,AK,AL,AjG (by simp only[AjR];omega)]
    simp only[Ae (xs:=x::xs) (n:=i+1) (by simpa using hy)]
    rw[AM (by omega)]
    exact⟨rfl,trivial⟩)
   (fun a _=>by rw[LL,AK,AL,AjF (by simp)]) x trivial
  have e':AS LL many (x::xs,x,(1:Int),())=_:=e
  rw[e',A0]
  rfl
def plain(xs:List Int):List Int:=if Rt xs∧xs≠[]then A6 xs (Gw xs)else []
theorem AR8(xs:List Int):AAq (xs,())=some (plain xs,()):=by
 rw[AGm,RO,plain]
 simp only[K7]
 by_cases hr:Rt xs
 ·have hl:=hr.1
  simp only[hr,AjV,AjT,Alf]
  by_cases h:xs=[]
  ·subst h;simp[AK,B9]
  ·have hp:0<xs.length:=List.length_pos_iff.2 h
   rw[AK,An,AjF (by omega)]
   have hm:=(Ez h).1
   have hk:xs.findIdx (fun x=>decide (x=Gw xs))<xs.length:=AlZ.2 ⟨_,hm,by simp⟩
   simp only[AOj xs h (by omega),QJ xs _ (show xs.length<9223372036854775808 by omega)]
   rw[pos,AjP hm,AjP (by simpa using h),A6]
   simp only[Zi xs _ (Ak8 hk) (by omega)]
 ·simp[hr]
theorem H7{xs:List Int}(hr:Rt xs)(h:xs≠[]):∃ a b,xs=a++Gw xs::b∧plain xs=Gw xs::b++a:=by
 obtain⟨a,b,h1,_,h2⟩:=AAs (Ez h).1
 exact⟨a,b,h1,by rw[plain,AjP ⟨hr,h⟩,h2]⟩
end Go.Pev.Pl
end
section
namespace Go.Pev.Pl
open Tok
def TI(n:Int)(xs:List Int):Prop:=∃ L,xs=L.map (Dg n)∧(∀ t∈L,okT n t)∧T L
noncomputable instance (n:Int) (xs:List Int):Decidable (TI n xs):=Classical.propDecidable _
abbrev AVh:=List Int×List (Int×Int)×List (Int×Int)
abbrev Ahf:=(Bool×Unit)⊕(List Int×List (Int×Int)×List (Int×Int)×Unit)⊕Unit
def goF(n x:Int)(s:AVh):AVh⊕Ahf:=
 match CD n x with
 |none=>.inr (.inl (false,()))
 |some t=>match Tok.step (s.1,BI s.2.1) t with
  |none=>.inr (.inl (false,()))
  |some s'=>match t with
   |.ver v=>.inl (s'.1,s.2.1,Af s.2.2 v (IntKind.wrap .i64 (((AP s.2.2 v).getD (0:Int))+(1:Int))))
   |.arc _ v=>.inl (s'.1,if v∈BI s.2.1 then s.2.1 else Af s.2.1 v 1,s.2.2)
def one(came:List (Int×Int)):Prop:=∀ k,(0<(AP came k).getD (0:Int))↔k∈BI came
theorem AZD{came:List (Int×Int)}(h:one came)(v:Int):one (Af came v 1):=by
 intro k
 rw[Dv,FF]
 by_cases e:k=v
 ·simp[e]
 ·simp only[e,Ajc,false_or];exact h k
theorem AaI(n:Int)(xs:List Int)(i:Nat)(x:Int)(hx:xs[i]? = some x)(hi:i<xs.length)(hl:xs.length<4294967296)(hxr:-9223372036854775808≤x∧x≤9223372036854775807)
  (w:Int) (r:List Int) (came met:List (Int×Int)) (hr:r.length<4294967295) (hc:one came) (hsub:∀ y∈w::r,y∈BI came) :
  JH (n,(w::r).reverse,came,met,xs,AG xs,(i:Int),())=match goF n x (w::r,came,met)with
   |.inl s=>some (.inl (n,s.1.reverse,s.2.1,s.2.2,xs,AG xs,((i+1:Nat):Int),()))
   |.inr y=>some (.inr y):=by
 have hd:AG ((w::r).reverse)=((r.length+1:Nat):Int):=by simp[AK]
 have e1:IntKind.wrap .i64 (((r.length+1:Nat):Int)-1)=(r.length:Int):=by rw[BG (by omega)];rfl
 have i1:idx ((w::r).reverse) (r.length:Int)=some w:=by rw[Rv];simp
 have g1:AY ((w::r).reverse) (AN (r.length:Int)) (0:Int)=w:=by rw[GG];simp
 have f1:∀ v:Int,fits (AG ((w::r).reverse)+AG [v])=true:=fun v=>BK (by rw[hd,AK];simp only[AjR,Aji];omega)
 have ap:∀ v:Int,A2 ((w::r).reverse) [v]=(v::w::r).reverse:=fun v=>by simp[DC]
 rw[JH,AK,AL,AjG hi]
 rw[AK]at hd
 simp only[Ae hx,AQ3 n x hxr,goF]
 cases ht:CD n x with
 |none=>rfl
 |some t=>
  cases t with
  |ver v=>
   simp only[O4,AjT,Aj2,AK,hd,e1,i1,g1,An,Tok.step]
   rw[AM (by omega)]
   by_cases h:w=v
   ·simp[h]
   ·simp[h]
  |arc u v=>
   simp only[O4,AjT,AK,hd,e1,i1,g1,An,Tok.step]
   rw[AM (by omega)]
   by_cases h:w=u
   ·subst h
    rw[AjG rfl]
    simp only[AjT]
    cases r with
    |nil=>
     have z:ilt (0:Int) ((([]:List Int).length:Nat):Int)=false:=by rw[Ag];rfl
     simp only[z]
     rw[Ag]
     have hcv:=hc v
     by_cases hv:v∈BI came
     ·rw[AjG (hcv.2 hv)]
      simp[hv]
     ·rw[AjF (fun h=>hv (hcv.1 h))]
      have f2:=f1 v
      rw[AK,hd]at f2
      have hz:(AP came v).getD (0:Int)=0:=by rw[(Xm came v).2 hv];rfl
      have w1:IntKind.wrap .i64 ((0:Int)+1)=1:=by rw[Ai (by omega)];rfl
      rw[AK]at f2
      simp only[f2,ap v,hz,w1,hv,Ajc,Ajw]
    |cons p r=>
     have z:ilt (0:Int) (((p::r).length:Nat):Int)=true:=by rw[Ag,AjG (by simp only[AjR];omega)]
     have e2:IntKind.wrap .i64 ((((p::r).length:Nat):Int)-1)=(r.length:Int):=by
      rw[BG (by simp only[AjR]at hr ⊢;omega)];rfl
     have i2:idx ((w::p::r).reverse) (r.length:Int)=some p:=by rw[Rv];simp
     have g2:AY ((w::p::r).reverse) (AN (r.length:Int)) (0:Int)=p:=by rw[GG];simp
     simp only[z,e2,i2,g2]
     by_cases hp:p=v
     ·subst hp
      rw[AjG rfl]
      have hmem:p∈BI came:=hsub p (by simp)
      have s1:Ce ((w::p::r).reverse) (0:Int) (((p::r).length:Nat):Int)=some ((p::r).reverse):=by
       rw[Ky (by simp)]
       rw[List.reverse_cons,AmA (by simp)]
      have t1:Bp (AN (((p::r).reverse.length:Nat):Int)) ((w::p::r).reverse)=(p::r).reverse:=by
       rw[Bp,GF,List.reverse_cons (a:=w),AmA rfl]
      simp only[s1,t1,hmem,Ajw]
     ·rw[AjF hp]
      simp only[hp,Ajc]
      rw[Ag]
      have hcv:=hc v
      by_cases hv:v∈BI came
      ·rw[AjG (hcv.2 hv)]
       simp[hv]
      ·rw[AjF (fun h=>hv (hcv.1 h))]
       have f2:=f1 v
       rw[AK,hd]at f2
       have hz:(AP came v).getD (0:Int)=0:=by rw[(Xm came v).2 hv];rfl
       have w1:IntKind.wrap .i64 ((0:Int)+1)=1:=by rw[Ai (by omega)];rfl
       rw[AK]at f2
       simp only[f2,ap v,hz,w1,hv,Ajc,Ajw]
   ·rw[AjF h]
    simp[h]
end Go.Pev.Pl
end
section
namespace Go.Pev.Pl
open Tok
theorem DO{a b:List Int}(ha:a.Nodup)(h:∀ x∈a,x∈b):a.length≤b.length:=by
 induction a generalizing b with
 |nil=>simp
 |cons x a ih=>
  obtain⟨b1,b2,rfl⟩:=AmD (h x (by simp))
  rw[Aju]at ha
  have:=ih (b:=b1++b2) ha.2 fun y hy=>by
   have:=h y (Ajh _ hy)
   simp only[AjL,AjN]at this ⊢
   rcases this with h|rfl|h
   ·exact .inl h
   ·exact absurd hy ha.1
   ·exact .inr h
  simp only[AjS,AjR]at this ⊢
  omega
theorem Ri{a b:List Int}(ha:a.Nodup)(h:∀ x∈a,x∈b)(hl:b.length≤a.length):∀ x∈b,x∈a:=by
 intro x hx
 refine AkK fun hn => ?_
 have:=DO (a:=x::a) (b:=b) (Aju.2 ⟨hn,ha⟩) fun y hy=>by
  rcases AjN.1 hy with rfl|hy
  ·exact hx
  ·exact h y hy
 simp only[AjR]at this
 omega
theorem AAB{way c c2:List Int}(h:∀ x,x∈c↔x∈c2)(t:Tok):
  (Tok.step (way,c) t=none↔Tok.step (way,c2) t=none)∧∀ w1 c1,Tok.step (way,c) t=some (w1,c1)→∃ c1',Tok.step (way,c2) t=some (w1,c1')∧∀ x,x∈c1↔x∈c1':=by
 cases t with
 |ver v=>
  cases way with
  |nil=>simp[Tok.step]
  |cons w r=>
   by_cases e:w=v
   ·simp only[Tok.step,e,Ajw]
    exact⟨by simp,fun w1 c1 hh=>by cases hh;exact⟨c2,rfl,h⟩⟩
   ·simp[Tok.step,e]
 |arc u v=>
  cases way with
  |nil=>simp[Tok.step]
  |cons w r=>
   by_cases e:w=u
   ·cases r with
    |nil=>
     by_cases hv:v∈c
     ·simp[Tok.step,e,hv,(h v).1 hv]
     ·have hv2:v∉c2:=fun q=>hv ((h v).2 q)
      simp only[Tok.step,e,Ajw,hv,hv2,Ajc]
      exact⟨by simp,fun w1 c1 hh=>by cases hh;exact⟨v::c2,rfl,fun x=>by simp[h]⟩⟩
    |cons p r=>
     by_cases e2:p=v
     ·simp only[Tok.step,e,Ajw,e2]
      exact⟨by simp,fun w1 c1 hh=>by cases hh;exact⟨c2,rfl,h⟩⟩
     ·by_cases hv:v∈c
      ·simp[Tok.step,e,e2,hv,(h v).1 hv]
      ·have hv2:v∉c2:=fun q=>hv ((h v).2 q)
       simp only[Tok.step,e,Ajw,e2,hv,hv2,Ajc]
       exact⟨by simp,fun w1 c1 hh=>by cases hh;exact⟨v::c2,rfl,fun x=>by simp[h]⟩⟩
   ·simp[Tok.step,e]
structure GI(s:AVh):Prop where
 ne:s.1≠[]
 one:one s.2.1
 sub:∀ y∈s.1,y∈BI s.2.1
 nc:(BI s.2.1).Nodup
 nm:(BI s.2.2).Nodup
theorem AXB{n x:Int}{s s':AVh}(hi:GI s)(h:goF n x s = .inl s'):
  GI s'∧s'.1.length≤s.1.length+1∧∃ t c1,CD n x=some t∧Tok.step (s.1,BI s.2.1) t=some (s'.1,c1)∧(∀ x,x∈c1↔x∈BI s'.2.1)∧(∀ y,y∈BI s'.2.2↔y∈BI s.2.2∨Tok.ver y=t):=by
 rw[goF]at h
 cases ht:CD n x with
 |none=>rw[ht]at h;cases h
 |some t=>
  rw[ht]at h
  simp only at h
  cases hs:Tok.step (s.1,BI s.2.1) t with
  |none=>rw[hs]at h;cases h
  |some q=>
   obtain⟨w1,c1⟩:=q
   rw[hs]at h
   rcases B7 hs with⟨v,r,rfl,hw,e⟩|⟨u,v,r,rfl,hw,e⟩|⟨u,v,r,rfl,hw,hh,hn,e⟩
   ·cases h
    cases e
    refine⟨⟨hi.ne,hi.one,hi.sub,hi.nc,KS hi.nm _ _⟩,by simp,_,_,rfl,hs,fun x=>Iff.rfl,fun y => ?_⟩
    rw[FF]
    simp[or_comm]
   ·cases h
    cases e
    simp only at hw
    have hv:v∈BI s.2.1:=hi.sub v (by rw[hw];simp)
    simp only[hv,Ajw]
    refine⟨⟨by simp,hi.one,fun y hy=>hi.sub y (by rw[hw];exact Ajh _ hy),hi.nc,hi.nm⟩,by rw[hw];simp,_,_,rfl,hs,fun x=>Iff.rfl,fun y=>by simp⟩
   ·cases h
    cases e
    simp only at hw hn
    simp only[hn,Ajc]
    refine⟨⟨by simp,AZD hi.one v,fun y hy => ?_,KS hi.nc _ _,hi.nm⟩,by rw[hw];simp,_,_,rfl,hs,fun x => ?_,fun y=>by simp⟩
    ·rw[FF]
     rcases AjN.1 hy with rfl|hy
     ·exact .inl rfl
     ·exact .inr (hi.sub y (by rw[hw];exact hy))
    ·rw[FF,AjN]
def APX(s:AVh):Ahf:=.inr (.inl (s.1.reverse,s.2.1,s.2.2,()))
theorem AaG(n:Int):∀ (xs:List Int) (s:AVh) (c:List Int),GI s→(∀ x,x∈c↔x∈BI s.2.1) →
  (∃ L s' c',xs=L.map (Dg n)∧(∀ t∈L,okT n t)∧run (s.1,c) L=some (s'.1,c')∧walk (goF n) APX xs s=APX s'∧GI s'∧(∀ x,x∈c'↔x∈BI s'.2.1)∧(∀ x,x∈BI s'.2.2↔x∈BI s.2.2∨Tok.ver x∈L)) ∨
  (walk (goF n) APX xs s = .inl (false,())∧∀ L,xs=L.map (Dg n)→(∀ t∈L,okT n t)→run (s.1,c) L=none):=by
 intro xs
 induction xs with
 |nil=>intro s c hi hc;exact .inl ⟨[],s,c,rfl,by simp,rfl,rfl,hi,hc,by simp⟩
 |cons x xs ih=>
  intro s c hi hc
  rw[walk]
  have bad:∀ {t},CD n x=some t→Tok.step (s.1,BI s.2.1) t=none→∀ L,x::xs=L.map (Dg n)→(∀ t∈L,okT n t)→run (s.1,c) L=none:=by
   intro t ht hs L hL hok
   cases L with
   |nil=>cases hL
   |cons t' L=>
    simp only[Ajr,Aje]at hL
    have h1:=Dr (hok t' (by simp))
    rw[← hL.1,ht]at h1
    cases h1
    rw[A3,((AAB hc t).1).2 hs]
    rfl
  cases hg:goF n x s with
  |inr r=>
   simp only
   have hr:r = .inl (false,())∧∀ L,x::xs=L.map (Dg n)→(∀ t∈L,okT n t)→run (s.1,c) L=none:=by
    rw[goF]at hg
    cases ht:CD n x with
    |none=>
     rw[ht]at hg
     cases hg
     refine⟨rfl,fun L hL hok => ?_⟩
     cases L with
     |nil=>cases hL
     |cons t' L=>
      simp only[Ajr,Aje]at hL
      have h1:=Dr (hok t' (by simp))
      rw[← hL.1,ht]at h1
      cases h1
    |some t=>
     rw[ht]at hg
     simp only at hg
     cases hs:Tok.step (s.1,BI s.2.1) t with
     |none=>rw[hs]at hg;cases hg;exact⟨rfl,bad ht hs⟩
     |some q=>
      rw[hs]at hg
      cases t<;>cases hg
   rw[hr.1]
   exact .inr ⟨rfl,hr.2⟩
  |inl s'=>
   simp only
   obtain⟨hi',_,t,c1,ht,hs,hcc,hm⟩:=AXB hi hg
   obtain⟨c1',hs',hcc'⟩:=(AAB (c:=BI s.2.1) (c2:=c) (fun x=>(hc x).symm) t).2 _ _ hs
   obtain⟨g1,g2⟩:=WC ht
   rcases ih s' c1' hi' (fun x=>(hcc' x).symm.trans (hcc x))with⟨L,s2,c2,a1,a2,a3,a4,a5,a6,a7⟩|⟨a1,a2⟩
   ·refine .inl ⟨t::L,s2,c2,by simp[g2,a1],?_,by rw[A3,hs'];exact a3,a4,a5,a6,fun y => ?_⟩
    ·intro y hy
     rcases AjN.1 hy with rfl|hy
     ·exact g1
     ·exact a2 y hy
    ·rw[a7,hm,AjN,or_assoc]
   ·refine .inr ⟨a1,fun L hL hok => ?_⟩
    cases L with
    |nil=>cases hL
    |cons t' L=>
     simp only[Ajr,Aje]at hL
     have h1:=Dr (hok t' (by simp))
     rw[← hL.1,ht]at h1
     cases h1
     rw[A3,hs']
     exact a2 L hL.2 fun y hy=>hok y (Ajh _ hy)
theorem AR5:∀ {l:List Tok} {s s':List Int×List Int},run s l=some s'→s'.1.getLast? = s.1.getLast? := by
 intro l
 induction l with
 |nil=>intro s s' h;cases h;rfl
 |cons t l ih=>
  intro s s' h
  rw[A3,Ajz]at h
  obtain⟨s1,h1,h2⟩:=h
  rw[ih h2]
  rcases B7 h1 with⟨v,r,rfl,hw,rfl⟩|⟨u,v,r,rfl,hw,rfl⟩|⟨u,v,r,rfl,hw,hh,hn,rfl⟩
  ·rfl
  ·rw[hw,AmI]
  ·rw[hw,AmI]
theorem AcL:∀ {l:List Tok} {s s':List Int×List Int},run s l=some s'→Tok.Inv s→∀ x,Tok.ver x∈l→x∈s'.2:=by
 intro l
 induction l with
 |nil=>intro s s' _ _ x hx;cases hx
 |cons t l ih=>
  intro s s' h hi x hx
  rw[A3,Ajz]at h
  obtain⟨s1,h1,h2⟩:=h
  obtain⟨i1,i2,i3⟩:=AAA h1 hi
  rcases AjN.1 hx with rfl|hx
  ·have:=(I2 h2 i1).2.1
   refine this x (i1.2 x ?_)
   simp only[st]at i3
   exact List.mem_of_head? i3
  ·exact ih h2 i1 x hx
theorem AZZ{n:Int}{L:List Tok}(h:(L.map (Dg n)).Nodup):L.Nodup:=by
 rw[List.Nodup,Akq]at h
 exact h.imp fun h e=>h (by rw[e])
theorem AXO{n x:Int}{xs:List Int}(h:TI n (x::xs))(hm:Gw (x::xs)=x):In n x:=by
 obtain⟨L,h1,h2,h3⟩:=h
 obtain⟨v,r,hr⟩:=h3.AP1
 have hv:Tok.ver v∈L:=(hr.mem _).2 (by simp)
 have hvx:v∈x::xs:=by rw[h1];exact Aja.2 ⟨_,hv,rfl⟩
 have h4:=(Ez (xs:=x::xs) (by simp)).2 v hvx
 rw[hm]at h4
 have h5:=(h2 _ hv).2.2.2
 cases L with
 |nil=>cases h1
 |cons t L=>
  simp only[Ajr,Aje]at h1
  have h6:=h2 t (by simp)
  cases t with
  |ver w=>rw[h1.1];exact h6
  |arc p q=>
   have:=(ZF h6.1 h6.2.1).1
   have e:x=n*(p+1)+q:=h1.1
   omega
theorem AeI(n:Int)(xs:List Int)(h0:xs≠[])(hs:xs.length<2147483648)(hr:∀ x∈xs, -9223372036854775808≤x∧x≤9223372036854775807)(hn:xs.Nodup)(hm:∀ x,xs.head? = some x→Gw xs=x):
  goes (n,xs,())=some (decide (TI n xs),()):=by
 cases xs with
 |nil=>exact absurd rfl h0
 |cons x0 tl=>
  rw[AXA,AKp]
  have i0:idx (x0::tl) (0:Int)=some x0:=by rw[Gy];rfl
  simp only[i0,Y1]
  by_cases hin:In n x0
  ·rw[AjG hin]
   simp only[AjT]
   have hS:GI ([x0],Af [] x0 1,[]):=by
    refine⟨by simp,fun k => ?_,fun y hy => ?_,?_,by simp[BI]⟩
    ·have:AP (Af ([]:List (Int×Int)) x0 1) k=if k=x0 then some 1 else none:=by rw[Dv];rfl
     rw[this]
     by_cases e:k=x0<;>simp[e,Af,BI]
    ·simp at hy;subst hy;simp[Af,BI]
    ·simp[Af,BI]
   have e:=Bn (step:=JH) (fun i (s:AVh)=>(n,s.1.reverse,s.2.1,s.2.2,x0::tl,AG (x0::tl),(i:Int),())) (x0::tl) (goF n) APX (fun i s=>GI s∧s.1.length≤i+1) (by omega)
    (fun i x s hi hx ⟨hI,hlen⟩=>by
     obtain⟨way,came,met⟩:=s
     cases way with
     |nil=>exact absurd rfl hI.ne
     |cons w r=>
      have hst:=AaI n (x0::tl) i x hx hi (by omega) (hr x (AjW hx)) w r came met (by simp only[AjR]at hlen hi hs;omega) hI.one hI.sub
      refine⟨fun s' h' => ?_,fun y h' => ?_⟩
      ·rw[h']at hst
       obtain⟨g1,g2,_⟩:=AXB hI h'
       refine⟨hst,g1,?_⟩
       simp only at g2 hlen
       omega
      ·rw[h']at hst
       exact hst)
    (fun s _=>by rw[JH,AK,AL,AjF (by omega)];rfl) ([x0],Af [] x0 1,[]) ⟨hS,by simp⟩
   have e':AS JH many (n,[x0],Af [] x0 1,[],x0::tl,AG (x0::tl),(0:Int),())=_:=e
   rw[e']
   have hk0:BI (Af ([]:List (Int×Int)) x0 1)=[x0]:=rfl
   rcases AaG n (x0::tl) ([x0],Af [] x0 1,[]) [x0] hS (fun x=>by rw[hk0])with⟨L,s',c',a1,a2,a3,a4,a5,a6,a7⟩|⟨a1,a2⟩
   ·rw[a4]
    obtain⟨t,L',rfl⟩:∃ t L',L=t::L':=by cases L with
     |nil=>cases a1
     |cons t L'=>exact⟨t,L',rfl⟩
    have ht:t = .ver x0:=by
     have h1:=Dr (a2 t (by simp))
     simp only[Ajr,Aje]at a1
     rw[← a1.1,CD,AjP hin]at h1
     exact(AkR h1).symm
    subst ht
    have hLn:(Tok.ver x0::L').Nodup:=AZZ (n:=n) (by rw[← a1];exact hn)
    have hbot:=AR5 a3
    have hvs:=AcL a3 (Ou x0)
    have hk:(BI s'.2.2).length≤(BI s'.2.1).length:=DO a5.nm fun x hx=>by
     have:=(a7 x).1 hx
     simp only[BI,AlA,AlC,false_or]at this
     exact(a6 x).1 (hvs x this)
    have hiff:(s'.1.length=1∧(BI s'.2.2).length=(BI s'.2.1).length)↔TI n (x0::tl):=by
     constructor
     ·rintro⟨l1,l2⟩
      obtain⟨w,hw⟩:=List.length_eq_one_iff.1 l1
      rw[hw]at hbot a3
      simp at hbot
      subst hbot
      refine⟨_,a1,a2,Tok.Ap.toT ⟨w,L',c',rfl,a3,fun x hx => ?_⟩ hLn⟩
      have h1:=Ri a5.nm (fun x hx=>by
       have:=(a7 x).1 hx
       simp only[BI,AlA,AlC,false_or]at this
       exact(a6 x).1 (hvs x this)) (by omega) x ((a6 x).1 hx)
      have:=(a7 x).1 h1
      simpa [BI]using this
     ·rintro⟨K,k1,k2,k3⟩
      have hKL:K=Tok.ver x0::L':=by
       have:∀ (A B:List Tok),A.map (Dg n)=B.map (Dg n)→(∀ t∈A,okT n t)→(∀ t∈B,okT n t)→A=B:=by
        intro A
        induction A with
        |nil=>intro B h _ _;cases B with
         |nil=>rfl
         |cons b B=>cases h
        |cons a A ih=>
         intro B h hA hB
         cases B with
         |nil=>cases h
         |cons b B=>
          simp only[Ajr,Aje]at h
          rw[Gi (hA a (by simp)) (hB b (by simp)) h.1,ih B h.2 (fun t ht=>hA t (by simp[ht])) fun t ht=>hB t (by simp[ht])]
       exact this _ _ (by rw[← k1,a1]) k2 a2
      subst hKL
      obtain⟨r,l',c,q1,q2,q3⟩:=k3.AIW
      cases q1
      rw[a3]at q2
      cases hs':s'.1 with
      |nil=>rw[hs']at q2;cases q2
      |cons w r'=>
       rw[hs']at q2
       cases q2
       refine⟨rfl,?_⟩
       have:=DO a5.nc (b:=BI s'.2.2) fun x hx=>(a7 x).2 (.inr (q3 x ((a6 x).2 hx)))
       omega
    simp only[APX,An,AK,List.length_reverse]
    rw[VO,VO]at hiff
    by_cases l1:s'.1.length=1
    ·rw[AjG (show(s'.1.length:Int)=1 by omega)]
     simp only[l1,Alf]at hiff
     by_cases l2:s'.2.2.length=s'.2.1.length
     ·rw[AjG (show(s'.2.2.length:Int)=(s'.2.1.length:Int) by omega),AjG (hiff.1 l2)]
     ·rw[AjF (show ¬ (s'.2.2.length:Int)=(s'.2.1.length:Int) by omega),AjF (fun h=>l2 (hiff.2 h))]
    ·rw[AjF (show ¬ (s'.1.length:Int)=1 by omega),AjF (fun h=>l1 (hiff.2 h).1)]
   ·rw[a1]
    have:¬ TI n (x0::tl):=by
     rintro⟨K,k1,k2,k3⟩
     obtain⟨r,l',c,q1,q2,q3⟩:Tok.Ap K:=by
      obtain⟨t,L',rfl⟩:∃ t L',K=t::L':=by cases K with
       |nil=>cases k1
       |cons t L'=>exact⟨t,L',rfl⟩
      have h1:=Dr (k2 t (by simp))
      simp only[Ajr,Aje]at k1
      rw[← k1.1,CD,AjP hin]at h1
      cases h1
      exact k3.AIW
     have hr0:r=x0:=by
      subst q1
      simp only[Ajr,Aje]at k1
      exact k1.1.symm
     subst hr0
     have:=a2 K k1 k2
     simp only at this
     rw[q2]at this
     cases this
    simp[this]
  ·rw[AjF hin]
   have:¬ TI n (x0::tl):=fun h=>hin (AXO h (hm x0 rfl))
   simp[this]
end Go.Pev.Pl
end
end
section
namespace Go.Pev.Pl.Tok
theorem Ag3{v:Int}{p:List Tok}{c:List Int}(h:run ([v],[v]) p=some ([v],c))(hc:∀ x∈c,Tok.ver x∈p)(hn:p.Nodup):T p:=by
 cases p with
 |nil=>
  cases h
  have:=hc v (by simp)
  cases this
 |cons t p=>
  have h':=h
  rw[A3,Ajz]at h'
  obtain⟨s1,h1,h2⟩:=h'
  rcases B7 h1 with⟨y,r,rfl,hw,rfl⟩|⟨a,b,r,rfl,hw,rfl⟩|⟨a,b,r,rfl,hw,hh,hnc,rfl⟩
  ·simp only[Aje]at hw
   obtain⟨rfl,rfl⟩:=hw
   exact Ap.toT ⟨_,p,c,rfl,h,hc⟩ hn
  ·simp at hw
  ·simp only[Aje]at hw
   obtain⟨rfl,rfl⟩:=hw
   simp only at hnc
   have hne:v≠b:=by rintro rfl;exact hnc (by simp)
   have hT:T ([Tok.arc v b]++comp [Tok.arc v b] [b,v]):=by
    have:comp [Tok.arc v b] [b,v]=[.ver b,.arc b v,.ver v]:=by simp[comp]
    rw[this]
    have h3:=T.add (.ver v) [] b (T.one v) hne (by simp;exact Ajy hne)
    exact T.rot [.ver v] [.arc v b,.ver b,.arc b v] h3
   have:=AeK p [.arc v b] [b,v] [b,v] c v (.arc v b) h2 ⟨by simp;exact Ajy hne,by simp⟩ (by simp) rfl hT (by
    intro x hx
    have e:comp [Tok.arc v b] [b,v]=[.ver b,.arc b v,.ver v]:=by simp[comp]
    rw[e]at hx
    simp at hx
    simp[hx]) hc hn
   exact this
theorem T.join{u v:Int}{a b:List Tok}(hA:T (.ver u::a))(hB:T (.ver v::b))(hd:∀ x,Tok.ver x∈Tok.ver u::a→Tok.ver x∉Tok.ver v::b):
  T (.ver u :: .arc u v::(.ver v::b ++ .arc v u::a)):=by
 obtain⟨_,fA2,fA3⟩:=hA.facts
 obtain⟨_,fB2,fB3⟩:=hB.facts
 have nA:=hA.nodup
 have nB:=hB.nodup
 obtain⟨_,_,c1,e1,h1,m1⟩:=hA.AIW
 cases e1
 obtain⟨_,_,c2,e2,h2,m2⟩:=hB.AIW
 cases e2
 have huv:u≠v:=by rintro rfl;exact hd u (by simp) (by simp)
 have nAB:∀ t,t∈Tok.ver u::a→t∉Tok.ver v::b:=fun t ht hb=>hd _ (fA2 t ht) (fB2 t hb)
 have n1:Tok.arc u v∉Tok.ver u::a:=fun h=>hd v (fA3 _ _ h).2.1 (by simp)
 have n2:Tok.arc u v∉Tok.ver v::b:=fun h=>hd u (by simp) (fB3 _ _ h).1
 have n3:Tok.arc v u∉Tok.ver u::a:=fun h=>hd v (fA3 _ _ h).1 (by simp)
 have n4:Tok.arc v u∉Tok.ver v::b:=fun h=>hd u (by simp) (fB3 _ _ h).2.1
 have hnd:(Tok.ver u :: .arc u v::(.ver v::b ++ .arc v u::a)).Nodup:=by
  rw[Aju]at nA
  have q1:Tok.ver u∉Tok.ver v::b:=nAB _ (by simp)
  rw[Aju,Aju,AlH,Aju (a:=Tok.arc v u)]
  refine⟨?_,?_,nB,⟨fun h=>n3 (Ajh _ h),nA.2⟩,fun x hx y hy => ?_⟩
  ·intro h
   rcases AjN.1 h with h|h
   ·cases h
   ·rcases AjL.1 h with h|h
    ·exact q1 h
    ·rcases AjN.1 h with h|h
     ·cases h
     ·exact nA.1 h
  ·intro h
   rcases AjL.1 h with h|h
   ·exact n2 h
   ·rcases AjN.1 h with h|h
    ·cases h;exact huv rfl
    ·exact n1 (Ajh _ h)
  ·rintro rfl
   rcases AjN.1 hy with h|h
   ·subst h;exact n4 hx
   ·exact nAB x (Ajh _ h) hx
 rw[A3,DX,Aj1]at h1
 obtain⟨d2,k1,k2⟩:=Hb (Z:=(· = u)) (c2:=[v,u]) (low:=[u]) h2 (by simp) (fun y=>by simp) (fun p w hm=>by rintro rfl;exact hd w (by simp) (fB3 _ _ hm).2.1) (by simp)
 obtain⟨d3,g1,g2⟩:=Hb (Z:=(·∈c2)) (c2:=d2) (low:=[]) h1 (by simp) (fun y=>by rw[k2];simp[or_comm]) (fun p w hm hz=>hd w (fA3 _ _ (Ajh _ hm)).2.1 (m2 w hz)) (by simp)
 refine Ap.toT ⟨u,_,d3,rfl,?_,fun x hx => ?_⟩ hnd
 ·rw[A3,DX,Aj1,A3,Fi _ _ _ _ (by simp) (by simp;exact Ajy huv),Aj1,DY]
  rw[show([v]++[u]:List Int)=[v,u]from rfl]at k1
  rw[k1,Aj1,A3,Gr,Aj1]
  simpa using g1
 ·rcases(g2 x).1 hx with h|h
  ·have:=m1 x h
   simp only[AjN,AjL]at this ⊢
   rcases this with h|h<;>simp[h]
  ·have:=m2 x h
   simp only[AjN,AjL]at this ⊢
   rcases this with h|h<;>simp[h]
theorem Ahy{u v:Int}(huv:u≠v):∀ {l:List Tok} {x w1 c c1 c0:List Int},run (x++[v,u],c) l=some (w1,c1)→Tok.arc v u∉l→(∀ y,y∈c↔y∈c0∨y=u)→u∉c0 →
  ∃ x' d,w1=x'++[v,u]∧run (x++[v],c0) l=some (x'++[v],d)∧(∀ y,y∈c1↔y∈d∨y=u)∧u∉d:=by
 intro l
 induction l with
 |nil=>intro x w1 c c1 c0 h _ hc hu;cases h;exact⟨x,c0,rfl,rfl,hc,hu⟩
 |cons t l ih=>
  intro x w1 c c1 c0 h hna hc hu
  rw[A3,Ajz]at h
  obtain⟨s1,h1,h2⟩:=h
  have hna':Tok.arc v u∉l:=fun h=>hna (Ajh _ h)
  rcases B7 h1 with⟨y,r,rfl,hw,rfl⟩|⟨a,b,r,rfl,hw,rfl⟩|⟨a,b,r,rfl,hw,hh,hnc,rfl⟩
  ·obtain⟨x',d,g1,g2,g3⟩:=ih h2 hna' hc hu
   refine⟨x',d,g1,?_,g3⟩
   simp only at hw
   have:∃ r',x++[v]=y::r':=by
    cases x with
    |nil=>simp at hw;exact⟨[],by simp[hw.1]⟩
    |cons z x=>simp at hw;exact⟨x++[v],by simp[hw.1]⟩
   obtain⟨r',e⟩:=this
   rw[A3,e,DX,Aj1,← e]
   exact g2
  ·simp only at hw
   cases x with
   |nil=>
    simp only[Ajs,Aje]at hw
    obtain⟨rfl,rfl,_⟩:=hw
    exact absurd (by simp) hna
   |cons z x=>
    simp only[Ajm,Aje]at hw
    obtain⟨rfl,hw⟩:=hw
    simp only[← hw]at h2
    obtain⟨x',d,g1,g2,g3⟩:=ih h2 hna' hc hu
    refine⟨x',d,g1,?_,g3⟩
    have:∃ r',x++[v]=b::r':=by
     cases x with
     |nil=>simp at hw;exact⟨[],by simp[hw.1]⟩
     |cons y x=>simp at hw;exact⟨x++[v],by simp[hw.1]⟩
    obtain⟨r',e⟩:=this
    rw[A3,Ajm,e,Gr,Aj1,← e]
    exact g2
  ·simp only at hw hnc
   have hub:u≠b:=by rintro rfl;exact hnc ((hc u).2 (.inr rfl))
   have hbc:b∉c0:=fun h=>hnc ((hc b).2 (.inl h))
   have h2':run ((b::x)++[v,u],b::c) l=some (w1,c1):=by
    rw[← hw]at h2
    exact h2
   obtain⟨x',d,g1,g2,g3⟩:=ih (c0:=b::c0) h2' hna' (fun y=>by simp only[AjN,hc,or_assoc]) (by
    intro hm
    rcases AjN.1 hm with h|h
    ·exact hub h
    ·exact hu h)
   refine⟨x',d,g1,?_,g3⟩
   have:∃ r',x++[v]=a::r'∧r'.head?≠some b:=by
    cases x with
    |nil=>
     simp at hw
     exact⟨[],by simp[hw.1],by simp⟩
    |cons z x=>
     simp only[Ajm,Aje]at hw
     refine⟨x++[v],by simp[hw.1],?_⟩
     rw[← hw.2]at hh
     cases x with
     |nil=>simpa using hh
     |cons y x=>simpa using hh
   obtain⟨r',e,e2⟩:=this
   rw[A3,e,Fi _ _ _ _ e2 hbc,Aj1,← e]
   exact g2
theorem T.split{u v:Int}{p q:List Tok}(h:T (.arc u v::(p ++ .arc v u::q))):T p∧Tok.ver v∈p:=by
 have hn:=h.nodup
 obtain⟨_,f2,f3⟩:=h.facts
 have huv:u≠v:=(f3 u v (by simp)).2.2.2
 obtain⟨t,ht⟩:∃ t,(Tok.arc u v::(p ++ .arc v u::q)).getLast? = some t:=⟨_,Alp (by simp)⟩
 obtain⟨c,h1,h2⟩:=h.toC _ (Rot.refl _) t ht
 rw[A3,Ajz]at h1
 obtain⟨s1,k1,k2⟩:=h1
 rcases B7 k1 with⟨y,r,e,hw,_⟩|⟨a,b,r,e,hw,_⟩|⟨a,b,r,e,hw,hh,hnc,rfl⟩
 ·cases e
 ·cases e;simp at hw
 ·cases e
  simp only[Aje]at hw
  obtain⟨htu,rfl⟩:=hw
  rw[htu]at k2
  simp only at k2
  rw[DY,Ajz]at k2
  obtain⟨⟨w1,c1⟩,g1,g2⟩:=k2
  have hi:Inv ([v,u],[v,u]):=⟨by simp;exact Ajy huv,by simp⟩
  obtain⟨i1,i2,_⟩:=I2 g1 hi
  rw[Aju,AlH,Aju (a:=Tok.arc v u)]at hn
  have hnp:Tok.arc v u∉p:=fun hm=>hn.2.2.2 _ hm _ (by simp) rfl
  obtain⟨x',d,e1,e2,e3,e4⟩:=Ahy (x:=[]) (c0:=[v]) huv g1 hnp (fun y=>by simp) (by simp;exact huv)
  rw[A3,Ajz]at g2
  obtain⟨s2,j1,j2⟩:=g2
  have hx':x'=[]∧s2=([u],c1):=by
   rcases B7 j1 with⟨y,r,e,hw,_⟩|⟨a,b,r,e,hw,hs⟩|⟨a,b,r,e,hw,hh,hnc,_⟩
   ·cases e
   ·cases e
    simp only at hw
    rw[e1]at hw
    cases x' with
    |nil=>
     simp only[Ajs,Aje,Alf]at hw
     rw[hs,← hw]
     exact⟨rfl,rfl⟩
    |cons z x'=>
     exfalso
     have hnd:=i1.1
     simp only at hnd
     rw[e1,hw]at hnd
     simp only[Ajm,Aje]at hw
     have:v∈u::r:=by rw[← hw.2];simp
     rw[Aju]at hnd
     exact hnd.1 this
   ·cases e
    exact absurd (i2 u (by simp)) hnc
  obtain⟨rfl,rfl⟩:=hx'
  have hmet:∀ x∈d,Tok.ver x∈p:=by
   intro x hx
   have hxu:x≠u:=by rintro rfl;exact e4 hx
   have hx1:x∈c1:=(e3 x).2 (.inl hx)
   have hi2:Inv ([u],c1):=⟨by simp,fun y hy=>by simp at hy;subst hy;exact i2 y (by simp)⟩
   have hx2:=(I2 j2 hi2).2.1 x hx1
   have hx3:=(h2 x).1 hx2
   obtain⟨g,_⟩:=AAi (z:=x) (c:=c1.filter (·≠x)) j2 (by simp;exact hxu) (fun y=>by
    simp only[AkE,AjJ]
    constructor
    ·intro hh
     by_cases e:y=x
     ·exact .inr e
     ·exact .inl ⟨hh,by simpa using e⟩
    ·rintro (hh|rfl)
     ·exact hh.1
     ·exact hx1) (by simp)
   simp only[AjN,reduceCtorEq,AjL,false_or]at hx3
   rcases hx3 with hh|hh
   ·exact hh
   ·exact absurd hh g
  have e2':run ([v],[v]) p=some ([v],d):=e2
  have hvd:v∈d:=(I2 e2' (Ou v)).2.1 v (by simp)
  exact⟨Ag3 e2' hmet hn.2.1,hmet v hvd⟩
end Go.Pev.Pl.Tok
end
section
namespace Go.Pev
open Go.RowKit
def AGQ{R:Type}(slot:Nat)(H:List Ob)(fz:List Bool)(k:AV→Eff→Option R)(v:AV)(e:Eff):Option R:=
 match e.heap with
 |none=>match v with
  |.win id 0 n=>match(CS e H)[id]? with
   |some (.arr T t xs)=>match Aj (GN e fz) id&&Av (CS e H) (GN e fz) (slot+3)&&(e.objs.any fun p=>Nat.beq p.1 id)with
    |true=>k (.own (slot+3)) { objs:=e.objs++[(id,.dead),(slot+3,.arr T t (Bp n xs))],frz:=e.frz }
    |false=>none
   |_=>none
  |_=>none
 |some _=>none
def KH(s:Spec):Spec:=fun R args H fz slot k=>s R args H fz slot (AGQ slot H fz k)
section
variable {P:Program} {g:FuncId}
theorem AaH{w:World}{F:Nat→Prop}{m:Mp}{H:List Ob}{fz:List Bool}(hi:HI w F m H fz){id n slot:Nat}{T:TypeId}{t:Ty}{xs:List t.den}(ho:H[id]? = some (.arr T t xs))(hf:Aj fz id=true)
  (hs:Av H fz slot=true) {u:Value} (hr:Rep w F m H (.win id 0 n) u) :
  ∃ m',Ap w F m H fz w F m' ((H.set id .dead).set slot (.arr T t (Bp n xs))) fz∧Rep w F m' ((H.set id .dead).set slot (.arr T t (Bp n xs))) (.own slot) u:=by
 have hob:=hi.obj id _ ho
 obtain⟨h0,hob⟩:=hob
 unfold Rep at hr
 rw[ho]at hr
 obtain⟨hle,hr⟩:=hr
 rw[AkI]at hle
 have hsn:slot≠id:=AKr hs ho
 have hkill:=Ap.kill hi (CG ho hf)
 have zero:∀ a,n=0→u = .slice a 0 0→∃ m',Ap w F m H fz w F m' ((H.set id .dead).set slot (.arr T t (Bp n xs))) fz∧Rep w F m' ((H.set id .dead).set slot (.arr T t (Bp n xs))) (.own slot) u:=by
  intro a hn hu
  subst hn;subst hu
  obtain⟨m',hg,hrep⟩:=Dd (w:=w) hkill.2 (LX hs hsn) T h0 a
  exact⟨m',hkill.trans hg,hrep⟩
 cases hm:m id with
 |none=>
  rw[hm]at hr hob
  obtain⟨a,e1⟩:=hr
  simp only at hob
  subst hob
  have hn:n=0:=by simpa using hle
  exact zero a hn (by rw[e1,hn])
 |some p=>
  obtain⟨b,cap⟩:=p
  rw[hm]at hr hob
  obtain⟨vs,row,e1,e2,e3,e4,e7,e8⟩:=hob
  obtain⟨a,rfl,ha⟩:=hr
  rcases Akb cap with hc|hc
  ·have:n=0:=by omega
   exact zero a this (by rw[this,hc])
  ·have:=ha hc
   rw[Als]at this
   subst this
   have hk:=fun(x:t.den) cs (h:Dat w F t x cs)=>Dat.length t h
   have hlen:(xs.take n).length=n:=by rw[Ajb];omega
   have hrw:=Ds hk n e7
   have hrl:=A5 hk hrw
   rw[hlen]at hrl
   have hg:=Ap.move (w':=w) hi (CG ho hf) hm hs (ob:=.arr T t (Bp n xs)) trivial (b':=b) (c':=cap) (.inl rfl) rfl rfl rfl (AjO _) (fun _ _ _=>rfl) (fun _=>⟨h0,vs,row.take (n*t.size),e1,by
    show(xs.take n).length≤cap
    rw[hlen];omega,e3,e4,hrw,by
    rw[hrl,← e8,AlW,AkT]
    rw[A5 hk e7]
    exact AkD _ hle⟩)
   refine⟨_,hg,?_⟩
   have hlts:=Al (BN hs).1
   unfold Rep
   rw[Aw (by simpa using hlts),Aq]
   show Value.slice _ n (cap-0)=Value.slice _ (xs.take n).length cap
   rw[hlen,Nat.sub_zero]
theorem XB{s:Spec}(hs:AR P g s):AR P g (KH s):=by
 intro R args H fz slot k r hk
 obtain⟨v,e,h1,h2,h3,h4⟩:=hs R args H fz slot _ r hk
 unfold AGQ at h1
 split at h1
 ·rename_i he
  split at h1
  ·rename_i id n
   split at h1
   ·rename_i T t xs ho
    split at h1
    ·rename_i hc
     refine⟨_,_,h1,fun R' k' => ?_,h3,fun w F m vals hi hr => ?_⟩
     ·unfold KH
      rw[h2]
      simp only[AGQ,he,ho,hc]
     ·refine(h4 w F m vals hi hr).mono ?_
      rintro en w' ⟨u,rfl,F',m',hg,hrep⟩
      simp only[AjK]at hc
      obtain⟨m2,hg2,hr2⟩:=AaH hg.2 ho hc.1.1 hc.1.2 hrep
      have eH:CS { objs:=e.objs++[(id,.dead),(slot+3,.arr T t (Bp n xs))],frz:=e.frz } H=((CS e H).set id .dead).set (slot+3) (.arr T t (Bp n xs)):=by
       rw[CJ rfl,CJ he,XI]
       rfl
      have eF:GN { objs:=e.objs++[(id,.dead),(slot+3,.arr T t (Bp n xs))],frz:=e.frz } fz=GN e fz:=by
       rw[CV rfl,CV he]
      refine⟨u,rfl,F',m2,?_,?_⟩
      ·rw[eH,eF];exact hg.trans hg2
      ·rw[eH];exact hr2
    ·cases h1
   ·cases h1
  ·cases h1
 ·cases h1
theorem Xl{np na:Nat}{its outs:AE}{rs:List RS}{f:CB (leaves its)→Option (CB (leaves outs))}(hf:∀ x,f x=none):AR P g (AF np na its outs rs f):=by
 intro R args H fz slot k r hk
 unfold AF at hk
 split at hk
 ·cases hk
 ·split at hk
  ·cases hk
  ·rw[hf]at hk;cases hk
end
section
variable {S:List Nat} {H H':List Ob}
theorem Hj.Ai5{s:Spec}(h:Hj s):Ot s:=
 fun R args H H' fz fz' slot k S hS _ ha=>h R args H H' fz fz' slot k ⟨fun id hid=>ha.heap id (hS id hid),ha.slotH,ha.slotF,ha.len,fun id hid=>by cases hid⟩
def ACC:AE→Bool
 |[]=>true
 |(.obj _,_)::_=>false
 |_::r=>ACC r
def Ah3(S:List Nat)(v:AV):Prop:=∀ id∈Am v,id∈S
def AD8(S:List Nat)(bs:List Bnd):Prop:=∀ b∈bs,∀ id,b.id? = some id→id∈S
theorem AD8.get{bs:List Bnd}(h:AD8 S bs){j:Nat}{b:Bnd}{id:Nat}(hj:bs[j]? = some b)(hi:b.id? = some id):id∈S:=h b (AjW hj) id hi
theorem AD8.snoc{bs:List Bnd}(h:AD8 S bs){b:Bnd}(hb:∀ id,b.id? = some id→id∈S):AD8 S (bs++[b]):=by
 intro x hx id hi
 rcases AjL.1 hx with hx|hx
 ·exact h x hx id hi
 ·simp only[Ajk]at hx;subst hx;exact hb id hi
theorem AWp{tm:List AV}{bs:List Bnd}{l:Loc}(hS:∀ id∈BH tm,id∈S)(hc:ZN S H)(hH:∀ id∈S,H[id]? = H'[id]?)(hb:AD8 S bs)(hl:∀ j,l≠.obj j):
  look tm H bs l=look tm H' bs l∧∀ v,look tm H bs l=some v→Ah3 S v:=by
 cases l with
 |tmp t=>
  refine⟨rfl,fun v hv id hid=>hS id ?_⟩
  exact CX (AjW hv) hid
 |cell j c=>
  simp only[look]
  cases hj:bs[j]? with
  |none=>exact⟨rfl,fun v hv=>by cases hv⟩
  |some b=>
   cases b with
   |none=>exact⟨rfl,fun v hv=>by cases hv⟩
   |cut id=>exact⟨rfl,fun v hv=>by cases hv⟩
   |whole id=>
    have hid:=hb.get hj (id:=id) rfl
    simp only
    rw[hH id hid]
    refine⟨rfl,fun v hv => ?_⟩
    cases ho:H'[id]? with
    |none=>rw[ho]at hv;cases hv
    |some o=>
     rw[ho]at hv
     cases o<;>simp only at hv<;>first|(cases hv;done)|skip
     rename_i cs
     intro i hi
     exact hc id hid cs (by rw[hH id hid,ho]) i (CX (AjW hv) hi)
 |cap t i=>
  refine⟨rfl,fun v hv => ?_⟩
  simp only[look]at hv
  cases ht:tm[t]? with
  |none=>rw[ht]at hv;cases hv
  |some a=>
   rw[ht]at hv
   cases a<;>simp only at hv<;>first|(cases hv;done)|skip
   ·rename_i f cs
    intro id hid
    refine hS id (CX (AjW ht) ?_)
    simp only[Am]
    exact CX (AjW hv) hid
   ·rename_i f cs
    intro id hid
    refine hS id (CX (AjW ht) ?_)
    simp only[Am]
    exact CX (AjW hv) hid
 |obj j=>exact absurd rfl (hl j)
theorem K6{f:List Nat}{fz fz':List Bool}(hl:fz.length=fz'.length){id:Nat}(h:fz.getD id false=fz'.getD id false):(Ak f fz).getD id false=(Ak f fz').getD id false:=by
 rw[Ax,Ax,h,hl]
theorem Aeh{tm:List AV}(hS:∀ id∈BH tm,id∈S)(hc:ZN S H)(hH:∀ id∈S,H[id]? = H'[id]?):∀ (its:AE) (fz fz':List Bool) (bs:List Bnd),ACC its=true→AD8 S bs→fz.length=fz'.length→(∀ id∈S,fz.getD id false=fz'.getD id false) →
  dec tm H its fz bs=dec tm H' its fz' bs:=by
 intro its
 induction its with
 |nil=>intro fz fz' bs _ _ _ _;rfl
 |cons p r ih=>
  intro fz fz' bs hn hb hlen hz
  obtain⟨l,c⟩:=p
  have hno:(∀ j,l≠.obj j)∧ACC r=true:=by
   cases l with
   |obj j=>cases hn
   |tmp t=>exact⟨fun j h=>(by cases h),hn⟩
   |cell a b=>exact⟨fun j h=>(by cases h),hn⟩
   |cap a b=>exact⟨fun j h=>(by cases h),hn⟩
  obtain⟨e1,e2⟩:=AWp hS hc hH hb hno.1
  have ihr:=fun bs hb=>ih fz fz' bs hno.2 hb hlen hz
  have unf:∀ id∈S,Aj fz id=Aj fz' id:=fun id hid=>by unfold Aj;rw[hz id hid]
  cases c with
  |dat t=>
   simp only[dec,← e1]
   cases hv:look tm H bs l with
   |none=>rfl
   |some v=>
    simp only
    rw[Xz t v fun id hid=>hH id (e2 v hv id hid)]
    cases X0 H' t v with
    |none=>rfl
    |some q=>
     obtain⟨x,f⟩:=q
     simp only
     rw[ih (Ak f fz) (Ak f fz') bs hno.2 hb (by rw[C1,C1,hlen]) (fun id hid=>K6 hlen (hz id hid))]
  |own T e=>
   simp only[dec,← e1]
   cases hv:look tm H bs l with
   |none=>rfl
   |some v=>
    cases v with
    |nils e'=>simp only;rw[ihr _ (hb.snoc fun id h=>by cases h)]
    |own id=>
     have hid:id∈S:=e2 _ hv id (by simp[Am])
     simp only
     rw[← hH id hid,unf id hid,ihr _ (hb.snoc fun id' h=>by simp only[Bnd.id?,AjH]at h;subst h;exact hid)]
    |win id off n=>
     have hid:id∈S:=e2 _ hv id (by simp[Am])
     cases off with
     |succ off=>rfl
     |zero=>
      simp only
      rw[← hH id hid,unf id hid,ihr _ (hb.snoc fun id' h=>by simp only[Bnd.id?,AjH]at h;subst h;exact hid)]
    |_=>rfl
  |box n=>
   simp only[dec,← e1]
   cases hv:look tm H bs l with
   |none=>rfl
   |some v=>
    cases v with
    |ptr id off=>
     have hid:id∈S:=e2 _ hv id (by simp[Am])
     cases off with
     |succ off=>rfl
     |zero=>
      simp only
      rw[← hH id hid,ihr _ (hb.snoc fun id' h=>by simp only[Bnd.id?,AjH]at h;subst h;exact hid)]
    |_=>rfl
  |map k v=>
   simp only[dec,← e1]
   cases hv:look tm H bs l with
   |none=>rfl
   |some u=>
    cases u with
    |mp id=>
     have hid:id∈S:=e2 _ hv id (by simp[Am])
     simp only
     rw[← hH id hid,ihr _ (hb.snoc fun id' h=>by simp only[Bnd.id?,AjH]at h;subst h;exact hid)]
    |_=>rfl
  |rows T e t=>
   simp only[dec,← e1]
   cases hv:look tm H bs l with
   |none=>rfl
   |some u=>
    cases u with
    |own id=>
     have hid:id∈S:=e2 _ hv id (by simp[Am])
     simp only
     rw[← hH id hid,unf id hid,ihr _ (hb.snoc fun id' h=>by simp only[Bnd.id?,AjH]at h;subst h;exact hid)]
    |_=>rfl
  |mrows j e t=>
   simp only[dec,← e1]
   cases hv:look tm H bs l with
   |none=>rfl
   |some u=>
    cases u with
    |mp id=>
     have hid:id∈S:=e2 _ hv id (by simp[Am])
     simp only
     rw[← hH id hid,unf id hid,ihr _ (hb.snoc fun id' h=>by simp only[Bnd.id?,AjH]at h;subst h;exact hid)]
    |_=>rfl
  |aptr T e n=>
   simp only[dec,← e1]
   cases hv:look tm H bs l with
   |none=>rfl
   |some u=>
    cases u with
    |aptr id n'=>
     have hid:id∈S:=e2 _ hv id (by simp[Am])
     simp only
     rw[← hH id hid,unf id hid,ihr _ (hb.snoc fun id' h=>by simp only[Bnd.id?,AjH]at h;subst h;exact hid)]
    |_=>rfl
  |aptr' j n=>simp only[dec,← e1,ihr bs hb]
  |bndp f j=>simp only[dec,← e1,ihr bs hb]
  |nilp=>simp only[dec,← e1,ihr bs hb]
  |own' j=>simp only[dec,← e1,ihr bs hb]
  |ptr' j off=>simp only[dec,← e1,ihr bs hb]
  |map' j=>simp only[dec,← e1,ihr bs hb]
  |sub' j=>simp only[dec,← e1,ihr bs hb]
  |win' j=>
   simp only[dec,← e1]
   rw[ihr bs hb]
   cases hv:look tm H bs l with
   |none=>rfl
   |some v=>
    cases v with
    |own id=>
     have hid:id∈S:=e2 _ hv id (by simp[Am])
     cases bs[j]? with
     |none=>rfl
     |some b=>
      cases b with
      |whole id'=>
       refine Eq.trans (b:=match decide (id=id'),H[id]? with
        |true,some (.arr _ _ ys)=>(match dec tm H' r fz' bs with
         |some (xs,bs',g)=>some ((AG ys,xs),bs',g)
         |none=>none)
        |_,_=>none) rfl ?_
       rw[hH id hid]
       rfl
      |_=>rfl
    |win id off n=>
     cases off with
     |succ off=>cases bs[j]?<;>rfl
     |zero=>
      cases bs[j]? with
      |none=>rfl
      |some b=>cases b<;>rfl
    |_=>cases bs[j]?<;>rfl
  |clo f ps=>simp only[dec,← e1,ihr bs hb]
  |bnd f j=>simp only[dec,← e1,ihr bs hb]
  |prs T j=>
   simp only[dec,← e1]
   cases hv:look tm H bs l with
   |none=>rfl
   |some v=>
    cases v with
    |nils e'=>simp only;rw[ihr _ (hb.snoc fun id h=>by cases h)]
    |own id=>
     have hid:id∈S:=e2 _ hv id (by simp[Am])
     simp only
     rw[← hH id hid,ihr _ (hb.snoc fun id' h=>by simp only[Bnd.id?,AjH]at h;subst h;exact hid)]
    |_=>rfl
  |nil e=>simp only[dec,← e1,ihr bs hb]
theorem R4{fz fz':List Bool}:∀ (n:Nat) (bs:List Bnd) (slot:Nat),(∀ s,slot≤s→s<slot+n→Av H fz s=Av H' fz' s)→Ff H fz (Ck n bs slot) bs=Ff H' fz' (Ck n bs slot) bs:=by
 intro n
 induction n with
 |zero=>intro bs slot _;cases bs<;>rfl
 |succ n ih=>
  intro bs slot h
  cases bs with
  |nil=>
   simp only[Ck,Ff,List.tail_nil]
   rw[h slot (AjO _) (by omega),ih [] (slot+1) fun s h1 h2=>h s (by omega) (by omega)]
  |cons b bs=>
   cases b with
   |whole id=>
    simp only[Ck,Ff,AlO]
    rw[ih bs slot fun s h1 h2=>h s h1 (by omega)]
   |none=>
    simp only[Ck,Ff,AlO]
    rw[h slot (AjO _) (by omega),ih bs (slot+1) fun s h1 h2=>h s (by omega) (by omega)]
   |cut id=>
    simp only[Ck,Ff,AlO]
    rw[h slot (AjO _) (by omega),ih bs (slot+1) fun s h1 h2=>h s (by omega) (by omega)]
theorem AJ{np na:Nat}{its outs:AE}{rs:List RS}{f:CB (leaves its)→Option (CB (leaves outs))}(hno:ACC its=true)(hn:Nat.ble (C7 outs) 4=true):Ot (AF np na its outs rs f):=by
 intro R args H H' fz fz' slot k S hS hc ha
 have hn4:=Alv hn
 have hd:dec args H its fz []=dec args H' its fz' []:=Aeh hS hc ha.heap its fz fz' [] hno (fun b hb=>by cases hb) ha.len ha.wrF
 unfold AF
 rw[hd]
 split
 ·rfl
 ·rename_i x bs fr _
  split
  ·rfl
  ·split
   ·rfl
   ·have hf:∀ (g:List Nat) s,slot≤s→s<slot+C7 outs→Av H (Ak g fz) s=Av H' (Ak g fz') s:=fun g s h1 h2=>Dx ha h1 (by omega) g
    unfold J6
    rw[R4 (fz:=fz) (fz':=fz') (C7 outs) (bs.take np) slot (hf []),R4 (fz:=Ak fr fz) (fz':=Ak fr fz') (C7 outs) (bs.take np) slot (hf fr)]
theorem AZ2:∀ (n:Nat) (bs:List Bnd) (slot i:Nat),i∈Ck n bs slot→(∃ b∈bs,b.id? = some i)∨(slot≤i∧i<slot+n):=by
 intro n
 induction n with
 |zero=>intro bs slot i h;cases bs<;>cases h
 |succ n ih=>
  intro bs slot i h
  have next:∀ bs',i∈slot::Ck n bs' (slot+1)→(∃ b∈bs',b.id? = some i)∨(slot≤i∧i<slot+(n+1)):=by
   intro bs' h
   rcases AjN.1 h with rfl|h
   ·exact .inr ⟨AjO _,by omega⟩
   ·rcases ih bs' (slot+1) i h with h|h
    ·exact .inl h
    ·exact .inr ⟨by omega,by omega⟩
  cases bs with
  |nil=>exact next [] h
  |cons b bs=>
   cases b with
   |whole id=>
    simp only[Ck]at h
    rcases AjN.1 h with rfl|h
    ·exact .inl ⟨.whole i,by simp,rfl⟩
    ·rcases ih bs slot i h with⟨b,hb,e⟩|h
     ·exact .inl ⟨b,by simp[hb],e⟩
     ·exact .inr ⟨h.1,by omega⟩
   |none=>rcases next bs h with⟨b,hb,e⟩|h;exact .inl ⟨b,by simp[hb],e⟩;exact .inr h
   |cut id=>rcases next bs h with⟨b,hb,e⟩|h;exact .inl ⟨b,by simp[hb],e⟩;exact .inr h
theorem AaZ{tm:List AV}(hS:∀ id∈BH tm,id∈S)(hc:ZN S H):∀ (its:AE) (fz:List Bool) (bs:List Bnd) (x:CB (leaves its)) (bs':List Bnd) (fr:List Nat),ACC its=true→AD8 S bs →
  dec tm H its fz bs=some (x,bs',fr)→AD8 S bs':=by
 intro its
 induction its with
 |nil=>intro fz bs x bs' fr _ hb h;simp only[dec,AjH]at h;cases h;exact hb
 |cons p r ih=>
  intro fz bs x bs' fr hn hb h
  obtain⟨l,c⟩:=p
  have hno:(∀ j,l≠.obj j)∧ACC r=true:=by
   cases l with
   |obj j=>cases hn
   |tmp t=>exact⟨fun j h=>(by cases h),hn⟩
   |cell a b=>exact⟨fun j h=>(by cases h),hn⟩
   |cap a b=>exact⟨fun j h=>(by cases h),hn⟩
  have e2:=(AWp (H':=H) hS hc (fun _ _=>rfl) hb hno.1 (l:=l)).2
  have one:∀ {id:Nat} {b:Bnd},id∈S→b.id? = some id→AD8 S (bs++[b]):=fun hid hbid=>hb.snoc fun id' h'=>by rw[hbid]at h';cases h';exact hid
  cases c<;>simp only[dec]at h
  case dat t=>
   split at h
   ·split at h
    ·split at h
     ·split at h
      ·rename_i hd;cases h;exact ih _ _ _ _ _ hno.2 hb hd
      ·cases h
     ·cases h
    ·cases h
   ·cases h
  case own T e=>
   split at h
   ·split at h
    ·split at h
     ·rename_i hd;cases h;exact ih _ _ _ _ _ hno.2 (hb.snoc fun id h=>by cases h) hd
     ·cases h
    ·cases h
   ·rename_i id hl
    split at h
    ·split at h
     ·split at h
      ·rename_i hd;cases h;exact ih _ _ _ _ _ hno.2 (one (e2 _ hl id (by simp[Am])) rfl) hd
      ·cases h
     ·cases h
    ·cases h
   ·rename_i id n hl
    split at h
    ·split at h
     ·split at h
      ·rename_i hd;cases h;exact ih _ _ _ _ _ hno.2 (one (e2 _ hl id (by simp[Am])) rfl) hd
      ·cases h
     ·cases h
    ·cases h
   ·cases h
  case prs T j=>
   split at h
   ·split at h
    ·rename_i hd;cases h;exact ih _ _ _ _ _ hno.2 (hb.snoc fun id h=>by cases h) hd
    ·cases h
   ·rename_i id hl
    split at h
    ·split at h
     ·split at h
      ·rename_i hd;cases h;exact ih _ _ _ _ _ hno.2 (one (e2 _ hl id (by simp[Am])) rfl) hd
      ·cases h
     ·cases h
    ·cases h
   ·cases h
  case box n=>
   split at h
   ·rename_i id hl
    split at h
    ·split at h
     ·exact ih _ _ _ _ _ hno.2 (one (e2 _ hl id (by simp[Am])) rfl) h
     ·cases h
    ·cases h
   ·cases h
  case map k v=>
   split at h
   ·rename_i id hl
    split at h
    ·split at h
     ·split at h
      ·rename_i hd;cases h;exact ih _ _ _ _ _ hno.2 (one (e2 _ hl id (by simp[Am])) rfl) hd
      ·cases h
     ·cases h
    ·cases h
   ·cases h
  case rows T e t=>
   split at h
   ·rename_i id hl
    split at h
    ·split at h
     ·split at h
      ·rename_i hd;cases h;exact ih _ _ _ _ _ hno.2 (one (e2 _ hl id (by simp[Am])) rfl) hd
      ·cases h
     ·cases h
    ·cases h
   ·cases h
  case mrows j e t=>
   split at h
   ·rename_i id hl
    split at h
    ·split at h
     ·split at h
      ·rename_i hd;cases h;exact ih _ _ _ _ _ hno.2 (one (e2 _ hl id (by simp[Am])) rfl) hd
      ·cases h
     ·cases h
    ·cases h
   ·cases h
  case aptr T e n=>
   split at h
   ·rename_i id n' hl
    split at h
    ·split at h
     ·split at h
      ·rename_i hd;cases h;exact ih _ _ _ _ _ hno.2 (one (e2 _ hl id (by simp[Am])) rfl) hd
      ·cases h
     ·cases h
    ·cases h
   ·cases h
  case bndp f j=>
   split at h
   ·split at h
    ·exact ih _ _ _ _ _ hno.2 hb h
    ·cases h
   ·cases h
  case nilp=>
   cases hv:look tm H bs l with
   |none=>rw[hv]at h;cases h
   |some v=>
    rw[hv]at h
    cases v<;>simp only at h<;>first|exact ih _ _ _ _ _ hno.2 hb h|cases h
  case aptr' j n=>
   split at h
   ·split at h
    ·exact ih _ _ _ _ _ hno.2 hb h
    ·cases h
   ·cases h
  case own' j=>
   split at h
   ·split at h
    ·exact ih _ _ _ _ _ hno.2 hb h
    ·cases h
   ·cases h
  case ptr' j off=>
   split at h
   ·split at h
    ·exact ih _ _ _ _ _ hno.2 hb h
    ·cases h
   ·cases h
  case map' j=>
   split at h
   ·split at h
    ·exact ih _ _ _ _ _ hno.2 hb h
    ·cases h
   ·cases h
  case win' j=>
   split at h
   ·split at h
    ·split at h
     ·rename_i hd;cases h;exact ih _ _ _ _ _ hno.2 hb hd
     ·cases h
    ·cases h
   ·split at h
    ·split at h
     ·rename_i hd;cases h;exact ih _ _ _ _ _ hno.2 hb hd
     ·cases h
    ·cases h
   ·cases h
  case sub' j=>
   split at h
   ·split at h
    ·split at h
     ·rename_i hd;cases h;exact ih _ _ _ _ _ hno.2 hb hd
     ·cases h
    ·cases h
   ·cases h
  case clo f ps=>
   split at h
   ·split at h
    ·exact ih _ _ _ _ _ hno.2 hb h
    ·cases h
   ·cases h
  case bnd f j=>
   split at h
   ·split at h
    ·exact ih _ _ _ _ _ hno.2 hb h
    ·cases h
   ·cases h
  case nil e=>
   cases hv:look tm H bs l with
   |none=>rw[hv]at h;cases h
   |some v=>
    rw[hv]at h
    cases v<;>simp only at h<;>first|exact ih _ _ _ _ _ hno.2 hb h|cases h
theorem AVz{np na:Nat}{its outs:AE}{rs:List RS}{f:CB (leaves its)→Option (CB (leaves outs))}(hno:ACC its=true)(hn:Nat.ble (C7 outs) 4=true):Ot (KH (AF np na its outs rs f)):=by
 intro R args H H' fz fz' slot k hS0 hS hc ha
 have hn4:=Alv hn
 have hd:dec args H its fz []=dec args H' its fz' []:=Aeh hS hc ha.heap its fz fz' [] hno (fun b hb=>by cases hb) ha.len ha.wrF
 have hbs:∀ x bs fr,dec args H its fz []=some (x,bs,fr)→AD8 hS0 bs:=fun x bs fr h=>AaZ hS hc its fz [] x bs fr hno (fun b hb=>by cases hb) h
 unfold KH AF
 rw[hd]at hbs ⊢
 split
 ·rfl
 ·rename_i x bs fr hdec
  have hb:=hbs x bs fr hdec
  split
  ·rfl
  ·split
   ·rfl
   ·rename_i y _
    have hf:∀ (g:List Nat) s,slot≤s→s<slot+C7 outs→Av H (Ak g fz) s=Av H' (Ak g fz') s:=fun g s h1 h2=>Dx ha h1 (by omega) g
    have key:∀ (e:Eff) (v:AV),e.heap=none→(∀ p∈e.objs,p.1∈given (bs.drop np)∨p.1∈Ck (C7 outs) (bs.take np) slot)→AGQ slot H fz k v e=AGQ slot H' fz' k v e:=by
     intro e v he ho
     unfold AGQ
     rw[he]
     simp only
     have hfree:Av (CS e H) (GN e fz) (slot+3)=Av (CS e H') (GN e fz') (slot+3):=by
      rw[CJ he,CJ he,CV he,CV he]
      unfold Av
      rw[GX e.objs H H' (ha.slotH (slot+3) (by omega) (by omega)),K6 ha.len (ha.slotF (slot+3) (by omega) (by omega))]
     cases v with
     |win id off n=>
      cases off with
      |succ off=>rfl
      |zero=>
       simp only
       cases hany:(e.objs.any fun p=>Nat.beq p.1 id)with
       |false=>
        simp only[Bool.and_false]
        cases (CS e H)[id]? with
        |none=>cases (CS e H')[id]? with
         |none=>rfl
         |some o=>cases o<;>rfl
        |some o=>cases (CS e H')[id]? with
         |none=>cases o<;>rfl
         |some o'=>cases o<;>cases o'<;>rfl
       |true=>
        rw[AlX]at hany
        obtain⟨p,hp,hpi⟩:=hany
        have hpi:=Akd hpi
        subst hpi
        have hin:(∃ b∈bs,b.id? = some p.1)∨(slot≤p.1∧p.1<slot+C7 outs):=by
         rcases ho p hp with h|h
         ·obtain⟨j,hj⟩:=Vq.1 h
          exact .inl ⟨_,Aks (AjW hj),rfl⟩
         ·rcases AZ2 _ _ _ _ h with⟨b,h1,h2⟩|h
          ·exact .inl ⟨b,AlR h1,h2⟩
          ·exact .inr h
        have h1:H[p.1]? = H'[p.1]? := by
         rcases hin with⟨b,hbm,hbi⟩|⟨h1,h2⟩
         ·exact ha.heap _ (hb b hbm _ hbi)
         ·exact ha.slotH _ h1 (by omega)
        have h2:fz.getD p.1 false=fz'.getD p.1 false:=by
         rcases hin with⟨b,hbm,hbi⟩|⟨h1,h2⟩
         ·exact ha.wrF _ (hb b hbm _ hbi)
         ·exact ha.slotF _ h1 (by omega)
        have h3:(CS e H)[p.1]? = (CS e H')[p.1]? := by
         rw[CJ he,CJ he]
         exact GX e.objs H H' h1
        have h4:Aj (GN e fz) p.1=Aj (GN e fz') p.1:=by
         rw[CV he,CV he]
         unfold Aj
         rw[K6 ha.len h2]
        rw[h3,h4,hfree]
     |_=>rfl
    have mem:∀ p∈(given (bs.drop np)).map (fun i=>(i,Ob.dead))++(Ck (C7 outs) (bs.take np) slot).zip ((encode (cellsOf rs) outs y).heap.map (Da (Ck (C7 outs) (bs.take np) slot))),p.1∈given (bs.drop np)∨p.1∈Ck (C7 outs) (bs.take np) slot:=by
     intro p hp
     rcases AjL.1 hp with h|h
     ·obtain⟨i,hi,rfl⟩:=Aja.1 h;exact .inl hi
     ·exact .inr (List.of_mem_zip h).1
    unfold J6
    rw[R4 (fz:=fz) (fz':=fz') (C7 outs) (bs.take np) slot (hf []),R4 (fz:=Ak fr fz) (fz':=Ak fr fz') (C7 outs) (bs.take np) slot (hf fr)]
    split
    ·split
     ·exact key { objs:=_ } _ rfl mem
     ·rfl
    ·split
     ·exact key { objs:=_,frz:=_ } _ rfl mem
     ·rfl
end
def Aiz(i:Nat)(args:List AV):Option FuncId:=
 match args[i]? with
 |some (.clo f _)=>some f
 |some (.bnd f _)=>some f
 |_=>none
def Env.CH(E:Env)(g:FuncId)(i:Nat)(c:FuncId)(s:Spec):Env where
 spec x:=match Nat.beq x g with
  |true=>fun R args H fz slot k=>match Aiz i args with
   |some c'=>match Nat.beq c' c with
    |true=>s R args H fz slot k
    |false=>E.spec x R args H fz slot k
   |.none=>Option.none
  |false=>E.spec x
 loc x:=match Nat.beq x g with
  |true=>false
  |false=>E.loc x
 loc2 x:=match Nat.beq x g with
  |true=>E.loc2 g
  |false=>E.loc2 x
theorem Env.Az{P:Program}{E:Env}{g:FuncId}{i:Nat}{c:FuncId}{s:Spec}(h:AZ P E)(hs:AR P g s)(hl2:Ot s):AZ P (E.CH g i c s):=by
 refine⟨?_,?_,?_⟩
 ·intro x
  simp only[Env.CH]
  cases hx:Nat.beq x g with
  |false=>exact h.1 x
  |true=>
   have:=Akd hx
   subst this
   intro R args H fz slot k r hk
   simp only at hk
   split at hk
   ·rename_i c' hc'
    split at hk
    ·rename_i hb
     obtain⟨v,e,h1,h2,h3,h4⟩:=hs R args H fz slot k r hk
     exact⟨v,e,h1,fun R' k'=>by simp only[hc',hb];exact h2 R' k',h3,h4⟩
    ·rename_i hb
     obtain⟨v,e,h1,h2,h3,h4⟩:=h.1 x R args H fz slot k r hk
     exact⟨v,e,h1,fun R' k'=>by simp only[hc',hb];exact h2 R' k',h3,h4⟩
   ·cases hk
 ·intro x hx
  simp only[Env.CH]at hx ⊢
  cases hb:Nat.beq x g with
  |true=>rw[hb]at hx;cases hx
  |false=>rw[hb]at hx;exact h.2.1 x hx
 ·intro x hx
  simp only[Env.CH]at hx ⊢
  cases hb:Nat.beq x g with
  |true=>
   rw[hb]at hx
   have:=Akd hb
   subst this
   have h2:=h.2.2 x hx
   intro R args H H' fz fz' slot k S a1 a2 a3
   simp only
   split
   ·split
    ·exact hl2 R args H H' fz fz' slot k S a1 a2 a3
    ·exact h2 R args H H' fz fz' slot k S a1 a2 a3
   ·rfl
  |false=>rw[hb]at hx;exact h.2.2 x hx
end Go.Pev
end
section
namespace Go.Pev
open Go.RowKit Go.ChangeShapes Go.WideShapes Go.ChangeAt
def Pu(P:Program)(rd:TypeId→Option Ty):List Field→Nat→Option Ty
 |[],_=>some .unit
 |f::r,off=>match rd f.type,Pu P rd r (off+P.cellsOf f.type)with
  |some a,some b=>match Nat.beq f.offset off&&Nat.beq (P.cellsOf f.type) a.size with
   |true=>some (.prod a b)
   |false=>none
  |_,_=>none
def Fp(P:Program):Nat→TypeId→Option Ty
 |0,_=>none
 |n+1,t=>match P.underlying t with
  |some .bool=>some .bool
  |some (.int k)=>some (.int k)
  |some (.slice e)=>match Fp P n e with
   |some a=>match Nat.beq (P.cellsOf e) a.size && !(Nat.beq a.size 0)with
    |true=>some (.slice a)
    |false=>none
   |none=>none
  |some (.array c e)=>match Fp P n e with
   |some a=>match Nat.beq (P.cellsOf e) a.size&&Nat.beq (P.cellsOf t) (c*a.size)with
    |true=>some (.arr c a)
    |false=>none
   |none=>none
  |some (.struct fs)=>match Pu P (Fp P n) fs.toList 0 with
   |some a=>match Nat.beq (P.cellsOf t) a.size with
    |true=>some a
    |false=>none
   |none=>none
  |_=>none
def wfD:(t:Ty)→t.den→Prop
 |.unit,_=>True
 |.bool,_=>True
 |.int k,n=>k.min≤n∧n≤k.max
 |.slice e,xs=>List.length (α:=e.den) xs≤maxLen∧∀ x∈(xs:List e.den),wfD e x
 |.prod a b,d=>wfD a d.1∧wfD b d.2
 |.arr n e,xs=>List.length (α:=e.den) xs=n∧∀ x∈(xs:List e.den),wfD e x
 |.nul _,_=>True
 |.mapi _ _,_=>True
section
variable {H:Type} {enc:TypeId×Value→H} {P:Program} {w:World} {spare:Nat→Bool} {held:Bool}
abbrev below(w:World):Nat→Prop:=fun b=>b<w.heap.size
theorem Ahg{k:IntKind}{n:Int}(h:(Lit.int k n).wf=true):k.min≤n∧n≤k.max:=by
 simpa [Lit.wf]using h
theorem AWJ{α:Type}{R:α→List Value→Prop}{k:Nat}:∀ (m:Nat) (f:Nat→List Value),(∀ i,i<m→(f i).length=k∧∃ x,R x (f i))→∃ xs:List α,xs.length=m∧rows R xs ((List.range m).flatMap f)∧∀ x∈xs,∃ i,i<m∧R x (f i):=by
 intro m
 induction m with
 |zero=>intro f _;exact⟨[],rfl,rfl,fun x hx=>by cases hx⟩
 |succ m ih=>
  intro f h
  obtain⟨xs,h1,h2,h3⟩:=ih f fun i hi=>h i (by omega)
  obtain⟨_,x,hx⟩:=h m (by omega)
  refine⟨xs++[x],by simp[h1],?_,fun y hy => ?_⟩
  ·rw[Ake,Al6]
   exact H3 h2 (by simp;exact⟨f m,[],by simp,hx,rfl⟩)
  ·rcases AjL.1 hy with hy|hy
   ·obtain⟨i,hi,hr⟩:=h3 y hy;exact⟨i,by omega,hr⟩
   ·simp only[Ajk]at hy;subst hy;exact⟨m,by omega,hx⟩
theorem AeV{f:Nat→List Value}{k:Nat}:∀ (m:Nat),(∀ i,i<m→(f i).length=k)→∀ (j:Nat) (u:Value),((List.range m).flatMap f)[j]? = some u→∃ i r,i<m∧r<k∧j=i*k+r∧(f i)[r]? = some u:=by
 intro m
 induction m with
 |zero=>intro _ j u h;simp at h
 |succ m ih=>
  intro hl j u h
  rw[Ake,Al6]at h
  have hlen:∀ m',m'≤m→((List.range m').flatMap f).length=m'*k:=by
   intro m' hm'
   induction m' with
   |zero=>simp
   |succ m' ih'=>
    rw[Ake,Al6,AjS,ih' (by omega)]
    simp[hl m' (by omega),AkJ]
  rcases Aj5 j (m*k)with hj|hj
  ·rw[Ajp (by rw[hlen m (AjO _)];exact hj)]at h
   obtain⟨i,r,h1,h2,h3,h4⟩:=ih (fun i hi=>hl i (by omega)) j u h
   exact⟨i,r,by omega,h2,h3,h4⟩
  ·rw[Ajv (by rw[hlen m (AjO _)];exact hj),hlen m (AjO _)]at h
   simp only[Aky,List.flatMap_nil,AkS]at h
   have hr:j-m*k<k:=by
    have:=Fx h
    rwa [hl m (by omega)]at this
   exact⟨m,j-m*k,by omega,hr,by omega,h⟩
theorem Ae2(a:Addr)(i j:Nat):(a.add i).add j=a.add (i+j):=by
 unfold Addr.add
 by_cases hi:i=0
 ·subst hi;simp
 ·by_cases hj:j=0
  ·subst hj;simp
  ·have:¬ (i+j=0):=by omega
   simp[hi,hj,Al4]
theorem AVD{α:Type}[Inhabited α]{n:Nat}{p:Nat→α→Prop}(h:∀ i,i<n→∃ x,p i x):∃ f:Nat→α,∀ i,i<n→p i (f i):=by
 classical
 refine⟨fun i=>if hi:i<n then Classical.choose (h i hi)else default,fun i hi => ?_⟩
 simp only[dif_pos hi]
 exact Classical.choose_spec (h i hi)
theorem ASX{rd:TypeId→Option Ty}{cs:List Value}(hrd:∀ (f:Field) (a:Ty),rd f.type=some a→(P.cellsOf f.type=a.size)→(∃ y:Nat×(DataW H×List MemPlace),DataW.trod enc P w 0 spare held y.1 f.type ((cs.drop f.offset).take (P.cellsOf f.type))=some y.2)→∃ d:a.den,Dat w (below w) a d ((cs.drop f.offset).take (P.cellsOf f.type))∧wfD a d):
  ∀ (fs:List Field) (off:Nat) (t:Ty),Pu P rd fs off=some t→off+t.size=cs.length→(∀ f∈fs,∃ y:Nat×(DataW H×List MemPlace),DataW.trod enc P w 0 spare held y.1 f.type ((cs.drop f.offset).take (P.cellsOf f.type))=some y.2) →
   ∃ d:t.den,Dat w (below w) t d (cs.drop off)∧wfD t d:=by
 intro fs
 induction fs with
 |nil=>
  intro off t h hl _
  simp only[Pu,AjH]at h
  subst h
  refine⟨(),?_,trivial⟩
  show cs.drop off=[]
  simp[Ty.size]at hl
  exact List.drop_eq_nil_of_le (by omega)
 |cons f r ih=>
  intro off t h hl hf
  simp only[Pu]at h
  split at h
  ·rename_i a b ha hb
   split at h
   ·rename_i hc
    simp only[AjH]at h
    subst h
    simp only[AjK]at hc
    have h1:=Akd hc.1
    have h2:=Akd hc.2
    obtain⟨d,hd,hw⟩:=hrd f a ha h2 (hf f (by simp))
    simp only[Ty.size]at hl
    obtain⟨e,he,hw'⟩:=ih (off+P.cellsOf f.type) b hb (by omega) fun g hg=>hf g (by simp[hg])
    refine⟨(d,e),⟨(cs.drop off).take (P.cellsOf f.type),cs.drop (off+P.cellsOf f.type),?_,?_,he⟩,hw,hw'⟩
    ·rw[← AlE,AkF]
    ·rw[h1]at hd;exact hd
   ·cases h
  ·cases h
theorem AbQ:∀ (n:Nat) (t:TypeId) (ty:Ty) (fuel:Nat) (cs:List Value) (x:DataW H×List MemPlace),Fp P n t=some ty→DataW.trod enc P w 0 spare held fuel t cs=some x→∃ d:ty.den,Dat w (below w) ty d cs∧wfD ty d:=by
 intro n
 induction n with
 |zero=>intro t ty fuel cs x h;cases h
 |succ n ih=>
  intro t ty fuel cs x h hx
  simp only[Fp]at h
  split at h
  ·rename_i hu
   simp only[AjH]at h;subst h
   obtain⟨b,rfl,_⟩:=DataW.trod_bool hu hx
   exact⟨b,rfl,trivial⟩
  ·rename_i k hu
   simp only[AjH]at h;subst h
   obtain⟨m,rfl,_,hw⟩:=DataW.trod_int hu hx
   exact⟨m,rfl,Ahg hw⟩
  ·rename_i e hu
   split at h
   ·rename_i a ha
    split at h
    ·rename_i hc
     simp only[AjH]at h;subst h
     rw[AjK]at hc
     have hpos:a.size≠0:=fun h0=>by rw[h0]at hc;simp at hc
     have hc:=Akd hc.1
     rcases DataW.trod_slice hu hx with⟨rfl,_⟩|⟨ad,len,cap,elems,rest,m,rfl,rfl,_,_,hle,hmax,hlen,hel,_⟩
     ·exact⟨[],⟨none,0,rfl,AjO _,fun hne=>absurd rfl hne⟩,AmN _,fun x hx=>by cases hx⟩
     ·-- each element
      have each:∀ i,i<len→∃ cs',w.cells? 0 (ad.add (i*P.cellsOf e)) (P.cellsOf e)=some cs'∧∃ d:a.den,Dat w (below w) a d cs'∧wfD a d:=by
       intro i hi
       have h1:=hel i hi
       rw[AjM (by omega),Ajz]at h1
       obtain⟨cs',h2,h3⟩:=h1
       exact⟨cs',h2,ih e a m cs' _ ha h3⟩
      obtain⟨f,hf⟩:=AVD (α:=List Value) (p:=fun i cs'=>w.cells? 0 (ad.add (i*P.cellsOf e)) (P.cellsOf e)=some cs'∧∃ d:a.den,Dat w (below w) a d cs'∧wfD a d) each
      have hfl:∀ i,i<len→(f i).length=a.size:=by
       intro i hi
       obtain⟨_,hl,_⟩:=World.cells?_some (hf i hi).1
       rw[hl,hc]
      obtain⟨xs,h1,h2,h3⟩:=AWJ (R:=fun(d:a.den) cs=>Dat w (below w) a d cs∧wfD a d) (k:=a.size) len f fun i hi=>⟨hfl i hi,(hf i hi).2⟩
      refine⟨xs,⟨some ad,cap,by rw[h1],by rw[h1];exact hle,fun hne=>⟨ad,(List.range len).flatMap f,rfl,?_,BM (fun x _ cs hx=>hx.1) h2,fun j u hu => ?_⟩⟩,by rw[h1];exact Aka hle hmax,fun x hx => ?_⟩
      ·-- the block is there
       have hl0:0<len:=by
        rcases Akb len with h0|h0
        ·exact absurd (Ajg (by rw[h1,h0])) hne
        ·exact h0
       have hb:=World.cells?_block (hf 0 hl0).1 (by omega)
       rw[Als]at hb
       have e0:ad.add 0=ad:=by simp[Addr.add]
       rw[e0]at hb
       exact hb
      ·obtain⟨i,r,hi,hr,rfl,hur⟩:=AeV len hfl j u hu
       obtain⟨_,_,hcell⟩:=World.cells?_some (hf i hi).1
       have:=hcell r (by rw[hc];exact hr)
       rw[hur]at this
       rw[← this,hc,Ae2]
      ·obtain⟨i,_,hr⟩:=h3 x hx
       exact hr.2
    ·cases h
   ·cases h
  ·rename_i c e hu
   split at h
   ·rename_i a ha
    split at h
    ·rename_i hc
     simp only[AjH]at h;subst h
     rw[AjK]at hc
     have hc1:=Akd hc.1
     have hc2:=Akd hc.2
     obtain⟨xs,m,rfl,_,hl,hxs,hfs⟩:=DataW.trod_array hu hx
     rw[hc2]at hl
     obtain⟨ys,h1,h2,h3⟩:=AWJ (R:=fun(d:a.den) cs=>Dat w (below w) a d cs∧wfD a d) (k:=a.size) c (fun i=>(cs.drop (i*a.size)).take a.size) fun i hi=>by
      have hi1:i*a.size+a.size≤c*a.size:=by
       have:=AkD a.size (show i+1≤c from hi)
       rwa [AkJ,Ak1]at this
      have h1:=hfs i hi
      rw[AjM (by omega),hc1]at h1
      exact⟨by rw[Ajb,Aj3,hl];omega,ih e a m _ _ ha h1⟩
     have hjoin:∀ k,k≤c→(List.range k).flatMap (fun i=>(cs.drop (i*a.size)).take a.size)=cs.take (k*a.size):=by
      intro k
      induction k with
      |zero=>intro _;simp
      |succ k ihk=>
       intro hk
       rw[Ake,Al6,ihk (by omega),AkJ,Ak1,List.take_add]
       simp
     rw[hjoin c (AjO _),← hl,Akv]at h2
     exact⟨ys,⟨h1,BM (fun x _ cs hx=>hx.1) h2⟩,h1,fun x hx=>by obtain⟨i,_,hr⟩:=h3 x hx;exact hr.2⟩
    ·cases h
   ·cases h
  ·rename_i fs hu
   split at h
   ·rename_i a ha
    split at h
    ·rename_i hc
     simp only[AjH]at h;subst h
     have hc:=Akd hc
     obtain⟨xs,m,rfl,_,hl,hxs,hfs⟩:=DataW.trod_struct hu hx
     obtain⟨d,hd,hw⟩:=ASX (enc:=enc) (w:=w) (spare:=spare) (held:=held) (cs:=cs) (fun f b hb _ ⟨y,hy⟩=>ih f.type b y.1 _ y.2 hb hy) fs.toList 0 _ ha (by rw[hl,hc];omega) (fun f hf=>by
      obtain⟨i,hi⟩:=Al1 hf
      have h1:=hfs i f (by simpa using hi)
      have hlt:i<xs.length:=by rw[hxs];simpa using Fx hi
      rw[AjM hlt]at h1
      exact⟨(m,xs[i]),h1⟩)
     rw[AlD]at hd
     exact⟨d,hd,hw⟩
    ·cases h
   ·cases h
  ·cases h
theorem ATS{r:Reach}{b0:Nat}{t:TypeId}{v:Value}(hval:Value.okWide P w r b0 t v)(hn:∀ d,P.underlying t=some d→(match d with|.bool|.int _|.slice _=>true|_=>false)=true){ty:Ty}{n:Nat}(h:Fp P (n+1) t=some ty):v.cells.toList=[v]:=by
 simp only[Value.okWide]at hval
 have hu:∃ d,P.underlying t=some d:=by
  cases hu:P.underlying t with
  |none=>simp only[Fp,hu]at h;cases h
  |some d=>exact⟨d,rfl⟩
 obtain⟨d,hu⟩:=hu
 have:=hn d hu
 rw[hu]at hval
 cases d<;>simp only[Ajf]at this<;>simp only[Cell.okWide,hu]at hval<;>cases v<;>first|rfl|(simp_all [Cell.ok])
theorem Zu{r:Reach}{b0:Nat}{t:TypeId}{v:Value}{ps:List MemPlace}{dd:DataW H}(hval:Value.okWide P w r b0 t v)(hd:DataW.Trod enc P w 0 spare held t v dd ps){ty:Ty}{n:Nat}(h:Fp P (n+1) t=some ty):
  ∃ d:ty.den,Bg w (below w) ty d v∧wfD ty d:=by
 obtain⟨fuel,hf⟩:=hd
 obtain⟨d,h1,h2⟩:=AbQ (n+1) t ty fuel _ _ h hf
 refine⟨d,?_,h2⟩
 have one:(∀ d,P.underlying t=some d→(match d with|.bool|.int _|.slice _=>true|_=>false)=true)→ty.isAgg=false→Bg w (below w) ty d v:=by
  intro hn hg
  unfold Bg
  rw[hg]
  rw[ATS hval hn h]at h1
  exact h1
 have agg:(∃ cs,v = .agg cs)→ty.isAgg=true→Bg w (below w) ty d v:=by
  rintro⟨cs,rfl⟩ hg
  unfold Bg
  rw[hg]
  exact⟨cs,rfl,h1⟩
 have hu:∃ d,P.underlying t=some d:=by
  cases hu:P.underlying t with
  |none=>simp only[Fp,hu]at h;cases h
  |some d=>exact⟨d,rfl⟩
 obtain⟨td,hu⟩:=hu
 simp only[Fp,hu]at h
 split at h
 ·rename_i hq;cases hq;simp only[AjH]at h;subst h
  exact one (fun d hd=>by rw[hu]at hd;cases hd;rfl) rfl
 ·rename_i k hq;cases hq;simp only[AjH]at h;subst h
  exact one (fun d hd=>by rw[hu]at hd;cases hd;rfl) rfl
 ·rename_i e hq;cases hq
  split at h
  ·split at h
   ·simp only[AjH]at h;subst h
    exact one (fun d hd=>by rw[hu]at hd;cases hd;rfl) rfl
   ·cases h
  ·cases h
 ·rename_i c e hq;cases hq
  have hv:∃ cs,v = .agg cs:=by
   simp only[Value.okWide,hu]at hval
   obtain⟨cs,rfl,_⟩:=hval
   exact⟨cs,rfl⟩
  split at h
  ·split at h
   ·simp only[AjH]at h;subst h
    exact agg hv rfl
   ·cases h
  ·cases h
 ·rename_i fs hq;cases hq
  have hv:∃ cs,v = .agg cs:=by
   simp only[Value.okWide,hu]at hval
   obtain⟨cs,rfl,_⟩:=hval
   exact⟨cs,rfl⟩
  split at h
  ·rename_i a ha
   split at h
   ·simp only[AjH]at h;subst h
    refine agg hv ?_
    cases hfs:fs.toList with
    |nil=>rw[hfs]at ha;simp only[Pu,AjH]at ha;subst ha;rfl
    |cons f r=>
     rw[hfs]at ha
     simp only[Pu]at ha
     split at ha
     ·split at ha
      ·simp only[AjH]at ha;subst ha;rfl
      ·cases ha
     ·cases ha
   ·cases h
  ·cases h
 ·cases h
theorem AF0{g:FuncId}{s:Spec}(hs:AR P g s){args:List AV}{b:Bool}{e:Eff}(hrun:s (AV×Eff) args [] [] 0 (fun v e=>some (v,e))=some (.data .bool b,e)){vals:List Value}
  (hr:Ad w (below w) (fun _=>none) [] args vals) (hglo:Aa6 w (below w):=by intro p h;simp[AKq]at h):Calls P g vals.toArray w fun en w'=>en = .returned (.bool b)∧Below w.heap.size w w':=by
 obtain⟨v,e',h1,_,_,h4⟩:=hs _ args [] [] 0 _ _ hrun
 simp only[AjH,Ajl]at h1
 obtain⟨rfl,rfl⟩:=h1
 have hi:HI w (below w) (fun _=>none) [] []:=⟨fun id o h=>by simp at h,fun i T e t xs ver out h=>by simp at h,fun i T e t xs ver out h=>by simp at h,fun i j b c b' c' _ _ _ h=>(nomatch h),fun i b c _ h=>(nomatch h),fun i T t xs b c h=>by simp at h,fun b h=>h,hglo,rfl⟩
 refine(h4 w _ _ vals hi hr).mono ?_
 rintro en w' ⟨u,rfl,F',m',⟨hx,_⟩,hu⟩
 have hb:u = .bool b:=Co hu
 subst hb
 exact⟨rfl,hx.os,hx.tape,hx.output,hx.size,fun i hi=>hx.keep i hi fun j c _ h=>by cases h⟩
end
section
variable {H:Type} {enc:TypeId×Value→H} {P:Program}
theorem AFD{f:Func}{s:ChangeSpec}{apart fresh handsOn again:Bool}{W W':World}{args:Array Value}{v:Value}{ds gs:List (DataW H)}{before pa pv:List MemPlace}
  (hW:DataW.Whole enc P f.params.toList s.vars apart W args.toList ds gs before)
  (hres:∀ (b:Nat) (sp:Nat→Bool) (hd:Bool),DataW.TrodAll enc P W' b sp hd f.resultTypes.toList (v.resultList f.resultTypes.size) (s.fn H (ds++gs)).results [])
  (hargs:∀ sp:Nat→Bool,(∀ p∈before,sp p.block=true)→DataW.TrodAll enc P W' 0 sp true f.params.toList args.toList (s.fn H (ds++gs)).args pa)
  (hvars:∀ sp:Nat→Bool,(∀ p∈before,sp p.block=true)→DataW.TrodVars enc P W' sp s.vars (s.fn H (ds++gs)).vars pv)
  (hps:before=pa++pv) (hb:Below W.heap.size W W')
  (hok:∀ (j:Nat) (t:TypeId) (r:Value),f.resultTypes[j]? = some t→(v.resultList f.resultTypes.size)[j]? = some r→Value.okWide P W' .any 0 t r) :
  s.post enc P f apart fresh handsOn again W args v W':=by
 have hlt:∀ p∈before,p.block<W.heap.size:=fun p hp=>hW.lt p hp
 have hold:∀ p∈before,(fun b=>decide (b<W.heap.size)) p.block=true:=fun p hp=>by simpa using hlt p hp
 refine⟨ds,gs,before,[],pa,pv,hW,hres _ _ _,hargs _ hold,hvars _ hold,World.keptBut_mono (fun p hp=>⟨hp,?_⟩) (hb.frame (·∈before)),fun _ => ?_⟩
 ·rw[hps,AjL]at hp
  exact Or.inr hp
 ·obtain⟨_,_,_,_,_,hz,hn⟩:=hW
  refine⟨hok,_,_,([]++pa)++pv,⟨[]++pa,pv,trodAll_append (hargs _ (fun _ _=>rfl)) (hres _ _ _),hvars _ (fun _ _=>rfl),rfl,?_,?_⟩,?_⟩
  ·intro b off hp
   have hin:MemPlace.cell b off∈before:=by rw[hps];simpa using hp
   rw[hb.frozen (hlt _ hin)]
   exact hz b off hin
  ·intro ha
   have:=hn ha
   rw[hps]at this
   simpa using this
  ·intro p hp _
   rw[hps]
   simpa using hp
theorem PZ{t:TypeId}(hl:laidOutB P=true)(hr:P.readableRec t=true)(hrow:t<P.types.size){W W':World}{v:Value}{d:DataW H}{ps:List MemPlace}
  (h:DataW.Trod enc P W 0 (fun _=>true) true t v d ps) (hb:Below W.heap.size W W') (hlt:∀ x∈ps,x.block<W.heap.size) {sp:Nat→Bool} (hs:∀ x∈ps,sp x.block=true) :
  DataW.Trod enc P W' 0 sp true t v d ps:=
 WideElems.Trod_stays hl hr hrow h (fun x hx=>hb.same (hlt x hx)) hs
end
end Go.Pev
end
section
section
namespace Go.Pev.Pl
open Tok
theorem EH{a b:Nat}(hb:0<b):rem? (a:Int) (b:Int)=some ((a % b:Nat):Int):=by
 rw[AJR,AA2,AjQ (by omega)]
 rfl
theorem IF{a b:Nat}(h:a<2*b):a % b=if a<b then a else a-b:=by
 split
 ·exact AkM (by assumption)
 ·rw[AmE (by omega),AkM (by omega)]
def Kz(n t u:Int):Bool:=match CD n t with
 |some x=>decide (x.st=u)
 |none=>false
theorem OJ{l:List Int}{j:Nat}(hj:j≤l.length):(rot l j).length=l.length:=by
 simp[rot];omega
theorem Ga{l:List Int}{j k:Nat}(hj:j<l.length)(hk:k<l.length):(rot l j).getD k 0=l.getD ((j+k) % l.length) 0:=by
 rw[IF (by omega),rot]
 by_cases h:j+k<l.length
 ·rw[AjP h,AjI,Ajp (by simp;omega),AkH,AjI]
 ·rw[AjQ h,AjI,Ajv (by simp;omega),List.getElem?_take_of_lt (by simp;omega),AjI]
  congr 2
  simp;omega
def Red(n:Int)(l l':List Int):Prop:=∃ j x u v rest,j<l.length∧rot l j=x::Dg n (.arc u v)::v::Dg n (.arc v u)::rest∧okT n (.arc u v)∧Kz n x u=true∧l'=rest++[x]
def Fm(l:List Int)(i:Nat):List Int:=(List.range' 3 (l.length-3)).map fun k=>l.getD ((i+k) % l.length) 0
theorem AYi{l:List Int}{i j:Nat}(hl:4≤l.length)(hj:j<l.length)(hij:i=if j+1=l.length then 0 else j+1):Fm l i=(rot l j).drop 4++[(rot l j).getD 0 0]:=by
 apply AmT
 ·simp[Fm,OJ (Ak8 hj)];omega
 ·intro m h1 h2
  simp only[Fm,Aj6,List.length_range']at h1
  simp only[Fm,List.getElem_map,List.getElem_range',Ak1]
  have hi:i<l.length:=by rw[hij];split<;>omega
  by_cases hm:m<l.length-4
  ·rw[List.getElem_append_left (by simp[OJ (Ak8 hj)];omega),List.getElem_drop]
   have:=Ga (l:=l) (j:=j) (k:=4+m) hj (by omega)
   rw[AjI,AjM (by rw[OJ (Ak8 hj)];omega),Ajn]at this
   rw[this]
   congr 1
   rw[IF (by omega),IF (by omega),hij]
   (repeat' split)<;>omega
  ·rw[List.getElem_append_right (by simp[OJ (Ak8 hj)];omega)]
   simp only[List.getElem_singleton]
   rw[Ga hj (by omega)]
   congr 1
   rw[IF (by omega),IF (by omega),hij]
   (repeat' split)<;>omega
theorem Aiu{α:Type}{l:List α}(z:α)(h:4≤l.length):l=l.getD 0 z::l.getD 1 z::l.getD 2 z::l.getD 3 z::l.drop 4:=by
 match l,h with
 |a::b::c::d::r,_=>rfl
def LU(n:Int)(l:List Int)(i:Nat):Bool:=
 decide (4≤l.length)&&match CD n (l.getD i 0)with
  |some (.arc u v)=>decide (l.getD ((i+1) % l.length) 0=v)&&(decide (l.getD ((i+2) % l.length) 0=EB n v u)&&Kz n (l.getD ((i+l.length-1) % l.length) 0) u)
  |_=>false
theorem FD{n u v:Int}(h:okT n (.arc u v)):okT n (.arc v u):=⟨h.2.1,h.1,Ajy h.2.2⟩
theorem AT5{n:Int}{l:List Int}{i:Nat}(hi:i<l.length)(h:LU n l i=true):Red n l (Fm l i):=by
 rw[LU,AjK,AjJ]at h
 obtain⟨hl,h⟩:=h
 cases ht:CD n (l.getD i 0)with
 |none=>rw[ht]at h;cases h
 |some t=>
  rw[ht]at h
  cases t with
  |ver v=>cases h
  |arc u v=>
   simp only[AjK,AjJ]at h
   obtain⟨h1,h2,h3⟩:=h
   obtain⟨g1,g2⟩:=WC ht
   let j:=if i=0 then l.length-1 else i-1
   have hj:j<l.length:=by simp only[j];split<;>omega
   have hij:i=if j+1=l.length then 0 else j+1:=by simp only[j];(repeat' split)<;>omega
   have m0:(i+l.length-1) % l.length=(j+0) % l.length:=by
    rw[IF (by omega),IF (by omega)];simp only[j];(repeat' split)<;>omega
   have m1:i=(j+1) % l.length:=by rw[IF (by omega)];simp only[j];(repeat' split)<;>omega
   have m2:(i+1) % l.length=(j+2) % l.length:=by
    rw[IF (by omega),IF (by omega)];simp only[j];(repeat' split)<;>omega
   have m3:(i+2) % l.length=(j+3) % l.length:=by
    rw[IF (by omega),IF (by omega)];simp only[j];(repeat' split)<;>omega
   have hlr:4≤(rot l j).length:=by rw[OJ (Ak8 hj)];exact hl
   have e:=Aiu (0:Int) hlr
   have r0:=Ga (l:=l) (k:=0) hj (by omega)
   have r1:=Ga (l:=l) (k:=1) hj (by omega)
   have r2:=Ga (l:=l) (k:=2) hj (by omega)
   have r3:=Ga (l:=l) (k:=3) hj (by omega)
   rw[← m0]at r0
   rw[← m1]at r1
   rw[← m2,h1]at r2
   rw[← m3,h2,FZ (FD g1)]at r3
   refine⟨j,(rot l j).getD 0 0,u,v,(rot l j).drop 4,hj,?_,g1,by rw[r0];exact h3,AYi hl hj hij⟩
   rw[r1,r2,r3,← g2]at e
   exact e
theorem ASW{n:Int}{l l':List Int}(h:Red n l l'):∃ i,i<l.length∧LU n l i=true:=by
 obtain⟨j,x,u,v,rest,hj,hr,hok,hst,_⟩:=h
 have hl:4≤l.length:=by
  have:=Akf List.length hr
  rw[OJ (Ak8 hj)]at this
  simp only[AjR]at this
  omega
 let i:=if j+1=l.length then 0 else j+1
 have hi:i<l.length:=by simp only[i];split<;>omega
 have m0:(i+l.length-1) % l.length=(j+0) % l.length:=by
  rw[IF (by omega),IF (by omega)];simp only[i];(repeat' split)<;>omega
 have m1:i=(j+1) % l.length:=by rw[IF (by omega)];simp only[i];(repeat' split)<;>omega
 have m2:(i+1) % l.length=(j+2) % l.length:=by
  rw[IF (by omega),IF (by omega)];simp only[i];(repeat' split)<;>omega
 have m3:(i+2) % l.length=(j+3) % l.length:=by
  rw[IF (by omega),IF (by omega)];simp only[i];(repeat' split)<;>omega
 have r0:=Ga (l:=l) (k:=0) hj (by omega)
 have r1:=Ga (l:=l) (k:=1) hj (by omega)
 have r2:=Ga (l:=l) (k:=2) hj (by omega)
 have r3:=Ga (l:=l) (k:=3) hj (by omega)
 rw[hr]at r0 r1 r2 r3
 rw[← m0]at r0
 rw[← m1]at r1
 rw[← m2]at r2
 rw[← m3]at r3
 simp only[List.getD_cons_zero,List.getD_cons_succ]at r0 r1 r2 r3
 refine⟨i,hi,?_⟩
 rw[LU,← r1,Dr hok]
 simp only[← r0,← r2,← r3,hst,FZ (FD hok),hl,AjV,AkP]
theorem Ah4{n:Int}{l l':List Int}(h:Red n l l')(hn:l.Nodup):TI n l↔TI n l':=by
 obtain⟨j,x,u,v,rest,hj,hr,hok,hst,rfl⟩:=h
 obtain⟨X,hX,hXs⟩:∃ X,CD n x=some X∧X.st=u:=by
  rw[Kz]at hst
  cases hx:CD n x with
  |none=>rw[hx]at hst;cases hst
  |some X=>rw[hx]at hst;exact⟨X,rfl,by simpa using hst⟩
 obtain⟨hX1,hX2⟩:=WC hX
 have hnr:(rot l j).Nodup:=by
  rw[rot]
  exact(List.perm_append_comm.nodup_iff).2 (by rw[AkF];exact hn)
 rw[hr]at hnr
 constructor
 ·rintro⟨L,h1,h2,h3⟩
  have hL:rot l j=(L.drop j++L.take j).map (Dg n):=by rw[rot,h1];simp
  have hTr:T (L.drop j++L.take j):=T.rot (L.take j) (L.drop j) (by rw[AkF];exact h3)
  have hok2:∀ t∈L.drop j++L.take j,okT n t:=fun t ht=>h2 t (by
   rw[← AkF j L]
   simp only[AjL]at ht ⊢
   exact ht.symm)
  generalize L.drop j++L.take j=M at *
  rw[hr]at hL
  match M,hL with
  |[_,_],hL=>simp at hL
  |[_,_,_],hL=>simp at hL
  |a::b::c::d::r,hL=>
   simp only[Ajr,Aje]at hL
   obtain⟨e1,e2,e3,e4,e5⟩:=hL
   have q1:X=a:=Gi hX1 (hok2 a (by simp)) (by rw[hX2,e1])
   have q2:Tok.arc u v=b:=Gi hok (hok2 b (by simp)) e2
   have q3:Tok.ver v=c:=Gi (show okT n (.ver v)from hok.2.1) (hok2 c (by simp)) e3
   have q4:Tok.arc v u=d:=Gi (FD hok) (hok2 d (by simp)) e4
   subst q1 q2 q3 q4
   subst hXs
   have:=T.less hTr
   refine⟨r++[X],by simp[e5,hX2],fun t ht=>hok2 t ?_,T.rot [X] r this⟩
   simp only[AjL,Ajk]at ht
   rcases ht with h|h<;>simp[h]
 ·rintro⟨K,k1,k2,k3⟩
  obtain⟨K1,K2,rfl,e1,e2⟩:=AmR.1 k1.symm
  obtain⟨X',K3,rfl,e3,e4⟩:=List.map_eq_cons_iff.1 e2
  rw[List.map_eq_nil_iff]at e4
  subst e4
  have q1:X'=X:=Gi (k2 X' (by simp)) hX1 (by rw[hX2,e3])
  subst q1
  have t1:T (X'::K1):=T.rot K1 [X'] k3
  subst hXs
  have hvm:∀ t,t∈X'::K1→okT n t:=fun t ht=>k2 t (by
   simp only[AjN,AjL,Ajk]at ht ⊢
   rcases ht with h|h<;>simp[h])
  have hnv:Tok.ver v∉X'::K1:=by
   intro hm
   have hvl:v=x∨v∈rest:=by
    rcases AjN.1 hm with h|h
    ·left;rw[← hX2,← h];rfl
    ·right;rw[← e1];exact Aja.2 ⟨_,h,rfl⟩
   simp only[Aju,AjN,not_or]at hnr
   rcases hvl with h|h
   ·exact hnr.1.2.1 h.symm
   ·exact hnr.2.2.1.2 h
  have t2:=T.add X' K1 v t1 hok.2.2 hnv
  have hmap:rot l j=(X' :: .arc X'.st v :: .ver v :: .arc v X'.st::K1).map (Dg n):=by
   rw[hr];simp only[Ajr,hX2,e1];rfl
  have hok3:∀ t∈X'::Tok.arc X'.st v :: .ver v :: .arc v X'.st::K1,okT n t:=by
   intro t ht
   simp only[AjN]at ht
   rcases ht with rfl|rfl|rfl|rfl|h
   ·exact hX1
   ·exact hok
   ·exact hok.2.1
   ·exact FD hok
   ·exact hvm t (Ajh _ h)
  generalize X'::Tok.arc X'.st v :: .ver v :: .arc v X'.st::K1=M at *
  rw[rot]at hmap
  obtain⟨M1,M2,rfl,f1,f2⟩:=AmR.1 hmap.symm
  refine⟨M2++M1,by rw[Akt,f1,f2,AkF],fun t ht=>hok3 t ?_,T.rot M1 M2 t2⟩
  simp only[AjL]at ht ⊢
  exact ht.symm
theorem Aia{n:Int}{l:List Int}(h:TI n l)(hl:1<l.length):∃ l',Red n l l':=by
 obtain⟨L,h1,h2,h3⟩:=h
 rcases h3.leaf with⟨v,e⟩|⟨x,v,r,p,q,e1,e2⟩
 ·rw[h1,e]at hl;simp at hl
 ·have hmap:l.map id=(p++q).map (Dg n):=by rw[List.map_id,h1,e1]
  rw[List.map_id]at hmap
  have hok:∀ t∈q++p,okT n t:=fun t ht=>h2 t (by rw[e1];simp only[AjL]at ht ⊢;exact ht.symm)
  have key:∀ j,j<l.length→rot l j=(q++p).map (Dg n)→∃ l',Red n l l':=by
   intro j hj hrj
   rw[← e2]at hok
   rw[← e2]at hrj
   have ha:okT n (.arc x.st v):=hok _ (by simp)
   exact⟨_,j,Dg n x,x.st,v,r.map (Dg n),hj,by rw[hrj];rfl,ha,by rw[Kz,Dr (hok x (by simp))];simp,rfl⟩
  by_cases hq:q=[]
  ·subst hq
   refine key 0 (by omega) ?_
   simp[rot,hmap]
  ·have hj:p.length<l.length:=by
    rw[hmap,Aj6,AjS]
    have:=List.length_pos_iff.2 hq
    omega
   refine key p.length hj ?_
   rw[rot,hmap,Akt]
   rw[List.drop_left' (by simp),AmA (by simp),Akt]
end Go.Pev.Pl
end
section
namespace Go.Pev.Pl
open Tok
theorem ASS{l:List Int}{i:Nat}(hi:i<l.length):∀ x∈Fm l i,x∈l:=by
 intro x hx
 simp only[Fm,Aja]at hx
 obtain⟨k,_,rfl⟩:=hx
 have hk:(i+k) % l.length<l.length:=Ak6 _ (by omega)
 rw[AjI,AjM hk,Ajn]
 exact AkY hk
theorem AYj{n:Int}{l l':List Int}(h:Red n l l')(hn:l.Nodup):l'.Nodup:=by
 obtain⟨j,x,u,v,rest,hj,hr,hok,hst,rfl⟩:=h
 have hnr:(rot l j).Nodup:=by
  rw[rot]
  exact(List.perm_append_comm.nodup_iff).2 (by rw[AkF];exact hn)
 rw[hr]at hnr
 have:(x::rest).Nodup:=by
  simp only[Aju,AjN,not_or]at hnr ⊢
  exact⟨hnr.1.2.2.2,hnr.2.2.2.2⟩
 exact(Ak7 (l₁:=[x]) (l₂:=rest)).nodup_iff.1 this
theorem Ae8(n t:Int):TI n [t]↔In n t:=by
 constructor
 ·rintro⟨L,h1,h2,h3⟩
  rcases h3.leaf with⟨v,e⟩|⟨x,v,r,hr⟩
  ·subst e
   simp only[Ajr,AlA,Aje,Alx]at h1
   rw[h1]
   exact h2 (.ver v) (by simp)
  ·have h4:=hr.length
   have h5:=Akf List.length h1
   simp only[AjR,Aji,Aj6]at h4 h5
   omega
 ·intro h
  exact⟨[.ver t],rfl,fun x hx=>by simp at hx;subst hx;exact h,T.one t⟩
theorem Ae9(n:Int):¬ TI n []:=by
 rintro⟨L,h1,h2,h3⟩
 have:=h3.facts.1
 cases L with
 |nil=>exact this rfl
 |cons t L=>cases h1
end Go.Pev.Pl
end
section
namespace Go.Pev.Pl
open Tok
def RG(n:Int)(xs:List Int):Prop:=Rt xs∧xs≠[]∧Gw xs=xs.headD 0∧TI n xs
def okR(n:Int):List Int→Int→List (List Int)→Prop
 |_,_,[]=>True
 |seen,last,l::ls=>RG n l∧last<l.headD 0∧(∀ t∈l,t<n→t∉seen)∧okR n (seen++l.filter (fun t=>decide (t<n))) (l.headD 0) ls
def RF(n:Int)(rings:List (List Int)):Prop:=Sz n∧okR n [] (-1) rings∧∀ v,0≤v→v<n→v∈rings.flatten
noncomputable instance (n:Int) (rings:List (List Int)):Decidable (RF n rings):=Classical.propDecidable _
noncomputable instance (n:Int) (xs:List Int):Decidable (RG n xs):=Classical.propDecidable _
def MI(n:Int)(met:List (Int×Int))(seen:List Int):Prop:=∀ t,t<n→(AP met t).getD (0:Int)=if t∈seen then 1 else 0
theorem AIS(n:Int)(l:List Int)(hl:l.length<1073741824)(d1:List (List Int))(d3:Int)(d4:List (List Int))(d5 d6:Int)(d7:List Int)(d8 d9:Int)(d10:Bool)(d11:List Int)(d12 d13:Bool)(d14:List Int)(d15:Int)(d16:List Int)(d17:Int)(d18:Bool)(d19:Int)(d20:List Int)(d21 d22:Bool):
  ∀ (m k cnt:Nat) (met:List (Int×Int)) (seen:List Int),k+m=l.length→MI n met seen→(l.drop k).Nodup→m<cnt →
  ((∀ t∈l.drop k,t<n→t∉seen)∧∃ met',AX Dn cnt (n,d1,met,d3,d4,d5,d6,d7,d8,d9,d10,d11,d12,d13,d14,d15,d16,d17,d18,d19,d20,d21,d22,l,(l.length:Int),(k:Int),()) =
    some (.inr (.inl (n,d1,met',d3,d4,d5,d6,d7,d8,d9,d10,d11,d12,d13,d14,d15,d16,d17,d18,d19,d20,d21,d22,())))∧MI n met' (seen++(l.drop k).filter (fun t=>decide (t<n)))) ∨
  (¬ (∀ t∈l.drop k,t<n→t∉seen)∧AX Dn cnt (n,d1,met,d3,d4,d5,d6,d7,d8,d9,d10,d11,d12,d13,d14,d15,d16,d17,d18,d19,d20,d21,d22,l,(l.length:Int),(k:Int),())=some (.inl (false,()))):=by
 intro m
 induction m with
 |zero=>
  intro k cnt met seen hk hm hn hc
  obtain⟨cnt,rfl⟩:∃ c,cnt=c+1:=⟨cnt-1,by omega⟩
  have e:l.drop k=[]:=AkZ (by omega)
  rw[e]
  refine .inl ⟨by simp,met,?_,by simpa using hm⟩
  rw[AX,Dn,AL,AjF (by omega)]
 |succ m ih=>
  intro k cnt met seen hk hm hn hc
  obtain⟨cnt,rfl⟩:∃ c,cnt=c+1:=⟨cnt-1,by omega⟩
  have hk':k<l.length:=by omega
  have e:l.drop k=l.getD k 0::l.drop (k+1):=by
   rw[AkC hk',AjI,AjM hk',Ajn]
  rw[AX,Dn,AL,AjG hk']
  simp only[Bs (0:Int) hk']
  rw[e]at hn ⊢
  generalize l.getD k 0=t at *
  rw[Aju]at hn
  rw[AM (by omega),Ag]
  by_cases ht:t<n
  ·rw[AjG ht]
   have hmt:=hm t ht
   simp only[hmt,Ag]
   by_cases hs:t∈seen
   ·rw[AjP hs,AjG (by omega)]
    exact .inr ⟨fun h=>h t (by simp) ht hs,rfl⟩
   ·rw[AjQ hs,AjF (by omega)]
    simp only[]
    have w1:IntKind.wrap .i64 ((0:Int)+1)=1:=by rw[Ai (by omega)];rfl
    rw[w1]
    have hm':MI n (Af met t 1) (seen++[t]):=by
     intro y hy
     rw[Dv]
     by_cases e2:y=t
     ·simp[e2]
     ·simp only[e2,Ajc,AjL,Ajk,Alo];exact hm y hy
    have hiff:(∀ y∈t::l.drop (k+1),y<n→y∉seen)↔∀ y∈l.drop (k+1),y<n→y∉seen++[t]:=by
     constructor
     ·intro h y hy hyn hm2
      simp only[AjL,Ajk]at hm2
      rcases hm2 with h2|rfl
      ·exact h y (Ajh _ hy) hyn h2
      ·exact hn.1 hy
     ·intro h y hy hyn hm2
      rcases AjN.1 hy with rfl|hy
      ·exact hs hm2
      ·exact h y hy hyn (by simp[hm2])
    rcases ih (k+1) cnt _ _ (by omega) hm' hn.2 (by omega)with⟨q1,met',q2,q3⟩|⟨q1,q2⟩
    ·refine .inl ⟨hiff.2 q1,met',q2,?_⟩
     rw[AmJ (by simpa using ht)]
     simpa using q3
    ·exact .inr ⟨fun h=>q1 (hiff.1 h),q2⟩
  ·rw[AjF ht]
   simp only[]
   have hm':MI n (Af met t (IntKind.wrap .i64 (((AP met t).getD (0:Int))+(1:Int)))) seen:=by
    intro y hy
    rw[Dv,AjQ (by omega)]
    exact hm y hy
   have hiff:(∀ y∈t::l.drop (k+1),y<n→y∉seen)↔∀ y∈l.drop (k+1),y<n→y∉seen:=by
    constructor
    ·intro h y hy;exact h y (Ajh _ hy)
    ·intro h y hy hyn
     rcases AjN.1 hy with rfl|hy
     ·exact absurd hyn ht
     ·exact h y hy hyn
   rcases ih (k+1) cnt _ _ (by omega) hm' hn.2 (by omega)with⟨q1,met',q2,q3⟩|⟨q1,q2⟩
   ·refine .inl ⟨hiff.2 q1,met',q2,?_⟩
    rw[AmK (by simpa using ht)]
    exact q3
   ·exact .inr ⟨fun h=>q1 (hiff.1 h),q2⟩
theorem Zv(n:Int)(rings:List (List Int))(hlen:rings.length<1073741824)(hr:∀ l∈rings,l.length<9223372036854775808∧∀ x∈l, -9223372036854775808≤x∧x≤9223372036854775807):
  ∀ (ls:List (List Int)) (i cnt:Nat) (met:List (Int×Int)) (last:Int) (seen:List Int),rings.drop i=ls→i≤rings.length→MI n met seen→ls.length<cnt →
  (okR n seen last ls∧∃ met' seen',AX Dp cnt (n,rings,met,last,rings,(rings.length:Int),(i:Int),())=some (.inr (.inl (n,rings,met',())))∧MI n met' seen'∧∀ v,v∈seen'↔v∈seen∨(v<n∧v∈ls.flatten)) ∨
  (¬ okR n seen last ls∧AX Dp cnt (n,rings,met,last,rings,(rings.length:Int),(i:Int),())=some (.inl (false,()))):=by
 have hmany:4294967296<many:=by simp only[many];omega
 intro ls
 induction ls with
 |nil=>
  intro i cnt met last seen hd hi hm hc
  obtain⟨cnt,rfl⟩:∃ c,cnt=c+1:=⟨cnt-1,by simp at hc;omega⟩
  have:rings.length≤i:=by simpa using hd
  refine .inl ⟨trivial,met,seen,?_,hm,by simp⟩
  rw[AX,Dp,AL,AjF (by omega)]
 |cons l ls ih=>
  intro i cnt met last seen hd hi hm hc
  simp only[AjR]at hc
  obtain⟨cnt,rfl⟩:∃ c,cnt=c+1:=⟨cnt-1,by omega⟩
  have hi':i<rings.length:=by
   refine AkK fun h => ?_
   rw[AkZ (by omega)]at hd
   cases hd
  rw[AkC hi']at hd
  simp only[Aje]at hd
  obtain⟨hd1,hd2⟩:=hd
  have hx:rings[i]? = some l:=by rw[AjM hi',hd1]
  have hmem:l∈rings:=AjW hx
  obtain⟨hl,hlr⟩:=hr l hmem
  rw[AX,Dp,AL,AjG hi',okR]
  simp only[Ae hx,An]
  cases l with
  |nil=>
   rw[AK,AjG (by simp)]
   exact .inr ⟨fun h=>h.1.2.1 rfl,rfl⟩
  |cons x tl=>
   rw[AK,AjF (by simp only[AjR];omega)]
   have i0:idx (x::tl) (0:Int)=some x:=by rw[Gy];rfl
   simp only[i0,AmB,Ar]
   by_cases c1:x≤last
   ·rw[AjG c1]
    exact .inr ⟨fun h=>by omega,rfl⟩
   ·rw[AjF c1]
    simp only[K7]
    by_cases c2:Rt (x::tl)
    ·rw[AjG c2]
     have hl:(x::tl).length<1073741824:=by have:=c2.1;omega
     simp only[AjT,AOj (x::tl) (by simp) (by omega)]
     by_cases c3:Gw (x::tl)=x
     ·rw[AjG c3]
      simp only[AjT]
      rw[AeI n (x::tl) (by simp) (by omega) hlr c2.2.2 (fun y hy=>by simp at hy;rw[← hy];exact c3)]
      by_cases c4:TI n (x::tl)
      ·rw[AjG c4]
       simp only[AjT,Au]
       have hRG:RG n (x::tl):=⟨c2,by simp,c3,c4⟩
       rcases AIS n (x::tl) hl rings x rings (rings.length:Int) (i:Int) (x::tl) x last false (x::tl) true false (x::tl) (Gw (x::tl)) (x::tl) x false n (x::tl) true false (x::tl).length 0 many met seen (by omega) hm (by rw[AlD];exact c2.2.2) (by omega)with⟨q1,met',q2,q3⟩|⟨q1,q2⟩
       ·rw[AlD]at q1 q3
        have q2':AX Dn many (n,rings,met,x,rings,(rings.length:Int),(i:Int),x::tl,x,last,false,x::tl,true,false,x::tl,Gw (x::tl),x::tl,x,false,n,x::tl,true,false,x::tl,((x::tl).length:Int),(0:Int),())=_:=q2
        simp only[q2',AM (show i+1<9223372036854775808 by omega)]
        rcases ih (i+1) cnt met' x (seen++(x::tl).filter (fun t=>decide (t<n))) hd2 (by omega) q3 (by omega)with⟨p1,met2,seen2,p2,p3,p4⟩|⟨p1,p2⟩
        ·refine .inl ⟨⟨hRG,by omega,q1,p1⟩,met2,seen2,p2,p3,fun v => ?_⟩
         rw[p4,AjL,AkE,AlS,AjL]
         simp only[AjJ]
         constructor
         ·rintro ((h|h)|h)
          ·exact .inl h
          ·exact .inr ⟨h.2,.inl h.1⟩
          ·exact .inr ⟨h.1,.inr h.2⟩
         ·rintro (h|⟨h,h2|h2⟩)
          ·exact .inl (.inl h)
          ·exact .inl (.inr ⟨h2,h⟩)
          ·exact .inr ⟨h,h2⟩
        ·exact .inr ⟨fun h=>p1 h.2.2.2,p2⟩
       ·rw[AlD]at q1
        have q2':AX Dn many (n,rings,met,x,rings,(rings.length:Int),(i:Int),x::tl,x,last,false,x::tl,true,false,x::tl,Gw (x::tl),x::tl,x,false,n,x::tl,true,false,x::tl,((x::tl).length:Int),(0:Int),())=_:=q2
        simp only[q2']
        exact .inr ⟨fun h=>q1 h.2.2.1,by trivial⟩
      ·rw[AjF c4]
       exact .inr ⟨fun h=>c4 h.1.2.2.2,rfl⟩
     ·rw[AjF c3]
      exact .inr ⟨fun h=>c3 h.1.2.2.1,rfl⟩
    ·rw[AjF c2]
     exact .inr ⟨fun h=>c2 h.1.1,rfl⟩
theorem Pa(n:Int)(rings:List (List Int))(hlen:rings.length<1073741824)(hr:∀ l∈rings,l.length<9223372036854775808∧∀ x∈l, -9223372036854775808≤x∧x≤9223372036854775807):
  Pb ((n,(rings,())),())=some (decide (RF n rings),()):=by
 have hmany:4294967296<many:=by simp only[many];omega
 rw[AGM,Q6]
 simp only[Kv]
 by_cases hS:Sz n
 ·rw[AjG hS]
  simp only[AjT,Au,AK]
  rcases Zv n rings hlen hr rings 0 many [] (-1) [] (by simp) (by omega) (fun t _=>by simp[AP]) (by omega)with⟨p1,met,seen,p2,p3,p4⟩|⟨p1,p2⟩
  ·have p2':AX Dp many (n,rings,[], -1,rings,(rings.length:Int),(0:Int),())=_:=p2
   simp only[p2']
   obtain⟨s1,s2⟩:=hS
   obtain⟨N,rfl⟩:=AjU (show 0≤n by omega)
   have e:=AMt (step:=Ej) (fun i=>(met,(N:Int),(i:Int),())) N (fun i=>decide ((i:Int)∉seen)) (fun _=>.inl (false,())) (.inr (.inl ())) (by omega)
    (fun i hi=>by
     have:=p3 (i:Int) (by omega)
     rw[Ej,AL,AjG hi]
     simp only[this,An]
     by_cases h:(i:Int)∈seen
     ·simp only[h,Ajw,not_true]
      rw[AM (by omega)];simp
     ·simp[h])
    (by rw[Ej,AL,AjF (by omega)])
   rw[Au]at e
   have hv:∀ v,v∈seen↔(v<(N:Int)∧v∈rings.flatten):=fun v=>by rw[p4];simp
   rcases e with⟨k,k1,k2,_,k4⟩|⟨k1,k4⟩
   ·have k4':AX Ej many (met,(N:Int),(0:Int),())=_:=k4
    rw[k4',AjF]
    rintro⟨_,_,h⟩
    simp only[AjJ]at k2
    exact k2 ((hv _).2 ⟨by omega,h (k:Int) (by omega) (by omega)⟩)
   ·have k4':AX Ej many (met,(N:Int),(0:Int),())=_:=k4
    rw[k4',AjG]
    refine⟨⟨s1,s2⟩,p1,fun v v1 v2 => ?_⟩
    obtain⟨k,rfl⟩:=AjU v1
    have:=k1 k (by omega)
    simp only[AkA,Alr]at this
    exact((hv _).1 this).2
  ·have p2':AX Dp many (n,rings,[], -1,rings,(rings.length:Int),(0:Int),())=_:=p2
   simp only[p2']
   rw[AjF (fun h=>p1 h.2.1)]
 ·rw[AjF hS,AjF (fun h=>hS h.1)];rfl
end Go.Pev.Pl
end
section
namespace Go.Pev.Pl
open Tok
def MB(N:Nat)(met:List Bool)(seen:List Int):Prop:=met.length=N∧∀ k,k<N→met.getD k false=decide ((k:Int)∈seen)
theorem AA8{xs:List Int}(hr:Rt xs)(h:xs≠[]):plain xs=xs↔Gw xs=xs.headD 0:=by
 obtain⟨a,b,h1,h2⟩:=H7 hr h
 constructor
 ·intro e
  rw[e]at h2
  rw[h2]
  have:Gw xs=Gw xs:=rfl
  conv=>lhs;rw[← h2]
  rfl
 ·intro e
  cases a with
  |nil=>rw[h2,AkS];exact h1.symm
  |cons y a=>
   exfalso
   have hn:=hr.2.2
   have hy:y=Gw xs:=by rw[e,h1];rfl
   rw[h1,Ajm,Aju]at hn
   exact hn.1 (by rw[← hy];simp)
theorem AZG{n:Int}:∀ {ls:List (List Int)} {seen:List Int} {last:Int},okR n seen last ls→seen.Nodup→(seen++ls.flatten.filter (fun t=>decide (t<n))).Nodup∧∀ l∈ls,RG n l:=by
 intro ls
 induction ls with
 |nil=>intro seen last _ h;simpa using h
 |cons l ls ih=>
  intro seen last ⟨h1,h2,h3,h4⟩ hs
  obtain⟨g1,g2⟩:=ih h4 (by
   rw[AlH]
   refine⟨hs,(h1.1.2.2).filter _,fun a ha b hb => ?_⟩
   rintro rfl
   simp only[AkE,AjJ]at hb
   exact h3 a hb.1 hb.2 ha)
  refine⟨by rw[AlS,AlB,← AkU];exact g1,fun k hk => ?_⟩
  rcases AjN.1 hk with rfl|hk
  ·exact h1
  ·exact g2 k hk
theorem Oq{n:Int}{l:List Int}(h:RG n l):In n (l.headD 0):=by
 obtain⟨h1,h2,h3,h4⟩:=h
 cases l with
 |nil=>exact absurd rfl h2
 |cons x l=>exact AXO h4 h3
theorem AWh{n:Int}(hn:1≤n):∀ {ls:List (List Int)} {seen:List Int} {last:Int},okR n seen last ls→-1≤last→last<n→(ls.length:Int)≤n-1-last:=by
 intro ls
 induction ls with
 |nil=>intro seen last _ _ h;simp;omega
 |cons l ls ih=>
  intro seen last ⟨h1,h2,h3,h4⟩ hl hl2
  have hh:=(Oq h1).2.2
  have:=ih h4 (by omega) hh.2
  simp only[AjR]
  omega
end Go.Pev.Pl
end
section
namespace Go.Pev.Pl
open Tok
def hd(l:List Int):Int:=l.headD 0
def Dis(n:Int)(a b:List Int):Prop:=∀ t∈a,t<n→t∉b
structure FR(n:Int)(rings:List (List Int)):Prop where
 sz:Sz n
 rg:∀ l∈rings,RG n l
 up:rings.Pairwise (fun a b=>hd a<hd b)
 dis:rings.Pairwise (Dis n)
 cov:∀ v,In n v→∃ l∈rings,v∈l
theorem Dis.symm{n:Int}{a b:List Int}(h:Dis n a b):Dis n b a:=fun t ht hn ha=>h t ha hn ht
theorem AWi{n:Int}:∀ {ls:List (List Int)} {seen:List Int} {last:Int},okR n seen last ls↔(∀ l∈ls,RG n l∧last<hd l∧∀ t∈l,t<n→t∉seen)∧ls.Pairwise (fun a b=>hd a<hd b)∧ls.Pairwise (Dis n):=by
 intro ls
 induction ls with
 |nil=>intro seen last;simp[okR]
 |cons l ls ih=>
  intro seen last
  rw[okR,ih,Aj9,Aj9]
  constructor
  ·rintro⟨h1,h2,h3,h4,h5,h6⟩
   refine⟨fun k hk => ?_,⟨fun k hk=>(h4 k hk).2.1,h5⟩,⟨fun k hk t ht htn htk => ?_,h6⟩⟩
   ·rcases AjN.1 hk with rfl|hk
    ·exact⟨h1,h2,h3⟩
    ·obtain⟨q1,q2,q3⟩:=h4 k hk
     exact⟨q1,Int.lt_trans h2 q2,fun t ht htn hts=>q3 t ht htn (by simp[hts])⟩
   ·exact(h4 k hk).2.2 t htk htn (by simp[ht,htn])
  ·rintro⟨h1,⟨h2,h3⟩,⟨h4,h5⟩⟩
   obtain⟨q1,q2,q3⟩:=h1 l (by simp)
   refine⟨q1,q2,q3,fun k hk => ?_,h3,h5⟩
   obtain⟨p1,p2,p3⟩:=h1 k (by simp[hk])
   refine⟨p1,h2 k hk,fun t ht htn hts => ?_⟩
   simp only[AjL,AkE]at hts
   rcases hts with h|h
   ·exact p3 t ht htn h
   ·exact h4 k hk t h.1 htn ht
theorem L5{n:Int}{rings:List (List Int)}:RF n rings↔FR n rings:=by
 constructor
 ·rintro⟨h1,h2,h3⟩
  obtain⟨q1,q2,q3⟩:=AWi.1 h2
  refine⟨h1,fun l hl=>(q1 l hl).1,q2,q3,fun v hv => ?_⟩
  obtain⟨l,hl,h⟩:=AmU.1 (h3 v hv.2.2.1 hv.2.2.2)
  exact⟨l,hl,h⟩
 ·rintro⟨h1,h2,h3,h4,h5⟩
  refine⟨h1,AWi.2 ⟨fun l hl=>⟨h2 l hl,?_,by simp⟩,h3,h4⟩,fun v v1 v2 => ?_⟩
  ·have:=(Oq (h2 l hl)).2.2.1
   show(-1:Int)<l.headD 0
   omega
  ·obtain⟨l,hl,h⟩:=h5 v ⟨h1.1,h1.2,v1,v2⟩
   exact AmU.2 ⟨l,hl,h⟩
theorem XD{ys zs:List (List Int)}(hz:zs.Pairwise (fun a b=>hd a<hd b))(hp:ys.Perm zs)(hy:ys.Pairwise (fun a b=>¬ hd b<hd a)):ys=zs:=by
 have hinj:∀ a∈zs,∀ b∈zs,hd a=hd b→a=b:=by
  intro a ha b hb e
  refine AkK fun hne => ?_
  obtain⟨i,hi,rfl⟩:=Akx ha
  obtain⟨j,hj,rfl⟩:=Akx hb
  rw[Akw]at hz
  rcases AmM i j with h|h|h
  ·have:=hz i j hi hj h;omega
  ·subst h;exact hne rfl
  ·have:=hz j i hj hi h;omega
 refine List.Perm.eq_of_pairwise (le:=fun a b=>¬ hd b<hd a) ?_ hy ?_ hp
 ·intro a b ha hb h1 h2
  exact hinj a (hp.mem_iff.1 ha) b hb (by omega)
 ·exact hz.imp fun h=>by omega
def plc(rings:List (List Int))(v:Int):Int:=if rings.any (fun l=>decide (v∈l))then((rings.findIdx (fun l=>decide (v∈l)):Nat):Int)else -1
theorem Hr(n:Int)(rings:List (List Int))(v:Int)(hlen:rings.length<1073741824)(hr:∀ l∈rings,l.length<9223372036854775808):Pc ((n,(rings,())),v,())=some (plc rings v,()):=by
 rw[AGN,Q7,JA,Dy]
 have e:=PN (step:=Bj) (fun i=>(v,rings,AG rings,(i:Int),())) rings (fun l=>decide (v∈l)) (fun i=>.inl (v,(i:Int),())) (.inr (.inl (v,()))) (by omega)
  (fun i l hi hx=>by
   have hl:=hr l (AjW hx)
   rw[Bj,AK,AL,AjG hi]
   simp only[Ae hx,J5 l v (by omega)]
   rw[AM (by omega)]
   by_cases h:v∈l
   ·rw[AjG h];rfl
   ·rw[AjF h];rfl)
  (by rw[Bj,AK,AL,AjF (by omega)])
 have e':AS Bj many (v,rings,AG rings,(0:Int),())=_:=e
 simp only[e',plc]
 cases rings.any (fun l=>decide (v∈l))<;>rfl
theorem M8{rings:List (List Int)}{v:Int}(h:∃ l∈rings,v∈l):∃ k l,plc rings v=((k:Nat):Int)∧rings[k]? = some l∧v∈l∧k<rings.length:=by
 obtain⟨l,hl,hv⟩:=h
 have hany:rings.any (fun l=>decide (v∈l))=true:=AlX.2 ⟨l,hl,by simpa using hv⟩
 have hk:rings.findIdx (fun l=>decide (v∈l))<rings.length:=AlZ.2 ⟨l,hl,by simpa using hv⟩
 refine⟨_,rings[rings.findIdx (fun l=>decide (v∈l))],by rw[plc,AjP hany],by rw[AjM hk],?_,hk⟩
 have:=List.findIdx_getElem (xs:=rings) (p:=fun l=>decide (v∈l)) (w:=hk)
 simpa using this
theorem FR.uniq{n:Int}{rings:List (List Int)}(h:FR n rings){i j:Nat}{a b:List Int}{v:Int}(hi:rings[i]? = some a)(hj:rings[j]? = some b)(hn:v<n)(ha:v∈a)(hb:v∈b):i=j:=by
 obtain⟨hi1,rfl⟩:=AkO.1 hi
 obtain⟨hj1,rfl⟩:=AkO.1 hj
 have hd:=Akw.1 h.dis
 rcases AmM i j with g|g|g
 ·exact absurd hb (hd i j hi1 hj1 g v ha hn)
 ·exact g
 ·exact absurd ha (hd j i hj1 hi1 g v hb hn)
theorem FR.AJX{n:Int}{rings:List (List Int)}(h:FR n rings){k:Nat}{a:List Int}{v:Int}(hk:rings[k]? = some a)(hn:v<n)(ha:v∈a):plc rings v=(k:Int):=by
 obtain⟨j,l,e,hj,hv,_⟩:=M8 ⟨a,AjW hk,ha⟩
 rw[e,h.uniq hj hk hn hv ha]
theorem ADD{α:Type}{l:List α}{i:Nat}{a:α}(h:l[i]? = some a):l.Perm (a::l.eraseIdx i):=by
 obtain⟨hi,rfl⟩:=AkO.1 h
 rw[List.eraseIdx_eq_take_drop_succ]
 conv=>lhs;rw[← AkF i l,AkC hi]
 exact List.perm_middle
theorem JM{α:Type}{l:List α}{i j:Nat}{a b:α}(hij:i<j)(hi:l[i]? = some a)(hj:l[j]? = some b):l.Perm (a::b::(l.eraseIdx j).eraseIdx i):=by
 have h1:=ADD hj
 have h2:(l.eraseIdx j)[i]? = some a:=by rw[List.getElem?_eraseIdx_of_lt hij,hi]
 exact h1.trans (((ADD h2).cons b).trans (List.Perm.swap a b _))
theorem AZF{n:Int}{t:Tok}(h:okT n t):0≤Dg n t∧Dg n t≤4160∧Dg n t<n*(n+1):=by
 cases t with
 |ver v=>
  obtain⟨h1,h2,h3,h4⟩:=h
  have:n*1≤n*(n+1):=Int.mul_le_mul_of_nonneg_left (by omega) (by omega)
  simp only[Dg];omega
 |arc u v=>
  obtain⟨h1,h2,_⟩:=h
  obtain⟨g1,g2,_⟩:=ZF h1 h2
  have hb:=Fw (u:=n+1-1) h1.1 h1.2.1 (by have:=h1.1;omega) (by have:=h1.2.1;omega)
  have e:n*(n+1)=n*(n+1-1)+n:=by rw[show n+1-1=n by omega,AmP,AmQ]
  have:=h1.1
  have:=h1.2.1
  simp only[Dg]
  omega
theorem AiC{n:Int}{t:Tok}(h:okT n t):Sz n:=by
 cases t with
 |ver v=>exact⟨h.1,h.2.1⟩
 |arc u v=>exact⟨h.1.1,h.1.2.1⟩
theorem PY:∀ {L:List Tok},L.Nodup→(Mj L).Nodup
 |[],_=>by simp[Mj]
 |.ver v::L,h=>by
  rw[Aju]at h
  rw[Mj,Aju]
  exact⟨fun hm=>h.1 (Rl.1 hm),PY h.2⟩
 |.arc _ _::L,h=>by
  rw[Aju]at h
  rw[Mj]
  exact PY h.2
theorem Ahc{n:Int}{xs:List Int}(h:TI n xs):Rt xs:=by
 obtain⟨L,rfl,h2,h3⟩:=h
 have hn:=h3.nodup
 refine⟨?_,fun x hx => ?_,?_⟩
 ·obtain⟨v,r,hr⟩:=h3.AP1
  have hS:Sz n:=AiC (h2 (.ver v) ((hr.mem _).2 (by simp)))
  have hl:=h3.len
  have hv:=DO (a:=Mj L) (b:=(List.range n.toNat).map (fun(k:Nat)=>(k:Int))) (PY hn) fun x hx=>by
   have:=h2 _ (Rl.1 hx)
   have h5:=this.2.2
   rw[Aja]
   exact⟨x.toNat,by rw[AkB];omega,by omega⟩
  have h6:=hS.2
  simp only[Aj6,AjY]at hv ⊢
  omega
 ·obtain⟨t,ht,rfl⟩:=Aja.1 hx
  have:=AZF (h2 t ht)
  omega
 ·rw[List.Nodup,Akq]
  exact hn.imp_of_mem fun ha hb hne e=>hne (Gi (h2 _ ha) (h2 _ hb) e)
def ALd(a b:List Int):Prop:=∃ x y,a=x++y∧b=y++x
theorem ALd.perm{a b:List Int}(h:ALd a b):a.Perm b:=by
 obtain⟨x,y,rfl,rfl⟩:=h
 exact Ak7
theorem ALd.symm{a b:List Int}(h:ALd a b):ALd b a:=by obtain⟨x,y,h1,h2⟩:=h;exact⟨y,x,h2,h1⟩
theorem Ae7{n:Int}{a b:List Int}(h:TI n a)(r:ALd a b):TI n b:=by
 obtain⟨L,h1,h2,h3⟩:=h
 obtain⟨x,y,rfl,rfl⟩:=r
 obtain⟨L1,L2,rfl,e1,e2⟩:=AmR.1 h1.symm
 refine⟨L2++L1,by rw[Akt,e1,e2],fun t ht=>h2 t ?_,T.rot L1 L2 h3⟩
 simp only[AjL]at ht ⊢
 exact ht.symm
theorem Cg{xs:List Int}{t:Int}(h:t∈xs):ALd xs (A6 xs t):=by
 obtain⟨a,b,e1,_,e3⟩:=AAs h
 exact⟨a,t::b,e1,by rw[e3]⟩
theorem AZM{xs ys:List Int}(h:xs.Perm ys)(hne:xs≠[]):Gw ys=Gw xs:=by
 obtain⟨h1,h2⟩:=Ez hne
 exact AgW (h.mem_iff.1 h1) fun x hx=>h2 x (h.mem_iff.2 hx)
theorem ASd{xs:List Int}(hr:Rt xs)(hne:xs≠[]):ALd xs (plain xs):=by
 rw[plain,AjP ⟨hr,hne⟩]
 exact Cg (Ez hne).1
theorem Ahb{n:Int}{xs:List Int}(h:TI n xs):xs≠[]:=by rintro rfl;exact Ae9 n h
theorem AEO{n:Int}{xs:List Int}(h:TI n xs):RG n (plain xs)∧ALd xs (plain xs):=by
 have hr:=Ahc h
 have hne:=Ahb h
 have h1:=ASd hr hne
 have h2:=Ae7 h h1
 refine⟨⟨Ahc h2,Ahb h2,?_,h2⟩,h1⟩
 rw[AZM h1.perm hne]
 obtain⟨a,b,_,e⟩:=H7 hr hne
 rw[e];rfl
theorem RG.self{n:Int}{xs:List Int}(h:RG n xs):plain xs=xs:=(AA8 h.1 h.2.1).2 h.2.2.1
theorem AQb{n:Int}{xs:List Int}(h:TI n xs){t:Tok}(ht:okT n t)(hx:Dg n t∈xs):∃ a,A6 xs (Dg n t)=(t::a).map (Dg n)∧T (t::a)∧(∀ y∈t::a,okT n y):=by
 have h1:=Ae7 h (Cg hx)
 obtain⟨a,b,e1,e2,e3⟩:=AAs hx
 obtain⟨L,q1,q2,q3⟩:=h1
 rw[e3,Ajm]at q1
 cases L with
 |nil=>cases q1
 |cons t' L=>
  simp only[Ajr,Aje]at q1
  have:=Gi ht (q2 t' (by simp)) q1.1
  subst this
  exact⟨L,by rw[e3,Ajm,Ajr,q1.2],q3,q2⟩
end Go.Pev.Pl
end
section
namespace Go.Pev.Pl
open Go.RowKit Tok
theorem Bd(a:Int):ieq a a=true:=by rw[B9];simp
def Dom(rings:List (List Int)):Prop:=rings.length<1073741824∧∀ l∈rings,l.length<9223372036854775808∧∀ x∈l, -9223372036854775808≤x∧x≤9223372036854775807
theorem FR.dom{n:Int}{rings:List (List Int)}(h:FR n rings):Dom rings:=by
 have h1:=L5.2 h
 have h2:=AWh h.sz.1 h1.2.1 (by omega) (by have:=h.sz.1;omega)
 have h3:=h.sz.2
 refine⟨by omega,fun l hl => ?_⟩
 have:=(h.rg l hl).1
 exact⟨by have:=this.1;omega,fun x hx=>by have:=this.2.1 x hx;omega⟩
theorem VY{l:List Int}(h:l≠[]):hd l∈l:=by
 cases l with
 |nil=>exact absurd rfl h
 |cons x l=>simp[hd]
end Go.Pev.Pl
end
section
namespace Go.Pev.Pl
open Tok
noncomputable def AQT(n:Int)(rings:List (List Int))(ok:Bool):Int:=if RF n rings then if ok then 0 else 10 else 1
theorem AUx(n:Int)(rings:List (List Int))(xs:List Int)(hs:xs.length<9223372036854775808):DL (xs,n,rings,())=some (n,rings,xs.any (fun x=>decide (x<0)||decide (n≤x)),()):=by
 rw[IX,DR,JE,Dz]
 have e:=PN (step:=Bk) (fun i=>(n,rings,xs,AG xs,(i:Int),())) xs (fun x=>decide (x<0)||decide (n≤x)) (fun i=>.inl (n,rings,(i:Int),())) (.inr (.inl (n,rings,()))) hs
  (fun i x hi hx=>by
   rw[Bk,AK,AL,AjG hi]
   simp only[Ae hx,Ag,Ar]
   rw[AM (by omega)]
   by_cases h:x<0
   ·simp[h]
   ·by_cases h2:n≤x
    ·simp[h,h2]
    ·simp[h,h2])
  (by rw[Bk,AK,AL,AjF (by omega)])
 have e':AS Bk many (n,rings,xs,AG xs,(0:Int),())=_:=e
 rw[e']
 generalize (xs.any fun x=>decide (x<0)||decide (n≤x))=b
 cases b<;>simp[Ar]
theorem AVg{n v:Int}(hS:Sz n):(decide (v<0)||decide (n≤v)) = !decide (In n v):=by
 by_cases h:In n v
 ·obtain⟨_,_,h3,h4⟩:=h
  simp[In,hS.1,hS.2,h3,h4]
 ·have:v<0∨n≤v:=by
   refine AkK fun hc=>h ⟨hS.1,hS.2,by omega,by omega⟩
  rcases this with g|g<;>simp[h,g]
theorem ACz(n:Int)(rings:List (List Int))(xs:List Int)(hD:Dom rings)(hs:xs.length<9223372036854775808):QO ((n,(rings,())),xs,())=some (AQT n rings (xs.all fun v=>decide (In n v)),()):=by
 rw[AHS,R9]
 simp only[Pa n rings hD.1 hD.2,AUx n rings xs hs,AQT]
 by_cases h:RF n rings
 ·have hb:(xs.any fun x=>decide (x<0)||decide (n≤x)) = !(xs.all fun v=>decide (In n v)):=by
   rw[List.not_all_eq_any_not]
   congr 1
   funext x
   exact AVg h.1
  simp only[h,AjV,AjT,hb,Ajw]
  cases xs.all fun v=>decide (In n v)<;>rfl
 ·simp[h]
end Go.Pev.Pl
end
section
namespace Go.Pev.Pl.SG
open Go.Sort
structure SP(α:Type)where
 z:α
 c:α×α×Unit→Option (Int×Unit)
 ok:α→Prop
 okz:α
 UJ:ok okz
 lt:α→α→Bool
 swo:SWO lt
 WQ:∀ {x y:α},ok x→ok y→∃ r,c (x,y,())=some (r,())∧ilt r (0:Int)=lt x y
variable {α:Type} {S:SP α}
abbrev EL{α:Type}(S:SP α):={x:α // S.ok x}
instance:Inhabited (EL S):=⟨⟨S.okz,S.UJ⟩⟩
def rep(d:Array (EL S)):List α:=d.toList.map Subtype.val
theorem A7{d:Array (EL S)}{n:Nat}(h:n<d.size):idx (rep d) (n:Int)=some (d[n]!).val:=by
 rw[idx_eq,O6,AjQ (by omega)]
 simp[rep,h]
theorem Ba{d:Array (EL S)}{n:Nat}{z:α}(h:n<d.size):AY (rep d) (AN (n:Int)) z=(d[n]!).val:=by
 simp[AY,AN,rep,h]
theorem JN{d:Array (EL S)}{n:Nat}{x:(EL S)}:BB (rep d) (AN (n:Int)) x.val=rep (d.setIfInBounds n x):=by
 simp[BB,AN,rep,List.map_set]
theorem AXJ{d:Array (EL S)}:AG (rep d)=(d.size:Int):=by simp[AG,rep]
def ltX(x y:(EL S)):Bool:=S.lt x.val y.val
theorem Abo:SWO (ltX (S:=S)):=⟨fun x=>S.swo.irrefl x.val,fun x y z=>S.swo.trans x.val y.val z.val,fun x y z=>S.swo.ntrans x.val y.val z.val⟩
noncomputable def AhC(x y:(EL S)):Int:=match S.c (x.val,y.val,())with
 |some (c,_)=>c
 |none=>0
theorem Ca(x y:(EL S)):S.c (x.val,y.val,())=some (AhC x y,()):=by
 obtain⟨c,e,_⟩:=S.WQ x.property y.property
 rw[AhC,e]
theorem DQ(x y:(EL S)):ilt (AhC x y) (0:Int)=ltX x y:=by
 obtain⟨c,e,h⟩:=S.WQ x.property y.property
 rw[AhC,e]
 exact h
theorem Agl(a b i:Nat):∀ (j:Nat) (d:Array (EL S)) (n:Nat),j<d.size→d.size<4611686018427387904→j<n →
  AX (OV S.z S.c) n ((rep d),(a:Int),(b:Int),(i:Int),(j:Int),())=some (.inl ((rep (insInner ltX a j d)),(a:Int),(b:Int),(i:Int),())):=by
 intro j
 induction j with
 |zero=>
  intro d n hj hs hn
  obtain⟨n,rfl⟩:∃ k,n=k+1:=⟨n-1,by omega⟩
  have h0:ilt (a:Int) ((0:Nat):Int)=false:=by rw[AL];simp
  simp only[AX,OV,h0,insInner]
 |succ j ih=>
  intro d n hj hs hn
  obtain⟨n,rfl⟩:∃ k,n=k+1:=⟨n-1,by omega⟩
  have e1:IntKind.wrap .i64 (((j+1:Nat):Int)-1)=(j:Int):=by rw[Ai (by omega)];omega
  have hj':j<d.size:=by omega
  simp only[AX,OV,AL,e1,A7 hj,A7 hj',Ba hj,Ba hj',Ca,DQ,insInner,gt_iff_lt]
  by_cases h1:a<j+1
  ·cases h2:ltX d[j+1]! d[j]!
   ·simp only[h1,AjV,h2,Bool.and_false,Ajf,Ajc]
   ·simp only[h1,AjV,h2,Bool.and_true,Ajw,JN]
    rw[A7 (by simpa using hj')]
    simp only[KI]
    exact ih (swp d (j+1) j) n (by rw[size_swp];omega) (by rw[size_swp];omega) (by omega)
  ·simp only[h1,Ajj,Alj,Ajf,Ajc]
theorem Jc(lt:(EL S)→(EL S)→Bool)(a j:Nat)(d:Array (EL S)):(insInner lt a j d).size=d.size:=by
 induction j generalizing d with
 |zero=>rfl
 |succ j ih=>
  rw[insInner]
  split
  ·rw[ih,size_swp]
  ·rfl
theorem Adq(a b:Nat):∀ (k i:Nat) (d:Array (EL S)) (n:Nat),b-i=k→b≤d.size→d.size<4611686018427387904→d.size<many→k<n →
  AX (OW S.z S.c) n ((rep d),(a:Int),(b:Int),(i:Int),())=some (.inl ((rep (insOuter ltX a b i d)),())):=by
 intro k
 induction k with
 |zero=>
  intro i d n hk hb hs hm hn
  obtain⟨n,rfl⟩:∃ k,n=k+1:=⟨n-1,by omega⟩
  have h0:¬ i<b:=by omega
  rw[insOuter]
  simp only[AX,OW,AL,h0,Ajj,Ajc]
 |succ k ih=>
  intro i d n hk hb hs hm hn
  obtain⟨n,rfl⟩:∃ k,n=k+1:=⟨n-1,by omega⟩
  have h0:i<b:=by omega
  have e1:IntKind.wrap .i64 ((i:Int)+1)=((i+1:Nat):Int):=by rw[Ai (by omega)];omega
  rw[insOuter]
  simp only[AX,OW,AL,h0,AjV,Ajw,Au]
  rw[Agl a b i i d many (by omega) hs (by omega)]
  simp only[e1]
  exact ih (i+1) _ n (by omega) (by rw[Jc];omega) (by rw[Jc];omega) (by rw[Jc];omega) (by omega)
theorem Adp(d:Array (EL S))(a b:Nat)(hab:a≤b)(hb:b≤d.size)(hs:d.size<4294967296):(Adr S.z S.c) ((rep d),(a:Int),(b:Int),())=some ((rep (insertionSort ltX d a b)),()):=by
 have hm:d.size<many:=by simp only[many];omega
 have e1:IntKind.wrap .i64 ((a:Int)+1)=((a+1:Nat):Int):=by rw[Ai (by omega)];omega
 rw[Agm,ACe]
 simp only[e1,Au]
 rw[Adq a b (b-(a+1)) (a+1) d many rfl hb (by omega) hm (by omega)]
 rfl
end Go.Pev.Pl.SG
end
end
