/- A part of the proofs of this seat: G29M3 G29M4 G29M5 G29M Pln PlnB T18a T18b T18c PlnM DKA T18d PevTake PevClaim DKB DKC T19a. -/
import Derived.Test.YtfojmhgomdbpfaaGreatDoorP4d4f691bf2
import Derived.IntWalk
import Derived.Sort.AssemblyPlain
import Derived.ProofKit
import Derived.ChangeArms
import Derived.ReadAgain
import Derived.Deep.Slices
import Derived.OpenShut
import Derived.KernelRfl
set_option linter.unusedVariables false
set_option linter.unusedSimpArgs false
set_option linter.unusedSectionVars false
set_option maxRecDepth 100000
section
namespace Go.Pev
noncomputable section
attribute [local irreducible] PT Li QX PH AhN AhO AhP UU ACC ZK AGT Lt AY many IntKind.wrap AK BA Ab A2 Bn DP EB AN Bk CJ imax AP Af
abbrev AKi:AE:=[(.tmp 0,.dat U2),(.tmp 1,.dat U2)]
abbrev AKh:AE:=[(.tmp 0,.di)]
abbrev AKg:List RS:=[.one]
def Z0[Lk]:(U1×U1×Unit)→Option (U9):=fun(a0,a1,_)=>
 match Dj (a0.1,a1.1,())with|none=>none|some (y0,_)=>match Dj (a0.2.1,a1.2.1,())with|none=>none|some (y1,_)=>match orI (([y0,y1]:List (Int)),())with|none=>none|some (y2,_)=>some (y2,())
def BO[Lk]:=fun v=>Lk.f (Z0 v)
theorem AOz v:BO v=Z0 v:=AJ _
abbrev AXA:AE:=[(.tmp 0,.own 34 U2),(.tmp 1,.di),(.tmp 2,.di),(.tmp 3,.clo 60 [])]
abbrev AW9:AE:=[(.obj 0,.own 34 U2)]
abbrev AW8:List RS:=[]
abbrev AZn:AE:=[(.obj 0,.own 34 U2),(.tmp 0,.own' 0),(.tmp 1,.di),(.tmp 2,.di),(.tmp 3,.clo 60 []),(.tmp 8,.di),(.tmp 9,.di)]
abbrev AZl:Ap:=[(.exit 2,[(.obj 0,.own 34 U2),(.tmp 0,.own' 0),(.tmp 1,.di),(.tmp 2,.di),(.tmp 3,.clo 60 []),(.tmp 8,.di)])]
def AZj[Lk]:Uk→Option (Uk⊕U8⊕Unit):=Oe ((0,(0,())):U1) BO
abbrev AZo:AE:=[(.obj 0,.own 34 U2),(.tmp 0,.own' 0),(.tmp 1,.di),(.tmp 2,.di),(.tmp 3,.clo 60 []),(.tmp 8,.di)]
abbrev AZm:Ap:=[(.exit 0,[(.obj 0,.own 34 U2)])]
def AZk[Lk]:U8→Option (U8⊕Uh⊕Unit):=Of ((0,(0,())):U1) BO
def AhG[Lk]:Ue→Option (Uh):=AD7 ((0,(0,())):U1) BO
def Alf[Lk](v:Ue):Option (Uh):=AhE ((0,(0,())):U1) BO v
theorem Aj7 v:Alf v=AhG v:=AJ _
abbrev AKq:AE:=[(.tmp 0,.own 34 U2),(.tmp 1,.di),(.tmp 2,.di),(.tmp 3,.di),(.tmp 4,.clo 60 [])]
abbrev AKp:AE:=[(.obj 0,.own 34 U2)]
abbrev AKo:List RS:=[]
abbrev AO7:AE:=[(.obj 0,.own 34 U2),(.tmp 0,.own' 0),(.tmp 2,.di),(.tmp 3,.di),(.tmp 4,.clo 60 []),(.tmp 10,.di)]
abbrev AO6:Ap:=[(.exit 0,[(.obj 0,.own 34 U2)]),(.ret,[(.obj 0,.own 34 U2)])]
def AO5[Lk]:U8→Option (U8⊕Uh⊕Uh⊕Unit):=KC ((0,(0,())):U1) BO
def AYz[Lk]:U8→Option (Uh):=Rb ((0,(0,())):U1) BO
def AfX[Lk](v:U8):Option (Uh):=AH0 ((0,(0,())):U1) BO v
theorem AfW v:AfX v=AYz v:=AJ _
abbrev AMc:AE:=[(.tmp 0,.own 34 U2),(.tmp 1,.di),(.tmp 2,.di),(.tmp 3,.clo 60 [])]
abbrev AMb:AE:=[(.obj 0,.own 34 U2)]
abbrev AMa:List RS:=[]
abbrev ARy:AE:=[(.obj 0,.own 34 U2),(.tmp 0,.own' 0),(.tmp 3,.clo 60 []),(.tmp 8,.di),(.tmp 9,.di),(.tmp 12,.di)]
abbrev ARw:Ap:=[(.exit 2,[(.obj 0,.own 34 U2)])]
def ARt[Lk]:U8→Option (U8⊕Uh⊕Unit):=KU ((0,(0,())):U1) BO
abbrev ARz:AE:=[(.obj 0,.own 34 U2),(.tmp 0,.own' 0),(.tmp 3,.clo 60 []),(.tmp 8,.di),(.tmp 9,.di),(.tmp 10,.di),(.tmp 11,.di)]
abbrev ARx:Ap:=[(.exit 0,[(.obj 0,.own 34 U2),(.tmp 0,.own' 0),(.tmp 3,.clo 60 []),(.tmp 8,.di),(.tmp 9,.di),(.tmp 10,.di)])]
def ARv[Lk]:Uk→Option (Uk⊕U8⊕Unit):=KV ((0,(0,())):U1) BO
def AZt[Lk]:Ue→Option (Uh):=SK ((0,(0,())):U1) BO
def Ahc[Lk](v:Ue):Option (Uh):=ARr ((0,(0,())):U1) BO v
theorem Ahb v:Ahc v=AZt v:=AJ _
abbrev AFS:AE:=[(.tmp 0,.own 34 U2),(.tmp 1,.di),(.tmp 2,.di),(.tmp 3,.clo 60 [])]
abbrev AFR:AE:=[(.obj 0,.own 34 U2)]
abbrev AFQ:List RS:=[]
abbrev AJE:AE:=[(.obj 0,.own 34 U2),(.tmp 0,.own' 0),(.tmp 1,.di),(.tmp 8,.di),(.tmp 9,.box 1),(.cell 1 0,.dat (.int .u64)),(.tmp 10,.dat (.int .u64)),(.tmp 11,.di)]
abbrev AJD:Ap:=[(.exit 0,[(.obj 0,.own 34 U2)])]
def AJC[Lk]:Us→Option (Us⊕Uh⊕Unit):=Fy ((0,(0,())):U1) BO
def ASt[Lk]:Ue→Option (Uh):=Nu ((0,(0,())):U1) BO
def AYC[Lk](v:Ue):Option (Uh):=AFP ((0,(0,())):U1) BO v
theorem Ad8 v:AYC v=ASt v:=AJ _
abbrev VV:AE:=[(.tmp 0,.own 34 U2),(.tmp 1,.di),(.tmp 2,.di),(.tmp 3,.box 1),(.cell 1 0,.di),(.tmp 4,.clo 60 [])]
abbrev VU:AE:=[(.obj 0,.own 34 U2),(.obj 1,.box 1),(.cell 1 0,.di),(.tmp 0,.di),(.tmp 1,.di)]
abbrev VT:List RS:=[.one,.one]
def AIb[Lk]:U8→Option (U8):=KL ((0,(0,())):U1) BO
def ALq[Lk](v:U8):Option (U8):=LA ((0,(0,())):U1) BO v
theorem AV2 v:ALq v=AIb v:=AJ _
abbrev Vu:AE:=[(.tmp 0,.own 34 U2),(.tmp 1,.di),(.tmp 2,.di),(.tmp 3,.di),(.tmp 4,.box 1),(.cell 1 0,.di),(.tmp 5,.clo 60 [])]
abbrev Vt:AE:=[(.obj 0,.own 34 U2),(.obj 1,.box 1),(.cell 1 0,.di),(.tmp 0,.di)]
abbrev Vs:List RS:=[.one]
def AIe[Lk]:Uk→Option (Ue):=KO ((0,(0,())):U1) BO
def AL4[Lk](v:Uk):Option (Ue):=LJ ((0,(0,())):U1) BO v
theorem AWU v:AL4 v=AIe v:=AJ _
abbrev WA:AE:=[(.tmp 0,.own 34 U2),(.tmp 1,.di),(.tmp 2,.box 1),(.cell 1 0,.di),(.tmp 3,.clo 60 [])]
abbrev Vz:AE:=[(.obj 0,.own 34 U2),(.obj 1,.box 1),(.cell 1 0,.di),(.tmp 0,.di)]
abbrev Vy:List RS:=[.one]
def AIg[Lk]:Ue→Option (Ue):=KP ((0,(0,())):U1) BO
def AL8[Lk](v:Ue):Option (Ue):=LK ((0,(0,())):U1) BO v
theorem AWX v:AL8 v=AIg v:=AJ _
abbrev ACf:AE:=[(.tmp 0,.own 34 U2),(.tmp 1,.di),(.tmp 2,.di),(.tmp 3,.clo 60 [])]
abbrev ACe:AE:=[(.obj 0,.own 34 U2),(.tmp 0,.di),(.tmp 1,.di)]
abbrev ACd:List RS:=[.one,.one]
def APn[Lk]:Ue→Option (Ue):=M9 ((0,(0,())):U1) BO
def AVU[Lk](v:Ue):Option (Ue):=ACc ((0,(0,())):U1) BO v
theorem Ab1 v:AVU v=APn v:=AJ _
abbrev AU2:AE:=[(.tmp 0,.own 34 U2),(.tmp 1,.di),(.tmp 2,.di),(.tmp 3,.clo 60 [])]
abbrev AU1:AE:=[(.obj 0,.own 34 U2)]
abbrev AU0:List RS:=[]
abbrev AZC:AE:=[(.obj 0,.own 34 U2),(.tmp 0,.own' 0),(.tmp 8,.di),(.tmp 9,.di)]
abbrev AZB:Ap:=[(.exit 0,[(.obj 0,.own 34 U2)])]
def AZA[Lk]:Ue→Option (Ue⊕Uh⊕Unit):=Ri ((0,(0,())):U1) BO
def Afq[Lk]:Ue→Option (Uh):=ACA ((0,(0,())):U1) BO
def AlH[Lk](v:Ue):Option (Uh):=Afo ((0,(0,())):U1) BO v
theorem AjR v:AlH v=Afq v:=AJ _
abbrev QD:AE:=[(.tmp 0,.own 34 U2),(.tmp 1,.di),(.tmp 2,.di),(.tmp 3,.clo 60 [])]
abbrev QC:AE:=[(.obj 0,.own 34 U2),(.tmp 0,.dat .bool)]
abbrev QB:List RS:=[.one]
abbrev YP:AE:=[(.obj 0,.own 34 U2),(.tmp 0,.own' 0),(.tmp 1,.di),(.tmp 2,.di),(.tmp 3,.clo 60 []),(.tmp 9,.di),(.tmp 10,.di),(.tmp 12,.di)]
abbrev YL:Ap:=[(.exit 6,[(.obj 0,.own 34 U2),(.tmp 0,.own' 0),(.tmp 1,.di),(.tmp 2,.di),(.tmp 3,.clo 60 []),(.tmp 9,.di),(.tmp 10,.di)])]
def YH[Lk]:Us→Option (Us⊕Uk⊕Unit):=Ek ((0,(0,())):U1) BO
abbrev YQ:AE:=[(.obj 0,.own 34 U2),(.tmp 0,.own' 0),(.tmp 1,.di),(.tmp 2,.di),(.tmp 3,.clo 60 []),(.tmp 9,.di),(.tmp 10,.di),(.tmp 11,.di)]
abbrev YM:Ap:=[(.exit 4,[(.obj 0,.own 34 U2),(.tmp 0,.own' 0),(.tmp 1,.di),(.tmp 2,.di),(.tmp 3,.clo 60 []),(.tmp 9,.di),(.tmp 10,.di)])]
def YI[Lk]:Us→Option (Us⊕Uk⊕Unit):=El ((0,(0,())):U1) BO
abbrev YR:AE:=[(.obj 0,.own 34 U2),(.tmp 0,.own' 0),(.tmp 1,.di),(.tmp 2,.di),(.tmp 3,.clo 60 []),(.tmp 9,.di),(.tmp 10,.di)]
abbrev YN:Ap:=[(.exit 2,[(.obj 0,.own 34 U2),(.tmp 0,.own' 0),(.tmp 1,.di),(.tmp 2,.di),(.tmp 3,.clo 60 []),(.tmp 9,.di),(.tmp 10,.di)])]
def YJ[Lk]:Uk→Option (Uk⊕Uk⊕Unit):=Gc ((0,(0,())):U1) BO
abbrev YS:AE:=[(.obj 0,.own 34 U2),(.tmp 0,.own' 0),(.tmp 1,.di),(.tmp 2,.di),(.tmp 3,.clo 60 []),(.tmp 9,.di),(.tmp 10,.di)]
abbrev YO:Ap:=[(.ret,[(.obj 0,.own 34 U2),(.tmp 8,.dat .bool)]),(.exit 0,[(.obj 0,.own 34 U2)])]
def YK[Lk]:Uk→Option (Uk⊕(List U1×Bool×Unit)⊕Uh⊕Unit):=CT ((0,(0,())):U1) BO
def AC4[Lk]:Ue→Option ((List U1×Bool×Unit)):=Hv ((0,(0,())):U1) BO
def AC5[Lk](v:Ue):Option ((List U1×Bool×Unit)):=NA ((0,(0,())):U1) BO v
theorem AQV v:AC5 v=AC4 v:=AJ _
abbrev VP:AE:=[(.tmp 0,.own 34 U2),(.tmp 1,.di),(.tmp 2,.di),(.tmp 3,.di),(.tmp 4,.clo 60 [])]
abbrev VO:AE:=[(.obj 0,.own 34 U2),(.tmp 0,.di)]
abbrev VN:List RS:=[.one]
abbrev ADM:AE:=[(.obj 0,.own 34 U2),(.tmp 0,.own' 0),(.tmp 1,.di),(.tmp 4,.clo 60 []),(.tmp 11,.di),(.tmp 12,.di)]
abbrev ADJ:Ap:=[(.exit 4,[(.obj 0,.own 34 U2),(.tmp 0,.own' 0),(.tmp 1,.di),(.tmp 4,.clo 60 []),(.tmp 11,.di),(.tmp 12,.di)])]
def ADG[Lk]:U8→Option (U8⊕U8⊕Unit):=Hw ((0,(0,())):U1) BO
abbrev ADN:AE:=[(.obj 0,.own 34 U2),(.tmp 0,.own' 0),(.tmp 1,.di),(.tmp 4,.clo 60 []),(.tmp 11,.di),(.tmp 12,.di)]
abbrev ADK:Ap:=[(.exit 2,[(.obj 0,.own 34 U2),(.tmp 0,.own' 0),(.tmp 1,.di),(.tmp 4,.clo 60 []),(.tmp 11,.di),(.tmp 12,.di)])]
def ADH[Lk]:U8→Option (U8⊕U8⊕Unit):=Hx ((0,(0,())):U1) BO
abbrev ADO:AE:=[(.obj 0,.own 34 U2),(.tmp 0,.own' 0),(.tmp 1,.di),(.tmp 4,.clo 60 []),(.tmp 11,.di),(.tmp 12,.di)]
abbrev ADL:Ap:=[(.exit 0,[(.obj 0,.own 34 U2),(.tmp 11,.di)])]
def ADI[Lk]:U8→Option (U8⊕Vd⊕Unit):=Hy ((0,(0,())):U1) BO
def AIU[Lk]:U8→Option (Vd):=KJ ((0,(0,())):U1) BO
def ALf[Lk](v:U8):Option (Vd):=Rp ((0,(0,())):U1) BO v
theorem AVw v:ALf v=AIU v:=AJ _
abbrev ALi:AE:=[(.tmp 0,.own 34 U2),(.tmp 1,.di),(.tmp 2,.di),(.tmp 3,.di),(.tmp 4,.clo 60 [])]
abbrev ALh:AE:=[(.obj 0,.own 34 U2),(.tmp 0,.di),(.tmp 1,.dat .bool)]
abbrev ALg:List RS:=[.one,.one]
abbrev AQs:AE:=[(.obj 0,.own 34 U2),(.tmp 0,.own' 0),(.tmp 1,.di),(.tmp 4,.clo 60 []),(.tmp 12,.di),(.tmp 13,.di)]
abbrev AQn:Ap:=[(.exit 8,[(.obj 0,.own 34 U2),(.tmp 0,.own' 0),(.tmp 1,.di),(.tmp 4,.clo 60 []),(.tmp 12,.di),(.tmp 13,.di)])]
def AQe[Lk]:U8→Option (U8⊕U8⊕Unit):=NB ((0,(0,())):U1) BO
abbrev AQt:AE:=[(.obj 0,.own 34 U2),(.tmp 0,.own' 0),(.tmp 1,.di),(.tmp 4,.clo 60 []),(.tmp 12,.di),(.tmp 13,.di)]
abbrev AQo:Ap:=[(.exit 6,[(.obj 0,.own 34 U2),(.tmp 0,.own' 0),(.tmp 1,.di),(.tmp 4,.clo 60 []),(.tmp 12,.di),(.tmp 13,.di)])]
def AQg[Lk]:U8→Option (U8⊕U8⊕Unit):=NC ((0,(0,())):U1) BO
abbrev AQu:AE:=[(.obj 0,.own 34 U2),(.tmp 0,.own' 0),(.tmp 1,.di),(.tmp 4,.clo 60 []),(.tmp 12,.di),(.tmp 13,.di)]
abbrev AQp:Ap:=[(.exit 4,[(.obj 0,.own 34 U2),(.tmp 0,.own' 0),(.tmp 1,.di),(.tmp 13,.di)])]
def AQi[Lk]:U8→Option (U8⊕Ue⊕Unit):=ND ((0,(0,())):U1) BO
abbrev AQv:AE:=[(.obj 0,.own 34 U2),(.tmp 0,.own' 0),(.tmp 1,.di),(.tmp 4,.clo 60 []),(.tmp 12,.di),(.tmp 13,.di)]
abbrev AQq:Ap:=[(.exit 2,[(.obj 0,.own 34 U2),(.tmp 0,.own' 0),(.tmp 1,.di),(.tmp 4,.clo 60 []),(.tmp 12,.di),(.tmp 13,.di)])]
def AQk[Lk]:U8→Option (U8⊕U8⊕Unit):=NF ((0,(0,())):U1) BO
abbrev AQw:AE:=[(.obj 0,.own 34 U2),(.tmp 0,.own' 0),(.tmp 1,.di),(.tmp 4,.clo 60 []),(.tmp 12,.di),(.tmp 13,.di)]
abbrev AQr:Ap:=[(.exit 0,[(.obj 0,.own 34 U2),(.tmp 0,.own' 0),(.tmp 1,.di),(.tmp 4,.clo 60 []),(.tmp 12,.di),(.tmp 13,.di)])]
def AQm[Lk]:U8→Option (U8⊕U8⊕Unit):=NG ((0,(0,())):U1) BO
def AZO[Lk]:U8→Option ((List U1×Int×Bool×Unit)):=Ro ((0,(0,())):U1) BO
def AgX[Lk](v:U8):Option ((List U1×Int×Bool×Unit)):=AC6 ((0,(0,())):U1) BO v
theorem AgW v:AgX v=AZO v:=AJ _
abbrev ACs:AE:=[(.tmp 0,.own 34 U2),(.tmp 1,.di),(.tmp 2,.di),(.tmp 3,.di),(.tmp 4,.clo 60 [])]
abbrev ACr:AE:=[(.obj 0,.own 34 U2)]
abbrev ACq:List RS:=[]
abbrev AZM:AE:=[(.obj 0,.own 34 U2),(.tmp 0,.own' 0),(.tmp 1,.di),(.tmp 2,.di),(.tmp 3,.di),(.tmp 4,.clo 60 []),(.tmp 10,.dat .bool),(.tmp 11,.dat .bool)]
abbrev AZL:Ap:=[(.ret,[(.obj 0,.own 34 U2)])]
def AZK[Lk](self:U8→Option (Uh)):(List U1×Int×Int×Int×Bool×Bool×Unit)→Option ((List U1×Int×Int×Int×Bool×Bool×Unit)⊕Uh⊕Unit):=OY ((0,(0,())):U1) BO self
def AlN[Lk](self:U8→Option (Uh)):U8→Option (Uh):=ACp ((0,(0,())):U1) BO self
def ACt[Lk]:Nat→U8→Option (Uh):=K9 ((0,(0,())):U1) BO
def Ajc[Lk](v:U8):Option (Uh):=Af7 ((0,(0,())):U1) BO v
theorem Ajb v:Ajc v=ACt 100 v:=AJ _
abbrev AKc:AE:=[(.tmp 0,.own 34 U2),(.tmp 1,.clo 60 [])]
abbrev AKb:AE:=[(.obj 0,.own 34 U2)]
abbrev AKa:List RS:=[]
def AYs[Lk]:Uh→Option (Uh):=RZ ((0,(0,())):U1) BO
def AHx[Lk](v:Uh):Option (Uh):=AYr ((0,(0,())):U1) BO v
theorem AfN v:AHx v=AYs v:=AJ _
abbrev AFC:AE:=[(.tmp 0,.dat (.slice (.int .u32))),(.tmp 1,.di)]
abbrev AFB:AE:=[(.tmp 0,.dat (.int .u32))]
abbrev AFA:List RS:=[.one]
def AFD[Lk]:Uz→Option (U9):=fun(a0,a1,_)=>
 match(ilt a1 0)with
 |true=>some (0,())
 |false=>match(ieq (AK a0) 0)with
 |true=>some (0,())
 |false=>match rem? a1 (AK a0)with|none=>none|some x0=>match idx a0 x0 with|none=>none|some x1=>some (x1,())
def AM6[Lk]:=fun v=>Lk.f (AFD v)
theorem Adr v:AM6 v=AFD v:=AJ _
abbrev ATJ:AE:=[(.tmp 0,.dat (.int .u32))]
abbrev ATI:AE:=[(.tmp 0,.di)]
abbrev ATH:List RS:=[.one]
def ATK[Lk]:U9→Option (U9):=fun(a0,_)=>
 match(ieq a0 0)with
 |true=>some (32,())
 |false=>match shr? .u32 (IntKind.wrap .u32 ((IntKind.wrap .u32 ((BitVec.ofInt (IntKind.bits .u32) a0 &&& BitVec.ofInt (IntKind.bits .u32) (IntKind.wrap .u32 (0-a0))).toNat))*125613361)) 27 with|none=>none|some x0=>match(ile 0 x0&&(ilt x0 32&&ilt x0 (AK AdZ)))with
 |true=>some ((IntKind.wrap .i64 (Ab AdZ (AN x0) 0)),())
 |false=>none
def Aic[Lk]:=fun v=>Lk.f (ATK v)
theorem Aib v:Aic v=ATK v:=AJ _
abbrev XA:AE:=[(.tmp 0,.dat (.int .u32))]
abbrev W9:AE:=[(.tmp 0,.di)]
abbrev W8:List RS:=[.one]
def XB[Lk]:U9→Option (U9):=fun(a0,_)=>
 match Aic (a0,())with|none=>none|some (y0,_)=>some ((CJ (IntKind.wrap .i64 (y0+1)) 8),())
def AAE[Lk]:=fun v=>Lk.f (XB v)
theorem AX7 v:AAE v=XB v:=AJ _
abbrev AAZ:AE:=[(.tmp 0,.di)]
abbrev AAY:AE:=[(.tmp 0,.dat .bool)]
abbrev AAX:List RS:=[.one]
def AAa[Lk]:U9→Option (Uf):=fun(a0,_)=>
 match(ile 1 a0)with
 |true=>some ((ile a0 8),())
 |false=>some (false,())
def AJn[Lk]:=fun v=>Lk.f (AAa v)
theorem AaY v:AJn v=AAa v:=AJ _
abbrev Jk:AE:=[(.tmp 0,.dat U3),(.tmp 1,.clo 70 [])]
abbrev Jj:AE:=[(.tmp 0,.di)]
abbrev Ji:List RS:=[.one]
abbrev NY:AE:=[(.tmp 0,.dat U3),(.tmp 1,.clo 70 []),(.tmp 7,.di),(.tmp 8,.di)]
abbrev NX:Ap:=[(.ret,[(.tmp 4,.di)]),(.exit 0,[])]
def H9[Lk]:Uq→Option (Uq⊕U9⊕(Unit)⊕Unit):=fun(a0,a1,a2,_)=>
 match(ilt a2 a1)with
 |true=>match idx a0 a2 with|none=>none|some x0=>match AJn (x0,())with|none=>none|some (y1,_)=>match(!y1)with
  |true=>some (.inr (.inl (a2,())))
  |false=>some (.inl (a0,a1,(IntKind.wrap .i64 (a2+1)),()))
 |false=>some (.inr (.inr (.inl ())))
def Jm[Lk]:Up→Option (U9):=fun(a0,_)=>
 match AX H9 many (a0,(AK a0),0,())with|none=>none|some r=>match r with
 |.inl (o0,_)=>some (o0,())
 |.inr r=>match r with
 |.inl _=>some ((-1:Int),())
 |.inr _=>none
def I6[Lk]:=fun v=>Lk.f (Jm v)
theorem AEK v:I6 v=Jm v:=AJ _
abbrev IP:AE:=[(.tmp 0,.dat U3),(.tmp 1,.clo 70 [])]
abbrev IN:AE:=[(.tmp 0,.dat .bool)]
abbrev IM:List RS:=[.one]
def IQ[Lk]:Up→Option (Uf):=fun(a0,_)=>
 match I6 (a0,())with|none=>none|some (y0,_)=>some ((ile 0 y0),())
def HE[Lk]:=fun v=>Lk.f (IQ v)
theorem Ze v:HE v=IQ v:=AJ _
abbrev Tj:AE:=[(.tmp 0,.dat U3),(.tmp 1,.dat U3)]
abbrev Ti:AE:=[(.tmp 0,.own 3 U0),(.tmp 1,.own 3 U0),(.tmp 2,.own 43 U3),(.tmp 3,.di)]
abbrev Th:List RS:=[.agg 3,.one]
abbrev AAe:AE:=[(.tmp 1,.dat U3),(.tmp 4,.box 3),(.cell 0 0,.nil U0),(.cell 0 1,.nil U0),(.cell 0 2,.nil U3),(.tmp 6,.di),(.tmp 8,.box 3),(.cell 1 0,.own 3 U0),(.cell 1 1,.own 3 U0),(.cell 1 2,.own 43 U3),(.tmp 9,.aptr 114 U0 8),(.tmp 11,.di),(.tmp 42,.di),(.tmp 43,.di),(.tmp 68,.di),(.tmp 69,.di)]
abbrev AAc:Ap:=[(.exit 2,[(.tmp 1,.dat U3),(.tmp 4,.box 3),(.cell 0 0,.nil U0),(.cell 0 1,.nil U0),(.cell 0 2,.nil U3),(.tmp 6,.di),(.tmp 8,.box 3),(.cell 1 0,.own 3 U0),(.cell 1 1,.own 3 U0),(.cell 1 2,.own 43 U3),(.tmp 9,.aptr 114 U0 8),(.tmp 42,.di),(.tmp 43,.di)])]
def Ko[Lk]:Vk→Option (Vk⊕V5⊕Unit):=fun(a0,a1,a2,a3,a4,a5,a6,a7,a8,a9,a10,_)=>
 match(ilt a10 a9)with
 |true=>match(ile 0 a10&&(ilt a10 8&&ilt a10 (AK a5)))with
  |true=>some (.inl (a0,a1,a2,a3,a4,(BA a5 (AN a10) a6),a6,a7,a8,a9,(IntKind.wrap .i64 (a10+1)),()))
  |false=>none
 |false=>some (.inr (.inl (a0,a1,a2,a3,a4,a5,a7,a8,())))
abbrev AAf:AE:=[(.tmp 1,.dat U3),(.tmp 4,.box 3),(.cell 0 0,.nil U0),(.cell 0 1,.nil U0),(.cell 0 2,.nil U3),(.tmp 6,.di),(.tmp 8,.box 3),(.cell 1 0,.own 3 U0),(.cell 1 1,.own 3 U0),(.cell 1 2,.own 43 U3),(.tmp 9,.aptr 114 U0 8),(.tmp 42,.di),(.tmp 43,.di)]
abbrev AAd:Ap:=[(.exit 0,[(.tmp 4,.box 3),(.cell 0 0,.nil U0),(.cell 0 1,.nil U0),(.cell 0 2,.nil U3),(.tmp 8,.box 3),(.cell 1 0,.own 3 U0),(.cell 1 1,.own 3 U0),(.cell 1 2,.own 43 U3)])]
def Pg[Lk]:V5→Option (V5⊕(List Int×List Int×List U4×Unit)⊕Unit):=fun(a0,a1,a2,a3,a4,a5,a6,a7,_)=>
 match(ilt a7 a6)with
 |true=>match rem? a7 a1 with|none=>none|some x0=>match(ile a1 a7)with
  |true=>match idx a0 (IntKind.wrap .i64 ((IntKind.wrap .i64 (a1-1))-x0))with|none=>none|some x1=>match CM a5 0 x1 with|none=>none|some x2=>match Qs (DP 0 (AN (AK x2)) a5)with|none=>none|some x3=>match idx a4 (IntKind.wrap .i64 ((IntKind.wrap .i64 (a1-1))-x0))with|none=>none|some x4=>match idx a0 (IntKind.wrap .i64 ((IntKind.wrap .i64 (a1-1))-x0))with|none=>none|some x5=>match AX Ko many (a0,a1,a2,a3,(BA a4 (AN (IntKind.wrap .i64 ((IntKind.wrap .i64 (a1-1))-x0))) x3),a5,(IntKind.wrap .i64 ((IntKind.wrap .i64 (a1-1))-x0)),a6,a7,x5,0,())with|none=>none|some r=>match r with
   |.inl (o6,o7,o8,o9,o10,o11,o12,o13,_)=>some (.inl (o6,o7,o8,o9,o10,o11,o12,(IntKind.wrap .i64 (o13+1)),()))
   |.inr _=>none
  |false=>match idx a0 (IntKind.wrap .i64 ((IntKind.wrap .i64 (a1-1))-x0))with|none=>none|some x14=>match AX Ko many (a0,a1,a2,a3,a4,a5,(IntKind.wrap .i64 ((IntKind.wrap .i64 (a1-1))-x0)),a6,a7,x14,0,())with|none=>none|some r=>match r with
  |.inl (o15,o16,o17,o18,o19,o20,o21,o22,_)=>some (.inl (o15,o16,o17,o18,o19,o20,o21,(IntKind.wrap .i64 (o22+1)),()))
  |.inr _=>none
 |false=>some (.inr (.inl (a2,a3,a4,())))
def Tk[Lk]:Vc→Option ((List Int×List Int×List U4×Int×Unit)):=fun(a0,a1,_)=>
 match(ieq (AK a0) 0)with
 |true=>some (([]:List (Int)),([]:List (Int)),([]:List U4),1,())
 |false=>match(!(ieq (AK a1) (AK a0)))with
 |true=>some (([]:List (Int)),([]:List (Int)),([]:List U4),1,())
 |false=>match M4 (a0,())with|none=>none|some (y0,_)=>match(!y0)with
 |true=>some (([]:List (Int)),([]:List (Int)),([]:List U4),1,())
 |false=>match HE (a1,())with|none=>none|some (y1,_)=>match y1 with
 |true=>some (([]:List (Int)),([]:List (Int)),([]:List U4),1,())
 |false=>match Qs a0 with|none=>none|some x2=>match Qs a1 with|none=>none|some x3=>match(FQ (AK a0)&&FQ (AK a0)&&ile (AK a0) (AK a0)&&true)with
 |true=>match AX Pg many (a1,(AK a0),x2,x3,(EB (AN (AK a0)) ([]:List (Int))),(EB 8 (0:Int)),(IntKind.wrap .i64 ((2:Int)*(AK a0))),(0:Int),())with|none=>none|some r=>match r with
  |.inl (o4,o5,o6,_)=>some (o4,o5,o6,0,())
  |.inr _=>none
 |false=>none
def RN[Lk]:=fun v=>Lk.f (Tk v)
theorem ATT v:RN v=Tk v:=AJ _
abbrev Mk:AE:=[(.tmp 0,.dat U3),(.tmp 1,.dat (.slice (.int .u32)))]
abbrev Mj:AE:=[(.tmp 0,.own 3 U0)]
abbrev Mi:List RS:=[.one]
abbrev RL:AE:=[(.tmp 1,.dat (.slice (.int .u32))),(.tmp 5,.own 3 U0),(.tmp 8,.dat U3),(.tmp 9,.di),(.tmp 10,.di)]
abbrev RJ:Ap:=[(.exit 0,[(.tmp 5,.own 3 U0)])]
def Km[Lk]:V8→Option (V8⊕Up⊕Unit):=fun(a0,a1,a2,a3,a4,_)=>
 match(ilt a4 a3)with
 |true=>match idx a2 a4 with|none=>none|some x0=>match(ilt x0 0)with
  |true=>match(fits ((AK a1)+(AK ([1]:List (Int)))))with
   |true=>some (.inl (a0,(A2 a1 ([1]:List (Int))),a2,a3,(IntKind.wrap .i64 (a4+1)),()))
   |false=>none
  |false=>match AM6 (a0,x0,())with|none=>none|some (y1,_)=>match AAE (y1,())with|none=>none|some (y2,_)=>match(fits ((AK a1)+(AK ([y2]:List (Int)))))with
  |true=>some (.inl (a0,(A2 a1 ([y2]:List (Int))),a2,a3,(IntKind.wrap .i64 (a4+1)),()))
  |false=>none
 |false=>some (.inr (.inl (a1,())))
def Mm[Lk]:Vc→Option (Up):=fun(a0,a1,_)=>
 match AX Km many (a1,([]:List (Int)),a0,(AK a0),0,())with|none=>none|some r=>match r with
 |.inl (o0,_)=>some (o0,())
 |.inr _=>none
def OF[Lk]:=fun v=>Lk.f (Mm v)
theorem AJq v:OF v=Mm v:=AJ _
abbrev AEi:AE:=[(.tmp 0,.dat U3),(.tmp 1,.dat U3)]
abbrev AEh:AE:=[(.tmp 0,.dat .bool)]
abbrev AEg:List RS:=[.one]
abbrev AI4:AE:=[(.tmp 0,.dat U3),(.tmp 1,.dat U3),(.tmp 12,.di),(.tmp 13,.di)]
abbrev AI3:Ap:=[(.ret,[(.tmp 4,.dat .bool)]),(.exit 0,[])]
def Wm[Lk]:(List Int×List Int×Int×Int×Unit)→Option ((List Int×List Int×Int×Int×Unit)⊕Uf⊕(Unit)⊕Unit):=fun(a0,a1,a2,a3,_)=>
 match(ilt a3 a2)with
 |true=>match idx a0 a3 with|none=>none|some x0=>match idx a1 a3 with|none=>none|some x1=>match(!(ieq x0 x1))with
  |true=>some (.inr (.inl (false,())))
  |false=>some (.inl (a0,a1,a2,(IntKind.wrap .i64 (a3+1)),()))
 |false=>some (.inr (.inr (.inl ())))
def AEk[Lk]:Vc→Option (Uf):=fun(a0,a1,_)=>
 match(!(ieq (AK a0) (AK a1)))with
 |true=>some (false,())
 |false=>match AX Wm many (a0,a1,(AK a0),0,())with|none=>none|some r=>match r with
 |.inl (o0,_)=>some (o0,())
 |.inr r=>match r with
 |.inl _=>some (true,())
 |.inr _=>none
def Wn[Lk]:=fun v=>Lk.f (AEk v)
theorem Adi v:Wn v=AEk v:=AJ _
abbrev Wq:AE:=[(.tmp 0,.dat Ub),(.tmp 1,.dat Ub),(.tmp 2,.clo 146 [])]
abbrev Wp:AE:=[(.tmp 0,.dat .bool)]
abbrev Wo:List RS:=[.one]
abbrev AEm:AE:=[(.tmp 1,.dat Ub),(.tmp 2,.clo 146 []),(.tmp 15,.dat Ub),(.tmp 16,.di),(.tmp 17,.di)]
abbrev AEl:Ap:=[(.ret,[(.tmp 6,.dat .bool)]),(.exit 0,[])]
def Qi[Lk]:(List U4×List U4×Int×Int×Unit)→Option ((List U4×List U4×Int×Int×Unit)⊕Uf⊕(Unit)⊕Unit):=fun(a0,a1,a2,a3,_)=>
 match(ilt a3 a2)with
 |true=>match idx a1 a3 with|none=>none|some x0=>match idx a0 a3 with|none=>none|some x1=>match Wn (x0,x1,())with|none=>none|some (y2,_)=>match(!y2)with
  |true=>some (.inr (.inl (false,())))
  |false=>some (.inl (a0,a1,a2,(IntKind.wrap .i64 (a3+1)),()))
 |false=>some (.inr (.inr (.inl ())))
def Ws[Lk]:(List U4×List U4×Unit)→Option (Uf):=fun(a0,a1,_)=>
 match(!(ieq (AK a0) (AK a1)))with
 |true=>some (false,())
 |false=>match AX Qi many (a1,a0,(AK a0),0,())with|none=>none|some r=>match r with
 |.inl (o0,_)=>some (o0,())
 |.inr r=>match r with
 |.inl _=>some (true,())
 |.inr _=>none
def AAC[Lk]:=fun v=>Lk.f (Ws v)
theorem AXb v:AAC v=Ws v:=AJ _
abbrev AAV:AE:=[(.tmp 0,.dat V3),(.tmp 1,.dat V3)]
abbrev AAU:AE:=[(.tmp 0,.dat .bool)]
abbrev AAT:List RS:=[.one]
def AAW[Lk]:(Vb×Vb×Unit)→Option (Uf):=fun(a0,a1,_)=>
 match Wn (a0.1,a1.1,())with|none=>none|some (y0,_)=>match y0 with
 |true=>match Wn (a0.2.1,a1.2.1,())with|none=>none|some (y1,_)=>match y1 with
  |true=>match AAC (a0.2.2.1,a1.2.2.1,())with|none=>none|some (y2,_)=>some (y2,())
  |false=>some (false,())
 |false=>some (false,())
def AJi[Lk]:=fun v=>Lk.f (AAW v)
theorem AaU v:AJi v=AAW v:=AJ _
abbrev Tf:AE:=[(.tmp 0,.dat V3)]
abbrev Te:AE:=[(.tmp 0,.dat .bool)]
abbrev Td:List RS:=[.one]
def Tg[Lk]:(Vb×Unit)→Option (Uf):=fun(a0,_)=>
 match RN (a0.1,a0.2.1,())with|none=>none|some (y0,y1,y2,y3,_)=>match(ieq y3 0)with
 |true=>match AJi ((y0,(y1,(y2,()))),(a0.1,(a0.2.1,(a0.2.2.1,()))),())with|none=>none|some (y4,_)=>some (y4,())
 |false=>some (false,())
def Zu[Lk]:=fun v=>Lk.f (Tg v)
theorem ATM v:Zu v=Tg v:=AJ _
abbrev Jp:AE:=[(.tmp 0,.dat U3),(.tmp 1,.clo 100 [])]
abbrev Jo:AE:=[(.tmp 0,.di)]
abbrev Jn:List RS:=[.one]
abbrev Na:AE:=[(.tmp 0,.dat U3),(.tmp 1,.clo 100 []),(.tmp 7,.di),(.tmp 8,.di)]
abbrev NZ:Ap:=[(.ret,[(.tmp 4,.di)]),(.exit 0,[])]
def IA[Lk]:Uq→Option (Uq⊕U9⊕(Unit)⊕Unit):=fun(a0,a1,a2,_)=>
 match(ilt a2 a1)with
 |true=>match idx a0 a2 with|none=>none|some x0=>match(ilt x0 (-1073741824:Int))with
  |true=>some (.inr (.inl (a2,())))
  |false=>match(ilt 1073741824 x0)with
  |true=>some (.inr (.inl (a2,())))
  |false=>some (.inl (a0,a1,(IntKind.wrap .i64 (a2+1)),()))
 |false=>some (.inr (.inr (.inl ())))
def Jr[Lk]:Up→Option (U9):=fun(a0,_)=>
 match AX IA many (a0,(AK a0),0,())with|none=>none|some r=>match r with
 |.inl (o0,_)=>some (o0,())
 |.inr r=>match r with
 |.inl _=>some ((-1:Int),())
 |.inr _=>none
def I7[Lk]:=fun v=>Lk.f (Jr v)
theorem AEN v:I7 v=Jr v:=AJ _
abbrev IU:AE:=[(.tmp 0,.dat U3),(.tmp 1,.clo 100 [])]
abbrev IT:AE:=[(.tmp 0,.dat .bool)]
abbrev IS:List RS:=[.one]
def IV[Lk]:Up→Option (Uf):=fun(a0,_)=>
 match I7 (a0,())with|none=>none|some (y0,_)=>some ((ile 0 y0),())
def HF[Lk]:=fun v=>Lk.f (IV v)
theorem Zf v:HF v=IV v:=AJ _
abbrev ABe:AE:=[(.tmp 0,.dat V3),(.tmp 1,.dat U3)]
abbrev ABd:AE:=[(.tmp 0,.dat Ub),(.tmp 1,.di)]
abbrev ABc:List RS:=[.one,.one]
abbrev AH6:AE:=[(.tmp 6,.di),(.tmp 7,.own 3 U0),(.tmp 10,.rows 43 3 U0),(.tmp 11,.di),(.tmp 56,.dat Ub),(.tmp 57,.di),(.tmp 58,.di),(.tmp 63,.dat U3),(.tmp 64,.di),(.tmp 65,.di)]
abbrev AH3:Ap:=[(.exit 4,[(.tmp 6,.di),(.tmp 7,.own 3 U0),(.tmp 10,.rows 43 3 U0),(.tmp 56,.dat Ub),(.tmp 57,.di),(.tmp 58,.di)])]
def UC[Lk]:(Int×List Int×List U4×Int×List U4×Int×Int×List Int×Int×Int×Unit)→Option ((Int×List Int×List U4×Int×List U4×Int×Int×List Int×Int×Int×Unit)⊕Vi⊕Unit):=fun(a0,a1,a2,a3,a4,a5,a6,a7,a8,a9,_)=>
 match(ilt a9 a8)with
 |true=>match idx a7 a9 with|none=>none|some x0=>match idx a1 x0 with|none=>none|some x1=>match idx a1 a3 with|none=>none|some x2=>match(ile x0 a3)with
  |true=>match idx a1 a0 with|none=>none|some x3=>match idx a2 a3 with|none=>none|some x4=>match(fits ((AK (Ab a2 (AN a3) ([]:List (Int))))+(AK ([(IntKind.wrap .i64 ((IntKind.wrap .i64 ((Ab a1 (AN x0) 0)-(Ab a1 (AN a3) 0)))+(Ab a1 (AN a0) 0)))]:List (Int)))))with
   |true=>match idx (BA a2 (AN a3) (A2 (Ab a2 (AN a3) ([]:List (Int))) ([(IntKind.wrap .i64 ((IntKind.wrap .i64 ((Ab a1 (AN x0) 0)-(Ab a1 (AN a3) 0)))+(Ab a1 (AN a0) 0)))]:List (Int)))) a3 with|none=>none|some x5=>match(ieq (((AN a3):Nat):Int) (((AN a3):Nat):Int)&&ieq (((AN a3):Nat):Int) (((AN a3):Nat):Int))with
    |true=>some (.inl (a0,a1,(BA a2 (AN a3) (A2 (Ab a2 (AN a3) ([]:List (Int))) ([(IntKind.wrap .i64 ((IntKind.wrap .i64 ((Ab a1 (AN x0) 0)-(Ab a1 (AN a3) 0)))+(Ab a1 (AN a0) 0)))]:List (Int)))),a3,a4,a5,a6,a7,a8,(IntKind.wrap .i64 (a9+1)),()))
    |false=>none
   |false=>none
  |false=>match idx a2 a3 with|none=>none|some x6=>match(fits ((AK (Ab a2 (AN a3) ([]:List (Int))))+(AK ([(IntKind.wrap .i64 ((Ab a1 (AN x0) 0)-(Ab a1 (AN a3) 0)))]:List (Int)))))with
  |true=>match idx (BA a2 (AN a3) (A2 (Ab a2 (AN a3) ([]:List (Int))) ([(IntKind.wrap .i64 ((Ab a1 (AN x0) 0)-(Ab a1 (AN a3) 0)))]:List (Int)))) a3 with|none=>none|some x7=>match(ieq (((AN a3):Nat):Int) (((AN a3):Nat):Int)&&ieq (((AN a3):Nat):Int) (((AN a3):Nat):Int))with
   |true=>some (.inl (a0,a1,(BA a2 (AN a3) (A2 (Ab a2 (AN a3) ([]:List (Int))) ([(IntKind.wrap .i64 ((Ab a1 (AN x0) 0)-(Ab a1 (AN a3) 0)))]:List (Int)))),a3,a4,a5,a6,a7,a8,(IntKind.wrap .i64 (a9+1)),()))
   |false=>none
  |false=>none
 |false=>some (.inr (.inl (a0,a1,a2,a4,a5,a6,())))
abbrev AH7:AE:=[(.tmp 6,.di),(.tmp 7,.own 3 U0),(.tmp 10,.rows 43 3 U0),(.tmp 56,.dat Ub),(.tmp 57,.di),(.tmp 58,.di)]
abbrev AH4:Ap:=[(.exit 2,[(.tmp 10,.rows 43 3 U0)])]
def UD[Lk]:Vi→Option (Vi⊕Uo⊕Unit):=fun(a0,a1,a2,a3,a4,a5,_)=>
 match(ilt a5 a4)with
 |true=>match idx a3 a5 with|none=>none|some x0=>match AX UC many (a0,a1,a2,a5,a3,a4,a5,x0,(AK x0),0,())with|none=>none|some r=>match r with
  |.inl (o1,o2,o3,o4,o5,o6,_)=>some (.inl (o1,o2,o3,o4,o5,(IntKind.wrap .i64 (o6+1)),()))
  |.inr _=>none
 |false=>some (.inr (.inl (a2,())))
abbrev AH8:AE:=[(.tmp 2,.box 3),(.cell 0 0,.dat U3),(.cell 0 1,.dat U3),(.cell 0 2,.dat Ub),(.tmp 6,.di),(.tmp 7,.own 3 U0),(.tmp 35,.dat U3),(.tmp 36,.di),(.tmp 37,.di)]
abbrev AH5:Ap:=[(.exit 0,[(.tmp 2,.box 3),(.cell 0 0,.dat U3),(.cell 0 1,.dat U3),(.cell 0 2,.dat Ub),(.tmp 6,.di),(.tmp 7,.own 3 U0)])]
def UE[Lk]:(List Int×List Int×List U4×Int×List Int×List Int×Int×Int×Unit)→Option ((List Int×List Int×List U4×Int×List Int×List Int×Int×Int×Unit)⊕(List Int×List Int×List U4×Int×List Int×Unit)⊕Unit):=fun(a0,a1,a2,a3,a4,a5,a6,a7,_)=>
 match(ilt a7 a6)with
 |true=>match idx a5 a7 with|none=>none|some x0=>match idx a4 a7 with|none=>none|some x1=>match idx a4 (IntKind.wrap .i64 (a7+1))with|none=>none|some x2=>some (.inl (a0,a1,a2,a3,(BA a4 (AN (IntKind.wrap .i64 (a7+1))) (IntKind.wrap .i64 ((Ab a4 (AN a7) 0)+x0))),a5,a6,(IntKind.wrap .i64 (a7+1)),()))
 |false=>some (.inr (.inl (a0,a1,a2,a3,a4,())))
def ABf[Lk]:(Vb×List Int×Unit)→Option (V9):=fun(a0,a1,_)=>
 match(!(ieq (AK a1) (AK a0.1)))with
 |true=>some (([]:List U4),1,())
 |false=>match Zu ((a0.1,(a0.2.1,(a0.2.2.1,()))),())with|none=>none|some (y0,_)=>match(!y0)with
 |true=>some (([]:List U4),1,())
 |false=>match HF (a1,())with|none=>none|some (y1,_)=>match y1 with
 |true=>some (([]:List U4),1,())
 |false=>match(FQ (IntKind.wrap .i64 ((AK a0.1)+1))&&FQ (IntKind.wrap .i64 ((AK a0.1)+1))&&ile (IntKind.wrap .i64 ((AK a0.1)+1)) (IntKind.wrap .i64 ((AK a0.1)+1))&&true)with
 |true=>match AX UE many (a0.1,a0.2.1,a0.2.2.1,(AK a0.1),(EB (AN (IntKind.wrap .i64 ((AK a0.1)+(1:Int)))) (0:Int)),a1,(AK a1),(0:Int),())with|none=>none|some r=>match r with
  |.inl (o2,o3,o4,o5,o6,_)=>match(FQ o5&&FQ o5&&ile o5 o5&&true)with
   |true=>match AX UD many (o5,o6,(EB (AN o5) ([]:List Int)),o4,(AK o4),(0:Int),())with|none=>none|some r=>match r with
    |.inl (o7,_)=>some (o7,0,())
    |.inr _=>none
   |false=>none
  |.inr _=>none
 |false=>none
def AK0[Lk]:=fun v=>Lk.f (ABf v)
theorem AbW v:AK0 v=ABf v:=AJ _
abbrev ACi:AE:=[(.tmp 0,.dat V3),(.tmp 1,.dat (.slice .bool))]
abbrev ACh:AE:=[(.tmp 0,.dat Ub),(.tmp 1,.di)]
abbrev ACg:List RS:=[.one,.one]
abbrev AIS:AE:=[(.tmp 2,.box 3),(.cell 0 0,.dat U3),(.cell 0 1,.dat U3),(.cell 0 2,.dat Ub),(.tmp 6,.own 3 U0),(.tmp 12,.dat (.slice .bool)),(.tmp 13,.di),(.tmp 14,.di)]
abbrev AIR:Ap:=[(.exit 0,[(.tmp 2,.box 3),(.cell 0 0,.dat U3),(.cell 0 1,.dat U3),(.cell 0 2,.dat Ub),(.tmp 6,.own 3 U0)])]
def VI[Lk]:(List Int×List Int×List U4×List Int×List Bool×Int×Int×Unit)→Option ((List Int×List Int×List U4×List Int×List Bool×Int×Int×Unit)⊕(List Int×List Int×List U4×List Int×Unit)⊕Unit):=fun(a0,a1,a2,a3,a4,a5,a6,_)=>
 match(ilt a6 a5)with
 |true=>match idx a4 a6 with|none=>none|some x0=>match x0 with
  |true=>match idx a3 a6 with|none=>none|some x1=>some (.inl (a0,a1,a2,(BA a3 (AN a6) 1),a4,a5,(IntKind.wrap .i64 (a6+1)),()))
  |false=>some (.inl (a0,a1,a2,a3,a4,a5,(IntKind.wrap .i64 (a6+1)),()))
 |false=>some (.inr (.inl (a0,a1,a2,a3,())))
def ACk[Lk]:(Vb×List Bool×Unit)→Option (V9):=fun(a0,a1,_)=>
 match(FQ (AK a1)&&FQ (AK a1)&&ile (AK a1) (AK a1)&&true)with
 |true=>match AX VI many (a0.1,a0.2.1,a0.2.2.1,(EB (AN (AK a1)) (0:Int)),a1,(AK a1),(0:Int),())with|none=>none|some r=>match r with
  |.inl (o0,o1,o2,o3,_)=>match AK0 ((o0,(o1,(o2,()))),o3,())with|none=>none|some (y4,y5,_)=>some (y4,y5,())
  |.inr _=>none
 |false=>none
def ALP[Lk]:=fun v=>Lk.f (ACk v)
theorem Ab5 v:ALP v=ACk v:=AJ _
abbrev AUX:AE:=[(.tmp 0,.dat Un),(.tmp 1,.di),(.tmp 2,.di)]
abbrev AUW:Ap:=[(.ret,[(.tmp 0,.nilp),(.tmp 1,.di)]),(.ret,[(.tmp 0,.box 4),(.cell 0 0,.di),(.cell 0 1,.dat U3),(.cell 0 2,.map U0 U0),(.cell 0 3,.dat (.mapi .i64 Ug)),(.tmp 1,.di)])]
abbrev AUV:List RS:=[.one,.one]
abbrev AY3:AE:=[(.tmp 2,.di),(.tmp 10,.box 4),(.cell 0 0,.di),(.cell 0 1,.dat U3),(.cell 0 2,.map U0 U0),(.cell 0 3,.mrows .i64 34 U2),(.tmp 14,.box 4),(.cell 3 0,.di),(.cell 3 1,.di),(.cell 3 2,.di),(.cell 3 3,.dat .bool),(.tmp 65,.dat U5),(.tmp 66,.di),(.tmp 67,.di),(.tmp 74,.ptr' 3 2),(.tmp 75,.di),(.tmp 76,.di),(.tmp 77,.dat .bool),(.tmp 83,.dat (.arr 2 U0)),(.tmp 84,.di)]
abbrev AY0:Ap:=[(.exit 5,[(.tmp 2,.di),(.tmp 10,.box 4),(.cell 0 0,.di),(.cell 0 1,.dat U3),(.cell 0 2,.map U0 U0),(.cell 0 3,.mrows .i64 34 U2),(.tmp 65,.dat U5),(.tmp 66,.di),(.tmp 67,.di),(.tmp 75,.di),(.tmp 76,.di),(.tmp 77,.dat .bool)])]
def GG[Lk]:Va→Option (Va⊕(Int×Int×List Int×List Uc×List Ua×List U6×Int×Int×Int×Int×Bool×Unit)⊕Unit):=fun(a0,a1,a2,a3,a4,a5,a6,a7,a8,a9,a10,a11,a12,a13,a14,a15,a16,_)=>
 match(ilt a16 2)with
 |true=>match idx ([(Ab a15 0 0),(Ab a15 1 0)]:List (Int)) a16 with|none=>none|some x0=>match(fits ((AK (Ab (List.map Prod.snd a4) (C0 (List.map Prod.fst a4) x0) ([]:List U1)))+(AK ([(a5,(a6,()))]:List U1))))with
  |true=>match(ieq (((C0 (List.map Prod.fst a4) x0):Nat):Int) (((C0 (List.map Prod.fst a4) x0):Nat):Int)&&ieq ((C0 (List.map Prod.fst a4) x0:Nat):Int) (((C0 (List.map Prod.fst a4) x0):Nat):Int))with
   |true=>some (.inl (a0,a1,a2,a3,(List.zip (Lo (List.map Prod.fst a4) (C0 (List.map Prod.fst a4) x0) x0) (Lo (List.map Prod.snd a4) (C0 (List.map Prod.fst a4) x0) (A2 (Ab (List.map Prod.snd a4) (C0 (List.map Prod.fst a4) x0) ([]:List U1)) ([(a5,(a6,()))]:List U1)))),a5,a6,a7,a8,a9,a10,a11,a12,a13,a14,a15,(IntKind.wrap .i64 (a16+1)),()))
   |false=>none
  |false=>none
 |false=>some (.inr (.inl (a0,a1,a2,a3,(List.zip (List.map Prod.fst a4) (List.map Prod.snd a4)),a9,a10,a11,a12,a13,a14,())))
abbrev AY4:AE:=[(.tmp 2,.di),(.tmp 10,.box 4),(.cell 0 0,.di),(.cell 0 1,.dat U3),(.cell 0 2,.map U0 U0),(.cell 0 3,.mrows .i64 34 U2),(.tmp 65,.dat U5),(.tmp 66,.di),(.tmp 67,.di)]
abbrev AY1:Ap:=[(.exit 3,[(.tmp 10,.box 4),(.cell 0 0,.di),(.cell 0 1,.dat U3),(.cell 0 2,.map U0 U0),(.cell 0 3,.mrows .i64 34 U2)])]
def Iq[Lk]:(Int×Int×List Int×List Uc×List Ua×List U6×Int×Int×Unit)→Option ((Int×Int×List Int×List Uc×List Ua×List U6×Int×Int×Unit)⊕(Int×List Int×List Uc×List Ua×Unit)⊕Unit):=fun(a0,a1,a2,a3,a4,a5,a6,a7,_)=>
 match(ilt a7 a6)with
 |true=>match idx a5 a7 with|none=>none|some x0=>match x0.2.2.2.1 with
  |true=>some (.inl (a0,a1,a2,a3,(List.zip (List.map Prod.fst a4) (List.map Prod.snd a4)),a5,a6,(IntKind.wrap .i64 (a7+1)),()))
  |false=>match(!(ieq x0.2.2.1 a0))with
  |true=>some (.inl (a0,a1,a2,a3,(List.zip (List.map Prod.fst a4) (List.map Prod.snd a4)),a5,a6,(IntKind.wrap .i64 (a7+1)),()))
  |false=>match AX GG many (a0,a1,a2,a3,(List.zip (List.map Prod.fst a4) (List.map Prod.snd a4)),x0.1,x0.2.1,x0.2.2.1,x0.2.2.2.1,a5,a6,a7,x0.2.2.1,a0,(!(ieq x0.2.2.1 a0)),([x0.1,x0.2.1]:List (Int)),0,())with|none=>none|some r=>match r with
  |.inl (o1,o2,o3,o4,o5,o6,o7,o8,o9,o10,o11,_)=>some (.inl (o1,o2,o3,o4,(List.zip (List.map Prod.fst o5) (List.map Prod.snd o5)),o6,o7,(IntKind.wrap .i64 (o8+1)),()))
  |.inr _=>none
 |false=>some (.inr (.inl (a1,a2,a3,(List.zip (List.map Prod.fst a4) (List.map Prod.snd a4)),())))
abbrev AY5:AE:=[(.tmp 2,.di),(.tmp 3,.box 2),(.cell 0 0,.di),(.cell 0 1,.dat U5),(.tmp 10,.box 4),(.cell 1 0,.di),(.cell 1 1,.dat U3),(.cell 1 2,.map U0 U0),(.cell 1 3,.mrows .i64 34 U2),(.tmp 52,.dat U3),(.tmp 53,.di),(.tmp 54,.di)]
abbrev AY2:Ap:=[(.exit 1,[(.tmp 2,.di),(.tmp 3,.box 2),(.cell 0 0,.di),(.cell 0 1,.dat U5),(.tmp 10,.box 4),(.cell 1 0,.di),(.cell 1 1,.dat U3),(.cell 1 2,.map U0 U0),(.cell 1 3,.mrows .i64 34 U2)])]
def Ir[Lk]:Vl→Option (Vl⊕(Int×Int×List U6×Int×List Int×List Uc×List Ua×Unit)⊕Unit):=fun(a0,a1,a2,a3,a4,a5,a6,a7,a8,a9,_)=>
 match(ilt a9 a8)with
 |true=>match idx a7 a9 with|none=>none|some x0=>some (.inl (a0,a1,a2,a3,a4,(Af a5 x0 1),(List.zip (List.map Prod.fst a6) (List.map Prod.snd a6)),a7,a8,(IntKind.wrap .i64 (a9+1)),()))
 |false=>some (.inr (.inl (a0,a1,a2,a3,a4,a5,(List.zip (List.map Prod.fst a6) (List.map Prod.snd a6)),())))
def T7[Lk]:V6→Option (U9⊕Uy⊕Unit):=fun(a0,a1,a2,_)=>
 match LP ((a0.1,(a0.2.1,())),a2,())with|none=>none|some (y0,y1,_)=>match(!(ieq y1 0))with
 |true=>some (.inl (y1,()))
 |false=>match(ilt a1 0)with
 |true=>some (.inl (10,()))
 |false=>match(ile a0.1 a1)with
 |true=>some (.inl (10,()))
 |false=>match tof ((y0.1,(y0.2.1,())),a1,())with|none=>none|some (y2,_)=>match idx y0.2.1 y2 with|none=>none|some x3=>match AX Ir many (a2,a0.1,a0.2.1,a0.1,x3,([]:List Uc),(List.zip ([]:List (Int)) ([]:List (List U1))),x3,(AK x3),0,())with|none=>none|some r=>match r with
 |.inl (o4,o5,o6,o7,o8,o9,o10,_)=>match AX Iq many (o4,o7,o8,o9,(List.zip (List.map Prod.fst o10) (List.map Prod.snd o10)),o6,(AK o6),0,())with|none=>none|some r=>match r with
  |.inl (o11,o12,o13,o14,_)=>some (.inr (.inl (o11,o12,o13,(List.zip (List.map Prod.fst o14) (List.map Prod.snd o14)),0,())))
  |.inr _=>none
 |.inr _=>none
def seen[Lk](v:V6):Option (U9⊕Uy⊕Unit):=Lk.f (T7 v)
theorem Z1 v:seen v=T7 v:=AJ _
abbrev T6:AE:=[(.tmp 0,.box 4),(.cell 0 0,.di),(.cell 0 1,.dat U3),(.cell 0 2,.map U0 U0),(.cell 0 3,.dat (.mapi .i64 Ug)),(.tmp 1,.dat U2)]
abbrev T5:AE:=[(.obj 0,.box 4),(.cell 0 0,.di),(.cell 0 1,.dat U3),(.cell 0 2,.map U0 U0),(.cell 0 3,.dat (.mapi .i64 Ug)),(.obj 1,.map' 1),(.tmp 0,.dat .bool)]
abbrev T4:List RS:=[.one]
def OL[Lk]:(Int×List Int×List Uc×List Ua×U1×Unit)→Option ((Int×List Int×List Uc×List Ua×Bool×Unit)):=fun(a0,a1,a2,a3,a4,_)=>
 some (a0,a1,a2,a3,(ieq (IntKind.wrap .i64 (((AP a2 a4.1).getD 0)+((AP a2 a4.2.1).getD 0))) 1),())
def Kx[Lk]:=fun v=>Lk.f (OL v)
theorem ABS v:Kx v=OL v:=AJ _
abbrev Px:AE:=[(.tmp 0,.box 4),(.cell 0 0,.di),(.cell 0 1,.dat U3),(.cell 0 2,.map U0 U0),(.cell 0 3,.dat (.mapi .i64 Ug)),(.tmp 1,.di)]
abbrev Pw:AE:=[(.obj 0,.box 4),(.cell 0 0,.di),(.cell 0 1,.dat U3),(.cell 0 2,.map U0 U0),(.cell 0 3,.dat (.mapi .i64 Ug)),(.obj 1,.map' 1),(.tmp 0,.dat .bool)]
abbrev Pv:List RS:=[.one]
def Kw[Lk]:Uy→Option ((Int×List Int×List Uc×List Ua×Bool×Unit)):=fun(a0,a1,a2,a3,a4,_)=>
 match(ilt a4 a0)with
 |true=>some (a0,a1,a2,a3,(ilt 0 (AK ((AP a3 a4).getD ([]:List U1)))),())
 |false=>some (a0,a1,a2,a3,false,())
def Ho[Lk]:=fun v=>Lk.f (Kw v)
theorem Xx v:Ho v=Kw v:=AJ _
abbrev Jg:AE:=[(.tmp 0,.own 3 U0),(.cap 1 0,.box 1),(.cell 1 0,.box 4),(.cell 2 0,.di),(.cell 2 1,.dat U3),(.cell 2 2,.map U0 U0),(.cell 2 3,.dat (.mapi .i64 Ug)),(.tmp 1,.clo 65 [(1,0)])]
abbrev Jf:AE:=[(.obj 0,.own 3 U0),(.obj 1,.box 1),(.cell 1 0,.box 4),(.cell 2 0,.di),(.cell 2 1,.dat U3),(.cell 2 2,.map U0 U0),(.cell 2 3,.dat (.mapi .i64 Ug)),(.obj 2,.ptr' 2 0),(.obj 3,.map' 3),(.tmp 0,.di)]
abbrev Je:List RS:=[.one]
abbrev NU:AE:=[(.obj 0,.own 3 U0),(.obj 1,.box 1),(.cell 1 0,.box 4),(.cell 2 0,.di),(.cell 2 1,.dat U3),(.cell 2 2,.map U0 U0),(.cell 2 3,.dat (.mapi .i64 Ug)),(.obj 2,.ptr' 2 0),(.obj 3,.map' 3),(.tmp 0,.own' 0),(.tmp 1,.clo 65 [(1,0)]),(.tmp 7,.di),(.tmp 8,.di)]
abbrev NT:Ap:=[(.ret,[(.obj 0,.own 3 U0),(.obj 1,.box 1),(.cell 1 0,.box 4),(.cell 2 0,.di),(.cell 2 1,.dat U3),(.cell 2 2,.map U0 U0),(.cell 2 3,.dat (.mapi .i64 Ug)),(.obj 2,.ptr' 2 0),(.obj 3,.map' 3),(.tmp 4,.di)]),(.exit 0,[(.obj 0,.own 3 U0),(.obj 1,.box 1),(.cell 1 0,.box 4),(.cell 2 0,.di),(.cell 2 1,.dat U3),(.cell 2 2,.map U0 U0),(.cell 2 3,.dat (.mapi .i64 Ug)),(.obj 2,.ptr' 2 0),(.obj 3,.map' 3)])]
def Bw[Lk]:Uw→Option (Uw⊕V1⊕Vj⊕Unit):=fun(a0,a1,a2,a3,a4,a5,a6,_)=>
 match(ilt a6 a5)with
 |true=>match idx a0 a6 with|none=>none|some x0=>match Ho (a1,a2,a3,a4,(Ab a0 (AN a6) 0),())with|none=>none|some (y1,y2,y3,y4,y5,_)=>match(!y5)with
  |true=>some (.inr (.inl (a0,y1,y2,y3,y4,a6,())))
  |false=>some (.inl (a0,y1,y2,y3,y4,a5,(IntKind.wrap .i64 (a6+1)),()))
 |false=>some (.inr (.inr (.inl (a0,a1,a2,a3,a4,()))))
def GO[Lk]:Vj→Option (V1):=fun(a0,a1,a2,a3,a4,_)=>
 match AX Bw many (a0,a1,a2,a3,a4,(AK a0),0,())with|none=>none|some r=>match r with
 |.inl (o0,o1,o2,o3,o4,o5,_)=>some (o0,o1,o2,o3,o4,o5,())
 |.inr r=>match r with
 |.inl (o6,o7,o8,o9,o10,_)=>some (o6,o7,o8,o9,o10,(-1:Int),())
 |.inr _=>none
def I2[Lk]:=fun v=>Lk.f (GO v)
theorem NV v:I2 v=GO v:=AJ _
abbrev Jw:AE:=[(.tmp 0,.own 3 U0),(.cap 1 0,.box 1),(.cell 1 0,.box 4),(.cell 2 0,.di),(.cell 2 1,.dat U3),(.cell 2 2,.map U0 U0),(.cell 2 3,.dat (.mapi .i64 Ug)),(.tmp 1,.clo 65 [(1,0)])]
abbrev Jv:AE:=[(.obj 0,.own 3 U0),(.obj 1,.box 1),(.cell 1 0,.box 4),(.cell 2 0,.di),(.cell 2 1,.dat U3),(.cell 2 2,.map U0 U0),(.cell 2 3,.dat (.mapi .i64 Ug)),(.obj 2,.ptr' 2 0),(.obj 3,.map' 3),(.tmp 0,.win' 0)]
abbrev Ju:List RS:=[.one]
abbrev Nj:AE:=[(.obj 0,.own 3 U0),(.obj 1,.box 1),(.cell 1 0,.box 4),(.cell 2 0,.di),(.cell 2 1,.dat U3),(.cell 2 2,.map U0 U0),(.cell 2 3,.dat (.mapi .i64 Ug)),(.obj 2,.ptr' 2 0),(.obj 3,.map' 3),(.tmp 0,.own' 0),(.tmp 1,.clo 65 [(1,0)]),(.tmp 5,.di),(.tmp 6,.di)]
abbrev Ni:Ap:=[(.exit 0,[(.obj 0,.own 3 U0),(.obj 1,.box 1),(.cell 1 0,.box 4),(.cell 2 0,.di),(.cell 2 1,.dat U3),(.cell 2 2,.map U0 U0),(.cell 2 3,.dat (.mapi .i64 Ug)),(.obj 2,.ptr' 2 0),(.obj 3,.map' 3),(.tmp 0,.own' 0),(.tmp 5,.di)])]
def Cq[Lk]:Uw→Option (Uw⊕V1⊕Unit):=fun(a0,a1,a2,a3,a4,a5,a6,_)=>
 match(ilt a6 (AK a0))with
 |true=>match idx a0 a6 with|none=>none|some x0=>match Ho (a1,a2,a3,a4,(Ab a0 (AN a6) 0),())with|none=>none|some (y1,y2,y3,y4,y5,_)=>match(!(!y5))with
  |true=>match idx a0 a5 with|none=>none|some x6=>some (.inl ((BA a0 (AN a5) (Ab a0 (AN a6) 0)),y1,y2,y3,y4,(IntKind.wrap .i64 (a5+1)),(IntKind.wrap .i64 (a6+1)),()))
  |false=>some (.inl (a0,y1,y2,y3,y4,a5,(IntKind.wrap .i64 (a6+1)),()))
 |false=>some (.inr (.inl (a0,a1,a2,a3,a4,a5,())))
def GR[Lk]:Vj→Option (V1):=fun(a0,a1,a2,a3,a4,_)=>
 match I2 (a0,a1,a2,a3,a4,())with|none=>none|some (y0,y1,y2,y3,y4,y5,_)=>match(ieq y5 (-1:Int))with
 |true=>some (y0,y1,y2,y3,y4,(AK y0),())
 |false=>match AX Cq many (y0,y1,y2,y3,y4,y5,(IntKind.wrap .i64 (y5+1)),())with|none=>none|some r=>match r with
 |.inl (o6,o7,o8,o9,o10,o11,_)=>match CM o6 o11 (AK o6)with|none=>none|some x12=>match CM (Bk (AN o11) (AN (AK x12)) 0 o6) 0 o11 with|none=>none|some x13=>some ((Bk (AN o11) (AN (AK x12)) 0 o6),o7,o8,o9,o10,(((AN (AK x13)):Nat):Int),())
 |.inr _=>none
def JF[Lk]:=fun v=>Lk.f (GR v)
theorem Nk v:JF v=GR v:=AJ _
abbrev Pu:AE:=[(.tmp 0,.box 4),(.cell 0 0,.di),(.cell 0 1,.dat U3),(.cell 0 2,.map U0 U0),(.cell 0 3,.dat (.mapi .i64 Ug))]
abbrev Pt:AE:=[(.obj 0,.box 4),(.cell 0 0,.di),(.cell 0 1,.dat U3),(.cell 0 2,.map U0 U0),(.cell 0 3,.dat (.mapi .i64 Ug)),(.obj 1,.map' 1),(.tmp 0,.own 3 U0)]
abbrev Ps:List RS:=[.one]
def Kv[Lk]:(Int×List Int×List Uc×List Ua×Unit)→Option ((Int×List Int×List Uc×List Ua×List Int×Unit)):=fun(a0,a1,a2,a3,_)=>
 match Qs a1 with|none=>none|some x0=>match JF (x0,a0,a1,a2,a3,())with|none=>none|some (y1,y2,y3,y4,y5,y6,_)=>some (y2,y3,y4,y5,(Bn (AN y6) y1),())
def Hn[Lk]:=fun v=>Lk.f (Kv v)
theorem Xw v:Hn v=Kv v:=AJ _
abbrev AUL:AE:=[(.tmp 0,.box 4),(.cell 0 0,.di),(.cell 0 1,.dat U3),(.cell 0 2,.map U0 U0),(.cell 0 3,.dat (.mapi .i64 Ug)),(.tmp 1,.dat U3)]
abbrev AUK:AE:=[(.obj 0,.box 4),(.cell 0 0,.di),(.cell 0 1,.dat U3),(.cell 0 2,.map U0 U0),(.cell 0 3,.dat (.mapi .i64 Ug)),(.obj 1,.map' 1),(.tmp 0,.own 34 U2)]
abbrev AUJ:List RS:=[.one]
abbrev AYv:AE:=[(.obj 0,.box 4),(.cell 0 0,.di),(.cell 0 1,.dat U3),(.cell 0 2,.map U0 U0),(.cell 0 3,.dat (.mapi .i64 Ug)),(.obj 1,.map' 1),(.tmp 0,.ptr' 0 0),(.tmp 5,.map U2 U0),(.tmp 6,.own 34 U2),(.tmp 12,.dat U3),(.tmp 13,.di),(.tmp 14,.di),(.tmp 23,.dat Ug),(.tmp 24,.di),(.tmp 25,.di)]
abbrev AYt:Ap:=[(.exit 2,[(.obj 0,.box 4),(.cell 0 0,.di),(.cell 0 1,.dat U3),(.cell 0 2,.map U0 U0),(.cell 0 3,.dat (.mapi .i64 Ug)),(.obj 1,.map' 1),(.tmp 0,.ptr' 0 0),(.tmp 5,.map U2 U0),(.tmp 6,.own 34 U2),(.tmp 12,.dat U3),(.tmp 13,.di),(.tmp 14,.di)])]
def Ip[Lk]:Ve→Option (Ve⊕V0⊕Unit):=fun(a0,a1,a2,a3,a4,a5,a6,a7,a8,a9,a10,a11,_)=>
 match(ilt a11 a10)with
 |true=>match idx a9 a11 with|none=>none|some x0=>match(ile 0 (Rl a4 (x0.1,(x0.2.1,())))&&ilt (Rl a4 (x0.1,(x0.2.1,()))) (AK (Af a4 (x0.1,(x0.2.1,())) ((AP a4 (x0.1,(x0.2.1,()))).getD 0))))with
  |true=>match(ieq ((AP (ARA (Af a4 (x0.1,(x0.2.1,())) ((AP a4 (x0.1,(x0.2.1,()))).getD 0)) (Rl a4 (x0.1,(x0.2.1,()))) (IntKind.wrap .i64 (((AP a4 (x0.1,(x0.2.1,()))).getD 0)+1))) (x0.1,(x0.2.1,()))).getD 0) 1)with
   |true=>match(fits ((AK a5)+(AK ([(x0.1,(x0.2.1,()))]:List U1))))with
    |true=>some (.inl (a0,a1,a2,a3,(ARA (Af a4 (x0.1,(x0.2.1,())) ((AP a4 (x0.1,(x0.2.1,()))).getD 0)) (Rl a4 (x0.1,(x0.2.1,()))) (IntKind.wrap .i64 (((AP a4 (x0.1,(x0.2.1,()))).getD 0)+1))),(A2 a5 ([(x0.1,(x0.2.1,()))]:List U1)),a6,a7,a8,a9,a10,(IntKind.wrap .i64 (a11+1)),()))
    |false=>none
   |false=>some (.inl (a0,a1,a2,a3,(ARA (Af a4 (x0.1,(x0.2.1,())) ((AP a4 (x0.1,(x0.2.1,()))).getD 0)) (Rl a4 (x0.1,(x0.2.1,()))) (IntKind.wrap .i64 (((AP a4 (x0.1,(x0.2.1,()))).getD 0)+1))),a5,a6,a7,a8,a9,a10,(IntKind.wrap .i64 (a11+1)),()))
  |false=>none
 |false=>some (.inr (.inl (a0,a1,a2,a3,a4,a5,a6,a7,a8,())))
abbrev AYw:AE:=[(.obj 0,.box 4),(.cell 0 0,.di),(.cell 0 1,.dat U3),(.cell 0 2,.map U0 U0),(.cell 0 3,.dat (.mapi .i64 Ug)),(.obj 1,.map' 1),(.tmp 0,.ptr' 0 0),(.tmp 5,.map U2 U0),(.tmp 6,.own 34 U2),(.tmp 12,.dat U3),(.tmp 13,.di),(.tmp 14,.di)]
abbrev AYu:Ap:=[(.exit 0,[(.obj 0,.box 4),(.cell 0 0,.di),(.cell 0 1,.dat U3),(.cell 0 2,.map U0 U0),(.cell 0 3,.dat (.mapi .i64 Ug)),(.obj 1,.map' 1),(.tmp 6,.own 34 U2)])]
def Ky[Lk]:V0→Option (V0⊕(Int×List Int×List Uc×List Ua×List U1×Unit)⊕Unit):=fun(a0,a1,a2,a3,a4,a5,a6,a7,a8,_)=>
 match(ilt a8 a7)with
 |true=>match idx a6 a8 with|none=>none|some x0=>match AX Ip many (a0,a1,a2,a3,a4,a5,a6,a7,a8,((AP a3 x0).getD ([]:List U1)),(AK ((AP a3 x0).getD ([]:List U1))),0,())with|none=>none|some r=>match r with
  |.inl (o1,o2,o3,o4,o5,o6,o7,o8,o9,_)=>some (.inl (o1,o2,o3,o4,o5,o6,o7,o8,(IntKind.wrap .i64 (o9+1)),()))
  |.inr _=>none
 |false=>some (.inr (.inl (a0,a1,a2,a3,a5,())))
def AKj[Lk]:(Int×List Int×List Uc×List Ua×List Int×Unit)→Option ((Int×List Int×List Uc×List Ua×List U1×Unit)):=fun(a0,a1,a2,a3,a4,_)=>
 match AX Ky many (a0,a1,a2,a3,([]:List (U1×Int)),([]:List U1),a4,(AK a4),0,())with|none=>none|some r=>match r with
 |.inl (o0,o1,o2,o3,o4,_)=>match AHx (o4,())with|none=>none|some (y5,_)=>some (o0,o1,o2,o3,y5,())
 |.inr _=>none
def AUM[Lk]:=fun v=>Lk.f (AKj v)
theorem AYx v:AUM v=AKj v:=AJ _
abbrev LZ:AE:=[(.tmp 0,.own 34 U2),(.cap 1 0,.box 1),(.cell 1 0,.box 4),(.cell 2 0,.di),(.cell 2 1,.dat U3),(.cell 2 2,.map U0 U0),(.cell 2 3,.dat (.mapi .i64 Ug)),(.tmp 1,.clo 31 [(1,0)])]
abbrev LY:AE:=[(.obj 0,.own 34 U2),(.obj 1,.box 1),(.cell 1 0,.box 4),(.cell 2 0,.di),(.cell 2 1,.dat U3),(.cell 2 2,.map U0 U0),(.cell 2 3,.dat (.mapi .i64 Ug)),(.obj 2,.ptr' 2 0),(.obj 3,.map' 3),(.tmp 0,.di)]
abbrev LX:List RS:=[.one]
abbrev PM:AE:=[(.obj 0,.own 34 U2),(.obj 1,.box 1),(.cell 1 0,.box 4),(.cell 2 0,.di),(.cell 2 1,.dat U3),(.cell 2 2,.map U0 U0),(.cell 2 3,.dat (.mapi .i64 Ug)),(.obj 2,.ptr' 2 0),(.obj 3,.map' 3),(.tmp 0,.own' 0),(.tmp 1,.clo 31 [(1,0)]),(.tmp 7,.di),(.tmp 8,.di)]
abbrev PL:Ap:=[(.ret,[(.obj 0,.own 34 U2),(.obj 1,.box 1),(.cell 1 0,.box 4),(.cell 2 0,.di),(.cell 2 1,.dat U3),(.cell 2 2,.map U0 U0),(.cell 2 3,.dat (.mapi .i64 Ug)),(.obj 2,.ptr' 2 0),(.obj 3,.map' 3),(.tmp 4,.di)]),(.exit 0,[(.obj 0,.own 34 U2),(.obj 1,.box 1),(.cell 1 0,.box 4),(.cell 2 0,.di),(.cell 2 1,.dat U3),(.cell 2 2,.map U0 U0),(.cell 2 3,.dat (.mapi .i64 Ug)),(.obj 2,.ptr' 2 0),(.obj 3,.map' 3)])]
def CB[Lk]:Ux→Option (Ux⊕V2⊕V7⊕Unit):=fun(a0,a1,a2,a3,a4,a5,a6,_)=>
 match(ilt a6 a5)with
 |true=>match idx a0 a6 with|none=>none|some x0=>match Kx (a1,a2,a3,a4,((Ab a0 (AN a6) (0,(0,()))).1,((Ab a0 (AN a6) (0,(0,()))).2.1,())),())with|none=>none|some (y1,y2,y3,y4,y5,_)=>match(!y5)with
  |true=>some (.inr (.inl (a0,y1,y2,y3,y4,a6,())))
  |false=>some (.inl (a0,y1,y2,y3,y4,a5,(IntKind.wrap .i64 (a6+1)),()))
 |false=>some (.inr (.inr (.inl (a0,a1,a2,a3,a4,()))))
def HB[Lk]:V7→Option (V2):=fun(a0,a1,a2,a3,a4,_)=>
 match AX CB many (a0,a1,a2,a3,a4,(AK a0),0,())with|none=>none|some r=>match r with
 |.inl (o0,o1,o2,o3,o4,o5,_)=>some (o0,o1,o2,o3,o4,o5,())
 |.inr r=>match r with
 |.inl (o6,o7,o8,o9,o10,_)=>some (o6,o7,o8,o9,o10,(-1:Int),())
 |.inr _=>none
def Lb[Lk]:=fun v=>Lk.f (HB v)
theorem PN v:Lb v=HB v:=AJ _
end
end Go.Pev
end
section
namespace Go.Pev
noncomputable section
attribute [local irreducible] PT Li QX PH AhN AhO AhP UU ACC ZK AGT Lt AY many IntKind.wrap AK BA Ab A2 Bn DP EB AN Bk CJ imax AP Af
abbrev Lr:AE:=[(.tmp 0,.own 34 U2),(.cap 1 0,.box 1),(.cell 1 0,.box 4),(.cell 2 0,.di),(.cell 2 1,.dat U3),(.cell 2 2,.map U0 U0),(.cell 2 3,.dat (.mapi .i64 Ug)),(.tmp 1,.clo 31 [(1,0)])]
abbrev Lq:AE:=[(.obj 0,.own 34 U2),(.obj 1,.box 1),(.cell 1 0,.box 4),(.cell 2 0,.di),(.cell 2 1,.dat U3),(.cell 2 2,.map U0 U0),(.cell 2 3,.dat (.mapi .i64 Ug)),(.obj 2,.ptr' 2 0),(.obj 3,.map' 3),(.tmp 0,.win' 0)]
abbrev Lp:List RS:=[.one]
abbrev PW:AE:=[(.obj 0,.own 34 U2),(.obj 1,.box 1),(.cell 1 0,.box 4),(.cell 2 0,.di),(.cell 2 1,.dat U3),(.cell 2 2,.map U0 U0),(.cell 2 3,.dat (.mapi .i64 Ug)),(.obj 2,.ptr' 2 0),(.obj 3,.map' 3),(.tmp 0,.own' 0),(.tmp 1,.clo 31 [(1,0)]),(.tmp 5,.di),(.tmp 6,.di)]
abbrev PV:Ap:=[(.exit 0,[(.obj 0,.own 34 U2),(.obj 1,.box 1),(.cell 1 0,.box 4),(.cell 2 0,.di),(.cell 2 1,.dat U3),(.cell 2 2,.map U0 U0),(.cell 2 3,.dat (.mapi .i64 Ug)),(.obj 2,.ptr' 2 0),(.obj 3,.map' 3),(.tmp 0,.own' 0),(.tmp 5,.di)])]
def DO[Lk]:Ux→Option (Ux⊕V2⊕Unit):=fun(a0,a1,a2,a3,a4,a5,a6,_)=>
 match(ilt a6 (AK a0))with
 |true=>match idx a0 a6 with|none=>none|some x0=>match Kx (a1,a2,a3,a4,((Ab a0 (AN a6) (0,(0,()))).1,((Ab a0 (AN a6) (0,(0,()))).2.1,())),())with|none=>none|some (y1,y2,y3,y4,y5,_)=>match(!(!y5))with
  |true=>match idx a0 a5 with|none=>none|some x6=>some (.inl ((BA a0 (AN a5) ((Ab a0 (AN a6) (0,(0,()))).1,((Ab a0 (AN a6) (0,(0,()))).2.1,()))),y1,y2,y3,y4,(IntKind.wrap .i64 (a5+1)),(IntKind.wrap .i64 (a6+1)),()))
  |false=>some (.inl (a0,y1,y2,y3,y4,a5,(IntKind.wrap .i64 (a6+1)),()))
 |false=>some (.inr (.inl (a0,a1,a2,a3,a4,a5,())))
def HD[Lk]:V7→Option (V2):=fun(a0,a1,a2,a3,a4,_)=>
 match Lb (a0,a1,a2,a3,a4,())with|none=>none|some (y0,y1,y2,y3,y4,y5,_)=>match(ieq y5 (-1:Int))with
 |true=>some (y0,y1,y2,y3,y4,(AK y0),())
 |false=>match AX DO many (y0,y1,y2,y3,y4,y5,(IntKind.wrap .i64 (y5+1)),())with|none=>none|some r=>match r with
 |.inl (o6,o7,o8,o9,o10,o11,_)=>match CM o6 o11 (AK o6)with|none=>none|some x12=>match CM (Bk (AN o11) (AN (AK x12)) (0,(0,())) o6) 0 o11 with|none=>none|some x13=>some ((Bk (AN o11) (AN (AK x12)) (0,(0,())) o6),o7,o8,o9,o10,(((AN (AK x13)):Nat):Int),())
 |.inr _=>none
def IK[Lk]:=fun v=>Lk.f (HD v)
theorem PX v:IK v=HD v:=AJ _
abbrev AT9:AE:=[(.tmp 0,.dat Un),(.tmp 1,.di),(.tmp 2,.di)]
abbrev AT8:AE:=[(.tmp 0,.own 34 U2),(.tmp 1,.di)]
abbrev AT7:List RS:=[.one,.one]
def ABR[Lk]:V6→Option (Vd):=fun(a0,a1,a2,_)=>
 match seen ((a0.1,(a0.2.1,())),a1,a2,())with|none=>none|some r=>match r with
 |.inl (y0,_)=>match(!(ieq y0 0))with
  |true=>some (([]:List U1),y0,())
  |false=>none
 |.inr r=>match r with
 |.inl (y1,y2,y3,y4,y5,_)=>match(!(ieq y5 0))with
  |true=>some (([]:List U1),y5,())
  |false=>match Hn (y1,y2,y3,y4,())with|none=>none|some (y6,y7,y8,y9,y10,_)=>match AUM (y6,y7,y8,y9,y10,())with|none=>none|some (y11,y12,y13,y14,y15,_)=>match IK (y15,y11,y12,y13,y14,())with|none=>none|some (y16,y17,y18,y19,y20,y21,_)=>some ((Bn (AN y21) y16),0,())
 |.inr _=>none
def AKW[Lk]:=fun v=>Lk.f (ABR v)
theorem AKV v:AKW v=ABR v:=AJ _
abbrev ABQ:AE:=[(.tmp 0,.dat Un),(.tmp 1,.di),(.tmp 2,.di),(.tmp 3,.di)]
abbrev ABP:AE:=[(.tmp 0,.own 34 U2),(.tmp 1,.di)]
abbrev ABO:List RS:=[.one,.one]
def Ms[Lk]:(Um×Int×Int×Int×Unit)→Option (Vd):=fun(a0,a1,a2,a3,_)=>
 match seen ((a0.1,(a0.2.1,())),a1,a2,())with|none=>none|some r=>match r with
 |.inl (y0,_)=>match(!(ieq y0 0))with
  |true=>some (([]:List U1),y0,())
  |false=>none
 |.inr r=>match r with
 |.inl (y1,y2,y3,y4,y5,_)=>match(!(ieq y5 0))with
  |true=>some (([]:List U1),y5,())
  |false=>match Hn (y1,y2,y3,y4,())with|none=>none|some (y6,y7,y8,y9,y10,_)=>match CM y10 0 (imax 0 (CJ a3 (AK y10)))with|none=>none|some x11=>match AUM (y6,y7,y8,y9,(DP 0 (AN (AK x11)) y10),())with|none=>none|some (y12,y13,y14,y15,y16,_)=>some (y16,0,())
 |.inr _=>none
def Mt[Lk]:=fun v=>Lk.f (Ms v)
theorem T3 v:Mt v=Ms v:=AJ _
abbrev Le:AE:=[(.tmp 0,.dat Ug),(.cap 1 0,.box 4),(.cell 0 0,.di),(.cell 0 1,.dat U3),(.cell 0 2,.map U0 U0),(.cell 0 3,.dat (.mapi .i64 Ug)),(.tmp 1,.bndp 32 0)]
abbrev Ld:AE:=[(.obj 0,.box 4),(.cell 0 0,.di),(.cell 0 1,.dat U3),(.cell 0 2,.map U0 U0),(.cell 0 3,.dat (.mapi .i64 Ug)),(.obj 1,.map' 1),(.tmp 0,.di)]
abbrev Lc:List RS:=[.one]
abbrev PQ:AE:=[(.obj 0,.box 4),(.cell 0 0,.di),(.cell 0 1,.dat U3),(.cell 0 2,.map U0 U0),(.cell 0 3,.dat (.mapi .i64 Ug)),(.obj 1,.map' 1),(.tmp 0,.dat Ug),(.tmp 1,.bndp 32 0),(.tmp 7,.di),(.tmp 8,.di)]
abbrev PO:Ap:=[(.ret,[(.obj 0,.box 4),(.cell 0 0,.di),(.cell 0 1,.dat U3),(.cell 0 2,.map U0 U0),(.cell 0 3,.dat (.mapi .i64 Ug)),(.obj 1,.map' 1),(.tmp 4,.di)]),(.exit 0,[(.obj 0,.box 4),(.cell 0 0,.di),(.cell 0 1,.dat U3),(.cell 0 2,.map U0 U0),(.cell 0 3,.dat (.mapi .i64 Ug)),(.obj 1,.map' 1)])]
def Cd[Lk]:(Int×List Int×List Uc×List Ua×List U1×Int×Int×Unit)→Option ((Int×List Int×List Uc×List Ua×List U1×Int×Int×Unit)⊕Uy⊕(Int×List Int×List Uc×List Ua×Unit)⊕Unit):=fun(a0,a1,a2,a3,a4,a5,a6,_)=>
 match(ilt a6 a5)with
 |true=>match idx a4 a6 with|none=>none|some x0=>match Kx (a0,a1,a2,a3,(x0.1,(x0.2.1,())),())with|none=>none|some (y1,y2,y3,y4,y5,_)=>match y5 with
  |true=>some (.inr (.inl (y1,y2,y3,y4,a6,())))
  |false=>some (.inl (y1,y2,y3,y4,a4,a5,(IntKind.wrap .i64 (a6+1)),()))
 |false=>some (.inr (.inr (.inl (a0,a1,a2,a3,()))))
def HC[Lk]:V7→Option (Uy):=fun(a0,a1,a2,a3,a4,_)=>
 match AX Cd many (a1,a2,a3,a4,a0,(AK a0),0,())with|none=>none|some r=>match r with
 |.inl (o0,o1,o2,o3,o4,_)=>some (o0,o1,o2,o3,o4,())
 |.inr r=>match r with
 |.inl (o5,o6,o7,o8,_)=>some (o5,o6,o7,o8,(-1:Int),())
 |.inr _=>none
def IF[Lk]:=fun v=>Lk.f (HC v)
theorem PR v:IF v=HC v:=AJ _
abbrev AKT:AE:=[(.tmp 0,.dat Un),(.tmp 1,.di),(.tmp 2,.di)]
abbrev AKS:AE:=[(.tmp 0,.dat (.prod .bool (.prod U2 U2))),(.tmp 1,.di)]
abbrev AKR:List RS:=[.one,.one]
abbrev AOr:AE:=[(.tmp 6,.box 5),(.cell 0 0,.dat .bool),(.cell 0 1,.di),(.cell 0 2,.di),(.cell 0 3,.di),(.cell 0 4,.di),(.tmp 8,.box 4),(.cell 1 0,.di),(.cell 1 1,.dat U3),(.cell 1 2,.map U0 U0),(.cell 1 3,.dat (.mapi .i64 Ug)),(.tmp 9,.dat U3)]
abbrev AOq:Ap:=[(.exit 0,[(.tmp 6,.box 5),(.cell 0 0,.dat .bool),(.cell 0 1,.di),(.cell 0 2,.di),(.cell 0 3,.di),(.cell 0 4,.di)])]
def GZ[Lk]:Vn→Option (Vn⊕(Bool×Int×Int×Int×Int×Unit)⊕Unit):=fun(a0,a1,a2,a3,a4,a5,a6,a7,a8,a9,_)=>
 match(!a0)with
 |true=>match(ilt a4 (AK a9))with
  |true=>match shl? .i64 1 (IntKind.wrap .u64 a3)with|none=>none|some x0=>match CM a9 0 (CJ (AK a9) x0)with|none=>none|some x1=>match AUM (a5,a6,a7,a8,x1,())with|none=>none|some (y2,y3,y4,y5,y6,_)=>match IF (y6,y2,y3,y4,y5,())with|none=>none|some (y7,y8,y9,y10,y11,_)=>match(ile 0 y11)with
   |true=>match idx y6 y11 with|none=>none|some x12=>some (.inl (true,(Ab y6 (AN y11) (0,(0,()))).1,(Ab y6 (AN y11) (0,(0,()))).2.1,(IntKind.wrap .i64 (a3+1)),(CJ (AK a9) x0),y7,y8,y9,y10,a9,()))
   |false=>some (.inl (a0,a1,a2,(IntKind.wrap .i64 (a3+1)),(CJ (AK a9) x0),y7,y8,y9,y10,a9,()))
  |false=>some (.inr (.inl (a0,a1,a2,a3,a4,())))
 |false=>some (.inr (.inl (a0,a1,a2,a3,a4,())))
def RY[Lk]:V6→Option (((Bool×U1×Int×Int×Unit)×Int×Unit)):=fun(a0,a1,a2,_)=>
 match seen ((a0.1,(a0.2.1,())),a1,a2,())with|none=>none|some r=>match r with
 |.inl (y0,_)=>match(!(ieq y0 0))with
  |true=>some ((false,((0,(0,())),(0,(0,())))),y0,())
  |false=>none
 |.inr r=>match r with
 |.inl (y1,y2,y3,y4,y5,_)=>match(!(ieq y5 0))with
  |true=>some ((false,((0,(0,())),(0,(0,())))),y5,())
  |false=>match Hn (y1,y2,y3,y4,())with|none=>none|some (y6,y7,y8,y9,y10,_)=>match AX GZ many (false,0,0,0,0,y6,y7,y8,y9,y10,())with|none=>none|some r=>match r with
  |.inl (o11,o12,o13,o14,o15,_)=>some ((o11,((o12,(o13,())),(o14,(o15,())))),0,())
  |.inr _=>none
 |.inr _=>none
def Mr[Lk]:=fun v=>Lk.f (RY v)
theorem ABN v:Mr v=RY v:=AJ _
abbrev ABI:AE:=[(.tmp 0,.dat Un),(.tmp 1,.di),(.tmp 2,.di),(.tmp 3,.dat (.slice (.int .u32)))]
abbrev ABH:AE:=[(.tmp 0,.dat V3),(.tmp 1,.dat Ub),(.tmp 2,.di)]
abbrev ABG:List RS:=[.one,.one,.one]
abbrev AHv:AE:=[(.tmp 8,.box 3),(.cell 0 0,.own 3 U0),(.cell 0 1,.own 3 U0),(.cell 0 2,.own 43 U3),(.tmp 11,.box 4),(.cell 4 0,.di),(.cell 4 1,.dat U3),(.cell 4 2,.map U0 U0),(.cell 4 3,.dat (.mapi .i64 Ug)),(.tmp 12,.own 4 .bool),(.tmp 43,.dat U3),(.tmp 44,.di),(.tmp 45,.di)]
abbrev AHu:Ap:=[(.exit 0,[(.tmp 8,.box 3),(.cell 0 0,.own 3 U0),(.cell 0 1,.own 3 U0),(.cell 0 2,.own 43 U3),(.tmp 12,.own 4 .bool)])]
def T2[Lk]:Vh→Option (Vh⊕(List Int×List Int×List U4×List Bool×Unit)⊕Unit):=fun(a0,a1,a2,a3,a4,a5,a6,a7,a8,a9,a10,_)=>
 match(ilt a10 a9)with
 |true=>match idx a8 a10 with|none=>none|some x0=>match Ho (a3,a4,a5,a6,x0,())with|none=>none|some (y1,y2,y3,y4,y5,_)=>match(fits ((AK a7)+(AK ([y5]:List (Bool)))))with
  |true=>some (.inl (a0,a1,a2,y1,y2,y3,y4,(A2 a7 ([y5]:List (Bool))),a8,a9,(IntKind.wrap .i64 (a10+1)),()))
  |false=>none
 |false=>some (.inr (.inl (a0,a1,a2,a7,())))
def ABK[Lk]:(Um×Int×Int×List Int×Unit)→Option ((Vb×List U4×Int×Unit)):=fun(a0,a1,a2,a3,_)=>
 match seen ((a0.1,(a0.2.1,())),a1,a2,())with|none=>none|some r=>match r with
 |.inl (y0,_)=>match(!(ieq y0 0))with
  |true=>some ((([]:List (Int)),(([]:List (Int)),(([]:List U4),()))),([]:List U4),y0,())
  |false=>none
 |.inr r=>match r with
 |.inl (y1,y2,y3,y4,y5,_)=>match(!(ieq y5 0))with
  |true=>some ((([]:List (Int)),(([]:List (Int)),(([]:List U4),()))),([]:List U4),y5,())
  |false=>match OF (y2,a3,())with|none=>none|some (y6,_)=>match RN (y2,y6,())with|none=>none|some (y7,y8,y9,y10,_)=>match AX T2 many (y7,y8,y9,y1,y2,y3,y4,([]:List (Bool)),y2,(AK y2),0,())with|none=>none|some r=>match r with
  |.inl (o11,o12,o13,o14,_)=>match ALP ((o11,(o12,(o13,()))),o14,())with|none=>none|some (y15,y16,_)=>some ((o11,(o12,(o13,()))),y15,y16,())
  |.inr _=>none
 |.inr _=>none
def AKN[Lk]:=fun v=>Lk.f (ABK v)
theorem Aa2 v:AKN v=ABK v:=AJ _
abbrev XH:AE:=[(.tmp 0,.dat Un),(.tmp 1,.di)]
abbrev XG:AE:=[(.tmp 0,.di)]
abbrev XF:List RS:=[.one]
def HY[Lk]:(Um×Int×Unit)→Option (U9):=fun(a0,a1,_)=>
 match E0 ((a0.1,(a0.2.1,())),())with|none=>none|some (y0,_)=>match(!y0)with
 |true=>some (1,())
 |false=>match(ilt a1 0)with
 |true=>some (10,())
 |false=>match(ile a0.1 a1)with
 |true=>some (10,())
 |false=>some (0,())
def D2[Lk]:=fun v=>Lk.f (HY v)
theorem Lv v:D2 v=HY v:=AJ _
abbrev AA9:AE:=[(.tmp 0,.dat Un),(.tmp 1,.di),(.tmp 2,.di)]
abbrev AA8:AE:=[(.tmp 0,.dat U3)]
abbrev AA7:List RS:=[.one]
def RW[Lk]:V6→Option (Up):=fun(a0,a1,a2,_)=>
 match Nb ((a0.1,(a0.2.1,())),a2,())with|none=>none|some (y0,y1,_)=>match Agp ((y0.1,(y0.2.1,())),a1,())with|none=>none|some (y2,_)=>match(ilt y2 0)with
 |true=>some (([]:List (Int)),())
 |false=>match idx y0.2.1 y2 with|none=>none|some x3=>some (x3,())
def Hj[Lk]:=fun v=>Lk.f (RW v)
theorem AHp v:Hj v=RW v:=AJ _
abbrev NJ:AE:=[(.tmp 0,.dat Vm),(.tmp 1,.di)]
abbrev NI:AE:=[(.tmp 0,.dat .bool)]
abbrev NH:List RS:=[.one]
def Iv[Lk]:(U6×Int×Unit)→Option (Uf):=fun(a0,a1,_)=>
 match(!a0.2.2.2.1)with
 |true=>some ((ieq a0.2.2.1 a1),())
 |false=>some (false,())
def HS[Lk]:=fun v=>Lk.f (Iv v)
theorem Rr v:HS v=Iv v:=AJ _
abbrev QI:AE:=[(.tmp 0,.dat Un),(.tmp 1,.di),(.tmp 2,.di)]
abbrev QH:AE:=[(.tmp 0,.dat .bool)]
abbrev QG:List RS:=[.one]
abbrev YX:AE:=[(.tmp 1,.di),(.tmp 2,.di),(.tmp 3,.box 2),(.cell 0 0,.di),(.cell 0 1,.dat U5),(.tmp 7,.di)]
abbrev YW:Ap:=[(.ret,[(.tmp 6,.dat .bool)]),(.exit 0,[])]
def De[Lk]:(Int×Int×Int×List U6×Int×Unit)→Option ((Int×Int×Int×List U6×Int×Unit)⊕Uf⊕(Unit)⊕Unit):=fun(a0,a1,a2,a3,a4,_)=>
 match(ilt a4 (AK a3))with
 |true=>match idx a3 a4 with|none=>none|some x0=>match HS ((x0.1,(x0.2.1,(x0.2.2.1,(x0.2.2.2.1,())))),a1,())with|none=>none|some (y1,_)=>match y1 with
  |true=>match idx a3 a4 with|none=>none|some x2=>match(ieq x2.1 a0)with
   |true=>some (.inr (.inl (true,())))
   |false=>match idx a3 a4 with|none=>none|some x3=>match(ieq x3.2.1 a0)with
   |true=>some (.inr (.inl (true,())))
   |false=>some (.inl (a0,a1,a2,a3,(IntKind.wrap .i64 (a4+1)),()))
  |false=>some (.inl (a0,a1,a2,a3,(IntKind.wrap .i64 (a4+1)),()))
 |false=>some (.inr (.inr (.inl ())))
def LL[Lk]:V6→Option (Uf):=fun(a0,a1,a2,_)=>
 match AX De many (a1,a2,a0.1,a0.2.1,0,())with|none=>none|some r=>match r with
 |.inl (o0,_)=>some (o0,())
 |.inr r=>match r with
 |.inl _=>some (false,())
 |.inr _=>none
def NN[Lk]:=fun v=>Lk.f (LL v)
theorem YY v:NN v=LL v:=AJ _
abbrev Qy:AE:=[(.tmp 0,.dat Un),(.tmp 1,.dat U3),(.tmp 2,.di),(.tmp 3,.di)]
abbrev Qx:AE:=[(.tmp 0,.own 3 U0)]
abbrev Qw:List RS:=[.one]
abbrev Yr:AE:=[(.tmp 1,.dat U3),(.tmp 2,.di),(.tmp 3,.di),(.tmp 4,.box 2),(.cell 0 0,.di),(.cell 0 1,.dat U5),(.tmp 9,.own 3 U0),(.tmp 10,.di)]
abbrev Yq:Ap:=[(.exit 0,[(.tmp 9,.own 3 U0)])]
def Ct[Lk]:(List Int×Int×Int×Int×List U6×List Int×Int×Unit)→Option ((List Int×Int×Int×Int×List U6×List Int×Int×Unit)⊕Up⊕Unit):=fun(a0,a1,a2,a3,a4,a5,a6,_)=>
 match(ilt a6 (AK a0))with
 |true=>match(ilt (AK a5) a2)with
  |true=>match idx a0 a6 with|none=>none|some x0=>match(ilt x0 a3)with
   |true=>match idx a0 a6 with|none=>none|some x1=>match NN ((a3,(a4,())),x1,a1,())with|none=>none|some (y2,_)=>match y2 with
    |true=>match idx a0 a6 with|none=>none|some x3=>match(fits ((AK a5)+(AK ([x3]:List (Int)))))with
     |true=>some (.inl (a0,a1,a2,a3,a4,(A2 a5 ([x3]:List (Int))),(IntKind.wrap .i64 (a6+1)),()))
     |false=>none
    |false=>some (.inl (a0,a1,a2,a3,a4,a5,(IntKind.wrap .i64 (a6+1)),()))
   |false=>some (.inl (a0,a1,a2,a3,a4,a5,(IntKind.wrap .i64 (a6+1)),()))
  |false=>some (.inr (.inl (a5,())))
 |false=>some (.inr (.inl (a5,())))
def L3[Lk]:(Um×List Int×Int×Int×Unit)→Option (Up):=fun(a0,a1,a2,a3,_)=>
 match AX Ct many (a1,a2,a3,a0.1,a0.2.1,([]:List (Int)),0,())with|none=>none|some r=>match r with
 |.inl (o0,_)=>some (o0,())
 |.inr _=>none
def IX[Lk]:=fun v=>Lk.f (L3 v)
theorem Ys v:IX v=L3 v:=AJ _
abbrev AYJ:AE:=[(.tmp 0,.dat Un),(.tmp 1,.dat U3),(.tmp 2,.di)]
abbrev AYI:AE:=[(.tmp 0,.own 34 U2)]
abbrev AYH:List RS:=[.one]
abbrev AaB:AE:=[(.tmp 1,.dat U3),(.tmp 2,.di),(.tmp 3,.box 2),(.cell 0 0,.di),(.cell 0 1,.dat U5),(.tmp 7,.own 34 U2),(.tmp 8,.di)]
abbrev AaA:Ap:=[(.exit 0,[(.tmp 7,.own 34 U2)])]
def Lu[Lk]:(List Int×Int×Int×List U6×List U1×Int×Unit)→Option ((List Int×Int×Int×List U6×List U1×Int×Unit)⊕Uh⊕Unit):=fun(a0,a1,a2,a3,a4,a5,_)=>
 match(ilt a5 (AK a3))with
 |true=>match idx a3 a5 with|none=>none|some x0=>match HS ((x0.1,(x0.2.1,(x0.2.2.1,(x0.2.2.2.1,())))),a1,())with|none=>none|some (y1,_)=>match y1 with
  |true=>match EH (a0,x0.1,())with|none=>none|some (y2,_)=>match(ile 0 y2)with
   |true=>match(fits ((AK a4)+(AK ([(x0.1,(x0.2.1,()))]:List U1))))with
    |true=>some (.inl (a0,a1,a2,a3,(A2 a4 ([(x0.1,(x0.2.1,()))]:List U1)),(IntKind.wrap .i64 (a5+1)),()))
    |false=>none
   |false=>match EH (a0,x0.2.1,())with|none=>none|some (y3,_)=>match(ile 0 y3)with
   |true=>match(fits ((AK a4)+(AK ([(x0.1,(x0.2.1,()))]:List U1))))with
    |true=>some (.inl (a0,a1,a2,a3,(A2 a4 ([(x0.1,(x0.2.1,()))]:List U1)),(IntKind.wrap .i64 (a5+1)),()))
    |false=>none
   |false=>some (.inl (a0,a1,a2,a3,a4,(IntKind.wrap .i64 (a5+1)),()))
  |false=>some (.inl (a0,a1,a2,a3,a4,(IntKind.wrap .i64 (a5+1)),()))
 |false=>some (.inr (.inl (a4,())))
def ANQ[Lk]:(Um×List Int×Int×Unit)→Option (Uh):=fun(a0,a1,a2,_)=>
 match AX Lu many (a1,a2,a0.1,a0.2.1,([]:List U1),0,())with|none=>none|some r=>match r with
 |.inl (o0,_)=>some (o0,())
 |.inr _=>none
def AYL[Lk]:=fun v=>Lk.f (ANQ v)
theorem AaC v:AYL v=ANQ v:=AJ _
abbrev ALl:AE:=[(.tmp 0,.dat Ug),(.tmp 1,.dat U3)]
abbrev ALk:AE:=[(.tmp 0,.own 34 U2)]
abbrev ALj:List RS:=[.one]
abbrev AQ2:AE:=[(.tmp 0,.dat Ug),(.tmp 1,.dat U3),(.tmp 5,.own 34 U2),(.tmp 6,.di)]
abbrev AQ1:Ap:=[(.exit 0,[(.tmp 5,.own 34 U2)])]
def Hz[Lk]:(List U1×List Int×List U1×Int×Unit)→Option ((List U1×List Int×List U1×Int×Unit)⊕Uh⊕Unit):=fun(a0,a1,a2,a3,_)=>
 match(ilt a3 (AK a0))with
 |true=>match idx a0 a3 with|none=>none|some x0=>match EH (a1,x0.1,())with|none=>none|some (y1,_)=>match idx a0 a3 with|none=>none|some x2=>match EH (a1,x2.2.1,())with|none=>none|some (y3,_)=>match(!((ile 0 y1)==(ile 0 y3)))with
  |true=>match idx a0 a3 with|none=>none|some x4=>match(fits ((AK a2)+(AK ([(x4.1,(x4.2.1,()))]:List U1))))with
   |true=>some (.inl (a0,a1,(A2 a2 ([(x4.1,(x4.2.1,()))]:List U1)),(IntKind.wrap .i64 (a3+1)),()))
   |false=>none
  |false=>some (.inl (a0,a1,a2,(IntKind.wrap .i64 (a3+1)),()))
 |false=>some (.inr (.inl (a2,())))
def Z5[Lk]:(List U1×List Int×Unit)→Option (Uh):=fun(a0,a1,_)=>
 match AX Hz many (a0,a1,([]:List U1),0,())with|none=>none|some r=>match r with
 |.inl (o0,_)=>some (o0,())
 |.inr _=>none
def AIZ[Lk]:=fun v=>Lk.f (Z5 v)
theorem AQ3 v:AIZ v=Z5 v:=AJ _
abbrev ANe:AE:=[(.tmp 0,.dat Un),(.tmp 1,.di),(.tmp 2,.di)]
abbrev ANd:AE:=[(.tmp 0,.own 34 U2),(.tmp 1,.di)]
abbrev ANc:List RS:=[.one,.one]
def Sp[Lk]:V6→Option (Vd):=fun(a0,a1,a2,_)=>
 match D2 ((a0.1,(a0.2.1,())),a1,())with|none=>none|some (y0,_)=>match(!(ieq y0 0))with
 |true=>some (([]:List U1),y0,())
 |false=>match Hj ((a0.1,(a0.2.1,())),a1,a2,())with|none=>none|some (y1,_)=>match AYL ((a0.1,(a0.2.1,())),y1,a2,())with|none=>none|some (y2,_)=>match AIZ (y2,y1,())with|none=>none|some (y3,_)=>some (y3,0,())
def AFf[Lk]:=fun v=>Lk.f (Sp v)
theorem AFe v:AFf v=Sp v:=AJ _
abbrev UI:AE:=[(.tmp 0,.dat Un),(.tmp 1,.di),(.tmp 2,.di),(.tmp 3,.di)]
abbrev UH:AE:=[(.tmp 0,.own 34 U2),(.tmp 1,.di)]
abbrev UG:List RS:=[.one,.one]
def KE[Lk]:(Um×Int×Int×Int×Unit)→Option (Vd):=fun(a0,a1,a2,a3,_)=>
 match D2 ((a0.1,(a0.2.1,())),a1,())with|none=>none|some (y0,_)=>match(!(ieq y0 0))with
 |true=>some (([]:List U1),y0,())
 |false=>match Hj ((a0.1,(a0.2.1,())),a1,a2,())with|none=>none|some (y1,_)=>match IX ((a0.1,(a0.2.1,())),y1,a2,a3,())with|none=>none|some (y2,_)=>match AYL ((a0.1,(a0.2.1,())),y2,a2,())with|none=>none|some (y3,_)=>some (y3,0,())
def K0[Lk]:=fun v=>Lk.f (KE v)
theorem P6 v:K0 v=KE v:=AJ _
abbrev ABa:AE:=[(.tmp 0,.dat Un),(.tmp 1,.di),(.tmp 2,.di)]
abbrev ABZ:AE:=[(.tmp 0,.dat (.prod .bool (.prod U2 U2))),(.tmp 1,.di)]
abbrev ABY:List RS:=[.one,.one]
abbrev AH2:AE:=[(.tmp 2,.di),(.tmp 3,.box 2),(.cell 0 0,.di),(.cell 0 1,.dat U5),(.tmp 6,.box 5),(.cell 1 0,.dat .bool),(.cell 1 1,.di),(.cell 1 2,.di),(.cell 1 3,.di),(.cell 1 4,.di),(.tmp 9,.dat U3),(.tmp 10,.di),(.tmp 11,.box 5),(.cell 2 0,.dat .bool),(.cell 2 1,.di),(.cell 2 2,.di),(.cell 2 3,.di),(.cell 2 4,.di),(.tmp 12,.di)]
abbrev AH1:Ap:=[(.exit 0,[(.tmp 6,.box 5),(.cell 0 0,.dat .bool),(.cell 0 1,.di),(.cell 0 2,.di),(.cell 0 3,.di),(.cell 0 4,.di),(.tmp 11,.box 5),(.cell 1 0,.dat .bool),(.cell 1 1,.di),(.cell 1 2,.di),(.cell 1 3,.di),(.cell 1 4,.di)])]
def Ef[Lk]:Vf→Option (Vf⊕(Bool×Int×Int×Int×Int×Bool×Int×Int×Int×Int×Unit)⊕Unit):=fun(a0,a1,a2,a3,a4,a5,a6,a7,a8,a9,a10,a11,a12,a13,a14,a15,_)=>
 match(ilt a14 a9)with
 |true=>match(!a10)with
  |true=>match IX ((a1,(a2,())),a8,a0,a15,())with|none=>none|some (y0,_)=>match AYL ((a1,(a2,())),y0,a0,())with|none=>none|some (y1,_)=>match AIZ (y1,a8,())with|none=>none|some (y2,_)=>match(ilt 0 (AK y2))with
   |true=>match idx y2 0 with|none=>none|some x3=>some (.inl (a0,a1,a2,a3,a4,a5,a6,a7,a8,a9,true,(Ab y2 0 (0,(0,()))).1,(Ab y2 0 (0,(0,()))).2.1,(IntKind.wrap .i64 (a13+1)),(CJ a15 a9),(IntKind.wrap .i64 (2*a15)),()))
   |false=>some (.inl (a0,a1,a2,a3,a4,a5,a6,a7,a8,a9,a10,a11,a12,(IntKind.wrap .i64 (a13+1)),(CJ a15 a9),(IntKind.wrap .i64 (2*a15)),()))
  |false=>some (.inr (.inl (a3,a4,a5,a6,a7,a10,a11,a12,a13,a14,())))
 |false=>some (.inr (.inl (a3,a4,a5,a6,a7,a10,a11,a12,a13,a14,())))
def Mw[Lk]:V6→Option (((Bool×U1×Int×Int×Unit)×Int×Unit)):=fun(a0,a1,a2,_)=>
 match D2 ((a0.1,(a0.2.1,())),a1,())with|none=>none|some (y0,_)=>match(!(ieq y0 0))with
 |true=>some ((false,((0,(0,())),(0,(0,())))),y0,())
 |false=>match Hj ((a0.1,(a0.2.1,())),a1,a2,())with|none=>none|some (y1,_)=>match IX ((a0.1,(a0.2.1,())),y1,a2,(AK y1),())with|none=>none|some (y2,_)=>match AX Ef many (a2,a0.1,a0.2.1,false,0,0,0,0,y1,(AK y2),false,0,0,0,0,1,())with|none=>none|some r=>match r with
 |.inl (o3,o4,o5,o6,o7,o8,o9,o10,o11,o12,_)=>some ((o8,((o9,(o10,())),(o11,(o12,())))),0,())
 |.inr _=>none
def P2[Lk]:=fun v=>Lk.f (Mw v)
theorem UA v:P2 v=Mw v:=AJ _
abbrev XK:AE:=[]
abbrev XJ:AE:=[(.tmp 0,.dat .bool)]
abbrev XI:List RS:=[.one]
def XL[Lk]:(Unit)→Option (Uf):=fun _=>
 match Mr ((5,(([(0,(1,(0,(true,())))),(0,(2,(0,(true,())))),(1,(2,(0,(false,())))),(1,(3,(0,(false,()))))]:List U6),())),2,0,())with|none=>none|some (y0,y1,_)=>match Mr ((5,(([(0,(1,(0,(true,())))),(0,(2,(0,(true,())))),(1,(2,(0,(false,())))),(1,(3,(0,(false,()))))]:List U6),())),3,0,())with|none=>none|some (y2,y3,_)=>match Mr ((5,(([(0,(1,(0,(true,())))),(0,(2,(0,(true,())))),(1,(2,(0,(false,())))),(1,(3,(0,(false,()))))]:List U6),())),4,0,())with|none=>none|some (y4,y5,_)=>match AKW ((5,(([(0,(1,(0,(true,())))),(0,(2,(0,(true,())))),(1,(2,(0,(false,())))),(1,(3,(0,(false,()))))]:List U6),())),0,0,())with|none=>none|some (y6,y7,_)=>match Mt ((5,(([(0,(1,(0,(true,())))),(0,(2,(0,(true,())))),(1,(2,(0,(false,())))),(1,(3,(0,(false,()))))]:List U6),())),0,0,1,())with|none=>none|some (y8,y9,_)=>match AKN ((5,(([(0,(1,(0,(true,())))),(0,(2,(0,(true,())))),(1,(2,(0,(false,())))),(1,(3,(0,(false,()))))]:List U6),())),1,0,([1]:List (Int)),())with|none=>none|some (y10,y11,y12,_)=>match Mr ((5,(([(0,(1,(0,(true,())))),(0,(2,(0,(true,())))),(1,(2,(0,(false,())))),(1,(3,(0,(false,()))))]:List U6),())),5,0,())with|none=>none|some (y13,y14,_)=>match AKW ((0,(([]:List U6),())),0,0,())with|none=>none|some (y15,y16,_)=>match(!(ieq y1 0))with
 |true=>some (false,())
 |false=>match(!(ieq y3 0))with
 |true=>some (false,())
 |false=>match(!(ieq y5 0))with
 |true=>some (false,())
 |false=>match(!(ieq y7 0))with
 |true=>some (false,())
 |false=>match(!(ieq y9 0))with
 |true=>some (false,())
 |false=>match(!(ieq y12 0))with
 |true=>some (false,())
 |false=>match(!(ieq y14 10))with
 |true=>some (false,())
 |false=>match(!(ieq y16 1))with
 |true=>some (false,())
 |false=>match(!(ieq (AK y11) 7))with
 |true=>some (false,())
 |false=>match((y0.1==true)&&(ieq y0.2.1.1 1&&(ieq y0.2.1.2.1 3&&(ieq y0.2.2.1 2&&(ieq y0.2.2.2.1 2&&true)))))with
 |true=>match((y2.1==true)&&(ieq y2.2.1.1 1&&(ieq y2.2.1.2.1 3&&(ieq y2.2.2.1 1&&(ieq y2.2.2.2.1 1&&true)))))with
  |true=>match((y4.1==false)&&(ieq y4.2.1.1 0&&(ieq y4.2.1.2.1 0&&(ieq y4.2.2.1 0&&(ieq y4.2.2.2.1 0&&true)))))with
   |true=>match M0 (y6,([(1,(3,()))]:List U1),())with|none=>none|some (y17,_)=>match y17 with
    |true=>match M0 (y8,([(1,(2,()))]:List U1),())with|none=>none|some (y18,_)=>match y18 with
     |true=>match LV (y10.1,([0,7,2,15,6,1,10]:List (Int)),())with|none=>none|some (y19,_)=>match y19 with
      |true=>match idx y11 2 with|none=>none|some x20=>match LV (x20,([1]:List (Int)),())with|none=>none|some (y21,_)=>match y21 with
       |true=>match idx y11 5 with|none=>none|some x22=>match LV (x22,([1]:List (Int)),())with|none=>none|some (y23,_)=>match y23 with
        |true=>match idx y11 0 with|none=>none|some x24=>match LV (x24,([0]:List (Int)),())with|none=>none|some (y25,_)=>some (y25,())
        |false=>some (false,())
       |false=>some (false,())
      |false=>some (false,())
     |false=>some (false,())
    |false=>some (false,())
   |false=>some (false,())
  |false=>some (false,())
 |false=>some (false,())
def JK[Lk]:=fun v=>Lk.f (XL v)
theorem AYP v:JK v=XL v:=AJ _
abbrev Wh:AE:=[(.tmp 0,.dat Un)]
abbrev Wg:AE:=[(.tmp 0,.dat .bool)]
abbrev Wf:List RS:=[.one]
def Oh[Lk]:(Um×Unit)→Option (Uf):=fun(a0,_)=>
 match(ilt 30 (AK a0.2.1))with
 |true=>some (true,())
 |false=>some ((ilt 12 a0.1),())
def Oi[Lk]:=fun v=>Lk.f (Oh v)
theorem AER v:Oi v=Oh v:=AJ _
abbrev JZ:AE:=[(.tmp 0,.dat Un),(.tmp 1,.dat (.arr 3 U0))]
abbrev JY:AE:=[(.tmp 0,.dat .bool)]
abbrev JX:List RS:=[.one]
def GH[Lk]:(Um×List Int×Unit)→Option (Uf):=fun(a0,a1,_)=>
 match JK ()with|none=>none|some (y0,_)=>match(!y0)with
 |true=>some (false,())
 |false=>match Oi ((a0.1,(a0.2.1,())),())with|none=>none|some (y1,_)=>match y1 with
 |true=>some (true,())
 |false=>match AKW ((a0.1,(a0.2.1,())),(Ab a1 0 0),(Ab a1 1 0),())with|none=>none|some (y2,y3,_)=>match AFf ((a0.1,(a0.2.1,())),(Ab a1 0 0),(Ab a1 1 0),())with|none=>none|some (y4,y5,_)=>match Mt ((a0.1,(a0.2.1,())),(Ab a1 0 0),(Ab a1 1 0),(Ab a1 2 0),())with|none=>none|some (y6,y7,_)=>match K0 ((a0.1,(a0.2.1,())),(Ab a1 0 0),(Ab a1 1 0),(Ab a1 2 0),())with|none=>none|some (y8,y9,_)=>match Mr ((a0.1,(a0.2.1,())),(Ab a1 0 0),(Ab a1 1 0),())with|none=>none|some (y10,y11,_)=>match P2 ((a0.1,(a0.2.1,())),(Ab a1 0 0),(Ab a1 1 0),())with|none=>none|some (y12,y13,_)=>match M0 (y2,y4,())with|none=>none|some (y14,_)=>match y14 with
 |true=>match(ieq y3 y5)with
  |true=>match M0 (y6,y8,())with|none=>none|some (y15,_)=>match y15 with
   |true=>match(ieq y7 y9)with
    |true=>match((y10.1==y12.1)&&(ieq y10.2.1.1 y12.2.1.1&&(ieq y10.2.1.2.1 y12.2.1.2.1&&(ieq y10.2.2.1 y12.2.2.1&&(ieq y10.2.2.2.1 y12.2.2.2.1&&true)))))with
     |true=>some ((ieq y11 y13),())
     |false=>some (false,())
    |false=>some (false,())
   |false=>some (false,())
  |false=>some (false,())
 |false=>some (false,())
def Ee[Lk]:=fun v=>Lk.f (GH v)
theorem Mv v:Ee v=GH v:=AJ _
end
end Go.Pev
end
section
namespace Go.Pev
noncomputable section
attribute [local irreducible] PT Li QX PH AhN AhO AhP UU ACC ZK AGT Lt AY many IntKind.wrap AK BA Ab A2 Bn DP EB AN Bk CJ imax AP Af
end
end Go.Pev
end
section

end
section
namespace Go.Pev.Pl
theorem Aj{n:Int}(h:-9223372036854775808≤n∧n≤9223372036854775807):IntKind.wrap .i64 n=n:=IntWalk.i64_in n h
section
variable {α:Type} [Inhabited α]
theorem A6{d:Array α}{n:Nat}(h:n<d.size):idx d.toList (n:Int)=some d[n]! := by
 rw[idx_eq,QX,Amh (by omega)]
 simp[h]
theorem BZ{d:Array α}{n:Nat}{z:α}(h:n<d.size):Ab d.toList (AN (n:Int)) z=d[n]! := by
 simp[Ab,AN,h]
theorem JE{d:Array α}{n:Nat}{x:α}:BA d.toList (AN (n:Int)) x=(d.setIfInBounds n x).toList:=by
 simp[BA,AN]
theorem AZ6{d:Array α}:AK d.toList=(d.size:Int):=by simp[AK]
theorem KA(d:Array α)(i j:Nat):(d.setIfInBounds i d[j]!).setIfInBounds j d[i]! = Go.Sort.swp d i j:=rfl
theorem size_swp(d:Array α)(i j:Nat):(Go.Sort.swp d i j).size=d.size:=by simp[Go.Sort.swp]
end
theorem AR(a b:Nat):ilt (a:Int) (b:Int)=decide (a<b):=by rw[Ah];simp
theorem GN(a b:Nat):ile (a:Int) (b:Int)=decide (a≤b):=by rw[A0];simp
theorem AZq(a b:Nat):ieq (a:Int) (b:Int)=decide (a=b):=by
 rw[B4]
 by_cases h:a=b
 ·simp[h]
 ·simp[h];omega
section
theorem wrap_add{a b:Nat}(h:a+b<9223372036854775808):IntKind.wrap .i64 ((a:Int)+(b:Int))=((a+b:Nat):Int):=by rw[Aj (by omega)];omega
theorem AS{a:Nat}(h:a+1<9223372036854775808):IntKind.wrap .i64 ((a:Int)+1)=((a+1:Nat):Int):=by rw[Aj (by omega)];omega
theorem AHV{a:Nat}(h:2*a<9223372036854775808):IntKind.wrap .i64 ((2:Int)*(a:Int))=((2*a:Nat):Int):=by rw[Aj (by omega)];omega
theorem AaQ{a:Nat}(h:a<9223372036854775808):IntKind.wrap .i64 ((a:Int)*1)=((a*1:Nat):Int):=by rw[Aj (by omega)];omega
theorem OE{a:Nat}(h:a*2<9223372036854775808):IntKind.wrap .i64 ((a:Int)*2)=((a*2:Nat):Int):=by rw[Aj (by omega)];omega
theorem AaP{a:Nat}(h:a*3<9223372036854775808):IntKind.wrap .i64 ((a:Int)*3)=((a*3:Nat):Int):=by rw[Aj (by omega)];omega
theorem D9{a b:Nat}(h:b≤a∧a<9223372036854775808):IntKind.wrap .i64 ((a:Int)-(b:Int))=((a-b:Nat):Int):=by rw[Aj (by omega)];omega
theorem BJ{a:Nat}(h:1≤a∧a<9223372036854775808):IntKind.wrap .i64 ((a:Int)-1)=((a-1:Nat):Int):=by rw[Aj (by omega)];omega
theorem Al4{a:Nat}(h:a<9223372036854775808):quo? .i64 (a:Int) 2=some ((a/2:Nat):Int):=by
 rw[UT,UU,Amh (by omega),AoT (by omega),Aj (by omega)];rfl
theorem AZD{a:Nat}(h:a<9223372036854775808):quo? .i64 (a:Int) 4=some ((a/4:Nat):Int):=by
 rw[UT,UU,Amh (by omega),AoT (by omega),Aj (by omega)];rfl
theorem Al3{a:Nat}(h:a<9223372036854775808):quo? .i64 (a:Int) 8=some ((a/8:Nat):Int):=by
 rw[UT,UU,Amh (by omega),AoT (by omega),Aj (by omega)];rfl
end
end Go.Pev.Pl
end
section
namespace Go.Pev.Pl
section
variable {α:Type}
theorem DT{xs:List α}{n:Nat}(z:α)(h:n<xs.length):idx xs (n:Int)=some (xs.getD n z):=by
 rw[idx_eq,QX,Amh (by omega)]
 simp[h]
theorem AMU(xs:List α)(n:Nat):idx xs (n:Int)=xs[n]? := by
 rw[idx_eq,QX,Amh (by omega)]
 simp
theorem E6(xs:List α):idx xs (0:Int)=xs.head? := by
 rw[idx_eq,QX,Amh (by omega)]
 cases xs<;>rfl
theorem Fv(xs:List α)(n:Nat)(z:α):Ab xs (AN (n:Int)) z=xs.getD n z:=by simp[Ab,AN]
theorem AMw(xs:List α)(n:Nat)(x:α):BA xs (AN (n:Int)) x=xs.set n x:=by simp[BA,AN]
theorem AM(xs:List α):AK xs=(xs.length:Int):=rfl
theorem IJ(n:Nat):AN (n:Int)=n:=by simp[AN]
theorem C9(xs ys:List α):A2 xs ys=xs++ys:=rfl
theorem AKL{xs:List α}{l h:Nat}(h1:l≤h)(h2:h≤xs.length):CM xs (l:Int) (h:Int)=some ((xs.take h).drop l):=by
 rw[Zz,PH,Amk (by omega)]
 simp
end
theorem BY{n:Int}(h:n≤4294967296):fits n=true:=(FE n).2 h
theorem AX0{α:Type}{xs:List α}(h:xs.length≤4294967296):Qs xs=some xs:=by
 rw[AI8,Lt,(Wk _).2 (by rw[AM];omega)]
theorem AEF{α β:Type}(xs:List α)(ys:List β):ieq (AK xs) (AK ys)=decide (xs.length=ys.length):=by rw[AM,AM,AZq]
theorem Ar(a b:Int):ieq a b=decide (a=b):=by
 rw[B4]
 by_cases h:a=b<;>simp[h]
def walk{α β ρ:Type}(f:β→α→α⊕ρ)(fin:α→ρ):List β→α→ρ
 |[],a=>fin a
 |x::xs,a=>match f x a with
  |.inl a=>walk f fin xs a
  |.inr r=>r
theorem AaS{σ ρ α β:Type}{step:σ→Option (σ⊕ρ)}(st:Nat→α→σ)(xs:List β)(f:β→α→α⊕ρ)(fin:α→ρ)(I:Nat→α→Prop)
  (h:∀ i x a,i<xs.length→xs[i]? = some x→I i a→(∀ a',f x a = .inl a'→step (st i a)=some (.inl (st (i+1) a'))∧I (i+1) a')∧(∀ r,f x a = .inr r→step (st i a)=some (.inr r)))
  (hN:∀ a,I xs.length a→step (st xs.length a)=some (.inr (fin a))) :
  ∀ (m i n:Nat) (a:α),xs.length-i=m→i≤xs.length→m<n→I i a→AY step n (st i a)=some (walk f fin (xs.drop i) a):=by
 intro m
 induction m with
 |zero=>
  intro i n a hk hi hn hI
  obtain⟨n,rfl⟩:∃ k,n=k+1:=⟨n-1,by omega⟩
  have e:i=xs.length:=by omega
  subst e
  rw[AY,hN a hI,List.drop_length]
  rfl
 |succ m ih=>
  intro i n a hk hi hn hI
  obtain⟨n,rfl⟩:∃ k,n=k+1:=⟨n-1,by omega⟩
  have hi':i<xs.length:=by omega
  obtain⟨g1,g2⟩:=h i xs[i] a hi' (by simp[hi']) hI
  rw[AnN hi',walk,AY]
  cases hf:f xs[i] a with
  |inl a'=>
   obtain⟨e,hI'⟩:=g1 a' hf
   rw[e]
   exact ih (i+1) n a' (by omega) (by omega) (by omega) hI'
  |inr r=>rw[g2 r hf]
theorem DQ{σ ρ α β:Type}{step:σ→Option (σ⊕ρ)}(st:Nat→α→σ)(xs:List β)(f:β→α→α⊕ρ)(fin:α→ρ)(I:Nat→α→Prop)(hs:xs.length<9223372036854775808)
  (h:∀ i x a,i<xs.length→xs[i]? = some x→I i a→(∀ a',f x a = .inl a'→step (st i a)=some (.inl (st (i+1) a'))∧I (i+1) a')∧(∀ r,f x a = .inr r→step (st i a)=some (.inr r)))
  (hN:∀ a,I xs.length a→step (st xs.length a)=some (.inr (fin a))) (a:α) (h0:I 0 a):AX step many (st 0 a)=some (walk f fin xs a):=by
 have hm:9223372036854775808<many:=by simp only[many];omega
 rw[As,AaS st xs f fin I h hN xs.length 0 many a (by omega) (by omega) (by omega) h0]
 rfl
theorem Lj{α:Type}{xs ys:List α}(z:α)(hl:xs.length=ys.length)(h:∀ j,j<xs.length→xs.getD j z=ys.getD j z):xs=ys:=by
 apply ApZ hl
 intro i h1 h2
 have:=h i h1
 simpa [h1,h2]using this
theorem YU{α:Type}{xs ys:List α}(z:α){j:Nat}(h:xs.getD j z≠ys.getD j z):xs≠ys:=fun e=>h (by rw[e])
theorem AbP{σ ρ:Type}{step:σ→Option (σ⊕ρ)}(st:Nat→σ)(N:Nat)(P:Nat→Bool)(rt:Nat→ρ)(rf:ρ)
  (h:∀ i,i<N→step (st i)=if P i then some (.inr (rt i))else some (.inl (st (i+1)))) (hN:step (st N)=some (.inr rf)) :
  ∀ (m i n:Nat),N-i=m→i≤N→m<n→(∃ k,i≤k∧k<N∧P k=true∧(∀ j,i≤j→j<k→P j=false)∧AY step n (st i)=some (rt k))∨((∀ j,i≤j→j<N→P j=false)∧AY step n (st i)=some rf):=by
 intro m
 induction m with
 |zero=>
  intro i n hk hi hn
  obtain⟨n,rfl⟩:∃ k,n=k+1:=⟨n-1,by omega⟩
  have e:i=N:=by omega
  subst e
  exact .inr ⟨fun j h1 h2=>by omega,by rw[AY,hN]⟩
 |succ m ih=>
  intro i n hk hi hn
  obtain⟨n,rfl⟩:∃ k,n=k+1:=⟨n-1,by omega⟩
  have hi':i<N:=by omega
  cases hP:P i
  ·have e:AY step (n+1) (st i)=AY step n (st (i+1)):=by rw[AY,h i hi',hP];rfl
   rw[e]
   rcases ih (i+1) n (by omega) (by omega) (by omega)with⟨k,h1,h2,h3,h4,h5⟩|⟨h1,h2⟩
   ·refine .inl ⟨k,by omega,h2,h3,fun j a1 a2 => ?_,h5⟩
    by_cases ej:j=i
    ·subst ej;exact hP
    ·exact h4 j (by omega) a2
   ·refine .inr ⟨fun j a1 a2 => ?_,h2⟩
    by_cases ej:j=i
    ·subst ej;exact hP
    ·exact h1 j (by omega) a2
  ·exact .inl ⟨i,Amd _,hi',hP,fun j a1 a2=>by omega,by rw[AY,h i hi',hP];rfl⟩
theorem APD{σ ρ:Type}{step:σ→Option (σ⊕ρ)}(st:Nat→σ)(N:Nat)(P:Nat→Bool)(rt:Nat→ρ)(rf:ρ)(hs:N<9223372036854775808)
  (h:∀ i,i<N→step (st i)=if P i then some (.inr (rt i))else some (.inl (st (i+1)))) (hN:step (st N)=some (.inr rf)) :
  (∃ k,k<N∧P k=true∧(∀ j,j<k→P j=false)∧AX step many (st 0)=some (rt k))∨((∀ j,j<N→P j=false)∧AX step many (st 0)=some rf):=by
 have hm:9223372036854775808<many:=by simp only[many];omega
 rw[As]
 rcases AbP st N P rt rf h hN N 0 many rfl (by omega) (by omega)with⟨k,h1,h2,h3,h4,h5⟩|⟨h1,h2⟩
 ·exact .inl ⟨k,h2,h3,fun j a=>h4 j (by omega) a,h5⟩
 ·exact .inr ⟨fun j a=>h1 j (by omega) a,h2⟩
end Go.Pev.Pl
end
section
namespace Go.Pev.Pl
inductive Tok where
 |ver (v:Int)
 |arc (u v:Int)
 deriving DecidableEq
namespace Tok
def st:Tok→Int
 |.ver v=>v
 |.arc _ v=>v
def step(s:List Int×List Int):Tok→Option (List Int×List Int)
 |.ver v=>match s.1 with
  |w::_=>if w=v then some s else none
  |[]=>none
 |.arc u v=>match s.1 with
  |w::r=>if w=u then match r with
    |p::r'=>if p=v then some (p::r',s.2)else if v∈s.2 then none else some (v::w::r,v::s.2)
    |[]=>if v∈s.2 then none else some (v::w::r,v::s.2)
   else none
  |[]=>none
def run:List Int×List Int→List Tok→Option (List Int×List Int)
 |s,[]=>some s
 |s,t::l=>match step s t with
  |some s=>run s l
  |none=>none
theorem DZ(s:List Int×List Int)(a b:List Tok):run s (a++b)=(run s a).bind fun s=>run s b:=by
 induction a generalizing s with
 |nil=>rfl
 |cons t a ih=>
  simp only[Amy,run]
  cases step s t with
  |none=>rfl
  |some s=>exact ih s
theorem B1{s s':List Int×List Int}{t:Tok}(h:step s t=some s'):
  (∃ v r,t = .ver v∧s.1=v::r∧s'=s) ∨
  (∃ u v r,t = .arc u v∧s.1=u::v::r∧s'=(v::r,s.2)) ∨
  (∃ u v r,t = .arc u v∧s.1=u::r∧r.head?≠some v∧v∉s.2∧s'=(v::u::r,v::s.2)):=by
 obtain⟨way,c⟩:=s
 cases t with
 |ver v=>
  cases way with
  |nil=>simp[step]at h
  |cons w r=>
   simp only[step]at h
   split at h
   ·rename_i e;cases h;exact .inl ⟨v,r,rfl,by simp[e],rfl⟩
   ·cases h
 |arc u v=>
  cases way with
  |nil=>simp[step]at h
  |cons w r=>
   simp only[step]at h
   split at h
   ·rename_i e
    subst e
    cases r with
    |nil=>
     simp only at h
     split at h
     ·cases h
     ·rename_i hc;cases h;exact .inr (.inr ⟨w,v,[],rfl,rfl,by simp,hc,rfl⟩)
    |cons p r=>
     simp only at h
     split at h
     ·rename_i e;subst e;cases h;exact .inr (.inl ⟨w,p,r,rfl,rfl,rfl⟩)
     ·split at h
      ·cases h
      ·rename_i e hc;cases h;exact .inr (.inr ⟨w,v,p::r,rfl,rfl,by simpa using e,hc,rfl⟩)
   ·cases h
theorem DY(v:Int)(r c:List Int):step (v::r,c) (.ver v)=some (v::r,c):=by simp[step]
theorem GY(u v:Int)(r c:List Int):step (u::v::r,c) (.arc u v)=some (v::r,c):=by simp[step]
theorem FV(u v:Int)(r c:List Int)(h1:r.head?≠some v)(h2:v∉c):step (u::r,c) (.arc u v)=some (v::u::r,v::c):=by
 cases r with
 |nil=>simp[step,h2]
 |cons p r=>
  have:p≠v:=by simpa using h1
  simp[step,h2,this]
def Inv(s:List Int×List Int):Prop:=s.1.Nodup∧(∀ x∈s.1,x∈s.2)
theorem ABL{s s':List Int×List Int}{t:Tok}(h:step s t=some s')(hi:Inv s):Inv s'∧(∀ x∈s.2,x∈s'.2)∧s'.1.head? = some t.st:=by
 obtain⟨way,c⟩:=s
 obtain⟨h1,h2⟩:=hi
 rcases B1 h with⟨v,r,rfl,hw,rfl⟩|⟨u,v,r,rfl,hw,rfl⟩|⟨u,v,r,rfl,hw,_,hn,rfl⟩
 ·exact⟨⟨h1,h2⟩,fun x hx=>hx,by rw[hw];rfl⟩
 ·simp only at hw h1 h2
  subst hw
  refine⟨⟨?_,?_⟩,fun x hx=>hx,rfl⟩
  ·exact(Am3.1 h1).2
  ·intro x hx;exact h2 x (by simp only at hx;simp[Ama.1 hx])
 ·simp only at hw h1 h2 hn
  subst hw
  refine⟨⟨?_,?_⟩,fun x hx=>by simp[hx],rfl⟩
  ·exact Am3.2 ⟨fun hm=>hn (h2 _ hm),h1⟩
  ·intro x hx
   rcases Ama.1 hx with rfl|hx
   ·simp
   ·exact Amt _ (h2 x hx)
theorem It{l:List Tok}:∀ {s s':List Int×List Int},run s l=some s'→Inv s→Inv s'∧(∀ x∈s.2,x∈s'.2)∧∀ t,l.getLast? = some t→s'.1.head? = some t.st:=by
 induction l with
 |nil=>intro s s' h hi;cases h;exact⟨hi,fun x hx=>hx,fun t ht=>by simp at ht⟩
 |cons t l ih=>
  intro s s' h hi
  simp only[run]at h
  split at h
  ·rename_i s1 h1
   obtain⟨q1,q2,q3⟩:=ABL h1 hi
   obtain⟨p1,p2,p3⟩:=ih h q1
   refine⟨p1,fun x hx=>p2 x (q2 x hx),fun t' ht' => ?_⟩
   cases l with
   |nil=>simp at ht';subst ht';simp only[run]at h;cases h;exact q3
   |cons y l=>exact p3 t' (by rw[ApN]at ht';exact ht')
  ·cases h
theorem HP{Z:Int→Prop}:∀ {l:List Tok} {way way' c d c2 low:List Int},run (way,c) l=some (way',d)→way≠[]→(∀ x,x∈c2↔x∈c∨Z x) →
  (∀ u v,.arc u v∈l→¬ Z v)→(∀ y∈low,Z y)→∃ d2,run (way++low,c2) l=some (way'++low,d2)∧(∀ x,x∈d2↔x∈d∨Z x):=by
 intro l
 induction l with
 |nil=>intro way way' c d c2 low h _ hc _ _;cases h;exact⟨c2,rfl,hc⟩
 |cons t l ih=>
  intro way way' c d c2 low h hne hc hz hl
  simp only[run]at h
  split at h
  ·rename_i s1 h1
   have hz':∀ u v,Tok.arc u v∈l→¬ Z v:=fun u v hm=>hz u v (Amt _ hm)
   rcases B1 h1 with⟨v,r,rfl,hw,rfl⟩|⟨u,v,r,rfl,hw,rfl⟩|⟨u,v,r,rfl,hw,hh,hn,rfl⟩
   ·simp only at hw
    subst hw
    obtain⟨d2,e1,e2⟩:=ih h hne hc hz' hl
    exact⟨d2,by simp only[run,Amy,DY];exact e1,e2⟩
   ·simp only at hw
    subst hw
    obtain⟨d2,e1,e2⟩:=ih h (by simp) hc hz' hl
    exact⟨d2,by simp only[run,Amy,GY];exact e1,e2⟩
   ·simp only at hw hn
    subst hw
    have hzv:=hz u v (by simp)
    have hn2:v∉c2:=by rw[hc];rintro (h|h);exact hn h;exact hzv h
    have hh2:(r++low).head?≠some v:=by
     cases r with
     |nil=>
      cases low with
      |nil=>simp
      |cons y low=>
       simp only[Am5,List.head?_cons,ne_eq,AmT]
       rintro rfl
       exact hzv (hl _ (by simp))
     |cons p r=>simpa using hh
    obtain⟨d2,e1,e2⟩:=ih (c2:=v::c2) h (by simp) (by intro x;simp only[Ama,hc,or_assoc]) hz' hl
    exact⟨d2,by simp only[run,Amy,FV _ _ _ _ hh2 hn2];exact e1,e2⟩
  ·cases h
theorem ABn{z:Int}:∀ {l:List Tok} {way way' c2 d2 c:List Int},run (way,c2) l=some (way',d2)→z∉way→(∀ x,x∈c2↔x∈c∨x=z)→z∉c →
  .ver z∉l∧∃ d,run (way,c) l=some (way',d)∧(∀ x,x∈d2↔x∈d∨x=z)∧z∉d:=by
 intro l
 induction l with
 |nil=>intro way way' c2 d2 c h _ hc hz;cases h;exact⟨by simp,c,rfl,hc,hz⟩
 |cons t l ih=>
  intro way way' c2 d2 c h hzw hc hz
  simp only[run]at h
  split at h
  ·rename_i s1 h1
   rcases B1 h1 with⟨v,r,rfl,hw,rfl⟩|⟨u,v,r,rfl,hw,rfl⟩|⟨u,v,r,rfl,hw,hh,hn,rfl⟩
   ·simp only at hw
    subst hw
    obtain⟨e0,d,e1,e2,e3⟩:=ih h hzw hc hz
    refine⟨?_,d,by simp only[run,DY];exact e1,e2,e3⟩
    rintro hm
    rcases Ama.1 hm with hm|hm
    ·cases hm;exact hzw (by simp)
    ·exact e0 hm
   ·simp only at hw
    subst hw
    obtain⟨e0,d,e1,e2,e3⟩:=ih h (fun hm=>hzw (Amt _ hm)) hc hz
    refine⟨?_,d,by simp only[run,GY];exact e1,e2,e3⟩
    rintro hm
    rcases Ama.1 hm with hm|hm
    ·cases hm
    ·exact e0 hm
   ·simp only at hw hn
    subst hw
    have hvz:v≠z:=by rintro rfl;exact hn ((hc v).2 (.inr rfl))
    have hn':v∉c:=fun hm=>hn ((hc v).2 (.inl hm))
    obtain⟨e0,d,e1,e2,e3⟩:=ih (c:=v::c) h (by intro hm;rcases Ama.1 hm with hm|hm;exact hvz hm.symm;exact hzw hm)
     (by intro x;simp only[Ama,hc,or_assoc])
     (by intro hm;rcases Ama.1 hm with hm|hm;exact hvz hm.symm;exact hz hm)
    refine⟨?_,d,by simp only[run,FV _ _ _ _ hh hn'];exact e1,e2,e3⟩
    rintro hm
    rcases Ama.1 hm with hm|hm
    ·cases hm
    ·exact e0 hm
  ·cases h
def Rot(a b:List Tok):Prop:=∃ x y,a=x++y∧b=y++x
theorem Rot.refl(a:List Tok):Rot a a:=⟨[],a,rfl,by simp⟩
theorem Rot.symm{a b:List Tok}(h:Rot a b):Rot b a:=by obtain⟨x,y,h1,h2⟩:=h;exact⟨y,x,h2,h1⟩
theorem Rot.trans{a b c:List Tok}(h:Rot a b)(g:Rot b c):Rot a c:=by
 obtain⟨x,y,rfl,h2⟩:=h
 obtain⟨z,w,h3,rfl⟩:=g
 rw[h2]at h3
 rcases List.append_eq_append_iff.1 h3 with⟨k,h4,h5⟩|⟨k,h4,h5⟩
 ·subst h4 h5
  exact⟨k,w++y,by simp,by simp⟩
 ·subst h4 h5
  exact⟨x++z,k,by simp,by simp⟩
theorem Rot.perm{a b:List Tok}(h:Rot a b):a.Perm b:=by
 obtain⟨x,y,rfl,rfl⟩:=h
 exact AoD
theorem Rot.mem{a b:List Tok}(h:Rot a b)(t:Tok):t∈a↔t∈b:=h.perm.mem_iff
theorem Rot.nodup{a b:List Tok}(h:Rot a b):a.Nodup↔b.Nodup:=h.perm.nodup_iff
theorem Rot.length{a b:List Tok}(h:Rot a b):a.length=b.length:=h.perm.length_eq
inductive T:List Tok→Prop
 |one (v:Int):T [.ver v]
 |add (x:Tok) (l:List Tok) (v:Int):T (x::l)→x.st≠v→.ver v∉x::l→T (x :: .arc x.st v :: .ver v :: .arc v x.st::l)
 |rot (a b:List Tok):T (a++b)→T (b++a)
theorem T.AV9{a b:List Tok}(h:T a)(r:Rot a b):T b:=by obtain⟨x,y,rfl,rfl⟩:=r;exact T.rot x y h
theorem T.facts{l:List Tok}(h:T l):l≠[]∧(∀ t∈l,.ver t.st∈l)∧(∀ u v,.arc u v∈l→.ver u∈l∧.ver v∈l∧.arc v u∈l∧u≠v):=by
 induction h with
 |one v=>exact⟨by simp,by simp[st],by simp⟩
 |add x l v h hne hv ih=>
  obtain⟨_,i2,i3⟩:=ih
  have hsub:∀ t,t∈x::l→t∈x::Tok.arc x.st v :: .ver v :: .arc v x.st::l:=by
   intro t ht
   rcases Ama.1 ht with rfl|ht
   ·simp
   ·simp[ht]
  have hx:=hsub _ (i2 x (by simp))
  have cases3:∀ t,t∈x::Tok.arc x.st v :: .ver v :: .arc v x.st::l→t∈x::l∨t = .arc x.st v∨t = .ver v∨t = .arc v x.st:=by
   intro t ht
   simp only[Ama]at ht ⊢
   rcases ht with h|h|h|h|h<;>simp[h]
  refine⟨by simp,fun t ht => ?_,fun a b hab => ?_⟩
  ·rcases cases3 t ht with h|rfl|rfl|rfl
   ·exact hsub _ (i2 t h)
   ·simp[st]
   ·simp[st]
   ·exact hx
  ·rcases cases3 _ hab with h|h|h|h
   ·obtain⟨p1,p2,p3,p4⟩:=i3 a b h
    exact⟨hsub _ p1,hsub _ p2,hsub _ p3,p4⟩
   ·cases h;exact⟨hx,by simp,by simp,hne⟩
   ·cases h
   ·cases h;exact⟨by simp,hx,by simp,Am8 hne⟩
 |rot a b h ih=>
  obtain⟨i1,i2,i3⟩:=ih
  have hm:∀ t,t∈a++b↔t∈b++a:=fun t=>List.perm_append_comm.mem_iff
  refine⟨by intro e;simp only[List.append_eq_nil_iff]at e;exact i1 (by simp[e.1,e.2]),fun t ht=>(hm _).1 (i2 t ((hm _).2 ht)),fun u v huv => ?_⟩
  obtain⟨p1,p2,p3,p4⟩:=i3 u v ((hm _).2 huv)
  exact⟨(hm _).1 p1,(hm _).1 p2,(hm _).1 p3,p4⟩
theorem T.nodup{l:List Tok}(h:T l):l.Nodup:=by
 induction h with
 |one v=>simp
 |add x l v h hne hv ih=>
  obtain⟨_,_,f3⟩:=h.facts
  have h1:Tok.arc x.st v∉x::l:=fun hm=>hv (f3 _ _ hm).2.1
  have h2:Tok.arc v x.st∉x::l:=fun hm=>hv (f3 _ _ hm).1
  simp only[Ama,not_or]at h1 h2 hv
  have ih':=Am3.1 ih
  simp only[Am3,Ama,not_or]
  refine⟨⟨fun e=>h1.1 e.symm,fun e=>hv.1 e.symm,fun e=>h2.1 e.symm,ih'.1⟩,⟨by simp,?_,h1.2⟩,⟨by simp,hv.2⟩,h2.2,ih'.2⟩
  intro e
  simp only[Tok.arc.injEq]at e
  exact hne e.1
 |rot a b h ih=>exact(List.perm_append_comm.nodup_iff).1 ih
def C(l:List Tok):Prop:=∀ r,Rot l r→∀ t,r.getLast? = some t→∃ c,run ([t.st],[t.st]) r=some ([t.st],c)∧∀ x,x∈c↔.ver x∈l
end Tok
end Go.Pev.Pl
end
section
namespace Go.Pev.Pl.Tok
theorem getLast?_app{a b:List Tok}{t:Tok}(h:b.getLast? = some t):(a++b).getLast? = some t:=by
 rw[Aoq,h];rfl
theorem A1(s:List Int×List Int)(t:Tok)(l:List Tok):run s (t::l)=(step s t).bind fun s=>run s l:=by
 rw[run]
 cases step s t<;>rfl
theorem Ow(v:Int):Inv ([v],[v]):=⟨by simp,by simp⟩
theorem T.toC{l:List Tok}(h:T l):C l:=by
 induction h with
 |one v=>
  intro r hr t ht
  have:r=[.ver v]:=List.perm_singleton.1 hr.perm.symm
  subst this
  simp at ht
  subst ht
  exact⟨[v],by simp[run,st,step],by simp⟩
 |rot a b h ih=>
  intro r hr t ht
  obtain⟨c,h1,h2⟩:=ih r (Rot.trans ⟨a,b,rfl,rfl⟩ hr) t ht
  exact⟨c,h1,fun x=>(h2 x).trans (List.perm_append_comm.mem_iff)⟩
 |add x l v h hne hv ih=>
  obtain⟨_,f2,f3⟩:=h.facts
  have hnz:∀ u w,Tok.arc u w∈x::l→¬ (w=v):=fun u w hm e=>hv (e▸(f3 u w hm).2.1)
  have fin:∀ {d2 c:List Int},(∀ y,y∈d2↔y∈c∨y=v)→(∀ y,y∈c↔.ver y∈x::l)→∀ y,y∈d2↔Tok.ver y∈x :: .arc x.st v :: .ver v :: .arc v x.st::l:=by
   intro d2 c e1 e2 y
   rw[e1,e2]
   simp only[Ama,reduceCtorEq,false_or,Tok.ver.injEq]
   constructor
   ·rintro ((h|h)|h)<;>simp[h]
   ·rintro (h|h|h)<;>simp[h]
  have triple:∀ {w' c1:List Int},Inv (x.st::w',c1)→v∉c1→∀ p,run (x.st::w',c1) (.arc x.st v :: .ver v :: .arc v x.st::p)=run (x.st::w',v::c1) p:=by
   intro w' c1 hi hn p
   have hh:w'.head?≠some v:=by
    intro e
    exact hn (hi.2 v (Amt _ (List.mem_of_head? e)))
   rw[A1,FV _ _ _ _ hh hn,AnC,A1,DY,AnC,A1,GY,AnC]
  have G:∀ q1 p1,l=p1++q1→∀ t,(q1++x :: .arc x.st v :: .ver v :: .arc v x.st::p1).getLast? = some t→∃ c,run ([t.st],[t.st]) (q1++x :: .arc x.st v :: .ver v :: .arc v x.st::p1)=some ([t.st],c)∧∀ y,y∈c↔.ver y∈x :: .arc x.st v :: .ver v :: .arc v x.st::l:=by
   intro q1 p1 hl t ht
   have hrot:Rot (x::l) (q1++x::p1):=⟨x::p1,q1,by simp[hl],rfl⟩
   have ht0:∃ t0,(q1++x::p1).getLast? = some t0∧t0.st=t.st:=by
    cases p1 with
    |nil=>
     refine⟨x,getLast?_app (by simp),?_⟩
     rw[show q1++[x,Tok.arc x.st v,.ver v,.arc v x.st]=(q1++[x,Tok.arc x.st v,.ver v])++[Tok.arc v x.st] by simp,AoL]at ht
     cases ht;rfl
    |cons y p1=>
     refine⟨t,?_,rfl⟩
     rw[show q1++x::Tok.arc x.st v :: .ver v :: .arc v x.st::y::p1=(q1++[x,Tok.arc x.st v,.ver v,.arc v x.st])++y::p1 by simp,Aoq]at ht
     rw[show q1++x::y::p1=(q1++[x])++y::p1 by simp,Aoq]
     exact ht
   obtain⟨t0,e0,e1⟩:=ht0
   obtain⟨c,h1,h2⟩:=ih _ hrot t0 e0
   rw[e1,show q1++x::p1=(q1++[x])++p1 by simp,DZ,AnA]at h1
   obtain⟨⟨w1,c1⟩,g1,g2⟩:=h1
   obtain⟨i1,i2,i3⟩:=It g1 (Ow _)
   obtain⟨j1,j2,j3⟩:=It g2 i1
   have i3':=i3 x (by simp)
   simp only at i3'
   cases w1 with
   |nil=>simp at i3'
   |cons w0 w'=>
    simp at i3'
    subst i3'
    have hn:v∉c1:=fun hm=>hv ((h2 v).1 (j2 v hm))
    obtain⟨d2,k1,k2⟩:=HP (Z:=(· = v)) (c2:=v::c1) (low:=[]) g2 (by simp) (fun y=>by simp[or_comm]) (fun u w hm=>hnz u w (by simp[hl,hm])) (by simp)
    refine⟨d2,?_,fin k2 h2⟩
    rw[show q1++x::Tok.arc x.st v :: .ver v :: .arc v x.st::p1=(q1++[x])++Tok.arc x.st v :: .ver v :: .arc v x.st::p1 by simp,DZ,g1,AnC,triple i1 hn]
    simpa using k1
  intro r hr t ht
  obtain⟨p,q,hpq,rfl⟩:=hr
  have base:∀ t0:Tok,(l++[x]).getLast? = some t0→t0=x:=fun t0 h=>by rw[AoL]at h;exact(AnX h).symm
  obtain⟨c,h1,h2⟩:=ih (l++[x]) ⟨[x],l,rfl,rfl⟩ x (by simp)
  match p with
  |[]=>
   simp only[Am5]at hpq
   subst hpq
   have:=G [] l (by simp) t (by simpa using ht)
   simpa using this
  |[y]=>
   simp only[Amy,Am5,Amp]at hpq
   obtain⟨rfl,rfl⟩:=hpq
   have:t=x:=by
    rw[AoL]at ht
    exact(AnX ht).symm
   subst this
   have hn:v∉[t.st]:=by simp;exact Am8 hne
   obtain⟨d2,k1,k2⟩:=HP (Z:=(· = v)) (c2:=[v,t.st]) (low:=[]) h1 (by simp) (fun y=>by simp[or_comm]) (fun u w hm=>hnz u w (by simpa [or_comm]using hm)) (by simp)
   refine⟨d2,?_,fin k2 h2⟩
   rw[show(Tok.arc t.st v :: .ver v :: .arc v t.st::l)++[t]=Tok.arc t.st v :: .ver v :: .arc v t.st::(l++[t]) by simp,triple (Ow _) hn]
   simpa using k1
  |[y,z]=>
   simp only[Amy,Am5,Amp]at hpq
   obtain⟨rfl,rfl,rfl⟩:=hpq
   have:t = .arc x.st v:=by
    rw[show(Tok.ver v :: .arc v x.st::l)++[x,.arc x.st v]=(Tok.ver v :: .arc v x.st::l++[x])++[.arc x.st v] by simp,AoL]at ht
    exact(AnX ht).symm
   subst this
   obtain⟨d2,k1,k2⟩:=HP (Z:=(· = v)) (c2:=[x.st,v]) (low:=[v]) h1 (by simp) (fun y=>by simp) (fun u w hm=>hnz u w (by simpa [or_comm]using hm)) (by simp)
   refine⟨d2,?_,fin k2 h2⟩
   rw[show(Tok.ver v :: .arc v x.st::l)++[x,.arc x.st v]=Tok.ver v :: .arc v x.st::((l++[x])++[.arc x.st v]) by simp]
   rw[A1]
   show(step ([v],[v]) _).bind _=_
   rw[DY,AnC,A1,FV _ _ _ _ (by simp) (by simp;exact hne),AnC,DZ]
   rw[show([x.st]++[v]:List Int)=[x.st,v]from rfl]at k1
   rw[k1,AnC,A1,GY]
   rfl
  |[y,z,w]=>
   simp only[Amy,Am5,Amp]at hpq
   obtain⟨rfl,rfl,rfl,rfl⟩:=hpq
   have:t = .ver v:=by
    rw[show(Tok.arc v x.st::l)++[x,.arc x.st v,.ver v]=(Tok.arc v x.st::l++[x,.arc x.st v])++[.ver v] by simp,AoL]at ht
    exact(AnX ht).symm
   subst this
   obtain⟨d2,k1,k2⟩:=HP (Z:=(· = v)) (c2:=[x.st,v]) (low:=[v]) h1 (by simp) (fun y=>by simp) (fun u w hm=>hnz u w (by simpa [or_comm]using hm)) (by simp)
   refine⟨d2,?_,fin k2 h2⟩
   rw[show(Tok.arc v x.st::l)++[x,.arc x.st v,.ver v]=Tok.arc v x.st::((l++[x])++[.arc x.st v,.ver v]) by simp]
   rw[A1]
   show(step ([v],[v]) _).bind _=_
   rw[FV _ _ _ _ (by simp) (by simp;exact hne),AnC,DZ]
   rw[show([x.st]++[v]:List Int)=[x.st,v]from rfl]at k1
   rw[k1,AnC,A1,GY,AnC,A1,DY]
   rfl
  |y::z::w::w2::p1=>
   simp only[Amy,Amp]at hpq
   obtain⟨rfl,rfl,rfl,rfl,rfl⟩:=hpq
   exact G q p1 rfl t ht
def comp(P:List Tok):List Int→List Tok
 |[]=>[]
 |w::r=>(if .ver w∈P then []else [.ver w])++match r with
  |[]=>[]
  |p::_=>.arc w p::comp P r
theorem Qr{P P':List Tok}:∀ {way:List Int},(∀ w∈way,(Tok.ver w∈P↔Tok.ver w∈P'))→comp P way=comp P' way:=by
 intro way
 induction way with
 |nil=>intro _;rfl
 |cons w r ih=>
  intro h
  have h1:=h w (by simp)
  have h2:=ih fun x hx=>h x (Amt _ hx)
  simp only[comp,h1,h2]
theorem Ahg:∀ (M P:List Tok) (way c c':List Int) (r:Int) (t0:Tok),run (way,c) M=some ([r],c')→Inv (way,c)→P.getLast? = some t0→way.head? = some t0.st →
  T (P++comp P way)→(∀ x,.ver x∈P++comp P way→x∈c)→(∀ x∈c',Tok.ver x∈P++M)→(P++M).Nodup→T (P++M):=by
 intro M
 induction M with
 |nil=>
  intro P way c c' r t0 h hi hl hh hT hc hc' hn
  cases h
  have:=hc' r (hi.2 r (by simp))
  rw[Anb]at this
  simpa [comp,this]using hT
 |cons t M ih=>
  intro P way c c' r t0 h hi hl hh hT hc hc' hn
  rw[A1,AnA]at h
  obtain⟨⟨w1,c1⟩,h1,h2⟩:=h
  obtain⟨hi1,hsub,hhd⟩:=ABL h1 hi
  have asso:P++t::M=(P++[t])++M:=by simp
  rw[asso]at hn hc' ⊢
  have hnt:t∉P:=by
   have:=(AoN.1 (AoN.1 hn).1)
   intro hm
   exact this.2.2 t hm t (by simp) rfl
  rcases B1 h1 with⟨v,rr,rfl,hw,e⟩|⟨u,v,rr,rfl,hw,e⟩|⟨u,v,rr,rfl,hw,hh2,hn2,e⟩
  ·cases e
   simp only at hw
   subst hw
   have key:comp P (v::rr) = .ver v::comp (P++[.ver v]) (v::rr):=by
    have e2:comp P rr=comp (P++[.ver v]) rr:=Qr fun w hwm=>by
     have:w≠v:=by rintro rfl;exact(Am3.1 hi.1).1 hwm
     simp[this]
    simp only[comp,hnt,e2]
    simp
   rw[key]at hT hc
   exact ih _ _ _ _ _ (.ver v) h2 hi1 (by simp) hhd (by simpa using hT) (fun x hx=>hc x (by simpa using hx)) hc' hn
  ·cases e
   simp only at hw
   subst hw
   have hu:Tok.ver u∈P:=by
    have hun:=(Am3.1 hi.1).1
    obtain⟨g1,_⟩:=ABn (z:=u) (c:=c.filter (·≠u)) h2 hun (fun x=>by
     simp only[AnG,AmV]
     constructor
     ·intro h
      by_cases e:x=u
      ·exact .inr e
      ·exact .inl ⟨h,by simpa using e⟩
     ·rintro (h|rfl)
      ·exact h.1
      ·exact hi.2 x (by simp)) (by simp)
    have hmono:=(It h2 hi1).2.1 u (hi.2 u (by simp))
    have:=hc' u hmono
    simp only[AmY,Amv,reduceCtorEq,Ao1]at this
    rcases this with h|h
    ·exact h
    ·exact absurd h g1
   have key:comp P (u::v::rr) = .arc u v::comp (P++[.arc u v]) (v::rr):=by
    have e2:comp P (v::rr)=comp (P++[.arc u v]) (v::rr):=Qr fun w hwm=>by simp
    rw[← e2]
    simp only[comp,hu]
    simp
   rw[key]at hT hc
   exact ih _ _ _ _ _ (.arc u v) h2 hi1 (by simp) hhd (by simpa using hT) (fun x hx=>hc x (by simpa using hx)) hc' hn
  ·cases e
   simp only at hw hn2
   subst hw
   have hu:u=t0.st:=by simpa using hh
   subst hu
   have hvc:∀ x,Tok.ver x∈P++comp P (t0.st::rr)→x≠v:=by rintro x hx rfl;exact hn2 (hc x hx)
   have hvP:Tok.ver v∉P++comp P (t0.st::rr):=fun hm=>hvc v hm rfl
   have hvP':Tok.ver v∉P:=fun hm=>hvP (by simp[hm])
   have key:comp (P++[.arc t0.st v]) (v::t0.st::rr) = .ver v :: .arc v t0.st::comp P (t0.st::rr):=by
    have e2:comp (P++[.arc t0.st v]) (t0.st::rr)=comp P (t0.st::rr):=Qr fun w hwm=>by simp
    rw[← e2]
    simp only[comp,AmY,hvP',Amv,reduceCtorEq,Ao1,Amn]
    rfl
   have hne:t0.st≠v:=by rintro e;exact hn2 (e▸hi.2 t0.st (by simp))
   refine ih _ _ _ _ _ (.arc t0.st v) h2 hi1 (by simp) hhd ?_ ?_ hc' hn
   ·rw[key]
    obtain⟨P0,rfl⟩:∃ P0,P=P0++[t0]:=List.getLast?_eq_some_iff.1 hl
    have hT1:T (t0::(comp (P0++[t0]) (t0.st::rr)++P0)):=hT.AV9 ⟨P0,t0::comp (P0++[t0]) (t0.st::rr),by simp,by simp⟩
    have hT2:=T.add t0 _ v hT1 hne (by
     intro hm
     apply hvP
     simp only[AmY,Ama,AoH,Ao1]at hm ⊢
     rcases hm with h|h|h<;>simp[h])
    exact hT2.AV9 ⟨t0 :: .arc t0.st v :: .ver v :: .arc v t0.st::comp (P0++[t0]) (t0.st::rr),P0,by simp,by simp⟩
   ·intro x hx
    rw[key]at hx
    simp only[AmY,Ama,AoH,Ao1,reduceCtorEq,Tok.ver.injEq,false_or]at hx
    rcases hx with h|h|h
    ·exact Amt _ (hc x (by simp[h]))
    ·simp[h]
    ·exact Amt _ (hc x (by simp[h]))
def Ao(l:List Tok):Prop:=∃ r l' c,l = .ver r::l'∧run ([r],[r]) l=some ([r],c)∧∀ x∈c,Tok.ver x∈l
theorem Ao.toT{l:List Tok}(h:Ao l)(hn:l.Nodup):T l:=by
 obtain⟨r,l',c,rfl,h1,h2⟩:=h
 rw[A1,DY,AnC]at h1
 have:=Ahg l' [.ver r] [r] [r] c r (.ver r) h1 (Ow r) (by simp) (by simp[st]) (by simp[comp];exact T.one r) (by simp[comp]) (by simpa using h2) (by simpa using hn)
 simpa using this
theorem T.AKB{r:Int}{l:List Tok}(h:T (.ver r::l)):Ao (.ver r::l):=by
 obtain⟨t,ht⟩:∃ t,(Tok.ver r::l).getLast? = some t:=⟨_,Ao2 (by simp)⟩
 obtain⟨c,h1,h2⟩:=h.toC _ (Rot.refl _) t ht
 have h1':=h1
 rw[A1,AnA]at h1'
 obtain⟨s,g1,_⟩:=h1'
 have e:t.st=r:=by
  simp only[step]at g1
  split at g1
  ·assumption
  ·cases g1
 rw[e]at h1
 exact⟨r,l,c,rfl,h1,fun x hx=>(h2 x).1 hx⟩
end Go.Pev.Pl.Tok
end
section
namespace Go.Pev.Pl.Tok
theorem T.ASZ{l:List Tok}(h:T l):∃ v r,Rot l (.ver v::r):=by
 obtain⟨f1,f2,_⟩:=h.facts
 obtain⟨t,ht⟩:=List.exists_mem_of_ne_nil l f1
 obtain⟨a,b,rfl⟩:=ApL (f2 t ht)
 exact⟨t.st,b++a,a,.ver t.st::b,rfl,rfl⟩
theorem T.less{x:Tok}{v:Int}{l:List Tok}(h:T (x :: .arc x.st v :: .ver v :: .arc v x.st::l)):T (x::l):=by
 have hC:=h.toC
 have hn:=h.nodup
 obtain⟨_,f2,f3⟩:=h.facts
 have hne:x.st≠v:=(f3 x.st v (by simp)).2.2.2
 have hvl:Tok.ver v∉l:=by
  intro hm
  simp only[Am3,Ama,not_or]at hn
  exact hn.2.2.1.2 hm
 have hvx:x≠.ver v:=by rintro rfl;exact hne rfl
 have key:∀ p q,l=p++q→∀ t0,(q++x::p).getLast? = some t0→∃ c,run ([t0.st],[t0.st]) (q++x::p)=some ([t0.st],c)∧∀ y,y∈c↔.ver y∈x::l:=by
  intro p q hl t0 ht0
  have hrot:Rot (x :: .arc x.st v :: .ver v :: .arc v x.st::l) (q++x :: .arc x.st v :: .ver v :: .arc v x.st::p):=⟨x :: .arc x.st v :: .ver v :: .arc v x.st::p,q,by simp[hl],rfl⟩
  have ht:∃ t,(q++x::Tok.arc x.st v :: .ver v :: .arc v x.st::p).getLast? = some t∧t.st=t0.st:=by
   cases p with
   |nil=>
    rw[AoL]at ht0
    cases ht0
    exact⟨.arc v x.st,by rw[show q++[x,Tok.arc x.st v,.ver v,.arc v x.st]=(q++[x,Tok.arc x.st v,.ver v])++[Tok.arc v x.st] by simp,AoL],rfl⟩
   |cons y p=>
    refine⟨t0,?_,rfl⟩
    rw[show q++x::Tok.arc x.st v :: .ver v :: .arc v x.st::y::p=(q++[x,Tok.arc x.st v,.ver v,.arc v x.st])++y::p by simp,Aoq]
    rw[show q++x::y::p=(q++[x])++y::p by simp,Aoq]at ht0
    exact ht0
  obtain⟨t,e0,e1⟩:=ht
  obtain⟨c,h1,h2⟩:=hC _ hrot t e0
  rw[e1,show q++x::Tok.arc x.st v :: .ver v :: .arc v x.st::p=(q++[x])++Tok.arc x.st v :: .ver v :: .arc v x.st::p by simp,DZ,AnA]at h1
  obtain⟨⟨w1,c1⟩,g1,g2⟩:=h1
  obtain⟨i1,i2,i3⟩:=It g1 (Ow _)
  have i3':=i3 x (by simp)
  simp only at i3'
  cases w1 with
  |nil=>simp at i3'
  |cons w0 w'=>
   simp at i3'
   subst i3'
   rw[A1,AnA]at g2
   obtain⟨s1,k1,k2⟩:=g2
   rcases B1 k1 with⟨v',r,e,_⟩|⟨u',v',r,e,hw,rfl⟩|⟨u',v',r,e,hw,hh,hnc,rfl⟩
   ·cases e
   ·cases e
    simp only[Amp]at hw
    obtain⟨_,rfl⟩:=hw
    exfalso
    rw[A1,DY,AnC,A1,AnA]at k2
    obtain⟨s2,m1,_⟩:=k2
    have hnd:=i1.1
    rcases B1 m1 with⟨v',r',e,_⟩|⟨u',v',r',e,hw,rfl⟩|⟨u',v',r',e,hw,hh,hnc,rfl⟩
    ·cases e
    ·cases e
     simp only[Amp]at hw
     obtain⟨_,rfl⟩:=hw
     simp at hnd
    ·cases e
     exact hnc (i1.2 _ (by simp))
   ·cases e
    simp only[Amp,Aom]at hw
    subst hw
    simp only at hnc
    rw[A1,DY,AnC,A1,GY,AnC]at k2
    have hvw:v∉x.st::w':=fun hm=>hnc (i1.2 v hm)
    obtain⟨_,d,m1,m2,m3⟩:=ABn (z:=v) (c:=c1) k2 hvw (fun y=>by simp[or_comm]) hnc
    refine⟨d,?_,fun y => ?_⟩
    ·rw[show q++x::p=(q++[x])++p by simp,DZ,g1,AnC,m1]
    ·have q1:=m2 y
     have q2:=h2 y
     by_cases e:y=v
     ·subst e
      refine⟨fun h=>absurd h m3,fun h => ?_⟩
      rcases Ama.1 h with h|h
      ·exact absurd h.symm hvx
      ·exact absurd h hvl
     ·rw[q2]at q1
      simp only[e,Ao1]at q1
      rw[← q1]
      simp[e]
 obtain⟨s,b,a,hsb⟩:∃ s a b,x::l=a ++ .ver s::b:=by
  have:=f2 x (by simp)
  simp only[Ama,reduceCtorEq,false_or,Tok.ver.injEq,hne]at this
  rcases this with h|h
  ·exact⟨x.st,[],l,by rw[← h];rfl⟩
  ·obtain⟨a,b,rfl⟩:=ApL h
   exact⟨x.st,x::a,b,rfl⟩
 have hg:Ao (.ver s::a++b):=by
  have hr:∃ p q,l=p++q∧q++x::p = .ver s::a++b:=by
   cases b with
   |nil=>
    simp only[Am5,Amp]at hsb
    obtain⟨rfl,rfl⟩:=hsb
    exact⟨l,[],by simp,by simp⟩
   |cons y b=>
    simp only[Amy,Amp]at hsb
    obtain⟨rfl,rfl⟩:=hsb
    exact⟨b,.ver s::a,rfl,by simp⟩
  obtain⟨p,q,hl,e⟩:=hr
  obtain⟨t0,ht0⟩:∃ t0,(q++x::p).getLast? = some t0:=⟨_,Ao2 (by simp)⟩
  obtain⟨c,h1,h2⟩:=key p q hl t0 ht0
  rw[e]at h1
  have h1':=h1
  rw[Amy,A1,AnA]at h1'
  obtain⟨s',g1,_⟩:=h1'
  have e':t0.st=s:=by
   simp only[step]at g1
   split at g1
   ·assumption
   ·cases g1
  rw[e']at h1
  refine⟨s,a++b,c,rfl,h1,fun y hy => ?_⟩
  have:=(h2 y).1 hy
  rw[hsb]at this
  simp only[AmY,Ama]at this ⊢
  rcases this with h|h|h<;>simp[h]
 have hrot2:Rot (.ver s::a++b) (x::l):=⟨.ver s::a,b,rfl,hsb⟩
 have hnx:(x::l).Nodup:=by
  simp only[Am3,Ama,not_or]at hn ⊢
  exact⟨hn.1.2.2.2,hn.2.2.2.2⟩
 exact(hg.toT (hrot2.nodup.2 hnx)).AV9 hrot2
theorem T.leaf{l:List Tok}(h:T l):(∃ v,l=[.ver v])∨∃ x v r,Rot l (x :: .arc x.st v :: .ver v :: .arc v x.st::r):=by
 induction h with
 |one v=>exact .inl ⟨v,rfl⟩
 |add x l v h hne hv ih=>exact .inr ⟨x,v,l,Rot.refl _⟩
 |rot a b h ih=>
  rcases ih with⟨v,e⟩|⟨x,v,r,hr⟩
  ·have hr:Rot [.ver v] (b++a):=⟨a,b,e.symm,rfl⟩
   exact .inl ⟨v,List.perm_singleton.1 hr.perm.symm⟩
  ·exact .inr ⟨x,v,r,Rot.trans ⟨b,a,rfl,rfl⟩ hr⟩
def Mh:List Tok→List Int
 |[]=>[]
 |.ver v::l=>v::Mh l
 |.arc _ _::l=>Mh l
theorem Rw{v:Int}:∀ {l:List Tok},v∈Mh l↔.ver v∈l
 |[]=>by simp[Mh]
 |.ver w::l=>by simp[Mh,Rw (l:=l)]
 |.arc _ _::l=>by simp[Mh,Rw (l:=l)]
theorem AN9(a b:List Tok):Mh (a++b)=Mh a++Mh b:=by
 induction a with
 |nil=>rfl
 |cons t a ih=>cases t<;>simp[Mh,ih]
theorem T.len{l:List Tok}(h:T l):l.length+2=3*(Mh l).length:=by
 induction h with
 |one v=>rfl
 |add x l v h hne hv ih=>
  cases x<;>simp[Mh]at ih ⊢<;>omega
 |rot a b h ih=>
  simp only[AN9,Amc]at ih ⊢
  omega
end Go.Pev.Pl.Tok
end
section
namespace Go.Pev.Pl
section
variable {β:Type}
def BG(es:List (Int×β)):List Int:=es.map Prod.fst
theorem WU(es:List (Int×β)):(BG es).length=es.length:=by simp[BG]
theorem Dv(es:List (Int×β))(k:Int)(v:β)(j:Int):AP (Af es k v) j=if j=k then some v else AP es j:=by
 induction es with
 |nil=>
  simp only[Af,AP]
  by_cases h:k=j
  ·simp[h]
  ·simp[h,Am8 h]
 |cons e es ih=>
  obtain⟨a,b⟩:=e
  simp only[Af]
  by_cases h:a=k
  ·subst h
   simp only[Am7,AP]
   by_cases h2:a=j
   ·simp[h2]
   ·simp[h2,Am8 h2]
  ·simp only[h,Amn,AP,ih]
   by_cases h2:a=j
   ·subst h2;simp[h]
   ·simp[h2]
theorem QR(es:List (Int×β))(k:Int)(v:β):BG (Af es k v)=if k∈BG es then BG es else BG es++[k]:=by
 induction es with
 |nil=>rfl
 |cons e es ih=>
  obtain⟨a,b⟩:=e
  simp only[Af]
  by_cases h:a=k
  ·subst h;simp[BG]
  ·simp only[h,Amn]
   show a::BG (Af es k v)=_
   rw[ih]
   have:k∈BG ((a,b)::es)↔k∈BG es:=by simp[BG,Am8 h]
   simp only[this]
   split<;>rfl
theorem YZ(es:List (Int×β))(k:Int):AP es k=none↔k∉BG es:=by
 induction es with
 |nil=>simp[AP,BG]
 |cons e es ih=>
  obtain⟨a,b⟩:=e
  simp only[AP]
  by_cases h:a=k
  ·simp[h,BG]
  ·simp only[h,Amn,ih]
   simp[BG,Am8 h]
theorem E5(es:List (Int×β))(k:Int)(v:β)(j:Int):j∈BG (Af es k v)↔j=k∨j∈BG es:=by
 rw[QR]
 split
 ·rename_i h
  constructor
  ·exact .inr
  ·rintro (rfl|h2)
   ·exact h
   ·exact h2
 ·simp[or_comm]
theorem KM{es:List (Int×β)}(h:(BG es).Nodup)(k:Int)(v:β):(BG (Af es k v)).Nodup:=by
 rw[QR]
 split
 ·exact h
 ·rename_i hk
  rw[AoN]
  exact⟨h,by simp,fun a ha b hb=>by rintro rfl;simp at hb;exact hk (hb▸ha)⟩
end
def dd:List Int→List Int→List Int
 |ks,[]=>ks
 |ks,x::xs=>dd (if x∈ks then ks else ks++[x]) xs
theorem Alm:∀ (xs ks:List Int),(dd ks xs).length≤ks.length+xs.length∧((dd ks xs).length=ks.length+xs.length↔xs.Nodup∧∀ x∈xs,x∉ks):=by
 intro xs
 induction xs with
 |nil=>intro ks;simp[dd]
 |cons x xs ih=>
  intro ks
  rw[dd]
  by_cases h:x∈ks
  ·obtain⟨h1,_⟩:=ih ks
   rw[Amk h]
   refine⟨by simp only[Amb];omega,?_,fun hh=>absurd h (hh.2 x (by simp))⟩
   intro e
   simp only[Amb]at e
   omega
  ·obtain⟨h1,h2⟩:=ih (ks++[x])
   rw[Amh h]
   simp only[Amc,Amb,Amw,AnU]at h1 h2 ⊢
   refine⟨by omega,?_⟩
   rw[show ks.length+(xs.length+1)=ks.length+1+xs.length by omega,h2,Am3]
   constructor
   ·rintro⟨g1,g2⟩
    refine⟨⟨fun hx=>g2 x hx (by simp),g1⟩,fun y hy => ?_⟩
    rcases Ama.1 hy with rfl|hy
    ·exact h
    ·exact fun hk=>g2 y hy (by simp[hk])
   ·rintro⟨⟨g1,g2⟩,g3⟩
    refine⟨g2,fun y hy hk => ?_⟩
    simp only[AmY,Amv]at hk
    rcases hk with hk|rfl
    ·exact g3 y (by simp[hy]) hk
    ·exact g1 hy
theorem Ah6(xs:List Int):(dd [] xs).length=xs.length↔xs.Nodup:=by
 have:=(Alm xs []).2
 simpa using this
theorem Ba{α β ρ:Type}(g:β→α→α)(fin:α→ρ):∀ (xs:List β) (a:α),walk (fun x a=>.inl (g x a)) fin xs a=fin (xs.foldl (fun a x=>g x a) a):=by
 intro xs
 induction xs with
 |nil=>intro a;rfl
 |cons x xs ih=>intro a;rw[walk,AnM];exact ih _
theorem MW{σ ρ β:Type}{step:σ→Option (σ⊕ρ)}(st:Nat→σ)(xs:List β)(P:β→Bool)(rt:Nat→ρ)(rf:ρ)(hs:xs.length<9223372036854775808)
  (h:∀ i x,i<xs.length→xs[i]? = some x→step (st i)=if P x then some (.inr (rt i))else some (.inl (st (i+1)))) (hN:step (st xs.length)=some (.inr rf)) :
  AX step many (st 0)=some (if xs.any P then rt (xs.findIdx P)else rf):=by
 have key:∀ (l:List β) (a:Nat),walk (fun x (a:Nat)=>if P x then .inr (rt a)else .inl (a+1)) (fun _=>rf) l a=if l.any P then rt (a+l.findIdx P)else rf:=by
  intro l
  induction l with
  |nil=>intro a;rfl
  |cons x l ih=>
   intro a
   rw[walk,ApE,Aoo]
   by_cases hx:P x=true
   ·simp[hx]
   ·simp only[hx,Amq,Amn,Bool.false_or,cond_false]
    rw[ih,show a+1+List.findIdx P l=a+(List.findIdx P l+1) by omega]
 have:=DQ (step:=step) (fun i (a:Nat)=>st a) xs (fun x (a:Nat)=>if P x then .inr (rt a)else .inl (a+1)) (fun _=>rf) (fun i a=>a=i) hs
  (fun i x a hi hx ha=>by
   subst ha
   refine⟨fun a' h' => ?_,fun r h' => ?_⟩
   ·rw[h a x hi hx]
    split at h'
    ·cases h'
    ·rename_i hp
     cases h'
     simp[hp]
   ·rw[h a x hi hx]
    split at h'
    ·rename_i hp
     cases h'
     simp[hp]
    ·cases h')
  (fun a ha=>by subst ha;exact hN) 0 rfl
 rw[this,key,AnU]
theorem Ak{α:Type}{xs:List α}{n:Nat}{x:α}(h:xs[n]? = some x):idx xs (n:Int)=some x:=by rw[AMU,h]
theorem Adm{α:Type}{xs:List α}{n:Nat}{x z:α}(h:xs[n]? = some x):Ab xs (AN (n:Int)) z=x:=by
 rw[Fv,AmW,h];rfl
theorem JV{α:Type}{xs:List α}{h:Nat}(h2:h≤xs.length):CM xs (0:Int) (h:Int)=some (xs.take h):=by
 have:=AKL (xs:=xs) (l:=0) (ApS h) h2
 simpa using this
theorem Ey{α:Type}{xs:List α}{l:Nat}(h1:l≤xs.length):CM xs (l:Int) (AK xs)=some (xs.drop l):=by
 have:=AKL (xs:=xs) h1 (Amd _)
 rw[Anq]at this
 exact this
def pos(xs:List Int)(t:Int):Int:=if t∈xs then((xs.findIdx (fun x=>decide (x=t)):Nat):Int)else -1
theorem AaD(xs:List Int)(t:Int):(xs.any fun x=>decide (x=t))=decide (t∈xs):=by
 induction xs with
 |nil=>rfl
 |cons x xs ih=>simp only[ApE,ih,Ama,Bool.decide_or];congr 1;exact AoB.2 eq_comm
theorem ACI{xs:List Int}{t:Int}(h:t∈xs):∃ k:Nat,pos xs t=(k:Int)∧k<xs.length∧xs[k]? = some t∧xs=xs.take k++t::xs.drop (k+1)∧t∉xs.take k:=by
 have hk:xs.findIdx (fun x=>decide (x=t))<xs.length:=Aog.2 ⟨t,h,by simp⟩
 have hg:xs[xs.findIdx (fun x=>decide (x=t))]'hk=t:=by
  have:=List.findIdx_getElem (xs:=xs) (p:=fun x=>decide (x=t)) (w:=hk)
  simpa using this
 refine⟨_,by rw[pos,Amk h],hk,by rw[AmZ hk,hg],?_,?_⟩
 ·conv=>lhs;rw[← AnP (xs.findIdx (fun x=>decide (x=t))) xs,AnN hk,hg]
 ·intro hm
  obtain⟨j,hj,e⟩:=AoY.1 hm
  have:=List.not_of_lt_findIdx (p:=fun x=>decide (x=t)) (xs:=xs) (i:=j) (by omega)
  simp[e]at this
theorem OS{xs:List Int}{t:Int}(h:t∉xs):pos xs t = -1:=by rw[pos,Amh h]
end Go.Pev.Pl
end
section
section
namespace Go.Pev.Pl
open Tok
def In(n v:Int):Prop:=1≤n∧n≤64∧0≤v∧v<n
instance (n v:Int):Decidable (In n v):=inferInstanceAs (Decidable (_∧_))
def Sz(n:Int):Prop:=1≤n∧n≤64
instance (n:Int):Decidable (Sz n):=inferInstanceAs (Decidable (_∧_))
theorem Kq(n:Int):Mn (n,())=some (decide (Sz n),()):=by
 rw[AHZ,RQ]
 simp only[A0]
 by_cases h1:1≤n<;>by_cases h2:n≤64<;>simp[Sz,h1,h2]
theorem Zy(n v:Int):tin (n,v,())=some (decide (In n v),()):=by
 rw[Ae7,AYl]
 simp only[Kq,A0,Ah]
 by_cases h1:1≤n<;>by_cases h2:n≤64<;>by_cases h3:0≤v<;>simp[In,Sz,h1,h2,h3]
def AmH(n v:Int):Int:=if In n v then v else -1
def D8(n u v:Int):Int:=if In n u∧In n v∧u≠v then n*(u+1)+v else -1
theorem Fe{n u:Int}(h1:1≤n)(h2:n≤64)(h3:0≤u)(h4:u≤64):0≤n*u∧n*u≤4096:=by
 refine⟨Int.mul_nonneg (by omega) h3,?_⟩
 have:=Int.mul_le_mul h2 h4 h3 (by omega)
 omega
theorem AOn(n u v:Int):Aaz (n,u,v,())=some (D8 n u v,()):=by
 rw[AYm,AKK]
 simp only[Zy,D8,Ar]
 by_cases h3:u=v
 ·simp[h3]
 ·by_cases h1:In n u
  ·by_cases h2:In n v
   ·obtain⟨a1,a2,a3,a4⟩:=h1
    obtain⟨b1,b2,b3,b4⟩:=h2
    have hb:=Fe (u:=u+1) a1 a2 (by omega) (by omega)
    rw[Aj (n:=u+1) (by omega),Aj (n:=n*(u+1)) (by omega),Aj (n:=n*(u+1)+v) (by omega)]
    simp[In,a1,a2,a3,a4,b3,b4,h3]
   ·simp[h1,h2,h3]
  ·simp[h1,h3]
def B8(n t:Int):Option Tok:=
 if In n t then some (.ver t)
 else if Sz n∧n≤t∧t<n*(n+1)∧t/n-1≠t % n then some (.arc (t/n-1) (t % n))
 else none
def O7:Option Tok→Int×Int×Bool×Bool×Unit
 |some (.ver v)=>(v,0,false,true,())
 |some (.arc u v)=>(u,v,true,true,())
 |none=>(0,0,false,false,())
def Di(n:Int):Tok→Int
 |.ver v=>v
 |.arc u v=>n*(u+1)+v
def okT(n:Int):Tok→Prop
 |.ver v=>In n v
 |.arc u v=>In n u∧In n v∧u≠v
theorem AAD{n u v:Int}(h1:In n u)(h2:In n v):n≤n*(u+1)+v∧n*(u+1)+v<n*(n+1)∧(n*(u+1)+v)/n=u+1∧(n*(u+1)+v) % n=v:=by
 obtain⟨a1,a2,a3,a4⟩:=h1
 obtain⟨b1,b2,b3,b4⟩:=h2
 have e2:n*(u+1)=n*u+n:=by rw[ApU,ApV]
 have e3:n*(n+1)=n*n+n:=by rw[ApU,ApV]
 have hb:=Fe (u:=u) a1 a2 (by omega) (by omega)
 have hle:n*(u+1)≤n*n:=Int.mul_le_mul_of_nonneg_left (by omega) (by omega)
 have hd:(n*(u+1)+v)/n=u+1:=by
  rw[Int.add_comm,Int.add_mul_ediv_left _ _ (by omega),Int.ediv_eq_zero_of_lt b3 b4];omega
 have hm:(n*(u+1)+v) % n=v:=by
  rw[Int.add_comm,Int.add_mul_emod_self_left,Int.emod_eq_of_lt b3 b4]
 exact⟨by omega,by omega,hd,hm⟩
theorem AMy{n t:Int}(hn:Sz n)(h1:n≤t)(h2:t<n*(n+1)):In n (t/n-1)∧In n (t % n)∧n*(t/n-1+1)+t % n=t:=by
 obtain⟨a1,a2⟩:=hn
 have g1:1≤t/n:=(Int.le_ediv_iff_mul_le (by omega)).2 (by omega)
 have g2:t/n<n+1:=(Int.ediv_lt_iff_lt_mul (by omega)).2 (by rw[Int.mul_comm];exact h2)
 have g3:=Int.emod_nonneg t (show n≠0 by omega)
 have g4:=Int.emod_lt_of_pos t (show 0<n by omega)
 have g5:=Int.mul_ediv_add_emod t n
 refine⟨⟨a1,a2,by omega,by omega⟩,⟨a1,a2,g3,g4⟩,?_⟩
 rw[Int.sub_add_cancel]
 exact g5
theorem Dr{n:Int}{t:Tok}(h:okT n t):B8 n (Di n t)=some t:=by
 cases t with
 |ver v=>simp only[okT]at h;simp[B8,Di,h]
 |arc u v=>
  obtain⟨h1,h2,h3⟩:=h
  obtain⟨g1,g2,g3,g4⟩:=AAD h1 h2
  have hni:¬ In n (n*(u+1)+v):=fun h=>by have:=h.2.2.2;omega
  have:u+1-1=u:=by omega
  simp only[B8,Di,hni,Amn,g3,g4,this]
  rw[Amk ⟨⟨h1.1,h1.2.1⟩,g1,g2,h3⟩]
theorem Wu{n x:Int}{t:Tok}(h:B8 n x=some t):okT n t∧Di n t=x:=by
 rw[B8]at h
 split at h
 ·cases h;exact⟨by assumption,rfl⟩
 ·split at h
  ·rename_i hh
   cases h
   obtain⟨d1,d2,d3⟩:=AMy hh.1 hh.2.1 hh.2.2.1
   exact⟨⟨d1,d2,hh.2.2.2⟩,d3⟩
  ·cases h
theorem FK{n u v:Int}(h:okT n (.arc u v)):D8 n u v=Di n (.arc u v):=by
 simp only[okT]at h
 rw[D8,Amk h];rfl
theorem GQ{n:Int}{a b:Tok}(ha:okT n a)(hb:okT n b)(h:Di n a=Di n b):a=b:=by
 have:=Dr ha
 rw[h,Dr hb]at this
 exact(AnX this).symm
theorem ATY(n t:Int)(ht:-9223372036854775808≤t∧t≤9223372036854775807):AAn (n,t,())=some (O7 (B8 n t)):=by
 rw[AHY,RP]
 simp only[Kq]
 by_cases hs:Sz n
 ·obtain⟨a1,a2⟩:=hs
  have hb:=Fe (u:=n) a1 a2 (by omega) (by omega)
  have e3:n*(n+1)=n*n+n:=by rw[ApU,ApV]
  rw[Aj (n:=n+1) (by omega),Aj (n:=n*(n+1)) (by omega)]
  simp only[Sz,a1,a2,and_self,Amg,Amf,Ah,A0]
  by_cases h1:t<0
  ·have hni:¬ In n t:=fun h=>by have:=h.2.2.1;omega
   have h2:¬ n≤t:=by omega
   simp only[h1,Amg,B8,hni,Amn,h2,Aoc,and_false,O7]
  ·simp only[h1,Amu]
   by_cases h2:n*(n+1)≤t
   ·have hni:¬ In n t:=fun h=>by have:=h.2.2.2;omega
    have h3:¬ t<n*(n+1):=by omega
    simp only[h2,Amg,B8,hni,Amn,h3,Aoc,and_false,O7]
   ·simp only[h2,Amu]
    by_cases h3:t<n
    ·have hi:In n t:=⟨a1,a2,by omega,h3⟩
     simp only[h3,Amg,B8,hi,Am7,O7]
    ·have hni:¬ In n t:=fun h=>h3 h.2.2.2
     have hq:t.tdiv n=t/n:=AoT (by omega)
     have hm:t.tmod n=t % n:=Int.tmod_eq_emod_of_nonneg (by omega)
     obtain⟨d1,d2,d3⟩:=AMy (t:=t) ⟨a1,a2⟩ (by omega) (by omega)
     have q1:=d1.2.2.1
     have q2:=d1.2.2.2
     simp only[h3,Amu,UT,UU,ALB,ACC]
     rw[Amh (by omega),Amh (by omega),hq,hm,Aj (n:=t/n) (by omega)]
     simp only[]
     rw[Aj (n:=t/n-1) (by omega),Ar,B8,Amh hni]
     by_cases h4:t/n-1=t % n
     ·rw[Amh (by intro h;exact h.2.2.2 h4),AmU h4];rfl
     ·rw[Amk ⟨⟨a1,a2⟩,by omega,by omega,h4⟩,AmS h4];rfl
 ·have hni:¬ In n t:=fun h=>hs ⟨h.1,h.2.1⟩
  simp only[hs,Amu,Am2,B8,hni,Amn,Aoc,O7]
theorem AWz(xs ys:List Int)(hs:xs.length<9223372036854775808):LV (xs,ys,())=some (decide (xs=ys),()):=by
 rw[AIr,R2,AEF]
 by_cases hl:xs.length=ys.length
 ·rw[AmU hl]
  simp only[Amf]
  rcases APD (step:=Es) (fun i=>(xs,ys,((i:Nat):Int),())) xs.length (fun i => !decide (xs.getD i 0=ys.getD i 0)) (fun _=>.inl (false,())) (.inr (.inl ())) hs (fun i hi=>by
   rw[Es,AM,AR,AmU hi]
   simp (disch:=omega) only[DT (0:Int),AS,Ar]
   by_cases h:xs.getD i 0=ys.getD i 0
   ·rw[AmU h];simp
   ·rw[AmS h];simp) (by rw[Es,AM,AR,AmS (by omega)])with⟨k,hk,hP,_,e⟩|⟨h,e⟩
  ·have e':AX Es many (xs,ys,(0:Int),())=_:=e
   rw[e']
   have:xs≠ys:=YU (0:Int) (j:=k) (by simpa using hP)
   simp[this]
  ·have e':AX Es many (xs,ys,(0:Int),())=_:=e
   rw[e']
   have:xs=ys:=Lj (0:Int) hl fun j hj=>by simpa using h j hj
   simp[this]
 ·rw[AmS hl]
  have:xs≠ys:=fun e=>hl (by rw[e])
  simp[this]
def BR(n:Nat):List (List Int):=(List.range n).map fun(v:Nat)=>[(v:Int)]
theorem Ra(n:Nat):BR (n+1)=BR n++[[(n:Int)]]:=by simp[BR,Anp]
theorem Xy(n:Nat):(BR n).length=n:=by simp[BR]
theorem ATm(N:Nat)(hN:N≤64)(c:Int):∀ (k i n:Nat),i+k=N→k<n→AY Hl n (c,(N:Int),BR i,(N:Int),(i:Int),())=some (.inl (c,(N:Int),BR N,())):=by
 intro k
 induction k with
 |zero=>
  intro i n hi hn
  obtain⟨n,rfl⟩:∃ k,n=k+1:=⟨n-1,by omega⟩
  have:i=N:=by omega
  subst this
  rw[AY,Hl,AR,AmS (by omega)]
 |succ k ih=>
  intro i n hi hn
  obtain⟨n,rfl⟩:∃ k,n=k+1:=⟨n-1,by omega⟩
  rw[AY,Hl,AR,AmU (by omega)]
  simp only[AM,Xy,Amb,Amw]
  rw[BY (by omega),AS (by omega)]
  simp only[C9,← Ra]
  exact ih (i+1) n (by omega) (by omega)
def G9(n:Int):Int×List (List Int)×Int×Unit:=if Sz n then(n,BR n.toNat,0,())else(0,[],1,())
theorem AHr(n:Int):AOj (n,())=some (G9 n):=by
 have hm:4294967296<many:=by simp only[many];omega
 rw[AOi,Zx,G9]
 simp only[Kq]
 by_cases h:Sz n
 ·obtain⟨h1,h2⟩:=h
  obtain⟨N,rfl⟩:=Ame (show 0≤n by omega)
  have hS:Sz (N:Int):=⟨by omega,by omega⟩
  have e:=ATm N (by omega) 0 N 0 many (by omega) (by omega)
  have e':AY Hl many (0,(N:Int),[],(N:Int),(0:Int),())=_:=e
  simp[hS,As,e']
 ·simp[h]
end Go.Pev.Pl
end
section
namespace Go.Pev.Pl
theorem QV(xs:List Int)(t:Int)(hs:xs.length<9223372036854775808):QW (xs,t,())=some (pos xs t,()):=by
 rw[AIv,R4]
 have e:=MW (step:=Fi) (fun i=>(xs,t,AK xs,(i:Int),())) xs (fun x=>decide (x=t)) (fun i=>.inl ((i:Int),())) (.inr (.inl ())) hs
  (fun i x hi hx=>by
   rw[Fi,AM,AR,AmU hi]
   simp only[Ak hx,Ar]
   by_cases h:x=t
   ·simp[h]
   ·simp only[h,Am8 h,Amu];rw[AS (by omega)];simp)
  (by rw[Fi,AM,AR,AmS (by omega)])
 have e':AX Fi many (xs,t,AK xs,(0:Int),())=_:=e
 rw[e',AaD,pos]
 by_cases h:t∈xs<;>simp[h]
theorem Jy(xs:List Int)(t:Int)(hs:xs.length<9223372036854775808):Fw (xs,t,())=some (decide (t∈xs),()):=by
 rw[SZ,JG]
 simp only[QV xs t hs,A0]
 by_cases h:t∈xs
 ·obtain⟨k,e,_⟩:=ACI h
  rw[e];simp[h]
 ·rw[OS h];simp[h]
def Rt(xs:List Int):Prop:=xs.length≤1000∧(∀ x∈xs,0≤x∧x≤10000)∧xs.Nodup
instance (xs:List Int):Decidable (Rt xs):=inferInstanceAs (Decidable (_∧_∧_))
theorem Ru(xs:List Int):xs.Nodup↔∀ i,i<xs.length→xs.getD i 0∉xs.take i:=by
 rw[List.Nodup,An5]
 constructor
 ·intro h i hi hm
  obtain⟨j,hj,e⟩:=AoY.1 hm
  have:=h j i (by omega) hi (by omega)
  rw[AmW,AmZ hi,Am4]at e
  exact this e
 ·intro h i j hi hj hij e
  apply h j hj
  rw[AmW,AmZ hj,Am4,← e]
  exact AoY.2 ⟨i,by omega,rfl⟩
theorem ASY(xs:List Int)(hs:xs.length<9223372036854775808):EC (xs,())=some (xs.any (fun x=>decide (x<0)||decide (10000<x)),()):=by
 rw[KZ,EI,MU,E9]
 have e:=MW (step:=B5) (fun i=>(xs,AK xs,(i:Int),())) xs (fun x=>decide (x<0)||decide (10000<x)) (fun i=>.inl ((i:Int),())) (.inr (.inl ())) hs
  (fun i x hi hx=>by
   rw[B5,AM,AR,AmU hi]
   simp only[Ak hx,Ah]
   rw[AS (by omega)]
   by_cases h:x<0
   ·simp[h]
   ·by_cases h2:10000<x
    ·simp[h,h2]
    ·simp[h,h2])
  (by rw[B5,AM,AR,AmS (by omega)])
 have e':AX B5 many (xs,AK xs,(0:Int),())=_:=e
 rw[e']
 generalize (xs.any fun x=>decide (x<0)||decide (10000<x))=b
 cases b<;>simp[A0]
theorem Agk(xs:List Int)(hs:xs.length<9223372036854775808):once (xs,())=some (decide xs.Nodup,()):=by
 rw[AZS,ALs]
 have e:=DQ (step:=LB) (fun i m=>(xs,m,xs,AK xs,(i:Int),())) xs (fun x m=>.inl (Af m x (IntKind.wrap .i64 (((AP m x).getD (0:Int))+(1:Int))))) (fun m=>.inl (xs,m,())) (fun _ _=>True) hs
  (fun i x m hi hx _=>by
   refine⟨fun m' h' => ?_,fun r h'=>by cases h'⟩
   cases h'
   rw[LB,AM,AR,AmU hi]
   simp only[Ak hx]
   rw[AS (by omega)]
   exact⟨rfl,trivial⟩)
  (fun m _=>by rw[LB,AM,AR,AmS (by omega)]) [] trivial
 have e':AX LB many (xs,([]:List (Int×Int)),xs,AK xs,(0:Int),())=_:=e
 rw[e',Ba]
 have key:∀ (l:List Int) (m:List (Int×Int)),BG (l.foldl (fun m x=>Af m x (IntKind.wrap .i64 (((AP m x).getD (0:Int))+(1:Int)))) m)=dd (BG m) l:=by
  intro l
  induction l with
  |nil=>intro m;rfl
  |cons x l ih=>intro m;rw[AnM,ih,QR,dd]
 have hk:=key xs []
 generalize xs.foldl (fun m x=>Af m x (IntKind.wrap .i64 (((AP m x).getD (0:Int))+(1:Int)))) []=m at *
 simp only[AEF]
 have:m.length=(dd [] xs).length:=by rw[← WU,hk];rfl
 rw[this]
 simp only[Ah6]
theorem P5(xs:List Int):M4 (xs,())=some (decide (Rt xs),()):=by
 rw[AIC,Re,AM,Ah]
 by_cases hl:xs.length≤1000
 ·rw[AmS (by omega)]
  simp only[ASY xs (by omega),Agk xs (by omega)]
  have hany:(xs.any fun x=>decide (x<0)||decide (10000<x)) = !decide (∀ x∈xs,0≤x∧x≤10000):=by
   rw[Aox]
   simp only[AoV,Ann,AmV,Anu,AnK]
   constructor
   ·rintro⟨x,hx,h⟩ hh
    have:=hh x hx
    omega
   ·intro h
    refine AnW fun hc=>h fun x hx => ?_
    refine AnW fun hn=>hc ⟨x,hx,by omega⟩
  rw[hany]
  by_cases h1:∀ x∈xs,0≤x∧x≤10000
  ·rw[AmU h1]
   by_cases h2:xs.Nodup
   ·rw[AmU h2,AmU (show Rt xs from⟨hl,h1,h2⟩)];rfl
   ·rw[AmS h2,AmS (show ¬ Rt xs from fun h=>h2 h.2.2)];rfl
  ·rw[AmS h1,AmS (show ¬ Rt xs from fun h=>h1 h.2.1)];rfl
 ·rw[AmU (by omega),AmS (show ¬ Rt xs from fun h=>hl h.1)]
def rot(xs:List Int)(k:Nat):List Int:=xs.drop k++xs.take k
theorem AdQ(n:Nat)(hn:n<4294967296):AR3 ((n:Int),())=some ([],()):=by
 have e0:IntKind.wrap .i64 ((n:Int)-IntKind.wrap .i64 ((0:Int)-0))=(n:Int):=by rw[Aj (n:=(0:Int)-0) (by omega),Aj (by omega)];omega
 rw[AR2,AAA]
 simp only[e0,Ah]
 rw[AmS (by omega)]
 simp only[]
 by_cases h:0<n
 ·rw[AmU (by omega)]
  have s1:CM ([]:List Unit) (0:Int) (0:Int)=some []:=by rw[Zz];rfl
  have s2:CM (EB (AN (n:Int)) (0:Int)) (0:Int) (0:Int)=some []:=by
   rw[Zz,PH,Amk (by omega)]
   simp
  have s3:FQ (n:Int)=true:=(Oj _).2 (by omega)
  simp only[s1,s2,s3]
  rfl
 ·rw[AmS (by omega)]
theorem JA{α:Type}{xss:List (List α)}{i:Nat}{x:List α}(h:xss[i]? = some x):(xss.take (i+1)).flatten=(xss.take i).flatten++x:=by
 rw[List.take_add_one,h];simp
theorem MV{α:Type}(xss:List (List α))(i:Nat):(xss.take i).flatten.length≤xss.flatten.length:=by
 conv=>rhs;rw[← AnP i xss,List.flatten_append,Amc]
 omega
theorem Np(xss:List (List Int))(hs:xss.length<4294967296)(h:xss.flatten.length<4294967296):JH (xss,())=some (xss.flatten,()):=by
 rw[AE8,Ol]
 have e:=DQ (step:=EX) (fun i (a:Nat)=>(xss,(a:Int),xss,AK xss,(i:Int),())) xss (fun x a=>.inl (a+x.length)) (fun a=>.inl (xss,(a:Int),())) (fun i a=>a=(xss.take i).flatten.length) (by omega)
  (fun i x a hi hx ha=>by
   refine⟨fun m' h' => ?_,fun r h'=>by cases h'⟩
   cases h'
   have h1:=JA hx
   have h2:=MV xss (i+1)
   rw[h1,Amc]at h2
   rw[EX]
   simp only[AM]
   rw[AR,AmU hi]
   simp only[Ak hx]
   rw[wrap_add (by omega),AS (by omega),Ah,AmS (by omega)]
   exact⟨rfl,by rw[h1,Amc,ha]⟩)
  (fun a _=>by rw[EX,AM,AR,AmS (by omega)]) 0 rfl
 have e':AX EX many (xss,(0:Int),xss,AK xss,(0:Int),())=_:=e
 rw[e',Ba]
 have hsum:∀ (l:List (List Int)) (a:Nat),l.foldl (fun a x=>a+x.length) a=a+l.flatten.length:=by
  intro l
  induction l with
  |nil=>intro a;rfl
  |cons x l ih=>intro a;rw[AnM,ih,Aoa,Amc];omega
 rw[hsum,AnU]
 simp only[AdQ _ h]
 have g:=DQ (step:=EW) (fun i (a:List Int)=>(a,xss,AK xss,(i:Int),())) xss (fun x a=>.inl (a++x)) (fun a=>.inl (a,())) (fun i a=>a=(xss.take i).flatten) (by omega)
  (fun i x a hi hx ha=>by
   refine⟨fun m' h' => ?_,fun r h'=>by cases h'⟩
   cases h'
   have h1:=JA hx
   have h2:=MV xss (i+1)
   rw[h1,Amc]at h2
   rw[EW]
   simp only[AM]
   rw[AR,AmU hi]
   simp only[Ak hx]
   rw[AS (by omega),BY (by rw[ha];omega)]
   exact⟨rfl,by rw[h1,ha]⟩)
  (fun a _=>by rw[EW,AM,AR,AmS (by omega)]) [] rfl
 have g':AX EW many ([],xss,AK xss,(0:Int),())=_:=g
 rw[g',Ba]
 have hcat:∀ (l:List (List Int)) (a:List Int),l.foldl (fun a x=>a++x) a=a++l.flatten:=by
  intro l
  induction l with
  |nil=>intro a;simp
  |cons x l ih=>intro a;rw[AnM,ih,Aoa,AnY]
 rw[hcat]
 rfl
theorem AAg(xs:List Int)(k:Nat)(hk:k≤xs.length)(hs:xs.length<2147483648):Tl (xs,(k:Int),())=some (rot xs k,()):=by
 rw[AHX,RO]
 simp only[Ey hk,JV hk]
 rw[Np _ (by simp) (by simp;omega)]
 simp[rot]
def A5(xs:List Int)(t:Int):List Int:=rot xs (xs.findIdx (fun x=>decide (x=t)))
def I9(xs:List Int)(t:Int):List Int×Bool×Unit:=if Rt xs∧t∈xs then(A5 xs t,true,())else([],false,())
theorem ABx{xs:List Int}{t:Int}(h:t∈xs):∃ a b,xs=a++t::b∧t∉a∧A5 xs t=t::b++a:=by
 obtain⟨k,e,hk,hg,h1,h2⟩:=ACI h
 rw[pos,Amk h]at e
 have e':xs.findIdx (fun x=>decide (x=t))=k:=by omega
 refine⟨_,_,h1,h2,?_⟩
 rw[A5,e',rot]
 congr 1
 rw[AnN hk]
 congr 1
 simpa [hk]using hg
theorem AIE(xs:List Int)(t:Int):AIF (xs,t,())=some (I9 xs t):=by
 rw[APX,Z2,AIQ,Rm,I9]
 simp only[P5]
 by_cases hr:Rt xs
 ·have hl:=hr.1
  simp only[hr,Amg,Amf,Aom]
  have e:AX Ej many (xs,[],[t],AK [t],(0:Int),())=some (.inl ([pos xs t],())):=by
   have g:=DQ (step:=Ej) (fun i (a:List Int)=>(xs,a,[t],AK [t],(i:Int),())) [t] (fun x a=>.inl (a++[pos xs x])) (fun a=>.inl (a,())) (fun i a=>a.length=i) (by simp)
    (fun i x a hi hx ha=>by
     refine⟨fun m' h' => ?_,fun r h'=>by cases h'⟩
     cases h'
     rw[Ej,AM,AR,AmU hi]
     simp only[Ak hx,QV xs x (by omega)]
     simp only[Amb,Amw]at hi
     rw[AS (by omega),BY (by simp only[AM,Amb,Amw];omega)]
     exact⟨rfl,by simp[ha]⟩)
    (fun a _=>by rw[Ej,AM,AR,AmS (by omega)]) [] rfl
   have g':AX Ej many (xs,[],[t],AK [t],(0:Int),())=_:=g
   rw[g'];rfl
  rw[e]
  simp only[Jy [pos xs t] (-1) (by simp)]
  by_cases h:t∈xs
  ·have hk:xs.findIdx (fun x=>decide (x=t))<xs.length:=Aog.2 ⟨t,h,by simp⟩
   rw[pos,Amk h,Amk h,A5]
   generalize xs.findIdx (fun x=>decide (x=t))=k at *
   rw[AmS (by simp)]
   have i0:idx [(k:Int)] (0:Int)=some (k:Int):=by rw[E6];rfl
   have d0:Ab [(k:Int)] 0 (0:Int)=(k:Int):=rfl
   simp only[Am2,Amf,i0,d0,AAg xs k (by omega) (by omega)]
  ·rw[OS h,Amh h]
   simp
 ·simp[hr]
def Gf:List Int→Int
 |[]=>0
 |x::xs=>xs.foldl (fun a y=>CJ a y) x
theorem AXT:∀ (xs:List Int) (a:Int),(xs.foldl (fun a y=>CJ a y) a)≤a∧(∀ x∈xs,xs.foldl (fun a y=>CJ a y) a≤x)∧(xs.foldl (fun a y=>CJ a y) a=a∨xs.foldl (fun a y=>CJ a y) a∈xs):=by
 intro xs
 induction xs with
 |nil=>intro a;simp
 |cons x xs ih=>
  intro a
  rw[AnM]
  obtain⟨h1,h2,h3⟩:=ih (CJ a x)
  have hm:CJ a x≤a∧CJ a x≤x∧(CJ a x=a∨CJ a x=x):=by
   rw[CJ];split<;>omega
  refine⟨by omega,fun y hy => ?_,?_⟩
  ·rcases Ama.1 hy with rfl|hy
   ·omega
   ·exact h2 y hy
  ·rcases h3 with h|h
   ·rcases hm.2.2 with e|e
    ·exact .inl (by rw[h,e])
    ·exact .inr (by rw[h,e];simp)
   ·exact .inr (Amt _ h)
theorem Er{xs:List Int}(h:xs≠[]):Gf xs∈xs∧∀ x∈xs,Gf xs≤x:=by
 cases xs with
 |nil=>exact absurd rfl h
 |cons x xs=>
  obtain⟨h1,h2,h3⟩:=AXT xs x
  refine⟨?_,fun y hy => ?_⟩
  ·rcases h3 with h|h
   ·rw[Gf,h];simp
   ·exact Amt _ h
  ·rcases Ama.1 hy with rfl|hy
   ·exact h1
   ·exact h2 y hy
theorem Ajo{xs:List Int}{m:Int}(h1:m∈xs)(h2:∀ x∈xs,m≤x):Gf xs=m:=by
 obtain⟨g1,g2⟩:=Er (List.ne_nil_of_mem h1)
 have:=g2 m h1
 have:=h2 _ g1
 omega
theorem ARD(xs:List Int)(h:xs≠[])(hs:xs.length<9223372036854775808):Acb (xs,())=some (Gf xs,()):=by
 cases xs with
 |nil=>exact absurd rfl h
 |cons x xs=>
  rw[AZb,AL0,AM,Ah,AmS (by simp only[Amb];omega)]
  have i0:idx (x::xs) (0:Int)=some x:=by rw[E6];rfl
  simp only[i0]
  simp only[Amb]at hs
  have e:=DQ (step:=LI) (fun i (a:Int)=>(x::xs,a,((i+1:Nat):Int),())) xs (fun y a=>.inl (CJ a y)) (fun a=>.inl (a,())) (fun _ _=>True) (by omega)
   (fun i y a hi hy _=>by
    refine⟨fun m' h' => ?_,fun r h'=>by cases h'⟩
    cases h'
    rw[LI,AM,AR,AmU (by simp only[Amb];omega)]
    simp only[Ak (xs:=x::xs) (n:=i+1) (by simpa using hy)]
    rw[AS (by omega)]
    exact⟨rfl,trivial⟩)
   (fun a _=>by rw[LI,AM,AR,AmS (by simp)]) x trivial
  have e':AX LI many (x::xs,x,(1:Int),())=_:=e
  rw[e',Ba]
  rfl
def plain(xs:List Int):List Int:=if Rt xs∧xs≠[]then A5 xs (Gf xs)else []
theorem AUg(xs:List Int):ABv (xs,())=some (plain xs,()):=by
 rw[AID,Rf,plain]
 simp only[P5]
 by_cases hr:Rt xs
 ·have hl:=hr.1
  simp only[hr,Amg,Amf,Aom]
  by_cases h:xs=[]
  ·subst h;simp[AM,B4]
  ·have hp:0<xs.length:=List.length_pos_iff.2 h
   rw[AM,Ar,AmS (by omega)]
   have hm:=(Er h).1
   have hk:xs.findIdx (fun x=>decide (x=Gf xs))<xs.length:=Aog.2 ⟨_,hm,by simp⟩
   simp only[ARD xs h (by omega),QV xs _ (show xs.length<9223372036854775808 by omega)]
   rw[pos,Amk hm,Amk (by simpa using h),A5]
   simp only[AAg xs _ (AoE hk) (by omega)]
 ·simp[hr]
theorem Hu{xs:List Int}(hr:Rt xs)(h:xs≠[]):∃ a b,xs=a++Gf xs::b∧plain xs=Gf xs::b++a:=by
 obtain⟨a,b,h1,_,h2⟩:=ABx (Er h).1
 exact⟨a,b,h1,by rw[plain,Amk ⟨hr,h⟩,h2]⟩
end Go.Pev.Pl
end
section
namespace Go.Pev.Pl
open Tok
def TI(n:Int)(xs:List Int):Prop:=∃ L,xs=L.map (Di n)∧(∀ t∈L,okT n t)∧T L
noncomputable instance (n:Int) (xs:List Int):Decidable (TI n xs):=Classical.propDecidable _
abbrev AYV:=List Int×List (Int×Int)×List (Int×Int)
abbrev Aky:=(Bool×Unit)⊕(List Int×List (Int×Int)×List (Int×Int)×Unit)⊕Unit
def goF(n x:Int)(s:AYV):AYV⊕Aky:=
 match B8 n x with
 |none=>.inr (.inl (false,()))
 |some t=>match Tok.step (s.1,BG s.2.1) t with
  |none=>.inr (.inl (false,()))
  |some s'=>match t with
   |.ver v=>.inl (s'.1,s.2.1,Af s.2.2 v (IntKind.wrap .i64 (((AP s.2.2 v).getD (0:Int))+(1:Int))))
   |.arc _ v=>.inl (s'.1,if v∈BG s.2.1 then s.2.1 else Af s.2.1 v 1,s.2.2)
def one(came:List (Int×Int)):Prop:=∀ k,(0<(AP came k).getD (0:Int))↔k∈BG came
theorem AcO{came:List (Int×Int)}(h:one came)(v:Int):one (Af came v 1):=by
 intro k
 rw[Dv,E5]
 by_cases e:k=v
 ·simp[e]
 ·simp only[e,Amn,false_or];exact h k
theorem AdW(n:Int)(xs:List Int)(i:Nat)(x:Int)(hx:xs[i]? = some x)(hi:i<xs.length)(hl:xs.length<4294967296)(hxr:-9223372036854775808≤x∧x≤9223372036854775807)
  (w:Int) (r:List Int) (came met:List (Int×Int)) (hr:r.length<4294967295) (hc:one came) (hsub:∀ y∈w::r,y∈BG came) :
  I8 (n,(w::r).reverse,came,met,xs,AK xs,(i:Int),())=match goF n x (w::r,came,met)with
   |.inl s=>some (.inl (n,s.1.reverse,s.2.1,s.2.2,xs,AK xs,((i+1:Nat):Int),()))
   |.inr y=>some (.inr y):=by
 have hd:AK ((w::r).reverse)=((r.length+1:Nat):Int):=by simp[AM]
 have e1:IntKind.wrap .i64 (((r.length+1:Nat):Int)-1)=(r.length:Int):=by rw[BJ (by omega)];rfl
 have i1:idx ((w::r).reverse) (r.length:Int)=some w:=by rw[AMU];simp
 have g1:Ab ((w::r).reverse) (AN (r.length:Int)) (0:Int)=w:=by rw[Fv];simp
 have f1:∀ v:Int,fits (AK ((w::r).reverse)+AK [v])=true:=fun v=>BY (by rw[hd,AM];simp only[Amb,Amw];omega)
 have ap:∀ v:Int,A2 ((w::r).reverse) [v]=(v::w::r).reverse:=fun v=>by simp[C9]
 rw[I8,AM,AR,AmU hi]
 rw[AM]at hd
 simp only[Ak hx,ATY n x hxr,goF]
 cases ht:B8 n x with
 |none=>rfl
 |some t=>
  cases t with
  |ver v=>
   simp only[O7,Amf,Am2,AM,hd,e1,i1,g1,Ar,Tok.step]
   rw[AS (by omega)]
   by_cases h:w=v
   ·simp[h]
   ·simp[h]
  |arc u v=>
   simp only[O7,Amf,AM,hd,e1,i1,g1,Ar,Tok.step]
   rw[AS (by omega)]
   by_cases h:w=u
   ·subst h
    rw[AmU rfl]
    simp only[Amf]
    cases r with
    |nil=>
     have z:ilt (0:Int) ((([]:List Int).length:Nat):Int)=false:=by rw[Ah];rfl
     simp only[z]
     rw[Ah]
     have hcv:=hc v
     by_cases hv:v∈BG came
     ·rw[AmU (hcv.2 hv)]
      simp[hv]
     ·rw[AmS (fun h=>hv (hcv.1 h))]
      have f2:=f1 v
      rw[AM,hd]at f2
      have hz:(AP came v).getD (0:Int)=0:=by rw[(YZ came v).2 hv];rfl
      have w1:IntKind.wrap .i64 ((0:Int)+1)=1:=by rw[Aj (by omega)];rfl
      rw[AM]at f2
      simp only[f2,ap v,hz,w1,hv,Amn,Am7]
    |cons p r=>
     have z:ilt (0:Int) (((p::r).length:Nat):Int)=true:=by rw[Ah,AmU (by simp only[Amb];omega)]
     have e2:IntKind.wrap .i64 ((((p::r).length:Nat):Int)-1)=(r.length:Int):=by
      rw[BJ (by simp only[Amb]at hr ⊢;omega)];rfl
     have i2:idx ((w::p::r).reverse) (r.length:Int)=some p:=by rw[AMU];simp
     have g2:Ab ((w::p::r).reverse) (AN (r.length:Int)) (0:Int)=p:=by rw[Fv];simp
     simp only[z,e2,i2,g2]
     by_cases hp:p=v
     ·subst hp
      rw[AmU rfl]
      have hmem:p∈BG came:=hsub p (by simp)
      have s1:CM ((w::p::r).reverse) (0:Int) (((p::r).length:Nat):Int)=some ((p::r).reverse):=by
       rw[JV (by simp)]
       rw[List.reverse_cons,ApJ (by simp)]
      have t1:Bn (AN (((p::r).reverse.length:Nat):Int)) ((w::p::r).reverse)=(p::r).reverse:=by
       rw[Bn,IJ,List.reverse_cons (a:=w),ApJ rfl]
      simp only[s1,t1,hmem,Am7]
     ·rw[AmS hp]
      simp only[hp,Amn]
      rw[Ah]
      have hcv:=hc v
      by_cases hv:v∈BG came
      ·rw[AmU (hcv.2 hv)]
       simp[hv]
      ·rw[AmS (fun h=>hv (hcv.1 h))]
       have f2:=f1 v
       rw[AM,hd]at f2
       have hz:(AP came v).getD (0:Int)=0:=by rw[(YZ came v).2 hv];rfl
       have w1:IntKind.wrap .i64 ((0:Int)+1)=1:=by rw[Aj (by omega)];rfl
       rw[AM]at f2
       simp only[f2,ap v,hz,w1,hv,Amn,Am7]
   ·rw[AmS h]
    simp[h]
end Go.Pev.Pl
end
section
namespace Go.Pev.Pl
open Tok
theorem Cb{a b:List Int}(ha:a.Nodup)(h:∀ x∈a,x∈b):a.length≤b.length:=by
 induction a generalizing b with
 |nil=>simp
 |cons x a ih=>
  obtain⟨b1,b2,rfl⟩:=ApL (h x (by simp))
  rw[Am3]at ha
  have:=ih (b:=b1++b2) ha.2 fun y hy=>by
   have:=h y (Amt _ hy)
   simp only[AmY,Ama]at this ⊢
   rcases this with h|rfl|h
   ·exact .inl h
   ·exact absurd hy ha.1
   ·exact .inr h
  simp only[Amc,Amb]at this ⊢
  omega
theorem Rs{a b:List Int}(ha:a.Nodup)(h:∀ x∈a,x∈b)(hl:b.length≤a.length):∀ x∈b,x∈a:=by
 intro x hx
 refine AnW fun hn => ?_
 have:=Cb (a:=x::a) (b:=b) (Am3.2 ⟨hn,ha⟩) fun y hy=>by
  rcases Ama.1 hy with rfl|hy
  ·exact hx
  ·exact h y hy
 simp only[Amb]at this
 omega
theorem ABM{way c c2:List Int}(h:∀ x,x∈c↔x∈c2)(t:Tok):
  (Tok.step (way,c) t=none↔Tok.step (way,c2) t=none)∧∀ w1 c1,Tok.step (way,c) t=some (w1,c1)→∃ c1',Tok.step (way,c2) t=some (w1,c1')∧∀ x,x∈c1↔x∈c1':=by
 cases t with
 |ver v=>
  cases way with
  |nil=>simp[Tok.step]
  |cons w r=>
   by_cases e:w=v
   ·simp only[Tok.step,e,Am7]
    exact⟨by simp,fun w1 c1 hh=>by cases hh;exact⟨c2,rfl,h⟩⟩
   ·simp[Tok.step,e]
 |arc u v=>
  cases way with
  |nil=>simp[Tok.step]
  |cons w r=>
   by_cases e:w=u
   ·cases r with
    |nil=>
     by_cases hv:v∈c
     ·simp[Tok.step,e,hv,(h v).1 hv]
     ·have hv2:v∉c2:=fun q=>hv ((h v).2 q)
      simp only[Tok.step,e,Am7,hv,hv2,Amn]
      exact⟨by simp,fun w1 c1 hh=>by cases hh;exact⟨v::c2,rfl,fun x=>by simp[h]⟩⟩
    |cons p r=>
     by_cases e2:p=v
     ·simp only[Tok.step,e,Am7,e2]
      exact⟨by simp,fun w1 c1 hh=>by cases hh;exact⟨c2,rfl,h⟩⟩
     ·by_cases hv:v∈c
      ·simp[Tok.step,e,e2,hv,(h v).1 hv]
      ·have hv2:v∉c2:=fun q=>hv ((h v).2 q)
       simp only[Tok.step,e,Am7,e2,hv,hv2,Amn]
       exact⟨by simp,fun w1 c1 hh=>by cases hh;exact⟨v::c2,rfl,fun x=>by simp[h]⟩⟩
   ·simp[Tok.step,e]
structure GI(s:AYV):Prop where
 ne:s.1≠[]
 one:one s.2.1
 sub:∀ y∈s.1,y∈BG s.2.1
 nc:(BG s.2.1).Nodup
 nm:(BG s.2.2).Nodup
theorem AZy{n x:Int}{s s':AYV}(hi:GI s)(h:goF n x s = .inl s'):
  GI s'∧s'.1.length≤s.1.length+1∧∃ t c1,B8 n x=some t∧Tok.step (s.1,BG s.2.1) t=some (s'.1,c1)∧(∀ x,x∈c1↔x∈BG s'.2.1)∧(∀ y,y∈BG s'.2.2↔y∈BG s.2.2∨Tok.ver y=t):=by
 rw[goF]at h
 cases ht:B8 n x with
 |none=>rw[ht]at h;cases h
 |some t=>
  rw[ht]at h
  simp only at h
  cases hs:Tok.step (s.1,BG s.2.1) t with
  |none=>rw[hs]at h;cases h
  |some q=>
   obtain⟨w1,c1⟩:=q
   rw[hs]at h
   rcases B1 hs with⟨v,r,rfl,hw,e⟩|⟨u,v,r,rfl,hw,e⟩|⟨u,v,r,rfl,hw,hh,hn,e⟩
   ·cases h
    cases e
    refine⟨⟨hi.ne,hi.one,hi.sub,hi.nc,KM hi.nm _ _⟩,by simp,_,_,rfl,hs,fun x=>Iff.rfl,fun y => ?_⟩
    rw[E5]
    simp[or_comm]
   ·cases h
    cases e
    simp only at hw
    have hv:v∈BG s.2.1:=hi.sub v (by rw[hw];simp)
    simp only[hv,Am7]
    refine⟨⟨by simp,hi.one,fun y hy=>hi.sub y (by rw[hw];exact Amt _ hy),hi.nc,hi.nm⟩,by rw[hw];simp,_,_,rfl,hs,fun x=>Iff.rfl,fun y=>by simp⟩
   ·cases h
    cases e
    simp only at hw hn
    simp only[hn,Amn]
    refine⟨⟨by simp,AcO hi.one v,fun y hy => ?_,KM hi.nc _ _,hi.nm⟩,by rw[hw];simp,_,_,rfl,hs,fun x => ?_,fun y=>by simp⟩
    ·rw[E5]
     rcases Ama.1 hy with rfl|hy
     ·exact .inl rfl
     ·exact .inr (hi.sub y (by rw[hw];exact hy))
    ·rw[E5,Ama]
def AR6(s:AYV):Aky:=.inr (.inl (s.1.reverse,s.2.1,s.2.2,()))
theorem AdU(n:Int):∀ (xs:List Int) (s:AYV) (c:List Int),GI s→(∀ x,x∈c↔x∈BG s.2.1) →
  (∃ L s' c',xs=L.map (Di n)∧(∀ t∈L,okT n t)∧run (s.1,c) L=some (s'.1,c')∧walk (goF n) AR6 xs s=AR6 s'∧GI s'∧(∀ x,x∈c'↔x∈BG s'.2.1)∧(∀ x,x∈BG s'.2.2↔x∈BG s.2.2∨Tok.ver x∈L)) ∨
  (walk (goF n) AR6 xs s = .inl (false,())∧∀ L,xs=L.map (Di n)→(∀ t∈L,okT n t)→run (s.1,c) L=none):=by
 intro xs
 induction xs with
 |nil=>intro s c hi hc;exact .inl ⟨[],s,c,rfl,by simp,rfl,rfl,hi,hc,by simp⟩
 |cons x xs ih=>
  intro s c hi hc
  rw[walk]
  have bad:∀ {t},B8 n x=some t→Tok.step (s.1,BG s.2.1) t=none→∀ L,x::xs=L.map (Di n)→(∀ t∈L,okT n t)→run (s.1,c) L=none:=by
   intro t ht hs L hL hok
   cases L with
   |nil=>cases hL
   |cons t' L=>
    simp only[Am0,Amp]at hL
    have h1:=Dr (hok t' (by simp))
    rw[← hL.1,ht]at h1
    cases h1
    rw[A1,((ABM hc t).1).2 hs]
    rfl
  cases hg:goF n x s with
  |inr r=>
   simp only
   have hr:r = .inl (false,())∧∀ L,x::xs=L.map (Di n)→(∀ t∈L,okT n t)→run (s.1,c) L=none:=by
    rw[goF]at hg
    cases ht:B8 n x with
    |none=>
     rw[ht]at hg
     cases hg
     refine⟨rfl,fun L hL hok => ?_⟩
     cases L with
     |nil=>cases hL
     |cons t' L=>
      simp only[Am0,Amp]at hL
      have h1:=Dr (hok t' (by simp))
      rw[← hL.1,ht]at h1
      cases h1
    |some t=>
     rw[ht]at hg
     simp only at hg
     cases hs:Tok.step (s.1,BG s.2.1) t with
     |none=>rw[hs]at hg;cases hg;exact⟨rfl,bad ht hs⟩
     |some q=>
      rw[hs]at hg
      cases t<;>cases hg
   rw[hr.1]
   exact .inr ⟨rfl,hr.2⟩
  |inl s'=>
   simp only
   obtain⟨hi',_,t,c1,ht,hs,hcc,hm⟩:=AZy hi hg
   obtain⟨c1',hs',hcc'⟩:=(ABM (c:=BG s.2.1) (c2:=c) (fun x=>(hc x).symm) t).2 _ _ hs
   obtain⟨g1,g2⟩:=Wu ht
   rcases ih s' c1' hi' (fun x=>(hcc' x).symm.trans (hcc x))with⟨L,s2,c2,a1,a2,a3,a4,a5,a6,a7⟩|⟨a1,a2⟩
   ·refine .inl ⟨t::L,s2,c2,by simp[g2,a1],?_,by rw[A1,hs'];exact a3,a4,a5,a6,fun y => ?_⟩
    ·intro y hy
     rcases Ama.1 hy with rfl|hy
     ·exact g1
     ·exact a2 y hy
    ·rw[a7,hm,Ama,or_assoc]
   ·refine .inr ⟨a1,fun L hL hok => ?_⟩
    cases L with
    |nil=>cases hL
    |cons t' L=>
     simp only[Am0,Amp]at hL
     have h1:=Dr (hok t' (by simp))
     rw[← hL.1,ht]at h1
     cases h1
     rw[A1,hs']
     exact a2 L hL.2 fun y hy=>hok y (Amt _ hy)
theorem AUd:∀ {l:List Tok} {s s':List Int×List Int},run s l=some s'→s'.1.getLast? = s.1.getLast? := by
 intro l
 induction l with
 |nil=>intro s s' h;cases h;rfl
 |cons t l ih=>
  intro s s' h
  rw[A1,AnA]at h
  obtain⟨s1,h1,h2⟩:=h
  rw[ih h2]
  rcases B1 h1 with⟨v,r,rfl,hw,rfl⟩|⟨u,v,r,rfl,hw,rfl⟩|⟨u,v,r,rfl,hw,hh,hn,rfl⟩
  ·rfl
  ·rw[hw,ApN]
  ·rw[hw,ApN]
theorem Afg:∀ {l:List Tok} {s s':List Int×List Int},run s l=some s'→Tok.Inv s→∀ x,Tok.ver x∈l→x∈s'.2:=by
 intro l
 induction l with
 |nil=>intro s s' _ _ x hx;cases hx
 |cons t l ih=>
  intro s s' h hi x hx
  rw[A1,AnA]at h
  obtain⟨s1,h1,h2⟩:=h
  obtain⟨i1,i2,i3⟩:=ABL h1 hi
  rcases Ama.1 hx with rfl|hx
  ·have:=(It h2 i1).2.1
   refine this x (i1.2 x ?_)
   simp only[st]at i3
   exact List.mem_of_head? i3
  ·exact ih h2 i1 x hx
theorem Acl{n:Int}{L:List Tok}(h:(L.map (Di n)).Nodup):L.Nodup:=by
 rw[List.Nodup,Anx]at h
 exact h.imp fun h e=>h (by rw[e])
theorem AaE{n x:Int}{xs:List Int}(h:TI n (x::xs))(hm:Gf (x::xs)=x):In n x:=by
 obtain⟨L,h1,h2,h3⟩:=h
 obtain⟨v,r,hr⟩:=h3.ASZ
 have hv:Tok.ver v∈L:=(hr.mem _).2 (by simp)
 have hvx:v∈x::xs:=by rw[h1];exact Amo.2 ⟨_,hv,rfl⟩
 have h4:=(Er (xs:=x::xs) (by simp)).2 v hvx
 rw[hm]at h4
 have h5:=(h2 _ hv).2.2.2
 cases L with
 |nil=>cases h1
 |cons t L=>
  simp only[Am0,Amp]at h1
  have h6:=h2 t (by simp)
  cases t with
  |ver w=>rw[h1.1];exact h6
  |arc p q=>
   have:=(AAD h6.1 h6.2.1).1
   have e:x=n*(p+1)+q:=h1.1
   omega
theorem Ahe(n:Int)(xs:List Int)(h0:xs≠[])(hs:xs.length<2147483648)(hr:∀ x∈xs, -9223372036854775808≤x∧x≤9223372036854775807)(hn:xs.Nodup)(hm:∀ x,xs.head? = some x→Gf xs=x):
  goes (n,xs,())=some (decide (TI n xs),()):=by
 cases xs with
 |nil=>exact absurd rfl h0
 |cons x0 tl=>
  rw[AZx,AMj]
  have i0:idx (x0::tl) (0:Int)=some x0:=by rw[E6];rfl
  simp only[i0,Zy]
  by_cases hin:In n x0
  ·rw[AmU hin]
   simp only[Amf]
   have hS:GI ([x0],Af [] x0 1,[]):=by
    refine⟨by simp,fun k => ?_,fun y hy => ?_,?_,by simp[BG]⟩
    ·have:AP (Af ([]:List (Int×Int)) x0 1) k=if k=x0 then some 1 else none:=by rw[Dv];rfl
     rw[this]
     by_cases e:k=x0<;>simp[e,Af,BG]
    ·simp at hy;subst hy;simp[Af,BG]
    ·simp[Af,BG]
   have e:=DQ (step:=I8) (fun i (s:AYV)=>(n,s.1.reverse,s.2.1,s.2.2,x0::tl,AK (x0::tl),(i:Int),())) (x0::tl) (goF n) AR6 (fun i s=>GI s∧s.1.length≤i+1) (by omega)
    (fun i x s hi hx ⟨hI,hlen⟩=>by
     obtain⟨way,came,met⟩:=s
     cases way with
     |nil=>exact absurd rfl hI.ne
     |cons w r=>
      have hst:=AdW n (x0::tl) i x hx hi (by omega) (hr x (Amj hx)) w r came met (by simp only[Amb]at hlen hi hs;omega) hI.one hI.sub
      refine⟨fun s' h' => ?_,fun y h' => ?_⟩
      ·rw[h']at hst
       obtain⟨g1,g2,_⟩:=AZy hI h'
       refine⟨hst,g1,?_⟩
       simp only at g2 hlen
       omega
      ·rw[h']at hst
       exact hst)
    (fun s _=>by rw[I8,AM,AR,AmS (by omega)];rfl) ([x0],Af [] x0 1,[]) ⟨hS,by simp⟩
   have e':AX I8 many (n,[x0],Af [] x0 1,[],x0::tl,AK (x0::tl),(0:Int),())=_:=e
   rw[e']
   have hk0:BG (Af ([]:List (Int×Int)) x0 1)=[x0]:=rfl
   rcases AdU n (x0::tl) ([x0],Af [] x0 1,[]) [x0] hS (fun x=>by rw[hk0])with⟨L,s',c',a1,a2,a3,a4,a5,a6,a7⟩|⟨a1,a2⟩
   ·rw[a4]
    obtain⟨t,L',rfl⟩:∃ t L',L=t::L':=by cases L with
     |nil=>cases a1
     |cons t L'=>exact⟨t,L',rfl⟩
    have ht:t = .ver x0:=by
     have h1:=Dr (a2 t (by simp))
     simp only[Am0,Amp]at a1
     rw[← a1.1,B8,Amk hin]at h1
     exact(AnX h1).symm
    subst ht
    have hLn:(Tok.ver x0::L').Nodup:=Acl (n:=n) (by rw[← a1];exact hn)
    have hbot:=AUd a3
    have hvs:=Afg a3 (Ow x0)
    have hk:(BG s'.2.2).length≤(BG s'.2.1).length:=Cb a5.nm fun x hx=>by
     have:=(a7 x).1 hx
     simp only[BG,AoR,AoH,false_or]at this
     exact(a6 x).1 (hvs x this)
    have hiff:(s'.1.length=1∧(BG s'.2.2).length=(BG s'.2.1).length)↔TI n (x0::tl):=by
     constructor
     ·rintro⟨l1,l2⟩
      obtain⟨w,hw⟩:=List.length_eq_one_iff.1 l1
      rw[hw]at hbot a3
      simp at hbot
      subst hbot
      refine⟨_,a1,a2,Tok.Ao.toT ⟨w,L',c',rfl,a3,fun x hx => ?_⟩ hLn⟩
      have h1:=Rs a5.nm (fun x hx=>by
       have:=(a7 x).1 hx
       simp only[BG,AoR,AoH,false_or]at this
       exact(a6 x).1 (hvs x this)) (by omega) x ((a6 x).1 hx)
      have:=(a7 x).1 h1
      simpa [BG]using this
     ·rintro⟨K,k1,k2,k3⟩
      have hKL:K=Tok.ver x0::L':=by
       have:∀ (A B:List Tok),A.map (Di n)=B.map (Di n)→(∀ t∈A,okT n t)→(∀ t∈B,okT n t)→A=B:=by
        intro A
        induction A with
        |nil=>intro B h _ _;cases B with
         |nil=>rfl
         |cons b B=>cases h
        |cons a A ih=>
         intro B h hA hB
         cases B with
         |nil=>cases h
         |cons b B=>
          simp only[Am0,Amp]at h
          rw[GQ (hA a (by simp)) (hB b (by simp)) h.1,ih B h.2 (fun t ht=>hA t (by simp[ht])) fun t ht=>hB t (by simp[ht])]
       exact this _ _ (by rw[← k1,a1]) k2 a2
      subst hKL
      obtain⟨r,l',c,q1,q2,q3⟩:=k3.AKB
      cases q1
      rw[a3]at q2
      cases hs':s'.1 with
      |nil=>rw[hs']at q2;cases q2
      |cons w r'=>
       rw[hs']at q2
       cases q2
       refine⟨rfl,?_⟩
       have:=Cb a5.nc (b:=BG s'.2.2) fun x hx=>(a7 x).2 (.inr (q3 x ((a6 x).2 hx)))
       omega
    simp only[AR6,Ar,AM,List.length_reverse]
    rw[WU,WU]at hiff
    by_cases l1:s'.1.length=1
    ·rw[AmU (show(s'.1.length:Int)=1 by omega)]
     simp only[l1,Aom]at hiff
     by_cases l2:s'.2.2.length=s'.2.1.length
     ·rw[AmU (show(s'.2.2.length:Int)=(s'.2.1.length:Int) by omega),AmU (hiff.1 l2)]
     ·rw[AmS (show ¬ (s'.2.2.length:Int)=(s'.2.1.length:Int) by omega),AmS (fun h=>l2 (hiff.2 h))]
    ·rw[AmS (show ¬ (s'.1.length:Int)=1 by omega),AmS (fun h=>l1 (hiff.2 h).1)]
   ·rw[a1]
    have:¬ TI n (x0::tl):=by
     rintro⟨K,k1,k2,k3⟩
     obtain⟨r,l',c,q1,q2,q3⟩:Tok.Ao K:=by
      obtain⟨t,L',rfl⟩:∃ t L',K=t::L':=by cases K with
       |nil=>cases k1
       |cons t L'=>exact⟨t,L',rfl⟩
      have h1:=Dr (k2 t (by simp))
      simp only[Am0,Amp]at k1
      rw[← k1.1,B8,Amk hin]at h1
      cases h1
      exact k3.AKB
     have hr0:r=x0:=by
      subst q1
      simp only[Am0,Amp]at k1
      exact k1.1.symm
     subst hr0
     have:=a2 K k1 k2
     simp only at this
     rw[q2]at this
     cases this
    simp[this]
  ·rw[AmS hin]
   have:¬ TI n (x0::tl):=fun h=>hin (AaE h (hm x0 rfl))
   simp[this]
end Go.Pev.Pl
end
end
section
namespace Go.Pev.Pl.Tok
theorem AkG{v:Int}{p:List Tok}{c:List Int}(h:run ([v],[v]) p=some ([v],c))(hc:∀ x∈c,Tok.ver x∈p)(hn:p.Nodup):T p:=by
 cases p with
 |nil=>
  cases h
  have:=hc v (by simp)
  cases this
 |cons t p=>
  have h':=h
  rw[A1,AnA]at h'
  obtain⟨s1,h1,h2⟩:=h'
  rcases B1 h1 with⟨y,r,rfl,hw,rfl⟩|⟨a,b,r,rfl,hw,rfl⟩|⟨a,b,r,rfl,hw,hh,hnc,rfl⟩
  ·simp only[Amp]at hw
   obtain⟨rfl,rfl⟩:=hw
   exact Ao.toT ⟨_,p,c,rfl,h,hc⟩ hn
  ·simp at hw
  ·simp only[Amp]at hw
   obtain⟨rfl,rfl⟩:=hw
   simp only at hnc
   have hne:v≠b:=by rintro rfl;exact hnc (by simp)
   have hT:T ([Tok.arc v b]++comp [Tok.arc v b] [b,v]):=by
    have:comp [Tok.arc v b] [b,v]=[.ver b,.arc b v,.ver v]:=by simp[comp]
    rw[this]
    have h3:=T.add (.ver v) [] b (T.one v) hne (by simp;exact Am8 hne)
    exact T.rot [.ver v] [.arc v b,.ver b,.arc b v] h3
   have:=Ahg p [.arc v b] [b,v] [b,v] c v (.arc v b) h2 ⟨by simp;exact Am8 hne,by simp⟩ (by simp) rfl hT (by
    intro x hx
    have e:comp [Tok.arc v b] [b,v]=[.ver b,.arc b v,.ver v]:=by simp[comp]
    rw[e]at hx
    simp at hx
    simp[hx]) hc hn
   exact this
theorem T.join{u v:Int}{a b:List Tok}(hA:T (.ver u::a))(hB:T (.ver v::b))(hd:∀ x,Tok.ver x∈Tok.ver u::a→Tok.ver x∉Tok.ver v::b):
  T (.ver u :: .arc u v::(.ver v::b ++ .arc v u::a)):=by
 obtain⟨_,fA2,fA3⟩:=hA.facts
 obtain⟨_,fB2,fB3⟩:=hB.facts
 have nA:=hA.nodup
 have nB:=hB.nodup
 obtain⟨_,_,c1,e1,h1,m1⟩:=hA.AKB
 cases e1
 obtain⟨_,_,c2,e2,h2,m2⟩:=hB.AKB
 cases e2
 have huv:u≠v:=by rintro rfl;exact hd u (by simp) (by simp)
 have nAB:∀ t,t∈Tok.ver u::a→t∉Tok.ver v::b:=fun t ht hb=>hd _ (fA2 t ht) (fB2 t hb)
 have n1:Tok.arc u v∉Tok.ver u::a:=fun h=>hd v (fA3 _ _ h).2.1 (by simp)
 have n2:Tok.arc u v∉Tok.ver v::b:=fun h=>hd u (by simp) (fB3 _ _ h).1
 have n3:Tok.arc v u∉Tok.ver u::a:=fun h=>hd v (fA3 _ _ h).1 (by simp)
 have n4:Tok.arc v u∉Tok.ver v::b:=fun h=>hd u (by simp) (fB3 _ _ h).2.1
 have hnd:(Tok.ver u :: .arc u v::(.ver v::b ++ .arc v u::a)).Nodup:=by
  rw[Am3]at nA
  have q1:Tok.ver u∉Tok.ver v::b:=nAB _ (by simp)
  rw[Am3,Am3,AoN,Am3 (a:=Tok.arc v u)]
  refine⟨?_,?_,nB,⟨fun h=>n3 (Amt _ h),nA.2⟩,fun x hx y hy => ?_⟩
  ·intro h
   rcases Ama.1 h with h|h
   ·cases h
   ·rcases AmY.1 h with h|h
    ·exact q1 h
    ·rcases Ama.1 h with h|h
     ·cases h
     ·exact nA.1 h
  ·intro h
   rcases AmY.1 h with h|h
   ·exact n2 h
   ·rcases Ama.1 h with h|h
    ·cases h;exact huv rfl
    ·exact n1 (Amt _ h)
  ·rintro rfl
   rcases Ama.1 hy with h|h
   ·subst h;exact n4 hx
   ·exact nAB x (Amt _ h) hx
 rw[A1,DY,AnC]at h1
 obtain⟨d2,k1,k2⟩:=HP (Z:=(· = u)) (c2:=[v,u]) (low:=[u]) h2 (by simp) (fun y=>by simp) (fun p w hm=>by rintro rfl;exact hd w (by simp) (fB3 _ _ hm).2.1) (by simp)
 obtain⟨d3,g1,g2⟩:=HP (Z:=(·∈c2)) (c2:=d2) (low:=[]) h1 (by simp) (fun y=>by rw[k2];simp[or_comm]) (fun p w hm hz=>hd w (fA3 _ _ (Amt _ hm)).2.1 (m2 w hz)) (by simp)
 refine Ao.toT ⟨u,_,d3,rfl,?_,fun x hx => ?_⟩ hnd
 ·rw[A1,DY,AnC,A1,FV _ _ _ _ (by simp) (by simp;exact Am8 huv),AnC,DZ]
  rw[show([v]++[u]:List Int)=[v,u]from rfl]at k1
  rw[k1,AnC,A1,GY,AnC]
  simpa using g1
 ·rcases(g2 x).1 hx with h|h
  ·have:=m1 x h
   simp only[Ama,AmY]at this ⊢
   rcases this with h|h<;>simp[h]
  ·have:=m2 x h
   simp only[Ama,AmY]at this ⊢
   rcases this with h|h<;>simp[h]
theorem AlD{u v:Int}(huv:u≠v):∀ {l:List Tok} {x w1 c c1 c0:List Int},run (x++[v,u],c) l=some (w1,c1)→Tok.arc v u∉l→(∀ y,y∈c↔y∈c0∨y=u)→u∉c0 →
  ∃ x' d,w1=x'++[v,u]∧run (x++[v],c0) l=some (x'++[v],d)∧(∀ y,y∈c1↔y∈d∨y=u)∧u∉d:=by
 intro l
 induction l with
 |nil=>intro x w1 c c1 c0 h _ hc hu;cases h;exact⟨x,c0,rfl,rfl,hc,hu⟩
 |cons t l ih=>
  intro x w1 c c1 c0 h hna hc hu
  rw[A1,AnA]at h
  obtain⟨s1,h1,h2⟩:=h
  have hna':Tok.arc v u∉l:=fun h=>hna (Amt _ h)
  rcases B1 h1 with⟨y,r,rfl,hw,rfl⟩|⟨a,b,r,rfl,hw,rfl⟩|⟨a,b,r,rfl,hw,hh,hnc,rfl⟩
  ·obtain⟨x',d,g1,g2,g3⟩:=ih h2 hna' hc hu
   refine⟨x',d,g1,?_,g3⟩
   simp only at hw
   have:∃ r',x++[v]=y::r':=by
    cases x with
    |nil=>simp at hw;exact⟨[],by simp[hw.1]⟩
    |cons z x=>simp at hw;exact⟨x++[v],by simp[hw.1]⟩
   obtain⟨r',e⟩:=this
   rw[A1,e,DY,AnC,← e]
   exact g2
  ·simp only at hw
   cases x with
   |nil=>
    simp only[Am5,Amp]at hw
    obtain⟨rfl,rfl,_⟩:=hw
    exact absurd (by simp) hna
   |cons z x=>
    simp only[Amy,Amp]at hw
    obtain⟨rfl,hw⟩:=hw
    simp only[← hw]at h2
    obtain⟨x',d,g1,g2,g3⟩:=ih h2 hna' hc hu
    refine⟨x',d,g1,?_,g3⟩
    have:∃ r',x++[v]=b::r':=by
     cases x with
     |nil=>simp at hw;exact⟨[],by simp[hw.1]⟩
     |cons y x=>simp at hw;exact⟨x++[v],by simp[hw.1]⟩
    obtain⟨r',e⟩:=this
    rw[A1,Amy,e,GY,AnC,← e]
    exact g2
  ·simp only at hw hnc
   have hub:u≠b:=by rintro rfl;exact hnc ((hc u).2 (.inr rfl))
   have hbc:b∉c0:=fun h=>hnc ((hc b).2 (.inl h))
   have h2':run ((b::x)++[v,u],b::c) l=some (w1,c1):=by
    rw[← hw]at h2
    exact h2
   obtain⟨x',d,g1,g2,g3⟩:=ih (c0:=b::c0) h2' hna' (fun y=>by simp only[Ama,hc,or_assoc]) (by
    intro hm
    rcases Ama.1 hm with h|h
    ·exact hub h
    ·exact hu h)
   refine⟨x',d,g1,?_,g3⟩
   have:∃ r',x++[v]=a::r'∧r'.head?≠some b:=by
    cases x with
    |nil=>
     simp at hw
     exact⟨[],by simp[hw.1],by simp⟩
    |cons z x=>
     simp only[Amy,Amp]at hw
     refine⟨x++[v],by simp[hw.1],?_⟩
     rw[← hw.2]at hh
     cases x with
     |nil=>simpa using hh
     |cons y x=>simpa using hh
   obtain⟨r',e,e2⟩:=this
   rw[A1,e,FV _ _ _ _ e2 hbc,AnC,← e]
   exact g2
theorem T.split{u v:Int}{p q:List Tok}(h:T (.arc u v::(p ++ .arc v u::q))):T p∧Tok.ver v∈p:=by
 have hn:=h.nodup
 obtain⟨_,f2,f3⟩:=h.facts
 have huv:u≠v:=(f3 u v (by simp)).2.2.2
 obtain⟨t,ht⟩:∃ t,(Tok.arc u v::(p ++ .arc v u::q)).getLast? = some t:=⟨_,Ao2 (by simp)⟩
 obtain⟨c,h1,h2⟩:=h.toC _ (Rot.refl _) t ht
 rw[A1,AnA]at h1
 obtain⟨s1,k1,k2⟩:=h1
 rcases B1 k1 with⟨y,r,e,hw,_⟩|⟨a,b,r,e,hw,_⟩|⟨a,b,r,e,hw,hh,hnc,rfl⟩
 ·cases e
 ·cases e;simp at hw
 ·cases e
  simp only[Amp]at hw
  obtain⟨htu,rfl⟩:=hw
  rw[htu]at k2
  simp only at k2
  rw[DZ,AnA]at k2
  obtain⟨⟨w1,c1⟩,g1,g2⟩:=k2
  have hi:Inv ([v,u],[v,u]):=⟨by simp;exact Am8 huv,by simp⟩
  obtain⟨i1,i2,_⟩:=It g1 hi
  rw[Am3,AoN,Am3 (a:=Tok.arc v u)]at hn
  have hnp:Tok.arc v u∉p:=fun hm=>hn.2.2.2 _ hm _ (by simp) rfl
  obtain⟨x',d,e1,e2,e3,e4⟩:=AlD (x:=[]) (c0:=[v]) huv g1 hnp (fun y=>by simp) (by simp;exact huv)
  rw[A1,AnA]at g2
  obtain⟨s2,j1,j2⟩:=g2
  have hx':x'=[]∧s2=([u],c1):=by
   rcases B1 j1 with⟨y,r,e,hw,_⟩|⟨a,b,r,e,hw,hs⟩|⟨a,b,r,e,hw,hh,hnc,_⟩
   ·cases e
   ·cases e
    simp only at hw
    rw[e1]at hw
    cases x' with
    |nil=>
     simp only[Am5,Amp,Aom]at hw
     rw[hs,← hw]
     exact⟨rfl,rfl⟩
    |cons z x'=>
     exfalso
     have hnd:=i1.1
     simp only at hnd
     rw[e1,hw]at hnd
     simp only[Amy,Amp]at hw
     have:v∈u::r:=by rw[← hw.2];simp
     rw[Am3]at hnd
     exact hnd.1 this
   ·cases e
    exact absurd (i2 u (by simp)) hnc
  obtain⟨rfl,rfl⟩:=hx'
  have hmet:∀ x∈d,Tok.ver x∈p:=by
   intro x hx
   have hxu:x≠u:=by rintro rfl;exact e4 hx
   have hx1:x∈c1:=(e3 x).2 (.inl hx)
   have hi2:Inv ([u],c1):=⟨by simp,fun y hy=>by simp at hy;subst hy;exact i2 y (by simp)⟩
   have hx2:=(It j2 hi2).2.1 x hx1
   have hx3:=(h2 x).1 hx2
   obtain⟨g,_⟩:=ABn (z:=x) (c:=c1.filter (·≠x)) j2 (by simp;exact hxu) (fun y=>by
    simp only[AnG,AmV]
    constructor
    ·intro hh
     by_cases e:y=x
     ·exact .inr e
     ·exact .inl ⟨hh,by simpa using e⟩
    ·rintro (hh|rfl)
     ·exact hh.1
     ·exact hx1) (by simp)
   simp only[Ama,reduceCtorEq,AmY,false_or]at hx3
   rcases hx3 with hh|hh
   ·exact hh
   ·exact absurd hh g
  have e2':run ([v],[v]) p=some ([v],d):=e2
  have hvd:v∈d:=(It e2' (Ow v)).2.1 v (by simp)
  exact⟨AkG e2' hmet hn.2.1,hmet v hvd⟩
end Go.Pev.Pl.Tok
end
section
namespace Go.Pev
open Go.RowKit
def AHt{R:Type}(slot:Nat)(H:List Ob)(fz:List Bool)(k:AV→Eff→Option R)(v:AV)(e:Eff):Option R:=
 match e.heap with
 |none=>match v with
  |.win id 0 n=>match(CN e H)[id]? with
   |some (.arr T t xs)=>match Ag (F5 e fz) id&&Au (CN e H) (F5 e fz) (slot+3)&&(e.objs.any fun p=>Nat.beq p.1 id)with
    |true=>k (.own (slot+3)) { objs:=e.objs++[(id,.dead),(slot+3,.arr T t (Bn n xs))],frz:=e.frz }
    |false=>none
   |_=>none
  |_=>none
 |some _=>none
def J9(s:Spec):Spec:=fun R args H fz slot k=>s R args H fz slot (AHt slot H fz k)
section
variable {P:Program} {g:FuncId}
theorem AdV{w:World}{F:Nat→Prop}{m:Mp}{H:List Ob}{fz:List Bool}(hi:HI w F m H fz){id n slot:Nat}{T:TypeId}{t:Ty}{xs:List t.den}(ho:H[id]? = some (.arr T t xs))(hf:Ag fz id=true)
  (hs:Au H fz slot=true) {u:Value} (hr:Rep w F m H (.win id 0 n) u) :
  ∃ m',Ao w F m H fz w F m' ((H.set id .dead).set slot (.arr T t (Bn n xs))) fz∧Rep w F m' ((H.set id .dead).set slot (.arr T t (Bn n xs))) (.own slot) u:=by
 have hob:=hi.obj id _ ho
 obtain⟨h0,hob⟩:=hob
 unfold Rep at hr
 rw[ho]at hr
 obtain⟨hle,hr⟩:=hr
 rw[AnU]at hle
 have hsn:slot≠id:=AMl hs ho
 have hkill:=Ao.kill hi (CC ho hf)
 have zero:∀ a,n=0→u = .slice a 0 0→∃ m',Ao w F m H fz w F m' ((H.set id .dead).set slot (.arr T t (Bn n xs))) fz∧Rep w F m' ((H.set id .dead).set slot (.arr T t (Bn n xs))) (.own slot) u:=by
  intro a hn hu
  subst hn;subst hu
  obtain⟨m',hg,hrep⟩:=Dg (w:=w) hkill.2 (LU hs hsn) T h0 a
  exact⟨m',hkill.trans hg,hrep⟩
 cases hm:m id with
 |none=>
  rw[hm]at hr hob
  obtain⟨a,e1⟩:=hr
  simp only at hob
  subst hob
  have hn:n=0:=by simpa using hle
  exact zero a hn (by rw[e1,hn])
 |some p=>
  obtain⟨b,cap⟩:=p
  rw[hm]at hr hob
  obtain⟨vs,row,e1,e2,e3,e4,e7,e8⟩:=hob
  obtain⟨a,rfl,ha⟩:=hr
  rcases Anl cap with hc|hc
  ·have:n=0:=by omega
   exact zero a this (by rw[this,hc])
  ·have:=ha hc
   rw[Ao4]at this
   subst this
   have hk:=fun(x:t.den) cs (h:Dat w F t x cs)=>Dat.length t h
   have hlen:(xs.take n).length=n:=by rw[Amm];omega
   have hrw:=Ds hk n e7
   have hrl:=A4 hk hrw
   rw[hlen]at hrl
   have hg:=Ao.move (w':=w) hi (CC ho hf) hm hs (ob:=.arr T t (Bn n xs)) trivial (b':=b) (c':=cap) (.inl rfl) rfl rfl rfl (Amd _) (fun _ _ _=>rfl) (fun _=>⟨h0,vs,row.take (n*t.size),e1,by
    show(xs.take n).length≤cap
    rw[hlen];omega,e3,e4,hrw,by
    rw[hrl,← e8,Aoe,AnL]
    rw[A4 hk e7]
    exact AnO _ hle⟩)
   refine⟨_,hg,?_⟩
   have hlts:=Al (BL hs).1
   unfold Rep
   rw[Av (by simpa using hlts),Aq]
   show Value.slice _ n (cap-0)=Value.slice _ (xs.take n).length cap
   rw[hlen,Nat.sub_zero]
theorem Xs{s:Spec}(hs:AO P g s):AO P g (J9 s):=by
 intro R args H fz slot k r hk
 obtain⟨v,e,h1,h2,h3,h4⟩:=hs R args H fz slot _ r hk
 unfold AHt at h1
 split at h1
 ·rename_i he
  split at h1
  ·rename_i id n
   split at h1
   ·rename_i T t xs ho
    split at h1
    ·rename_i hc
     refine⟨_,_,h1,fun R' k' => ?_,h3,fun w F m vals hi hr => ?_⟩
     ·unfold J9
      rw[h2]
      simp only[AHt,he,ho,hc]
     ·refine(h4 w F m vals hi hr).mono ?_
      rintro en w' ⟨u,rfl,F',m',hg,hrep⟩
      simp only[AmX]at hc
      obtain⟨m2,hg2,hr2⟩:=AdV hg.2 ho hc.1.1 hc.1.2 hrep
      have eH:CN { objs:=e.objs++[(id,.dead),(slot+3,.arr T t (Bn n xs))],frz:=e.frz } H=((CN e H).set id .dead).set (slot+3) (.arr T t (Bn n xs)):=by
       rw[CE rfl,CE he,X0]
       rfl
      have eF:F5 { objs:=e.objs++[(id,.dead),(slot+3,.arr T t (Bn n xs))],frz:=e.frz } fz=F5 e fz:=by
       rw[CQ rfl,CQ he]
      refine⟨u,rfl,F',m2,?_,?_⟩
      ·rw[eH,eF];exact hg.trans hg2
      ·rw[eH];exact hr2
    ·cases h1
   ·cases h1
  ·cases h1
 ·cases h1
theorem YV{np na:Nat}{its outs:AE}{rs:List RS}{f:B6 (leaves its)→Option (B6 (leaves outs))}(hf:∀ x,f x=none):AO P g (AF np na its outs rs f):=by
 intro R args H fz slot k r hk
 unfold AF at hk
 split at hk
 ·cases hk
 ·split at hk
  ·cases hk
  ·rw[hf]at hk;cases hk
end
section
variable {S:List Nat} {H H':List Ob}
theorem Ha.AmJ{s:Spec}(h:Ha s):Ov s:=
 fun R args H H' fz fz' slot k S hS _ ha=>h R args H H' fz fz' slot k ⟨fun id hid=>ha.heap id (hS id hid),ha.slotH,ha.slotF,ha.len,fun id hid=>by cases hid⟩
def ADV:AE→Bool
 |[]=>true
 |(.obj _,_)::_=>false
 |_::r=>ADV r
def AlI(S:List Nat)(v:AV):Prop:=∀ id∈Am v,id∈S
def AFK(S:List Nat)(bs:List Bnd):Prop:=∀ b∈bs,∀ id,b.id? = some id→id∈S
theorem AFK.get{bs:List Bnd}(h:AFK S bs){j:Nat}{b:Bnd}{id:Nat}(hj:bs[j]? = some b)(hi:b.id? = some id):id∈S:=h b (Amj hj) id hi
theorem AFK.snoc{bs:List Bnd}(h:AFK S bs){b:Bnd}(hb:∀ id,b.id? = some id→id∈S):AFK S (bs++[b]):=by
 intro x hx id hi
 rcases AmY.1 hx with hx|hx
 ·exact h x hx id hi
 ·simp only[Amv]at hx;subst hx;exact hb id hi
theorem AZc{tm:List AV}{bs:List Bnd}{l:Loc}(hS:∀ id∈BF tm,id∈S)(hc:AAN S H)(hH:∀ id∈S,H[id]? = H'[id]?)(hb:AFK S bs)(hl:∀ j,l≠.obj j):
  look tm H bs l=look tm H' bs l∧∀ v,look tm H bs l=some v→AlI S v:=by
 cases l with
 |tmp t=>
  refine⟨rfl,fun v hv id hid=>hS id ?_⟩
  exact CS (Amj hv) hid
 |cell j c=>
  simp only[look]
  cases hj:bs[j]? with
  |none=>exact⟨rfl,fun v hv=>by cases hv⟩
  |some b=>
   cases b with
   |none=>exact⟨rfl,fun v hv=>by cases hv⟩
   |cut id=>exact⟨rfl,fun v hv=>by cases hv⟩
   |whole id=>
    have hid:=hb.get hj (id:=id) rfl
    simp only
    rw[hH id hid]
    refine⟨rfl,fun v hv => ?_⟩
    cases ho:H'[id]? with
    |none=>rw[ho]at hv;cases hv
    |some o=>
     rw[ho]at hv
     cases o<;>simp only at hv<;>first|(cases hv;done)|skip
     rename_i cs
     intro i hi
     exact hc id hid cs (by rw[hH id hid,ho]) i (CS (Amj hv) hi)
 |cap t i=>
  refine⟨rfl,fun v hv => ?_⟩
  simp only[look]at hv
  cases ht:tm[t]? with
  |none=>rw[ht]at hv;cases hv
  |some a=>
   rw[ht]at hv
   cases a<;>simp only at hv<;>first|(cases hv;done)|skip
   ·rename_i f cs
    intro id hid
    refine hS id (CS (Amj ht) ?_)
    simp only[Am]
    exact CS (Amj hv) hid
   ·rename_i f cs
    intro id hid
    refine hS id (CS (Amj ht) ?_)
    simp only[Am]
    exact CS (Amj hv) hid
 |obj j=>exact absurd rfl (hl j)
theorem Kz{f:List Nat}{fz fz':List Bool}(hl:fz.length=fz'.length){id:Nat}(h:fz.getD id false=fz'.getD id false):(Ai f fz).getD id false=(Ai f fz').getD id false:=by
 rw[Aw,Aw,h,hl]
theorem Ah5{tm:List AV}(hS:∀ id∈BF tm,id∈S)(hc:AAN S H)(hH:∀ id∈S,H[id]? = H'[id]?):∀ (its:AE) (fz fz':List Bool) (bs:List Bnd),ADV its=true→AFK S bs→fz.length=fz'.length→(∀ id∈S,fz.getD id false=fz'.getD id false) →
  dec tm H its fz bs=dec tm H' its fz' bs:=by
 intro its
 induction its with
 |nil=>intro fz fz' bs _ _ _ _;rfl
 |cons p r ih=>
  intro fz fz' bs hn hb hlen hz
  obtain⟨l,c⟩:=p
  have hno:(∀ j,l≠.obj j)∧ADV r=true:=by
   cases l with
   |obj j=>cases hn
   |tmp t=>exact⟨fun j h=>(by cases h),hn⟩
   |cell a b=>exact⟨fun j h=>(by cases h),hn⟩
   |cap a b=>exact⟨fun j h=>(by cases h),hn⟩
  obtain⟨e1,e2⟩:=AZc hS hc hH hb hno.1
  have ihr:=fun bs hb=>ih fz fz' bs hno.2 hb hlen hz
  have unf:∀ id∈S,Ag fz id=Ag fz' id:=fun id hid=>by unfold Ag;rw[hz id hid]
  cases c with
  |dat t=>
   simp only[dec,← e1]
   cases hv:look tm H bs l with
   |none=>rfl
   |some v=>
    simp only
    rw[Yn t v fun id hid=>hH id (e2 v hv id hid)]
    cases Yo H' t v with
    |none=>rfl
    |some q=>
     obtain⟨x,f⟩:=q
     simp only
     rw[ih (Ai f fz) (Ai f fz') bs hno.2 hb (by rw[Cw,Cw,hlen]) (fun id hid=>Kz hlen (hz id hid))]
  |own T e=>
   simp only[dec,← e1]
   cases hv:look tm H bs l with
   |none=>rfl
   |some v=>
    cases v with
    |nils e'=>simp only;rw[ihr _ (hb.snoc fun id h=>by cases h)]
    |own id=>
     have hid:id∈S:=e2 _ hv id (by simp[Am])
     simp only
     rw[← hH id hid,unf id hid,ihr _ (hb.snoc fun id' h=>by simp only[Bnd.id?,AmT]at h;subst h;exact hid)]
    |win id off n=>
     have hid:id∈S:=e2 _ hv id (by simp[Am])
     cases off with
     |succ off=>rfl
     |zero=>
      simp only
      rw[← hH id hid,unf id hid,ihr _ (hb.snoc fun id' h=>by simp only[Bnd.id?,AmT]at h;subst h;exact hid)]
    |_=>rfl
  |box n=>
   simp only[dec,← e1]
   cases hv:look tm H bs l with
   |none=>rfl
   |some v=>
    cases v with
    |ptr id off=>
     have hid:id∈S:=e2 _ hv id (by simp[Am])
     cases off with
     |succ off=>rfl
     |zero=>
      simp only
      rw[← hH id hid,ihr _ (hb.snoc fun id' h=>by simp only[Bnd.id?,AmT]at h;subst h;exact hid)]
    |_=>rfl
  |map k v=>
   simp only[dec,← e1]
   cases hv:look tm H bs l with
   |none=>rfl
   |some u=>
    cases u with
    |mp id=>
     have hid:id∈S:=e2 _ hv id (by simp[Am])
     simp only
     rw[← hH id hid,ihr _ (hb.snoc fun id' h=>by simp only[Bnd.id?,AmT]at h;subst h;exact hid)]
    |_=>rfl
  |rows T e t=>
   simp only[dec,← e1]
   cases hv:look tm H bs l with
   |none=>rfl
   |some u=>
    cases u with
    |own id=>
     have hid:id∈S:=e2 _ hv id (by simp[Am])
     simp only
     rw[← hH id hid,unf id hid,ihr _ (hb.snoc fun id' h=>by simp only[Bnd.id?,AmT]at h;subst h;exact hid)]
    |_=>rfl
  |mrows j e t=>
   simp only[dec,← e1]
   cases hv:look tm H bs l with
   |none=>rfl
   |some u=>
    cases u with
    |mp id=>
     have hid:id∈S:=e2 _ hv id (by simp[Am])
     simp only
     rw[← hH id hid,unf id hid,ihr _ (hb.snoc fun id' h=>by simp only[Bnd.id?,AmT]at h;subst h;exact hid)]
    |_=>rfl
  |aptr T e n=>
   simp only[dec,← e1]
   cases hv:look tm H bs l with
   |none=>rfl
   |some u=>
    cases u with
    |aptr id n'=>
     have hid:id∈S:=e2 _ hv id (by simp[Am])
     simp only
     rw[← hH id hid,unf id hid,ihr _ (hb.snoc fun id' h=>by simp only[Bnd.id?,AmT]at h;subst h;exact hid)]
    |_=>rfl
  |aptr' j n=>simp only[dec,← e1,ihr bs hb]
  |bndp f j=>simp only[dec,← e1,ihr bs hb]
  |nilp=>simp only[dec,← e1,ihr bs hb]
  |own' j=>simp only[dec,← e1,ihr bs hb]
  |ptr' j off=>simp only[dec,← e1,ihr bs hb]
  |map' j=>simp only[dec,← e1,ihr bs hb]
  |sub' j=>simp only[dec,← e1,ihr bs hb]
  |win' j=>
   simp only[dec,← e1]
   rw[ihr bs hb]
   cases hv:look tm H bs l with
   |none=>rfl
   |some v=>
    cases v with
    |own id=>
     have hid:id∈S:=e2 _ hv id (by simp[Am])
     cases bs[j]? with
     |none=>rfl
     |some b=>
      cases b with
      |whole id'=>
       refine Eq.trans (b:=match decide (id=id'),H[id]? with
        |true,some (.arr _ _ ys)=>(match dec tm H' r fz' bs with
         |some (xs,bs',g)=>some ((AK ys,xs),bs',g)
         |none=>none)
        |_,_=>none) rfl ?_
       rw[hH id hid]
       rfl
      |_=>rfl
    |win id off n=>
     cases off with
     |succ off=>cases bs[j]?<;>rfl
     |zero=>
      cases bs[j]? with
      |none=>rfl
      |some b=>cases b<;>rfl
    |_=>cases bs[j]?<;>rfl
  |clo f ps=>simp only[dec,← e1,ihr bs hb]
  |bnd f j=>simp only[dec,← e1,ihr bs hb]
  |prs T j=>
   simp only[dec,← e1]
   cases hv:look tm H bs l with
   |none=>rfl
   |some v=>
    cases v with
    |nils e'=>simp only;rw[ihr _ (hb.snoc fun id h=>by cases h)]
    |own id=>
     have hid:id∈S:=e2 _ hv id (by simp[Am])
     simp only
     rw[← hH id hid,ihr _ (hb.snoc fun id' h=>by simp only[Bnd.id?,AmT]at h;subst h;exact hid)]
    |_=>rfl
  |nil e=>simp only[dec,← e1,ihr bs hb]
theorem SH{fz fz':List Bool}:∀ (n:Nat) (bs:List Bnd) (slot:Nat),(∀ s,slot≤s→s<slot+n→Au H fz s=Au H' fz' s)→FP H fz (Cf n bs slot) bs=FP H' fz' (Cf n bs slot) bs:=by
 intro n
 induction n with
 |zero=>intro bs slot _;cases bs<;>rfl
 |succ n ih=>
  intro bs slot h
  cases bs with
  |nil=>
   simp only[Cf,FP,List.tail_nil]
   rw[h slot (Amd _) (by omega),ih [] (slot+1) fun s h1 h2=>h s (by omega) (by omega)]
  |cons b bs=>
   cases b with
   |whole id=>
    simp only[Cf,FP,AoX]
    rw[ih bs slot fun s h1 h2=>h s h1 (by omega)]
   |none=>
    simp only[Cf,FP,AoX]
    rw[h slot (Amd _) (by omega),ih bs (slot+1) fun s h1 h2=>h s (by omega) (by omega)]
   |cut id=>
    simp only[Cf,FP,AoX]
    rw[h slot (Amd _) (by omega),ih bs (slot+1) fun s h1 h2=>h s (by omega) (by omega)]
theorem AH{np na:Nat}{its outs:AE}{rs:List RS}{f:B6 (leaves its)→Option (B6 (leaves outs))}(hno:ADV its=true)(hn:Nat.ble (C5 outs) 4=true):Ov (AF np na its outs rs f):=by
 intro R args H H' fz fz' slot k S hS hc ha
 have hn4:=Ao6 hn
 have hd:dec args H its fz []=dec args H' its fz' []:=Ah5 hS hc ha.heap its fz fz' [] hno (fun b hb=>by cases hb) ha.len ha.wrF
 unfold AF
 rw[hd]
 split
 ·rfl
 ·rename_i x bs fr _
  split
  ·rfl
  ·split
   ·rfl
   ·have hf:∀ (g:List Nat) s,slot≤s→s<slot+C5 outs→Au H (Ai g fz) s=Au H' (Ai g fz') s:=fun g s h1 h2=>Dx ha h1 (by omega) g
    unfold Jz
    rw[SH (fz:=fz) (fz':=fz') (C5 outs) (bs.take np) slot (hf []),SH (fz:=Ai fr fz) (fz':=Ai fr fz') (C5 outs) (bs.take np) slot (hf fr)]
theorem AdH:∀ (n:Nat) (bs:List Bnd) (slot i:Nat),i∈Cf n bs slot→(∃ b∈bs,b.id? = some i)∨(slot≤i∧i<slot+n):=by
 intro n
 induction n with
 |zero=>intro bs slot i h;cases bs<;>cases h
 |succ n ih=>
  intro bs slot i h
  have next:∀ bs',i∈slot::Cf n bs' (slot+1)→(∃ b∈bs',b.id? = some i)∨(slot≤i∧i<slot+(n+1)):=by
   intro bs' h
   rcases Ama.1 h with rfl|h
   ·exact .inr ⟨Amd _,by omega⟩
   ·rcases ih bs' (slot+1) i h with h|h
    ·exact .inl h
    ·exact .inr ⟨by omega,by omega⟩
  cases bs with
  |nil=>exact next [] h
  |cons b bs=>
   cases b with
   |whole id=>
    simp only[Cf]at h
    rcases Ama.1 h with rfl|h
    ·exact .inl ⟨.whole i,by simp,rfl⟩
    ·rcases ih bs slot i h with⟨b,hb,e⟩|h
     ·exact .inl ⟨b,by simp[hb],e⟩
     ·exact .inr ⟨h.1,by omega⟩
   |none=>rcases next bs h with⟨b,hb,e⟩|h;exact .inl ⟨b,by simp[hb],e⟩;exact .inr h
   |cut id=>rcases next bs h with⟨b,hb,e⟩|h;exact .inl ⟨b,by simp[hb],e⟩;exact .inr h
theorem Ado{tm:List AV}(hS:∀ id∈BF tm,id∈S)(hc:AAN S H):∀ (its:AE) (fz:List Bool) (bs:List Bnd) (x:B6 (leaves its)) (bs':List Bnd) (fr:List Nat),ADV its=true→AFK S bs →
  dec tm H its fz bs=some (x,bs',fr)→AFK S bs':=by
 intro its
 induction its with
 |nil=>intro fz bs x bs' fr _ hb h;simp only[dec,AmT]at h;cases h;exact hb
 |cons p r ih=>
  intro fz bs x bs' fr hn hb h
  obtain⟨l,c⟩:=p
  have hno:(∀ j,l≠.obj j)∧ADV r=true:=by
   cases l with
   |obj j=>cases hn
   |tmp t=>exact⟨fun j h=>(by cases h),hn⟩
   |cell a b=>exact⟨fun j h=>(by cases h),hn⟩
   |cap a b=>exact⟨fun j h=>(by cases h),hn⟩
  have e2:=(AZc (H':=H) hS hc (fun _ _=>rfl) hb hno.1 (l:=l)).2
  have one:∀ {id:Nat} {b:Bnd},id∈S→b.id? = some id→AFK S (bs++[b]):=fun hid hbid=>hb.snoc fun id' h'=>by rw[hbid]at h';cases h';exact hid
  cases c<;>simp only[dec]at h
  case dat t=>
   split at h
   ·split at h
    ·split at h
     ·split at h
      ·rename_i hd;cases h;exact ih _ _ _ _ _ hno.2 hb hd
      ·cases h
     ·cases h
    ·cases h
   ·cases h
  case own T e=>
   split at h
   ·split at h
    ·split at h
     ·rename_i hd;cases h;exact ih _ _ _ _ _ hno.2 (hb.snoc fun id h=>by cases h) hd
     ·cases h
    ·cases h
   ·rename_i id hl
    split at h
    ·split at h
     ·split at h
      ·rename_i hd;cases h;exact ih _ _ _ _ _ hno.2 (one (e2 _ hl id (by simp[Am])) rfl) hd
      ·cases h
     ·cases h
    ·cases h
   ·rename_i id n hl
    split at h
    ·split at h
     ·split at h
      ·rename_i hd;cases h;exact ih _ _ _ _ _ hno.2 (one (e2 _ hl id (by simp[Am])) rfl) hd
      ·cases h
     ·cases h
    ·cases h
   ·cases h
  case prs T j=>
   split at h
   ·split at h
    ·rename_i hd;cases h;exact ih _ _ _ _ _ hno.2 (hb.snoc fun id h=>by cases h) hd
    ·cases h
   ·rename_i id hl
    split at h
    ·split at h
     ·split at h
      ·rename_i hd;cases h;exact ih _ _ _ _ _ hno.2 (one (e2 _ hl id (by simp[Am])) rfl) hd
      ·cases h
     ·cases h
    ·cases h
   ·cases h
  case box n=>
   split at h
   ·rename_i id hl
    split at h
    ·split at h
     ·exact ih _ _ _ _ _ hno.2 (one (e2 _ hl id (by simp[Am])) rfl) h
     ·cases h
    ·cases h
   ·cases h
  case map k v=>
   split at h
   ·rename_i id hl
    split at h
    ·split at h
     ·split at h
      ·rename_i hd;cases h;exact ih _ _ _ _ _ hno.2 (one (e2 _ hl id (by simp[Am])) rfl) hd
      ·cases h
     ·cases h
    ·cases h
   ·cases h
  case rows T e t=>
   split at h
   ·rename_i id hl
    split at h
    ·split at h
     ·split at h
      ·rename_i hd;cases h;exact ih _ _ _ _ _ hno.2 (one (e2 _ hl id (by simp[Am])) rfl) hd
      ·cases h
     ·cases h
    ·cases h
   ·cases h
  case mrows j e t=>
   split at h
   ·rename_i id hl
    split at h
    ·split at h
     ·split at h
      ·rename_i hd;cases h;exact ih _ _ _ _ _ hno.2 (one (e2 _ hl id (by simp[Am])) rfl) hd
      ·cases h
     ·cases h
    ·cases h
   ·cases h
  case aptr T e n=>
   split at h
   ·rename_i id n' hl
    split at h
    ·split at h
     ·split at h
      ·rename_i hd;cases h;exact ih _ _ _ _ _ hno.2 (one (e2 _ hl id (by simp[Am])) rfl) hd
      ·cases h
     ·cases h
    ·cases h
   ·cases h
  case bndp f j=>
   split at h
   ·split at h
    ·exact ih _ _ _ _ _ hno.2 hb h
    ·cases h
   ·cases h
  case nilp=>
   cases hv:look tm H bs l with
   |none=>rw[hv]at h;cases h
   |some v=>
    rw[hv]at h
    cases v<;>simp only at h<;>first|exact ih _ _ _ _ _ hno.2 hb h|cases h
  case aptr' j n=>
   split at h
   ·split at h
    ·exact ih _ _ _ _ _ hno.2 hb h
    ·cases h
   ·cases h
  case own' j=>
   split at h
   ·split at h
    ·exact ih _ _ _ _ _ hno.2 hb h
    ·cases h
   ·cases h
  case ptr' j off=>
   split at h
   ·split at h
    ·exact ih _ _ _ _ _ hno.2 hb h
    ·cases h
   ·cases h
  case map' j=>
   split at h
   ·split at h
    ·exact ih _ _ _ _ _ hno.2 hb h
    ·cases h
   ·cases h
  case win' j=>
   split at h
   ·split at h
    ·split at h
     ·rename_i hd;cases h;exact ih _ _ _ _ _ hno.2 hb hd
     ·cases h
    ·cases h
   ·split at h
    ·split at h
     ·rename_i hd;cases h;exact ih _ _ _ _ _ hno.2 hb hd
     ·cases h
    ·cases h
   ·cases h
  case sub' j=>
   split at h
   ·split at h
    ·split at h
     ·rename_i hd;cases h;exact ih _ _ _ _ _ hno.2 hb hd
     ·cases h
    ·cases h
   ·cases h
  case clo f ps=>
   split at h
   ·split at h
    ·exact ih _ _ _ _ _ hno.2 hb h
    ·cases h
   ·cases h
  case bnd f j=>
   split at h
   ·split at h
    ·exact ih _ _ _ _ _ hno.2 hb h
    ·cases h
   ·cases h
  case nil e=>
   cases hv:look tm H bs l with
   |none=>rw[hv]at h;cases h
   |some v=>
    rw[hv]at h
    cases v<;>simp only at h<;>first|exact ih _ _ _ _ _ hno.2 hb h|cases h
theorem AYn{np na:Nat}{its outs:AE}{rs:List RS}{f:B6 (leaves its)→Option (B6 (leaves outs))}(hno:ADV its=true)(hn:Nat.ble (C5 outs) 4=true):Ov (J9 (AF np na its outs rs f)):=by
 intro R args H H' fz fz' slot k hS0 hS hc ha
 have hn4:=Ao6 hn
 have hd:dec args H its fz []=dec args H' its fz' []:=Ah5 hS hc ha.heap its fz fz' [] hno (fun b hb=>by cases hb) ha.len ha.wrF
 have hbs:∀ x bs fr,dec args H its fz []=some (x,bs,fr)→AFK hS0 bs:=fun x bs fr h=>Ado hS hc its fz [] x bs fr hno (fun b hb=>by cases hb) h
 unfold J9 AF
 rw[hd]at hbs ⊢
 split
 ·rfl
 ·rename_i x bs fr hdec
  have hb:=hbs x bs fr hdec
  split
  ·rfl
  ·split
   ·rfl
   ·rename_i y _
    have hf:∀ (g:List Nat) s,slot≤s→s<slot+C5 outs→Au H (Ai g fz) s=Au H' (Ai g fz') s:=fun g s h1 h2=>Dx ha h1 (by omega) g
    have key:∀ (e:Eff) (v:AV),e.heap=none→(∀ p∈e.objs,p.1∈given (bs.drop np)∨p.1∈Cf (C5 outs) (bs.take np) slot)→AHt slot H fz k v e=AHt slot H' fz' k v e:=by
     intro e v he ho
     unfold AHt
     rw[he]
     simp only
     have hfree:Au (CN e H) (F5 e fz) (slot+3)=Au (CN e H') (F5 e fz') (slot+3):=by
      rw[CE he,CE he,CQ he,CQ he]
      unfold Au
      rw[GF e.objs H H' (ha.slotH (slot+3) (by omega) (by omega)),Kz ha.len (ha.slotF (slot+3) (by omega) (by omega))]
     cases v with
     |win id off n=>
      cases off with
      |succ off=>rfl
      |zero=>
       simp only
       cases hany:(e.objs.any fun p=>Nat.beq p.1 id)with
       |false=>
        simp only[Bool.and_false]
        cases (CN e H)[id]? with
        |none=>cases (CN e H')[id]? with
         |none=>rfl
         |some o=>cases o<;>rfl
        |some o=>cases (CN e H')[id]? with
         |none=>cases o<;>rfl
         |some o'=>cases o<;>cases o'<;>rfl
       |true=>
        rw[AoV]at hany
        obtain⟨p,hp,hpi⟩:=hany
        have hpi:=Ang hpi
        subst hpi
        have hin:(∃ b∈bs,b.id? = some p.1)∨(slot≤p.1∧p.1<slot+C5 outs):=by
         rcases ho p hp with h|h
         ·obtain⟨j,hj⟩:=Wi.1 h
          exact .inl ⟨_,An2 (Amj hj),rfl⟩
         ·rcases AdH _ _ _ _ h with⟨b,h1,h2⟩|h
          ·exact .inl ⟨b,Aop h1,h2⟩
          ·exact .inr h
        have h1:H[p.1]? = H'[p.1]? := by
         rcases hin with⟨b,hbm,hbi⟩|⟨h1,h2⟩
         ·exact ha.heap _ (hb b hbm _ hbi)
         ·exact ha.slotH _ h1 (by omega)
        have h2:fz.getD p.1 false=fz'.getD p.1 false:=by
         rcases hin with⟨b,hbm,hbi⟩|⟨h1,h2⟩
         ·exact ha.wrF _ (hb b hbm _ hbi)
         ·exact ha.slotF _ h1 (by omega)
        have h3:(CN e H)[p.1]? = (CN e H')[p.1]? := by
         rw[CE he,CE he]
         exact GF e.objs H H' h1
        have h4:Ag (F5 e fz) p.1=Ag (F5 e fz') p.1:=by
         rw[CQ he,CQ he]
         unfold Ag
         rw[Kz ha.len h2]
        rw[h3,h4,hfree]
     |_=>rfl
    have mem:∀ p∈(given (bs.drop np)).map (fun i=>(i,Ob.dead))++(Cf (C5 outs) (bs.take np) slot).zip ((encode (cellsOf rs) outs y).heap.map (Dc (Cf (C5 outs) (bs.take np) slot))),p.1∈given (bs.drop np)∨p.1∈Cf (C5 outs) (bs.take np) slot:=by
     intro p hp
     rcases AmY.1 hp with h|h
     ·obtain⟨i,hi,rfl⟩:=Amo.1 h;exact .inl hi
     ·exact .inr (List.of_mem_zip h).1
    unfold Jz
    rw[SH (fz:=fz) (fz':=fz') (C5 outs) (bs.take np) slot (hf []),SH (fz:=Ai fr fz) (fz':=Ai fr fz') (C5 outs) (bs.take np) slot (hf fr)]
    split
    ·split
     ·exact key { objs:=_ } _ rfl mem
     ·rfl
    ·split
     ·exact key { objs:=_,frz:=_ } _ rfl mem
     ·rfl
end
def AmD(i:Nat)(args:List AV):Option FuncId:=
 match args[i]? with
 |some (.clo f _)=>some f
 |some (.bnd f _)=>some f
 |_=>none
def Env.CD(E:Env)(g:FuncId)(i:Nat)(c:FuncId)(s:Spec):Env where
 spec x:=match Nat.beq x g with
  |true=>fun R args H fz slot k=>match AmD i args with
   |some c'=>match Nat.beq c' c with
    |true=>s R args H fz slot k
    |false=>E.spec x R args H fz slot k
   |.none=>Option.none
  |false=>E.spec x
 loc x:=match Nat.beq x g with
  |true=>false
  |false=>E.loc x
 loc2 x:=match Nat.beq x g with
  |true=>E.loc2 g
  |false=>E.loc2 x
theorem Env.Ay{P:Program}{E:Env}{g:FuncId}{i:Nat}{c:FuncId}{s:Spec}(h:AW P E)(hs:AO P g s)(hl2:Ov s):AW P (E.CD g i c s):=by
 refine⟨?_,?_,?_⟩
 ·intro x
  simp only[Env.CD]
  cases hx:Nat.beq x g with
  |false=>exact h.1 x
  |true=>
   have:=Ang hx
   subst this
   intro R args H fz slot k r hk
   simp only at hk
   split at hk
   ·rename_i c' hc'
    split at hk
    ·rename_i hb
     obtain⟨v,e,h1,h2,h3,h4⟩:=hs R args H fz slot k r hk
     exact⟨v,e,h1,fun R' k'=>by simp only[hc',hb];exact h2 R' k',h3,h4⟩
    ·rename_i hb
     obtain⟨v,e,h1,h2,h3,h4⟩:=h.1 x R args H fz slot k r hk
     exact⟨v,e,h1,fun R' k'=>by simp only[hc',hb];exact h2 R' k',h3,h4⟩
   ·cases hk
 ·intro x hx
  simp only[Env.CD]at hx ⊢
  cases hb:Nat.beq x g with
  |true=>rw[hb]at hx;cases hx
  |false=>rw[hb]at hx;exact h.2.1 x hx
 ·intro x hx
  simp only[Env.CD]at hx ⊢
  cases hb:Nat.beq x g with
  |true=>
   rw[hb]at hx
   have:=Ang hb
   subst this
   have h2:=h.2.2 x hx
   intro R args H H' fz fz' slot k S a1 a2 a3
   simp only
   split
   ·split
    ·exact hl2 R args H H' fz fz' slot k S a1 a2 a3
    ·exact h2 R args H H' fz fz' slot k S a1 a2 a3
   ·rfl
  |false=>rw[hb]at hx;exact h.2.2 x hx
end Go.Pev
end
section
namespace Go.Pev
open Go.RowKit Go.ChangeShapes Go.WideShapes Go.ChangeAt
def P7(P:Program)(rd:TypeId→Option Ty):List Field→Nat→Option Ty
 |[],_=>some .unit
 |f::r,off=>match rd f.type,P7 P rd r (off+P.cellsOf f.type)with
  |some a,some b=>match Nat.beq f.offset off&&Nat.beq (P.cellsOf f.type) a.size with
   |true=>some (.prod a b)
   |false=>none
  |_,_=>none
def Gr(P:Program):Nat→TypeId→Option Ty
 |0,_=>none
 |n+1,t=>match P.underlying t with
  |some .bool=>some .bool
  |some (.int k)=>some (.int k)
  |some (.slice e)=>match Gr P n e with
   |some a=>match Nat.beq (P.cellsOf e) a.size && !(Nat.beq a.size 0)with
    |true=>some (.slice a)
    |false=>none
   |none=>none
  |some (.array c e)=>match Gr P n e with
   |some a=>match Nat.beq (P.cellsOf e) a.size&&Nat.beq (P.cellsOf t) (c*a.size)with
    |true=>some (.arr c a)
    |false=>none
   |none=>none
  |some (.struct fs)=>match P7 P (Gr P n) fs.toList 0 with
   |some a=>match Nat.beq (P.cellsOf t) a.size with
    |true=>some a
    |false=>none
   |none=>none
  |_=>none
def wfD:(t:Ty)→t.den→Prop
 |.unit,_=>True
 |.bool,_=>True
 |.int k,n=>k.min≤n∧n≤k.max
 |.slice e,xs=>List.length (α:=e.den) xs≤maxLen∧∀ x∈(xs:List e.den),wfD e x
 |.prod a b,d=>wfD a d.1∧wfD b d.2
 |.arr n e,xs=>List.length (α:=e.den) xs=n∧∀ x∈(xs:List e.den),wfD e x
 |.nul _,_=>True
 |.mapi _ _,_=>True
section
variable {H:Type} {enc:TypeId×Value→H} {P:Program} {w:World} {spare:Nat→Bool} {held:Bool}
abbrev below(w:World):Nat→Prop:=fun b=>b<w.heap.size
theorem Akz{k:IntKind}{n:Int}(h:(Lit.int k n).wf=true):k.min≤n∧n≤k.max:=by
 simpa [Lit.wf]using h
theorem AY6{α:Type}{R:α→List Value→Prop}{k:Nat}:∀ (m:Nat) (f:Nat→List Value),(∀ i,i<m→(f i).length=k∧∃ x,R x (f i))→∃ xs:List α,xs.length=m∧rows R xs ((List.range m).flatMap f)∧∀ x∈xs,∃ i,i<m∧R x (f i):=by
 intro m
 induction m with
 |zero=>intro f _;exact⟨[],rfl,rfl,fun x hx=>by cases hx⟩
 |succ m ih=>
  intro f h
  obtain⟨xs,h1,h2,h3⟩:=ih f fun i hi=>h i (by omega)
  obtain⟨_,x,hx⟩:=h m (by omega)
  refine⟨xs++[x],by simp[h1],?_,fun y hy => ?_⟩
  ·rw[Anp,ApG]
   exact Hs h2 (by simp;exact⟨f m,[],by simp,hx,rfl⟩)
  ·rcases AmY.1 hy with hy|hy
   ·obtain⟨i,hi,hr⟩:=h3 y hy;exact⟨i,by omega,hr⟩
   ·simp only[Amv]at hy;subst hy;exact⟨m,by omega,hx⟩
theorem Aht{f:Nat→List Value}{k:Nat}:∀ (m:Nat),(∀ i,i<m→(f i).length=k)→∀ (j:Nat) (u:Value),((List.range m).flatMap f)[j]? = some u→∃ i r,i<m∧r<k∧j=i*k+r∧(f i)[r]? = some u:=by
 intro m
 induction m with
 |zero=>intro _ j u h;simp at h
 |succ m ih=>
  intro hl j u h
  rw[Anp,ApG]at h
  have hlen:∀ m',m'≤m→((List.range m').flatMap f).length=m'*k:=by
   intro m' hm'
   induction m' with
   |zero=>simp
   |succ m' ih'=>
    rw[Anp,ApG,Amc,ih' (by omega)]
    simp[hl m' (by omega),AnS]
  rcases AnF j (m*k)with hj|hj
  ·rw[Am1 (by rw[hlen m (Amd _)];exact hj)]at h
   obtain⟨i,r,h1,h2,h3,h4⟩:=ih (fun i hi=>hl i (by omega)) j u h
   exact⟨i,r,by omega,h2,h3,h4⟩
  ·rw[Am6 (by rw[hlen m (Amd _)];exact hj),hlen m (Amd _)]at h
   simp only[An7,List.flatMap_nil,Anb]at h
   have hr:j-m*k<k:=by
    have:=Fg h
    rwa [hl m (by omega)]at this
   exact⟨m,j-m*k,by omega,hr,by omega,h⟩
theorem AiN(a:Addr)(i j:Nat):(a.add i).add j=a.add (i+j):=by
 unfold Addr.add
 by_cases hi:i=0
 ·subst hi;simp
 ·by_cases hj:j=0
  ·subst hj;simp
  ·have:¬ (i+j=0):=by omega
   simp[hi,hj,ApX]
theorem AX6{α:Type}[Inhabited α]{n:Nat}{p:Nat→α→Prop}(h:∀ i,i<n→∃ x,p i x):∃ f:Nat→α,∀ i,i<n→p i (f i):=by
 classical
 refine⟨fun i=>if hi:i<n then Classical.choose (h i hi)else default,fun i hi => ?_⟩
 simp only[dif_pos hi]
 exact Classical.choose_spec (h i hi)
theorem AU9{rd:TypeId→Option Ty}{cs:List Value}(hrd:∀ (f:Field) (a:Ty),rd f.type=some a→(P.cellsOf f.type=a.size)→(∃ y:Nat×(DataW H×List MemPlace),DataW.trod enc P w 0 spare held y.1 f.type ((cs.drop f.offset).take (P.cellsOf f.type))=some y.2)→∃ d:a.den,Dat w (below w) a d ((cs.drop f.offset).take (P.cellsOf f.type))∧wfD a d):
  ∀ (fs:List Field) (off:Nat) (t:Ty),P7 P rd fs off=some t→off+t.size=cs.length→(∀ f∈fs,∃ y:Nat×(DataW H×List MemPlace),DataW.trod enc P w 0 spare held y.1 f.type ((cs.drop f.offset).take (P.cellsOf f.type))=some y.2) →
   ∃ d:t.den,Dat w (below w) t d (cs.drop off)∧wfD t d:=by
 intro fs
 induction fs with
 |nil=>
  intro off t h hl _
  simp only[P7,AmT]at h
  subst h
  refine⟨(),?_,trivial⟩
  show cs.drop off=[]
  simp[Ty.size]at hl
  exact List.drop_eq_nil_of_le (by omega)
 |cons f r ih=>
  intro off t h hl hf
  simp only[P7]at h
  split at h
  ·rename_i a b ha hb
   split at h
   ·rename_i hc
    simp only[AmT]at h
    subst h
    simp only[AmX]at hc
    have h1:=Ang hc.1
    have h2:=Ang hc.2
    obtain⟨d,hd,hw⟩:=hrd f a ha h2 (hf f (by simp))
    simp only[Ty.size]at hl
    obtain⟨e,he,hw'⟩:=ih (off+P.cellsOf f.type) b hb (by omega) fun g hg=>hf g (by simp[hg])
    refine⟨(d,e),⟨(cs.drop off).take (P.cellsOf f.type),cs.drop (off+P.cellsOf f.type),?_,?_,he⟩,hw,hw'⟩
    ·rw[← AoJ,AnP]
    ·rw[h1]at hd;exact hd
   ·cases h
  ·cases h
theorem Aej:∀ (n:Nat) (t:TypeId) (ty:Ty) (fuel:Nat) (cs:List Value) (x:DataW H×List MemPlace),Gr P n t=some ty→DataW.trod enc P w 0 spare held fuel t cs=some x→∃ d:ty.den,Dat w (below w) ty d cs∧wfD ty d:=by
 intro n
 induction n with
 |zero=>intro t ty fuel cs x h;cases h
 |succ n ih=>
  intro t ty fuel cs x h hx
  simp only[Gr]at h
  split at h
  ·rename_i hu
   simp only[AmT]at h;subst h
   obtain⟨b,rfl,_⟩:=DataW.trod_bool hu hx
   exact⟨b,rfl,trivial⟩
  ·rename_i k hu
   simp only[AmT]at h;subst h
   obtain⟨m,rfl,_,hw⟩:=DataW.trod_int hu hx
   exact⟨m,rfl,Akz hw⟩
  ·rename_i e hu
   split at h
   ·rename_i a ha
    split at h
    ·rename_i hc
     simp only[AmT]at h;subst h
     rw[AmX]at hc
     have hpos:a.size≠0:=fun h0=>by rw[h0]at hc;simp at hc
     have hc:=Ang hc.1
     rcases DataW.trod_slice hu hx with⟨rfl,_⟩|⟨ad,len,cap,elems,rest,m,rfl,rfl,_,_,hle,hmax,hlen,hel,_⟩
     ·exact⟨[],⟨none,0,rfl,Amd _,fun hne=>absurd rfl hne⟩,ApS _,fun x hx=>by cases hx⟩
     ·-- each element
      have each:∀ i,i<len→∃ cs',w.cells? 0 (ad.add (i*P.cellsOf e)) (P.cellsOf e)=some cs'∧∃ d:a.den,Dat w (below w) a d cs'∧wfD a d:=by
       intro i hi
       have h1:=hel i hi
       rw[AmZ (by omega),AnA]at h1
       obtain⟨cs',h2,h3⟩:=h1
       exact⟨cs',h2,ih e a m cs' _ ha h3⟩
      obtain⟨f,hf⟩:=AX6 (α:=List Value) (p:=fun i cs'=>w.cells? 0 (ad.add (i*P.cellsOf e)) (P.cellsOf e)=some cs'∧∃ d:a.den,Dat w (below w) a d cs'∧wfD a d) each
      have hfl:∀ i,i<len→(f i).length=a.size:=by
       intro i hi
       obtain⟨_,hl,_⟩:=World.cells?_some (hf i hi).1
       rw[hl,hc]
      obtain⟨xs,h1,h2,h3⟩:=AY6 (R:=fun(d:a.den) cs=>Dat w (below w) a d cs∧wfD a d) (k:=a.size) len f fun i hi=>⟨hfl i hi,(hf i hi).2⟩
      refine⟨xs,⟨some ad,cap,by rw[h1],by rw[h1];exact hle,fun hne=>⟨ad,(List.range len).flatMap f,rfl,?_,BK (fun x _ cs hx=>hx.1) h2,fun j u hu => ?_⟩⟩,by rw[h1];exact Ana hle hmax,fun x hx => ?_⟩
      ·-- the block is there
       have hl0:0<len:=by
        rcases Anl len with h0|h0
        ·exact absurd (Ams (by rw[h1,h0])) hne
        ·exact h0
       have hb:=World.cells?_block (hf 0 hl0).1 (by omega)
       rw[Ao4]at hb
       have e0:ad.add 0=ad:=by simp[Addr.add]
       rw[e0]at hb
       exact hb
      ·obtain⟨i,r,hi,hr,rfl,hur⟩:=Aht len hfl j u hu
       obtain⟨_,_,hcell⟩:=World.cells?_some (hf i hi).1
       have:=hcell r (by rw[hc];exact hr)
       rw[hur]at this
       rw[← this,hc,AiN]
      ·obtain⟨i,_,hr⟩:=h3 x hx
       exact hr.2
    ·cases h
   ·cases h
  ·rename_i c e hu
   split at h
   ·rename_i a ha
    split at h
    ·rename_i hc
     simp only[AmT]at h;subst h
     rw[AmX]at hc
     have hc1:=Ang hc.1
     have hc2:=Ang hc.2
     obtain⟨xs,m,rfl,_,hl,hxs,hfs⟩:=DataW.trod_array hu hx
     rw[hc2]at hl
     obtain⟨ys,h1,h2,h3⟩:=AY6 (R:=fun(d:a.den) cs=>Dat w (below w) a d cs∧wfD a d) (k:=a.size) c (fun i=>(cs.drop (i*a.size)).take a.size) fun i hi=>by
      have hi1:i*a.size+a.size≤c*a.size:=by
       have:=AnO a.size (show i+1≤c from hi)
       rwa [AnS,An9]at this
      have h1:=hfs i hi
      rw[AmZ (by omega),hc1]at h1
      exact⟨by rw[Amm,Am9,hl];omega,ih e a m _ _ ha h1⟩
     have hjoin:∀ k,k≤c→(List.range k).flatMap (fun i=>(cs.drop (i*a.size)).take a.size)=cs.take (k*a.size):=by
      intro k
      induction k with
      |zero=>intro _;simp
      |succ k ihk=>
       intro hk
       rw[Anp,ApG,ihk (by omega),AnS,An9,List.take_add]
       simp
     rw[hjoin c (Amd _),← hl,Anq]at h2
     exact⟨ys,⟨h1,BK (fun x _ cs hx=>hx.1) h2⟩,h1,fun x hx=>by obtain⟨i,_,hr⟩:=h3 x hx;exact hr.2⟩
    ·cases h
   ·cases h
  ·rename_i fs hu
   split at h
   ·rename_i a ha
    split at h
    ·rename_i hc
     simp only[AmT]at h;subst h
     have hc:=Ang hc
     obtain⟨xs,m,rfl,_,hl,hxs,hfs⟩:=DataW.trod_struct hu hx
     obtain⟨d,hd,hw⟩:=AU9 (enc:=enc) (w:=w) (spare:=spare) (held:=held) (cs:=cs) (fun f b hb _ ⟨y,hy⟩=>ih f.type b y.1 _ y.2 hb hy) fs.toList 0 _ ha (by rw[hl,hc];omega) (fun f hf=>by
      obtain⟨i,hi⟩:=ApC hf
      have h1:=hfs i f (by simpa using hi)
      have hlt:i<xs.length:=by rw[hxs];simpa using Fg hi
      rw[AmZ hlt]at h1
      exact⟨(m,xs[i]),h1⟩)
     rw[AoW]at hd
     exact⟨d,hd,hw⟩
    ·cases h
   ·cases h
  ·cases h
theorem AV8{r:Reach}{b0:Nat}{t:TypeId}{v:Value}(hval:Value.okWide P w r b0 t v)(hn:∀ d,P.underlying t=some d→(match d with|.bool|.int _|.slice _=>true|_=>false)=true){ty:Ty}{n:Nat}(h:Gr P (n+1) t=some ty):v.cells.toList=[v]:=by
 simp only[Value.okWide]at hval
 have hu:∃ d,P.underlying t=some d:=by
  cases hu:P.underlying t with
  |none=>simp only[Gr,hu]at h;cases h
  |some d=>exact⟨d,rfl⟩
 obtain⟨d,hu⟩:=hu
 have:=hn d hu
 rw[hu]at hval
 cases d<;>simp only[Amq]at this<;>simp only[Cell.okWide,hu]at hval<;>cases v<;>first|rfl|(simp_all [Cell.ok])
theorem AOQ{r:Reach}{b0:Nat}{t:TypeId}{v:Value}{ps:List MemPlace}{dd:DataW H}(hval:Value.okWide P w r b0 t v)(hd:DataW.Trod enc P w 0 spare held t v dd ps){ty:Ty}{n:Nat}(h:Gr P (n+1) t=some ty):
  ∃ d:ty.den,Bf w (below w) ty d v∧wfD ty d:=by
 obtain⟨fuel,hf⟩:=hd
 obtain⟨d,h1,h2⟩:=Aej (n+1) t ty fuel _ _ h hf
 refine⟨d,?_,h2⟩
 have one:(∀ d,P.underlying t=some d→(match d with|.bool|.int _|.slice _=>true|_=>false)=true)→ty.isAgg=false→Bf w (below w) ty d v:=by
  intro hn hg
  unfold Bf
  rw[hg]
  rw[AV8 hval hn h]at h1
  exact h1
 have agg:(∃ cs,v = .agg cs)→ty.isAgg=true→Bf w (below w) ty d v:=by
  rintro⟨cs,rfl⟩ hg
  unfold Bf
  rw[hg]
  exact⟨cs,rfl,h1⟩
 have hu:∃ d,P.underlying t=some d:=by
  cases hu:P.underlying t with
  |none=>simp only[Gr,hu]at h;cases h
  |some d=>exact⟨d,rfl⟩
 obtain⟨td,hu⟩:=hu
 simp only[Gr,hu]at h
 split at h
 ·rename_i hq;cases hq;simp only[AmT]at h;subst h
  exact one (fun d hd=>by rw[hu]at hd;cases hd;rfl) rfl
 ·rename_i k hq;cases hq;simp only[AmT]at h;subst h
  exact one (fun d hd=>by rw[hu]at hd;cases hd;rfl) rfl
 ·rename_i e hq;cases hq
  split at h
  ·split at h
   ·simp only[AmT]at h;subst h
    exact one (fun d hd=>by rw[hu]at hd;cases hd;rfl) rfl
   ·cases h
  ·cases h
 ·rename_i c e hq;cases hq
  have hv:∃ cs,v = .agg cs:=by
   simp only[Value.okWide,hu]at hval
   obtain⟨cs,rfl,_⟩:=hval
   exact⟨cs,rfl⟩
  split at h
  ·split at h
   ·simp only[AmT]at h;subst h
    exact agg hv rfl
   ·cases h
  ·cases h
 ·rename_i fs hq;cases hq
  have hv:∃ cs,v = .agg cs:=by
   simp only[Value.okWide,hu]at hval
   obtain⟨cs,rfl,_⟩:=hval
   exact⟨cs,rfl⟩
  split at h
  ·rename_i a ha
   split at h
   ·simp only[AmT]at h;subst h
    refine agg hv ?_
    cases hfs:fs.toList with
    |nil=>rw[hfs]at ha;simp only[P7,AmT]at ha;subst ha;rfl
    |cons f r=>
     rw[hfs]at ha
     simp only[P7]at ha
     split at ha
     ·split at ha
      ·simp only[AmT]at ha;subst ha;rfl
      ·cases ha
     ·cases ha
   ·cases h
  ·cases h
 ·cases h
theorem AHT{g:FuncId}{s:Spec}(hs:AO P g s){args:List AV}{b:Bool}{e:Eff}(hrun:s (AV×Eff) args [] [] 0 (fun v e=>some (v,e))=some (.data .bool b,e)){vals:List Value}
  (hr:Ae w (below w) (fun _=>none) [] args vals) (hglo:AeQ w (below w):=by intro p h;simp[AMk]at h):Calls P g vals.toArray w fun en w'=>en = .returned (.bool b)∧Below w.heap.size w w':=by
 obtain⟨v,e',h1,_,_,h4⟩:=hs _ args [] [] 0 _ _ hrun
 simp only[AmT,Amx]at h1
 obtain⟨rfl,rfl⟩:=h1
 have hi:HI w (below w) (fun _=>none) [] []:=⟨fun id o h=>by simp at h,fun i T e t xs ver out h=>by simp at h,fun i T e t xs ver out h=>by simp at h,fun i j b c b' c' _ _ _ h=>(nomatch h),fun i b c _ h=>(nomatch h),fun i T t xs b c h=>by simp at h,fun b h=>h,hglo,rfl⟩
 refine(h4 w _ _ vals hi hr).mono ?_
 rintro en w' ⟨u,rfl,F',m',⟨hx,_⟩,hu⟩
 have hb:u = .bool b:=Ck hu
 subst hb
 exact⟨rfl,hx.os,hx.tape,hx.output,hx.size,fun i hi=>hx.keep i hi fun j c _ h=>by cases h⟩
end
section
variable {H:Type} {enc:TypeId×Value→H} {P:Program}
theorem AGe{f:Func}{s:ChangeSpec}{apart fresh handsOn again:Bool}{W W':World}{args:Array Value}{v:Value}{ds gs:List (DataW H)}{before pa pv:List MemPlace}
  (hW:DataW.Whole enc P f.params.toList s.vars apart W args.toList ds gs before)
  (hres:∀ (b:Nat) (sp:Nat→Bool) (hd:Bool),DataW.TrodAll enc P W' b sp hd f.resultTypes.toList (v.resultList f.resultTypes.size) (s.fn H (ds++gs)).results [])
  (hargs:∀ sp:Nat→Bool,(∀ p∈before,sp p.block=true)→DataW.TrodAll enc P W' 0 sp true f.params.toList args.toList (s.fn H (ds++gs)).args pa)
  (hvars:∀ sp:Nat→Bool,(∀ p∈before,sp p.block=true)→DataW.TrodVars enc P W' sp s.vars (s.fn H (ds++gs)).vars pv)
  (hps:before=pa++pv) (hb:Below W.heap.size W W')
  (hok:∀ (j:Nat) (t:TypeId) (r:Value),f.resultTypes[j]? = some t→(v.resultList f.resultTypes.size)[j]? = some r→Value.okWide P W' .any 0 t r) :
  s.post enc P f apart fresh handsOn again W args v W':=by
 have hlt:∀ p∈before,p.block<W.heap.size:=fun p hp=>hW.lt p hp
 have hold:∀ p∈before,(fun b=>decide (b<W.heap.size)) p.block=true:=fun p hp=>by simpa using hlt p hp
 refine⟨ds,gs,before,[],pa,pv,hW,hres _ _ _,hargs _ hold,hvars _ hold,World.keptBut_mono (fun p hp=>⟨hp,?_⟩) (hb.frame (·∈before)),fun _ => ?_⟩
 ·rw[hps,AmY]at hp
  exact Or.inr hp
 ·obtain⟨_,_,_,_,_,hz,hn⟩:=hW
  refine⟨hok,_,_,([]++pa)++pv,⟨[]++pa,pv,trodAll_append (hargs _ (fun _ _=>rfl)) (hres _ _ _),hvars _ (fun _ _=>rfl),rfl,?_,?_⟩,?_⟩
  ·intro b off hp
   have hin:MemPlace.cell b off∈before:=by rw[hps];simpa using hp
   rw[hb.frozen (hlt _ hin)]
   exact hz b off hin
  ·intro ha
   have:=hn ha
   rw[hps]at this
   simpa using this
  ·intro p hp _
   rw[hps]
   simpa using hp
theorem AAs{t:TypeId}(hl:laidOutB P=true)(hr:P.readableRec t=true)(hrow:t<P.types.size){W W':World}{v:Value}{d:DataW H}{ps:List MemPlace}
  (h:DataW.Trod enc P W 0 (fun _=>true) true t v d ps) (hb:Below W.heap.size W W') (hlt:∀ x∈ps,x.block<W.heap.size) {sp:Nat→Bool} (hs:∀ x∈ps,sp x.block=true) :
  DataW.Trod enc P W' 0 sp true t v d ps:=
 WideElems.Trod_stays hl hr hrow h (fun x hx=>hb.same (hlt x hx)) hs
end
end Go.Pev
end
section
section
namespace Go.Pev.Pl
open Tok
theorem Z3{a b:Nat}(hb:0<b):rem? (a:Int) (b:Int)=some ((a % b:Nat):Int):=by
 rw[ALB,ACC,Amh (by omega)]
 rfl
theorem LH{a b:Nat}(h:a<2*b):a % b=if a<b then a else a-b:=by
 split
 ·exact Apa (by assumption)
 ·rw[Nat.mod_eq_sub_mod (by omega),Apa (by omega)]
def Kt(n t u:Int):Bool:=match B8 n t with
 |some x=>decide (x.st=u)
 |none=>false
theorem OO{l:List Int}{j:Nat}(hj:j≤l.length):(rot l j).length=l.length:=by
 simp[rot];omega
theorem GJ{l:List Int}{j k:Nat}(hj:j<l.length)(hk:k<l.length):(rot l j).getD k 0=l.getD ((j+k) % l.length) 0:=by
 rw[LH (by omega),rot]
 by_cases h:j+k<l.length
 ·rw[Amk h,AmW,Am1 (by simp;omega),AnQ,AmW]
 ·rw[Amh h,AmW,Am6 (by simp;omega),List.getElem?_take_of_lt (by simp;omega),AmW]
  congr 2
  simp;omega
def Red(n:Int)(l l':List Int):Prop:=∃ j x u v rest,j<l.length∧rot l j=x::Di n (.arc u v)::v::Di n (.arc v u)::rest∧okT n (.arc u v)∧Kt n x u=true∧l'=rest++[x]
def FY(l:List Int)(i:Nat):List Int:=(List.range' 3 (l.length-3)).map fun k=>l.getD ((i+k) % l.length) 0
theorem Abo{l:List Int}{i j:Nat}(hl:4≤l.length)(hj:j<l.length)(hij:i=if j+1=l.length then 0 else j+1):FY l i=(rot l j).drop 4++[(rot l j).getD 0 0]:=by
 apply ApZ
 ·simp[FY,OO (AoE hj)];omega
 ·intro m h1 h2
  simp only[FY,Ano,List.length_range']at h1
  simp only[FY,List.getElem_map,List.getElem_range',An9]
  have hi:i<l.length:=by rw[hij];split<;>omega
  by_cases hm:m<l.length-4
  ·rw[List.getElem_append_left (by simp[OO (AoE hj)];omega),List.getElem_drop]
   have:=GJ (l:=l) (j:=j) (k:=4+m) hj (by omega)
   rw[AmW,AmZ (by rw[OO (AoE hj)];omega),Am4]at this
   rw[this]
   congr 1
   rw[LH (by omega),LH (by omega),hij]
   (repeat' split)<;>omega
  ·rw[List.getElem_append_right (by simp[OO (AoE hj)];omega)]
   simp only[List.getElem_singleton]
   rw[GJ hj (by omega)]
   congr 1
   rw[LH (by omega),LH (by omega),hij]
   (repeat' split)<;>omega
theorem Al9{α:Type}{l:List α}(z:α)(h:4≤l.length):l=l.getD 0 z::l.getD 1 z::l.getD 2 z::l.getD 3 z::l.drop 4:=by
 match l,h with
 |a::b::c::d::r,_=>rfl
def LQ(n:Int)(l:List Int)(i:Nat):Bool:=
 decide (4≤l.length)&&match B8 n (l.getD i 0)with
  |some (.arc u v)=>decide (l.getD ((i+1) % l.length) 0=v)&&(decide (l.getD ((i+2) % l.length) 0=D8 n v u)&&Kt n (l.getD ((i+l.length-1) % l.length) 0) u)
  |_=>false
theorem E3{n u v:Int}(h:okT n (.arc u v)):okT n (.arc v u):=⟨h.2.1,h.1,Am8 h.2.2⟩
theorem AWs{n:Int}{l:List Int}{i:Nat}(hi:i<l.length)(h:LQ n l i=true):Red n l (FY l i):=by
 rw[LQ,AmX,AmV]at h
 obtain⟨hl,h⟩:=h
 cases ht:B8 n (l.getD i 0)with
 |none=>rw[ht]at h;cases h
 |some t=>
  rw[ht]at h
  cases t with
  |ver v=>cases h
  |arc u v=>
   simp only[AmX,AmV]at h
   obtain⟨h1,h2,h3⟩:=h
   obtain⟨g1,g2⟩:=Wu ht
   let j:=if i=0 then l.length-1 else i-1
   have hj:j<l.length:=by simp only[j];split<;>omega
   have hij:i=if j+1=l.length then 0 else j+1:=by simp only[j];(repeat' split)<;>omega
   have m0:(i+l.length-1) % l.length=(j+0) % l.length:=by
    rw[LH (by omega),LH (by omega)];simp only[j];(repeat' split)<;>omega
   have m1:i=(j+1) % l.length:=by rw[LH (by omega)];simp only[j];(repeat' split)<;>omega
   have m2:(i+1) % l.length=(j+2) % l.length:=by
    rw[LH (by omega),LH (by omega)];simp only[j];(repeat' split)<;>omega
   have m3:(i+2) % l.length=(j+3) % l.length:=by
    rw[LH (by omega),LH (by omega)];simp only[j];(repeat' split)<;>omega
   have hlr:4≤(rot l j).length:=by rw[OO (AoE hj)];exact hl
   have e:=Al9 (0:Int) hlr
   have r0:=GJ (l:=l) (k:=0) hj (by omega)
   have r1:=GJ (l:=l) (k:=1) hj (by omega)
   have r2:=GJ (l:=l) (k:=2) hj (by omega)
   have r3:=GJ (l:=l) (k:=3) hj (by omega)
   rw[← m0]at r0
   rw[← m1]at r1
   rw[← m2,h1]at r2
   rw[← m3,h2,FK (E3 g1)]at r3
   refine⟨j,(rot l j).getD 0 0,u,v,(rot l j).drop 4,hj,?_,g1,by rw[r0];exact h3,Abo hl hj hij⟩
   rw[r1,r2,r3,← g2]at e
   exact e
theorem AU8{n:Int}{l l':List Int}(h:Red n l l'):∃ i,i<l.length∧LQ n l i=true:=by
 obtain⟨j,x,u,v,rest,hj,hr,hok,hst,_⟩:=h
 have hl:4≤l.length:=by
  have:=Anj List.length hr
  rw[OO (AoE hj)]at this
  simp only[Amb]at this
  omega
 let i:=if j+1=l.length then 0 else j+1
 have hi:i<l.length:=by simp only[i];split<;>omega
 have m0:(i+l.length-1) % l.length=(j+0) % l.length:=by
  rw[LH (by omega),LH (by omega)];simp only[i];(repeat' split)<;>omega
 have m1:i=(j+1) % l.length:=by rw[LH (by omega)];simp only[i];(repeat' split)<;>omega
 have m2:(i+1) % l.length=(j+2) % l.length:=by
  rw[LH (by omega),LH (by omega)];simp only[i];(repeat' split)<;>omega
 have m3:(i+2) % l.length=(j+3) % l.length:=by
  rw[LH (by omega),LH (by omega)];simp only[i];(repeat' split)<;>omega
 have r0:=GJ (l:=l) (k:=0) hj (by omega)
 have r1:=GJ (l:=l) (k:=1) hj (by omega)
 have r2:=GJ (l:=l) (k:=2) hj (by omega)
 have r3:=GJ (l:=l) (k:=3) hj (by omega)
 rw[hr]at r0 r1 r2 r3
 rw[← m0]at r0
 rw[← m1]at r1
 rw[← m2]at r2
 rw[← m3]at r3
 simp only[List.getD_cons_zero,List.getD_cons_succ]at r0 r1 r2 r3
 refine⟨i,hi,?_⟩
 rw[LQ,← r1,Dr hok]
 simp only[← r0,← r2,← r3,hst,FK (E3 hok),hl,Amg,Anz]
theorem AlJ{n:Int}{l l':List Int}(h:Red n l l')(hn:l.Nodup):TI n l↔TI n l':=by
 obtain⟨j,x,u,v,rest,hj,hr,hok,hst,rfl⟩:=h
 obtain⟨X,hX,hXs⟩:∃ X,B8 n x=some X∧X.st=u:=by
  rw[Kt]at hst
  cases hx:B8 n x with
  |none=>rw[hx]at hst;cases hst
  |some X=>rw[hx]at hst;exact⟨X,rfl,by simpa using hst⟩
 obtain⟨hX1,hX2⟩:=Wu hX
 have hnr:(rot l j).Nodup:=by
  rw[rot]
  exact(List.perm_append_comm.nodup_iff).2 (by rw[AnP];exact hn)
 rw[hr]at hnr
 constructor
 ·rintro⟨L,h1,h2,h3⟩
  have hL:rot l j=(L.drop j++L.take j).map (Di n):=by rw[rot,h1];simp
  have hTr:T (L.drop j++L.take j):=T.rot (L.take j) (L.drop j) (by rw[AnP];exact h3)
  have hok2:∀ t∈L.drop j++L.take j,okT n t:=fun t ht=>h2 t (by
   rw[← AnP j L]
   simp only[AmY]at ht ⊢
   exact ht.symm)
  generalize L.drop j++L.take j=M at *
  rw[hr]at hL
  match M,hL with
  |[_,_],hL=>simp at hL
  |[_,_,_],hL=>simp at hL
  |a::b::c::d::r,hL=>
   simp only[Am0,Amp]at hL
   obtain⟨e1,e2,e3,e4,e5⟩:=hL
   have q1:X=a:=GQ hX1 (hok2 a (by simp)) (by rw[hX2,e1])
   have q2:Tok.arc u v=b:=GQ hok (hok2 b (by simp)) e2
   have q3:Tok.ver v=c:=GQ (show okT n (.ver v)from hok.2.1) (hok2 c (by simp)) e3
   have q4:Tok.arc v u=d:=GQ (E3 hok) (hok2 d (by simp)) e4
   subst q1 q2 q3 q4
   subst hXs
   have:=T.less hTr
   refine⟨r++[X],by simp[e5,hX2],fun t ht=>hok2 t ?_,T.rot [X] r this⟩
   simp only[AmY,Amv]at ht
   rcases ht with h|h<;>simp[h]
 ·rintro⟨K,k1,k2,k3⟩
  obtain⟨K1,K2,rfl,e1,e2⟩:=ApW.1 k1.symm
  obtain⟨X',K3,rfl,e3,e4⟩:=List.map_eq_cons_iff.1 e2
  rw[List.map_eq_nil_iff]at e4
  subst e4
  have q1:X'=X:=GQ (k2 X' (by simp)) hX1 (by rw[hX2,e3])
  subst q1
  have t1:T (X'::K1):=T.rot K1 [X'] k3
  subst hXs
  have hvm:∀ t,t∈X'::K1→okT n t:=fun t ht=>k2 t (by
   simp only[Ama,AmY,Amv]at ht ⊢
   rcases ht with h|h<;>simp[h])
  have hnv:Tok.ver v∉X'::K1:=by
   intro hm
   have hvl:v=x∨v∈rest:=by
    rcases Ama.1 hm with h|h
    ·left;rw[← hX2,← h];rfl
    ·right;rw[← e1];exact Amo.2 ⟨_,h,rfl⟩
   simp only[Am3,Ama,not_or]at hnr
   rcases hvl with h|h
   ·exact hnr.1.2.1 h.symm
   ·exact hnr.2.2.1.2 h
  have t2:=T.add X' K1 v t1 hok.2.2 hnv
  have hmap:rot l j=(X' :: .arc X'.st v :: .ver v :: .arc v X'.st::K1).map (Di n):=by
   rw[hr];simp only[Am0,hX2,e1];rfl
  have hok3:∀ t∈X'::Tok.arc X'.st v :: .ver v :: .arc v X'.st::K1,okT n t:=by
   intro t ht
   simp only[Ama]at ht
   rcases ht with rfl|rfl|rfl|rfl|h
   ·exact hX1
   ·exact hok
   ·exact hok.2.1
   ·exact E3 hok
   ·exact hvm t (Amt _ h)
  generalize X'::Tok.arc X'.st v :: .ver v :: .arc v X'.st::K1=M at *
  rw[rot]at hmap
  obtain⟨M1,M2,rfl,f1,f2⟩:=ApW.1 hmap.symm
  refine⟨M2++M1,by rw[An3,f1,f2,AnP],fun t ht=>hok3 t ?_,T.rot M1 M2 t2⟩
  simp only[AmY]at ht ⊢
  exact ht.symm
theorem Alu{n:Int}{l:List Int}(h:TI n l)(hl:1<l.length):∃ l',Red n l l':=by
 obtain⟨L,h1,h2,h3⟩:=h
 rcases h3.leaf with⟨v,e⟩|⟨x,v,r,p,q,e1,e2⟩
 ·rw[h1,e]at hl;simp at hl
 ·have hmap:l.map id=(p++q).map (Di n):=by rw[List.map_id,h1,e1]
  rw[List.map_id]at hmap
  have hok:∀ t∈q++p,okT n t:=fun t ht=>h2 t (by rw[e1];simp only[AmY]at ht ⊢;exact ht.symm)
  have key:∀ j,j<l.length→rot l j=(q++p).map (Di n)→∃ l',Red n l l':=by
   intro j hj hrj
   rw[← e2]at hok
   rw[← e2]at hrj
   have ha:okT n (.arc x.st v):=hok _ (by simp)
   exact⟨_,j,Di n x,x.st,v,r.map (Di n),hj,by rw[hrj];rfl,ha,by rw[Kt,Dr (hok x (by simp))];simp,rfl⟩
  by_cases hq:q=[]
  ·subst hq
   refine key 0 (by omega) ?_
   simp[rot,hmap]
  ·have hj:p.length<l.length:=by
    rw[hmap,Ano,Amc]
    have:=List.length_pos_iff.2 hq
    omega
   refine key p.length hj ?_
   rw[rot,hmap,An3]
   rw[List.drop_left' (by simp),ApJ (by simp),An3]
end Go.Pev.Pl
end
section
namespace Go.Pev.Pl
open Tok
theorem AU4{l:List Int}{i:Nat}(hi:i<l.length):∀ x∈FY l i,x∈l:=by
 intro x hx
 simp only[FY,Amo]at hx
 obtain⟨k,_,rfl⟩:=hx
 have hk:(i+k) % l.length<l.length:=Nat.mod_lt _ (by omega)
 rw[AmW,AmZ hk,Am4]
 exact An4 hk
theorem Abp{n:Int}{l l':List Int}(h:Red n l l')(hn:l.Nodup):l'.Nodup:=by
 obtain⟨j,x,u,v,rest,hj,hr,hok,hst,rfl⟩:=h
 have hnr:(rot l j).Nodup:=by
  rw[rot]
  exact(List.perm_append_comm.nodup_iff).2 (by rw[AnP];exact hn)
 rw[hr]at hnr
 have:(x::rest).Nodup:=by
  simp only[Am3,Ama,not_or]at hnr ⊢
  exact⟨hnr.1.2.2.2,hnr.2.2.2.2⟩
 exact(AoD (l₁:=[x]) (l₂:=rest)).nodup_iff.1 this
theorem AiT(n t:Int):TI n [t]↔In n t:=by
 constructor
 ·rintro⟨L,h1,h2,h3⟩
  rcases h3.leaf with⟨v,e⟩|⟨x,v,r,hr⟩
  ·subst e
   simp only[Am0,AoR,Amp,Ao8]at h1
   rw[h1]
   exact h2 (.ver v) (by simp)
  ·have h4:=hr.length
   have h5:=Anj List.length h1
   simp only[Amb,Amw,Ano]at h4 h5
   omega
 ·intro h
  exact⟨[.ver t],rfl,fun x hx=>by simp at hx;subst hx;exact h,T.one t⟩
theorem AiU(n:Int):¬ TI n []:=by
 rintro⟨L,h1,h2,h3⟩
 have:=h3.facts.1
 cases L with
 |nil=>exact this rfl
 |cons t L=>cases h1
end Go.Pev.Pl
end
section
namespace Go.Pev.Pl
open Tok
def RG(n:Int)(xs:List Int):Prop:=Rt xs∧xs≠[]∧Gf xs=xs.headD 0∧TI n xs
def okR(n:Int):List Int→Int→List (List Int)→Prop
 |_,_,[]=>True
 |seen,last,l::ls=>RG n l∧last<l.headD 0∧(∀ t∈l,t<n→t∉seen)∧okR n (seen++l.filter (fun t=>decide (t<n))) (l.headD 0) ls
def RF(n:Int)(rings:List (List Int)):Prop:=Sz n∧okR n [] (-1) rings∧∀ v,0≤v→v<n→v∈rings.flatten
noncomputable instance (n:Int) (rings:List (List Int)):Decidable (RF n rings):=Classical.propDecidable _
noncomputable instance (n:Int) (xs:List Int):Decidable (RG n xs):=Classical.propDecidable _
def MI(n:Int)(met:List (Int×Int))(seen:List Int):Prop:=∀ t,t<n→(AP met t).getD (0:Int)=if t∈seen then 1 else 0
theorem AJy(n:Int)(l:List Int)(hl:l.length<1073741824)(d1:List (List Int))(d3:Int)(d4:List (List Int))(d5 d6:Int)(d7:List Int)(d8 d9:Int)(d10:Bool)(d11:List Int)(d12 d13:Bool)(d14:List Int)(d15:Int)(d16:List Int)(d17:Int)(d18:Bool)(d19:Int)(d20:List Int)(d21 d22:Bool):
  ∀ (m k cnt:Nat) (met:List (Int×Int)) (seen:List Int),k+m=l.length→MI n met seen→(l.drop k).Nodup→m<cnt →
  ((∀ t∈l.drop k,t<n→t∉seen)∧∃ met',AY Dp cnt (n,d1,met,d3,d4,d5,d6,d7,d8,d9,d10,d11,d12,d13,d14,d15,d16,d17,d18,d19,d20,d21,d22,l,(l.length:Int),(k:Int),()) =
    some (.inr (.inl (n,d1,met',d3,d4,d5,d6,d7,d8,d9,d10,d11,d12,d13,d14,d15,d16,d17,d18,d19,d20,d21,d22,())))∧MI n met' (seen++(l.drop k).filter (fun t=>decide (t<n)))) ∨
  (¬ (∀ t∈l.drop k,t<n→t∉seen)∧AY Dp cnt (n,d1,met,d3,d4,d5,d6,d7,d8,d9,d10,d11,d12,d13,d14,d15,d16,d17,d18,d19,d20,d21,d22,l,(l.length:Int),(k:Int),())=some (.inl (false,()))):=by
 intro m
 induction m with
 |zero=>
  intro k cnt met seen hk hm hn hc
  obtain⟨cnt,rfl⟩:∃ c,cnt=c+1:=⟨cnt-1,by omega⟩
  have e:l.drop k=[]:=Anf (by omega)
  rw[e]
  refine .inl ⟨by simp,met,?_,by simpa using hm⟩
  rw[AY,Dp,AR,AmS (by omega)]
 |succ m ih=>
  intro k cnt met seen hk hm hn hc
  obtain⟨cnt,rfl⟩:∃ c,cnt=c+1:=⟨cnt-1,by omega⟩
  have hk':k<l.length:=by omega
  have e:l.drop k=l.getD k 0::l.drop (k+1):=by
   rw[AnN hk',AmW,AmZ hk',Am4]
  rw[AY,Dp,AR,AmU hk']
  simp only[DT (0:Int) hk']
  rw[e]at hn ⊢
  generalize l.getD k 0=t at *
  rw[Am3]at hn
  rw[AS (by omega),Ah]
  by_cases ht:t<n
  ·rw[AmU ht]
   have hmt:=hm t ht
   simp only[hmt,Ah]
   by_cases hs:t∈seen
   ·rw[Amk hs,AmU (by omega)]
    exact .inr ⟨fun h=>h t (by simp) ht hs,rfl⟩
   ·rw[Amh hs,AmS (by omega)]
    simp only[]
    have w1:IntKind.wrap .i64 ((0:Int)+1)=1:=by rw[Aj (by omega)];rfl
    rw[w1]
    have hm':MI n (Af met t 1) (seen++[t]):=by
     intro y hy
     rw[Dv]
     by_cases e2:y=t
     ·simp[e2]
     ·simp only[e2,Amn,AmY,Amv,Ao1];exact hm y hy
    have hiff:(∀ y∈t::l.drop (k+1),y<n→y∉seen)↔∀ y∈l.drop (k+1),y<n→y∉seen++[t]:=by
     constructor
     ·intro h y hy hyn hm2
      simp only[AmY,Amv]at hm2
      rcases hm2 with h2|rfl
      ·exact h y (Amt _ hy) hyn h2
      ·exact hn.1 hy
     ·intro h y hy hyn hm2
      rcases Ama.1 hy with rfl|hy
      ·exact hs hm2
      ·exact h y hy hyn (by simp[hm2])
    rcases ih (k+1) cnt _ _ (by omega) hm' hn.2 (by omega)with⟨q1,met',q2,q3⟩|⟨q1,q2⟩
    ·refine .inl ⟨hiff.2 q1,met',q2,?_⟩
     rw[ApO (by simpa using ht)]
     simpa using q3
    ·exact .inr ⟨fun h=>q1 (hiff.1 h),q2⟩
  ·rw[AmS ht]
   simp only[]
   have hm':MI n (Af met t (IntKind.wrap .i64 (((AP met t).getD (0:Int))+(1:Int)))) seen:=by
    intro y hy
    rw[Dv,Amh (by omega)]
    exact hm y hy
   have hiff:(∀ y∈t::l.drop (k+1),y<n→y∉seen)↔∀ y∈l.drop (k+1),y<n→y∉seen:=by
    constructor
    ·intro h y hy;exact h y (Amt _ hy)
    ·intro h y hy hyn
     rcases Ama.1 hy with rfl|hy
     ·exact absurd hyn ht
     ·exact h y hy hyn
   rcases ih (k+1) cnt _ _ (by omega) hm' hn.2 (by omega)with⟨q1,met',q2,q3⟩|⟨q1,q2⟩
   ·refine .inl ⟨hiff.2 q1,met',q2,?_⟩
    rw[ApP (by simpa using ht)]
    exact q3
   ·exact .inr ⟨fun h=>q1 (hiff.1 h),q2⟩
theorem AAt(n:Int)(rings:List (List Int))(hlen:rings.length<1073741824)(hr:∀ l∈rings,l.length<9223372036854775808∧∀ x∈l, -9223372036854775808≤x∧x≤9223372036854775807):
  ∀ (ls:List (List Int)) (i cnt:Nat) (met:List (Int×Int)) (last:Int) (seen:List Int),rings.drop i=ls→i≤rings.length→MI n met seen→ls.length<cnt →
  (okR n seen last ls∧∃ met' seen',AY Dq cnt (n,rings,met,last,rings,(rings.length:Int),(i:Int),())=some (.inr (.inl (n,rings,met',())))∧MI n met' seen'∧∀ v,v∈seen'↔v∈seen∨(v<n∧v∈ls.flatten)) ∨
  (¬ okR n seen last ls∧AY Dq cnt (n,rings,met,last,rings,(rings.length:Int),(i:Int),())=some (.inl (false,()))):=by
 have hmany:4294967296<many:=by simp only[many];omega
 intro ls
 induction ls with
 |nil=>
  intro i cnt met last seen hd hi hm hc
  obtain⟨cnt,rfl⟩:∃ c,cnt=c+1:=⟨cnt-1,by simp at hc;omega⟩
  have:rings.length≤i:=by simpa using hd
  refine .inl ⟨trivial,met,seen,?_,hm,by simp⟩
  rw[AY,Dq,AR,AmS (by omega)]
 |cons l ls ih=>
  intro i cnt met last seen hd hi hm hc
  simp only[Amb]at hc
  obtain⟨cnt,rfl⟩:∃ c,cnt=c+1:=⟨cnt-1,by omega⟩
  have hi':i<rings.length:=by
   refine AnW fun h => ?_
   rw[Anf (by omega)]at hd
   cases hd
  rw[AnN hi']at hd
  simp only[Amp]at hd
  obtain⟨hd1,hd2⟩:=hd
  have hx:rings[i]? = some l:=by rw[AmZ hi',hd1]
  have hmem:l∈rings:=Amj hx
  obtain⟨hl,hlr⟩:=hr l hmem
  rw[AY,Dq,AR,AmU hi',okR]
  simp only[Ak hx,Ar]
  cases l with
  |nil=>
   rw[AM,AmU (by simp)]
   exact .inr ⟨fun h=>h.1.2.1 rfl,rfl⟩
  |cons x tl=>
   rw[AM,AmS (by simp only[Amb];omega)]
   have i0:idx (x::tl) (0:Int)=some x:=by rw[E6];rfl
   simp only[i0,ApK,A0]
   by_cases c1:x≤last
   ·rw[AmU c1]
    exact .inr ⟨fun h=>by omega,rfl⟩
   ·rw[AmS c1]
    simp only[P5]
    by_cases c2:Rt (x::tl)
    ·rw[AmU c2]
     have hl:(x::tl).length<1073741824:=by have:=c2.1;omega
     simp only[Amf,ARD (x::tl) (by simp) (by omega)]
     by_cases c3:Gf (x::tl)=x
     ·rw[AmU c3]
      simp only[Amf]
      rw[Ahe n (x::tl) (by simp) (by omega) hlr c2.2.2 (fun y hy=>by simp at hy;rw[← hy];exact c3)]
      by_cases c4:TI n (x::tl)
      ·rw[AmU c4]
       simp only[Amf,As]
       have hRG:RG n (x::tl):=⟨c2,by simp,c3,c4⟩
       rcases AJy n (x::tl) hl rings x rings (rings.length:Int) (i:Int) (x::tl) x last false (x::tl) true false (x::tl) (Gf (x::tl)) (x::tl) x false n (x::tl) true false (x::tl).length 0 many met seen (by omega) hm (by rw[AoW];exact c2.2.2) (by omega)with⟨q1,met',q2,q3⟩|⟨q1,q2⟩
       ·rw[AoW]at q1 q3
        have q2':AY Dp many (n,rings,met,x,rings,(rings.length:Int),(i:Int),x::tl,x,last,false,x::tl,true,false,x::tl,Gf (x::tl),x::tl,x,false,n,x::tl,true,false,x::tl,((x::tl).length:Int),(0:Int),())=_:=q2
        simp only[q2',AS (show i+1<9223372036854775808 by omega)]
        rcases ih (i+1) cnt met' x (seen++(x::tl).filter (fun t=>decide (t<n))) hd2 (by omega) q3 (by omega)with⟨p1,met2,seen2,p2,p3,p4⟩|⟨p1,p2⟩
        ·refine .inl ⟨⟨hRG,by omega,q1,p1⟩,met2,seen2,p2,p3,fun v => ?_⟩
         rw[p4,AmY,AnG,Aoa,AmY]
         simp only[AmV]
         constructor
         ·rintro ((h|h)|h)
          ·exact .inl h
          ·exact .inr ⟨h.2,.inl h.1⟩
          ·exact .inr ⟨h.1,.inr h.2⟩
         ·rintro (h|⟨h,h2|h2⟩)
          ·exact .inl (.inl h)
          ·exact .inl (.inr ⟨h2,h⟩)
          ·exact .inr ⟨h,h2⟩
        ·exact .inr ⟨fun h=>p1 h.2.2.2,p2⟩
       ·rw[AoW]at q1
        have q2':AY Dp many (n,rings,met,x,rings,(rings.length:Int),(i:Int),x::tl,x,last,false,x::tl,true,false,x::tl,Gf (x::tl),x::tl,x,false,n,x::tl,true,false,x::tl,((x::tl).length:Int),(0:Int),())=_:=q2
        simp only[q2']
        exact .inr ⟨fun h=>q1 h.2.2.1,by trivial⟩
      ·rw[AmS c4]
       exact .inr ⟨fun h=>c4 h.1.2.2.2,rfl⟩
     ·rw[AmS c3]
      exact .inr ⟨fun h=>c3 h.1.2.2.1,rfl⟩
    ·rw[AmS c2]
     exact .inr ⟨fun h=>c2 h.1.1,rfl⟩
theorem Ph(n:Int)(rings:List (List Int))(hlen:rings.length<1073741824)(hr:∀ l∈rings,l.length<9223372036854775808∧∀ x∈l, -9223372036854775808≤x∧x≤9223372036854775807):
  Pj ((n,(rings,())),())=some (decide (RF n rings),()):=by
 have hmany:4294967296<many:=by simp only[many];omega
 rw[AHg,RR]
 simp only[Kq]
 by_cases hS:Sz n
 ·rw[AmU hS]
  simp only[Amf,As,AM]
  rcases AAt n rings hlen hr rings 0 many [] (-1) [] (by simp) (by omega) (fun t _=>by simp[AP]) (by omega)with⟨p1,met,seen,p2,p3,p4⟩|⟨p1,p2⟩
  ·have p2':AY Dq many (n,rings,[], -1,rings,(rings.length:Int),(0:Int),())=_:=p2
   simp only[p2']
   obtain⟨s1,s2⟩:=hS
   obtain⟨N,rfl⟩:=Ame (show 0≤n by omega)
   have e:=APD (step:=Ed) (fun i=>(met,(N:Int),(i:Int),())) N (fun i=>decide ((i:Int)∉seen)) (fun _=>.inl (false,())) (.inr (.inl ())) (by omega)
    (fun i hi=>by
     have:=p3 (i:Int) (by omega)
     rw[Ed,AR,AmU hi]
     simp only[this,Ar]
     by_cases h:(i:Int)∈seen
     ·simp only[h,Am7,not_true]
      rw[AS (by omega)];simp
     ·simp[h])
    (by rw[Ed,AR,AmS (by omega)])
   rw[As]at e
   have hv:∀ v,v∈seen↔(v<(N:Int)∧v∈rings.flatten):=fun v=>by rw[p4];simp
   rcases e with⟨k,k1,k2,_,k4⟩|⟨k1,k4⟩
   ·have k4':AY Ed many (met,(N:Int),(0:Int),())=_:=k4
    rw[k4',AmS]
    rintro⟨_,_,h⟩
    simp only[AmV]at k2
    exact k2 ((hv _).2 ⟨by omega,h (k:Int) (by omega) (by omega)⟩)
   ·have k4':AY Ed many (met,(N:Int),(0:Int),())=_:=k4
    rw[k4',AmU]
    refine⟨⟨s1,s2⟩,p1,fun v v1 v2 => ?_⟩
    obtain⟨k,rfl⟩:=Ame v1
    have:=k1 k (by omega)
    simp only[AnK,Ao3]at this
    exact((hv _).1 this).2
  ·have p2':AY Dq many (n,rings,[], -1,rings,(rings.length:Int),(0:Int),())=_:=p2
   simp only[p2']
   rw[AmS (fun h=>p1 h.2.1)]
 ·rw[AmS hS,AmS (fun h=>hS h.1)];rfl
end Go.Pev.Pl
end
section
namespace Go.Pev.Pl
open Tok
def MB(N:Nat)(met:List Bool)(seen:List Int):Prop:=met.length=N∧∀ k,k<N→met.getD k false=decide ((k:Int)∈seen)
theorem ACJ{xs:List Int}(hr:Rt xs)(h:xs≠[]):plain xs=xs↔Gf xs=xs.headD 0:=by
 obtain⟨a,b,h1,h2⟩:=Hu hr h
 constructor
 ·intro e
  rw[e]at h2
  rw[h2]
  have:Gf xs=Gf xs:=rfl
  conv=>lhs;rw[← h2]
  rfl
 ·intro e
  cases a with
  |nil=>rw[h2,Anb];exact h1.symm
  |cons y a=>
   exfalso
   have hn:=hr.2.2
   have hy:y=Gf xs:=by rw[e,h1];rfl
   rw[h1,Amy,Am3]at hn
   exact hn.1 (by rw[← hy];simp)
theorem AcR{n:Int}:∀ {ls:List (List Int)} {seen:List Int} {last:Int},okR n seen last ls→seen.Nodup→(seen++ls.flatten.filter (fun t=>decide (t<n))).Nodup∧∀ l∈ls,RG n l:=by
 intro ls
 induction ls with
 |nil=>intro seen last _ h;simpa using h
 |cons l ls ih=>
  intro seen last ⟨h1,h2,h3,h4⟩ hs
  obtain⟨g1,g2⟩:=ih h4 (by
   rw[AoN]
   refine⟨hs,(h1.1.2.2).filter _,fun a ha b hb => ?_⟩
   rintro rfl
   simp only[AnG,AmV]at hb
   exact h3 a hb.1 hb.2 ha)
  refine⟨by rw[Aoa,AoG,← AnY];exact g1,fun k hk => ?_⟩
  rcases Ama.1 hk with rfl|hk
  ·exact h1
  ·exact g2 k hk
theorem Ou{n:Int}{l:List Int}(h:RG n l):In n (l.headD 0):=by
 obtain⟨h1,h2,h3,h4⟩:=h
 cases l with
 |nil=>exact absurd rfl h2
 |cons x l=>exact AaE h4 h3
theorem AZT{n:Int}(hn:1≤n):∀ {ls:List (List Int)} {seen:List Int} {last:Int},okR n seen last ls→-1≤last→last<n→(ls.length:Int)≤n-1-last:=by
 intro ls
 induction ls with
 |nil=>intro seen last _ _ h;simp;omega
 |cons l ls ih=>
  intro seen last ⟨h1,h2,h3,h4⟩ hl hl2
  have hh:=(Ou h1).2.2
  have:=ih h4 (by omega) hh.2
  simp only[Amb]
  omega
end Go.Pev.Pl
end
section
namespace Go.Pev.Pl
open Tok
def hd(l:List Int):Int:=l.headD 0
def Dis(n:Int)(a b:List Int):Prop:=∀ t∈a,t<n→t∉b
structure FR(n:Int)(rings:List (List Int)):Prop where
 sz:Sz n
 rg:∀ l∈rings,RG n l
 up:rings.Pairwise (fun a b=>hd a<hd b)
 dis:rings.Pairwise (Dis n)
 cov:∀ v,In n v→∃ l∈rings,v∈l
theorem Dis.symm{n:Int}{a b:List Int}(h:Dis n a b):Dis n b a:=fun t ht hn ha=>h t ha hn ht
theorem AZU{n:Int}:∀ {ls:List (List Int)} {seen:List Int} {last:Int},okR n seen last ls↔(∀ l∈ls,RG n l∧last<hd l∧∀ t∈l,t<n→t∉seen)∧ls.Pairwise (fun a b=>hd a<hd b)∧ls.Pairwise (Dis n):=by
 intro ls
 induction ls with
 |nil=>intro seen last;simp[okR]
 |cons l ls ih=>
  intro seen last
  rw[okR,ih,AnI,AnI]
  constructor
  ·rintro⟨h1,h2,h3,h4,h5,h6⟩
   refine⟨fun k hk => ?_,⟨fun k hk=>(h4 k hk).2.1,h5⟩,⟨fun k hk t ht htn htk => ?_,h6⟩⟩
   ·rcases Ama.1 hk with rfl|hk
    ·exact⟨h1,h2,h3⟩
    ·obtain⟨q1,q2,q3⟩:=h4 k hk
     exact⟨q1,Int.lt_trans h2 q2,fun t ht htn hts=>q3 t ht htn (by simp[hts])⟩
   ·exact(h4 k hk).2.2 t htk htn (by simp[ht,htn])
  ·rintro⟨h1,⟨h2,h3⟩,⟨h4,h5⟩⟩
   obtain⟨q1,q2,q3⟩:=h1 l (by simp)
   refine⟨q1,q2,q3,fun k hk => ?_,h3,h5⟩
   obtain⟨p1,p2,p3⟩:=h1 k (by simp[hk])
   refine⟨p1,h2 k hk,fun t ht htn hts => ?_⟩
   simp only[AmY,AnG]at hts
   rcases hts with h|h
   ·exact p3 t ht htn h
   ·exact h4 k hk t h.1 htn ht
theorem Lz{n:Int}{rings:List (List Int)}:RF n rings↔FR n rings:=by
 constructor
 ·rintro⟨h1,h2,h3⟩
  obtain⟨q1,q2,q3⟩:=AZU.1 h2
  refine⟨h1,fun l hl=>(q1 l hl).1,q2,q3,fun v hv => ?_⟩
  obtain⟨l,hl,h⟩:=Apb.1 (h3 v hv.2.2.1 hv.2.2.2)
  exact⟨l,hl,h⟩
 ·rintro⟨h1,h2,h3,h4,h5⟩
  refine⟨h1,AZU.2 ⟨fun l hl=>⟨h2 l hl,?_,by simp⟩,h3,h4⟩,fun v v1 v2 => ?_⟩
  ·have:=(Ou (h2 l hl)).2.2.1
   show(-1:Int)<l.headD 0
   omega
  ·obtain⟨l,hl,h⟩:=h5 v ⟨h1.1,h1.2,v1,v2⟩
   exact Apb.2 ⟨l,hl,h⟩
theorem Xv{ys zs:List (List Int)}(hz:zs.Pairwise (fun a b=>hd a<hd b))(hp:ys.Perm zs)(hy:ys.Pairwise (fun a b=>¬ hd b<hd a)):ys=zs:=by
 have hinj:∀ a∈zs,∀ b∈zs,hd a=hd b→a=b:=by
  intro a ha b hb e
  refine AnW fun hne => ?_
  obtain⟨i,hi,rfl⟩:=An6 ha
  obtain⟨j,hj,rfl⟩:=An6 hb
  rw[An5]at hz
  rcases ApR i j with h|h|h
  ·have:=hz i j hi hj h;omega
  ·subst h;exact hne rfl
  ·have:=hz j i hj hi h;omega
 refine List.Perm.eq_of_pairwise (le:=fun a b=>¬ hd b<hd a) ?_ hy ?_ hp
 ·intro a b ha hb h1 h2
  exact hinj a (hp.mem_iff.1 ha) b hb (by omega)
 ·exact hz.imp fun h=>by omega
def plc(rings:List (List Int))(v:Int):Int:=if rings.any (fun l=>decide (v∈l))then((rings.findIdx (fun l=>decide (v∈l)):Nat):Int)else -1
theorem Hi(n:Int)(rings:List (List Int))(v:Int)(hlen:rings.length<1073741824)(hr:∀ l∈rings,l.length<9223372036854775808):Pk ((n,(rings,())),v,())=some (plc rings v,()):=by
 rw[AHo,RV,I1,Dy]
 have e:=MW (step:=Bi) (fun i=>(v,rings,AK rings,(i:Int),())) rings (fun l=>decide (v∈l)) (fun i=>.inl (v,(i:Int),())) (.inr (.inl (v,()))) (by omega)
  (fun i l hi hx=>by
   have hl:=hr l (Amj hx)
   rw[Bi,AM,AR,AmU hi]
   simp only[Ak hx,Jy l v (by omega)]
   rw[AS (by omega)]
   by_cases h:v∈l
   ·rw[AmU h];rfl
   ·rw[AmS h];rfl)
  (by rw[Bi,AM,AR,AmS (by omega)])
 have e':AX Bi many (v,rings,AK rings,(0:Int),())=_:=e
 simp only[e',plc]
 cases rings.any (fun l=>decide (v∈l))<;>rfl
theorem M7{rings:List (List Int)}{v:Int}(h:∃ l∈rings,v∈l):∃ k l,plc rings v=((k:Nat):Int)∧rings[k]? = some l∧v∈l∧k<rings.length:=by
 obtain⟨l,hl,hv⟩:=h
 have hany:rings.any (fun l=>decide (v∈l))=true:=AoV.2 ⟨l,hl,by simpa using hv⟩
 have hk:rings.findIdx (fun l=>decide (v∈l))<rings.length:=Aog.2 ⟨l,hl,by simpa using hv⟩
 refine⟨_,rings[rings.findIdx (fun l=>decide (v∈l))],by rw[plc,Amk hany],by rw[AmZ hk],?_,hk⟩
 have:=List.findIdx_getElem (xs:=rings) (p:=fun l=>decide (v∈l)) (w:=hk)
 simpa using this
theorem FR.uniq{n:Int}{rings:List (List Int)}(h:FR n rings){i j:Nat}{a b:List Int}{v:Int}(hi:rings[i]? = some a)(hj:rings[j]? = some b)(hn:v<n)(ha:v∈a)(hb:v∈b):i=j:=by
 obtain⟨hi1,rfl⟩:=Anc.1 hi
 obtain⟨hj1,rfl⟩:=Anc.1 hj
 have hd:=An5.1 h.dis
 rcases ApR i j with g|g|g
 ·exact absurd hb (hd i j hi1 hj1 g v ha hn)
 ·exact g
 ·exact absurd ha (hd j i hj1 hi1 g v hb hn)
theorem FR.ALJ{n:Int}{rings:List (List Int)}(h:FR n rings){k:Nat}{a:List Int}{v:Int}(hk:rings[k]? = some a)(hn:v<n)(ha:v∈a):plc rings v=(k:Int):=by
 obtain⟨j,l,e,hj,hv,_⟩:=M7 ⟨a,Amj hk,ha⟩
 rw[e,h.uniq hj hk hn hv ha]
theorem AEf{α:Type}{l:List α}{i:Nat}{a:α}(h:l[i]? = some a):l.Perm (a::l.eraseIdx i):=by
 obtain⟨hi,rfl⟩:=Anc.1 h
 rw[List.eraseIdx_eq_take_drop_succ]
 conv=>lhs;rw[← AnP i l,AnN hi]
 exact List.perm_middle
theorem JD{α:Type}{l:List α}{i j:Nat}{a b:α}(hij:i<j)(hi:l[i]? = some a)(hj:l[j]? = some b):l.Perm (a::b::(l.eraseIdx j).eraseIdx i):=by
 have h1:=AEf hj
 have h2:(l.eraseIdx j)[i]? = some a:=by rw[List.getElem?_eraseIdx_of_lt hij,hi]
 exact h1.trans (((AEf h2).cons b).trans (List.Perm.swap a b _))
theorem AcQ{n:Int}{t:Tok}(h:okT n t):0≤Di n t∧Di n t≤4160∧Di n t<n*(n+1):=by
 cases t with
 |ver v=>
  obtain⟨h1,h2,h3,h4⟩:=h
  have:n*1≤n*(n+1):=Int.mul_le_mul_of_nonneg_left (by omega) (by omega)
  simp only[Di];omega
 |arc u v=>
  obtain⟨h1,h2,_⟩:=h
  obtain⟨g1,g2,_⟩:=AAD h1 h2
  have hb:=Fe (u:=n+1-1) h1.1 h1.2.1 (by have:=h1.1;omega) (by have:=h1.2.1;omega)
  have e:n*(n+1)=n*(n+1-1)+n:=by rw[show n+1-1=n by omega,ApU,ApV]
  have:=h1.1
  have:=h1.2.1
  simp only[Di]
  omega
theorem AlR{n:Int}{t:Tok}(h:okT n t):Sz n:=by
 cases t with
 |ver v=>exact⟨h.1,h.2.1⟩
 |arc u v=>exact⟨h.1.1,h.1.2.1⟩
theorem Pf:∀ {L:List Tok},L.Nodup→(Mh L).Nodup
 |[],_=>by simp[Mh]
 |.ver v::L,h=>by
  rw[Am3]at h
  rw[Mh,Am3]
  exact⟨fun hm=>h.1 (Rw.1 hm),Pf h.2⟩
 |.arc _ _::L,h=>by
  rw[Am3]at h
  rw[Mh]
  exact Pf h.2
theorem Akv{n:Int}{xs:List Int}(h:TI n xs):Rt xs:=by
 obtain⟨L,rfl,h2,h3⟩:=h
 have hn:=h3.nodup
 refine⟨?_,fun x hx => ?_,?_⟩
 ·obtain⟨v,r,hr⟩:=h3.ASZ
  have hS:Sz n:=AlR (h2 (.ver v) ((hr.mem _).2 (by simp)))
  have hl:=h3.len
  have hv:=Cb (a:=Mh L) (b:=(List.range n.toNat).map (fun(k:Nat)=>(k:Int))) (Pf hn) fun x hx=>by
   have:=h2 _ (Rw.1 hx)
   have h5:=this.2.2
   rw[Amo]
   exact⟨x.toNat,by rw[An0];omega,by omega⟩
  have h6:=hS.2
  simp only[Ano,AnV]at hv ⊢
  omega
 ·obtain⟨t,ht,rfl⟩:=Amo.1 hx
  have:=AcQ (h2 t ht)
  omega
 ·rw[List.Nodup,Anx]
  exact hn.imp_of_mem fun ha hb hne e=>hne (GQ (h2 _ ha) (h2 _ hb) e)
def ANj(a b:List Int):Prop:=∃ x y,a=x++y∧b=y++x
theorem ANj.perm{a b:List Int}(h:ANj a b):a.Perm b:=by
 obtain⟨x,y,rfl,rfl⟩:=h
 exact AoD
theorem ANj.symm{a b:List Int}(h:ANj a b):ANj b a:=by obtain⟨x,y,h1,h2⟩:=h;exact⟨y,x,h2,h1⟩
theorem AiS{n:Int}{a b:List Int}(h:TI n a)(r:ANj a b):TI n b:=by
 obtain⟨L,h1,h2,h3⟩:=h
 obtain⟨x,y,rfl,rfl⟩:=r
 obtain⟨L1,L2,rfl,e1,e2⟩:=ApW.1 h1.symm
 refine⟨L2++L1,by rw[An3,e1,e2],fun t ht=>h2 t ?_,T.rot L1 L2 h3⟩
 simp only[AmY]at ht ⊢
 exact ht.symm
theorem Ca{xs:List Int}{t:Int}(h:t∈xs):ANj xs (A5 xs t):=by
 obtain⟨a,b,e1,_,e3⟩:=ABx h
 exact⟨a,t::b,e1,by rw[e3]⟩
theorem AcZ{xs ys:List Int}(h:xs.Perm ys)(hne:xs≠[]):Gf ys=Gf xs:=by
 obtain⟨h1,h2⟩:=Er hne
 exact Ajo (h.mem_iff.1 h1) fun x hx=>h2 x (h.mem_iff.2 hx)
theorem AVG{xs:List Int}(hr:Rt xs)(hne:xs≠[]):ANj xs (plain xs):=by
 rw[plain,Amk ⟨hr,hne⟩]
 exact Ca (Er hne).1
theorem Aku{n:Int}{xs:List Int}(h:TI n xs):xs≠[]:=by rintro rfl;exact AiU n h
theorem AFc{n:Int}{xs:List Int}(h:TI n xs):RG n (plain xs)∧ANj xs (plain xs):=by
 have hr:=Akv h
 have hne:=Aku h
 have h1:=AVG hr hne
 have h2:=AiS h h1
 refine⟨⟨Akv h2,Aku h2,?_,h2⟩,h1⟩
 rw[AcZ h1.perm hne]
 obtain⟨a,b,_,e⟩:=Hu hr hne
 rw[e];rfl
theorem RG.self{n:Int}{xs:List Int}(h:RG n xs):plain xs=xs:=(ACJ h.1 h.2.1).2 h.2.2.1
theorem AS5{n:Int}{xs:List Int}(h:TI n xs){t:Tok}(ht:okT n t)(hx:Di n t∈xs):∃ a,A5 xs (Di n t)=(t::a).map (Di n)∧T (t::a)∧(∀ y∈t::a,okT n y):=by
 have h1:=AiS h (Ca hx)
 obtain⟨a,b,e1,e2,e3⟩:=ABx hx
 obtain⟨L,q1,q2,q3⟩:=h1
 rw[e3,Amy]at q1
 cases L with
 |nil=>cases q1
 |cons t' L=>
  simp only[Am0,Amp]at q1
  have:=GQ ht (q2 t' (by simp)) q1.1
  subst this
  exact⟨L,by rw[e3,Amy,Am0,q1.2],q3,q2⟩
end Go.Pev.Pl
end
section
namespace Go.Pev.Pl
open Go.RowKit Tok
theorem CW(a:Int):ieq a a=true:=by rw[B4];simp
def Dom(rings:List (List Int)):Prop:=rings.length<1073741824∧∀ l∈rings,l.length<9223372036854775808∧∀ x∈l, -9223372036854775808≤x∧x≤9223372036854775807
theorem FR.dom{n:Int}{rings:List (List Int)}(h:FR n rings):Dom rings:=by
 have h1:=Lz.2 h
 have h2:=AZT h.sz.1 h1.2.1 (by omega) (by have:=h.sz.1;omega)
 have h3:=h.sz.2
 refine⟨by omega,fun l hl => ?_⟩
 have:=(h.rg l hl).1
 exact⟨by have:=this.1;omega,fun x hx=>by have:=this.2.1 x hx;omega⟩
theorem We{l:List Int}(h:l≠[]):hd l∈l:=by
 cases l with
 |nil=>exact absurd rfl h
 |cons x l=>simp[hd]
end Go.Pev.Pl
end
section
namespace Go.Pev.Pl
open Tok
noncomputable def ASx(n:Int)(rings:List (List Int))(ok:Bool):Int:=if RF n rings then if ok then 0 else 10 else 1
theorem AXq(n:Int)(rings:List (List Int))(xs:List Int)(hs:xs.length<9223372036854775808):DK (xs,n,rings,())=some (n,rings,xs.any (fun x=>decide (x<0)||decide (n≤x)),()):=by
 rw[IL,DU,I5,Dz]
 have e:=MW (step:=Bj) (fun i=>(n,rings,xs,AK xs,(i:Int),())) xs (fun x=>decide (x<0)||decide (n≤x)) (fun i=>.inl (n,rings,(i:Int),())) (.inr (.inl (n,rings,()))) hs
  (fun i x hi hx=>by
   rw[Bj,AM,AR,AmU hi]
   simp only[Ak hx,Ah,A0]
   rw[AS (by omega)]
   by_cases h:x<0
   ·simp[h]
   ·by_cases h2:n≤x
    ·simp[h,h2]
    ·simp[h,h2])
  (by rw[Bj,AM,AR,AmS (by omega)])
 have e':AX Bj many (n,rings,xs,AK xs,(0:Int),())=_:=e
 rw[e']
 generalize (xs.any fun x=>decide (x<0)||decide (n≤x))=b
 cases b<;>simp[A0]
theorem AYU{n v:Int}(hS:Sz n):(decide (v<0)||decide (n≤v)) = !decide (In n v):=by
 by_cases h:In n v
 ·obtain⟨_,_,h3,h4⟩:=h
  simp[In,hS.1,hS.2,h3,h4]
 ·have:v<0∨n≤v:=by
   refine AnW fun hc=>h ⟨hS.1,hS.2,by omega,by omega⟩
  rcases this with g|g<;>simp[h,g]
theorem AEU(n:Int)(rings:List (List Int))(xs:List Int)(hD:Dom rings)(hs:xs.length<9223372036854775808):Qb ((n,(rings,())),xs,())=some (ASx n rings (xs.all fun v=>decide (In n v)),()):=by
 rw[AIz,SO]
 simp only[Ph n rings hD.1 hD.2,AXq n rings xs hs,ASx]
 by_cases h:RF n rings
 ·have hb:(xs.any fun x=>decide (x<0)||decide (n≤x)) = !(xs.all fun v=>decide (In n v)):=by
   rw[List.not_all_eq_any_not]
   congr 1
   funext x
   exact AYU h.1
  simp only[h,Amg,Amf,hb,Am7]
  cases xs.all fun v=>decide (In n v)<;>rfl
 ·simp[h]
end Go.Pev.Pl
end
section
namespace Go.Pev.Pl.SG
open Go.Sort
structure SP(α:Type)where
 z:α
 c:α×α×Unit→Option (Int×Unit)
 ok:α→Prop
 okz:α
 VW:ok okz
 lt:α→α→Bool
 swo:SWO lt
 W4:∀ {x y:α},ok x→ok y→∃ r,c (x,y,())=some (r,())∧ilt r (0:Int)=lt x y
variable {α:Type} {S:SP α}
abbrev EL{α:Type}(S:SP α):={x:α // S.ok x}
instance:Inhabited (EL S):=⟨⟨S.okz,S.VW⟩⟩
def rep(d:Array (EL S)):List α:=d.toList.map Subtype.val
theorem A6{d:Array (EL S)}{n:Nat}(h:n<d.size):idx (rep d) (n:Int)=some (d[n]!).val:=by
 rw[idx_eq,QX,Amh (by omega)]
 simp[rep,h]
theorem BZ{d:Array (EL S)}{n:Nat}{z:α}(h:n<d.size):Ab (rep d) (AN (n:Int)) z=(d[n]!).val:=by
 simp[Ab,AN,rep,h]
theorem JE{d:Array (EL S)}{n:Nat}{x:(EL S)}:BA (rep d) (AN (n:Int)) x.val=rep (d.setIfInBounds n x):=by
 simp[BA,AN,rep,List.map_set]
theorem AZ6{d:Array (EL S)}:AK (rep d)=(d.size:Int):=by simp[AK,rep]
def ltX(x y:(EL S)):Bool:=S.lt x.val y.val
theorem AfC:SWO (ltX (S:=S)):=⟨fun x=>S.swo.irrefl x.val,fun x y z=>S.swo.trans x.val y.val z.val,fun x y z=>S.swo.ntrans x.val y.val z.val⟩
noncomputable def AkP(x y:(EL S)):Int:=match S.c (x.val,y.val,())with
 |some (c,_)=>c
 |none=>0
theorem CV(x y:(EL S)):S.c (x.val,y.val,())=some (AkP x y,()):=by
 obtain⟨c,e,_⟩:=S.W4 x.property y.property
 rw[AkP,e]
theorem DS(x y:(EL S)):ilt (AkP x y) (0:Int)=ltX x y:=by
 obtain⟨c,e,h⟩:=S.W4 x.property y.property
 rw[AkP,e]
 exact h
theorem Aj1(a b i:Nat):∀ (j:Nat) (d:Array (EL S)) (n:Nat),j<d.size→d.size<4611686018427387904→j<n →
  AY (Oe S.z S.c) n ((rep d),(a:Int),(b:Int),(i:Int),(j:Int),())=some (.inl ((rep (insInner ltX a j d)),(a:Int),(b:Int),(i:Int),())):=by
 intro j
 induction j with
 |zero=>
  intro d n hj hs hn
  obtain⟨n,rfl⟩:∃ k,n=k+1:=⟨n-1,by omega⟩
  have h0:ilt (a:Int) ((0:Nat):Int)=false:=by rw[AR];simp
  simp only[AY,Oe,h0,insInner]
 |succ j ih=>
  intro d n hj hs hn
  obtain⟨n,rfl⟩:∃ k,n=k+1:=⟨n-1,by omega⟩
  have e1:IntKind.wrap .i64 (((j+1:Nat):Int)-1)=(j:Int):=by rw[Aj (by omega)];omega
  have hj':j<d.size:=by omega
  simp only[AY,Oe,AR,e1,A6 hj,A6 hj',BZ hj,BZ hj',CV,DS,insInner,gt_iff_lt]
  by_cases h1:a<j+1
  ·cases h2:ltX d[j+1]! d[j]!
   ·simp only[h1,Amg,h2,Bool.and_false,Amq,Amn]
   ·simp only[h1,Amg,h2,Bool.and_true,Am7,JE]
    rw[A6 (by simpa using hj')]
    simp only[KA]
    exact ih (swp d (j+1) j) n (by rw[size_swp];omega) (by rw[size_swp];omega) (by omega)
  ·simp only[h1,Amu,Aos,Amq,Amn]
theorem JW(lt:(EL S)→(EL S)→Bool)(a j:Nat)(d:Array (EL S)):(insInner lt a j d).size=d.size:=by
 induction j generalizing d with
 |zero=>rfl
 |succ j ih=>
  rw[insInner]
  split
  ·rw[ih,size_swp]
  ·rfl
theorem AhD(a b:Nat):∀ (k i:Nat) (d:Array (EL S)) (n:Nat),b-i=k→b≤d.size→d.size<4611686018427387904→d.size<many→k<n →
  AY (Of S.z S.c) n ((rep d),(a:Int),(b:Int),(i:Int),())=some (.inl ((rep (insOuter ltX a b i d)),())):=by
 intro k
 induction k with
 |zero=>
  intro i d n hk hb hs hm hn
  obtain⟨n,rfl⟩:∃ k,n=k+1:=⟨n-1,by omega⟩
  have h0:¬ i<b:=by omega
  rw[insOuter]
  simp only[AY,Of,AR,h0,Amu,Amn]
 |succ k ih=>
  intro i d n hk hb hs hm hn
  obtain⟨n,rfl⟩:∃ k,n=k+1:=⟨n-1,by omega⟩
  have h0:i<b:=by omega
  have e1:IntKind.wrap .i64 ((i:Int)+1)=((i+1:Nat):Int):=by rw[Aj (by omega)];omega
  rw[insOuter]
  simp only[AY,Of,AR,h0,Amg,Am7,As]
  rw[Aj1 a b i i d many (by omega) hs (by omega)]
  simp only[e1]
  exact ih (i+1) _ n (by omega) (by rw[JW];omega) (by rw[JW];omega) (by rw[JW];omega) (by omega)
theorem AhC(d:Array (EL S))(a b:Nat)(hab:a≤b)(hb:b≤d.size)(hs:d.size<4294967296):(AhE S.z S.c) ((rep d),(a:Int),(b:Int),())=some ((rep (insertionSort ltX d a b)),()):=by
 have hm:d.size<many:=by simp only[many];omega
 have e1:IntKind.wrap .i64 ((a:Int)+1)=((a+1:Nat):Int):=by rw[Aj (by omega)];omega
 rw[Aj2,AD7]
 simp only[e1,As]
 rw[AhD a b (b-(a+1)) (a+1) d many rfl hb (by omega) hm (by omega)]
 rfl
end Go.Pev.Pl.SG
end
end
section
section
namespace Go.Pev.Pl.SG
open Go.Sort
variable {α:Type} {S:SP α}
theorem AUO(hi first:Nat):∀ (k root:Nat) (d:Array (EL S)) (n:Nat),hi-root=k→root≤hi→first+hi≤d.size→d.size<4294967296→(hi=0∨root<hi)→k<n →
  AY (KC S.z S.c) n ((rep d),(hi:Int),(first:Int),(root:Int),())=some (.inl ((rep (siftDown ltX hi first root d)),())) ∨
  AY (KC S.z S.c) n ((rep d),(hi:Int),(first:Int),(root:Int),())=some (.inr (.inl ((rep (siftDown ltX hi first root d)),()))):=by
 intro k
 induction k using Nat.strongRecOn with
 |_ k ih=>
 intro root d n hk hr hf hs hz hn
 obtain⟨n,rfl⟩:∃ k,n=k+1:=⟨n-1,by omega⟩
 rw[siftDown]
 simp (disch:=omega) only[AY,KC,AHV,AS,wrap_add,GN,AR]
 by_cases h1:hi≤2*root+1
 ·simp only[h1,Amg,ge_iff_le,dite_true,true_or]
 ·have i0:first+root<d.size:=by omega
  have i1:first+(2*root+1)<d.size:=by omega
  simp only[h1,Amu,ge_iff_le,Amn,dite_false]
  simp (disch:=omega) only[A6,BZ,CV,DS]
  by_cases h2:2*root+1+1<hi
  ·have i2:first+(2*root+2)<d.size:=by omega
   have i3:2*root+1+1=2*root+2:=by omega
   have i4:first+(2*root+1)+1=first+(2*root+2):=by omega
   have h3:2*root+2<hi:=by omega
   simp only[i3,i4,h3,Amg]
   simp (disch:=omega) only[A6,BZ,CV,DS,JE]
   cases h4:ltX d[first+(2*root+1)]! d[first+(2*root+2)]!
   ·simp only[Bool.and_false,Amq,Amn]
    cases h5:ltX d[first+root]! d[first+(2*root+1)]!
    ·simp
    ·simp only[Amf,Amq,Amn]
     rw[A6 (by simpa using i1)]
     simp only[KA]
     exact ih (hi-(2*root+1)) (by omega) (2*root+1) _ n rfl (by omega) (by rw[size_swp];omega) (by rw[size_swp];omega) (by omega) (by omega)
   ·simp only[Bool.and_true,Am7]
    cases h5:ltX d[first+root]! d[first+(2*root+2)]!
    ·simp
    ·simp only[Amf,Amq,Amn,dite_true]
     rw[A6 (by simpa using i2)]
     simp only[KA]
     exact ih (hi-(2*root+2)) (by omega) (2*root+2) _ n rfl (by omega) (by rw[size_swp];omega) (by rw[size_swp];omega) (by omega) (by omega)
  ·simp only[h2,Amu,Aos,Amq,Amn,JE]
   cases h5:ltX d[first+root]! d[first+(2*root+1)]!
   ·simp
   ·simp only[Amf,Amq,Amn]
    rw[A6 (by simpa using i1)]
    simp only[KA]
    exact ih (hi-(2*root+1)) (by omega) (2*root+1) _ n rfl (by omega) (by rw[size_swp];omega) (by rw[size_swp];omega) (by omega) (by omega)
theorem AHz(d:Array (EL S))(root hi first:Nat)(hf:first+hi≤d.size)(hs:d.size<4294967296)(hz:hi=0∧root=0∨root<hi):(AH0 S.z S.c) ((rep d),(root:Int),(hi:Int),(first:Int),())=some ((rep (siftDown ltX hi first root d)),()):=by
 have hm:d.size<many:=by simp only[many];omega
 rw[AfT,Rb]
 simp only[As]
 rcases AUO hi first (hi-root) root d many rfl (by omega) hf hs (by omega) (by omega)with h|h<;>rw[h]
theorem EA(lt:(EL S)→(EL S)→Bool)(hi first:Nat):∀ (k root:Nat) (d:Array (EL S)),hi-root=k→(siftDown lt hi first root d).size=d.size:=by
 intro k
 induction k using Nat.strongRecOn with
 |_ k ih=>
 intro root d hk
 rw[siftDown]
 split
 ·rfl
 ·split
  ·split
   ·rfl
   ·split
    ·rw[ih (hi-(2*root+2)) (by omega) _ _ rfl,size_swp]
    ·rfl
  ·split
   ·rfl
   ·rw[ih (hi-(2*root+1)) (by omega) _ _ rfl,size_swp]
theorem ARq(hi first:Nat):∀ (k:Nat) (d:Array (EL S)) (n:Nat),(hi=0∧k≤1∨k≤hi)→first+hi≤d.size→d.size<4294967296→k<n →
  AY (KV S.z S.c) n ((rep d),(first:Int),(0:Int),(hi:Int),(k:Int)-1,())=some (.inl ((rep (heapBuild ltX hi first k d)),(first:Int),(0:Int),(hi:Int),())):=by
 intro k
 induction k with
 |zero=>
  intro d n hk hf hs hn
  obtain⟨n,rfl⟩:∃ k,n=k+1:=⟨n-1,by omega⟩
  rw[AY,KV,A0,AmS (by omega)]
  rfl
 |succ k ih=>
  intro d n hk hf hs hn
  obtain⟨n,rfl⟩:∃ k,n=k+1:=⟨n-1,by omega⟩
  have e0:((k+1:Nat):Int)-1=(k:Int):=by omega
  rw[AY,KV,e0,A0,AmU (by omega)]
  simp only[AHz d k hi first hf hs (by omega)]
  rw[Aj (by omega)]
  exact ih _ n (by omega) (by rw[EA _ _ _ _ _ _ rfl];omega) (by rw[EA _ _ _ _ _ _ rfl];omega) (by omega)
theorem Mu(lt:(EL S)→(EL S)→Bool)(hi first:Nat):∀ (k:Nat) (d:Array (EL S)),(heapBuild lt hi first k d).size=d.size:=by
 intro k
 induction k with
 |zero=>intro d;rfl
 |succ k ih=>intro d;rw[heapBuild,ih,EA _ _ _ _ _ _ rfl]
theorem AdL(first:Nat):∀ (k:Nat) (d:Array (EL S)) (n:Nat),first+k≤d.size→d.size<4294967296→k<n →
  AY (KU S.z S.c) n ((rep d),(first:Int),(0:Int),(k:Int)-1,())=some (.inl ((rep (heapPop ltX first k d)),())):=by
 intro k
 induction k with
 |zero=>
  intro d n hf hs hn
  obtain⟨n,rfl⟩:∃ k,n=k+1:=⟨n-1,by omega⟩
  rw[AY,KU,A0,AmS (by omega)]
  rfl
 |succ k ih=>
  intro d n hf hs hn
  obtain⟨n,rfl⟩:∃ k,n=k+1:=⟨n-1,by omega⟩
  have e0:((k+1:Nat):Int)-1=(k:Int):=by omega
  have i0:first<d.size:=by omega
  have i1:first+k<d.size:=by omega
  rw[AY,KU,e0,A0,AmU (by omega)]
  simp (disch:=omega) only[wrap_add,A6,BZ,JE]
  rw[A6 (by simpa using i1)]
  simp only[KA]
  have:=AHz (swp d first (first+k)) 0 k first (by rw[size_swp];omega) (by rw[size_swp];omega) (by omega)
  simp only[Int.natCast_zero]at this
  simp only[this]
  rw[Aj (by omega)]
  exact ih _ n (by rw[EA _ _ _ _ _ _ rfl,size_swp];omega) (by rw[EA _ _ _ _ _ _ rfl,size_swp];omega) (by omega)
theorem AdK(d:Array (EL S))(a b:Nat)(hab:a<b)(hb:b≤d.size)(hs:d.size<4294967296):(ARr S.z S.c) ((rep d),(a:Int),(b:Int),())=some ((rep (heapSort ltX d a b)),()):=by
 have hm:4294967296<many:=by simp only[many];omega
 rw[AhW,SK]
 simp (disch:=omega) only[D9,BJ,Al4,As]
 have e:(((b-a-1)/2:Nat):Int)=(((b-a-1)/2+1:Nat):Int)-1:=by omega
 rw[e,ARq (b-a) a _ d many (by omega) (by omega) hs (by omega)]
 have e2:(((b-a-1:Nat)):Int)=((b-a:Nat):Int)-1:=by omega
 simp (disch:=omega) only[BJ,e2]
 rw[AdL a (b-a) _ many (by rw[Mu];omega) (by rw[Mu];omega) (by omega)]
 rfl
end Go.Pev.Pl.SG
end
section
namespace Go.Pev.Pl.SG
open Go.Sort
variable {α:Type} {S:SP α}
theorem Abm:∀ (k i j:Nat) (d:Array (EL S)) (n:Nat),j-i=k→(j<d.size)→d.size<4294967296→k<n →
  AY (Ri S.z S.c) n ((rep d),(i:Int),(j:Int),())=some (.inl ((rep (reverseLoop i j d)),())):=by
 intro k
 induction k using Nat.strongRecOn with
 |_ k ih=>
 intro i j d n hk hj hs hn
 obtain⟨n,rfl⟩:∃ k,n=k+1:=⟨n-1,by omega⟩
 rw[reverseLoop,AY,Ri]
 simp only[AR]
 by_cases h:i<j
 ·have hi:i<d.size:=by omega
  simp only[h,Amg,Am7,A6 hj,A6 hi,BZ hi,BZ hj,JE]
  rw[A6 (by simpa using hj)]
  simp (disch:=omega) only[KA,AS,BJ]
  exact ih (j-1-(i+1)) (by omega) (i+1) (j-1) _ n rfl (by rw[size_swp];omega) (by rw[size_swp];omega) (by omega)
 ·simp only[h,Amu,Amn]
theorem Afn(d:Array (EL S))(a b:Nat)(hab:a<b)(hb:b≤d.size)(hs:d.size<4294967296):(Afo S.z S.c) ((rep d),(a:Int),(b:Int),())=some ((rep (reverseRange d a b)),()):=by
 have hm:4294967296<many:=by simp only[many];omega
 rw[AjO,ACA]
 simp (disch:=omega) only[BJ,As]
 rw[Abm (b-1-a) a (b-1) d many rfl (by omega) hs (by omega)]
 rfl
theorem D4{d:Array (EL S)}{i j:Nat}(hi:i<d.size)(hj:j<d.size):idx (BA (rep d) (AN (i:Int)) (Ab (rep d) (AN (j:Int)) S.z)) (j:Int)=some ((d.setIfInBounds i d[j]!)[j]!).val ∧
  BA (BA (rep d) (AN (i:Int)) (Ab (rep d) (AN (j:Int)) S.z)) (AN (j:Int)) (Ab (rep d) (AN (i:Int)) S.z)=(rep (swp d i j)):=by
 rw[BZ hi,BZ hj,JE,JE]
 exact⟨A6 (by simpa using hj),rfl⟩
theorem AKw(step:List α×Int×Int×Int×Unit→Option ((List α×Int×Int×Int×Unit)⊕(List α×Int×Int×Int×Unit)⊕Unit))(p:(EL S)→Bool)(d:Array (EL S))(a j:Nat)(hs:d.size<4294967296)(hj:j<d.size)
  (h:∀ i:Nat,i≤d.size→step ((rep d),(a:Int),(i:Int),(j:Int),())=if i≤j∧p d[i]! then some (.inl ((rep d),(a:Int),((i+1:Nat):Int),(j:Int),()))else some (.inr (.inl ((rep d),(a:Int),(i:Int),(j:Int),())))) :
  ∀ (k i n:Nat),j+1-i=k→i≤d.size→k<n→AY step n ((rep d),(a:Int),(i:Int),(j:Int),())=some (.inl ((rep d),(a:Int),((scanUp p d j i:Nat):Int),(j:Int),())):=by
 intro k
 induction k using Nat.strongRecOn with
 |_ k ih=>
 intro i n hk hi hn
 obtain⟨n,rfl⟩:∃ k,n=k+1:=⟨n-1,by omega⟩
 rw[scanUp,AY,h i hi]
 by_cases h1:i≤j∧p d[i]! = true
 ·rw[Amk h1,Amk (by simpa using h1)]
  exact ih (j+1-(i+1)) (by omega) (i+1) n rfl (by omega) (by omega)
 ·rw[Amh h1,Amh (by simpa using h1)]
theorem UB(step:List α×Int×Int×Int×Unit→Option ((List α×Int×Int×Int×Unit)⊕(List α×Int×Int×Int×Unit)⊕Unit))(p:(EL S)→Bool)(d:Array (EL S))(a i:Nat)(hi:1≤i)
  (h:∀ j:Nat,j<d.size→step ((rep d),(a:Int),(i:Int),(j:Int),())=if i≤j∧p d[j]! then some (.inl ((rep d),(a:Int),(i:Int),((j-1:Nat):Int),()))else some (.inr (.inl ((rep d),(a:Int),(i:Int),(j:Int),())))) :
  ∀ (j n:Nat),j<d.size→j<n→AY step n ((rep d),(a:Int),(i:Int),(j:Int),())=some (.inl ((rep d),(a:Int),(i:Int),((scanDown p d i j:Nat):Int),())):=by
 intro j
 induction j with
 |zero=>
  intro n hj hn
  obtain⟨n,rfl⟩:∃ k,n=k+1:=⟨n-1,by omega⟩
  rw[AY,h 0 hj,Amh (by omega)]
  rfl
 |succ j ih=>
  intro n hj hn
  obtain⟨n,rfl⟩:∃ k,n=k+1:=⟨n-1,by omega⟩
  rw[scanDown,AY,h (j+1) hj]
  by_cases h1:i≤j+1∧p d[j+1]! = true
  ·rw[Amk h1,Amk (by simpa using h1)]
   exact ih n (by omega) (by omega)
  ·rw[Amh h1,Amh (by simpa using h1)]
section
variable (d:Array (EL S)) (a i j:Nat) (hs:d.size<4294967296) (ha:a<d.size) (hj:j<d.size)
include hs ha hj
theorem AQZ(hi:i≤d.size):(NG S.z S.c) ((rep d),(a:Int),(i:Int),(j:Int),())=if i≤j∧(fun x=>ltX x d[a]!) d[i]! = true then some (.inl ((rep d),(a:Int),((i+1:Nat):Int),(j:Int),()))else some (.inr (.inl ((rep d),(a:Int),(i:Int),(j:Int),()))):=by
 rw[NG]
 simp only[GN]
 by_cases h:i≤j
 ·have hi':i<d.size:=by omega
  simp (disch:=omega) only[h,Amg,A6,BZ,CV,DS,AS,Aom]
  cases ltX d[i]! d[a]!<;>simp
 ·simp only[h,Amu,Aoc,Amn]
theorem AQX(hi:i≤d.size):(NC S.z S.c) ((rep d),(a:Int),(i:Int),(j:Int),())=if i≤j∧(fun x=>ltX x d[a]!) d[i]! = true then some (.inl ((rep d),(a:Int),((i+1:Nat):Int),(j:Int),()))else some (.inr (.inl ((rep d),(a:Int),(i:Int),(j:Int),()))):=by
 rw[NC]
 simp only[GN]
 by_cases h:i≤j
 ·have hi':i<d.size:=by omega
  simp (disch:=omega) only[h,Amg,A6,BZ,CV,DS,AS,Aom]
  cases ltX d[i]! d[a]!<;>simp
 ·simp only[h,Amu,Aoc,Amn]
theorem AQY(hi:1≤i):(NF S.z S.c) ((rep d),(a:Int),(i:Int),(j:Int),())=if i≤j∧(fun x => !ltX x d[a]!) d[j]! = true then some (.inl ((rep d),(a:Int),(i:Int),((j-1:Nat):Int),()))else some (.inr (.inl ((rep d),(a:Int),(i:Int),(j:Int),()))):=by
 rw[NF]
 simp only[GN]
 by_cases h:i≤j
 ·simp (disch:=omega) only[h,Amg,A6,BZ,CV,DS,BJ,Aom]
  cases ltX d[j]! d[a]!<;>simp
 ·simp only[h,Amu,Aoc,Amn]
theorem AQW(hi:1≤i):(NB S.z S.c) ((rep d),(a:Int),(i:Int),(j:Int),())=if i≤j∧(fun x => !ltX x d[a]!) d[j]! = true then some (.inl ((rep d),(a:Int),(i:Int),((j-1:Nat):Int),()))else some (.inr (.inl ((rep d),(a:Int),(i:Int),(j:Int),()))):=by
 rw[NB]
 simp only[GN]
 by_cases h:i≤j
 ·simp (disch:=omega) only[h,Amg,A6,BZ,CV,DS,BJ,Aom]
  cases ltX d[j]! d[a]!<;>simp
 ·simp only[h,Amu,Aoc,Amn]
theorem AGt(hi:i≤d.size):(Hx S.z S.c) ((rep d),(a:Int),(i:Int),(j:Int),())=if i≤j∧(fun x => !ltX d[a]! x) d[i]! = true then some (.inl ((rep d),(a:Int),((i+1:Nat):Int),(j:Int),()))else some (.inr (.inl ((rep d),(a:Int),(i:Int),(j:Int),()))):=by
 rw[Hx]
 simp only[GN]
 by_cases h:i≤j
 ·have hi':i<d.size:=by omega
  simp (disch:=omega) only[h,Amg,A6,BZ,CV,DS,AS,Aom]
  cases ltX d[a]! d[i]!<;>simp
 ·simp only[h,Amu,Aoc,Amn]
theorem AGs(hi:1≤i):(Hw S.z S.c) ((rep d),(a:Int),(i:Int),(j:Int),())=if i≤j∧(fun x=>ltX d[a]! x) d[j]! = true then some (.inl ((rep d),(a:Int),(i:Int),((j-1:Nat):Int),()))else some (.inr (.inl ((rep d),(a:Int),(i:Int),(j:Int),()))):=by
 rw[Hw]
 simp only[GN]
 by_cases h:i≤j
 ·simp (disch:=omega) only[h,Amg,A6,BZ,CV,DS,BJ,Aom]
  cases ltX d[a]! d[j]!<;>simp
 ·simp only[h,Amu,Aoc,Amn]
end
theorem Mx(p:(EL S)→Bool)(d:Array (EL S))(j i:Nat)(hj:j<d.size)(hi:i≤d.size):scanUp p d j i≤d.size:=by
 suffices h:∀ (k i:Nat),j+1-i=k→i≤d.size→scanUp p d j i≤d.size from h _ i rfl hi
 intro k
 induction k using Nat.strongRecOn with
 |_ k ih=>
 intro i hk hi
 rw[scanUp]
 split
 ·rename_i h
  have:i≤j:=by simp at h;exact h.1
  exact ih (j+1-(i+1)) (by omega) (i+1) rfl (by omega)
 ·exact hi
theorem AVh(a:Nat):∀ (k i j:Nat) (d:Array (EL S)) (n:Nat),j+1-i=k→a<d.size→1≤i→i≤d.size→j<d.size→d.size<4294967296→k<n →
  AY (ND S.z S.c) n ((rep d),(a:Int),(i:Int),(j:Int),())=some (.inl ((rep (partLoop ltX a i j d).2),(a:Int),(((partLoop ltX a i j d).1:Nat):Int),()))∧(partLoop ltX a i j d).1≤j∧(partLoop ltX a i j d).2.size=d.size:=by
 intro k
 induction k using Nat.strongRecOn with
 |_ k ih=>
 intro i j d n hk ha hi hi' hj hs hn
 have hm:4294967296<many:=by simp only[many];omega
 obtain⟨n,rfl⟩:∃ k,n=k+1:=⟨n-1,by omega⟩
 rw[partLoop_eq,AY,ND]
 have u1:=scanUp_ge (fun x=>ltX x d[a]!) d j i
 have u2:=Mx (fun x=>ltX x d[a]!) d j i hj hi'
 rw[As,AKw _ (fun x=>ltX x d[a]!) d a j hs hj (fun i h=>AQX d a i j hs ha hj h) _ i many rfl hi' (by omega)]
 generalize scanUp (fun x=>ltX x d[a]!) d j i=i2 at *
 have v1:=scanDown_le (fun x => !ltX x d[a]!) d i2 j
 simp only[As]
 rw[UB _ (fun x => !ltX x d[a]!) d a i2 (by omega) (fun j h=>AQW d a i2 j hs ha h (by omega)) j many hj (by omega)]
 generalize scanDown (fun x => !ltX x d[a]!) d i2 j=j2 at *
 simp only[AR]
 by_cases h:j2<i2
 ·simp only[h,Amg,gt_iff_lt,Am7]
  exact⟨trivial,v1,trivial⟩
 ·have hi2:i2<d.size:=by omega
  have hj2:j2<d.size:=by omega
  simp only[h,Amu,gt_iff_lt,Amn,A6 hi2,A6 hj2,(D4 hi2 hj2).1,(D4 hi2 hj2).2]
  simp (disch:=omega) only[AS,BJ]
  obtain⟨q1,q2,q3⟩:=ih (j2-1+1-(i2+1)) (by omega) (i2+1) (j2-1) (swp d i2 j2) n rfl (by rw[size_swp];omega) (by omega) (by rw[size_swp];omega) (by rw[size_swp];omega) (by rw[size_swp];omega) (by omega)
  exact⟨q1,by omega,by rw[q3,size_swp]⟩
theorem AcC(d:Array (EL S))(a b p:Nat)(ha:a≤p)(hp:p<b)(hb:b≤d.size)(hs:d.size<4294967296):
  (AC6 S.z S.c) ((rep d),(a:Int),(b:Int),(p:Int),())=some ((rep (partition ltX d a b p).2.2),(((partition ltX d a b p).1:Nat):Int),(partition ltX d a b p).2.1,()):=by
 have hm:4294967296<many:=by simp only[many];omega
 have ha':a<d.size:=by omega
 have hp':p<d.size:=by omega
 rw[AgL,Ro,partition]
 simp only[A6 ha',A6 hp',(D4 ha' hp').1,(D4 ha' hp').2]
 have hs':=hs
 rw[← size_swp d a p]at ha' hs' hb
 generalize swp d a p=d at *
 simp (disch:=omega) only[AS,BJ,As]
 have u1:=scanUp_ge (fun x=>ltX x d[a]!) d (b-1) (a+1)
 have u2:=Mx (fun x=>ltX x d[a]!) d (b-1) (a+1) (by omega) (by omega)
 rw[AKw _ (fun x=>ltX x d[a]!) d a (b-1) hs' (by omega) (fun i h=>AQZ d a i (b-1) hs' ha' (by omega) h) _ (a+1) many rfl (by omega) (by omega)]
 generalize scanUp (fun x=>ltX x d[a]!) d (b-1) (a+1)=i2 at *
 have v1:=scanDown_le (fun x => !ltX x d[a]!) d i2 (b-1)
 simp only[]
 rw[UB _ (fun x => !ltX x d[a]!) d a i2 (by omega) (fun j h=>AQY d a i2 j hs' ha' h (by omega)) (b-1) many (by omega) (by omega)]
 generalize scanDown (fun x => !ltX x d[a]!) d i2 (b-1)=j2 at *
 simp only[AR]
 have hj2:j2<d.size:=by omega
 by_cases h:j2<i2
 ·simp only[h,Amg,gt_iff_lt,Am7,A6 ha',A6 hj2,(D4 hj2 ha').1,(D4 hj2 ha').2]
 ·have hi2:i2<d.size:=by omega
  simp only[h,Amu,gt_iff_lt,Amn,A6 hi2,A6 hj2,(D4 hi2 hj2).1,(D4 hi2 hj2).2]
  simp (disch:=omega) only[AS,BJ]
  obtain⟨q1,q2,q3⟩:=AVh a (j2-1+1-(i2+1)) (i2+1) (j2-1) (swp d i2 j2) many rfl (by rw[size_swp];omega) (by omega) (by rw[size_swp];omega) (by rw[size_swp];omega) (by rw[size_swp];omega) (by omega)
  simp only[q1]
  rw[size_swp]at q3
  generalize partLoop ltX a (i2+1) (j2-1) (swp d i2 j2)=r at *
  have h1:r.1<r.2.size:=by omega
  have h2:a<r.2.size:=by omega
  simp only[A6 h1,A6 h2,(D4 h1 h2).1,(D4 h1 h2).2]
theorem ALd(a:Nat):∀ (k i j:Nat) (d:Array (EL S)) (n:Nat),j+1-i=k→a<d.size→1≤i→i≤d.size→j<d.size→d.size<4294967296→k<n →
  AY (Hy S.z S.c) n ((rep d),(a:Int),(i:Int),(j:Int),())=some (.inl ((rep (partEqLoop ltX a i j d).2),(((partEqLoop ltX a i j d).1:Nat):Int),())):=by
 intro k
 induction k using Nat.strongRecOn with
 |_ k ih=>
 intro i j d n hk ha hi hi' hj hs hn
 have hm:4294967296<many:=by simp only[many];omega
 obtain⟨n,rfl⟩:∃ k,n=k+1:=⟨n-1,by omega⟩
 rw[partEqLoop_eq,AY,Hy]
 have u1:=scanUp_ge (fun x => !ltX d[a]! x) d j i
 have u2:=Mx (fun x => !ltX d[a]! x) d j i hj hi'
 rw[As,AKw _ (fun x => !ltX d[a]! x) d a j hs hj (fun i h=>AGt d a i j hs ha hj h) _ i many rfl hi' (by omega)]
 generalize scanUp (fun x => !ltX d[a]! x) d j i=i2 at *
 have v1:=scanDown_le (fun x=>ltX d[a]! x) d i2 j
 simp only[As]
 rw[UB _ (fun x=>ltX d[a]! x) d a i2 (by omega) (fun j h=>AGs d a i2 j hs ha h (by omega)) j many hj (by omega)]
 generalize scanDown (fun x=>ltX d[a]! x) d i2 j=j2 at *
 simp only[AR]
 by_cases h:j2<i2
 ·simp only[h,Amg,gt_iff_lt,Am7]
 ·have hi2:i2<d.size:=by omega
  have hj2:j2<d.size:=by omega
  simp only[h,Amu,gt_iff_lt,Amn,A6 hi2,A6 hj2,(D4 hi2 hj2).1,(D4 hi2 hj2).2]
  simp (disch:=omega) only[AS,BJ]
  exact ih (j2-1+1-(i2+1)) (by omega) (i2+1) (j2-1) (swp d i2 j2) n rfl (by rw[size_swp];omega) (by omega) (by rw[size_swp];omega) (by rw[size_swp];omega) (by rw[size_swp];omega) (by omega)
theorem AQb(d:Array (EL S))(a b p:Nat)(ha:a≤p)(hp:p<b)(hb:b≤d.size)(hs:d.size<4294967296):
  (Rp S.z S.c) ((rep d),(a:Int),(b:Int),(p:Int),())=some ((rep (partitionEqual ltX d a b p).2),(((partitionEqual ltX d a b p).1:Nat):Int),()):=by
 have hm:4294967296<many:=by simp only[many];omega
 have ha':a<d.size:=by omega
 have hp':p<d.size:=by omega
 rw[AVp,KJ,partitionEqual]
 simp only[A6 ha',A6 hp',(D4 ha' hp').1,(D4 ha' hp').2]
 have hs':=hs
 rw[← size_swp d a p]at ha' hs' hb
 generalize swp d a p=d at *
 simp (disch:=omega) only[AS,BJ,As]
 rw[ALd a _ (a+1) (b-1) d many rfl ha' (by omega) (by omega) (by omega) hs' (by omega)]
end Go.Pev.Pl.SG
end
section
namespace Go.Pev.Pl.SG
open Go.Sort
variable {α:Type} {S:SP α}
theorem Rc(d:Array (EL S))(b:Nat):∀ (k i:Nat),b-i=k→i≤b→i≤scanSorted ltX d b i∧scanSorted ltX d b i≤b:=by
 intro k
 induction k using Nat.strongRecOn with
 |_ k ih=>
 intro i hk hi
 rw[scanSorted]
 split
 ·rename_i h
  have:i<b:=by simp at h;exact h.1
  have:=ih (b-(i+1)) (by omega) (i+1) rfl (by omega)
  omega
 ·omega
theorem AGl(d:Array (EL S))(a b s:Nat)(hb:b≤d.size)(hs:d.size<4294967296):∀ (k i n:Nat),b-i=k→1≤i→i≤b→k<n →
  AY (Gc S.z S.c) n ((rep d),(a:Int),(b:Int),(i:Int),(s:Int),())=some (.inl ((rep d),(a:Int),(b:Int),((scanSorted ltX d b i:Nat):Int),(s:Int),())):=by
 intro k
 induction k using Nat.strongRecOn with
 |_ k ih=>
 intro i n hk h1 hi hn
 obtain⟨n,rfl⟩:∃ k,n=k+1:=⟨n-1,by omega⟩
 rw[scanSorted,AY,Gc]
 simp only[AR]
 by_cases h:i<b
 ·have i0:i<d.size:=by omega
  have i1:i-1<d.size:=by omega
  simp (disch:=omega) only[h,Amg,BJ,AS,A6,BZ,CV,DS,AoI]
  cases h2:ltX d[i]! d[i-1]!
  ·simp only[Am2,Am7]
   exact ih (b-(i+1)) (by omega) (i+1) n rfl (by omega) (by omega) (by omega)
  ·simp only[Amf,Amq,Amn]
 ·simp only[h,Amu,Aos,Amq,Amn]
theorem AGn(a b i s:Nat):∀ (j:Nat) (d:Array (EL S)) (n:Nat),j<d.size→d.size<4294967296→j<n →
  AY (El S.z S.c) n ((rep d),(a:Int),(b:Int),(i:Int),(s:Int),(j:Int),())=some (.inl ((rep (shiftDown ltX j d)),(a:Int),(b:Int),(i:Int),(s:Int),())):=by
 intro j
 induction j with
 |zero=>
  intro d n hj hs hn
  obtain⟨n,rfl⟩:∃ k,n=k+1:=⟨n-1,by omega⟩
  rw[AY,El,A0,AmS (by omega)]
  rfl
 |succ j ih=>
  intro d n hj hs hn
  obtain⟨n,rfl⟩:∃ k,n=k+1:=⟨n-1,by omega⟩
  have hj':j<d.size:=by omega
  rw[shiftDown,AY,El,A0,AmU (by omega)]
  simp (disch:=omega) only[BJ,Nat.add_sub_cancel,A6,BZ,CV,DS]
  cases h2:ltX d[j+1]! d[j]!
  ·simp only[Am2,Am7]
  ·have e1:=D4 hj hj'
   simp only[BZ hj,BZ hj']at e1
   simp only[Amf,Amq,Amn,e1]
   exact ih _ n (by rw[size_swp];omega) (by rw[size_swp];omega) (by omega)
theorem YG(a b i s:Nat):∀ (k j:Nat) (d:Array (EL S)) (n:Nat),b-j=k→1≤j→b≤d.size→d.size<4294967296→k<n →
  AY (Ek S.z S.c) n ((rep d),(a:Int),(b:Int),(i:Int),(s:Int),(j:Int),())=some (.inl ((rep (shiftUp ltX b j d)),(a:Int),(b:Int),(i:Int),(s:Int),())):=by
 intro k
 induction k using Nat.strongRecOn with
 |_ k ih=>
 intro j d n hk h1 hb hs hn
 obtain⟨n,rfl⟩:∃ k,n=k+1:=⟨n-1,by omega⟩
 rw[shiftUp,AY,Ek]
 simp only[AR]
 by_cases h:j<b
 ·have i0:j<d.size:=by omega
  have i1:j-1<d.size:=by omega
  simp (disch:=omega) only[h,Amg,Am7,BJ,AS,A6,BZ,CV,DS]
  cases h2:ltX d[j]! d[j-1]!
  ·simp only[Am2,Am7]
  ·have e1:=D4 i0 i1
   simp only[BZ i0,BZ i1]at e1
   simp only[Amf,Amq,Amn,e1]
   exact ih (b-(j+1)) (by omega) (j+1) _ n rfl (by omega) (by rw[size_swp];omega) (by rw[size_swp];omega) (by omega)
 ·simp only[h,Amu,Amn]
theorem ABV:∀ (j:Nat) (d:Array (EL S)),(shiftDown ltX j d).size=d.size:=by
 intro j
 induction j with
 |zero=>intro d;rfl
 |succ j ih=>
  intro d
  rw[shiftDown]
  split
  ·rfl
  ·rw[ih,size_swp]
theorem G6(b:Nat):∀ (k j:Nat) (d:Array (EL S)),b-j=k→(shiftUp ltX b j d).size=d.size:=by
 intro k
 induction k using Nat.strongRecOn with
 |_ k ih=>
 intro j d hk
 rw[shiftUp]
 split
 ·split
  ·rfl
  ·rw[ih (b-(j+1)) (by omega) (j+1) _ rfl,size_swp]
 ·rfl
theorem AGm(a b:Nat)(hab:a<b):∀ (k i s:Nat) (d:Array (EL S)) (n:Nat),s+k=5→a+1≤i→i≤b→b≤d.size→d.size<4294967296→k<n →
  AY (CT S.z S.c) n ((rep d),(a:Int),(b:Int),(i:Int),(s:Int),())=some (.inl ((rep (partialIns ltX a b k i d).1),(partialIns ltX a b k i d).2,())) ∨
  ((partialIns ltX a b k i d).2=false∧AY (CT S.z S.c) n ((rep d),(a:Int),(b:Int),(i:Int),(s:Int),())=some (.inr (.inl ((rep (partialIns ltX a b k i d).1),())))):=by
 intro k
 induction k with
 |zero=>
  intro i s d n hk h1 hi hb hs hn
  obtain⟨n,rfl⟩:∃ k,n=k+1:=⟨n-1,by omega⟩
  rw[AY,CT,Ah,AmS (by omega)]
  exact .inr ⟨rfl,rfl⟩
 |succ k ih=>
  intro i s d n hk h1 hi hb hs hn
  have hm:4294967296<many:=by simp only[many];omega
  have es:IntKind.wrap .i64 ((s:Int)+1)=((s+1:Nat):Int):=AS (by omega)
  obtain⟨n,rfl⟩:∃ k,n=k+1:=⟨n-1,by omega⟩
  rw[AY,CT,Ah,AmU (by omega),partialIns]
  simp only[As,AGl d a b s hb hs (b-i) i many rfl (by omega) hi (by omega)]
  have hsc:=Rc d b _ i rfl hi
  generalize scanSorted ltX d b i=i2 at *
  simp only[AZq]
  by_cases h2:i2=b
  ·simp only[h2,Amg,Am7,true_or]
  ·simp (disch:=omega) only[h2,Amu,Amn,D9,Ah,A0]
   by_cases h3:b-a<50
   ·rw[Amk h3,AmU (by omega)]
    exact .inl rfl
   ·have i0:i2<d.size:=by omega
    have i1:i2-1<d.size:=by omega
    rw[Amh h3,AmS (by omega)]
    simp (disch:=omega) only[BJ,AS,A6 i0,A6 i1,(D4 i0 i1).1,(D4 i0 i1).2]
    have hsz:=size_swp d i2 (i2-1)
    generalize swp d i2 (i2-1)=d2 at *
    by_cases h4:i2-a≥2
    ·rw[Amk h4,AmU (show(2:Int)≤((i2-a:Nat):Int) by omega)]
     simp only[AGn a b i2 s (i2-1) d2 many (by omega) (by omega) (by omega)]
     have hsz2:=ABV (i2-1) d2
     generalize shiftDown ltX (i2-1) d2=d3 at *
     simp (disch:=omega) only[D9,AS]
     by_cases h5:b-i2≥2
     ·rw[Amk h5,AmU (show(2:Int)≤((b-i2:Nat):Int) by omega)]
      simp only[YG a b i2 s _ (i2+1) d3 many rfl (by omega) (by omega) (by omega) (by omega)]
      simp only[es]
      exact ih i2 (s+1) (shiftUp ltX b (i2+1) d3) n (by omega) (by omega) (by omega) (by rw[G6 b (b-(i2+1)) (i2+1) _ rfl];omega) (by rw[G6 b (b-(i2+1)) (i2+1) _ rfl];omega) (by omega)
     ·rw[Amh h5,AmS (show ¬ (2:Int)≤((b-i2:Nat):Int) by omega)]
      simp only[es]
      exact ih i2 (s+1) d3 n (by omega) (by omega) (by omega) (by omega) (by omega) (by omega)
    ·rw[Amh h4,AmS (show ¬ (2:Int)≤((i2-a:Nat):Int) by omega)]
     by_cases h5:b-i2≥2
     ·rw[Amk h5,AmU (show(2:Int)≤((b-i2:Nat):Int) by omega)]
      simp only[YG a b i2 s _ (i2+1) d2 many rfl (by omega) (by omega) (by omega) (by omega)]
      simp only[es]
      exact ih i2 (s+1) (shiftUp ltX b (i2+1) d2) n (by omega) (by omega) (by omega) (by rw[G6 b (b-(i2+1)) (i2+1) _ rfl];omega) (by rw[G6 b (b-(i2+1)) (i2+1) _ rfl];omega) (by omega)
     ·rw[Amh h5,AmS (show ¬ (2:Int)≤((b-i2:Nat):Int) by omega)]
      simp only[es]
      exact ih i2 (s+1) d2 n (by omega) (by omega) (by omega) (by omega) (by omega) (by omega)
theorem ALZ(d:Array (EL S))(a b:Nat)(hab:a<b)(hb:b≤d.size)(hs:d.size<4294967296):
  (NA S.z S.c) ((rep d),(a:Int),(b:Int),())=some ((rep (partialInsertionSort ltX d a b).1),(partialInsertionSort ltX d a b).2,()):=by
 have hm:4294967296<many:=by simp only[many];omega
 rw[AQM,Hv,partialInsertionSort]
 simp (disch:=omega) only[AS,As]
 have h:=AGm a b hab 5 (a+1) 0 d many rfl (Amd _) (by omega) hb hs (by omega)
 rcases h with h|⟨h0,h⟩
 ·have h':AY (CT S.z S.c) many ((rep d),(a:Int),(b:Int),((a+1:Nat):Int),(0:Int),())=_:=h
  rw[h']
 ·have h':AY (CT S.z S.c) many ((rep d),(a:Int),(b:Int),((a+1:Nat):Int),(0:Int),())=_:=h
  rw[h',h0]
theorem NK(d:Array (EL S))(a b:Nat)(s:Int)(ha:a<d.size)(hb:b<d.size):
  ∃ s' p q,(LA S.z S.c) ((rep d),(a:Int),(b:Int),s,())=some ((rep d),s',((p:Nat):Int),((q:Nat):Int),())∧(p=a∧q=b∨p=b∧q=a):=by
 rw[AV1,KL]
 simp only[A6 ha,A6 hb,BZ ha,BZ hb,CV,DS]
 cases ltX d[b]! d[a]!
 ·exact⟨_,a,b,rfl,.inl ⟨rfl,rfl⟩⟩
 ·exact⟨_,b,a,rfl,.inr ⟨rfl,rfl⟩⟩
theorem NL(d:Array (EL S))(a b c:Nat)(s:Int)(ha:a<d.size)(hb:b<d.size)(hc:c<d.size):
  ∃ s' p,(LJ S.z S.c) ((rep d),(a:Int),(b:Int),(c:Int),s,())=some ((rep d),s',((p:Nat):Int),())∧(p=a∨p=b∨p=c):=by
 rw[AWT,KO]
 obtain⟨s1,p1,q1,e1,h1⟩:=NK d a b s ha hb
 simp only[e1]
 obtain⟨s2,p2,q2,e2,h2⟩:=NK d q1 c s1 (by omega) hc
 simp only[e2]
 obtain⟨s3,p3,q3,e3,h3⟩:=NK d p1 p2 s2 (by omega) (by omega)
 simp only[e3]
 exact⟨_,q3,rfl,by omega⟩
theorem NM(d:Array (EL S))(a:Nat)(s:Int)(h1:1≤a)(ha:a+1<d.size)(hs:d.size<4294967296):
  ∃ s' p,(LK S.z S.c) ((rep d),(a:Int),s,())=some ((rep d),s',((p:Nat):Int),())∧a≤p+1∧p≤a+1:=by
 rw[AWW,KP]
 simp (disch:=omega) only[BJ,AS]
 obtain⟨s1,p1,e1,h1⟩:=NL d (a-1) a (a+1) s (by omega) (by omega) ha
 simp only[e1]
 exact⟨_,p1,rfl,by omega⟩
theorem AVS(d:Array (EL S))(a b:Nat)(hab:a+8≤b)(hb:b≤d.size)(hs:d.size<4294967296):
  ∃ p h,(ACc S.z S.c) ((rep d),(a:Int),(b:Int),())=some ((rep d),((p:Nat):Int),h,())∧a≤p∧p<b:=by
 rw[Ab0,M9]
 simp (disch:=omega) only[D9,AZD,AaQ,OE,AaP,wrap_add,A0]
 rw[AmU (show(8:Int)≤((b-a:Nat):Int) by omega)]
 simp only[]
 by_cases h:50≤b-a
 ·rw[AmU (show(50:Int)≤((b-a:Nat):Int) by omega)]
  simp only[]
  obtain⟨s1,p1,e1,h1⟩:=NM d (a+(b-a)/4*1) 0 (by omega) (by omega) hs
  simp only[e1]
  obtain⟨s2,p2,e2,h2⟩:=NM d (a+(b-a)/4*2) s1 (by omega) (by omega) hs
  simp only[e2]
  obtain⟨s3,p3,e3,h3⟩:=NM d (a+(b-a)/4*3) s2 (by omega) (by omega) hs
  simp only[e3]
  obtain⟨s4,p4,e4,h4⟩:=NL d p1 p2 p3 s3 (by omega) (by omega) (by omega)
  simp only[e4]
  cases ieq s4 0
  ·cases ieq s4 12
   ·exact⟨p4,_,rfl,by omega,by omega⟩
   ·exact⟨p4,_,rfl,by omega,by omega⟩
  ·exact⟨p4,_,rfl,by omega,by omega⟩
 ·rw[AmS (show ¬ (50:Int)≤((b-a:Nat):Int) by omega)]
  simp only[]
  obtain⟨s4,p4,e4,h4⟩:=NL d (a+(b-a)/4*1) (a+(b-a)/4*2) (a+(b-a)/4*3) 0 (by omega) (by omega) (by omega)
  simp only[e4]
  cases ieq s4 0
  ·cases ieq s4 12
   ·exact⟨p4,_,rfl,by omega,by omega⟩
   ·exact⟨p4,_,rfl,by omega,by omega⟩
  ·exact⟨p4,_,rfl,by omega,by omega⟩
end Go.Pev.Pl.SG
end
section
namespace Go.Pev.Pl
open Go.Sort
theorem Ac2:(List.range 256).all (fun k=>match Gs[k]? with
  |some v=>decide (0≤v)&&(decide (v≤8)&&decide (2 ^ v.toNat≤max 1 (2*k)))
  |none=>false)=true:=by decide +kernel
theorem Ac3{k:Nat}(h:k<256):∃ v:Nat,idx Gs (k:Int)=some (v:Int)∧v≤8∧2 ^ v≤max 1 (2*k):=by
 have:=Amr.1 Ac2 k (An0.2 h)
 rw[idx_eq,QX,Amh (by omega),AnJ]
 cases e:Gs[k]? with
 |none=>rw[e]at this;cases this
 |some v=>
  rw[e]at this
  simp only[AmX,AmV]at this
  exact⟨v.toNat,by rw[Int.toNat_of_nonneg this.1],by omega,this.2.2⟩
theorem AKs(n s:Nat)(h:s≤64):shr? .u64 (n:Int) (s:Int)=some ((n/2 ^ s:Nat):Int):=by
 rw[AUQ,AGT,Amh (by omega),AnJ,show min s (IntKind.bits .u64)=s from AnL h,Int.fdiv_eq_ediv_of_nonneg _ (Int.pow_nonneg (by omega))]
 rfl
theorem u8_in{n:Int}(h:0≤n∧n≤255):IntKind.wrap .u8 n=n:=IntWalk.u8_in n h
theorem u64_in{n:Int}(h:0≤n∧n≤18446744073709551615):IntKind.wrap .u64 n=n:=IntWalk.u64_in n h
theorem Ac4(n:Nat)(hn:n<4294967296):∃ v:Nat,ARc ((n:Int),())=some ((v:Int),())∧v≤32∧2 ^ v≤max 1 (2*n):=by
 rw[ARb,Z9,A0,AmS (by omega)]
 simp only[A0]
 have key:∀ (s m:Nat),s≤24→m<256→m*2 ^ s≤n→(s=0∨1≤m)→∃ v:Nat,idx Gs (m:Int)=some (v:Int)∧v≤8∧2 ^ (s+v)≤max 1 (2*n):=by
  intro s m hs hm hle h1
  obtain⟨v,e,h8,hp⟩:=Ac3 hm
  refine⟨v,e,h8,?_⟩
  rcases h1 with rfl|h1
  ·rw[AnU];simp at hle;omega
  ·have h2:2 ^ v≤2*m:=by omega
   have h3:2 ^ (s+v)≤2*(m*2 ^ s):=by
    rw[Nat.pow_add,Nat.mul_comm (2 ^ s),← Nat.mul_assoc]
    exact AnO _ h2
   omega
 by_cases h1:65536≤n
 ·rw[AmU (show(65536:Int)≤(n:Int) by omega)]
  have e16:shr? .u64 (n:Int) 16=some ((n/65536:Nat):Int):=AKs n 16 (by omega)
  simp only[e16]
  by_cases h2:256≤n/65536
  ·rw[AmU (show(256:Int)≤((n/65536:Nat):Int) by omega)]
   have e8:shr? .u64 ((n/65536:Nat):Int) 8=some ((n/65536/256:Nat):Int):=AKs _ 8 (by omega)
   obtain⟨v,e,h8,hp⟩:=key 24 (n/65536/256) (by omega) (by omega) (by omega) (by omega)
   simp only[e8]
   rw[u8_in (by omega)]
   simp only[e]
   refine⟨24+v,?_,by omega,hp⟩
   rw[Aj (n:=0+16) (by omega),Aj (n:=(0:Int)+16+8) (by omega),Aj (n:=(v:Int)) (by omega),Aj (by omega)]
   congr 2
  ·rw[AmS (show ¬ (256:Int)≤((n/65536:Nat):Int) by omega)]
   obtain⟨v,e,h8,hp⟩:=key 16 (n/65536) (by omega) (by omega) (by omega) (by omega)
   simp only[]
   rw[u8_in (by omega)]
   simp only[e]
   refine⟨16+v,?_,by omega,hp⟩
   rw[Aj (n:=0+16) (by omega),Aj (n:=(v:Int)) (by omega),Aj (by omega)]
   congr 2
 ·rw[AmS (show ¬ (65536:Int)≤(n:Int) by omega)]
  by_cases h2:256≤n
  ·have e8:shr? .u64 (n:Int) 8=some ((n/256:Nat):Int):=AKs n 8 (by omega)
   obtain⟨v,e,h8,hp⟩:=key 8 (n/256) (by omega) (by omega) (by omega) (by omega)
   simp only[]
   rw[AmU (show(256:Int)≤(n:Int) by omega)]
   simp only[e8]
   rw[u8_in (by omega)]
   simp only[e]
   refine⟨8+v,?_,by omega,hp⟩
   rw[Aj (n:=0+8) (by omega),Aj (n:=(v:Int)) (by omega),Aj (by omega)]
   congr 2
  ·obtain⟨v,e,h8,hp⟩:=key 0 n (by omega) (by omega) (by omega) (by omega)
   simp only[]
   rw[AmS (show ¬ (256:Int)≤(n:Int) by omega)]
   simp only[]
   rw[u8_in (by omega)]
   simp only[e]
   refine⟨0+v,?_,by omega,hp⟩
   rw[Aj (n:=(v:Int)) (by omega),Aj (by omega)]
   congr 2
theorem Ym(n:Nat)(hn:n<4294967296):∃ v:Nat,bitsLen ((n:Int),())=some ((v:Int),())∧v≤32∧2 ^ v≤max 1 (2*n):=by
 rw[AFV,Oo]
 obtain⟨v,e,h⟩:=Ac4 n hn
 simp only[e]
 exact⟨v,rfl,h⟩
theorem AQ7(n:Nat)(h1:1≤n)(hn:n<4294967296):∃ m:Nat,Rv ((n:Int),())=some ((m:Int),())∧1≤m∧m≤2*n:=by
 rw[ADW,OZ,u64_in (by omega)]
 obtain⟨v,e,h32,hp⟩:=Ym n hn
 simp only[e]
 have e2:shl? .u64 (1:Int) (v:Int)=some ((2 ^ v:Nat):Int):=by
  rw[ABW,ZK,Amh (by omega),AnJ,show min v (IntKind.bits .u64)=v from AnL (by show v≤64;omega),Int.one_mul]
  have:2 ^ v≤2 ^ 32:=Nat.pow_le_pow_right (by omega) h32
  have h1:1≤2 ^ v:=Nat.one_le_two_pow
  have e:((2:Int) ^ v)=((2 ^ v:Nat):Int):=by simp
  rw[e,u64_in (by constructor<;>omega)]
 simp only[e2]
 exact⟨2 ^ v,rfl,Nat.one_le_two_pow,by omega⟩
theorem AN2(r:Int):∃ r' y,xorNext (r,())=some (r',y,()):=by
 rw[AAP,OD,ABW,ZK,Amh (by omega)]
 simp only[]
 rw[AUQ,AGT,Amh (by omega)]
 simp only[]
 rw[ABW,ZK,Amh (by omega)]
 exact⟨_,_,rfl⟩
theorem Agc(y:Int)(m:Nat)(h1:1≤m)(hm:m<18446744073709551616):∃ o:Nat,IntKind.wrap .u64 ((BitVec.ofInt (IntKind.bits .u64) y &&& BitVec.ofInt (IntKind.bits .u64) (IntKind.wrap .u64 ((m:Int)-1))).toNat)=(o:Int)∧o<m:=by
 rw[u64_in (n:=(m:Int)-1) (by omega),show(m:Int)-1=((m-1:Nat):Int) by omega,BitVec.toNat_and]
 have h2:(BitVec.ofInt (IntKind.bits .u64) ((m-1:Nat):Int)).toNat=m-1:=by
  rw[BitVec.ofInt_natCast,BitVec.toNat_ofNat]
  exact Apa (by show m-1<18446744073709551616;omega)
 rw[h2]
 have h3:(BitVec.ofInt (IntKind.bits .u64) y).toNat &&& (m-1)≤m-1:=Nat.and_le_right
 exact⟨_,u64_in (by omega),by omega⟩
end Go.Pev.Pl
end
section
namespace Go.Pev.Pl.SG
open Go.Sort
variable {α:Type} {S:SP α}
theorem ASr(a b:Nat)(m:Nat)(h8:a+8≤b)(hm1:1≤m)(hm:m≤2*(b-a)):∀ (k t:Nat) (d:Array (EL S)) (r:Int) (n:Nat),t+k=3→b≤d.size→d.size<4294967296→k<n →
  ∃ d':Array (EL S),AY (Fy S.z S.c) n ((rep d),(a:Int),((b-a:Nat):Int),r,(m:Int),((a+(b-a)/4*2-1+t:Nat):Int),())=some (.inl ((rep d'),()))∧PermIn a b d d':=by
 intro k
 induction k with
 |zero=>
  intro t d r n hk hb hs hn
  obtain⟨n,rfl⟩:∃ k,n=k+1:=⟨n-1,by omega⟩
  rw[AY,Fy]
  simp (disch:=omega) only[AZD,OE,wrap_add,AS,GN]
  rw[AmS (by omega)]
  exact⟨d,rfl,permIn_refl d a b⟩
 |succ k ih=>
  intro t d r n hk hb hs hn
  obtain⟨n,rfl⟩:∃ k,n=k+1:=⟨n-1,by omega⟩
  rw[AY,Fy]
  simp (disch:=omega) only[AZD,OE,wrap_add,AS,GN]
  rw[AmU (show a+(b-a)/4*2-1+t≤a+(b-a)/4*2+1 by omega)]
  obtain⟨r',y,e⟩:=AN2 r
  obtain⟨o,e2,ho⟩:=Agc y m hm1 (by omega)
  simp only[e,e2]
  rw[Aj (n:=(o:Int)) (by omega)]
  simp only[GN]
  have i0:a+(b-a)/4*2-1+t<d.size:=by omega
  have fin:∀ q:Nat,a≤q→q<b→∃ d':Array (EL S),AY (Fy S.z S.c) n ((rep (swp d (a+(b-a)/4*2-1+t) q)),(a:Int),((b-a:Nat):Int),r',(m:Int),((a+(b-a)/4*2-1+t+1:Nat):Int),())=some (.inl ((rep d'),()))∧PermIn a b d d':=by
   intro q hq1 hq2
   obtain⟨d',e',hp⟩:=ih (t+1) (swp d (a+(b-a)/4*2-1+t) q) r' n (by omega) (by rw[size_swp];omega) (by rw[size_swp];omega) (by omega)
   exact⟨d',e',permIn_trans _ _ _ a b (swp_permIn d a b _ q (by omega) (by omega) hq1 hq2 hb) hp⟩
  by_cases h:b-a≤o
  ·have i1:a+(o-(b-a))<d.size:=by omega
   simp (disch:=omega) only[h,Amg,D9,wrap_add,AS,A6 i0,A6 i1,(D4 i0 i1).1,(D4 i0 i1).2]
   exact fin _ (by omega) (by omega)
  ·have i1:a+o<d.size:=by omega
   simp (disch:=omega) only[h,Amu,D9,wrap_add,AS,A6 i0,A6 i1,(D4 i0 i1).1,(D4 i0 i1).2]
   exact fin _ (by omega) (by omega)
theorem AYA(d:Array (EL S))(a b:Nat)(hab:a≤b)(hb:b≤d.size)(hs:d.size<4294967296):
  ∃ d':Array (EL S),(AFP S.z S.c) ((rep d),(a:Int),(b:Int),())=some ((rep d'),())∧PermIn a b d d':=by
 have hm:4294967296<many:=by simp only[many];omega
 rw[Ad5,Nu]
 simp (disch:=omega) only[D9,A0]
 by_cases h:8≤b-a
 ·rw[AmU (show(8:Int)≤((b-a:Nat):Int) by omega)]
  obtain⟨m,e,h1,h2⟩:=AQ7 (b-a) (by omega) (by omega)
  simp only[e]
  rw[u64_in (n:=((b-a:Nat):Int)) (by omega)]
  simp (disch:=omega) only[AZD,OE,wrap_add,BJ,As]
  obtain⟨d',e2,hp⟩:=ASr a b m (by omega) h1 h2 3 0 d ((b-a:Nat):Int) many rfl hb hs (by omega)
  rw[An1]at e2
  simp only[e2]
  exact⟨d',rfl,hp⟩
 ·rw[AmS (show ¬ (8:Int)≤((b-a:Nat):Int) by omega)]
  exact⟨d,rfl,permIn_refl d a b⟩
end Go.Pev.Pl.SG
end
section
namespace Go.Pev.Pl.SG
open Go.Sort
variable {α:Type} {S:SP α}
abbrev AmE(α:Type):=List α×Int×Int×Int×Bool×Bool×Unit
abbrev AaF(α:Type):=AmE α⊕(List α×Unit)⊕Unit
def AFd(d:Array (EL S))(a b:Nat):AaF α→Prop
 |.inl (xs,x,y,l,_,_,_)=>∃ (e:Array (EL S)) (i j:Nat),xs=(rep e)∧x=(i:Int)∧y=(j:Int)∧0≤l∧l≤100∧i≤j∧j≤e.size∧e.size=d.size∧j-i<b-a∧Below ltX i j e ∧
   ∀ R,PermIn i j e R→SortedIn ltX i j R→PermIn a b d R∧SortedIn ltX a b R
 |.inr (.inl (xs,_))=>∃ R:Array (EL S),xs=(rep R)∧PermIn a b d R∧SortedIn ltX a b R
 |.inr (.inr _)=>False
def FN(self:(List α×Int×Int×Int×Unit)→Option ((List α×Unit)))(m:Nat):Prop:=
 ∀ (d:Array (EL S)) (a b:Nat) (l:Int),a≤b→b≤d.size→d.size<4294967296→0≤l→l≤100→Below ltX a b d→2*(b-a)<m →
  ∃ R:Array (EL S),self ((rep d),(a:Int),(b:Int),l,())=some ((rep R),())∧PermIn a b d R∧SortedIn ltX a b R
section
variable {self:(List α×Int×Int×Int×Unit)→Option ((List α×Unit))} {d:Array (EL S)} {a b:Nat} {l:Int}
theorem APr(hself:FN (S:=S) self (b-a))(hb:b≤d.size)(hs:d.size<4294967296)(hl:0≤l∧l≤100)
  {d3:Array (EL S)} {p:Nat} (P3:PermIn a b d d3) (B3:Below ltX a b d3) (hp1:a≤p) (hp2:p<b) :
  ∃ o,(match(AC6 S.z S.c) ((rep d3),(a:Int),(b:Int),(p:Int),())with
  |none=>none
  |some (y20,y21,y22,_)=>match quo? .i64 (IntKind.wrap .i64 ((b:Int)-(a:Int))) (8:Int)with
   |none=>none
   |some x23=>match(ilt (IntKind.wrap .i64 (y21-(a:Int))) (IntKind.wrap .i64 ((b:Int)-y21)))with
    |true=>match self (y20,(a:Int),y21,l,())with
     |none=>none
     |some (y24,_)=>some ((.inl (y24,(IntKind.wrap .i64 (y21+(1:Int))),(b:Int),l,(ile x23 (IntKind.wrap .i64 (y21-(a:Int)))),y22,())):AaF α)
    |false=>match self (y20,(IntKind.wrap .i64 (y21+(1:Int))),(b:Int),l,())with
     |none=>none
     |some (y25,_)=>some (.inl (y25,(a:Int),y21,l,(ile x23 (IntKind.wrap .i64 ((b:Int)-y21))),y22,())))=some o∧AFd d a b o:=by
 have b3:b≤d3.size:=by rw[P3.1];exact hb
 have s3:d3.size<4294967296:=by rw[P3.1];exact hs
 rw[AcC d3 a b p hp1 hp2 b3 s3]
 rcases hx:partition ltX d3 a b p with⟨mid,ap,d4⟩
 obtain⟨g1,g2,hs4,hBa,hBr,hleft,hright⟩:=round_part AfC (partition_holds _) hp1 hp2 b3 B3 hx
 simp (disch:=omega) only[D9,AS,Al3,AR]
 have b4:b≤d4.size:=by omega
 by_cases h:mid-a<b-mid
 ·obtain⟨L,e,l1,l2⟩:=hself d4 a mid l g1 (by omega) (by omega) hl.1 hl.2 hBa (by omega)
  simp only[h,Amg,e]
  obtain⟨hBL,hfin⟩:=hleft _ l1 l2
  refine⟨_,rfl,L,mid+1,b,rfl,rfl,rfl,hl.1,hl.2,by omega,by rw[l1.1];exact b4,by rw[l1.1,hs4,P3.1],by omega,hBL,fun R r1 r2 => ?_⟩
  obtain⟨q1,q2⟩:=hfin R r1 r2
  exact⟨permIn_trans _ _ _ a b P3 q1,q2⟩
 ·obtain⟨L,e,l1,l2⟩:=hself d4 (mid+1) b l (by omega) (by omega) (by omega) hl.1 hl.2 hBr (by omega)
  simp only[h,Amu,e]
  obtain⟨hBL,hfin⟩:=hright _ l1 l2
  refine⟨_,rfl,L,a,mid,rfl,rfl,rfl,hl.1,hl.2,by omega,by rw[l1.1];omega,by rw[l1.1,hs4,P3.1],by omega,hBL,fun R r1 r2 => ?_⟩
  obtain⟨q1,q2⟩:=hfin R r1 r2
  exact⟨permIn_trans _ _ _ a b P3 q1,q2⟩
theorem Rn(hself:FN (S:=S) self (b-a))(hb:b≤d.size)(hs:d.size<4294967296)(hl:0≤l∧l≤100)
  {d3:Array (EL S)} {p:Nat} (wb wp:Bool) (P3:PermIn a b d d3) (B3:Below ltX a b d3) (hp1:a≤p) (hp2:p<b) :
  ∃ o,(VJ S.z S.c) self (rep d3) (a:Int) (b:Int) (p:Int) l wb wp=some o∧AFd d a b o:=by
 have b3:b≤d3.size:=by rw[P3.1];exact hb
 have s3:d3.size<4294967296:=by rw[P3.1];exact hs
 rw[VJ,Ah]
 by_cases h0:0<a
 ·rw[AmU (by omega)]
  have i0:a-1<d3.size:=by omega
  have i1:p<d3.size:=by omega
  simp (disch:=omega) only[BJ,A6,BZ,CV,DS]
  cases hc:ltX d3[a-1]! d3[p]!
  ·simp only[Am2]
   rw[AQb d3 a b p hp1 hp2 b3 s3]
   rcases hx:partitionEqual ltX d3 a b p with⟨mid,d4⟩
   obtain⟨hm1,hm2,hs4,hB4,hfin⟩:=round_eq AfC (partitionEqual_holds _) h0 hp1 hp2 b3 B3 hc hx
   refine⟨_,rfl,d4,mid,b,rfl,rfl,rfl,hl.1,hl.2,by omega,by omega,by rw[hs4,P3.1],by omega,hB4,fun R r1 r2 => ?_⟩
   obtain⟨q1,q2⟩:=hfin R r1 r2
   exact⟨permIn_trans _ _ _ a b P3 q1,q2⟩
  ·simp only[Amf]
   exact APr hself hb hs hl P3 B3 hp1 hp2
 ·rw[AmS (by omega)]
  exact APr hself hb hs hl P3 B3 hp1 hp2
theorem AZG(hself:FN (S:=S) self (b-a))(hab:a<b)(hb:b≤d.size)(hs:d.size<4294967296)(hl:0≤l∧l≤100)
  {d3:Array (EL S)} {p:Nat} (h:Int) (wb wp:Bool) (P3:PermIn a b d d3) (B3:Below ltX a b d3) (hp1:a≤p) (hp2:p<b) :
  ∃ o,(ALT S.z S.c) self (rep d3) (a:Int) (b:Int) (p:Int) h l wb wp=some o∧AFd d a b o:=by
 have b3:b≤d3.size:=by rw[P3.1];exact hb
 have s3:d3.size<4294967296:=by rw[P3.1];exact hs
 unfold ALT
 cases wb
 ·exact Rn hself hb hs hl _ _ P3 B3 hp1 hp2
 ·cases wp
  ·exact Rn hself hb hs hl _ _ P3 B3 hp1 hp2
  ·simp only[]
   cases ieq h 1
   ·exact Rn hself hb hs hl _ _ P3 B3 hp1 hp2
   ·simp only[]
    rw[ALZ d3 a b hab b3 s3]
    obtain⟨q1,q2⟩:=partialInsertionSort_holds (lt:=ltX) AfC d3 a b hab b3 B3
    rcases hx:partialInsertionSort ltX d3 a b with⟨d4,fin⟩
    rw[hx]at q1 q2
    have P4:PermIn a b d d4:=permIn_trans _ _ _ a b P3 q1
    cases fin
    ·exact Rn hself hb hs hl _ _ P4 (B3.perm b3 q1) hp1 hp2
    ·exact⟨_,rfl,d4,rfl,P4,q2 rfl⟩
theorem AZF(hself:FN (S:=S) self (b-a))(hab:a+8≤b)(hb:b≤d.size)(hs:d.size<4294967296)(hl:0≤l∧l≤100)
  {d3:Array (EL S)} (wb wp:Bool) (P3:PermIn a b d d3) (B3:Below ltX a b d3) :
  ∃ o,(ALS S.z S.c) self (rep d3) (a:Int) (b:Int) l wb wp=some o∧AFd d a b o:=by
 have b3:b≤d3.size:=by rw[P3.1];exact hb
 have s3:d3.size<4294967296:=by rw[P3.1];exact hs
 rw[ALS]
 obtain⟨p,h,e,hp1,hp2⟩:=AVS d3 a b hab b3 s3
 simp only[e]
 cases ieq h 2
 ·exact AZG hself (by omega) hb hs hl h _ _ P3 B3 hp1 hp2
 ·simp only[Afn d3 a b (by omega) b3 s3]
  have q1:=reverseRange_holds (α:=(EL S)) d3 a b (by omega) b3
  simp (disch:=omega) only[BJ,D9]
  exact AZG hself (by omega) hb hs hl 1 _ _ (permIn_trans _ _ _ a b P3 q1) (B3.perm b3 q1) (by omega) (by omega)
theorem Ab7(hself:FN (S:=S) self (b-a))(hab:a≤b)(hb:b≤d.size)(hs:d.size<4294967296)(hl:0≤l∧l≤100)(wb wp:Bool)(B:Below ltX a b d):
  ∃ o,(OY S.z S.c) self ((rep d),(a:Int),(b:Int),l,wb,wp,())=some o∧AFd d a b o:=by
 rw[OY]
 simp (disch:=omega) only[D9,A0,B4]
 by_cases h12:b-a≤12
 ·rw[AmU (show((b-a:Nat):Int)≤12 by omega)]
  simp only[AhC d a b hab hb hs]
  obtain⟨q1,q2⟩:=insertionSort_holds (lt:=ltX) AfC d a b hab hb
  exact⟨_,rfl,_,rfl,q1,q2⟩
 ·rw[AmS (show ¬ ((b-a:Nat):Int)≤12 by omega)]
  simp only[]
  by_cases h0:l=0
  ·subst h0
   simp only[BEq.rfl,AdK d a b (by omega) hb hs]
   obtain⟨q1,q2⟩:=heapSort_holds (lt:=ltX) AfC d a b hab hb
   exact⟨_,rfl,_,rfl,q1,q2⟩
  ·rw[show(l==0)=false by simpa using h0]
   simp only[]
   cases wb
   ·obtain⟨d',e,q1⟩:=AYA d a b hab hb hs
    simp only[Am2,e]
    rw[Aj (by omega)]
    exact AZF hself (by omega) hb hs (by omega) _ _ q1 (B.perm hb q1)
   ·simp only[Amf]
    exact AZF hself (by omega) hb hs hl _ _ (permIn_refl d a b) B
end
theorem APs{self:(List α×Int×Int×Int×Unit)→Option ((List α×Unit))}{m:Nat}(hself:FN (S:=S) self m):∀ (k:Nat) (d:Array (EL S)) (a b:Nat) (l:Int) (wb wp:Bool) (n:Nat),b-a=k→k≤m→a≤b→b≤d.size→d.size<4294967296→0≤l→l≤100→Below ltX a b d→k<n →
  ∃ R:Array (EL S),AY ((OY S.z S.c) self) n ((rep d),(a:Int),(b:Int),l,wb,wp,())=some (.inl ((rep R),()))∧PermIn a b d R∧SortedIn ltX a b R:=by
 intro k
 induction k using Nat.strongRecOn with
 |_ k ih=>
 intro d a b l wb wp n hk hm hab hb hs hl1 hl2 B hn
 obtain⟨n,rfl⟩:∃ k,n=k+1:=⟨n-1,by omega⟩
 have hself':FN (S:=S) self (b-a):=fun d a' b' l h1 h2 h3 h4 h5 h6 h7=>hself d a' b' l h1 h2 h3 h4 h5 h6 (by omega)
 obtain⟨o,e,ho⟩:=Ab7 hself' hab hb hs ⟨hl1,hl2⟩ wb wp B
 rw[AY,e]
 match o,ho with
 |.inl (xs,x,y,l',wb',wp',_),ho=>
  obtain⟨e',i,j,rfl,rfl,rfl,g1,g2,g3,g4,g5,g6,g7,hfin⟩:=ho
  obtain⟨R,e2,r1,r2⟩:=ih (j-i) (by omega) e' i j l' wb' wp' n rfl (by omega) g3 g4 (by omega) g1 g2 g7 (by omega)
  exact⟨R,e2,hfin R r1 r2⟩
 |.inr (.inl (xs,_)),ho=>
  obtain⟨R,rfl,r1,r2⟩:=ho
  exact⟨R,rfl,r1,r2⟩
theorem Ab8:∀ k:Nat,FN (S:=S) ((K9 S.z S.c) (k+1)) (2 ^ k):=by
 intro k
 have hmany:4294967296<many:=by simp only[many];omega
 induction k with
 |zero=>
  intro d a b l h1 h2 h3 h4 h5 h6 h7
  have:FN (S:=S) ((K9 S.z S.c) 0) 0:=fun _ _ _ _ _ _ _ _ _ _ h=>by omega
  obtain⟨R,e,r1,r2⟩:=APs this (b-a) d a b l true true many rfl (by omega) h1 h2 h3 h4 h5 h6 (by omega)
  refine⟨R,?_,r1,r2⟩
  rw[K9,ACp]
  simp only[As,e]
 |succ k ih=>
  intro d a b l h1 h2 h3 h4 h5 h6 h7
  have hp:2 ^ (k+1)=2*2 ^ k:=by rw[Nat.pow_succ];omega
  obtain⟨R,e,r1,r2⟩:=APs ih (b-a) d a b l true true many rfl (by omega) h1 h2 h3 h4 h5 h6 (by omega)
  refine⟨R,?_,r1,r2⟩
  rw[K9,ACp]
  simp only[As,e]
theorem KB{α:Type}(S:SP α)(xs:List α)(h:xs.length<4294967296)(hok:∀ x∈xs,S.ok x):∃ ys,(AYr S.z S.c) (xs,())=some (ys,())∧ys.Perm xs∧ys.Pairwise fun x y=>S.lt y x=false:=by
 obtain⟨d,rfl⟩:∃ d:Array (EL S),xs=rep d:=by
  refine⟨(xs.attach.map fun x=>⟨x.val,hok x.val x.property⟩).toArray,?_⟩
  simp only[rep,List.map_map]
  exact(List.attach_map_subtype_val xs).symm
 have hl:(rep d).length=d.size:=by simp[rep]
 rw[hl]at h
 rw[AfM,RZ]
 rw[AZ6,u64_in (by omega)]
 obtain⟨v,e,hv,_⟩:=Ym d.size h
 simp only[e]
 obtain⟨R,e2,r1,r2⟩:=Ab8 99 d 0 d.size (v:Int) (by omega) (by omega) h (by omega) (by omega) (.inl rfl) (by
  have:2 ^ 99=633825300114114700748351602688:=by decide
  omega)
 have e3:(Af7 S.z S.c) (rep d,(0:Int),(d.size:Int),(v:Int),())=some (rep R,()):=by rw[AjY];exact e2
 refine⟨rep R,by simp only[e3],?_,?_⟩
 ·obtain⟨hsz,_,hp⟩:=r1
  have e1:R.extract 0 d.size=R:=by rw[← hsz];exact Array.extract_size
  rw[e1,Array.extract_size]at hp
  exact hp.map _
 ·rw[rep,Anx,An5]
  intro i j hi hj hij
  have hi':i<R.size:=by simpa using hi
  have hj':j<R.size:=by simpa using hj
  have:=r2 i j (ApS _) hij (by rw[← r1.1];omega)
  rw[getElem!_pos R j hj',getElem!_pos R i hi']at this
  simpa [ltX]using this
end Go.Pev.Pl.SG
end
section
namespace Go.Pev.Pl.SL
open Go.Sort
def ok(l:List Int):Prop:=l≠[]
def okz:List Int:=[0]
theorem VW:ok okz:=by simp[ok,okz]
def lt(x y:List Int):Bool:=ltInt (x.headD 0) (y.headD 0)
theorem swo:SWO lt:=⟨fun x=>swo_ltInt.irrefl _,fun x y z=>swo_ltInt.trans _ _ _,fun x y z=>swo_ltInt.ntrans _ _ _⟩
theorem W4{x y:List Int}(hx:ok x)(hy:ok y):∃ c,BN (x,y,())=some (c,())∧ilt c (0:Int)=lt x y:=by
 cases x with
 |nil=>exact absurd rfl hx
 |cons a x=>
  cases y with
  |nil=>exact absurd rfl hy
  |cons b y=>
   rw[AN7,Zt]
   have i1:idx (a::x) (0:Int)=some a:=by rw[idx_eq];rfl
   have i2:idx (b::y) (0:Int)=some b:=by rw[idx_eq];rfl
   simp only[i1,i2,Gj,EY,LF,LG]
   simp only[B4,Ah,lt,ApK,ltInt]
   by_cases h:a<b
   ·simp[h]
   ·by_cases h2:b<a
    ·simp[h,h2]
    ·simp[h,h2]
noncomputable def S:SG.SP (List Int):=⟨([]:List (Int)),BN,ok,okz,VW,lt,swo,fun h1 h2=>W4 h1 h2⟩
theorem KB(xs:List (List Int))(h:xs.length<4294967296)(hok:∀ x∈xs,ok x):∃ ys,AOt (xs,())=some (ys,())∧ys.Perm xs∧ys.Pairwise fun x y=>lt y x=false:=SG.KB S xs h hok
end Go.Pev.Pl.SL
end
end
section
namespace Go.Pev.Pl
abbrev Edge:=Int×Int×Unit
inductive Con(l:List Edge):Int→Int→Prop
 |refl (a:Int):Con l a a
 |edge (e:Edge):e∈l→Con l e.1 e.2.1
 |symm {a b:Int}:Con l a b→Con l b a
 |trans {a b c:Int}:Con l a b→Con l b c→Con l a c
theorem Con.mono{l l':List Edge}(h:∀ e∈l,∃ e'∈l',(e'.1=e.1∧e'.2.1=e.2.1)∨(e'.1=e.2.1∧e'.2.1=e.1)){a b:Int}(c:Con l a b):Con l' a b:=by
 induction c with
 |refl a=>exact .refl a
 |edge e he=>
  obtain⟨e',h1,h2|h2⟩:=h e he
  ·have:=Con.edge e' h1
   rw[h2.1,h2.2]at this
   exact this
  ·have:=Con.edge e' h1
   rw[h2.1,h2.2]at this
   exact this.symm
 |symm _ ih=>exact ih.symm
 |trans _ _ ih1 ih2=>exact ih1.trans ih2
theorem Con.snoc{l:List Edge}{e:Edge}{a b:Int}:Con (l++[e]) a b↔Con l a b∨(Con l a e.1∧Con l e.2.1 b)∨(Con l a e.2.1∧Con l e.1 b):=by
 constructor
 ·intro h
  induction h with
  |refl a=>exact .inl (.refl a)
  |edge e' he=>
   rcases AmY.1 he with h|h
   ·exact .inl (.edge e' h)
   ·simp only[Amv]at h
    subst h
    exact .inr (.inl ⟨.refl _,.refl _⟩)
  |symm _ ih=>
   rcases ih with h|⟨h1,h2⟩|⟨h1,h2⟩
   ·exact .inl h.symm
   ·exact .inr (.inr ⟨h2.symm,h1.symm⟩)
   ·exact .inr (.inl ⟨h2.symm,h1.symm⟩)
  |trans _ _ ih1 ih2=>
   rcases ih1 with h|⟨h1,h2⟩|⟨h1,h2⟩
   ·rcases ih2 with g|⟨g1,g2⟩|⟨g1,g2⟩
    ·exact .inl (h.trans g)
    ·exact .inr (.inl ⟨h.trans g1,g2⟩)
    ·exact .inr (.inr ⟨h.trans g1,g2⟩)
   ·rcases ih2 with g|⟨g1,g2⟩|⟨g1,g2⟩
    ·exact .inr (.inl ⟨h1,h2.trans g⟩)
    ·exact .inr (.inl ⟨h1,g2⟩)
    ·exact .inl (h1.trans g2)
   ·rcases ih2 with g|⟨g1,g2⟩|⟨g1,g2⟩
    ·exact .inr (.inr ⟨h1,h2.trans g⟩)
    ·exact .inl (h1.trans g2)
    ·exact .inr (.inr ⟨h1,g2⟩)
 ·have up:∀ {x y},Con l x y→Con (l++[e]) x y:=fun h=>h.mono fun e' he=>⟨e',by simp[he],.inl ⟨rfl,rfl⟩⟩
  have he:Con (l++[e]) e.1 e.2.1:=.edge e (by simp)
  rintro (h|⟨h1,h2⟩|⟨h1,h2⟩)
  ·exact up h
  ·exact(up h1).trans (he.trans (up h2))
  ·exact(up h1).trans (he.symm.trans (up h2))
theorem Con.nil{a b:Int}(h:Con [] a b):a=b:=by
 induction h with
 |refl a=>rfl
 |edge e he=>cases he
 |symm _ ih=>exact ih.symm
 |trans _ _ ih1 ih2=>exact ih1.trans ih2
theorem Con.within{l:List Edge}{I:Int→Prop}(h:∀ e∈l,I e.1∧I e.2.1){a b:Int}(c:Con l a b):a=b∨(I a∧I b):=by
 induction c with
 |refl a=>exact .inl rfl
 |edge e he=>exact .inr (h e he)
 |symm _ ih=>
  rcases ih with h|h
  ·exact .inl h.symm
  ·exact .inr ⟨h.2,h.1⟩
 |trans _ _ ih1 ih2=>
  rcases ih1 with rfl|h1
  ·exact ih2
  ·rcases ih2 with rfl|h2
   ·exact .inr h1
   ·exact .inr ⟨h1.1,h2.2⟩
theorem Con.const{l:List Edge}{f:Int→Int}(h:∀ e∈l,f e.1=f e.2.1){a b:Int}(c:Con l a b):f a=f b:=by
 induction c with
 |refl a=>rfl
 |edge e he=>exact h e he
 |symm _ ih=>exact ih.symm
 |trans _ _ ih1 ih2=>exact ih1.trans ih2
end Go.Pev.Pl
end
