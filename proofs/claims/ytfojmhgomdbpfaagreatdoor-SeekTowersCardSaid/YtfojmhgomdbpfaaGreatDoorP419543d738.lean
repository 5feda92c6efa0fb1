/- A part of the proofs of this seat: G29M3 G29M4 G29M5 G29M Pln PlnB T18a T18b T18c PlnM DKA T18d PevTake PevClaim DKB. -/
import Derived.Test.YtfojmhgomdbpfaaGreatDoorP0d6b53f067
import Derived.IntWalk
import Derived.Sort.AssemblyPlain
import Derived.ProofKit
import Derived.ChangeArms
import Derived.ReadAgain
import Derived.Deep.Slices
import Derived.OpenShut
import Derived.KernelRfl
set_option linter.unusedVariables false
set_option linter.unusedSimpArgs false
set_option linter.unusedSectionVars false
set_option maxRecDepth 100000
section
namespace Go.Pev
noncomputable section
attribute [local irreducible] Py L6 Pe Po AjN AjO AjP WL ADG ACR AAG MJ Ab many IntKind.wrap AK BB Ac A1 B0 DS D6 AO CL Cp imax AS Ah
abbrev AMF:AE:=[(.tmp 0,.dat U2),(.tmp 1,.dat U2)]
abbrev AME:AE:=[(.tmp 0,.di)]
abbrev AMD:List RS:=[.one]
def AAr[Lk]:(U1×U1×Unit)→Option (U9):=fun(a0,a1,_)=>
 match Dk (a0.1,a1.1,())with|none=>none|some (y0,_)=>match Dk (a0.2.1,a1.2.1,())with|none=>none|some (y1,_)=>match orI (([y0,y1]:List (Int)),())with|none=>none|some (y2,_)=>some (y2,())
def BQ[Lk]:=fun v=>Lk.f (AAr v)
theorem AQf v:BQ v=AAr v:=AJ _
abbrev AYx:AE:=[(.tmp 0,.own 34 U2),(.tmp 1,.di),(.tmp 2,.di),(.tmp 3,.clo 60 [])]
abbrev AYw:AE:=[(.obj 0,.own 34 U2)]
abbrev AYv:List RS:=[]
abbrev Abl:AE:=[(.obj 0,.own 34 U2),(.tmp 0,.own' 0),(.tmp 1,.di),(.tmp 2,.di),(.tmp 3,.clo 60 []),(.tmp 8,.di),(.tmp 9,.di)]
abbrev Abj:An:=[(.exit 2,[(.obj 0,.own 34 U2),(.tmp 0,.own' 0),(.tmp 1,.di),(.tmp 2,.di),(.tmp 3,.clo 60 []),(.tmp 8,.di)])]
def Abh[Lk]:Uj→Option (Uj⊕U8⊕Unit):=O9 ((0,(0,())):U1) BQ
abbrev Abm:AE:=[(.obj 0,.own 34 U2),(.tmp 0,.own' 0),(.tmp 1,.di),(.tmp 2,.di),(.tmp 3,.clo 60 []),(.tmp 8,.di)]
abbrev Abk:An:=[(.exit 0,[(.obj 0,.own 34 U2)])]
def Abi[Lk]:U8→Option (U8⊕Um⊕Unit):=PA ((0,(0,())):U1) BQ
def AjG[Lk]:Ue→Option (Um):=AFB ((0,(0,())):U1) BQ
def Anp[Lk](v:Ue):Option (Um):=AjE ((0,(0,())):U1) BQ v
theorem AmE v:Anp v=AjG v:=AJ _
abbrev AMO:AE:=[(.tmp 0,.own 34 U2),(.tmp 1,.di),(.tmp 2,.di),(.tmp 3,.di),(.tmp 4,.clo 60 [])]
abbrev AMN:AE:=[(.obj 0,.own 34 U2)]
abbrev AMM:List RS:=[]
abbrev AQn:AE:=[(.obj 0,.own 34 U2),(.tmp 0,.own' 0),(.tmp 2,.di),(.tmp 3,.di),(.tmp 4,.clo 60 []),(.tmp 10,.di)]
abbrev AQm:An:=[(.exit 0,[(.obj 0,.own 34 U2)]),(.ret,[(.obj 0,.own 34 U2)])]
def AQl[Lk]:U8→Option (U8⊕Um⊕Um⊕Unit):=KU ((0,(0,())):U1) BQ
def Aav[Lk]:U8→Option (Um):=SB ((0,(0,())):U1) BQ
def AhW[Lk](v:U8):Option (Um):=AJb ((0,(0,())):U1) BQ v
theorem AhV v:AhW v=Aav v:=AJ _
abbrev AOG:AE:=[(.tmp 0,.own 34 U2),(.tmp 1,.di),(.tmp 2,.di),(.tmp 3,.clo 60 [])]
abbrev AOF:AE:=[(.obj 0,.own 34 U2)]
abbrev AOE:List RS:=[]
abbrev ATf:AE:=[(.obj 0,.own 34 U2),(.tmp 0,.own' 0),(.tmp 3,.clo 60 []),(.tmp 8,.di),(.tmp 9,.di),(.tmp 12,.di)]
abbrev ATd:An:=[(.exit 2,[(.obj 0,.own 34 U2)])]
def ATa[Lk]:U8→Option (U8⊕Um⊕Unit):=Km ((0,(0,())):U1) BQ
abbrev ATg:AE:=[(.obj 0,.own 34 U2),(.tmp 0,.own' 0),(.tmp 3,.clo 60 []),(.tmp 8,.di),(.tmp 9,.di),(.tmp 10,.di),(.tmp 11,.di)]
abbrev ATe:An:=[(.exit 0,[(.obj 0,.own 34 U2),(.tmp 0,.own' 0),(.tmp 3,.clo 60 []),(.tmp 8,.di),(.tmp 9,.di),(.tmp 10,.di)])]
def ATc[Lk]:Uj→Option (Uj⊕U8⊕Unit):=Ko ((0,(0,())):U1) BQ
def Abs[Lk]:Ue→Option (Um):=S9 ((0,(0,())):U1) BQ
def Aje[Lk](v:Ue):Option (Um):=ATY ((0,(0,())):U1) BQ v
theorem Ajd v:Aje v=Abs v:=AJ _
abbrev AGr:AE:=[(.tmp 0,.own 34 U2),(.tmp 1,.di),(.tmp 2,.di),(.tmp 3,.clo 60 [])]
abbrev AGq:AE:=[(.obj 0,.own 34 U2)]
abbrev AGp:List RS:=[]
abbrev AKm:AE:=[(.obj 0,.own 34 U2),(.tmp 0,.own' 0),(.tmp 1,.di),(.tmp 8,.di),(.tmp 9,.box 1),(.cell 1 0,.dat (.int .u64)),(.tmp 10,.dat (.int .u64)),(.tmp 11,.di)]
abbrev AKl:An:=[(.exit 0,[(.obj 0,.own 34 U2)])]
def AKk[Lk]:Uu→Option (Uu⊕Um⊕Unit):=GO ((0,(0,())):U1) BQ
def AUc[Lk]:Ue→Option (Um):=OI ((0,(0,())):U1) BQ
def AaC[Lk](v:Ue):Option (Um):=AGo ((0,(0,())):U1) BQ v
theorem Af6 v:AaC v=AUc v:=AJ _
abbrev Wm:AE:=[(.tmp 0,.own 34 U2),(.tmp 1,.di),(.tmp 2,.di),(.tmp 3,.box 1),(.cell 1 0,.di),(.tmp 4,.clo 60 [])]
abbrev Wl:AE:=[(.obj 0,.own 34 U2),(.obj 1,.box 1),(.cell 1 0,.di),(.tmp 0,.di),(.tmp 1,.di)]
abbrev Wk:List RS:=[.one,.one]
def AJ6[Lk]:U8→Option (U8):=Kd ((0,(0,())):U1) BQ
def ANL[Lk](v:U8):Option (U8):=LS ((0,(0,())):U1) BQ v
theorem AXm v:ANL v=AJ6 v:=AJ _
abbrev Wx:AE:=[(.tmp 0,.own 34 U2),(.tmp 1,.di),(.tmp 2,.di),(.tmp 3,.di),(.tmp 4,.box 1),(.cell 1 0,.di),(.tmp 5,.clo 60 [])]
abbrev Ww:AE:=[(.obj 0,.own 34 U2),(.obj 1,.box 1),(.cell 1 0,.di),(.tmp 0,.di)]
abbrev Wv:List RS:=[.one]
def AJ9[Lk]:Uj→Option (Ue):=Kf ((0,(0,())):U1) BQ
def ANa[Lk](v:Uj):Option (Ue):=La ((0,(0,())):U1) BQ v
theorem AYD v:ANa v=AJ9 v:=AJ _
abbrev W3:AE:=[(.tmp 0,.own 34 U2),(.tmp 1,.di),(.tmp 2,.box 1),(.cell 1 0,.di),(.tmp 3,.clo 60 [])]
abbrev W2:AE:=[(.obj 0,.own 34 U2),(.obj 1,.box 1),(.cell 1 0,.di),(.tmp 0,.di)]
abbrev W1:List RS:=[.one]
def AKB[Lk]:Ue→Option (Ue):=Kg ((0,(0,())):U1) BQ
def ANe[Lk](v:Ue):Option (Ue):=Lb ((0,(0,())):U1) BQ v
theorem AYG v:ANe v=AKB v:=AJ _
abbrev ADh:AE:=[(.tmp 0,.own 34 U2),(.tmp 1,.di),(.tmp 2,.di),(.tmp 3,.clo 60 [])]
abbrev ADg:AE:=[(.obj 0,.own 34 U2),(.tmp 0,.di),(.tmp 1,.di)]
abbrev ADf:List RS:=[.one,.one]
def ART[Lk]:Ue→Option (Ue):=NP ((0,(0,())):U1) BQ
def AXF[Lk](v:Ue):Option (Ue):=ADe ((0,(0,())):U1) BQ v
theorem Adz v:AXF v=ART v:=AJ _
abbrev AWn:AE:=[(.tmp 0,.own 34 U2),(.tmp 1,.di),(.tmp 2,.di),(.tmp 3,.clo 60 [])]
abbrev AWm:AE:=[(.obj 0,.own 34 U2)]
abbrev AWl:List RS:=[]
abbrev Aa8:AE:=[(.obj 0,.own 34 U2),(.tmp 0,.own' 0),(.tmp 8,.di),(.tmp 9,.di)]
abbrev Aa7:An:=[(.exit 0,[(.obj 0,.own 34 U2)])]
def Aa6[Lk]:Ue→Option (Ue⊕Um⊕Unit):=SQ ((0,(0,())):U1) BQ
def Ahr[Lk]:Ue→Option (Um):=ADE ((0,(0,())):U1) BQ
def AnP[Lk](v:Ue):Option (Um):=Ahp ((0,(0,())):U1) BQ v
theorem AlX v:AnP v=Ahr v:=AJ _
abbrev Qi:AE:=[(.tmp 0,.own 34 U2),(.tmp 1,.di),(.tmp 2,.di),(.tmp 3,.clo 60 [])]
abbrev Qh:AE:=[(.obj 0,.own 34 U2),(.tmp 0,.dat .bool)]
abbrev Qg:List RS:=[.one]
abbrev ZJ:AE:=[(.obj 0,.own 34 U2),(.tmp 0,.own' 0),(.tmp 1,.di),(.tmp 2,.di),(.tmp 3,.clo 60 []),(.tmp 9,.di),(.tmp 10,.di),(.tmp 12,.di)]
abbrev ZF:An:=[(.exit 6,[(.obj 0,.own 34 U2),(.tmp 0,.own' 0),(.tmp 1,.di),(.tmp 2,.di),(.tmp 3,.clo 60 []),(.tmp 9,.di),(.tmp 10,.di)])]
def ZB[Lk]:Uu→Option (Uu⊕Uj⊕Unit):=E0 ((0,(0,())):U1) BQ
abbrev ZK:AE:=[(.obj 0,.own 34 U2),(.tmp 0,.own' 0),(.tmp 1,.di),(.tmp 2,.di),(.tmp 3,.clo 60 []),(.tmp 9,.di),(.tmp 10,.di),(.tmp 11,.di)]
abbrev ZG:An:=[(.exit 4,[(.obj 0,.own 34 U2),(.tmp 0,.own' 0),(.tmp 1,.di),(.tmp 2,.di),(.tmp 3,.clo 60 []),(.tmp 9,.di),(.tmp 10,.di)])]
def ZC[Lk]:Uu→Option (Uu⊕Uj⊕Unit):=E1 ((0,(0,())):U1) BQ
abbrev ZL:AE:=[(.obj 0,.own 34 U2),(.tmp 0,.own' 0),(.tmp 1,.di),(.tmp 2,.di),(.tmp 3,.clo 60 []),(.tmp 9,.di),(.tmp 10,.di)]
abbrev ZH:An:=[(.exit 2,[(.obj 0,.own 34 U2),(.tmp 0,.own' 0),(.tmp 1,.di),(.tmp 2,.di),(.tmp 3,.clo 60 []),(.tmp 9,.di),(.tmp 10,.di)])]
def ZD[Lk]:Uj→Option (Uj⊕Uj⊕Unit):=Gu ((0,(0,())):U1) BQ
abbrev ZM:AE:=[(.obj 0,.own 34 U2),(.tmp 0,.own' 0),(.tmp 1,.di),(.tmp 2,.di),(.tmp 3,.clo 60 []),(.tmp 9,.di),(.tmp 10,.di)]
abbrev ZI:An:=[(.ret,[(.obj 0,.own 34 U2),(.tmp 8,.dat .bool)]),(.exit 0,[(.obj 0,.own 34 U2)])]
def ZE[Lk]:Uj→Option (Uj⊕(List U1×Bool×Unit)⊕Um⊕Unit):=CU ((0,(0,())):U1) BQ
def AD6[Lk]:Ue→Option ((List U1×Bool×Unit)):=ID ((0,(0,())):U1) BQ
def AD7[Lk](v:Ue):Option ((List U1×Bool×Unit)):=NQ ((0,(0,())):U1) BQ v
theorem ASB v:AD7 v=AD6 v:=AJ _
abbrev Wg:AE:=[(.tmp 0,.own 34 U2),(.tmp 1,.di),(.tmp 2,.di),(.tmp 3,.di),(.tmp 4,.clo 60 [])]
abbrev Wf:AE:=[(.obj 0,.own 34 U2),(.tmp 0,.di)]
abbrev We:List RS:=[.one]
abbrev AEO:AE:=[(.obj 0,.own 34 U2),(.tmp 0,.own' 0),(.tmp 1,.di),(.tmp 4,.clo 60 []),(.tmp 11,.di),(.tmp 12,.di)]
abbrev AEL:An:=[(.exit 4,[(.obj 0,.own 34 U2),(.tmp 0,.own' 0),(.tmp 1,.di),(.tmp 4,.clo 60 []),(.tmp 11,.di),(.tmp 12,.di)])]
def AEI[Lk]:U8→Option (U8⊕U8⊕Unit):=IE ((0,(0,())):U1) BQ
abbrev AEP:AE:=[(.obj 0,.own 34 U2),(.tmp 0,.own' 0),(.tmp 1,.di),(.tmp 4,.clo 60 []),(.tmp 11,.di),(.tmp 12,.di)]
abbrev AEM:An:=[(.exit 2,[(.obj 0,.own 34 U2),(.tmp 0,.own' 0),(.tmp 1,.di),(.tmp 4,.clo 60 []),(.tmp 11,.di),(.tmp 12,.di)])]
def AEJ[Lk]:U8→Option (U8⊕U8⊕Unit):=IF ((0,(0,())):U1) BQ
abbrev AEQ:AE:=[(.obj 0,.own 34 U2),(.tmp 0,.own' 0),(.tmp 1,.di),(.tmp 4,.clo 60 []),(.tmp 11,.di),(.tmp 12,.di)]
abbrev AEN:An:=[(.exit 0,[(.obj 0,.own 34 U2),(.tmp 11,.di)])]
def AEK[Lk]:U8→Option (U8⊕(List U1×Int×Unit)⊕Unit):=IG ((0,(0,())):U1) BQ
def AJ2[Lk]:U8→Option ((List U1×Int×Unit)):=Ka ((0,(0,())):U1) BQ
def ANE[Lk](v:U8):Option ((List U1×Int×Unit)):=Sb ((0,(0,())):U1) BQ v
theorem AXi v:ANE v=AJ2 v:=AJ _
abbrev ANH:AE:=[(.tmp 0,.own 34 U2),(.tmp 1,.di),(.tmp 2,.di),(.tmp 3,.di),(.tmp 4,.clo 60 [])]
abbrev ANG:AE:=[(.obj 0,.own 34 U2),(.tmp 0,.di),(.tmp 1,.dat .bool)]
abbrev ANF:List RS:=[.one,.one]
abbrev ASY:AE:=[(.obj 0,.own 34 U2),(.tmp 0,.own' 0),(.tmp 1,.di),(.tmp 4,.clo 60 []),(.tmp 12,.di),(.tmp 13,.di)]
abbrev AST:An:=[(.exit 8,[(.obj 0,.own 34 U2),(.tmp 0,.own' 0),(.tmp 1,.di),(.tmp 4,.clo 60 []),(.tmp 12,.di),(.tmp 13,.di)])]
def ASK[Lk]:U8→Option (U8⊕U8⊕Unit):=NR ((0,(0,())):U1) BQ
abbrev ASZ:AE:=[(.obj 0,.own 34 U2),(.tmp 0,.own' 0),(.tmp 1,.di),(.tmp 4,.clo 60 []),(.tmp 12,.di),(.tmp 13,.di)]
abbrev ASU:An:=[(.exit 6,[(.obj 0,.own 34 U2),(.tmp 0,.own' 0),(.tmp 1,.di),(.tmp 4,.clo 60 []),(.tmp 12,.di),(.tmp 13,.di)])]
def ASM[Lk]:U8→Option (U8⊕U8⊕Unit):=NS ((0,(0,())):U1) BQ
abbrev ASa:AE:=[(.obj 0,.own 34 U2),(.tmp 0,.own' 0),(.tmp 1,.di),(.tmp 4,.clo 60 []),(.tmp 12,.di),(.tmp 13,.di)]
abbrev ASV:An:=[(.exit 4,[(.obj 0,.own 34 U2),(.tmp 0,.own' 0),(.tmp 1,.di),(.tmp 13,.di)])]
def ASO[Lk]:U8→Option (U8⊕Ue⊕Unit):=NT ((0,(0,())):U1) BQ
abbrev ASb:AE:=[(.obj 0,.own 34 U2),(.tmp 0,.own' 0),(.tmp 1,.di),(.tmp 4,.clo 60 []),(.tmp 12,.di),(.tmp 13,.di)]
abbrev ASW:An:=[(.exit 2,[(.obj 0,.own 34 U2),(.tmp 0,.own' 0),(.tmp 1,.di),(.tmp 4,.clo 60 []),(.tmp 12,.di),(.tmp 13,.di)])]
def ASQ[Lk]:U8→Option (U8⊕U8⊕Unit):=NU ((0,(0,())):U1) BQ
abbrev ASc:AE:=[(.obj 0,.own 34 U2),(.tmp 0,.own' 0),(.tmp 1,.di),(.tmp 4,.clo 60 []),(.tmp 12,.di),(.tmp 13,.di)]
abbrev ASX:An:=[(.exit 0,[(.obj 0,.own 34 U2),(.tmp 0,.own' 0),(.tmp 1,.di),(.tmp 4,.clo 60 []),(.tmp 12,.di),(.tmp 13,.di)])]
def ASS[Lk]:U8→Option (U8⊕U8⊕Unit):=NV ((0,(0,())):U1) BQ
def AbK[Lk]:U8→Option ((List U1×Int×Bool×Unit)):=Sa ((0,(0,())):U1) BQ
def AiZ[Lk](v:U8):Option ((List U1×Int×Bool×Unit)):=AD8 ((0,(0,())):U1) BQ v
theorem AiY v:AiZ v=AbK v:=AJ _
abbrev ADu:AE:=[(.tmp 0,.own 34 U2),(.tmp 1,.di),(.tmp 2,.di),(.tmp 3,.di),(.tmp 4,.clo 60 [])]
abbrev ADt:AE:=[(.obj 0,.own 34 U2)]
abbrev ADs:List RS:=[]
abbrev AbI:AE:=[(.obj 0,.own 34 U2),(.tmp 0,.own' 0),(.tmp 1,.di),(.tmp 2,.di),(.tmp 3,.di),(.tmp 4,.clo 60 []),(.tmp 10,.dat .bool),(.tmp 11,.dat .bool)]
abbrev AbH:An:=[(.ret,[(.obj 0,.own 34 U2)])]
def AbG[Lk](self:U8→Option (Um)):(List U1×Int×Int×Int×Bool×Bool×Unit)→Option ((List U1×Int×Int×Int×Bool×Bool×Unit)⊕Um⊕Unit):=O4 ((0,(0,())):U1) BQ self
def AnV[Lk](self:U8→Option (Um)):U8→Option (Um):=ADr ((0,(0,())):U1) BQ self
def ADv[Lk]:Nat→U8→Option (Um):=LR ((0,(0,())):U1) BQ
def Ali[Lk](v:U8):Option (Um):=Ah9 ((0,(0,())):U1) BQ v
theorem Alh v:Ali v=ADv 100 v:=AJ _
abbrev AL9:AE:=[(.tmp 0,.own 34 U2),(.tmp 1,.clo 60 [])]
abbrev AL8:AE:=[(.obj 0,.own 34 U2)]
abbrev AL7:List RS:=[]
def Aap[Lk]:Um→Option (Um):=R9 ((0,(0,())):U1) BQ
def AQY[Lk](v:Um):Option (Um):=Aao ((0,(0,())):U1) BQ v
theorem AhL v:AQY v=Aap v:=AJ _
abbrev AGK:AE:=[(.tmp 0,.dat (.slice Vd)),(.tmp 1,.di)]
abbrev AGJ:AE:=[(.tmp 0,.dat Vd)]
abbrev AGI:List RS:=[.one]
def OD[Lk]:Ux→Option (U9):=fun(a0,a1,_)=>
 match(ilt a1 0)with
 |true=>some (0,())
 |false=>match(ieq (AK a0) 0)with
 |true=>some (0,())
 |false=>match rem? a1 (AK a0)with|none=>none|some x0=>match idx a0 x0 with|none=>none|some x1=>some (x1,())
def RV[Lk]:=fun v=>Lk.f (OD v)
theorem Xq v:RV v=OD v:=AJ _
abbrev AU3:AE:=[(.tmp 0,.dat Vd)]
abbrev AU2:AE:=[(.tmp 0,.di)]
abbrev AU1:List RS:=[.one]
def ALH[Lk]:U9→Option (U9):=fun(a0,_)=>
 match(ieq a0 0)with
 |true=>some (32,())
 |false=>match shr? .u32 (IntKind.wrap .u32 ((IntKind.wrap .u32 ((BitVec.ofInt (IntKind.bits .u32) a0 &&& BitVec.ofInt (IntKind.bits .u32) (IntKind.wrap .u32 (0-a0))).toNat))*125613361)) 27 with|none=>none|some x0=>match(ile 0 x0&&(ilt x0 32&&ilt x0 (AK ATp)))with
 |true=>some ((IntKind.wrap .i64 (Ac ATp (AO x0) 0)),())
 |false=>none
def AU4[Lk]:=fun v=>Lk.f (ALH v)
theorem Aaf v:AU4 v=ALH v:=AJ _
abbrev Xx:AE:=[(.tmp 0,.dat Vd)]
abbrev Xw:AE:=[(.tmp 0,.di)]
abbrev Xv:List RS:=[.one]
def PI[Lk]:U9→Option (U9):=fun(a0,_)=>
 match AU4 (a0,())with|none=>none|some (y0,_)=>some ((Cp (IntKind.wrap .i64 (y0+1)) 8),())
def Td[Lk]:=fun v=>Lk.f (PI v)
theorem AGP v:Td v=PI v:=AJ _
abbrev ABR:AE:=[(.tmp 0,.di)]
abbrev ABQ:AE:=[(.tmp 0,.dat .bool)]
abbrev ABP:List RS:=[.one]
def Rw[Lk]:U9→Option (Uf):=fun(a0,_)=>
 match(ile 1 a0)with
 |true=>some ((ile a0 8),())
 |false=>some (false,())
def ABS[Lk]:=fun v=>Lk.f (Rw v)
theorem AI8 v:ABS v=Rw v:=AJ _
abbrev Jz:AE:=[(.tmp 0,.dat U3),(.tmp 1,.clo 70 [])]
abbrev Jy:AE:=[(.tmp 0,.di)]
abbrev Jx:List RS:=[.one]
abbrev Np:AE:=[(.tmp 0,.dat U3),(.tmp 1,.clo 70 []),(.tmp 7,.di),(.tmp 8,.di)]
abbrev No:An:=[(.ret,[(.tmp 4,.di)]),(.exit 0,[])]
def CJ[Lk]:Ur→Option (Ur⊕U9⊕(Unit)⊕Unit):=fun(a0,a1,a2,_)=>
 match(ilt a2 a1)with
 |true=>match idx a0 a2 with|none=>none|some x0=>match ABS (x0,())with|none=>none|some (y1,_)=>match(!y1)with
  |true=>some (.inr (.inl (a2,())))
  |false=>some (.inl (a0,a1,(IntKind.wrap .i64 (a2+1)),()))
 |false=>some (.inr (.inr (.inl ())))
def Gi[Lk]:Un→Option (U9):=fun(a0,_)=>
 match AU CJ many (a0,(AK a0),0,())with|none=>none|some r=>match r with
 |.inl (o0,_)=>some (o0,())
 |.inr r=>match r with
 |.inl _=>some ((-1:Int),())
 |.inr _=>none
def JM[Lk]:=fun v=>Lk.f (Gi v)
theorem Nq v:JM v=Gi v:=AJ _
abbrev Ii:AE:=[(.tmp 0,.dat U3),(.tmp 1,.clo 70 [])]
abbrev Ih:AE:=[(.tmp 0,.dat .bool)]
abbrev Ig:List RS:=[.one]
def FY[Lk]:Un→Option (Uf):=fun(a0,_)=>
 match JM (a0,())with|none=>none|some (y0,_)=>some ((ile 0 y0),())
def FZ[Lk]:=fun v=>Lk.f (FY v)
theorem Mq v:FZ v=FY v:=AJ _
abbrev VG:AE:=[(.tmp 0,.dat U3),(.tmp 1,.dat U3)]
abbrev VF:AE:=[(.tmp 0,.own 3 U0),(.tmp 1,.own 3 U0),(.tmp 2,.own 43 U3),(.tmp 3,.di)]
abbrev VE:List RS:=[.agg 3,.one]
abbrev ABW:AE:=[(.tmp 1,.dat U3),(.tmp 4,.box 3),(.cell 0 0,.nil U0),(.cell 0 1,.nil U0),(.cell 0 2,.nil U3),(.tmp 6,.di),(.tmp 8,.box 3),(.cell 1 0,.own 3 U0),(.cell 1 1,.own 3 U0),(.cell 1 2,.own 43 U3),(.tmp 9,.aptr 114 U0 8),(.tmp 11,.di),(.tmp 42,.di),(.tmp 43,.di),(.tmp 68,.di),(.tmp 69,.di)]
abbrev ABU:An:=[(.exit 2,[(.tmp 1,.dat U3),(.tmp 4,.box 3),(.cell 0 0,.nil U0),(.cell 0 1,.nil U0),(.cell 0 2,.nil U3),(.tmp 6,.di),(.tmp 8,.box 3),(.cell 1 0,.own 3 U0),(.cell 1 1,.own 3 U0),(.cell 1 2,.own 43 U3),(.tmp 9,.aptr 114 U0 8),(.tmp 42,.di),(.tmp 43,.di)])]
def Cw[Lk]:Vm→Option (Vm⊕V9⊕Unit):=fun(a0,a1,a2,a3,a4,a5,a6,a7,a8,a9,a10,_)=>
 match(ilt a10 a9)with
 |true=>match(ile 0 a10&&(ilt a10 8&&ilt a10 (AK a5)))with
  |true=>some (.inl (a0,a1,a2,a3,a4,(BB a5 (AO a10) a6),a6,a7,a8,a9,(IntKind.wrap .i64 (a10+1)),()))
  |false=>none
 |false=>some (.inr (.inl (a0,a1,a2,a3,a4,a5,a7,a8,())))
abbrev ABX:AE:=[(.tmp 1,.dat U3),(.tmp 4,.box 3),(.cell 0 0,.nil U0),(.cell 0 1,.nil U0),(.cell 0 2,.nil U3),(.tmp 6,.di),(.tmp 8,.box 3),(.cell 1 0,.own 3 U0),(.cell 1 1,.own 3 U0),(.cell 1 2,.own 43 U3),(.tmp 9,.aptr 114 U0 8),(.tmp 42,.di),(.tmp 43,.di)]
abbrev ABV:An:=[(.exit 0,[(.tmp 4,.box 3),(.cell 0 0,.nil U0),(.cell 0 1,.nil U0),(.cell 0 2,.nil U3),(.tmp 8,.box 3),(.cell 1 0,.own 3 U0),(.cell 1 1,.own 3 U0),(.cell 1 2,.own 43 U3)])]
def ER[Lk]:V9→Option (V9⊕(List Int×List Int×List U4×Unit)⊕Unit):=fun(a0,a1,a2,a3,a4,a5,a6,a7,_)=>
 match(ilt a7 a6)with
 |true=>match rem? a7 a1 with|none=>none|some x0=>match(ile a1 a7)with
  |true=>match idx a0 (IntKind.wrap .i64 ((IntKind.wrap .i64 (a1-1))-x0))with|none=>none|some x1=>match Cj a5 0 x1 with|none=>none|some x2=>match RX (DS 0 (AO (AK x2)) a5)with|none=>none|some x3=>match idx a4 (IntKind.wrap .i64 ((IntKind.wrap .i64 (a1-1))-x0))with|none=>none|some x4=>match idx a0 (IntKind.wrap .i64 ((IntKind.wrap .i64 (a1-1))-x0))with|none=>none|some x5=>match AU Cw many (a0,a1,a2,a3,(BB a4 (AO (IntKind.wrap .i64 ((IntKind.wrap .i64 (a1-1))-x0))) x3),a5,(IntKind.wrap .i64 ((IntKind.wrap .i64 (a1-1))-x0)),a6,a7,x5,0,())with|none=>none|some r=>match r with
   |.inl (o6,o7,o8,o9,o10,o11,o12,o13,_)=>some (.inl (o6,o7,o8,o9,o10,o11,o12,(IntKind.wrap .i64 (o13+1)),()))
   |.inr _=>none
  |false=>match idx a0 (IntKind.wrap .i64 ((IntKind.wrap .i64 (a1-1))-x0))with|none=>none|some x14=>match AU Cw many (a0,a1,a2,a3,a4,a5,(IntKind.wrap .i64 ((IntKind.wrap .i64 (a1-1))-x0)),a6,a7,x14,0,())with|none=>none|some r=>match r with
  |.inl (o15,o16,o17,o18,o19,o20,o21,o22,_)=>some (.inl (o15,o16,o17,o18,o19,o20,o21,(IntKind.wrap .i64 (o22+1)),()))
  |.inr _=>none
 |false=>some (.inr (.inl (a2,a3,a4,())))
def Of[Lk]:V4→Option ((List Int×List Int×List U4×Int×Unit)):=fun(a0,a1,_)=>
 match(ieq (AK a0) 0)with
 |true=>some (([]:List (Int)),([]:List (Int)),([]:List U4),1,())
 |false=>match(!(ieq (AK a1) (AK a0)))with
 |true=>some (([]:List (Int)),([]:List (Int)),([]:List U4),1,())
 |false=>match LM (a0,())with|none=>none|some (y0,_)=>match(!y0)with
 |true=>some (([]:List (Int)),([]:List (Int)),([]:List U4),1,())
 |false=>match FZ (a1,())with|none=>none|some (y1,_)=>match y1 with
 |true=>some (([]:List (Int)),([]:List (Int)),([]:List U4),1,())
 |false=>match RX a0 with|none=>none|some x2=>match RX a1 with|none=>none|some x3=>match(DM (AK a0)&&DM (AK a0)&&ile (AK a0) (AK a0)&&true)with
 |true=>match AU ER many (a1,(AK a0),x2,x3,(D6 (AO (AK a0)) ([]:List (Int))),(D6 8 (0:Int)),(IntKind.wrap .i64 ((2:Int)*(AK a0))),(0:Int),())with|none=>none|some r=>match r with
  |.inl (o4,o5,o6,_)=>some (o4,o5,o6,0,())
  |.inr _=>none
 |false=>none
def Oh[Lk]:=fun v=>Lk.f (Of v)
theorem ABY v:Oh v=Of v:=AJ _
abbrev M7:AE:=[(.tmp 0,.dat U3),(.tmp 1,.dat (.slice Vd))]
abbrev M6:AE:=[(.tmp 0,.own 3 U0)]
abbrev M5:List RS:=[.one]
abbrev Ry:AE:=[(.tmp 1,.dat (.slice Vd)),(.tmp 5,.own 3 U0),(.tmp 8,.dat U3),(.tmp 9,.di),(.tmp 10,.di)]
abbrev Rx:An:=[(.exit 0,[(.tmp 5,.own 3 U0)])]
def Cv[Lk]:Vb→Option (Vb⊕Un⊕Unit):=fun(a0,a1,a2,a3,a4,_)=>
 match(ilt a4 a3)with
 |true=>match idx a2 a4 with|none=>none|some x0=>match(ilt x0 0)with
  |true=>match(fits ((AK a1)+(AK ([1]:List (Int)))))with
   |true=>some (.inl (a0,(A1 a1 ([1]:List (Int))),a2,a3,(IntKind.wrap .i64 (a4+1)),()))
   |false=>none
  |false=>match RV (a0,x0,())with|none=>none|some (y1,_)=>match Td (y1,())with|none=>none|some (y2,_)=>match(fits ((AK a1)+(AK ([y2]:List (Int)))))with
  |true=>some (.inl (a0,(A1 a1 ([y2]:List (Int))),a2,a3,(IntKind.wrap .i64 (a4+1)),()))
  |false=>none
 |false=>some (.inr (.inl (a1,())))
def I3[Lk]:V4→Option (Un):=fun(a0,a1,_)=>
 match AU Cv many (a1,([]:List (Int)),a0,(AK a0),0,())with|none=>none|some r=>match r with
 |.inl (o0,_)=>some (o0,())
 |.inr _=>none
def KO[Lk]:=fun v=>Lk.f (I3 v)
theorem Rz v:KO v=I3 v:=AJ _
abbrev AFn:AE:=[(.tmp 0,.dat U3),(.tmp 1,.dat U3)]
abbrev AFm:AE:=[(.tmp 0,.dat .bool)]
abbrev AFl:List RS:=[.one]
abbrev AKc:AE:=[(.tmp 0,.dat U3),(.tmp 1,.dat U3),(.tmp 12,.di),(.tmp 13,.di)]
abbrev AKb:An:=[(.ret,[(.tmp 4,.dat .bool)]),(.exit 0,[])]
def GK[Lk]:Vf→Option (Vf⊕Uf⊕(Unit)⊕Unit):=fun(a0,a1,a2,a3,_)=>
 match(ilt a3 a2)with
 |true=>match idx a0 a3 with|none=>none|some x0=>match idx a1 a3 with|none=>none|some x1=>match(!(ieq x0 x1))with
  |true=>some (.inr (.inl (false,())))
  |false=>some (.inl (a0,a1,a2,(IntKind.wrap .i64 (a3+1)),()))
 |false=>some (.inr (.inr (.inl ())))
def TF[Lk]:V4→Option (Uf):=fun(a0,a1,_)=>
 match(!(ieq (AK a0) (AK a1)))with
 |true=>some (false,())
 |false=>match AU GK many (a0,a1,(AK a0),0,())with|none=>none|some r=>match r with
 |.inl (o0,_)=>some (o0,())
 |.inr r=>match r with
 |.inl _=>some (true,())
 |.inr _=>none
def RI[Lk]:=fun v=>Lk.f (TF v)
theorem AKd v:RI v=TF v:=AJ _
abbrev Xd:AE:=[(.tmp 0,.dat Ua),(.tmp 1,.dat Ua),(.tmp 2,.clo 146 [])]
abbrev Xc:AE:=[(.tmp 0,.dat .bool)]
abbrev Xb:List RS:=[.one]
abbrev AFq:AE:=[(.tmp 1,.dat Ua),(.tmp 2,.clo 146 []),(.tmp 15,.dat Ua),(.tmp 16,.di),(.tmp 17,.di)]
abbrev AFp:An:=[(.ret,[(.tmp 6,.dat .bool)]),(.exit 0,[])]
def Ed[Lk]:(List U4×List U4×Int×Int×Unit)→Option ((List U4×List U4×Int×Int×Unit)⊕Uf⊕(Unit)⊕Unit):=fun(a0,a1,a2,a3,_)=>
 match(ilt a3 a2)with
 |true=>match idx a1 a3 with|none=>none|some x0=>match idx a0 a3 with|none=>none|some x1=>match RI (x0,x1,())with|none=>none|some (y2,_)=>match(!y2)with
  |true=>some (.inr (.inl (false,())))
  |false=>some (.inl (a0,a1,a2,(IntKind.wrap .i64 (a3+1)),()))
 |false=>some (.inr (.inr (.inl ())))
def PE[Lk]:(List U4×List U4×Unit)→Option (Uf):=fun(a0,a1,_)=>
 match(!(ieq (AK a0) (AK a1)))with
 |true=>some (false,())
 |false=>match AU Ed many (a1,a0,(AK a0),0,())with|none=>none|some r=>match r with
 |.inl (o0,_)=>some (o0,())
 |.inr r=>match r with
 |.inl _=>some (true,())
 |.inr _=>none
def TJ[Lk]:=fun v=>Lk.f (PE v)
theorem AFr v:TJ v=PE v:=AJ _
abbrev ABM:AE:=[(.tmp 0,.dat Uq),(.tmp 1,.dat Uq)]
abbrev ABL:AE:=[(.tmp 0,.dat .bool)]
abbrev ABK:List RS:=[.one]
def Rs[Lk]:(Us×Us×Unit)→Option (Uf):=fun(a0,a1,_)=>
 match RI (a0.1,a1.1,())with|none=>none|some (y0,_)=>match y0 with
 |true=>match RI (a0.2.1,a1.2.1,())with|none=>none|some (y1,_)=>match y1 with
  |true=>match TJ (a0.2.2.1,a1.2.2.1,())with|none=>none|some (y2,_)=>some (y2,())
  |false=>some (false,())
 |false=>some (false,())
def ABN[Lk]:=fun v=>Lk.f (Rs v)
theorem AI6 v:ABN v=Rs v:=AJ _
abbrev VD:AE:=[(.tmp 0,.dat Uq)]
abbrev VC:AE:=[(.tmp 0,.dat .bool)]
abbrev VB:List RS:=[.one]
def Oe[Lk]:(Us×Unit)→Option (Uf):=fun(a0,_)=>
 match Oh (a0.1,a0.2.1,())with|none=>none|some (y0,y1,y2,y3,_)=>match(ieq y3 0)with
 |true=>match ABN ((y0,(y1,(y2,()))),(a0.1,(a0.2.1,(a0.2.2.1,()))),())with|none=>none|some (y4,_)=>some (y4,())
 |false=>some (false,())
def Ru[Lk]:=fun v=>Lk.f (Oe v)
theorem ABO v:Ru v=Oe v:=AJ _
abbrev J3:AE:=[(.tmp 0,.dat U3),(.tmp 1,.clo 100 [])]
abbrev J2:AE:=[(.tmp 0,.di)]
abbrev J1:List RS:=[.one]
abbrev Ns:AE:=[(.tmp 0,.dat U3),(.tmp 1,.clo 100 []),(.tmp 7,.di),(.tmp 8,.di)]
abbrev Nr:An:=[(.ret,[(.tmp 4,.di)]),(.exit 0,[])]
def CK[Lk]:Ur→Option (Ur⊕U9⊕(Unit)⊕Unit):=fun(a0,a1,a2,_)=>
 match(ilt a2 a1)with
 |true=>match idx a0 a2 with|none=>none|some x0=>match(ilt x0 (-1073741824:Int))with
  |true=>some (.inr (.inl (a2,())))
  |false=>match(ilt 1073741824 x0)with
  |true=>some (.inr (.inl (a2,())))
  |false=>some (.inl (a0,a1,(IntKind.wrap .i64 (a2+1)),()))
 |false=>some (.inr (.inr (.inl ())))
def Gj[Lk]:Un→Option (U9):=fun(a0,_)=>
 match AU CK many (a0,(AK a0),0,())with|none=>none|some r=>match r with
 |.inl (o0,_)=>some (o0,())
 |.inr r=>match r with
 |.inl _=>some ((-1:Int),())
 |.inr _=>none
def JN[Lk]:=fun v=>Lk.f (Gj v)
theorem Nt v:JN v=Gj v:=AJ _
abbrev Il:AE:=[(.tmp 0,.dat U3),(.tmp 1,.clo 100 [])]
abbrev Ik:AE:=[(.tmp 0,.dat .bool)]
abbrev Ij:List RS:=[.one]
def Fa[Lk]:Un→Option (Uf):=fun(a0,_)=>
 match JN (a0,())with|none=>none|some (y0,_)=>some ((ile 0 y0),())
def Fb[Lk]:=fun v=>Lk.f (Fa v)
theorem Mr v:Fb v=Fa v:=AJ _
abbrev ACc:AE:=[(.tmp 0,.dat Uq),(.tmp 1,.dat U3)]
abbrev ACb:AE:=[(.tmp 0,.dat Ua),(.tmp 1,.di)]
abbrev ACa:List RS:=[.one,.one]
abbrev AJg:AE:=[(.tmp 6,.di),(.tmp 7,.own 3 U0),(.tmp 10,.rows 43 3 U0),(.tmp 11,.di),(.tmp 56,.dat Ua),(.tmp 57,.di),(.tmp 58,.di),(.tmp 63,.dat U3),(.tmp 64,.di),(.tmp 65,.di)]
abbrev AJd:An:=[(.exit 4,[(.tmp 6,.di),(.tmp 7,.own 3 U0),(.tmp 10,.rows 43 3 U0),(.tmp 56,.dat Ua),(.tmp 57,.di),(.tmp 58,.di)])]
def Et[Lk]:(Int×List Int×List U4×Int×List U4×Int×Int×List Int×Int×Int×Unit)→Option ((Int×List Int×List U4×Int×List U4×Int×Int×List Int×Int×Int×Unit)⊕Vj⊕Unit):=fun(a0,a1,a2,a3,a4,a5,a6,a7,a8,a9,_)=>
 match(ilt a9 a8)with
 |true=>match idx a7 a9 with|none=>none|some x0=>match idx a1 x0 with|none=>none|some x1=>match idx a1 a3 with|none=>none|some x2=>match(ile x0 a3)with
  |true=>match idx a1 a0 with|none=>none|some x3=>match idx a2 a3 with|none=>none|some x4=>match(fits ((AK (Ac a2 (AO a3) ([]:List (Int))))+(AK ([(IntKind.wrap .i64 ((IntKind.wrap .i64 ((Ac a1 (AO x0) 0)-(Ac a1 (AO a3) 0)))+(Ac a1 (AO a0) 0)))]:List (Int)))))with
   |true=>match idx (BB a2 (AO a3) (A1 (Ac a2 (AO a3) ([]:List (Int))) ([(IntKind.wrap .i64 ((IntKind.wrap .i64 ((Ac a1 (AO x0) 0)-(Ac a1 (AO a3) 0)))+(Ac a1 (AO a0) 0)))]:List (Int)))) a3 with|none=>none|some x5=>match(ieq (((AO a3):Nat):Int) (((AO a3):Nat):Int)&&ieq (((AO a3):Nat):Int) (((AO a3):Nat):Int))with
    |true=>some (.inl (a0,a1,(BB a2 (AO a3) (A1 (Ac a2 (AO a3) ([]:List (Int))) ([(IntKind.wrap .i64 ((IntKind.wrap .i64 ((Ac a1 (AO x0) 0)-(Ac a1 (AO a3) 0)))+(Ac a1 (AO a0) 0)))]:List (Int)))),a3,a4,a5,a6,a7,a8,(IntKind.wrap .i64 (a9+1)),()))
    |false=>none
   |false=>none
  |false=>match idx a2 a3 with|none=>none|some x6=>match(fits ((AK (Ac a2 (AO a3) ([]:List (Int))))+(AK ([(IntKind.wrap .i64 ((Ac a1 (AO x0) 0)-(Ac a1 (AO a3) 0)))]:List (Int)))))with
  |true=>match idx (BB a2 (AO a3) (A1 (Ac a2 (AO a3) ([]:List (Int))) ([(IntKind.wrap .i64 ((Ac a1 (AO x0) 0)-(Ac a1 (AO a3) 0)))]:List (Int)))) a3 with|none=>none|some x7=>match(ieq (((AO a3):Nat):Int) (((AO a3):Nat):Int)&&ieq (((AO a3):Nat):Int) (((AO a3):Nat):Int))with
   |true=>some (.inl (a0,a1,(BB a2 (AO a3) (A1 (Ac a2 (AO a3) ([]:List (Int))) ([(IntKind.wrap .i64 ((Ac a1 (AO x0) 0)-(Ac a1 (AO a3) 0)))]:List (Int)))),a3,a4,a5,a6,a7,a8,(IntKind.wrap .i64 (a9+1)),()))
   |false=>none
  |false=>none
 |false=>some (.inr (.inl (a0,a1,a2,a4,a5,a6,())))
abbrev AJh:AE:=[(.tmp 6,.di),(.tmp 7,.own 3 U0),(.tmp 10,.rows 43 3 U0),(.tmp 56,.dat Ua),(.tmp 57,.di),(.tmp 58,.di)]
abbrev AJe:An:=[(.exit 2,[(.tmp 10,.rows 43 3 U0)])]
def Eu[Lk]:Vj→Option (Vj⊕Ul⊕Unit):=fun(a0,a1,a2,a3,a4,a5,_)=>
 match(ilt a5 a4)with
 |true=>match idx a3 a5 with|none=>none|some x0=>match AU Et many (a0,a1,a2,a5,a3,a4,a5,x0,(AK x0),0,())with|none=>none|some r=>match r with
  |.inl (o1,o2,o3,o4,o5,o6,_)=>some (.inl (o1,o2,o3,o4,o5,(IntKind.wrap .i64 (o6+1)),()))
  |.inr _=>none
 |false=>some (.inr (.inl (a2,())))
abbrev AJi:AE:=[(.tmp 2,.box 3),(.cell 0 0,.dat U3),(.cell 0 1,.dat U3),(.cell 0 2,.dat Ua),(.tmp 6,.di),(.tmp 7,.own 3 U0),(.tmp 35,.dat U3),(.tmp 36,.di),(.tmp 37,.di)]
abbrev AJf:An:=[(.exit 0,[(.tmp 2,.box 3),(.cell 0 0,.dat U3),(.cell 0 1,.dat U3),(.cell 0 2,.dat Ua),(.tmp 6,.di),(.tmp 7,.own 3 U0)])]
def Ev[Lk]:(List Int×List Int×List U4×Int×List Int×List Int×Int×Int×Unit)→Option ((List Int×List Int×List U4×Int×List Int×List Int×Int×Int×Unit)⊕(List Int×List Int×List U4×Int×List Int×Unit)⊕Unit):=fun(a0,a1,a2,a3,a4,a5,a6,a7,_)=>
 match(ilt a7 a6)with
 |true=>match idx a5 a7 with|none=>none|some x0=>match idx a4 a7 with|none=>none|some x1=>match idx a4 (IntKind.wrap .i64 (a7+1))with|none=>none|some x2=>some (.inl (a0,a1,a2,a3,(BB a4 (AO (IntKind.wrap .i64 (a7+1))) (IntKind.wrap .i64 ((Ac a4 (AO a7) 0)+x0))),a5,a6,(IntKind.wrap .i64 (a7+1)),()))
 |false=>some (.inr (.inl (a0,a1,a2,a3,a4,())))
def SF[Lk]:(Us×List Int×Unit)→Option (V3):=fun(a0,a1,_)=>
 match(!(ieq (AK a1) (AK a0.1)))with
 |true=>some (([]:List U4),1,())
 |false=>match Ru ((a0.1,(a0.2.1,(a0.2.2.1,()))),())with|none=>none|some (y0,_)=>match(!y0)with
 |true=>some (([]:List U4),1,())
 |false=>match Fb (a1,())with|none=>none|some (y1,_)=>match y1 with
 |true=>some (([]:List U4),1,())
 |false=>match(DM (IntKind.wrap .i64 ((AK a0.1)+1))&&DM (IntKind.wrap .i64 ((AK a0.1)+1))&&ile (IntKind.wrap .i64 ((AK a0.1)+1)) (IntKind.wrap .i64 ((AK a0.1)+1))&&true)with
 |true=>match AU Ev many (a0.1,a0.2.1,a0.2.2.1,(AK a0.1),(D6 (AO (IntKind.wrap .i64 ((AK a0.1)+(1:Int)))) (0:Int)),a1,(AK a1),(0:Int),())with|none=>none|some r=>match r with
  |.inl (o2,o3,o4,o5,o6,_)=>match(DM o5&&DM o5&&ile o5 o5&&true)with
   |true=>match AU Eu many (o5,o6,(D6 (AO o5) ([]:List Int)),o4,(AK o4),(0:Int),())with|none=>none|some r=>match r with
    |.inl (o7,_)=>some (o7,0,())
    |.inr _=>none
   |false=>none
  |.inr _=>none
 |false=>none
def ACd[Lk]:=fun v=>Lk.f (SF v)
theorem AJj v:ACd v=SF v:=AJ _
abbrev ADk:AE:=[(.tmp 0,.dat Uq),(.tmp 1,.dat (.slice .bool))]
abbrev ADj:AE:=[(.tmp 0,.dat Ua),(.tmp 1,.di)]
abbrev ADi:List RS:=[.one,.one]
abbrev AJz:AE:=[(.tmp 2,.box 3),(.cell 0 0,.dat U3),(.cell 0 1,.dat U3),(.cell 0 2,.dat Ua),(.tmp 6,.own 3 U0),(.tmp 12,.dat (.slice .bool)),(.tmp 13,.di),(.tmp 14,.di)]
abbrev AJy:An:=[(.exit 0,[(.tmp 2,.box 3),(.cell 0 0,.dat U3),(.cell 0 1,.dat U3),(.cell 0 2,.dat Ua),(.tmp 6,.own 3 U0)])]
def Fw[Lk]:(List Int×List Int×List U4×List Int×List Bool×Int×Int×Unit)→Option ((List Int×List Int×List U4×List Int×List Bool×Int×Int×Unit)⊕(List Int×List Int×List U4×List Int×Unit)⊕Unit):=fun(a0,a1,a2,a3,a4,a5,a6,_)=>
 match(ilt a6 a5)with
 |true=>match idx a4 a6 with|none=>none|some x0=>match x0 with
  |true=>match idx a3 a6 with|none=>none|some x1=>some (.inl (a0,a1,a2,(BB a3 (AO a6) 1),a4,a5,(IntKind.wrap .i64 (a6+1)),()))
  |false=>some (.inl (a0,a1,a2,a3,a4,a5,(IntKind.wrap .i64 (a6+1)),()))
 |false=>some (.inr (.inl (a0,a1,a2,a3,())))
def SY[Lk]:(Us×List Bool×Unit)→Option (V3):=fun(a0,a1,_)=>
 match(DM (AK a1)&&DM (AK a1)&&ile (AK a1) (AK a1)&&true)with
 |true=>match AU Fw many (a0.1,a0.2.1,a0.2.2.1,(D6 (AO (AK a1)) (0:Int)),a1,(AK a1),(0:Int),())with|none=>none|some r=>match r with
  |.inl (o0,o1,o2,o3,_)=>match ACd ((o0,(o1,(o2,()))),o3,())with|none=>none|some (y4,y5,_)=>some (y4,y5,())
  |.inr _=>none
 |false=>none
def ADm[Lk]:=fun v=>Lk.f (SY v)
theorem AJ0 v:ADm v=SY v:=AJ _
abbrev AWI:AE:=[(.tmp 0,.dat Up),(.tmp 1,.di),(.tmp 2,.di)]
abbrev AWH:An:=[(.ret,[(.tmp 0,.nilp),(.tmp 1,.di)]),(.ret,[(.tmp 0,.box 4),(.cell 0 0,.di),(.cell 0 1,.dat U3),(.cell 0 2,.map U0 U0),(.cell 0 3,.dat (.mapi .i64 Ug)),(.tmp 1,.di)])]
abbrev AWG:List RS:=[.one,.one]
abbrev Aaz:AE:=[(.tmp 2,.di),(.tmp 10,.box 4),(.cell 0 0,.di),(.cell 0 1,.dat U3),(.cell 0 2,.map U0 U0),(.cell 0 3,.mrows .i64 34 U2),(.tmp 14,.box 4),(.cell 3 0,.di),(.cell 3 1,.di),(.cell 3 2,.di),(.cell 3 3,.dat .bool),(.tmp 65,.dat U5),(.tmp 66,.di),(.tmp 67,.di),(.tmp 74,.ptr' 3 2),(.tmp 75,.di),(.tmp 76,.di),(.tmp 77,.dat .bool),(.tmp 83,.dat (.arr 2 U0)),(.tmp 84,.di)]
abbrev Aaw:An:=[(.exit 5,[(.tmp 2,.di),(.tmp 10,.box 4),(.cell 0 0,.di),(.cell 0 1,.dat U3),(.cell 0 2,.map U0 U0),(.cell 0 3,.mrows .i64 34 U2),(.tmp 65,.dat U5),(.tmp 66,.di),(.tmp 67,.di),(.tmp 75,.di),(.tmp 76,.di),(.tmp 77,.dat .bool)])]
def Gd[Lk]:Vc→Option (Vc⊕(Int×Int×List Int×List Uc×List Ub×List U6×Int×Int×Int×Int×Bool×Unit)⊕Unit):=fun(a0,a1,a2,a3,a4,a5,a6,a7,a8,a9,a10,a11,a12,a13,a14,a15,a16,_)=>
 match(ilt a16 2)with
 |true=>match idx ([(Ac a15 0 0),(Ac a15 1 0)]:List (Int)) a16 with|none=>none|some x0=>match(fits ((AK (Ac (List.map Prod.snd a4) (C2 (List.map Prod.fst a4) x0) ([]:List U1)))+(AK ([(a5,(a6,()))]:List U1))))with
  |true=>match(ieq (((C2 (List.map Prod.fst a4) x0):Nat):Int) (((C2 (List.map Prod.fst a4) x0):Nat):Int)&&ieq ((C2 (List.map Prod.fst a4) x0:Nat):Int) (((C2 (List.map Prod.fst a4) x0):Nat):Int))with
   |true=>some (.inl (a0,a1,a2,a3,(List.zip (MA (List.map Prod.fst a4) (C2 (List.map Prod.fst a4) x0) x0) (MA (List.map Prod.snd a4) (C2 (List.map Prod.fst a4) x0) (A1 (Ac (List.map Prod.snd a4) (C2 (List.map Prod.fst a4) x0) ([]:List U1)) ([(a5,(a6,()))]:List U1)))),a5,a6,a7,a8,a9,a10,a11,a12,a13,a14,a15,(IntKind.wrap .i64 (a16+1)),()))
   |false=>none
  |false=>none
 |false=>some (.inr (.inl (a0,a1,a2,a3,(List.zip (List.map Prod.fst a4) (List.map Prod.snd a4)),a9,a10,a11,a12,a13,a14,())))
abbrev Aa0:AE:=[(.tmp 2,.di),(.tmp 10,.box 4),(.cell 0 0,.di),(.cell 0 1,.dat U3),(.cell 0 2,.map U0 U0),(.cell 0 3,.mrows .i64 34 U2),(.tmp 65,.dat U5),(.tmp 66,.di),(.tmp 67,.di)]
abbrev Aax:An:=[(.exit 3,[(.tmp 10,.box 4),(.cell 0 0,.di),(.cell 0 1,.dat U3),(.cell 0 2,.map U0 U0),(.cell 0 3,.mrows .i64 34 U2)])]
def I4[Lk]:(Int×Int×List Int×List Uc×List Ub×List U6×Int×Int×Unit)→Option ((Int×Int×List Int×List Uc×List Ub×List U6×Int×Int×Unit)⊕(Int×List Int×List Uc×List Ub×Unit)⊕Unit):=fun(a0,a1,a2,a3,a4,a5,a6,a7,_)=>
 match(ilt a7 a6)with
 |true=>match idx a5 a7 with|none=>none|some x0=>match x0.2.2.2.1 with
  |true=>some (.inl (a0,a1,a2,a3,(List.zip (List.map Prod.fst a4) (List.map Prod.snd a4)),a5,a6,(IntKind.wrap .i64 (a7+1)),()))
  |false=>match(!(ieq x0.2.2.1 a0))with
  |true=>some (.inl (a0,a1,a2,a3,(List.zip (List.map Prod.fst a4) (List.map Prod.snd a4)),a5,a6,(IntKind.wrap .i64 (a7+1)),()))
  |false=>match AU Gd many (a0,a1,a2,a3,(List.zip (List.map Prod.fst a4) (List.map Prod.snd a4)),x0.1,x0.2.1,x0.2.2.1,x0.2.2.2.1,a5,a6,a7,x0.2.2.1,a0,(!(ieq x0.2.2.1 a0)),([x0.1,x0.2.1]:List (Int)),0,())with|none=>none|some r=>match r with
  |.inl (o1,o2,o3,o4,o5,o6,o7,o8,o9,o10,o11,_)=>some (.inl (o1,o2,o3,o4,(List.zip (List.map Prod.fst o5) (List.map Prod.snd o5)),o6,o7,(IntKind.wrap .i64 (o8+1)),()))
  |.inr _=>none
 |false=>some (.inr (.inl (a1,a2,a3,(List.zip (List.map Prod.fst a4) (List.map Prod.snd a4)),())))
abbrev Aa1:AE:=[(.tmp 2,.di),(.tmp 3,.box 2),(.cell 0 0,.di),(.cell 0 1,.dat U5),(.tmp 10,.box 4),(.cell 1 0,.di),(.cell 1 1,.dat U3),(.cell 1 2,.map U0 U0),(.cell 1 3,.mrows .i64 34 U2),(.tmp 52,.dat U3),(.tmp 53,.di),(.tmp 54,.di)]
abbrev Aay:An:=[(.exit 1,[(.tmp 2,.di),(.tmp 3,.box 2),(.cell 0 0,.di),(.cell 0 1,.dat U5),(.tmp 10,.box 4),(.cell 1 0,.di),(.cell 1 1,.dat U3),(.cell 1 2,.map U0 U0),(.cell 1 3,.mrows .i64 34 U2)])]
def I5[Lk]:Vn→Option (Vn⊕(Int×Int×List U6×Int×List Int×List Uc×List Ub×Unit)⊕Unit):=fun(a0,a1,a2,a3,a4,a5,a6,a7,a8,a9,_)=>
 match(ilt a9 a8)with
 |true=>match idx a7 a9 with|none=>none|some x0=>some (.inl (a0,a1,a2,a3,a4,(Ah a5 x0 1),(List.zip (List.map Prod.fst a6) (List.map Prod.snd a6)),a7,a8,(IntKind.wrap .i64 (a9+1)),()))
 |false=>some (.inr (.inl (a0,a1,a2,a3,a4,a5,(List.zip (List.map Prod.fst a6) (List.map Prod.snd a6)),())))
def Vs[Lk]:Vg→Option (U9⊕V1⊕Unit):=fun(a0,a1,a2,_)=>
 match Lh ((a0.1,(a0.2.1,())),a2,())with|none=>none|some (y0,y1,_)=>match(!(ieq y1 0))with
 |true=>some (.inl (y1,()))
 |false=>match(ilt a1 0)with
 |true=>some (.inl (10,()))
 |false=>match(ile a0.1 a1)with
 |true=>some (.inl (10,()))
 |false=>match tof ((y0.1,(y0.2.1,())),a1,())with|none=>none|some (y2,_)=>match idx y0.2.1 y2 with|none=>none|some x3=>match AU I5 many (a2,a0.1,a0.2.1,a0.1,x3,([]:List Uc),(List.zip ([]:List (Int)) ([]:List (List U1))),x3,(AK x3),0,())with|none=>none|some r=>match r with
 |.inl (o4,o5,o6,o7,o8,o9,o10,_)=>match AU I4 many (o4,o7,o8,o9,(List.zip (List.map Prod.fst o10) (List.map Prod.snd o10)),o6,(AK o6),0,())with|none=>none|some r=>match r with
  |.inl (o11,o12,o13,o14,_)=>some (.inr (.inl (o11,o12,o13,(List.zip (List.map Prod.fst o14) (List.map Prod.snd o14)),0,())))
  |.inr _=>none
 |.inr _=>none
def seen[Lk](v:Vg):Option (U9⊕V1⊕Unit):=Lk.f (Vs v)
theorem AAs v:seen v=Vs v:=AJ _
abbrev Vq:AE:=[(.tmp 0,.box 4),(.cell 0 0,.di),(.cell 0 1,.dat U3),(.cell 0 2,.map U0 U0),(.cell 0 3,.dat (.mapi .i64 Ug)),(.tmp 1,.dat U2)]
abbrev Vp:AE:=[(.obj 0,.box 4),(.cell 0 0,.di),(.cell 0 1,.dat U3),(.cell 0 2,.map U0 U0),(.cell 0 3,.dat (.mapi .i64 Ug)),(.obj 1,.map' 1),(.tmp 0,.dat .bool)]
abbrev Vo:List RS:=[.one]
def Vr[Lk]:(Int×List Int×List Uc×List Ub×U1×Unit)→Option ((Int×List Int×List Uc×List Ub×Bool×Unit)):=fun(a0,a1,a2,a3,a4,_)=>
 some (a0,a1,a2,a3,(ieq (IntKind.wrap .i64 (((AS a2 a4.1).getD 0)+((AS a2 a4.2.1).getD 0))) 1),())
def Oo[Lk]:=fun v=>Lk.f (Vr v)
theorem AV1 v:Oo v=Vr v:=AJ _
abbrev QX:AE:=[(.tmp 0,.box 4),(.cell 0 0,.di),(.cell 0 1,.dat U3),(.cell 0 2,.map U0 U0),(.cell 0 3,.dat (.mapi .i64 Ug)),(.tmp 1,.di)]
abbrev QW:AE:=[(.obj 0,.box 4),(.cell 0 0,.di),(.cell 0 1,.dat U3),(.cell 0 2,.map U0 U0),(.cell 0 3,.dat (.mapi .i64 Ug)),(.obj 1,.map' 1),(.tmp 0,.dat .bool)]
abbrev QV:List RS:=[.one]
def LG[Lk]:V1→Option ((Int×List Int×List Uc×List Ub×Bool×Unit)):=fun(a0,a1,a2,a3,a4,_)=>
 match(ilt a4 a0)with
 |true=>some (a0,a1,a2,a3,(ilt 0 (AK ((AS a3 a4).getD ([]:List U1)))),())
 |false=>some (a0,a1,a2,a3,false,())
def H5[Lk]:=fun v=>Lk.f (LG v)
theorem Yr v:H5 v=LG v:=AJ _
abbrev Ju:AE:=[(.tmp 0,.own 3 U0),(.cap 1 0,.box 1),(.cell 1 0,.box 4),(.cell 2 0,.di),(.cell 2 1,.dat U3),(.cell 2 2,.map U0 U0),(.cell 2 3,.dat (.mapi .i64 Ug)),(.tmp 1,.clo 65 [(1,0)])]
abbrev Jt:AE:=[(.obj 0,.own 3 U0),(.obj 1,.box 1),(.cell 1 0,.box 4),(.cell 2 0,.di),(.cell 2 1,.dat U3),(.cell 2 2,.map U0 U0),(.cell 2 3,.dat (.mapi .i64 Ug)),(.obj 2,.ptr' 2 0),(.obj 3,.map' 3),(.tmp 0,.di)]
abbrev Js:List RS:=[.one]
abbrev Nm:AE:=[(.obj 0,.own 3 U0),(.obj 1,.box 1),(.cell 1 0,.box 4),(.cell 2 0,.di),(.cell 2 1,.dat U3),(.cell 2 2,.map U0 U0),(.cell 2 3,.dat (.mapi .i64 Ug)),(.obj 2,.ptr' 2 0),(.obj 3,.map' 3),(.tmp 0,.own' 0),(.tmp 1,.clo 65 [(1,0)]),(.tmp 7,.di),(.tmp 8,.di)]
abbrev Nl:An:=[(.ret,[(.obj 0,.own 3 U0),(.obj 1,.box 1),(.cell 1 0,.box 4),(.cell 2 0,.di),(.cell 2 1,.dat U3),(.cell 2 2,.map U0 U0),(.cell 2 3,.dat (.mapi .i64 Ug)),(.obj 2,.ptr' 2 0),(.obj 3,.map' 3),(.tmp 4,.di)]),(.exit 0,[(.obj 0,.own 3 U0),(.obj 1,.box 1),(.cell 1 0,.box 4),(.cell 2 0,.di),(.cell 2 1,.dat U3),(.cell 2 2,.map U0 U0),(.cell 2 3,.dat (.mapi .i64 Ug)),(.obj 2,.ptr' 2 0),(.obj 3,.map' 3)])]
def IS[Lk]:Uz→Option (Uz⊕V5⊕Vk⊕Unit):=fun(a0,a1,a2,a3,a4,a5,a6,_)=>
 match(ilt a6 a5)with
 |true=>match idx a0 a6 with|none=>none|some x0=>match H5 (a1,a2,a3,a4,(Ac a0 (AO a6) 0),())with|none=>none|some (y1,y2,y3,y4,y5,_)=>match(!y5)with
  |true=>some (.inr (.inl (a0,y1,y2,y3,y4,a6,())))
  |false=>some (.inl (a0,y1,y2,y3,y4,a5,(IntKind.wrap .i64 (a6+1)),()))
 |false=>some (.inr (.inr (.inl (a0,a1,a2,a3,a4,()))))
def Jw[Lk]:Vk→Option (V5):=fun(a0,a1,a2,a3,a4,_)=>
 match AU IS many (a0,a1,a2,a3,a4,(AK a0),0,())with|none=>none|some r=>match r with
 |.inl (o0,o1,o2,o3,o4,o5,_)=>some (o0,o1,o2,o3,o4,o5,())
 |.inr r=>match r with
 |.inl (o6,o7,o8,o9,o10,_)=>some (o6,o7,o8,o9,o10,(-1:Int),())
 |.inr _=>none
def JI[Lk]:=fun v=>Lk.f (Jw v)
theorem AFM v:JI v=Jw v:=AJ _
abbrev KB:AE:=[(.tmp 0,.own 3 U0),(.cap 1 0,.box 1),(.cell 1 0,.box 4),(.cell 2 0,.di),(.cell 2 1,.dat U3),(.cell 2 2,.map U0 U0),(.cell 2 3,.dat (.mapi .i64 Ug)),(.tmp 1,.clo 65 [(1,0)])]
abbrev KA:AE:=[(.obj 0,.own 3 U0),(.obj 1,.box 1),(.cell 1 0,.box 4),(.cell 2 0,.di),(.cell 2 1,.dat U3),(.cell 2 2,.map U0 U0),(.cell 2 3,.dat (.mapi .i64 Ug)),(.obj 2,.ptr' 2 0),(.obj 3,.map' 3),(.tmp 0,.win' 0)]
abbrev J9:List RS:=[.one]
abbrev N7:AE:=[(.obj 0,.own 3 U0),(.obj 1,.box 1),(.cell 1 0,.box 4),(.cell 2 0,.di),(.cell 2 1,.dat U3),(.cell 2 2,.map U0 U0),(.cell 2 3,.dat (.mapi .i64 Ug)),(.obj 2,.ptr' 2 0),(.obj 3,.map' 3),(.tmp 0,.own' 0),(.tmp 1,.clo 65 [(1,0)]),(.tmp 5,.di),(.tmp 6,.di)]
abbrev N6:An:=[(.exit 0,[(.obj 0,.own 3 U0),(.obj 1,.box 1),(.cell 1 0,.box 4),(.cell 2 0,.di),(.cell 2 1,.dat U3),(.cell 2 2,.map U0 U0),(.cell 2 3,.dat (.mapi .i64 Ug)),(.obj 2,.ptr' 2 0),(.obj 3,.map' 3),(.tmp 0,.own' 0),(.tmp 5,.di)])]
def Ic[Lk]:Uz→Option (Uz⊕V5⊕Unit):=fun(a0,a1,a2,a3,a4,a5,a6,_)=>
 match(ilt a6 (AK a0))with
 |true=>match idx a0 a6 with|none=>none|some x0=>match H5 (a1,a2,a3,a4,(Ac a0 (AO a6) 0),())with|none=>none|some (y1,y2,y3,y4,y5,_)=>match(!(!y5))with
  |true=>match idx a0 a5 with|none=>none|some x6=>some (.inl ((BB a0 (AO a5) (Ac a0 (AO a6) 0)),y1,y2,y3,y4,(IntKind.wrap .i64 (a5+1)),(IntKind.wrap .i64 (a6+1)),()))
  |false=>some (.inl (a0,y1,y2,y3,y4,a5,(IntKind.wrap .i64 (a6+1)),()))
 |false=>some (.inr (.inl (a0,a1,a2,a3,a4,a5,())))
def KD[Lk]:Vk→Option (V5):=fun(a0,a1,a2,a3,a4,_)=>
 match JI (a0,a1,a2,a3,a4,())with|none=>none|some (y0,y1,y2,y3,y4,y5,_)=>match(ieq y5 (-1:Int))with
 |true=>some (y0,y1,y2,y3,y4,(AK y0),())
 |false=>match AU Ic many (y0,y1,y2,y3,y4,y5,(IntKind.wrap .i64 (y5+1)),())with|none=>none|some r=>match r with
 |.inl (o6,o7,o8,o9,o10,o11,_)=>match Cj o6 o11 (AK o6)with|none=>none|some x12=>match Cj (CL (AO o11) (AO (AK x12)) 0 o6) 0 o11 with|none=>none|some x13=>some ((CL (AO o11) (AO (AK x12)) 0 o6),o7,o8,o9,o10,(((AO (AK x13)):Nat):Int),())
 |.inr _=>none
def JW[Lk]:=fun v=>Lk.f (KD v)
theorem AF0 v:JW v=KD v:=AJ _
abbrev QT:AE:=[(.tmp 0,.box 4),(.cell 0 0,.di),(.cell 0 1,.dat U3),(.cell 0 2,.map U0 U0),(.cell 0 3,.dat (.mapi .i64 Ug))]
abbrev QS:AE:=[(.obj 0,.box 4),(.cell 0 0,.di),(.cell 0 1,.dat U3),(.cell 0 2,.map U0 U0),(.cell 0 3,.dat (.mapi .i64 Ug)),(.obj 1,.map' 1),(.tmp 0,.own 3 U0)]
abbrev QR:List RS:=[.one]
def QU[Lk]:(Int×List Int×List Uc×List Ub×Unit)→Option ((Int×List Int×List Uc×List Ub×List Int×Unit)):=fun(a0,a1,a2,a3,_)=>
 match RX a1 with|none=>none|some x0=>match JW (x0,a0,a1,a2,a3,())with|none=>none|some (y1,y2,y3,y4,y5,y6,_)=>some (y2,y3,y4,y5,(B0 (AO y6) y1),())
def KT[Lk]:=fun v=>Lk.f (QU v)
theorem AQZ v:KT v=QU v:=AJ _
abbrev AV7:AE:=[(.tmp 0,.box 4),(.cell 0 0,.di),(.cell 0 1,.dat U3),(.cell 0 2,.map U0 U0),(.cell 0 3,.dat (.mapi .i64 Ug)),(.tmp 1,.dat U3)]
abbrev AV6:AE:=[(.obj 0,.box 4),(.cell 0 0,.di),(.cell 0 1,.dat U3),(.cell 0 2,.map U0 U0),(.cell 0 3,.dat (.mapi .i64 Ug)),(.obj 1,.map' 1),(.tmp 0,.own 34 U2)]
abbrev AV5:List RS:=[.one]
abbrev Aas:AE:=[(.obj 0,.box 4),(.cell 0 0,.di),(.cell 0 1,.dat U3),(.cell 0 2,.map U0 U0),(.cell 0 3,.dat (.mapi .i64 Ug)),(.obj 1,.map' 1),(.tmp 0,.ptr' 0 0),(.tmp 5,.map U2 U0),(.tmp 6,.own 34 U2),(.tmp 12,.dat U3),(.tmp 13,.di),(.tmp 14,.di),(.tmp 23,.dat Ug),(.tmp 24,.di),(.tmp 25,.di)]
abbrev Aaq:An:=[(.exit 2,[(.obj 0,.box 4),(.cell 0 0,.di),(.cell 0 1,.dat U3),(.cell 0 2,.map U0 U0),(.cell 0 3,.dat (.mapi .i64 Ug)),(.obj 1,.map' 1),(.tmp 0,.ptr' 0 0),(.tmp 5,.map U2 U0),(.tmp 6,.own 34 U2),(.tmp 12,.dat U3),(.tmp 13,.di),(.tmp 14,.di)])]
def AMG[Lk]:Ve→Option (Ve⊕V2⊕Unit):=fun(a0,a1,a2,a3,a4,a5,a6,a7,a8,a9,a10,a11,_)=>
 match(ilt a11 a10)with
 |true=>match idx a9 a11 with|none=>none|some x0=>match(ile 0 (AHz a4 (x0.1,(x0.2.1,())))&&ilt (AHz a4 (x0.1,(x0.2.1,()))) (AK (Ah a4 (x0.1,(x0.2.1,())) ((AS a4 (x0.1,(x0.2.1,()))).getD 0))))with
  |true=>match(ieq ((AS (AeU (Ah a4 (x0.1,(x0.2.1,())) ((AS a4 (x0.1,(x0.2.1,()))).getD 0)) (AHz a4 (x0.1,(x0.2.1,()))) (IntKind.wrap .i64 (((AS a4 (x0.1,(x0.2.1,()))).getD 0)+1))) (x0.1,(x0.2.1,()))).getD 0) 1)with
   |true=>match(fits ((AK a5)+(AK ([(x0.1,(x0.2.1,()))]:List U1))))with
    |true=>some (.inl (a0,a1,a2,a3,(AeU (Ah a4 (x0.1,(x0.2.1,())) ((AS a4 (x0.1,(x0.2.1,()))).getD 0)) (AHz a4 (x0.1,(x0.2.1,()))) (IntKind.wrap .i64 (((AS a4 (x0.1,(x0.2.1,()))).getD 0)+1))),(A1 a5 ([(x0.1,(x0.2.1,()))]:List U1)),a6,a7,a8,a9,a10,(IntKind.wrap .i64 (a11+1)),()))
    |false=>none
   |false=>some (.inl (a0,a1,a2,a3,(AeU (Ah a4 (x0.1,(x0.2.1,())) ((AS a4 (x0.1,(x0.2.1,()))).getD 0)) (AHz a4 (x0.1,(x0.2.1,()))) (IntKind.wrap .i64 (((AS a4 (x0.1,(x0.2.1,()))).getD 0)+1))),a5,a6,a7,a8,a9,a10,(IntKind.wrap .i64 (a11+1)),()))
  |false=>none
 |false=>some (.inr (.inl (a0,a1,a2,a3,a4,a5,a6,a7,a8,())))
abbrev Aat:AE:=[(.obj 0,.box 4),(.cell 0 0,.di),(.cell 0 1,.dat U3),(.cell 0 2,.map U0 U0),(.cell 0 3,.dat (.mapi .i64 Ug)),(.obj 1,.map' 1),(.tmp 0,.ptr' 0 0),(.tmp 5,.map U2 U0),(.tmp 6,.own 34 U2),(.tmp 12,.dat U3),(.tmp 13,.di),(.tmp 14,.di)]
abbrev Aar:An:=[(.exit 0,[(.obj 0,.box 4),(.cell 0 0,.di),(.cell 0 1,.dat U3),(.cell 0 2,.map U0 U0),(.cell 0 3,.dat (.mapi .i64 Ug)),(.obj 1,.map' 1),(.tmp 6,.own 34 U2)])]
def AMH[Lk]:V2→Option (V2⊕(Int×List Int×List Uc×List Ub×List U1×Unit)⊕Unit):=fun(a0,a1,a2,a3,a4,a5,a6,a7,a8,_)=>
 match(ilt a8 a7)with
 |true=>match idx a6 a8 with|none=>none|some x0=>match AU AMG many (a0,a1,a2,a3,a4,a5,a6,a7,a8,((AS a3 x0).getD ([]:List U1)),(AK ((AS a3 x0).getD ([]:List U1))),0,())with|none=>none|some r=>match r with
  |.inl (o1,o2,o3,o4,o5,o6,o7,o8,o9,_)=>some (.inl (o1,o2,o3,o4,o5,o6,o7,o8,(IntKind.wrap .i64 (o9+1)),()))
  |.inr _=>none
 |false=>some (.inr (.inl (a0,a1,a2,a3,a5,())))
def AV8[Lk]:(Int×List Int×List Uc×List Ub×List Int×Unit)→Option ((Int×List Int×List Uc×List Ub×List U1×Unit)):=fun(a0,a1,a2,a3,a4,_)=>
 match AU AMH many (a0,a1,a2,a3,([]:List (U1×Int)),([]:List U1),a4,(AK a4),0,())with|none=>none|some r=>match r with
 |.inl (o0,o1,o2,o3,o4,_)=>match AQY (o4,())with|none=>none|some (y5,_)=>some (o0,o1,o2,o3,y5,())
 |.inr _=>none
def AdC[Lk]:=fun v=>Lk.f (AV8 v)
theorem AlD v:AdC v=AV8 v:=AJ _
abbrev Lr:AE:=[(.tmp 0,.own 34 U2),(.cap 1 0,.box 1),(.cell 1 0,.box 4),(.cell 2 0,.di),(.cell 2 1,.dat U3),(.cell 2 2,.map U0 U0),(.cell 2 3,.dat (.mapi .i64 Ug)),(.tmp 1,.clo 31 [(1,0)])]
abbrev Lq:AE:=[(.obj 0,.own 34 U2),(.obj 1,.box 1),(.cell 1 0,.box 4),(.cell 2 0,.di),(.cell 2 1,.dat U3),(.cell 2 2,.map U0 U0),(.cell 2 3,.dat (.mapi .i64 Ug)),(.obj 2,.ptr' 2 0),(.obj 3,.map' 3),(.tmp 0,.di)]
abbrev Lp:List RS:=[.one]
abbrev Pu:AE:=[(.obj 0,.own 34 U2),(.obj 1,.box 1),(.cell 1 0,.box 4),(.cell 2 0,.di),(.cell 2 1,.dat U3),(.cell 2 2,.map U0 U0),(.cell 2 3,.dat (.mapi .i64 Ug)),(.obj 2,.ptr' 2 0),(.obj 3,.map' 3),(.tmp 0,.own' 0),(.tmp 1,.clo 31 [(1,0)]),(.tmp 7,.di),(.tmp 8,.di)]
abbrev Pt:An:=[(.ret,[(.obj 0,.own 34 U2),(.obj 1,.box 1),(.cell 1 0,.box 4),(.cell 2 0,.di),(.cell 2 1,.dat U3),(.cell 2 2,.map U0 U0),(.cell 2 3,.dat (.mapi .i64 Ug)),(.obj 2,.ptr' 2 0),(.obj 3,.map' 3),(.tmp 4,.di)]),(.exit 0,[(.obj 0,.own 34 U2),(.obj 1,.box 1),(.cell 1 0,.box 4),(.cell 2 0,.di),(.cell 2 1,.dat U3),(.cell 2 2,.map U0 U0),(.cell 2 3,.dat (.mapi .i64 Ug)),(.obj 2,.ptr' 2 0),(.obj 3,.map' 3)])]
def J5[Lk]:V0→Option (V0⊕V6⊕Va⊕Unit):=fun(a0,a1,a2,a3,a4,a5,a6,_)=>
 match(ilt a6 a5)with
 |true=>match idx a0 a6 with|none=>none|some x0=>match Oo (a1,a2,a3,a4,((Ac a0 (AO a6) (0,(0,()))).1,((Ac a0 (AO a6) (0,(0,()))).2.1,())),())with|none=>none|some (y1,y2,y3,y4,y5,_)=>match(!y5)with
  |true=>some (.inr (.inl (a0,y1,y2,y3,y4,a6,())))
  |false=>some (.inl (a0,y1,y2,y3,y4,a5,(IntKind.wrap .i64 (a6+1)),()))
 |false=>some (.inr (.inr (.inl (a0,a1,a2,a3,a4,()))))
def Lt[Lk]:Va→Option (V6):=fun(a0,a1,a2,a3,a4,_)=>
 match AU J5 many (a0,a1,a2,a3,a4,(AK a0),0,())with|none=>none|some r=>match r with
 |.inl (o0,o1,o2,o3,o4,o5,_)=>some (o0,o1,o2,o3,o4,o5,())
 |.inr r=>match r with
 |.inl (o6,o7,o8,o9,o10,_)=>some (o6,o7,o8,o9,o10,(-1:Int),())
 |.inr _=>none
def Lu[Lk]:=fun v=>Lk.f (Lt v)
theorem AIX v:Lu v=Lt v:=AJ _
end
end Go.Pev
end
section
namespace Go.Pev
noncomputable section
attribute [local irreducible] Py L6 Pe Po AjN AjO AjP WL ADG ACR AAG MJ Ab many IntKind.wrap AK BB Ac A1 B0 DS D6 AO CL Cp imax AS Ah
abbrev ME:AE:=[(.tmp 0,.own 34 U2),(.cap 1 0,.box 1),(.cell 1 0,.box 4),(.cell 2 0,.di),(.cell 2 1,.dat U3),(.cell 2 2,.map U0 U0),(.cell 2 3,.dat (.mapi .i64 Ug)),(.tmp 1,.clo 31 [(1,0)])]
abbrev MD:AE:=[(.obj 0,.own 34 U2),(.obj 1,.box 1),(.cell 1 0,.box 4),(.cell 2 0,.di),(.cell 2 1,.dat U3),(.cell 2 2,.map U0 U0),(.cell 2 3,.dat (.mapi .i64 Ug)),(.obj 2,.ptr' 2 0),(.obj 3,.map' 3),(.tmp 0,.win' 0)]
abbrev MC:List RS:=[.one]
abbrev P5:AE:=[(.obj 0,.own 34 U2),(.obj 1,.box 1),(.cell 1 0,.box 4),(.cell 2 0,.di),(.cell 2 1,.dat U3),(.cell 2 2,.map U0 U0),(.cell 2 3,.dat (.mapi .i64 Ug)),(.obj 2,.ptr' 2 0),(.obj 3,.map' 3),(.tmp 0,.own' 0),(.tmp 1,.clo 31 [(1,0)]),(.tmp 5,.di),(.tmp 6,.di)]
abbrev P2:An:=[(.exit 0,[(.obj 0,.own 34 U2),(.obj 1,.box 1),(.cell 1 0,.box 4),(.cell 2 0,.di),(.cell 2 1,.dat U3),(.cell 2 2,.map U0 U0),(.cell 2 3,.dat (.mapi .i64 Ug)),(.obj 2,.ptr' 2 0),(.obj 3,.map' 3),(.tmp 0,.own' 0),(.tmp 5,.di)])]
def KE[Lk]:V0→Option (V0⊕V6⊕Unit):=fun(a0,a1,a2,a3,a4,a5,a6,_)=>
 match(ilt a6 (AK a0))with
 |true=>match idx a0 a6 with|none=>none|some x0=>match Oo (a1,a2,a3,a4,((Ac a0 (AO a6) (0,(0,()))).1,((Ac a0 (AO a6) (0,(0,()))).2.1,())),())with|none=>none|some (y1,y2,y3,y4,y5,_)=>match(!(!y5))with
  |true=>match idx a0 a5 with|none=>none|some x6=>some (.inl ((BB a0 (AO a5) ((Ac a0 (AO a6) (0,(0,()))).1,((Ac a0 (AO a6) (0,(0,()))).2.1,()))),y1,y2,y3,y4,(IntKind.wrap .i64 (a5+1)),(IntKind.wrap .i64 (a6+1)),()))
  |false=>some (.inl (a0,y1,y2,y3,y4,a5,(IntKind.wrap .i64 (a6+1)),()))
 |false=>some (.inr (.inl (a0,a1,a2,a3,a4,a5,())))
def MG[Lk]:Va→Option (V6):=fun(a0,a1,a2,a3,a4,_)=>
 match Lu (a0,a1,a2,a3,a4,())with|none=>none|some (y0,y1,y2,y3,y4,y5,_)=>match(ieq y5 (-1:Int))with
 |true=>some (y0,y1,y2,y3,y4,(AK y0),())
 |false=>match AU KE many (y0,y1,y2,y3,y4,y5,(IntKind.wrap .i64 (y5+1)),())with|none=>none|some r=>match r with
 |.inl (o6,o7,o8,o9,o10,o11,_)=>match Cj o6 o11 (AK o6)with|none=>none|some x12=>match Cj (CL (AO o11) (AO (AK x12)) (0,(0,())) o6) 0 o11 with|none=>none|some x13=>some ((CL (AO o11) (AO (AK x12)) (0,(0,())) o6),o7,o8,o9,o10,(((AO (AK x13)):Nat):Int),())
 |.inr _=>none
def MH[Lk]:=fun v=>Lk.f (MG v)
theorem AIl v:MH v=MG v:=AJ _
abbrev AVt:AE:=[(.tmp 0,.dat Up),(.tmp 1,.di),(.tmp 2,.di)]
abbrev AVs:AE:=[(.tmp 0,.own 34 U2),(.tmp 1,.di)]
abbrev AVr:List RS:=[.one,.one]
def AVu[Lk]:Vg→Option ((List U1×Int×Unit)):=fun(a0,a1,a2,_)=>
 match seen ((a0.1,(a0.2.1,())),a1,a2,())with|none=>none|some r=>match r with
 |.inl (y0,_)=>match(!(ieq y0 0))with
  |true=>some (([]:List U1),y0,())
  |false=>none
 |.inr r=>match r with
 |.inl (y1,y2,y3,y4,y5,_)=>match(!(ieq y5 0))with
  |true=>some (([]:List U1),y5,())
  |false=>match KT (y1,y2,y3,y4,())with|none=>none|some (y6,y7,y8,y9,y10,_)=>match AdC (y6,y7,y8,y9,y10,())with|none=>none|some (y11,y12,y13,y14,y15,_)=>match MH (y15,y11,y12,y13,y14,())with|none=>none|some (y16,y17,y18,y19,y20,y21,_)=>some ((B0 (AO y21) y16),0,())
 |.inr _=>none
def AhI[Lk]:=fun v=>Lk.f (AVu v)
theorem Akz v:AhI v=AVu v:=AJ _
abbrev ACL:AE:=[(.tmp 0,.dat Up),(.tmp 1,.di),(.tmp 2,.di),(.tmp 3,.di)]
abbrev ACK:AE:=[(.tmp 0,.own 34 U2),(.tmp 1,.di)]
abbrev ACJ:List RS:=[.one,.one]
def ACN[Lk]:(Uo×Int×Int×Int×Unit)→Option ((List U1×Int×Unit)):=fun(a0,a1,a2,a3,_)=>
 match seen ((a0.1,(a0.2.1,())),a1,a2,())with|none=>none|some r=>match r with
 |.inl (y0,_)=>match(!(ieq y0 0))with
  |true=>some (([]:List U1),y0,())
  |false=>none
 |.inr r=>match r with
 |.inl (y1,y2,y3,y4,y5,_)=>match(!(ieq y5 0))with
  |true=>some (([]:List U1),y5,())
  |false=>match KT (y1,y2,y3,y4,())with|none=>none|some (y6,y7,y8,y9,y10,_)=>match Cj y10 0 (imax 0 (Cp a3 (AK y10)))with|none=>none|some x11=>match AdC (y6,y7,y8,y9,(DS 0 (AO (AK x11)) y10),())with|none=>none|some (y12,y13,y14,y15,y16,_)=>some (y16,0,())
 |.inr _=>none
def AL3[Lk]:=fun v=>Lk.f (ACN v)
theorem Ac3 v:AL3 v=ACN v:=AJ _
abbrev Lx:AE:=[(.tmp 0,.dat Ug),(.cap 1 0,.box 4),(.cell 0 0,.di),(.cell 0 1,.dat U3),(.cell 0 2,.map U0 U0),(.cell 0 3,.dat (.mapi .i64 Ug)),(.tmp 1,.bndp 32 0)]
abbrev Lw:AE:=[(.obj 0,.box 4),(.cell 0 0,.di),(.cell 0 1,.dat U3),(.cell 0 2,.map U0 U0),(.cell 0 3,.dat (.mapi .i64 Ug)),(.obj 1,.map' 1),(.tmp 0,.di)]
abbrev Lv:List RS:=[.one]
abbrev Pw:AE:=[(.obj 0,.box 4),(.cell 0 0,.di),(.cell 0 1,.dat U3),(.cell 0 2,.map U0 U0),(.cell 0 3,.dat (.mapi .i64 Ug)),(.obj 1,.map' 1),(.tmp 0,.dat Ug),(.tmp 1,.bndp 32 0),(.tmp 7,.di),(.tmp 8,.di)]
abbrev Pv:An:=[(.ret,[(.obj 0,.box 4),(.cell 0 0,.di),(.cell 0 1,.dat U3),(.cell 0 2,.map U0 U0),(.cell 0 3,.dat (.mapi .i64 Ug)),(.obj 1,.map' 1),(.tmp 4,.di)]),(.exit 0,[(.obj 0,.box 4),(.cell 0 0,.di),(.cell 0 1,.dat U3),(.cell 0 2,.map U0 U0),(.cell 0 3,.dat (.mapi .i64 Ug)),(.obj 1,.map' 1)])]
def J6[Lk]:(Int×List Int×List Uc×List Ub×List U1×Int×Int×Unit)→Option ((Int×List Int×List Uc×List Ub×List U1×Int×Int×Unit)⊕V1⊕(Int×List Int×List Uc×List Ub×Unit)⊕Unit):=fun(a0,a1,a2,a3,a4,a5,a6,_)=>
 match(ilt a6 a5)with
 |true=>match idx a4 a6 with|none=>none|some x0=>match Oo (a0,a1,a2,a3,(x0.1,(x0.2.1,())),())with|none=>none|some (y1,y2,y3,y4,y5,_)=>match y5 with
  |true=>some (.inr (.inl (y1,y2,y3,y4,a6,())))
  |false=>some (.inl (y1,y2,y3,y4,a4,a5,(IntKind.wrap .i64 (a6+1)),()))
 |false=>some (.inr (.inr (.inl (a0,a1,a2,a3,()))))
def Lz[Lk]:Va→Option (V1):=fun(a0,a1,a2,a3,a4,_)=>
 match AU J6 many (a1,a2,a3,a4,a0,(AK a0),0,())with|none=>none|some r=>match r with
 |.inl (o0,o1,o2,o3,o4,_)=>some (o0,o1,o2,o3,o4,())
 |.inr r=>match r with
 |.inl (o5,o6,o7,o8,_)=>some (o5,o6,o7,o8,(-1:Int),())
 |.inr _=>none
def L0[Lk]:=fun v=>Lk.f (Lz v)
theorem AIa v:L0 v=Lz v:=AJ _
abbrev AL0:AE:=[(.tmp 0,.dat Up),(.tmp 1,.di),(.tmp 2,.di)]
abbrev ALz:AE:=[(.tmp 0,.dat (.prod .bool (.prod U2 U2))),(.tmp 1,.di)]
abbrev ALy:List RS:=[.one,.one]
abbrev AQV:AE:=[(.tmp 6,.box 5),(.cell 0 0,.dat .bool),(.cell 0 1,.di),(.cell 0 2,.di),(.cell 0 3,.di),(.cell 0 4,.di),(.tmp 8,.box 4),(.cell 1 0,.di),(.cell 1 1,.dat U3),(.cell 1 2,.map U0 U0),(.cell 1 3,.dat (.mapi .i64 Ug)),(.tmp 9,.dat U3)]
abbrev AQU:An:=[(.exit 0,[(.tmp 6,.box 5),(.cell 0 0,.dat .bool),(.cell 0 1,.di),(.cell 0 2,.di),(.cell 0 3,.di),(.cell 0 4,.di)])]
def ACH[Lk]:(Bool×Int×Int×Int×Int×Int×List Int×List Uc×List Ub×List Int×Unit)→Option ((Bool×Int×Int×Int×Int×Int×List Int×List Uc×List Ub×List Int×Unit)⊕(Bool×Int×Int×Int×Int×Unit)⊕Unit):=fun(a0,a1,a2,a3,a4,a5,a6,a7,a8,a9,_)=>
 match(!a0)with
 |true=>match(ilt a4 (AK a9))with
  |true=>match shl? .i64 1 (IntKind.wrap .u64 a3)with|none=>none|some x0=>match Cj a9 0 (Cp (AK a9) x0)with|none=>none|some x1=>match AdC (a5,a6,a7,a8,x1,())with|none=>none|some (y2,y3,y4,y5,y6,_)=>match L0 (y6,y2,y3,y4,y5,())with|none=>none|some (y7,y8,y9,y10,y11,_)=>match(ile 0 y11)with
   |true=>match idx y6 y11 with|none=>none|some x12=>some (.inl (true,(Ac y6 (AO y11) (0,(0,()))).1,(Ac y6 (AO y11) (0,(0,()))).2.1,(IntKind.wrap .i64 (a3+1)),(Cp (AK a9) x0),y7,y8,y9,y10,a9,()))
   |false=>some (.inl (a0,a1,a2,(IntKind.wrap .i64 (a3+1)),(Cp (AK a9) x0),y7,y8,y9,y10,a9,()))
  |false=>some (.inr (.inl (a0,a1,a2,a3,a4,())))
 |false=>some (.inr (.inl (a0,a1,a2,a3,a4,())))
def AL2[Lk]:Vg→Option (((Bool×U1×Int×Int×Unit)×Int×Unit)):=fun(a0,a1,a2,_)=>
 match seen ((a0.1,(a0.2.1,())),a1,a2,())with|none=>none|some r=>match r with
 |.inl (y0,_)=>match(!(ieq y0 0))with
  |true=>some ((false,((0,(0,())),(0,(0,())))),y0,())
  |false=>none
 |.inr r=>match r with
 |.inl (y1,y2,y3,y4,y5,_)=>match(!(ieq y5 0))with
  |true=>some ((false,((0,(0,())),(0,(0,())))),y5,())
  |false=>match KT (y1,y2,y3,y4,())with|none=>none|some (y6,y7,y8,y9,y10,_)=>match AU ACH many (false,0,0,0,0,y6,y7,y8,y9,y10,())with|none=>none|some r=>match r with
  |.inl (o11,o12,o13,o14,o15,_)=>some ((o11,((o12,(o13,())),(o14,(o15,())))),0,())
  |.inr _=>none
 |.inr _=>none
def ACI[Lk]:=fun v=>Lk.f (AL2 v)
theorem AhE v:ACI v=AL2 v:=AJ _
abbrev ACD:AE:=[(.tmp 0,.dat Up),(.tmp 1,.di),(.tmp 2,.di),(.tmp 3,.dat (.slice Vd))]
abbrev ACC:AE:=[(.tmp 0,.dat Uq),(.tmp 1,.dat Ua),(.tmp 2,.di)]
abbrev ACB:List RS:=[.one,.one,.one]
abbrev AJX:AE:=[(.tmp 8,.box 3),(.cell 0 0,.own 3 U0),(.cell 0 1,.own 3 U0),(.cell 0 2,.own 43 U3),(.tmp 11,.box 4),(.cell 4 0,.di),(.cell 4 1,.dat U3),(.cell 4 2,.map U0 U0),(.cell 4 3,.dat (.mapi .i64 Ug)),(.tmp 12,.own 4 .bool),(.tmp 43,.dat U3),(.tmp 44,.di),(.tmp 45,.di)]
abbrev AJW:An:=[(.exit 0,[(.tmp 8,.box 3),(.cell 0 0,.own 3 U0),(.cell 0 1,.own 3 U0),(.cell 0 2,.own 43 U3),(.tmp 12,.own 4 .bool)])]
def Fm[Lk]:Vi→Option (Vi⊕(List Int×List Int×List U4×List Bool×Unit)⊕Unit):=fun(a0,a1,a2,a3,a4,a5,a6,a7,a8,a9,a10,_)=>
 match(ilt a10 a9)with
 |true=>match idx a8 a10 with|none=>none|some x0=>match H5 (a3,a4,a5,a6,x0,())with|none=>none|some (y1,y2,y3,y4,y5,_)=>match(fits ((AK a7)+(AK ([y5]:List (Bool)))))with
  |true=>some (.inl (a0,a1,a2,y1,y2,y3,y4,(A1 a7 ([y5]:List (Bool))),a8,a9,(IntKind.wrap .i64 (a10+1)),()))
  |false=>none
 |false=>some (.inr (.inl (a0,a1,a2,a7,())))
def NB[Lk]:(Uo×Int×Int×List Int×Unit)→Option ((Us×List U4×Int×Unit)):=fun(a0,a1,a2,a3,_)=>
 match seen ((a0.1,(a0.2.1,())),a1,a2,())with|none=>none|some r=>match r with
 |.inl (y0,_)=>match(!(ieq y0 0))with
  |true=>some ((([]:List (Int)),(([]:List (Int)),(([]:List U4),()))),([]:List U4),y0,())
  |false=>none
 |.inr r=>match r with
 |.inl (y1,y2,y3,y4,y5,_)=>match(!(ieq y5 0))with
  |true=>some ((([]:List (Int)),(([]:List (Int)),(([]:List U4),()))),([]:List U4),y5,())
  |false=>match KO (y2,a3,())with|none=>none|some (y6,_)=>match Oh (y2,y6,())with|none=>none|some (y7,y8,y9,y10,_)=>match AU Fm many (y7,y8,y9,y1,y2,y3,y4,([]:List (Bool)),y2,(AK y2),0,())with|none=>none|some r=>match r with
  |.inl (o11,o12,o13,o14,_)=>match ADm ((o11,(o12,(o13,()))),o14,())with|none=>none|some (y15,y16,_)=>some ((o11,(o12,(o13,()))),y15,y16,())
  |.inr _=>none
 |.inr _=>none
def QM[Lk]:=fun v=>Lk.f (NB v)
theorem VZ v:QM v=NB v:=AJ _
abbrev AaI:AE:=[(.tmp 0,.dat (.slice Vd)),(.tmp 1,.di)]
abbrev AaH:AE:=[(.tmp 0,.dat Vd)]
abbrev AaG:List RS:=[.one]
def AO7[Lk]:Ux→Option (U9):=fun(a0,a1,_)=>
 match(ilt a1 0)with
 |true=>some (0,())
 |false=>match(ieq (AK a0) 0)with
 |true=>some (0,())
 |false=>match rem? a1 (AK a0)with|none=>none|some x0=>match idx a0 x0 with|none=>none|some x1=>some (x1,())
def AkP[Lk]:=fun v=>Lk.f (AO7 v)
theorem Ab9 v:AkP v=AO7 v:=AJ _
abbrev AO6:AE:=[(.tmp 0,.dat Vd),(.tmp 1,.di)]
abbrev AO5:AE:=[(.tmp 0,.dat Vd)]
abbrev AO4:List RS:=[.one]
def AA5[Lk]:U1→Option (U9):=fun(a0,a1,_)=>
 match(ilt a1 0)with
 |true=>some (0,())
 |false=>match(ilt 31 a1)with
 |true=>some (0,())
 |false=>match shr? .u32 a0 (IntKind.wrap .u64 a1)with|none=>none|some x0=>some ((IntKind.wrap .u32 ((BitVec.ofInt (IntKind.bits .u32) x0 &&& BitVec.ofInt (IntKind.bits .u32) 1).toNat)),())
def AUf[Lk]:=fun v=>Lk.f (AA5 v)
theorem AUe v:AUf v=AA5 v:=AJ _
abbrev Q7:AE:=[(.tmp 0,.dat Vd)]
abbrev Q6:AE:=[(.tmp 0,.di)]
abbrev Q5:List RS:=[.one]
abbrev ZY:AE:=[(.tmp 0,.dat Vd),(.tmp 3,.di)]
abbrev ZX:An:=[(.exit 0,[(.tmp 3,.di)])]
def CB[Lk]:U1→Option (U1⊕U9⊕Unit):=fun(a0,a1,_)=>
 match(ilt a1 8)with
 |true=>match AUf (a0,(IntKind.wrap .i64 (a1-1)),())with|none=>none|some (y0,_)=>match(ieq y0 0)with
  |true=>some (.inl (a0,(IntKind.wrap .i64 (a1+1)),()))
  |false=>some (.inr (.inl (a1,())))
 |false=>some (.inr (.inl (a1,())))
def L3[Lk]:U9→Option (U9):=fun(a0,_)=>
 match AU CB many (a0,1,())with|none=>none|some r=>match r with
 |.inl (o0,_)=>some (o0,())
 |.inr _=>none
def Ny[Lk]:=fun v=>Lk.f (L3 v)
theorem ZZ v:Ny v=L3 v:=AJ _
abbrev Nw:AE:=[(.tmp 0,.dat U3),(.tmp 1,.dat (.slice Vd))]
abbrev Nv:AE:=[(.tmp 0,.own 3 U0)]
abbrev Nu:List RS:=[.one]
abbrev S6:AE:=[(.tmp 0,.dat U3),(.tmp 1,.dat (.slice Vd)),(.tmp 5,.own 3 U0),(.tmp 6,.di)]
abbrev S5:An:=[(.exit 0,[(.tmp 5,.own 3 U0)])]
def DA[Lk]:(List Int×List Int×List Int×Int×Unit)→Option ((List Int×List Int×List Int×Int×Unit)⊕Un⊕Unit):=fun(a0,a1,a2,a3,_)=>
 match(ilt a3 (AK a0))with
 |true=>match idx a0 a3 with|none=>none|some x0=>match(ile 0 x0)with
  |true=>match idx a0 a3 with|none=>none|some x1=>match AkP (a1,x1,())with|none=>none|some (y2,_)=>match Ny (y2,())with|none=>none|some (y3,_)=>match(fits ((AK a2)+(AK ([y3]:List (Int)))))with
   |true=>some (.inl (a0,a1,(A1 a2 ([y3]:List (Int))),(IntKind.wrap .i64 (a3+1)),()))
   |false=>none
  |false=>match(fits ((AK a2)+(AK ([1]:List (Int)))))with
  |true=>some (.inl (a0,a1,(A1 a2 ([1]:List (Int))),(IntKind.wrap .i64 (a3+1)),()))
  |false=>none
 |false=>some (.inr (.inl (a2,())))
def JO[Lk]:V4→Option (Un):=fun(a0,a1,_)=>
 match AU DA many (a0,a1,([]:List (Int)),0,())with|none=>none|some r=>match r with
 |.inl (o0,_)=>some (o0,())
 |.inr _=>none
def Kl[Lk]:=fun v=>Lk.f (JO v)
theorem S7 v:Kl v=JO v:=AJ _
abbrev X3:AE:=[(.tmp 0,.dat U3),(.tmp 1,.dat U3)]
abbrev X2:AE:=[(.tmp 0,.own 3 U0),(.tmp 1,.own 3 U0),(.tmp 2,.own 43 U3),(.tmp 3,.di)]
abbrev X1:List RS:=[.agg 3,.one]
abbrev AGe:AE:=[(.tmp 1,.dat U3),(.tmp 4,.box 3),(.cell 0 0,.nil U0),(.cell 0 1,.nil U0),(.cell 0 2,.nil U3),(.tmp 6,.di),(.tmp 8,.box 3),(.cell 1 0,.own 3 U0),(.cell 1 1,.own 3 U0),(.cell 1 2,.own 43 U3),(.tmp 9,.di),(.tmp 10,.own 3 U0),(.tmp 11,.di),(.tmp 12,.di)]
abbrev AGa:An:=[(.exit 6,[(.tmp 1,.dat U3),(.tmp 4,.box 3),(.cell 0 0,.nil U0),(.cell 0 1,.nil U0),(.cell 0 2,.nil U3),(.tmp 6,.di),(.tmp 8,.box 3),(.cell 1 0,.own 3 U0),(.cell 1 1,.own 3 U0),(.cell 1 2,.own 43 U3),(.tmp 9,.di),(.tmp 10,.own 3 U0),(.tmp 11,.di),(.tmp 12,.di)])]
def El[Lk]:V7→Option (V7⊕V7⊕Unit):=fun(a0,a1,a2,a3,a4,a5,a6,a7,a8,_)=>
 match rem? (IntKind.wrap .i64 (a5+a8)) a1 with|none=>none|some x0=>match idx a0 x0 with|none=>none|some x1=>match(ile x1 a7)with
 |true=>some (.inl (a0,a1,a2,a3,a4,a5,a6,a7,(IntKind.wrap .i64 (a8+1)),()))
 |false=>some (.inr (.inl (a0,a1,a2,a3,a4,a5,a6,a7,a8,())))
abbrev AGf:AE:=[(.tmp 1,.dat U3),(.tmp 4,.box 3),(.cell 0 0,.nil U0),(.cell 0 1,.nil U0),(.cell 0 2,.nil U3),(.tmp 6,.di),(.tmp 8,.box 3),(.cell 1 0,.own 3 U0),(.cell 1 1,.own 3 U0),(.cell 1 2,.own 43 U3),(.tmp 9,.di),(.tmp 10,.own 3 U0),(.tmp 11,.di)]
abbrev AGb:An:=[(.exit 4,[(.tmp 1,.dat U3),(.tmp 4,.box 3),(.cell 0 0,.nil U0),(.cell 0 1,.nil U0),(.cell 0 2,.nil U3),(.tmp 6,.di),(.tmp 8,.box 3),(.cell 1 0,.own 3 U0),(.cell 1 1,.own 3 U0),(.cell 1 2,.own 43 U3),(.tmp 9,.di),(.tmp 10,.own 3 U0)])]
def Dn[Lk]:(List Int×Int×List Int×List Int×List U4×Int×List Int×Int×Unit)→Option ((List Int×Int×List Int×List Int×List U4×Int×List Int×Int×Unit)⊕(List Int×Int×List Int×List Int×List U4×Int×List Int×Unit)⊕Unit):=fun(a0,a1,a2,a3,a4,a5,a6,a7,_)=>
 match idx a0 a5 with|none=>none|some x0=>match(ilt a7 x0)with
 |true=>match AU El many (a0,a1,a2,a3,a4,a5,a6,a7,1,())with|none=>none|some r=>match r with
  |.inl (o1,o2,o3,o4,o5,o6,o7,o8,o9,_)=>match rem? (IntKind.wrap .i64 (o6+o9)) o2 with|none=>none|some x10=>match(fits ((AK o7)+(AK ([x10]:List (Int)))))with
   |true=>some (.inl (o1,o2,o3,o4,o5,o6,(A1 o7 ([x10]:List (Int))),(IntKind.wrap .i64 (o8+1)),()))
   |false=>none
  |.inr _=>none
 |false=>some (.inr (.inl (a0,a1,a2,a3,a4,a5,a6,())))
abbrev AGg:AE:=[(.tmp 1,.dat U3),(.tmp 4,.box 3),(.cell 0 0,.nil U0),(.cell 0 1,.nil U0),(.cell 0 2,.nil U3),(.tmp 6,.di),(.tmp 8,.box 3),(.cell 1 0,.own 3 U0),(.cell 1 1,.own 3 U0),(.cell 1 2,.own 43 U3),(.tmp 9,.di)]
abbrev AGc:An:=[(.exit 2,[(.tmp 4,.box 3),(.cell 0 0,.nil U0),(.cell 0 1,.nil U0),(.cell 0 2,.nil U3),(.tmp 8,.box 3),(.cell 1 0,.own 3 U0),(.cell 1 1,.own 3 U0),(.cell 1 2,.own 43 U3)])]
def Em[Lk]:(List Int×Int×List Int×List Int×List U4×Int×Unit)→Option ((List Int×Int×List Int×List Int×List U4×Int×Unit)⊕(List Int×List Int×List U4×Unit)⊕Unit):=fun(a0,a1,a2,a3,a4,a5,_)=>
 match(ilt a5 a1)with
 |true=>match AU Dn many (a0,a1,a2,a3,a4,a5,([]:List (Int)),0,())with|none=>none|some r=>match r with
  |.inl (o0,o1,o2,o3,o4,o5,o6,_)=>match(fits ((AK o4)+(AK ([o6]:List U4))))with
   |true=>some (.inl (o0,o1,o2,o3,(A1 o4 ([o6]:List U4)),(IntKind.wrap .i64 (o5+1)),()))
   |false=>none
  |.inr _=>none
 |false=>some (.inr (.inl (a2,a3,a4,())))
abbrev AGh:AE:=[(.tmp 0,.dat U3),(.tmp 1,.dat U3),(.tmp 4,.box 3),(.cell 0 0,.nil U0),(.cell 0 1,.nil U0),(.cell 0 2,.nil U3),(.tmp 6,.di),(.tmp 7,.di)]
abbrev AGd:An:=[(.ret,[(.tmp 4,.box 3),(.cell 0 0,.nil U0),(.cell 0 1,.nil U0),(.cell 0 2,.nil U3),(.tmp 5,.di)]),(.exit 0,[(.tmp 0,.dat U3),(.tmp 1,.dat U3),(.tmp 4,.box 3),(.cell 0 0,.nil U0),(.cell 0 1,.nil U0),(.cell 0 2,.nil U3),(.tmp 6,.di)])]
def En[Lk]:Vf→Option (Vf⊕U9⊕(List Int×List Int×Int×Unit)⊕Unit):=fun(a0,a1,a2,a3,_)=>
 match(ilt a3 a2)with
 |true=>match idx a1 a3 with|none=>none|some x0=>match(ilt x0 1)with
  |true=>some (.inr (.inl (1,())))
  |false=>match idx a1 a3 with|none=>none|some x1=>match(ilt 8 x1)with
  |true=>some (.inr (.inl (1,())))
  |false=>some (.inl (a0,a1,a2,(IntKind.wrap .i64 (a3+1)),()))
 |false=>some (.inr (.inr (.inl (a0,a1,a2,()))))
def PL[Lk]:V4→Option ((List Int×List Int×List U4×Int×Unit)):=fun(a0,a1,_)=>
 match HS (a0,())with|none=>none|some (y0,_)=>match(!y0)with
 |true=>some (([]:List (Int)),([]:List (Int)),([]:List U4),1,())
 |false=>match(ieq (AK a0) 0)with
 |true=>some (([]:List (Int)),([]:List (Int)),([]:List U4),1,())
 |false=>match(!(ieq (AK a1) (AK a0)))with
 |true=>some (([]:List (Int)),([]:List (Int)),([]:List U4),1,())
 |false=>match AU En many (a0,a1,(AK a0),0,())with|none=>none|some r=>match r with
 |.inl (o1,_)=>some (([]:List (Int)),([]:List (Int)),([]:List U4),o1,())
 |.inr r=>match r with
 |.inl (o2,o3,o4,_)=>match(fits ((AK ([]:List (Int)))+(AK o2)))with
  |true=>match(fits ((AK ([]:List (Int)))+(AK o3)))with
   |true=>match AU Em many (o3,o4,(A1 ([]:List (Int)) o2),(A1 ([]:List (Int)) o3),([]:List U4),0,())with|none=>none|some r=>match r with
    |.inl (o5,o6,o7,_)=>some (o5,o6,o7,0,())
    |.inr _=>none
   |false=>none
  |false=>none
 |.inr _=>none
def PM[Lk]:=fun v=>Lk.f (PL v)
theorem AGi v:PM v=PL v:=AJ _
abbrev ACh:AE:=[(.tmp 0,.dat Uq),(.tmp 1,.dat Uq)]
abbrev ACg:AE:=[(.tmp 0,.dat .bool)]
abbrev ACf:List RS:=[.one]
def NJ[Lk]:(Us×Us×Unit)→Option (Uf):=fun(a0,a1,_)=>
 match IN (a0.1,a1.1,())with|none=>none|some (y0,_)=>match y0 with
 |true=>match IN (a0.2.1,a1.2.1,())with|none=>none|some (y1,_)=>match y1 with
  |true=>match Lf (a0.2.2.1,a1.2.2.1,())with|none=>none|some (y2,_)=>some (y2,())
  |false=>some (false,())
 |false=>some (false,())
def Qb[Lk]:=fun v=>Lk.f (NJ v)
theorem Vu v:Qb v=NJ v:=AJ _
abbrev WE:AE:=[(.tmp 0,.dat Uq)]
abbrev WD:AE:=[(.tmp 0,.dat .bool)]
abbrev WC:List RS:=[.one]
def Ow[Lk]:(Us×Unit)→Option (Uf):=fun(a0,_)=>
 match PM (a0.1,a0.2.1,())with|none=>none|some (y0,y1,y2,y3,_)=>match(ieq y3 0)with
 |true=>match Qb ((y0,(y1,(y2,()))),(a0.1,(a0.2.1,(a0.2.2.1,()))),())with|none=>none|some (y4,_)=>some (y4,())
 |false=>some (false,())
def SO[Lk]:=fun v=>Lk.f (Ow v)
theorem ADA v:SO v=Ow v:=AJ _
abbrev ANh:AE:=[(.tmp 0,.di)]
abbrev ANg:AE:=[(.tmp 0,.dat .bool)]
abbrev ANf:List RS:=[.one]
def AAx[Lk]:U9→Option (Uf):=fun(a0,_)=>
 match(ile (-1073741824:Int) a0)with
 |true=>some ((ile a0 1073741824),())
 |false=>some (false,())
def ASv[Lk]:=fun v=>Lk.f (AAx v)
theorem ASu v:ASv v=AAx v:=AJ _
abbrev X0:AE:=[(.tmp 0,.dat Uq),(.tmp 1,.dat U3)]
abbrev Xz:AE:=[(.tmp 0,.own 43 U3),(.tmp 1,.di)]
abbrev Xy:List RS:=[.one,.one]
abbrev AGV:AE:=[(.tmp 1,.dat U3),(.tmp 2,.box 3),(.cell 0 0,.dat U3),(.cell 0 1,.dat U3),(.cell 0 2,.dat Ua),(.tmp 6,.di),(.tmp 8,.own 43 U3),(.tmp 9,.di),(.tmp 10,.own 3 U0),(.tmp 11,.di),(.tmp 12,.di),(.tmp 13,.di)]
abbrev AGR:An:=[(.exit 6,[(.tmp 1,.dat U3),(.tmp 2,.box 3),(.cell 0 0,.dat U3),(.cell 0 1,.dat U3),(.cell 0 2,.dat Ua),(.tmp 6,.di),(.tmp 8,.own 43 U3),(.tmp 9,.di),(.tmp 10,.own 3 U0),(.tmp 11,.di),(.tmp 12,.di)])]
def Ei[Lk]:Vl→Option (Vl⊕(List Int×List Int×List Int×List U4×Int×List U4×Int×List Int×Int×Int×Unit)⊕Unit):=fun(a0,a1,a2,a3,a4,a5,a6,a7,a8,a9,a10,_)=>
 match idx a3 a6 with|none=>none|some x0=>match idx x0 a8 with|none=>none|some x1=>match(!(ieq a10 x1))with
 |true=>match idx a0 a10 with|none=>none|some x2=>match rem? (IntKind.wrap .i64 (a10+1)) a4 with|none=>none|some x3=>some (.inl (a0,a1,a2,a3,a4,a5,a6,a7,a8,(IntKind.wrap .i64 (a9+x2)),x3,()))
 |false=>some (.inr (.inl (a0,a1,a2,a3,a4,a5,a6,a7,a8,a9,())))
abbrev AGW:AE:=[(.tmp 1,.dat U3),(.tmp 2,.box 3),(.cell 0 0,.dat U3),(.cell 0 1,.dat U3),(.cell 0 2,.dat Ua),(.tmp 6,.di),(.tmp 8,.own 43 U3),(.tmp 9,.di),(.tmp 10,.own 3 U0),(.tmp 11,.di)]
abbrev AGS:An:=[(.exit 4,[(.tmp 1,.dat U3),(.tmp 2,.box 3),(.cell 0 0,.dat U3),(.cell 0 1,.dat U3),(.cell 0 2,.dat Ua),(.tmp 6,.di),(.tmp 8,.own 43 U3),(.tmp 9,.di),(.tmp 10,.own 3 U0)])]
def Dm[Lk]:(List Int×List Int×List Int×List U4×Int×List U4×Int×List Int×Int×Unit)→Option ((List Int×List Int×List Int×List U4×Int×List U4×Int×List Int×Int×Unit)⊕(List Int×List Int×List Int×List U4×Int×List U4×Int×List Int×Unit)⊕Unit):=fun(a0,a1,a2,a3,a4,a5,a6,a7,a8,_)=>
 match idx a3 a6 with|none=>none|some x0=>match(ilt a8 (AK x0))with
 |true=>match idx a0 a6 with|none=>none|some x1=>match rem? (IntKind.wrap .i64 (a6+1)) a4 with|none=>none|some x2=>match AU Ei many (a0,a1,a2,a3,a4,a5,a6,a7,a8,x1,x2,())with|none=>none|some r=>match r with
  |.inl (o3,o4,o5,o6,o7,o8,o9,o10,o11,o12,_)=>match(fits ((AK o10)+(AK ([o12]:List (Int)))))with
   |true=>some (.inl (o3,o4,o5,o6,o7,o8,o9,(A1 o10 ([o12]:List (Int))),(IntKind.wrap .i64 (o11+1)),()))
   |false=>none
  |.inr _=>none
 |false=>some (.inr (.inl (a0,a1,a2,a3,a4,a5,a6,a7,())))
abbrev AGX:AE:=[(.tmp 1,.dat U3),(.tmp 2,.box 3),(.cell 0 0,.dat U3),(.cell 0 1,.dat U3),(.cell 0 2,.dat Ua),(.tmp 6,.di),(.tmp 8,.own 43 U3),(.tmp 9,.di)]
abbrev AGT:An:=[(.exit 2,[(.tmp 8,.own 43 U3)])]
def Ej[Lk]:(List Int×List Int×List Int×List U4×Int×List U4×Int×Unit)→Option ((List Int×List Int×List Int×List U4×Int×List U4×Int×Unit)⊕Ul⊕Unit):=fun(a0,a1,a2,a3,a4,a5,a6,_)=>
 match(ilt a6 a4)with
 |true=>match AU Dm many (a0,a1,a2,a3,a4,a5,a6,([]:List (Int)),0,())with|none=>none|some r=>match r with
  |.inl (o0,o1,o2,o3,o4,o5,o6,o7,_)=>match(fits ((AK o5)+(AK ([o7]:List U4))))with
   |true=>some (.inl (o0,o1,o2,o3,o4,(A1 o5 ([o7]:List U4)),(IntKind.wrap .i64 (o6+1)),()))
   |false=>none
  |.inr _=>none
 |false=>some (.inr (.inl (a5,())))
abbrev AGY:AE:=[(.tmp 1,.dat U3),(.tmp 2,.box 3),(.cell 0 0,.dat U3),(.cell 0 1,.dat U3),(.cell 0 2,.dat Ua),(.tmp 6,.di),(.tmp 7,.di)]
abbrev AGU:An:=[(.ret,[(.tmp 4,.nil U3),(.tmp 5,.di)]),(.exit 0,[(.tmp 1,.dat U3),(.tmp 2,.box 3),(.cell 0 0,.dat U3),(.cell 0 1,.dat U3),(.cell 0 2,.dat Ua),(.tmp 6,.di)])]
def Ek[Lk]:(List Int×List Int×List Int×List U4×Int×Int×Unit)→Option ((List Int×List Int×List Int×List U4×Int×Int×Unit)⊕U9⊕(List Int×List Int×List Int×List U4×Int×Unit)⊕Unit):=fun(a0,a1,a2,a3,a4,a5,_)=>
 match(ilt a5 a4)with
 |true=>match idx a0 a5 with|none=>none|some x0=>match ASv (x0,())with|none=>none|some (y1,_)=>match(!y1)with
  |true=>some (.inr (.inl (1,())))
  |false=>some (.inl (a0,a1,a2,a3,a4,(IntKind.wrap .i64 (a5+1)),()))
 |false=>some (.inr (.inr (.inl (a0,a1,a2,a3,a4,()))))
def PK[Lk]:(Us×List Int×Unit)→Option (V3):=fun(a0,a1,_)=>
 match SO ((a0.1,(a0.2.1,(a0.2.2.1,()))),())with|none=>none|some (y0,_)=>match(!y0)with
 |true=>some (([]:List U4),1,())
 |false=>match(!(ieq (AK a1) (AK a0.1)))with
 |true=>some (([]:List U4),1,())
 |false=>match AU Ek many (a1,a0.1,a0.2.1,a0.2.2.1,(AK a0.1),0,())with|none=>none|some r=>match r with
 |.inl (o1,_)=>some (([]:List U4),o1,())
 |.inr r=>match r with
 |.inl (o2,o3,o4,o5,o6,_)=>match AU Ej many (o2,o3,o4,o5,o6,([]:List U4),0,())with|none=>none|some r=>match r with
  |.inl (o7,_)=>some (o7,0,())
  |.inr _=>none
 |.inr _=>none
def Te[Lk]:=fun v=>Lk.f (PK v)
theorem AGZ v:Te v=PK v:=AJ _
abbrev AEb:AE:=[(.tmp 0,.dat Uq),(.tmp 1,.dat (.slice .bool))]
abbrev AEa:AE:=[(.tmp 0,.own 43 U3),(.tmp 1,.di)]
abbrev AEZ:List RS:=[.one,.one]
abbrev AKD:AE:=[(.tmp 1,.dat (.slice .bool)),(.tmp 2,.box 3),(.cell 0 0,.dat U3),(.cell 0 1,.dat U3),(.cell 0 2,.dat Ua),(.tmp 6,.own 3 U0),(.tmp 7,.di)]
abbrev AKC:An:=[(.exit 0,[(.tmp 2,.box 3),(.cell 0 0,.dat U3),(.cell 0 1,.dat U3),(.cell 0 2,.dat Ua),(.tmp 6,.own 3 U0)])]
def F5[Lk]:(List Bool×List Int×List Int×List U4×List Int×Int×Unit)→Option ((List Bool×List Int×List Int×List U4×List Int×Int×Unit)⊕(List Int×List Int×List U4×List Int×Unit)⊕Unit):=fun(a0,a1,a2,a3,a4,a5,_)=>
 match(ilt a5 (AK a0))with
 |true=>match idx a0 a5 with|none=>none|some x0=>match x0 with
  |true=>match idx a4 a5 with|none=>none|some x1=>some (.inl (a0,a1,a2,a3,(BB a4 (AO a5) 1),(IntKind.wrap .i64 (a5+1)),()))
  |false=>some (.inl (a0,a1,a2,a3,a4,(IntKind.wrap .i64 (a5+1)),()))
 |false=>some (.inr (.inl (a1,a2,a3,a4,())))
def Sj[Lk]:(Us×List Bool×Unit)→Option (V3):=fun(a0,a1,_)=>
 match(DM (AK a1)&&DM (AK a1)&&ile (AK a1) (AK a1)&&true)with
 |true=>match AU F5 many (a1,a0.1,a0.2.1,a0.2.2.1,(D6 (AO (AK a1)) (0:Int)),(0:Int),())with|none=>none|some r=>match r with
  |.inl (o0,o1,o2,o3,_)=>match Te ((o0,(o1,(o2,()))),o3,())with|none=>none|some (y4,y5,_)=>some (y4,y5,())
  |.inr _=>none
 |false=>none
def AEd[Lk]:=fun v=>Lk.f (Sj v)
theorem AKE v:AEd v=Sj v:=AJ _
abbrev X9:AE:=[(.tmp 0,.dat Up),(.tmp 1,.di)]
abbrev X8:AE:=[(.tmp 0,.di)]
abbrev X7:List RS:=[.one]
def Ho[Lk]:(Uo×Int×Unit)→Option (U9):=fun(a0,a1,_)=>
 match FF ((a0.1,(a0.2.1,())),())with|none=>none|some (y0,_)=>match(!y0)with
 |true=>some (1,())
 |false=>match(ilt a1 0)with
 |true=>some (10,())
 |false=>match(ile a0.1 a1)with
 |true=>some (10,())
 |false=>some (0,())
def HX[Lk]:=fun v=>Lk.f (Ho v)
theorem MK v:HX v=Ho v:=AJ _
abbrev AB4:AE:=[(.tmp 0,.dat Up),(.tmp 1,.di),(.tmp 2,.di)]
abbrev AB3:AE:=[(.tmp 0,.dat U3)]
abbrev AB2:List RS:=[.one]
def R7[Lk]:Vg→Option (Un):=fun(a0,a1,a2,_)=>
 match Nz ((a0.1,(a0.2.1,())),a2,())with|none=>none|some (y0,y1,_)=>match Aip ((y0.1,(y0.2.1,())),a1,())with|none=>none|some (y2,_)=>match(ilt y2 0)with
 |true=>some (([]:List (Int)),())
 |false=>match idx y0.2.1 y2 with|none=>none|some x3=>some (x3,())
def QJ[Lk]:=fun v=>Lk.f (R7 v)
theorem AJR v:QJ v=R7 v:=AJ _
abbrev NZ:AE:=[(.tmp 0,.dat (.prod U0 (.prod U0 (.prod U0 (.prod .bool .unit))))),(.tmp 1,.di)]
abbrev NY:AE:=[(.tmp 0,.dat .bool)]
abbrev NW:List RS:=[.one]
def JB[Lk]:(U6×Int×Unit)→Option (Uf):=fun(a0,a1,_)=>
 match(!a0.2.2.2.1)with
 |true=>some ((ieq a0.2.2.1 a1),())
 |false=>some (false,())
def Kc[Lk]:=fun v=>Lk.f (JB v)
theorem Sd v:Kc v=JB v:=AJ _
abbrev Qn:AE:=[(.tmp 0,.dat Up),(.tmp 1,.di),(.tmp 2,.di)]
abbrev Qm:AE:=[(.tmp 0,.dat .bool)]
abbrev Ql:List RS:=[.one]
abbrev ZQ:AE:=[(.tmp 1,.di),(.tmp 2,.di),(.tmp 3,.box 2),(.cell 0 0,.di),(.cell 0 1,.dat U5),(.tmp 7,.di)]
abbrev ZP:An:=[(.ret,[(.tmp 6,.dat .bool)]),(.exit 0,[])]
def Df[Lk]:(Int×Int×Int×List U6×Int×Unit)→Option ((Int×Int×Int×List U6×Int×Unit)⊕Uf⊕(Unit)⊕Unit):=fun(a0,a1,a2,a3,a4,_)=>
 match(ilt a4 (AK a3))with
 |true=>match idx a3 a4 with|none=>none|some x0=>match Kc ((x0.1,(x0.2.1,(x0.2.2.1,(x0.2.2.2.1,())))),a1,())with|none=>none|some (y1,_)=>match y1 with
  |true=>match idx a3 a4 with|none=>none|some x2=>match(ieq x2.1 a0)with
   |true=>some (.inr (.inl (true,())))
   |false=>match idx a3 a4 with|none=>none|some x3=>match(ieq x3.2.1 a0)with
   |true=>some (.inr (.inl (true,())))
   |false=>some (.inl (a0,a1,a2,a3,(IntKind.wrap .i64 (a4+1)),()))
  |false=>some (.inl (a0,a1,a2,a3,(IntKind.wrap .i64 (a4+1)),()))
 |false=>some (.inr (.inr (.inl ())))
def Lc[Lk]:Vg→Option (Uf):=fun(a0,a1,a2,_)=>
 match AU Df many (a1,a2,a0.1,a0.2.1,0,())with|none=>none|some r=>match r with
 |.inl (o0,_)=>some (o0,())
 |.inr r=>match r with
 |.inl _=>some (false,())
 |.inr _=>none
def Nd[Lk]:=fun v=>Lk.f (Lc v)
theorem ZR v:Nd v=Lc v:=AJ _
abbrev VP:AE:=[(.tmp 0,.dat Up),(.tmp 1,.di),(.tmp 2,.di),(.tmp 3,.dat (.slice Vd))]
abbrev VO:AE:=[(.tmp 0,.dat Uq),(.tmp 1,.own 43 U3),(.tmp 2,.di)]
abbrev VN:List RS:=[.one,.one,.one]
abbrev AB1:AE:=[(.tmp 2,.di),(.tmp 4,.box 2),(.cell 0 0,.di),(.cell 0 1,.dat U5),(.tmp 8,.box 3),(.cell 1 0,.nil U0),(.cell 1 1,.nil U0),(.cell 1 2,.nil U3),(.tmp 12,.dat U3),(.tmp 13,.box 3),(.cell 2 0,.own 3 U0),(.cell 2 1,.own 3 U0),(.cell 2 2,.own 43 U3),(.tmp 15,.own 4 .bool),(.tmp 16,.di)]
abbrev AB0:An:=[(.exit 0,[(.tmp 8,.box 3),(.cell 0 0,.nil U0),(.cell 0 1,.nil U0),(.cell 0 2,.nil U3),(.tmp 13,.box 3),(.cell 1 0,.own 3 U0),(.cell 1 1,.own 3 U0),(.cell 1 2,.own 43 U3),(.tmp 15,.own 4 .bool)])]
def ET[Lk]:(Int×Int×List U6×List Int×List Int×List Int×List U4×List Bool×Int×Unit)→Option ((Int×Int×List U6×List Int×List Int×List Int×List U4×List Bool×Int×Unit)⊕(List Int×List Int×List U4×List Bool×Unit)⊕Unit):=fun(a0,a1,a2,a3,a4,a5,a6,a7,a8,_)=>
 match(ilt a8 (AK a3))with
 |true=>match idx a3 a8 with|none=>none|some x0=>match(ilt x0 a1)with
  |true=>match idx a3 a8 with|none=>none|some x1=>match Nd ((a1,(a2,())),x1,a0,())with|none=>none|some (y2,_)=>match(fits ((AK a7)+(AK ([y2]:List (Bool)))))with
   |true=>some (.inl (a0,a1,a2,a3,a4,a5,a6,(A1 a7 ([y2]:List (Bool))),(IntKind.wrap .i64 (a8+1)),()))
   |false=>none
  |false=>match(fits ((AK a7)+(AK ([false]:List (Bool)))))with
  |true=>some (.inl (a0,a1,a2,a3,a4,a5,a6,(A1 a7 ([false]:List (Bool))),(IntKind.wrap .i64 (a8+1)),()))
  |false=>none
 |false=>some (.inr (.inl (a4,a5,a6,a7,())))
def KQ[Lk]:(Uo×Int×Int×List Int×Unit)→Option ((Us×List U4×Int×Unit)):=fun(a0,a1,a2,a3,_)=>
 match HX ((a0.1,(a0.2.1,())),a1,())with|none=>none|some (y0,_)=>match(!(ieq y0 0))with
 |true=>some ((([]:List (Int)),(([]:List (Int)),(([]:List U4),()))),([]:List U4),y0,())
 |false=>match QJ ((a0.1,(a0.2.1,())),a1,a2,())with|none=>none|some (y1,_)=>match Kl (y1,a3,())with|none=>none|some (y2,_)=>match PM (y1,y2,())with|none=>none|some (y3,y4,y5,y6,_)=>match AU ET many (a2,a0.1,a0.2.1,y1,y3,y4,y5,([]:List (Bool)),0,())with|none=>none|some r=>match r with
 |.inl (o7,o8,o9,o10,_)=>match AEd ((o7,(o8,(o9,()))),o10,())with|none=>none|some (y11,y12,_)=>some ((o7,(o8,(o9,()))),y11,y12,())
 |.inr _=>none
def Oj[Lk]:=fun v=>Lk.f (KQ v)
theorem QI v:Oj v=KQ v:=AJ _
abbrev YC:AE:=[]
abbrev YB:AE:=[(.tmp 0,.dat .bool)]
abbrev YA:List RS:=[.one]
def YD[Lk]:(Unit)→Option (Uf):=fun _=>
 match ACI ((5,(([(0,(1,(0,(true,())))),(0,(2,(0,(true,())))),(1,(2,(0,(false,())))),(1,(3,(0,(false,()))))]:List U6),())),2,0,())with|none=>none|some (y0,y1,_)=>match ACI ((5,(([(0,(1,(0,(true,())))),(0,(2,(0,(true,())))),(1,(2,(0,(false,())))),(1,(3,(0,(false,()))))]:List U6),())),3,0,())with|none=>none|some (y2,y3,_)=>match ACI ((5,(([(0,(1,(0,(true,())))),(0,(2,(0,(true,())))),(1,(2,(0,(false,())))),(1,(3,(0,(false,()))))]:List U6),())),4,0,())with|none=>none|some (y4,y5,_)=>match AhI ((5,(([(0,(1,(0,(true,())))),(0,(2,(0,(true,())))),(1,(2,(0,(false,())))),(1,(3,(0,(false,()))))]:List U6),())),0,0,())with|none=>none|some (y6,y7,_)=>match AL3 ((5,(([(0,(1,(0,(true,())))),(0,(2,(0,(true,())))),(1,(2,(0,(false,())))),(1,(3,(0,(false,()))))]:List U6),())),0,0,1,())with|none=>none|some (y8,y9,_)=>match QM ((5,(([(0,(1,(0,(true,())))),(0,(2,(0,(true,())))),(1,(2,(0,(false,())))),(1,(3,(0,(false,()))))]:List U6),())),1,0,([1]:List (Int)),())with|none=>none|some (y10,y11,y12,_)=>match ACI ((5,(([(0,(1,(0,(true,())))),(0,(2,(0,(true,())))),(1,(2,(0,(false,())))),(1,(3,(0,(false,()))))]:List U6),())),5,0,())with|none=>none|some (y13,y14,_)=>match AhI ((0,(([]:List U6),())),0,0,())with|none=>none|some (y15,y16,_)=>match(!(ieq y1 0))with
 |true=>some (false,())
 |false=>match(!(ieq y3 0))with
 |true=>some (false,())
 |false=>match(!(ieq y5 0))with
 |true=>some (false,())
 |false=>match(!(ieq y7 0))with
 |true=>some (false,())
 |false=>match(!(ieq y9 0))with
 |true=>some (false,())
 |false=>match(!(ieq y12 0))with
 |true=>some (false,())
 |false=>match(!(ieq y14 10))with
 |true=>some (false,())
 |false=>match(!(ieq y16 1))with
 |true=>some (false,())
 |false=>match(!(ieq (AK y11) 7))with
 |true=>some (false,())
 |false=>match((y0.1==true)&&(ieq y0.2.1.1 1&&(ieq y0.2.1.2.1 3&&(ieq y0.2.2.1 2&&(ieq y0.2.2.2.1 2&&true)))))with
 |true=>match((y2.1==true)&&(ieq y2.2.1.1 1&&(ieq y2.2.1.2.1 3&&(ieq y2.2.2.1 1&&(ieq y2.2.2.2.1 1&&true)))))with
  |true=>match((y4.1==false)&&(ieq y4.2.1.1 0&&(ieq y4.2.1.2.1 0&&(ieq y4.2.2.1 0&&(ieq y4.2.2.2.1 0&&true)))))with
   |true=>match ACn (y6,([(1,(3,()))]:List U1),())with|none=>none|some (y17,_)=>match y17 with
    |true=>match ACn (y8,([(1,(2,()))]:List U1),())with|none=>none|some (y18,_)=>match y18 with
     |true=>match IN (y10.1,([0,7,2,15,6,1,10]:List (Int)),())with|none=>none|some (y19,_)=>match y19 with
      |true=>match idx y11 2 with|none=>none|some x20=>match IN (x20,([1]:List (Int)),())with|none=>none|some (y21,_)=>match y21 with
       |true=>match idx y11 5 with|none=>none|some x22=>match IN (x22,([1]:List (Int)),())with|none=>none|some (y23,_)=>match y23 with
        |true=>match idx y11 0 with|none=>none|some x24=>match IN (x24,([0]:List (Int)),())with|none=>none|some (y25,_)=>some (y25,())
        |false=>some (false,())
       |false=>some (false,())
      |false=>some (false,())
     |false=>some (false,())
    |false=>some (false,())
   |false=>some (false,())
  |false=>some (false,())
 |false=>some (false,())
def Jb[Lk]:=fun v=>Lk.f (YD v)
theorem AaM v:Jb v=YD v:=AJ _
abbrev XX:AE:=[(.tmp 0,.dat Up)]
abbrev XW:AE:=[(.tmp 0,.dat .bool)]
abbrev XV:List RS:=[.one]
def PC[Lk]:(Uo×Unit)→Option (Uf):=fun(a0,_)=>
 match(ilt 30 (AK a0.2.1))with
 |true=>some (true,())
 |false=>some ((ilt 12 a0.1),())
def PD[Lk]:=fun v=>Lk.f (PC v)
theorem AFX v:PD v=PC v:=AJ _
abbrev LK:AE:=[(.tmp 0,.dat Up),(.tmp 1,.dat (.arr 2 U0)),(.tmp 2,.dat (.slice Vd))]
abbrev LJ:AE:=[(.tmp 0,.dat .bool)]
abbrev LI:List RS:=[.one]
def HQ[Lk]:(Uo×List Int×List Int×Unit)→Option (Uf):=fun(a0,a1,a2,_)=>
 match Jb ()with|none=>none|some (y0,_)=>match(!y0)with
 |true=>some (false,())
 |false=>match PD ((a0.1,(a0.2.1,())),())with|none=>none|some (y1,_)=>match y1 with
 |true=>some (true,())
 |false=>match QM ((a0.1,(a0.2.1,())),(Ac a1 0 0),(Ac a1 1 0),a2,())with|none=>none|some (y2,y3,y4,_)=>match Oj ((a0.1,(a0.2.1,())),(Ac a1 0 0),(Ac a1 1 0),a2,())with|none=>none|some (y5,y6,y7,_)=>match Qb ((y2.1,(y2.2.1,(y2.2.2.1,()))),(y5.1,(y5.2.1,(y5.2.2.1,()))),())with|none=>none|some (y8,_)=>match y8 with
 |true=>match Lf (y3,y6,())with|none=>none|some (y9,_)=>match y9 with
  |true=>some ((ieq y4 y7),())
  |false=>some (false,())
 |false=>some (false,())
def Fq[Lk]:=fun v=>Lk.f (HQ v)
theorem Pp v:Fq v=HQ v:=AJ _
end
end Go.Pev
end
section
namespace Go.Pev
noncomputable section
attribute [local irreducible] Py L6 Pe Po AjN AjO AjP WL ADG ACR AAG MJ Ab many IntKind.wrap AK BB Ac A1 B0 DS D6 AO CL Cp imax AS Ah
end
end Go.Pev
end
section

end
section
namespace Go.Pev.Pl
theorem Ai{n:Int}(h:-9223372036854775808≤n∧n≤9223372036854775807):IntKind.wrap .i64 n=n:=IntWalk.i64_in n h
section
variable {α:Type} [Inhabited α]
theorem A7{d:Array α}{n:Nat}(h:n<d.size):idx d.toList (n:Int)=some d[n]! := by
 rw[idx_eq,Pe,Aor (by omega)]
 simp[h]
theorem Ba{d:Array α}{n:Nat}{z:α}(h:n<d.size):Ac d.toList (AO (n:Int)) z=d[n]! := by
 simp[Ac,AO,h]
theorem JV{d:Array α}{n:Nat}{x:α}:BB d.toList (AO (n:Int)) x=(d.setIfInBounds n x).toList:=by
 simp[BB,AO]
theorem Ab5{d:Array α}:AK d.toList=(d.size:Int):=by simp[AK]
theorem KS(d:Array α)(i j:Nat):(d.setIfInBounds i d[j]!).setIfInBounds j d[i]! = Go.Sort.swp d i j:=rfl
theorem size_swp(d:Array α)(i j:Nat):(Go.Sort.swp d i j).size=d.size:=by simp[Go.Sort.swp]
end
theorem AP(a b:Nat):ilt (a:Int) (b:Int)=decide (a<b):=by rw[Af];simp
theorem Cg(a b:Nat):ile (a:Int) (b:Int)=decide (a≤b):=by rw[Ar];simp
theorem AN4(a b:Nat):ieq (a:Int) (b:Int)=decide (a=b):=by
 rw[B4]
 by_cases h:a=b
 ·simp[h]
 ·simp[h];omega
section
theorem wrap_add{a b:Nat}(h:a+b<9223372036854775808):IntKind.wrap .i64 ((a:Int)+(b:Int))=((a+b:Nat):Int):=by rw[Ai (by omega)];omega
theorem AQ{a:Nat}(h:a+1<9223372036854775808):IntKind.wrap .i64 ((a:Int)+1)=((a+1:Nat):Int):=by rw[Ai (by omega)];omega
theorem AI5{a:Nat}(h:2*a<9223372036854775808):IntKind.wrap .i64 ((2:Int)*(a:Int))=((2*a:Nat):Int):=by rw[Ai (by omega)];omega
theorem AcN{a:Nat}(h:a<9223372036854775808):IntKind.wrap .i64 ((a:Int)*1)=((a*1:Nat):Int):=by rw[Ai (by omega)];omega
theorem Od{a:Nat}(h:a*2<9223372036854775808):IntKind.wrap .i64 ((a:Int)*2)=((a*2:Nat):Int):=by rw[Ai (by omega)];omega
theorem AcM{a:Nat}(h:a*3<9223372036854775808):IntKind.wrap .i64 ((a:Int)*3)=((a*3:Nat):Int):=by rw[Ai (by omega)];omega
theorem DX{a b:Nat}(h:b≤a∧a<9223372036854775808):IntKind.wrap .i64 ((a:Int)-(b:Int))=((a-b:Nat):Int):=by rw[Ai (by omega)];omega
theorem BC{a:Nat}(h:1≤a∧a<9223372036854775808):IntKind.wrap .i64 ((a:Int)-1)=((a-1:Nat):Int):=by rw[Ai (by omega)];omega
theorem AoI{a:Nat}(h:a<9223372036854775808):quo? .i64 (a:Int) 2=some ((a/2:Nat):Int):=by
 rw[WK,WL,Aor (by omega),Aqe (by omega),Ai (by omega)];rfl
theorem Aa9{a:Nat}(h:a<9223372036854775808):quo? .i64 (a:Int) 4=some ((a/4:Nat):Int):=by
 rw[WK,WL,Aor (by omega),Aqe (by omega),Ai (by omega)];rfl
theorem AoH{a:Nat}(h:a<9223372036854775808):quo? .i64 (a:Int) 8=some ((a/8:Nat):Int):=by
 rw[WK,WL,Aor (by omega),Aqe (by omega),Ai (by omega)];rfl
end
end Go.Pev.Pl
end
section
namespace Go.Pev.Pl
section
variable {α:Type}
theorem By{xs:List α}{n:Nat}(z:α)(h:n<xs.length):idx xs (n:Int)=some (xs.getD n z):=by
 rw[idx_eq,Pe,Aor (by omega)]
 simp[h]
theorem AjQ{xs:List α}{n:Nat}(h:n<xs.length):∃ x,idx xs (n:Int)=some x:=by
 rw[idx_eq,Pe,Aor (by omega)]
 exact⟨xs[n],by simp[h]⟩
theorem AA0(xs:List α)(n:Nat):idx xs (n:Int)=xs[n]? := by
 rw[idx_eq,Pe,Aor (by omega)]
 simp
theorem Gz(xs:List α):idx xs (0:Int)=xs.head? := by
 rw[idx_eq,Pe,Aor (by omega)]
 cases xs<;>rfl
theorem Ib(xs:List α)(n:Nat)(z:α):Ac xs (AO (n:Int)) z=xs.getD n z:=by simp[Ac,AO]
theorem N5(xs:List α)(n:Nat)(x:α):BB xs (AO (n:Int)) x=xs.set n x:=by simp[BB,AO]
theorem AM(xs:List α):AK xs=(xs.length:Int):=rfl
theorem Ia(n:Nat):AO (n:Int)=n:=by simp[AO]
theorem DC(xs ys:List α):A1 xs ys=xs++ys:=rfl
theorem ALu{xs:List α}{l h:Nat}(h1:l≤h)(h2:h≤xs.length):Cj xs (l:Int) (h:Int)=some ((xs.take h).drop l):=by
 rw[AAq,Po,Aoq (by omega)]
 simp
end
theorem BK{n:Int}(h:n≤4294967296):fits n=true:=(FT n).2 h
theorem RW{α:Type}{xs:List α}(h:xs.length≤4294967296):RX xs=some xs:=by
 rw[AKg,MJ,(Xa _).2 (by rw[AM];omega)]
theorem AFJ{α β:Type}(xs:List α)(ys:List β):ieq (AK xs) (AK ys)=decide (xs.length=ys.length):=by rw[AM,AM,AN4]
theorem Au(a b:Int):ieq a b=decide (a=b):=by
 rw[B4]
 by_cases h:a=b<;>simp[h]
def walk{α β ρ:Type}(f:β→α→α⊕ρ)(fin:α→ρ):List β→α→ρ
 |[],a=>fin a
 |x::xs,a=>match f x a with
  |.inl a=>walk f fin xs a
  |.inr r=>r
theorem AcP{σ ρ α β:Type}{step:σ→Option (σ⊕ρ)}(st:Nat→α→σ)(xs:List β)(f:β→α→α⊕ρ)(fin:α→ρ)(I:Nat→α→Prop)
  (h:∀ i x a,i<xs.length→xs[i]? = some x→I i a→(∀ a',f x a = .inl a'→step (st i a)=some (.inl (st (i+1) a'))∧I (i+1) a')∧(∀ r,f x a = .inr r→step (st i a)=some (.inr r)))
  (hN:∀ a,I xs.length a→step (st xs.length a)=some (.inr (fin a))) :
  ∀ (m i n:Nat) (a:α),xs.length-i=m→i≤xs.length→m<n→I i a→Ab step n (st i a)=some (walk f fin (xs.drop i) a):=by
 intro m
 induction m with
 |zero=>
  intro i n a hk hi hn hI
  obtain⟨n,rfl⟩:∃ k,n=k+1:=⟨n-1,by omega⟩
  have e:i=xs.length:=by omega
  subst e
  rw[Ab,hN a hI,List.drop_length]
  rfl
 |succ m ih=>
  intro i n a hk hi hn hI
  obtain⟨n,rfl⟩:∃ k,n=k+1:=⟨n-1,by omega⟩
  have hi':i<xs.length:=by omega
  obtain⟨g1,g2⟩:=h i xs[i] a hi' (by simp[hi']) hI
  rw[Apc hi',walk,Ab]
  cases hf:f xs[i] a with
  |inl a'=>
   obtain⟨e,hI'⟩:=g1 a' hf
   rw[e]
   exact ih (i+1) n a' (by omega) (by omega) (by omega) hI'
  |inr r=>rw[g2 r hf]
theorem Bx{σ ρ α β:Type}{step:σ→Option (σ⊕ρ)}(st:Nat→α→σ)(xs:List β)(f:β→α→α⊕ρ)(fin:α→ρ)(I:Nat→α→Prop)(hs:xs.length<9223372036854775808)
  (h:∀ i x a,i<xs.length→xs[i]? = some x→I i a→(∀ a',f x a = .inl a'→step (st i a)=some (.inl (st (i+1) a'))∧I (i+1) a')∧(∀ r,f x a = .inr r→step (st i a)=some (.inr r)))
  (hN:∀ a,I xs.length a→step (st xs.length a)=some (.inr (fin a))) (a:α) (h0:I 0 a):AU step many (st 0 a)=some (walk f fin xs a):=by
 have hm:9223372036854775808<many:=by simp only[many];omega
 rw[Av,AcP st xs f fin I h hN xs.length 0 many a (by omega) (by omega) (by omega) h0]
 rfl
theorem CX{α:Type}{xs ys:List α}(z:α)(hl:xs.length=ys.length)(h:∀ j,j<xs.length→xs.getD j z=ys.getD j z):xs=ys:=by
 apply Ars hl
 intro i h1 h2
 have:=h i h1
 simpa [h1,h2]using this
theorem ZN{α:Type}{xs ys:List α}(z:α){j:Nat}(h:xs.getD j z≠ys.getD j z):xs≠ys:=fun e=>h (by rw[e])
theorem AdK{σ ρ:Type}{step:σ→Option (σ⊕ρ)}(st:Nat→σ)(N:Nat)(P:Nat→Bool)(rt:Nat→ρ)(rf:ρ)
  (h:∀ i,i<N→step (st i)=if P i then some (.inr (rt i))else some (.inl (st (i+1)))) (hN:step (st N)=some (.inr rf)) :
  ∀ (m i n:Nat),N-i=m→i≤N→m<n→(∃ k,i≤k∧k<N∧P k=true∧(∀ j,i≤j→j<k→P j=false)∧Ab step n (st i)=some (rt k))∨((∀ j,i≤j→j<N→P j=false)∧Ab step n (st i)=some rf):=by
 intro m
 induction m with
 |zero=>
  intro i n hk hi hn
  obtain⟨n,rfl⟩:∃ k,n=k+1:=⟨n-1,by omega⟩
  have e:i=N:=by omega
  subst e
  exact .inr ⟨fun j h1 h2=>by omega,by rw[Ab,hN]⟩
 |succ m ih=>
  intro i n hk hi hn
  obtain⟨n,rfl⟩:∃ k,n=k+1:=⟨n-1,by omega⟩
  have hi':i<N:=by omega
  cases hP:P i
  ·have e:Ab step (n+1) (st i)=Ab step n (st (i+1)):=by rw[Ab,h i hi',hP];rfl
   rw[e]
   rcases ih (i+1) n (by omega) (by omega) (by omega)with⟨k,h1,h2,h3,h4,h5⟩|⟨h1,h2⟩
   ·refine .inl ⟨k,by omega,h2,h3,fun j a1 a2 => ?_,h5⟩
    by_cases ej:j=i
    ·subst ej;exact hP
    ·exact h4 j (by omega) a2
   ·refine .inr ⟨fun j a1 a2 => ?_,h2⟩
    by_cases ej:j=i
    ·subst ej;exact hP
    ·exact h1 j (by omega) a2
  ·exact .inl ⟨i,Aop _,hi',hP,fun j a1 a2=>by omega,by rw[Ab,h i hi',hP];rfl⟩
theorem AQr{σ ρ:Type}{step:σ→Option (σ⊕ρ)}(st:Nat→σ)(N:Nat)(P:Nat→Bool)(rt:Nat→ρ)(rf:ρ)(hs:N<9223372036854775808)
  (h:∀ i,i<N→step (st i)=if P i then some (.inr (rt i))else some (.inl (st (i+1)))) (hN:step (st N)=some (.inr rf)) :
  (∃ k,k<N∧P k=true∧(∀ j,j<k→P j=false)∧AU step many (st 0)=some (rt k))∨((∀ j,j<N→P j=false)∧AU step many (st 0)=some rf):=by
 have hm:9223372036854775808<many:=by simp only[many];omega
 rw[Av]
 rcases AdK st N P rt rf h hN N 0 many rfl (by omega) (by omega)with⟨k,h1,h2,h3,h4,h5⟩|⟨h1,h2⟩
 ·exact .inl ⟨k,h2,h3,fun j a=>h4 j (by omega) a,h5⟩
 ·exact .inr ⟨fun j a=>h1 j (by omega) a,h2⟩
end Go.Pev.Pl
end
section
namespace Go.Pev.Pl
inductive Tok where
 |ver (v:Int)
 |arc (u v:Int)
 deriving DecidableEq
namespace Tok
def st:Tok→Int
 |.ver v=>v
 |.arc _ v=>v
def step(s:List Int×List Int):Tok→Option (List Int×List Int)
 |.ver v=>match s.1 with
  |w::_=>if w=v then some s else none
  |[]=>none
 |.arc u v=>match s.1 with
  |w::r=>if w=u then match r with
    |p::r'=>if p=v then some (p::r',s.2)else if v∈s.2 then none else some (v::w::r,v::s.2)
    |[]=>if v∈s.2 then none else some (v::w::r,v::s.2)
   else none
  |[]=>none
def run:List Int×List Int→List Tok→Option (List Int×List Int)
 |s,[]=>some s
 |s,t::l=>match step s t with
  |some s=>run s l
  |none=>none
theorem Da(s:List Int×List Int)(a b:List Tok):run s (a++b)=(run s a).bind fun s=>run s b:=by
 induction a generalizing s with
 |nil=>rfl
 |cons t a ih=>
  simp only[ApE,run]
  cases step s t with
  |none=>rfl
  |some s=>exact ih s
theorem B1{s s':List Int×List Int}{t:Tok}(h:step s t=some s'):
  (∃ v r,t = .ver v∧s.1=v::r∧s'=s) ∨
  (∃ u v r,t = .arc u v∧s.1=u::v::r∧s'=(v::r,s.2)) ∨
  (∃ u v r,t = .arc u v∧s.1=u::r∧r.head?≠some v∧v∉s.2∧s'=(v::u::r,v::s.2)):=by
 obtain⟨way,c⟩:=s
 cases t with
 |ver v=>
  cases way with
  |nil=>simp[step]at h
  |cons w r=>
   simp only[step]at h
   split at h
   ·rename_i e;cases h;exact .inl ⟨v,r,rfl,by simp[e],rfl⟩
   ·cases h
 |arc u v=>
  cases way with
  |nil=>simp[step]at h
  |cons w r=>
   simp only[step]at h
   split at h
   ·rename_i e
    subst e
    cases r with
    |nil=>
     simp only at h
     split at h
     ·cases h
     ·rename_i hc;cases h;exact .inr (.inr ⟨w,v,[],rfl,rfl,by simp,hc,rfl⟩)
    |cons p r=>
     simp only at h
     split at h
     ·rename_i e;subst e;cases h;exact .inr (.inl ⟨w,p,r,rfl,rfl,rfl⟩)
     ·split at h
      ·cases h
      ·rename_i e hc;cases h;exact .inr (.inr ⟨w,v,p::r,rfl,rfl,by simpa using e,hc,rfl⟩)
   ·cases h
theorem DZ(v:Int)(r c:List Int):step (v::r,c) (.ver v)=some (v::r,c):=by simp[step]
theorem Gs(u v:Int)(r c:List Int):step (u::v::r,c) (.arc u v)=some (v::r,c):=by simp[step]
theorem Fp(u v:Int)(r c:List Int)(h1:r.head?≠some v)(h2:v∉c):step (u::r,c) (.arc u v)=some (v::u::r,v::c):=by
 cases r with
 |nil=>simp[step,h2]
 |cons p r=>
  have:p≠v:=by simpa using h1
  simp[step,h2,this]
def Inv(s:List Int×List Int):Prop:=s.1.Nodup∧(∀ x∈s.1,x∈s.2)
theorem ACF{s s':List Int×List Int}{t:Tok}(h:step s t=some s')(hi:Inv s):Inv s'∧(∀ x∈s.2,x∈s'.2)∧s'.1.head? = some t.st:=by
 obtain⟨way,c⟩:=s
 obtain⟨h1,h2⟩:=hi
 rcases B1 h with⟨v,r,rfl,hw,rfl⟩|⟨u,v,r,rfl,hw,rfl⟩|⟨u,v,r,rfl,hw,_,hn,rfl⟩
 ·exact⟨⟨h1,h2⟩,fun x hx=>hx,by rw[hw];rfl⟩
 ·simp only at hw h1 h2
  subst hw
  refine⟨⟨?_,?_⟩,fun x hx=>hx,rfl⟩
  ·exact(ApJ.1 h1).2
  ·intro x hx;exact h2 x (by simp only at hx;simp[Aoo.1 hx])
 ·simp only at hw h1 h2 hn
  subst hw
  refine⟨⟨?_,?_⟩,fun x hx=>by simp[hx],rfl⟩
  ·exact ApJ.2 ⟨fun hm=>hn (h2 _ hm),h1⟩
  ·intro x hx
   rcases Aoo.1 hx with rfl|hx
   ·simp
   ·exact Ao7 _ (h2 x hx)
theorem I7{l:List Tok}:∀ {s s':List Int×List Int},run s l=some s'→Inv s→Inv s'∧(∀ x∈s.2,x∈s'.2)∧∀ t,l.getLast? = some t→s'.1.head? = some t.st:=by
 induction l with
 |nil=>intro s s' h hi;cases h;exact⟨hi,fun x hx=>hx,fun t ht=>by simp at ht⟩
 |cons t l ih=>
  intro s s' h hi
  simp only[run]at h
  split at h
  ·rename_i s1 h1
   obtain⟨q1,q2,q3⟩:=ACF h1 hi
   obtain⟨p1,p2,p3⟩:=ih h q1
   refine⟨p1,fun x hx=>p2 x (q2 x hx),fun t' ht' => ?_⟩
   cases l with
   |nil=>simp at ht';subst ht';simp only[run]at h;cases h;exact q3
   |cons y l=>exact p3 t' (by rw[Ari]at ht';exact ht')
  ·cases h
theorem Hg{Z:Int→Prop}:∀ {l:List Tok} {way way' c d c2 low:List Int},run (way,c) l=some (way',d)→way≠[]→(∀ x,x∈c2↔x∈c∨Z x) →
  (∀ u v,.arc u v∈l→¬ Z v)→(∀ y∈low,Z y)→∃ d2,run (way++low,c2) l=some (way'++low,d2)∧(∀ x,x∈d2↔x∈d∨Z x):=by
 intro l
 induction l with
 |nil=>intro way way' c d c2 low h _ hc _ _;cases h;exact⟨c2,rfl,hc⟩
 |cons t l ih=>
  intro way way' c d c2 low h hne hc hz hl
  simp only[run]at h
  split at h
  ·rename_i s1 h1
   have hz':∀ u v,Tok.arc u v∈l→¬ Z v:=fun u v hm=>hz u v (Ao7 _ hm)
   rcases B1 h1 with⟨v,r,rfl,hw,rfl⟩|⟨u,v,r,rfl,hw,rfl⟩|⟨u,v,r,rfl,hw,hh,hn,rfl⟩
   ·simp only at hw
    subst hw
    obtain⟨d2,e1,e2⟩:=ih h hne hc hz' hl
    exact⟨d2,by simp only[run,ApE,DZ];exact e1,e2⟩
   ·simp only at hw
    subst hw
    obtain⟨d2,e1,e2⟩:=ih h (by simp) hc hz' hl
    exact⟨d2,by simp only[run,ApE,Gs];exact e1,e2⟩
   ·simp only at hw hn
    subst hw
    have hzv:=hz u v (by simp)
    have hn2:v∉c2:=by rw[hc];rintro (h|h);exact hn h;exact hzv h
    have hh2:(r++low).head?≠some v:=by
     cases r with
     |nil=>
      cases low with
      |nil=>simp
      |cons y low=>
       simp only[ApI,List.head?_cons,ne_eq,Aoh]
       rintro rfl
       exact hzv (hl _ (by simp))
     |cons p r=>simpa using hh
    obtain⟨d2,e1,e2⟩:=ih (c2:=v::c2) h (by simp) (by intro x;simp only[Aoo,hc,or_assoc]) hz' hl
    exact⟨d2,by simp only[run,ApE,Fp _ _ _ _ hh2 hn2];exact e1,e2⟩
  ·cases h
theorem ACq{z:Int}:∀ {l:List Tok} {way way' c2 d2 c:List Int},run (way,c2) l=some (way',d2)→z∉way→(∀ x,x∈c2↔x∈c∨x=z)→z∉c →
  .ver z∉l∧∃ d,run (way,c) l=some (way',d)∧(∀ x,x∈d2↔x∈d∨x=z)∧z∉d:=by
 intro l
 induction l with
 |nil=>intro way way' c2 d2 c h _ hc hz;cases h;exact⟨by simp,c,rfl,hc,hz⟩
 |cons t l ih=>
  intro way way' c2 d2 c h hzw hc hz
  simp only[run]at h
  split at h
  ·rename_i s1 h1
   rcases B1 h1 with⟨v,r,rfl,hw,rfl⟩|⟨u,v,r,rfl,hw,rfl⟩|⟨u,v,r,rfl,hw,hh,hn,rfl⟩
   ·simp only at hw
    subst hw
    obtain⟨e0,d,e1,e2,e3⟩:=ih h hzw hc hz
    refine⟨?_,d,by simp only[run,DZ];exact e1,e2,e3⟩
    rintro hm
    rcases Aoo.1 hm with hm|hm
    ·cases hm;exact hzw (by simp)
    ·exact e0 hm
   ·simp only at hw
    subst hw
    obtain⟨e0,d,e1,e2,e3⟩:=ih h (fun hm=>hzw (Ao7 _ hm)) hc hz
    refine⟨?_,d,by simp only[run,Gs];exact e1,e2,e3⟩
    rintro hm
    rcases Aoo.1 hm with hm|hm
    ·cases hm
    ·exact e0 hm
   ·simp only at hw hn
    subst hw
    have hvz:v≠z:=by rintro rfl;exact hn ((hc v).2 (.inr rfl))
    have hn':v∉c:=fun hm=>hn ((hc v).2 (.inl hm))
    obtain⟨e0,d,e1,e2,e3⟩:=ih (c:=v::c) h (by intro hm;rcases Aoo.1 hm with hm|hm;exact hvz hm.symm;exact hzw hm)
     (by intro x;simp only[Aoo,hc,or_assoc])
     (by intro hm;rcases Aoo.1 hm with hm|hm;exact hvz hm.symm;exact hz hm)
    refine⟨?_,d,by simp only[run,Fp _ _ _ _ hh hn'];exact e1,e2,e3⟩
    rintro hm
    rcases Aoo.1 hm with hm|hm
    ·cases hm
    ·exact e0 hm
  ·cases h
def Rot(a b:List Tok):Prop:=∃ x y,a=x++y∧b=y++x
theorem Rot.refl(a:List Tok):Rot a a:=⟨[],a,rfl,by simp⟩
theorem Rot.symm{a b:List Tok}(h:Rot a b):Rot b a:=by obtain⟨x,y,h1,h2⟩:=h;exact⟨y,x,h2,h1⟩
theorem Rot.trans{a b c:List Tok}(h:Rot a b)(g:Rot b c):Rot a c:=by
 obtain⟨x,y,rfl,h2⟩:=h
 obtain⟨z,w,h3,rfl⟩:=g
 rw[h2]at h3
 rcases List.append_eq_append_iff.1 h3 with⟨k,h4,h5⟩|⟨k,h4,h5⟩
 ·subst h4 h5
  exact⟨k,w++y,by simp,by simp⟩
 ·subst h4 h5
  exact⟨x++z,k,by simp,by simp⟩
theorem Rot.perm{a b:List Tok}(h:Rot a b):a.Perm b:=by
 obtain⟨x,y,rfl,rfl⟩:=h
 exact AqR
theorem Rot.mem{a b:List Tok}(h:Rot a b)(t:Tok):t∈a↔t∈b:=h.perm.mem_iff
theorem Rot.nodup{a b:List Tok}(h:Rot a b):a.Nodup↔b.Nodup:=h.perm.nodup_iff
theorem Rot.length{a b:List Tok}(h:Rot a b):a.length=b.length:=h.perm.length_eq
inductive T:List Tok→Prop
 |one (v:Int):T [.ver v]
 |add (x:Tok) (l:List Tok) (v:Int):T (x::l)→x.st≠v→.ver v∉x::l→T (x :: .arc x.st v :: .ver v :: .arc v x.st::l)
 |rot (a b:List Tok):T (a++b)→T (b++a)
theorem T.AXt{a b:List Tok}(h:T a)(r:Rot a b):T b:=by obtain⟨x,y,rfl,rfl⟩:=r;exact T.rot x y h
theorem T.facts{l:List Tok}(h:T l):l≠[]∧(∀ t∈l,.ver t.st∈l)∧(∀ u v,.arc u v∈l→.ver u∈l∧.ver v∈l∧.arc v u∈l∧u≠v):=by
 induction h with
 |one v=>exact⟨by simp,by simp[st],by simp⟩
 |add x l v h hne hv ih=>
  obtain⟨_,i2,i3⟩:=ih
  have hsub:∀ t,t∈x::l→t∈x::Tok.arc x.st v :: .ver v :: .arc v x.st::l:=by
   intro t ht
   rcases Aoo.1 ht with rfl|ht
   ·simp
   ·simp[ht]
  have hx:=hsub _ (i2 x (by simp))
  have cases3:∀ t,t∈x::Tok.arc x.st v :: .ver v :: .arc v x.st::l→t∈x::l∨t = .arc x.st v∨t = .ver v∨t = .arc v x.st:=by
   intro t ht
   simp only[Aoo]at ht ⊢
   rcases ht with h|h|h|h|h<;>simp[h]
  refine⟨by simp,fun t ht => ?_,fun a b hab => ?_⟩
  ·rcases cases3 t ht with h|rfl|rfl|rfl
   ·exact hsub _ (i2 t h)
   ·simp[st]
   ·simp[st]
   ·exact hx
  ·rcases cases3 _ hab with h|h|h|h
   ·obtain⟨p1,p2,p3,p4⟩:=i3 a b h
    exact⟨hsub _ p1,hsub _ p2,hsub _ p3,p4⟩
   ·cases h;exact⟨hx,by simp,by simp,hne⟩
   ·cases h
   ·cases h;exact⟨by simp,hx,by simp,ApN hne⟩
 |rot a b h ih=>
  obtain⟨i1,i2,i3⟩:=ih
  have hm:∀ t,t∈a++b↔t∈b++a:=fun t=>List.perm_append_comm.mem_iff
  refine⟨by intro e;simp only[List.append_eq_nil_iff]at e;exact i1 (by simp[e.1,e.2]),fun t ht=>(hm _).1 (i2 t ((hm _).2 ht)),fun u v huv => ?_⟩
  obtain⟨p1,p2,p3,p4⟩:=i3 u v ((hm _).2 huv)
  exact⟨(hm _).1 p1,(hm _).1 p2,(hm _).1 p3,p4⟩
theorem T.nodup{l:List Tok}(h:T l):l.Nodup:=by
 induction h with
 |one v=>simp
 |add x l v h hne hv ih=>
  obtain⟨_,_,f3⟩:=h.facts
  have h1:Tok.arc x.st v∉x::l:=fun hm=>hv (f3 _ _ hm).2.1
  have h2:Tok.arc v x.st∉x::l:=fun hm=>hv (f3 _ _ hm).1
  simp only[Aoo,not_or]at h1 h2 hv
  have ih':=ApJ.1 ih
  simp only[ApJ,Aoo,not_or]
  refine⟨⟨fun e=>h1.1 e.symm,fun e=>hv.1 e.symm,fun e=>h2.1 e.symm,ih'.1⟩,⟨by simp,?_,h1.2⟩,⟨by simp,hv.2⟩,h2.2,ih'.2⟩
  intro e
  simp only[Tok.arc.injEq]at e
  exact hne e.1
 |rot a b h ih=>exact(List.perm_append_comm.nodup_iff).1 ih
def C(l:List Tok):Prop:=∀ r,Rot l r→∀ t,r.getLast? = some t→∃ c,run ([t.st],[t.st]) r=some ([t.st],c)∧∀ x,x∈c↔.ver x∈l
end Tok
end Go.Pev.Pl
end
section
namespace Go.Pev.Pl.Tok
theorem getLast?_app{a b:List Tok}{t:Tok}(h:b.getLast? = some t):(a++b).getLast? = some t:=by
 rw[Aq5,h];rfl
theorem A3(s:List Int×List Int)(t:Tok)(l:List Tok):run s (t::l)=(step s t).bind fun s=>run s l:=by
 rw[run]
 cases step s t<;>rfl
theorem PS(v:Int):Inv ([v],[v]):=⟨by simp,by simp⟩
theorem T.toC{l:List Tok}(h:T l):C l:=by
 induction h with
 |one v=>
  intro r hr t ht
  have:r=[.ver v]:=List.perm_singleton.1 hr.perm.symm
  subst this
  simp at ht
  subst ht
  exact⟨[v],by simp[run,st,step],by simp⟩
 |rot a b h ih=>
  intro r hr t ht
  obtain⟨c,h1,h2⟩:=ih r (Rot.trans ⟨a,b,rfl,rfl⟩ hr) t ht
  exact⟨c,h1,fun x=>(h2 x).trans (List.perm_append_comm.mem_iff)⟩
 |add x l v h hne hv ih=>
  obtain⟨_,f2,f3⟩:=h.facts
  have hnz:∀ u w,Tok.arc u w∈x::l→¬ (w=v):=fun u w hm e=>hv (e▸(f3 u w hm).2.1)
  have fin:∀ {d2 c:List Int},(∀ y,y∈d2↔y∈c∨y=v)→(∀ y,y∈c↔.ver y∈x::l)→∀ y,y∈d2↔Tok.ver y∈x :: .arc x.st v :: .ver v :: .arc v x.st::l:=by
   intro d2 c e1 e2 y
   rw[e1,e2]
   simp only[Aoo,reduceCtorEq,false_or,Tok.ver.injEq]
   constructor
   ·rintro ((h|h)|h)<;>simp[h]
   ·rintro (h|h|h)<;>simp[h]
  have triple:∀ {w' c1:List Int},Inv (x.st::w',c1)→v∉c1→∀ p,run (x.st::w',c1) (.arc x.st v :: .ver v :: .arc v x.st::p)=run (x.st::w',v::c1) p:=by
   intro w' c1 hi hn p
   have hh:w'.head?≠some v:=by
    intro e
    exact hn (hi.2 v (Ao7 _ (List.mem_of_head? e)))
   rw[A3,Fp _ _ _ _ hh hn,ApQ,A3,DZ,ApQ,A3,Gs,ApQ]
  have G:∀ q1 p1,l=p1++q1→∀ t,(q1++x :: .arc x.st v :: .ver v :: .arc v x.st::p1).getLast? = some t→∃ c,run ([t.st],[t.st]) (q1++x :: .arc x.st v :: .ver v :: .arc v x.st::p1)=some ([t.st],c)∧∀ y,y∈c↔.ver y∈x :: .arc x.st v :: .ver v :: .arc v x.st::l:=by
   intro q1 p1 hl t ht
   have hrot:Rot (x::l) (q1++x::p1):=⟨x::p1,q1,by simp[hl],rfl⟩
   have ht0:∃ t0,(q1++x::p1).getLast? = some t0∧t0.st=t.st:=by
    cases p1 with
    |nil=>
     refine⟨x,getLast?_app (by simp),?_⟩
     rw[show q1++[x,Tok.arc x.st v,.ver v,.arc v x.st]=(q1++[x,Tok.arc x.st v,.ver v])++[Tok.arc v x.st] by simp,AqW]at ht
     cases ht;rfl
    |cons y p1=>
     refine⟨t,?_,rfl⟩
     rw[show q1++x::Tok.arc x.st v :: .ver v :: .arc v x.st::y::p1=(q1++[x,Tok.arc x.st v,.ver v,.arc v x.st])++y::p1 by simp,Aq5]at ht
     rw[show q1++x::y::p1=(q1++[x])++y::p1 by simp,Aq5]
     exact ht
   obtain⟨t0,e0,e1⟩:=ht0
   obtain⟨c,h1,h2⟩:=ih _ hrot t0 e0
   rw[e1,show q1++x::p1=(q1++[x])++p1 by simp,Da,ApO]at h1
   obtain⟨⟨w1,c1⟩,g1,g2⟩:=h1
   obtain⟨i1,i2,i3⟩:=I7 g1 (PS _)
   obtain⟨j1,j2,j3⟩:=I7 g2 i1
   have i3':=i3 x (by simp)
   simp only at i3'
   cases w1 with
   |nil=>simp at i3'
   |cons w0 w'=>
    simp at i3'
    subst i3'
    have hn:v∉c1:=fun hm=>hv ((h2 v).1 (j2 v hm))
    obtain⟨d2,k1,k2⟩:=Hg (Z:=(· = v)) (c2:=v::c1) (low:=[]) g2 (by simp) (fun y=>by simp[or_comm]) (fun u w hm=>hnz u w (by simp[hl,hm])) (by simp)
    refine⟨d2,?_,fin k2 h2⟩
    rw[show q1++x::Tok.arc x.st v :: .ver v :: .arc v x.st::p1=(q1++[x])++Tok.arc x.st v :: .ver v :: .arc v x.st::p1 by simp,Da,g1,ApQ,triple i1 hn]
    simpa using k1
  intro r hr t ht
  obtain⟨p,q,hpq,rfl⟩:=hr
  have base:∀ t0:Tok,(l++[x]).getLast? = some t0→t0=x:=fun t0 h=>by rw[AqW]at h;exact(Apr h).symm
  obtain⟨c,h1,h2⟩:=ih (l++[x]) ⟨[x],l,rfl,rfl⟩ x (by simp)
  match p with
  |[]=>
   simp only[ApI]at hpq
   subst hpq
   have:=G [] l (by simp) t (by simpa using ht)
   simpa using this
  |[y]=>
   simp only[ApE,ApI,Ao4]at hpq
   obtain⟨rfl,rfl⟩:=hpq
   have:t=x:=by
    rw[AqW]at ht
    exact(Apr ht).symm
   subst this
   have hn:v∉[t.st]:=by simp;exact ApN hne
   obtain⟨d2,k1,k2⟩:=Hg (Z:=(· = v)) (c2:=[v,t.st]) (low:=[]) h1 (by simp) (fun y=>by simp[or_comm]) (fun u w hm=>hnz u w (by simpa [or_comm]using hm)) (by simp)
   refine⟨d2,?_,fin k2 h2⟩
   rw[show(Tok.arc t.st v :: .ver v :: .arc v t.st::l)++[t]=Tok.arc t.st v :: .ver v :: .arc v t.st::(l++[t]) by simp,triple (PS _) hn]
   simpa using k1
  |[y,z]=>
   simp only[ApE,ApI,Ao4]at hpq
   obtain⟨rfl,rfl,rfl⟩:=hpq
   have:t = .arc x.st v:=by
    rw[show(Tok.ver v :: .arc v x.st::l)++[x,.arc x.st v]=(Tok.ver v :: .arc v x.st::l++[x])++[.arc x.st v] by simp,AqW]at ht
    exact(Apr ht).symm
   subst this
   obtain⟨d2,k1,k2⟩:=Hg (Z:=(· = v)) (c2:=[x.st,v]) (low:=[v]) h1 (by simp) (fun y=>by simp) (fun u w hm=>hnz u w (by simpa [or_comm]using hm)) (by simp)
   refine⟨d2,?_,fin k2 h2⟩
   rw[show(Tok.ver v :: .arc v x.st::l)++[x,.arc x.st v]=Tok.ver v :: .arc v x.st::((l++[x])++[.arc x.st v]) by simp]
   rw[A3]
   show(step ([v],[v]) _).bind _=_
   rw[DZ,ApQ,A3,Fp _ _ _ _ (by simp) (by simp;exact hne),ApQ,Da]
   rw[show([x.st]++[v]:List Int)=[x.st,v]from rfl]at k1
   rw[k1,ApQ,A3,Gs]
   rfl
  |[y,z,w]=>
   simp only[ApE,ApI,Ao4]at hpq
   obtain⟨rfl,rfl,rfl,rfl⟩:=hpq
   have:t = .ver v:=by
    rw[show(Tok.arc v x.st::l)++[x,.arc x.st v,.ver v]=(Tok.arc v x.st::l++[x,.arc x.st v])++[.ver v] by simp,AqW]at ht
    exact(Apr ht).symm
   subst this
   obtain⟨d2,k1,k2⟩:=Hg (Z:=(· = v)) (c2:=[x.st,v]) (low:=[v]) h1 (by simp) (fun y=>by simp) (fun u w hm=>hnz u w (by simpa [or_comm]using hm)) (by simp)
   refine⟨d2,?_,fin k2 h2⟩
   rw[show(Tok.arc v x.st::l)++[x,.arc x.st v,.ver v]=Tok.arc v x.st::((l++[x])++[.arc x.st v,.ver v]) by simp]
   rw[A3]
   show(step ([v],[v]) _).bind _=_
   rw[Fp _ _ _ _ (by simp) (by simp;exact hne),ApQ,Da]
   rw[show([x.st]++[v]:List Int)=[x.st,v]from rfl]at k1
   rw[k1,ApQ,A3,Gs,ApQ,A3,DZ]
   rfl
  |y::z::w::w2::p1=>
   simp only[ApE,Ao4]at hpq
   obtain⟨rfl,rfl,rfl,rfl,rfl⟩:=hpq
   exact G q p1 rfl t ht
def comp(P:List Tok):List Int→List Tok
 |[]=>[]
 |w::r=>(if .ver w∈P then []else [.ver w])++match r with
  |[]=>[]
  |p::_=>.arc w p::comp P r
theorem RU{P P':List Tok}:∀ {way:List Int},(∀ w∈way,(Tok.ver w∈P↔Tok.ver w∈P'))→comp P way=comp P' way:=by
 intro way
 induction way with
 |nil=>intro _;rfl
 |cons w r ih=>
  intro h
  have h1:=h w (by simp)
  have h2:=ih fun x hx=>h x (Ao7 _ hx)
  simp only[comp,h1,h2]
theorem Ajj:∀ (M P:List Tok) (way c c':List Int) (r:Int) (t0:Tok),run (way,c) M=some ([r],c')→Inv (way,c)→P.getLast? = some t0→way.head? = some t0.st →
  T (P++comp P way)→(∀ x,.ver x∈P++comp P way→x∈c)→(∀ x∈c',Tok.ver x∈P++M)→(P++M).Nodup→T (P++M):=by
 intro M
 induction M with
 |nil=>
  intro P way c c' r t0 h hi hl hh hT hc hc' hn
  cases h
  have:=hc' r (hi.2 r (by simp))
  rw[Apw]at this
  simpa [comp,this]using hT
 |cons t M ih=>
  intro P way c c' r t0 h hi hl hh hT hc hc' hn
  rw[A3,ApO]at h
  obtain⟨⟨w1,c1⟩,h1,h2⟩:=h
  obtain⟨hi1,hsub,hhd⟩:=ACF h1 hi
  have asso:P++t::M=(P++[t])++M:=by simp
  rw[asso]at hn hc' ⊢
  have hnt:t∉P:=by
   have:=(AqZ.1 (AqZ.1 hn).1)
   intro hm
   exact this.2.2 t hm t (by simp) rfl
  rcases B1 h1 with⟨v,rr,rfl,hw,e⟩|⟨u,v,rr,rfl,hw,e⟩|⟨u,v,rr,rfl,hw,hh2,hn2,e⟩
  ·cases e
   simp only at hw
   subst hw
   have key:comp P (v::rr) = .ver v::comp (P++[.ver v]) (v::rr):=by
    have e2:comp P rr=comp (P++[.ver v]) rr:=RU fun w hwm=>by
     have:w≠v:=by rintro rfl;exact(ApJ.1 hi.1).1 hwm
     simp[this]
    simp only[comp,hnt,e2]
    simp
   rw[key]at hT hc
   exact ih _ _ _ _ _ (.ver v) h2 hi1 (by simp) hhd (by simpa using hT) (fun x hx=>hc x (by simpa using hx)) hc' hn
  ·cases e
   simp only at hw
   subst hw
   have hu:Tok.ver u∈P:=by
    have hun:=(ApJ.1 hi.1).1
    obtain⟨g1,_⟩:=ACq (z:=u) (c:=c.filter (·≠u)) h2 hun (fun x=>by
     simp only[Apm,Aok]
     constructor
     ·intro h
      by_cases e:x=u
      ·exact .inr e
      ·exact .inl ⟨h,by simpa using e⟩
     ·rintro (h|rfl)
      ·exact h.1
      ·exact hi.2 x (by simp)) (by simp)
    have hmono:=(I7 h2 hi1).2.1 u (hi.2 u (by simp))
    have:=hc' u hmono
    simp only[Aom,ApB,reduceCtorEq,ArR]at this
    rcases this with h|h
    ·exact h
    ·exact absurd h g1
   have key:comp P (u::v::rr) = .arc u v::comp (P++[.arc u v]) (v::rr):=by
    have e2:comp P (v::rr)=comp (P++[.arc u v]) (v::rr):=RU fun w hwm=>by simp
    rw[← e2]
    simp only[comp,hu]
    simp
   rw[key]at hT hc
   exact ih _ _ _ _ _ (.arc u v) h2 hi1 (by simp) hhd (by simpa using hT) (fun x hx=>hc x (by simpa using hx)) hc' hn
  ·cases e
   simp only at hw hn2
   subst hw
   have hu:u=t0.st:=by simpa using hh
   subst hu
   have hvc:∀ x,Tok.ver x∈P++comp P (t0.st::rr)→x≠v:=by rintro x hx rfl;exact hn2 (hc x hx)
   have hvP:Tok.ver v∉P++comp P (t0.st::rr):=fun hm=>hvc v hm rfl
   have hvP':Tok.ver v∉P:=fun hm=>hvP (by simp[hm])
   have key:comp (P++[.arc t0.st v]) (v::t0.st::rr) = .ver v :: .arc v t0.st::comp P (t0.st::rr):=by
    have e2:comp (P++[.arc t0.st v]) (t0.st::rr)=comp P (t0.st::rr):=RU fun w hwm=>by simp
    rw[← e2]
    simp only[comp,Aom,hvP',ApB,reduceCtorEq,ArR,Ao3]
    rfl
   have hne:t0.st≠v:=by rintro e;exact hn2 (e▸hi.2 t0.st (by simp))
   refine ih _ _ _ _ _ (.arc t0.st v) h2 hi1 (by simp) hhd ?_ ?_ hc' hn
   ·rw[key]
    obtain⟨P0,rfl⟩:∃ P0,P=P0++[t0]:=List.getLast?_eq_some_iff.1 hl
    have hT1:T (t0::(comp (P0++[t0]) (t0.st::rr)++P0)):=hT.AXt ⟨P0,t0::comp (P0++[t0]) (t0.st::rr),by simp,by simp⟩
    have hT2:=T.add t0 _ v hT1 hne (by
     intro hm
     apply hvP
     simp only[Aom,Aoo,Aqi,ArR]at hm ⊢
     rcases hm with h|h|h<;>simp[h])
    exact hT2.AXt ⟨t0 :: .arc t0.st v :: .ver v :: .arc v t0.st::comp (P0++[t0]) (t0.st::rr),P0,by simp,by simp⟩
   ·intro x hx
    rw[key]at hx
    simp only[Aom,Aoo,Aqi,ArR,reduceCtorEq,Tok.ver.injEq,false_or]at hx
    rcases hx with h|h|h
    ·exact Ao7 _ (hc x (by simp[h]))
    ·simp[h]
    ·exact Ao7 _ (hc x (by simp[h]))
def Ap(l:List Tok):Prop:=∃ r l' c,l = .ver r::l'∧run ([r],[r]) l=some ([r],c)∧∀ x∈c,Tok.ver x∈l
theorem Ap.toT{l:List Tok}(h:Ap l)(hn:l.Nodup):T l:=by
 obtain⟨r,l',c,rfl,h1,h2⟩:=h
 rw[A3,DZ,ApQ]at h1
 have:=Ajj l' [.ver r] [r] [r] c r (.ver r) h1 (PS r) (by simp) (by simp[st]) (by simp[comp];exact T.one r) (by simp[comp]) (by simpa using h2) (by simpa using hn)
 simpa using this
theorem T.ALk{r:Int}{l:List Tok}(h:T (.ver r::l)):Ap (.ver r::l):=by
 obtain⟨t,ht⟩:∃ t,(Tok.ver r::l).getLast? = some t:=⟨_,ArG (by simp)⟩
 obtain⟨c,h1,h2⟩:=h.toC _ (Rot.refl _) t ht
 have h1':=h1
 rw[A3,ApO]at h1'
 obtain⟨s,g1,_⟩:=h1'
 have e:t.st=r:=by
  simp only[step]at g1
  split at g1
  ·assumption
  ·cases g1
 rw[e]at h1
 exact⟨r,l,c,rfl,h1,fun x hx=>(h2 x).1 hx⟩
end Go.Pev.Pl.Tok
end
section
namespace Go.Pev.Pl.Tok
theorem T.AUE{l:List Tok}(h:T l):∃ v r,Rot l (.ver v::r):=by
 obtain⟨f1,f2,_⟩:=h.facts
 obtain⟨t,ht⟩:=List.exists_mem_of_ne_nil l f1
 obtain⟨a,b,rfl⟩:=Arc (f2 t ht)
 exact⟨t.st,b++a,a,.ver t.st::b,rfl,rfl⟩
theorem T.less{x:Tok}{v:Int}{l:List Tok}(h:T (x :: .arc x.st v :: .ver v :: .arc v x.st::l)):T (x::l):=by
 have hC:=h.toC
 have hn:=h.nodup
 obtain⟨_,f2,f3⟩:=h.facts
 have hne:x.st≠v:=(f3 x.st v (by simp)).2.2.2
 have hvl:Tok.ver v∉l:=by
  intro hm
  simp only[ApJ,Aoo,not_or]at hn
  exact hn.2.2.1.2 hm
 have hvx:x≠.ver v:=by rintro rfl;exact hne rfl
 have key:∀ p q,l=p++q→∀ t0,(q++x::p).getLast? = some t0→∃ c,run ([t0.st],[t0.st]) (q++x::p)=some ([t0.st],c)∧∀ y,y∈c↔.ver y∈x::l:=by
  intro p q hl t0 ht0
  have hrot:Rot (x :: .arc x.st v :: .ver v :: .arc v x.st::l) (q++x :: .arc x.st v :: .ver v :: .arc v x.st::p):=⟨x :: .arc x.st v :: .ver v :: .arc v x.st::p,q,by simp[hl],rfl⟩
  have ht:∃ t,(q++x::Tok.arc x.st v :: .ver v :: .arc v x.st::p).getLast? = some t∧t.st=t0.st:=by
   cases p with
   |nil=>
    rw[AqW]at ht0
    cases ht0
    exact⟨.arc v x.st,by rw[show q++[x,Tok.arc x.st v,.ver v,.arc v x.st]=(q++[x,Tok.arc x.st v,.ver v])++[Tok.arc v x.st] by simp,AqW],rfl⟩
   |cons y p=>
    refine⟨t0,?_,rfl⟩
    rw[show q++x::Tok.arc x.st v :: .ver v :: .arc v x.st::y::p=(q++[x,Tok.arc x.st v,.ver v,.arc v x.st])++y::p by simp,Aq5]
    rw[show q++x::y::p=(q++[x])++y::p by simp,Aq5]at ht0
    exact ht0
  obtain⟨t,e0,e1⟩:=ht
  obtain⟨c,h1,h2⟩:=hC _ hrot t e0
  rw[e1,show q++x::Tok.arc x.st v :: .ver v :: .arc v x.st::p=(q++[x])++Tok.arc x.st v :: .ver v :: .arc v x.st::p by simp,Da,ApO]at h1
  obtain⟨⟨w1,c1⟩,g1,g2⟩:=h1
  obtain⟨i1,i2,i3⟩:=I7 g1 (PS _)
  have i3':=i3 x (by simp)
  simp only at i3'
  cases w1 with
  |nil=>simp at i3'
  |cons w0 w'=>
   simp at i3'
   subst i3'
   rw[A3,ApO]at g2
   obtain⟨s1,k1,k2⟩:=g2
   rcases B1 k1 with⟨v',r,e,_⟩|⟨u',v',r,e,hw,rfl⟩|⟨u',v',r,e,hw,hh,hnc,rfl⟩
   ·cases e
   ·cases e
    simp only[Ao4]at hw
    obtain⟨_,rfl⟩:=hw
    exfalso
    rw[A3,DZ,ApQ,A3,ApO]at k2
    obtain⟨s2,m1,_⟩:=k2
    have hnd:=i1.1
    rcases B1 m1 with⟨v',r',e,_⟩|⟨u',v',r',e,hw,rfl⟩|⟨u',v',r',e,hw,hh,hnc,rfl⟩
    ·cases e
    ·cases e
     simp only[Ao4]at hw
     obtain⟨_,rfl⟩:=hw
     simp at hnd
    ·cases e
     exact hnc (i1.2 _ (by simp))
   ·cases e
    simp only[Ao4,Aq2]at hw
    subst hw
    simp only at hnc
    rw[A3,DZ,ApQ,A3,Gs,ApQ]at k2
    have hvw:v∉x.st::w':=fun hm=>hnc (i1.2 v hm)
    obtain⟨_,d,m1,m2,m3⟩:=ACq (z:=v) (c:=c1) k2 hvw (fun y=>by simp[or_comm]) hnc
    refine⟨d,?_,fun y => ?_⟩
    ·rw[show q++x::p=(q++[x])++p by simp,Da,g1,ApQ,m1]
    ·have q1:=m2 y
     have q2:=h2 y
     by_cases e:y=v
     ·subst e
      refine⟨fun h=>absurd h m3,fun h => ?_⟩
      rcases Aoo.1 h with h|h
      ·exact absurd h.symm hvx
      ·exact absurd h hvl
     ·rw[q2]at q1
      simp only[e,ArR]at q1
      rw[← q1]
      simp[e]
 obtain⟨s,b,a,hsb⟩:∃ s a b,x::l=a ++ .ver s::b:=by
  have:=f2 x (by simp)
  simp only[Aoo,reduceCtorEq,false_or,Tok.ver.injEq,hne]at this
  rcases this with h|h
  ·exact⟨x.st,[],l,by rw[← h];rfl⟩
  ·obtain⟨a,b,rfl⟩:=Arc h
   exact⟨x.st,x::a,b,rfl⟩
 have hg:Ap (.ver s::a++b):=by
  have hr:∃ p q,l=p++q∧q++x::p = .ver s::a++b:=by
   cases b with
   |nil=>
    simp only[ApI,Ao4]at hsb
    obtain⟨rfl,rfl⟩:=hsb
    exact⟨l,[],by simp,by simp⟩
   |cons y b=>
    simp only[ApE,Ao4]at hsb
    obtain⟨rfl,rfl⟩:=hsb
    exact⟨b,.ver s::a,rfl,by simp⟩
  obtain⟨p,q,hl,e⟩:=hr
  obtain⟨t0,ht0⟩:∃ t0,(q++x::p).getLast? = some t0:=⟨_,ArG (by simp)⟩
  obtain⟨c,h1,h2⟩:=key p q hl t0 ht0
  rw[e]at h1
  have h1':=h1
  rw[ApE,A3,ApO]at h1'
  obtain⟨s',g1,_⟩:=h1'
  have e':t0.st=s:=by
   simp only[step]at g1
   split at g1
   ·assumption
   ·cases g1
  rw[e']at h1
  refine⟨s,a++b,c,rfl,h1,fun y hy => ?_⟩
  have:=(h2 y).1 hy
  rw[hsb]at this
  simp only[Aom,Aoo]at this ⊢
  rcases this with h|h|h<;>simp[h]
 have hrot2:Rot (.ver s::a++b) (x::l):=⟨.ver s::a,b,rfl,hsb⟩
 have hnx:(x::l).Nodup:=by
  simp only[ApJ,Aoo,not_or]at hn ⊢
  exact⟨hn.1.2.2.2,hn.2.2.2.2⟩
 exact(hg.toT (hrot2.nodup.2 hnx)).AXt hrot2
theorem T.leaf{l:List Tok}(h:T l):(∃ v,l=[.ver v])∨∃ x v r,Rot l (x :: .arc x.st v :: .ver v :: .arc v x.st::r):=by
 induction h with
 |one v=>exact .inl ⟨v,rfl⟩
 |add x l v h hne hv ih=>exact .inr ⟨x,v,l,Rot.refl _⟩
 |rot a b h ih=>
  rcases ih with⟨v,e⟩|⟨x,v,r,hr⟩
  ·have hr:Rot [.ver v] (b++a):=⟨a,b,e.symm,rfl⟩
   exact .inl ⟨v,List.perm_singleton.1 hr.perm.symm⟩
  ·exact .inr ⟨x,v,r,Rot.trans ⟨b,a,rfl,rfl⟩ hr⟩
def M4:List Tok→List Int
 |[]=>[]
 |.ver v::l=>v::M4 l
 |.arc _ _::l=>M4 l
theorem Si{v:Int}:∀ {l:List Tok},v∈M4 l↔.ver v∈l
 |[]=>by simp[M4]
 |.ver w::l=>by simp[M4,Si (l:=l)]
 |.arc _ _::l=>by simp[M4,Si (l:=l)]
theorem APk(a b:List Tok):M4 (a++b)=M4 a++M4 b:=by
 induction a with
 |nil=>rfl
 |cons t a ih=>cases t<;>simp[M4,ih]
theorem T.len{l:List Tok}(h:T l):l.length+2=3*(M4 l).length:=by
 induction h with
 |one v=>rfl
 |add x l v h hne hv ih=>
  cases x<;>simp[M4]at ih ⊢<;>omega
 |rot a b h ih=>
  simp only[APk,Aos]at ih ⊢
  omega
end Go.Pev.Pl.Tok
end
section
namespace Go.Pev.Pl
section
variable {β:Type}
def BI(es:List (Int×β)):List Int:=es.map Prod.fst
theorem XK(es:List (Int×β)):(BI es).length=es.length:=by simp[BI]
theorem Dz(es:List (Int×β))(k:Int)(v:β)(j:Int):AS (Ah es k v) j=if j=k then some v else AS es j:=by
 induction es with
 |nil=>
  simp only[Ah,AS]
  by_cases h:k=j
  ·simp[h]
  ·simp[h,ApN h]
 |cons e es ih=>
  obtain⟨a,b⟩:=e
  simp only[Ah]
  by_cases h:a=k
  ·subst h
   simp only[ApL,AS]
   by_cases h2:a=j
   ·simp[h2]
   ·simp[h2,ApN h2]
  ·simp only[h,Ao3,AS,ih]
   by_cases h2:a=j
   ·subst h2;simp[h]
   ·simp[h2]
theorem Qw(es:List (Int×β))(k:Int)(v:β):BI (Ah es k v)=if k∈BI es then BI es else BI es++[k]:=by
 induction es with
 |nil=>rfl
 |cons e es ih=>
  obtain⟨a,b⟩:=e
  simp only[Ah]
  by_cases h:a=k
  ·subst h;simp[BI]
  ·simp only[h,Ao3]
   show a::BI (Ah es k v)=_
   rw[ih]
   have:k∈BI ((a,b)::es)↔k∈BI es:=by simp[BI,ApN h]
   simp only[this]
   split<;>rfl
theorem ZT(es:List (Int×β))(k:Int):AS es k=none↔k∉BI es:=by
 induction es with
 |nil=>simp[AS,BI]
 |cons e es ih=>
  obtain⟨a,b⟩:=e
  simp only[AS]
  by_cases h:a=k
  ·simp[h,BI]
  ·simp only[h,Ao3,ih]
   simp[BI,ApN h]
theorem FL(es:List (Int×β))(k:Int)(v:β)(j:Int):j∈BI (Ah es k v)↔j=k∨j∈BI es:=by
 rw[Qw]
 split
 ·rename_i h
  constructor
  ·exact .inr
  ·rintro (rfl|h2)
   ·exact h
   ·exact h2
 ·simp[or_comm]
theorem Ke{es:List (Int×β)}(h:(BI es).Nodup)(k:Int)(v:β):(BI (Ah es k v)).Nodup:=by
 rw[Qw]
 split
 ·exact h
 ·rename_i hk
  rw[AqZ]
  exact⟨h,by simp,fun a ha b hb=>by rintro rfl;simp at hb;exact hk (hb▸ha)⟩
end
def dd:List Int→List Int→List Int
 |ks,[]=>ks
 |ks,x::xs=>dd (if x∈ks then ks else ks++[x]) xs
theorem Anw:∀ (xs ks:List Int),(dd ks xs).length≤ks.length+xs.length∧((dd ks xs).length=ks.length+xs.length↔xs.Nodup∧∀ x∈xs,x∉ks):=by
 intro xs
 induction xs with
 |nil=>intro ks;simp[dd]
 |cons x xs ih=>
  intro ks
  rw[dd]
  by_cases h:x∈ks
  ·obtain⟨h1,_⟩:=ih ks
   rw[Aoq h]
   refine⟨by simp only[Aot];omega,?_,fun hh=>absurd h (hh.2 x (by simp))⟩
   intro e
   simp only[Aot]at e
   omega
  ·obtain⟨h1,h2⟩:=ih (ks++[x])
   rw[Aor h]
   simp only[Aos,Aot,ApA,Aph]at h1 h2 ⊢
   refine⟨by omega,?_⟩
   rw[show ks.length+(xs.length+1)=ks.length+1+xs.length by omega,h2,ApJ]
   constructor
   ·rintro⟨g1,g2⟩
    refine⟨⟨fun hx=>g2 x hx (by simp),g1⟩,fun y hy => ?_⟩
    rcases Aoo.1 hy with rfl|hy
    ·exact h
    ·exact fun hk=>g2 y hy (by simp[hk])
   ·rintro⟨⟨g1,g2⟩,g3⟩
    refine⟨g2,fun y hy hk => ?_⟩
    simp only[Aom,ApB]at hk
    rcases hk with hk|rfl
    ·exact g3 y (by simp[hy]) hk
    ·exact g1 hy
theorem Aj7(xs:List Int):(dd [] xs).length=xs.length↔xs.Nodup:=by
 have:=(Anw xs []).2
 simpa using this
theorem A2{α β ρ:Type}(g:β→α→α)(fin:α→ρ):∀ (xs:List β) (a:α),walk (fun x a=>.inl (g x a)) fin xs a=fin (xs.foldl (fun a x=>g x a) a):=by
 intro xs
 induction xs with
 |nil=>intro a;rfl
 |cons x xs ih=>intro a;rw[walk,ApY];exact ih _
theorem Pz{σ ρ β:Type}{step:σ→Option (σ⊕ρ)}(st:Nat→σ)(xs:List β)(P:β→Bool)(rt:Nat→ρ)(rf:ρ)(hs:xs.length<9223372036854775808)
  (h:∀ i x,i<xs.length→xs[i]? = some x→step (st i)=if P x then some (.inr (rt i))else some (.inl (st (i+1)))) (hN:step (st xs.length)=some (.inr rf)) :
  AU step many (st 0)=some (if xs.any P then rt (xs.findIdx P)else rf):=by
 have key:∀ (l:List β) (a:Nat),walk (fun x (a:Nat)=>if P x then .inr (rt a)else .inl (a+1)) (fun _=>rf) l a=if l.any P then rt (a+l.findIdx P)else rf:=by
  intro l
  induction l with
  |nil=>intro a;rfl
  |cons x l ih=>
   intro a
   rw[walk,Arq,ArH]
   by_cases hx:P x=true
   ·simp[hx]
   ·simp only[hx,Ao5,Ao3,Bool.false_or,cond_false]
    rw[ih,show a+1+List.findIdx P l=a+(List.findIdx P l+1) by omega]
 have:=Bx (step:=step) (fun i (a:Nat)=>st a) xs (fun x (a:Nat)=>if P x then .inr (rt a)else .inl (a+1)) (fun _=>rf) (fun i a=>a=i) hs
  (fun i x a hi hx ha=>by
   subst ha
   refine⟨fun a' h' => ?_,fun r h' => ?_⟩
   ·rw[h a x hi hx]
    split at h'
    ·cases h'
    ·rename_i hp
     cases h'
     simp[hp]
   ·rw[h a x hi hx]
    split at h'
    ·rename_i hp
     cases h'
     simp[hp]
    ·cases h')
  (fun a ha=>by subst ha;exact hN) 0 rfl
 rw[this,key,Aph]
theorem Ag{α:Type}{xs:List α}{n:Nat}{x:α}(h:xs[n]? = some x):idx xs (n:Int)=some x:=by rw[AA0,h]
theorem PF{α:Type}{xs:List α}{n:Nat}{x z:α}(h:xs[n]? = some x):Ac xs (AO (n:Int)) z=x:=by
 rw[Ib,Aoj,h];rfl
theorem QL{α:Type}{xs:List α}{h:Nat}(h2:h≤xs.length):Cj xs (0:Int) (h:Int)=some (xs.take h):=by
 have:=ALu (xs:=xs) (l:=0) (Arm h) h2
 simpa using this
theorem H4{α:Type}{xs:List α}{l:Nat}(h1:l≤xs.length):Cj xs (l:Int) (AK xs)=some (xs.drop l):=by
 have:=ALu (xs:=xs) h1 (Aop _)
 rw[Aqg]at this
 exact this
def pos(xs:List Int)(t:Int):Int:=if t∈xs then((xs.findIdx (fun x=>decide (x=t)):Nat):Int)else -1
theorem AcA(xs:List Int)(t:Int):(xs.any fun x=>decide (x=t))=decide (t∈xs):=by
 induction xs with
 |nil=>rfl
 |cons x xs ih=>simp only[Arq,ih,Aoo,Bool.decide_or];congr 1;exact Aqj.2 eq_comm
theorem AMs{xs:List Int}{t:Int}(h:t∈xs):∃ k:Nat,pos xs t=(k:Int)∧k<xs.length∧xs[k]? = some t∧xs=xs.take k++t::xs.drop (k+1)∧t∉xs.take k:=by
 have hk:xs.findIdx (fun x=>decide (x=t))<xs.length:=Aqv.2 ⟨t,h,by simp⟩
 have hg:xs[xs.findIdx (fun x=>decide (x=t))]'hk=t:=by
  have:=List.findIdx_getElem (xs:=xs) (p:=fun x=>decide (x=t)) (w:=hk)
  simpa using this
 refine⟨_,by rw[pos,Aoq h],hk,by rw[Aon hk,hg],?_,?_⟩
 ·conv=>lhs;rw[← Ape (xs.findIdx (fun x=>decide (x=t))) xs,Apc hk,hg]
 ·intro hm
  obtain⟨j,hj,e⟩:=Aq6.1 hm
  have:=List.not_of_lt_findIdx (p:=fun x=>decide (x=t)) (xs:=xs) (i:=j) (by omega)
  simp[e]at this
theorem SW{xs:List Int}{t:Int}(h:t∉xs):pos xs t = -1:=by rw[pos,Aor h]
end Go.Pev.Pl
end
section
section
namespace Go.Pev.Pl
open Tok
def In(n v:Int):Prop:=1≤n∧n≤64∧0≤v∧v<n
instance (n v:Int):Decidable (In n v):=inferInstanceAs (Decidable (_∧_))
def Sz(n:Int):Prop:=1≤n∧n≤64
instance (n:Int):Decidable (Sz n):=inferInstanceAs (Decidable (_∧_))
theorem K9(n:Int):M9 (n,())=some (decide (Sz n),()):=by
 rw[AJB,R2]
 simp only[Ar]
 by_cases h1:1≤n<;>by_cases h2:n≤64<;>simp[Sz,h1,h2]
theorem AAp(n v:Int):tin (n,v,())=some (decide (In n v),()):=by
 rw[Ag4,Aai]
 simp only[K9,Ar,Af]
 by_cases h1:1≤n<;>by_cases h2:n≤64<;>by_cases h3:0≤v<;>simp[In,Sz,h1,h2,h3]
def AoU(n v:Int):Int:=if In n v then v else -1
def EF(n u v:Int):Int:=if In n u∧In n v∧u≠v then n*(u+1)+v else -1
theorem F4{n u:Int}(h1:1≤n)(h2:n≤64)(h3:0≤u)(h4:u≤64):0≤n*u∧n*u≤4096:=by
 refine⟨Int.mul_nonneg (by omega) h3,?_⟩
 have:=Int.mul_le_mul h2 h4 h3 (by omega)
 omega
theorem AQQ(n u v:Int):Acx (n,u,v,())=some (EF n u v,()):=by
 rw[Aaj,ALt]
 simp only[AAp,EF,Au]
 by_cases h3:u=v
 ·simp[h3]
 ·by_cases h1:In n u
  ·by_cases h2:In n v
   ·obtain⟨a1,a2,a3,a4⟩:=h1
    obtain⟨b1,b2,b3,b4⟩:=h2
    have hb:=F4 (u:=u+1) a1 a2 (by omega) (by omega)
    rw[Ai (n:=u+1) (by omega),Ai (n:=n*(u+1)) (by omega),Ai (n:=n*(u+1)+v) (by omega)]
    simp[In,a1,a2,a3,a4,b3,b4,h3]
   ·simp[h1,h2,h3]
  ·simp[h1,h3]
def B8(n t:Int):Option Tok:=
 if In n t then some (.ver t)
 else if Sz n∧n≤t∧t<n*(n+1)∧t/n-1≠t % n then some (.arc (t/n-1) (t % n))
 else none
def Pd:Option Tok→Int×Int×Bool×Bool×Unit
 |some (.ver v)=>(v,0,false,true,())
 |some (.arc u v)=>(u,v,true,true,())
 |none=>(0,0,false,false,())
def Dj(n:Int):Tok→Int
 |.ver v=>v
 |.arc u v=>n*(u+1)+v
def okT(n:Int):Tok→Prop
 |.ver v=>In n v
 |.arc u v=>In n u∧In n v∧u≠v
theorem AA3{n u v:Int}(h1:In n u)(h2:In n v):n≤n*(u+1)+v∧n*(u+1)+v<n*(n+1)∧(n*(u+1)+v)/n=u+1∧(n*(u+1)+v) % n=v:=by
 obtain⟨a1,a2,a3,a4⟩:=h1
 obtain⟨b1,b2,b3,b4⟩:=h2
 have e2:n*(u+1)=n*u+n:=by rw[Arn,Aro]
 have e3:n*(n+1)=n*n+n:=by rw[Arn,Aro]
 have hb:=F4 (u:=u) a1 a2 (by omega) (by omega)
 have hle:n*(u+1)≤n*n:=Int.mul_le_mul_of_nonneg_left (by omega) (by omega)
 have hd:(n*(u+1)+v)/n=u+1:=by
  rw[Int.add_comm,Int.add_mul_ediv_left _ _ (by omega),Int.ediv_eq_zero_of_lt b3 b4];omega
 have hm:(n*(u+1)+v) % n=v:=by
  rw[Int.add_comm,Int.add_mul_emod_self_left,Int.emod_eq_of_lt b3 b4]
 exact⟨by omega,by omega,hd,hm⟩
theorem AOb{n t:Int}(hn:Sz n)(h1:n≤t)(h2:t<n*(n+1)):In n (t/n-1)∧In n (t % n)∧n*(t/n-1+1)+t % n=t:=by
 obtain⟨a1,a2⟩:=hn
 have g1:1≤t/n:=(Int.le_ediv_iff_mul_le (by omega)).2 (by omega)
 have g2:t/n<n+1:=(Int.ediv_lt_iff_lt_mul (by omega)).2 (by rw[Int.mul_comm];exact h2)
 have g3:=Int.emod_nonneg t (show n≠0 by omega)
 have g4:=Int.emod_lt_of_pos t (show 0<n by omega)
 have g5:=Int.mul_ediv_add_emod t n
 refine⟨⟨a1,a2,by omega,by omega⟩,⟨a1,a2,g3,g4⟩,?_⟩
 rw[Int.sub_add_cancel]
 exact g5
theorem Dv{n:Int}{t:Tok}(h:okT n t):B8 n (Dj n t)=some t:=by
 cases t with
 |ver v=>simp only[okT]at h;simp[B8,Dj,h]
 |arc u v=>
  obtain⟨h1,h2,h3⟩:=h
  obtain⟨g1,g2,g3,g4⟩:=AA3 h1 h2
  have hni:¬ In n (n*(u+1)+v):=fun h=>by have:=h.2.2.2;omega
  have:u+1-1=u:=by omega
  simp only[B8,Dj,hni,Ao3,g3,g4,this]
  rw[Aoq ⟨⟨h1.1,h1.2.1⟩,g1,g2,h3⟩]
theorem Xg{n x:Int}{t:Tok}(h:B8 n x=some t):okT n t∧Dj n t=x:=by
 rw[B8]at h
 split at h
 ·cases h;exact⟨by assumption,rfl⟩
 ·split at h
  ·rename_i hh
   cases h
   obtain⟨d1,d2,d3⟩:=AOb hh.1 hh.2.1 hh.2.2.1
   exact⟨⟨d1,d2,hh.2.2.2⟩,d3⟩
  ·cases h
theorem Fe{n u v:Int}(h:okT n (.arc u v)):EF n u v=Dj n (.arc u v):=by
 simp only[okT]at h
 rw[EF,Aoq h];rfl
theorem Gl{n:Int}{a b:Tok}(ha:okT n a)(hb:okT n b)(h:Dj n a=Dj n b):a=b:=by
 have:=Dv ha
 rw[h,Dv hb]at this
 exact(Apr this).symm
theorem AVH(n t:Int)(ht:-9223372036854775808≤t∧t≤9223372036854775807):ABg (n,t,())=some (Pd (B8 n t)):=by
 rw[AJA,R1]
 simp only[K9]
 by_cases hs:Sz n
 ·obtain⟨a1,a2⟩:=hs
  have hb:=F4 (u:=n) a1 a2 (by omega) (by omega)
  have e3:n*(n+1)=n*n+n:=by rw[Arn,Aro]
  rw[Ai (n:=n+1) (by omega),Ai (n:=n*(n+1)) (by omega)]
  simp only[Sz,a1,a2,and_self,Aow,Aov,Af,Ar]
  by_cases h1:t<0
  ·have hni:¬ In n t:=fun h=>by have:=h.2.2.1;omega
   have h2:¬ n≤t:=by omega
   simp only[h1,Aow,B8,hni,Ao3,h2,Aqq,and_false,Pd]
  ·simp only[h1,Ao9]
   by_cases h2:n*(n+1)≤t
   ·have hni:¬ In n t:=fun h=>by have:=h.2.2.2;omega
    have h3:¬ t<n*(n+1):=by omega
    simp only[h2,Aow,B8,hni,Ao3,h3,Aqq,and_false,Pd]
   ·simp only[h2,Ao9]
    by_cases h3:t<n
    ·have hi:In n t:=⟨a1,a2,by omega,h3⟩
     simp only[h3,Aow,B8,hi,ApL,Pd]
    ·have hni:¬ In n t:=fun h=>h3 h.2.2.2
     have hq:t.tdiv n=t/n:=Aqe (by omega)
     have hm:t.tmod n=t % n:=Int.tmod_eq_emod_of_nonneg (by omega)
     obtain⟨d1,d2,d3⟩:=AOb (t:=t) ⟨a1,a2⟩ (by omega) (by omega)
     have q1:=d1.2.2.1
     have q2:=d1.2.2.2
     simp only[h3,Ao9,WK,WL,AMk,ADG]
     rw[Aor (by omega),Aor (by omega),hq,hm,Ai (n:=t/n) (by omega)]
     simp only[]
     rw[Ai (n:=t/n-1) (by omega),Au,B8,Aor hni]
     by_cases h4:t/n-1=t % n
     ·rw[Aor (by intro h;exact h.2.2.2 h4),Aoi h4];rfl
     ·rw[Aoq ⟨⟨a1,a2⟩,by omega,by omega,h4⟩,Aog h4];rfl
 ·have hni:¬ In n t:=fun h=>hs ⟨h.1,h.2.1⟩
  simp only[hs,Ao9,ApR,B8,hni,Ao3,Aqq,Pd]
theorem Ln(xs ys:List Int)(hs:xs.length<9223372036854775808):IN (xs,ys,())=some (decide (xs=ys),()):=by
 rw[AKP,Sp,AFJ]
 by_cases hl:xs.length=ys.length
 ·rw[Aoi hl]
  simp only[Aov]
  rcases AQr (step:=E7) (fun i=>(xs,ys,((i:Nat):Int),())) xs.length (fun i => !decide (xs.getD i 0=ys.getD i 0)) (fun _=>.inl (false,())) (.inr (.inl ())) hs (fun i hi=>by
   rw[E7,AM,AP,Aoi hi]
   simp (disch:=omega) only[By (0:Int),AQ,Au]
   by_cases h:xs.getD i 0=ys.getD i 0
   ·rw[Aoi h];simp
   ·rw[Aog h];simp) (by rw[E7,AM,AP,Aog (by omega)])with⟨k,hk,hP,_,e⟩|⟨h,e⟩
  ·have e':AU E7 many (xs,ys,(0:Int),())=_:=e
   rw[e']
   have:xs≠ys:=ZN (0:Int) (j:=k) (by simpa using hP)
   simp[this]
  ·have e':AU E7 many (xs,ys,(0:Int),())=_:=e
   rw[e']
   have:xs=ys:=CX (0:Int) hl fun j hj=>by simpa using h j hj
   simp[this]
 ·rw[Aog hl]
  have:xs≠ys:=fun e=>hl (by rw[e])
  simp[this]
def BT(n:Nat):List (List Int):=(List.range n).map fun(v:Nat)=>[(v:Int)]
theorem SA(n:Nat):BT (n+1)=BT n++[[(n:Int)]]:=by simp[BT,Ap3]
theorem Ys(n:Nat):(BT n).length=n:=by simp[BT]
theorem AVX(N:Nat)(hN:N≤64)(c:Int):∀ (k i n:Nat),i+k=N→k<n→Ab H0 n (c,(N:Int),BT i,(N:Int),(i:Int),())=some (.inl (c,(N:Int),BT N,())):=by
 intro k
 induction k with
 |zero=>
  intro i n hi hn
  obtain⟨n,rfl⟩:∃ k,n=k+1:=⟨n-1,by omega⟩
  have:i=N:=by omega
  subst this
  rw[Ab,H0,AP,Aog (by omega)]
 |succ k ih=>
  intro i n hi hn
  obtain⟨n,rfl⟩:∃ k,n=k+1:=⟨n-1,by omega⟩
  rw[Ab,H0,AP,Aoi (by omega)]
  simp only[AM,Ys,Aot,ApA]
  rw[BK (by omega),AQ (by omega)]
  simp only[DC,← SA]
  exact ih (i+1) n (by omega) (by omega)
def HV(n:Int):Int×List (List Int)×Int×Unit:=if Sz n then(n,BT n.toNat,0,())else(0,[],1,())
theorem AJT(n:Int):AQM (n,())=some (HV n):=by
 have hm:4294967296<many:=by simp only[many];omega
 rw[AQL,AAo,HV]
 simp only[K9]
 by_cases h:Sz n
 ·obtain⟨h1,h2⟩:=h
  obtain⟨N,rfl⟩:=Aou (show 0≤n by omega)
  have hS:Sz (N:Int):=⟨by omega,by omega⟩
  have e:=AVX N (by omega) 0 N 0 many (by omega) (by omega)
  have e':Ab H0 many (0,(N:Int),[],(N:Int),(0:Int),())=_:=e
  simp[hS,Av,e']
 ·simp[h]
end Go.Pev.Pl
end
section
namespace Go.Pev.Pl
theorem Q0(xs:List Int)(t:Int)(hs:xs.length<9223372036854775808):Q1 (xs,t,())=some (pos xs t,()):=by
 rw[AKT,Sr]
 have e:=Pz (step:=F9) (fun i=>(xs,t,AK xs,(i:Int),())) xs (fun x=>decide (x=t)) (fun i=>.inl ((i:Int),())) (.inr (.inl ())) hs
  (fun i x hi hx=>by
   rw[F9,AM,AP,Aoi hi]
   simp only[Ag hx,Au]
   by_cases h:x=t
   ·simp[h]
   ·simp only[h,ApN h,Ao9];rw[AQ (by omega)];simp)
  (by rw[F9,AM,AP,Aog (by omega)])
 have e':AU F9 many (xs,t,AK xs,(0:Int),())=_:=e
 rw[e',AcA,pos]
 by_cases h:t∈xs<;>simp[h]
theorem KF(xs:List Int)(t:Int)(hs:xs.length<9223372036854775808):GM (xs,t,())=some (decide (t∈xs),()):=by
 rw[TO,JX]
 simp only[Q0 xs t hs,Ar]
 by_cases h:t∈xs
 ·obtain⟨k,e,_⟩:=AMs h
  rw[e];simp[h]
 ·rw[SW h];simp[h]
def Rt(xs:List Int):Prop:=xs.length≤1000∧(∀ x∈xs,0≤x∧x≤10000)∧xs.Nodup
instance (xs:List Int):Decidable (Rt xs):=inferInstanceAs (Decidable (_∧_∧_))
theorem Sg(xs:List Int):xs.Nodup↔∀ i,i<xs.length→xs.getD i 0∉xs.take i:=by
 rw[List.Nodup,AqI]
 constructor
 ·intro h i hi hm
  obtain⟨j,hj,e⟩:=Aq6.1 hm
  have:=h j i (by omega) hi (by omega)
  rw[Aoj,Aon hi,ApF]at e
  exact this e
 ·intro h i j hi hj hij e
  apply h j hj
  rw[Aoj,Aon hj,ApF,← e]
  exact Aq6.2 ⟨i,by omega,rfl⟩
theorem AUD(xs:List Int)(hs:xs.length<9223372036854775808):EH (xs,())=some (xs.any (fun x=>decide (x<0)||decide (10000<x)),()):=by
 rw[Ks,EN,Mn,FO]
 have e:=Pz (step:=B5) (fun i=>(xs,AK xs,(i:Int),())) xs (fun x=>decide (x<0)||decide (10000<x)) (fun i=>.inl ((i:Int),())) (.inr (.inl ())) hs
  (fun i x hi hx=>by
   rw[B5,AM,AP,Aoi hi]
   simp only[Ag hx,Af]
   rw[AQ (by omega)]
   by_cases h:x<0
   ·simp[h]
   ·by_cases h2:10000<x
    ·simp[h,h2]
    ·simp[h,h2])
  (by rw[B5,AM,AP,Aog (by omega)])
 have e':AU B5 many (xs,AK xs,(0:Int),())=_:=e
 rw[e']
 generalize (xs.any fun x=>decide (x<0)||decide (10000<x))=b
 cases b<;>simp[Ar]
theorem Aik(xs:List Int)(hs:xs.length<9223372036854775808):once (xs,())=some (decide xs.Nodup,()):=by
 rw[AbO,ANN]
 have e:=Bx (step:=LU) (fun i m=>(xs,m,xs,AK xs,(i:Int),())) xs (fun x m=>.inl (Ah m x (IntKind.wrap .i64 (((AS m x).getD (0:Int))+(1:Int))))) (fun m=>.inl (xs,m,())) (fun _ _=>True) hs
  (fun i x m hi hx _=>by
   refine⟨fun m' h' => ?_,fun r h'=>by cases h'⟩
   cases h'
   rw[LU,AM,AP,Aoi hi]
   simp only[Ag hx]
   rw[AQ (by omega)]
   exact⟨rfl,trivial⟩)
  (fun m _=>by rw[LU,AM,AP,Aog (by omega)]) [] trivial
 have e':AU LU many (xs,([]:List (Int×Int)),xs,AK xs,(0:Int),())=_:=e
 rw[e',A2]
 have key:∀ (l:List Int) (m:List (Int×Int)),BI (l.foldl (fun m x=>Ah m x (IntKind.wrap .i64 (((AS m x).getD (0:Int))+(1:Int)))) m)=dd (BI m) l:=by
  intro l
  induction l with
  |nil=>intro m;rfl
  |cons x l ih=>intro m;rw[ApY,ih,Qw,dd]
 have hk:=key xs []
 generalize xs.foldl (fun m x=>Ah m x (IntKind.wrap .i64 (((AS m x).getD (0:Int))+(1:Int)))) []=m at *
 simp only[AFJ]
 have:m.length=(dd [] xs).length:=by rw[← XK,hk];rfl
 rw[this]
 simp only[Aj7]
theorem LL(xs:List Int):LM (xs,())=some (decide (Rt xs),()):=by
 rw[AJm,SH,AM,Af]
 by_cases hl:xs.length≤1000
 ·rw[Aog (by omega)]
  simp only[AUD xs (by omega),Aik xs (by omega)]
  have hany:(xs.any fun x=>decide (x<0)||decide (10000<x)) = !decide (∀ x∈xs,0≤x∧x≤10000):=by
   rw[ArC]
   simp only[Aq9,AqF,Aok,AqA,Apg]
   constructor
   ·rintro⟨x,hx,h⟩ hh
    have:=hh x hx
    omega
   ·intro h
    refine Apj fun hc=>h fun x hx => ?_
    refine Apj fun hn=>hc ⟨x,hx,by omega⟩
  rw[hany]
  by_cases h1:∀ x∈xs,0≤x∧x≤10000
  ·rw[Aoi h1]
   by_cases h2:xs.Nodup
   ·rw[Aoi h2,Aoi (show Rt xs from⟨hl,h1,h2⟩)];rfl
   ·rw[Aog h2,Aog (show ¬ Rt xs from fun h=>h2 h.2.2)];rfl
  ·rw[Aog h1,Aog (show ¬ Rt xs from fun h=>h1 h.2.1)];rfl
 ·rw[Aoi (by omega),Aog (show ¬ Rt xs from fun h=>hl h.1)]
def rot(xs:List Int)(k:Nat):List Int:=xs.drop k++xs.take k
theorem AfQ(n:Nat)(hn:n<4294967296):ATk ((n:Int),())=some ([],()):=by
 have e0:IntKind.wrap .i64 ((n:Int)-IntKind.wrap .i64 ((0:Int)-0))=(n:Int):=by rw[Ai (n:=(0:Int)-0) (by omega),Ai (by omega)];omega
 rw[ATj,AA1]
 simp only[e0,Af]
 rw[Aog (by omega)]
 simp only[]
 by_cases h:0<n
 ·rw[Aoi (by omega)]
  have s1:Cj ([]:List Unit) (0:Int) (0:Int)=some []:=by rw[AAq];rfl
  have s2:Cj (D6 (AO (n:Int)) (0:Int)) (0:Int) (0:Int)=some []:=by
   rw[AAq,Po,Aoq (by omega)]
   simp
  have s3:DM (n:Int)=true:=(D5 _).2 (by omega)
  simp only[s1,s2,s3]
  rfl
 ·rw[Aog (by omega)]
theorem JR{α:Type}{xss:List (List α)}{i:Nat}{x:List α}(h:xss[i]? = some x):(xss.take (i+1)).flatten=(xss.take i).flatten++x:=by
 rw[List.take_add_one,h];simp
theorem Mo{α:Type}(xss:List (List α))(i:Nat):(xss.take i).flatten.length≤xss.flatten.length:=by
 conv=>rhs;rw[← Ape i xss,List.flatten_append,Aos]
 omega
theorem OC(xss:List (List Int))(hs:xss.length<4294967296)(h:xss.flatten.length<4294967296):JY (xss,())=some (xss.flatten,()):=by
 rw[AGF,PG]
 have e:=Bx (step:=Ef) (fun i (a:Nat)=>(xss,(a:Int),xss,AK xss,(i:Int),())) xss (fun x a=>.inl (a+x.length)) (fun a=>.inl (xss,(a:Int),())) (fun i a=>a=(xss.take i).flatten.length) (by omega)
  (fun i x a hi hx ha=>by
   refine⟨fun m' h' => ?_,fun r h'=>by cases h'⟩
   cases h'
   have h1:=JR hx
   have h2:=Mo xss (i+1)
   rw[h1,Aos]at h2
   rw[Ef]
   simp only[AM]
   rw[AP,Aoi hi]
   simp only[Ag hx]
   rw[wrap_add (by omega),AQ (by omega),Af,Aog (by omega)]
   exact⟨rfl,by rw[h1,Aos,ha]⟩)
  (fun a _=>by rw[Ef,AM,AP,Aog (by omega)]) 0 rfl
 have e':AU Ef many (xss,(0:Int),xss,AK xss,(0:Int),())=_:=e
 rw[e',A2]
 have hsum:∀ (l:List (List Int)) (a:Nat),l.foldl (fun a x=>a+x.length) a=a+l.flatten.length:=by
  intro l
  induction l with
  |nil=>intro a;rfl
  |cons x l ih=>intro a;rw[ApY,ih,Aqo,Aos];omega
 rw[hsum,Aph]
 simp only[AfQ _ h]
 have g:=Bx (step:=Ee) (fun i (a:List Int)=>(a,xss,AK xss,(i:Int),())) xss (fun x a=>.inl (a++x)) (fun a=>.inl (a,())) (fun i a=>a=(xss.take i).flatten) (by omega)
  (fun i x a hi hx ha=>by
   refine⟨fun m' h' => ?_,fun r h'=>by cases h'⟩
   cases h'
   have h1:=JR hx
   have h2:=Mo xss (i+1)
   rw[h1,Aos]at h2
   rw[Ee]
   simp only[AM]
   rw[AP,Aoi hi]
   simp only[Ag hx]
   rw[AQ (by omega),BK (by rw[ha];omega)]
   exact⟨rfl,by rw[h1,ha]⟩)
  (fun a _=>by rw[Ee,AM,AP,Aog (by omega)]) [] rfl
 have g':AU Ee many ([],xss,AK xss,(0:Int),())=_:=g
 rw[g',A2]
 have hcat:∀ (l:List (List Int)) (a:List Int),l.foldl (fun a x=>a++x) a=a++l.flatten:=by
  intro l
  induction l with
  |nil=>intro a;simp
  |cons x l ih=>intro a;rw[ApY,ih,Aqo,Apu]
 rw[hcat]
 rfl
theorem ABZ(xs:List Int)(k:Nat)(hk:k≤xs.length)(hs:xs.length<2147483648):VH (xs,(k:Int),())=some (rot xs k,()):=by
 rw[AI9,R0]
 simp only[H4 hk,QL hk]
 rw[OC _ (by simp) (by simp;omega)]
 simp[rot]
def A6(xs:List Int)(t:Int):List Int:=rot xs (xs.findIdx (fun x=>decide (x=t)))
def JQ(xs:List Int)(t:Int):List Int×Bool×Unit:=if Rt xs∧t∈xs then(A6 xs t,true,())else([],false,())
theorem AC0{xs:List Int}{t:Int}(h:t∈xs):∃ a b,xs=a++t::b∧t∉a∧A6 xs t=t::b++a:=by
 obtain⟨k,e,hk,hg,h1,h2⟩:=AMs h
 rw[pos,Aoq h]at e
 have e':xs.findIdx (fun x=>decide (x=t))=k:=by omega
 refine⟨_,_,h1,h2,?_⟩
 rw[A6,e',rot]
 congr 1
 rw[Apc hk]
 congr 1
 simpa [hk]using hg
theorem AJo(xs:List Int)(t:Int):AJp (xs,t,())=some (JQ xs t):=by
 rw[ARC,AAt,AJx,SX,JQ]
 simp only[LL]
 by_cases hr:Rt xs
 ·have hl:=hr.1
  simp only[hr,Aow,Aov,Aq2]
  have e:AU Ez many (xs,[],[t],AK [t],(0:Int),())=some (.inl ([pos xs t],())):=by
   have g:=Bx (step:=Ez) (fun i (a:List Int)=>(xs,a,[t],AK [t],(i:Int),())) [t] (fun x a=>.inl (a++[pos xs x])) (fun a=>.inl (a,())) (fun i a=>a.length=i) (by simp)
    (fun i x a hi hx ha=>by
     refine⟨fun m' h' => ?_,fun r h'=>by cases h'⟩
     cases h'
     rw[Ez,AM,AP,Aoi hi]
     simp only[Ag hx,Q0 xs x (by omega)]
     simp only[Aot,ApA]at hi
     rw[AQ (by omega),BK (by simp only[AM,Aot,ApA];omega)]
     exact⟨rfl,by simp[ha]⟩)
    (fun a _=>by rw[Ez,AM,AP,Aog (by omega)]) [] rfl
   have g':AU Ez many (xs,[],[t],AK [t],(0:Int),())=_:=g
   rw[g'];rfl
  rw[e]
  simp only[KF [pos xs t] (-1) (by simp)]
  by_cases h:t∈xs
  ·have hk:xs.findIdx (fun x=>decide (x=t))<xs.length:=Aqv.2 ⟨t,h,by simp⟩
   rw[pos,Aoq h,Aoq h,A6]
   generalize xs.findIdx (fun x=>decide (x=t))=k at *
   rw[Aog (by simp)]
   have i0:idx [(k:Int)] (0:Int)=some (k:Int):=by rw[Gz];rfl
   have d0:Ac [(k:Int)] 0 (0:Int)=(k:Int):=rfl
   simp only[ApR,Aov,i0,d0,ABZ xs k (by omega) (by omega)]
  ·rw[SW h,Aor h]
   simp
 ·simp[hr]
def Gx:List Int→Int
 |[]=>0
 |x::xs=>xs.foldl (fun a y=>Cp a y) x
theorem AZH:∀ (xs:List Int) (a:Int),(xs.foldl (fun a y=>Cp a y) a)≤a∧(∀ x∈xs,xs.foldl (fun a y=>Cp a y) a≤x)∧(xs.foldl (fun a y=>Cp a y) a=a∨xs.foldl (fun a y=>Cp a y) a∈xs):=by
 intro xs
 induction xs with
 |nil=>intro a;simp
 |cons x xs ih=>
  intro a
  rw[ApY]
  obtain⟨h1,h2,h3⟩:=ih (Cp a x)
  have hm:Cp a x≤a∧Cp a x≤x∧(Cp a x=a∨Cp a x=x):=by
   rw[Cp];split<;>omega
  refine⟨by omega,fun y hy => ?_,?_⟩
  ·rcases Aoo.1 hy with rfl|hy
   ·omega
   ·exact h2 y hy
  ·rcases h3 with h|h
   ·rcases hm.2.2 with e|e
    ·exact .inl (by rw[h,e])
    ·exact .inr (by rw[h,e];simp)
   ·exact .inr (Ao7 _ h)
theorem E6{xs:List Int}(h:xs≠[]):Gx xs∈xs∧∀ x∈xs,Gx xs≤x:=by
 cases xs with
 |nil=>exact absurd rfl h
 |cons x xs=>
  obtain⟨h1,h2,h3⟩:=AZH xs x
  refine⟨?_,fun y hy => ?_⟩
  ·rcases h3 with h|h
   ·rw[Gx,h];simp
   ·exact Ao7 _ h
  ·rcases Aoo.1 hy with rfl|hy
   ·exact h1
   ·exact h2 y hy
theorem Als{xs:List Int}{m:Int}(h1:m∈xs)(h2:∀ x∈xs,m≤x):Gx xs=m:=by
 obtain⟨g1,g2⟩:=E6 (List.ne_nil_of_mem h1)
 have:=g2 m h1
 have:=h2 _ g1
 omega
theorem ASo(xs:List Int)(h:xs≠[])(hs:xs.length<9223372036854775808):AeY (xs,())=some (Gx xs,()):=by
 cases xs with
 |nil=>exact absurd rfl h
 |cons x xs=>
  rw[AbY,ANW,AM,Af,Aog (by simp only[Aot];omega)]
  have i0:idx (x::xs) (0:Int)=some x:=by rw[Gz];rfl
  simp only[i0]
  simp only[Aot]at hs
  have e:=Bx (step:=LZ) (fun i (a:Int)=>(x::xs,a,((i+1:Nat):Int),())) xs (fun y a=>.inl (Cp a y)) (fun a=>.inl (a,())) (fun _ _=>True) (by omega)
   (fun i y a hi hy _=>by
    refine⟨fun m' h' => ?_,fun r h'=>by cases h'⟩
    cases h'
    rw[LZ,AM,AP,Aoi (by simp only[Aot];omega)]
    simp only[Ag (xs:=x::xs) (n:=i+1) (by simpa using hy)]
    rw[AQ (by omega)]
    exact⟨rfl,trivial⟩)
   (fun a _=>by rw[LZ,AM,AP,Aog (by simp)]) x trivial
  have e':AU LZ many (x::xs,x,(1:Int),())=_:=e
  rw[e',A2]
  rfl
def plain(xs:List Int):List Int:=if Rt xs∧xs≠[]then A6 xs (Gx xs)else []
theorem AWQ(xs:List Int):ACy (xs,())=some (plain xs,()):=by
 rw[AJn,SJ,plain]
 simp only[LL]
 by_cases hr:Rt xs
 ·have hl:=hr.1
  simp only[hr,Aow,Aov,Aq2]
  by_cases h:xs=[]
  ·subst h;simp[AM,B4]
  ·have hp:0<xs.length:=List.length_pos_iff.2 h
   rw[AM,Au,Aog (by omega)]
   have hm:=(E6 h).1
   have hk:xs.findIdx (fun x=>decide (x=Gx xs))<xs.length:=Aqv.2 ⟨_,hm,by simp⟩
   simp only[ASo xs h (by omega),Q0 xs _ (show xs.length<9223372036854775808 by omega)]
   rw[pos,Aoq hm,Aoq (by simpa using h),A6]
   simp only[ABZ xs _ (AqS hk) (by omega)]
 ·simp[hr]
theorem IC{xs:List Int}(hr:Rt xs)(h:xs≠[]):∃ a b,xs=a++Gx xs::b∧plain xs=Gx xs::b++a:=by
 obtain⟨a,b,h1,_,h2⟩:=AC0 (E6 h).1
 exact⟨a,b,h1,by rw[plain,Aoq ⟨hr,h⟩,h2]⟩
end Go.Pev.Pl
end
section
namespace Go.Pev.Pl
open Tok
def TI(n:Int)(xs:List Int):Prop:=∃ L,xs=L.map (Dj n)∧(∀ t∈L,okT n t)∧T L
noncomputable instance (n:Int) (xs:List Int):Decidable (TI n xs):=Classical.propDecidable _
abbrev AaQ:=List Int×List (Int×Int)×List (Int×Int)
abbrev Am3:=(Bool×Unit)⊕(List Int×List (Int×Int)×List (Int×Int)×Unit)⊕Unit
def goF(n x:Int)(s:AaQ):AaQ⊕Am3:=
 match B8 n x with
 |none=>.inr (.inl (false,()))
 |some t=>match Tok.step (s.1,BI s.2.1) t with
  |none=>.inr (.inl (false,()))
  |some s'=>match t with
   |.ver v=>.inl (s'.1,s.2.1,Ah s.2.2 v (IntKind.wrap .i64 (((AS s.2.2 v).getD (0:Int))+(1:Int))))
   |.arc _ v=>.inl (s'.1,if v∈BI s.2.1 then s.2.1 else Ah s.2.1 v 1,s.2.2)
def one(came:List (Int×Int)):Prop:=∀ k,(0<(AS came k).getD (0:Int))↔k∈BI came
theorem AeK{came:List (Int×Int)}(h:one came)(v:Int):one (Ah came v 1):=by
 intro k
 rw[Dz,FL]
 by_cases e:k=v
 ·simp[e]
 ·simp only[e,Ao3,false_or];exact h k
theorem AfW(n:Int)(xs:List Int)(i:Nat)(x:Int)(hx:xs[i]? = some x)(hi:i<xs.length)(hl:xs.length<4294967296)(hxr:-9223372036854775808≤x∧x≤9223372036854775807)
  (w:Int) (r:List Int) (came met:List (Int×Int)) (hr:r.length<4294967295) (hc:one came) (hsub:∀ y∈w::r,y∈BI came) :
  JP (n,(w::r).reverse,came,met,xs,AK xs,(i:Int),())=match goF n x (w::r,came,met)with
   |.inl s=>some (.inl (n,s.1.reverse,s.2.1,s.2.2,xs,AK xs,((i+1:Nat):Int),()))
   |.inr y=>some (.inr y):=by
 have hd:AK ((w::r).reverse)=((r.length+1:Nat):Int):=by simp[AM]
 have e1:IntKind.wrap .i64 (((r.length+1:Nat):Int)-1)=(r.length:Int):=by rw[BC (by omega)];rfl
 have i1:idx ((w::r).reverse) (r.length:Int)=some w:=by rw[AA0];simp
 have g1:Ac ((w::r).reverse) (AO (r.length:Int)) (0:Int)=w:=by rw[Ib];simp
 have f1:∀ v:Int,fits (AK ((w::r).reverse)+AK [v])=true:=fun v=>BK (by rw[hd,AM];simp only[Aot,ApA];omega)
 have ap:∀ v:Int,A1 ((w::r).reverse) [v]=(v::w::r).reverse:=fun v=>by simp[DC]
 rw[JP,AM,AP,Aoi hi]
 rw[AM]at hd
 simp only[Ag hx,AVH n x hxr,goF]
 cases ht:B8 n x with
 |none=>rfl
 |some t=>
  cases t with
  |ver v=>
   simp only[Pd,Aov,ApR,AM,hd,e1,i1,g1,Au,Tok.step]
   rw[AQ (by omega)]
   by_cases h:w=v
   ·simp[h]
   ·simp[h]
  |arc u v=>
   simp only[Pd,Aov,AM,hd,e1,i1,g1,Au,Tok.step]
   rw[AQ (by omega)]
   by_cases h:w=u
   ·subst h
    rw[Aoi rfl]
    simp only[Aov]
    cases r with
    |nil=>
     have z:ilt (0:Int) ((([]:List Int).length:Nat):Int)=false:=by rw[Af];rfl
     simp only[z]
     rw[Af]
     have hcv:=hc v
     by_cases hv:v∈BI came
     ·rw[Aoi (hcv.2 hv)]
      simp[hv]
     ·rw[Aog (fun h=>hv (hcv.1 h))]
      have f2:=f1 v
      rw[AM,hd]at f2
      have hz:(AS came v).getD (0:Int)=0:=by rw[(ZT came v).2 hv];rfl
      have w1:IntKind.wrap .i64 ((0:Int)+1)=1:=by rw[Ai (by omega)];rfl
      rw[AM]at f2
      simp only[f2,ap v,hz,w1,hv,Ao3,ApL]
    |cons p r=>
     have z:ilt (0:Int) (((p::r).length:Nat):Int)=true:=by rw[Af,Aoi (by simp only[Aot];omega)]
     have e2:IntKind.wrap .i64 ((((p::r).length:Nat):Int)-1)=(r.length:Int):=by
      rw[BC (by simp only[Aot]at hr ⊢;omega)];rfl
     have i2:idx ((w::p::r).reverse) (r.length:Int)=some p:=by rw[AA0];simp
     have g2:Ac ((w::p::r).reverse) (AO (r.length:Int)) (0:Int)=p:=by rw[Ib];simp
     simp only[z,e2,i2,g2]
     by_cases hp:p=v
     ·subst hp
      rw[Aoi rfl]
      have hmem:p∈BI came:=hsub p (by simp)
      have s1:Cj ((w::p::r).reverse) (0:Int) (((p::r).length:Nat):Int)=some ((p::r).reverse):=by
       rw[QL (by simp)]
       rw[List.reverse_cons,Ara (by simp)]
      have t1:B0 (AO (((p::r).reverse.length:Nat):Int)) ((w::p::r).reverse)=(p::r).reverse:=by
       rw[B0,Ia,List.reverse_cons (a:=w),Ara rfl]
      simp only[s1,t1,hmem,ApL]
     ·rw[Aog hp]
      simp only[hp,Ao3]
      rw[Af]
      have hcv:=hc v
      by_cases hv:v∈BI came
      ·rw[Aoi (hcv.2 hv)]
       simp[hv]
      ·rw[Aog (fun h=>hv (hcv.1 h))]
       have f2:=f1 v
       rw[AM,hd]at f2
       have hz:(AS came v).getD (0:Int)=0:=by rw[(ZT came v).2 hv];rfl
       have w1:IntKind.wrap .i64 ((0:Int)+1)=1:=by rw[Ai (by omega)];rfl
       rw[AM]at f2
       simp only[f2,ap v,hz,w1,hv,Ao3,ApL]
   ·rw[Aog h]
    simp[h]
end Go.Pev.Pl
end
section
namespace Go.Pev.Pl
open Tok
theorem DQ{a b:List Int}(ha:a.Nodup)(h:∀ x∈a,x∈b):a.length≤b.length:=by
 induction a generalizing b with
 |nil=>simp
 |cons x a ih=>
  obtain⟨b1,b2,rfl⟩:=Arc (h x (by simp))
  rw[ApJ]at ha
  have:=ih (b:=b1++b2) ha.2 fun y hy=>by
   have:=h y (Ao7 _ hy)
   simp only[Aom,Aoo]at this ⊢
   rcases this with h|rfl|h
   ·exact .inl h
   ·exact absurd hy ha.1
   ·exact .inr h
  simp only[Aos,Aot]at this ⊢
  omega
theorem Sf{a b:List Int}(ha:a.Nodup)(h:∀ x∈a,x∈b)(hl:b.length≤a.length):∀ x∈b,x∈a:=by
 intro x hx
 refine Apj fun hn => ?_
 have:=DQ (a:=x::a) (b:=b) (ApJ.2 ⟨hn,ha⟩) fun y hy=>by
  rcases Aoo.1 hy with rfl|hy
  ·exact hx
  ·exact h y hy
 simp only[Aot]at this
 omega
theorem ACG{way c c2:List Int}(h:∀ x,x∈c↔x∈c2)(t:Tok):
  (Tok.step (way,c) t=none↔Tok.step (way,c2) t=none)∧∀ w1 c1,Tok.step (way,c) t=some (w1,c1)→∃ c1',Tok.step (way,c2) t=some (w1,c1')∧∀ x,x∈c1↔x∈c1':=by
 cases t with
 |ver v=>
  cases way with
  |nil=>simp[Tok.step]
  |cons w r=>
   by_cases e:w=v
   ·simp only[Tok.step,e,ApL]
    exact⟨by simp,fun w1 c1 hh=>by cases hh;exact⟨c2,rfl,h⟩⟩
   ·simp[Tok.step,e]
 |arc u v=>
  cases way with
  |nil=>simp[Tok.step]
  |cons w r=>
   by_cases e:w=u
   ·cases r with
    |nil=>
     by_cases hv:v∈c
     ·simp[Tok.step,e,hv,(h v).1 hv]
     ·have hv2:v∉c2:=fun q=>hv ((h v).2 q)
      simp only[Tok.step,e,ApL,hv,hv2,Ao3]
      exact⟨by simp,fun w1 c1 hh=>by cases hh;exact⟨v::c2,rfl,fun x=>by simp[h]⟩⟩
    |cons p r=>
     by_cases e2:p=v
     ·simp only[Tok.step,e,ApL,e2]
      exact⟨by simp,fun w1 c1 hh=>by cases hh;exact⟨c2,rfl,h⟩⟩
     ·by_cases hv:v∈c
      ·simp[Tok.step,e,e2,hv,(h v).1 hv]
      ·have hv2:v∉c2:=fun q=>hv ((h v).2 q)
       simp only[Tok.step,e,ApL,e2,hv,hv2,Ao3]
       exact⟨by simp,fun w1 c1 hh=>by cases hh;exact⟨v::c2,rfl,fun x=>by simp[h]⟩⟩
   ·simp[Tok.step,e]
structure GI(s:AaQ):Prop where
 ne:s.1≠[]
 one:one s.2.1
 sub:∀ y∈s.1,y∈BI s.2.1
 nc:(BI s.2.1).Nodup
 nm:(BI s.2.2).Nodup
theorem Abx{n x:Int}{s s':AaQ}(hi:GI s)(h:goF n x s = .inl s'):
  GI s'∧s'.1.length≤s.1.length+1∧∃ t c1,B8 n x=some t∧Tok.step (s.1,BI s.2.1) t=some (s'.1,c1)∧(∀ x,x∈c1↔x∈BI s'.2.1)∧(∀ y,y∈BI s'.2.2↔y∈BI s.2.2∨Tok.ver y=t):=by
 rw[goF]at h
 cases ht:B8 n x with
 |none=>rw[ht]at h;cases h
 |some t=>
  rw[ht]at h
  simp only at h
  cases hs:Tok.step (s.1,BI s.2.1) t with
  |none=>rw[hs]at h;cases h
  |some q=>
   obtain⟨w1,c1⟩:=q
   rw[hs]at h
   rcases B1 hs with⟨v,r,rfl,hw,e⟩|⟨u,v,r,rfl,hw,e⟩|⟨u,v,r,rfl,hw,hh,hn,e⟩
   ·cases h
    cases e
    refine⟨⟨hi.ne,hi.one,hi.sub,hi.nc,Ke hi.nm _ _⟩,by simp,_,_,rfl,hs,fun x=>Iff.rfl,fun y => ?_⟩
    rw[FL]
    simp[or_comm]
   ·cases h
    cases e
    simp only at hw
    have hv:v∈BI s.2.1:=hi.sub v (by rw[hw];simp)
    simp only[hv,ApL]
    refine⟨⟨by simp,hi.one,fun y hy=>hi.sub y (by rw[hw];exact Ao7 _ hy),hi.nc,hi.nm⟩,by rw[hw];simp,_,_,rfl,hs,fun x=>Iff.rfl,fun y=>by simp⟩
   ·cases h
    cases e
    simp only at hw hn
    simp only[hn,Ao3]
    refine⟨⟨by simp,AeK hi.one v,fun y hy => ?_,Ke hi.nc _ _,hi.nm⟩,by rw[hw];simp,_,_,rfl,hs,fun x => ?_,fun y=>by simp⟩
    ·rw[FL]
     rcases Aoo.1 hy with rfl|hy
     ·exact .inl rfl
     ·exact .inr (hi.sub y (by rw[hw];exact hy))
    ·rw[FL,Aoo]
def ATn(s:AaQ):Am3:=.inr (.inl (s.1.reverse,s.2.1,s.2.2,()))
theorem AfU(n:Int):∀ (xs:List Int) (s:AaQ) (c:List Int),GI s→(∀ x,x∈c↔x∈BI s.2.1) →
  (∃ L s' c',xs=L.map (Dj n)∧(∀ t∈L,okT n t)∧run (s.1,c) L=some (s'.1,c')∧walk (goF n) ATn xs s=ATn s'∧GI s'∧(∀ x,x∈c'↔x∈BI s'.2.1)∧(∀ x,x∈BI s'.2.2↔x∈BI s.2.2∨Tok.ver x∈L)) ∨
  (walk (goF n) ATn xs s = .inl (false,())∧∀ L,xs=L.map (Dj n)→(∀ t∈L,okT n t)→run (s.1,c) L=none):=by
 intro xs
 induction xs with
 |nil=>intro s c hi hc;exact .inl ⟨[],s,c,rfl,by simp,rfl,rfl,hi,hc,by simp⟩
 |cons x xs ih=>
  intro s c hi hc
  rw[walk]
  have bad:∀ {t},B8 n x=some t→Tok.step (s.1,BI s.2.1) t=none→∀ L,x::xs=L.map (Dj n)→(∀ t∈L,okT n t)→run (s.1,c) L=none:=by
   intro t ht hs L hL hok
   cases L with
   |nil=>cases hL
   |cons t' L=>
    simp only[ApH,Ao4]at hL
    have h1:=Dv (hok t' (by simp))
    rw[← hL.1,ht]at h1
    cases h1
    rw[A3,((ACG hc t).1).2 hs]
    rfl
  cases hg:goF n x s with
  |inr r=>
   simp only
   have hr:r = .inl (false,())∧∀ L,x::xs=L.map (Dj n)→(∀ t∈L,okT n t)→run (s.1,c) L=none:=by
    rw[goF]at hg
    cases ht:B8 n x with
    |none=>
     rw[ht]at hg
     cases hg
     refine⟨rfl,fun L hL hok => ?_⟩
     cases L with
     |nil=>cases hL
     |cons t' L=>
      simp only[ApH,Ao4]at hL
      have h1:=Dv (hok t' (by simp))
      rw[← hL.1,ht]at h1
      cases h1
    |some t=>
     rw[ht]at hg
     simp only at hg
     cases hs:Tok.step (s.1,BI s.2.1) t with
     |none=>rw[hs]at hg;cases hg;exact⟨rfl,bad ht hs⟩
     |some q=>
      rw[hs]at hg
      cases t<;>cases hg
   rw[hr.1]
   exact .inr ⟨rfl,hr.2⟩
  |inl s'=>
   simp only
   obtain⟨hi',_,t,c1,ht,hs,hcc,hm⟩:=Abx hi hg
   obtain⟨c1',hs',hcc'⟩:=(ACG (c:=BI s.2.1) (c2:=c) (fun x=>(hc x).symm) t).2 _ _ hs
   obtain⟨g1,g2⟩:=Xg ht
   rcases ih s' c1' hi' (fun x=>(hcc' x).symm.trans (hcc x))with⟨L,s2,c2,a1,a2,a3,a4,a5,a6,a7⟩|⟨a1,a2⟩
   ·refine .inl ⟨t::L,s2,c2,by simp[g2,a1],?_,by rw[A3,hs'];exact a3,a4,a5,a6,fun y => ?_⟩
    ·intro y hy
     rcases Aoo.1 hy with rfl|hy
     ·exact g1
     ·exact a2 y hy
    ·rw[a7,hm,Aoo,or_assoc]
   ·refine .inr ⟨a1,fun L hL hok => ?_⟩
    cases L with
    |nil=>cases hL
    |cons t' L=>
     simp only[ApH,Ao4]at hL
     have h1:=Dv (hok t' (by simp))
     rw[← hL.1,ht]at h1
     cases h1
     rw[A3,hs']
     exact a2 L hL.2 fun y hy=>hok y (Ao7 _ hy)
theorem AWN:∀ {l:List Tok} {s s':List Int×List Int},run s l=some s'→s'.1.getLast? = s.1.getLast? := by
 intro l
 induction l with
 |nil=>intro s s' h;cases h;rfl
 |cons t l ih=>
  intro s s' h
  rw[A3,ApO]at h
  obtain⟨s1,h1,h2⟩:=h
  rw[ih h2]
  rcases B1 h1 with⟨v,r,rfl,hw,rfl⟩|⟨u,v,r,rfl,hw,rfl⟩|⟨u,v,r,rfl,hw,hh,hn,rfl⟩
  ·rfl
  ·rw[hw,Ari]
  ·rw[hw,Ari]
theorem Ahg:∀ {l:List Tok} {s s':List Int×List Int},run s l=some s'→Tok.Inv s→∀ x,Tok.ver x∈l→x∈s'.2:=by
 intro l
 induction l with
 |nil=>intro s s' _ _ x hx;cases hx
 |cons t l ih=>
  intro s s' h hi x hx
  rw[A3,ApO]at h
  obtain⟨s1,h1,h2⟩:=h
  obtain⟨i1,i2,i3⟩:=ACF h1 hi
  rcases Aoo.1 hx with rfl|hx
  ·have:=(I7 h2 i1).2.1
   refine this x (i1.2 x ?_)
   simp only[st]at i3
   exact List.mem_of_head? i3
  ·exact ih h2 i1 x hx
theorem Ael{n:Int}{L:List Tok}(h:(L.map (Dj n)).Nodup):L.Nodup:=by
 rw[List.Nodup,Aqa]at h
 exact h.imp fun h e=>h (by rw[e])
theorem AcB{n x:Int}{xs:List Int}(h:TI n (x::xs))(hm:Gx (x::xs)=x):In n x:=by
 obtain⟨L,h1,h2,h3⟩:=h
 obtain⟨v,r,hr⟩:=h3.AUE
 have hv:Tok.ver v∈L:=(hr.mem _).2 (by simp)
 have hvx:v∈x::xs:=by rw[h1];exact Ao1.2 ⟨_,hv,rfl⟩
 have h4:=(E6 (xs:=x::xs) (by simp)).2 v hvx
 rw[hm]at h4
 have h5:=(h2 _ hv).2.2.2
 cases L with
 |nil=>cases h1
 |cons t L=>
  simp only[ApH,Ao4]at h1
  have h6:=h2 t (by simp)
  cases t with
  |ver w=>rw[h1.1];exact h6
  |arc p q=>
   have:=(AA3 h6.1 h6.2.1).1
   have e:x=n*(p+1)+q:=h1.1
   omega
theorem Ajh(n:Int)(xs:List Int)(h0:xs≠[])(hs:xs.length<2147483648)(hr:∀ x∈xs, -9223372036854775808≤x∧x≤9223372036854775807)(hn:xs.Nodup)(hm:∀ x,xs.head? = some x→Gx xs=x):
  goes (n,xs,())=some (decide (TI n xs),()):=by
 cases xs with
 |nil=>exact absurd rfl h0
 |cons x0 tl=>
  rw[Abw,AON]
  have i0:idx (x0::tl) (0:Int)=some x0:=by rw[Gz];rfl
  simp only[i0,AAp]
  by_cases hin:In n x0
  ·rw[Aoi hin]
   simp only[Aov]
   have hS:GI ([x0],Ah [] x0 1,[]):=by
    refine⟨by simp,fun k => ?_,fun y hy => ?_,?_,by simp[BI]⟩
    ·have:AS (Ah ([]:List (Int×Int)) x0 1) k=if k=x0 then some 1 else none:=by rw[Dz];rfl
     rw[this]
     by_cases e:k=x0<;>simp[e,Ah,BI]
    ·simp at hy;subst hy;simp[Ah,BI]
    ·simp[Ah,BI]
   have e:=Bx (step:=JP) (fun i (s:AaQ)=>(n,s.1.reverse,s.2.1,s.2.2,x0::tl,AK (x0::tl),(i:Int),())) (x0::tl) (goF n) ATn (fun i s=>GI s∧s.1.length≤i+1) (by omega)
    (fun i x s hi hx ⟨hI,hlen⟩=>by
     obtain⟨way,came,met⟩:=s
     cases way with
     |nil=>exact absurd rfl hI.ne
     |cons w r=>
      have hst:=AfW n (x0::tl) i x hx hi (by omega) (hr x (Aox hx)) w r came met (by simp only[Aot]at hlen hi hs;omega) hI.one hI.sub
      refine⟨fun s' h' => ?_,fun y h' => ?_⟩
      ·rw[h']at hst
       obtain⟨g1,g2,_⟩:=Abx hI h'
       refine⟨hst,g1,?_⟩
       simp only at g2 hlen
       omega
      ·rw[h']at hst
       exact hst)
    (fun s _=>by rw[JP,AM,AP,Aog (by omega)];rfl) ([x0],Ah [] x0 1,[]) ⟨hS,by simp⟩
   have e':AU JP many (n,[x0],Ah [] x0 1,[],x0::tl,AK (x0::tl),(0:Int),())=_:=e
   rw[e']
   have hk0:BI (Ah ([]:List (Int×Int)) x0 1)=[x0]:=rfl
   rcases AfU n (x0::tl) ([x0],Ah [] x0 1,[]) [x0] hS (fun x=>by rw[hk0])with⟨L,s',c',a1,a2,a3,a4,a5,a6,a7⟩|⟨a1,a2⟩
   ·rw[a4]
    obtain⟨t,L',rfl⟩:∃ t L',L=t::L':=by cases L with
     |nil=>cases a1
     |cons t L'=>exact⟨t,L',rfl⟩
    have ht:t = .ver x0:=by
     have h1:=Dv (a2 t (by simp))
     simp only[ApH,Ao4]at a1
     rw[← a1.1,B8,Aoq hin]at h1
     exact(Apr h1).symm
    subst ht
    have hLn:(Tok.ver x0::L').Nodup:=Ael (n:=n) (by rw[← a1];exact hn)
    have hbot:=AWN a3
    have hvs:=Ahg a3 (PS x0)
    have hk:(BI s'.2.2).length≤(BI s'.2.1).length:=DQ a5.nm fun x hx=>by
     have:=(a7 x).1 hx
     simp only[BI,AqU,Aqi,false_or]at this
     exact(a6 x).1 (hvs x this)
    have hiff:(s'.1.length=1∧(BI s'.2.2).length=(BI s'.2.1).length)↔TI n (x0::tl):=by
     constructor
     ·rintro⟨l1,l2⟩
      obtain⟨w,hw⟩:=List.length_eq_one_iff.1 l1
      rw[hw]at hbot a3
      simp at hbot
      subst hbot
      refine⟨_,a1,a2,Tok.Ap.toT ⟨w,L',c',rfl,a3,fun x hx => ?_⟩ hLn⟩
      have h1:=Sf a5.nm (fun x hx=>by
       have:=(a7 x).1 hx
       simp only[BI,AqU,Aqi,false_or]at this
       exact(a6 x).1 (hvs x this)) (by omega) x ((a6 x).1 hx)
      have:=(a7 x).1 h1
      simpa [BI]using this
     ·rintro⟨K,k1,k2,k3⟩
      have hKL:K=Tok.ver x0::L':=by
       have:∀ (A B:List Tok),A.map (Dj n)=B.map (Dj n)→(∀ t∈A,okT n t)→(∀ t∈B,okT n t)→A=B:=by
        intro A
        induction A with
        |nil=>intro B h _ _;cases B with
         |nil=>rfl
         |cons b B=>cases h
        |cons a A ih=>
         intro B h hA hB
         cases B with
         |nil=>cases h
         |cons b B=>
          simp only[ApH,Ao4]at h
          rw[Gl (hA a (by simp)) (hB b (by simp)) h.1,ih B h.2 (fun t ht=>hA t (by simp[ht])) fun t ht=>hB t (by simp[ht])]
       exact this _ _ (by rw[← k1,a1]) k2 a2
      subst hKL
      obtain⟨r,l',c,q1,q2,q3⟩:=k3.ALk
      cases q1
      rw[a3]at q2
      cases hs':s'.1 with
      |nil=>rw[hs']at q2;cases q2
      |cons w r'=>
       rw[hs']at q2
       cases q2
       refine⟨rfl,?_⟩
       have:=DQ a5.nc (b:=BI s'.2.2) fun x hx=>(a7 x).2 (.inr (q3 x ((a6 x).2 hx)))
       omega
    simp only[ATn,Au,AM,List.length_reverse]
    rw[XK,XK]at hiff
    by_cases l1:s'.1.length=1
    ·rw[Aoi (show(s'.1.length:Int)=1 by omega)]
     simp only[l1,Aq2]at hiff
     by_cases l2:s'.2.2.length=s'.2.1.length
     ·rw[Aoi (show(s'.2.2.length:Int)=(s'.2.1.length:Int) by omega),Aoi (hiff.1 l2)]
     ·rw[Aog (show ¬ (s'.2.2.length:Int)=(s'.2.1.length:Int) by omega),Aog (fun h=>l2 (hiff.2 h))]
    ·rw[Aog (show ¬ (s'.1.length:Int)=1 by omega),Aog (fun h=>l1 (hiff.2 h).1)]
   ·rw[a1]
    have:¬ TI n (x0::tl):=by
     rintro⟨K,k1,k2,k3⟩
     obtain⟨r,l',c,q1,q2,q3⟩:Tok.Ap K:=by
      obtain⟨t,L',rfl⟩:∃ t L',K=t::L':=by cases K with
       |nil=>cases k1
       |cons t L'=>exact⟨t,L',rfl⟩
      have h1:=Dv (k2 t (by simp))
      simp only[ApH,Ao4]at k1
      rw[← k1.1,B8,Aoq hin]at h1
      cases h1
      exact k3.ALk
     have hr0:r=x0:=by
      subst q1
      simp only[ApH,Ao4]at k1
      exact k1.1.symm
     subst hr0
     have:=a2 K k1 k2
     simp only at this
     rw[q2]at this
     cases this
    simp[this]
  ·rw[Aog hin]
   have:¬ TI n (x0::tl):=fun h=>hin (AcB h (hm x0 rfl))
   simp[this]
end Go.Pev.Pl
end
end
section
namespace Go.Pev.Pl.Tok
theorem AmP{v:Int}{p:List Tok}{c:List Int}(h:run ([v],[v]) p=some ([v],c))(hc:∀ x∈c,Tok.ver x∈p)(hn:p.Nodup):T p:=by
 cases p with
 |nil=>
  cases h
  have:=hc v (by simp)
  cases this
 |cons t p=>
  have h':=h
  rw[A3,ApO]at h'
  obtain⟨s1,h1,h2⟩:=h'
  rcases B1 h1 with⟨y,r,rfl,hw,rfl⟩|⟨a,b,r,rfl,hw,rfl⟩|⟨a,b,r,rfl,hw,hh,hnc,rfl⟩
  ·simp only[Ao4]at hw
   obtain⟨rfl,rfl⟩:=hw
   exact Ap.toT ⟨_,p,c,rfl,h,hc⟩ hn
  ·simp at hw
  ·simp only[Ao4]at hw
   obtain⟨rfl,rfl⟩:=hw
   simp only at hnc
   have hne:v≠b:=by rintro rfl;exact hnc (by simp)
   have hT:T ([Tok.arc v b]++comp [Tok.arc v b] [b,v]):=by
    have:comp [Tok.arc v b] [b,v]=[.ver b,.arc b v,.ver v]:=by simp[comp]
    rw[this]
    have h3:=T.add (.ver v) [] b (T.one v) hne (by simp;exact ApN hne)
    exact T.rot [.ver v] [.arc v b,.ver b,.arc b v] h3
   have:=Ajj p [.arc v b] [b,v] [b,v] c v (.arc v b) h2 ⟨by simp;exact ApN hne,by simp⟩ (by simp) rfl hT (by
    intro x hx
    have e:comp [Tok.arc v b] [b,v]=[.ver b,.arc b v,.ver v]:=by simp[comp]
    rw[e]at hx
    simp at hx
    simp[hx]) hc hn
   exact this
theorem T.join{u v:Int}{a b:List Tok}(hA:T (.ver u::a))(hB:T (.ver v::b))(hd:∀ x,Tok.ver x∈Tok.ver u::a→Tok.ver x∉Tok.ver v::b):
  T (.ver u :: .arc u v::(.ver v::b ++ .arc v u::a)):=by
 obtain⟨_,fA2,fA3⟩:=hA.facts
 obtain⟨_,fB2,fB3⟩:=hB.facts
 have nA:=hA.nodup
 have nB:=hB.nodup
 obtain⟨_,_,c1,e1,h1,m1⟩:=hA.ALk
 cases e1
 obtain⟨_,_,c2,e2,h2,m2⟩:=hB.ALk
 cases e2
 have huv:u≠v:=by rintro rfl;exact hd u (by simp) (by simp)
 have nAB:∀ t,t∈Tok.ver u::a→t∉Tok.ver v::b:=fun t ht hb=>hd _ (fA2 t ht) (fB2 t hb)
 have n1:Tok.arc u v∉Tok.ver u::a:=fun h=>hd v (fA3 _ _ h).2.1 (by simp)
 have n2:Tok.arc u v∉Tok.ver v::b:=fun h=>hd u (by simp) (fB3 _ _ h).1
 have n3:Tok.arc v u∉Tok.ver u::a:=fun h=>hd v (fA3 _ _ h).1 (by simp)
 have n4:Tok.arc v u∉Tok.ver v::b:=fun h=>hd u (by simp) (fB3 _ _ h).2.1
 have hnd:(Tok.ver u :: .arc u v::(.ver v::b ++ .arc v u::a)).Nodup:=by
  rw[ApJ]at nA
  have q1:Tok.ver u∉Tok.ver v::b:=nAB _ (by simp)
  rw[ApJ,ApJ,AqZ,ApJ (a:=Tok.arc v u)]
  refine⟨?_,?_,nB,⟨fun h=>n3 (Ao7 _ h),nA.2⟩,fun x hx y hy => ?_⟩
  ·intro h
   rcases Aoo.1 h with h|h
   ·cases h
   ·rcases Aom.1 h with h|h
    ·exact q1 h
    ·rcases Aoo.1 h with h|h
     ·cases h
     ·exact nA.1 h
  ·intro h
   rcases Aom.1 h with h|h
   ·exact n2 h
   ·rcases Aoo.1 h with h|h
    ·cases h;exact huv rfl
    ·exact n1 (Ao7 _ h)
  ·rintro rfl
   rcases Aoo.1 hy with h|h
   ·subst h;exact n4 hx
   ·exact nAB x (Ao7 _ h) hx
 rw[A3,DZ,ApQ]at h1
 obtain⟨d2,k1,k2⟩:=Hg (Z:=(· = u)) (c2:=[v,u]) (low:=[u]) h2 (by simp) (fun y=>by simp) (fun p w hm=>by rintro rfl;exact hd w (by simp) (fB3 _ _ hm).2.1) (by simp)
 obtain⟨d3,g1,g2⟩:=Hg (Z:=(·∈c2)) (c2:=d2) (low:=[]) h1 (by simp) (fun y=>by rw[k2];simp[or_comm]) (fun p w hm hz=>hd w (fA3 _ _ (Ao7 _ hm)).2.1 (m2 w hz)) (by simp)
 refine Ap.toT ⟨u,_,d3,rfl,?_,fun x hx => ?_⟩ hnd
 ·rw[A3,DZ,ApQ,A3,Fp _ _ _ _ (by simp) (by simp;exact ApN huv),ApQ,Da]
  rw[show([v]++[u]:List Int)=[v,u]from rfl]at k1
  rw[k1,ApQ,A3,Gs,ApQ]
  simpa using g1
 ·rcases(g2 x).1 hx with h|h
  ·have:=m1 x h
   simp only[Aoo,Aom]at this ⊢
   rcases this with h|h<;>simp[h]
  ·have:=m2 x h
   simp only[Aoo,Aom]at this ⊢
   rcases this with h|h<;>simp[h]
theorem AnL{u v:Int}(huv:u≠v):∀ {l:List Tok} {x w1 c c1 c0:List Int},run (x++[v,u],c) l=some (w1,c1)→Tok.arc v u∉l→(∀ y,y∈c↔y∈c0∨y=u)→u∉c0 →
  ∃ x' d,w1=x'++[v,u]∧run (x++[v],c0) l=some (x'++[v],d)∧(∀ y,y∈c1↔y∈d∨y=u)∧u∉d:=by
 intro l
 induction l with
 |nil=>intro x w1 c c1 c0 h _ hc hu;cases h;exact⟨x,c0,rfl,rfl,hc,hu⟩
 |cons t l ih=>
  intro x w1 c c1 c0 h hna hc hu
  rw[A3,ApO]at h
  obtain⟨s1,h1,h2⟩:=h
  have hna':Tok.arc v u∉l:=fun h=>hna (Ao7 _ h)
  rcases B1 h1 with⟨y,r,rfl,hw,rfl⟩|⟨a,b,r,rfl,hw,rfl⟩|⟨a,b,r,rfl,hw,hh,hnc,rfl⟩
  ·obtain⟨x',d,g1,g2,g3⟩:=ih h2 hna' hc hu
   refine⟨x',d,g1,?_,g3⟩
   simp only at hw
   have:∃ r',x++[v]=y::r':=by
    cases x with
    |nil=>simp at hw;exact⟨[],by simp[hw.1]⟩
    |cons z x=>simp at hw;exact⟨x++[v],by simp[hw.1]⟩
   obtain⟨r',e⟩:=this
   rw[A3,e,DZ,ApQ,← e]
   exact g2
  ·simp only at hw
   cases x with
   |nil=>
    simp only[ApI,Ao4]at hw
    obtain⟨rfl,rfl,_⟩:=hw
    exact absurd (by simp) hna
   |cons z x=>
    simp only[ApE,Ao4]at hw
    obtain⟨rfl,hw⟩:=hw
    simp only[← hw]at h2
    obtain⟨x',d,g1,g2,g3⟩:=ih h2 hna' hc hu
    refine⟨x',d,g1,?_,g3⟩
    have:∃ r',x++[v]=b::r':=by
     cases x with
     |nil=>simp at hw;exact⟨[],by simp[hw.1]⟩
     |cons y x=>simp at hw;exact⟨x++[v],by simp[hw.1]⟩
    obtain⟨r',e⟩:=this
    rw[A3,ApE,e,Gs,ApQ,← e]
    exact g2
  ·simp only at hw hnc
   have hub:u≠b:=by rintro rfl;exact hnc ((hc u).2 (.inr rfl))
   have hbc:b∉c0:=fun h=>hnc ((hc b).2 (.inl h))
   have h2':run ((b::x)++[v,u],b::c) l=some (w1,c1):=by
    rw[← hw]at h2
    exact h2
   obtain⟨x',d,g1,g2,g3⟩:=ih (c0:=b::c0) h2' hna' (fun y=>by simp only[Aoo,hc,or_assoc]) (by
    intro hm
    rcases Aoo.1 hm with h|h
    ·exact hub h
    ·exact hu h)
   refine⟨x',d,g1,?_,g3⟩
   have:∃ r',x++[v]=a::r'∧r'.head?≠some b:=by
    cases x with
    |nil=>
     simp at hw
     exact⟨[],by simp[hw.1],by simp⟩
    |cons z x=>
     simp only[ApE,Ao4]at hw
     refine⟨x++[v],by simp[hw.1],?_⟩
     rw[← hw.2]at hh
     cases x with
     |nil=>simpa using hh
     |cons y x=>simpa using hh
   obtain⟨r',e,e2⟩:=this
   rw[A3,e,Fp _ _ _ _ e2 hbc,ApQ,← e]
   exact g2
theorem T.split{u v:Int}{p q:List Tok}(h:T (.arc u v::(p ++ .arc v u::q))):T p∧Tok.ver v∈p:=by
 have hn:=h.nodup
 obtain⟨_,f2,f3⟩:=h.facts
 have huv:u≠v:=(f3 u v (by simp)).2.2.2
 obtain⟨t,ht⟩:∃ t,(Tok.arc u v::(p ++ .arc v u::q)).getLast? = some t:=⟨_,ArG (by simp)⟩
 obtain⟨c,h1,h2⟩:=h.toC _ (Rot.refl _) t ht
 rw[A3,ApO]at h1
 obtain⟨s1,k1,k2⟩:=h1
 rcases B1 k1 with⟨y,r,e,hw,_⟩|⟨a,b,r,e,hw,_⟩|⟨a,b,r,e,hw,hh,hnc,rfl⟩
 ·cases e
 ·cases e;simp at hw
 ·cases e
  simp only[Ao4]at hw
  obtain⟨htu,rfl⟩:=hw
  rw[htu]at k2
  simp only at k2
  rw[Da,ApO]at k2
  obtain⟨⟨w1,c1⟩,g1,g2⟩:=k2
  have hi:Inv ([v,u],[v,u]):=⟨by simp;exact ApN huv,by simp⟩
  obtain⟨i1,i2,_⟩:=I7 g1 hi
  rw[ApJ,AqZ,ApJ (a:=Tok.arc v u)]at hn
  have hnp:Tok.arc v u∉p:=fun hm=>hn.2.2.2 _ hm _ (by simp) rfl
  obtain⟨x',d,e1,e2,e3,e4⟩:=AnL (x:=[]) (c0:=[v]) huv g1 hnp (fun y=>by simp) (by simp;exact huv)
  rw[A3,ApO]at g2
  obtain⟨s2,j1,j2⟩:=g2
  have hx':x'=[]∧s2=([u],c1):=by
   rcases B1 j1 with⟨y,r,e,hw,_⟩|⟨a,b,r,e,hw,hs⟩|⟨a,b,r,e,hw,hh,hnc,_⟩
   ·cases e
   ·cases e
    simp only at hw
    rw[e1]at hw
    cases x' with
    |nil=>
     simp only[ApI,Ao4,Aq2]at hw
     rw[hs,← hw]
     exact⟨rfl,rfl⟩
    |cons z x'=>
     exfalso
     have hnd:=i1.1
     simp only at hnd
     rw[e1,hw]at hnd
     simp only[ApE,Ao4]at hw
     have:v∈u::r:=by rw[← hw.2];simp
     rw[ApJ]at hnd
     exact hnd.1 this
   ·cases e
    exact absurd (i2 u (by simp)) hnc
  obtain⟨rfl,rfl⟩:=hx'
  have hmet:∀ x∈d,Tok.ver x∈p:=by
   intro x hx
   have hxu:x≠u:=by rintro rfl;exact e4 hx
   have hx1:x∈c1:=(e3 x).2 (.inl hx)
   have hi2:Inv ([u],c1):=⟨by simp,fun y hy=>by simp at hy;subst hy;exact i2 y (by simp)⟩
   have hx2:=(I7 j2 hi2).2.1 x hx1
   have hx3:=(h2 x).1 hx2
   obtain⟨g,_⟩:=ACq (z:=x) (c:=c1.filter (·≠x)) j2 (by simp;exact hxu) (fun y=>by
    simp only[Apm,Aok]
    constructor
    ·intro hh
     by_cases e:y=x
     ·exact .inr e
     ·exact .inl ⟨hh,by simpa using e⟩
    ·rintro (hh|rfl)
     ·exact hh.1
     ·exact hx1) (by simp)
   simp only[Aoo,reduceCtorEq,Aom,false_or]at hx3
   rcases hx3 with hh|hh
   ·exact hh
   ·exact absurd hh g
  have e2':run ([v],[v]) p=some ([v],d):=e2
  have hvd:v∈d:=(I7 e2' (PS v)).2.1 v (by simp)
  exact⟨AmP e2' hmet hn.2.1,hmet v hvd⟩
end Go.Pev.Pl.Tok
end
section
namespace Go.Pev
open Go.RowKit
def AJV{R:Type}(slot:Nat)(H:List Ob)(fz:List Bool)(k:AV→Eff→Option R)(v:AV)(e:Eff):Option R:=
 match e.heap with
 |none=>match v with
  |.win id 0 n=>match(CO e H)[id]? with
   |some (.arr T t xs)=>match Aj (GR e fz) id&&At (CO e H) (GR e fz) (slot+3)&&(e.objs.any fun p=>Nat.beq p.1 id)with
    |true=>k (.own (slot+3)) { objs:=e.objs++[(id,.dead),(slot+3,.arr T t (B0 n xs))],frz:=e.frz }
    |false=>none
   |_=>none
  |_=>none
 |some _=>none
def KR(s:Spec):Spec:=fun R args H fz slot k=>s R args H fz slot (AJV slot H fz k)
section
variable {P:Program} {g:FuncId}
theorem AfV{w:World}{F:Nat→Prop}{m:Mp}{H:List Ob}{fz:List Bool}(hi:HI w F m H fz){id n slot:Nat}{T:TypeId}{t:Ty}{xs:List t.den}(ho:H[id]? = some (.arr T t xs))(hf:Aj fz id=true)
  (hs:At H fz slot=true) {u:Value} (hr:Rep w F m H (.win id 0 n) u) :
  ∃ m',Ap w F m H fz w F m' ((H.set id .dead).set slot (.arr T t (B0 n xs))) fz∧Rep w F m' ((H.set id .dead).set slot (.arr T t (B0 n xs))) (.own slot) u:=by
 have hob:=hi.obj id _ ho
 obtain⟨h0,hob⟩:=hob
 unfold Rep at hr
 rw[ho]at hr
 obtain⟨hle,hr⟩:=hr
 rw[Aph]at hle
 have hsn:slot≠id:=AOP hs ho
 have hkill:=Ap.kill hi (CC ho hf)
 have zero:∀ a,n=0→u = .slice a 0 0→∃ m',Ap w F m H fz w F m' ((H.set id .dead).set slot (.arr T t (B0 n xs))) fz∧Rep w F m' ((H.set id .dead).set slot (.arr T t (B0 n xs))) (.own slot) u:=by
  intro a hn hu
  subst hn;subst hu
  obtain⟨m',hg,hrep⟩:=Dh (w:=w) hkill.2 (Lm hs hsn) T h0 a
  exact⟨m',hkill.trans hg,hrep⟩
 cases hm:m id with
 |none=>
  rw[hm]at hr hob
  obtain⟨a,e1⟩:=hr
  simp only at hob
  subst hob
  have hn:n=0:=by simpa using hle
  exact zero a hn (by rw[e1,hn])
 |some p=>
  obtain⟨b,cap⟩:=p
  rw[hm]at hr hob
  obtain⟨vs,row,e1,e2,e3,e4,e7,e8⟩:=hob
  obtain⟨a,rfl,ha⟩:=hr
  rcases Ap1 cap with hc|hc
  ·have:n=0:=by omega
   exact zero a this (by rw[this,hc])
  ·have:=ha hc
   rw[ArJ]at this
   subst this
   have hk:=fun(x:t.den) cs (h:Dat w F t x cs)=>Dat.length t h
   have hlen:(xs.take n).length=n:=by rw[Ao8];omega
   have hrw:=Dw hk n e7
   have hrl:=A5 hk hrw
   rw[hlen]at hrl
   have hg:=Ap.move (w':=w) hi (CC ho hf) hm hs (ob:=.arr T t (B0 n xs)) trivial (b':=b) (c':=cap) (.inl rfl) rfl rfl rfl (Aop _) (fun _ _ _=>rfl) (fun _=>⟨h0,vs,row.take (n*t.size),e1,by
    show(xs.take n).length≤cap
    rw[hlen];omega,e3,e4,hrw,by
    rw[hrl,← e8,Aq7,Aps]
    rw[A5 hk e7]
    exact Apd _ hle⟩)
   refine⟨_,hg,?_⟩
   have hlts:=Al (BN hs).1
   unfold Rep
   rw[Aw (by simpa using hlts),Aq]
   show Value.slice _ n (cap-0)=Value.slice _ (xs.take n).length cap
   rw[hlen,Nat.sub_zero]
theorem Yn{s:Spec}(hs:AN P g s):AN P g (KR s):=by
 intro R args H fz slot k r hk
 obtain⟨v,e,h1,h2,h3,h4⟩:=hs R args H fz slot _ r hk
 unfold AJV at h1
 split at h1
 ·rename_i he
  split at h1
  ·rename_i id n
   split at h1
   ·rename_i T t xs ho
    split at h1
    ·rename_i hc
     refine⟨_,_,h1,fun R' k' => ?_,h3,fun w F m vals hi hr => ?_⟩
     ·unfold KR
      rw[h2]
      simp only[AJV,he,ho,hc]
     ·refine(h4 w F m vals hi hr).mono ?_
      rintro en w' ⟨u,rfl,F',m',hg,hrep⟩
      simp only[Aol]at hc
      obtain⟨m2,hg2,hr2⟩:=AfV hg.2 ho hc.1.1 hc.1.2 hrep
      have eH:CO { objs:=e.objs++[(id,.dead),(slot+3,.arr T t (B0 n xs))],frz:=e.frz } H=((CO e H).set id .dead).set (slot+3) (.arr T t (B0 n xs)):=by
       rw[CE rfl,CE he,Yu]
       rfl
      have eF:GR { objs:=e.objs++[(id,.dead),(slot+3,.arr T t (B0 n xs))],frz:=e.frz } fz=GR e fz:=by
       rw[CR rfl,CR he]
      refine⟨u,rfl,F',m2,?_,?_⟩
      ·rw[eH,eF];exact hg.trans hg2
      ·rw[eH];exact hr2
    ·cases h1
   ·cases h1
  ·cases h1
 ·cases h1
theorem ZO{np na:Nat}{its outs:AE}{rs:List RS}{f:B6 (leaves its)→Option (B6 (leaves outs))}(hf:∀ x,f x=none):AN P g (AF np na its outs rs f):=by
 intro R args H fz slot k r hk
 unfold AF at hk
 split at hk
 ·cases hk
 ·split at hk
  ·cases hk
  ·rw[hf]at hk;cases hk
end
section
variable {S:List Nat} {H H':List Ob}
theorem Hq.AoW{s:Spec}(h:Hq s):PR s:=
 fun R args H H' fz fz' slot k S hS _ ha=>h R args H H' fz fz' slot k ⟨fun id hid=>ha.heap id (hS id hid),ha.slotH,ha.slotF,ha.len,fun id hid=>by cases hid⟩
def AEW:AE→Bool
 |[]=>true
 |(.obj _,_)::_=>false
 |_::r=>AEW r
def AnQ(S:List Nat)(v:AV):Prop:=∀ id∈Am v,id∈S
def AGj(S:List Nat)(bs:List Bnd):Prop:=∀ b∈bs,∀ id,b.id? = some id→id∈S
theorem AGj.get{bs:List Bnd}(h:AGj S bs){j:Nat}{b:Bnd}{id:Nat}(hj:bs[j]? = some b)(hi:b.id? = some id):id∈S:=h b (Aox hj) id hi
theorem AGj.snoc{bs:List Bnd}(h:AGj S bs){b:Bnd}(hb:∀ id,b.id? = some id→id∈S):AGj S (bs++[b]):=by
 intro x hx id hi
 rcases Aom.1 hx with hx|hx
 ·exact h x hx id hi
 ·simp only[ApB]at hx;subst hx;exact hb id hi
theorem Aba{tm:List AV}{bs:List Bnd}{l:Loc}(hS:∀ id∈BH tm,id∈S)(hc:ABE S H)(hH:∀ id∈S,H[id]? = H'[id]?)(hb:AGj S bs)(hl:∀ j,l≠.obj j):
  look tm H bs l=look tm H' bs l∧∀ v,look tm H bs l=some v→AnQ S v:=by
 cases l with
 |tmp t=>
  refine⟨rfl,fun v hv id hid=>hS id ?_⟩
  exact CT (Aox hv) hid
 |cell j c=>
  simp only[look]
  cases hj:bs[j]? with
  |none=>exact⟨rfl,fun v hv=>by cases hv⟩
  |some b=>
   cases b with
   |none=>exact⟨rfl,fun v hv=>by cases hv⟩
   |cut id=>exact⟨rfl,fun v hv=>by cases hv⟩
   |whole id=>
    have hid:=hb.get hj (id:=id) rfl
    simp only
    rw[hH id hid]
    refine⟨rfl,fun v hv => ?_⟩
    cases ho:H'[id]? with
    |none=>rw[ho]at hv;cases hv
    |some o=>
     rw[ho]at hv
     cases o<;>simp only at hv<;>first|(cases hv;done)|skip
     rename_i cs
     intro i hi
     exact hc id hid cs (by rw[hH id hid,ho]) i (CT (Aox hv) hi)
 |cap t i=>
  refine⟨rfl,fun v hv => ?_⟩
  simp only[look]at hv
  cases ht:tm[t]? with
  |none=>rw[ht]at hv;cases hv
  |some a=>
   rw[ht]at hv
   cases a<;>simp only at hv<;>first|(cases hv;done)|skip
   ·rename_i f cs
    intro id hid
    refine hS id (CT (Aox ht) ?_)
    simp only[Am]
    exact CT (Aox hv) hid
   ·rename_i f cs
    intro id hid
    refine hS id (CT (Aox ht) ?_)
    simp only[Am]
    exact CT (Aox hv) hid
 |obj j=>exact absurd rfl (hl j)
theorem LH{f:List Nat}{fz fz':List Bool}(hl:fz.length=fz'.length){id:Nat}(h:fz.getD id false=fz'.getD id false):(Ak f fz).getD id false=(Ak f fz').getD id false:=by
 rw[Ax,Ax,h,hl]
theorem Aj6{tm:List AV}(hS:∀ id∈BH tm,id∈S)(hc:ABE S H)(hH:∀ id∈S,H[id]? = H'[id]?):∀ (its:AE) (fz fz':List Bool) (bs:List Bnd),AEW its=true→AGj S bs→fz.length=fz'.length→(∀ id∈S,fz.getD id false=fz'.getD id false) →
  dec tm H its fz bs=dec tm H' its fz' bs:=by
 intro its
 induction its with
 |nil=>intro fz fz' bs _ _ _ _;rfl
 |cons p r ih=>
  intro fz fz' bs hn hb hlen hz
  obtain⟨l,c⟩:=p
  have hno:(∀ j,l≠.obj j)∧AEW r=true:=by
   cases l with
   |obj j=>cases hn
   |tmp t=>exact⟨fun j h=>(by cases h),hn⟩
   |cell a b=>exact⟨fun j h=>(by cases h),hn⟩
   |cap a b=>exact⟨fun j h=>(by cases h),hn⟩
  obtain⟨e1,e2⟩:=Aba hS hc hH hb hno.1
  have ihr:=fun bs hb=>ih fz fz' bs hno.2 hb hlen hz
  have unf:∀ id∈S,Aj fz id=Aj fz' id:=fun id hid=>by unfold Aj;rw[hz id hid]
  cases c with
  |dat t=>
   simp only[dec,← e1]
   cases hv:look tm H bs l with
   |none=>rfl
   |some v=>
    simp only
    rw[Zl t v fun id hid=>hH id (e2 v hv id hid)]
    cases Zm H' t v with
    |none=>rfl
    |some q=>
     obtain⟨x,f⟩:=q
     simp only
     rw[ih (Ak f fz) (Ak f fz') bs hno.2 hb (by rw[Cy,Cy,hlen]) (fun id hid=>LH hlen (hz id hid))]
  |own T e=>
   simp only[dec,← e1]
   cases hv:look tm H bs l with
   |none=>rfl
   |some v=>
    cases v with
    |nils e'=>simp only;rw[ihr _ (hb.snoc fun id h=>by cases h)]
    |own id=>
     have hid:id∈S:=e2 _ hv id (by simp[Am])
     simp only
     rw[← hH id hid,unf id hid,ihr _ (hb.snoc fun id' h=>by simp only[Bnd.id?,Aoh]at h;subst h;exact hid)]
    |win id off n=>
     have hid:id∈S:=e2 _ hv id (by simp[Am])
     cases off with
     |succ off=>rfl
     |zero=>
      simp only
      rw[← hH id hid,unf id hid,ihr _ (hb.snoc fun id' h=>by simp only[Bnd.id?,Aoh]at h;subst h;exact hid)]
    |_=>rfl
  |box n=>
   simp only[dec,← e1]
   cases hv:look tm H bs l with
   |none=>rfl
   |some v=>
    cases v with
    |ptr id off=>
     have hid:id∈S:=e2 _ hv id (by simp[Am])
     cases off with
     |succ off=>rfl
     |zero=>
      simp only
      rw[← hH id hid,ihr _ (hb.snoc fun id' h=>by simp only[Bnd.id?,Aoh]at h;subst h;exact hid)]
    |_=>rfl
  |map k v=>
   simp only[dec,← e1]
   cases hv:look tm H bs l with
   |none=>rfl
   |some u=>
    cases u with
    |mp id=>
     have hid:id∈S:=e2 _ hv id (by simp[Am])
     simp only
     rw[← hH id hid,ihr _ (hb.snoc fun id' h=>by simp only[Bnd.id?,Aoh]at h;subst h;exact hid)]
    |_=>rfl
  |rows T e t=>
   simp only[dec,← e1]
   cases hv:look tm H bs l with
   |none=>rfl
   |some u=>
    cases u with
    |own id=>
     have hid:id∈S:=e2 _ hv id (by simp[Am])
     simp only
     rw[← hH id hid,unf id hid,ihr _ (hb.snoc fun id' h=>by simp only[Bnd.id?,Aoh]at h;subst h;exact hid)]
    |_=>rfl
  |mrows j e t=>
   simp only[dec,← e1]
   cases hv:look tm H bs l with
   |none=>rfl
   |some u=>
    cases u with
    |mp id=>
     have hid:id∈S:=e2 _ hv id (by simp[Am])
     simp only
     rw[← hH id hid,unf id hid,ihr _ (hb.snoc fun id' h=>by simp only[Bnd.id?,Aoh]at h;subst h;exact hid)]
    |_=>rfl
  |aptr T e n=>
   simp only[dec,← e1]
   cases hv:look tm H bs l with
   |none=>rfl
   |some u=>
    cases u with
    |aptr id n'=>
     have hid:id∈S:=e2 _ hv id (by simp[Am])
     simp only
     rw[← hH id hid,unf id hid,ihr _ (hb.snoc fun id' h=>by simp only[Bnd.id?,Aoh]at h;subst h;exact hid)]
    |_=>rfl
  |aptr' j n=>simp only[dec,← e1,ihr bs hb]
  |bndp f j=>simp only[dec,← e1,ihr bs hb]
  |nilp=>simp only[dec,← e1,ihr bs hb]
  |own' j=>simp only[dec,← e1,ihr bs hb]
  |ptr' j off=>simp only[dec,← e1,ihr bs hb]
  |map' j=>simp only[dec,← e1,ihr bs hb]
  |sub' j=>simp only[dec,← e1,ihr bs hb]
  |win' j=>
   simp only[dec,← e1]
   rw[ihr bs hb]
   cases hv:look tm H bs l with
   |none=>rfl
   |some v=>
    cases v with
    |own id=>
     have hid:id∈S:=e2 _ hv id (by simp[Am])
     cases bs[j]? with
     |none=>rfl
     |some b=>
      cases b with
      |whole id'=>
       refine Eq.trans (b:=match decide (id=id'),H[id]? with
        |true,some (.arr _ _ ys)=>(match dec tm H' r fz' bs with
         |some (xs,bs',g)=>some ((AK ys,xs),bs',g)
         |none=>none)
        |_,_=>none) rfl ?_
       rw[hH id hid]
       rfl
      |_=>rfl
    |win id off n=>
     cases off with
     |succ off=>cases bs[j]?<;>rfl
     |zero=>
      cases bs[j]? with
      |none=>rfl
      |some b=>cases b<;>rfl
    |_=>cases bs[j]?<;>rfl
  |clo f ps=>simp only[dec,← e1,ihr bs hb]
  |bnd f j=>simp only[dec,← e1,ihr bs hb]
  |prs T j=>
   simp only[dec,← e1]
   cases hv:look tm H bs l with
   |none=>rfl
   |some v=>
    cases v with
    |nils e'=>simp only;rw[ihr _ (hb.snoc fun id h=>by cases h)]
    |own id=>
     have hid:id∈S:=e2 _ hv id (by simp[Am])
     simp only
     rw[← hH id hid,ihr _ (hb.snoc fun id' h=>by simp only[Bnd.id?,Aoh]at h;subst h;exact hid)]
    |_=>rfl
  |nil e=>simp only[dec,← e1,ihr bs hb]
theorem S4{fz fz':List Bool}:∀ (n:Nat) (bs:List Bnd) (slot:Nat),(∀ s,slot≤s→s<slot+n→At H fz s=At H' fz' s)→Fj H fz (Ce n bs slot) bs=Fj H' fz' (Ce n bs slot) bs:=by
 intro n
 induction n with
 |zero=>intro bs slot _;cases bs<;>rfl
 |succ n ih=>
  intro bs slot h
  cases bs with
  |nil=>
   simp only[Ce,Fj,List.tail_nil]
   rw[h slot (Aop _) (by omega),ih [] (slot+1) fun s h1 h2=>h s (by omega) (by omega)]
  |cons b bs=>
   cases b with
   |whole id=>
    simp only[Ce,Fj,Aqm]
    rw[ih bs slot fun s h1 h2=>h s h1 (by omega)]
   |none=>
    simp only[Ce,Fj,Aqm]
    rw[h slot (Aop _) (by omega),ih bs (slot+1) fun s h1 h2=>h s (by omega) (by omega)]
   |cut id=>
    simp only[Ce,Fj,Aqm]
    rw[h slot (Aop _) (by omega),ih bs (slot+1) fun s h1 h2=>h s (by omega) (by omega)]
theorem AH{np na:Nat}{its outs:AE}{rs:List RS}{f:B6 (leaves its)→Option (B6 (leaves outs))}(hno:AEW its=true)(hn:Nat.ble (C7 outs) 4=true):PR (AF np na its outs rs f):=by
 intro R args H H' fz fz' slot k S hS hc ha
 have hn4:=ArL hn
 have hd:dec args H its fz []=dec args H' its fz' []:=Aj6 hS hc ha.heap its fz fz' [] hno (fun b hb=>by cases hb) ha.len ha.wrF
 unfold AF
 rw[hd]
 split
 ·rfl
 ·rename_i x bs fr _
  split
  ·rfl
  ·split
   ·rfl
   ·have hf:∀ (g:List Nat) s,slot≤s→s<slot+C7 outs→At H (Ak g fz) s=At H' (Ak g fz') s:=fun g s h1 h2=>D1 ha h1 (by omega) g
    unfold KG
    rw[S4 (fz:=fz) (fz':=fz') (C7 outs) (bs.take np) slot (hf []),S4 (fz:=Ak fr fz) (fz':=Ak fr fz') (C7 outs) (bs.take np) slot (hf fr)]
theorem AfH:∀ (n:Nat) (bs:List Bnd) (slot i:Nat),i∈Ce n bs slot→(∃ b∈bs,b.id? = some i)∨(slot≤i∧i<slot+n):=by
 intro n
 induction n with
 |zero=>intro bs slot i h;cases bs<;>cases h
 |succ n ih=>
  intro bs slot i h
  have next:∀ bs',i∈slot::Ce n bs' (slot+1)→(∃ b∈bs',b.id? = some i)∨(slot≤i∧i<slot+(n+1)):=by
   intro bs' h
   rcases Aoo.1 h with rfl|h
   ·exact .inr ⟨Aop _,by omega⟩
   ·rcases ih bs' (slot+1) i h with h|h
    ·exact .inl h
    ·exact .inr ⟨by omega,by omega⟩
  cases bs with
  |nil=>exact next [] h
  |cons b bs=>
   cases b with
   |whole id=>
    simp only[Ce]at h
    rcases Aoo.1 h with rfl|h
    ·exact .inl ⟨.whole i,by simp,rfl⟩
    ·rcases ih bs slot i h with⟨b,hb,e⟩|h
     ·exact .inl ⟨b,by simp[hb],e⟩
     ·exact .inr ⟨h.1,by omega⟩
   |none=>rcases next bs h with⟨b,hb,e⟩|h;exact .inl ⟨b,by simp[hb],e⟩;exact .inr h
   |cut id=>rcases next bs h with⟨b,hb,e⟩|h;exact .inl ⟨b,by simp[hb],e⟩;exact .inr h
theorem Afk{tm:List AV}(hS:∀ id∈BH tm,id∈S)(hc:ABE S H):∀ (its:AE) (fz:List Bool) (bs:List Bnd) (x:B6 (leaves its)) (bs':List Bnd) (fr:List Nat),AEW its=true→AGj S bs →
  dec tm H its fz bs=some (x,bs',fr)→AGj S bs':=by
 intro its
 induction its with
 |nil=>intro fz bs x bs' fr _ hb h;simp only[dec,Aoh]at h;cases h;exact hb
 |cons p r ih=>
  intro fz bs x bs' fr hn hb h
  obtain⟨l,c⟩:=p
  have hno:(∀ j,l≠.obj j)∧AEW r=true:=by
   cases l with
   |obj j=>cases hn
   |tmp t=>exact⟨fun j h=>(by cases h),hn⟩
   |cell a b=>exact⟨fun j h=>(by cases h),hn⟩
   |cap a b=>exact⟨fun j h=>(by cases h),hn⟩
  have e2:=(Aba (H':=H) hS hc (fun _ _=>rfl) hb hno.1 (l:=l)).2
  have one:∀ {id:Nat} {b:Bnd},id∈S→b.id? = some id→AGj S (bs++[b]):=fun hid hbid=>hb.snoc fun id' h'=>by rw[hbid]at h';cases h';exact hid
  cases c<;>simp only[dec]at h
  case dat t=>
   split at h
   ·split at h
    ·split at h
     ·split at h
      ·rename_i hd;cases h;exact ih _ _ _ _ _ hno.2 hb hd
      ·cases h
     ·cases h
    ·cases h
   ·cases h
  case own T e=>
   split at h
   ·split at h
    ·split at h
     ·rename_i hd;cases h;exact ih _ _ _ _ _ hno.2 (hb.snoc fun id h=>by cases h) hd
     ·cases h
    ·cases h
   ·rename_i id hl
    split at h
    ·split at h
     ·split at h
      ·rename_i hd;cases h;exact ih _ _ _ _ _ hno.2 (one (e2 _ hl id (by simp[Am])) rfl) hd
      ·cases h
     ·cases h
    ·cases h
   ·rename_i id n hl
    split at h
    ·split at h
     ·split at h
      ·rename_i hd;cases h;exact ih _ _ _ _ _ hno.2 (one (e2 _ hl id (by simp[Am])) rfl) hd
      ·cases h
     ·cases h
    ·cases h
   ·cases h
  case prs T j=>
   split at h
   ·split at h
    ·rename_i hd;cases h;exact ih _ _ _ _ _ hno.2 (hb.snoc fun id h=>by cases h) hd
    ·cases h
   ·rename_i id hl
    split at h
    ·split at h
     ·split at h
      ·rename_i hd;cases h;exact ih _ _ _ _ _ hno.2 (one (e2 _ hl id (by simp[Am])) rfl) hd
      ·cases h
     ·cases h
    ·cases h
   ·cases h
  case box n=>
   split at h
   ·rename_i id hl
    split at h
    ·split at h
     ·exact ih _ _ _ _ _ hno.2 (one (e2 _ hl id (by simp[Am])) rfl) h
     ·cases h
    ·cases h
   ·cases h
  case map k v=>
   split at h
   ·rename_i id hl
    split at h
    ·split at h
     ·split at h
      ·rename_i hd;cases h;exact ih _ _ _ _ _ hno.2 (one (e2 _ hl id (by simp[Am])) rfl) hd
      ·cases h
     ·cases h
    ·cases h
   ·cases h
  case rows T e t=>
   split at h
   ·rename_i id hl
    split at h
    ·split at h
     ·split at h
      ·rename_i hd;cases h;exact ih _ _ _ _ _ hno.2 (one (e2 _ hl id (by simp[Am])) rfl) hd
      ·cases h
     ·cases h
    ·cases h
   ·cases h
  case mrows j e t=>
   split at h
   ·rename_i id hl
    split at h
    ·split at h
     ·split at h
      ·rename_i hd;cases h;exact ih _ _ _ _ _ hno.2 (one (e2 _ hl id (by simp[Am])) rfl) hd
      ·cases h
     ·cases h
    ·cases h
   ·cases h
  case aptr T e n=>
   split at h
   ·rename_i id n' hl
    split at h
    ·split at h
     ·split at h
      ·rename_i hd;cases h;exact ih _ _ _ _ _ hno.2 (one (e2 _ hl id (by simp[Am])) rfl) hd
      ·cases h
     ·cases h
    ·cases h
   ·cases h
  case bndp f j=>
   split at h
   ·split at h
    ·exact ih _ _ _ _ _ hno.2 hb h
    ·cases h
   ·cases h
  case nilp=>
   cases hv:look tm H bs l with
   |none=>rw[hv]at h;cases h
   |some v=>
    rw[hv]at h
    cases v<;>simp only at h<;>first|exact ih _ _ _ _ _ hno.2 hb h|cases h
  case aptr' j n=>
   split at h
   ·split at h
    ·exact ih _ _ _ _ _ hno.2 hb h
    ·cases h
   ·cases h
  case own' j=>
   split at h
   ·split at h
    ·exact ih _ _ _ _ _ hno.2 hb h
    ·cases h
   ·cases h
  case ptr' j off=>
   split at h
   ·split at h
    ·exact ih _ _ _ _ _ hno.2 hb h
    ·cases h
   ·cases h
  case map' j=>
   split at h
   ·split at h
    ·exact ih _ _ _ _ _ hno.2 hb h
    ·cases h
   ·cases h
  case win' j=>
   split at h
   ·split at h
    ·split at h
     ·rename_i hd;cases h;exact ih _ _ _ _ _ hno.2 hb hd
     ·cases h
    ·cases h
   ·split at h
    ·split at h
     ·rename_i hd;cases h;exact ih _ _ _ _ _ hno.2 hb hd
     ·cases h
    ·cases h
   ·cases h
  case sub' j=>
   split at h
   ·split at h
    ·split at h
     ·rename_i hd;cases h;exact ih _ _ _ _ _ hno.2 hb hd
     ·cases h
    ·cases h
   ·cases h
  case clo f ps=>
   split at h
   ·split at h
    ·exact ih _ _ _ _ _ hno.2 hb h
    ·cases h
   ·cases h
  case bnd f j=>
   split at h
   ·split at h
    ·exact ih _ _ _ _ _ hno.2 hb h
    ·cases h
   ·cases h
  case nil e=>
   cases hv:look tm H bs l with
   |none=>rw[hv]at h;cases h
   |some v=>
    rw[hv]at h
    cases v<;>simp only at h<;>first|exact ih _ _ _ _ _ hno.2 hb h|cases h
theorem Aak{np na:Nat}{its outs:AE}{rs:List RS}{f:B6 (leaves its)→Option (B6 (leaves outs))}(hno:AEW its=true)(hn:Nat.ble (C7 outs) 4=true):PR (KR (AF np na its outs rs f)):=by
 intro R args H H' fz fz' slot k hS0 hS hc ha
 have hn4:=ArL hn
 have hd:dec args H its fz []=dec args H' its fz' []:=Aj6 hS hc ha.heap its fz fz' [] hno (fun b hb=>by cases hb) ha.len ha.wrF
 have hbs:∀ x bs fr,dec args H its fz []=some (x,bs,fr)→AGj hS0 bs:=fun x bs fr h=>Afk hS hc its fz [] x bs fr hno (fun b hb=>by cases hb) h
 unfold KR AF
 rw[hd]at hbs ⊢
 split
 ·rfl
 ·rename_i x bs fr hdec
  have hb:=hbs x bs fr hdec
  split
  ·rfl
  ·split
   ·rfl
   ·rename_i y _
    have hf:∀ (g:List Nat) s,slot≤s→s<slot+C7 outs→At H (Ak g fz) s=At H' (Ak g fz') s:=fun g s h1 h2=>D1 ha h1 (by omega) g
    have key:∀ (e:Eff) (v:AV),e.heap=none→(∀ p∈e.objs,p.1∈given (bs.drop np)∨p.1∈Ce (C7 outs) (bs.take np) slot)→AJV slot H fz k v e=AJV slot H' fz' k v e:=by
     intro e v he ho
     unfold AJV
     rw[he]
     simp only
     have hfree:At (CO e H) (GR e fz) (slot+3)=At (CO e H') (GR e fz') (slot+3):=by
      rw[CE he,CE he,CR he,CR he]
      unfold At
      rw[Gc e.objs H H' (ha.slotH (slot+3) (by omega) (by omega)),LH ha.len (ha.slotF (slot+3) (by omega) (by omega))]
     cases v with
     |win id off n=>
      cases off with
      |succ off=>rfl
      |zero=>
       simp only
       cases hany:(e.objs.any fun p=>Nat.beq p.1 id)with
       |false=>
        simp only[Bool.and_false]
        cases (CO e H)[id]? with
        |none=>cases (CO e H')[id]? with
         |none=>rfl
         |some o=>cases o<;>rfl
        |some o=>cases (CO e H')[id]? with
         |none=>cases o<;>rfl
         |some o'=>cases o<;>cases o'<;>rfl
       |true=>
        rw[Aq9]at hany
        obtain⟨p,hp,hpi⟩:=hany
        have hpi:=Ap2 hpi
        subst hpi
        have hin:(∃ b∈bs,b.id? = some p.1)∨(slot≤p.1∧p.1<slot+C7 outs):=by
         rcases ho p hp with h|h
         ·obtain⟨j,hj⟩:=XY.1 h
          exact .inl ⟨_,AqG (Aox hj),rfl⟩
         ·rcases AfH _ _ _ _ h with⟨b,h1,h2⟩|h
          ·exact .inl ⟨b,Aq4 h1,h2⟩
          ·exact .inr h
        have h1:H[p.1]? = H'[p.1]? := by
         rcases hin with⟨b,hbm,hbi⟩|⟨h1,h2⟩
         ·exact ha.heap _ (hb b hbm _ hbi)
         ·exact ha.slotH _ h1 (by omega)
        have h2:fz.getD p.1 false=fz'.getD p.1 false:=by
         rcases hin with⟨b,hbm,hbi⟩|⟨h1,h2⟩
         ·exact ha.wrF _ (hb b hbm _ hbi)
         ·exact ha.slotF _ h1 (by omega)
        have h3:(CO e H)[p.1]? = (CO e H')[p.1]? := by
         rw[CE he,CE he]
         exact Gc e.objs H H' h1
        have h4:Aj (GR e fz) p.1=Aj (GR e fz') p.1:=by
         rw[CR he,CR he]
         unfold Aj
         rw[LH ha.len h2]
        rw[h3,h4,hfree]
     |_=>rfl
    have mem:∀ p∈(given (bs.drop np)).map (fun i=>(i,Ob.dead))++(Ce (C7 outs) (bs.take np) slot).zip ((encode (cellsOf rs) outs y).heap.map (Dd (Ce (C7 outs) (bs.take np) slot))),p.1∈given (bs.drop np)∨p.1∈Ce (C7 outs) (bs.take np) slot:=by
     intro p hp
     rcases Aom.1 hp with h|h
     ·obtain⟨i,hi,rfl⟩:=Ao1.1 h;exact .inl hi
     ·exact .inr (List.of_mem_zip h).1
    unfold KG
    rw[S4 (fz:=fz) (fz':=fz') (C7 outs) (bs.take np) slot (hf []),S4 (fz:=Ak fr fz) (fz':=Ak fr fz') (C7 outs) (bs.take np) slot (hf fr)]
    split
    ·split
     ·exact key { objs:=_ } _ rfl mem
     ·rfl
    ·split
     ·exact key { objs:=_,frz:=_ } _ rfl mem
     ·rfl
end
def AoQ(i:Nat)(args:List AV):Option FuncId:=
 match args[i]? with
 |some (.clo f _)=>some f
 |some (.bnd f _)=>some f
 |_=>none
def Env.CD(E:Env)(g:FuncId)(i:Nat)(c:FuncId)(s:Spec):Env where
 spec x:=match Nat.beq x g with
  |true=>fun R args H fz slot k=>match AoQ i args with
   |some c'=>match Nat.beq c' c with
    |true=>s R args H fz slot k
    |false=>E.spec x R args H fz slot k
   |.none=>Option.none
  |false=>E.spec x
 loc x:=match Nat.beq x g with
  |true=>false
  |false=>E.loc x
 loc2 x:=match Nat.beq x g with
  |true=>E.loc2 g
  |false=>E.loc2 x
theorem Env.Az{P:Program}{E:Env}{g:FuncId}{i:Nat}{c:FuncId}{s:Spec}(h:AW P E)(hs:AN P g s)(hl2:PR s):AW P (E.CD g i c s):=by
 refine⟨?_,?_,?_⟩
 ·intro x
  simp only[Env.CD]
  cases hx:Nat.beq x g with
  |false=>exact h.1 x
  |true=>
   have:=Ap2 hx
   subst this
   intro R args H fz slot k r hk
   simp only at hk
   split at hk
   ·rename_i c' hc'
    split at hk
    ·rename_i hb
     obtain⟨v,e,h1,h2,h3,h4⟩:=hs R args H fz slot k r hk
     exact⟨v,e,h1,fun R' k'=>by simp only[hc',hb];exact h2 R' k',h3,h4⟩
    ·rename_i hb
     obtain⟨v,e,h1,h2,h3,h4⟩:=h.1 x R args H fz slot k r hk
     exact⟨v,e,h1,fun R' k'=>by simp only[hc',hb];exact h2 R' k',h3,h4⟩
   ·cases hk
 ·intro x hx
  simp only[Env.CD]at hx ⊢
  cases hb:Nat.beq x g with
  |true=>rw[hb]at hx;cases hx
  |false=>rw[hb]at hx;exact h.2.1 x hx
 ·intro x hx
  simp only[Env.CD]at hx ⊢
  cases hb:Nat.beq x g with
  |true=>
   rw[hb]at hx
   have:=Ap2 hb
   subst this
   have h2:=h.2.2 x hx
   intro R args H H' fz fz' slot k S a1 a2 a3
   simp only
   split
   ·split
    ·exact hl2 R args H H' fz fz' slot k S a1 a2 a3
    ·exact h2 R args H H' fz fz' slot k S a1 a2 a3
   ·rfl
  |false=>rw[hb]at hx;exact h.2.2 x hx
end Go.Pev
end
section
namespace Go.Pev
open Go.RowKit Go.ChangeShapes Go.WideShapes Go.ChangeAt
def Qc(P:Program)(rd:TypeId→Option Ty):List Field→Nat→Option Ty
 |[],_=>some .unit
 |f::r,off=>match rd f.type,Qc P rd r (off+P.cellsOf f.type)with
  |some a,some b=>match Nat.beq f.offset off&&Nat.beq (P.cellsOf f.type) a.size with
   |true=>some (.prod a b)
   |false=>none
  |_,_=>none
def Fu(P:Program):Nat→TypeId→Option Ty
 |0,_=>none
 |n+1,t=>match P.underlying t with
  |some .bool=>some .bool
  |some (.int k)=>some (.int k)
  |some (.slice e)=>match Fu P n e with
   |some a=>match Nat.beq (P.cellsOf e) a.size && !(Nat.beq a.size 0)with
    |true=>some (.slice a)
    |false=>none
   |none=>none
  |some (.array c e)=>match Fu P n e with
   |some a=>match Nat.beq (P.cellsOf e) a.size&&Nat.beq (P.cellsOf t) (c*a.size)with
    |true=>some (.arr c a)
    |false=>none
   |none=>none
  |some (.struct fs)=>match Qc P (Fu P n) fs.toList 0 with
   |some a=>match Nat.beq (P.cellsOf t) a.size with
    |true=>some a
    |false=>none
   |none=>none
  |_=>none
def wfD:(t:Ty)→t.den→Prop
 |.unit,_=>True
 |.bool,_=>True
 |.int k,n=>k.min≤n∧n≤k.max
 |.slice e,xs=>List.length (α:=e.den) xs≤maxLen∧∀ x∈(xs:List e.den),wfD e x
 |.prod a b,d=>wfD a d.1∧wfD b d.2
 |.arr n e,xs=>List.length (α:=e.den) xs=n∧∀ x∈(xs:List e.den),wfD e x
 |.nul _,_=>True
 |.mapi _ _,_=>True
section
variable {H:Type} {enc:TypeId×Value→H} {P:Program} {w:World} {spare:Nat→Bool} {held:Bool}
abbrev below(w:World):Nat→Prop:=fun b=>b<w.heap.size
theorem Am4{k:IntKind}{n:Int}(h:(Lit.int k n).wf=true):k.min≤n∧n≤k.max:=by
 simpa [Lit.wf]using h
theorem Aa2{α:Type}{R:α→List Value→Prop}{k:Nat}:∀ (m:Nat) (f:Nat→List Value),(∀ i,i<m→(f i).length=k∧∃ x,R x (f i))→∃ xs:List α,xs.length=m∧rows R xs ((List.range m).flatMap f)∧∀ x∈xs,∃ i,i<m∧R x (f i):=by
 intro m
 induction m with
 |zero=>intro f _;exact⟨[],rfl,rfl,fun x hx=>by cases hx⟩
 |succ m ih=>
  intro f h
  obtain⟨xs,h1,h2,h3⟩:=ih f fun i hi=>h i (by omega)
  obtain⟨_,x,hx⟩:=h m (by omega)
  refine⟨xs++[x],by simp[h1],?_,fun y hy => ?_⟩
  ·rw[Ap3,ArW]
   exact H9 h2 (by simp;exact⟨f m,[],by simp,hx,rfl⟩)
  ·rcases Aom.1 hy with hy|hy
   ·obtain⟨i,hi,hr⟩:=h3 y hy;exact⟨i,by omega,hr⟩
   ·simp only[ApB]at hy;subst hy;exact⟨m,by omega,hx⟩
theorem Ajv{f:Nat→List Value}{k:Nat}:∀ (m:Nat),(∀ i,i<m→(f i).length=k)→∀ (j:Nat) (u:Value),((List.range m).flatMap f)[j]? = some u→∃ i r,i<m∧r<k∧j=i*k+r∧(f i)[r]? = some u:=by
 intro m
 induction m with
 |zero=>intro _ j u h;simp at h
 |succ m ih=>
  intro hl j u h
  rw[Ap3,ArW]at h
  have hlen:∀ m',m'≤m→((List.range m').flatMap f).length=m'*k:=by
   intro m' hm'
   induction m' with
   |zero=>simp
   |succ m' ih'=>
    rw[Ap3,ArW,Aos,ih' (by omega)]
    simp[hl m' (by omega),Api]
  rcases ApT j (m*k)with hj|hj
  ·rw[ApG (by rw[hlen m (Aop _)];exact hj)]at h
   obtain⟨i,r,h1,h2,h3,h4⟩:=ih (fun i hi=>hl i (by omega)) j u h
   exact⟨i,r,by omega,h2,h3,h4⟩
  ·rw[ApK (by rw[hlen m (Aop _)];exact hj),hlen m (Aop _)]at h
   simp only[AqK,List.flatMap_nil,Apw]at h
   have hr:j-m*k<k:=by
    have:=F7 h
    rwa [hl m (by omega)]at this
   exact⟨m,j-m*k,by omega,hr,by omega,h⟩
theorem AkT(a:Addr)(i j:Nat):(a.add i).add j=a.add (i+j):=by
 unfold Addr.add
 by_cases hi:i=0
 ·subst hi;simp
 ·by_cases hj:j=0
  ·subst hj;simp
  ·have:¬ (i+j=0):=by omega
   simp[hi,hj,ArU]
theorem AZr{α:Type}[Inhabited α]{n:Nat}{p:Nat→α→Prop}(h:∀ i,i<n→∃ x,p i x):∃ f:Nat→α,∀ i,i<n→p i (f i):=by
 classical
 refine⟨fun i=>if hi:i<n then Classical.choose (h i hi)else default,fun i hi => ?_⟩
 simp only[dif_pos hi]
 exact Classical.choose_spec (h i hi)
theorem AWu{rd:TypeId→Option Ty}{cs:List Value}(hrd:∀ (f:Field) (a:Ty),rd f.type=some a→(P.cellsOf f.type=a.size)→(∃ y:Nat×(DataW H×List MemPlace),DataW.trod enc P w 0 spare held y.1 f.type ((cs.drop f.offset).take (P.cellsOf f.type))=some y.2)→∃ d:a.den,Dat w (below w) a d ((cs.drop f.offset).take (P.cellsOf f.type))∧wfD a d):
  ∀ (fs:List Field) (off:Nat) (t:Ty),Qc P rd fs off=some t→off+t.size=cs.length→(∀ f∈fs,∃ y:Nat×(DataW H×List MemPlace),DataW.trod enc P w 0 spare held y.1 f.type ((cs.drop f.offset).take (P.cellsOf f.type))=some y.2) →
   ∃ d:t.den,Dat w (below w) t d (cs.drop off)∧wfD t d:=by
 intro fs
 induction fs with
 |nil=>
  intro off t h hl _
  simp only[Qc,Aoh]at h
  subst h
  refine⟨(),?_,trivial⟩
  show cs.drop off=[]
  simp[Ty.size]at hl
  exact List.drop_eq_nil_of_le (by omega)
 |cons f r ih=>
  intro off t h hl hf
  simp only[Qc]at h
  split at h
  ·rename_i a b ha hb
   split at h
   ·rename_i hc
    simp only[Aoh]at h
    subst h
    simp only[Aol]at hc
    have h1:=Ap2 hc.1
    have h2:=Ap2 hc.2
    obtain⟨d,hd,hw⟩:=hrd f a ha h2 (hf f (by simp))
    simp only[Ty.size]at hl
    obtain⟨e,he,hw'⟩:=ih (off+P.cellsOf f.type) b hb (by omega) fun g hg=>hf g (by simp[hg])
    refine⟨(d,e),⟨(cs.drop off).take (P.cellsOf f.type),cs.drop (off+P.cellsOf f.type),?_,?_,he⟩,hw,hw'⟩
    ·rw[← Aql,Ape]
    ·rw[h1]at hd;exact hd
   ·cases h
  ·cases h
theorem Agg:∀ (n:Nat) (t:TypeId) (ty:Ty) (fuel:Nat) (cs:List Value) (x:DataW H×List MemPlace),Fu P n t=some ty→DataW.trod enc P w 0 spare held fuel t cs=some x→∃ d:ty.den,Dat w (below w) ty d cs∧wfD ty d:=by
 intro n
 induction n with
 |zero=>intro t ty fuel cs x h;cases h
 |succ n ih=>
  intro t ty fuel cs x h hx
  simp only[Fu]at h
  split at h
  ·rename_i hu
   simp only[Aoh]at h;subst h
   obtain⟨b,rfl,_⟩:=DataW.trod_bool hu hx
   exact⟨b,rfl,trivial⟩
  ·rename_i k hu
   simp only[Aoh]at h;subst h
   obtain⟨m,rfl,_,hw⟩:=DataW.trod_int hu hx
   exact⟨m,rfl,Am4 hw⟩
  ·rename_i e hu
   split at h
   ·rename_i a ha
    split at h
    ·rename_i hc
     simp only[Aoh]at h;subst h
     rw[Aol]at hc
     have hpos:a.size≠0:=fun h0=>by rw[h0]at hc;simp at hc
     have hc:=Ap2 hc.1
     rcases DataW.trod_slice hu hx with⟨rfl,_⟩|⟨ad,len,cap,elems,rest,m,rfl,rfl,_,_,hle,hmax,hlen,hel,_⟩
     ·exact⟨[],⟨none,0,rfl,Aop _,fun hne=>absurd rfl hne⟩,Arm _,fun x hx=>by cases hx⟩
     ·-- each element
      have each:∀ i,i<len→∃ cs',w.cells? 0 (ad.add (i*P.cellsOf e)) (P.cellsOf e)=some cs'∧∃ d:a.den,Dat w (below w) a d cs'∧wfD a d:=by
       intro i hi
       have h1:=hel i hi
       rw[Aon (by omega),ApO]at h1
       obtain⟨cs',h2,h3⟩:=h1
       exact⟨cs',h2,ih e a m cs' _ ha h3⟩
      obtain⟨f,hf⟩:=AZr (α:=List Value) (p:=fun i cs'=>w.cells? 0 (ad.add (i*P.cellsOf e)) (P.cellsOf e)=some cs'∧∃ d:a.den,Dat w (below w) a d cs'∧wfD a d) each
      have hfl:∀ i,i<len→(f i).length=a.size:=by
       intro i hi
       obtain⟨_,hl,_⟩:=World.cells?_some (hf i hi).1
       rw[hl,hc]
      obtain⟨xs,h1,h2,h3⟩:=Aa2 (R:=fun(d:a.den) cs=>Dat w (below w) a d cs∧wfD a d) (k:=a.size) len f fun i hi=>⟨hfl i hi,(hf i hi).2⟩
      refine⟨xs,⟨some ad,cap,by rw[h1],by rw[h1];exact hle,fun hne=>⟨ad,(List.range len).flatMap f,rfl,?_,BM (fun x _ cs hx=>hx.1) h2,fun j u hu => ?_⟩⟩,by rw[h1];exact Ap0 hle hmax,fun x hx => ?_⟩
      ·-- the block is there
       have hl0:0<len:=by
        rcases Ap1 len with h0|h0
        ·exact absurd (Ao6 (by rw[h1,h0])) hne
        ·exact h0
       have hb:=World.cells?_block (hf 0 hl0).1 (by omega)
       rw[ArJ]at hb
       have e0:ad.add 0=ad:=by simp[Addr.add]
       rw[e0]at hb
       exact hb
      ·obtain⟨i,r,hi,hr,rfl,hur⟩:=Ajv len hfl j u hu
       obtain⟨_,_,hcell⟩:=World.cells?_some (hf i hi).1
       have:=hcell r (by rw[hc];exact hr)
       rw[hur]at this
       rw[← this,hc,AkT]
      ·obtain⟨i,_,hr⟩:=h3 x hx
       exact hr.2
    ·cases h
   ·cases h
  ·rename_i c e hu
   split at h
   ·rename_i a ha
    split at h
    ·rename_i hc
     simp only[Aoh]at h;subst h
     rw[Aol]at hc
     have hc1:=Ap2 hc.1
     have hc2:=Ap2 hc.2
     obtain⟨xs,m,rfl,_,hl,hxs,hfs⟩:=DataW.trod_array hu hx
     rw[hc2]at hl
     obtain⟨ys,h1,h2,h3⟩:=Aa2 (R:=fun(d:a.den) cs=>Dat w (below w) a d cs∧wfD a d) (k:=a.size) c (fun i=>(cs.drop (i*a.size)).take a.size) fun i hi=>by
      have hi1:i*a.size+a.size≤c*a.size:=by
       have:=Apd a.size (show i+1≤c from hi)
       rwa [Api,AqN]at this
      have h1:=hfs i hi
      rw[Aon (by omega),hc1]at h1
      exact⟨by rw[Ao8,ApW,hl];omega,ih e a m _ _ ha h1⟩
     have hjoin:∀ k,k≤c→(List.range k).flatMap (fun i=>(cs.drop (i*a.size)).take a.size)=cs.take (k*a.size):=by
      intro k
      induction k with
      |zero=>intro _;simp
      |succ k ihk=>
       intro hk
       rw[Ap3,ArW,ihk (by omega),Api,AqN,List.take_add]
       simp
     rw[hjoin c (Aop _),← hl,Aqg]at h2
     exact⟨ys,⟨h1,BM (fun x _ cs hx=>hx.1) h2⟩,h1,fun x hx=>by obtain⟨i,_,hr⟩:=h3 x hx;exact hr.2⟩
    ·cases h
   ·cases h
  ·rename_i fs hu
   split at h
   ·rename_i a ha
    split at h
    ·rename_i hc
     simp only[Aoh]at h;subst h
     have hc:=Ap2 hc
     obtain⟨xs,m,rfl,_,hl,hxs,hfs⟩:=DataW.trod_struct hu hx
     obtain⟨d,hd,hw⟩:=AWu (enc:=enc) (w:=w) (spare:=spare) (held:=held) (cs:=cs) (fun f b hb _ ⟨y,hy⟩=>ih f.type b y.1 _ y.2 hb hy) fs.toList 0 _ ha (by rw[hl,hc];omega) (fun f hf=>by
      obtain⟨i,hi⟩:=ArQ hf
      have h1:=hfs i f (by simpa using hi)
      have hlt:i<xs.length:=by rw[hxs];simpa using F7 hi
      rw[Aon hlt]at h1
      exact⟨(m,xs[i]),h1⟩)
     rw[Aqk]at hd
     exact⟨d,hd,hw⟩
    ·cases h
   ·cases h
  ·cases h
theorem AXs{r:Reach}{b0:Nat}{t:TypeId}{v:Value}(hval:Value.okWide P w r b0 t v)(hn:∀ d,P.underlying t=some d→(match d with|.bool|.int _|.slice _=>true|_=>false)=true){ty:Ty}{n:Nat}(h:Fu P (n+1) t=some ty):v.cells.toList=[v]:=by
 simp only[Value.okWide]at hval
 have hu:∃ d,P.underlying t=some d:=by
  cases hu:P.underlying t with
  |none=>simp only[Fu,hu]at h;cases h
  |some d=>exact⟨d,rfl⟩
 obtain⟨d,hu⟩:=hu
 have:=hn d hu
 rw[hu]at hval
 cases d<;>simp only[Ao5]at this<;>simp only[Cell.okWide,hu]at hval<;>cases v<;>first|rfl|(simp_all [Cell.ok])
theorem ABl{r:Reach}{b0:Nat}{t:TypeId}{v:Value}{ps:List MemPlace}{dd:DataW H}(hval:Value.okWide P w r b0 t v)(hd:DataW.Trod enc P w 0 spare held t v dd ps){ty:Ty}{n:Nat}(h:Fu P (n+1) t=some ty):
  ∃ d:ty.den,Bg w (below w) ty d v∧wfD ty d:=by
 obtain⟨fuel,hf⟩:=hd
 obtain⟨d,h1,h2⟩:=Agg (n+1) t ty fuel _ _ h hf
 refine⟨d,?_,h2⟩
 have one:(∀ d,P.underlying t=some d→(match d with|.bool|.int _|.slice _=>true|_=>false)=true)→ty.isAgg=false→Bg w (below w) ty d v:=by
  intro hn hg
  unfold Bg
  rw[hg]
  rw[AXs hval hn h]at h1
  exact h1
 have agg:(∃ cs,v = .agg cs)→ty.isAgg=true→Bg w (below w) ty d v:=by
  rintro⟨cs,rfl⟩ hg
  unfold Bg
  rw[hg]
  exact⟨cs,rfl,h1⟩
 have hu:∃ d,P.underlying t=some d:=by
  cases hu:P.underlying t with
  |none=>simp only[Fu,hu]at h;cases h
  |some d=>exact⟨d,rfl⟩
 obtain⟨td,hu⟩:=hu
 simp only[Fu,hu]at h
 split at h
 ·rename_i hq;cases hq;simp only[Aoh]at h;subst h
  exact one (fun d hd=>by rw[hu]at hd;cases hd;rfl) rfl
 ·rename_i k hq;cases hq;simp only[Aoh]at h;subst h
  exact one (fun d hd=>by rw[hu]at hd;cases hd;rfl) rfl
 ·rename_i e hq;cases hq
  split at h
  ·split at h
   ·simp only[Aoh]at h;subst h
    exact one (fun d hd=>by rw[hu]at hd;cases hd;rfl) rfl
   ·cases h
  ·cases h
 ·rename_i c e hq;cases hq
  have hv:∃ cs,v = .agg cs:=by
   simp only[Value.okWide,hu]at hval
   obtain⟨cs,rfl,_⟩:=hval
   exact⟨cs,rfl⟩
  split at h
  ·split at h
   ·simp only[Aoh]at h;subst h
    exact agg hv rfl
   ·cases h
  ·cases h
 ·rename_i fs hq;cases hq
  have hv:∃ cs,v = .agg cs:=by
   simp only[Value.okWide,hu]at hval
   obtain⟨cs,rfl,_⟩:=hval
   exact⟨cs,rfl⟩
  split at h
  ·rename_i a ha
   split at h
   ·simp only[Aoh]at h;subst h
    refine agg hv ?_
    cases hfs:fs.toList with
    |nil=>rw[hfs]at ha;simp only[Qc,Aoh]at ha;subst ha;rfl
    |cons f r=>
     rw[hfs]at ha
     simp only[Qc]at ha
     split at ha
     ·split at ha
      ·simp only[Aoh]at ha;subst ha;rfl
      ·cases ha
     ·cases ha
   ·cases h
  ·cases h
 ·cases h
theorem AIw{g:FuncId}{s:Spec}(hs:AN P g s){args:List AV}{b:Bool}{e:Eff}(hrun:s (AV×Eff) args [] [] 0 (fun v e=>some (v,e))=some (.data .bool b,e)){vals:List Value}
  (hr:Ae w (below w) (fun _=>none) [] args vals) (hglo:AgL w (below w):=by intro p h;simp[AOO]at h):Calls P g vals.toArray w fun en w'=>en = .returned (.bool b)∧Below w.heap.size w w':=by
 obtain⟨v,e',h1,_,_,h4⟩:=hs _ args [] [] 0 _ _ hrun
 simp only[Aoh,ApC]at h1
 obtain⟨rfl,rfl⟩:=h1
 have hi:HI w (below w) (fun _=>none) [] []:=⟨fun id o h=>by simp at h,fun i T e t xs ver out h=>by simp at h,fun i T e t xs ver out h=>by simp at h,fun i j b c b' c' _ _ _ h=>(nomatch h),fun i b c _ h=>(nomatch h),fun i T t xs b c h=>by simp at h,fun b h=>h,hglo,rfl⟩
 refine(h4 w _ _ vals hi hr).mono ?_
 rintro en w' ⟨u,rfl,F',m',⟨hx,_⟩,hu⟩
 have hb:u = .bool b:=Cl hu
 subst hb
 exact⟨rfl,hx.os,hx.tape,hx.output,hx.size,fun i hi=>hx.keep i hi fun j c _ h=>by cases h⟩
end
section
variable {H:Type} {enc:TypeId×Value→H} {P:Program}
theorem AHy{f:Func}{s:ChangeSpec}{apart fresh handsOn again:Bool}{W W':World}{args:Array Value}{v:Value}{ds gs:List (DataW H)}{before pa pv:List MemPlace}
  (hW:DataW.Whole enc P f.params.toList s.vars apart W args.toList ds gs before)
  (hres:∀ (b:Nat) (sp:Nat→Bool) (hd:Bool),DataW.TrodAll enc P W' b sp hd f.resultTypes.toList (v.resultList f.resultTypes.size) (s.fn H (ds++gs)).results [])
  (hargs:∀ sp:Nat→Bool,(∀ p∈before,sp p.block=true)→DataW.TrodAll enc P W' 0 sp true f.params.toList args.toList (s.fn H (ds++gs)).args pa)
  (hvars:∀ sp:Nat→Bool,(∀ p∈before,sp p.block=true)→DataW.TrodVars enc P W' sp s.vars (s.fn H (ds++gs)).vars pv)
  (hps:before=pa++pv) (hb:Below W.heap.size W W')
  (hok:∀ (j:Nat) (t:TypeId) (r:Value),f.resultTypes[j]? = some t→(v.resultList f.resultTypes.size)[j]? = some r→Value.okWide P W' .any 0 t r) :
  s.post enc P f apart fresh handsOn again W args v W':=by
 have hlt:∀ p∈before,p.block<W.heap.size:=fun p hp=>hW.lt p hp
 have hold:∀ p∈before,(fun b=>decide (b<W.heap.size)) p.block=true:=fun p hp=>by simpa using hlt p hp
 refine⟨ds,gs,before,[],pa,pv,hW,hres _ _ _,hargs _ hold,hvars _ hold,World.keptBut_mono (fun p hp=>⟨hp,?_⟩) (hb.frame (·∈before)),fun _ => ?_⟩
 ·rw[hps,Aom]at hp
  exact Or.inr hp
 ·obtain⟨_,_,_,_,_,hz,hn⟩:=hW
  refine⟨hok,_,_,([]++pa)++pv,⟨[]++pa,pv,trodAll_append (hargs _ (fun _ _=>rfl)) (hres _ _ _),hvars _ (fun _ _=>rfl),rfl,?_,?_⟩,?_⟩
  ·intro b off hp
   have hin:MemPlace.cell b off∈before:=by rw[hps];simpa using hp
   rw[hb.frozen (hlt _ hin)]
   exact hz b off hin
  ·intro ha
   have:=hn ha
   rw[hps]at this
   simpa using this
  ·intro p hp _
   rw[hps]
   simpa using hp
theorem QE{t:TypeId}(hl:laidOutB P=true)(hr:P.readableRec t=true)(hrow:t<P.types.size){W W':World}{v:Value}{d:DataW H}{ps:List MemPlace}
  (h:DataW.Trod enc P W 0 (fun _=>true) true t v d ps) (hb:Below W.heap.size W W') (hlt:∀ x∈ps,x.block<W.heap.size) {sp:Nat→Bool} (hs:∀ x∈ps,sp x.block=true) :
  DataW.Trod enc P W' 0 sp true t v d ps:=
 WideElems.Trod_stays hl hr hrow h (fun x hx=>hb.same (hlt x hx)) hs
end
end Go.Pev
end
section
section
namespace Go.Pev.Pl
open Tok
theorem FG{a b:Nat}(hb:0<b):rem? (a:Int) (b:Int)=some ((a % b:Nat):Int):=by
 rw[AMk,ADG,Aor (by omega)]
 rfl
theorem II{a b:Nat}(h:a<2*b):a % b=if a<b then a else a-b:=by
 split
 ·exact Apt (by assumption)
 ·rw[Ard (by omega),Apt (by omega)]
def LD(n t u:Int):Bool:=match B8 n t with
 |some x=>decide (x.st=u)
 |none=>false
theorem Ou{l:List Int}{j:Nat}(hj:j≤l.length):(rot l j).length=l.length:=by
 simp[rot];omega
theorem Ge{l:List Int}{j k:Nat}(hj:j<l.length)(hk:k<l.length):(rot l j).getD k 0=l.getD ((j+k) % l.length) 0:=by
 rw[II (by omega),rot]
 by_cases h:j+k<l.length
 ·rw[Aoq h,Aoj,ApG (by simp;omega),Apk,Aoj]
 ·rw[Aor h,Aoj,ApK (by simp;omega),List.getElem?_take_of_lt (by simp;omega),Aoj]
  congr 2
  simp;omega
def Red(n:Int)(l l':List Int):Prop:=∃ j x u v rest,j<l.length∧rot l j=x::Dj n (.arc u v)::v::Dj n (.arc v u)::rest∧okT n (.arc u v)∧LD n x u=true∧l'=rest++[x]
def Ft(l:List Int)(i:Nat):List Int:=(List.range' 3 (l.length-3)).map fun k=>l.getD ((i+k) % l.length) 0
theorem Adm{l:List Int}{i j:Nat}(hl:4≤l.length)(hj:j<l.length)(hij:i=if j+1=l.length then 0 else j+1):Ft l i=(rot l j).drop 4++[(rot l j).getD 0 0]:=by
 apply Ars
 ·simp[Ft,Ou (AqS hj)];omega
 ·intro m h1 h2
  simp only[Ft,Apl,List.length_range']at h1
  simp only[Ft,List.getElem_map,List.getElem_range',AqN]
  have hi:i<l.length:=by rw[hij];split<;>omega
  by_cases hm:m<l.length-4
  ·rw[List.getElem_append_left (by simp[Ou (AqS hj)];omega),List.getElem_drop]
   have:=Ge (l:=l) (j:=j) (k:=4+m) hj (by omega)
   rw[Aoj,Aon (by rw[Ou (AqS hj)];omega),ApF]at this
   rw[this]
   congr 1
   rw[II (by omega),II (by omega),hij]
   (repeat' split)<;>omega
  ·rw[List.getElem_append_right (by simp[Ou (AqS hj)];omega)]
   simp only[List.getElem_singleton]
   rw[Ge hj (by omega)]
   congr 1
   rw[II (by omega),II (by omega),hij]
   (repeat' split)<;>omega
theorem AoN{α:Type}{l:List α}(z:α)(h:4≤l.length):l=l.getD 0 z::l.getD 1 z::l.getD 2 z::l.getD 3 z::l.drop 4:=by
 match l,h with
 |a::b::c::d::r,_=>rfl
def Li(n:Int)(l:List Int)(i:Nat):Bool:=
 decide (4≤l.length)&&match B8 n (l.getD i 0)with
  |some (.arc u v)=>decide (l.getD ((i+1) % l.length) 0=v)&&(decide (l.getD ((i+2) % l.length) 0=EF n v u)&&LD n (l.getD ((i+l.length-1) % l.length) 0) u)
  |_=>false
theorem FJ{n u v:Int}(h:okT n (.arc u v)):okT n (.arc v u):=⟨h.2.1,h.1,ApN h.2.2⟩
theorem AYg{n:Int}{l:List Int}{i:Nat}(hi:i<l.length)(h:Li n l i=true):Red n l (Ft l i):=by
 rw[Li,Aol,Aok]at h
 obtain⟨hl,h⟩:=h
 cases ht:B8 n (l.getD i 0)with
 |none=>rw[ht]at h;cases h
 |some t=>
  rw[ht]at h
  cases t with
  |ver v=>cases h
  |arc u v=>
   simp only[Aol,Aok]at h
   obtain⟨h1,h2,h3⟩:=h
   obtain⟨g1,g2⟩:=Xg ht
   let j:=if i=0 then l.length-1 else i-1
   have hj:j<l.length:=by simp only[j];split<;>omega
   have hij:i=if j+1=l.length then 0 else j+1:=by simp only[j];(repeat' split)<;>omega
   have m0:(i+l.length-1) % l.length=(j+0) % l.length:=by
    rw[II (by omega),II (by omega)];simp only[j];(repeat' split)<;>omega
   have m1:i=(j+1) % l.length:=by rw[II (by omega)];simp only[j];(repeat' split)<;>omega
   have m2:(i+1) % l.length=(j+2) % l.length:=by
    rw[II (by omega),II (by omega)];simp only[j];(repeat' split)<;>omega
   have m3:(i+2) % l.length=(j+3) % l.length:=by
    rw[II (by omega),II (by omega)];simp only[j];(repeat' split)<;>omega
   have hlr:4≤(rot l j).length:=by rw[Ou (AqS hj)];exact hl
   have e:=AoN (0:Int) hlr
   have r0:=Ge (l:=l) (k:=0) hj (by omega)
   have r1:=Ge (l:=l) (k:=1) hj (by omega)
   have r2:=Ge (l:=l) (k:=2) hj (by omega)
   have r3:=Ge (l:=l) (k:=3) hj (by omega)
   rw[← m0]at r0
   rw[← m1]at r1
   rw[← m2,h1]at r2
   rw[← m3,h2,Fe (FJ g1)]at r3
   refine⟨j,(rot l j).getD 0 0,u,v,(rot l j).drop 4,hj,?_,g1,by rw[r0];exact h3,Adm hl hj hij⟩
   rw[r1,r2,r3,← g2]at e
   exact e
theorem AWt{n:Int}{l l':List Int}(h:Red n l l'):∃ i,i<l.length∧Li n l i=true:=by
 obtain⟨j,x,u,v,rest,hj,hr,hok,hst,_⟩:=h
 have hl:4≤l.length:=by
  have:=AqD List.length hr
  rw[Ou (AqS hj)]at this
  simp only[Aot]at this
  omega
 let i:=if j+1=l.length then 0 else j+1
 have hi:i<l.length:=by simp only[i];split<;>omega
 have m0:(i+l.length-1) % l.length=(j+0) % l.length:=by
  rw[II (by omega),II (by omega)];simp only[i];(repeat' split)<;>omega
 have m1:i=(j+1) % l.length:=by rw[II (by omega)];simp only[i];(repeat' split)<;>omega
 have m2:(i+1) % l.length=(j+2) % l.length:=by
  rw[II (by omega),II (by omega)];simp only[i];(repeat' split)<;>omega
 have m3:(i+2) % l.length=(j+3) % l.length:=by
  rw[II (by omega),II (by omega)];simp only[i];(repeat' split)<;>omega
 have r0:=Ge (l:=l) (k:=0) hj (by omega)
 have r1:=Ge (l:=l) (k:=1) hj (by omega)
 have r2:=Ge (l:=l) (k:=2) hj (by omega)
 have r3:=Ge (l:=l) (k:=3) hj (by omega)
 rw[hr]at r0 r1 r2 r3
 rw[← m0]at r0
 rw[← m1]at r1
 rw[← m2]at r2
 rw[← m3]at r3
 simp only[List.getD_cons_zero,List.getD_cons_succ]at r0 r1 r2 r3
 refine⟨i,hi,?_⟩
 rw[Li,← r1,Dv hok]
 simp only[← r0,← r2,← r3,hst,Fe (FJ hok),hl,Aow,Apo]
theorem AnR{n:Int}{l l':List Int}(h:Red n l l')(hn:l.Nodup):TI n l↔TI n l':=by
 obtain⟨j,x,u,v,rest,hj,hr,hok,hst,rfl⟩:=h
 obtain⟨X,hX,hXs⟩:∃ X,B8 n x=some X∧X.st=u:=by
  rw[LD]at hst
  cases hx:B8 n x with
  |none=>rw[hx]at hst;cases hst
  |some X=>rw[hx]at hst;exact⟨X,rfl,by simpa using hst⟩
 obtain⟨hX1,hX2⟩:=Xg hX
 have hnr:(rot l j).Nodup:=by
  rw[rot]
  exact(List.perm_append_comm.nodup_iff).2 (by rw[Ape];exact hn)
 rw[hr]at hnr
 constructor
 ·rintro⟨L,h1,h2,h3⟩
  have hL:rot l j=(L.drop j++L.take j).map (Dj n):=by rw[rot,h1];simp
  have hTr:T (L.drop j++L.take j):=T.rot (L.take j) (L.drop j) (by rw[Ape];exact h3)
  have hok2:∀ t∈L.drop j++L.take j,okT n t:=fun t ht=>h2 t (by
   rw[← Ape j L]
   simp only[Aom]at ht ⊢
   exact ht.symm)
  generalize L.drop j++L.take j=M at *
  rw[hr]at hL
  match M,hL with
  |[_,_],hL=>simp at hL
  |[_,_,_],hL=>simp at hL
  |a::b::c::d::r,hL=>
   simp only[ApH,Ao4]at hL
   obtain⟨e1,e2,e3,e4,e5⟩:=hL
   have q1:X=a:=Gl hX1 (hok2 a (by simp)) (by rw[hX2,e1])
   have q2:Tok.arc u v=b:=Gl hok (hok2 b (by simp)) e2
   have q3:Tok.ver v=c:=Gl (show okT n (.ver v)from hok.2.1) (hok2 c (by simp)) e3
   have q4:Tok.arc v u=d:=Gl (FJ hok) (hok2 d (by simp)) e4
   subst q1 q2 q3 q4
   subst hXs
   have:=T.less hTr
   refine⟨r++[X],by simp[e5,hX2],fun t ht=>hok2 t ?_,T.rot [X] r this⟩
   simp only[Aom,ApB]at ht
   rcases ht with h|h<;>simp[h]
 ·rintro⟨K,k1,k2,k3⟩
  obtain⟨K1,K2,rfl,e1,e2⟩:=Arp.1 k1.symm
  obtain⟨X',K3,rfl,e3,e4⟩:=List.map_eq_cons_iff.1 e2
  rw[List.map_eq_nil_iff]at e4
  subst e4
  have q1:X'=X:=Gl (k2 X' (by simp)) hX1 (by rw[hX2,e3])
  subst q1
  have t1:T (X'::K1):=T.rot K1 [X'] k3
  subst hXs
  have hvm:∀ t,t∈X'::K1→okT n t:=fun t ht=>k2 t (by
   simp only[Aoo,Aom,ApB]at ht ⊢
   rcases ht with h|h<;>simp[h])
  have hnv:Tok.ver v∉X'::K1:=by
   intro hm
   have hvl:v=x∨v∈rest:=by
    rcases Aoo.1 hm with h|h
    ·left;rw[← hX2,← h];rfl
    ·right;rw[← e1];exact Ao1.2 ⟨_,h,rfl⟩
   simp only[ApJ,Aoo,not_or]at hnr
   rcases hvl with h|h
   ·exact hnr.1.2.1 h.symm
   ·exact hnr.2.2.1.2 h
  have t2:=T.add X' K1 v t1 hok.2.2 hnv
  have hmap:rot l j=(X' :: .arc X'.st v :: .ver v :: .arc v X'.st::K1).map (Dj n):=by
   rw[hr];simp only[ApH,hX2,e1];rfl
  have hok3:∀ t∈X'::Tok.arc X'.st v :: .ver v :: .arc v X'.st::K1,okT n t:=by
   intro t ht
   simp only[Aoo]at ht
   rcases ht with rfl|rfl|rfl|rfl|h
   ·exact hX1
   ·exact hok
   ·exact hok.2.1
   ·exact FJ hok
   ·exact hvm t (Ao7 _ h)
  generalize X'::Tok.arc X'.st v :: .ver v :: .arc v X'.st::K1=M at *
  rw[rot]at hmap
  obtain⟨M1,M2,rfl,f1,f2⟩:=Arp.1 hmap.symm
  refine⟨M2++M1,by rw[AqH,f1,f2,Ape],fun t ht=>hok3 t ?_,T.rot M1 M2 t2⟩
  simp only[Aom]at ht ⊢
  exact ht.symm
theorem An3{n:Int}{l:List Int}(h:TI n l)(hl:1<l.length):∃ l',Red n l l':=by
 obtain⟨L,h1,h2,h3⟩:=h
 rcases h3.leaf with⟨v,e⟩|⟨x,v,r,p,q,e1,e2⟩
 ·rw[h1,e]at hl;simp at hl
 ·have hmap:l.map id=(p++q).map (Dj n):=by rw[List.map_id,h1,e1]
  rw[List.map_id]at hmap
  have hok:∀ t∈q++p,okT n t:=fun t ht=>h2 t (by rw[e1];simp only[Aom]at ht ⊢;exact ht.symm)
  have key:∀ j,j<l.length→rot l j=(q++p).map (Dj n)→∃ l',Red n l l':=by
   intro j hj hrj
   rw[← e2]at hok
   rw[← e2]at hrj
   have ha:okT n (.arc x.st v):=hok _ (by simp)
   exact⟨_,j,Dj n x,x.st,v,r.map (Dj n),hj,by rw[hrj];rfl,ha,by rw[LD,Dv (hok x (by simp))];simp,rfl⟩
  by_cases hq:q=[]
  ·subst hq
   refine key 0 (by omega) ?_
   simp[rot,hmap]
  ·have hj:p.length<l.length:=by
    rw[hmap,Apl,Aos]
    have:=List.length_pos_iff.2 hq
    omega
   refine key p.length hj ?_
   rw[rot,hmap,AqH]
   rw[List.drop_left' (by simp),Ara (by simp),AqH]
end Go.Pev.Pl
end
section
namespace Go.Pev.Pl
open Tok
theorem AWp{l:List Int}{i:Nat}(hi:i<l.length):∀ x∈Ft l i,x∈l:=by
 intro x hx
 simp only[Ft,Ao1]at hx
 obtain⟨k,_,rfl⟩:=hx
 have hk:(i+k) % l.length<l.length:=AqX _ (by omega)
 rw[Aoj,Aon hk,ApF]
 exact Apy hk
theorem Adn{n:Int}{l l':List Int}(h:Red n l l')(hn:l.Nodup):l'.Nodup:=by
 obtain⟨j,x,u,v,rest,hj,hr,hok,hst,rfl⟩:=h
 have hnr:(rot l j).Nodup:=by
  rw[rot]
  exact(List.perm_append_comm.nodup_iff).2 (by rw[Ape];exact hn)
 rw[hr]at hnr
 have:(x::rest).Nodup:=by
  simp only[ApJ,Aoo,not_or]at hnr ⊢
  exact⟨hnr.1.2.2.2,hnr.2.2.2.2⟩
 exact(AqR (l₁:=[x]) (l₂:=rest)).nodup_iff.1 this
theorem AkZ(n t:Int):TI n [t]↔In n t:=by
 constructor
 ·rintro⟨L,h1,h2,h3⟩
  rcases h3.leaf with⟨v,e⟩|⟨x,v,r,hr⟩
  ·subst e
   simp only[ApH,AqU,Ao4,ArN]at h1
   rw[h1]
   exact h2 (.ver v) (by simp)
  ·have h4:=hr.length
   have h5:=AqD List.length h1
   simp only[Aot,ApA,Apl]at h4 h5
   omega
 ·intro h
  exact⟨[.ver t],rfl,fun x hx=>by simp at hx;subst hx;exact h,T.one t⟩
theorem Aka(n:Int):¬ TI n []:=by
 rintro⟨L,h1,h2,h3⟩
 have:=h3.facts.1
 cases L with
 |nil=>exact this rfl
 |cons t L=>cases h1
end Go.Pev.Pl
end
section
namespace Go.Pev.Pl
open Tok
def RG(n:Int)(xs:List Int):Prop:=Rt xs∧xs≠[]∧Gx xs=xs.headD 0∧TI n xs
def okR(n:Int):List Int→Int→List (List Int)→Prop
 |_,_,[]=>True
 |seen,last,l::ls=>RG n l∧last<l.headD 0∧(∀ t∈l,t<n→t∉seen)∧okR n (seen++l.filter (fun t=>decide (t<n))) (l.headD 0) ls
def RF(n:Int)(rings:List (List Int)):Prop:=Sz n∧okR n [] (-1) rings∧∀ v,0≤v→v<n→v∈rings.flatten
noncomputable instance (n:Int) (rings:List (List Int)):Decidable (RF n rings):=Classical.propDecidable _
noncomputable instance (n:Int) (xs:List Int):Decidable (RG n xs):=Classical.propDecidable _
def MI(n:Int)(met:List (Int×Int))(seen:List Int):Prop:=∀ t,t<n→(AS met t).getD (0:Int)=if t∈seen then 1 else 0
theorem ALW(n:Int)(l:List Int)(hl:l.length<1073741824)(d1:List (List Int))(d3:Int)(d4:List (List Int))(d5 d6:Int)(d7:List Int)(d8 d9:Int)(d10:Bool)(d11:List Int)(d12 d13:Bool)(d14:List Int)(d15:Int)(d16:List Int)(d17:Int)(d18:Bool)(d19:Int)(d20:List Int)(d21 d22:Bool):
  ∀ (m k cnt:Nat) (met:List (Int×Int)) (seen:List Int),k+m=l.length→MI n met seen→(l.drop k).Nodup→m<cnt →
  ((∀ t∈l.drop k,t<n→t∉seen)∧∃ met',Ab Dt cnt (n,d1,met,d3,d4,d5,d6,d7,d8,d9,d10,d11,d12,d13,d14,d15,d16,d17,d18,d19,d20,d21,d22,l,(l.length:Int),(k:Int),()) =
    some (.inr (.inl (n,d1,met',d3,d4,d5,d6,d7,d8,d9,d10,d11,d12,d13,d14,d15,d16,d17,d18,d19,d20,d21,d22,())))∧MI n met' (seen++(l.drop k).filter (fun t=>decide (t<n)))) ∨
  (¬ (∀ t∈l.drop k,t<n→t∉seen)∧Ab Dt cnt (n,d1,met,d3,d4,d5,d6,d7,d8,d9,d10,d11,d12,d13,d14,d15,d16,d17,d18,d19,d20,d21,d22,l,(l.length:Int),(k:Int),())=some (.inl (false,()))):=by
 intro m
 induction m with
 |zero=>
  intro k cnt met seen hk hm hn hc
  obtain⟨cnt,rfl⟩:∃ c,cnt=c+1:=⟨cnt-1,by omega⟩
  have e:l.drop k=[]:=Apz (by omega)
  rw[e]
  refine .inl ⟨by simp,met,?_,by simpa using hm⟩
  rw[Ab,Dt,AP,Aog (by omega)]
 |succ m ih=>
  intro k cnt met seen hk hm hn hc
  obtain⟨cnt,rfl⟩:∃ c,cnt=c+1:=⟨cnt-1,by omega⟩
  have hk':k<l.length:=by omega
  have e:l.drop k=l.getD k 0::l.drop (k+1):=by
   rw[Apc hk',Aoj,Aon hk',ApF]
  rw[Ab,Dt,AP,Aoi hk']
  simp only[By (0:Int) hk']
  rw[e]at hn ⊢
  generalize l.getD k 0=t at *
  rw[ApJ]at hn
  rw[AQ (by omega),Af]
  by_cases ht:t<n
  ·rw[Aoi ht]
   have hmt:=hm t ht
   simp only[hmt,Af]
   by_cases hs:t∈seen
   ·rw[Aoq hs,Aoi (by omega)]
    exact .inr ⟨fun h=>h t (by simp) ht hs,rfl⟩
   ·rw[Aor hs,Aog (by omega)]
    simp only[]
    have w1:IntKind.wrap .i64 ((0:Int)+1)=1:=by rw[Ai (by omega)];rfl
    rw[w1]
    have hm':MI n (Ah met t 1) (seen++[t]):=by
     intro y hy
     rw[Dz]
     by_cases e2:y=t
     ·simp[e2]
     ·simp only[e2,Ao3,Aom,ApB,ArR];exact hm y hy
    have hiff:(∀ y∈t::l.drop (k+1),y<n→y∉seen)↔∀ y∈l.drop (k+1),y<n→y∉seen++[t]:=by
     constructor
     ·intro h y hy hyn hm2
      simp only[Aom,ApB]at hm2
      rcases hm2 with h2|rfl
      ·exact h y (Ao7 _ hy) hyn h2
      ·exact hn.1 hy
     ·intro h y hy hyn hm2
      rcases Aoo.1 hy with rfl|hy
      ·exact hs hm2
      ·exact h y hy hyn (by simp[hm2])
    rcases ih (k+1) cnt _ _ (by omega) hm' hn.2 (by omega)with⟨q1,met',q2,q3⟩|⟨q1,q2⟩
    ·refine .inl ⟨hiff.2 q1,met',q2,?_⟩
     rw[Arj (by simpa using ht)]
     simpa using q3
    ·exact .inr ⟨fun h=>q1 (hiff.1 h),q2⟩
  ·rw[Aog ht]
   simp only[]
   have hm':MI n (Ah met t (IntKind.wrap .i64 (((AS met t).getD (0:Int))+(1:Int)))) seen:=by
    intro y hy
    rw[Dz,Aor (by omega)]
    exact hm y hy
   have hiff:(∀ y∈t::l.drop (k+1),y<n→y∉seen)↔∀ y∈l.drop (k+1),y<n→y∉seen:=by
    constructor
    ·intro h y hy;exact h y (Ao7 _ hy)
    ·intro h y hy hyn
     rcases Aoo.1 hy with rfl|hy
     ·exact absurd hyn ht
     ·exact h y hy hyn
   rcases ih (k+1) cnt _ _ (by omega) hm' hn.2 (by omega)with⟨q1,met',q2,q3⟩|⟨q1,q2⟩
   ·refine .inl ⟨hiff.2 q1,met',q2,?_⟩
    rw[Ark (by simpa using ht)]
    exact q3
   ·exact .inr ⟨fun h=>q1 (hiff.1 h),q2⟩
theorem ABm(n:Int)(rings:List (List Int))(hlen:rings.length<1073741824)(hr:∀ l∈rings,l.length<9223372036854775808∧∀ x∈l, -9223372036854775808≤x∧x≤9223372036854775807):
  ∀ (ls:List (List Int)) (i cnt:Nat) (met:List (Int×Int)) (last:Int) (seen:List Int),rings.drop i=ls→i≤rings.length→MI n met seen→ls.length<cnt →
  (okR n seen last ls∧∃ met' seen',Ab Du cnt (n,rings,met,last,rings,(rings.length:Int),(i:Int),())=some (.inr (.inl (n,rings,met',())))∧MI n met' seen'∧∀ v,v∈seen'↔v∈seen∨(v<n∧v∈ls.flatten)) ∨
  (¬ okR n seen last ls∧Ab Du cnt (n,rings,met,last,rings,(rings.length:Int),(i:Int),())=some (.inl (false,()))):=by
 have hmany:4294967296<many:=by simp only[many];omega
 intro ls
 induction ls with
 |nil=>
  intro i cnt met last seen hd hi hm hc
  obtain⟨cnt,rfl⟩:∃ c,cnt=c+1:=⟨cnt-1,by simp at hc;omega⟩
  have:rings.length≤i:=by simpa using hd
  refine .inl ⟨trivial,met,seen,?_,hm,by simp⟩
  rw[Ab,Du,AP,Aog (by omega)]
 |cons l ls ih=>
  intro i cnt met last seen hd hi hm hc
  simp only[Aot]at hc
  obtain⟨cnt,rfl⟩:∃ c,cnt=c+1:=⟨cnt-1,by omega⟩
  have hi':i<rings.length:=by
   refine Apj fun h => ?_
   rw[Apz (by omega)]at hd
   cases hd
  rw[Apc hi']at hd
  simp only[Ao4]at hd
  obtain⟨hd1,hd2⟩:=hd
  have hx:rings[i]? = some l:=by rw[Aon hi',hd1]
  have hmem:l∈rings:=Aox hx
  obtain⟨hl,hlr⟩:=hr l hmem
  rw[Ab,Du,AP,Aoi hi',okR]
  simp only[Ag hx,Au]
  cases l with
  |nil=>
   rw[AM,Aoi (by simp)]
   exact .inr ⟨fun h=>h.1.2.1 rfl,rfl⟩
  |cons x tl=>
   rw[AM,Aog (by simp only[Aot];omega)]
   have i0:idx (x::tl) (0:Int)=some x:=by rw[Gz];rfl
   simp only[i0,Arb,Ar]
   by_cases c1:x≤last
   ·rw[Aoi c1]
    exact .inr ⟨fun h=>by omega,rfl⟩
   ·rw[Aog c1]
    simp only[LL]
    by_cases c2:Rt (x::tl)
    ·rw[Aoi c2]
     have hl:(x::tl).length<1073741824:=by have:=c2.1;omega
     simp only[Aov,ASo (x::tl) (by simp) (by omega)]
     by_cases c3:Gx (x::tl)=x
     ·rw[Aoi c3]
      simp only[Aov]
      rw[Ajh n (x::tl) (by simp) (by omega) hlr c2.2.2 (fun y hy=>by simp at hy;rw[← hy];exact c3)]
      by_cases c4:TI n (x::tl)
      ·rw[Aoi c4]
       simp only[Aov,Av]
       have hRG:RG n (x::tl):=⟨c2,by simp,c3,c4⟩
       rcases ALW n (x::tl) hl rings x rings (rings.length:Int) (i:Int) (x::tl) x last false (x::tl) true false (x::tl) (Gx (x::tl)) (x::tl) x false n (x::tl) true false (x::tl).length 0 many met seen (by omega) hm (by rw[Aqk];exact c2.2.2) (by omega)with⟨q1,met',q2,q3⟩|⟨q1,q2⟩
       ·rw[Aqk]at q1 q3
        have q2':Ab Dt many (n,rings,met,x,rings,(rings.length:Int),(i:Int),x::tl,x,last,false,x::tl,true,false,x::tl,Gx (x::tl),x::tl,x,false,n,x::tl,true,false,x::tl,((x::tl).length:Int),(0:Int),())=_:=q2
        simp only[q2',AQ (show i+1<9223372036854775808 by omega)]
        rcases ih (i+1) cnt met' x (seen++(x::tl).filter (fun t=>decide (t<n))) hd2 (by omega) q3 (by omega)with⟨p1,met2,seen2,p2,p3,p4⟩|⟨p1,p2⟩
        ·refine .inl ⟨⟨hRG,by omega,q1,p1⟩,met2,seen2,p2,p3,fun v => ?_⟩
         rw[p4,Aom,Apm,Aqo,Aom]
         simp only[Aok]
         constructor
         ·rintro ((h|h)|h)
          ·exact .inl h
          ·exact .inr ⟨h.2,.inl h.1⟩
          ·exact .inr ⟨h.1,.inr h.2⟩
         ·rintro (h|⟨h,h2|h2⟩)
          ·exact .inl (.inl h)
          ·exact .inl (.inr ⟨h2,h⟩)
          ·exact .inr ⟨h,h2⟩
        ·exact .inr ⟨fun h=>p1 h.2.2.2,p2⟩
       ·rw[Aqk]at q1
        have q2':Ab Dt many (n,rings,met,x,rings,(rings.length:Int),(i:Int),x::tl,x,last,false,x::tl,true,false,x::tl,Gx (x::tl),x::tl,x,false,n,x::tl,true,false,x::tl,((x::tl).length:Int),(0:Int),())=_:=q2
        simp only[q2']
        exact .inr ⟨fun h=>q1 h.2.2.1,by trivial⟩
      ·rw[Aog c4]
       exact .inr ⟨fun h=>c4 h.1.2.2.2,rfl⟩
     ·rw[Aog c3]
      exact .inr ⟨fun h=>c3 h.1.2.2.1,rfl⟩
    ·rw[Aog c2]
     exact .inr ⟨fun h=>c2 h.1.1,rfl⟩
theorem QF(n:Int)(rings:List (List Int))(hlen:rings.length<1073741824)(hr:∀ l∈rings,l.length<9223372036854775808∧∀ x∈l, -9223372036854775808≤x∧x≤9223372036854775807):
  QG ((n,(rings,())),())=some (decide (RF n rings),()):=by
 have hmany:4294967296<many:=by simp only[many];omega
 rw[AJI,R3]
 simp only[K9]
 by_cases hS:Sz n
 ·rw[Aoi hS]
  simp only[Aov,Av,AM]
  rcases ABm n rings hlen hr rings 0 many [] (-1) [] (by simp) (by omega) (fun t _=>by simp[AS]) (by omega)with⟨p1,met,seen,p2,p3,p4⟩|⟨p1,p2⟩
  ·have p2':Ab Du many (n,rings,[], -1,rings,(rings.length:Int),(0:Int),())=_:=p2
   simp only[p2']
   obtain⟨s1,s2⟩:=hS
   obtain⟨N,rfl⟩:=Aou (show 0≤n by omega)
   have e:=AQr (step:=Es) (fun i=>(met,(N:Int),(i:Int),())) N (fun i=>decide ((i:Int)∉seen)) (fun _=>.inl (false,())) (.inr (.inl ())) (by omega)
    (fun i hi=>by
     have:=p3 (i:Int) (by omega)
     rw[Es,AP,Aoi hi]
     simp only[this,Au]
     by_cases h:(i:Int)∈seen
     ·simp only[h,ApL,not_true]
      rw[AQ (by omega)];simp
     ·simp[h])
    (by rw[Es,AP,Aog (by omega)])
   rw[Av]at e
   have hv:∀ v,v∈seen↔(v<(N:Int)∧v∈rings.flatten):=fun v=>by rw[p4];simp
   rcases e with⟨k,k1,k2,_,k4⟩|⟨k1,k4⟩
   ·have k4':Ab Es many (met,(N:Int),(0:Int),())=_:=k4
    rw[k4',Aog]
    rintro⟨_,_,h⟩
    simp only[Aok]at k2
    exact k2 ((hv _).2 ⟨by omega,h (k:Int) (by omega) (by omega)⟩)
   ·have k4':Ab Es many (met,(N:Int),(0:Int),())=_:=k4
    rw[k4',Aoi]
    refine⟨⟨s1,s2⟩,p1,fun v v1 v2 => ?_⟩
    obtain⟨k,rfl⟩:=Aou v1
    have:=k1 k (by omega)
    simp only[Apg,ArI]at this
    exact((hv _).1 this).2
  ·have p2':Ab Du many (n,rings,[], -1,rings,(rings.length:Int),(0:Int),())=_:=p2
   simp only[p2']
   rw[Aog (fun h=>p1 h.2.1)]
 ·rw[Aog hS,Aog (fun h=>hS h.1)];rfl
end Go.Pev.Pl
end
section
namespace Go.Pev.Pl
open Tok
def MB(N:Nat)(met:List Bool)(seen:List Int):Prop:=met.length=N∧∀ k,k<N→met.getD k false=decide ((k:Int)∈seen)
theorem ADM{xs:List Int}(hr:Rt xs)(h:xs≠[]):plain xs=xs↔Gx xs=xs.headD 0:=by
 obtain⟨a,b,h1,h2⟩:=IC hr h
 constructor
 ·intro e
  rw[e]at h2
  rw[h2]
  have:Gx xs=Gx xs:=rfl
  conv=>lhs;rw[← h2]
  rfl
 ·intro e
  cases a with
  |nil=>rw[h2,Apw];exact h1.symm
  |cons y a=>
   exfalso
   have hn:=hr.2.2
   have hy:y=Gx xs:=by rw[e,h1];rfl
   rw[h1,ApE,ApJ]at hn
   exact hn.1 (by rw[← hy];simp)
theorem AeN{n:Int}:∀ {ls:List (List Int)} {seen:List Int} {last:Int},okR n seen last ls→seen.Nodup→(seen++ls.flatten.filter (fun t=>decide (t<n))).Nodup∧∀ l∈ls,RG n l:=by
 intro ls
 induction ls with
 |nil=>intro seen last _ h;simpa using h
 |cons l ls ih=>
  intro seen last ⟨h1,h2,h3,h4⟩ hs
  obtain⟨g1,g2⟩:=ih h4 (by
   rw[AqZ]
   refine⟨hs,(h1.1.2.2).filter _,fun a ha b hb => ?_⟩
   rintro rfl
   simp only[Apm,Aok]at hb
   exact h3 a hb.1 hb.2 ha)
  refine⟨by rw[Aqo,Aqy,← Apu];exact g1,fun k hk => ?_⟩
  rcases Aoo.1 hk with rfl|hk
  ·exact h1
  ·exact g2 k hk
theorem PQ{n:Int}{l:List Int}(h:RG n l):In n (l.headD 0):=by
 obtain⟨h1,h2,h3,h4⟩:=h
 cases l with
 |nil=>exact absurd rfl h2
 |cons x l=>exact AcB h4 h3
theorem AbP{n:Int}(hn:1≤n):∀ {ls:List (List Int)} {seen:List Int} {last:Int},okR n seen last ls→-1≤last→last<n→(ls.length:Int)≤n-1-last:=by
 intro ls
 induction ls with
 |nil=>intro seen last _ _ h;simp;omega
 |cons l ls ih=>
  intro seen last ⟨h1,h2,h3,h4⟩ hl hl2
  have hh:=(PQ h1).2.2
  have:=ih h4 (by omega) hh.2
  simp only[Aot]
  omega
end Go.Pev.Pl
end
section
namespace Go.Pev.Pl
open Tok
def hd(l:List Int):Int:=l.headD 0
def Dis(n:Int)(a b:List Int):Prop:=∀ t∈a,t<n→t∉b
structure FR(n:Int)(rings:List (List Int)):Prop where
 sz:Sz n
 rg:∀ l∈rings,RG n l
 up:rings.Pairwise (fun a b=>hd a<hd b)
 dis:rings.Pairwise (Dis n)
 cov:∀ v,In n v→∃ l∈rings,v∈l
theorem Dis.symm{n:Int}{a b:List Int}(h:Dis n a b):Dis n b a:=fun t ht hn ha=>h t ha hn ht
theorem AbQ{n:Int}:∀ {ls:List (List Int)} {seen:List Int} {last:Int},okR n seen last ls↔(∀ l∈ls,RG n l∧last<hd l∧∀ t∈l,t<n→t∉seen)∧ls.Pairwise (fun a b=>hd a<hd b)∧ls.Pairwise (Dis n):=by
 intro ls
 induction ls with
 |nil=>intro seen last;simp[okR]
 |cons l ls ih=>
  intro seen last
  rw[okR,ih,ApZ,ApZ]
  constructor
  ·rintro⟨h1,h2,h3,h4,h5,h6⟩
   refine⟨fun k hk => ?_,⟨fun k hk=>(h4 k hk).2.1,h5⟩,⟨fun k hk t ht htn htk => ?_,h6⟩⟩
   ·rcases Aoo.1 hk with rfl|hk
    ·exact⟨h1,h2,h3⟩
    ·obtain⟨q1,q2,q3⟩:=h4 k hk
     exact⟨q1,Int.lt_trans h2 q2,fun t ht htn hts=>q3 t ht htn (by simp[hts])⟩
   ·exact(h4 k hk).2.2 t htk htn (by simp[ht,htn])
  ·rintro⟨h1,⟨h2,h3⟩,⟨h4,h5⟩⟩
   obtain⟨q1,q2,q3⟩:=h1 l (by simp)
   refine⟨q1,q2,q3,fun k hk => ?_,h3,h5⟩
   obtain⟨p1,p2,p3⟩:=h1 k (by simp[hk])
   refine⟨p1,h2 k hk,fun t ht htn hts => ?_⟩
   simp only[Aom,Apm]at hts
   rcases hts with h|h
   ·exact p3 t ht htn h
   ·exact h4 k hk t h.1 htn ht
theorem MO{n:Int}{rings:List (List Int)}:RF n rings↔FR n rings:=by
 constructor
 ·rintro⟨h1,h2,h3⟩
  obtain⟨q1,q2,q3⟩:=AbQ.1 h2
  refine⟨h1,fun l hl=>(q1 l hl).1,q2,q3,fun v hv => ?_⟩
  obtain⟨l,hl,h⟩:=Art.1 (h3 v hv.2.2.1 hv.2.2.2)
  exact⟨l,hl,h⟩
 ·rintro⟨h1,h2,h3,h4,h5⟩
  refine⟨h1,AbQ.2 ⟨fun l hl=>⟨h2 l hl,?_,by simp⟩,h3,h4⟩,fun v v1 v2 => ?_⟩
  ·have:=(PQ (h2 l hl)).2.2.1
   show(-1:Int)<l.headD 0
   omega
  ·obtain⟨l,hl,h⟩:=h5 v ⟨h1.1,h1.2,v1,v2⟩
   exact Art.2 ⟨l,hl,h⟩
theorem Yq{ys zs:List (List Int)}(hz:zs.Pairwise (fun a b=>hd a<hd b))(hp:ys.Perm zs)(hy:ys.Pairwise (fun a b=>¬ hd b<hd a)):ys=zs:=by
 have hinj:∀ a∈zs,∀ b∈zs,hd a=hd b→a=b:=by
  intro a ha b hb e
  refine Apj fun hne => ?_
  obtain⟨i,hi,rfl⟩:=AqJ ha
  obtain⟨j,hj,rfl⟩:=AqJ hb
  rw[AqI]at hz
  rcases Arl i j with h|h|h
  ·have:=hz i j hi hj h;omega
  ·subst h;exact hne rfl
  ·have:=hz j i hj hi h;omega
 refine List.Perm.eq_of_pairwise (le:=fun a b=>¬ hd b<hd a) ?_ hy ?_ hp
 ·intro a b ha hb h1 h2
  exact hinj a (hp.mem_iff.1 ha) b hb (by omega)
 ·exact hz.imp fun h=>by omega
def plc(rings:List (List Int))(v:Int):Int:=if rings.any (fun l=>decide (v∈l))then((rings.findIdx (fun l=>decide (v∈l)):Nat):Int)else -1
theorem Hy(n:Int)(rings:List (List Int))(v:Int)(hlen:rings.length<1073741824)(hr:∀ l∈rings,l.length<9223372036854775808):QH ((n,(rings,())),v,())=some (plc rings v,()):=by
 rw[AJQ,R6,JH,D2]
 have e:=Pz (step:=Bj) (fun i=>(v,rings,AK rings,(i:Int),())) rings (fun l=>decide (v∈l)) (fun i=>.inl (v,(i:Int),())) (.inr (.inl (v,()))) (by omega)
  (fun i l hi hx=>by
   have hl:=hr l (Aox hx)
   rw[Bj,AM,AP,Aoi hi]
   simp only[Ag hx,KF l v (by omega)]
   rw[AQ (by omega)]
   by_cases h:v∈l
   ·rw[Aoi h];rfl
   ·rw[Aog h];rfl)
  (by rw[Bj,AM,AP,Aog (by omega)])
 have e':AU Bj many (v,rings,AK rings,(0:Int),())=_:=e
 simp only[e',plc]
 cases rings.any (fun l=>decide (v∈l))<;>rfl
theorem NM{rings:List (List Int)}{v:Int}(h:∃ l∈rings,v∈l):∃ k l,plc rings v=((k:Nat):Int)∧rings[k]? = some l∧v∈l∧k<rings.length:=by
 obtain⟨l,hl,hv⟩:=h
 have hany:rings.any (fun l=>decide (v∈l))=true:=Aq9.2 ⟨l,hl,by simpa using hv⟩
 have hk:rings.findIdx (fun l=>decide (v∈l))<rings.length:=Aqv.2 ⟨l,hl,by simpa using hv⟩
 refine⟨_,rings[rings.findIdx (fun l=>decide (v∈l))],by rw[plc,Aoq hany],by rw[Aon hk],?_,hk⟩
 have:=List.findIdx_getElem (xs:=rings) (p:=fun l=>decide (v∈l)) (w:=hk)
 simpa using this
theorem FR.uniq{n:Int}{rings:List (List Int)}(h:FR n rings){i j:Nat}{a b:List Int}{v:Int}(hi:rings[i]? = some a)(hj:rings[j]? = some b)(hn:v<n)(ha:v∈a)(hb:v∈b):i=j:=by
 obtain⟨hi1,rfl⟩:=Apn.1 hi
 obtain⟨hj1,rfl⟩:=Apn.1 hj
 have hd:=AqI.1 h.dis
 rcases Arl i j with g|g|g
 ·exact absurd hb (hd i j hi1 hj1 g v ha hn)
 ·exact g
 ·exact absurd ha (hd j i hj1 hi1 g v hb hn)
theorem FR.AMt{n:Int}{rings:List (List Int)}(h:FR n rings){k:Nat}{a:List Int}{v:Int}(hk:rings[k]? = some a)(hn:v<n)(ha:v∈a):plc rings v=(k:Int):=by
 obtain⟨j,l,e,hj,hv,_⟩:=NM ⟨a,Aox hk,ha⟩
 rw[e,h.uniq hj hk hn hv ha]
theorem AFk{α:Type}{l:List α}{i:Nat}{a:α}(h:l[i]? = some a):l.Perm (a::l.eraseIdx i):=by
 obtain⟨hi,rfl⟩:=Apn.1 h
 rw[List.eraseIdx_eq_take_drop_succ]
 conv=>lhs;rw[← Ape i l,Apc hi]
 exact List.perm_middle
theorem JU{α:Type}{l:List α}{i j:Nat}{a b:α}(hij:i<j)(hi:l[i]? = some a)(hj:l[j]? = some b):l.Perm (a::b::(l.eraseIdx j).eraseIdx i):=by
 have h1:=AFk hj
 have h2:(l.eraseIdx j)[i]? = some a:=by rw[List.getElem?_eraseIdx_of_lt hij,hi]
 exact h1.trans (((AFk h2).cons b).trans (List.Perm.swap a b _))
theorem AeM{n:Int}{t:Tok}(h:okT n t):0≤Dj n t∧Dj n t≤4160∧Dj n t<n*(n+1):=by
 cases t with
 |ver v=>
  obtain⟨h1,h2,h3,h4⟩:=h
  have:n*1≤n*(n+1):=Int.mul_le_mul_of_nonneg_left (by omega) (by omega)
  simp only[Dj];omega
 |arc u v=>
  obtain⟨h1,h2,_⟩:=h
  obtain⟨g1,g2,_⟩:=AA3 h1 h2
  have hb:=F4 (u:=n+1-1) h1.1 h1.2.1 (by have:=h1.1;omega) (by have:=h1.2.1;omega)
  have e:n*(n+1)=n*(n+1-1)+n:=by rw[show n+1-1=n by omega,Arn,Aro]
  have:=h1.1
  have:=h1.2.1
  simp only[Dj]
  omega
theorem AnZ{n:Int}{t:Tok}(h:okT n t):Sz n:=by
 cases t with
 |ver v=>exact⟨h.1,h.2.1⟩
 |arc u v=>exact⟨h.1.1,h.1.2.1⟩
theorem QD:∀ {L:List Tok},L.Nodup→(M4 L).Nodup
 |[],_=>by simp[M4]
 |.ver v::L,h=>by
  rw[ApJ]at h
  rw[M4,ApJ]
  exact⟨fun hm=>h.1 (Si.1 hm),QD h.2⟩
 |.arc _ _::L,h=>by
  rw[ApJ]at h
  rw[M4]
  exact QD h.2
theorem Am0{n:Int}{xs:List Int}(h:TI n xs):Rt xs:=by
 obtain⟨L,rfl,h2,h3⟩:=h
 have hn:=h3.nodup
 refine⟨?_,fun x hx => ?_,?_⟩
 ·obtain⟨v,r,hr⟩:=h3.AUE
  have hS:Sz n:=AnZ (h2 (.ver v) ((hr.mem _).2 (by simp)))
  have hl:=h3.len
  have hv:=DQ (a:=M4 L) (b:=(List.range n.toNat).map (fun(k:Nat)=>(k:Int))) (QD hn) fun x hx=>by
   have:=h2 _ (Si.1 hx)
   have h5:=this.2.2
   rw[Ao1]
   exact⟨x.toNat,by rw[Apa];omega,by omega⟩
  have h6:=hS.2
  simp only[Apl,Ao0]at hv ⊢
  omega
 ·obtain⟨t,ht,rfl⟩:=Ao1.1 hx
  have:=AeM (h2 t ht)
  omega
 ·rw[List.Nodup,Aqa]
  exact hn.imp_of_mem fun ha hb hne e=>hne (Gl (h2 _ ha) (h2 _ hb) e)
def APN(a b:List Int):Prop:=∃ x y,a=x++y∧b=y++x
theorem APN.perm{a b:List Int}(h:APN a b):a.Perm b:=by
 obtain⟨x,y,rfl,rfl⟩:=h
 exact AqR
theorem APN.symm{a b:List Int}(h:APN a b):APN b a:=by obtain⟨x,y,h1,h2⟩:=h;exact⟨y,x,h2,h1⟩
theorem AkY{n:Int}{a b:List Int}(h:TI n a)(r:APN a b):TI n b:=by
 obtain⟨L,h1,h2,h3⟩:=h
 obtain⟨x,y,rfl,rfl⟩:=r
 obtain⟨L1,L2,rfl,e1,e2⟩:=Arp.1 h1.symm
 refine⟨L2++L1,by rw[AqH,e1,e2],fun t ht=>h2 t ?_,T.rot L1 L2 h3⟩
 simp only[Aom]at ht ⊢
 exact ht.symm
theorem Cb{xs:List Int}{t:Int}(h:t∈xs):APN xs (A6 xs t):=by
 obtain⟨a,b,e1,_,e3⟩:=AC0 h
 exact⟨a,t::b,e1,by rw[e3]⟩
theorem AeW{xs ys:List Int}(h:xs.Perm ys)(hne:xs≠[]):Gx ys=Gx xs:=by
 obtain⟨h1,h2⟩:=E6 hne
 exact Als (h.mem_iff.1 h1) fun x hx=>h2 x (h.mem_iff.2 hx)
theorem AW1{xs:List Int}(hr:Rt xs)(hne:xs≠[]):APN xs (plain xs):=by
 rw[plain,Aoq ⟨hr,hne⟩]
 exact Cb (E6 hne).1
theorem Amz{n:Int}{xs:List Int}(h:TI n xs):xs≠[]:=by rintro rfl;exact Aka n h
theorem AGz{n:Int}{xs:List Int}(h:TI n xs):RG n (plain xs)∧APN xs (plain xs):=by
 have hr:=Am0 h
 have hne:=Amz h
 have h1:=AW1 hr hne
 have h2:=AkY h h1
 refine⟨⟨Am0 h2,Amz h2,?_,h2⟩,h1⟩
 rw[AeW h1.perm hne]
 obtain⟨a,b,_,e⟩:=IC hr hne
 rw[e];rfl
theorem RG.self{n:Int}{xs:List Int}(h:RG n xs):plain xs=xs:=(ADM h.1 h.2.1).2 h.2.2.1
theorem AUq{n:Int}{xs:List Int}(h:TI n xs){t:Tok}(ht:okT n t)(hx:Dj n t∈xs):∃ a,A6 xs (Dj n t)=(t::a).map (Dj n)∧T (t::a)∧(∀ y∈t::a,okT n y):=by
 have h1:=AkY h (Cb hx)
 obtain⟨a,b,e1,e2,e3⟩:=AC0 hx
 obtain⟨L,q1,q2,q3⟩:=h1
 rw[e3,ApE]at q1
 cases L with
 |nil=>cases q1
 |cons t' L=>
  simp only[ApH,Ao4]at q1
  have:=Gl ht (q2 t' (by simp)) q1.1
  subst this
  exact⟨L,by rw[e3,ApE,ApH,q1.2],q3,q2⟩
end Go.Pev.Pl
end
section
namespace Go.Pev.Pl
open Go.RowKit Tok
theorem Bf(a:Int):ieq a a=true:=by rw[B4];simp
def Dom(rings:List (List Int)):Prop:=rings.length<1073741824∧∀ l∈rings,l.length<9223372036854775808∧∀ x∈l, -9223372036854775808≤x∧x≤9223372036854775807
theorem FR.dom{n:Int}{rings:List (List Int)}(h:FR n rings):Dom rings:=by
 have h1:=MO.2 h
 have h2:=AbP h.sz.1 h1.2.1 (by omega) (by have:=h.sz.1;omega)
 have h3:=h.sz.2
 refine⟨by omega,fun l hl => ?_⟩
 have:=(h.rg l hl).1
 exact⟨by have:=this.1;omega,fun x hx=>by have:=this.2.1 x hx;omega⟩
theorem XU{l:List Int}(h:l≠[]):hd l∈l:=by
 cases l with
 |nil=>exact absurd rfl h
 |cons x l=>simp[hd]
end Go.Pev.Pl
end
section
namespace Go.Pev.Pl
open Tok
noncomputable def AUi(n:Int)(rings:List (List Int))(ok:Bool):Int:=if RF n rings then if ok then 0 else 10 else 1
theorem AZc(n:Int)(rings:List (List Int))(xs:List Int)(hs:xs.length<9223372036854775808):DN (xs,n,rings,())=some (n,rings,xs.any (fun x=>decide (x<0)||decide (n≤x)),()):=by
 rw[Ie,DU,JL,D3]
 have e:=Pz (step:=Bk) (fun i=>(n,rings,xs,AK xs,(i:Int),())) xs (fun x=>decide (x<0)||decide (n≤x)) (fun i=>.inl (n,rings,(i:Int),())) (.inr (.inl (n,rings,()))) hs
  (fun i x hi hx=>by
   rw[Bk,AM,AP,Aoi hi]
   simp only[Ag hx,Af,Ar]
   rw[AQ (by omega)]
   by_cases h:x<0
   ·simp[h]
   ·by_cases h2:n≤x
    ·simp[h,h2]
    ·simp[h,h2])
  (by rw[Bk,AM,AP,Aog (by omega)])
 have e':AU Bk many (n,rings,xs,AK xs,(0:Int),())=_:=e
 rw[e']
 generalize (xs.any fun x=>decide (x<0)||decide (n≤x))=b
 cases b<;>simp[Ar]
theorem AaP{n v:Int}(hS:Sz n):(decide (v<0)||decide (n≤v)) = !decide (In n v):=by
 by_cases h:In n v
 ·obtain⟨_,_,h3,h4⟩:=h
  simp[In,hS.1,hS.2,h3,h4]
 ·have:v<0∨n≤v:=by
   refine Apj fun hc=>h ⟨hS.1,hS.2,by omega,by omega⟩
  rcases this with g|g<;>simp[h,g]
theorem AFZ(n:Int)(rings:List (List Int))(xs:List Int)(hD:Dom rings)(hs:xs.length<9223372036854775808):Q9 ((n,(rings,())),xs,())=some (AUi n rings (xs.all fun v=>decide (In n v)),()):=by
 rw[AKX,TC]
 simp only[QF n rings hD.1 hD.2,AZc n rings xs hs,AUi]
 by_cases h:RF n rings
 ·have hb:(xs.any fun x=>decide (x<0)||decide (n≤x)) = !(xs.all fun v=>decide (In n v)):=by
   rw[List.not_all_eq_any_not]
   congr 1
   funext x
   exact AaP h.1
  simp only[h,Aow,Aov,hb,ApL]
  cases xs.all fun v=>decide (In n v)<;>rfl
 ·simp[h]
end Go.Pev.Pl
end
section
namespace Go.Pev.Pl.SG
open Go.Sort
structure SP(α:Type)where
 z:α
 c:α×α×Unit→Option (Int×Unit)
 ok:α→Prop
 okz:α
 Wn:ok okz
 lt:α→α→Bool
 swo:SWO lt
 Xr:∀ {x y:α},ok x→ok y→∃ r,c (x,y,())=some (r,())∧ilt r (0:Int)=lt x y
variable {α:Type} {S:SP α}
abbrev EL{α:Type}(S:SP α):={x:α // S.ok x}
instance:Inhabited (EL S):=⟨⟨S.okz,S.Wn⟩⟩
def rep(d:Array (EL S)):List α:=d.toList.map Subtype.val
theorem A7{d:Array (EL S)}{n:Nat}(h:n<d.size):idx (rep d) (n:Int)=some (d[n]!).val:=by
 rw[idx_eq,Pe,Aor (by omega)]
 simp[rep,h]
theorem Ba{d:Array (EL S)}{n:Nat}{z:α}(h:n<d.size):Ac (rep d) (AO (n:Int)) z=(d[n]!).val:=by
 simp[Ac,AO,rep,h]
theorem JV{d:Array (EL S)}{n:Nat}{x:(EL S)}:BB (rep d) (AO (n:Int)) x.val=rep (d.setIfInBounds n x):=by
 simp[BB,AO,rep,List.map_set]
theorem Ab5{d:Array (EL S)}:AK (rep d)=(d.size:Int):=by simp[AK,rep]
def ltX(x y:(EL S)):Bool:=S.lt x.val y.val
theorem Ag9:SWO (ltX (S:=S)):=⟨fun x=>S.swo.irrefl x.val,fun x y z=>S.swo.trans x.val y.val z.val,fun x y z=>S.swo.ntrans x.val y.val z.val⟩
noncomputable def AmY(x y:(EL S)):Int:=match S.c (x.val,y.val,())with
 |some (c,_)=>c
 |none=>0
theorem CW(x y:(EL S)):S.c (x.val,y.val,())=some (AmY x y,()):=by
 obtain⟨c,e,_⟩:=S.Xr x.property y.property
 rw[AmY,e]
theorem DT(x y:(EL S)):ilt (AmY x y) (0:Int)=ltX x y:=by
 obtain⟨c,e,h⟩:=S.Xr x.property y.property
 rw[AmY,e]
 exact h
theorem Al8(a b i:Nat):∀ (j:Nat) (d:Array (EL S)) (n:Nat),j<d.size→d.size<4611686018427387904→j<n →
  Ab (O9 S.z S.c) n ((rep d),(a:Int),(b:Int),(i:Int),(j:Int),())=some (.inl ((rep (insInner ltX a j d)),(a:Int),(b:Int),(i:Int),())):=by
 intro j
 induction j with
 |zero=>
  intro d n hj hs hn
  obtain⟨n,rfl⟩:∃ k,n=k+1:=⟨n-1,by omega⟩
  have h0:ilt (a:Int) ((0:Nat):Int)=false:=by rw[AP];simp
  simp only[Ab,O9,h0,insInner]
 |succ j ih=>
  intro d n hj hs hn
  obtain⟨n,rfl⟩:∃ k,n=k+1:=⟨n-1,by omega⟩
  have e1:IntKind.wrap .i64 (((j+1:Nat):Int)-1)=(j:Int):=by rw[Ai (by omega)];omega
  have hj':j<d.size:=by omega
  simp only[Ab,O9,AP,e1,A7 hj,A7 hj',Ba hj,Ba hj',CW,DT,insInner,gt_iff_lt]
  by_cases h1:a<j+1
  ·cases h2:ltX d[j+1]! d[j]!
   ·simp only[h1,Aow,h2,Bool.and_false,Ao5,Ao3]
   ·simp only[h1,Aow,h2,Bool.and_true,ApL,JV]
    rw[A7 (by simpa using hj')]
    simp only[KS]
    exact ih (swp d (j+1) j) n (by rw[size_swp];omega) (by rw[size_swp];omega) (by omega)
  ·simp only[h1,Ao9,Aqt,Ao5,Ao3]
theorem Jm(lt:(EL S)→(EL S)→Bool)(a j:Nat)(d:Array (EL S)):(insInner lt a j d).size=d.size:=by
 induction j generalizing d with
 |zero=>rfl
 |succ j ih=>
  rw[insInner]
  split
  ·rw[ih,size_swp]
  ·rfl
theorem AjD(a b:Nat):∀ (k i:Nat) (d:Array (EL S)) (n:Nat),b-i=k→b≤d.size→d.size<4611686018427387904→d.size<many→k<n →
  Ab (PA S.z S.c) n ((rep d),(a:Int),(b:Int),(i:Int),())=some (.inl ((rep (insOuter ltX a b i d)),())):=by
 intro k
 induction k with
 |zero=>
  intro i d n hk hb hs hm hn
  obtain⟨n,rfl⟩:∃ k,n=k+1:=⟨n-1,by omega⟩
  have h0:¬ i<b:=by omega
  rw[insOuter]
  simp only[Ab,PA,AP,h0,Ao9,Ao3]
 |succ k ih=>
  intro i d n hk hb hs hm hn
  obtain⟨n,rfl⟩:∃ k,n=k+1:=⟨n-1,by omega⟩
  have h0:i<b:=by omega
  have e1:IntKind.wrap .i64 ((i:Int)+1)=((i+1:Nat):Int):=by rw[Ai (by omega)];omega
  rw[insOuter]
  simp only[Ab,PA,AP,h0,Aow,ApL,Av]
  rw[Al8 a b i i d many (by omega) hs (by omega)]
  simp only[e1]
  exact ih (i+1) _ n (by omega) (by rw[Jm];omega) (by rw[Jm];omega) (by rw[Jm];omega) (by omega)
theorem AjC(d:Array (EL S))(a b:Nat)(hab:a≤b)(hb:b≤d.size)(hs:d.size<4294967296):(AjE S.z S.c) ((rep d),(a:Int),(b:Int),())=some ((rep (insertionSort ltX d a b)),()):=by
 have hm:d.size<many:=by simp only[many];omega
 have e1:IntKind.wrap .i64 ((a:Int)+1)=((a+1:Nat):Int):=by rw[Ai (by omega)];omega
 rw[Al9,AFB]
 simp only[e1,Av]
 rw[AjD a b (b-(a+1)) (a+1) d many rfl hb (by omega) hm (by omega)]
 rfl
end Go.Pev.Pl.SG
end
end
