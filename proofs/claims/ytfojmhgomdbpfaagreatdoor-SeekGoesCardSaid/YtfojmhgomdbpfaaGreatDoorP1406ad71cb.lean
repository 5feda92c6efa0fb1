/- A part of the proofs of this seat: U29b U29c U29d U29e DU23m U29f PevClip G29dP1 G29dP2 G29dP3 G29dP4 G29dP5 G29dP6 G29dP7 G29dP8 G29dP9 G29dP10 G29dP11 G29dP. -/
import Derived.Test.YtfojmhgomdbpfaaGreatDoorP35d1d5de2c
import Derived.Test.YtfojmhgomdbpfaaGreatDoorProg
set_option linter.unusedVariables false
set_option linter.unusedSimpArgs false
set_option linter.unusedSectionVars false
set_option maxRecDepth 100000
section
namespace Go.Pev.Pl.SE
open Go.Sort
theorem VZ{x y:Int×Int×Unit}(_:ok x)(_:ok y):∃ c,BR (x,y,())=some (c,())∧ilt c (0:Int)=lt x y:=by
 rw[AMc,Yd]
 simp only[XT,or_val,Ai,lt]
 refine⟨_,rfl,?_⟩
 apply Akb.2
 by_cases h1:x.1<y.1
 ·simp[h1]
 ·by_cases h2:y.1<x.1
  ·have h3:¬ x.1=y.1:=by omega
   simp[h1,h2,h3]
  ·have h3:x.1=y.1:=by omega
   by_cases h4:x.2.1<y.2.1
   ·simp[h3,h4]
   ·by_cases h5:y.2.1<x.2.1
    ·simp[h3,h4,h5]
    ·simp[h3,h4,h5]
noncomputable def S:SG.SP (Int×Int×Unit):=⟨((0:Int),((0:Int),())),BR,ok,okz,Tk,lt,swo,fun h1 h2=>VZ h1 h2⟩
theorem KH(xs:List (Int×Int×Unit))(h:xs.length<4294967296):∃ ys,AFo (xs,())=some (ys,())∧ys.Perm xs∧ys.Pairwise fun x y=>lt y x=false:=SG.KH S xs h fun _ _=>trivial
theorem AYH{xs zs:List (Int×Int×Unit)}(h:xs.length<4294967296)(hp:xs.Perm zs)(hz:zs.Pairwise G5):AFo (xs,())=some (zs,()):=by
 obtain⟨ys,e,h1,h2⟩:=KH xs h
 have hzs:zs.Pairwise fun x y=>lt y x=false:=hz.imp fun {a b} q=>by
  unfold lt
  unfold G5 at q
  rw[AkB]
  omega
 have:=List.Perm.eq_of_pairwise (le:=fun x y=>lt y x=false) (fun a b _ _ q1 q2=>by
  unfold lt at q1 q2
  rw[AkB]at q1 q2
  obtain⟨a1,a2,⟨⟩⟩:=a
  obtain⟨b1,b2,⟨⟩⟩:=b
  simp only at q1 q2
  have e1:a1=b1:=by omega
  have e2:a2=b2:=by omega
  rw[e1,e2]) h2 hzs (h1.trans hp)
 rw[e,this]
end Go.Pev.Pl.SE
namespace Go.Pev.Pl
def FZ(tks:List Int)(e:Edge):Bool:=decide (e.1∈tks) != decide (e.2.1∈tks)
def HB(N:Nat)(L:List Edge)(x:Int):Bool:=decide (x<(N:Int))&&L.any (EI x)
def atL(L:List Edge)(toks:List Int):List Edge:=L.filter fun e=>decide (e.1∈toks)||decide (e.2.1∈toks)
theorem AhF(x:Edge):(x.1,(x.2.1,()))=x:=rfl
theorem ACt{α:Type}(P:α→Bool):∀ L:List α,decide (0<(L.filter P).length)=L.any P
 |[]=>rfl
 |x::L=>by
  rw[AkL,AmP,← ACt P L]
  by_cases h:P x=true<;>simp[h]
section
variable {N:Nat} {ts:List Tie} {v k:Int} {tks:List Int} {ofm:List (Int×Int)} {outm:RM}
theorem UE(h:TR N ts v k tks ofm outm)(e:Edge):K8 ((N:Int),tks,ofm,outm,e,())=some ((N:Int),tks,ofm,outm,FZ tks e,()):=by
 rw[Z3,N6]
 simp only[h.of]
 unfold FZ
 by_cases h1:e.1∈tks<;>by_cases h2:e.2.1∈tks<;>simp only[h1,h2,Ajs,Ajb,AjU,Aji]<;>rw[Ah (by omega),Ar]<;>rfl
theorem ABt(h:TR N ts v k tks ofm outm)(x:Int):Hw ((N:Int),tks,ofm,outm,x,())=some ((N:Int),tks,ofm,outm,HB N (Bt ts k) x,()):=by
 rw[Wj,K7]
 have hr:=h.row x
 unfold E5 at hr
 simp only[hr,AL]
 unfold HB
 rw[Ai,Ai,← ACt]
 by_cases h1:x<(N:Int)<;>simp[h1]
theorem Zp(h:TR N ts v k tks ofm outm):Hv ((N:Int),tks,ofm,outm,())=some ((N:Int),tks,ofm,outm,tks.filter (HB N (Bt ts k)),()):=by
 have hl:tks.length≤1000:=h.rg.1.1
 have hp:=AGs (find:=B1) (step:=Cu) (0:Int) (fun a (w j:Nat)=>(a,(N:Int),tks,ofm,outm,(w:Int),(j:Int),())) (fun a (w:Nat)=>.inl (a,(N:Int),tks,ofm,outm,(w:Int),())) (fun i=>(tks,(N:Int),tks,ofm,outm,(tks.length:Int),(i:Int),())) (fun i=>.inl (tks,(N:Int),tks,ofm,outm,(i:Int),())) (.inr (.inl (tks,(N:Int),tks,ofm,outm,()))) (HB N (Bt ts k)) tks (by omega)
  (fun a w j ha hj hw hg=>by
   unfold Cu
   dsimp only
   simp (disch:=omega) only[AL,AO,ha,hj,AjU,Cc (0:Int),Eg,ADA,hg,AN,ABt h]
   cases HB N (Bt ts k) (tks.getD j 0)<;>rfl)
  (fun a w ha=>by unfold Cu;dsimp only;rw[AL,AO,AjF (by omega)])
  (fun i hi=>by
   unfold B1
   dsimp only
   simp (disch:=omega) only[AO,hi,AjU,Cc (0:Int),Eg,AN,ABt h]
   cases HB N (Bt ts k) (tks.getD i 0)<;>rfl)
  (by unfold B1;dsimp only;rw[AO,AjF (by omega)])
 rw[Wi,K6]
 simp only[AVN (show tks.length≤4294967296 by omega)]
 rw[NX,Ga,NK,GX]
 generalize HB N (Bt ts k)=keep at *
 rcases hp with⟨h0,e⟩|⟨i,a',hk,e,e2,hl,hle,e4⟩
 ·have e':AW B1 many (tks,(N:Int),tks,ofm,outm,AI tks,(0:Int),())=_:=e
  simp only[e',Ar]
  rw[h0]
  show some ((N:Int),tks,ofm,outm,Bq (AK (AI tks)) tks,())=_
  rw[Bq,AL,J0,Akk]
 ·have e':AW B1 many (tks,(N:Int),tks,ofm,outm,AI tks,(0:Int),())=_:=e
  obtain⟨c1,c2⟩:=ADX (0:Int) (a:=a') (w:=(tks.filter keep).length) (by omega)
  have s0:By (Bo (tks.filter keep).length (a'.length-(tks.filter keep).length) (0:Int) a') (0:Int) (((tks.filter keep).length:Nat):Int)=some _:=Hu (by omega)
  have s1:By a' (((tks.filter keep).length:Nat):Int) (a'.length:Int)=some _:=Da (by omega)
  simp only[e',Ar]
  rw[AjF (by omega),AN (by omega)]
  simp only[e2,s1,AL,Ajt,J0,s0]
  rw[AjY,c2,AkG (by omega),Bq,c1.trans e4]
theorem AU8(h:TR N ts v k tks ofm outm)(o:List Edge)(hs:o.length<4294967296):
  ∃ a:List Edge,IV (o,(N:Int),tks,ofm,outm,())=some (a,(N:Int),tks,ofm,outm,(((o.filter (FZ tks)).length:Nat):Int),())∧a.take (o.filter (FZ tks)).length=o.filter (FZ tks):=by
 have hp:=AGs (find:=CG) (step:=DR) ((0:Int),(0:Int),()) (fun a (w j:Nat)=>(a,(N:Int),tks,ofm,outm,(w:Int),(j:Int),())) (fun a (w:Nat)=>.inl (a,(N:Int),tks,ofm,outm,(w:Int),())) (fun i=>(o,(N:Int),tks,ofm,outm,(o.length:Int),(i:Int),())) (fun i=>.inl (o,(N:Int),tks,ofm,outm,(i:Int),())) (.inr (.inl (o,(N:Int),tks,ofm,outm,()))) (FZ tks) o hs
  (fun a w j ha hj hw hg=>by
   unfold DR
   dsimp only
   simp (disch:=omega) only[AL,AO,ha,hj,AjU,Cc ((0:Int),(0:Int),()),Eg,ADA,hg,AN,AhF,UE h]
   cases FZ tks (o.getD j ((0:Int),(0:Int),()))<;>rfl)
  (fun a w ha=>by unfold DR;dsimp only;rw[AL,AO,AjF (by omega)])
  (fun i hi=>by
   unfold CG
   dsimp only
   simp (disch:=omega) only[AO,hi,AjU,Cc ((0:Int),(0:Int),()),Eg,AN,AhF,UE h]
   cases FZ tks (o.getD i ((0:Int),(0:Int),()))<;>rfl)
  (by unfold CG;dsimp only;rw[AO,AjF (by omega)])
 rw[O5,HQ,Ow,HN]
 generalize FZ tks=keep at *
 rcases hp with⟨h0,e⟩|⟨i,a',hk,e,e2,hl,hle,e4⟩
 ·have e':AW CG many (o,(N:Int),tks,ofm,outm,AI o,(0:Int),())=_:=e
  simp only[e',Ar]
  exact⟨o,by rw[h0];rfl,by rw[h0,Akk]⟩
 ·have e':AW CG many (o,(N:Int),tks,ofm,outm,AI o,(0:Int),())=_:=e
  obtain⟨c1,c2⟩:=ADX ((0:Int),(0:Int),()) (a:=a') (w:=(o.filter keep).length) (by omega)
  have s0:By (Bo (o.filter keep).length (a'.length-(o.filter keep).length) ((0:Int),(0:Int),()) a') (0:Int) (((o.filter keep).length:Nat):Int)=some _:=Hu (by omega)
  have s1:By a' (((o.filter keep).length:Nat):Int) (a'.length:Int)=some _:=Da (by omega)
  simp only[e',Ar]
  rw[AjF (by omega),AN (by omega)]
  simp only[e2,s1,AL,Ajt,J0,s0]
  refine⟨_,?_,c1.trans e4⟩
  rw[AjY,c2,AkG (by omega)]
theorem APn(h:TR N ts v k tks ofm outm)(o:List Edge)(hs:o.length<4294967296):
  IP (o,(N:Int),tks,ofm,outm,())=some ((N:Int),tks,ofm,outm,if o.any (FZ tks)then((o.findIdx (FZ tks):Nat):Int)else -1,()):=by
 have e:=HD (step:=Ci) (fun i=>((N:Int),tks,ofm,outm,o,(o.length:Int),(i:Int),())) o (FZ tks) (fun i=>.inl ((N:Int),tks,ofm,outm,(i:Int),())) (.inr (.inl ((N:Int),tks,ofm,outm,()))) (by omega)
  (fun i x hi hx=>by
   unfold Ci
   dsimp only
   rw[AO,AjG hi]
   simp only[Ag hx,AhF,UE h]
   rw[AN (by omega)]
   cases FZ tks x<;>rfl)
  (by unfold Ci;dsimp only;rw[AO,AjF (by omega)])
 rw[Oz,HO]
 have e':AW Ci many ((N:Int),tks,ofm,outm,o,AI o,(0:Int),())=_:=e
 simp only[e']
 by_cases ha:o.any (FZ tks)=true<;>simp[ha]
end
abbrev MS:=List (Edge×Int)×List Edge
def KS(m:List (Edge×Int))(x:Edge):Int:=(AP m x).getD 0
def Of(a:MS)(x:Edge):MS:=(Ae a.1 x (KS a.1 x+1),if x∈a.2 then a.2 else a.2++[x])
structure MI2(s:Nat)(a:MS):Prop where
 len:a.2.length≤s
 bnd:∀ x,0≤KS a.1 x∧KS a.1 x≤(s:Int)
 zero:∀ x,KS a.1 x=0↔x∉a.2
 nd:a.2.Nodup
theorem MI2.step{s:Nat}{a:MS}(h:MI2 s a)(x:Edge):MI2 (s+1) (Of a x):=by
 have hg:∀ y,KS (Of a x).1 y=if y=x then KS a.1 x+1 else KS a.1 y:=by
  intro y
  unfold Of KS
  simp only
  rw[AB6]
  split<;>rfl
 refine⟨?_,fun y => ?_,fun y => ?_,?_⟩
 ·have:=h.len
  unfold Of
  simp only
  split<;>simp<;>omega
 ·rw[hg]
  have:=h.bnd x
  have:=h.bnd y
  split<;>omega
 ·rw[hg]
  unfold Of
  simp only
  have b:=h.bnd x
  by_cases hy:y=x
  ·subst hy
   rw[AjV rfl]
   by_cases hm:y∈a.2
   ·rw[AjV hm]
    constructor
    ·intro q;omega
    ·intro q;exact absurd hm q
   ·rw[AjS hm]
    constructor
    ·intro q;omega
    ·intro q;exact absurd (by simp) q
  ·rw[AjS hy,h.zero]
   split
   ·exact Iff.rfl
   ·simp[hy]
 ·unfold Of
  simp only
  split
  ·exact h.nd
  ·rename_i hm
   rw[AlG]
   refine⟨h.nd,by simp,fun p hp q hq => ?_⟩
   rw[Aje]at hq
   rintro rfl
   exact hm (hq▸hp)
theorem Adl(a:MS)(x y:Edge):y∈(Of a x).2↔y=x∨y∈a.2:=by
 unfold Of
 simp only
 split
 ·rename_i h
  constructor
  ·exact .inr
  ·rintro (rfl|q)
   ·exact h
   ·exact q
 ·simp[or_comm]
theorem AeZ:∀ (xs:List Edge) (a:MS) (y:Edge),y∈(xs.foldl Of a).2↔y∈xs∨y∈a.2:=by
 intro xs
 induction xs with
 |nil=>intro a y;simp
 |cons x xs ih=>
  intro a y
  rw[AkC,ih,Adl,AjN]
  constructor
  ·rintro (q|q|q)
   ·exact .inl (.inr q)
   ·exact .inl (.inl q)
   ·exact .inr q
  ·rintro ((q|q)|q)
   ·exact .inr (.inl q)
   ·exact .inl q
   ·exact .inr (.inr q)
theorem APi:∀ (xs:List Edge) (a:MS) (s:Nat),MI2 s a→MI2 (s+xs.length) (xs.foldl Of a):=by
 intro xs
 induction xs with
 |nil=>intro a s h;exact h
 |cons x xs ih=>
  intro a s h
  have:=ih _ _ (h.step x)
  rw[AkC,AjP,show s+(xs.length+1)=s+1+xs.length by omega]
  exact this
theorem Aig(n:Int)(tks:List Int)(ofm:List (Int×Int))(outm:RM)(toks:List Int)(d e:Int)(row:List Edge)(hr:row.length≤400)(a:MS)(s:Nat)(ha:MI2 s a)(hs:s≤1000000):
  AW Iw many (n,tks,ofm,outm,a.1,a.2,toks,d,e,row,AI row,(0:Int),())=some (.inl (n,tks,ofm,outm,(row.foldl Of a).1,(row.foldl Of a).2,toks,d,e,())):=by
 have q:=DZ (step:=Iw) (fun i (a:MS)=>(n,tks,ofm,outm,a.1,a.2,toks,d,e,row,AI row,(i:Int),())) row (fun x a=>.inl (Of a x)) (fun a=>.inl (n,tks,ofm,outm,a.1,a.2,toks,d,e,())) (fun i a=>MI2 (s+i) a) (by omega)
  (fun i x a hi hx ha=>by
   refine⟨fun m' h' => ?_,fun r h'=>(by cases h')⟩
   cases h'
   refine⟨?_,ha.step x⟩
   have b:=ha.bnd x
   have bl:=ha.len
   have hz:=ha.zero x
   have hw:IntKind.wrap .i64 (KS a.1 x+1)=KS a.1 x+1:=Ah (by omega)
   obtain⟨m1,m2⟩:=ATk a.1 x (KS a.1 x) (KS a.1 x+1)
   have hl:AP (Ae a.1 x (KS a.1 x+1)) x=some (KS a.1 x+1):=by rw[AB6,AjV rfl]
   rw[Iw,AL,AO,AjG hi]
   unfold KS at *
   simp only[Ag hx,AhF,m1,hw,m2,hl,Aju,Ar]
   rw[AN (by omega)]
   unfold Of KS
   by_cases hm:x∈a.2
   ·rw[AjF (by intro q;exact(hz.1 (by omega)) hm),AjV hm]
   ·rw[AjG (by have:=hz.2 hm;omega),AjS hm,BY (by simp only[AL,Alw];omega)]
    rfl)
  (fun a _=>by rw[Iw,AL,AO,AjF (by omega)]) a ha
 have q':AW Iw many (n,tks,ofm,outm,a.1,a.2,toks,d,e,row,AI row,(0:Int),())=_:=q
 rw[q',Bd (fun(x:Edge) (a:MS)=>Of a x)]
def AMC(outm:RM)(a:MS)(x:Int):MS:=(E5 outm x).foldl Of a
theorem Afb(outm:RM):∀ (toks:List Int) (a:MS) (y:Edge),y∈(toks.foldl (AMC outm) a).2↔(∃ x∈toks,y∈E5 outm x)∨y∈a.2:=by
 intro toks
 induction toks with
 |nil=>intro a y;simp
 |cons x xs ih=>
  intro a y
  rw[AkC,ih,AMC,AeZ]
  simp only[AjN,exists_eq_or_imp,or_assoc]
  constructor
  ·rintro (q|q|q)
   ·exact .inr (.inl q)
   ·exact .inl q
   ·exact .inr (.inr q)
  ·rintro (q|q|q)
   ·exact .inr (.inl q)
   ·exact .inl q
   ·exact .inr (.inr q)
theorem Ahu(outm:RM):∀ (toks:List Int) (a:MS) (s:Nat),MI2 s a→(toks.foldl (AMC outm) a).2.Nodup:=by
 intro toks
 induction toks with
 |nil=>intro a s h;exact h.nd
 |cons x xs ih=>intro a s h;rw[AkC];exact ih _ _ (APi _ _ _ h)
theorem MI2.mono{s s':Nat}{a:MS}(h:MI2 s a)(hs:s≤s'):MI2 s' a:=⟨by have:=h.len;omega,fun x=>by have:=h.bnd x;omega,h.zero,h.nd⟩
theorem AGJ{N:Nat}{ts:List Tie}(h:RG2 N ts)(k:Int):(Bt ts k).Pairwise G5:=by
 unfold Bt
 rw[Ake]
 have:=h.edP
 rw[Ake]at this
 exact this.filter _
theorem ABl{N:Nat}{ts:List Tie}(h:RG2 N ts)(k:Int):(Bt ts k).length≤400:=by
 unfold Bt
 rw[AkM]
 have:=Akz (Oe k) ts
 have:=h.ht
 omega
theorem AbH{L:List Edge}(h:L.Pairwise G5):L.Nodup:=h.imp fun {a b} q=>by
 rintro rfl
 unfold G5 at q
 omega
theorem Ae9{N:Nat}{ts:List Tie}{v k:Int}{tks:List Int}{ofm:List (Int×Int)}{outm:RM}(hg:RG2 N ts)(h:TR N ts v k tks ofm outm)(toks:List Int)(hl:toks.length≤1000):
  ARw ((N:Int),tks,ofm,outm,toks,())=some ((N:Int),tks,ofm,outm,atL (Bt ts k) toks,()):=by
 have hrow:∀ x,(E5 outm x).length≤400:=fun x=>by
  rw[h.row]
  have:=Akz (EI x) (Bt ts k)
  have:=ABl hg k
  omega
 have q:=DZ (step:=K9) (fun i (a:MS)=>((N:Int),tks,ofm,outm,a.1,a.2,toks,AI toks,(i:Int),())) toks (fun x a=>.inl (AMC outm a x)) (fun a=>.inl ((N:Int),tks,ofm,outm,a.2,())) (fun i a=>MI2 (400*i) a) (by omega)
  (fun i x a hi hx ha=>by
   refine⟨fun m' h' => ?_,fun r h'=>(by cases h')⟩
   cases h'
   constructor
   ·rw[K9,AL,AO,AjG hi]
    simp only[Ag hx]
    have:=Aig (N:Int) tks ofm outm toks (toks.length:Int) (i:Int) (E5 outm x) (hrow x) a (400*i) ha (by omega)
    unfold E5 at this
    simp only[this]
    rw[AN (by omega)]
    rfl
   ·exact(APi (E5 outm x) a _ ha).mono (by have:=hrow x;omega))
  (fun a _=>by rw[K9,AL,AO,AjF (by omega)]) ([],[]) ⟨by simp,fun x=>by simp[KS,AP],fun x=>by simp[KS,AP],by simp⟩
 have hp:((toks.foldl (AMC outm) ([],[])).2).Perm (atL (Bt ts k) toks):=by
  refine(List.perm_ext_iff_of_nodup (Ahu outm toks ([],[]) 0 ⟨by simp,fun x=>by simp[KS,AP],fun x=>by simp[KS,AP],by simp⟩) (AbH ((AGJ hg k).filter _))).2 fun y => ?_
  rw[Afb,Ajp]
  simp only[h.row,Ajp,EI,Ajy,AkU,Ak7,Alp]
  constructor
  ·rintro⟨x,hx,q1,q2|q2⟩
   ·exact⟨q1,.inl (q2▸hx)⟩
   ·exact⟨q1,.inr (q2▸hx)⟩
  ·rintro⟨q1,q2|q2⟩
   ·exact⟨_,q2,q1,.inl rfl⟩
   ·exact⟨_,q2,q1,.inr rfl⟩
 rw[AWC,AIQ]
 have q':AW K9 many ((N:Int),tks,ofm,outm,([]:List (Edge×Int)),([]:List Edge),toks,AI toks,(0:Int),())=_:=q
 simp only[q']
 rw[Bd (fun(x:Int) (a:MS)=>AMC outm a x)]
 have hlen:=hp.length_eq
 have h2:=Akz (fun e:Edge=>decide (e.1∈toks)||decide (e.2.1∈toks)) (Bt ts k)
 have h3:=ABl hg k
 have:=SE.AYH (xs:=(toks.foldl (fun a x=>AMC outm a x) ([],[])).2) (by
  have:(toks.foldl (fun a x=>AMC outm a x) ([],[])).2.length=(atL (Bt ts k) toks).length:=hlen
  unfold atL at this
  omega) hp ((AGJ hg k).filter _)
 simp only[this]
end Go.Pev.Pl
end
section
namespace Go.Pev.Pl
end Go.Pev.Pl
end
section
namespace Go.Pev.Pl
section
variable {N:Nat} {ts:List Tie} {v k:Int} {tks:List Int} {ofm:List (Int×Int)} {outm:RM}
def stL(N:Nat)(ts:List Tie)(k:Int)(tks:List Int):List Int:=tks.filter (HB N (Bt ts k))
theorem Afi(h:TR N ts v k tks ofm outm):(stL N ts k tks).length≤1000:=by
 have h1:tks.length≤1000:=h.rg.1.1
 have:=Akz (HB N (Bt ts k)) tks
 unfold stL
 omega
theorem AWh(hg:RG2 N ts){e:Edge}(he:e∈Bt ts k):In (N:Int) e.1∧In (N:Int) e.2.1:=by
 unfold Bt at he
 obtain⟨t,ht,rfl⟩:=Ajc.1 he
 exact hg.inE _ (Ajc.2 ⟨t,(Ajp.1 ht).1,rfl⟩)
theorem Agk(hg:RG2 N ts){e:Edge}(he:e∈Bt ts k):(e.1∈tks↔e.1∈stL N ts k tks)∧(e.2.1∈tks↔e.2.1∈stL N ts k tks):=by
 obtain⟨i1,i2⟩:=AWh hg he
 have m1:HB N (Bt ts k) e.1=true:=by
  unfold HB
  rw[AjG i1.2.2.2,AlL,AkS]
  exact⟨e,he,AjG (.inl rfl)⟩
 have m2:HB N (Bt ts k) e.2.1=true:=by
  unfold HB
  rw[AjG i2.2.2.2,AlL,AkS]
  exact⟨e,he,AjG (.inr rfl)⟩
 unfold stL
 rw[Ajp,Ajp,m1,m2]
 simp
theorem AfA(hg:RG2 N ts):atL (Bt ts k) (stL N ts k tks)=atL (Bt ts k) tks:=by
 unfold atL
 refine AlF fun e he => ?_
 obtain⟨q1,q2⟩:=Agk (tks:=tks) hg he
 rw[Akb.2 q1,Akb.2 q2]
theorem AXS(hg:RG2 N ts)(toks:List Int):(atL (Bt ts k) toks).length≤400:=by
 have:=ABl hg k
 have:=Akz (fun e:Edge=>decide (e.1∈toks)||decide (e.2.1∈toks)) (Bt ts k)
 unfold atL
 omega
def ldL(ts:List Tie)(k:Int)(tks:List Int):List Edge:=(atL (Bt ts k) tks).filter (FZ tks)
theorem Ab7(hg:RG2 N ts)(h:TR N ts v k tks ofm outm)(hs:seen (((N:Int),(ts,())),v,k,())=some (.inr (.inl ((N:Int),tks,ofm,outm,0,())))):
  AMS (((N:Int),(ts,())),v,k,())=some (ldL ts k tks,0,()):=by
 have hl:=AXS hg (k:=k) (stL N ts k tks)
 obtain⟨a,e1,e2⟩:=AU8 h (atL (Bt ts k) (stL N ts k tks)) (by omega)
 rw[AV4,AIB]
 simp only[hs,Dj,AjT,Zp h]
 have ha:=Ae9 hg h (stL N ts k tks) (Afi h)
 unfold stL at ha e1 e2
 simp only[ha,e1,Bq,J0,e2]
 have:=AfA (tks:=tks) (k:=k) hg
 unfold stL at this
 rw[this]
 rfl
def ACk(N:Nat)(ts:List Tie)(k:Int)(tks:List Int)(r:Nat):Option Edge:=(atL (Bt ts k) ((stL N ts k tks).take (2 ^ r))).find? (FZ tks)
def ndL(c r:Nat):Nat:=if r=0 then 0 else min c (2 ^ (r-1))
theorem Adh(c r:Nat):ndL c (r+1)=min c (2 ^ r):=by unfold ndL;rw[AjS (by omega),Alm]
def lkL(F:Nat→Option Edge)(c:Nat):Nat→Nat→Option Edge×Nat
 |0,r=>(none,r)
 |f+1,r=>if ndL c r<c then(match F r with
  |some e=>(some e,r+1)
  |none=>lkL F c f (r+1))else(none,r)
def Ahh(c:Nat)(x:Option Edge×Nat):Bool×(Int×Int×Unit)×Int×Int×Unit:=(x.1.isSome,((x.1.getD (0,0,())).1,((x.1.getD (0,0,())).2.1,())),(x.2:Int),(ndL c x.2:Int),())
theorem Af0{r:Nat}(h:r≤8):shl? .i64 (1:Int) (IntKind.wrap .u64 (r:Int))=some ((2 ^ r:Nat):Int):=by
 rw[IntWalk.u64_in _ (by omega),AAA,Xy,AjS (by omega),AkA,show min r (IntKind.bits .i64)=r from AkG (by show r≤64;omega),Int.one_mul]
 have:2 ^ r≤2 ^ 8:=Nat.pow_le_pow_right (by omega) h
 have e:((2:Int) ^ r)=((2 ^ r:Nat):Int):=by rw[Int.natCast_pow];rfl
 rw[e]
 generalize 2 ^ r=q at *
 rw[Ah (by omega)]
theorem Ahc(hg:RG2 N ts)(h:TR N ts v k tks ofm outm):(stL N ts k tks).length≤N:=by
 have hnd:(stL N ts k tks).Nodup:=h.rg.1.2.2.filter _
 have:=Cg (b:=(List.range N).map fun(i:Nat)=>(i:Int)) hnd fun x hx=>by
  unfold stL at hx
  obtain⟨q1,q2⟩:=Ajp.1 hx
  have q3:=(h.rg.1.2.1 x q1).1
  unfold HB at q2
  rw[AjJ,Ajy]at q2
  rw[Ajc]
  exact⟨x.toNat,by rw[AkP];omega,by omega⟩
 rw[AkM,Ajx]at this
 exact this
theorem Ahg{c:Nat}(h:c≤64):¬ ndL c 8<c:=by
 unfold ndL
 rw[AjS (by omega),AkG (AkO h (by decide))]
 omega
theorem APm(P:Edge→Bool):∀ L:List Edge,(∃ e,L.find? P=some e∧L.any P=true∧L[L.findIdx P]? = some e)∨(L.find? P=none∧L.any P=false)
 |[]=>.inr ⟨rfl,rfl⟩
 |x::L=>by
  rw[List.find?_cons,AmP,Alc]
  by_cases h:P x=true
  ·exact .inl ⟨x,by simp[h],by simp[h],by simp[h]⟩
  ·have h':P x=false:=by simpa using h
   rcases APm P L with⟨e,q1,q2,q3⟩|⟨q1,q2⟩
   ·exact .inl ⟨e,by simp[h',q1],by simp[q2],by simp[h',q3]⟩
   ·exact .inr ⟨by simp[h',q1],by simp[h',q2]⟩
theorem ARX(hg:RG2 N ts)(h:TR N ts v k tks ofm outm):∀ (f r:Nat),r+f=8→∀ cnt,f<cnt →
  ∃ z,AY Gg cnt (false,(0:Int),(0:Int),(r:Int),(ndL (stL N ts k tks).length r:Int),(N:Int),tks,ofm,outm,stL N ts k tks,())=some (.inl (z.1,z.2.1.1,z.2.1.2.1,z.2.2.1,z.2.2.2.1,()))∧z=Ahh (stL N ts k tks).length (lkL (ACk N ts k tks) (stL N ts k tks).length f r):=by
 intro f
 have hN:=hg.hN
 have hc:=Ahc hg h
 induction f with
 |zero=>
  intro r hr cnt hcnt
  obtain⟨cnt,rfl⟩:∃ c,cnt=c+1:=⟨cnt-1,by omega⟩
  obtain rfl:r=8:=by omega
  refine⟨_,?_,rfl⟩
  rw[AY,Gg,AL]
  simp only[Ajw]
  rw[AO,AjF (Ahg (by omega))]
  rfl
 |succ f ih=>
  intro r hr cnt hcnt
  obtain⟨cnt,rfl⟩:∃ c,cnt=c+1:=⟨cnt-1,by omega⟩
  rw[AY,Gg,AL]
  simp only[Ajw]
  rw[AO]
  by_cases hn:ndL (stL N ts k tks).length r<(stL N ts k tks).length
  ·rw[AjG hn]
   have hm:CR ((stL N ts k tks).length:Int) ((2 ^ r:Nat):Int)=(ndL (stL N ts k tks).length (r+1):Int):=by
    unfold CR
    rw[Adh]
    generalize 2 ^ r=q at *
    generalize (stL N ts k tks).length=c at *
    rcases Nat.le_total c q with hh|hh
    ·rw[AkG hh];split<;>omega
    ·rw[Alg hh];split<;>omega
   have hle:ndL (stL N ts k tks).length (r+1)≤(stL N ts k tks).length:=by unfold ndL;rw[AjS (by omega)];exact Nat.min_le_left _ _
   have htk:(stL N ts k tks).take (ndL (stL N ts k tks).length (r+1))=(stL N ts k tks).take (2 ^ r):=by
    unfold ndL
    rw[AjS (by omega),Alm,List.take_eq_take_min (i:=2 ^ r),Nat.min_comm]
   have hl:=AXS hg (k:=k) ((stL N ts k tks).take (2 ^ r))
   simp only[Af0 (show r≤8 by omega),hm,Hu hle,htk]
   rw[Ae9 hg h _ (by rw[AjY];omega)]
   simp only[APn h _ (show(atL (Bt ts k) ((stL N ts k tks).take (2 ^ r))).length<4294967296 by omega)]
   rw[AN (by omega)]
   have hf:lkL (ACk N ts k tks) (stL N ts k tks).length (f+1) r=match ACk N ts k tks r with
    |some e=>(some e,r+1)
    |none=>lkL (ACk N ts k tks) (stL N ts k tks).length f (r+1):=by rw[lkL,AjV hn]
   rw[hf]
   unfold ACk
   rcases APm (FZ tks) (atL (Bt ts k) ((stL N ts k tks).take (2 ^ r)))with⟨e,q1,q2,q3⟩|⟨q1,q2⟩
   ·rw[q1,AjV q2,Ax,AjG (by omega)]
    simp only[Ag q3,VN q3]
    obtain⟨cnt,rfl⟩:∃ c,cnt=c+1:=⟨cnt-1,by omega⟩
    refine⟨_,?_,rfl⟩
    rw[AY,Gg]
    rfl
   ·rw[q1,AjS (by rw[q2];exact Bool.false_ne_true),Ax,AjF (by omega)]
    exact ih (r+1) (by omega) cnt (by omega)
  ·rw[AjF hn,lkL,AjS hn]
   exact⟨_,rfl,rfl⟩
def HC(N:Nat)(ts:List Tie)(k:Int)(tks:List Int):Option Edge×Nat:=lkL (ACk N ts k tks) (stL N ts k tks).length 8 0
theorem AYC(hg:RG2 N ts)(h:TR N ts v k tks ofm outm)(hs:seen (((N:Int),(ts,())),v,k,())=some (.inr (.inl ((N:Int),tks,ofm,outm,0,())))):
  Mj (((N:Int),(ts,())),v,k,())=some (Ahh (stL N ts k tks).length (HC N ts k tks),0,()):=by
 obtain⟨z,e,hz⟩:=ARX hg h 8 0 rfl many (by simp only[many];omega)
 rw[AMQ,Yc]
 simp only[hs,Dj,AjT,Zp h]
 have e':AW Gg many (false,(0:Int),(0:Int),(0:Int),(0:Int),(N:Int),tks,ofm,outm,tks.filter (HB N (Bt ts k)),())=some (.inl (z.1,z.2.1.1,z.2.1.2.1,z.2.2.1,z.2.2.2.1,())):=by rw[An];exact e
 simp only[e',hz]
 rfl
end
end Go.Pev.Pl
end
section
namespace Go.Pev.Pl
theorem ALK:JT ()=some (true,()):=by
 rw[show JT () = @JT idI ()from AkZ (fun i=>@JT i ()) AB7]
 kernel_rfl
theorem APb(n:Int)(ts:List Tie):OL ((n,(ts,())),())=some (true,())∨(OL ((n,(ts,())),())=some (false,())∧ts.length≤30∧n≤12):=by
 rw[ACa,OK]
 simp only[AL,Ai]
 by_cases h1:(30:Int)<ts.length
 ·rw[AjG h1];exact .inl rfl
 ·rw[AjF h1]
  by_cases h2:(12:Int)<n
  ·rw[AjG h2];exact .inl rfl
  ·rw[AjF h2];exact .inr ⟨rfl,by omega,by omega⟩
abbrev Lk3:=Bool×(Int×Int×Unit)×Int×Int×Unit
section
variable {n:Int} {ts:List Tie} {v k e:Int}
end
abbrev GT:=(Int×(List (Int×Int×Int×Bool×Unit))×Unit)
theorem Adt(F:Nat→Option Edge)(c:Nat)(hc:c≤64):∀ f r,r+f=8 →
  r≤(lkL F c f r).2∧(lkL F c f r).2≤8∧((lkL F c f r).2=r→(lkL F c f r).1=none)∧(r<(lkL F c f r).2→ndL c ((lkL F c f r).2-1)<c∧(lkL F c f r).1=F ((lkL F c f r).2-1))∧((lkL F c f r).1=none→¬ ndL c (lkL F c f r).2<c):=by
 intro f
 induction f with
 |zero=>
  intro r hr
  obtain rfl:r=8:=by omega
  refine⟨AjR _,AjR _,fun _=>rfl,fun q => ?_,fun _=>Ahg hc⟩
  unfold lkL at q
  omega
 |succ f ih=>
  intro r hr
  rw[lkL]
  by_cases hn:ndL c r<c
  ·rw[AjV hn]
   cases hF:F r with
   |some e=>
    simp only
    refine⟨by omega,by omega,fun q=>by omega,fun _=>⟨hn,?_⟩,fun q=>by cases q⟩
    rw[Alm,hF]
   |none=>
    simp only
    obtain⟨i1,i2,i3,i4,i5⟩:=ih (r+1) (by omega)
    refine⟨by omega,i2,fun q=>by omega,fun q => ?_,i5⟩
    by_cases hh:(lkL F c f (r+1)).2=r+1
    ·rw[i3 hh,hh,Alm]
     exact⟨hn,hF.symm⟩
    ·exact i4 (by omega)
  ·rw[AjS hn]
   refine⟨AjR _,by omega,fun _=>rfl,fun q=>by omega,fun _=>hn⟩
section
variable {N:Nat} {ts:List Tie} {v k:Int} {tks:List Int} {ofm:List (Int×Int)} {outm:RM}
theorem AfB{L:List Edge}{S:List Int}{a:Nat}{e:Edge}(h:e∈atL L (S.take a)):e∈atL L S:=by
 unfold atL at *
 rw[Ajp]at *
 refine⟨h.1,?_⟩
 have:=h.2
 rw[AkU,Ajy,Ajy]at *
 exact this.imp Ak8 Ak8
theorem AiM(c r:Nat):ndL c r≤c:=by
 unfold ndL
 split
 ·omega
 ·exact Nat.min_le_left _ _
theorem Afr{x:Int}(hx:x∈stL N ts k tks):∃ e,e∈atL (Bt ts k) (stL N ts k tks):=by
 have hx':=hx
 unfold stL HB at hx'
 rw[Ajp,AjJ,AkS]at hx'
 obtain⟨_,_,e,he,ht⟩:=hx'
 unfold EI at ht
 rw[Ajy]at ht
 refine⟨e,Ajp.2 ⟨he,?_⟩⟩
 rw[AkU,Ajy,Ajy]
 rcases ht with rfl|rfl
 ·exact .inl hx
 ·exact .inr hx
theorem AT7(hg:RG2 N ts)(h:TR N ts v k tks ofm outm)(hN:N≤12):
  (HC N ts k tks).2≤5∧((HC N ts k tks).1.isSome=decide (0<(ldL ts k tks).length)) ∧
  ((HC N ts k tks).1=none→atL (Bt ts k) ((stL N ts k tks).take (ndL (stL N ts k tks).length (HC N ts k tks).2))=atL (Bt ts k) ((stL N ts k tks).take 100)) ∧
  (∀ e,(HC N ts k tks).1=some e→e∈ldL ts k tks∧e∈atL (Bt ts k) ((stL N ts k tks).take (ndL (stL N ts k tks).length (HC N ts k tks).2))) ∧
  (((HC N ts k tks).2=0)↔ndL (stL N ts k tks).length (HC N ts k tks).2=0)∧(((HC N ts k tks).2=0)↔(atL (Bt ts k) ((stL N ts k tks).take 100)).length=0) ∧
  ((HC N ts k tks).2≠0→2 ^ ((HC N ts k tks).2-1)<2*ndL (stL N ts k tks).length (HC N ts k tks).2∧ndL (stL N ts k tks).length (HC N ts k tks).2≤2 ^ ((HC N ts k tks).2-1)):=by
 have hc:=Ahc hg h
 obtain⟨_,s1,s2,s3,s4⟩:=Adt (ACk N ts k tks) (stL N ts k tks).length (by omega) 8 0 rfl
 have hst:=AfA (tks:=tks) (k:=k) hg
 have h100:atL (Bt ts k) ((stL N ts k tks).take 100)=atL (Bt ts k) (stL N ts k tks):=by rw[AkE (by omega)]
 have hall:∀ R,¬ ndL (stL N ts k tks).length R<(stL N ts k tks).length→atL (Bt ts k) ((stL N ts k tks).take (ndL (stL N ts k tks).length R))=atL (Bt ts k) (stL N ts k tks):=fun R q=>by
  have:=AiM (stL N ts k tks).length R
  rw[AkE (by omega)]
 rw[h100]
 unfold HC
 generalize hx:lkL (ACk N ts k tks) (stL N ts k tks).length 8 0=x at *
 obtain⟨o,R⟩:=x
 simp only at *
 have hpow:∀ {a b:Nat},a≤b→2 ^ a≤2 ^ b:=fun h=>Nat.pow_le_pow_right (by omega) h
 have hR5:R≤5:=by
  rcases Aj3 R 6 with q|q
  ·omega
  ·have:=(s3 (by omega)).1
   unfold ndL at this
   rw[AjS (by omega)]at this
   have:=hpow (show 4≤R-1-1 by omega)
   omega
 have hR0:R=0→(stL N ts k tks).length=0:=fun q=>by
  subst q
  have:=s4 (s2 rfl)
  unfold ndL at this
  simp only[Ajs]at this
  omega
 have hR1:R≠0→0<(stL N ts k tks).length:=fun q=>by
  have:=(s3 (by omega)).1
  omega
 have hnd:R≠0→ndL (stL N ts k tks).length R=min (stL N ts k tks).length (2 ^ (R-1)):=fun q=>by unfold ndL;rw[AjS q]
 have hfl:∀ e,ACk N ts k tks (R-1)=some e→e∈ldL ts k tks∧e∈atL (Bt ts k) ((stL N ts k tks).take (2 ^ (R-1))):=fun e q=>by
  unfold ACk at q
  have m:=List.mem_of_find?_eq_some q
  have p:=List.find?_some q
  refine⟨?_,m⟩
  unfold ldL
  rw[← hst,Ajp]
  exact⟨AfB m,p⟩
 refine⟨hR5,?_,fun q=>hall R (s4 q),?_,?_,?_,?_⟩
 ·cases o with
  |some e=>
   have hR:R≠0:=fun q=>by have:=s2 q;cases this
   obtain⟨m,_⟩:=hfl e (s3 (by omega)).2.symm
   rw[AjG (List.length_pos_of_mem m)]
   rfl
  |none=>
   have hn:=s4 rfl
   have:ldL ts k tks=[]:=by
    unfold ldL
    rw[← hst]
    by_cases hR:R=0
    ·have:=Ajd (hR0 hR)
     rw[this,atL]
     simp
    ·have e1:=(s3 (by omega)).2
     have e2:=hnd hR
     unfold ACk at e1
     rw[AkE (by omega)]at e1
     rw[List.filter_eq_nil_iff]
     intro y hy hh
     exact absurd hh (by simpa using List.find?_eq_none.1 e1.symm y hy)
   rw[this]
   rfl
 ·intro e he
  subst he
  have hR:R≠0:=fun q=>by have:=s2 q;cases this
  obtain⟨m1,m2⟩:=hfl e (s3 (by omega)).2.symm
  refine⟨m1,?_⟩
  rw[hnd hR,Nat.min_comm,← List.take_eq_take_min]
  exact m2
 ·constructor
  ·intro q
   subst q
   rfl
  ·intro q
   apply Aj6
   intro hR
   have:=hnd hR
   have:=hR1 hR
   have:=hpow (Al5 (R-1))
   omega
 ·constructor
  ·intro q
   rw[Ajd (hR0 q),atL]
   simp
  ·intro q
   apply Aj6
   intro hR
   obtain⟨x,hx⟩:=List.exists_mem_of_length_pos (hR1 hR)
   obtain⟨e,he⟩:=Afr hx
   have:=List.length_pos_of_mem he
   omega
 ·intro hR
  have e2:=hnd hR
  have e3:=hR1 hR
  refine⟨?_,by omega⟩
  have e4:=(s3 (by omega)).1
  by_cases hR2:R=1
  ·subst hR2
   simp only[Akj,Nat.pow_zero]at *
   omega
  ·unfold ndL at e4
   rw[AjS (by omega)]at e4
   have:2 ^ (R-1)=2*2 ^ (R-1-1):=by
    obtain⟨q,rfl⟩:∃ q,R=q+2:=⟨R-2,by omega⟩
    show 2 ^ (q+1)=2*2 ^ q
    rw[Nat.pow_succ]
    omega
   have hB:0<2 ^ (R-1-1):=Nat.pow_pos (by omega)
   clear hfl hpow s3 hnd hx hall
   generalize 2 ^ (R-1-1)=B at *
   generalize 2 ^ (R-1)=A at *
   generalize ndL (stL N ts k tks).length R=nd at *
   omega
end
end Go.Pev.Pl
end
section
namespace Go.Pev.Pl
open Tok
inductive Oj(f:Option Edge):List Tie→List Tie→Int→Prop
 |nil:Oj f [] [] 0
 |cons {a b:Tie} {A B:List Tie} {r:Int}:ed a=ed b→a.2.2.1≤b.2.2.1→(a.2.2.2.1=true→b.2.2.2.1=true)→(b.2.2.2.1=true→a.2.2.2.1=false→f=some (ed b))→Oj f A B r→Oj f (a::A) (b::B) (b.2.2.1-a.2.2.1+r)
theorem Oj.refl(f:Option Edge):∀ A:List Tie,Oj f A A 0
 |[]=>.nil
 |a::A=>by
  have:=Oj.cons (f:=f) (a:=a) (b:=a) rfl (AmN _) (fun h=>h) (fun h h'=>by rw[h]at h';cases h') (Oj.refl f A)
  rwa [Int.sub_self,Int.zero_add]at this
theorem Oj.to{f:Option Edge}{A B:List Tie}{r r':Int}(h:Oj f A B r)(e:r=r'):Oj f A B r':=e▸h
theorem Oj.trans{f:Option Edge}{A B C:List Tie}{r s:Int}(h:Oj none A B r)(k:Oj f B C s):Oj f A C (r+s):=by
 induction h generalizing C s with
 |nil=>cases k;exact Oj.nil
 |cons e1 e2 e3 e4 _ ih=>
  cases k with
  |cons g1 g2 g3 g4 k=>
   refine(Oj.cons (e1.trans g1) (Int.le_trans e2 g2) (fun q=>g3 (e3 q)) (fun q q' => ?_) (ih k)).to (by omega)
   exact g4 q (Bool.eq_false_iff.2 fun hb=>by have:=e4 hb q';cases this)
end Go.Pev.Pl
end
section
namespace Go.Pev.Pl
section
variable {N:Nat} {ts:List Tie} {v k:Int} {tks:List Int} {ofm:List (Int×Int)} {outm:RM}
noncomputable def ldF(X:List Tie)(k a:Int):List Edge:=(Bt X k).filter fun e=>CK (trk X k) a e.1 != CK (trk X k) a e.2.1
theorem Ahi(hg:RG2 N ts)(h:TR N ts v k tks ofm outm):ldL ts k tks=ldF ts k v:=by
 unfold ldL ldF atL
 rw[List.filter_filter]
 refine AlF fun e he => ?_
 obtain⟨i1,i2⟩:=AWh hg he
 have c1:decide (e.1∈tks)=CK (trk ts k) v e.1:=by
  rw[AkW,Ajy,BC]
  exact h.con _ i1
 have c2:decide (e.2.1∈tks)=CK (trk ts k) v e.2.1:=by
  rw[AkW,Ajy,BC]
  exact h.con _ i2
 unfold FZ
 rw[c1,c2]
 cases CK (trk ts k) v e.1<;>cases CK (trk ts k) v e.2.1<;>rfl
theorem AMd(hg:RG2 N ts)(hN:N≤12)(hv:0≤v∧v<(N:Int))(k:Int):
  ∃ y:Lk3,Mj (((N:Int),(ts,())),v,k,())=some (y,0,())∧y.1=decide (0<(ldF ts k v).length)∧AMS (((N:Int),(ts,())),v,k,())=some (ldF ts k v,0,()):=by
 obtain⟨tks,ofm,outm,h1,h2,h⟩:=AcO hg v k hv
 obtain⟨_,f2,_⟩:=AT7 hg h hN
 refine⟨_,AYC hg h h1,?_,?_⟩
 ·rw[← Ahi hg h,← f2]
  rfl
 ·rw[Ab7 hg h h1,Ahi hg h]
end
theorem AS6(S:Int→Bool)(top i:Int):∀ ts:List Tie,(BN S top i ts).2.2=((ts.filter fun t=>Oe i t&&(S t.1 != S t.2.1)).map ed).head? := by
 intro ts
 induction ts with
 |nil=>rfl
 |cons t ts ih=>
  rw[BN,AkL]
  by_cases h1:t.2.2.2.1=true∨t.2.2.1≠i
  ·rw[AjV h1,AjS (by
    unfold Oe
    rcases h1 with h1|h1<;>simp[h1])]
   exact ih
  ·have h2:t.2.2.2.1=false:=by
    cases hq:t.2.2.2.1
    ·rfl
    ·exact absurd (.inl hq) h1
   have h3:t.2.2.1=i:=Aj6 fun q=>h1 (.inr q)
   have hb:Oe i t=true:=by unfold Oe;rw[h2,h3];simp
   rw[AjS h1,hb]
   by_cases h4:both S t=true
   ·have:=ADo h4
    unfold EM at this
    rw[AjV h4,AjS (by simpa using this)]
    exact ih
   ·rw[AjS h4]
    by_cases h5:EM S t
    ·unfold EM at h5
     rw[AjV (show EM S t from h5),AjV (by simpa using h5)]
     rfl
    ·rw[AjS h5]
     unfold EM at h5
     rw[AjS (by simpa using h5)]
     exact ih
structure Rai(m:Nat)(f:Tie→Tie)(X:List Tie):Prop where
 ed:∀ t,ed (f t)=ed t
 tree:∀ t,(f t).2.2.2.1=t.2.2.2.1
 low:∀ t∈X,t.2.2.1<(m:Int)→f t=t
 high:∀ t∈X,(m:Int)≤t.2.2.1→(m:Int)≤(f t).2.2.1
section
variable {N:Nat} {a b i:Nat} {X:List Tie} {f:Tie→Tie} {c:Nat} {S:Int→Bool}
theorem Rai.trk(h:Rai (i+1) f X):trk (X.map f) (i:Int)=Go.Pev.Pl.trk X (i:Int):=by
 refine YW (i:Int) h.ed h.tree X fun t ht _ => ?_
 rcases Int.lt_or_le t.2.2.1 ((i+1:Nat):Int)with q|q
 ·rw[h.low t ht q]
 ·have:=h.high t ht q
  omega
theorem Rai.find(h:Rai (i+1) f X)(S:Int→Bool)(top:Int):((((X.map f).map (rT S top i)).filter fun t=>Oe (i:Int) t&&(S t.1 != S t.2.1)).map Go.Pev.Pl.ed)=(Bt X (i:Int)).filter fun e=>S e.1 != S e.2.1:=by
 unfold Bt
 rw[AlX,List.filter_map,AlX,List.filter_map,List.filter_filter]
 have e1:(Go.Pev.Pl.ed ∘ (rT S top i ∘ f))=Go.Pev.Pl.ed:=by
  funext t
  show Go.Pev.Pl.ed (rT S top i (f t))=_
  rw[Qx,h.ed]
 rw[e1]
 congr 1
 refine AlF fun t ht => ?_
 show(Oe (i:Int) (rT S top i (f t))&&(S (rT S top i (f t)).1 != S (rT S top i (f t)).2.1))=((S (Go.Pev.Pl.ed t).1 != S (Go.Pev.Pl.ed t).2.1)&&Oe (i:Int) t)
 have e2:Go.Pev.Pl.ed (rT S top i (f t))=Go.Pev.Pl.ed t:=by rw[Qx,h.ed]
 have e3:(rT S top i (f t)).1=(Go.Pev.Pl.ed t).1:=AkZ (fun e:Edge=>e.1) e2
 have e4:(rT S top i (f t)).2.1=(Go.Pev.Pl.ed t).2.1:=AkZ (fun e:Edge=>e.2.1) e2
 have e5:Oe (i:Int) (rT S top i (f t))=Oe (i:Int) t:=by
  unfold Oe
  rw[I2,h.tree]
  cases ht2:t.2.2.2.1
  ·rw[Gi (by rw[h.tree];exact ht2)]
   simp only[Ajw,AlL]
   apply Akb.2
   rcases Int.lt_or_le t.2.2.1 ((i+1:Nat):Int)with q|q
   ·rw[h.low t ht q]
   ·have:=h.high t ht q
    omega
  ·rfl
 rw[e3,e4,e5,Bool.and_comm]
theorem Rai.next(h:Rai (i+1) f X)(S:Int→Bool){top:Int}(hit:(i:Int)≤top):Rai i (rO S top i ∘ (rT S top i ∘ f)) X:=by
 have hup:∀ t:Tie,t.2.2.1=(i:Int)→(i:Int)≤(rO S top i (rT S top i t)).2.2.1:=fun t ht=>by
  have h1:=AAj (S:=S) (i:=(i:Int)) (t:=t) (top:=top) (by omega)
  have h2:=AIz (S:=S) (i:=(i:Int)) h1.2
  omega
 have hno:∀ t:Tie,t.2.2.1≠(i:Int)→rO S top i (rT S top i t)=t:=fun t ht=>by
  have:rT S top i t=t:=by unfold rT;rw[AjS (fun q=>ht q.2.1)]
  rw[this]
  unfold rO
  rw[AjS (fun q=>ht q.2.1)]
 refine⟨fun t => ?_,fun t => ?_,fun t ht hl => ?_,fun t ht hl => ?_⟩
 ·show Go.Pev.Pl.ed (rO S top i (rT S top i (f t)))=_
  rw[AWT,Qx,h.ed]
 ·show(rO S top i (rT S top i (f t))).2.2.2.1=_
  rw[Yg,I2,h.tree]
 ·show rO S top i (rT S top i (f t))=t
  rw[h.low t ht (by omega)]
  exact hno t (by omega)
 ·show(i:Int)≤(rO S top i (rT S top i (f t))).2.2.1
  rcases Int.lt_or_le t.2.2.1 ((i+1:Nat):Int)with q|q
  ·rw[h.low t ht q]
   exact hup t (by omega)
  ·have:=h.high t ht q
   rw[hno _ (by omega)]
   omega
theorem Aal{l:List Edge}{u v:Int}{p q:Int}(hn:¬ Con l u v)(h:Con (l++[((u:Int),(v,()))]) p q):(CK l u p != CK l u q)=(CK l v p != CK l v q):=by
 have h':=Con.snoc.1 h
 simp only at h'
 have key:∀ x y:Int,Con l x y→∀ w,CK l w x=CK l w y:=fun x y q w=>by
  rw[AkW,BC,BC]
  exact⟨fun z=>z.trans q,fun z=>z.trans q.symm⟩
 rcases h' with h'|⟨h1,h2⟩|⟨h1,h2⟩
 ·rw[key _ _ h' u,key _ _ h' v]
  simp
 ·rw[(BC _ _ _).2 h1.symm,(BC _ _ _).2 h2,(DD _ _ _).2 (fun z=>hn (z.trans h2.symm)),(DD _ _ _).2 (fun z=>hn (h1.symm.trans z.symm))]
  rfl
 ·rw[(BC _ _ _).2 h1.symm,(BC _ _ _).2 h2,(DD _ _ _).2 (fun z=>hn (z.trans h1)),(DD _ _ _).2 (fun z=>hn (h2.trans z.symm))]
  rfl
theorem Rai.ld{top:Int}(h:Rai (i+1) f X)(hG:Ih N top ((a:Int),((b:Int),())) ((i:Int)+1) (X.map f))(hL:L3 N ((a:Int),((b:Int),())) i (X.map f) S c):
  (Bt X (i:Int)).filter (fun e=>S e.1 != S e.2.1)=ldF X (i:Int) a∧ldF X (i:Int) b=ldF X (i:Int) a:=by
 have ht:=h.trk
 have hap:¬ Con (Go.Pev.Pl.trk X (i:Int)) (a:Int) (b:Int):=by rw[← ht];exact hG.apart i
 have hsame:∀ e∈Bt X (i:Int),(CK (Go.Pev.Pl.trk X (i:Int)) (a:Int) e.1 != CK (Go.Pev.Pl.trk X (i:Int)) (a:Int) e.2.1)=(CK (Go.Pev.Pl.trk X (i:Int)) (b:Int) e.1 != CK (Go.Pev.Pl.trk X (i:Int)) (b:Int) e.2.1):=fun e he=>by
  unfold Bt at he
  obtain⟨t,ht1,rfl⟩:=Ajc.1 he
  obtain⟨ht1,ht2⟩:=Ajp.1 ht1
  unfold Oe at ht2
  rw[AjJ,Ajy,AkN]at ht2
  have hf:f t=t:=h.low t ht1 (by omega)
  have hm:t∈X.map f:=Ajc.2 ⟨t,ht1,hf⟩
  have:=hG.lie2 t hm ht2.1 (by omega)
  rw[ht2.2,ht]at this
  exact Aal hap this
 have hin:∀ e∈Bt X (i:Int),InE N e:=fun e he=>by
  unfold Bt at he
  obtain⟨t,ht1,rfl⟩:=Ajc.1 he
  obtain⟨ht1,ht2⟩:=Ajp.1 ht1
  have:=hG.ins (f t) (Ajc.2 ⟨t,ht1,rfl⟩)
  rw[h.ed]at this
  exact this
 have hb:ldF X (i:Int) b=ldF X (i:Int) a:=by
  unfold ldF
  exact AlF fun e he=>(hsame e he).symm
 refine⟨?_,hb⟩
 have hS:∀ w:Int,0≤w∧w<(N:Int)→S w=CK (Go.Pev.Pl.trk X (i:Int)) (c:Int) w:=fun w hw=>by
  obtain⟨m,rfl⟩:=AjO hw.1
  have:=hL.side m (by omega)
  rw[ht]at this
  rw[AkW,BC]
  exact this
 have hc:(Bt X (i:Int)).filter (fun e=>S e.1 != S e.2.1)=ldF X (i:Int) c:=by
  unfold ldF
  refine AlF fun e he => ?_
  obtain⟨q1,q2⟩:=hin e he
  rw[hS _ q1,hS _ q2]
 rw[hc]
 rcases hL.at_ with q|q
 ·have:(c:Int)=(a:Int):=q.symm
  rw[this]
 ·have:(c:Int)=(b:Int):=q.symm
  rw[this]
  exact hb
noncomputable def Aiy(o:Option Edge)(e:Edge):Bool:=match o with
 |some z=>ieq z.1 e.1&&(ieq z.2.1 e.2.1&&true)
 |none=>false
theorem AaS(h1:1≤N)(hN:N≤12)(ha:a<N)(hb:b<N)(hX:RG2 N X){p q:Int}(hpq:(p=a∧q=b)∨(p=b∧q=a))(tree:Bool)(rr:Int):∀ (m:Nat) (f:Tie→Tie) (r:Nat),m≤CS N+1→((X.map f).map ed).Pairwise G5→(∀ e∈(X.map f).map ed,e.1<e.2.1) →
  Ih N (CS N:Int) ((a:Int),((b:Int),())) (m:Int) (X.map f)→Rai m f X→∀ (o:Option Edge),o=(S8 N a b (CS N:Int) m (X.map f) r).2.1→∀ cnt,m<cnt →
  AY Cw cnt (p,q,(N:Int),X,tree,o.isSome,(o.getD (0,0,())).1,(o.getD (0,0,())).2.1,rr,(m:Int)-1,())=some (.inl (true,())) ∨
  (o=none∧AY Cw cnt (p,q,(N:Int),X,tree,o.isSome,(o.getD (0,0,())).1,(o.getD (0,0,())).2.1,rr,(m:Int)-1,())=some (.inr (.inl (tree,false,0,0,rr,())))):=by
 intro m
 induction m with
 |zero=>
  intro f r hm hE hlt hG hR o ho cnt hc
  obtain⟨cnt,rfl⟩:∃ c,cnt=c+1:=⟨cnt-1,by omega⟩
  have:o=none:=ho
  subst this
  right
  refine⟨rfl,?_⟩
  rw[AY]
  unfold Cw
  dsimp only
  rw[Ax,AjF (by omega)]
  rfl
 |succ i ih=>
  intro f r hm hE hlt hG hR o ho cnt hc
  obtain⟨cnt,rfl⟩:∃ c,cnt=c+1:=⟨cnt-1,by omega⟩
  have hOl:(X.map f).length≤400:=by rw[AkM];exact hX.ht
  have hG':Ih N (CS N:Int) ((a:Int),((b:Int),())) ((i:Int)+1) (X.map f):=hG
  have hit:(i:Int)≤(CS N:Int):=by omega
  have hT64:=YX hX.hN
  have hRO:RG2 N (X.map f):=AcZ h1 (by omega) hOl hE hlt hG.ins hG.lvl (hG.fo.front (N1 hG.ins 0) (fun e he=>by rw[Aje]at he;subst he;exact hG.it))
  obtain⟨c,hL⟩:=AIZ hRO ha hb (i:=i) (hG'.apart i)
  rw[S8]at ho
  generalize Aq (EC N (X.map f) a b (i:Int))=S at *
  obtain⟨l1,l2⟩:=hR.ld hG' hL
  have hfind:=AS6 S (CS N:Int) i ((X.map f).map (rT S (CS N:Int) i))
  rw[hR.find S (CS N:Int),l1]at hfind
  have hp:0≤p∧p<(N:Int):=by omega
  have hq:0≤q∧q<(N:Int):=by omega
  have lp:ldF X (i:Int) p=ldF X (i:Int) a∧ldF X (i:Int) q=ldF X (i:Int) a:=by
   rcases hpq with⟨rfl,rfl⟩|⟨rfl,rfl⟩
   ·exact⟨rfl,l2⟩
   ·exact⟨l2,rfl⟩
  obtain⟨y1,e1,e2,e3⟩:=AMd hX hN hp (i:Int)
  obtain⟨y2,e4,e5,_⟩:=AMd hX hN hq (i:Int)
  rw[lp.1]at e2 e3
  rw[lp.2]at e5
  have em:((i+1:Nat):Int)-1=(i:Int):=by omega
  rw[em,AY]
  have hstep:Cw (p,q,(N:Int),X,tree,o.isSome,(o.getD (0,0,())).1,(o.getD (0,0,())).2.1,rr,(i:Int),()) =
    match(ldF X (i:Int) a)with
    |[]=>some (.inl (p,q,(N:Int),X,tree,o.isSome,(o.getD (0,0,())).1,(o.getD (0,0,())).2.1,rr,(i:Int)-1,()))
    |e::_=>some (.inr (.inl (Aiy o e,()))):=by
   unfold Cw
   dsimp only
   rw[Ax,AjG (show(0:Int)≤(i:Int) by omega)]
   simp only[e1,e4,e3,Dj,AjT,e2,e5,beq_self_eq_true,AL]
   have hlen:ilt (0:Int) ((ldF X (i:Int) a).length:Int)=decide (0<(ldF X (i:Int) a).length):=by rw[Ai];exact Akb.2 (by omega)
   rw[hlen]
   simp only[beq_self_eq_true,AjT]
   cases hw:ldF X (i:Int) a with
   |nil=>
    simp only[Ajh,Nat.lt_irrefl,Aji]
    rw[Ah (by omega)]
   |cons e rest=>
    have i0:idx (e::rest) (0:Int)=some e:=by rw[EK];rfl
    have d0:AU (e::rest) 0 ((0:Int),((0:Int),()))=e:=rfl
    simp only[AjP,Nat.zero_lt_succ,AjU,i0,d0]
    cases o<;>rfl
  rw[hstep]
  cases hw:ldF X (i:Int) a with
  |cons e rest=>
   rw[hw]at hfind
   have hfind':(BN S (CS N:Int) i ((X.map f).map (rT S (CS N:Int) i))).2.2=some e:=hfind
   rw[hfind']at ho
   simp only at ho
   subst ho
   left
   simp only[Aiy,Dj,Akx]
  |nil=>
   rw[hw]at hfind
   have hfind':(BN S (CS N:Int) i ((X.map f).map (rT S (CS N:Int) i))).2.2=none:=hfind
   rw[hfind']at ho
   simp only at ho
   obtain⟨q1,q2⟩:=AS5 S (CS N:Int) i _ hfind'
   have hN':=hG'.next hit hL q2
   have hmm:(((X.map f).map (rT S (CS N:Int) i)).map (rO S (CS N:Int) i))=X.map (rO S (CS N:Int) i ∘ (rT S (CS N:Int) i ∘ f)):=by
    rw[AlX,AlX]
    rfl
   have hR':=hR.next S hit
   rw[q1,hmm]at ho
   rw[hmm]at hN'
   have hed:(X.map (rO S (CS N:Int) i ∘ (rT S (CS N:Int) i ∘ f))).map ed=(X.map f).map ed:=by
    rw[AlX,AlX]
    refine List.map_congr_left fun t _ => ?_
    show ed _=ed _
    rw[hR'.ed,hR.ed]
   exact ih _ _ (by omega) (by rw[hed];exact hE) (by rw[hed];exact hlt) hN' hR' o ho cnt (by omega)
end
theorem AEf(g:GT)(u v:Int){P Q R:Prop}(_:P)(_:Q)(_:R):KJ (g,u,v,())=some (true,()):=by
 obtain⟨n,ts,⟨⟩⟩:=g
 rw[Wp,LB]
 simp only[ALK,AjT]
 rcases APb n ts with g1|⟨g1,g2,g3⟩
 ·simp only[g1]
 simp only[g1]
 rcases AEb (n:=n) (ts:=ts) (by omega)with⟨N,rfl,h,hs,e⟩|e
 rotate_left
 ·simp only[e,Ajw]
 simp only[e,AjT,ACo h]
 cases hany:ts.any (FY u v)
 ·simp only[Aja,Ajb,Ai]
  rw[AjG (by omega)]
 have hk:ts.findIdx (FY u v)<ts.length:=Ak2.2 (AkS.1 hany)
 have hx:ts[ts.findIdx (FY u v)]? = some ts[ts.findIdx (FY u v)]:=AjM hk
 have hat:FY u v ts[ts.findIdx (FY u v)]=true:=Al4 (w:=hk)
 have hm:ts[ts.findIdx (FY u v)]∈ts:=Akc hk
 have hpe:=(AkQ.1 hx).2
 have hone:=AZN h u v
 generalize ts[ts.findIdx (FY u v)]=t at *
 generalize ts.findIdx (FY u v)=p at *
 obtain⟨i1,i2,hlt,l1,l2⟩:=h.tie hm
 unfold FY at hat
 rw[Ajy]at hat
 obtain⟨a1,a2⟩:=hat
 have iu:=i1.2.2
 have iv:=i2.2.2
 have hur:0≤u∧u<(N:Int):=by omega
 have hvr:0≤v∧v<(N:Int):=by omega
 simp only[Ajs,Ai]
 rw[AjF (show ¬ (p:Int)<0 by omega)]
 simp only[Ag hx]
 cases h4:t.2.2.2.1
 ·simp only[Ajw]
 have s1:By ts (0:Int) (p:Int)=some (ts.take p):=Hu (by omega)
 have s2:By ts ((p+1:Nat):Int) (AI ts)=some (ts.drop (p+1)):=Da (by omega)
 have hd0:A2 ([]:List Tie) (ts.take p)=ts.take p:=by simp[A2]
 simp only[AjT,s1,hd0]
 rw[BY (by simp only[AL,Ajh,AjY];omega),AN (by omega)]
 simp only[s2]
 rw[BY (by simp only[AL,Ajt,AjY];omega)]
 rcases hone with⟨q,_⟩|⟨_,q,_⟩|⟨_,_,t',ht',e23⟩
 ·exact absurd ⟨hur,hvr⟩ q
 ·rw[hany]at q;cases q
 rw[hx]at ht'
 cases ht'
 simp only[e23,Dj,AjT]
 have hsp:ts=ts.take p++t::ts.drop (p+1):=by
  conv=>lhs;rw[← AkD p ts,Aj7 hk,hpe]
 have hsub:((ts.take p++ts.drop (p+1)).map ed).Sublist (ts.map ed):=by
  conv=>rhs;rw[hsp]
  exact(List.Sublist.append_left (List.sublist_cons_self _ _) _).map ed
 have hlen:(ts.take p++ts.drop (p+1)).length≤400:=by
  have:=h.ht
  rw[AjQ,AjY,Ajt];omega
 have hE:=h.edP.sublist hsub
 have hLt:∀ e∈(ts.take p++ts.drop (p+1)).map ed,e.1<e.2.1:=fun e he=>h.AjB e (hsub.subset he)
 obtain⟨a,ha⟩:=AjO i1.2.2.1
 obtain⟨b,hb⟩:=AjO i2.2.2.1
 obtain⟨lv,hlv⟩:=AjO l1
 have hst:Ih N (CS N:Int) ((a:Int),((b:Int),())) ((lv+1:Nat):Int) (ts.take p++ts.drop (p+1)):=by
  have hs':=hs
  rw[hsp]at hs'
  have:=hs'.Air h4
  have e1:ed t=((a:Int),((b:Int),())):=by unfold ed;rw[ha,hb]
  rw[e1,hlv]at this
  exact this
 have hT:=E6 h.hN
 have hX:RG2 N (ts.take p++ts.drop (p+1)):=AcZ h.h1 h.hN hlen hE hLt hst.ins hst.lvl (hst.fo.front (N1 hst.ins 0) (fun e he=>by rw[Aje]at he;subst he;exact hst.it))
 have hg:AGh N ts p t=S8 N a b (CS N:Int) (lv+1) (ts.take p++ts.drop (p+1)) 0:=by
  unfold AGh
  rw[h4,AjV rfl,show t.1.toNat=a by omega,show t.2.1.toNat=b by omega,show t.2.2.1.toNat+1=lv+1 by omega]
 rw[hg]
 simp only[Cj,Ahb]
 generalize ts.take p++ts.drop (p+1)=X at *
 have hrai:Rai (lv+1) id X:=⟨fun _=>rfl,fun _=>rfl,fun _ _ _=>rfl,fun _ _ q=>q⟩
 have hid:X.map id=X:=List.map_id X
 have hmany:lv+1<many:=by
  have:=YX h.hN
  simp only[many]
  omega
 have hlp:=AaS (N:=N) (a:=a) (b:=b) (X:=X) h.h1 (by omega) (by omega) (by omega) hX (p:=u) (q:=v) (by omega) t.2.2.2.1 ((S8 N a b (CS N:Int) (lv+1) X 0).2.2:Int) (lv+1) id 0 (by omega) (by rw[hid];exact hE) (by rw[hid];exact hLt) (by rw[hid];exact hst) hrai _ rfl many hmany
 rw[hid,show((lv+1:Nat):Int)-1=t.2.2.1 by omega]at hlp
 rcases hlp with e|⟨o,e⟩
 ·have e':=(An _ _ _).trans e
  simp only[e']
 ·have e':=(An _ _ _).trans e
  simp only[e',Ajw]
end Go.Pev.Pl
end
section
namespace Go.Pev
open Go.RowKit
structure Aik(P:Program)(fn:Func)(T e:TypeId)(n:Nat):Prop where
 body:fn.body=some (.seq (.region 0 #[Bf fn 0 0] false) (.seq (.region 1 #[Bf fn 1 0,Bf fn 1 1,Bf fn 1 2,Bf fn 1 3,Bf fn 1 4,Bf fn 1 5,Bf fn 1 6] false) .ret))
 nt:fn.ntmps=9
 res:fn.results = #[.tmp 2]
 d:(Bf fn 0 0).dst=some 2∧(Bf fn 1 0).dst=some 3∧(Bf fn 1 1).dst=some 4∧(Bf fn 1 2).dst=some 5∧(Bf fn 1 3).dst=some 6∧(Bf fn 1 4).dst=some 7∧(Bf fn 1 5).dst=some 8∧(Bf fn 1 6).dst=some 2
 g:(Bf fn 0 0).guard=none∧(Bf fn 1 0).guard=none∧(Bf fn 1 1).guard=none∧(Bf fn 1 2).guard=none∧(Bf fn 1 3).guard=none∧(Bf fn 1 4).guard=none∧(Bf fn 1 5).guard=none∧(Bf fn 1 6).guard=none
 o00:(Bf fn 0 0).op = .assign (.const (.slice none 0 0))
 o10:(Bf fn 1 0).op = .move (.tmp 0)
 o11:(Bf fn 1 1).op = .move (.tmp 0)
 o12:(Bf fn 1 2).op = .call { callee:=.builtin .len,args:=#[.tmp 4],argTypes:=#[T] }
 o13:(Bf fn 1 3).op = .move (.tmp 0)
 o14:(Bf fn 1 4).op = .call { callee:=.builtin .len,args:=#[.tmp 6],argTypes:=#[T] }
 o15:(Bf fn 1 5).op = .slice T (.tmp 3) none (some (.tmp 5)) (some (.tmp 7))
 o16:(Bf fn 1 6).op = .assign (.tmp 8)
 sl:P.underlying T=some (.slice e)
 sz:BJ P e=some n
section
variable {P:Program} {g:FuncId} {fn:Func} {T e:TypeId} {n:Nat}
end
end Go.Pev
end
section
namespace Go.Pev
open Go.Proofs
noncomputable section
abbrev ACE:Hints:={ loop:=fun n=>match n with|0=>Ab 0 26 AGZ AGY E0|_=>fun _ _ _=>none,fp:=fun n=>match n with|6=>[[],[],[],[],[],[],[],[],[]]|_=>[] }
theorem AJ5:∀ v,E0 v=roundOf Tryz.prog Env.none ACE 1 0 26 (AB Tryz.f26 0) AGZ AGY v:=by
 rintro⟨a0,a1,a2,⟨⟩⟩
 kernel_rfl
theorem AZ0:AD (AB Tryz.f26 0) 1=[]:=by kernel_rfl
theorem AZ1:Aa Tryz.prog 0 (.loop (AB Tryz.f26 0)) (ACE.loop 0):=AT Env.AJc (AJ5) (AA AZ0 trivial)
theorem AUL:∀ v,RI v=AQ 0 Tryz.prog Env.none ACE Tryz.f26 ACD ACC ACB v:=by
 rintro⟨a0,a1,⟨⟩⟩
 kernel_rfl
theorem Adw:AD (AS Tryz.f26) 0=[(0,AB Tryz.f26 0)]:=by kernel_rfl
theorem AO6:AR Tryz.prog 26 (AF 0 2 ACD ACC ACB La):=AH Env.AJc Tryz.func26 (by kernel_rfl) (by kernel_rfl) rfl (fun v=>(AGa v).trans (AUL v)) (AA Adw ⟨AZ1,trivial⟩)
def AEH:Env:=Env.none.ext 26 true true (AF 0 2 ACD ACC ACB La)
theorem Xm:AZ Tryz.prog AEH:=Env.Af Env.AJc AO6 (fun _=>AM rfl rfl) (fun _=>AJ rfl rfl)
abbrev AbZ:Hints:={  }
theorem AQ7:∀ v,Qg v=AQ 0 Tryz.prog AEH AbZ Tryz.f109 ZR ZQ ZP v:=by
 rintro⟨a0,⟨⟩⟩
 kernel_rfl
theorem AbY:AD (AS Tryz.f109) 0=[]:=by kernel_rfl
theorem AL1:AR Tryz.prog 109 (AF 0 1 ZR ZQ ZP Mh):=AH Xm Tryz.func109 (by kernel_rfl) (by kernel_rfl) rfl (fun v=>(AFZ v).trans (AQ7 v)) (AA AbY trivial)
def AD0:Env:=AEH.ext 109 true true (AF 0 1 ZR ZQ ZP Mh)
theorem Xc:AZ Tryz.prog AD0:=Env.Af Xm AL1 (fun _=>AM rfl rfl) (fun _=>AJ rfl rfl)
abbrev Aip:Hints:={  }
theorem Afh:∀ v,AVz v=AQ 0 Tryz.prog AD0 Aip Tryz.f85 Abv Abu Abt v:=by
 rintro⟨a0,a1,⟨⟩⟩
 kernel_rfl
theorem Aio:AD (AS Tryz.f85) 0=[]:=by kernel_rfl
theorem Abs:AR Tryz.prog 85 (AF 0 2 Abv Abu Abt tin):=AH Xc Tryz.func85 (by kernel_rfl) (by kernel_rfl) rfl (fun v=>(Abw v).trans (Afh v)) (AA Aio trivial)
def AfO:Env:=AD0.ext 85 true true (AF 0 2 Abv Abu Abt tin)
theorem AQj:AZ Tryz.prog AfO:=Env.Af Xc Abs (fun _=>AM rfl rfl) (fun _=>AJ rfl rfl)
abbrev Ahw:Hints:={  }
theorem Ab0:∀ v,AH1 v=AQ 0 Tryz.prog AfO Ahw Tryz.f153 ARO ARN ARM v:=by
 rintro⟨a0,a1,a2,⟨⟩⟩
 kernel_rfl
theorem Ahv:AD (AS Tryz.f153) 0=[]:=by kernel_rfl
theorem AX5:AR Tryz.prog 153 (AF 0 3 ARO ARN ARM AX6):=AH AQj Tryz.func153 (by kernel_rfl) (by kernel_rfl) rfl (fun v=>(AV0 v).trans (Ab0 v)) (AA Ahv trivial)
def AVk:Env:=AfO.ext 153 true true (AF 0 3 ARO ARN ARM AX6)
theorem AG8:AZ Tryz.prog AVk:=Env.Af AQj AX5 (fun _=>AM rfl rfl) (fun _=>AJ rfl rfl)
abbrev AbX:Hints:={ fp:=fun n=>match n with|5=>[[],[],[],[],[],[],[],[],[]]|_=>[] }
theorem AQ6:∀ v,Qf v=AQ 0 Tryz.prog AVk AbX Tryz.f132 ZN ZM ZL v:=by
 rintro⟨a0,a1,⟨⟩⟩
 kernel_rfl
theorem AbW:AD (AS Tryz.f132) 0=[]:=by kernel_rfl
theorem AL0:AR Tryz.prog 132 (AF 0 2 ZN ZM ZL ZO):=AH AG8 Tryz.func132 (by kernel_rfl) (by kernel_rfl) rfl (fun v=>(AFY v).trans (AQ6 v)) (AA AbW trivial)
def R8:Env:=AVk.ext 132 true true (AF 0 2 ZN ZM ZL ZO)
theorem Nm:AZ Tryz.prog R8:=Env.Af AG8 AL0 (fun _=>AM rfl rfl) (fun _=>AJ rfl rfl)
abbrev AHw:Hints:={ loop:=fun n=>match n with|0=>Ab 0 25 AMF AME Hr|_=>fun _ _ _=>none }
theorem AMD:∀ v,Hr v=roundOf Tryz.prog R8 AHw 1 0 25 (AB Tryz.f107 0) AMF AME v:=by
 rintro⟨a0,a1,a2,a3,a4,⟨⟩⟩
 kernel_rfl
theorem Abq:AD (AB Tryz.f107 0) 1=[]:=by kernel_rfl
theorem Abr:Aa Tryz.prog 0 (.loop (AB Tryz.f107 0)) (AHw.loop 0):=AT Nm (AMD) (AA Abq trivial)
theorem AX3:∀ v,YZ v=AQ 0 Tryz.prog R8 AHw Tryz.f107 AHv AHu AHt v:=by
 rintro⟨a0,⟨⟩⟩
 kernel_rfl
theorem Afe:AD (AS Tryz.f107) 0=[(0,AB Tryz.f107 0)]:=by kernel_rfl
theorem ARI:AR Tryz.prog 107 (AF 0 1 AHv AHu AHt AMH):=AH Nm Tryz.func107 (by kernel_rfl) (by kernel_rfl) rfl (fun v=>(AMG v).trans (AX3 v)) (AA Afe ⟨Abr,trivial⟩)
def Yv:Env:=R8.ext 107 true true (AF 0 1 AHv AHu AHt AMH)
theorem QO:AZ Tryz.prog Yv:=Env.Af Nm ARI (fun _=>AM rfl rfl) (fun _=>AJ rfl rfl)
abbrev ACL:Hints:={ loop:=fun n=>match n with|0=>Ab 0 19 AGd AGc Fw|_=>fun _ _ _=>none }
theorem AJ6:∀ v,Fw v=roundOf Tryz.prog Yv ACL 1 0 19 (AB Tryz.f134 0) AGd AGc v:=by
 rintro⟨a0,a1,a2,a3,⟨⟩⟩
 kernel_rfl
theorem AZ4:AD (AB Tryz.f134 0) 1=[]:=by kernel_rfl
theorem AZ5:Aa Tryz.prog 0 (.loop (AB Tryz.f134 0)) (ACL.loop 0):=AT QO (AJ6) (AA AZ4 trivial)
theorem AUW:∀ v,RL v=AQ 0 Tryz.prog Yv ACL Tryz.f134 ACK ACJ ACI v:=by
 rintro⟨a0,a1,⟨⟩⟩
 kernel_rfl
theorem Ad5:AD (AS Tryz.f134) 0=[(0,AB Tryz.f134 0)]:=by kernel_rfl
theorem AO7:AR Tryz.prog 134 (AF 0 2 ACK ACJ ACI Py):=AH QO Tryz.func134 (by kernel_rfl) (by kernel_rfl) rfl (fun v=>(AGe v).trans (AUW v)) (AA Ad5 ⟨AZ5,trivial⟩)
def AEI:Env:=Yv.ext 134 true true (AF 0 2 ACK ACJ ACI Py)
theorem Xn:AZ Tryz.prog AEI:=Env.Af QO AO7 (fun _=>AM rfl rfl) (fun _=>AJ rfl rfl)
abbrev AP7:Hints:={  }
theorem AFL:∀ v,JP v=AQ 0 Tryz.prog AEI AP7 Tryz.f114 Na NZ NY v:=by
 rintro⟨a0,a1,⟨⟩⟩
 kernel_rfl
theorem AP6:AD (AS Tryz.f114) 0=[]:=by kernel_rfl
theorem ADH:AR Tryz.prog 114 (AF 0 2 Na NZ NY GB):=AH Xn Tryz.func114 (by kernel_rfl) (by kernel_rfl) rfl (fun v=>(Rn v).trans (AFL v)) (AA AP6 trivial)
def Ja:Env:=AEI.ext 114 true true (AF 0 2 Na NZ NY GB)
theorem Ip:AZ Tryz.prog Ja:=Env.Af Xn ADH (fun _=>AM rfl rfl) (fun _=>AJ rfl rfl)
abbrev ATp:Hints:={ loop:=fun n=>match n with|0=>Ab 0 25 AWr AWq LQ|_=>fun _ _ _=>none }
theorem ATl:∀ v,LQ v=roundOf Tryz.prog Ja ATp 1 0 25 (AB Tryz.f110 0) AWr AWq v:=by
 rintro⟨a0,a1,a2,⟨⟩⟩
 kernel_rfl
theorem Agi:AD (AB Tryz.f110 0) 1=[]:=by kernel_rfl
theorem Agj:Aa Tryz.prog 0 (.loop (AB Tryz.f110 0)) (ATp.loop 0):=AT Ip (ATl) (AA Agi trivial)
theorem Adk:∀ v,AJf v=AQ 0 Tryz.prog Ja ATp Tryz.f110 ATo ATn ATm v:=by
 rintro⟨a0,⟨⟩⟩
 kernel_rfl
theorem AiP:AD (AS Tryz.f110) 0=[(0,AB Tryz.f110 0)]:=by kernel_rfl
theorem AZY:AR Tryz.prog 110 (AF 0 1 ATo ATn ATm AZZ):=AH Ip Tryz.func110 (by kernel_rfl) (by kernel_rfl) rfl (fun v=>(AWs v).trans (Adk v)) (AA AiP ⟨Agj,trivial⟩)
def AVs:Env:=Ja.ext 110 true true (AF 0 1 ATo ATn ATm AZZ)
theorem AHH:AZ Tryz.prog AVs:=Env.Af Ip AZY (fun _=>AM rfl rfl) (fun _=>AJ rfl rfl)
abbrev Ag8:Hints:={  }
theorem AaL:∀ v,Yn v=AQ 0 Tryz.prog AVs Ag8 Tryz.f161 AKT AKS AKR v:=by
 rintro⟨a0,⟨⟩⟩
 kernel_rfl
theorem Ag7:AD (AS Tryz.f161) 0=[]:=by kernel_rfl
theorem AUg:AR Tryz.prog 161 (AF 0 2 AKT AKS AKR APa):=AH AHH Tryz.func161 (by kernel_rfl) (by kernel_rfl) rfl (fun v=>(APZ v).trans (AaL v)) (AA Ag7 trivial)
def SZ:Env:=AVs.ext 161 false true (AF 0 2 AKT AKS AKR APa)
theorem MG:AZ Tryz.prog SZ:=Env.Af AHH AUg ((by simp)) (fun _=>AJ rfl rfl)
abbrev Ki:Hints:={ loop:=fun n=>match n with|0=>Ab 0 36 ADQ ADO Ei|1=>Ab 0 36 ADP ADN Eh|_=>fun _ _ _=>none }
theorem AFN:∀ v,Eh v=roundOf Tryz.prog SZ Ki 2 0 36 (AB Tryz.f152 1) ADP ADN v:=by
 rintro⟨a0,a1,a2,a3,⟨⟩⟩
 kernel_rfl
theorem AVF:AD (AB Tryz.f152 1) 2=[]:=by kernel_rfl
theorem AVH:Aa Tryz.prog 0 (.loop (AB Tryz.f152 1)) (Ki.loop 1):=AT MG (AFN) (AA AVF trivial)
theorem AFO:∀ v,Ei v=roundOf Tryz.prog SZ Ki 1 0 36 (AB Tryz.f152 0) ADQ ADO v:=by
 rintro⟨a0,a1,a2,a3,a4,⟨⟩⟩
 kernel_rfl
theorem AVG:AD (AB Tryz.f152 0) 1=[]:=by kernel_rfl
theorem AVI:Aa Tryz.prog 0 (.loop (AB Tryz.f152 0)) (Ki.loop 0):=AT MG (AFO) (AA AVG trivial)
theorem AQA:∀ v,OO v=AQ 0 Tryz.prog SZ Ki Tryz.f152 VX VW VV v:=by
 rintro⟨a0,⟨⟩⟩
 kernel_rfl
theorem Aap:AD (AS Tryz.f152) 0=[(0,AB Tryz.f152 0),(1,AB Tryz.f152 1)]:=by kernel_rfl
theorem AKo:AR Tryz.prog 152 (AF 0 1 VX VW VV JQ):=AH MG Tryz.func152 (by kernel_rfl) (by kernel_rfl) rfl (fun v=>(ADR v).trans (AQA v)) (AA Aap ⟨AVI,AVH,trivial⟩)
def WY:Env:=SZ.ext 152 true true (AF 0 1 VX VW VV JQ)
theorem Sf:AZ Tryz.prog WY:=Env.Af MG AKo (fun _=>AM rfl rfl) (fun _=>AJ rfl rfl)
theorem AYk:Tryz.f96.body.isSome=true:=by kernel_rfl
theorem AYj : (Tryz.f96.name == "runtime.NumGoroutine") = false := by kernel_rfl
theorem AYi:loops (AS Tryz.f96)=0:=by kernel_rfl
def JX:Env:=WY.ext 96 false false (DM Tryz.prog WY {} Tryz.f96)
theorem Il:AZ Tryz.prog JX:=Env.Af Sf (Cx Sf Tryz.func96 AYk AYj AYi) (by simp) (by simp)
end
end Go.Pev
end
section
namespace Go.Pev
open Go.Proofs
noncomputable section
abbrev IN:Hints:={ loop:=fun n=>match n with|0=>Ab 0 19 MO MN CA|_=>fun _ _ _=>none }
theorem P5:∀ v,CA v=roundOf Tryz.prog JX IN 1 0 19 (AB Tryz.f91 0) MO MN v:=by
 rintro⟨a0,a1,a2,⟨⟩⟩
 kernel_rfl
theorem X6:AD (AB Tryz.f91 0) 1=[]:=by kernel_rfl
theorem X7:Aa Tryz.prog 0 (.loop (AB Tryz.f91 0)) (IN.loop 0):=AT Il (P5) (AA X6 trivial)
theorem UN:∀ v,FI v=AQ 0 Tryz.prog JX IN Tryz.f91 IM IL IK v:=by
 rintro⟨a0,⟨⟩⟩
 kernel_rfl
theorem ACX:AD (AS Tryz.f91) 0=[(0,AB Tryz.f91 0)]:=by kernel_rfl
theorem RX:AR Tryz.prog 91 (AF 0 2 IM IL IK HM):=AH Il Tryz.func91 (by kernel_rfl) (by kernel_rfl) rfl (fun v=>(MP v).trans (UN v)) (AA ACX ⟨X7,trivial⟩)
def Io:Env:=JX.CJ 91 1 96 (AF 0 2 IM IL IK HM)
theorem JZ:AZ Tryz.prog Io:=Env.A0 Il RX (AJ rfl rfl)
abbrev YG:Hints:={  }
theorem Rs:∀ v,EU v=AQ 0 Tryz.prog Io YG Tryz.f73 G4 G3 G2 v:=by
 rintro⟨a0,⟨⟩⟩
 kernel_rfl
theorem YF:AD (AS Tryz.f73) 0=[]:=by kernel_rfl
theorem QF:AR Tryz.prog 73 (AF 0 2 G4 G3 G2 EO):=AH JZ Tryz.func73 (by kernel_rfl) (by kernel_rfl) rfl (fun v=>(Kh v).trans (Rs v)) (AA YF trivial)
def EV:Env:=Io.CJ 73 1 96 (AF 0 2 G4 G3 G2 EO)
theorem Em:AZ Tryz.prog EV:=Env.A0 JZ QF (AJ rfl rfl)
abbrev ATZ:Hints:={ loop:=fun n=>match n with|0=>Ab 0 23 AWk AWj LK|_=>fun _ _ _=>none }
theorem ATV:∀ v,LK v=roundOf Tryz.prog EV ATZ 1 0 23 (AB Tryz.f97 0) AWk AWj v:=by
 rintro⟨a0,a1,a2,a3,a4,⟨⟩⟩
 kernel_rfl
theorem AgZ:AD (AB Tryz.f97 0) 1=[]:=by kernel_rfl
theorem Aga:Aa Tryz.prog 0 (.loop (AB Tryz.f97 0)) (ATZ.loop 0):=AT Em (ATV) (AA AgZ trivial)
theorem Ade:∀ v,AJZ v=AQ 0 Tryz.prog EV ATZ Tryz.f97 ATY ATX ATW v:=by
 rintro⟨a0,⟨⟩⟩
 kernel_rfl
theorem AiI:AD (AS Tryz.f97) 0=[(0,AB Tryz.f97 0)]:=by kernel_rfl
theorem AZP:AR Tryz.prog 97 (AF 0 1 ATY ATX ATW once):=AH Em Tryz.func97 (by kernel_rfl) (by kernel_rfl) rfl (fun v=>(AWl v).trans (Ade v)) (AA AiI ⟨Aga,trivial⟩)
def AVq:Env:=EV.ext 97 true true (AF 0 1 ATY ATX ATW once)
theorem AHF:AZ Tryz.prog AVq:=Env.Af Em AZP (fun _=>AM rfl rfl) (fun _=>AJ rfl rfl)
abbrev AcW:Hints:={  }
theorem ASF:∀ v,Qo v=AQ 0 Tryz.prog AVq AcW Tryz.f72 AAU AAT AAS v:=by
 rintro⟨a0,⟨⟩⟩
 kernel_rfl
theorem AcV:AD (AS Tryz.f72) 0=[]:=by kernel_rfl
theorem AMw:AR Tryz.prog 72 (AF 0 1 AAU AAT AAS Mq):=AH AHF Tryz.func72 (by kernel_rfl) (by kernel_rfl) rfl (fun v=>(AF1 v).trans (ASF v)) (AA AcV trivial)
def AD8:Env:=AVq.ext 72 true true (AF 0 1 AAU AAT AAS Mq)
theorem Xh:AZ Tryz.prog AD8:=Env.Af AHF AMw (fun _=>AM rfl rfl) (fun _=>AJ rfl rfl)
abbrev AbV:Hints:={ fp:=fun n=>match n with|1=>[[],[],[],[],[],[],[],[0],[]]|_=>[] }
theorem AQ4:∀ v,Qe v=AQ 0 Tryz.prog AD8 AbV Tryz.f160 ZK ZJ ZI v:=by
 rintro⟨a0,a1,⟨⟩⟩
 kernel_rfl
theorem AbU:AD (AS Tryz.f160) 0=[]:=by kernel_rfl
theorem ALz:AR Tryz.prog 160 (AF 0 2 ZK ZJ ZI Sx):=AH Xh Tryz.func160 (by kernel_rfl) (by kernel_rfl) rfl (fun v=>(AFX v).trans (AQ4 v)) (AA AbU trivial)
def R7:Env:=AD8.ext 160 true true (AF 0 2 ZK ZJ ZI Sx)
theorem Nl:AZ Tryz.prog R7:=Env.Af Xh ALz (fun _=>AM rfl rfl) (fun _=>AJ rfl rfl)
abbrev AAs:Hints:={ loop:=fun n=>match n with|0=>Ab 0 29 AGC AGB Es|_=>fun _ _ _=>none }
theorem AI3:∀ v,Es v=roundOf Tryz.prog R7 AAs 1 0 29 (AB Tryz.f159 0) AGC AGB v:=by
 rintro⟨a0,a1,a2,a3,a4,⟨⟩⟩
 kernel_rfl
theorem AYv:AD (AB Tryz.f159 0) 1=[]:=by kernel_rfl
theorem AYw:Aa Tryz.prog 0 (.loop (AB Tryz.f159 0)) (AAs.loop 0):=AT Nl (AI3) (AA AYv trivial)
theorem ASm:∀ v,Q1 v=AQ 0 Tryz.prog R7 AAs Tryz.f159 AAr AAq AAp v:=by
 rintro⟨a0,a1,⟨⟩⟩
 kernel_rfl
theorem Acm:AD (AS Tryz.f159) 0=[(0,AB Tryz.f159 0)]:=by kernel_rfl
theorem ANC:AR Tryz.prog 159 (AF 0 2 AAr AAq AAp places):=AH Nl Tryz.func159 (by kernel_rfl) (by kernel_rfl) rfl (fun v=>(AGD v).trans (ASm v)) (AA Acm ⟨AYw,trivial⟩)
def AEB:Env:=R7.ext 159 true true (AF 0 2 AAr AAq AAp places)
theorem Xj:AZ Tryz.prog AEB:=Env.Af Nl ANC (fun _=>AM rfl rfl) (fun _=>AJ rfl rfl)
abbrev AgB:Hints:={  }
theorem AYm:∀ v,Ye v=AQ 0 Tryz.prog AEB AgB Tryz.f151 AIu AIt AIs v:=by
 rintro⟨a0,a1,⟨⟩⟩
 kernel_rfl
theorem AgA:AD (AS Tryz.f151) 0=[]:=by kernel_rfl
theorem ASP:AR Tryz.prog 151 (AF 0 2 AIu AIt AIs AF5):=AH Xj Tryz.func151 (by kernel_rfl) (by kernel_rfl) rfl (fun v=>(AM7 v).trans (AYm v)) (AA AgA trivial)
def ALW:Env:=AEB.ext 151 true true (AF 0 2 AIu AIt AIs AF5)
theorem AEA:AZ Tryz.prog ALW:=Env.Af Xj ASP (fun _=>AM rfl rfl) (fun _=>AJ rfl rfl)
abbrev AcY:Hints:={  }
theorem ASH:∀ v,Qp v=AQ 0 Tryz.prog ALW AcY Tryz.f162 AAX AAW AAV v:=by
 rintro⟨a0,⟨⟩⟩
 kernel_rfl
theorem AcX:AD (AS Tryz.f162) 0=[]:=by kernel_rfl
theorem AMx:AR Tryz.prog 162 (AF 0 1 AAX AAW AAV AAY):=AH AEA Tryz.func162 (by kernel_rfl) (by kernel_rfl) rfl (fun v=>(AF2 v).trans (ASH v)) (AA AcX trivial)
def AD9:Env:=ALW.ext 162 true true (AF 0 1 AAX AAW AAV AAY)
theorem Xi:AZ Tryz.prog AD9:=Env.Af AEA AMx (fun _=>AM rfl rfl) (fun _=>AJ rfl rfl)
theorem AX0:Tryz.f113.body.isSome=true:=by kernel_rfl
theorem AXz : (Tryz.f113.name == "runtime.NumGoroutine") = false := by kernel_rfl
theorem AXy:loops (AS Tryz.f113)=0:=by kernel_rfl
def JW:Env:=AD9.ext 113 false false (DM Tryz.prog AD9 {} Tryz.f113)
theorem Ij:AZ Tryz.prog JW:=Env.Af Xi (Cx Xi Tryz.func113 AX0 AXz AXy) (by simp) (by simp)
abbrev F4:Hints:={ loop:=fun n=>match n with|0=>Ab 1 19 I9 I8 Bm|_=>fun _ _ _=>none }
theorem NH:∀ v,Bm v=roundOf Tryz.prog JW F4 1 1 19 (AB Tryz.f112 0) I9 I8 v:=by
 rintro⟨a0,a1,a2,a3,⟨⟩⟩
 kernel_rfl
theorem RP:AD (AB Tryz.f112 0) 1=[]:=by kernel_rfl
theorem RQ:Aa Tryz.prog 1 (.loop (AB Tryz.f112 0)) (F4.loop 0):=AT Ij (NH) (AA RP trivial)
theorem P1:∀ v,D6 v=AQ 1 Tryz.prog JW F4 Tryz.f112 Fz Fy Fx v:=by
 rintro⟨a0,a1,⟨⟩⟩
 kernel_rfl
theorem UI:AD (AS Tryz.f112) 0=[(0,AB Tryz.f112 0)]:=by kernel_rfl
theorem Og:AR Tryz.prog 112 (AF 1 2 Fz Fy Fx FG):=AH Ij Tryz.func112 (by kernel_rfl) (by kernel_rfl) rfl (fun v=>(JA v).trans (P1 v)) (AA UI ⟨RQ,trivial⟩)
def GM:Env:=JW.CJ 112 1 113 (AF 1 2 Fz Fy Fx FG)
theorem HE:AZ Tryz.prog GM:=Env.A0 Ij Og (AJ rfl rfl)
abbrev Abf:Hints:={  }
theorem ARF:∀ v,Qi v=AQ 0 Tryz.prog GM Abf Tryz.f87 Ze Zd Zc v:=by
 rintro⟨a0,a1,⟨⟩⟩
 kernel_rfl
theorem Abe:AD (AS Tryz.f87) 0=[]:=by kernel_rfl
theorem AL7:AR Tryz.prog 87 (AF 0 2 Ze Zd Zc PG):=AH HE Tryz.func87 (by kernel_rfl) (by kernel_rfl) rfl (fun v=>(AFh v).trans (ARF v)) (AA Abe trivial)
def AD2:Env:=GM.ext 87 true true (AF 0 2 Ze Zd Zc PG)
theorem Xe:AZ Tryz.prog AD2:=Env.Af HE AL7 (fun _=>AM rfl rfl) (fun _=>AJ rfl rfl)
theorem AhY:Tryz.f133.body.isSome=true:=by kernel_rfl
theorem AhX : (Tryz.f133.name == "runtime.NumGoroutine") = false := by kernel_rfl
theorem AhW:loops (AS Tryz.f133)=0:=by kernel_rfl
def Oa:Env:=AD2.ext 133 false false (DM Tryz.prog AD2 {} Tryz.f133)
theorem MK:AZ Tryz.prog Oa:=Env.Af Xe (Cx Xe Tryz.func133 AhY AhX AhW) (by simp) (by simp)
end
end Go.Pev
end
section
namespace Go.Pev
open Go.Proofs
noncomputable section
abbrev AUl:Hints:={ loop:=fun n=>match n with|0=>Ab 0 107 AXE AXD JH|_=>fun _ _ _=>none,fp:=fun n=>match n with|8=>[[],[],[],[],[],[],[],[],[1000003],[],[],[],[],[],[],[],[],[0],[0],[0],[],[0],[0],[0],[2,26],[],[2,26],[2,26],[],[],[],[],[]]|13=>[[],[0],[0],[0],[2],[],[],[],[0],[0],[0],[6],[],[0],[0],[0],[4],[],[],[]]|3=>[[],[],[],[],[],[],[],[],[11],[],[],[],[8,10,12],[]]|_=>[] }
theorem AUh:∀ v,JH v=roundOf Tryz.prog Oa AUl 1 0 107 (AB Tryz.f111 0) AXE AXD v:=by
 rintro⟨a0,a1,a2,a3,a4,a5,a6,⟨⟩⟩
 kernel_rfl
theorem Ag9:AD (AB Tryz.f111 0) 1=[]:=by kernel_rfl
theorem AhA:Aa Tryz.prog 0 (.loop (AB Tryz.f111 0)) (AUl.loop 0):=AT MK (AUh) (AA Ag9 trivial)
theorem AeU:∀ v,AKV v=AQ 0 Tryz.prog Oa AUl Tryz.f111 AUk AUj AUi v:=by
 rintro⟨a0,a1,⟨⟩⟩
 kernel_rfl
theorem AiZ:AD (AS Tryz.f111) 0=[(0,AB Tryz.f111 0)]:=by kernel_rfl
theorem AaR:AR Tryz.prog 111 (AF 0 2 AUk AUj AUi goes):=AH MK Tryz.func111 (by kernel_rfl) (by kernel_rfl) rfl (fun v=>(AXF v).trans (AeU v)) (AA AiZ ⟨AhA,trivial⟩)
def WV:Env:=Oa.ext 111 true true (AF 0 2 AUk AUj AUi goes)
theorem Kr:AZ Tryz.prog WV:=Env.Af MK AaR (fun _=>AM rfl rfl) (fun _=>AJ rfl rfl)
abbrev Hn:Hints:={ loop:=fun n=>match n with|0=>Ab 0 87 AFf AFc Dv|1=>Ab 0 87 AFe AFb Du|2=>Ab 0 87 AFd AFa En|_=>fun _ _ _=>none,fp:=fun n=>match n with|8=>[[],[],[],[],[],[],[],[],[],[],[],[],[],[],[],[],[],[],[],[],[],[],[],[],[0],[0],[],[],[],[]]|_=>[] }
theorem AHh:∀ v,En v=roundOf Tryz.prog WV Hn 3 0 87 (AB Tryz.f86 2) AFd AFa v:=by
 rintro⟨a0,a1,a2,⟨⟩⟩
 kernel_rfl
theorem AXq:AD (AB Tryz.f86 2) 3=[]:=by kernel_rfl
theorem AXt:Aa Tryz.prog 0 (.loop (AB Tryz.f86 2)) (Hn.loop 2):=AT Kr (AHh) (AA AXq trivial)
theorem AHi:∀ v,Du v=roundOf Tryz.prog WV Hn 2 0 87 (AB Tryz.f86 1) AFe AFb v:=by
 rintro⟨a0,a1,a2,a3,a4,a5,a6,a7,a8,a9,a10,a11,a12,a13,a14,a15,a16,a17,a18,a19,a20,a21,a22,a23,a24,a25,⟨⟩⟩
 kernel_rfl
theorem AXr:AD (AB Tryz.f86 1) 2=[]:=by kernel_rfl
theorem AXu:Aa Tryz.prog 0 (.loop (AB Tryz.f86 1)) (Hn.loop 1):=AT Kr (AHi) (AA AXr trivial)
theorem AHj:∀ v,Dv v=roundOf Tryz.prog WV Hn 1 0 87 (AB Tryz.f86 0) AFf AFc v:=by
 rintro⟨a0,a1,a2,a3,a4,a5,a6,⟨⟩⟩
 kernel_rfl
theorem AXs:AD (AB Tryz.f86 0) 1=[(1,AB Tryz.f86 1)]:=by kernel_rfl
theorem AXv:Aa Tryz.prog 0 (.loop (AB Tryz.f86 0)) (Hn.loop 0):=AT Kr (AHj) (AA AXs ⟨AXu,trivial⟩)
theorem AQ9:∀ v,Qh v=AQ 0 Tryz.prog WV Hn Tryz.f86 ZX ZW ZV v:=by
 rintro⟨a0,⟨⟩⟩
 kernel_rfl
theorem Abd:AD (AS Tryz.f86) 0=[(0,AB Tryz.f86 0),(2,AB Tryz.f86 2)]:=by kernel_rfl
theorem AL5:AR Tryz.prog 86 (AF 0 1 ZX ZW ZV PF):=AH Kr Tryz.func86 (by kernel_rfl) (by kernel_rfl) rfl (fun v=>(AFg v).trans (AQ9 v)) (AA Abd ⟨AXv,AXt,trivial⟩)
def AD1:Env:=WV.ext 86 true true (AF 0 1 ZX ZW ZV PF)
theorem Xd:AZ Tryz.prog AD1:=Env.Af Kr AL5 (fun _=>AM rfl rfl) (fun _=>AJ rfl rfl)
abbrev AhS:Hints:={  }
theorem AbC:∀ v,Yu v=AQ 0 Tryz.prog AD1 AhS Tryz.f150 ALF ALE ALD v:=by
 rintro⟨a0,a1,a2,⟨⟩⟩
 kernel_rfl
theorem AhR:AD (AS Tryz.f150) 0=[]:=by kernel_rfl
theorem AVc:AR Tryz.prog 150 (AF 0 3 ALF ALE ALD asked):=AH Xd Tryz.func150 (by kernel_rfl) (by kernel_rfl) rfl (fun v=>(AQV v).trans (AbC v)) (AA AhR trivial)
def ALf:Env:=AD1.ext 150 true true (AF 0 3 ALF ALE ALD asked)
theorem AEQ:AZ Tryz.prog ALf:=Env.Af Xd AVc (fun _=>AM rfl rfl) (fun _=>AJ rfl rfl)
abbrev AiO:Hints:={  }
theorem Adi:∀ v,LO v=AQ 0 Tryz.prog ALf AiO Tryz.f90 ATj ATi ATh v:=by
 rintro⟨a0,⟨⟩⟩
 kernel_rfl
theorem AiN:AD (AS Tryz.f90) 0=[]:=by kernel_rfl
theorem AZV:AR Tryz.prog 90 (AF 0 1 ATj ATi ATh Adj):=AH AEQ Tryz.func90 (by kernel_rfl) (by kernel_rfl) rfl (fun v=>(LN v).trans (Adi v)) (AA AiN trivial)
def AVr:Env:=ALf.ext 90 true true (AF 0 1 ATj ATi ATh Adj)
theorem AHG:AZ Tryz.prog AVr:=Env.Af AEQ AZV (fun _=>AM rfl rfl) (fun _=>AJ rfl rfl)
abbrev AVK:Hints:={  }
theorem AKr:∀ v,Ej v=AQ 0 Tryz.prog AVr AVK Tryz.f62 QI QH QG v:=by
 rintro⟨a0,a1,⟨⟩⟩
 kernel_rfl
theorem AVJ:AD (AS Tryz.f62) 0=[]:=by kernel_rfl
theorem AFP:AR Tryz.prog 62 (AF 0 2 QI QH QG Dn):=AH AHG Tryz.func62 (by kernel_rfl) (by kernel_rfl) rfl (fun v=>(Gt v).trans (AKr v)) (AA AVJ trivial)
def QW:Env:=AVr.ext 62 true true (AF 0 2 QI QH QG Dn)
theorem O8:AZ Tryz.prog QW:=Env.Af AHG AFP (fun _=>AM rfl rfl) (fun _=>AJ rfl rfl)
abbrev AfR:Hints:={ fp:=fun n=>match n with|1=>[[],[],[],[],[],[],[],[]]|_=>[] }
theorem AXh:∀ v,YS v=AQ 0 Tryz.prog QW AfR Tryz.f164 AHQ AHP AHO v:=by
 rintro⟨a0,a1,⟨⟩⟩
 kernel_rfl
theorem AfQ:AD (AS Tryz.f164) 0=[]:=by kernel_rfl
theorem AQl:AR Tryz.prog 164 (AF 0 2 AHQ AHP AHO BQ):=AH O8 Tryz.func164 (by kernel_rfl) (by kernel_rfl) rfl (fun v=>(ALj v).trans (AXh v)) (AA AfQ trivial)
def ALR:Env:=QW.ext 164 true true (AF 0 2 AHQ AHP AHO BQ)
theorem ADw:AZ Tryz.prog ALR:=Env.Af O8 AQl (fun _=>AM rfl rfl) (fun _=>AJ rfl rfl)
abbrev Ago:Hints:={  }
theorem AZy:∀ v,Yl v=AQ 0 Tryz.prog ALR Ago Tryz.f124 AJ1 AJ0 AJz v:=by
 rintro⟨a0,⟨⟩⟩
 kernel_rfl
theorem Agn:AD (AS Tryz.f124) 0=[]:=by kernel_rfl
theorem AUC:AR Tryz.prog 124 (AF 0 1 AJ1 AJ0 AJz AO3):=AH ADw Tryz.func124 (by kernel_rfl) (by kernel_rfl) rfl (fun v=>(AO2 v).trans (AZy v)) (AA Agn trivial)
def ALZ:Env:=ALR.ext 124 true true (AF 0 1 AJ1 AJ0 AJz AO3)
theorem AEG:AZ Tryz.prog ALZ:=Env.Af ADw AUC (fun _=>AM rfl rfl) (fun _=>AJ rfl rfl)
abbrev AbB:Hints:={  }
theorem AQU:∀ v,OR v=AQ 0 Tryz.prog ALZ AbB Tryz.f89 Vx Vw Vv v:=by
 rintro⟨a0,⟨⟩⟩
 kernel_rfl
theorem AbA:AD (AS Tryz.f89) 0=[]:=by kernel_rfl
theorem ALB:AR Tryz.prog 89 (AF 0 1 Vx Vw Vv bitsLen):=AH AEG Tryz.func89 (by kernel_rfl) (by kernel_rfl) rfl (fun v=>(ADp v).trans (AQU v)) (AA AbA trivial)
def Wa:Env:=ALZ.ext 89 true true (AF 0 1 Vx Vw Vv bitsLen)
theorem Sh:AZ Tryz.prog Wa:=Env.Af AEG ALB (fun _=>AM rfl rfl) (fun _=>AJ rfl rfl)
abbrev AXd:Hints:={ fp:=fun n=>match n with|3=>[[],[0],[0],[],[0],[0],[],[],[0],[1]]|2=>[[],[0],[0],[],[0],[0],[],[],[0],[1]]|1=>[[],[0],[0],[],[0],[0],[],[],[0],[1]]|_=>[] }
theorem ALh:∀ v,Nx v=AQ 1 Tryz.prog Wa AXd Tryz.f137 Sn Sm Sl v:=by
 rintro⟨a0,⟨⟩⟩
 kernel_rfl
theorem AXc:AD (AS Tryz.f137) 0=[]:=by kernel_rfl
theorem AHM:AR Tryz.prog 137 (AF 1 1 Sn Sm Sl xorNext):=AH Sh Tryz.func137 (by kernel_rfl) (by kernel_rfl) rfl (fun v=>(Y1 v).trans (ALh v)) (AA AXc trivial)
def WE:Env:=Wa.ext 137 false true (AF 1 1 Sn Sm Sl xorNext)
theorem R5:AZ Tryz.prog WE:=Env.Af Sh AHM ((by simp)) (fun _=>AJ rfl rfl)
abbrev AZU:Hints:={  }
theorem AOh:∀ v,OD v=AQ 0 Tryz.prog WE AZU Tryz.f136 Tn Tm Tl v:=by
 rintro⟨a0,⟨⟩⟩
 kernel_rfl
theorem AZT:AD (AS Tryz.f136) 0=[]:=by kernel_rfl
theorem AJd:AR Tryz.prog 136 (AF 0 1 Tn Tm Tl Q9):=AH R5 Tryz.func136 (by kernel_rfl) (by kernel_rfl) rfl (fun v=>(ABq v).trans (AOh v)) (AA AZT trivial)
def Km:Env:=WE.ext 136 true true (AF 0 1 Tn Tm Tl Q9)
theorem HU:AZ Tryz.prog Km:=Env.Af R5 AJd (fun _=>AM rfl rfl) (fun _=>AJ rfl rfl)
abbrev ACF:Hints:={ loop:=fun n=>match n with|0=>Ab 1 53 AWz AWx AWv|1=>Ab 1 53 AWy AWw AWu|_=>fun _ _ _=>none,fp:=fun n=>match n with|4=>[[],[],[],[],[],[],[],[0],[0],[],[],[],[0],[0],[],[],[]]|6=>[[],[],[],[],[],[],[],[],[0],[0],[],[],[0],[0],[0],[1],[0],[1]]|_=>[] }
theorem AUM:∀ v,AWu v=roundOf Tryz.prog Km ACF 2 1 53 (AB Tryz.f166 1) AWy AWw v:=by
 rintro⟨a0,a1,a2,a3,a4,⟨⟩⟩
 kernel_rfl
theorem Agp:AD (AB Tryz.f166 1) 2=[]:=by kernel_rfl
theorem Agr:Aa Tryz.prog 1 (.loop (AB Tryz.f166 1)) (ACF.loop 1):=AT HU (AUM) (AA Agp trivial)
theorem AUN:∀ v,AWv v=roundOf Tryz.prog Km ACF 1 1 53 (AB Tryz.f166 0) AWz AWx v:=by
 rintro⟨a0,a1,a2,a3,⟨⟩⟩
 kernel_rfl
theorem Agq:AD (AB Tryz.f166 0) 1=[(1,AB Tryz.f166 1)]:=by kernel_rfl
theorem Ags:Aa Tryz.prog 1 (.loop (AB Tryz.f166 0)) (ACF.loop 0):=AT HU (AUN) (AA Agq ⟨Agr,trivial⟩)
theorem Ady:∀ v,Adz v=AQ 1 Tryz.prog Km ACF Tryz.f166 AUQ AUP AUO v:=by
 rintro⟨a0,a1,a2,⟨⟩⟩
 kernel_rfl
theorem AiT:AD (AS Tryz.f166) 0=[(0,AB Tryz.f166 0)]:=by kernel_rfl
theorem AZ2:AR Tryz.prog 166 (AF 1 4 AUQ AUP AUO AiU):=AH HU Tryz.func166 (by kernel_rfl) (by kernel_rfl) rfl (fun v=>(Agt v).trans (Ady v)) (AA AiT ⟨Ags,trivial⟩)
def ALa:Env:=Km.CJ 166 3 164 (AF 1 4 AUQ AUP AUO AiU)
theorem WR:AZ Tryz.prog ALa:=Env.A0 HU AZ2 (AJ rfl rfl)
abbrev AIU:Hints:={ loop:=fun n=>match n with|0=>Ab 1 82 AMh AMg AMf|_=>fun _ _ _=>none,fp:=fun n=>match n with|6=>[[],[],[],[],[],[],[],[],[],[],[],[],[0],[0],[],[],[],[],[0],[0],[0],[1],[0],[1]]|5=>[[],[],[],[],[],[0],[0],[],[],[],[],[0],[0],[],[],[]]|3=>[[],[],[],[],[],[],[],[],[],[],[0],[0],[],[],[],[],[],[0],[0],[],[],[]]|_=>[] }
theorem AMe:∀ v,AMf v=roundOf Tryz.prog ALa AIU 1 1 82 (AB Tryz.f174 0) AMh AMg v:=by
 rintro⟨a0,a1,a2,a3,⟨⟩⟩
 kernel_rfl
theorem AcD:AD (AB Tryz.f174 0) 1=[]:=by kernel_rfl
theorem AcE:Aa Tryz.prog 1 (.loop (AB Tryz.f174 0)) (AIU.loop 0):=AT WR (AMe) (AA AcD trivial)
theorem AYP:∀ v,AWD v=AQ 1 Tryz.prog ALa AIU Tryz.f174 AIT AIS AIR v:=by
 rintro⟨a0,a1,a2,a3,⟨⟩⟩
 kernel_rfl
theorem Afy:AD (AS Tryz.f174) 0=[(0,AB Tryz.f174 0)]:=by kernel_rfl
theorem ARx:AR Tryz.prog 174 (AF 1 5 AIT AIS AIR AcG):=AH WR Tryz.func174 (by kernel_rfl) (by kernel_rfl) rfl (fun v=>(AcF v).trans (AYP v)) (AA Afy ⟨AcE,trivial⟩)
def SJ:Env:=ALa.CJ 174 4 164 (AF 1 5 AIT AIS AIR AcG)
theorem MA:AZ Tryz.prog SJ:=Env.A0 WR ARx (AJ rfl rfl)
end
end Go.Pev
end
section
namespace Go.Pev
open Go.Proofs
noncomputable section
abbrev RZ:Hints:={ loop:=fun n=>match n with|0=>Ab 1 60 API APG APE|1=>Ab 1 60 APH APF APC|_=>fun _ _ _=>none,fp:=fun n=>match n with|10=>[[],[],[],[],[],[],[],[],[],[],[0],[0],[],[],[0],[0],[0],[1],[0],[1]]|_=>[] }
theorem APB:∀ v,APC v=roundOf Tryz.prog SJ RZ 2 1 60 (AB Tryz.f167 1) APH APF v:=by
 rintro⟨a0,a1,a2,a3,⟨⟩⟩
 kernel_rfl
theorem AeD:AD (AB Tryz.f167 1) 2=[]:=by kernel_rfl
theorem AeF:Aa Tryz.prog 1 (.loop (AB Tryz.f167 1)) (RZ.loop 1):=AT MA (APB) (AA AeD trivial)
theorem APD:∀ v,APE v=roundOf Tryz.prog SJ RZ 1 1 60 (AB Tryz.f167 0) API APG v:=by
 rintro⟨a0,a1,a2,a3,a4,⟨⟩⟩
 kernel_rfl
theorem AeE:AD (AB Tryz.f167 0) 1=[]:=by kernel_rfl
theorem AeG:Aa Tryz.prog 1 (.loop (AB Tryz.f167 0)) (RZ.loop 0):=AT MA (APD) (AA AeE trivial)
theorem AaC:∀ v,AXA v=AQ 1 Tryz.prog SJ RZ Tryz.f167 AKH AKG AKF v:=by
 rintro⟨a0,a1,a2,⟨⟩⟩
 kernel_rfl
theorem Ag3:AD (AS Tryz.f167) 0=[(0,AB Tryz.f167 0),(1,AB Tryz.f167 1)]:=by kernel_rfl
theorem AUc:AR Tryz.prog 167 (AF 1 4 AKH AKG AKF AeI):=AH MA Tryz.func167 (by kernel_rfl) (by kernel_rfl) rfl (fun v=>(AeH v).trans (AaC v)) (AA Ag3 ⟨AeG,AeF,trivial⟩)
def Yx:Env:=SJ.CJ 167 3 164 (AF 1 4 AKH AKG AKF AeI)
theorem QT:AZ Tryz.prog Yx:=Env.A0 MA AUc (AJ rfl rfl)
abbrev ADh:Hints:={ loop:=fun n=>match n with|0=>Ab 1 67 AGx AGw AGv|_=>fun _ _ _=>none,fp:=fun n=>match n with|10=>[[],[],[],[],[],[],[],[],[],[],[0],[0],[],[],[0],[0],[0],[1],[0],[1]]|_=>[] }
theorem AK8:∀ v,AGv v=roundOf Tryz.prog Yx ADh 1 1 67 (AB Tryz.f168 0) AGx AGw v:=by
 rintro⟨a0,a1,a2,a3,a4,a5,⟨⟩⟩
 kernel_rfl
theorem Aa3:AD (AB Tryz.f168 0) 1=[]:=by kernel_rfl
theorem Aa4:Aa Tryz.prog 1 (.loop (AB Tryz.f168 0)) (ADh.loop 0):=AT QT (AK8) (AA Aa3 trivial)
theorem AVV:∀ v,AQQ v=AQ 1 Tryz.prog Yx ADh Tryz.f168 ADg ADf ADe v:=by
 rintro⟨a0,a1,a2,⟨⟩⟩
 kernel_rfl
theorem Ae6:AD (AS Tryz.f168) 0=[(0,AB Tryz.f168 0)]:=by kernel_rfl
theorem AQP:AR Tryz.prog 168 (AF 1 4 ADg ADf ADe AVW):=AH QT Tryz.func168 (by kernel_rfl) (by kernel_rfl) rfl (fun v=>(Aa5 v).trans (AVV v)) (AA Ae6 ⟨Aa4,trivial⟩)
def AEO:Env:=Yx.CJ 168 3 164 (AF 1 4 ADg ADf ADe AVW)
theorem Xr:AZ Tryz.prog AEO:=Env.A0 QT AQP (AJ rfl rfl)
abbrev AZI:Hints:={ fp:=fun n=>match n with|1=>[[],[],[],[0],[0],[],[],[0],[0],[],[]]|_=>[] }
theorem AOR:∀ v,AGL v=AQ 2 Tryz.prog AEO AZI Tryz.f177 Tg Tf Te v:=by
 rintro⟨a0,a1,a2,a3,⟨⟩⟩
 kernel_rfl
theorem AZH:AD (AS Tryz.f177) 0=[]:=by kernel_rfl
theorem AJP:AR Tryz.prog 177 (AF 2 5 Tg Tf Te AJQ):=AH Xr Tryz.func177 (by kernel_rfl) (by kernel_rfl) rfl (fun v=>(ATR v).trans (AOR v)) (AA AZH trivial)
def WJ:Env:=AEO.CJ 177 4 164 (AF 2 5 Tg Tf Te AJQ)
theorem SQ:AZ Tryz.prog WJ:=Env.A0 Xr AJP (AJ rfl rfl)
abbrev AZb:Hints:={  }
theorem AOn:∀ v,AGP v=AQ 2 Tryz.prog WJ AZb Tryz.f176 Tr Tq Tp v:=by
 rintro⟨a0,a1,a2,a3,a4,⟨⟩⟩
 kernel_rfl
theorem AZa:AD (AS Tryz.f176) 0=[]:=by kernel_rfl
theorem AJi:AR Tryz.prog 176 (AF 2 6 Tr Tq Tp AJj):=AH SQ Tryz.func176 (by kernel_rfl) (by kernel_rfl) rfl (fun v=>(ATr v).trans (AOn v)) (AA AZa trivial)
def WL:Env:=WJ.CJ 176 5 164 (AF 2 6 Tr Tq Tp AJj)
theorem SS:AZ Tryz.prog WL:=Env.A0 SQ AJi (AJ rfl rfl)
abbrev AZf:Hints:={  }
theorem AOp:∀ v,AGR v=AQ 2 Tryz.prog WL AZf Tryz.f175 Tx Tw Tv v:=by
 rintro⟨a0,a1,a2,⟨⟩⟩
 kernel_rfl
theorem AZe:AD (AS Tryz.f175) 0=[]:=by kernel_rfl
theorem AJm:AR Tryz.prog 175 (AF 2 4 Tx Tw Tv AJn):=AH SS Tryz.func175 (by kernel_rfl) (by kernel_rfl) rfl (fun v=>(ATu v).trans (AOp v)) (AA AZe trivial)
def WN:Env:=WL.CJ 175 3 164 (AF 2 4 Tx Tw Tv AJn)
theorem SV:AZ Tryz.prog WN:=Env.A0 SS AJm (AJ rfl rfl)
abbrev Aco:Hints:={  }
theorem ASr:∀ v,ANE v=AQ 1 Tryz.prog WN Aco Tryz.f169 AAv AAu AAt v:=by
 rintro⟨a0,a1,a2,⟨⟩⟩
 kernel_rfl
theorem Acn:AD (AS Tryz.f169) 0=[]:=by kernel_rfl
theorem AND:AR Tryz.prog 169 (AF 1 4 AAv AAu AAt ASs):=AH SV Tryz.func169 (by kernel_rfl) (by kernel_rfl) rfl (fun v=>(AYx v).trans (ASr v)) (AA Acn trivial)
def SN:Env:=WN.CJ 169 3 164 (AF 1 4 AAv AAu AAt ASs)
theorem Nq:AZ Tryz.prog SN:=Env.A0 SV AND (AJ rfl rfl)
abbrev ASU:Hints:={ loop:=fun n=>match n with|0=>Ab 1 34 AWP AWO AWN|_=>fun _ _ _=>none,fp:=fun n=>match n with|3=>[[],[],[],[],[],[],[0],[0],[],[],[0],[0],[0],[1],[0],[1]]|_=>[] }
theorem ASQ:∀ v,AWN v=roundOf Tryz.prog SN ASU 1 1 34 (AB Tryz.f170 0) AWP AWO v:=by
 rintro⟨a0,a1,a2,⟨⟩⟩
 kernel_rfl
theorem AgC:AD (AB Tryz.f170 0) 1=[]:=by kernel_rfl
theorem AgD:Aa Tryz.prog 1 (.loop (AB Tryz.f170 0)) (ASU.loop 0):=AT Nq (ASQ) (AA AgC trivial)
theorem Aca:∀ v,Acb v=AQ 1 Tryz.prog SN ASU Tryz.f170 AST ASS ASR v:=by
 rintro⟨a0,a1,a2,⟨⟩⟩
 kernel_rfl
theorem Ah6:AD (AS Tryz.f170) 0=[(0,AB Tryz.f170 0)]:=by kernel_rfl
theorem AYn:AR Tryz.prog 170 (AF 1 4 AST ASS ASR Ah7):=AH Nq Tryz.func170 (by kernel_rfl) (by kernel_rfl) rfl (fun v=>(AgE v).trans (Aca v)) (AA Ah6 ⟨AgD,trivial⟩)
def QR:Env:=SN.CJ 170 3 164 (AF 1 4 AST ASS ASR Ah7)
theorem Hi:AZ Tryz.prog QR:=Env.A0 Nq AYn (AJ rfl rfl)
abbrev C4:Hints:={ loop:=fun n=>match n with|0=>Ab 1 141 W3 Wz Wv|1=>Ab 1 141 W2 Wy Wu|2=>Ab 1 141 W1 Wx Wt|3=>Ab 1 141 W0 Ww Ws|_=>fun _ _ _=>none,fp:=fun n=>match n with|11=>[[],[],[],[],[],[],[],[],[0],[0],[],[],[0],[0],[0],[1],[0],[1]]|5=>[[],[],[],[],[],[],[],[0],[0],[],[],[],[0],[0],[],[],[],[]]|17=>[[],[],[],[],[],[],[],[],[0],[0],[],[],[0],[0],[0],[1],[0],[1]]|16=>[[],[],[],[0],[0],[],[],[],[0],[0],[],[],[]]|23=>[[],[],[],[],[],[],[],[],[0],[0],[],[],[0],[0],[0],[1],[0],[1]]|22=>[[],[],[],[0],[0],[],[],[],[0],[0],[],[],[]]|_=>[] }
theorem ABE:∀ v,Ws v=roundOf Tryz.prog QR C4 4 1 141 (AB Tryz.f171 3) W0 Ww v:=by
 rintro⟨a0,a1,a2,a3,a4,a5,⟨⟩⟩
 kernel_rfl
theorem ANg:AD (AB Tryz.f171 3) 4=[]:=by kernel_rfl
theorem ANk:Aa Tryz.prog 1 (.loop (AB Tryz.f171 3)) (C4.loop 3):=AT Hi (ABE) (AA ANg trivial)
theorem ABF:∀ v,Wt v=roundOf Tryz.prog QR C4 3 1 141 (AB Tryz.f171 2) W1 Wx v:=by
 rintro⟨a0,a1,a2,a3,a4,a5,⟨⟩⟩
 kernel_rfl
theorem ANh:AD (AB Tryz.f171 2) 3=[]:=by kernel_rfl
theorem ANl:Aa Tryz.prog 1 (.loop (AB Tryz.f171 2)) (C4.loop 2):=AT Hi (ABF) (AA ANh trivial)
theorem ABG:∀ v,Wu v=roundOf Tryz.prog QR C4 2 1 141 (AB Tryz.f171 1) W2 Wy v:=by
 rintro⟨a0,a1,a2,a3,a4,⟨⟩⟩
 kernel_rfl
theorem ANi:AD (AB Tryz.f171 1) 2=[]:=by kernel_rfl
theorem ANm:Aa Tryz.prog 1 (.loop (AB Tryz.f171 1)) (C4.loop 1):=AT Hi (ABG) (AA ANi trivial)
theorem ABH:∀ v,Wv v=roundOf Tryz.prog QR C4 1 1 141 (AB Tryz.f171 0) W3 Wz v:=by
 rintro⟨a0,a1,a2,a3,a4,⟨⟩⟩
 kernel_rfl
theorem ANj:AD (AB Tryz.f171 0) 1=[(1,AB Tryz.f171 1),(2,AB Tryz.f171 2),(3,AB Tryz.f171 3)]:=by kernel_rfl
theorem ANn:Aa Tryz.prog 1 (.loop (AB Tryz.f171 0)) (C4.loop 0):=AT Hi (ABH) (AA ANj ⟨ANm,ANl,ANk,trivial⟩)
theorem AJE:∀ v,ABI v=AQ 1 Tryz.prog QR C4 Tryz.f171 Pc Pb Pa v:=by
 rintro⟨a0,a1,a2,⟨⟩⟩
 kernel_rfl
theorem AS8:AD (AS Tryz.f171) 0=[(0,AB Tryz.f171 0)]:=by kernel_rfl
theorem AEp:AR Tryz.prog 171 (AF 1 4 Pc Pb Pa ABJ):=AH Hi Tryz.func171 (by kernel_rfl) (by kernel_rfl) rfl (fun v=>(ANo v).trans (AJE v)) (AA AS8 ⟨ANn,trivial⟩)
def GJ:Env:=QR.CJ 171 3 164 (AF 1 4 Pc Pb Pa ABJ)
theorem ER:AZ Tryz.prog GJ:=Env.A0 Hi AEp (AJ rfl rfl)
abbrev Fl:Hints:={ loop:=fun n=>match n with|0=>Ab 1 90 ABZ ABW ABT|1=>Ab 1 90 ABY ABV ABS|2=>Ab 1 90 ABX ABU ABR|_=>fun _ _ _=>none,fp:=fun n=>match n with|8=>[[],[],[],[],[],[],[0],[0],[],[],[0],[0],[0],[1],[0],[1]]|3=>[[],[],[],[],[],[],[],[0],[0],[],[],[0],[0],[],[],[],[]]|5=>[[],[],[],[],[],[],[],[0],[0],[],[],[0],[0],[],[],[]]|1=>[[],[],[],[],[],[],[0],[0],[],[],[0],[0],[0],[1],[0],[1]]|_=>[] }
theorem AEu:∀ v,ABR v=roundOf Tryz.prog GJ Fl 3 1 90 (AB Tryz.f172 2) ABX ABU v:=by
 rintro⟨a0,a1,a2,a3,⟨⟩⟩
 kernel_rfl
theorem ATB:AD (AB Tryz.f172 2) 3=[]:=by kernel_rfl
theorem ATE:Aa Tryz.prog 1 (.loop (AB Tryz.f172 2)) (Fl.loop 2):=AT ER (AEu) (AA ATB trivial)
theorem AEv:∀ v,ABS v=roundOf Tryz.prog GJ Fl 2 1 90 (AB Tryz.f172 1) ABY ABV v:=by
 rintro⟨a0,a1,a2,a3,⟨⟩⟩
 kernel_rfl
theorem ATC:AD (AB Tryz.f172 1) 2=[]:=by kernel_rfl
theorem ATF:Aa Tryz.prog 1 (.loop (AB Tryz.f172 1)) (Fl.loop 1):=AT ER (AEv) (AA ATC trivial)
theorem AEw:∀ v,ABT v=roundOf Tryz.prog GJ Fl 1 1 90 (AB Tryz.f172 0) ABZ ABW v:=by
 rintro⟨a0,a1,a2,a3,⟨⟩⟩
 kernel_rfl
theorem ATD:AD (AB Tryz.f172 0) 1=[(1,AB Tryz.f172 1),(2,AB Tryz.f172 2)]:=by kernel_rfl
theorem ATG:Aa Tryz.prog 1 (.loop (AB Tryz.f172 0)) (Fl.loop 0):=AT ER (AEw) (AA ATD ⟨ATF,ATE,trivial⟩)
theorem AN3:∀ v,AGG v=AQ 1 Tryz.prog GJ Fl Tryz.f172 Ta TZ TY v:=by
 rintro⟨a0,a1,a2,a3,⟨⟩⟩
 kernel_rfl
theorem AZC:AD (AS Tryz.f172) 0=[(0,AB Tryz.f172 0)]:=by kernel_rfl
theorem AJH:AR Tryz.prog 172 (AF 1 5 Ta TZ TY AJI):=AH ER Tryz.func172 (by kernel_rfl) (by kernel_rfl) rfl (fun v=>(ATH v).trans (AN3 v)) (AA AZC ⟨ATG,trivial⟩)
def E3:Env:=GJ.CJ 172 4 164 (AF 1 5 Ta TZ TY AJI)
theorem DI:AZ Tryz.prog E3:=Env.A0 ER AJH (AJ rfl rfl)
abbrev E8:Hints:={ loop:=fun n=>match n with|0=>Ab 1 178 ANf ANa ANV|1=>Ab 1 178 ANe ANZ ANT|2=>Ab 1 178 ANd ANY ANR|3=>Ab 1 178 ANc ANX ANP|4=>Ab 1 178 ANb ANW ANN|_=>fun _ _ _=>none,fp:=fun n=>match n with|3=>[[],[],[],[],[],[],[],[0],[0],[],[],[0],[0],[],[],[]]|5=>[[],[],[],[],[],[],[],[0],[0],[],[],[0],[0],[],[],[],[]]|18=>[[],[],[],[],[],[],[0],[0],[],[],[0],[0],[0],[1],[0],[1]]|13=>[[],[],[],[],[],[],[],[0],[0],[],[],[0],[0],[],[],[]]|15=>[[],[],[],[],[],[],[],[0],[0],[],[],[0],[0],[],[],[],[]]|21=>[[],[],[],[],[],[],[0],[0],[],[],[0],[0],[0],[1],[0],[1]]|10=>[[],[],[],[],[],[],[0],[0],[],[],[0],[0],[0],[1],[0],[1]]|8=>[[],[],[],[],[],[],[0],[0],[],[],[0],[0],[0],[1],[0],[1]]|1=>[[],[],[],[],[],[],[0],[0],[],[],[0],[0],[0],[1],[0],[1]]|_=>[] }
theorem ANM:∀ v,ANN v=roundOf Tryz.prog E3 E8 5 1 178 (AB Tryz.f173 4) ANb ANW v:=by
 rintro⟨a0,a1,a2,a3,⟨⟩⟩
 kernel_rfl
theorem Acx:AD (AB Tryz.f173 4) 5=[]:=by kernel_rfl
theorem Ac2:Aa Tryz.prog 1 (.loop (AB Tryz.f173 4)) (E8.loop 4):=AT DI (ANM) (AA Acx trivial)
theorem ANO:∀ v,ANP v=roundOf Tryz.prog E3 E8 4 1 178 (AB Tryz.f173 3) ANc ANX v:=by
 rintro⟨a0,a1,a2,a3,⟨⟩⟩
 kernel_rfl
theorem Acy:AD (AB Tryz.f173 3) 4=[]:=by kernel_rfl
theorem Ac3:Aa Tryz.prog 1 (.loop (AB Tryz.f173 3)) (E8.loop 3):=AT DI (ANO) (AA Acy trivial)
theorem ANQ:∀ v,ANR v=roundOf Tryz.prog E3 E8 3 1 178 (AB Tryz.f173 2) ANd ANY v:=by
 rintro⟨a0,a1,a2,a3,⟨⟩⟩
 kernel_rfl
theorem Acz:AD (AB Tryz.f173 2) 3=[(3,AB Tryz.f173 3),(4,AB Tryz.f173 4)]:=by kernel_rfl
theorem Ac4:Aa Tryz.prog 1 (.loop (AB Tryz.f173 2)) (E8.loop 2):=AT DI (ANQ) (AA Acz ⟨Ac3,Ac2,trivial⟩)
theorem ANS:∀ v,ANT v=roundOf Tryz.prog E3 E8 2 1 178 (AB Tryz.f173 1) ANe ANZ v:=by
 rintro⟨a0,a1,a2,a3,⟨⟩⟩
 kernel_rfl
theorem Ac0:AD (AB Tryz.f173 1) 2=[]:=by kernel_rfl
theorem Ac5:Aa Tryz.prog 1 (.loop (AB Tryz.f173 1)) (E8.loop 1):=AT DI (ANS) (AA Ac0 trivial)
theorem ANU:∀ v,ANV v=roundOf Tryz.prog E3 E8 1 1 178 (AB Tryz.f173 0) ANf ANa v:=by
 rintro⟨a0,a1,a2,a3,⟨⟩⟩
 kernel_rfl
theorem Ac1:AD (AB Tryz.f173 0) 1=[]:=by kernel_rfl
theorem Ac6:Aa Tryz.prog 1 (.loop (AB Tryz.f173 0)) (E8.loop 0):=AT DI (ANU) (AA Ac1 trivial)
theorem AZA:∀ v,AWf v=AQ 1 Tryz.prog E3 E8 Tryz.f173 AJD AJC AJB v:=by
 rintro⟨a0,a1,a2,a3,⟨⟩⟩
 kernel_rfl
theorem AgT:AD (AS Tryz.f173) 0=[(0,AB Tryz.f173 0),(1,AB Tryz.f173 1),(2,AB Tryz.f173 2)]:=by kernel_rfl
theorem AS7:AR Tryz.prog 173 (AF 1 5 AJD AJC AJB Ac8):=AH DI Tryz.func173 (by kernel_rfl) (by kernel_rfl) rfl (fun v=>(Ac7 v).trans (AZA v)) (AA AgT ⟨Ac6,Ac5,Ac4,trivial⟩)
def ALX:Env:=E3.CJ 173 4 164 (AF 1 5 AJD AJC AJB Ac8)
theorem AED:AZ Tryz.prog ALX:=Env.A0 DI AS7 (AJ rfl rfl)
abbrev AS0(self:(List (List Int)×Int×Int×Int×Unit)→Option ((List (List Int)×Unit))):Hints:={ loop:=fun n=>match n with|0=>Ab 1 148 AWb AWa (AWZ self)|_=>fun _ _ _=>none,fp:=fun n=>match n with|17=>[[],[],[],[],[],[],[],[0],[0],[],[],[0],[0],[],[],[],[]]|_=>[] }
abbrev AI7(self:(List (List Int)×Int×Int×Int×Unit)→Option ((List (List Int)×Unit))):Env:=ALX.ext 165 false true (AF 1 5 AA7 AA6 AA5 self)
theorem ASz(self:(List (List Int)×Int×Int×Int×Unit)→Option ((List (List Int)×Unit))):∀ v,AWZ self v=roundOf Tryz.prog (AI7 self) (AS0 self) 1 1 148 (AB Tryz.f165 0) AWb AWa v:=by
 rintro⟨a0,a1,a2,a3,a4,a5,⟨⟩⟩
 kernel_rfl
theorem AgK:AD (AB Tryz.f165 0) 1=[]:=by kernel_rfl
theorem AgL(self:(List (List Int)×Int×Int×Int×Unit)→Option ((List (List Int)×Unit)))(hE:AZ Tryz.prog (AI7 self)):Aa Tryz.prog 1 (.loop (AB Tryz.f165 0)) ((AS0 self).loop 0):=AT hE (ASz self) (AA AgK trivial)
theorem Acu(self:(List (List Int)×Int×Int×Int×Unit)→Option ((List (List Int)×Unit))):∀ v,AiD self v=AQ 1 Tryz.prog (AI7 self) (AS0 self) Tryz.f165 AA7 AA6 AA5 v:=by
 rintro⟨a0,a1,a2,a3,⟨⟩⟩
 kernel_rfl
theorem AiC:AD (AS Tryz.f165) 0=[(0,AB Tryz.f165 0)]:=by kernel_rfl
theorem AS1:∀ n,AR Tryz.prog 165 (AF 1 5 AA7 AA6 AA5 (AA8 n)):=by
 intro n
 induction n with
 |zero=>exact XI fun _=>rfl
 |succ n ih=>
  have hE:AZ Tryz.prog (AI7 (AA8 n)):=Env.Af AED ih ((by simp)) (fun _=>AJ rfl rfl)
  let self:=AA8 n
  exact AH hE Tryz.func165 (by kernel_rfl) (by kernel_rfl) rfl (Acu self) (AA AiC ⟨(AgL self hE),trivial⟩)
theorem AY7:AR Tryz.prog 165 (AF 1 5 AA7 AA6 AA5 AgN):=by
 have e:AgN=AA8 100:=funext AgM
 rw[e]
 exact AS1 _
def AVo:Env:=ALX.CJ 165 4 164 (AF 1 5 AA7 AA6 AA5 AgN)
theorem AHD:AZ Tryz.prog AVo:=Env.A0 AED AY7 (AJ rfl rfl)
abbrev Afo:Hints:={  }
theorem AYI:∀ v,AV5 v=AQ 1 Tryz.prog AVo Afo Tryz.f163 AIF AIE AID v:=by
 rintro⟨a0,⟨⟩⟩
 kernel_rfl
theorem Afn:AD (AS Tryz.f163) 0=[]:=by kernel_rfl
theorem ARk:AR Tryz.prog 163 (AF 1 2 AIF AIE AID AMW):=AH AHD Tryz.func163 (by kernel_rfl) (by kernel_rfl) rfl (fun v=>(Ab9 v).trans (AYI v)) (AA Afn trivial)
def SC:Env:=AVo.CJ 163 1 164 (AF 1 2 AIF AIE AID AMW)
theorem L8:AZ Tryz.prog SC:=Env.A0 AHD ARk (AJ rfl rfl)
end
end Go.Pev
end
section
namespace Go.Pev
open Go.Proofs
noncomputable section
abbrev Qa:Hints:={ loop:=fun n=>match n with|0=>Ab 0 47 ALt ALr Hl|1=>Ab 0 47 ALs ALq Hk|_=>fun _ _ _=>none }
theorem ALo:∀ v,Hk v=roundOf Tryz.prog SC Qa 2 0 47 (AB Tryz.f154 1) ALs ALq v:=by
 rintro⟨a0,a1,a2,a3,a4,a5,a6,⟨⟩⟩
 kernel_rfl
theorem AbO:AD (AB Tryz.f154 1) 2=[]:=by kernel_rfl
theorem AbQ:Aa Tryz.prog 0 (.loop (AB Tryz.f154 1)) (Qa.loop 1):=AT L8 (ALo) (AA AbO trivial)
theorem ALp:∀ v,Hl v=roundOf Tryz.prog SC Qa 1 0 47 (AB Tryz.f154 0) ALt ALr v:=by
 rintro⟨a0,a1,a2,a3,a4,a5,a6,a7,a8,⟨⟩⟩
 kernel_rfl
theorem AbP:AD (AB Tryz.f154 0) 1=[]:=by kernel_rfl
theorem AbR:Aa Tryz.prog 0 (.loop (AB Tryz.f154 0)) (Qa.loop 0):=AT L8 (ALp) (AA AbP trivial)
theorem AXn:∀ v,YV v=AQ 0 Tryz.prog SC Qa Tryz.f154 AHY AHX AHW v:=by
 rintro⟨a0,a1,a2,⟨⟩⟩
 kernel_rfl
theorem AfU:AD (AS Tryz.f154) 0=[(0,AB Tryz.f154 0),(1,AB Tryz.f154 1)]:=by kernel_rfl
theorem AQu:AR Tryz.prog 154 (AF 0 3 AHY AHX AHW ALv):=AH L8 Tryz.func154 (by kernel_rfl) (by kernel_rfl) rfl (fun v=>(ALu v).trans (AXn v)) (AA AfU ⟨AbR,AbQ,trivial⟩)
def ALS:Env:=SC.ext 154 true true (AF 0 3 AHY AHX AHW ALv)
theorem ADy:AZ Tryz.prog ALS:=Env.Af L8 AQu (fun _=>AM rfl rfl) (fun _=>AJ rfl rfl)
abbrev Afg:Hints:={ fp:=fun n=>match n with|9=>[[],[28],[0],[0],[],[],[],[],[],[0],[0],[],[],[],[],[],[28],[28,52,36,62],[64],[]]|4=>[[0],[],[],[0],[],[],[],[]]|_=>[] }
theorem AX4:∀ v,HH v=AQ 0 Tryz.prog ALS Afg Tryz.f131 AHz AHy AHx v:=by
 rintro⟨a0,a1,a2,⟨⟩⟩
 kernel_rfl
theorem Aff:AD (AS Tryz.f131) 0=[]:=by kernel_rfl
theorem ARK:AR Tryz.prog 131 (AF 0 3 AHz AHy AHx Mi):=AH ADy Tryz.func131 (by kernel_rfl) (by kernel_rfl) rfl (fun v=>(Hs v).trans (AX4 v)) (AA Aff trivial)
def ALT:Env:=ALS.ext 131 true true (AF 0 3 AHz AHy AHx Mi)
theorem AD4:AZ Tryz.prog ALT:=Env.Af ADy ARK (fun _=>AM rfl rfl) (fun _=>AJ rfl rfl)
theorem Abz:Tryz.f158.body.isSome=true:=by kernel_rfl
theorem Aby : (Tryz.f158.name == "runtime.NumGoroutine") = false := by kernel_rfl
theorem Abx:loops (AS Tryz.f158)=0:=by kernel_rfl
def L6:Env:=ALT.ext 158 false false (DM Tryz.prog ALT {} Tryz.f158)
theorem J7:AZ Tryz.prog L6:=Env.Af AD4 (Cx AD4 Tryz.func158 Abz Aby Abx) (by simp) (by simp)
abbrev F8:Hints:={ loop:=fun n=>match n with|0=>Ab 1 19 JD JC Bn|_=>fun _ _ _=>none }
theorem NL:∀ v,Bn v=roundOf Tryz.prog L6 F8 1 1 19 (AB Tryz.f91 0) JD JC v:=by
 rintro⟨a0,a1,a2,a3,a4,⟨⟩⟩
 kernel_rfl
theorem RT:AD (AB Tryz.f91 0) 1=[]:=by kernel_rfl
theorem RU:Aa Tryz.prog 1 (.loop (AB Tryz.f91 0)) (F8.loop 0):=AT J7 (NL) (AA RT trivial)
theorem P2:∀ v,D7 v=AQ 1 Tryz.prog L6 F8 Tryz.f91 F7 F6 F5 v:=by
 rintro⟨a0,a1,a2,⟨⟩⟩
 kernel_rfl
theorem UK:AD (AS Tryz.f91) 0=[(0,AB Tryz.f91 0)]:=by kernel_rfl
theorem Oh:AR Tryz.prog 91 (AF 1 2 F7 F6 F5 FH):=AH J7 Tryz.func91 (by kernel_rfl) (by kernel_rfl) rfl (fun v=>(JE v).trans (P2 v)) (AA UK ⟨RU,trivial⟩)
def GO:Env:=L6.CJ 91 1 158 (AF 1 2 F7 F6 F5 FH)
theorem HF:AZ Tryz.prog GO:=Env.A0 J7 Oh (AJ rfl rfl)
abbrev Rp:Hints:={  }
theorem Oi:∀ v,DV v=AQ 1 Tryz.prog GO Rp Tryz.f73 FP FO FN v:=by
 rintro⟨a0,a1,a2,⟨⟩⟩
 kernel_rfl
theorem Ro:AD (AS Tryz.f73) 0=[]:=by kernel_rfl
theorem Nb:AR Tryz.prog 73 (AF 1 2 FP FO FN DN):=AH HF Tryz.func73 (by kernel_rfl) (by kernel_rfl) rfl (fun v=>(IW v).trans (Oi v)) (AA Ro trivial)
def FX:Env:=GO.CJ 73 1 158 (AF 1 2 FP FO FN DN)
theorem Gy:AZ Tryz.prog FX:=Env.A0 HF Nb (AJ rfl rfl)
abbrev AeX:Hints:={  }
theorem AUm:∀ v,Rd v=AQ 0 Tryz.prog FX AeX Tryz.f148 ACg ACf ACe v:=by
 rintro⟨a0,a1,⟨⟩⟩
 kernel_rfl
theorem AeW:AD (AS Tryz.f148) 0=[]:=by kernel_rfl
theorem APf:AR Tryz.prog 148 (AF 0 2 ACg ACf ACe P6):=AH Gy Tryz.func148 (by kernel_rfl) (by kernel_rfl) rfl (fun v=>(AGj v).trans (AUm v)) (AA AeW trivial)
def Sb:Env:=FX.ext 148 true true (AF 0 2 ACg ACf ACe P6)
theorem Nt:AZ Tryz.prog Sb:=Env.Af Gy APf (fun _=>AM rfl rfl) (fun _=>AJ rfl rfl)
abbrev AU2:Hints:={ loop:=fun n=>match n with|0=>Ab 0 21 AXL AXK Lo|_=>fun _ _ _=>none }
theorem AUy:∀ v,Lo v=roundOf Tryz.prog Sb AU2 1 0 21 (AB Tryz.f149 0) AXL AXK v:=by
 rintro⟨a0,a1,a2,a3,⟨⟩⟩
 kernel_rfl
theorem AhH:AD (AB Tryz.f149 0) 1=[]:=by kernel_rfl
theorem AhI:Aa Tryz.prog 0 (.loop (AB Tryz.f149 0)) (AU2.loop 0):=AT Nt (AUy) (AA AhH trivial)
theorem Aem:∀ v,AKh v=AQ 0 Tryz.prog Sb AU2 Tryz.f149 AU1 AU0 AUz v:=by
 rintro⟨a0,⟨⟩⟩
 kernel_rfl
theorem Aib:AD (AS Tryz.f149) 0=[(0,AB Tryz.f149 0)]:=by kernel_rfl
theorem Aak:AR Tryz.prog 149 (AF 0 1 AU1 AU0 AUz ends):=AH Nt Tryz.func149 (by kernel_rfl) (by kernel_rfl) rfl (fun v=>(AXM v).trans (Aem v)) (AA Aib ⟨AhI,trivial⟩)
def ALe:Env:=Sb.ext 149 true true (AF 0 1 AU1 AU0 AUz ends)
theorem WX:AZ Tryz.prog ALe:=Env.Af Nt Aak (fun _=>AM rfl rfl) (fun _=>AJ rfl rfl)
abbrev QE:Hints:={ loop:=fun n=>match n with|0=>Ab 0 48 XS XR B4|_=>fun _ _ _=>none,fp:=fun n=>match n with|1=>[[0],[],[],[4],[]]|_=>[] }
theorem AC9:∀ v,B4 v=roundOf Tryz.prog ALe QE 1 0 48 (AB Tryz.f130 0) XS XR v:=by
 rintro⟨a0,a1,a2,a3,a4,a5,a6,⟨⟩⟩
 kernel_rfl
theorem AP0:AD (AB Tryz.f130 0) 1=[]:=by kernel_rfl
theorem AP1:Aa Tryz.prog 0 (.loop (AB Tryz.f130 0)) (QE.loop 0):=AT WX (AC9) (AA AP0 trivial)
theorem AKj:∀ v,IU v=AQ 0 Tryz.prog ALe QE Tryz.f130 QD QC QB v:=by
 rintro⟨a0,a1,⟨⟩⟩
 kernel_rfl
theorem AU5:AD (AS Tryz.f130) 0=[(0,AB Tryz.f130 0)]:=by kernel_rfl
theorem AFH:AR Tryz.prog 130 (AF 0 3 QD QC QB Rk):=AH WX Tryz.func130 (by kernel_rfl) (by kernel_rfl) rfl (fun v=>(NU v).trans (AKj v)) (AA AU5 ⟨AP1,trivial⟩)
def QV:Env:=ALe.CJ 130 2 131 (AF 0 3 QD QC QB Rk)
theorem O7:AZ Tryz.prog QV:=Env.A0 WX AFH (AJ rfl rfl)
abbrev Aef:Hints:={  }
theorem AUp:∀ v,NQ v=AQ 0 Tryz.prog QV Aef Tryz.f108 ACn ACm ACl v:=by
 rintro⟨a0,a1,⟨⟩⟩
 kernel_rfl
theorem Aee:AD (AS Tryz.f108) 0=[]:=by kernel_rfl
theorem APk:AR Tryz.prog 108 (AF 0 2 ACn ACm ACl AKZ):=AH O7 Tryz.func108 (by kernel_rfl) (by kernel_rfl) rfl (fun v=>(UX v).trans (AUp v)) (AA Aee trivial)
def AEL:Env:=QV.ext 108 true true (AF 0 2 ACn ACm ACl AKZ)
theorem Xo:AZ Tryz.prog AEL:=Env.Af O7 APk (fun _=>AM rfl rfl) (fun _=>AJ rfl rfl)
abbrev Ai0:Hints:={  }
theorem AhD:∀ v,APj v=AQ 0 Tryz.prog AEL Ai0 Tryz.f83 Aed Aec Aeb v:=by
 rintro⟨a0,a1,⟨⟩⟩
 kernel_rfl
theorem Aiz:AD (AS Tryz.f83) 0=[]:=by kernel_rfl
theorem Aea:AR Tryz.prog 83 (AF 0 2 Aed Aec Aeb fof):=AH Xo Tryz.func83 (by kernel_rfl) (by kernel_rfl) rfl (fun v=>(AUo v).trans (AhD v)) (AA Aiz trivial)
def AXb:Env:=AEL.ext 83 true true (AF 0 2 Aed Aec Aeb fof)
theorem AEK:AZ Tryz.prog AXb:=Env.Af Xo Aea (fun _=>AM rfl rfl) (fun _=>AJ rfl rfl)
abbrev AdV:Hints:={ loop:=fun n=>match n with|0=>Ab 0 18 AdT AdR Fp|_=>fun _ _ _=>none }
theorem AZL:∀ v,Fp v=roundOf Tryz.prog AXb AdV 1 0 18 (AB Tryz.f61 0) AdT AdR v:=by
 rintro⟨a0,a1,a2,a3,⟨⟩⟩
 kernel_rfl
theorem AiG:AD (AB Tryz.f61 0) 1=[]:=by kernel_rfl
theorem AiH:Aa Tryz.prog 0 (.loop (AB Tryz.f61 0)) (AdV.loop 0):=AT AEK (AZL) (AA AiG trivial)
theorem AgX:∀ v,AGN v=AQ 0 Tryz.prog AXb AdV Tryz.f61 AdU AdS AdQ v:=by
 rintro⟨a0,⟨⟩⟩
 kernel_rfl
theorem Aiu:AD (AS Tryz.f61) 0=[(0,AB Tryz.f61 0)]:=by kernel_rfl
theorem AdP:AR Tryz.prog 61 (AF 0 1 AdU AdS AdQ orI):=AH AEK Tryz.func61 (by kernel_rfl) (by kernel_rfl) rfl (fun v=>(AJT v).trans (AgX v)) (AA Aiu ⟨AiH,trivial⟩)
def AfP:Env:=AXb.ext 61 true true (AF 0 1 AdU AdS AdQ orI)
theorem AQk:AZ Tryz.prog AfP:=Env.Af AEK AdP (fun _=>AM rfl rfl) (fun _=>AJ rfl rfl)
abbrev Adp:Hints:={  }
theorem AT5:∀ v,NF v=AQ 0 Tryz.prog AfP Adp Tryz.f104 AB1 AB0 ABz v:=by
 rintro⟨a0,⟨⟩⟩
 kernel_rfl
theorem Ado:AD (AS Tryz.f104) 0=[]:=by kernel_rfl
theorem AOw:AR Tryz.prog 104 (AF 0 1 AB1 AB0 ABz T6):=AH AQk Tryz.func104 (by kernel_rfl) (by kernel_rfl) rfl (fun v=>(T5 v).trans (AT5 v)) (AA Ado trivial)
def AEF:Env:=AfP.ext 104 true true (AF 0 1 AB1 AB0 ABz T6)
theorem Xl:AZ Tryz.prog AEF:=Env.Af AQk AOw (fun _=>AM rfl rfl) (fun _=>AJ rfl rfl)
end
end Go.Pev
end
section
namespace Go.Pev
open Go.Proofs
noncomputable section
abbrev AiR:Hints:={  }
theorem Adn:∀ v,AT4 v=AQ 0 Tryz.prog AEF AiR Tryz.f105 AT3 AT2 AT1 v:=by
 rintro⟨a0,⟨⟩⟩
 kernel_rfl
theorem AiQ:AD (AS Tryz.f105) 0=[]:=by kernel_rfl
theorem AZn:AR Tryz.prog 105 (AF 0 1 AT3 AT2 AT1 AJt):=AH Xl Tryz.func105 (by kernel_rfl) (by kernel_rfl) rfl (fun v=>(Agl v).trans (Adn v)) (AA AiQ trivial)
def AVt:Env:=AEF.ext 105 true true (AF 0 1 AT3 AT2 AT1 AJt)
theorem AHI:AZ Tryz.prog AVt:=Env.Af Xl AZn (fun _=>AM rfl rfl) (fun _=>AJ rfl rfl)
abbrev AUF:Hints:={ fp:=fun n=>match n with|1=>[[0],[0],[2],[2],[],[0],[0],[2],[2],[],[],[20],[]]|_=>[] }
theorem AJ3:∀ v,LX v=AQ 0 Tryz.prog AVt AUF Tryz.f106 Ps Pr Pq v:=by
 rintro⟨a0,a1,⟨⟩⟩
 kernel_rfl
theorem AUE:AD (AS Tryz.f106) 0=[]:=by kernel_rfl
theorem AE6:AR Tryz.prog 106 (AF 0 2 Ps Pr Pq KZ):=AH AHI Tryz.func106 (by kernel_rfl) (by kernel_rfl) rfl (fun v=>(XK v).trans (AJ3 v)) (AA AUE trivial)
def MF:Env:=AVt.ext 106 true true (AF 0 2 Ps Pr Pq KZ)
theorem J8:AZ Tryz.prog MF:=Env.Af AHI AE6 (fun _=>AM rfl rfl) (fun _=>AJ rfl rfl)
abbrev ABy:Hints:={ loop:=fun n=>match n with|0=>Ab 0 33 AGU AGT Cr|_=>fun _ _ _=>none }
theorem AJs:∀ v,Cr v=roundOf Tryz.prog MF ABy 1 0 33 (AB Tryz.f84 0) AGU AGT v:=by
 rintro⟨a0,a1,a2,a3,a4,⟨⟩⟩
 kernel_rfl
theorem AZl:AD (AB Tryz.f84 0) 1=[]:=by kernel_rfl
theorem AZm:Aa Tryz.prog 0 (.loop (AB Tryz.f84 0)) (ABy.loop 0):=AT J8 (AJs) (AA AZl trivial)
theorem AT0:∀ v,ND v=AQ 0 Tryz.prog MF ABy Tryz.f84 ABx ABw ABv v:=by
 rintro⟨a0,a1,⟨⟩⟩
 kernel_rfl
theorem Adm:AD (AS Tryz.f84) 0=[(0,AB Tryz.f84 0)]:=by kernel_rfl
theorem AOs:AR Tryz.prog 84 (AF 0 2 ABx ABw ABv Pm):=AH J8 Tryz.func84 (by kernel_rfl) (by kernel_rfl) rfl (fun v=>(T4 v).trans (AT0 v)) (AA Adm ⟨AZm,trivial⟩)
def SX:Env:=MF.ext 84 true true (AF 0 2 ABx ABw ABv Pm)
theorem Ns:AZ Tryz.prog SX:=Env.Af J8 AOs (fun _=>AM rfl rfl) (fun _=>AJ rfl rfl)
abbrev AB5:Hints:={ loop:=fun n=>match n with|0=>Ab 0 96 AGW AGV D2|_=>fun _ _ _=>none,fp:=fun n=>match n with|7=>[[2],[2],[],[],[2],[2],[2],[2],[],[],[],[2],[2],[0],[0],[],[],[],[2],[2],[],[],[],[2],[2],[],[],[],[],[],[],[],[0],[0],[],[],[],[],[2],[],[],[],[]]|_=>[] }
theorem AJu:∀ v,D2 v=roundOf Tryz.prog SX AB5 1 0 96 (AB Tryz.f82 0) AGW AGV v:=by
 rintro⟨a0,a1,a2,a3,a4,a5,⟨⟩⟩
 kernel_rfl
theorem AZo:AD (AB Tryz.f82 0) 1=[]:=by kernel_rfl
theorem AZp:Aa Tryz.prog 0 (.loop (AB Tryz.f82 0)) (AB5.loop 0):=AT Ns (AJu) (AA AZo trivial)
theorem AT6:∀ v,ID v=AQ 0 Tryz.prog SX AB5 Tryz.f82 AB4 AB3 AB2 v:=by
 rintro⟨a0,⟨⟩⟩
 kernel_rfl
theorem Adq:AD (AS Tryz.f82) 0=[(0,AB Tryz.f82 0)]:=by kernel_rfl
theorem AOx:AR Tryz.prog 82 (AF 0 1 AB4 AB3 AB2 Pn):=AH Ns Tryz.func82 (by kernel_rfl) (by kernel_rfl) rfl (fun v=>(KW v).trans (AT6 v)) (AA Adq ⟨AZp,trivial⟩)
def Ko:Env:=SX.ext 82 true true (AF 0 1 AB4 AB3 AB2 Pn)
theorem Gx:AZ Tryz.prog Ko:=Env.Af Ns AOx (fun _=>AM rfl rfl) (fun _=>AJ rfl rfl)
abbrev Dp:Hints:={ loop:=fun n=>match n with|0=>Ab 0 83 Rz Rw DF|1=>Ab 0 83 Ry Rv D9|2=>Ab 0 83 Rx Ru DE|_=>fun _ _ _=>none,fp:=fun n=>match n with|14=>[[],[],[0],[0],[],[],[0],[0],[],[]]|13=>[[],[],[],[],[],[],[],[],[],[],[],[],[],[],[],[],[],[],[],[0],[0],[],[],[0],[0],[],[]]|12=>[[],[],[],[],[],[],[],[],[],[],[],[]]|_=>[] }
theorem YH:∀ v,DE v=roundOf Tryz.prog Ko Dp 3 0 83 (AB Tryz.f49 2) Rx Ru v:=by
 rintro⟨a0,a1,a2,a3,a4,⟨⟩⟩
 kernel_rfl
theorem AKu:AD (AB Tryz.f49 2) 3=[]:=by kernel_rfl
theorem AKx:Aa Tryz.prog 0 (.loop (AB Tryz.f49 2)) (Dp.loop 2):=AT Gx (YH) (AA AKu trivial)
theorem YI:∀ v,D9 v=roundOf Tryz.prog Ko Dp 2 0 83 (AB Tryz.f49 1) Ry Rv v:=by
 rintro⟨a0,a1,a2,a3,⟨⟩⟩
 kernel_rfl
theorem AKv:AD (AB Tryz.f49 1) 2=[(2,AB Tryz.f49 2)]:=by kernel_rfl
theorem AKy:Aa Tryz.prog 0 (.loop (AB Tryz.f49 1)) (Dp.loop 1):=AT Gx (YI) (AA AKv ⟨AKx,trivial⟩)
theorem YJ:∀ v,DF v=roundOf Tryz.prog Ko Dp 1 0 83 (AB Tryz.f49 0) Rz Rw v:=by
 rintro⟨a0,a1,a2,a3,⟨⟩⟩
 kernel_rfl
theorem AKw:AD (AB Tryz.f49 0) 1=[]:=by kernel_rfl
theorem AKz:Aa Tryz.prog 0 (.loop (AB Tryz.f49 0)) (Dp.loop 0):=AT Gx (YJ) (AA AKw trivial)
theorem AFR:∀ v,JR v=AQ 0 Tryz.prog Ko Dp Tryz.f49 Ng Nf Nd v:=by
 rintro⟨a0,a1,⟨⟩⟩
 kernel_rfl
theorem AQE:AD (AS Tryz.f49) 0=[(0,AB Tryz.f49 0),(1,AB Tryz.f49 1)]:=by kernel_rfl
theorem ADY:AR Tryz.prog 49 (AF 0 2 Ng Nf Nd DT):=AH Gx Tryz.func49 (by kernel_rfl) (by kernel_rfl) rfl (fun v=>(R0 v).trans (AFR v)) (AA AQE ⟨AKz,AKy,trivial⟩)
def Jd:Env:=Ko.ext 49 true true (AF 0 2 Ng Nf Nd DT)
theorem Is:AZ Tryz.prog Jd:=Env.Af Gx ADY (fun _=>AM rfl rfl) (fun _=>AJ rfl rfl)
abbrev AHq:Hints:={ loop:=fun n=>match n with|0=>Ab 0 20 AMB AMA Zg|_=>fun _ _ _=>none }
theorem AL9:∀ v,Zg v=roundOf Tryz.prog Jd AHq 1 0 20 (AB Tryz.f52 0) AMB AMA v:=by
 rintro⟨a0,a1,⟨⟩⟩
 kernel_rfl
theorem Abh:AD (AB Tryz.f52 0) 1=[]:=by kernel_rfl
theorem Abi:Aa Tryz.prog 0 (.loop (AB Tryz.f52 0)) (AHq.loop 0):=AT Is (AL9) (AA Abh trivial)
theorem AX2:∀ v,AHr v=AQ 0 Tryz.prog Jd AHq Tryz.f52 AHp AHo AHn v:=by
 rintro⟨a0,⟨⟩⟩
 kernel_rfl
theorem Afa:AD (AS Tryz.f52) 0=[(0,AB Tryz.f52 0)]:=by kernel_rfl
theorem ARG:AR Tryz.prog 52 (AF 0 1 AHp AHo AHn ML):=AH Is Tryz.func52 (by kernel_rfl) (by kernel_rfl) rfl (fun v=>(Abj v).trans (AX2 v)) (AA Afa ⟨Abi,trivial⟩)
def SA:Env:=Jd.ext 52 true true (AF 0 1 AHp AHo AHn ML)
theorem L5:AZ Tryz.prog SA:=Env.Af Is ARG (fun _=>AM rfl rfl) (fun _=>AJ rfl rfl)
abbrev KL:Hints:={ loop:=fun n=>match n with|0=>Ab 0 138 AAe AAc C1|1=>Ab 0 138 AAd AAb Df|_=>fun _ _ _=>none,fp:=fun n=>match n with|10=>[[],[],[],[0],[0],[],[],[],[],[],[4],[4],[],[],[0],[0],[],[],[],[],[],[4],[4],[],[],[0],[0],[],[],[],[],[],[4],[4],[],[],[],[]]|8=>[[4],[4],[],[],[4],[4],[4],[4],[],[],[],[4],[4],[0],[0],[],[],[],[4],[4],[],[],[],[4],[4],[0],[0],[],[],[]]|_=>[] }
theorem AEj:∀ v,Df v=roundOf Tryz.prog SA KL 2 0 138 (AB Tryz.f48 1) AAd AAb v:=by
 rintro⟨a0,a1,a2,a3,a4,a5,⟨⟩⟩
 kernel_rfl
theorem ASJ:AD (AB Tryz.f48 1) 2=[]:=by kernel_rfl
theorem ASL:Aa Tryz.prog 0 (.loop (AB Tryz.f48 1)) (KL.loop 1):=AT L5 (AEj) (AA ASJ trivial)
theorem AEk:∀ v,C1 v=roundOf Tryz.prog SA KL 1 0 138 (AB Tryz.f48 0) AAe AAc v:=by
 rintro⟨a0,a1,a2,a3,⟨⟩⟩
 kernel_rfl
theorem ASK:AD (AB Tryz.f48 0) 1=[]:=by kernel_rfl
theorem ASM:Aa Tryz.prog 0 (.loop (AB Tryz.f48 0)) (KL.loop 0):=AT L5 (AEk) (AA ASK trivial)
theorem AM6:∀ v,Eo v=AQ 0 Tryz.prog SA KL Tryz.f48 TN TM TL v:=by
 rintro⟨a0,⟨⟩⟩
 kernel_rfl
theorem AYl:AD (AS Tryz.f48) 0=[(0,AB Tryz.f48 0),(1,AB Tryz.f48 1)]:=by kernel_rfl
theorem AIr:AR Tryz.prog 48 (AF 0 1 TN TM TL C2):=AH L5 Tryz.func48 (by kernel_rfl) (by kernel_rfl) rfl (fun v=>(Fg v).trans (AM6 v)) (AA AYl ⟨ASM,ASL,trivial⟩)
def OY:Env:=SA.ext 48 true true (AF 0 1 TN TM TL C2)
theorem MD:AZ Tryz.prog OY:=Env.Af L5 AIr (fun _=>AM rfl rfl) (fun _=>AJ rfl rfl)
abbrev VM:Hints:={ loop:=fun n=>match n with|0=>Ab 0 32 AC7 AC6 Ef|_=>fun _ _ _=>none,fp:=fun n=>match n with|7=>[[],[0],[0],[],[],[],[],[0],[0],[],[],[],[],[],[],[3,4],[]]|_=>[] }
theorem AFG:∀ v,Ef v=roundOf Tryz.prog OY VM 1 0 32 (AB Tryz.f50 0) AC7 AC6 v:=by
 rintro⟨a0,a1,a2,a3,⟨⟩⟩
 kernel_rfl
theorem AU3:AD (AB Tryz.f50 0) 1=[]:=by kernel_rfl
theorem AU4:Aa Tryz.prog 0 (.loop (AB Tryz.f50 0)) (VM.loop 0):=AT MD (AFG) (AA AU3 trivial)
theorem APz:∀ v,ON v=AQ 0 Tryz.prog OY VM Tryz.f50 VL VK VJ v:=by
 rintro⟨a0,⟨⟩⟩
 kernel_rfl
theorem Aam:AD (AS Tryz.f50) 0=[(0,AB Tryz.f50 0)]:=by kernel_rfl
theorem AKi:AR Tryz.prog 50 (AF 0 1 VL VK VJ Rj):=AH MD Tryz.func50 (by kernel_rfl) (by kernel_rfl) rfl (fun v=>(AC8 v).trans (APz v)) (AA Aam ⟨AU4,trivial⟩)
def OZ:Env:=OY.ext 50 true true (AF 0 1 VL VK VJ Rj)
theorem MH:AZ Tryz.prog OZ:=Env.Af MD AKi (fun _=>AM rfl rfl) (fun _=>AJ rfl rfl)
abbrev AAL:Hints:={ loop:=fun n=>match n with|0=>Ab 0 26 AF0 AFz TK|_=>fun _ _ _=>none,fp:=fun n=>match n with|6=>[[],[],[],[],[],[],[],[],[]]|_=>[] }
theorem AIq:∀ v,TK v=roundOf Tryz.prog OZ AAL 1 0 26 (AB Tryz.f17 0) AF0 AFz v:=by
 rintro⟨a0,a1,a2,⟨⟩⟩
 kernel_rfl
theorem AYd:AD (AB Tryz.f17 0) 1=[]:=by kernel_rfl
theorem AYe:Aa Tryz.prog 0 (.loop (AB Tryz.f17 0)) (AAL.loop 0):=AT MH (AIq) (AA AYd trivial)
theorem ASC:∀ v,AAM v=AQ 0 Tryz.prog OZ AAL Tryz.f17 AAK AAJ AAI v:=by
 rintro⟨a0,a1,⟨⟩⟩
 kernel_rfl
theorem AcT:AD (AS Tryz.f17) 0=[(0,AB Tryz.f17 0)]:=by kernel_rfl
theorem AMv:AR Tryz.prog 17 (AF 0 2 AAK AAJ AAI AAN):=AH MH Tryz.func17 (by kernel_rfl) (by kernel_rfl) rfl (fun v=>(AYf v).trans (ASC v)) (AA AcT ⟨AYe,trivial⟩)
def AD7:Env:=OZ.ext 17 true true (AF 0 2 AAK AAJ AAI AAN)
theorem Xg:AZ Tryz.prog AD7:=Env.Af MH AMv (fun _=>AM rfl rfl) (fun _=>AJ rfl rfl)
abbrev Ain:Hints:={  }
theorem Afd:∀ v,AVx v=AQ 0 Tryz.prog AD7 Ain Tryz.f58 Abn Abm Abl v:=by
 rintro⟨a0,a1,⟨⟩⟩
 kernel_rfl
theorem Aim:AD (AS Tryz.f58) 0=[]:=by kernel_rfl
theorem Abk:AR Tryz.prog 58 (AF 0 2 Abn Abm Abl tof):=AH Xg Tryz.func58 (by kernel_rfl) (by kernel_rfl) rfl (fun v=>(Abo v).trans (Afd v)) (AA Aim trivial)
def AXa:Env:=AD7.ext 58 true true (AF 0 2 Abn Abm Abl tof)
theorem AD3:AZ Tryz.prog AXa:=Env.Af Xg Abk (fun _=>AM rfl rfl) (fun _=>AJ rfl rfl)
abbrev ACs:Hints:={ loop:=fun n=>match n with|0=>Ab 0 41 AGm AGl F9|_=>fun _ _ _=>none }
theorem AKa:∀ v,F9 v=roundOf Tryz.prog AXa ACs 1 0 41 (AB Tryz.f24 0) AGm AGl v:=by
 rintro⟨a0,a1,a2,a3,a4,⟨⟩⟩
 kernel_rfl
theorem Aad:AD (AB Tryz.f24 0) 1=[]:=by kernel_rfl
theorem Aae:Aa Tryz.prog 0 (.loop (AB Tryz.f24 0)) (ACs.loop 0):=AT AD3 (AKa) (AA Aad trivial)
theorem AUr:∀ v,Re v=AQ 0 Tryz.prog AXa ACs Tryz.f24 ACr ACq ACp v:=by
 rintro⟨a0,a1,a2,⟨⟩⟩
 kernel_rfl
theorem Aei:AD (AS Tryz.f24) 0=[(0,AB Tryz.f24 0)]:=by kernel_rfl
theorem APp:AR Tryz.prog 24 (AF 0 3 ACr ACq ACp UZ):=AH AD3 Tryz.func24 (by kernel_rfl) (by kernel_rfl) rfl (fun v=>(AGn v).trans (AUr v)) (AA Aei ⟨Aae,trivial⟩)
def Sc:Env:=AXa.ext 24 true true (AF 0 3 ACr ACq ACp UZ)
theorem Nu:AZ Tryz.prog Sc:=Env.Af AD3 APp (fun _=>AM rfl rfl) (fun _=>AJ rfl rfl)
abbrev S3:Hints:={ loop:=fun n=>match n with|0=>Ab 0 47 ZZ ZY EX|_=>fun _ _ _=>none,fp:=fun n=>match n with|6=>[[],[0],[0],[],[],[],[],[0],[0],[],[],[],[],[],[],[3,4],[]]|_=>[] }
theorem AEV:∀ v,EX v=roundOf Tryz.prog Sc S3 1 0 47 (AB Tryz.f51 0) ZZ ZY v:=by
 rintro⟨a0,a1,a2,a3,a4,⟨⟩⟩
 kernel_rfl
theorem ARA:AD (AB Tryz.f51 0) 1=[]:=by kernel_rfl
theorem ARB:Aa Tryz.prog 0 (.loop (AB Tryz.f51 0)) (S3.loop 0):=AT Nu (AEV) (AA ARA trivial)
theorem AL6:∀ v,N3 v=AQ 0 Tryz.prog Sc S3 Tryz.f51 S2 S1 S0 v:=by
 rintro⟨a0,a1,⟨⟩⟩
 kernel_rfl
theorem AXw:AD (AS Tryz.f51) 0=[(0,AB Tryz.f51 0)]:=by kernel_rfl
theorem AHl:AR Tryz.prog 51 (AF 0 2 S2 S1 S0 Iv):=AH Nu Tryz.func51 (by kernel_rfl) (by kernel_rfl) rfl (fun v=>(Za v).trans (AL6 v)) (AA AXw ⟨ARB,trivial⟩)
def WH:Env:=Sc.ext 51 true true (AF 0 2 S2 S1 S0 Iv)
theorem R9:AZ Tryz.prog WH:=Env.Af Nu AHl (fun _=>AM rfl rfl) (fun _=>AJ rfl rfl)
end
end Go.Pev
end
section
namespace Go.Pev
open Go.Proofs
noncomputable section
abbrev AZu:Hints:={ fp:=fun n=>match n with|3=>[[0],[0],[0],[],[],[12],[],[],[3],[]]|_=>[] }
theorem AO1:∀ v,KY v=AQ 0 Tryz.prog WH AZu Tryz.f57 UD UC UB v:=by
 rintro⟨a0,a1,⟨⟩⟩
 kernel_rfl
theorem AZt:AD (AS Tryz.f57) 0=[]:=by kernel_rfl
theorem AJy:AR Tryz.prog 57 (AF 0 2 UD UC UB OG):=AH R9 Tryz.func57 (by kernel_rfl) (by kernel_rfl) rfl (fun v=>(Pp v).trans (AO1 v)) (AA AZt trivial)
def WQ:Env:=WH.ext 57 true true (AF 0 2 UD UC UB OG)
theorem SY:AZ Tryz.prog WQ:=Env.Af R9 AJy (fun _=>AM rfl rfl) (fun _=>AJ rfl rfl)
abbrev AiY:Hints:={  }
theorem Ad7:∀ v,AJ7 v=AQ 0 Tryz.prog WQ AiY Tryz.f54 AUZ AUY AUX v:=by
 rintro⟨a0,a1,⟨⟩⟩
 kernel_rfl
theorem AiX:AD (AS Tryz.f54) 0=[]:=by kernel_rfl
theorem AZ6:AR Tryz.prog 54 (AF 0 2 AUZ AUY AUX APA):=AH SY Tryz.func54 (by kernel_rfl) (by kernel_rfl) rfl (fun v=>(AW7 v).trans (Ad7 v)) (AA AiX trivial)
def ALc:Env:=WQ.ext 54 true true (AF 0 2 AUZ AUY AUX APA)
theorem WT:AZ Tryz.prog ALc:=Env.Af SY AZ6 (fun _=>AM rfl rfl) (fun _=>AJ rfl rfl)
abbrev M9:Hints:={ loop:=fun n=>match n with|0=>Ab 0 36 RB RA C9|_=>fun _ _ _=>none,fp:=fun n=>match n with|6=>[[],[],[2],[2],[],[],[2],[2],[]]|1=>[[0],[0],[0],[],[],[2],[]]|_=>[] }
theorem X2:∀ v,C9 v=roundOf Tryz.prog ALc M9 1 0 36 (AB Tryz.f53 0) RB RA v:=by
 rintro⟨a0,a1,a2,a3,a4,a5,⟨⟩⟩
 kernel_rfl
theorem AJg:AD (AB Tryz.f53 0) 1=[]:=by kernel_rfl
theorem AJh:Aa Tryz.prog 0 (.loop (AB Tryz.f53 0)) (M9.loop 0):=AT WT (X2) (AA AJg trivial)
theorem AE3:∀ v,I5 v=AQ 0 Tryz.prog ALc M9 Tryz.f53 M8 M7 M6 v:=by
 rintro⟨a0,a1,a2,⟨⟩⟩
 kernel_rfl
theorem AOm:AD (AS Tryz.f53) 0=[(0,AB Tryz.f53 0)]:=by kernel_rfl
theorem ABr:AR Tryz.prog 53 (AF 0 3 M8 M7 M6 Fs):=AH WT Tryz.func53 (by kernel_rfl) (by kernel_rfl) rfl (fun v=>(RC v).trans (AE3 v)) (AA AOm ⟨AJh,trivial⟩)
def JY:Env:=ALc.ext 53 true true (AF 0 3 M8 M7 M6 Fs)
theorem Im:AZ Tryz.prog JY:=Env.Af WT ABr (fun _=>AM rfl rfl) (fun _=>AJ rfl rfl)
abbrev AKP:Hints:={ loop:=fun n=>match n with|0=>Ab 0 18 APW APV IQ|_=>fun _ _ _=>none }
theorem APU:∀ v,IQ v=roundOf Tryz.prog JY AKP 1 0 18 (AB Tryz.f56 0) APW APV v:=by
 rintro⟨a0,a1,a2,⟨⟩⟩
 kernel_rfl
theorem AeQ:AD (AB Tryz.f56 0) 1=[]:=by kernel_rfl
theorem AeR:Aa Tryz.prog 0 (.loop (AB Tryz.f56 0)) (AKP.loop 0):=AT Im (APU) (AA AeQ trivial)
theorem AaG:∀ v,Ym v=AQ 0 Tryz.prog JY AKP Tryz.f56 AKO AKN AKM v:=by
 rintro⟨a0,a1,⟨⟩⟩
 kernel_rfl
theorem Ag6:AD (AS Tryz.f56) 0=[(0,AB Tryz.f56 0)]:=by kernel_rfl
theorem AUe:AR Tryz.prog 56 (AF 0 2 AKO AKN AKM Kd):=AH Im Tryz.func56 (by kernel_rfl) (by kernel_rfl) rfl (fun v=>(APX v).trans (AaG v)) (AA Ag6 ⟨AeR,trivial⟩)
def ALd:Env:=JY.ext 56 true true (AF 0 2 AKO AKN AKM Kd)
theorem AEJ:AZ Tryz.prog ALd:=Env.Af Im AUe (fun _=>AM rfl rfl) (fun _=>AJ rfl rfl)
abbrev AcN:Hints:={ fp:=fun n=>match n with|8=>[[],[26],[],[34],[],[],[],[26],[],[34],[],[],[],[26],[26],[],[34],[34],[],[],[]]|5=>[[0],[],[],[],[0],[],[],[],[],[]]|_=>[] }
theorem AR1:∀ v,Qm v=AQ 0 Tryz.prog ALd AcN Tryz.f55 Z8 Z7 Z6 v:=by
 rintro⟨a0,a1,a2,a3,⟨⟩⟩
 kernel_rfl
theorem AcM:AD (AS Tryz.f55) 0=[]:=by kernel_rfl
theorem AMm:AR Tryz.prog 55 (AF 0 4 Z8 Z7 Z6 Z9):=AH AEJ Tryz.func55 (by kernel_rfl) (by kernel_rfl) rfl (fun v=>(AFs v).trans (AR1 v)) (AA AcM trivial)
def Kl:Env:=ALd.ext 55 true true (AF 0 4 Z8 Z7 Z6 Z9)
theorem Gw:AZ Tryz.prog Kl:=Env.Af AEJ AMm (fun _=>AM rfl rfl) (fun _=>AJ rfl rfl)
abbrev LJ:Hints:={ loop:=fun n=>match n with|0=>Ab 0 208 AOc AOZ FA|1=>Ab 0 208 AOb AOY Gn|2=>Ab 0 208 AOa AOX Gm|_=>fun _ _ _=>none,fp:=fun n=>match n with|34=>[[6],[10],[1],[3],[]]|33=>[[14],[14],[14],[14],[],[10],[11],[10],[11]]|35=>[[4],[8],[1],[3],[]]|9=>[[0],[0],[],[0],[0],[],[],[41],[0],[0],[],[],[],[43],[],[],[47]]|_=>[] }
theorem AOU:∀ v,Gm v=roundOf Tryz.prog Kl LJ 3 0 208 (AB Tryz.f25 2) AOa AOX v:=by
 rintro⟨a0,a1,a2,a3,a4,a5,a6,a7,a8,a9,a10,a11,a12,a13,a14,a15,a16,a17,a18,a19,a20,a21,⟨⟩⟩
 kernel_rfl
theorem AdW:AD (AB Tryz.f25 2) 3=[]:=by kernel_rfl
theorem AdZ:Aa Tryz.prog 0 (.loop (AB Tryz.f25 2)) (LJ.loop 2):=AT Gw (AOU) (AA AdW trivial)
theorem AOV:∀ v,Gn v=roundOf Tryz.prog Kl LJ 2 0 208 (AB Tryz.f25 1) AOb AOY v:=by
 rintro⟨a0,a1,a2,a3,a4,a5,a6,a7,a8,a9,a10,a11,a12,a13,a14,a15,a16,a17,a18,a19,a20,a21,⟨⟩⟩
 kernel_rfl
theorem AdX:AD (AB Tryz.f25 1) 2=[]:=by kernel_rfl
theorem Ada:Aa Tryz.prog 0 (.loop (AB Tryz.f25 1)) (LJ.loop 1):=AT Gw (AOV) (AA AdX trivial)
theorem AOW:∀ v,FA v=roundOf Tryz.prog Kl LJ 1 0 208 (AB Tryz.f25 0) AOc AOZ v:=by
 rintro⟨a0,a1,a2,a3,a4,a5,a6,a7,a8,a9,a10,a11,a12,a13,a14,a15,a16,a17,a18,⟨⟩⟩
 kernel_rfl
theorem AdY:AD (AB Tryz.f25 0) 1=[(1,AB Tryz.f25 1),(2,AB Tryz.f25 2)]:=by kernel_rfl
theorem Adb:Aa Tryz.prog 0 (.loop (AB Tryz.f25 0)) (LJ.loop 0):=AT Gw (AOW) (AA AdY ⟨Ada,AdZ,trivial⟩)
theorem AZO:∀ v,Yi v=AQ 0 Tryz.prog Kl LJ Tryz.f25 AJY AJX AJV v:=by
 rintro⟨a0,a1,a2,⟨⟩⟩
 kernel_rfl
theorem AgY:AD (AS Tryz.f25) 0=[(0,AB Tryz.f25 0)]:=by kernel_rfl
theorem ATU:AR Tryz.prog 25 (AF 0 3 AJY AJX AJV ABo):=AH Gw Tryz.func25 (by kernel_rfl) (by kernel_rfl) rfl (fun v=>(AOd v).trans (AZO v)) (AA AgY ⟨Adb,trivial⟩)
def ME:Env:=Kl.ext 25 true true (AF 0 3 AJY AJX AJV ABo)
theorem GL:AZ Tryz.prog ME:=Env.Af Gw ATU (fun _=>AM rfl rfl) (fun _=>AJ rfl rfl)
abbrev Dy:Hints:={ loop:=fun n=>match n with|0=>Ab 0 105 Z2 Zy EZ|1=>Ab 0 105 Z1 Zx EY|2=>Ab 0 105 Z0 Zw Dd|3=>Ab 0 105 Zz Zv Dc|_=>fun _ _ _=>none,fp:=fun n=>match n with|8=>[[],[],[2],[2],[],[],[4],[4],[]]|14=>[[0],[0],[0],[],[],[10],[]]|19=>[[4],[4],[],[],[4],[4],[],[],[],[],[],[4],[4],[2],[2],[],[4],[4],[2],[2],[],[]]|4=>[[0],[0],[0],[],[26],[]]|3=>[[0],[0],[0],[],[10],[]]|_=>[] }
theorem AEX:∀ v,Dc v=roundOf Tryz.prog ME Dy 4 0 105 (AB Tryz.f23 3) Zz Zv v:=by
 rintro⟨a0,a1,a2,a3,a4,⟨⟩⟩
 kernel_rfl
theorem ARc:AD (AB Tryz.f23 3) 4=[]:=by kernel_rfl
theorem ARg:Aa Tryz.prog 0 (.loop (AB Tryz.f23 3)) (Dy.loop 3):=AT GL (AEX) (AA ARc trivial)
theorem AEY:∀ v,Dd v=roundOf Tryz.prog ME Dy 3 0 105 (AB Tryz.f23 2) Z0 Zw v:=by
 rintro⟨a0,a1,a2,a3,a4,a5,⟨⟩⟩
 kernel_rfl
theorem ARd:AD (AB Tryz.f23 2) 3=[]:=by kernel_rfl
theorem ARh:Aa Tryz.prog 0 (.loop (AB Tryz.f23 2)) (Dy.loop 2):=AT GL (AEY) (AA ARd trivial)
theorem AEZ:∀ v,EY v=roundOf Tryz.prog ME Dy 2 0 105 (AB Tryz.f23 1) Z1 Zx v:=by
 rintro⟨a0,a1,a2,a3,⟨⟩⟩
 kernel_rfl
theorem ARe:AD (AB Tryz.f23 1) 2=[(2,AB Tryz.f23 2),(3,AB Tryz.f23 3)]:=by kernel_rfl
theorem ARi:Aa Tryz.prog 0 (.loop (AB Tryz.f23 1)) (Dy.loop 1):=AT GL (AEZ) (AA ARe ⟨ARh,ARg,trivial⟩)
theorem AEa:∀ v,EZ v=roundOf Tryz.prog ME Dy 1 0 105 (AB Tryz.f23 0) Z2 Zy v:=by
 rintro⟨a0,a1,a2,a3,a4,⟨⟩⟩
 kernel_rfl
theorem ARf:AD (AB Tryz.f23 0) 1=[]:=by kernel_rfl
theorem ARj:Aa Tryz.prog 0 (.loop (AB Tryz.f23 0)) (Dy.loop 0):=AT GL (AEa) (AA ARf trivial)
theorem AMT:∀ v,KG v=AQ 0 Tryz.prog ME Dy Tryz.f23 TB TA S9 v:=by
 rintro⟨a0,⟨⟩⟩
 kernel_rfl
theorem AYG:AD (AS Tryz.f23) 0=[(0,AB Tryz.f23 0),(1,AB Tryz.f23 1)]:=by kernel_rfl
theorem AIC:AR Tryz.prog 23 (AF 0 1 TB TA S9 K5):=AH GL Tryz.func23 (by kernel_rfl) (by kernel_rfl) rfl (fun v=>(PJ v).trans (AMT v)) (AA AYG ⟨ARj,ARi,trivial⟩)
def AHA:Env:=ME.ext 23 true true (AF 0 1 TB TA S9 K5)
theorem ALU:AZ Tryz.prog AHA:=Env.Af GL AIC (fun _=>AM rfl rfl) (fun _=>AJ rfl rfl)
theorem Ae2 : (Tryz.f64.name == "runtime.NumGoroutine") = false := by kernel_rfl
theorem AKt:AER Tryz.prog Tryz.f64 43 3 (.int .i64) where
 body:=by kernel_rfl
 nt:=by kernel_rfl
 res:=by kernel_rfl
 d:=⟨by kernel_rfl,by kernel_rfl,by kernel_rfl,by kernel_rfl,by kernel_rfl,by kernel_rfl,by kernel_rfl,by kernel_rfl⟩
 g:=⟨by kernel_rfl,by kernel_rfl,by kernel_rfl,by kernel_rfl,by kernel_rfl,by kernel_rfl,by kernel_rfl,by kernel_rfl⟩
 o00:=by kernel_rfl
 o10:=by kernel_rfl
 o11:=by kernel_rfl
 o20:=by kernel_rfl
 o30:=by kernel_rfl
 o31:=by kernel_rfl
 o32:=by kernel_rfl
 o33:=by kernel_rfl
 sl:=by kernel_rfl
 z:=by kernel_rfl
 by1:=by kernel_rfl
def AEN:Env:=AHA.ext 64 true true (He 3 (.int .i64))
theorem Xq:AZ Tryz.prog AEN:=Env.Af ALU (Ae1 AKt Tryz.func64 Ae2) (fun _=>MR _ _) (fun _=>(MR _ _).Ai5)
abbrev Aft:Hints:={ fp:=fun n=>match n with|1=>[[0],[0],[2],[2],[],[0],[0],[2],[2],[],[],[20],[]]|_=>[] }
theorem AYN:∀ v,Yd v=AQ 0 Tryz.prog AEN Aft Tryz.f60 AIP AIO AIN v:=by
 rintro⟨a0,a1,⟨⟩⟩
 kernel_rfl
theorem Afs:AD (AS Tryz.f60) 0=[]:=by kernel_rfl
theorem ARq:AR Tryz.prog 60 (AF 0 2 AIP AIO AIN BR):=AH Xq Tryz.func60 (by kernel_rfl) (by kernel_rfl) rfl (fun v=>(AMc v).trans (AYN v)) (AA Afs trivial)
def SH:Env:=AEN.ext 60 true true (AF 0 2 AIP AIO AIN BR)
theorem L9:AZ Tryz.prog SH:=Env.Af Xq ARq (fun _=>AM rfl rfl) (fun _=>AJ rfl rfl)
abbrev ACH:Hints:={ loop:=fun n=>match n with|0=>Ab 1 53 AW5 AW3 AW1|1=>Ab 1 53 AW4 AW2 AW0|_=>fun _ _ _=>none,fp:=fun n=>match n with|4=>[[],[],[],[],[],[],[],[0],[0],[],[],[],[0],[0],[],[],[]]|6=>[[],[],[],[],[],[],[],[],[0],[0],[],[],[0],[0],[0],[1],[0],[1]]|_=>[] }
theorem AUR:∀ v,AW0 v=roundOf Tryz.prog SH ACH 2 1 53 (AB Tryz.f115 1) AW4 AW2 v:=by
 rintro⟨a0,a1,a2,a3,a4,⟨⟩⟩
 kernel_rfl
theorem Agw:AD (AB Tryz.f115 1) 2=[]:=by kernel_rfl
theorem Agy:Aa Tryz.prog 1 (.loop (AB Tryz.f115 1)) (ACH.loop 1):=AT L9 (AUR) (AA Agw trivial)
theorem AUS:∀ v,AW1 v=roundOf Tryz.prog SH ACH 1 1 53 (AB Tryz.f115 0) AW5 AW3 v:=by
 rintro⟨a0,a1,a2,a3,⟨⟩⟩
 kernel_rfl
theorem Agx:AD (AB Tryz.f115 0) 1=[(1,AB Tryz.f115 1)]:=by kernel_rfl
theorem Agz:Aa Tryz.prog 1 (.loop (AB Tryz.f115 0)) (ACH.loop 0):=AT L9 (AUS) (AA Agx ⟨Agy,trivial⟩)
theorem Ad3:∀ v,Ad4 v=AQ 1 Tryz.prog SH ACH Tryz.f115 AUV AUU AUT v:=by
 rintro⟨a0,a1,a2,⟨⟩⟩
 kernel_rfl
theorem AiV:AD (AS Tryz.f115) 0=[(0,AB Tryz.f115 0)]:=by kernel_rfl
theorem AZ3:AR Tryz.prog 115 (AF 1 4 AUV AUU AUT AiW):=AH L9 Tryz.func115 (by kernel_rfl) (by kernel_rfl) rfl (fun v=>(Ag0 v).trans (Ad3 v)) (AA AiV ⟨Agz,trivial⟩)
def ALb:Env:=SH.CJ 115 3 60 (AF 1 4 AUV AUU AUT AiW)
theorem WS:AZ Tryz.prog ALb:=Env.A0 L9 AZ3 (AJ rfl rfl)
abbrev AIY:Hints:={ loop:=fun n=>match n with|0=>Ab 1 82 AMl AMk AMj|_=>fun _ _ _=>none,fp:=fun n=>match n with|6=>[[],[],[],[],[],[],[],[],[],[],[],[],[0],[0],[],[],[],[],[0],[0],[0],[1],[0],[1]]|5=>[[],[],[],[],[],[0],[0],[],[],[],[],[0],[0],[],[],[]]|3=>[[],[],[],[],[],[],[],[],[],[],[0],[0],[],[],[],[],[],[0],[0],[],[],[]]|_=>[] }
theorem AMi:∀ v,AMj v=roundOf Tryz.prog ALb AIY 1 1 82 (AB Tryz.f135 0) AMl AMk v:=by
 rintro⟨a0,a1,a2,a3,⟨⟩⟩
 kernel_rfl
theorem AcI:AD (AB Tryz.f135 0) 1=[]:=by kernel_rfl
theorem AcJ:Aa Tryz.prog 1 (.loop (AB Tryz.f135 0)) (AIY.loop 0):=AT WS (AMi) (AA AcI trivial)
theorem AYQ:∀ v,AWE v=AQ 1 Tryz.prog ALb AIY Tryz.f135 AIX AIW AIV v:=by
 rintro⟨a0,a1,a2,a3,⟨⟩⟩
 kernel_rfl
theorem Afz:AD (AS Tryz.f135) 0=[(0,AB Tryz.f135 0)]:=by kernel_rfl
theorem ARz:AR Tryz.prog 135 (AF 1 5 AIX AIW AIV AcL):=AH WS Tryz.func135 (by kernel_rfl) (by kernel_rfl) rfl (fun v=>(AcK v).trans (AYQ v)) (AA Afz ⟨AcJ,trivial⟩)
def SK:Env:=ALb.CJ 135 4 60 (AF 1 5 AIX AIW AIV AcL)
theorem MC:AZ Tryz.prog SK:=Env.A0 WS ARz (AJ rfl rfl)
abbrev Rb:Hints:={ loop:=fun n=>match n with|0=>Ab 1 60 APS APQ APO|1=>Ab 1 60 APR APP APM|_=>fun _ _ _=>none,fp:=fun n=>match n with|10=>[[],[],[],[],[],[],[],[],[],[],[0],[0],[],[],[0],[0],[0],[1],[0],[1]]|_=>[] }
theorem APL:∀ v,APM v=roundOf Tryz.prog SK Rb 2 1 60 (AB Tryz.f116 1) APR APP v:=by
 rintro⟨a0,a1,a2,a3,⟨⟩⟩
 kernel_rfl
theorem AeK:AD (AB Tryz.f116 1) 2=[]:=by kernel_rfl
theorem AeM:Aa Tryz.prog 1 (.loop (AB Tryz.f116 1)) (Rb.loop 1):=AT MC (APL) (AA AeK trivial)
theorem APN:∀ v,APO v=roundOf Tryz.prog SK Rb 1 1 60 (AB Tryz.f116 0) APS APQ v:=by
 rintro⟨a0,a1,a2,a3,a4,⟨⟩⟩
 kernel_rfl
theorem AeL:AD (AB Tryz.f116 0) 1=[]:=by kernel_rfl
theorem AeN:Aa Tryz.prog 1 (.loop (AB Tryz.f116 0)) (Rb.loop 0):=AT MC (APN) (AA AeL trivial)
theorem AaF:∀ v,AXB v=AQ 1 Tryz.prog SK Rb Tryz.f116 AKK AKJ AKI v:=by
 rintro⟨a0,a1,a2,⟨⟩⟩
 kernel_rfl
theorem Ag4:AD (AS Tryz.f116) 0=[(0,AB Tryz.f116 0),(1,AB Tryz.f116 1)]:=by kernel_rfl
theorem AUd:AR Tryz.prog 116 (AF 1 4 AKK AKJ AKI AeP):=AH MC Tryz.func116 (by kernel_rfl) (by kernel_rfl) rfl (fun v=>(AeO v).trans (AaF v)) (AA Ag4 ⟨AeN,AeM,trivial⟩)
def Yy:Env:=SK.CJ 116 3 60 (AF 1 4 AKK AKJ AKI AeP)
theorem QU:AZ Tryz.prog Yy:=Env.A0 MC AUd (AJ rfl rfl)
end
end Go.Pev
end
section
namespace Go.Pev
open Go.Proofs
noncomputable section
abbrev ADm:Hints:={ loop:=fun n=>match n with|0=>Ab 1 67 AG0 AGz AGy|_=>fun _ _ _=>none,fp:=fun n=>match n with|10=>[[],[],[],[],[],[],[],[],[],[],[0],[0],[],[],[0],[0],[0],[1],[0],[1]]|_=>[] }
theorem AK9:∀ v,AGy v=roundOf Tryz.prog Yy ADm 1 1 67 (AB Tryz.f117 0) AG0 AGz v:=by
 rintro⟨a0,a1,a2,a3,a4,a5,⟨⟩⟩
 kernel_rfl
theorem Aa7:AD (AB Tryz.f117 0) 1=[]:=by kernel_rfl
theorem Aa8:Aa Tryz.prog 1 (.loop (AB Tryz.f117 0)) (ADm.loop 0):=AT QU (AK9) (AA Aa7 trivial)
theorem AVY:∀ v,AQT v=AQ 1 Tryz.prog Yy ADm Tryz.f117 ADl ADk ADj v:=by
 rintro⟨a0,a1,a2,⟨⟩⟩
 kernel_rfl
theorem Ae7:AD (AS Tryz.f117) 0=[(0,AB Tryz.f117 0)]:=by kernel_rfl
theorem AQS:AR Tryz.prog 117 (AF 1 4 ADl ADk ADj AVZ):=AH QU Tryz.func117 (by kernel_rfl) (by kernel_rfl) rfl (fun v=>(Aa9 v).trans (AVY v)) (AA Ae7 ⟨Aa8,trivial⟩)
def AEP:Env:=Yy.CJ 117 3 60 (AF 1 4 ADl ADk ADj AVZ)
theorem Xs:AZ Tryz.prog AEP:=Env.A0 QU AQS (AJ rfl rfl)
abbrev AZK:Hints:={ fp:=fun n=>match n with|1=>[[],[],[],[0],[0],[],[],[0],[0],[],[]]|_=>[] }
theorem AOS:∀ v,AGM v=AQ 2 Tryz.prog AEP AZK Tryz.f155 Tj Ti Th v:=by
 rintro⟨a0,a1,a2,a3,⟨⟩⟩
 kernel_rfl
theorem AZJ:AD (AS Tryz.f155) 0=[]:=by kernel_rfl
theorem AJR:AR Tryz.prog 155 (AF 2 5 Tj Ti Th AJS):=AH Xs Tryz.func155 (by kernel_rfl) (by kernel_rfl) rfl (fun v=>(ATT v).trans (AOS v)) (AA AZJ trivial)
def WK:Env:=AEP.CJ 155 4 60 (AF 2 5 Tj Ti Th AJS)
theorem SR:AZ Tryz.prog WK:=Env.A0 Xs AJR (AJ rfl rfl)
abbrev AZd:Hints:={  }
theorem AOo:∀ v,AGQ v=AQ 2 Tryz.prog WK AZd Tryz.f139 Tu Tt Ts v:=by
 rintro⟨a0,a1,a2,a3,a4,⟨⟩⟩
 kernel_rfl
theorem AZc:AD (AS Tryz.f139) 0=[]:=by kernel_rfl
theorem AJk:AR Tryz.prog 139 (AF 2 6 Tu Tt Ts AJl):=AH SR Tryz.func139 (by kernel_rfl) (by kernel_rfl) rfl (fun v=>(ATt v).trans (AOo v)) (AA AZc trivial)
def WM:Env:=WK.CJ 139 5 60 (AF 2 6 Tu Tt Ts AJl)
theorem SU:AZ Tryz.prog WM:=Env.A0 SR AJk (AJ rfl rfl)
abbrev AZh:Hints:={  }
theorem AOq:∀ v,AGS v=AQ 2 Tryz.prog WM AZh Tryz.f138 T3 T2 Tz v:=by
 rintro⟨a0,a1,a2,⟨⟩⟩
 kernel_rfl
theorem AZg:AD (AS Tryz.f138) 0=[]:=by kernel_rfl
theorem AJo:AR Tryz.prog 138 (AF 2 4 T3 T2 Tz AJp):=AH SU Tryz.func138 (by kernel_rfl) (by kernel_rfl) rfl (fun v=>(ATw v).trans (AOq v)) (AA AZg trivial)
def WO:Env:=WM.CJ 138 3 60 (AF 2 4 T3 T2 Tz AJp)
theorem SW:AZ Tryz.prog WO:=Env.A0 SU AJo (AJ rfl rfl)
abbrev Acq:Hints:={  }
theorem ASu:∀ v,ANG v=AQ 1 Tryz.prog WO Acq Tryz.f118 AAz AAy AAx v:=by
 rintro⟨a0,a1,a2,⟨⟩⟩
 kernel_rfl
theorem Acp:AD (AS Tryz.f118) 0=[]:=by kernel_rfl
theorem ANF:AR Tryz.prog 118 (AF 1 4 AAz AAy AAx ASv):=AH SW Tryz.func118 (by kernel_rfl) (by kernel_rfl) rfl (fun v=>(AYz v).trans (ASu v)) (AA Acp trivial)
def SO:Env:=WO.CJ 118 3 60 (AF 1 4 AAz AAy AAx ASv)
theorem Nr:AZ Tryz.prog SO:=Env.A0 SW ANF (AJ rfl rfl)
abbrev ASZ:Hints:={ loop:=fun n=>match n with|0=>Ab 1 34 AWS AWR AWQ|_=>fun _ _ _=>none,fp:=fun n=>match n with|3=>[[],[],[],[],[],[],[0],[0],[],[],[0],[0],[0],[1],[0],[1]]|_=>[] }
theorem ASV:∀ v,AWQ v=roundOf Tryz.prog SO ASZ 1 1 34 (AB Tryz.f119 0) AWS AWR v:=by
 rintro⟨a0,a1,a2,⟨⟩⟩
 kernel_rfl
theorem AgG:AD (AB Tryz.f119 0) 1=[]:=by kernel_rfl
theorem AgH:Aa Tryz.prog 1 (.loop (AB Tryz.f119 0)) (ASZ.loop 0):=AT Nr (ASV) (AA AgG trivial)
theorem Acf:∀ v,Acg v=AQ 1 Tryz.prog SO ASZ Tryz.f119 ASY ASX ASW v:=by
 rintro⟨a0,a1,a2,⟨⟩⟩
 kernel_rfl
theorem Ah8:AD (AS Tryz.f119) 0=[(0,AB Tryz.f119 0)]:=by kernel_rfl
theorem AYp:AR Tryz.prog 119 (AF 1 4 ASY ASX ASW Ah9):=AH Nr Tryz.func119 (by kernel_rfl) (by kernel_rfl) rfl (fun v=>(AgI v).trans (Acf v)) (AA Ah8 ⟨AgH,trivial⟩)
def QS:Env:=SO.CJ 119 3 60 (AF 1 4 ASY ASX ASW Ah9)
theorem Hj:AZ Tryz.prog QS:=Env.A0 Nr AYp (AJ rfl rfl)
abbrev C5:Hints:={ loop:=fun n=>match n with|0=>Ab 1 141 XG XC W8|1=>Ab 1 141 XF XB W7|2=>Ab 1 141 XE XA W6|3=>Ab 1 141 XD W9 W5|_=>fun _ _ _=>none,fp:=fun n=>match n with|11=>[[],[],[],[],[],[],[],[],[0],[0],[],[],[0],[0],[0],[1],[0],[1]]|5=>[[],[],[],[],[],[],[],[0],[0],[],[],[],[0],[0],[],[],[],[]]|17=>[[],[],[],[],[],[],[],[],[0],[0],[],[],[0],[0],[0],[1],[0],[1]]|16=>[[],[],[],[0],[0],[],[],[],[0],[0],[],[],[]]|23=>[[],[],[],[],[],[],[],[],[0],[0],[],[],[0],[0],[0],[1],[0],[1]]|22=>[[],[],[],[0],[0],[],[],[],[0],[0],[],[],[]]|_=>[] }
theorem ABK:∀ v,W5 v=roundOf Tryz.prog QS C5 4 1 141 (AB Tryz.f120 3) XD W9 v:=by
 rintro⟨a0,a1,a2,a3,a4,a5,⟨⟩⟩
 kernel_rfl
theorem ANq:AD (AB Tryz.f120 3) 4=[]:=by kernel_rfl
theorem ANu:Aa Tryz.prog 1 (.loop (AB Tryz.f120 3)) (C5.loop 3):=AT Hj (ABK) (AA ANq trivial)
theorem ABL:∀ v,W6 v=roundOf Tryz.prog QS C5 3 1 141 (AB Tryz.f120 2) XE XA v:=by
 rintro⟨a0,a1,a2,a3,a4,a5,⟨⟩⟩
 kernel_rfl
theorem ANr:AD (AB Tryz.f120 2) 3=[]:=by kernel_rfl
theorem ANv:Aa Tryz.prog 1 (.loop (AB Tryz.f120 2)) (C5.loop 2):=AT Hj (ABL) (AA ANr trivial)
theorem ABM:∀ v,W7 v=roundOf Tryz.prog QS C5 2 1 141 (AB Tryz.f120 1) XF XB v:=by
 rintro⟨a0,a1,a2,a3,a4,⟨⟩⟩
 kernel_rfl
theorem ANs:AD (AB Tryz.f120 1) 2=[]:=by kernel_rfl
theorem ANw:Aa Tryz.prog 1 (.loop (AB Tryz.f120 1)) (C5.loop 1):=AT Hj (ABM) (AA ANs trivial)
theorem ABN:∀ v,W8 v=roundOf Tryz.prog QS C5 1 1 141 (AB Tryz.f120 0) XG XC v:=by
 rintro⟨a0,a1,a2,a3,a4,⟨⟩⟩
 kernel_rfl
theorem ANt:AD (AB Tryz.f120 0) 1=[(1,AB Tryz.f120 1),(2,AB Tryz.f120 2),(3,AB Tryz.f120 3)]:=by kernel_rfl
theorem ANx:Aa Tryz.prog 1 (.loop (AB Tryz.f120 0)) (C5.loop 0):=AT Hj (ABN) (AA ANt ⟨ANw,ANv,ANu,trivial⟩)
theorem AJG:∀ v,ABO v=AQ 1 Tryz.prog QS C5 Tryz.f120 Pf Pe Pd v:=by
 rintro⟨a0,a1,a2,⟨⟩⟩
 kernel_rfl
theorem AS9:AD (AS Tryz.f120) 0=[(0,AB Tryz.f120 0)]:=by kernel_rfl
theorem AEt:AR Tryz.prog 120 (AF 1 4 Pf Pe Pd ABP):=AH Hj Tryz.func120 (by kernel_rfl) (by kernel_rfl) rfl (fun v=>(ANy v).trans (AJG v)) (AA AS9 ⟨ANx,trivial⟩)
def GK:Env:=QS.CJ 120 3 60 (AF 1 4 Pf Pe Pd ABP)
theorem ES:AZ Tryz.prog GK:=Env.A0 Hj AEt (AJ rfl rfl)
abbrev Fm:Hints:={ loop:=fun n=>match n with|0=>Ab 1 90 ABi ABf ABc|1=>Ab 1 90 ABh ABe ABb|2=>Ab 1 90 ABg ABd ABa|_=>fun _ _ _=>none,fp:=fun n=>match n with|8=>[[],[],[],[],[],[],[0],[0],[],[],[0],[0],[0],[1],[0],[1]]|3=>[[],[],[],[],[],[],[],[0],[0],[],[],[0],[0],[],[],[],[]]|5=>[[],[],[],[],[],[],[],[0],[0],[],[],[0],[0],[],[],[]]|1=>[[],[],[],[],[],[],[0],[0],[],[],[0],[0],[0],[1],[0],[1]]|_=>[] }
theorem AEz:∀ v,ABa v=roundOf Tryz.prog GK Fm 3 1 90 (AB Tryz.f121 2) ABg ABd v:=by
 rintro⟨a0,a1,a2,a3,⟨⟩⟩
 kernel_rfl
theorem ATJ:AD (AB Tryz.f121 2) 3=[]:=by kernel_rfl
theorem ATM:Aa Tryz.prog 1 (.loop (AB Tryz.f121 2)) (Fm.loop 2):=AT ES (AEz) (AA ATJ trivial)
theorem AE0:∀ v,ABb v=roundOf Tryz.prog GK Fm 2 1 90 (AB Tryz.f121 1) ABh ABe v:=by
 rintro⟨a0,a1,a2,a3,⟨⟩⟩
 kernel_rfl
theorem ATK:AD (AB Tryz.f121 1) 2=[]:=by kernel_rfl
theorem ATN:Aa Tryz.prog 1 (.loop (AB Tryz.f121 1)) (Fm.loop 1):=AT ES (AE0) (AA ATK trivial)
theorem AE1:∀ v,ABc v=roundOf Tryz.prog GK Fm 1 1 90 (AB Tryz.f121 0) ABi ABf v:=by
 rintro⟨a0,a1,a2,a3,⟨⟩⟩
 kernel_rfl
theorem ATL:AD (AB Tryz.f121 0) 1=[(1,AB Tryz.f121 1),(2,AB Tryz.f121 2)]:=by kernel_rfl
theorem ATO:Aa Tryz.prog 1 (.loop (AB Tryz.f121 0)) (Fm.loop 0):=AT ES (AE1) (AA ATL ⟨ATN,ATM,trivial⟩)
theorem AN5:∀ v,AGH v=AQ 1 Tryz.prog GK Fm Tryz.f121 Td Tc Tb v:=by
 rintro⟨a0,a1,a2,a3,⟨⟩⟩
 kernel_rfl
theorem AZD:AD (AS Tryz.f121) 0=[(0,AB Tryz.f121 0)]:=by kernel_rfl
theorem AJK:AR Tryz.prog 121 (AF 1 5 Td Tc Tb AJL):=AH ES Tryz.func121 (by kernel_rfl) (by kernel_rfl) rfl (fun v=>(ATP v).trans (AN5 v)) (AA AZD ⟨ATO,trivial⟩)
def E4:Env:=GK.CJ 121 4 60 (AF 1 5 Td Tc Tb AJL)
theorem DJ:AZ Tryz.prog E4:=Env.A0 ES AJK (AJ rfl rfl)
abbrev E9:Hints:={ loop:=fun n=>match n with|0=>Ab 1 178 AOP AOK AOF|1=>Ab 1 178 AOO AOJ AOD|2=>Ab 1 178 AON AOI AOB|3=>Ab 1 178 AOM AOH AN9|4=>Ab 1 178 AOL AOG AN7|_=>fun _ _ _=>none,fp:=fun n=>match n with|3=>[[],[],[],[],[],[],[],[0],[0],[],[],[0],[0],[],[],[]]|5=>[[],[],[],[],[],[],[],[0],[0],[],[],[0],[0],[],[],[],[]]|18=>[[],[],[],[],[],[],[0],[0],[],[],[0],[0],[0],[1],[0],[1]]|13=>[[],[],[],[],[],[],[],[0],[0],[],[],[0],[0],[],[],[]]|15=>[[],[],[],[],[],[],[],[0],[0],[],[],[0],[0],[],[],[],[]]|21=>[[],[],[],[],[],[],[0],[0],[],[],[0],[0],[0],[1],[0],[1]]|10=>[[],[],[],[],[],[],[0],[0],[],[],[0],[0],[0],[1],[0],[1]]|8=>[[],[],[],[],[],[],[0],[0],[],[],[0],[0],[0],[1],[0],[1]]|1=>[[],[],[],[],[],[],[0],[0],[],[],[0],[0],[0],[1],[0],[1]]|_=>[] }
theorem AN6:∀ v,AN7 v=roundOf Tryz.prog E4 E9 5 1 178 (AB Tryz.f122 4) AOL AOG v:=by
 rintro⟨a0,a1,a2,a3,⟨⟩⟩
 kernel_rfl
theorem AdA:AD (AB Tryz.f122 4) 5=[]:=by kernel_rfl
theorem AdF:Aa Tryz.prog 1 (.loop (AB Tryz.f122 4)) (E9.loop 4):=AT DJ (AN6) (AA AdA trivial)
theorem AN8:∀ v,AN9 v=roundOf Tryz.prog E4 E9 4 1 178 (AB Tryz.f122 3) AOM AOH v:=by
 rintro⟨a0,a1,a2,a3,⟨⟩⟩
 kernel_rfl
theorem AdB:AD (AB Tryz.f122 3) 4=[]:=by kernel_rfl
theorem AdG:Aa Tryz.prog 1 (.loop (AB Tryz.f122 3)) (E9.loop 3):=AT DJ (AN8) (AA AdB trivial)
theorem AOA:∀ v,AOB v=roundOf Tryz.prog E4 E9 3 1 178 (AB Tryz.f122 2) AON AOI v:=by
 rintro⟨a0,a1,a2,a3,⟨⟩⟩
 kernel_rfl
theorem AdC:AD (AB Tryz.f122 2) 3=[(3,AB Tryz.f122 3),(4,AB Tryz.f122 4)]:=by kernel_rfl
theorem AdH:Aa Tryz.prog 1 (.loop (AB Tryz.f122 2)) (E9.loop 2):=AT DJ (AOA) (AA AdC ⟨AdG,AdF,trivial⟩)
theorem AOC:∀ v,AOD v=roundOf Tryz.prog E4 E9 2 1 178 (AB Tryz.f122 1) AOO AOJ v:=by
 rintro⟨a0,a1,a2,a3,⟨⟩⟩
 kernel_rfl
theorem AdD:AD (AB Tryz.f122 1) 2=[]:=by kernel_rfl
theorem AdI:Aa Tryz.prog 1 (.loop (AB Tryz.f122 1)) (E9.loop 1):=AT DJ (AOC) (AA AdD trivial)
theorem AOE:∀ v,AOF v=roundOf Tryz.prog E4 E9 1 1 178 (AB Tryz.f122 0) AOP AOK v:=by
 rintro⟨a0,a1,a2,a3,⟨⟩⟩
 kernel_rfl
theorem AdE:AD (AB Tryz.f122 0) 1=[]:=by kernel_rfl
theorem AdJ:Aa Tryz.prog 1 (.loop (AB Tryz.f122 0)) (E9.loop 0):=AT DJ (AOE) (AA AdE trivial)
theorem AZE:∀ v,AWg v=AQ 1 Tryz.prog E4 E9 Tryz.f122 AJO AJN AJM v:=by
 rintro⟨a0,a1,a2,a3,⟨⟩⟩
 kernel_rfl
theorem AgU:AD (AS Tryz.f122) 0=[(0,AB Tryz.f122 0),(1,AB Tryz.f122 1),(2,AB Tryz.f122 2)]:=by kernel_rfl
theorem ATQ:AR Tryz.prog 122 (AF 1 5 AJO AJN AJM AdL):=AH DJ Tryz.func122 (by kernel_rfl) (by kernel_rfl) rfl (fun v=>(AdK v).trans (AZE v)) (AA AgU ⟨AdJ,AdI,AdH,trivial⟩)
def ALY:Env:=E4.CJ 122 4 60 (AF 1 5 AJO AJN AJM AdL)
theorem AEE:AZ Tryz.prog ALY:=Env.A0 DJ ATQ (AJ rfl rfl)
abbrev AS3(self:(List (Int×Int×Unit)×Int×Int×Int×Unit)→Option ((List (Int×Int×Unit)×Unit))):Hints:={ loop:=fun n=>match n with|0=>Ab 1 148 AWe AWd (AWc self)|_=>fun _ _ _=>none,fp:=fun n=>match n with|17=>[[],[],[],[],[],[],[],[0],[0],[],[],[0],[0],[],[],[],[]]|_=>[] }
abbrev AJA(self:(List (Int×Int×Unit)×Int×Int×Int×Unit)→Option ((List (Int×Int×Unit)×Unit))):Env:=ALY.ext 88 false true (AF 1 5 ABC ABB ABA self)
theorem AS2(self:(List (Int×Int×Unit)×Int×Int×Int×Unit)→Option ((List (Int×Int×Unit)×Unit))):∀ v,AWc self v=roundOf Tryz.prog (AJA self) (AS3 self) 1 1 148 (AB Tryz.f88 0) AWe AWd v:=by
 rintro⟨a0,a1,a2,a3,a4,a5,⟨⟩⟩
 kernel_rfl
theorem AgP:AD (AB Tryz.f88 0) 1=[]:=by kernel_rfl
theorem AgQ(self:(List (Int×Int×Unit)×Int×Int×Int×Unit)→Option ((List (Int×Int×Unit)×Unit)))(hE:AZ Tryz.prog (AJA self)):Aa Tryz.prog 1 (.loop (AB Tryz.f88 0)) ((AS3 self).loop 0):=AT hE (AS2 self) (AA AgP trivial)
theorem Acw(self:(List (Int×Int×Unit)×Int×Int×Int×Unit)→Option ((List (Int×Int×Unit)×Unit))):∀ v,AiF self v=AQ 1 Tryz.prog (AJA self) (AS3 self) Tryz.f88 ABC ABB ABA v:=by
 rintro⟨a0,a1,a2,a3,⟨⟩⟩
 kernel_rfl
theorem AiE:AD (AS Tryz.f88) 0=[(0,AB Tryz.f88 0)]:=by kernel_rfl
theorem AS4:∀ n,AR Tryz.prog 88 (AF 1 5 ABC ABB ABA (ABD n)):=by
 intro n
 induction n with
 |zero=>exact XI fun _=>rfl
 |succ n ih=>
  have hE:AZ Tryz.prog (AJA (ABD n)):=Env.Af AEE ih ((by simp)) (fun _=>AJ rfl rfl)
  let self:=ABD n
  exact AH hE Tryz.func88 (by kernel_rfl) (by kernel_rfl) rfl (Acw self) (AA AiE ⟨(AgQ self hE),trivial⟩)
theorem AY8:AR Tryz.prog 88 (AF 1 5 ABC ABB ABA AgS):=by
 have e:AgS=ABD 100:=funext AgR
 rw[e]
 exact AS4 _
def AVp:Env:=ALY.CJ 88 4 60 (AF 1 5 ABC ABB ABA AgS)
theorem AHE:AZ Tryz.prog AVp:=Env.A0 AEE AY8 (AJ rfl rfl)
abbrev Afq:Hints:={  }
theorem AYJ:∀ v,AV7 v=AQ 1 Tryz.prog AVp Afq Tryz.f59 AIJ AII AIH v:=by
 rintro⟨a0,⟨⟩⟩
 kernel_rfl
theorem Afp:AD (AS Tryz.f59) 0=[]:=by kernel_rfl
theorem ARl:AR Tryz.prog 59 (AF 1 2 AIJ AII AIH AFo):=AH AHE Tryz.func59 (by kernel_rfl) (by kernel_rfl) rfl (fun v=>(AcB v).trans (AYJ v)) (AA Afp trivial)
def ALV:Env:=AVp.CJ 59 1 60 (AF 1 2 AIJ AII AIH AFo)
theorem AD6:AZ Tryz.prog ALV:=Env.A0 AHE ARl (AJ rfl rfl)
abbrev Ae0:Hints:={  }
theorem AVM:∀ v,ADW v=AQ 0 Tryz.prog ALV Ae0 Tryz.f75 ADV ADU ADT v:=by
 rintro⟨a0,a1,⟨⟩⟩
 kernel_rfl
theorem Aez:AD (AS Tryz.f75) 0=[]:=by kernel_rfl
theorem AQD:AR Tryz.prog 75 (AF 0 2 ADV ADU ADT AKs):=AH AD6 Tryz.func75 (by kernel_rfl) (by kernel_rfl) rfl (fun v=>(Aar v).trans (AVM v)) (AA Aez trivial)
def AEM:Env:=ALV.ext 75 true true (AF 0 2 ADV ADU ADT AKs)
theorem Xp:AZ Tryz.prog AEM:=Env.Af AD6 AQD (fun _=>AM rfl rfl) (fun _=>AJ rfl rfl)
end
end Go.Pev
end
section
namespace Go.Pev
open Go.Proofs
noncomputable section
abbrev Aht:Hints:={  }
theorem AbL:∀ v,AQr v=AQ 0 Tryz.prog AEM Aht Tryz.f98 AQq AQp AQo v:=by
 rintro⟨a0,⟨⟩⟩
 kernel_rfl
theorem Ahs:AD (AS Tryz.f98) 0=[]:=by kernel_rfl
theorem AXj:AR Tryz.prog 98 (AF 0 1 AQq AQp AQo AfT):=AH Xp Tryz.func98 (by kernel_rfl) (by kernel_rfl) rfl (fun v=>(AfS v).trans (AbL v)) (AA Ahs trivial)
def AVj:Env:=AEM.ext 98 true true (AF 0 1 AQq AQp AQo AfT)
theorem AG7:AZ Tryz.prog AVj:=Env.Af Xp AXj (fun _=>AM rfl rfl) (fun _=>AJ rfl rfl)
abbrev Aa0:Hints:={  }
theorem AQM:∀ v,Vu v=AQ 0 Tryz.prog AVj Aa0 Tryz.f74 Vt Vs Vr v:=by
 rintro⟨a0,⟨⟩⟩
 kernel_rfl
theorem Aaz:AD (AS Tryz.f74) 0=[]:=by kernel_rfl
theorem AK4:AR Tryz.prog 74 (AF 0 1 Vt Vs Vr Ys):=AH AG7 Tryz.func74 (by kernel_rfl) (by kernel_rfl) rfl (fun v=>(AVU v).trans (AQM v)) (AA Aaz trivial)
def WZ:Env:=AVj.ext 74 true true (AF 0 1 Vt Vs Vr Ys)
theorem Sg:AZ Tryz.prog WZ:=Env.Af AG7 AK4 (fun _=>AM rfl rfl) (fun _=>AJ rfl rfl)
abbrev AbT:Hints:={  }
theorem AQv:∀ v,ZB v=AQ 0 Tryz.prog WZ AbT Tryz.f71 ZA Y9 Y8 v:=by
 rintro⟨a0,⟨⟩⟩
 kernel_rfl
theorem AbS:AD (AS Tryz.f71) 0=[]:=by kernel_rfl
theorem ALw:AR Tryz.prog 71 (AF 0 1 ZA Y9 Y8 AHZ):=AH Sg Tryz.func71 (by kernel_rfl) (by kernel_rfl) rfl (fun v=>(AXo v).trans (AQv v)) (AA AbS trivial)
def ADz:Env:=WZ.ext 71 true true (AF 0 1 ZA Y9 Y8 AHZ)
theorem Xb:AZ Tryz.prog ADz:=Env.Af Sg ALw (fun _=>AM rfl rfl) (fun _=>AJ rfl rfl)
theorem AQ3:Tryz.f70.body.isSome=true:=by kernel_rfl
theorem AQ2 : (Tryz.f70.name == "runtime.NumGoroutine") = false := by kernel_rfl
theorem AQ1:loops (AS Tryz.f70)=0:=by kernel_rfl
def HT:Env:=ADz.ext 70 false false (DM Tryz.prog ADz {} Tryz.f70)
theorem G8:AZ Tryz.prog HT:=Env.Af Xb (Cx Xb Tryz.func70 AQ3 AQ2 AQ1) (by simp) (by simp)
abbrev Jr:Hints:={ loop:=fun n=>match n with|0=>Ab 0 19 NN NM II|_=>fun _ _ _=>none }
theorem RV:∀ v,II v=roundOf Tryz.prog HT Jr 1 0 19 (AB Tryz.f91 0) NN NM v:=by
 rintro⟨a0,a1,a2,⟨⟩⟩
 kernel_rfl
theorem ACR:AD (AB Tryz.f91 0) 1=[]:=by kernel_rfl
theorem ACS:Aa Tryz.prog 0 (.loop (AB Tryz.f91 0)) (Jr.loop 0):=AT G8 (RV) (AA ACR trivial)
theorem X4:∀ v,Js v=AQ 0 Tryz.prog HT Jr Tryz.f91 Jq Jp Jo v:=by
 rintro⟨a0,⟨⟩⟩
 kernel_rfl
theorem AE8:AD (AS Tryz.f91) 0=[(0,AB Tryz.f91 0)]:=by kernel_rfl
theorem UL:AR Tryz.prog 91 (AF 0 2 Jq Jp Jo JF):=AH G8 Tryz.func91 (by kernel_rfl) (by kernel_rfl) rfl (fun v=>(ACT v).trans (X4 v)) (AA AE8 ⟨ACS,trivial⟩)
def J9:Env:=HT.CJ 91 1 70 (AF 0 2 Jq Jp Jo JF)
theorem Kp:AZ Tryz.prog J9:=Env.A0 G8 UL (AJ rfl rfl)
abbrev ADJ:Hints:={  }
theorem VT:∀ v,Ia v=AQ 0 Tryz.prog J9 ADJ Tryz.f73 IZ IY IX v:=by
 rintro⟨a0,⟨⟩⟩
 kernel_rfl
theorem ADI:AD (AS Tryz.f73) 0=[]:=by kernel_rfl
theorem Rq:AR Tryz.prog 73 (AF 0 2 IZ IY IX HR):=AH Kp Tryz.func73 (by kernel_rfl) (by kernel_rfl) rfl (fun v=>(YD v).trans (VT v)) (AA ADI trivial)
def Iq:Env:=J9.CJ 73 1 70 (AF 0 2 IZ IY IX HR)
theorem Jb:AZ Tryz.prog Iq:=Env.A0 Kp Rq (AJ rfl rfl)
abbrev KC:Hints:={ loop:=fun n=>match n with|0=>Ab 0 78 ZG ZE PC|1=>Ab 0 78 ZF ZD Kw|_=>fun _ _ _=>none,fp:=fun n=>match n with|12=>[[2],[2],[],[],[],[],[],[10],[10],[8],[9,12]]|5=>[[],[],[],[],[],[],[],[],[37]]|_=>[] }
def N0:Env:={ Iq with keep:=false,rows:=false,arrs:=true }
theorem Kx:AZ Tryz.prog N0:=Jb
theorem AET:∀ v,Kw v=roundOf Tryz.prog N0 KC 2 0 78 (AB Tryz.f39 1) ZF ZD v:=by
 rintro⟨a0,a1,a2,a3,a4,a5,a6,a7,a8,a9,a10,⟨⟩⟩
 kernel_rfl
theorem AQw:AD (AB Tryz.f39 1) 2=[]:=by kernel_rfl
theorem AQy:Aa Tryz.prog 0 (.loop (AB Tryz.f39 1)) (KC.loop 1):=AT Kx (AET) (AA AQw trivial)
theorem AEU:∀ v,PC v=roundOf Tryz.prog N0 KC 1 0 78 (AB Tryz.f39 0) ZG ZE v:=by
 rintro⟨a0,a1,a2,a3,a4,a5,a6,a7,⟨⟩⟩
 kernel_rfl
theorem AQx:AD (AB Tryz.f39 0) 1=[(1,AB Tryz.f39 1)]:=by kernel_rfl
theorem AQz:Aa Tryz.prog 0 (.loop (AB Tryz.f39 0)) (KC.loop 0):=AT Kx (AEU) (AA AQx ⟨AQy,trivial⟩)
theorem ALy:∀ v,Sw v=AQ 0 Tryz.prog N0 KC Tryz.f39 Sv Su Ss v:=by
 rintro⟨a0,a1,⟨⟩⟩
 kernel_rfl
theorem AXp:AD (AS Tryz.f39) 0=[(0,AB Tryz.f39 0)]:=by kernel_rfl
theorem AHd:AR Tryz.prog 39 (AF 0 2 Sv Su Ss Qd):=AH Kx Tryz.func39 (by kernel_rfl) (by kernel_rfl) rfl (fun v=>(AQ0 v).trans (ALy v)) (AA AXp ⟨AQz,trivial⟩)
def OW:Env:=Iq.ext 39 true true (AF 0 2 Sv Su Ss Qd)
theorem L4:AZ Tryz.prog OW:=Env.Af Jb AHd (fun _=>AM rfl rfl) (fun _=>AJ rfl rfl)
abbrev Mf:Hints:={ loop:=fun n=>match n with|0=>Ab 0 28 Qc Qb Kv|_=>fun _ _ _=>none }
theorem Xx:∀ v,Kv v=roundOf Tryz.prog OW Mf 1 0 28 (AB Tryz.f40 0) Qc Qb v:=by
 rintro⟨a0,a1,a2,a3,a4,⟨⟩⟩
 kernel_rfl
theorem AHa:AD (AB Tryz.f40 0) 1=[]:=by kernel_rfl
theorem AHb:Aa Tryz.prog 0 (.loop (AB Tryz.f40 0)) (Mf.loop 0):=AT L4 (Xx) (AA AHa trivial)
theorem AES:∀ v,Mg v=AQ 0 Tryz.prog OW Mf Tryz.f40 Me Md Mc v:=by
 rintro⟨a0,a1,⟨⟩⟩
 kernel_rfl
theorem ALx:AD (AS Tryz.f40) 0=[(0,AB Tryz.f40 0)]:=by kernel_rfl
theorem ZC:AR Tryz.prog 40 (AF 0 2 Me Md Mc Nz):=AH L4 Tryz.func40 (by kernel_rfl) (by kernel_rfl) rfl (fun v=>(AHc v).trans (AES v)) (AA ALx ⟨AHb,trivial⟩)
def JV:Env:=OW.ext 40 true true (AF 0 2 Me Md Mc Nz)
theorem Ii:AZ Tryz.prog JV:=Env.Af L4 ZC (fun _=>AM rfl rfl) (fun _=>AJ rfl rfl)
abbrev ACy:Hints:={ loop:=fun n=>match n with|0=>Ab 0 26 AGq AGp VA|_=>fun _ _ _=>none,fp:=fun n=>match n with|6=>[[],[],[],[],[],[],[],[],[]]|_=>[] }
theorem AKf:∀ v,VA v=roundOf Tryz.prog JV ACy 1 0 26 (AB Tryz.f146 0) AGq AGp v:=by
 rintro⟨a0,a1,a2,a3,⟨⟩⟩
 kernel_rfl
theorem Aaf:AD (AB Tryz.f146 0) 1=[]:=by kernel_rfl
theorem Aag:Aa Tryz.prog 0 (.loop (AB Tryz.f146 0)) (ACy.loop 0):=AT Ii (AKf) (AA Aaf trivial)
theorem AUs:∀ v,ACz v=AQ 0 Tryz.prog JV ACy Tryz.f146 ACx ACw ACv v:=by
 rintro⟨a0,a1,⟨⟩⟩
 kernel_rfl
theorem Aej:AD (AS Tryz.f146) 0=[(0,AB Tryz.f146 0)]:=by kernel_rfl
theorem APt:AR Tryz.prog 146 (AF 0 2 ACx ACw ACv VB):=AH Ii Tryz.func146 (by kernel_rfl) (by kernel_rfl) rfl (fun v=>(Aah v).trans (AUs v)) (AA Aej ⟨Aag,trivial⟩)
def Sd:Env:=JV.ext 146 true true (AF 0 2 ACx ACw ACv VB)
theorem Nv:AZ Tryz.prog Sd:=Env.Af Ii APt (fun _=>AM rfl rfl) (fun _=>AJ rfl rfl)
abbrev VF:Hints:={ loop:=fun n=>match n with|0=>Ab 0 32 AC1 AC0 QA|_=>fun _ _ _=>none }
theorem AFF:∀ v,QA v=roundOf Tryz.prog Sd VF 1 0 32 (AB Tryz.f147 0) AC1 AC0 v:=by
 rintro⟨a0,a1,a2,a3,⟨⟩⟩
 kernel_rfl
theorem AUu:AD (AB Tryz.f147 0) 1=[]:=by kernel_rfl
theorem AUv:Aa Tryz.prog 0 (.loop (AB Tryz.f147 0)) (VF.loop 0):=AT Nv (AFF) (AA AUu trivial)
theorem APu:∀ v,VG v=AQ 0 Tryz.prog Sd VF Tryz.f147 VE VD VC v:=by
 rintro⟨a0,a1,⟨⟩⟩
 kernel_rfl
theorem Aai:AD (AS Tryz.f147) 0=[(0,AB Tryz.f147 0)]:=by kernel_rfl
theorem AKg:AR Tryz.prog 147 (AF 0 3 VE VD VC Yp):=AH Nv Tryz.func147 (by kernel_rfl) (by kernel_rfl) rfl (fun v=>(AUw v).trans (APu v)) (AA Aai ⟨AUv,trivial⟩)
def WW:Env:=Sd.CJ 147 2 146 (AF 0 3 VE VD VC Yp)
theorem Se:AZ Tryz.prog WW:=Env.A0 Nv AKg (AJ rfl rfl)
abbrev AbN:Hints:={  }
theorem AQs:∀ v,Y7 v=AQ 0 Tryz.prog WW AbN Tryz.f129 Y6 Y5 Y4 v:=by
 rintro⟨a0,a1,⟨⟩⟩
 kernel_rfl
theorem AbM:AD (AS Tryz.f129) 0=[]:=by kernel_rfl
theorem ALm:AR Tryz.prog 129 (AF 0 2 Y6 Y5 Y4 AHU):=AH Se Tryz.func129 (by kernel_rfl) (by kernel_rfl) rfl (fun v=>(AXk v).trans (AQs v)) (AA AbM trivial)
def ADx:Env:=WW.ext 129 true true (AF 0 2 Y6 Y5 Y4 AHU)
theorem Xa:AZ Tryz.prog ADx:=Env.Af Se ALm (fun _=>AM rfl rfl) (fun _=>AJ rfl rfl)
abbrev AXm:Hints:={  }
theorem ALn:∀ v,Sr v=AQ 0 Tryz.prog ADx AXm Tryz.f99 Sq Sp So v:=by
 rintro⟨a0,⟨⟩⟩
 kernel_rfl
theorem AXl:AD (AS Tryz.f99) 0=[]:=by kernel_rfl
theorem AHV:AR Tryz.prog 99 (AF 0 1 Sq Sp So YU):=AH Xa Tryz.func99 (by kernel_rfl) (by kernel_rfl) rfl (fun v=>(AQt v).trans (ALn v)) (AA AXl trivial)
def WG:Env:=ADx.ext 99 true true (AF 0 1 Sq Sp So YU)
theorem R6:AZ Tryz.prog WG:=Env.Af Xa AHV (fun _=>AM rfl rfl) (fun _=>AJ rfl rfl)
end
end Go.Pev
end
section
namespace Go.Pev
open Go.Proofs
noncomputable section
theorem Ah2:Tryz.f100.body.isSome=true:=by kernel_rfl
theorem Ah1 : (Tryz.f100.name == "runtime.NumGoroutine") = false := by kernel_rfl
theorem Ah0:loops (AS Tryz.f100)=0:=by kernel_rfl
def SD:Env:=WG.ext 100 false false (DM Tryz.prog WG {} Tryz.f100)
theorem No:AZ Tryz.prog SD:=Env.Af R6 (Cx R6 Tryz.func100 Ah2 Ah1 Ah0) (by simp) (by simp)
abbrev Jw:Hints:={ loop:=fun n=>match n with|0=>Ab 0 19 NP NO IJ|_=>fun _ _ _=>none }
theorem RW:∀ v,IJ v=roundOf Tryz.prog SD Jw 1 0 19 (AB Tryz.f91 0) NP NO v:=by
 rintro⟨a0,a1,a2,⟨⟩⟩
 kernel_rfl
theorem ACU:AD (AB Tryz.f91 0) 1=[]:=by kernel_rfl
theorem ACV:Aa Tryz.prog 0 (.loop (AB Tryz.f91 0)) (Jw.loop 0):=AT No (RW) (AA ACU trivial)
theorem X5:∀ v,Jx v=AQ 0 Tryz.prog SD Jw Tryz.f91 Jv Ju Jt v:=by
 rintro⟨a0,⟨⟩⟩
 kernel_rfl
theorem AE9:AD (AS Tryz.f91) 0=[(0,AB Tryz.f91 0)]:=by kernel_rfl
theorem UM:AR Tryz.prog 91 (AF 0 2 Jv Ju Jt JG):=AH No Tryz.func91 (by kernel_rfl) (by kernel_rfl) rfl (fun v=>(ACW v).trans (X5 v)) (AA AE9 ⟨ACV,trivial⟩)
def KA:Env:=SD.CJ 91 1 100 (AF 0 2 Jv Ju Jt JG)
theorem Kq:AZ Tryz.prog KA:=Env.A0 No UM (AJ rfl rfl)
abbrev ADL:Hints:={  }
theorem VU:∀ v,Ig v=AQ 0 Tryz.prog KA ADL Tryz.f73 Ie Ic Ib v:=by
 rintro⟨a0,⟨⟩⟩
 kernel_rfl
theorem ADK:AD (AS Tryz.f73) 0=[]:=by kernel_rfl
theorem Rr:AR Tryz.prog 73 (AF 0 2 Ie Ic Ib HS):=AH Kq Tryz.func73 (by kernel_rfl) (by kernel_rfl) rfl (fun v=>(YE v).trans (VU v)) (AA ADK trivial)
def Ir:Env:=KA.CJ 73 1 100 (AF 0 2 Ie Ic Ib HS)
theorem Jc:AZ Tryz.prog Ir:=Env.A0 Kq Rr (AJ rfl rfl)
abbrev Hx:Hints:={ loop:=fun n=>match n with|0=>Ab 0 100 AFy AFv TJ|1=>Ab 0 100 AFx AFu TH|2=>Ab 0 100 AFw AFt TG|_=>fun _ _ _=>none,fp:=fun n=>match n with|17=>[[],[],[0],[0],[],[],[0],[0],[],[]]|_=>[] }
def Mn:Env:={ Ir with keep:=false,rows:=true,arrs:=false }
theorem I0:AZ Tryz.prog Mn:=Jc
theorem AIm:∀ v,TG v=roundOf Tryz.prog Mn Hx 3 0 100 (AB Tryz.f76 2) AFw AFt v:=by
 rintro⟨a0,a1,a2,a3,a4,a5,a6,a7,a8,a9,⟨⟩⟩
 kernel_rfl
theorem AYW:AD (AB Tryz.f76 2) 3=[]:=by kernel_rfl
theorem AYZ:Aa Tryz.prog 0 (.loop (AB Tryz.f76 2)) (Hx.loop 2):=AT I0 (AIm) (AA AYW trivial)
theorem AIn:∀ v,TH v=roundOf Tryz.prog Mn Hx 2 0 100 (AB Tryz.f76 1) AFx AFu v:=by
 rintro⟨a0,a1,a2,a3,a4,a5,⟨⟩⟩
 kernel_rfl
theorem AYX:AD (AB Tryz.f76 1) 2=[(2,AB Tryz.f76 2)]:=by kernel_rfl
theorem AYa:Aa Tryz.prog 0 (.loop (AB Tryz.f76 1)) (Hx.loop 1):=AT I0 (AIn) (AA AYX ⟨AYZ,trivial⟩)
theorem AIo:∀ v,TJ v=roundOf Tryz.prog Mn Hx 1 0 100 (AB Tryz.f76 0) AFy AFv v:=by
 rintro⟨a0,a1,a2,a3,a4,a5,a6,a7,⟨⟩⟩
 kernel_rfl
theorem AYY:AD (AB Tryz.f76 0) 1=[]:=by kernel_rfl
theorem AYb:Aa Tryz.prog 0 (.loop (AB Tryz.f76 0)) (Hx.loop 0):=AT I0 (AIo) (AA AYY trivial)
theorem ASB:∀ v,AAG v=AQ 0 Tryz.prog Mn Hx Tryz.f76 AAF AAE AAD v:=by
 rintro⟨a0,a1,⟨⟩⟩
 kernel_rfl
theorem AcR:AD (AS Tryz.f76) 0=[(0,AB Tryz.f76 0),(1,AB Tryz.f76 1)]:=by kernel_rfl
theorem AMt:AR Tryz.prog 76 (AF 0 2 AAF AAE AAD AIp):=AH I0 Tryz.func76 (by kernel_rfl) (by kernel_rfl) rfl (fun v=>(AYc v).trans (ASB v)) (AA AcR ⟨AYb,AYa,trivial⟩)
def SM:Env:=Ir.ext 76 true true (AF 0 2 AAF AAE AAD AIp)
theorem Np:AZ Tryz.prog SM:=Env.Af Jc AMt (fun _=>AM rfl rfl) (fun _=>AJ rfl rfl)
abbrev AA3:Hints:={ loop:=fun n=>match n with|0=>Ab 0 29 AGF AGE TW|_=>fun _ _ _=>none }
theorem AI4:∀ v,TW v=roundOf Tryz.prog SM AA3 1 0 29 (AB Tryz.f42 0) AGF AGE v:=by
 rintro⟨a0,a1,a2,a3,a4,a5,a6,⟨⟩⟩
 kernel_rfl
theorem AY1:AD (AB Tryz.f42 0) 1=[]:=by kernel_rfl
theorem AY2:Aa Tryz.prog 0 (.loop (AB Tryz.f42 0)) (AA3.loop 0):=AT Np (AI4) (AA AY1 trivial)
theorem ASw:∀ v,AA4 v=AQ 0 Tryz.prog SM AA3 Tryz.f42 AA2 AA1 AA0 v:=by
 rintro⟨a0,a1,⟨⟩⟩
 kernel_rfl
theorem Acr:AD (AS Tryz.f42) 0=[(0,AB Tryz.f42 0)]:=by kernel_rfl
theorem ANI:AR Tryz.prog 42 (AF 0 2 AA2 AA1 AA0 AI5):=AH Np Tryz.func42 (by kernel_rfl) (by kernel_rfl) rfl (fun v=>(AY3 v).trans (ASw v)) (AA Acr ⟨AY2,trivial⟩)
def AEC:Env:=SM.ext 42 true true (AF 0 2 AA2 AA1 AA0 AI5)
theorem Xk:AZ Tryz.prog AEC:=Env.Af Np ANI (fun _=>AM rfl rfl) (fun _=>AJ rfl rfl)
abbrev PT:Hints:={ loop:=fun n=>match n with|0=>Ab 0 108 AWK AWH Iz|1=>Ab 0 108 AWJ AWG Iy|2=>Ab 0 108 AWI AWF GR|_=>fun _ _ _=>none,fp:=fun n=>match n with|19=>[[],[0],[0],[0],[],[],[0],[0],[0],[],[4],[6],[6],[6],[6],[],[],[5,8],[5]]|6=>[[0],[0],[10],[10],[10],[],[],[],[],[],[],[],[20,22],[]]|_=>[] }
def AAB:Env:={ AEC with keep:=false,rows:=true,arrs:=true }
theorem N7:AZ Tryz.prog AAB:=Xk
theorem AR4:∀ v,GR v=roundOf Tryz.prog AAB PT 3 0 108 (AB Tryz.f27 2) AWI AWF v:=by
 rintro⟨a0,a1,a2,a3,a4,a5,a6,a7,a8,a9,a10,a11,a12,a13,a14,a15,a16,⟨⟩⟩
 kernel_rfl
theorem Af3:AD (AB Tryz.f27 2) 3=[]:=by kernel_rfl
theorem Af6:Aa Tryz.prog 0 (.loop (AB Tryz.f27 2)) (PT.loop 2):=AT N7 (AR4) (AA Af3 trivial)
theorem AR5:∀ v,Iy v=roundOf Tryz.prog AAB PT 2 0 108 (AB Tryz.f27 1) AWJ AWG v:=by
 rintro⟨a0,a1,a2,a3,a4,a5,a6,a7,⟨⟩⟩
 kernel_rfl
theorem Af4:AD (AB Tryz.f27 1) 2=[(2,AB Tryz.f27 2)]:=by kernel_rfl
theorem Af7:Aa Tryz.prog 0 (.loop (AB Tryz.f27 1)) (PT.loop 1):=AT N7 (AR5) (AA Af4 ⟨Af6,trivial⟩)
theorem AR6:∀ v,Iz v=roundOf Tryz.prog AAB PT 1 0 108 (AB Tryz.f27 0) AWK AWH v:=by
 rintro⟨a0,a1,a2,a3,a4,a5,a6,a7,a8,a9,⟨⟩⟩
 kernel_rfl
theorem Af5:AD (AB Tryz.f27 0) 1=[]:=by kernel_rfl
theorem Af8:Aa Tryz.prog 0 (.loop (AB Tryz.f27 0)) (PT.loop 0):=AT N7 (AR6) (AA Af5 trivial)
theorem AcQ:∀ v,AId v=ASy 0 Tryz.prog AAB PT Tryz.f27 AR9 AR8 AR7 v:=by
 rintro⟨a0,a1,a2,⟨⟩⟩
 kernel_rfl
theorem Ah4:AD (AS Tryz.f27) 0=[(0,AB Tryz.f27 0),(1,AB Tryz.f27 1)]:=by kernel_rfl
theorem AYU:AR Tryz.prog 27 (AOk 0 3 AR9 AR8 AR7 seen):=AfE N7 Tryz.func27 (by kernel_rfl) (by kernel_rfl) rfl (fun v=>(AWL v).trans (AcQ v)) (AA Ah4 ⟨Af8,Af7,trivial⟩)
def AVn:Env:=AEC.ext 27 false false (AOk 0 3 AR9 AR8 AR7 seen)
theorem AHC:AZ Tryz.prog AVn:=Env.Af Xk AYU ((by simp)) (by simp)
abbrev AYM:Hints:={ fp:=fun n=>match n with|1=>[[],[0],[0],[0],[4],[4],[2],[],[0],[0],[0],[4],[4],[2],[],[],[]]|_=>[] }
theorem AMa:∀ v,N6 v=AQ 2 Tryz.prog AVn AYM Tryz.f32 TE TD TC v:=by
 rintro⟨a0,a1,a2,a3,a4,⟨⟩⟩
 kernel_rfl
theorem AYL:AD (AS Tryz.f32) 0=[]:=by kernel_rfl
theorem AIM:AR Tryz.prog 32 (AF 2 2 TE TD TC K8):=AH AHC Tryz.func32 (by kernel_rfl) (by kernel_rfl) rfl (fun v=>(Z3 v).trans (AMa v)) (AA AYL trivial)
def WI:Env:=AVn.ext 32 false true (AF 2 2 TE TD TC K8)
theorem SF:AZ Tryz.prog WI:=Env.Af AHC AIM ((by simp)) (fun _=>AJ rfl rfl)
abbrev ARp:Hints:={  }
theorem AIL:∀ v,K7 v=AQ 2 Tryz.prog WI ARp Tryz.f41 PR PQ PO v:=by
 rintro⟨a0,a1,a2,a3,a4,⟨⟩⟩
 kernel_rfl
theorem ARo:AD (AS Tryz.f41) 0=[]:=by kernel_rfl
theorem AEd:AR Tryz.prog 41 (AF 2 2 PR PQ PO Hw):=AH SF Tryz.func41 (by kernel_rfl) (by kernel_rfl) rfl (fun v=>(Wj v).trans (AIL v)) (AA ARo trivial)
def QQ:Env:=WI.ext 41 false true (AF 2 2 PR PQ PO Hw)
theorem O6:AZ Tryz.prog QQ:=Env.Af SF AEd ((by simp)) (fun _=>AJ rfl rfl)
theorem AMZ:Tryz.f65.body.isSome=true:=by kernel_rfl
theorem AMY : (Tryz.f65.name == "runtime.NumGoroutine") = false := by kernel_rfl
theorem AMX:loops (AS Tryz.f65)=0:=by kernel_rfl
def Gd:Env:=QQ.ext 65 false false (DM Tryz.prog QQ {} Tryz.f65)
theorem GH:AZ Tryz.prog Gd:=Env.Af O6 (Cx O6 Tryz.func65 AMZ AMY AMX) (by simp) (by simp)
abbrev Jn:Hints:={ loop:=fun n=>match n with|0=>Ab 4 19 NJ NI B1|_=>fun _ _ _=>none }
theorem RR:∀ v,B1 v=roundOf Tryz.prog Gd Jn 1 4 19 (AB Tryz.f91 0) NJ NI v:=by
 rintro⟨a0,a1,a2,a3,a4,a5,a6,⟨⟩⟩
 kernel_rfl
theorem ACP:AD (AB Tryz.f91 0) 1=[]:=by kernel_rfl
theorem ACQ:Aa Tryz.prog 4 (.loop (AB Tryz.f91 0)) (Jn.loop 0):=AT GH (RR) (AA ACP trivial)
theorem X3:∀ v,GX v=AQ 4 Tryz.prog Gd Jn Tryz.f91 Jm Jl Jk v:=by
 rintro⟨a0,a1,a2,a3,a4,⟨⟩⟩
 kernel_rfl
theorem AE7:AD (AS Tryz.f91) 0=[(0,AB Tryz.f91 0)]:=by kernel_rfl
theorem UJ:AR Tryz.prog 91 (AF 4 2 Jm Jl Jk JB):=AH GH Tryz.func91 (by kernel_rfl) (by kernel_rfl) rfl (fun v=>(NK v).trans (X3 v)) (AA AE7 ⟨ACQ,trivial⟩)
def Ge:Env:=Gd.CJ 91 1 65 (AF 4 2 Jm Jl Jk JB)
theorem GN:AZ Tryz.prog Ge:=Env.A0 GH UJ (AJ rfl rfl)
abbrev J4:Hints:={ loop:=fun n=>match n with|0=>Ab 4 42 NW NV Cu|_=>fun _ _ _=>none }
theorem Rl:∀ v,Cu v=roundOf Tryz.prog Ge J4 1 4 42 (AB Tryz.f63 0) NW NV v:=by
 rintro⟨a0,a1,a2,a3,a4,a5,a6,⟨⟩⟩
 kernel_rfl
theorem ADB:AD (AB Tryz.f63 0) 1=[]:=by kernel_rfl
theorem ADC:Aa Tryz.prog 4 (.loop (AB Tryz.f63 0)) (J4.loop 0):=AT GN (Rl) (AA ADB trivial)
theorem YB:∀ v,Ga v=AQ 4 Tryz.prog Ge J4 Tryz.f63 J3 J2 J1 v:=by
 rintro⟨a0,a1,a2,a3,a4,⟨⟩⟩
 kernel_rfl
theorem AFI:AD (AS Tryz.f63) 0=[(0,AB Tryz.f63 0)]:=by kernel_rfl
theorem VO:AR Tryz.prog 63 (AF 4 2 J3 J2 J1 JO):=AH GN Tryz.func63 (by kernel_rfl) (by kernel_rfl) rfl (fun v=>(NX v).trans (YB v)) (AA AFI ⟨ADC,trivial⟩)
def KB:Env:=Ge.CJ 63 1 65 (KE (AF 4 2 J3 J2 J1 JO))
theorem Ks:AZ Tryz.prog KB:=Env.A0 GN (We VO) (AV1 rfl rfl)
abbrev ARn:Hints:={  }
theorem AIK:∀ v,K6 v=AQ 2 Tryz.prog KB ARn Tryz.f30 PN PM PL v:=by
 rintro⟨a0,a1,a2,a3,⟨⟩⟩
 kernel_rfl
theorem ARm:AD (AS Tryz.f30) 0=[]:=by kernel_rfl
theorem AEc:AR Tryz.prog 30 (AF 2 1 PN PM PL Hv):=AH Ks Tryz.func30 (by kernel_rfl) (by kernel_rfl) rfl (fun v=>(Wi v).trans (AIK v)) (AA ARm trivial)
def Ik:Env:=KB.ext 30 false true (AF 2 1 PN PM PL Hv)
theorem Gc:AZ Tryz.prog Ik:=Env.Af Ks AEc ((by simp)) (fun _=>AJ rfl rfl)
end
end Go.Pev
end
section
namespace Go.Pev
open Go.Proofs
noncomputable section
abbrev Z4:Hints:={ loop:=fun n=>match n with|0=>Ab 2 48 AWB AV9 K9|1=>Ab 2 48 AWA AV8 Iw|_=>fun _ _ _=>none,fp:=fun n=>match n with|9=>[[],[8],[4],[],[5],[],[5]]|_=>[] }
theorem ARr:∀ v,Iw v=roundOf Tryz.prog Ik Z4 2 2 48 (AB Tryz.f29 1) AWA AV8 v:=by
 rintro⟨a0,a1,a2,a3,a4,a5,a6,a7,a8,a9,a10,a11,⟨⟩⟩
 kernel_rfl
theorem Afu:AD (AB Tryz.f29 1) 2=[]:=by kernel_rfl
theorem Afw:Aa Tryz.prog 2 (.loop (AB Tryz.f29 1)) (Z4.loop 1):=AT Gc (ARr) (AA Afu trivial)
theorem ARs:∀ v,K9 v=roundOf Tryz.prog Ik Z4 1 2 48 (AB Tryz.f29 0) AWB AV9 v:=by
 rintro⟨a0,a1,a2,a3,a4,a5,a6,a7,a8,⟨⟩⟩
 kernel_rfl
theorem Afv:AD (AB Tryz.f29 0) 1=[(1,AB Tryz.f29 1)]:=by kernel_rfl
theorem Afx:Aa Tryz.prog 2 (.loop (AB Tryz.f29 0)) (Z4.loop 0):=AT Gc (ARs) (AA Afv ⟨Afw,trivial⟩)
theorem AcC:∀ v,AIQ v=AQ 2 Tryz.prog Ik Z4 Tryz.f29 ARv ARu ARt v:=by
 rintro⟨a0,a1,a2,a3,a4,⟨⟩⟩
 kernel_rfl
theorem Ah3:AD (AS Tryz.f29) 0=[(0,AB Tryz.f29 0)]:=by kernel_rfl
theorem AYO:AR Tryz.prog 29 (AF 2 2 ARv ARu ARt ARw):=AH Gc Tryz.func29 (by kernel_rfl) (by kernel_rfl) rfl (fun v=>(AWC v).trans (AcC v)) (AA Ah3 ⟨Afx,trivial⟩)
def AVm:Env:=Ik.ext 29 false true (AF 2 2 ARv ARu ARt ARw)
theorem AHB:AZ Tryz.prog AVm:=Env.Af Gc AYO ((by simp)) (fun _=>AJ rfl rfl)
theorem Afm:Tryz.f31.body.isSome=true:=by kernel_rfl
theorem Afl : (Tryz.f31.name == "runtime.NumGoroutine") = false := by kernel_rfl
theorem Afk:loops (AS Tryz.f31)=0:=by kernel_rfl
def OX:Env:=AVm.ext 31 false false (DM Tryz.prog AVm {} Tryz.f31)
theorem L7:AZ Tryz.prog OX:=Env.Af AHB (Cx AHB Tryz.func31 Afm Afl Afk) (by simp) (by simp)
abbrev Lf:Hints:={ loop:=fun n=>match n with|0=>Ab 4 19 Ov Ou CG|_=>fun _ _ _=>none }
theorem UO:∀ v,CG v=roundOf Tryz.prog OX Lf 1 4 19 (AB Tryz.f38 0) Ov Ou v:=by
 rintro⟨a0,a1,a2,a3,a4,a5,a6,⟨⟩⟩
 kernel_rfl
theorem AFA:AD (AB Tryz.f38 0) 1=[]:=by kernel_rfl
theorem AFB:Aa Tryz.prog 4 (.loop (AB Tryz.f38 0)) (Lf.loop 0):=AT L7 (UO) (AA AFA trivial)
theorem ACY:∀ v,HN v=AQ 4 Tryz.prog OX Lf Tryz.f38 Le Ld Lc v:=by
 rintro⟨a0,a1,a2,a3,a4,⟨⟩⟩
 kernel_rfl
theorem AKD:AD (AS Tryz.f38) 0=[(0,AB Tryz.f38 0)]:=by kernel_rfl
theorem X8:AR Tryz.prog 38 (AF 4 2 Le Ld Lc Lg):=AH L7 Tryz.func38 (by kernel_rfl) (by kernel_rfl) rfl (fun v=>(Ow v).trans (ACY v)) (AA AKD ⟨AFB,trivial⟩)
def HV:Env:=OX.CJ 38 1 31 (AF 4 2 Le Ld Lc Lg)
theorem G9:AZ Tryz.prog HV:=Env.A0 L7 X8 (AJ rfl rfl)
abbrev Lv:Hints:={ loop:=fun n=>match n with|0=>Ab 4 42 O4 O3 DR|_=>fun _ _ _=>none }
theorem VP:∀ v,DR v=roundOf Tryz.prog HV Lv 1 4 42 (AB Tryz.f28 0) O4 O3 v:=by
 rintro⟨a0,a1,a2,a3,a4,a5,a6,⟨⟩⟩
 kernel_rfl
theorem AFJ:AD (AB Tryz.f28 0) 1=[]:=by kernel_rfl
theorem AFK:Aa Tryz.prog 4 (.loop (AB Tryz.f28 0)) (Lv.loop 0):=AT G9 (VP) (AA AFJ trivial)
theorem ADD:∀ v,HQ v=AQ 4 Tryz.prog HV Lv Tryz.f28 Lu Lt Ls v:=by
 rintro⟨a0,a1,a2,a3,a4,⟨⟩⟩
 kernel_rfl
theorem AKk:AD (AS Tryz.f28) 0=[(0,AB Tryz.f28 0)]:=by kernel_rfl
theorem YC:AR Tryz.prog 28 (AF 4 2 Lu Lt Ls IV):=AH G9 Tryz.func28 (by kernel_rfl) (by kernel_rfl) rfl (fun v=>(O5 v).trans (ADD v)) (AA AKk ⟨AFK,trivial⟩)
def MJ:Env:=HV.CJ 28 1 31 (KE (AF 4 2 Lu Lt Ls IV))
theorem MV:AZ Tryz.prog MJ:=Env.A0 G9 (We YC) (AV1 rfl rfl)
abbrev Ahz:Hints:={ fp:=fun n=>match n with|4=>[[10],[10],[1000005,3,5],[1000005,3,13,5],[],[1000005,21,11,3,5],[],[]]|_=>[] }
theorem Ab8:∀ v,AIB v=AQ 0 Tryz.prog MJ Ahz Tryz.f11 ARb ARa ARZ v:=by
 rintro⟨a0,a1,a2,⟨⟩⟩
 kernel_rfl
theorem Ahy:AD (AS Tryz.f11) 0=[]:=by kernel_rfl
theorem AYF:AR Tryz.prog 11 (AF 0 3 ARb ARa ARZ AMS):=AH MV Tryz.func11 (by kernel_rfl) (by kernel_rfl) rfl (fun v=>(AV4 v).trans (Ab8 v)) (AA Ahy trivial)
def AVl:Env:=MJ.ext 11 true true (AF 0 3 ARb ARa ARZ AMS)
theorem AG9:AZ Tryz.prog AVl:=Env.Af MV AYF (fun _=>AM rfl rfl) (fun _=>AJ rfl rfl)
abbrev Ab6:Hints:={  }
theorem ARY:∀ v,Zu v=AQ 0 Tryz.prog AVl Ab6 Tryz.f13 Zt Zs Zr v:=by
 rintro⟨a0,a1,a2,a3,⟨⟩⟩
 kernel_rfl
theorem Ab5:AD (AS Tryz.f13) 0=[]:=by kernel_rfl
theorem AMR:AR Tryz.prog 13 (AF 0 4 Zt Zs Zr AIA):=AH AG9 Tryz.func13 (by kernel_rfl) (by kernel_rfl) rfl (fun v=>(AYE v).trans (ARY v)) (AA Ab5 trivial)
def SB:Env:=AVl.ext 13 true true (AF 0 4 Zt Zs Zr AIA)
theorem Nn:AZ Tryz.prog SB:=Env.Af AG9 AMR (fun _=>AM rfl rfl) (fun _=>AJ rfl rfl)
abbrev Ll:Hints:={ loop:=fun n=>match n with|0=>Ab 2 19 Oy Ox Ci|_=>fun _ _ _=>none }
theorem UP:∀ v,Ci v=roundOf Tryz.prog SB Ll 1 2 19 (AB Tryz.f38 0) Oy Ox v:=by
 rintro⟨a0,a1,a2,a3,a4,a5,a6,⟨⟩⟩
 kernel_rfl
theorem AFC:AD (AB Tryz.f38 0) 1=[]:=by kernel_rfl
theorem AFD:Aa Tryz.prog 2 (.loop (AB Tryz.f38 0)) (Ll.loop 0):=AT Nn (UP) (AA AFC trivial)
theorem ACZ:∀ v,HO v=AQ 2 Tryz.prog SB Ll Tryz.f38 Lj Li Lh v:=by
 rintro⟨a0,a1,a2,a3,a4,⟨⟩⟩
 kernel_rfl
theorem AKE:AD (AS Tryz.f38) 0=[(0,AB Tryz.f38 0)]:=by kernel_rfl
theorem X9:AR Tryz.prog 38 (AF 2 2 Lj Li Lh IP):=AH Nn Tryz.func38 (by kernel_rfl) (by kernel_rfl) rfl (fun v=>(Oz v).trans (ACZ v)) (AA AKE ⟨AFD,trivial⟩)
def HW:Env:=SB.CJ 38 1 32 (AF 2 2 Lj Li Lh IP)
theorem HA:AZ Tryz.prog HW:=Env.A0 Nn X9 (AJ rfl rfl)
abbrev AH9:Hints:={ loop:=fun n=>match n with|0=>Ab 0 66 AMP AMO Gg|_=>fun _ _ _=>none,fp:=fun n=>match n with|11=>[[],[],[6],[6],[0],[1],[0],[1]]|_=>[] }
theorem AMN:∀ v,Gg v=roundOf Tryz.prog HW AH9 1 0 66 (AB Tryz.f15 0) AMP AMO v:=by
 rintro⟨a0,a1,a2,a3,a4,a5,a6,a7,a8,a9,⟨⟩⟩
 kernel_rfl
theorem Ab3:AD (AB Tryz.f15 0) 1=[]:=by kernel_rfl
theorem Ab4:Aa Tryz.prog 0 (.loop (AB Tryz.f15 0)) (AH9.loop 0):=AT HA (AMN) (AA Ab3 trivial)
theorem AYD:∀ v,Yc v=AQ 0 Tryz.prog HW AH9 Tryz.f15 AH8 AH7 AH6 v:=by
 rintro⟨a0,a1,a2,⟨⟩⟩
 kernel_rfl
theorem Afj:AD (AS Tryz.f15) 0=[(0,AB Tryz.f15 0)]:=by kernel_rfl
theorem ARW:AR Tryz.prog 15 (AF 0 3 AH8 AH7 AH6 Mj):=AH HA Tryz.func15 (by kernel_rfl) (by kernel_rfl) rfl (fun v=>(AMQ v).trans (AYD v)) (AA Afj ⟨Ab4,trivial⟩)
def Yw:Env:=HW.ext 15 true true (AF 0 3 AH8 AH7 AH6 Mj)
theorem QP:AZ Tryz.prog Yw:=Env.Af HA ARW (fun _=>AM rfl rfl) (fun _=>AJ rfl rfl)
abbrev Zl:Hints:={ loop:=fun n=>match n with|0=>Ab 0 65 AFm AFl S7|_=>fun _ _ _=>none,fp:=fun n=>match n with|4=>[[],[4],[4],[4],[],[4],[4],[4],[],[],[12],[],[],[],[3]]|_=>[] }
theorem AH3:∀ v,S7 v=roundOf Tryz.prog Yw Zl 1 0 65 (AB Tryz.f18 0) AFm AFl v:=by
 rintro⟨a0,a1,a2,a3,a4,a5,a6,a7,a8,a9,a10,⟨⟩⟩
 kernel_rfl
theorem AX7:AD (AB Tryz.f18 0) 1=[]:=by kernel_rfl
theorem AX8:Aa Tryz.prog 0 (.loop (AB Tryz.f18 0)) (Zl.loop 0):=AT QP (AH3) (AA AX7 trivial)
theorem ARQ:∀ v,Zm v=AQ 0 Tryz.prog Yw Zl Tryz.f18 Zk Zj Zi v:=by
 rintro⟨a0,a1,a2,a3,⟨⟩⟩
 kernel_rfl
theorem Ab2:AD (AS Tryz.f18) 0=[(0,AB Tryz.f18 0)]:=by kernel_rfl
theorem AML:AR Tryz.prog 18 (AF 0 4 Zk Zj Zi AH4):=AH QP Tryz.func18 (by kernel_rfl) (by kernel_rfl) rfl (fun v=>(AX9 v).trans (ARQ v)) (AA Ab2 ⟨AX8,trivial⟩)
def AD5:Env:=Yw.ext 18 true true (AF 0 4 Zk Zj Zi AH4)
theorem Xf:AZ Tryz.prog AD5:=Env.Af QP AML (fun _=>AM rfl rfl) (fun _=>AJ rfl rfl)
abbrev AbG:Hints:={  }
theorem AQc:∀ v,WB v=AQ 0 Tryz.prog AD5 AbG Tryz.f9 WA Vz Vy v:=by
 rintro⟨⟨⟩⟩
 kernel_rfl
theorem AbF:AD (AS Tryz.f9) 0=[]:=by kernel_rfl
theorem ALL:AR Tryz.prog 9 (AF 0 0 WA Vz Vy JT):=AH Xf Tryz.func9 (by kernel_rfl) (by kernel_rfl) rfl (fun v=>(AVe v).trans (AQc v)) (AA AbF trivial)
def Wb:Env:=AD5.ext 9 true true (AF 0 0 WA Vz Vy JT)
theorem Si:AZ Tryz.prog Wb:=Env.Af Xf ALL (fun _=>AM rfl rfl) (fun _=>AJ rfl rfl)
abbrev AaN:Hints:={  }
theorem APc:∀ v,OK v=AQ 0 Tryz.prog Wb AaN Tryz.f10 UU UT US v:=by
 rintro⟨a0,⟨⟩⟩
 kernel_rfl
theorem AaM:AD (AS Tryz.f10) 0=[]:=by kernel_rfl
theorem AKU:AR Tryz.prog 10 (AF 0 1 UU UT US OL):=AH Si Tryz.func10 (by kernel_rfl) (by kernel_rfl) rfl (fun v=>(ACa v).trans (APc v)) (AA AaM trivial)
def WU:Env:=Wb.ext 10 true true (AF 0 1 UU UT US OL)
theorem Sa:AZ Tryz.prog WU:=Env.Af Si AKU (fun _=>AM rfl rfl) (fun _=>AJ rfl rfl)
abbrev PX:Hints:={ loop:=fun n=>match n with|0=>Ab 0 139 Wo Wn Cw|_=>fun _ _ _=>none,fp:=fun n=>match n with|21=>[[4],[4],[],[4],[4],[],[26],[26],[],[],[]]|8=>[[0],[0],[],[0],[0],[],[],[35],[0],[0],[],[],[],[37],[],[],[41]]|_=>[] }
theorem AAC:∀ v,Cw v=roundOf Tryz.prog WU PX 1 0 139 (AB Tryz.f8 0) Wo Wn v:=by
 rintro⟨a0,a1,a2,a3,a4,a5,a6,a7,a8,a9,⟨⟩⟩
 kernel_rfl
theorem AMq:AD (AB Tryz.f8 0) 1=[]:=by kernel_rfl
theorem AMr:Aa Tryz.prog 0 (.loop (AB Tryz.f8 0)) (PX.loop 0):=AT Sa (AAC) (AA AMq trivial)
theorem AIk:∀ v,LB v=AQ 0 Tryz.prog WU PX Tryz.f8 PW PV PU v:=by
 rintro⟨a0,a1,a2,⟨⟩⟩
 kernel_rfl
theorem ASA:AD (AS Tryz.f8) 0=[(0,AB Tryz.f8 0)]:=by kernel_rfl
theorem AEg:AR Tryz.prog 8 (AF 0 3 PW PV PU KJ):=AH Sa Tryz.func8 (by kernel_rfl) (by kernel_rfl) rfl (fun v=>(Wp v).trans (AIk v)) (AA ASA ⟨AMr,trivial⟩)
end
end Go.Pev
end
section

end
