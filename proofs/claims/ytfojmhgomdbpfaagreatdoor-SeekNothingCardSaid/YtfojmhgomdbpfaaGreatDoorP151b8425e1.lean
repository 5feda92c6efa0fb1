/- A part of the proofs of this seat: DKD T22a T21a T23a T23b T24a PlnC DKE DKF DKG DKH DU24a DU24b DU24c DU24d DU23a DU23b DU23c DU23d DU23e T24b DU24f DU24g DU24h DU24i DU24j DU24k DU24l DU24m DU24n PlnD DU21a DU21b DU23f DU23g PlnE DU23h DU23i DU21c DU21d DU21e DU23j DU23k DU24e DU21f DU23l U29a U29b U29c U29d U29e DU23m U29f PevClip G29aP1 G29aP2 G29aP3 G29aP4 G29aP5. -/
import Derived.Test.YtfojmhgomdbpfaaGreatDoorP924e44b3e7
import Derived.KernelRfl
import Derived.Test.YtfojmhgomdbpfaaGreatDoorProg
set_option linter.unusedVariables false
set_option linter.unusedSimpArgs false
set_option linter.unusedSectionVars false
set_option maxRecDepth 100000
section
section
namespace Go.Pev.Pl
open Tok
def Cn{α:Type}(P:Nat→Bool):Nat→List α→List α
 |_,[]=>[]
 |i,x::xs=>if P i then Cn P (i+1) xs else x::Cn P (i+1) xs
theorem AOW{α:Type}(P:Nat→Bool):∀ (xs:List α) (s:Nat),(∀ k,s≤k→P k=false)→Cn P s xs=xs:=by
 intro xs
 induction xs with
 |nil=>intro s _;rfl
 |cons x xs ih=>
  intro s h
  rw[Cn,h s (AhQ _),ih (s+1) fun k hk=>h k (by omega)]
  rfl
theorem ATP{α:Type}(P:Nat→Bool)(i:Nat):∀ (xs:List α) (s:Nat),s≤i→(∀ k,s≤k→P k=decide (k=i))→Cn P s xs=xs.eraseIdx (i-s):=by
 intro xs
 induction xs with
 |nil=>intro s _ _;rfl
 |cons x xs ih=>
  intro s hs h
  rw[Cn,h s (AhQ _)]
  by_cases e:s=i
  ·subst e
   rw[AOW P xs (s+1) fun k hk=>by rw[h k (by omega)];simp;omega]
   simp
  ·rw[ih (s+1) (by omega) fun k hk=>h k (by omega)]
   rw[AhF e,AhU (by simp),show i-s=(i-(s+1))+1 by omega,Ajh]
theorem LW{α:Type}(P:Nat→Bool)(i j:Nat)(hij:i<j):∀ (xs:List α) (s:Nat),s≤i→(∀ k,s≤k→P k=decide (k=i∨k=j))→Cn P s xs=(xs.eraseIdx (j-s)).eraseIdx (i-s):=by
 intro xs
 induction xs with
 |nil=>intro s _ _;rfl
 |cons x xs ih=>
  intro s hs h
  rw[Cn,h s (AhQ _)]
  by_cases e:s=i
  ·subst e
   rw[ATP P j xs (s+1) (by omega) fun k hk=>by rw[h k (by omega)];exact Aik.2 ⟨fun q=>by omega,fun q=>.inr q⟩]
   rw[AhH (.inl rfl),AhX rfl,show j-s=(j-(s+1))+1 by omega,Ajh,Ai2,List.eraseIdx_zero]
   rfl
  ·rw[ih (s+1) (by omega) fun k hk=>h k (by omega)]
   rw[AhF (by omega),AhU (by simp),show j-s=(j-(s+1))+1 by omega,Ajh,show i-s=(i-(s+1))+1 by omega,Ajh]
theorem AOX{α:Type}(P:Nat→Bool):∀ (xs:List α) (acc:List α) (k:Nat),(xs.foldl (fun(a:List α×Nat) x=>(if P a.2 then a.1 else a.1++[x],a.2+1)) (acc,k)).1=acc++Cn P k xs:=by
 intro xs
 induction xs with
 |nil=>intro acc k;simp[Cn]
 |cons x xs ih=>
  intro acc k
  rw[AiA,ih,Cn]
  cases P k<;>simp
theorem ATQ{α:Type}(P:Nat→Bool):∀ (xs:List α) (k:Nat),(Cn P k xs).length≤xs.length∧∀ x∈Cn P k xs,x∈xs:=by
 intro xs
 induction xs with
 |nil=>intro k;simp[Cn]
 |cons x xs ih=>
  intro k
  obtain⟨h1,h2⟩:=ih (k+1)
  rw[Cn]
  split
  ·exact⟨by simp only[AhO];omega,fun y hy=>Ahh _ (h2 y hy)⟩
  ·refine⟨by simp only[AhO];omega,fun y hy => ?_⟩
   rcases AhN.1 hy with rfl|hy
   ·simp
   ·exact Ahh _ (h2 y hy)
theorem AEo(n:Int)(rings:List (List Int))(away:List Int)(come:List (List Int))(hlen:rings.length<1073741824)(ha:away.length<1073741824)(hc:come.length<1073741824)
  (hne:∀ l∈rings,l≠[]) (hce:∀ r∈come,plain r≠[]) :
  ∃ ys,AKn ((n,(rings,())),away,come,())=some (n,ys,())∧ys.Perm (Cn (fun k=>decide ((k:Int)∈away)) 0 rings++come.map plain)∧ys.Pairwise (fun a b=>¬ hd b<hd a):=by
 rw[AKm,X0]
 have e:=DT (step:=HW) (fun i (a:List (List Int)×Nat)=>(away,come,n,rings,(0:Int),a.1,rings,AJ rings,(i:Int),())) rings
  (fun x a=>.inl (if decide ((a.2:Int)∈away)then a.1 else a.1++[x],a.2+1)) (fun a=>.inl (come,n,rings,(0:Int),a.1,())) (fun i a=>a.2=i∧a.1.length≤i) (by omega)
  (fun i x a hi hx ⟨h1,h2⟩=>by
   refine⟨fun m' h' => ?_,fun r h'=>by cases h'⟩
   cases h'
   subst h1
   rw[HW,AM,AO,AhH hi]
   simp only[Ak hx,Jq away _ (show away.length<9223372036854775808 by omega)]
   rw[AQ (by omega),Bd (by simp only[AM,AhO,Ahi];omega)]
   by_cases h:(a.2:Int)∈away
   ·simp only[h,AhS,AhT,Ahv]
    exact⟨by trivial,by trivial,by omega⟩
   ·simp only[h,Ahg,Ahw]
    exact⟨by trivial,by trivial,by simp;omega⟩)
  (fun a _=>by rw[HW,AM,AO,AhF (by omega)]) ([],0) ⟨rfl,by simp⟩
 have e':AW HW many (away,come,n,rings,(0:Int),[],rings,AJ rings,(0:Int),())=_:=e
 rw[e',Ba]
 have hdf:(rings.foldl (fun(a:List (List Int)×Nat) x=>(if decide ((a.2:Int)∈away)then a.1 else a.1++[x],a.2+1)) ([],0)).1=Cn (fun k=>decide ((k:Int)∈away)) 0 rings:=by
  have:=AOX (fun k=>decide ((k:Int)∈away)) rings [] 0
  rw[Ahr]at this
  exact this
 simp only[hdf]
 obtain⟨g1,g2⟩:=ATQ (fun k=>decide ((k:Int)∈away)) rings 0
 generalize Cn (fun k=>decide ((k:Int)∈away)) 0 rings=rest at *
 have f:=DT (step:=HV) (fun i (a:List (List Int))=>(n,rings,(0:Int),a,come,AJ come,(i:Int),())) come
  (fun x a=>.inl (a++[plain x])) (fun a=>.inl (n,rings,(0:Int),a,())) (fun i a=>a.length=rest.length+i) (by omega)
  (fun i x a hi hx h1=>by
   refine⟨fun m' h' => ?_,fun r h'=>by cases h'⟩
   cases h'
   rw[HV,AM,AO,AhH hi]
   simp only[Ak hx,AQh]
   rw[AQ (by omega),Bd (by simp only[AM,AhO,Ahi];omega)]
   exact⟨rfl,by simp;omega⟩)
  (fun a _=>by rw[HV,AM,AO,AhF (by omega)]) rest rfl
 have f':AW HV many (n,rings,(0:Int),rest,come,AJ come,(0:Int),())=_:=f
 rw[f',Ba]
 have hfold:∀ (l acc:List (List Int)),l.foldl (fun a x=>a++[plain x]) acc=acc++l.map plain:=by
  intro l
  induction l with
  |nil=>intro acc;simp
  |cons x l ih=>intro acc;rw[AiA,ih];simp
 simp only[hfold]
 obtain⟨ys,y1,y2,y3⟩:=SL.J3 (rest++come.map plain) (by simp;omega) (fun x hx=>by
  rcases AhL.1 hx with h|h
  ·exact hne x (g2 x h)
  ·obtain⟨r,hr,rfl⟩:=Ahd.1 h
   exact hce r hr)
 refine⟨ys,by simp only[y1],y2,y3.imp fun {a b} h => ?_⟩
 simp only[SL.lt,Go.Sort.ltInt,Ah9]at h
 exact h
def AAC(rest:List (List Int))(p:List Int):List (List Int):=rest.take (rest.findIdx fun x => !decide (hd x<hd p))++p::rest.drop (rest.findIdx fun x => !decide (hd x<hd p))
theorem AFO(rest:List (List Int))(p:List Int):(AAC rest p).Perm (p::rest):=by
 rw[AAC]
 refine List.perm_middle.trans ?_
 rw[AiG]
theorem AUm{rest:List (List Int)}{p:List Int}(h:rest.Pairwise (fun a b=>hd a<hd b))(hne:∀ x∈rest,hd x≠hd p):(AAC rest p).Pairwise (fun a b=>hd a<hd b):=by
 rw[AAC]
 have hlt:∀ x∈rest.take (rest.findIdx fun x => !decide (hd x<hd p)),hd x<hd p:=by
  intro x hx
  obtain⟨j,hj,e⟩:=AjL.1 hx
  have:=List.not_of_lt_findIdx (p:=fun x => !decide (hd x<hd p)) (xs:=rest) (i:=j) (by omega)
  rw[e]at this
  simpa using this
 have hgt:∀ x∈rest.drop (rest.findIdx fun x => !decide (hd x<hd p)),hd p<hd x:=by
  intro x hx
  by_cases hk:(rest.findIdx fun x => !decide (hd x<hd p))<rest.length
  ·have h0:=List.findIdx_getElem (p:=fun x => !decide (hd x<hd p)) (xs:=rest) (w:=hk)
   rw[AiC hk]at hx
   have h1:¬ hd rest[rest.findIdx fun x => !decide (hd x<hd p)]<hd p:=by simpa using h0
   have h2:=hne _ (Air hk)
   rcases AhN.1 hx with rfl|hx
   ·omega
   ·have hpw:(rest.drop (rest.findIdx fun x => !decide (hd x<hd p))).Pairwise (fun a b=>hd a<hd b):=h.sublist (List.drop_sublist _ _)
    rw[AiC hk,Ah7]at hpw
    have:=hpw.1 x hx
    omega
  ·rw[AiW (by omega)]at hx
   cases hx
 rw[Ajz,Ah7]
 refine⟨h.sublist (List.take_sublist _ _),⟨hgt,h.sublist (List.drop_sublist _ _)⟩,fun a ha b hb => ?_⟩
 rcases AhN.1 hb with rfl|hb
 ·exact hlt a ha
 ·have:=hlt a ha
  have:=hgt b hb
  omega
theorem AVP{l:List Int}(h:l≠[]):idx l (0:Int)=some (hd l):=by
 cases l with
 |nil=>exact absurd rfl h
 |cons x l=>rw[Ga];rfl
theorem Acu(l:List Int):AY l 0 (0:Int)=hd l:=by cases l<;>rfl
end Go.Pev.Pl
end
section
namespace Go.Pev.Pl
open Tok
theorem AKB{n u v:Int}(h:okT n (.arc u v)):n≤D9 n u v:=by rw[FI h];exact(YJ h.1 h.2.1).1
def BE(n:Int)(A B:List Int)(u v:Int):List Int:=u::D9 n u v::(A5 B v++D9 n v u::(A5 A u).tail)
theorem Nt{n u v:Int}{A B:List Int}(hA:TI n A)(hB:TI n B)(hu:u∈A)(hv:v∈B)(iu:In n u)(iv:In n v)(hd:Dis n A B):
  TI n (BE n A B u v)∧A5 A u=u::(A5 A u).tail∧(∀ t,t<n→(t∈BE n A B u v↔t∈A∨t∈B))∧u≠v∧okT n (.arc u v):=by
 obtain⟨a,a1,a2,a3⟩:=AO8 hA (t:=.ver u) iu hu
 obtain⟨b,b1,b2,b3⟩:=AO8 hB (t:=.ver v) iv hv
 have a1':A5 A u=(Tok.ver u::a).map (Dg n):=a1
 have b1':A5 B v=(Tok.ver v::b).map (Dg n):=b1
 have huv:u≠v:=by rintro rfl;exact hd u hu iu.2.2.2 hv
 have ho:okT n (.arc u v):=⟨iu,iv,huv⟩
 have pA:=(CZ hu).perm
 have pB:=(CZ hv).perm
 have ht:A5 A u=u::(A5 A u).tail:=by rw[a1'];rfl
 have hall:BE n A B u v=(Tok.ver u :: .arc u v::(.ver v::b ++ .arc v u::a)).map (Dg n):=by
  rw[BE,a1',b1',FI ho,FI (E2 ho)]
  simp[Dg]
 refine⟨⟨_,hall,fun t ht => ?_,T.join a2 b2 fun x hx hx2 => ?_⟩,ht,fun t ht2 => ?_,huv,ho⟩
 ·rcases AhN.1 ht with rfl|ht
  ·exact iu
  ·rcases AhN.1 ht with rfl|ht
   ·exact ho
   ·rcases AhL.1 ht with ht|ht
    ·exact b3 t ht
    ·rcases AhN.1 ht with rfl|ht
     ·exact E2 ho
     ·exact a3 t (Ahh _ ht)
 ·have ix:=a3 _ hx
  have x1:x∈A:=pA.mem_iff.2 (by rw[a1'];exact Ahd.2 ⟨_,hx,rfl⟩)
  have x2:x∈B:=pB.mem_iff.2 (by rw[b1'];exact Ahd.2 ⟨_,hx2,rfl⟩)
  exact hd x x1 ix.2.2.2 x2
 ·have g1:=AKB ho
  have g2:=AKB (E2 ho)
  have e1:t∈A↔t=u∨t∈(A5 A u).tail:=by rw[pA.mem_iff,ht,AhN,AjK]
  rw[BE,AhN,AhN,AhL,AhN,e1,← pB.mem_iff]
  constructor
  ·rintro (h|h|h|h|h)
   ·exact .inl (.inl h)
   ·omega
   ·exact .inr h
   ·omega
   ·exact .inl (.inr h)
  ·rintro ((h|h)|h)
   ·exact .inl h
   ·exact .inr (.inr (.inr (.inr h)))
   ·exact .inr (.inr (.inl h))
theorem KR{n:Int}{a b:List (List Int)}(h:a.Perm b)(ha:a.Pairwise (Dis n)):b.Pairwise (Dis n):=(h.pairwise_iff fun {_ _} hh=>hh.symm).1 ha
theorem AVr{n:Int}{rings rest zs:List (List Int)}{A B p:List Int}(h:FR n rings)(hp:rings.Perm (A::B::rest))(hg:RG n p)(hm:∀ t,t<n→(t∈p↔t∈A∨t∈B))(hz:zs.Perm (p::rest))(hu:zs.Pairwise (fun a b=>hd a<hd b)):FR n zs:=by
 have hd0:=KR hp h.dis
 rw[Ah7,Ah7]at hd0
 obtain⟨h1,h2,h3⟩:=hd0
 refine⟨h.sz,fun l hl => ?_,hu,KR hz.symm ?_,fun v hv => ?_⟩
 ·rcases AhN.1 (hz.mem_iff.1 hl)with rfl|hl
  ·exact hg
  ·exact h.rg l (hp.mem_iff.2 (by simp[hl]))
 ·rw[Ah7]
  refine⟨fun r hr t ht htn => ?_,h3⟩
  rcases(hm t htn).1 ht with g|g
  ·exact h1 r (by simp[hr]) t g htn
  ·exact h2 r hr t g htn
 ·obtain⟨l,hl,hvl⟩:=h.cov v hv
  have:=hp.mem_iff.1 hl
  simp only[AhN]at this
  rcases this with rfl|rfl|g
  ·exact⟨p,hz.mem_iff.2 (by simp),(hm v hv.2.2.2).2 (.inl hvl)⟩
  ·exact⟨p,hz.mem_iff.2 (by simp),(hm v hv.2.2.2).2 (.inr hvl)⟩
  ·exact⟨l,hz.mem_iff.2 (by simp[g]),hvl⟩
theorem HQ(n:Int)(rings:List (List Int))(u v:Int)(hD:Dom rings):asked ((n,(rings,())),u,v,())=some (if RF n rings then if In n u∧In n v then 0 else 10 else 1,()):=by
 rw[AOz,YM]
 simp only[Ot n rings hD.1 hD.2,X5]
 by_cases h:RF n rings
 ·by_cases h1:In n u
  ·by_cases h2:In n v<;>simp[h,h1,h2]
  ·simp[h,h1]
 ·simp[h]
theorem AcD(a b:Nat):imax (a:Int) (b:Int)=((max a b:Nat):Int):=by rw[imax];split<;>omega
theorem AcC(a b:Nat):Cm (a:Int) (b:Int)=((min a b:Nat):Int):=by rw[Cm];split<;>omega
theorem Aes{n:Int}{rings:List (List Int)}{u v:Int}{i j:Nat}{A B:List Int}(h:FR n rings)(iu:In n u)(iv:In n v)(hi:rings[i]? = some A)(hj:rings[j]? = some B)(hu:u∈A)(hv:v∈B)(hij:i≠j):
  ∃ zs rest,MP ((n,(rings,())),u,v,())=some (n,zs,0,())∧FR n zs∧rings.Perm (A::B::rest)∧zs.Perm (plain (BE n A B u v)::rest)∧Dis n A B:=by
 have hD:=h.dom
 have hRF:=Lg.2 h
 have rA:=h.rg A (AhV hi)
 have rB:=h.rg B (AhV hj)
 have hil:=(AiT.1 hi).1
 have hjl:=(AiT.1 hj).1
 have pu:plc rings u=(i:Int):=h.AH6 hi iu.2.2.2 hu
 have pv:plc rings v=(j:Int):=h.AH6 hj iv.2.2.2 hv
 have hperm:rings.Perm (A::B::(rings.eraseIdx (max i j)).eraseIdx (min i j)):=by
  rcases AkA hij with g|g
  ·rw[Aje (by omega),AiD (by omega)]
   exact I6 g hi hj
  ·rw[Ajl (by omega),Ajf (by omega)]
   exact(I6 g hj hi).trans (List.Perm.swap _ _ _)
 have hdis:Dis n A B:=by
  have:=KR hperm h.dis
  rw[Ah7]at this
  exact this.1 B (by simp)
 obtain⟨l1,l2,l3,huv,ho⟩:=Nt rA.2.2.2 rB.2.2.2 hu hv iu iv hdis
 obtain⟨hRG,hrot⟩:=ADB l1
 have hall:BE n A B u v=u::D9 n u v::(A5 B v++D9 n v u::(A5 A u).tail):=rfl
 have lA:(A5 A u).length≤1000:=by rw[← (CZ hu).perm.length_eq];exact rA.1.1
 have lB:(A5 B v).length≤1000:=by rw[← (CZ hv).perm.length_eq];exact rB.1.1
 have hsub:((rings.eraseIdx (max i j)).eraseIdx (min i j)).Sublist rings:=(Ajv _ _).trans (Ajv _ _)
 have hdrop:Cn (fun k=>decide ((k:Int)∈[(i:Int),(j:Int)])) 0 rings=(rings.eraseIdx (max i j)).eraseIdx (min i j):=by
  rcases AkA hij with g|g
  ·rw[Aje (by omega),AiD (by omega)]
   exact LW _ i j g rings 0 (by omega) fun k _=>Aik.2 (by simp only[AhN,Ai5,Ajn];omega)
  ·rw[Ajl (by omega),Ajf (by omega)]
   exact LW _ j i g rings 0 (by omega) fun k _=>Aik.2 (by simp only[AhN,Ai5,Ajn];omega)
 have hrl:((rings.eraseIdx (max i j)).eraseIdx (min i j)).length≤rings.length:=hsub.length_le
 generalize (rings.eraseIdx (max i j)).eraseIdx (min i j)=rest at *
 have hupr:rest.Pairwise (fun a b=>hd a<hd b):=h.up.sublist hsub
 have hner:∀ l∈rest,l≠[]:=fun l hl=>(h.rg l (hsub.subset hl)).2.1
 have hdd:=KR hperm h.dis
 rw[Ah7,Ah7]at hdd
 have hheads:∀ x∈rest,hd x≠hd (plain (BE n A B u v)):=by
  intro x hx e
  have g1:=N8 hRG
  have g2:=(l3 _ g1.2.2.2).1 (hrot.perm.mem_iff.2 (Tw hRG.2.1))
  have g3:hd (plain (BE n A B u v))∈x:=e▸Tw (hner x hx)
  rcases g2 with g|g
  ·exact hdd.1 x (by simp[hx]) _ g g1.2.2.2 g3
  ·exact hdd.2.1 x hx _ g g1.2.2.2 g3
 have hup:=AUm hupr hheads
 have hpz:=AFO rest (plain (BE n A B u v))
 refine⟨AAC rest (plain (BE n A B u v)),rest,?_,AVr h hperm hRG (fun t ht=>by rw[← hrot.perm.mem_iff];exact l3 t ht) hpz hup,hperm,hpz,hdis⟩
 ·obtain⟨ys,y1,y2,y3⟩:=AEo n rings [(i:Int),(j:Int)] [BE n A B u v] hD.1 (by simp) (by simp) (fun l hl=>(h.rg l hl).2.1) (by simp;exact hRG.2.1)
  have hys:ys=AAC rest (plain (BE n A B u v)):=by
   refine Vy hup (y2.trans ?_) y3
   rw[hdrop]
   exact(Ai0 (l₁:=rest) (l₂:=[plain (BE n A B u v)])).trans hpz.symm
  rw[hys]at y1
  rw[Hd,G1]
  have s1:CM (A5 A u) (0:Int) (1:Int)=some [u]:=by
   have:=AHE (xs:=A5 A u) (l:=0) (h:=1) (by omega) (by rw[l2];simp)
   rw[l2]at this ⊢
   exact this
  have s2:CM (A5 A u) (1:Int) (AJ (A5 A u))=some (A5 A u).tail:=by
   have:=Ey (xs:=A5 A u) (l:=1) (by rw[l2];simp)
   rw[AjG]at this
   exact this
  have d1:DR 0 (AK (AJ [u])) (A5 A u)=[u]:=by rw[l2];rfl
  have d2:DR 1 (AK (AJ (A5 A u).tail)) (A5 A u)=(A5 A u).tail:=by
   rw[DR,AM,Jl,AjG,Aig]
  have hcat:JA ([[u],[D9 n u v],A5 B v,[D9 n v u],(A5 A u).tail],())=some (BE n A B u v,()):=by
   rw[NK _ (by simp) (by simp;omega)]
   simp[BE]
  have ne:((i:Int))≠(j:Int):=by omega
  simp only[HQ n rings u v hD,hRF,iu,iv,and_self,Ahv,Aq,HZ n rings _ hD.1 (fun l hl=>(hD.2 l hl).1),pu,pv,ne,AhS,Ahg,AhT,Ak hi,Ak hj,AFK,I1,rA.1,rB.1,hu,hv,s1,s2,ALC,d1,d2,hcat,y1]
theorem ASZ{n:Int}{rings:List (List Int)}{u v:Int}(h:FR n rings)(iu:In n u)(iv:In n v)(hp:plc rings u=plc rings v):
  MP ((n,(rings,())),u,v,())=some (n,rings,5,()):=by
 have hD:=h.dom
 have hRF:=Lg.2 h
 rw[Hd,G1]
 simp only[HQ n rings u v hD,hRF,iu,iv,and_self,Ahv,Aq,HZ n rings _ hD.1 (fun l hl=>(hD.2 l hl).1),hp,AhS,AhT]
end Go.Pev.Pl
end
section
namespace Go.Pev.Pl
open Tok
def Pv(rings:List (List Int))(a b:Int):Prop:=∃ A∈rings,a∈A∧b∈A
structure FC(n:Int)(rings:List (List Int))(l:List Edge):Prop where
 fr:FR n rings
 sam:∀ a b,In n a→In n b→(Pv rings a b↔Con l a b)
 arcs:∀ A∈rings,∀ u v,okT n (.arc u v)→D9 n u v∈A→∃ e∈l,(e.1=u∧e.2.1=v)∨(e.1=v∧e.2.1=u)
theorem FR.Aag{n:Int}{rings:List (List Int)}(h:FR n rings){a b:Int}(ia:In n a)(ib:In n b):plc rings a=plc rings b↔Pv rings a b:=by
 obtain⟨i,A,pa,hi,ha,_⟩:=Mb (h.cov a ia)
 obtain⟨j,B,pb,hj,hb,_⟩:=Mb (h.cov b ib)
 rw[pa,pb]
 constructor
 ·intro e
  have:i=j:=by omega
  subst this
  rw[hi]at hj
  cases hj
  exact⟨A,AhV hi,ha,hb⟩
 ·rintro⟨K,hK,h1,h2⟩
  obtain⟨k,hk⟩:∃ k:Nat,rings[k]? = some K:=by
   obtain⟨k,hk,rfl⟩:=Ait hK
   exact⟨k,AhM hk⟩
  rw[h.uniq hi hk ia.2.2.2 ha h1,h.uniq hj hk ib.2.2.2 hb h2]
theorem FR.one{n:Int}{rings:List (List Int)}(h:FR n rings){A B:List Int}(hA:A∈rings)(hB:B∈rings){v:Int}(iv:v<n)(h1:v∈A)(h2:v∈B):A=B:=by
 obtain⟨i,hi,rfl⟩:=Ait hA
 obtain⟨j,hj,rfl⟩:=Ait hB
 have:=h.uniq (AhM hi) (AhM hj) iv h1 h2
 subst this
 rfl
theorem Pv.perm{a b:List (List Int)}(h:a.Perm b)(x y:Int):Pv a x y↔Pv b x y:=by
 constructor
 ·rintro⟨A,hA,h1⟩;exact⟨A,h.mem_iff.1 hA,h1⟩
 ·rintro⟨A,hA,h1⟩;exact⟨A,h.mem_iff.2 hA,h1⟩
theorem AYA{n u v x y:Int}{A B:List Int}(hA:TI n A)(hB:TI n B)(hu:u∈A)(hv:v∈B)(iu:In n u)(iv:In n v)(hd:Dis n A B)(ho:okT n (.arc x y))(h:D9 n x y∈BE n A B u v):D9 n x y∈A∨D9 n x y∈B∨(x=u∧y=v)∨(x=v∧y=u):=by
 obtain⟨_,l2,_,huv,ho2⟩:=Nt hA hB hu hv iu iv hd
 have pA:=(CZ hu).perm
 have pB:=(CZ hv).perm
 have g:=AKB ho
 rw[BE,AhN,AhN,AhL,AhN]at h
 rcases h with h|h|h|h|h
 ·have:=iu.2.2.2;omega
 ·rw[FI ho,FI ho2]at h
  have:=GL ho ho2 h
  cases this
  exact .inr (.inr (.inl ⟨rfl,rfl⟩))
 ·exact .inr (.inl (pB.mem_iff.2 h))
 ·rw[FI ho,FI (E2 ho2)]at h
  have:=GL ho (E2 ho2) h
  cases this
  exact .inr (.inr (.inr ⟨rfl,rfl⟩))
 ·refine .inl (pA.mem_iff.2 ?_)
  rw[l2]
  exact Ahh _ h
theorem AVs{n:Int}{rings:List (List Int)}{l:List Edge}{e:Edge}(h:FC n rings l)(iu:In n e.1)(iv:In n e.2.1):
  ∃ zs q,MP ((n,(rings,())),e.1,e.2.1,())=some (n,zs,q,())∧FC n zs (l++[e])∧(q=0∧zs.length+1=rings.length∨q=5∧zs=rings):=by
 have hF:=h.fr
 obtain⟨i,A,pu,hi,hu,_⟩:=Mb (hF.cov _ iu)
 obtain⟨j,B,pv,hj,hv,_⟩:=Mb (hF.cov _ iv)
 have mA:=AhV hi
 have mB:=AhV hj
 by_cases hij:i=j
 ·have hpe:plc rings e.1=plc rings e.2.1:=by rw[pu,pv,hij]
  refine⟨rings,5,ASZ hF iu iv hpe,⟨hF,fun a b ia ib => ?_,fun A hA u v ho hm => ?_⟩,.inr ⟨rfl,rfl⟩⟩
  ·rw[h.sam a b ia ib,Con.snoc]
   have hc:Con l e.1 e.2.1:=(h.sam _ _ iu iv).1 ((hF.Aag iu iv).1 hpe)
   constructor
   ·exact .inl
   ·rintro (g|⟨g1,g2⟩|⟨g1,g2⟩)
    ·exact g
    ·exact g1.trans (hc.trans g2)
    ·exact g1.trans (hc.symm.trans g2)
  ·obtain⟨e',h1,h2⟩:=h.arcs A hA u v ho hm
   exact⟨e',by simp[h1],h2⟩
 ·obtain⟨zs,rest,q1,q3,q4,q5,q6⟩:=Aes hF iu iv hi hj hu hv hij
  have gA:=hF.rg A mA
  have gB:=hF.rg B mB
  obtain⟨l1,l2,l3,huv,ho⟩:=Nt gA.2.2.2 gB.2.2.2 hu hv iu iv q6
  obtain⟨hRG,hrot⟩:=ADB l1
  have len1:=q4.length_eq
  have len2:=q5.length_eq
  simp only[AhO]at len1 len2
  refine⟨zs,0,q1,⟨q3,fun a b ia ib => ?_,fun K hK x y hxy hm => ?_⟩,.inl ⟨rfl,by omega⟩⟩
  ·rw[Pv.perm q5,Con.snoc,← h.sam a b ia ib,← h.sam a _ ia iu,← h.sam _ b iv ib,← h.sam a _ ia iv,← h.sam _ b iu ib]
   have pmem:∀ x,In n x→(x∈plain (BE n A B e.1 e.2.1)↔x∈A∨x∈B):=fun x ix=>by rw[← hrot.perm.mem_iff];exact l3 x ix.2.2.2
   have sA:∀ x,In n x→(Pv rings x e.1↔x∈A):=fun x ix=>by
    constructor
    ·rintro⟨K,hK,h1,h2⟩
     rw[hF.one mA hK iu.2.2.2 hu h2];exact h1
    ·intro hx;exact⟨A,mA,hx,hu⟩
   have sB:∀ x,In n x→(Pv rings x e.2.1↔x∈B):=fun x ix=>by
    constructor
    ·rintro⟨K,hK,h1,h2⟩
     rw[hF.one mB hK iv.2.2.2 hv h2];exact h1
    ·intro hx;exact⟨B,mB,hx,hv⟩
   have sy:∀ x y,Pv rings x y↔Pv rings y x:=fun x y=>⟨fun ⟨K,a,b,c⟩=>⟨K,a,c,b⟩,fun ⟨K,a,b,c⟩=>⟨K,a,c,b⟩⟩
   rw[sA a ia,sB a ia,sy e.2.1 b,sB b ib,sy e.1 b,sA b ib]
   have hs:Pv rings a b↔(a∈A∧b∈A)∨(a∈B∧b∈B)∨∃ K∈rest,a∈K∧b∈K:=by
    rw[Pv.perm q4]
    simp only[Pv,AhN,exists_eq_or_imp]
   have hz:Pv (plain (BE n A B e.1 e.2.1)::rest) a b↔((a∈A∨a∈B)∧(b∈A∨b∈B))∨∃ K∈rest,a∈K∧b∈K:=by
    simp only[Pv,AhN,exists_eq_or_imp,pmem a ia,pmem b ib]
   rw[hs,hz]
   constructor
   ·rintro (⟨h1|h1,h2|h2⟩|h)
    ·exact .inl (.inl ⟨h1,h2⟩)
    ·exact .inr (.inl ⟨h1,h2⟩)
    ·exact .inr (.inr ⟨h1,h2⟩)
    ·exact .inl (.inr (.inl ⟨h1,h2⟩))
    ·exact .inl (.inr (.inr h))
   ·rintro ((⟨h1,h2⟩|⟨h1,h2⟩|h)|⟨h1,h2⟩|⟨h1,h2⟩)
    ·exact .inl ⟨.inl h1,.inl h2⟩
    ·exact .inl ⟨.inr h1,.inr h2⟩
    ·exact .inr h
    ·exact .inl ⟨.inl h1,.inr h2⟩
    ·exact .inl ⟨.inr h1,.inl h2⟩
  ·have old:∀ K∈rings,D9 n x y∈K→∃ e'∈l++[e],(e'.1=x∧e'.2.1=y)∨(e'.1=y∧e'.2.1=x):=fun K hK hm=>by
    obtain⟨e',h1,h2⟩:=h.arcs K hK x y hxy hm
    exact⟨e',by simp[h1],h2⟩
   rcases AhN.1 (q5.mem_iff.1 hK)with rfl|hK
   ·rcases AYA gA.2.2.2 gB.2.2.2 hu hv iu iv q6 hxy (hrot.perm.mem_iff.2 hm)with g|g|⟨g1,g2⟩|⟨g1,g2⟩
    ·exact old A mA g
    ·exact old B mB g
    ·exact⟨e,by simp,.inl ⟨g1.symm,g2.symm⟩⟩
    ·exact⟨e,by simp,.inr ⟨g2.symm,g1.symm⟩⟩
   ·exact old K (q4.mem_iff.2 (by simp[hK])) hm
theorem ADD{N:Nat}(h1:1≤N)(h2:N≤64):FC (N:Int) (BR N) []:=by
 have hS:∀ A∈BR N,∃ k:Nat,k<N∧A=[(k:Int)]:=fun A hA=>by
  simp only[BR,Ahd,AiN]at hA
  obtain⟨k,hk,rfl⟩:=hA
  exact⟨k,hk,rfl⟩
 have key:∀ k,k<N→In (N:Int) (k:Int):=fun k hk=>⟨by omega,by omega,by omega,by omega⟩
 refine⟨⟨⟨by omega,by omega⟩,fun l hl => ?_,?_,?_,fun v hv => ?_⟩,fun a b ia ib => ?_,fun A hA u v ho hm => ?_⟩
 ·obtain⟨k,hk,rfl⟩:=hS l hl
  refine⟨⟨by simp,fun x hx => ?_,by simp⟩,by simp,rfl,(AdP (N:Int) k).2 (key k hk)⟩
  simp only[Ahj]at hx
  omega
 ·rw[BR,Ain]
  exact List.pairwise_lt_range.imp fun h=>by simp only[hd,Aj8];omega
 ·rw[BR,Ain]
  exact List.pairwise_lt_range.imp fun {a b} h t ht _ ht2=>by
   simp only[Ahj]at ht ht2
   omega
 ·obtain⟨k,rfl⟩:=AhR hv.2.2.1
  have:=hv.2.2.2
  exact⟨[(k:Int)],by simp only[BR,Ahd,AiN];exact⟨k,by omega,rfl⟩,by simp⟩
 ·constructor
  ·rintro⟨A,hA,h1,h2⟩
   obtain⟨k,_,rfl⟩:=hS A hA
   simp only[Ahj]at h1 h2
   rw[h1,h2]
   exact .refl _
  ·intro hc
   have:=hc.nil
   subst this
   obtain⟨k,rfl⟩:=AhR ia.2.2.1
   have:=ia.2.2.2
   exact⟨[(k:Int)],by simp only[BR,Ahd,AiN];exact⟨k,by omega,rfl⟩,by simp,by simp⟩
 ·obtain⟨k,hk,rfl⟩:=hS A hA
  simp only[Ahj]at hm
  have:=AKB ho
  omega
theorem ACO(l:List Edge)(hs:l.length<1073741824):ends (l,())=some (l.flatMap fun e=>[e.1,e.2.1],()):=by
 rw[AVd,AJZ]
 have e:=DT (step:=LU) (fun i (a:List Int)=>(a,l,AJ l,(i:Int),())) l (fun x a=>.inl (a++[x.1,x.2.1])) (fun a=>.inl (a,())) (fun i a=>a.length=2*i) (by omega)
  (fun i x a hi hx h1=>by
   refine⟨fun m' h' => ?_,fun r h'=>by cases h'⟩
   cases h'
   rw[LU,AM,AO,AhH hi]
   simp only[Ak hx]
   rw[AQ (by omega),Bd (by simp only[AM,AhO,Ahi];omega)]
   exact⟨rfl,by simp;omega⟩)
  (fun a _=>by rw[LU,AM,AO,AhF (by omega)]) [] rfl
 have e':AW LU many ([],l,AJ l,(0:Int),())=_:=e
 rw[e',Ba]
 have hf:∀ (xs:List Edge) (acc:List Int),xs.foldl (fun a x=>a++[x.1,x.2.1]) acc=acc++xs.flatMap fun e=>[e.1,e.2.1]:=by
  intro xs
  induction xs with
  |nil=>intro acc;simp
  |cons x xs ih=>intro acc;rw[AiA,ih,Aiu];simp
 rw[hf]
 rfl
theorem AOR(n:Int)(l:List Edge):((l.flatMap fun e=>[e.1,e.2.1]).all fun v=>decide (In n v))=l.all fun e=>decide (In n e.1∧In n e.2.1):=by
 induction l with
 |nil=>rfl
 |cons e l ih=>
  rw[Aiu,List.all_append,List.all_cons,ih]
  simp
theorem AOQ(l:List Edge):(l.flatMap fun e=>[e.1,e.2.1]).length=2*l.length:=by
 induction l with
 |nil=>rfl
 |cons e l ih=>rw[Aiu,AhP,ih];simp;omega
theorem ASX{n:Int}(l:List Edge)(hs:l.length<1073741824)(ha:∀ e∈l,In n e.1∧In n e.2.1):
  ∀ (m i cnt:Nat) (rings:List (List Int)) (taken:List Bool),i+m=l.length→taken.length=i→FC n rings (l.take i)→m<cnt →
  ∃ zs taken',AX By cnt (n,rings,(0:Int),taken,l,(l.length:Int),(i:Int),())=some (.inl (n,zs,(0:Int),taken',()))∧FC n zs l∧taken'.length=l.length:=by
 intro m
 induction m with
 |zero=>
  intro i cnt rings taken hi ht h hc
  obtain⟨cnt,rfl⟩:∃ c,cnt=c+1:=⟨cnt-1,by omega⟩
  rw[AiB (by omega)]at h
  refine⟨rings,taken,?_,h,by omega⟩
  rw[AX,By,AO,AhF (by omega)]
 |succ m ih=>
  intro i cnt rings taken hi ht h hc
  obtain⟨cnt,rfl⟩:∃ c,cnt=c+1:=⟨cnt-1,by omega⟩
  have hi':i<l.length:=by omega
  have hx:l[i]? = some l[i]:=AhM hi'
  obtain⟨iu,iv⟩:=ha _ (Air hi')
  obtain⟨zs,q,e1,e2,_⟩:=AVs h iu iv
  rw[AX,By,AO,AhH hi']
  simp only[Ak hx,e1]
  rw[AQ (by omega),Bd (by simp only[AM,AhO,Ahi];omega)]
  rw[← Aij hi']at e2
  exact ih (i+1) cnt zs _ (by omega) (by simp[C6,ht]) e2 (by omega)
theorem AVZ(k:Int)(l:List Edge)(hk:Sz k)(hs:l.length<1073741824):
  ((∀ e∈l,In k e.1∧In k e.2.1)∧∃ rings,fof (k,l,())=some ((k,(rings,())),0,())∧FC k rings l) ∨
  (¬ (∀ e∈l,In k e.1∧In k e.2.1)∧fof (k,l,())=some ((0,([],())),10,())):=by
 have hmany:9223372036854775808<many:=by simp only[many];omega
 rw[AS8,AOE]
 have hm:G4 k=(k,BR k.toNat,0,()):=by rw[G4,AhX hk]
 obtain⟨s1,s2⟩:=hk
 obtain⟨N,rfl⟩:=AhR (show 0≤k by omega)
 have h0:=ADD (N:=N) (by omega) (by omega)
 have hD:=h0.fr.dom
 have hRF:=Lg.2 h0.fr
 have hfl:=AOQ l
 have hth:Pd (((N:Int),(BR N,())),l.flatMap fun e=>[e.1,e.2.1],())=some (if ∀ e∈l,In (N:Int) e.1∧In (N:Int) e.2.1 then 0 else 10,()):=by
  rw[AB1 _ _ _ hD (by omega),AOR,AO0,AhX hRF]
  by_cases ha:∀ e∈l,In (N:Int) e.1∧In (N:Int) e.2.1
  ·rw[AhX ha,AhX (Ahe.2 fun e he=>AhH (ha e he))]
  ·rw[AhU ha,AhU]
   intro hc
   exact ha fun e he=>AjB (Ahe.1 hc e he)
 simp only[AE0,hm,Ah8,Dd,AhT]
 rw[T4,M7,NB,IB]
 by_cases ha:∀ e∈l,In (N:Int) e.1∧In (N:Int) e.2.1
 ·refine .inl ⟨ha,?_⟩
  rw[AhX ha]at hth
  obtain⟨zs,taken,e1,e2,_⟩:=ASX l hs ha l.length 0 many (BR N) [] (by omega) rfl (by rw[List.take_zero];exact h0) (by omega)
  have e1':AX By many ((N:Int),BR N,(0:Int),[],l,(l.length:Int),(0:Int),())=_:=e1
  simp only[ACO l hs,hth,Dd,AhT,As,AM,e1']
  exact⟨zs,rfl,e2⟩
 ·refine .inr ⟨ha,?_⟩
  rw[AhU ha]at hth
  simp only[ACO l hs,hth,Aq]
  rfl
end Go.Pev.Pl
end
section
namespace Go.Pev.Pl
open Tok
def cl(out:List Int)(v:Int):Int:=out.getD v.toNat 0
def CI(N:Nat)(l:List Edge)(out:List Int):Prop:=out.length=N∧∀ k,k<N→0≤out.getD k 0∧out.getD k 0≤(k:Int)∧Con l (k:Int) (out.getD k 0)
theorem AUL:∀ (l:List Int) (k:Nat) (x:Int),k<l.length→(l.set k x).sum=l.sum-l.getD k 0+x:=by
 intro l
 induction l with
 |nil=>intro k x h;simp at h
 |cons y l ih=>
  intro k x h
  cases k with
  |zero=>simp;omega
  |succ k=>
   have:=ih k x (by simpa using h)
   simp only[List.set_cons_succ,List.sum_cons,List.getD_cons_succ,this]
   omega
theorem Ow{N:Nat}{l:List Edge}{out:List Int}(h:CI N l out)(hN:N≤64):0≤out.sum∧out.sum≤4096:=by
 obtain⟨h1,h2⟩:=h
 have key:∀ (xs:List Int),(∀ x∈xs,0≤x∧x≤64)→0≤xs.sum∧xs.sum≤64*(xs.length:Int):=by
  intro xs
  induction xs with
  |nil=>intro _;simp
  |cons x xs ih=>
   intro h
   have h3:=ih fun y hy=>h y (Ahh _ hy)
   have h4:=h x (by simp)
   simp only[List.sum_cons,AhO]
   omega
 have:=key out fun x hx=>by
  obtain⟨k,hk,rfl⟩:=Ait hx
  have h5:=h2 k (by omega)
  rw[AhK,AhM hk,Ahp]at h5
  omega
 omega
theorem Ags(N:Nat)(l:List Edge)(hs:l.length<1073741824)(ha:∀ e∈l,In (N:Int) e.1∧In (N:Int) e.2.1):
  ∀ (m i cnt:Nat) (out:List Int) (more:Bool),i+m=l.length→CI N l out→m<cnt →
  ∃ out' more',AX C7 cnt ((N:Int),l,out,more,(i:Int),())=some (.inl ((N:Int),l,out',more',()))∧CI N l out' ∧
   ((more'=more∧out'=out∧∀ e∈l.drop i,cl out e.1=cl out e.2.1)∨(more'=true∧out'.sum<out.sum)):=by
 intro m
 induction m with
 |zero=>
  intro i cnt out more hi h hc
  obtain⟨cnt,rfl⟩:∃ c,cnt=c+1:=⟨cnt-1,by omega⟩
  refine⟨out,more,?_,h,.inl ⟨rfl,rfl,?_⟩⟩
  ·rw[AX,C7,AM,AO,AhF (by omega)]
  ·rw[AiW (by omega)]
   intro e he;cases he
 |succ m ih=>
  intro i cnt out more hi h hc
  obtain⟨cnt,rfl⟩:∃ c,cnt=c+1:=⟨cnt-1,by omega⟩
  have hi':i<l.length:=by omega
  have hx:l[i]? = some l[i]:=AhM hi'
  have hm:=Air hi'
  have hdr:l.drop i=l[i]::l.drop (i+1):=AiC hi'
  rw[AX,C7,AM,AO,AhH hi']
  simp only[Ak hx]
  rw[hdr,AQ (by omega)]
  generalize l[i]=e at *
  obtain⟨iu,iv⟩:=ha e hm
  have hcon:=Con.edge e hm
  obtain⟨eu,ev,eu'⟩:=e
  simp only at iu iv hcon ⊢
  obtain⟨u,rfl⟩:=AhR iu.2.2.1
  obtain⟨v,rfl⟩:=AhR iv.2.2.1
  have hu:u<N:=by have:=iu.2.2.2;omega
  have hv:v<N:=by have:=iv.2.2.2;omega
  have hul:u<out.length:=by rw[h.1];exact hu
  have hvl:v<out.length:=by rw[h.1];exact hv
  rw[Aj,AhF (by omega)]
  simp only[]
  rw[Aj,AhF (by omega)]
  simp only[]
  rw[A0,AhF (by omega)]
  simp only[]
  rw[A0,AhF (by omega)]
  simp only[CW (0:Int) hul,CW (0:Int) hvl,EX,AJc,Aq]
  by_cases hq:out.getD u 0=out.getD v 0
  ·rw[AhH hq]
   obtain⟨out',more',e1,e2,e3⟩:=ih (i+1) cnt out more (by omega) h (by omega)
   refine⟨out',more',e1,e2,?_⟩
   rcases e3 with⟨g1,g2,g3⟩|g
   ·refine .inl ⟨g1,g2,fun e' he' => ?_⟩
    rcases AhN.1 he' with rfl|he'
    ·simpa [cl]using hq
    ·exact g3 e' he'
   ·exact .inr g
  ·rw[AhF hq]
   have hne:u≠v:=by rintro rfl;exact hq rfl
   have hlow:Cm (out.getD u 0) (out.getD v 0)=if out.getD v 0<out.getD u 0 then out.getD v 0 else out.getD u 0:=rfl
   generalize hlw:Cm (out.getD u 0) (out.getD v 0)=low at *
   have hvl2:v<(out.set u low).length:=by simp;exact hvl
   simp only[CW (0:Int) hvl2]
   have cu:=h.2 u hu
   have cv:=h.2 v hv
   have hset:∀ k,k<N→((out.set u low).set v low).getD k 0=if k=u∨k=v then low else out.getD k 0:=by
    intro k hk
    have hkl:k<out.length:=by rw[h.1];exact hk
    by_cases k2:k=v
    ·subst k2
     simp[AhK,hkl]
    ·by_cases k1:k=u
     ·subst k1
      rw[AhX (.inl rfl),AhK,Ah3 (Ahx k2)]
      simp[hkl]
     ·rw[AhU (by omega),AhK,Ah3 (Ahx k2),Ah3 (Ahx k1),AhK]
   have hlc:0≤low∧low≤(u:Int)∧low≤(v:Int)∧Con l (u:Int) low:=by
    rw[hlow]
    split
    ·exact⟨cv.1,by omega,cv.2.1,hcon.trans cv.2.2⟩
    ·exact⟨cu.1,cu.2.1,by omega,cu.2.2⟩
   have hI:CI N l ((out.set u low).set v low):=by
    refine⟨by simp[h.1],fun k hk => ?_⟩
    rw[hset k hk]
    split
    ·rename_i hkk
     rcases hkk with rfl|rfl
     ·exact⟨hlc.1,hlc.2.1,hlc.2.2.2⟩
     ·exact⟨hlc.1,hlc.2.2.1,hcon.symm.trans hlc.2.2.2⟩
    ·exact h.2 k hk
   have hsum:((out.set u low).set v low).sum<out.sum:=by
    rw[AUL _ _ _ hvl2,AUL _ _ _ hul]
    have:(out.set u low).getD v 0=out.getD v 0:=by
     rw[AhK,Ah3 hne,← AhK]
    rw[this,hlow]
    split<;>omega
   obtain⟨out',more',e1,e2,e3⟩:=ih (i+1) cnt _ true (by omega) hI (by omega)
   refine⟨out',more',e1,e2,.inr ?_⟩
   rcases e3 with⟨g1,g2,_⟩|⟨g1,g2⟩
   ·exact⟨g1,by rw[g2];exact hsum⟩
   ·exact⟨g1,by omega⟩
theorem Af1(N:Nat)(hN:N≤64)(l:List Edge)(hs:l.length<1073741824)(ha:∀ e∈l,In (N:Int) e.1∧In (N:Int) e.2.1):
  ∀ (m cnt:Nat) (out:List Int),out.sum.toNat=m→CI N l out→m+1<cnt →
  ∃ out',AX D3 cnt ((N:Int),l,out,true,())=some (.inl (out',()))∧CI N l out'∧∀ e∈l,cl out' e.1=cl out' e.2.1:=by
 have hmany:9223372036854775808<many:=by simp only[many];omega
 intro m
 induction m using Nat.strongRecOn with
 |_ m ih=>
 intro cnt out hm h hc
 obtain⟨cnt,rfl⟩:∃ c,cnt=c+1:=⟨cnt-1,by omega⟩
 rw[AX,D3]
 obtain⟨out',more',e1,e2,e3⟩:=Ags N l hs ha l.length 0 many out false (by omega) h (by omega)
 have e1':AX C7 many ((N:Int),l,out,false,(0:Int),())=_:=e1
 simp only[As,e1']
 rcases e3 with⟨g1,g2,g3⟩|⟨g1,g2⟩
 ·subst g1 g2
  obtain⟨cnt,rfl⟩:∃ c,cnt=c+1:=⟨cnt-1,by omega⟩
  rw[AX,D3]
  exact⟨_,rfl,e2,by simpa using g3⟩
 ·subst g1
  have b1:=Ow h hN
  have b2:=Ow e2 hN
  exact ih out'.sum.toNat (by omega) cnt out' rfl e2 (by omega)
structure MC(n:Int)(l:List Edge)(out:List Int):Prop where
 len:(out.length:Int)=n
 same:∀ a b,In n a→In n b→(cl out a=cl out b↔Con l a b)
 isin:∀ a,In n a→In n (cl out a)
 con:∀ a,In n a→Con l a (cl out a)
 least:∀ a b,In n a→In n b→Con l a b→cl out a≤b
theorem DL(n:Int)(l:List Edge)(hn:Sz n)(hs:l.length<1073741824)(ha:∀ e∈l,In n e.1∧In n e.2.1):∃ out,DM (n,l,())=some (out,())∧MC n l out:=by
 have hmany:9223372036854775808<many:=by simp only[many];omega
 obtain⟨s1,s2⟩:=hn
 obtain⟨N,rfl⟩:=AhR (show 0≤n by omega)
 rw[Ra,JB]
 have key:∀ (m k cnt:Nat),k+m=N→m<cnt→AX C8 cnt ((N:Int),l,(List.range k).map (fun(k:Nat)=>(k:Int)),(k:Int),())=some (.inl ((N:Int),l,(List.range N).map (fun(k:Nat)=>(k:Int)),())):=by
  intro m
  induction m with
  |zero=>
   intro k cnt hk hc
   obtain⟨cnt,rfl⟩:∃ c,cnt=c+1:=⟨cnt-1,by omega⟩
   have:k=N:=by omega
   subst this
   rw[AX,C8,AO,AhF (by omega)]
  |succ m ih=>
   intro k cnt hk hc
   obtain⟨cnt,rfl⟩:∃ c,cnt=c+1:=⟨cnt-1,by omega⟩
   have hih:=ih (k+1) cnt (by omega) (by omega)
   rw[Aif,Aiq]at hih
   rw[AX,C8,AO,AhH (by omega)]
   simp only[]
   rw[AQ (by omega),Bd (by simp only[AM,AhO,Ahi,AiS,Ahu];omega)]
   exact hih
 have e0:=key N 0 many (by omega) (by omega)
 have e0':AX C8 many ((N:Int),l,[],(0:Int),())=_:=e0
 have h0:CI N l ((List.range N).map (fun(k:Nat)=>(k:Int))):=by
  refine⟨by simp,fun k hk => ?_⟩
  have:((List.range N).map (fun(k:Nat)=>(k:Int))).getD k 0=(k:Int):=by simp[AhK,hk]
  rw[this]
  exact⟨by omega,by omega,.refl _⟩
 have hb:=Ow h0 (by omega)
 obtain⟨out,e1,e2,e3⟩:=Af1 N (by omega) l hs ha _ many _ rfl h0 (by omega)
 simp only[As,e0',e1]
 have fact:∀ a,In (N:Int) a→0≤cl out a∧cl out a≤a∧Con l a (cl out a):=by
  intro a hia
  obtain⟨k,rfl⟩:=AhR hia.2.2.1
  have:=e2.2 k (by have:=hia.2.2.2;omega)
  simpa [cl]using this
 refine⟨out,rfl,by rw[e2.1],fun a b ia ib=>⟨fun h => ?_,fun h=>h.const e3⟩,fun a ia => ?_,fun a ia=>(fact a ia).2.2,fun a b ia ib h => ?_⟩
 ·have h1:=(fact a ia).2.2
  have h2:=(fact b ib).2.2
  rw[← h]at h2
  exact h1.trans h2.symm
 ·have:=fact a ia
  have h3:=ia.2.2.2
  exact⟨s1,s2,by omega,by omega⟩
 ·have h1:cl out a=cl out b:=h.const e3
  have:=(fact b ib).2.1
  omega
end Go.Pev.Pl
end
end
section
namespace Go.Pev.Pl
def Low(l:List Edge)(k:Nat):Prop:=∀ j:Nat,j<k→¬ Con l (j:Int) (k:Int)
noncomputable def Abx(l:List Edge)(k:Nat):Bool:=@decide (Low l k) (Classical.propDecidable _)
theorem Hw(l:List Edge)(k:Nat):Abx l k=true↔Low l k:=by
 unfold Abx
 exact @decide_eq_true_iff _ (Classical.propDecidable _)
noncomputable def cc(N:Nat)(l:List Edge):Nat:=(List.range N).countP (Abx l)
noncomputable def DS(l:List Edge)(a b:Int):Bool:=@decide (Con l a b) (Classical.propDecidable _)
theorem BY(l:List Edge)(a b:Int):DS l a b=true↔Con l a b:=by
 unfold DS
 exact @decide_eq_true_iff _ (Classical.propDecidable _)
theorem IM(l:List Edge)(a b:Int):DS l a b=false↔¬ Con l a b:=by
 rw[← BY];cases DS l a b<;>simp
theorem Con.sub{l l':List Edge}(h:∀ e∈l,e∈l'){a b:Int}(c:Con l a b):Con l' a b:=c.mono fun e he=>⟨e,h e he,.inl ⟨rfl,rfl⟩⟩
theorem Con.cut{l l':List Edge}(h:∀ e∈l,Con l' e.1 e.2.1){a b:Int}(c:Con l a b):Con l' a b:=by
 induction c with
 |refl a=>exact .refl a
 |edge e he=>exact h e he
 |symm _ ih=>exact ih.symm
 |trans _ _ ih1 ih2=>exact ih1.trans ih2
theorem Abw(l:List Edge):∀ v:Nat,∃ m:Nat,m≤v∧Con l (m:Int) (v:Int)∧Low l m:=by
 intro v
 induction v using Nat.strongRecOn with
 |ind v ih=>
  by_cases h:Low l v
  ·exact⟨v,AhQ _,.refl _,h⟩
  ·have:∃ j:Nat,j<v∧Con l (j:Int) (v:Int):=AiF fun hn=>h fun j hj hc=>hn ⟨j,hj,hc⟩
   obtain⟨j,hj,hc⟩:=this
   obtain⟨m,h1,h2,h3⟩:=ih j hj
   exact⟨m,by omega,h2.trans hc,h3⟩
theorem Low.le{l:List Edge}{m j:Nat}(h:Low l m)(hc:Con l (m:Int) (j:Int)):m≤j:=by
 refine Nat.le_of_not_lt fun hj=>h j hj hc.symm
theorem Low.uniq{l:List Edge}{a b:Nat}(ha:Low l a)(hb:Low l b)(h:Con l (a:Int) (b:Int)):a=b:=by
 have:=ha.le h
 have:=hb.le h.symm
 omega
theorem Ac8{N:Nat}{l l':List Edge}(h:∀ j k:Nat,j<N→k<N→(Con l (j:Int) (k:Int)↔Con l' (j:Int) (k:Int))):cc N l=cc N l':=by
 unfold cc
 refine List.countP_congr fun k hk => ?_
 have hk:k<N:=by simpa using hk
 rw[Hw,Hw]
 constructor
 ·intro q j hj hc;exact q j hj ((h j k (by omega) hk).2 hc)
 ·intro q j hj hc;exact q j hj ((h j k (by omega) hk).1 hc)
theorem ACv{N:Nat}{l l':List Edge}(h:∀ a b,Con l a b↔Con l' a b):cc N l=cc N l':=Ac8 fun _ _ _ _=>h _ _
theorem AJj{l l':List Edge}(h:∀ e,e∈l↔e∈l'){a b:Int}:Con l a b↔Con l' a b:=⟨fun c=>c.sub fun e he=>(h e).1 he,fun c=>c.sub fun e he=>(h e).2 he⟩
theorem AfV{N:Nat}{l l':List Edge}(h:l.Perm l'):cc N l=cc N l':=ACv fun _ _=>AJj fun _=>h.mem_iff
theorem Agh(N:Nat):cc N []=N:=by
 unfold cc
 have:(List.range N).countP (Abx [])=(List.range N).length:=by
  rw[List.countP_eq_length]
  intro k _
  rw[Hw]
  intro j hj hc
  have:=hc.nil
  omega
 rw[this,Ahu]
theorem ACZ{P:Nat→Bool}{M:Nat}(hM:P M=true):∀ {xs:List Nat},xs.Nodup→M∈xs→xs.countP P=xs.countP (fun k=>P k && !decide (k=M))+1:=by
 intro xs
 induction xs with
 |nil=>intro _ h;cases h
 |cons x xs ih=>
  intro hn h
  rw[Aho]at hn
  rw[Aj1,Aj1]
  by_cases hx:x=M
  ·subst hx
   have:xs.countP P=xs.countP (fun k=>P k && !decide (k=x)):=by
    refine List.countP_congr fun k hk => ?_
    have:k≠x:=fun e=>hn.1 (e▸hk)
    simp[this]
   simp[hM,this]
  ·have:=ih hn.2 (by rcases AhN.1 h with h|h;exact absurd h.symm hx;exact h)
   rw[this]
   simp[hx]
   omega
def InE(N:Nat)(e:Edge):Prop:=(0≤e.1∧e.1<(N:Int))∧(0≤e.2.1∧e.2.1<(N:Int))
theorem AOf{l:List Edge}{e:Edge}(h:Con l e.1 e.2.1){a b:Int}:Con (l++[e]) a b↔Con l a b:=
 ⟨fun c=>c.cut fun x hx=>by
  rcases AhL.1 hx with hx|hx
  ·exact .edge x hx
  ·rw[Ahj]at hx;subst hx;exact h,fun c=>c.sub fun x hx=>AhL.2 (.inl hx)⟩
theorem AVi{N:Nat}{l:List Edge}{e:Edge}(he:InE N e):cc N l=cc N (l++[e])+(if DS l e.1 e.2.1=true then 0 else 1):=by
 by_cases h:Con l e.1 e.2.1
 ·rw[AhX ((BY _ _ _).2 h),Aio]
  exact ACv fun a b=>(AOf h).symm
 ·rw[AhU (fun hh=>h ((BY _ _ _).1 hh))]
  obtain⟨⟨a1,a2⟩,b1,b2⟩:=he
  obtain⟨u,hu⟩:=AhR a1
  obtain⟨v,hv⟩:=AhR b1
  have hsn:∀ {a b:Int},Con (l++[e]) a b↔Con l a b∨(Con l a (u:Int)∧Con l (v:Int) b)∨(Con l a (v:Int)∧Con l (u:Int) b):=by
   intro a b
   rw[Con.snoc,hu,hv]
  rw[hu,hv]at h
  obtain⟨p,p1,p2,p3⟩:=Abw l u
  obtain⟨q,q1,q2,q3⟩:=Abw l v
  have hpq:p≠q:=fun e=>h (p2.symm.trans (e▸q2))
  have hlow:∀ k:Nat,Low (l++[e]) k↔Low l k∧k≠max p q:=by
   intro k
   constructor
   ·intro hk
    refine⟨fun j hj hc=>hk j hj (hsn.2 (.inl hc)),fun e => ?_⟩
    refine hk (min p q) (by omega) (hsn.2 ?_)
    by_cases hlt:p<q
    ·rw[e,AiD (by omega),Aje (by omega)]
     exact .inr (.inl ⟨p2,q2.symm⟩)
    ·rw[e,Ajf (by omega),Ajl (by omega)]
     exact .inr (.inr ⟨q2,p2.symm⟩)
   ·rintro⟨hk,hne⟩ j hj hc
    rcases hsn.1 hc with hc|⟨c1,c2⟩|⟨c1,c2⟩
    ·exact hk j hj hc
    ·have e1:=q3.uniq hk (q2.trans c2)
     have e2:=p3.le (p2.trans c1.symm)
     omega
    ·have e1:=p3.uniq hk (p2.trans c2)
     have e2:=q3.le (q2.trans c1.symm)
     omega
  have hM:Abx l (max p q)=true:=by
   rw[Hw]
   by_cases hlt:p<q
   ·rw[Aje (by omega)];exact q3
   ·rw[Ajl (by omega)];exact p3
  unfold cc
  rw[ACZ hM AkS (by rw[AiN];omega)]
  congr 1
  refine List.countP_congr fun k _ => ?_
  rw[Hw,hlow,AhJ,Hw]
  simp
noncomputable def gfl:List Edge→List Edge→List Bool
 |_,[]=>[]
 |b,x::xs=>(!DS b x.1 x.2.1)::gfl (b++[x]) xs
noncomputable def MA:List Edge→List Edge→List Edge
 |_,[]=>[]
 |b,x::xs=>if DS b x.1 x.2.1=true then MA (b++[x]) xs else x::MA (b++[x]) xs
theorem AfI:∀ (xs b:List Edge),(gfl b xs).length=xs.length:=by
 intro xs
 induction xs with
 |nil=>intro b;rfl
 |cons x xs ih=>intro b;rw[gfl,AhO,AhO,ih]
theorem AN3:∀ (xs b:List Edge),(MA b xs).Sublist xs:=by
 intro xs
 induction xs with
 |nil=>intro b;exact List.Sublist.refl _
 |cons x xs ih=>
  intro b
  rw[MA]
  split
  ·exact(ih _).cons x
  ·exact(ih _).cons_cons x
theorem ACl:∀ (xs b:List Edge) {a c:Int},Con (b++xs) a c↔Con (b++MA b xs) a c:=by
 intro xs
 induction xs with
 |nil=>intro b a c;rfl
 |cons x xs ih=>
  intro b a c
  have e1:b++x::xs=(b++[x])++xs:=by simp
  rw[e1,ih,MA]
  by_cases h:Con b x.1 x.2.1
  ·rw[AhX ((BY _ _ _).2 h)]
   constructor
   ·intro q
    refine q.cut fun y hy => ?_
    rcases AhL.1 hy with hy|hy
    ·rcases AhL.1 hy with hy|hy
     ·exact .edge y (AhL.2 (.inl hy))
     ·rw[Ahj]at hy;subst hy
      exact h.sub fun z hz=>AhL.2 (.inl hz)
    ·exact .edge y (AhL.2 (.inr hy))
   ·intro q
    refine q.sub fun y hy => ?_
    rcases AhL.1 hy with hy|hy
    ·simp[hy]
    ·simp[hy]
  ·rw[AhU (fun hh=>h ((BY _ _ _).1 hh))]
   exact AJj fun y=>by simp
theorem N5{N:Nat}:∀ (xs b:List Edge),(∀ e∈xs,InE N e)→cc N b=cc N (b++xs)+(MA b xs).length:=by
 intro xs
 induction xs with
 |nil=>intro b _;simp[MA]
 |cons x xs ih=>
  intro b h
  have e1:b++x::xs=(b++[x])++xs:=by simp
  rw[AVi (h x (by simp)),ih (b++[x]) (fun e he=>h e (by simp[he])),e1,MA]
  by_cases hc:DS b x.1 x.2.1=true
  ·rw[AhX hc,AhX hc,Aio]
  ·rw[AhU hc,AhU hc,AhO]
   omega
theorem Afo{N:Nat}(xs b:List Edge)(h:∀ e∈xs,InE N e):cc N b≤cc N (b++xs)+xs.length:=by
 have:=N5 xs b h
 have:=(AN3 xs b).length_le
 omega
def Fo(N:Nat)(l:List Edge):Prop:=cc N l+l.length=N
theorem Fo.perm{N:Nat}{l l':List Edge}(h:Fo N l)(hp:l.Perm l'):Fo N l':=by
 unfold Fo at *
 rw[← AfV hp,← hp.length_eq];exact h
theorem Ac9{N:Nat}(l:List Edge)(h:∀ e∈l,InE N e):N≤cc N l+l.length:=by
 have:=Afo l [] h
 rw[Agh,Ahr]at this
 exact this
theorem Fo.front{N:Nat}{a b:List Edge}(h:Fo N (a++b))(ha:∀ e∈a,InE N e)(hb:∀ e∈b,InE N e):Fo N a:=by
 unfold Fo at *
 have h1:=Ac9 a ha
 have h2:=Afo b a hb
 rw[AhP]at h
 omega
theorem Aa4{α:Type}{a l:List α}(h:a.Sublist l):∃ r,l.Perm (a++r):=by
 induction h with
 |slnil=>exact⟨[],List.Perm.refl _⟩
 |@cons a l x _ ih=>
  obtain⟨r,hr⟩:=ih
  exact⟨x::r,(hr.cons x).trans (List.perm_middle.symm)⟩
 |@cons_cons a l x _ ih=>
  obtain⟨r,hr⟩:=ih
  exact⟨r,hr.cons x⟩
theorem Fo.sub{N:Nat}{a l:List Edge}(h:Fo N l)(hs:a.Sublist l)(hl:∀ e∈l,InE N e):Fo N a:=by
 obtain⟨r,hr⟩:=Aa4 hs
 exact(h.perm hr).front (fun e he=>hl e (hr.mem_iff.2 (AhL.2 (.inl he)))) (fun e he=>hl e (hr.mem_iff.2 (AhL.2 (.inr he))))
theorem Fo.MA{N:Nat}{b xs:List Edge}(h:Fo N (b++xs))(hb:∀ e∈b,InE N e)(hx:∀ e∈xs,InE N e):MA b xs=xs:=by
 have h1:=N5 xs b hx
 have h2:=h.front hb hx
 unfold Fo at *
 rw[AhP]at h
 exact(AN3 xs b).eq_of_length (by omega)
end Go.Pev.Pl
end
section
namespace Go.Pev.Pl
abbrev Tie:=Int×Int×Int×Bool×Unit
abbrev zT:Tie:=(0,0,0,false,())
def ahead(p x:Tie):Prop:=p.1<x.1∨(p.1=x.1∧p.2.1<x.2.1)
instance (p x:Tie):Decidable (ahead p x):=inferInstanceAs (Decidable (_∨_))
def ed(t:Tie):Edge:=(t.1,t.2.1,())
def trk(ts:List Tie)(k:Int):List Edge:=(ts.filter fun t=>t.2.2.2.1&&decide (k≤t.2.2.1)).map ed
theorem C3{ts:List Tie}{k:Int}{e:Edge}:e∈trk ts k↔∃ t∈ts,t.2.2.2.1=true∧k≤t.2.2.1∧ed t=e:=by
 unfold trk
 simp only[Ahd,Ahs,AhJ,AhI]
 constructor
 ·rintro⟨t,⟨h1,h2,h3⟩,h4⟩;exact⟨t,h1,h2,h3,h4⟩
 ·rintro⟨t,h1,h2,h3,h4⟩;exact⟨t,⟨h1,h2,h3⟩,h4⟩
theorem HX{ts:List Tie}{k k':Int}(h:k≤k'):∀ e∈trk ts k',e∈trk ts k:=by
 intro e he
 obtain⟨t,h1,h2,h3,h4⟩:=C3.1 he
 exact C3.2 ⟨t,h1,h2,by omega,h4⟩
noncomputable def csz(N:Nat)(l:List Edge)(v:Int):Nat:=(List.range N).countP fun(w:Nat)=>DS l v (w:Int)
theorem AJg{N:Nat}{l l':List Edge}{v v':Int}(h:∀ w:Nat,w<N→Con l v (w:Int)→Con l' v' (w:Int)):csz N l v≤csz N l' v':=by
 unfold csz
 refine List.countP_mono_left fun w hw hc => ?_
 rw[BY]at hc ⊢
 exact h w (by simpa using hw) hc
theorem AfQ{N:Nat}{l:List Edge}{v:Nat}(hv:v<N):1≤csz N l (v:Int):=by
 unfold csz
 refine List.countP_pos_iff.2 ⟨v,by simpa using hv,(BY _ _ _).2 (.refl _)⟩
theorem AfP{N:Nat}{l:List Edge}{a b:Nat}(ha:a<N)(hb:b<N)(hab:a≠b)(h:Con l (a:Int) (b:Int)):2≤csz N l (a:Int):=by
 unfold csz
 rw[ACZ (P:=fun(w:Nat)=>DS l (a:Int) (w:Int)) (M:=a) ((BY _ _ _).2 (.refl _)) AkS (by simpa using ha)]
 have:0<(List.range N).countP (fun(w:Nat)=>DS l (a:Int) (w:Int) && !decide (w=a)):=by
  refine List.countP_pos_iff.2 ⟨b,by simpa using hb,?_⟩
  rw[AhJ,BY]
  exact⟨h,by simp;omega⟩
 omega
theorem Acz{N:Nat}{l:List Edge}{e:Edge}(h:¬ Con l e.1 e.2.1):csz N (l++[e]) e.1=csz N l e.1+csz N l e.2.1:=by
 unfold csz
 have key:∀ xs:List Nat,xs.countP (fun(w:Nat)=>DS (l++[e]) e.1 (w:Int))=xs.countP (fun(w:Nat)=>DS l e.1 (w:Int))+xs.countP (fun(w:Nat)=>DS l e.2.1 (w:Int)):=by
  intro xs
  induction xs with
  |nil=>rfl
  |cons x xs ih=>
   rw[Aj1,Aj1,Aj1,ih]
   have hs:Con (l++[e]) e.1 (x:Int)↔Con l e.1 (x:Int)∨Con l e.2.1 (x:Int):=by
    rw[Con.snoc]
    constructor
    ·rintro (h|⟨_,h⟩|⟨_,h⟩)
     ·exact .inl h
     ·exact .inr h
     ·exact .inl h
    ·rintro (h|h)
     ·exact .inl h
     ·exact .inr (.inl ⟨.refl _,h⟩)
   by_cases h1:Con l e.1 (x:Int)
   ·have h2:¬ Con l e.2.1 (x:Int):=fun h2=>h (h1.trans h2.symm)
    rw[(BY _ _ _).2 (hs.2 (.inl h1)),(BY _ _ _).2 h1,(IM _ _ _).2 h2]
    simp only[Ahv,Aha,AhZ];omega
   ·by_cases h2:Con l e.2.1 (x:Int)
    ·rw[(BY _ _ _).2 (hs.2 (.inr h2)),(IM _ _ _).2 h1,(BY _ _ _).2 h2]
     simp only[Ahv,Aha,AhZ];omega
    ·rw[(IM _ _ _).2 (fun h=>(hs.1 h).elim h1 h2),(IM _ _ _).2 h1,(IM _ _ _).2 h2]
     simp only[Aha,AhZ,Aio]
 exact key _
end Go.Pev.Pl
end
section
namespace Go.Pev.Pl
def Z8(top:Int)(t:Tie):Tie:=(t.1,t.2.1,min top (t.2.2.1+1),t.2.2.2.1,())
def Fx(t:Tie):Tie:=(t.1,t.2.1,t.2.2.1,true,())
def both(S:Int→Bool)(t:Tie):Bool:=S t.1&&S t.2.1
def AVa(S:Int→Bool)(t:Tie):Prop:=S t.1≠S t.2.1
instance (S:Int→Bool)(t:Tie):Decidable (AVa S t):=inferInstanceAs (Decidable (_≠_))
def rT(S:Int→Bool)(top i:Int)(t:Tie):Tie:=if t.2.2.2.1=true∧t.2.2.1=i∧both S t=true then Z8 top t else t
def rO(S:Int→Bool)(top i:Int)(t:Tie):Tie:=if t.2.2.2.1=false∧t.2.2.1=i∧both S t=true then Z8 top t else t
def rB(S:Int→Bool)(top i:Int)(t:Tie):Tie:=if t.2.2.1=i∧both S t=true then Z8 top t else t
theorem Qa(S:Int→Bool)(top i:Int)(t:Tie):ed (rT S top i t)=ed t:=by unfold rT;split<;>rfl
theorem AUk(S:Int→Bool)(top i:Int)(t:Tie):ed (rO S top i t)=ed t:=by unfold rO;split<;>rfl
theorem Ij(S:Int→Bool)(top i:Int)(t:Tie):(rT S top i t).2.2.2.1=t.2.2.2.1:=by unfold rT;split<;>rfl
theorem YA(S:Int→Bool)(top i:Int)(t:Tie):(rO S top i t).2.2.2.1=t.2.2.2.1:=by unfold rO;split<;>rfl
theorem AAA{S:Int→Bool}{top i:Int}{t:Tie}(h:t.2.2.1≤top):t.2.2.1≤(rT S top i t).2.2.1∧(rT S top i t).2.2.1≤top:=by
 unfold rT
 split
 ·show t.2.2.1≤min top (t.2.2.1+1)∧min top (t.2.2.1+1)≤top
  omega
 ·omega
theorem AH3{S:Int→Bool}{top i:Int}{t:Tie}(h:t.2.2.1≤top):t.2.2.1≤(rO S top i t).2.2.1∧(rO S top i t).2.2.1≤top:=by
 unfold rO
 split
 ·show t.2.2.1≤min top (t.2.2.1+1)∧min top (t.2.2.1+1)≤top
  omega
 ·omega
theorem AQ8{S:Int→Bool}{top i:Int}{t:Tie}(h:t.2.2.2.1=true):rO S top i t=t:=by
 unfold rO
 rw[AhU]
 rintro⟨a,_⟩
 rw[h]at a;cases a
theorem Ik{S:Int→Bool}{top i:Int}{t:Tie}(h:t.2.2.2.1=false):rT S top i t=t:=by
 unfold rT
 rw[AhU]
 rintro⟨a,_⟩
 rw[h]at a;cases a
theorem X1{f:Tie→Tie}(k:Int)(h1:∀ t,ed (f t)=ed t)(h2:∀ t,(f t).2.2.2.1=t.2.2.2.1)(ts:List Tie)(h3:∀ t∈ts,t.2.2.2.1=true→(k≤(f t).2.2.1↔k≤t.2.2.1)):trk (ts.map f) k=trk ts k:=by
 induction ts with
 |nil=>rfl
 |cons t ts ih=>
  have:=ih fun x hx=>h3 x (by simp[hx])
  unfold trk at *
  rw[Ahq,AiV,AiV,h2]
  have ht:=h3 t (by simp)
  cases hh:t.2.2.2.1
  ·simp only[Ajd,Aha,AhZ];exact this
  ·have hd:decide (k≤(f t).2.2.1)=decide (k≤t.2.2.1):=Aik.2 (ht hh)
   rw[hd]
   simp only[AjH]
   split
   ·rw[Ahq,Ahq,h1,this]
   ·exact this
section
variable {N:Nat} {top:Int} {O:List Tie} {S:Int→Bool} {i:Int} {c:Int}
theorem PI{k:Int}{e:Edge}:e∈trk (O.map (rT S top i)) k↔∃ t∈O,t.2.2.2.1=true∧k≤(rT S top i t).2.2.1∧ed t=e:=by
 rw[C3]
 constructor
 ·rintro⟨t,ht,h1,h2,h3⟩
  obtain⟨x,hx,rfl⟩:=Ahd.1 ht
  rw[Ij]at h1
  rw[Qa]at h3
  exact⟨x,hx,h1,h2,h3⟩
 ·rintro⟨t,ht,h1,h2,h3⟩
  exact⟨_,Ahd.2 ⟨t,ht,rfl⟩,by rw[Ij];exact h1,h2,by rw[Qa];exact h3⟩
theorem CY{k:Int}(hk:k≤i)(hit:i≤top):trk (O.map (rT S top i)) k=trk O k:=by
 refine X1 k (Qa S top i) (Ij S top i) O fun t _ _ => ?_
 unfold rT
 split
 ·rename_i h
  show k≤min top (t.2.2.1+1)↔_
  omega
 ·rfl
theorem AKv{k:Int}(hk:i+2≤k):trk (O.map (rT S top i)) k=trk O k:=by
 refine X1 k (Qa S top i) (Ij S top i) O fun t _ _ => ?_
 unfold rT
 split
 ·rename_i h
  show k≤min top (t.2.2.1+1)↔_
  omega
 ·rfl
theorem Ki(hl:∀ t∈O,t.2.2.1≤top)(k:Int):∀ e∈trk O k,e∈trk (O.map (rT S top i)) k:=by
 intro e he
 obtain⟨t,h1,h2,h3,h4⟩:=C3.1 he
 have:=AAA (S:=S) (i:=i) (hl t h1)
 exact PI.2 ⟨t,h1,h2,by omega,h4⟩
variable (hS:∀ a b,Con (trk O i) a b→S a=S b)
include hS
theorem Ac1(hl:∀ t∈O,t.2.2.1≤top)(hit:i+1≤top){a b:Int}(h:Con (trk O i) a b)(ha:S a=true):Con (trk (O.map (rT S top i)) (i+1)) a b:=by
 have key:∀ {a b:Int},Con (trk O i) a b→S a=true→Con (trk (O.map (rT S top i)) (i+1)) a b:=by
  intro a b h
  induction h with
  |refl a=>intro _;exact .refl a
  |edge e he=>
   intro ha
   obtain⟨t,h1,h2,h3,rfl⟩:=C3.1 he
   have hb:S t.2.1=true:=by
    have:=hS _ _ (.edge _ he)
    exact this.symm.trans ha
   have hm:ed t∈trk (O.map (rT S top i)) (i+1):=by
    refine PI.2 ⟨t,h1,h2,?_,rfl⟩
    by_cases hlv:t.2.2.1=i
    ·unfold rT
     rw[AhX ⟨h2,hlv,by unfold both;rw[show S t.1=true from ha,hb];rfl⟩]
     show i+1≤min top (t.2.2.1+1)
     omega
    ·have:=AAA (S:=S) (i:=i) (hl t h1)
     omega
   exact .edge _ hm
  |symm h ih=>
   intro ha
   exact(ih (by rw[hS _ _ h];exact ha)).symm
  |trans h1 _ ih1 ih2=>
   intro ha
   exact(ih1 ha).trans (ih2 (by rw[← hS _ _ h1];exact ha))
 exact key h ha
theorem AOg(hit:i≤top){a b:Int}(h:Con (trk (O.map (rT S top i)) (i+1)) a b)(ha:S a=false):Con (trk O (i+1)) a b:=by
 have low:∀ {a b:Int},Con (trk (O.map (rT S top i)) (i+1)) a b→S a=S b:=fun h=>hS _ _ (by
  have:=h.sub (HX (ts:=O.map (rT S top i)) (show i≤i+1 by omega))
  rw[CY (AkJ i) hit]at this
  exact this)
 have key:∀ {a b:Int},Con (trk (O.map (rT S top i)) (i+1)) a b→S a=false→Con (trk O (i+1)) a b:=by
  intro a b h
  induction h with
  |refl a=>intro _;exact .refl a
  |edge e he=>
   intro ha
   obtain⟨t,h1,h2,h3,rfl⟩:=PI.1 he
   refine .edge _ (C3.2 ⟨t,h1,h2,?_,rfl⟩)
   unfold rT at h3
   rw[AhU]at h3
   ·exact h3
   ·rintro⟨_,_,hb⟩
    unfold both at hb
    rw[show S t.1=false from ha]at hb
    cases hb
  |symm h ih=>
   intro ha
   exact(ih (by rw[low h];exact ha)).symm
  |trans h1 _ ih1 ih2=>
   intro ha
   exact(ih1 ha).trans (ih2 (by rw[← low h1];exact ha))
 exact key h ha
end
end Go.Pev.Pl
end
section
namespace Go.Pev.Pl
theorem Fo.AU6{N:Nat}{l:List Edge}{e:Edge}(h:Fo N (l++[e]))(hl:∀ x∈l,InE N x)(he:InE N e):¬ Con l e.1 e.2.1:=by
 intro hc
 have h1:=AVi (N:=N) (l:=l) he
 rw[AhX ((BY _ _ _).2 hc)]at h1
 have h2:=Ac9 l hl
 unfold Fo at h
 rw[AhP,Ajt]at h
 omega
theorem X2{N:Nat}{O:List Tie}(h:∀ x∈O,InE N (ed x))(k:Int):∀ e∈trk O k,InE N e:=by
 intro e he
 obtain⟨t,h1,_,_,rfl⟩:=C3.1 he
 exact h t h1
theorem DU(A B:List Tie)(k:Int):trk (A++B) k=trk A k++trk B k:=by
 unfold trk;rw[Ai4,Aiq]
theorem SV(S:Int→Bool)(top i:Int)(A:List Tie)(k:Int):trk (A.map (rO S top i)) k=trk A k:=
 X1 k (AUk S top i) (YA S top i) A fun t _ h=>by rw[AQ8 h]
structure Snd(N:Nat)(top:Int)(O:List Tie):Prop where
 lvl:∀ x∈O,0≤x.2.2.1∧x.2.2.1≤top
 ins:∀ x∈O,InE N (ed x)
 fo:Fo N (trk O 0)
 lie:∀ x∈O,x.2.2.2.1=false→Con (trk O x.2.2.1) x.1 x.2.1
 halv:∀ k:Nat,(k:Int)≤top→∀ v:Nat,v<N→csz N (trk O k) v≤max 1 (N/2 ^ k)
structure Oh(N:Nat)(top:Int)(t:Edge)(j:Int)(O:List Tie):Prop where
 lvl:∀ x∈O,0≤x.2.2.1∧x.2.2.1≤top
 ins:∀ x∈O,InE N (ed x)
 it:InE N t
 fo:Fo N (trk O 0++[t])
 lie1:∀ x∈O,x.2.2.2.1=false→j≤x.2.2.1→Con (trk O x.2.2.1) x.1 x.2.1
 lie2:∀ x∈O,x.2.2.2.1=false→x.2.2.1<j→Con (trk O x.2.2.1++[t]) x.1 x.2.1
 halv:∀ k:Nat,(k:Int)≤top→∀ v:Nat,v<N→csz N (trk O k) v≤max 1 (N/2 ^ k)
 halt:∀ k:Nat,(k:Int)<j→(k:Int)≤top→∀ v:Nat,v<N→csz N (trk O k++[t]) v≤max 1 (N/2 ^ k)
structure Px(N:Nat)(t:Edge)(i:Nat)(O:List Tie)(S:Int→Bool)(c:Nat):Prop where
 cN:c<N
 at_:t.1=(c:Int)∨t.2.1=(c:Int)
 side:∀ w:Nat,w<N→(S (w:Int)=true↔Con (trk O i) (c:Int) (w:Int))
 less:2*csz N (trk O i) (c:Int)≤csz N (trk O i) t.1+csz N (trk O i) t.2.1
section
variable {N:Nat} {top:Int} {t:Edge} {O:List Tie} {S:Int→Bool} {i c:Nat}
theorem Px.closed(hL:Px N t i O S c)(hi:∀ x∈O,InE N (ed x)):∀ a b,Con (trk O i) a b→S a=S b:=by
 intro a b h
 rcases Con.within (I:=fun a=>0≤a∧a<(N:Int)) (fun e he=>X2 hi i e he) h with rfl|⟨⟨a1,a2⟩,b1,b2⟩
 ·rfl
 ·obtain⟨u,rfl⟩:=AhR a1
  obtain⟨v,rfl⟩:=AhR b1
  have h1:=hL.side u (by omega)
  have h2:=hL.side v (by omega)
  rw[Aie,h1,h2]
  exact⟨fun q=>q.trans h,fun q=>q.trans h.symm⟩
theorem Px.AVS(hL:Px N t i O S c):S (c:Int)=true:=(hL.side c hL.cN).2 (.refl _)
theorem Px.con(hL:Px N t i O S c){a b:Int}(ia:0≤a∧a<(N:Int))(ib:0≤b∧b<(N:Int))(ha:S a=true)(hb:S b=true):Con (trk O i) a b:=by
 obtain⟨u,rfl⟩:=AhR ia.1
 obtain⟨v,rfl⟩:=AhR ib.1
 exact((hL.side u (by omega)).1 ha).symm.trans ((hL.side v (by omega)).1 hb)
variable (hG:Oh N top t ((i:Int)+1) O) (hit:(i:Int)≤top) (hL:Px N t i O S c)
include hG
theorem Oh.apart(k:Nat):¬ Con (trk O (k:Int)) t.1 t.2.1:=fun h=>hG.fo.AU6 (X2 hG.ins 0) hG.it (h.sub (HX (by omega)))
include hit hL
theorem Oh.half(hi1:(i:Int)+1≤top):csz N (trk O i) (c:Int)≤N/2 ^ (i+1):=by
 obtain⟨⟨a1,a2⟩,b1,b2⟩:=hG.it
 obtain⟨u,hu⟩:=AhR a1
 have hj:=Acz (N:=N) (hG.apart i)
 have hh:=hG.halt i (by omega) hit u (by omega)
 rw[← hu,hj]at hh
 have hp:=AfQ (N:=N) (l:=trk O i) hL.cN
 have hl:=hL.less
 have e:N/2 ^ (i+1)=N/2 ^ i/2:=by rw[Nat.pow_succ,Nat.div_div_eq_div_mul]
 rw[e]
 omega
theorem Oh.Afn(k:Nat)(hk:(k:Int)≤top)(v:Nat)(hv:v<N):csz N (trk (O.map (rT S top i)) k) v≤max 1 (N/2 ^ k):=by
 have hS:=hL.closed hG.ins
 have hl:∀ x∈O,x.2.2.1≤top:=fun x hx=>(hG.lvl x hx).2
 rcases AkE k (i+1)with h|rfl|h
 ·rw[CY (by omega) hit];exact hG.halv k hk v hv
 ·cases hsv:S (v:Int)
  ·refine AiP (AJg fun w hw hc => ?_) (hG.halv (i+1) hk v hv)
   have:=AOg hS hit (a:=(v:Int)) (b:=(w:Int)) (by simpa using hc) hsv
   simpa using this
  ·have hle:csz N (trk (O.map (rT S top i)) ((i+1:Nat):Int)) v≤csz N (trk O i) (c:Int):=AJg fun w hw hc=>by
    have h1:=hc.sub (HX (ts:=O.map (rT S top i)) (show(i:Int)≤((i+1:Nat):Int) by omega))
    rw[CY (AkJ _) hit]at h1
    exact((hL.side v hv).1 hsv).trans h1
   have:=hG.half hit hL (by omega)
   omega
 ·rw[AKv (by omega)];exact hG.halv k hk v hv
omit hL
theorem Z9{x:Tie}(hx:x∈O.map (rT S top i))(h:x.2.2.2.1=false):x∈O:=by
 obtain⟨y,hy,rfl⟩:=Ahd.1 hx
 rw[Ij]at h
 rw[Ik h];exact hy
include hL
theorem Oh.ABX{x:Tie}(hx:x∈O)(h1:x.2.2.1=(i:Int))(h2:both S x=true):Con (trk (O.map (rT S top i)) (min top (x.2.2.1+1))) x.1 x.2.1:=by
 have hS:=hL.closed hG.ins
 unfold both at h2
 rw[AhJ]at h2
 have hc:=hL.con (hG.ins x hx).1 (hG.ins x hx).2 h2.1 h2.2
 by_cases hi1:(i:Int)+1≤top
 ·rw[h1,Int.min_eq_right hi1]
  exact Ac1 hS (fun x hx=>(hG.lvl x hx).2) hi1 hc h2.1
 ·rw[h1,Int.min_eq_left (by omega),show top=(i:Int) by omega]
  have:=CY (O:=O) (S:=S) (top:=top) (i:=(i:Int)) (k:=(i:Int)) (AkJ _) hit
  rw[show top=(i:Int) by omega]at this
  rw[this];exact hc
theorem Oh.next(hno:∀ x∈O.map (rT S top i),x.2.2.2.1=false→x.2.2.1=(i:Int)→¬ AVa S x):Oh N top t (i:Int) ((O.map (rT S top i)).map (rO S top i)):=by
 have hS:=hL.closed hG.ins
 have hl:∀ x∈O,x.2.2.1≤top:=fun x hx=>(hG.lvl x hx).2
 have hmem:∀ x∈(O.map (rT S top i)).map (rO S top i),∃ y∈O,x=rO S top i (rT S top i y):=fun x hx=>by
  obtain⟨z,hz,rfl⟩:=Ahd.1 hx
  obtain⟨y,hy,rfl⟩:=Ahd.1 hz
  exact⟨y,hy,rfl⟩
 have hlv:∀ y∈O,y.2.2.1≤(rO S top i (rT S top i y)).2.2.1∧(rO S top i (rT S top i y)).2.2.1≤top:=fun y hy=>by
  have h1:=AAA (S:=S) (i:=(i:Int)) (hl y hy)
  have h2:=AH3 (S:=S) (i:=(i:Int)) h1.2
  omega
 have hoth:∀ x∈(O.map (rT S top i)).map (rO S top i),x.2.2.2.1=false→∃ y∈O,y.2.2.2.1=false∧x=rO S top i y:=fun x hx h=>by
  obtain⟨y,hy,rfl⟩:=hmem x hx
  rw[YA,Ij]at h
  exact⟨y,hy,h,by rw[Ik h]⟩
 refine⟨fun x hx => ?_,fun x hx => ?_,hG.it,?_,fun x hx h hj => ?_,fun x hx h hj => ?_,fun k hk v hv => ?_,fun k hk1 hk2 v hv => ?_⟩
 ·obtain⟨y,hy,rfl⟩:=hmem x hx
  have:=hlv y hy
  have:=(hG.lvl y hy).1
  omega
 ·obtain⟨y,hy,rfl⟩:=hmem x hx
  rw[AUk,Qa];exact hG.ins y hy
 ·rw[SV,CY (by omega) hit];exact hG.fo
 ·obtain⟨y,hy,hf,rfl⟩:=hoth x hx h
  rw[SV]
  by_cases hr:y.2.2.1=(i:Int)∧both S y=true
  ·have he:rO S top i y=Z8 top y:=by unfold rO;rw[AhX ⟨hf,hr.1,hr.2⟩]
   rw[he]
   exact hG.ABX hit hL hy hr.1 hr.2
  ·have he:rO S top i y=y:=by unfold rO;rw[AhU (fun q=>hr ⟨q.2.1,q.2.2⟩)]
   rw[he]at hj ⊢
   by_cases hi:y.2.2.1=(i:Int)
   ·have hnb:¬ both S y=true:=fun q=>hr ⟨hi,q⟩
    have hne:=hno y (Ahd.2 ⟨y,hy,Ik hf⟩) hf hi
    have h2:=hG.lie2 y hy hf (by omega)
    rw[hi,CY (AkJ _) hit]
    rw[hi]at h2
    unfold AVa at hne
    have hne:=Ajp.1 hne
    have hfalse:S y.1=false∧S y.2.1=false:=by
     unfold both at hnb
     rw[← hne]at hnb ⊢
     cases hsy:S y.1
     ·exact⟨rfl,rfl⟩
     ·rw[hsy]at hnb;exact absurd rfl hnb
    rw[Con.snoc]at h2
    rcases h2 with h2|⟨q1,q2⟩|⟨q1,q2⟩
    ·exact h2
    ·have e1:=hS _ _ q1
     have e2:=hS _ _ q2
     rcases hL.at_ with hc|hc
     ·rw[hc,hL.AVS,hfalse.1]at e1;cases e1
     ·rw[hc,hL.AVS,hfalse.2]at e2;cases e2
    ·have e1:=hS _ _ q1
     have e2:=hS _ _ q2
     rcases hL.at_ with hc|hc
     ·rw[hc,hL.AVS,hfalse.2]at e2;cases e2
     ·rw[hc,hL.AVS,hfalse.1]at e1;cases e1
   ·exact(hG.lie1 y hy hf (by omega)).sub (Ki hl _)
 ·obtain⟨y,hy,hf,rfl⟩:=hoth x hx h
  have h1:=AH3 (S:=S) (i:=(i:Int)) (hl y hy)
  have he:rO S top i y=y:=by unfold rO;rw[AhU (fun q=>by have:=q.2.1;omega)]
  rw[he]at hj ⊢
  rw[SV,CY (by omega) hit]
  exact hG.lie2 y hy hf (by omega)
 ·rw[SV];exact hG.Afn hit hL k hk v hv
 ·rw[SV,CY (by omega) hit];exact hG.halt k (by omega) hk2 v hv
theorem Oh.found{A B:List Tie}{x:Tie}(hsp:O.map (rT S top i)=A++x::B)(hf:x.2.2.2.1=false)(hi:x.2.2.1=(i:Int))(hx:AVa S x):
  Snd N top (A.map (rO S top i)++Fx x::B)∧Con (trk (A.map (rO S top i)++Fx x::B) 0) t.1 t.2.1:=by
 have hS:=hL.closed hG.ins
 have hl:∀ x∈O,x.2.2.1≤top:=fun x hx=>(hG.lvl x hx).2
 have hxM:x∈O.map (rT S top i):=by rw[hsp];simp
 have hxO:x∈O:=Z9 hG hit hxM hf
 have hAm:∀ y∈A,y∈O.map (rT S top i):=fun y hy=>by rw[hsp];simp[hy]
 have hBm:∀ y∈B,y∈O.map (rT S top i):=fun y hy=>by rw[hsp];simp[hy]
 have hml:∀ y∈O.map (rT S top i),0≤y.2.2.1∧y.2.2.1≤top:=fun y hy=>by
  obtain⟨z,hz,rfl⟩:=Ahd.1 hy
  have:=AAA (S:=S) (i:=(i:Int)) (hl z hz)
  have:=(hG.lvl z hz).1
  omega
 have hme:∀ y∈O.map (rT S top i),InE N (ed y):=fun y hy=>by
  obtain⟨z,hz,rfl⟩:=Ahd.1 hy
  rw[Qa];exact hG.ins z hz
 have hxt:trk [x]=fun _=>[]:=by
  funext k
  unfold trk
  rw[AiV,hf]
  rfl
 have hat:∀ k,trk [Fx x] k=if k≤(i:Int)then [ed x]else []:=by
  intro k
  unfold trk
  have q1:(Fx x).2.2.1=(i:Int):=hi
  have q2:(Fx x).2.2.2.1=true:=rfl
  rw[AiV,q1,q2]
  by_cases hk:k≤(i:Int)
  ·rw[AhX hk,AhH hk];rfl
  ·rw[AhU hk,AhF hk];rfl
 have hM:∀ k,trk (O.map (rT S top i)) k=trk A k++trk B k:=by
  intro k
  rw[hsp,show A++x::B=A++([x]++B)from rfl,DU,DU,hxt,Ahr]
 have hO':∀ k,trk (A.map (rO S top i)++Fx x::B) k=trk A k++((if k≤(i:Int)then [ed x]else [])++trk B k):=by
  intro k
  rw[show A.map (rO S top i)++Fx x::B=A.map (rO S top i)++([Fx x]++B)from rfl,DU,DU,SV,hat]
 have hsup:∀ k,∀ e∈trk (O.map (rT S top i)) k,e∈trk (A.map (rO S top i)++Fx x::B) k:=by
  intro k e he
  rw[hM]at he
  rw[hO']
  rcases AhL.1 he with he|he
  ·exact AhL.2 (.inl he)
  ·exact AhL.2 (.inr (AhL.2 (.inr he)))
 have hxin:∀ k,k≤(i:Int)→ed x∈trk (A.map (rO S top i)++Fx x::B) k:=by
  intro k hk
  rw[hO',AhX hk];simp
 have h2:=hG.lie2 x hxO hf (by omega)
 rw[hi]at h2
 have ht:Con (trk O i++[ed x]) t.1 t.2.1:=by
  have up:∀ {a b:Int},Con (trk O i) a b→Con (trk O i++[ed x]) a b:=fun c=>c.sub fun e he=>AhL.2 (.inl he)
  have hxe:Con (trk O i++[ed x]) x.1 x.2.1:=.edge (l:=trk O i++[ed x]) (ed x) (by simp)
  rw[Con.snoc]at h2
  rcases h2 with h2|⟨q1,q2⟩|⟨q1,q2⟩
  ·exact absurd (hS _ _ h2) hx
  ·exact((up q1).symm.trans hxe).trans (up q2).symm
  ·exact((up q2).trans hxe.symm).trans (up q1)
 have ht':∀ k,k≤(i:Int)→Con (trk (A.map (rO S top i)++Fx x::B) k) t.1 t.2.1:=by
  intro k hk
  refine ht.sub fun e he => ?_
  rcases AhL.1 he with he|he
  ·exact HX hk _ (hsup _ _ (Ki hl _ _ he))
  ·rw[Ahj]at he;subst he;exact hxin k hk
 refine⟨⟨fun y hy => ?_,fun y hy => ?_,?_,fun y hy h => ?_,fun k hk v hv => ?_⟩,ht' 0 (by omega)⟩
 ·rcases AhL.1 hy with hy|hy
  ·obtain⟨z,hz,rfl⟩:=Ahd.1 hy
   have h1:=hml z (hAm z hz)
   have:=AH3 (S:=S) (i:=(i:Int)) h1.2
   omega
  ·rcases AhN.1 hy with rfl|hy
   ·exact hG.lvl x hxO
   ·exact hml y (hBm y hy)
 ·rcases AhL.1 hy with hy|hy
  ·obtain⟨z,hz,rfl⟩:=Ahd.1 hy
   rw[AUk];exact hme z (hAm z hz)
  ·rcases AhN.1 hy with rfl|hy
   ·exact hG.ins x hxO
   ·exact hme y (hBm y hy)
 ·rw[hO',AhX (by omega)]
  have hM0:=hM 0
  rw[CY (by omega) hit]at hM0
  have hp:(trk A 0++([ed x]++trk B 0)).Perm (trk O 0++[ed x]):=by
   rw[hM0,AiM]
   exact List.Perm.append_left _ Ai0
  refine Fo.perm ?_ hp.symm
  have hfo:=hG.fo
  have hcc:cc N (trk O 0++[ed x])=cc N (trk O 0++[t]):=ACv fun a b=>by
   have m0:=HX (ts:=O) (show(0:Int)≤(i:Int) by omega)
   constructor
   ·intro c
    refine c.cut fun e he => ?_
    rcases AhL.1 he with he|he
    ·exact .edge _ (AhL.2 (.inl he))
    ·rw[Ahj]at he;subst he
     refine h2.sub fun e he => ?_
     rcases AhL.1 he with he|he
     ·exact AhL.2 (.inl (m0 _ he))
     ·exact AhL.2 (.inr he)
   ·intro c
    refine c.cut fun e he => ?_
    rcases AhL.1 he with he|he
    ·exact .edge _ (AhL.2 (.inl he))
    ·rw[Ahj]at he;subst he
     refine ht.sub fun e he => ?_
     rcases AhL.1 he with he|he
     ·exact AhL.2 (.inl (m0 _ he))
     ·exact AhL.2 (.inr he)
  unfold Fo at hfo ⊢
  rw[hcc,AhP]at *
  exact hfo
 ·-- others
  have key:∀ y:Tie,y∈O→y.2.2.2.1=false→Con (trk (A.map (rO S top i)++Fx x::B) y.2.2.1) y.1 y.2.1:=by
   intro y hy h
   by_cases hle:y.2.2.1≤(i:Int)
   ·refine(hG.lie2 y hy h (by omega)).cut fun e he => ?_
    rcases AhL.1 he with he|he
    ·exact .edge _ (hsup _ _ (Ki hl _ _ he))
    ·rw[Ahj]at he;subst he;exact ht' _ hle
   ·exact(hG.lie1 y hy h (by omega)).sub fun e he=>hsup _ _ (Ki hl _ _ he)
  rcases AhL.1 hy with hy|hy
  ·obtain⟨z,hz,rfl⟩:=Ahd.1 hy
   rw[YA]at h
   have hzO:=Z9 hG hit (hAm z hz) h
   by_cases hr:z.2.2.1=(i:Int)∧both S z=true
   ·have he:rO S top i z=Z8 top z:=by unfold rO;rw[AhX ⟨h,hr.1,hr.2⟩]
    rw[he]
    exact(hG.ABX hit hL hzO hr.1 hr.2).sub (hsup _)
   ·have he:rO S top i z=z:=by unfold rO;rw[AhU (fun q=>hr ⟨q.2.1,q.2.2⟩)]
    rw[he]
    exact key z hzO h
  ·rcases AhN.1 hy with rfl|hy
   ·cases h
   ·exact key y (Z9 hG hit (hBm y hy) h) h
 ·by_cases hki:(k:Int)≤(i:Int)
  ·refine AiP (AJg fun w hw hc => ?_) (hG.halt k (by omega) hk v hv)
   refine hc.cut fun e he => ?_
   rw[hO',AhX hki]at he
   have hMk:=hM (k:Int)
   rw[CY hki hit]at hMk
   rcases AhL.1 he with he|he
   ·exact .edge _ (AhL.2 (.inl (by rw[hMk];simp[he])))
   ·rcases AhL.1 he with he|he
    ·rw[Ahj]at he;subst he
     refine h2.sub fun e he => ?_
     rcases AhL.1 he with he|he
     ·exact AhL.2 (.inl (HX hki _ he))
     ·exact AhL.2 (.inr he)
    ·exact .edge _ (AhL.2 (.inl (by rw[hMk];simp[he])))
  ·have:trk (A.map (rO S top i)++Fx x::B) (k:Int)=trk (O.map (rT S top i)) (k:Int):=by
    rw[hO',AhU hki,hM];rfl
   rw[this]
   exact hG.Afn hit hL k hk v hv
end
theorem Oh.end{N:Nat}{top:Int}{t:Edge}{O:List Tie}(h:Oh N top t 0 O):Snd N top O∧¬ Con (trk O 0) t.1 t.2.1:=by
 refine⟨⟨h.lvl,h.ins,h.fo.front (X2 h.ins 0) (fun e he=>by rw[Ahj]at he;subst he;exact h.it),fun x hx hf=>h.lie1 x hx hf (h.lvl x hx).1,h.halv⟩,h.fo.AU6 (X2 h.ins 0) h.it⟩
theorem Snd.other{N:Nat}{top:Int}{P Q:List Tie}{t:Tie}(h:Snd N top (P++t::Q))(ht:t.2.2.2.1=false):Snd N top (P++Q):=by
 have hm:∀ x∈P++Q,x∈P++t::Q:=fun x hx=>by
  rcases AhL.1 hx with hx|hx
  ·simp[hx]
  ·simp[hx]
 have htk:∀ k,trk (P++t::Q) k=trk (P++Q) k:=by
  intro k
  rw[show P++t::Q=P++([t]++Q)from rfl,DU,DU,DU]
  congr 1
  unfold trk
  rw[AiV,ht]
  rfl
 refine⟨fun x hx=>h.lvl x (hm x hx),fun x hx=>h.ins x (hm x hx),by rw[← htk];exact h.fo,fun x hx hf=>by rw[← htk];exact h.lie x (hm x hx) hf,fun k hk v hv=>by rw[← htk];exact h.halv k hk v hv⟩
theorem Snd.span{N:Nat}{top:Int}{O:List Tie}(h:Snd N top O)(a b:Int):Con (O.map ed) a b↔Con (trk O 0) a b:=by
 constructor
 ·intro c
  refine c.cut fun e he => ?_
  obtain⟨x,hx,rfl⟩:=Ahd.1 he
  cases hf:x.2.2.2.1
  ·exact(h.lie x hx hf).sub (HX (h.lvl x hx).1)
  ·exact .edge _ (C3.2 ⟨x,hx,hf,(h.lvl x hx).1,rfl⟩)
 ·intro c
  refine c.sub fun e he => ?_
  obtain⟨x,h1,_,_,rfl⟩:=C3.1 he
  exact Ahd.2 ⟨x,h1,rfl⟩
end Go.Pev.Pl
end
section
namespace Go.Pev.Pl
theorem Snd.below{N:Nat}{top:Nat}{O:List Tie}(h:Snd N (top:Int) O)(hN:N/2 ^ top≤1){x:Tie}(hx:x∈O)(hne:x.1≠x.2.1):x.2.2.1<(top:Int):=by
 have hl:=h.lvl x hx
 refine AiF fun hn => ?_
 have he:x.2.2.1=(top:Int):=by omega
 obtain⟨⟨a1,a2⟩,b1,b2⟩:=h.ins x hx
 obtain⟨u,hu⟩:=AhR a1
 obtain⟨v,hv⟩:=AhR b1
 have hc:Con (trk O (top:Int)) x.1 x.2.1:=by
  cases hf:x.2.2.2.1
  ·have:=h.lie x hx hf
   rw[he]at this;exact this
  ·exact .edge (l:=trk O (top:Int)) (ed x) (C3.2 ⟨x,hx,hf,by omega,rfl⟩)
 have hu':x.1=(u:Int):=hu
 have hv':x.2.1=(v:Int):=hv
 rw[hu',hv']at hc hne
 have h2:=AfP (N:=N) (a:=u) (b:=v) (by omega) (by omega) (by omega) hc
 have h3:=h.halv top (AkJ _) u (by omega)
 omega
theorem Snd.grown{N:Nat}{top:Int}{O O':List Tie}{come:List Edge}{new:List Tie}(h:Snd N top O)(ht:0≤top)(hp:O'.Perm (O++new))(hc:∀ e∈come,InE N e)
  (hn:∀ x∈new,x.2.2.1=0∧ed x∈come) (htr:(trk O' 0).Perm (trk O 0++MA (trk O 0) come)):Snd N top O':=by
 have hmem:∀ x,x∈O'↔x∈O∨x∈new:=fun x=>by rw[hp.mem_iff,AhL]
 have hk:∀ k:Int,0<k→∀ e,e∈trk O' k↔e∈trk O k:=by
  intro k hk e
  rw[C3,C3]
  constructor
  ·rintro⟨t,h1,h2,h3,h4⟩
   rcases(hmem t).1 h1 with h1|h1
   ·exact⟨t,h1,h2,h3,h4⟩
   ·have:=(hn t h1).1;omega
  ·rintro⟨t,h1,h2,h3,h4⟩
   exact⟨t,(hmem t).2 (.inl h1),h2,h3,h4⟩
 have hsup:∀ k:Int,∀ e∈trk O k,e∈trk O' k:=fun k e he=>by
  obtain⟨t,h1,h2,h3,h4⟩:=C3.1 he
  exact C3.2 ⟨t,(hmem t).2 (.inl h1),h2,h3,h4⟩
 refine⟨fun x hx => ?_,fun x hx => ?_,?_,fun x hx hf => ?_,fun k hkt v hv => ?_⟩
 ·rcases(hmem x).1 hx with hx|hx
  ·exact h.lvl x hx
  ·have:=(hn x hx).1;omega
 ·rcases(hmem x).1 hx with hx|hx
  ·exact h.ins x hx
  ·exact hc _ (hn x hx).2
 ·refine Fo.perm ?_ htr.symm
  have h1:=N5 come (trk O 0) hc
  have h2:cc N (trk O 0++come)=cc N (trk O 0++MA (trk O 0) come):=ACv fun a b=>ACl come (trk O 0)
  have h3:=h.fo
  unfold Fo at *
  rw[AhP]
  omega
 ·rcases(hmem x).1 hx with hx|hx
  ·exact(h.lie x hx hf).sub (hsup _)
  ·obtain⟨h0,he⟩:=hn x hx
   rw[h0,AJj fun e=>htr.mem_iff,← ACl]
   exact .edge (l:=trk O 0++come) (ed x) (AhL.2 (.inr he))
 ·by_cases hk0:k=0
  ·subst hk0
   have:csz N (trk O' ((0:Nat):Int)) (v:Int)≤N:=by
    unfold csz
    have:=List.countP_le_length (p:=fun(w:Nat)=>DS (trk O' ((0:Nat):Int)) (v:Int) (w:Int)) (l:=List.range N)
    rw[Ahu]at this
    exact this
   simp only[Nat.pow_zero,Nat.div_one]
   omega
  ·exact AiP (AJg fun w hw c=>c.sub fun e he=>(hk k (by omega) e).1 he) (h.halv k hkt v hv)
end Go.Pev.Pl
end
section
namespace Go.Pev.Pl
end Go.Pev.Pl
end
section
section
namespace Go.Pev.Pl
structure UF(N:Nat)(s:List Int)(c:Int→Int):Prop where
 len:s.length=N
 lo:∀ k,k<N→0≤s.getD k 0∧s.getD k 0≤(k:Int)
 par:∀ k,k<N→c (s.getD k 0)=c (k:Int)
 root:∀ k,k<N→s.getD k 0=(k:Int)→c (k:Int)=(k:Int)
 le:∀ k,k<N→0≤c (k:Int)∧c (k:Int)≤(k:Int)
theorem UF.idem{N:Nat}{s:List Int}{c:Int→Int}(h:UF N s c):∀ (m k:Nat),k≤m→k<N→c (c (k:Int))=c (k:Int):=by
 intro m
 induction m with
 |zero=>
  intro k hk hN
  have:=h.le k hN
  have e:c (k:Int)=(k:Int):=by omega
  rw[e,e]
 |succ m ih=>
  intro k hk hN
  have h1:=h.lo k hN
  by_cases hr:s.getD k 0=(k:Int)
  ·have e:=h.root k hN hr
   rw[e,e]
  ·obtain⟨j,hj⟩:=AhR h1.1
   have hp:=h.par k hN
   rw[hj]at hp
   rw[← hp]
   exact ih j (by omega) (by omega)
theorem UF.top{N:Nat}{s:List Int}{c:Int→Int}(h:UF N s c){k:Nat}(hk:k<N):s.getD (c (k:Int)).toNat 0=c (k:Int):=by
 have h1:=h.le k hk
 obtain⟨j,hj⟩:=AhR h1.1
 have hi:=h.idem k k (AhQ _) hk
 rw[hj]at hi ⊢
 have hjN:j<N:=by omega
 have h2:=h.lo j hjN
 have hp:=h.par j hjN
 obtain⟨i,hi'⟩:=AhR h2.1
 rw[hi']at hp
 have h3:=h.le i (by omega)
 show s.getD j 0=_
 omega
theorem Ae9(a b:Int):imax a b=max a b:=by unfold imax;split<;>omega
theorem Db{N i x:Nat}(h:(List.range N)[i]? = some x):x=i:=by
 rw[AiT]at h
 obtain⟨h1,h2⟩:=h
 simpa using h2.symm
def Afh(c:Int→Int)(u v:Int):Int→Int:=fun x=>if c x=max (c u) (c v)then min (c u) (c v)else c x
def AdN(N:Nat)(c:Int→Int)(l:List Edge):Prop:=∀ a b,In (N:Int) a→In (N:Int) b→(c a=c b↔Con l a b)
theorem AdN.snoc{N:Nat}{c:Int→Int}{l:List Edge}{e:Edge}(h:AdN N c l)(h1:In (N:Int) e.1)(h2:In (N:Int) e.2.1):AdN N (Afh c e.1 e.2.1) (l++[e]):=by
 intro a b ia ib
 rw[Con.snoc,← h a b ia ib,← h a _ ia h1,← h _ b h2 ib,← h a _ ia h2,← h _ b h1 ib]
 unfold Afh
 generalize c a=x
 generalize c b=y
 generalize c e.1=u
 generalize c e.2.1=v
 split<;>split<;>omega
end Go.Pev.Pl
end
section
namespace Go.Pev.Pl
def sh(n:Int):Prop:=0≤n∧n≤65535
instance (n:Int):Decidable (sh n):=inferInstanceAs (Decidable (_∧_))
def tw(n:Int):List Int:=[n/256,n % 256]
theorem AYn{α β:Type}(g:β→α):∀ (xs:List β) (a:List α),xs.foldl (fun a x=>a++[g x]) a=a++xs.map g:=by
 intro xs
 induction xs with
 |nil=>intro a;simp
 |cons x xs ih=>intro a;rw[AiA,ih];simp
end Go.Pev.Pl
end
section
namespace Go.Pev.Pl
abbrev Res:=Int×Int×List Int×Unit
def val(r:Res):Prop:=(0≤r.1∧r.1≤255)∧sh r.2.1∧sh (r.2.2.1.length:Int)∧∀ x∈r.2.2.1,sh x
instance (r:Res):Decidable (val r):=inferInstanceAs (Decidable (_∧_∧_∧_))
def enc(r:Res):List Int:=r.1::(tw r.2.1++(tw (r.2.2.1.length:Int)++r.2.2.1.flatMap tw))
end Go.Pev.Pl
end
section
namespace Go.Pev.Pl
theorem Ny(a:Int):ieq a a=true:=by rw[B4];simp
end Go.Pev.Pl
end
section
namespace Go.Pev.Pl
open Go.RowKit Tok
section
variable {n:Int} {rings:List (List Int)}
theorem AN2{l:List Edge}{out:List Int}(h:FC n rings l)(hc:MC n l out){A:List Int}{u:Int}(hA:A∈rings)(iu:In n u)(hu:u∈A):hd A=cl out u:=by
 have gA:=h.fr.rg A hA
 have ih:=N8 gA
 have hh:=Tw gA.2.1
 have h1:Con l u (hd A):=(h.sam u (hd A) iu ih).1 ⟨A,hA,hu,hh⟩
 have h2:=hc.least u (hd A) iu ih h1
 have h3:=hc.isin u iu
 obtain⟨K,hK,k1,k2⟩:=(h.sam u _ iu h3).2 (hc.con u iu)
 have:=h.fr.one hA hK iu.2.2.2 hu k1
 subst this
 have h4:=(Er gA.2.1).2 _ k2
 rw[gA.2.2.1]at h4
 have:hd A=A.headD 0:=rfl
 omega
end
end Go.Pev.Pl
end
section
namespace Go.Pev.Pl
def Hb(n:Nat):Int:=((@MO idI ((n:Int),())).getD (0,())).1
theorem Ag5:((List.range 65).all fun k=>decide (@MO idI ((k:Int),())=some (Hb k,())))=true:=by kernel_rfl
theorem Agn:((List.range 65).all fun k=>decide (@AIt idI ((k:Int),())=some (Hb k,())))=true:=by kernel_rfl
theorem Sa(n:Nat)(h:n≤64):MO ((n:Int),())=some (Hb n,()):=by
 rw[show MO ((n:Int),()) = @MO idI ((n:Int),())from AiX (fun i=>@MO i ((n:Int),())) ABW]
 exact AjB (Ahe.1 Ag5 n (by simp;omega))
theorem ANV(n:Nat)(h:n≤64):AIt ((n:Int),())=some (Hb n,()):=by
 rw[show AIt ((n:Int),()) = @AIt idI ((n:Int),())from AiX (fun i=>@AIt i ((n:Int),())) ABW]
 exact AjB (Ahe.1 Agn n (by simp;omega))
def AfT(a b:Int):Int:=if a<b then -1 else if b<a then 1 else 0
theorem AJk(a b:Int):Dh (a,b,())=some (AfT a b,()):=by
 rw[Gd,Ea]
 simp only[K4,K5,Ny,AhT]
 unfold AfT
 rw[Aj,Aj]
 by_cases h:a<b
 ·rw[AhH h,AhX h]
 ·rw[AhF h,AhU h]
  by_cases h':b<a
  ·rw[AhH h',AhX h']
  ·rw[AhF h',AhU h']
theorem Aec(a b:Int):orI ([a,b],())=some (if a=0 then b else a,()):=by
 rw[AIY,AFd]
 have e:=I4 (step:=Fa) (fun i=>(0,[a,b],AJ [a,b],(i:Int),())) [a,b] (fun x => !decide (x=0)) (fun i=>.inl ([a,b].getD i 0,())) (.inr (.inl (0,()))) (by simp)
  (fun i x hi hx=>by
   rw[Fa,AM,AO,AhH hi]
   simp only[Ak hx,Aq]
   have hi2:i<2:=hi
   rw[AQ (by omega)]
   have hg:[a,b].getD i 0=x:=by rw[AhK,hx];rfl
   rw[hg]
   by_cases h:x=0
   ·simp[h]
   ·simp[h])
  (by rw[Fa,AM,AO,AhF (by omega)])
 have e':AW Fa many (0,[a,b],AJ [a,b],(0:Int),())=_:=e
 rw[e']
 by_cases h:a=0
 ·by_cases h':b=0
  ·simp[h,h']
  ·simp[h,h',Aja]
 ·simp[h,Aja]
theorem AI2(p x:Tie):∃ y,KL (p,x,())=some (y,())∧ile 0 y = !decide (ahead p x):=by
 rw[Wk,LC]
 simp only[AJk,Aec]
 refine⟨_,rfl,?_⟩
 rw[A0]
 by_cases h:ahead p x
 ·rw[AhH h]
  unfold ahead at h
  unfold AfT
  rw[AhF];· rfl
  split<;>split<;>(try split)<;>omega
 ·rw[AhF h]
  unfold ahead at h
  unfold AfT
  rw[AhH];· rfl
  split<;>split<;>(try split)<;>omega
def L9(N:Nat)(ts:List Tie)(i:Nat):Prop:=
 0≤(ts.getD i zT).1∧(ts.getD i zT).1<(ts.getD i zT).2.1∧(ts.getD i zT).2.1<(N:Int)∧0≤(ts.getD i zT).2.2.1∧(ts.getD i zT).2.2.1≤Hb N∧(i=0∨ahead (ts.getD (i-1) zT) (ts.getD i zT))
instance (N:Nat)(ts:List Tie)(i:Nat):Decidable (L9 N ts i):=inferInstanceAs (Decidable (_∧_∧_∧_∧_∧_))
def trs(ts:List Tie)(k:Nat):List Edge:=(List.range k).foldl (fun a i=>if(ts.getD i zT).2.2.2.1=true then a++[ed (ts.getD i zT)]else a) []
theorem AKc{α β ρ:Type}(P:β→Prop)[DecidablePred P](g:β→α→α)(fin:α→ρ)(rt:ρ):∀ (xs:List β) (a:α),walk (fun x a=>if P x then .inl (g x a)else .inr rt) fin xs a=if ∀ x∈xs,P x then fin (xs.foldl (fun a x=>g x a) a)else rt:=by
 intro xs
 induction xs with
 |nil=>intro a;simp[walk]
 |cons x xs ih=>
  intro a
  rw[walk]
  by_cases h:P x
  ·rw[AhX h]
   simp only[]
   rw[ih]
   simp[h]
  ·rw[AhU h]
   simp[h]
theorem Yu(ts:List Tie)(k:Nat):trs ts (k+1)=if(ts.getD k zT).2.2.2.1=true then trs ts k++[ed (ts.getD k zT)]else trs ts k:=by
 unfold trs
 rw[Aif,List.foldl_append]
 rfl
theorem AGq(ts:List Tie):∀ k,(trs ts k).length≤k:=by
 intro k
 induction k with
 |zero=>exact AhQ _
 |succ k ih=>
  rw[Yu]
  split
  ·rw[AhP];simp;omega
  ·omega
theorem AdZ(ts:List Tie)(e:Edge):∀ k,e∈trs ts k→∃ i,i<k∧e=ed (ts.getD i zT):=by
 intro k
 induction k with
 |zero=>intro h;simp[trs]at h
 |succ k ih=>
  intro h
  rw[Yu]at h
  split at h
  ·rcases AhL.1 h with h|h
   ·obtain⟨i,h1,h2⟩:=ih h;exact⟨i,by omega,h2⟩
   ·simp only[Ahj]at h;exact⟨k,by omega,h⟩
  ·obtain⟨i,h1,h2⟩:=ih h;exact⟨i,by omega,h2⟩
def oks(N:Nat)(ts:List Tie):Prop:=∀ i∈List.range ts.length,L9 N ts i
instance (N:Nat)(ts:List Tie):Decidable (oks N ts):=inferInstanceAs (Decidable (∀ i∈List.range ts.length,L9 N ts i))
theorem ANZ(N:Nat)(hN:N≤64)(ts:List Tie)(hs:ts.length≤400):
  AW Dw many ((N:Int),ts,Hb N,ts,AJ ts,(0:Int),())=some (if oks N ts then .inr (.inl ((N:Int),ts,()))else .inl (false,())):=by
 have e:=DT (step:=Dw) (fun i (_:Unit)=>((N:Int),ts,Hb N,ts,AJ ts,(i:Int),())) (List.range ts.length) (fun i a=>if L9 N ts i then .inl a else .inr (.inl (false,()))) (fun _=>.inr (.inl ((N:Int),ts,()))) (fun _ _=>True) (by simp;omega)
  (fun i x a hi hx _=>by
   have:=Db hx
   subst this
   rw[Ahu]at hi
   have step:Dw ((N:Int),ts,Hb N,ts,AJ ts,(x:Int),())=if L9 N ts x then some (.inl ((N:Int),ts,Hb N,ts,AJ ts,((x+1:Nat):Int),()))else some (.inr (.inl (false,()))):=by
    rw[Dw,AM,AO,AhH hi]
    simp only[CW zT hi]
    obtain⟨t,ht⟩:∃ t,ts.getD x zT=t:=⟨_,rfl⟩
    have hk:L9 N ts x↔(0≤t.1∧t.1<t.2.1∧t.2.1<(N:Int)∧0≤t.2.2.1∧t.2.2.1≤Hb N∧(x=0∨ahead (ts.getD (x-1) zT) t)):=by unfold L9;rw[ht]
    rw[ht]
    rw[Aj,A0,A0,Aj,Aj]
    by_cases h1:t.1<0
    ·rw[AhH h1,AhU (fun h=>by obtain⟨q1,q2,q3,q4,q5,_⟩:=hk.1 h;omega)]
    rw[AhF h1]
    by_cases h2:t.2.1≤t.1
    ·rw[AhH h2,AhU (fun h=>by obtain⟨q1,q2,q3,q4,q5,_⟩:=hk.1 h;omega)]
    rw[AhF h2]
    by_cases h3:(N:Int)≤t.2.1
    ·rw[AhH h3,AhU (fun h=>by obtain⟨q1,q2,q3,q4,q5,_⟩:=hk.1 h;omega)]
    rw[AhF h3]
    by_cases h4:t.2.2.1<0
    ·rw[AhH h4,AhU (fun h=>by obtain⟨q1,q2,q3,q4,q5,_⟩:=hk.1 h;omega)]
    rw[AhF h4]
    by_cases h5:Hb N<t.2.2.1
    ·rw[AhH h5,AhU (fun h=>by obtain⟨q1,q2,q3,q4,q5,_⟩:=hk.1 h;omega)]
    rw[AhF h5]
    simp only[]
    rw[AQ (by omega),Aj]
    by_cases h6:x=0
    ·subst h6
     rw[AhF (by omega),AhX (hk.2 ⟨by omega,by omega,by omega,by omega,by omega,.inl rfl⟩)]
    ·rw[AhH (by omega),Ai (by omega),show((x:Int)-1)=((x-1:Nat):Int) by omega]
     simp only[CW zT (show x-1<ts.length by omega)]
     obtain⟨y,ey,hy⟩:=AI2 (ts.getD (x-1) zT) t
     have ey':KL (((ts.getD (x-1) zT).1,((ts.getD (x-1) zT).2.1,((ts.getD (x-1) zT).2.2.1,((ts.getD (x-1) zT).2.2.2.1,())))),(t.1,(t.2.1,(t.2.2.1,(t.2.2.2.1,())))),())=some (y,()):=ey
     simp only[ey',hy]
     by_cases h7:ahead (ts.getD (x-1) zT) t
     ·rw[AhH h7,AhX (hk.2 ⟨by omega,by omega,by omega,by omega,by omega,.inr h7⟩)]
      rfl
     ·rw[AhF h7,AhU (fun h=>by rcases(hk.1 h).2.2.2.2.2 with h|h;exact h6 h;exact h7 h)]
      rfl
   by_cases h:L9 N ts x
   ·rw[AhX h]at step ⊢
    refine⟨fun m' h' => ?_,fun r h'=>(by cases h')⟩
    cases h'
    exact⟨step,trivial⟩
   ·rw[AhU h]at step ⊢
    refine⟨fun m' h'=>(by cases h'),fun r h' => ?_⟩
    cases h'
    exact step)
  (fun a _=>by rw[Dw,Ahu,AM,AO,AhF (by omega)]) () trivial
 have e':AW Dw many ((N:Int),ts,Hb N,ts,AJ ts,(0:Int),())=_:=e
 rw[e',AKc (L9 N ts) (fun _ a=>a)]
 rfl
theorem QU(N:Nat)(hN:N≤64)(ts:List Tie)(hs:ts.length≤400):
  AW Cv many ((N:Int),ts,[],(0:Int),())=some (if oks N ts then .inr (.inl ((N:Int),ts,trs ts ts.length,()))else .inl (false,())):=by
 have e:=DT (step:=Cv) (fun i (a:List Edge)=>((N:Int),ts,a,(i:Int),())) (List.range ts.length) (fun i a=>if L9 N ts i then .inl (if(ts.getD i zT).2.2.2.1=true then a++[ed (ts.getD i zT)]else a)else .inr (.inl (false,()))) (fun a=>.inr (.inl ((N:Int),ts,a,()))) (fun i a=>a.length≤i) (by simp;omega)
  (fun i x a hi hx ha=>by
   have:=Db hx
   subst this
   rw[Ahu]at hi
   have step:Cv ((N:Int),ts,a,(x:Int),())=if L9 N ts x then some (.inl ((N:Int),ts,if(ts.getD x zT).2.2.2.1=true then a++[ed (ts.getD x zT)]else a,((x+1:Nat):Int),()))else some (.inr (.inl (false,()))):=by
    rw[Cv,AM,AO,AhH hi]
    simp only[CW zT hi,Sa N hN]
    obtain⟨t,ht⟩:∃ t,ts.getD x zT=t:=⟨_,rfl⟩
    have hk:L9 N ts x↔(0≤t.1∧t.1<t.2.1∧t.2.1<(N:Int)∧0≤t.2.2.1∧t.2.2.1≤Hb N∧(x=0∨ahead (ts.getD (x-1) zT) t)):=by unfold L9;rw[ht]
    rw[ht]
    rw[Aj,A0,A0,Aj,Aj]
    by_cases h1:t.1<0
    ·rw[AhH h1,AhU (fun h=>by obtain⟨q1,q2,q3,q4,q5,_⟩:=hk.1 h;omega)]
    rw[AhF h1]
    by_cases h2:t.2.1≤t.1
    ·rw[AhH h2,AhU (fun h=>by obtain⟨q1,q2,q3,q4,q5,_⟩:=hk.1 h;omega)]
    rw[AhF h2]
    by_cases h3:(N:Int)≤t.2.1
    ·rw[AhH h3,AhU (fun h=>by obtain⟨q1,q2,q3,q4,q5,_⟩:=hk.1 h;omega)]
    rw[AhF h3]
    by_cases h4:t.2.2.1<0
    ·rw[AhH h4,AhU (fun h=>by obtain⟨q1,q2,q3,q4,q5,_⟩:=hk.1 h;omega)]
    rw[AhF h4]
    by_cases h5:Hb N<t.2.2.1
    ·rw[AhH h5,AhU (fun h=>by obtain⟨q1,q2,q3,q4,q5,_⟩:=hk.1 h;omega)]
    rw[AhF h5]
    simp only[AM]
    have hfit:fits ((a.length:Int)+(([(t.1,t.2.1,())]:List Edge).length:Int))=true:=Bd (by simp;omega)
    rw[AQ (by omega),Aj]
    by_cases h6:x=0
    ·subst h6
     rw[AhF (by omega),AhX (hk.2 ⟨by omega,by omega,by omega,by omega,by omega,.inl rfl⟩)]
     cases ht4:t.2.2.2.1
     ·simp
     ·simp only[hfit]
      simp[ed,A4]
    ·rw[AhH (by omega),Ai (by omega),show((x:Int)-1)=((x-1:Nat):Int) by omega]
     simp only[CW zT (show x-1<ts.length by omega),Aq]
     generalize ts.getD (x-1) zT=p at hk ⊢
     rw[Aj,A0]
     by_cases h7:t.1<p.1
     ·rw[AhH h7,AhU (fun h=>by rcases(hk.1 h).2.2.2.2.2 with h|h|h<;>omega)]
     rw[AhF h7]
     by_cases h8:p.1=t.1
     ·rw[AhH h8]
      by_cases h9:t.2.1≤p.2.1
      ·rw[AhH h9,AhU (fun h=>by rcases(hk.1 h).2.2.2.2.2 with h|h|h<;>omega)]
      rw[AhF h9,AhX (hk.2 ⟨by omega,by omega,by omega,by omega,by omega,.inr (.inr ⟨h8,by omega⟩)⟩)]
      cases ht4:t.2.2.2.1
      ·simp
      ·simp only[hfit]
       simp[ed,A4]
     ·rw[AhF h8,AhX (hk.2 ⟨by omega,by omega,by omega,by omega,by omega,.inr (.inl (by omega))⟩)]
      cases ht4:t.2.2.2.1
      ·simp
      ·simp only[hfit]
       simp[ed,A4]
   by_cases h:L9 N ts x
   ·rw[AhX h]at step ⊢
    refine⟨fun m' h' => ?_,fun r h'=>(by cases h')⟩
    cases h'
    refine⟨step,?_⟩
    split
    ·rw[AhP];simp;omega
    ·omega
   ·rw[AhU h]at step ⊢
    refine⟨fun m' h'=>(by cases h'),fun r h' => ?_⟩
    cases h'
    exact step)
  (fun a _=>by rw[Cv,Ahu,AM,AO,AhF (by omega)]) [] (AhQ _)
 have e':AW Cv many ((N:Int),ts,[],(0:Int),())=_:=e
 rw[e',AKc (L9 N ts) (fun i a=>if(ts.getD i zT).2.2.2.1=true then a++[ed (ts.getD i zT)]else a)]
 rfl
end Go.Pev.Pl
end
end
section
section
namespace Go.Pev.Pl
theorem AU5{N:Nat}{ts:List Tie}(hN:N≤64){i:Nat}(h:L9 N ts i):In (N:Int) (ed (ts.getD i zT)).1∧In (N:Int) (ed (ts.getD i zT)).2.1:=by
 obtain⟨q1,q2,q3,_⟩:=h
 exact⟨⟨by omega,by omega,q1,by show(ts.getD i zT).1<_;omega⟩,⟨by omega,by omega,by show 0≤(ts.getD i zT).2.1;omega,q3⟩⟩
theorem APc{N:Nat}{ts:List Tie}(hN:N≤64)(h:oks N ts):∀ e∈trs ts ts.length,In (N:Int) e.1∧In (N:Int) e.2.1:=by
 intro e he
 obtain⟨i,hi,rfl⟩:=AdZ ts e _ he
 exact AU5 hN (h i (by simp[hi]))
theorem Age{N:Nat}{ts:List Tie}(hN:N≤64)(h:oks N ts):∀ e∈ts.map ed,In (N:Int) e.1∧In (N:Int) e.2.1:=by
 intro e he
 obtain⟨t,ht,rfl⟩:=Ahd.1 he
 obtain⟨i,hi,rfl⟩:=Ait ht
 have:=AU5 hN (h i (by simp[hi]))
 simpa [hi]using this
theorem ASN{N:Nat}(ts:List Tie)(hs:ts.length≤400)(h:oks N ts):PL (((N:Int),(ts,())),(0:Int),())=some (trs ts ts.length,()):=by
 rw[Tb,Mt]
 have e:=DT (step:=Ck) (fun i (a:List Edge)=>((0:Int),a,ts,AJ ts,(i:Int),())) (List.range ts.length) (fun i a=>.inl (if(ts.getD i zT).2.2.2.1=true then a++[ed (ts.getD i zT)]else a)) (fun a=>.inl (a,())) (fun i a=>a.length≤i) (by simp;omega)
  (fun i x a hi hx ha=>by
   refine⟨fun m' h' => ?_,fun r h'=>(by cases h')⟩
   cases h'
   have:=Db hx
   subst this
   rw[Ahu]at hi
   have hlv:=(h x (by simp[hi])).2.2.2.1
   constructor
   ·rw[Ck,AM,AO,AhH hi]
    simp only[CW zT hi,AM]
    have hfit:fits ((a.length:Int)+(([((ts.getD x zT).1,(ts.getD x zT).2.1,())]:List Edge).length:Int))=true:=Bd (by simp;omega)
    rw[AQ (by omega),A0,AhH hlv]
    cases ht4:(ts.getD x zT).2.2.2.1
    ·simp
    ·simp only[hfit]
     simp[ed,A4]
   ·split
    ·rw[AhP];simp;omega
    ·omega)
  (fun a _=>by rw[Ck,Ahu,AM,AO,AhF (by omega)]) [] (AhQ _)
 have e':AW Ck many ((0:Int),[],ts,AJ ts,(0:Int),())=_:=e
 simp only[e']
 rw[Ba (fun i a=>if(ts.getD i zT).2.2.2.1=true then a++[ed (ts.getD i zT)]else a)]
 rfl
def cnt(out:List Int)(N:Nat):Nat:=((List.range N).filter fun k=>decide (out.getD k 0=(k:Int))).length
theorem ALp{N:Nat}{rings:List (List Int)}{l:List Edge}{out:List Int}(h:FC (N:Int) rings l)(hc:MC (N:Int) l out):rings.length=cnt out N:=by
 have hsz:=h.fr.sz
 have hp:(rings.map hd).Perm (((List.range N).filter fun k=>decide (out.getD k 0=(k:Int))).map fun(k:Nat)=>(k:Int)):=by
  rw[List.perm_ext_iff_of_nodup]
  ·intro a
   simp only[Ahd,Ahs,AiN,AhI]
   constructor
   ·rintro⟨A,hA,rfl⟩
    have gA:=h.fr.rg A hA
    have ih:In (N:Int) (hd A):=N8 gA
    have hh:=Tw gA.2.1
    have:=AN2 h hc hA ih hh
    obtain⟨_,_,a1,a2⟩:=ih
    refine⟨(hd A).toNat,⟨by omega,?_⟩,by omega⟩
    rw[show out.getD (hd A).toNat 0=cl out (hd A)from rfl,← this]
    omega
   ·rintro⟨k,⟨hk,ho⟩,rfl⟩
    have ik:In (N:Int) (k:Int):=⟨hsz.1,hsz.2,by omega,by omega⟩
    obtain⟨A,hA,hm⟩:=h.fr.cov _ ik
    refine⟨A,hA,?_⟩
    rw[AN2 h hc hA ik hm]
    unfold cl
    rw[Ah8];exact ho
  ·exact(Ain.2 h.fr.up).imp (fun h=>by omega)
  ·refine List.Pairwise.map _ (S:=fun a b=>a≠b) (R:=fun a b=>a≠b) (fun a b h h'=>h (by omega)) ?_
   exact(AkS).filter _
 have:=hp.length_eq
 rw[AiS,AiS]at this
 exact this
theorem OR(N:Nat)(hN:N≤64)(p:List Tie)(q:List Edge)(out:List Int)(ho:out.length=N):AW DZ many ((N:Int),p,q,out,(0:Int),(0:Int),())=some (.inl ((N:Int),p,q,(cnt out N:Int),())):=by
 have e:=DT (step:=DZ) (fun i (a:Nat)=>((N:Int),p,q,out,(a:Int),(i:Int),())) (List.range N) (fun k a=>.inl (if out.getD k 0=(k:Int)then a+1 else a)) (fun a=>.inl ((N:Int),p,q,(a:Int),())) (fun i a=>a≤i) (by simp;omega)
  (fun i x a hi hx ha=>by
   refine⟨fun m' h' => ?_,fun r h'=>(by cases h')⟩
   cases h'
   have:=Db hx
   subst this
   rw[Ahu]at hi
   constructor
   ·rw[DZ,AO,AhH hi]
    simp only[CW 0 (show x<out.length by omega),EX,Aq]
    rw[AQ (by omega),AQ (by omega)]
    by_cases h:out.getD x 0=(x:Int)
    ·rw[AhH h,AhX h]
    ·rw[AhF h,AhU h]
   ·split<;>omega)
  (fun a _=>by rw[DZ,Ahu,AO,AhF (by omega)]) 0 (AhQ _)
 have e':AW DZ many ((N:Int),p,q,out,(0:Int),(0:Int),())=_:=e
 rw[e',Ba (fun k a=>if out.getD k 0=(k:Int)then a+1 else a)]
 have key:∀ (xs:List Nat) (a:Nat),xs.foldl (fun a k=>if out.getD k 0=(k:Int)then a+1 else a) a=a+(xs.filter fun k=>decide (out.getD k 0=(k:Int))).length:=by
  intro xs
  induction xs with
  |nil=>intro a;rfl
  |cons x xs ih=>
   intro a
   rw[AiA,ih,AiV]
   by_cases h:out.getD x 0=(x:Int)
   ·simp only[h,Ahv,AhS,AhO];omega
   ·simp only[h,AhZ,Ahg,Aha]
 rw[key,AiJ]
 rfl
theorem AC6(n:Int)(ts:List Tie)(hl:ts.length<4611686018427387904):∃ b:Bool,Du ((n,(ts,())),())=some (b,())∧PM ((n,(ts,())),())=some (b,())∧(b=true→∃ N:Nat,n=(N:Int)∧1≤N∧N≤64∧ts.length≤400∧oks N ts):=by
 by_cases hn:¬ (1≤n∧n≤64)
 ·refine⟨false,?_,?_,fun h=>by cases h⟩
  ·rw[FU,Eg,Aj,Aj]
   by_cases h:n<1
   ·simp only[AhH h]
   ·simp only[AhF h,AhH (show 64<n by omega)]
  ·rw[KI,Hv]
   simp only[Tc,Mu,A0]
   by_cases h:1≤n
   ·simp only[AhH h,AhF (show ¬ n≤64 by omega),Ahw]
   ·simp only[AhF h,Ahw]
 have hn:=Ajp.1 hn
 obtain⟨N,rfl⟩:=AhR (show 0≤n by omega)
 have hsz:Td ((N:Int),())=some (true,()):=by
  simp only[Tc,Mu,A0,AhH hn.1,AhH hn.2]
 by_cases h4:¬ ts.length≤400
 ·refine⟨false,?_,?_,fun h=>by cases h⟩
  ·rw[FU,Eg]
   simp only[Aj,AM]
   rw[AhF (show ¬ (N:Int)<1 by omega),AhF (show ¬ 64<(N:Int) by omega),AhH (show 400<(ts.length:Int) by omega)]
  ·rw[KI,Hv]
   simp only[hsz,AhT,Aj,AM]
   rw[AhH (show 400<(ts.length:Int) by omega)]
 have h4:=Ajp.1 h4
 have R:=QU N (by omega) ts h4
 have L:=ANZ N (by omega) ts h4
 by_cases ho:¬ oks N ts
 ·rw[AhU ho]at R L
  refine⟨false,?_,?_,fun h=>by cases h⟩
  ·rw[FU,Eg]
   simp only[Aj,AM]
   rw[AhF (show ¬ (N:Int)<1 by omega),AhF (show ¬ 64<(N:Int) by omega),AhF (show ¬ 400<(ts.length:Int) by omega)]
   simp only[R]
  ·rw[KI,Hv]
   simp only[hsz,AhT,Aj,AM,ANV N (by omega)]
   rw[AhF (show ¬ 400<(ts.length:Int) by omega)]
   rw[AM]at L
   simp only[L]
 have ho:=Ajp.1 ho
 rw[AhX ho]at R L
 have hin:=APc (show N≤64 by omega) ho
 have hlen:=AGq ts ts.length
 obtain⟨out,hc,hcl⟩:=DL (N:Int) (trs ts ts.length) hn (by omega) hin
 rcases(AVZ (N:Int) (trs ts ts.length) hn (by omega)).symm with⟨hno,_⟩|⟨_,rings,hf,hfc⟩
 ·exact absurd hin hno
 have hcount:=ALp hfc hcl
 have hol:out.length=N:=by have:=hcl.len;omega
 refine⟨decide ((cnt out N:Int)=(N:Int)-(trs ts ts.length).length),?_,?_,fun _=>⟨N,rfl,by omega,by omega,h4,ho⟩⟩
 ·rw[FU,Eg]
  simp only[Aj,AM]
  rw[AhF (show ¬ (N:Int)<1 by omega),AhF (show ¬ 64<(N:Int) by omega),AhF (show ¬ 400<(ts.length:Int) by omega)]
  simp only[R,hc,OR N (by omega) _ _ out hol,Aq]
  rw[Ai (by omega)]
 ·rw[KI,Hv]
  simp only[hsz,AhT,Aj,AM,ANV N (by omega)]
  rw[AhF (show ¬ 400<(ts.length:Int) by omega)]
  rw[AM]at L
  simp only[L,ASN ts h4 ho,hf,Ny,Aq,hcount]
  rw[Ai (by omega)]
end Go.Pev.Pl
end
section
namespace Go.Pev.Pl
theorem MC.unique{N:Nat}{l:List Edge}{a b:List Int}(h1:1≤N)(h2:N≤64)(ha:MC (N:Int) l a)(hb:MC (N:Int) l b):a=b:=by
 have la:=ha.len
 have lb:=hb.len
 refine G8 (0:Int) (by omega) fun k hk => ?_
 have ik:In (N:Int) (k:Int):=⟨by omega,by omega,by omega,by omega⟩
 have e1:=ha.least _ _ ik (hb.isin _ ik) (hb.con _ ik)
 have e2:=hb.least _ _ ik (ha.isin _ ik) (ha.con _ ik)
 unfold cl at e1 e2
 rw[Ah8]at e1 e2
 omega
theorem AYm(xs:List Tie)(a:List Edge):xs.foldl (fun a x=>a++[ed x]) a=a++xs.map ed:=AYn ed xs a
theorem AOS(n:Int)(ts:List Tie)(hs:ts.length≤400)(h:Du ((n,(ts,())),())=some (true,())):RH ((n,(ts,())),())=some (ts.map ed,()):=by
 rw[ACS,N2]
 simp only[h,AhT]
 have e:=DT (step:=EW) (fun i (a:List Edge)=>(n,ts,a,(i:Int),())) ts (fun x a=>.inl (a++[ed x])) (fun a=>.inl (a,())) (fun i a=>a.length≤i) (by omega)
  (fun i x a hi hx ha=>by
   refine⟨fun m' h' => ?_,fun r h'=>(by cases h')⟩
   cases h'
   constructor
   ·rw[EW]
    simp only[AM]
    rw[AO,AhH hi]
    simp only[Ak hx]
    rw[Bd (by simp;omega),AQ (by omega)]
    rfl
   ·rw[AhP];simp;omega)
  (fun a _=>by rw[EW,AM,AO,AhF (by omega)]) [] (AhQ _)
 have e':AW EW many (n,ts,[],(0:Int),())=_:=e
 simp only[e']
 rw[Ba (fun x a=>a++[ed x]),AYm]
 rfl
def InV(N:Nat)(x:Int):Prop:=0≤x∧x<(N:Int)
instance (N:Nat)(x:Int):Decidable (InV N x):=inferInstanceAs (Decidable (_∧_))
theorem Ac7{N:Nat}{out:List Int}(ho:out.length=N){u:Int}(h:InV N u):idx out u=some (cl out u):=by
 obtain⟨U,rfl⟩:=AhR h.1
 have:=h.2
 rw[CW 0 (by omega)]
 unfold cl;rw[Ah8]
end Go.Pev.Pl
end
section
namespace Go.Pev.Pl
end Go.Pev.Pl
end
section
namespace Go.Pev.Pl
def AfC(l:List Edge)(u v:Int):Prop:=((u,(v,())):Edge)∈l∨((v,(u,())):Edge)∈l
instance (l:List Edge)(u v:Int):Decidable (AfC l u v):=inferInstanceAs (Decidable (_∨_))
def AeF(N:Nat)(l:List Edge)(u:Nat):List Edge:=((List.range (N-(u+1))).filter fun i=>decide (AfC l (u:Int) ((u+1+i:Nat):Int))).map fun(i:Nat)=>((u:Int),((u+1+i:Nat):Int),())
def AAF(N:Nat)(l:List Edge):List Edge:=(List.range N).flatMap fun u=>AeF N l u
theorem AJR{α β:Type}(P:β→Prop)[DecidablePred P](g:β→α):∀ (xs:List β) (a:List α),xs.foldl (fun a x=>if P x then a++[g x]else a) a=a++(xs.filter fun x=>decide (P x)).map g:=by
 intro xs
 induction xs with
 |nil=>intro a;simp
 |cons x xs ih=>
  intro a
  rw[AiA,ih,AiV]
  by_cases h:P x
  ·simp[h]
  ·simp[h]
end Go.Pev.Pl
end
section
namespace Go.Pev.Pl
def KU(N:Nat)(ts:List Tie)(l:List Edge):List Edge:=(AAF N l).filter fun x => !decide (x∈ts.map ed)
def AAB(l:List Tie)(t:Tie):List Tie:=l.take (l.findIdx fun x => !decide (ahead x t))++t::l.drop (l.findIdx fun x => !decide (ahead x t))
end Go.Pev.Pl
end
section
namespace Go.Pev.Pl
def valid(N:Nat)(t:Tie):Prop:=0≤t.1∧t.1<t.2.1∧t.2.1<(N:Int)∧0≤t.2.2.1∧t.2.2.1≤Hb N
theorem ahead.trans{a b c:Tie}(h:ahead a b)(h':ahead b c):ahead a c:=by
 unfold ahead at *
 omega
theorem YC(N:Nat)(ts:List Tie):oks N ts↔(∀ t∈ts,valid N t)∧ts.Pairwise ahead:=by
 constructor
 ·intro h
  have hv:∀ i,i<ts.length→L9 N ts i:=fun i hi=>h i (by simpa using hi)
  refine⟨fun t ht => ?_,?_⟩
  ·obtain⟨i,hi,rfl⟩:=Ait ht
   obtain⟨q1,q2,q3,q4,q5,_⟩:=hv i hi
   simp only[AhK,AhM hi,Ahp]at q1 q2 q3 q4 q5
   exact⟨q1,q2,q3,q4,q5⟩
  ·have key:∀ (d i:Nat),i+d+1<ts.length→ahead (ts.getD i zT) (ts.getD (i+d+1) zT):=by
    intro d
    induction d with
    |zero=>
     intro i hi
     obtain⟨_,_,_,_,_,q⟩:=hv (i+0+1) hi
     rcases q with q|q
     ·omega
     ·simpa using q
    |succ d ih=>
     intro i hi
     have h1:=ih i (by omega)
     obtain⟨_,_,_,_,_,q⟩:=hv (i+(d+1)+1) hi
     rcases q with q|q
     ·omega
     ·rw[show i+(d+1)+1-1=i+d+1 by omega]at q
      exact h1.trans q
   rw[Ais]
   intro i j hi hj hij
   have:=key (j-i-1) i (by omega)
   rw[show i+(j-i-1)+1=j by omega]at this
   simpa only[AhK,AhM hi,AhM hj,Ahp]using this
 ·rintro⟨h1,h2⟩ i hi
  have hi:i<ts.length:=by simpa using hi
  have e:∀ j (hj:j<ts.length),ts.getD j zT=ts[j]:=fun j hj=>by
   simp only[AhK,AhM hj,Ahp]
  obtain⟨q1,q2,q3,q4,q5⟩:=h1 ts[i] (Air hi)
  unfold L9
  rw[e i hi]
  refine⟨q1,q2,q3,q4,q5,?_⟩
  by_cases h0:i=0
  ·exact .inl h0
  ·right
   rw[e (i-1) (by omega)]
   exact(Ais.1 h2) (i-1) i (by omega) hi (by omega)
theorem AFN(l:List Tie)(t:Tie):(AAB l t).Perm (t::l):=by
 unfold AAB
 refine List.perm_middle.trans ?_
 rw[AiG]
theorem AXD{l:List Tie}{t:Tie}(h:l.Pairwise ahead)(hn:∀ x∈l,¬ (x.1=t.1∧x.2.1=t.2.1)):(AAB l t).Pairwise ahead:=by
 induction l with
 |nil=>simp[AAB]
 |cons a l ih=>
  rw[Ah7]at h
  have hna:=hn a (by simp)
  have hnl:∀ x∈l,¬ (x.1=t.1∧x.2.1=t.2.1):=fun x hx=>hn x (by simp[hx])
  by_cases ha:ahead a t
  ·have e:AAB (a::l) t=a::AAB l t:=by
    unfold AAB
    rw[Aja]
    simp[ha]
   rw[e,Ah7]
   refine⟨fun x hx => ?_,ih h.2 hnl⟩
   rcases AhN.1 ((AFN l t).mem_iff.1 hx)with rfl|hx
   ·exact ha
   ·exact h.1 x hx
  ·have e:AAB (a::l) t=t::a::l:=by
    unfold AAB
    rw[Aja]
    simp[ha]
   have hta:ahead t a:=by unfold ahead at *;omega
   rw[e,Ah7,Ah7]
   refine⟨fun x hx => ?_,h.1,h.2⟩
   rcases AhN.1 hx with rfl|hx
   ·exact hta
   ·exact hta.trans (h.1 x hx)
end Go.Pev.Pl
end
section
namespace Go.Pev.Pl
theorem ASE(N:Nat)(l:List Edge)(x:Edge):x∈AAF N l↔0≤x.1∧x.1<x.2.1∧x.2.1<(N:Int)∧AfC l x.1 x.2.1:=by
 unfold AAF AeF
 simp only[AkR,Ahd,Ahs,AiN,AhI]
 constructor
 ·rintro⟨u,hu,i,⟨hi,he⟩,rfl⟩
  exact⟨by show(0:Int)≤(u:Int);omega,by show(u:Int)<((u+1+i:Nat):Int);omega,by show((u+1+i:Nat):Int)<(N:Int);omega,he⟩
 ·obtain⟨a,b,⟨⟩⟩:=x
  rintro⟨h1,h2,h3,h4⟩
  simp only at h1 h2 h3 h4
  obtain⟨u,rfl⟩:=AhR h1
  obtain⟨v,rfl⟩:=AhR (show 0≤b by omega)
  refine⟨u,by omega,v-(u+1),⟨by omega,?_⟩,?_⟩
  ·rw[show u+1+(v-(u+1))=v by omega];exact h4
  ·rw[show u+1+(v-(u+1))=v by omega]
def Js(p x:Edge):Prop:=p.1<x.1∨(p.1=x.1∧p.2.1<x.2.1)
theorem ALx(N:Nat)(l:List Edge):(AAF N l).Pairwise Js:=by
 unfold AAF
 rw[List.pairwise_flatMap]
 refine⟨fun u _ => ?_,?_⟩
 ·unfold AeF
  rw[Ain]
  refine Ajy _ ?_
  refine List.pairwise_lt_range.imp fun h => ?_
  exact .inr ⟨rfl,by show((u+1+_:Nat):Int)<((u+1+_:Nat):Int);omega⟩
 ·refine List.pairwise_lt_range.imp fun h x hx y hy => ?_
  unfold AeF at hx hy
  simp only[Ahd]at hx hy
  obtain⟨i,_,rfl⟩:=hx
  obtain⟨j,_,rfl⟩:=hy
  exact .inl (by simp only;omega)
theorem TN(N:Nat)(ts:List Tie)(l:List Edge)(x:Edge):x∈KU N ts l↔(0≤x.1∧x.1<x.2.1∧x.2.1<(N:Int)∧AfC l x.1 x.2.1)∧¬ x∈ts.map ed:=by
 unfold KU
 rw[Ahs,ASE]
 simp
theorem ATe(N:Nat)(ts:List Tie)(l:List Edge):(KU N ts l).Pairwise Js:=(ALx N l).filter _
end Go.Pev.Pl
end
section
namespace Go.Pev.Pl
open Tok
instance (n v:Int):Decidable (In n v):=inferInstanceAs (Decidable (_∧_))
instance (n:Int):Decidable (Sz n):=inferInstanceAs (Decidable (_∧_))
theorem Hz(n v:Int):AI7 (n,v,())=some (decide (In n v),()):=by
 rw[Ae7,ASv]
 simp only[A0,Aj]
 by_cases h1:1≤n<;>by_cases h2:n≤64<;>by_cases h3:0≤v<;>simp[In,h1,h2,h3]
theorem AGE(n u v:Int):AO1 (n,u,v,())=some (D9 n u v,()):=by
 rw[AdH,AKC]
 simp only[Hz,D9,Aq]
 by_cases h1:In n u
 ·by_cases h2:In n v
  ·by_cases h3:u=v
   ·simp[h1,h2,h3]
   ·obtain⟨a1,a2,a3,a4⟩:=h1
    obtain⟨b1,b2,b3,b4⟩:=h2
    have hb:=Fb a1 a2 a3 (by omega)
    have e1:u*n=n*u:=Int.mul_comm _ _
    have e2:n*(u+1)=n*u+n:=by rw[AkG,AkH]
    rw[e1,Ai (n:=n*u) (by omega),Ai (n:=n+n*u) (by omega),Ai (n:=n+n*u+v) (by omega),e2]
    have e3:n+n*u+v=n*u+n+v:=by omega
    simp[In,a1,a2,a3,a4,b3,b4,h3,e3]
  ·simp[h1,h2]
 ·simp[h1]
theorem Vu(n t:Int)(ht:-9223372036854775808≤t∧t≤9223372036854775807):X3 (n,t,())=some (OI (B8 n t)):=by
 rw[APl,Sb]
 simp only[Hz,Aj,A0]
 by_cases hi:In n t
 ·simp only[hi,AhS,B8,Ahv,OI]
 ·simp only[hi,Ahg]
  by_cases h1:n<1
  ·have hs:¬ Sz n:=fun h=>by have:=h.1;omega
   simp only[h1,AhS,B8,hi,AhZ,hs,AjO,OI]
  ·simp only[h1,Ahg]
   by_cases h2:64<n
   ·have hs:¬ Sz n:=fun h=>by have:=h.2;omega
    simp only[h2,AhS,B8,hi,AhZ,hs,AjO,OI]
   ·have a1:1≤n:=by omega
    have a2:n≤64:=by omega
    have hb:=Fb (u:=n) a1 a2 (by omega) (by omega)
    have e3:n*(n+1)=n*n+n:=by rw[AkG,AkH]
    rw[Ai (n:=n*n) (by omega),Ai (n:=n+n*n) (by omega)]
    simp only[h2,Ahg]
    by_cases h3:t<n
    ·have:¬ n≤t:=by omega
     simp only[h3,AhS,B8,hi,AhZ,this,AjO,and_false,OI]
    ·simp only[h3,Ahg]
     by_cases h4:n+n*n≤t
     ·have:¬ t<n*(n+1):=by omega
      simp only[h4,AhS,B8,hi,AhZ,this,AjO,and_false,OI]
     ·obtain⟨d1,d2,d3⟩:=AJe (t:=t) ⟨a1,a2⟩ (by omega) (by omega)
      have q1:=d1.2.2.1
      have q2:=d1.2.2.2
      rw[Ai (n:=t-n) (by omega)]
      have hq:(t-n).tdiv n=t/n-1:=by
       rw[AjI (by omega)]
       have:=Int.add_mul_ediv_right t (-1) (show n≠0 by omega)
       rw[show t-n=t + -1*n by omega,this];omega
      have hm:(t-n).tmod n=t % n:=by
       rw[Int.tmod_eq_emod_of_nonneg (by omega)]
       have:=Int.add_mul_emod_self_right t (-1) n
       rw[show t-n=t + -1*n by omega,this]
      simp only[h4,Ahg,Sy,S0,AH1,Z7]
      rw[AhU (by omega),AhU (by omega),hq,hm,Ai (n:=t/n-1) (by omega)]
      simp only[]
      rw[Aq,B8,AhU hi]
      by_cases h5:t/n-1=t % n
      ·rw[AhU (by intro h;exact h.2.2.2 h5),AhH h5];rfl
      ·rw[AhX ⟨⟨a1,a2⟩,by omega,by omega,h5⟩,AhF h5];rfl
theorem ANa(xs ys:List (List Int))(hs:xs.length<9223372036854775808)(hi:∀ x∈xs,x.length<9223372036854775808):AIw (xs,ys,())=some (decide (xs=ys),()):=by
 rw[ASW,Tf,ABm]
 by_cases hl:xs.length=ys.length
 ·rw[AhH hl]
  simp only[AhT]
  rcases ALe (step:=Fe) (fun i=>(xs,ys,((i:Nat):Int),())) xs.length (fun i => !decide (xs.getD i []=ys.getD i [])) (fun _=>.inl (false,())) (.inr (.inl ())) hs (fun i hii=>by
   have hm:(xs.getD i []).length<9223372036854775808:=hi _ (by simp[hii])
   rw[Fe,AM,AO,AhH hii]
   simp (disch:=first|omega|exact hm) only[CW ([]:List Int),AQ,ASi]
   by_cases h:xs.getD i []=ys.getD i []
   ·rw[AhH h];simp
   ·rw[AhF h];simp) (by rw[Fe,AM,AO,AhF (by omega)])with⟨k,hk,hP,_,e⟩|⟨h,e⟩
  ·have e':AW Fe many (xs,ys,(0:Int),())=_:=e
   rw[e']
   have:xs≠ys:=Wh ([]:List Int) (j:=k) (by simpa using hP)
   simp[this]
  ·have e':AW Fe many (xs,ys,(0:Int),())=_:=e
   rw[e']
   have:xs=ys:=G8 ([]:List Int) hl fun j hj=>by simpa using h j hj
   simp[this]
 ·rw[AhF hl]
  have:xs≠ys:=fun e=>hl (by rw[e])
  simp[this]
theorem ANS(N:Nat)(hN:N≤64)(c:Int):∀ (k i n:Nat),i+k=N→k<n→AX KH n ((N:Int),c,(N:Int),BR i,(i:Int),())=some (.inl (c,(N:Int),BR N,())):=by
 intro k
 induction k with
 |zero=>
  intro i n hi hn
  obtain⟨n,rfl⟩:∃ k,n=k+1:=⟨n-1,by omega⟩
  have:i=N:=by omega
  subst this
  rw[AX,KH,AO,AhF (by omega)]
 |succ k ih=>
  intro i n hi hn
  obtain⟨n,rfl⟩:∃ k,n=k+1:=⟨n-1,by omega⟩
  rw[AX,KH,AO,AhH (by omega)]
  simp only[AM,WB,AhO,Ahi]
  rw[Bd (by omega),AQ (by omega)]
  simp only[C6,← QO]
  exact ih (i+1) n (by omega) (by omega)
theorem ASL(n:Int):AIr (n,())=some (G4 n):=by
 have hm:4294967296<many:=by simp only[many];omega
 rw[AX1,ABJ,G4]
 simp only[Aj]
 by_cases h1:n<1
 ·have:¬ Sz n:=fun h=>by have:=h.1;omega
  simp[h1,this]
 ·by_cases h2:64<n
  ·have:¬ Sz n:=fun h=>by have:=h.2;omega
   simp[h1,h2,this]
  ·obtain⟨N,rfl⟩:=AhR (show 0≤n by omega)
   have hS:Sz (N:Int):=⟨by omega,by omega⟩
   have e:=ANS N (by omega) 0 N 0 many (by omega) (by omega)
   have e':AX KH many ((N:Int),0,(N:Int),[],(0:Int),())=_:=e
   simp[h1,h2,hS,As,e']
end Go.Pev.Pl
end
section
namespace Go.Pev.Pl
theorem Md(xs:List Int)(t:Int)(hs:xs.length<9223372036854775808):Nq (xs,t,())=some (pos xs t,()):=by
 rw[ARH,S3]
 have e:=I4 (step:=Ho) (fun i=>(xs,t,(i:Int),())) xs (fun x=>decide (x=t)) (fun i=>.inl ((i:Int),())) (.inr (.inl ())) hs
  (fun i x hi hx=>by
   rw[Ho,AM,AO,AhH hi]
   simp only[Ak hx,Aq]
   by_cases h:x=t
   ·simp[h]
   ·simp only[h,Ahg];rw[AQ (by omega)];simp)
  (by rw[Ho,AM,AO,AhF (by omega)])
 have e':AW Ho many (xs,t,(0:Int),())=_:=e
 rw[e',AVl,pos]
 by_cases h:t∈xs<;>simp[h]
instance (xs:List Int):Decidable (Rt xs):=inferInstanceAs (Decidable (_∧_∧_))
theorem MZ(xs:List Int):QW (xs,())=some (decide (Rt xs),()):=by
 rw[AQp,Sx,AM,Aj]
 by_cases hl:xs.length≤1000
 ·rw[AhF (by omega)]
  simp only[]
  rcases ALe (step:=FV) (fun i=>(xs,((i:Nat):Int),())) xs.length (fun i=>decide (xs.getD i 0<0)||decide (10000<xs.getD i 0)||decide (xs.getD i 0∈xs.take i)) (fun _=>.inl (false,())) (.inr (.inl ())) (by omega) (fun i hi=>by
   rw[FV,AM,AO,AhH hi]
   have hpl:Nq (xs.take i,xs.getD i 0,())=some (pos (xs.take i) (xs.getD i 0),()):=Md _ _ (by simp;omega)
   simp (disch:=omega) only[CW (0:Int),Kk,hpl,AQ,Aj,A0]
   by_cases h1:xs.getD i 0<0
   ·simp only[h1,AhS];simp
   ·by_cases h2:10000<xs.getD i 0
    ·simp only[h1,h2,AhS,Ahg];simp
    ·by_cases h3:xs.getD i 0∈xs.take i
     ·obtain⟨k,e,_⟩:=AH5 h3
      rw[e]
      simp only[h1,h2,h3,AhS,Ahg];simp
     ·rw[Qc h3]
      simp only[h1,h2,h3,Ahg];simp) (by rw[FV,AM,AO,AhF (by omega)])with⟨k,hk,hP,_,e⟩|⟨h,e⟩
  ·have e':AW FV many (xs,(0:Int),())=_:=e
   rw[e']
   have:¬ Rt xs:=by
    rintro⟨_,h1,h2⟩
    have hm:xs.getD k 0∈xs:=by
     rw[AhK,AhM hk,Ahp];exact Air hk
    have:=h1 _ hm
    have h3:=(Qk xs).1 h2 k hk
    have c1:¬ xs.getD k 0<0:=by omega
    have c2:¬ 10000<xs.getD k 0:=by omega
    rw[AhF c1,AhF c2,AhF h3]at hP
    cases hP
   simp[this]
  ·have e':AW FV many (xs,(0:Int),())=_:=e
   rw[e']
   have:Rt xs:=by
    have key:∀ j,j<xs.length→¬ xs.getD j 0<0∧¬ 10000<xs.getD j 0∧xs.getD j 0∉xs.take j:=fun j hj=>by
     have:=h j hj
     rw[AjM,AjM,Ah9,Ah9,Ah9]at this
     exact⟨this.1.1,this.1.2,this.2⟩
    refine⟨hl,fun x hx => ?_,(Qk xs).2 fun j hj=>(key j hj).2.2⟩
    obtain⟨j,hj,rfl⟩:=Ait hx
    obtain⟨k1,k2,_⟩:=key j hj
    rw[AhK,AhM hj,Ahp]at k1 k2
    omega
   simp[this]
 ·rw[AhH (by omega)]
  have:¬ Rt xs:=fun h=>hl h.1
  simp[this]
theorem Pe(xs:List Int)(t:Int)(hs:xs.length<9223372036854775808):AB6 (xs,t,())=some (I1 xs t):=by
 rw[AYl,AB5,I1]
 simp only[Md xs t hs,MZ]
 by_cases hr:Rt xs
 ·have hl:=hr.1
  simp only[hr,AhS,AhT,AjX]
  by_cases h:t∈xs
  ·have hk:xs.findIdx (fun x=>decide (x=t))<xs.length:=AjS.2 ⟨t,h,by simp⟩
   rw[pos,AhX h,AhX h,A5,rot]
   generalize xs.findIdx (fun x=>decide (x=t))=k at *
   rw[Aj,AhF (by omega)]
   simp only[Ey (Ai1 hk),Kk (Ai1 hk)]
   rw[Bd (by simp only[AM,Ahi,Ahy];omega)]
   simp only[]
   rw[Bd (by simp only[AM,C6,Ahr,Ahc,Ahy];omega)]
   simp only[C6,Ahr]
  ·rw[Qc h,AhU h,Aj]
   simp
 ·simp[hr]
theorem WE(xs:List Int):YB (xs,())=some (plain xs,()):=by
 rw[ARC,S1,plain]
 simp only[MZ]
 by_cases hr:Rt xs
 ·have hl:=hr.1
  simp only[hr,AhS,AhT,AjX]
  cases xs with
  |nil=>simp[AM,B4]
  |cons x xs=>
   rw[AM,Aq,AhF (by simp only[AhO];omega)]
   have i0:idx (x::xs) (0:Int)=some x:=by rw[Ga];rfl
   simp only[i0]
   have e:=DT (step:=Hm) (fun i (a:Int)=>(x::xs,a,(i:Int),())) (x::xs) (fun y a=>.inl (Cm a y)) (fun a=>.inl (x::xs,a,())) (fun _ _=>True) (by omega)
    (fun i y a hi hy _=>by
     refine⟨fun m' h' => ?_,fun r h'=>by cases h'⟩
     cases h'
     rw[Hm,AM,AO,AhH hi]
     simp only[Ak hy]
     rw[AQ (by omega)]
     exact⟨rfl,trivial⟩)
    (fun a _=>by rw[Hm,AM,AO,AhF (by omega)]) x trivial
   have e':AW Hm many (x::xs,x,(0:Int),())=_:=e
   rw[e',Ba]
   have hmin:(x::xs).foldl (fun a y=>Cm a y) x=GY (x::xs):=by
    rw[AiA,GY]
    have:Cm x x=x:=by rw[Cm];split<;>rfl
    rw[this]
   rw[hmin]
   have hm:=(Er (xs:=x::xs) (by simp)).1
   simp only[Pe (x::xs) _ (by omega),I1,hr,hm,and_self,Ahv]
   simp
 ·simp[hr]
end Go.Pev.Pl
end
section
namespace Go.Pev.Pl
open Tok
noncomputable instance (n:Int) (xs:List Int):Decidable (TI n xs):=Classical.propDecidable _
end Go.Pev.Pl
end
section
namespace Go.Pev.Pl
open Tok
theorem AHH(n t u:Int)(ht:-9223372036854775808≤t∧t≤9223372036854775807):ZI (n,t,u,())=some (Kl n t u,()):=by
 rw[ALE,Ox,Kl]
 simp only[Vu n t ht,Aq]
 cases B8 n t with
 |none=>rfl
 |some x=>cases x with
  |ver v=>
   by_cases h:v=u<;>simp[OI,st,h]
  |arc p q=>
   by_cases h:q=u<;>simp[OI,st,h]
end Go.Pev.Pl
end
section
namespace Go.Pev.Pl
open Tok
theorem Ada(n:Int)(l:List Int)(i:Nat)(hi:i<l.length)(hl:l.length<1073741824)(d5 d6 d7 d8:Bool)(d9 d10:Int)(d11:Bool)(d12 d13 d14 d15 d16:Int)(d17:Bool)(d18 d19 d20 d21 d22 d23 d24 d25 d26:Int)(d27:Bool):
  ∀ (m k cnt:Nat) (acc:List Int),k+m=l.length→acc.length≤k→m<cnt →
  AX Jz cnt (n,l,(i:Int),acc,(k:Int),d5,d6,d7,d8,d9,d10,d11,d12,d13,d14,d15,d16,d17,d18,d19,d20,d21,d22,d23,d24,d25,d26,d27,()) =
   some (.inl (n,(i:Int),acc++(List.range' k m).map (fun k=>l.getD ((i+k) % l.length) 0),d5,d6,d7,d8,d9,d10,d11,d12,d13,d14,d15,d16,d17,d18,l,d19,d20,d21,d22,d23,d24,d25,d26,d27,())):=by
 intro m
 induction m with
 |zero=>
  intro k cnt acc hk ha hc
  obtain⟨cnt,rfl⟩:∃ c,cnt=c+1:=⟨cnt-1,by omega⟩
  rw[AX,Jz,AM,AO,AhF (by omega)]
  simp
 |succ m ih=>
  intro k cnt acc hk ha hc
  obtain⟨cnt,rfl⟩:∃ c,cnt=c+1:=⟨cnt-1,by omega⟩
  have hm:(i+k) % l.length<l.length:=Nat.mod_lt _ (by omega)
  rw[AX,Jz,AM,AO,AhH (by omega)]
  simp only[]
  rw[wrap_add (by omega),X9 (by omega)]
  simp only[CW (0:Int) hm,EX]
  rw[Bd (by simp only[AM,AhO,Ahi];omega),AQ (by omega)]
  simp only[C6]
  rw[ih (k+1) cnt _ (by omega) (by simp;omega) (by omega)]
  simp[AkQ]
theorem APg(n:Int)(l:List Int)(i:Nat)(hi:i<l.length)(h1:1<l.length)(hl:l.length<1073741824)(hr:∀ x∈l, -9223372036854775808≤x∧x≤9223372036854775807):
  Dq (n,l,false,(i:Int),())=if LB n l i then some (.inl (n,FW l i,true,((i+1:Nat):Int),()))else some (.inl (n,l,false,((i+1:Nat):Int),())):=by
 have hmany:4294967296<many:=by simp only[many];omega
 have m1:(i+1) % l.length<l.length:=Nat.mod_lt _ (by omega)
 have m2:(i+2) % l.length<l.length:=Nat.mod_lt _ (by omega)
 have m0:(i+l.length-1) % l.length<l.length:=Nat.mod_lt _ (by omega)
 have hin:∀ {k:Nat},k<l.length→l.getD k 0∈l:=fun {k} hk=>by
  rw[AhK,AhM hk,Ahp];exact Air hk
 have w2:IntKind.wrap .i64 ((i:Int)+2)=((i+2:Nat):Int):=by rw[Ai (by omega)];omega
 have w3:IntKind.wrap .i64 ((i:Int)+(l.length:Int))=((i+l.length:Nat):Int):=wrap_add (by omega)
 have w4:IntKind.wrap .i64 (((i+l.length:Nat):Int)-1)=((i+l.length-1:Nat):Int):=BJ (by omega)
 have f4:ile (4:Int) (l.length:Int)=decide (4≤l.length):=by
  rw[A0]
  by_cases h:4≤l.length
  ·rw[AhH h,AhH (by omega)]
  ·rw[AhF h,AhF (by omega)]
 rw[Dq,AM,AO,AhH hi]
 simp only[Ahw,CW (0:Int) hi]
 rw[AQ (by omega),w2,X9 (by omega),X9 (by omega)]
 simp only[CW (0:Int) m1,CW (0:Int) m2,EX,Vu n _ (hr _ (hin hi)),f4,LB]
 by_cases h4:4≤l.length
 ·simp only[h4,AhS,AjH]
  cases ht:B8 n (l.getD i 0)with
  |none=>rfl
  |some t=>
   cases t with
   |ver v=>rfl
   |arc u v=>
    simp only[OI,Aq,AGE]
    by_cases c1:l.getD ((i+1) % l.length) 0=v
    ·simp only[c1,AhS,AjH]
     by_cases c2:l.getD ((i+2) % l.length) 0=D9 n v u
     ·simp only[c2,AhS,AjH,w3,w4]
      rw[X9 (by omega)]
      simp only[CW (0:Int) m0,EX,AHH n _ u (hr _ (hin m0))]
      cases Kl n (l.getD ((i+l.length-1) % l.length) 0) u
      ·rfl
      ·simp only[Ahv,As]
       have e:=Ada n l i hi hl false true true true v v true (D9 n v u) n v u (D9 n v u) true n (i:Int) (l.length:Int) ((i+l.length:Nat):Int) ((i+l.length-1:Nat):Int) (l.length:Int) (((i+l.length-1) % l.length:Nat):Int) (l.getD ((i+l.length-1) % l.length) 0) u true (l.length-3) 3 many [] (by omega) (by simp) (by omega)
       have e':AX Jz many (n,l,(i:Int),[],(3:Int),_)=_:=e
       simp only[e',AQ (show i+1<9223372036854775808 by omega)]
       rfl
     ·simp only[c2,Ahg,Ajd,Aha,AhZ]
    ·simp only[c1,Ahg,Ajd,Aha,AhZ]
 ·simp only[h4,Ahg,Ajd,Aha,AhZ]
theorem Adb(n:Int)(l:List Int)(h1:1<l.length)(hl:l.length<1073741824)(hr:∀ x∈l, -9223372036854775808≤x∧x≤9223372036854775807):
  ∀ (m i cnt:Nat),i+m=l.length→m+1<cnt →
  (∃ k,k<l.length∧LB n l k=true∧AX Dq cnt (n,l,false,(i:Int),())=some (.inl (n,FW l k,true,()))) ∨
  ((∀ k,i≤k→k<l.length→LB n l k=false)∧AX Dq cnt (n,l,false,(i:Int),())=some (.inl (n,l,false,()))):=by
 intro m
 induction m with
 |zero=>
  intro i cnt hi hc
  obtain⟨cnt,rfl⟩:∃ c,cnt=c+1:=⟨cnt-1,by omega⟩
  right
  refine⟨fun k q1 q2=>by omega,?_⟩
  rw[AX,Dq,AM,AO,AhF (by omega)]
 |succ m ih=>
  intro i cnt hi hc
  obtain⟨cnt,rfl⟩:∃ c,cnt=c+1:=⟨cnt-1,by omega⟩
  rw[AX,APg n l i (by omega) h1 hl hr]
  cases hlf:LB n l i
  ·simp only[Aha,AhZ]
   rcases ih (i+1) cnt (by omega) (by omega)with h|⟨h,e⟩
   ·exact .inl h
   ·refine .inr ⟨fun k q1 q2 => ?_,e⟩
    by_cases ek:k=i
    ·rw[ek];exact hlf
    ·exact h k (by omega) q2
  ·simp only[Ahv]
   obtain⟨cnt,rfl⟩:∃ c,cnt=c+1:=⟨cnt-1,by omega⟩
   refine .inl ⟨i,by omega,hlf,?_⟩
   rw[AX,Dq]
   cases ilt ((i+1:Nat):Int) (AJ (FW l i))<;>rfl
theorem Adc(n:Int):∀ (m:Nat) (l:List Int) (cnt:Nat),l.length=m→l.length<1073741824→(∀ x∈l, -9223372036854775808≤x∧x≤9223372036854775807)→l.Nodup→m<cnt →
  (¬ TI n l∧AX Nk cnt (n,l,())=some (.inl (false,()))) ∨
  ∃ l',AX Nk cnt (n,l,())=some (.inr (.inl (n,l',())))∧l'.length≤1∧(TI n l↔TI n l'):=by
 intro m
 induction m using Nat.strongRecOn with
 |_ m ih=>
 intro l cnt hm hl hr hn hc
 have hmany:4294967296<many:=by simp only[many];omega
 obtain⟨cnt,rfl⟩:∃ c,cnt=c+1:=⟨cnt-1,by omega⟩
 rw[AX,Nk,AM,Aj]
 by_cases h1:1<l.length
 ·rw[AhH (by omega)]
  simp only[As]
  rcases Adb n l h1 hl hr l.length 0 many (by omega) (by omega)with⟨k,k1,k2,e⟩|⟨k1,e⟩
  ·have e':AX Dq many (n,l,false,(0:Int),())=_:=e
   simp only[e',AhT]
   have hred:=ASb k1 k2
   have hiff:=AgF hred hn
   have hlen:(FW l k).length=l.length-3:=by simp[FW]
   rcases ih (l.length-3) (by omega) (FW l k) cnt hlen (by omega) (fun x hx=>hr x (AQ1 k1 x hx)) (AXC hred hn) (by omega)with⟨q1,q2⟩|⟨l',q1,q2,q3⟩
   ·exact .inl ⟨fun h=>q1 (hiff.1 h),q2⟩
   ·exact .inr ⟨l',q1,q2,hiff.trans q3⟩
  ·have e':AX Dq many (n,l,false,(0:Int),())=_:=e
   simp only[e',Ahw]
   refine .inl ⟨fun h => ?_,by trivial⟩
   obtain⟨l',hl'⟩:=Agk h h1
   obtain⟨i,i1,i2⟩:=AQ5 hl'
   rw[k1 i (by omega) i1]at i2
   cases i2
 ·rw[AhF (by omega)]
  exact .inr ⟨l,rfl,by omega,Iff.rfl⟩
theorem APh(n:Int)(l:List Int)(hl:l.length<1073741824)(hr:∀ x∈l, -9223372036854775808≤x∧x≤9223372036854775807)(hn:l.Nodup):APi (n,l,())=some (decide (TI n l),()):=by
 have hmany:4294967296<many:=by simp only[many];omega
 rw[AWG,Y3,Bd (by simp only[AM,Ahi];omega)]
 simp only[C6,Ahr,As]
 rcases Adc n l.length l many rfl hl hr hn (by omega)with⟨q1,q2⟩|⟨l',q1,q2,q3⟩
 ·rw[q2,AhF q1]
 ·rw[q1]
  simp only[AM,Aq]
  match l',q2,q3 with
  |[],_,q3=>
   have:¬ TI n l:=fun h=>AdQ n (q3.1 h)
   simp[this]
  |[t],_,q3=>
   rw[AdP]at q3
   have i0:idx [t] (0:Int)=some t:=by rw[Ga];rfl
   have d0:AY [t] 0 (0:Int)=t:=rfl
   rw[AhH (by simp)]
   simp only[i0,d0,Hz]
   by_cases h:In n t
   ·rw[AhH h,AhH (q3.2 h)]
   ·rw[AhF h,AhF (fun h2=>h (q3.1 h2))]
end Go.Pev.Pl
end
section
namespace Go.Pev.Pl
open Tok
noncomputable instance (n:Int) (rings:List (List Int)):Decidable (RF n rings):=Classical.propDecidable _
noncomputable instance (n:Int) (xs:List Int):Decidable (RG n xs):=Classical.propDecidable _
end Go.Pev.Pl
end
end
section
section
namespace Go.Pev.Pl
open Tok
theorem AD2(N:Nat)(hN:N≤64)(l:List Int)(hl:l.length<1073741824)(h0:∀ t∈l,0≤t)(d1:List (List Int))(d3 d5:Int)(d8:List Int)(d9:Int)(d10:Bool)(d11:Int)(d12:List Int)(d13 d14:Bool)(d15 d16:List Int)(d17:List (List Int))(d18:List Int)(d19:List (List Int))(d20 d21:Bool)(d22:List Int)(d23 d24:Int)(d25:Bool):
  ∀ (m k cnt:Nat) (met:List Bool) (seen:List Int),k+m=l.length→MB N met seen→(l.drop k).Nodup→seen.length+m<4611686018427387904→m<cnt →
  ((∀ t∈l.drop k,t<(N:Int)→t∉seen)∧∃ met',AX ER cnt ((N:Int),d1,met,d3,(seen.length:Int),d5,l,(k:Int),d8,d9,d10,d11,d12,d13,d14,d15,d16,d17,d18,d19,d20,d21,d22,d23,d24,d25,()) =
    some (.inr (.inl ((N:Int),d1,met',d3,((seen++(l.drop k).filter (fun t=>decide (t<(N:Int)))).length:Int),d5,d8,d9,d10,d11,d12,d13,d14,d15,d16,d17,d18,d19,d20,d21,d22,d23,d24,d25,())))∧MB N met' (seen++(l.drop k).filter (fun t=>decide (t<(N:Int))))) ∨
  (¬ (∀ t∈l.drop k,t<(N:Int)→t∉seen)∧AX ER cnt ((N:Int),d1,met,d3,(seen.length:Int),d5,l,(k:Int),d8,d9,d10,d11,d12,d13,d14,d15,d16,d17,d18,d19,d20,d21,d22,d23,d24,d25,())=some (.inl (false,()))):=by
 intro m
 induction m with
 |zero=>
  intro k cnt met seen hk hm hn hsl hc
  obtain⟨cnt,rfl⟩:∃ c,cnt=c+1:=⟨cnt-1,by omega⟩
  have e:l.drop k=[]:=AiW (by omega)
  rw[e]
  refine .inl ⟨by simp,met,?_,by simpa using hm⟩
  rw[AX,ER,AM,AO,AhF (by omega)]
  simp
 |succ m ih=>
  intro k cnt met seen hk hm hn hsl hc
  obtain⟨cnt,rfl⟩:∃ c,cnt=c+1:=⟨cnt-1,by omega⟩
  have hk':k<l.length:=by omega
  have e:l.drop k=l.getD k 0::l.drop (k+1):=by
   rw[AiC hk',AhK,AhM hk',Ahp]
  have hpos:0≤l.getD k 0:=h0 _ (by rw[AhK,AhM hk',Ahp];exact Air hk')
  rw[AX,ER,AM,AO,AhH hk']
  simp only[CW (0:Int) hk']
  rw[e]at hn ⊢
  generalize l.getD k 0=t at *
  rw[Aho]at hn
  rw[AQ (show k+1<9223372036854775808 by omega),Aj]
  by_cases ht:t<(N:Int)
  ·rw[AhH ht]
   obtain⟨q,rfl⟩:=AhR hpos
   have hq:q<met.length:=by rw[hm.1];omega
   have hmq:=hm.2 q (by omega)
   simp only[CW false hq,EX,AJc,hmq]
   by_cases hs:(q:Int)∈seen
   ·rw[AhH hs]
    exact .inr ⟨fun h=>h (q:Int) (by simp) ht hs,rfl⟩
   ·rw[AhF hs]
    simp only[]
    have hm':MB N (met.set q true) (seen++[(q:Int)]):=by
     refine⟨by simp[hm.1],fun y hy => ?_⟩
     by_cases e2:y=q
     ·subst e2
      simp[AhK,hq]
     ·have h3:=hm.2 y hy
      have e3:¬ (y:Int)=(q:Int):=by omega
      rw[AhK,Ah3 (Ahx e2),← AhK,h3]
      simp[e3]
    have hlen:(((seen.length:Nat):Int))=((seen.length:Nat):Int):=rfl
    have hw:IntKind.wrap .i64 ((seen.length:Int)+1)=((seen++[(q:Int)]).length:Int):=by
     rw[Ai (by omega)];simp
    rw[hw]
    have hiff:(∀ y∈(q:Int)::l.drop (k+1),y<(N:Int)→y∉seen)↔∀ y∈l.drop (k+1),y<(N:Int)→y∉seen++[(q:Int)]:=by
     constructor
     ·intro h y hy hyn hm2
      simp only[AhL,Ahj]at hm2
      rcases hm2 with h2|rfl
      ·exact h y (Ahh _ hy) hyn h2
      ·exact hn.1 hy
     ·intro h y hy hyn hm2
      rcases AhN.1 hy with rfl|hy
      ·exact hs hm2
      ·exact h y hy hyn (by simp[hm2])
    rcases ih (k+1) cnt _ _ (by omega) hm' hn.2 (by simp;omega) (by omega)with⟨q1,met',q2,q3⟩|⟨q1,q2⟩
    ·refine .inl ⟨hiff.2 q1,met',?_,?_⟩
     ·rw[AkC (by simpa using ht)]
      rw[q2,AiM]
      rfl
     ·rw[AkC (by simpa using ht)]
      simpa using q3
    ·exact .inr ⟨fun h=>q1 (hiff.1 h),q2⟩
  ·rw[AhF ht]
   simp only[]
   have hiff:(∀ y∈t::l.drop (k+1),y<(N:Int)→y∉seen)↔∀ y∈l.drop (k+1),y<(N:Int)→y∉seen:=by
    constructor
    ·intro h y hy;exact h y (Ahh _ hy)
    ·intro h y hy hyn
     rcases AhN.1 hy with rfl|hy
     ·exact absurd hyn ht
     ·exact h y hy hyn
   rcases ih (k+1) cnt _ _ (by omega) hm hn.2 (by omega) (by omega)with⟨q1,met',q2,q3⟩|⟨q1,q2⟩
   ·refine .inl ⟨hiff.2 q1,met',?_,?_⟩
    ·rw[AkD (by simpa using ht)]
     exact q2
    ·rw[AkD (by simpa using ht)]
     exact q3
   ·exact .inr ⟨fun h=>q1 (hiff.1 h),q2⟩
theorem XW(N:Nat)(hN1:1≤N)(hN:N≤64)(rings:List (List Int))(hlen:rings.length≤64)(hr:∀ l∈rings,l.length<9223372036854775808∧∀ x∈l, -9223372036854775808≤x∧x≤9223372036854775807):
  ∀ (ls:List (List Int)) (i cnt:Nat) (met:List Bool) (last:Int) (seen:List Int),rings.drop i=ls→i≤rings.length→MB N met seen→seen.length≤i*1073741824→ls.length<cnt →
  (okR (N:Int) seen last ls∧∃ met' seen',AX ES cnt ((N:Int),rings,met,last,(seen.length:Int),(i:Int),())=some (.inr (.inl ((N:Int),rings,(seen'.length:Int),())))∧MB N met' seen'∧seen'=seen++ls.flatten.filter (fun t=>decide (t<(N:Int)))) ∨
  (¬ okR (N:Int) seen last ls∧AX ES cnt ((N:Int),rings,met,last,(seen.length:Int),(i:Int),())=some (.inl (false,()))):=by
 have hmany:4294967296<many:=by simp only[many];omega
 intro ls
 induction ls with
 |nil=>
  intro i cnt met last seen hd hi hm hsl hc
  obtain⟨cnt,rfl⟩:∃ c,cnt=c+1:=⟨cnt-1,by simp at hc;omega⟩
  have:rings.length≤i:=by simpa using hd
  refine .inl ⟨trivial,met,seen,?_,hm,by simp⟩
  rw[AX,ES,AM,AO,AhF (by omega)]
 |cons l ls ih=>
  intro i cnt met last seen hd hi hm hsl hc
  simp only[AhO]at hc
  obtain⟨cnt,rfl⟩:∃ c,cnt=c+1:=⟨cnt-1,by omega⟩
  have hi':i<rings.length:=by
   refine AiF fun h => ?_
   rw[AiW (by omega)]at hd
   cases hd
  rw[AiC hi']at hd
  simp only[Ahf]at hd
  obtain⟨hd1,hd2⟩:=hd
  have hx:rings[i]? = some l:=by rw[AhM hi',hd1]
  have hmem:l∈rings:=AhV hx
  obtain⟨hl,hlr⟩:=hr l hmem
  rw[AX,ES,AM,AO,AhH hi',okR]
  simp only[Ak hx,MZ]
  by_cases c2:Rt l
  ·rw[AhH c2]
   have hl:l.length<1073741824:=by have:=c2.1;omega
   simp only[AhT]
   cases l with
   |nil=>
    rw[AM,Aq,AhH (by simp)]
    exact .inr ⟨fun h=>h.1.2.1 rfl,rfl⟩
   |cons x tl=>
    rw[AM,Aq,AhF (by simp only[AhO];omega)]
    simp only[APh (N:Int) (x::tl) hl hlr c2.2.2]
    by_cases c4:TI (N:Int) (x::tl)
    ·rw[AhH c4]
     simp only[AhT,WE]
     rw[ANa _ _ (by simp) (by
      intro y hy
      simp only[Ahj]at hy
      subst hy
      obtain⟨a,b,q1,q2⟩:=Hl c2 (by simp)
      have:=AiX List.length q1
      rw[q2]
      simp only[AhO,AhP]at this hl ⊢
      omega)]
     have hps:=AAE c2 (by simp)
     have hps2:([plain (x::tl)]=[x::tl])↔GY (x::tl)=x:=by simpa using hps
     by_cases c3:GY (x::tl)=x
     ·rw[AhH (hps2.2 c3)]
      have i0:idx (x::tl) (0:Int)=some x:=by rw[Ga];rfl
      simp only[AhT,i0,Aj8,A0]
      by_cases c1:x≤last
      ·rw[AhH c1]
       exact .inr ⟨fun h=>by omega,rfl⟩
      ·rw[AhF c1]
       simp only[As]
       have hRG:RG (N:Int) (x::tl):=⟨c2,by simp,c3,c4⟩
       rcases AD2 N hN (x::tl) hl (fun t ht=>(c2.2.1 t ht).1) rings x (i:Int) (x::tl) ((x::tl).length:Int) false (N:Int) (x::tl) true false (x::tl) (plain (x::tl)) [plain (x::tl)] (x::tl) [x::tl] true false (x::tl) x last false (x::tl).length 0 many met seen (by omega) hm (by rw[AjQ];exact c2.2.2) (by omega) (by omega)with⟨q1,met',q2,q3⟩|⟨q1,q2⟩
       ·rw[AjQ]at q1 q3 q2
        have q2':AX ER many ((N:Int),rings,met,x,(seen.length:Int),(i:Int),x::tl,(0:Int),x::tl,((x::tl).length:Int),false,(N:Int),x::tl,true,false,x::tl,plain (x::tl),[plain (x::tl)],x::tl,[x::tl],true,false,x::tl,x,last,false,())=_:=q2
        simp only[q2',AQ (show i+1<9223372036854775808 by omega)]
        have hfl:((x::tl).filter (fun t=>decide (t<(N:Int)))).length≤(x::tl).length:=Aiw _ _
        rcases ih (i+1) cnt met' x (seen++(x::tl).filter (fun t=>decide (t<(N:Int)))) hd2 (by omega) q3 (by rw[AhP];omega) (by omega)with⟨p1,met2,seen2,p2,p3,p4⟩|⟨p1,p2⟩
        ·refine .inl ⟨⟨hRG,by omega,q1,p1⟩,met2,seen2,p2,p3,?_⟩
         rw[p4,AjN,Ai4,AiM]
        ·exact .inr ⟨fun h=>p1 h.2.2.2,p2⟩
       ·rw[AjQ]at q1
        have q2':AX ER many ((N:Int),rings,met,x,(seen.length:Int),(i:Int),x::tl,(0:Int),x::tl,((x::tl).length:Int),false,(N:Int),x::tl,true,false,x::tl,plain (x::tl),[plain (x::tl)],x::tl,[x::tl],true,false,x::tl,x,last,false,())=_:=q2
        simp only[q2']
        exact .inr ⟨fun h=>q1 h.2.2.1,by trivial⟩
     ·rw[AhF (fun h=>c3 (hps2.1 h))]
      exact .inr ⟨fun h=>c3 h.1.2.2.1,rfl⟩
    ·rw[AhF c4]
     exact .inr ⟨fun h=>c4 h.1.2.2.2,rfl⟩
  ·rw[AhF c2]
   exact .inr ⟨fun h=>c2 h.1.1,rfl⟩
theorem Eh(n:Int)(rings:List (List Int))(hlen:rings.length<1073741824)(hr:∀ l∈rings,l.length<9223372036854775808∧∀ x∈l, -9223372036854775808≤x∧x≤9223372036854775807):
  QV ((n,(rings,())),())=some (decide (RF n rings),()):=by
 have hmany:4294967296<many:=by simp only[many];omega
 rw[AQo,Sw]
 simp only[Aj,AM]
 by_cases h1:n<1
 ·rw[AhH h1,AhF (show ¬ RF n rings from fun h=>by have:=h.1.1;omega)]
 ·rw[AhF h1]
  simp only[]
  by_cases h2:64<n
  ·rw[AhH h2,AhF (show ¬ RF n rings from fun h=>by have:=h.1.2;omega)]
  ·rw[AhF h2]
   simp only[]
   by_cases h3:n<(rings.length:Int)
   ·rw[AhH h3,AhF (show ¬ RF n rings from fun h=>by
     have:=AU3 (by omega) h.2.1 (by omega) (by omega)
     omega)]
   ·rw[AhF h3]
    obtain⟨N,rfl⟩:=AhR (show 0≤n by omega)
    have f1:FP (N:Int)=true:=(N1 _).2 (by omega)
    have f2:ile (N:Int) (N:Int)=true:=by rw[A0];simp
    simp only[f1,f2,Aiz,Bool.and_true,As]
    have hMB:MB N (ED (AK (N:Int)) false) []:=by
     refine⟨by simp[ED,Jl],fun k hk => ?_⟩
     simp[ED,Jl,hk]
    rcases XW N (by omega) (by omega) rings (by omega) hr rings 0 many _ (-1) [] (by simp) (by omega) hMB (by simp) (by omega)with⟨p1,met,seen,p2,p3,p4⟩|⟨p1,p2⟩
    ·have p2':AX ES many ((N:Int),rings,ED (AK (N:Int)) false, -1,(0:Int),(0:Int),())=_:=p2
     simp only[p2',Aq]
     obtain⟨q1,q2⟩:=AXj p1 (by simp)
     rw[← p4]at q1
     have hsub:∀ x∈seen,x∈(List.range N).map (fun(k:Nat)=>(k:Int)):=by
      intro x hx
      rw[p4]at hx
      simp only[Ahr,Ahs,AkP,AhI]at hx
      obtain⟨⟨l,hl,hxl⟩,hxn⟩:=hx
      have:=((q2 l hl).1.2.1 x hxl).1
      rw[Ahd]
      exact⟨x.toNat,by rw[AiN];omega,by omega⟩
     have hv:∀ v,v∈seen↔(v<(N:Int)∧v∈rings.flatten):=fun v=>by rw[p4,Ahr,Ahs,AhI,and_comm]
     have hS:Sz (N:Int):=⟨by omega,by omega⟩
     by_cases hc:(seen.length:Int)=(N:Int)
     ·rw[AhH hc,AhH]
      refine⟨hS,p1,fun v v1 v2 => ?_⟩
      have:=Qj q1 hsub (by simp;omega) v (by rw[Ahd];exact⟨v.toNat,by rw[AiN];omega,by omega⟩)
      exact((hv v).1 this).2
     ·rw[AhF hc,AhF]
      rintro⟨_,_,h⟩
      have a1:=Ca q1 hsub
      have hrn:((List.range N).map (fun(k:Nat)=>(k:Int))).Nodup:=by
       rw[List.Nodup,Ain]
       exact List.nodup_range.imp fun h e=>h (by omega)
      have a2:=Ca (a:=(List.range N).map (fun(k:Nat)=>(k:Int))) (b:=seen) hrn fun x hx=>by
       rw[Ahd]at hx
       obtain⟨k,hk,rfl⟩:=hx
       rw[AiN]at hk
       exact(hv _).2 ⟨by omega,h (k:Int) (by omega) (by omega)⟩
      simp only[AiS,Ahu]at a1 a2
      omega
    ·have p2':AX ES many ((N:Int),rings,ED (AK (N:Int)) false, -1,(0:Int),(0:Int),())=_:=p2
     simp only[p2']
     rw[AhF (fun h=>p1 h.2.1)]
end Go.Pev.Pl
end
section
namespace Go.Pev.Pl
open Tok
theorem Mc(n:Int)(rings:List (List Int))(v:Int)(hlen:rings.length<1073741824)(hr:∀ l∈rings,l.length<9223372036854775808):Ku ((n,(rings,())),v,())=some (plc rings v,()):=by
 rw[ARG,S2]
 have e:=I4 (step:=Hn) (fun i=>(v,n,rings,(i:Int),())) rings (fun l=>decide (v∈l)) (fun i=>.inl ((i:Int),())) (.inr (.inl ())) (by omega)
  (fun i l hi hx=>by
   have hl:=hr l (AhV hx)
   rw[Hn,AM,AO,AhH hi]
   simp only[Ak hx,Md l v (by omega)]
   rw[AQ (by omega),A0]
   by_cases h:v∈l
   ·obtain⟨k,e,_⟩:=AH5 h
    rw[e,AhH (by omega),AhH h];rfl
   ·rw[Qc h,AhF (by omega),AhF h];rfl)
  (by rw[Hn,AM,AO,AhF (by omega)])
 have e':AW Hn many (v,n,rings,(0:Int),())=_:=e
 simp only[e',plc]
 cases rings.any (fun l=>decide (v∈l))<;>rfl
end Go.Pev.Pl
end
section
namespace Go.Pev.Pl
open Tok
theorem AXE(rest:List (List Int))(r:List Int)(hlen:rest.length<1073741824)(hne:∀ l∈rest,l≠[])(hp:plain r≠[]):AUn (rest,r,())=some (AAC rest (plain r),()):=by
 rw[Aaw,AH4]
 simp only[WE]
 generalize plain r=p at *
 have e:=I4 (step:=Ma) (fun i=>(rest,p,(i:Int),())) rest (fun x => !decide (hd x<hd p)) (fun i=>.inl (rest,p,(i:Int),())) (.inl (rest,p,(rest.length:Int),())) (by omega)
  (fun i x hi hx=>by
   rw[Ma,AM,AO,AhH hi]
   simp only[Ak hx,AVP (hne x (AhV hx)),AVP hp,Acu,Aj]
   rw[AQ (by omega)]
   by_cases h:hd x<hd p
   ·rw[AhH h];rfl
   ·rw[AhF h];rfl)
  (by rw[Ma,AM,AO,AhF (by omega)])
 have e':AW Ma many (rest,p,(0:Int),())=_:=e
 have hk:(if rest.any (fun x => !decide (hd x<hd p))then(.inl (rest,p,((rest.findIdx fun x => !decide (hd x<hd p):Nat):Int),()):(List (List Int)×List Int×Int×Unit)⊕Unit)else .inl (rest,p,(rest.length:Int),())) = .inl (rest,p,((rest.findIdx fun x => !decide (hd x<hd p):Nat):Int),()):=by
  split
  ·rfl
  ·rename_i h
   rw[List.findIdx_eq_length.2 fun x hx=>by
    refine AiF fun hc=>h (AiZ.2 ⟨x,hx,by simpa using hc⟩)]
 rw[e',hk]
 have hle:(rest.findIdx fun x => !decide (hd x<hd p))≤rest.length:=List.findIdx_le_length
 rw[AAC]
 generalize (rest.findIdx fun x => !decide (hd x<hd p))=k at *
 simp only[Kk hle,Ey hle]
 rw[Bd (by simp only[AM,Ahi,Ahc];omega)]
 simp only[]
 rw[Bd (by simp only[AM,C6,AhP,AhO,Ahi,Ahc];omega)]
 simp only[]
 rw[Bd (by simp only[AM,C6,AhP,AhO,Ahi,Ahc,Ahy];omega)]
 simp only[C6,Ahr,AiM,AjW]
theorem OP(l:List (List Int))(i:Nat)(hi:i<l.length)(hlen:l.length<1073741824):HG (l,(i:Int),())=some (l.eraseIdx i,()):=by
 rw[AGZ,MD]
 rw[AQ (by omega)]
 simp only[Kk (Ai1 hi),Ey (show i+1≤l.length by omega)]
 rw[Bd (by simp only[AM,Ahi,Ahc];omega)]
 simp only[]
 rw[Bd (by simp only[AM,C6,AhP,Ahi,Ahc,Ahy];omega)]
 simp only[C6,Ahr,List.eraseIdx_eq_take_drop_succ]
end Go.Pev.Pl
end
section
namespace Go.Pev.Pl
open Tok
theorem Adi(n:Int)(rings:List (List Int))(v:Int)(hD:Dom rings):tof ((n,(rings,())),v,())=some (if RF n rings∧In n v then plc rings v else -1,()):=by
 rw[AZ2,AUG]
 simp only[X5,Ot n rings hD.1 hD.2,HZ n rings v hD.1 (fun l hl=>(hD.2 l hl).1)]
 by_cases h1:In n v
 ·by_cases h2:RF n rings<;>simp[h1,h2]
 ·simp[h1]
end Go.Pev.Pl
end
section
namespace Go.Pev.Pl
open Go.RowKit Tok
end Go.Pev.Pl
end
section
namespace Go.Pev.Pl
open Tok
end Go.Pev.Pl
end
section
namespace Go.Pev.Pl
open Tok
theorem ANb{n:Int}{rings:List (List Int)}{u v:Int}(h:FR n rings)(iu:In n u)(iv:In n v)(hp:plc rings u=plc rings v):
  MP ((n,(rings,())),u,v,())=some (n,rings,5,())∧Th ((n,(rings,())),u,v,())=some (n,rings,5,()):=by
 have hD:=h.dom
 have hRF:=Lg.2 h
 constructor
 ·rw[Hd,G1]
  simp only[HQ n rings u v hD,hRF,iu,iv,and_self,Ahv,Aq,HZ n rings _ hD.1 (fun l hl=>(hD.2 l hl).1),hp,AhS,AhT]
 ·rw[Nu,KJ]
  simp only[Eh n rings hD.1 hD.2,hRF,Hz,iu,iv,AhS,AhT,Mc n rings _ hD.1 (fun l hl=>(hD.2 l hl).1),Aq,hp]
theorem Abz{n:Int}{rings:List (List Int)}{u v:Int}{i j:Nat}{A B:List Int}(h:FR n rings)(iu:In n u)(iv:In n v)(hi:rings[i]? = some A)(hj:rings[j]? = some B)(hu:u∈A)(hv:v∈B)(hij:i≠j):
  ∃ zs rest,MP ((n,(rings,())),u,v,())=some (n,zs,0,())∧Th ((n,(rings,())),u,v,())=some (n,zs,0,())∧FR n zs∧rings.Perm (A::B::rest)∧zs.Perm (plain (BE n A B u v)::rest)∧Dis n A B:=by
 have hD:=h.dom
 have hRF:=Lg.2 h
 have rA:=h.rg A (AhV hi)
 have rB:=h.rg B (AhV hj)
 have hil:=(AiT.1 hi).1
 have hjl:=(AiT.1 hj).1
 have pu:plc rings u=(i:Int):=h.AH6 hi iu.2.2.2 hu
 have pv:plc rings v=(j:Int):=h.AH6 hj iv.2.2.2 hv
 have hperm:rings.Perm (A::B::(rings.eraseIdx (max i j)).eraseIdx (min i j)):=by
  rcases AkA hij with g|g
  ·rw[Aje (by omega),AiD (by omega)]
   exact I6 g hi hj
  ·rw[Ajl (by omega),Ajf (by omega)]
   exact(I6 g hj hi).trans (List.Perm.swap _ _ _)
 have hdis:Dis n A B:=by
  have:=KR hperm h.dis
  rw[Ah7]at this
  exact this.1 B (by simp)
 obtain⟨l1,l2,l3,huv,ho⟩:=Nt rA.2.2.2 rB.2.2.2 hu hv iu iv hdis
 obtain⟨hRG,hrot⟩:=ADB l1
 have hall:BE n A B u v=u::D9 n u v::(A5 B v++D9 n v u::(A5 A u).tail):=rfl
 have lA:(A5 A u).length≤1000:=by rw[← (CZ hu).perm.length_eq];exact rA.1.1
 have lB:(A5 B v).length≤1000:=by rw[← (CZ hv).perm.length_eq];exact rB.1.1
 have hsub:((rings.eraseIdx (max i j)).eraseIdx (min i j)).Sublist rings:=(Ajv _ _).trans (Ajv _ _)
 have hw1:HG (rings,((max i j:Nat):Int),())=some (rings.eraseIdx (max i j),()):=OP _ _ (by omega) hD.1
 have hel:(rings.eraseIdx (max i j)).length=rings.length-1:=by rw[List.length_eraseIdx];rw[AhX (by omega)]
 have hw2:HG (rings.eraseIdx (max i j),((min i j:Nat):Int),())=some ((rings.eraseIdx (max i j)).eraseIdx (min i j),()):=OP _ _ (by omega) (by have:=hD.1;omega)
 have hdrop:Cn (fun k=>decide ((k:Int)∈[(i:Int),(j:Int)])) 0 rings=(rings.eraseIdx (max i j)).eraseIdx (min i j):=by
  rcases AkA hij with g|g
  ·rw[Aje (by omega),AiD (by omega)]
   exact LW _ i j g rings 0 (by omega) fun k _=>Aik.2 (by simp only[AhN,Ai5,Ajn];omega)
  ·rw[Ajl (by omega),Ajf (by omega)]
   exact LW _ j i g rings 0 (by omega) fun k _=>Aik.2 (by simp only[AhN,Ai5,Ajn];omega)
 have hrl:((rings.eraseIdx (max i j)).eraseIdx (min i j)).length≤rings.length:=hsub.length_le
 generalize (rings.eraseIdx (max i j)).eraseIdx (min i j)=rest at *
 have hupr:rest.Pairwise (fun a b=>hd a<hd b):=h.up.sublist hsub
 have hner:∀ l∈rest,l≠[]:=fun l hl=>(h.rg l (hsub.subset hl)).2.1
 have hdd:=KR hperm h.dis
 rw[Ah7,Ah7]at hdd
 have hheads:∀ x∈rest,hd x≠hd (plain (BE n A B u v)):=by
  intro x hx e
  have g1:=N8 hRG
  have g2:=(l3 _ g1.2.2.2).1 (hrot.perm.mem_iff.2 (Tw hRG.2.1))
  have g3:hd (plain (BE n A B u v))∈x:=e▸Tw (hner x hx)
  rcases g2 with g|g
  ·exact hdd.1 x (by simp[hx]) _ g g1.2.2.2 g3
  ·exact hdd.2.1 x hx _ g g1.2.2.2 g3
 have hup:=AUm hupr hheads
 have hpz:=AFO rest (plain (BE n A B u v))
 refine⟨AAC rest (plain (BE n A B u v)),rest,?_,?_,AVr h hperm hRG (fun t ht=>by rw[← hrot.perm.mem_iff];exact l3 t ht) hpz hup,hperm,hpz,hdis⟩
 ·obtain⟨ys,y1,y2,y3⟩:=AEo n rings [(i:Int),(j:Int)] [BE n A B u v] hD.1 (by simp) (by simp) (fun l hl=>(h.rg l hl).2.1) (by simp;exact hRG.2.1)
  have hys:ys=AAC rest (plain (BE n A B u v)):=by
   refine Vy hup (y2.trans ?_) y3
   rw[hdrop]
   exact(Ai0 (l₁:=rest) (l₂:=[plain (BE n A B u v)])).trans hpz.symm
  rw[hys]at y1
  rw[Hd,G1]
  have s1:CM (A5 A u) (0:Int) (1:Int)=some [u]:=by
   have:=AHE (xs:=A5 A u) (l:=0) (h:=1) (by omega) (by rw[l2];simp)
   rw[l2]at this ⊢
   exact this
  have s2:CM (A5 A u) (1:Int) (AJ (A5 A u))=some (A5 A u).tail:=by
   have:=Ey (xs:=A5 A u) (l:=1) (by rw[l2];simp)
   rw[AjG]at this
   exact this
  have d1:DR 0 (AK (AJ [u])) (A5 A u)=[u]:=by rw[l2];rfl
  have d2:DR 1 (AK (AJ (A5 A u).tail)) (A5 A u)=(A5 A u).tail:=by
   rw[DR,AM,Jl,AjG,Aig]
  have hcat:JA ([[u],[D9 n u v],A5 B v,[D9 n v u],(A5 A u).tail],())=some (BE n A B u v,()):=by
   rw[NK _ (by simp) (by simp;omega)]
   simp[BE]
  have ne:((i:Int))≠(j:Int):=by omega
  simp only[HQ n rings u v hD,hRF,iu,iv,and_self,Ahv,Aq,HZ n rings _ hD.1 (fun l hl=>(hD.2 l hl).1),pu,pv,ne,AhS,Ahg,AhT,Ak hi,Ak hj,AFK,I1,rA.1,rB.1,hu,hv,s1,s2,ALC,d1,d2,hcat,y1]
 ·rw[Nu,KJ]
  have s2:CM (A5 A u) (1:Int) (AJ (A5 A u))=some (A5 A u).tail:=by
   have:=Ey (xs:=A5 A u) (l:=1) (by rw[l2];simp)
   rw[AjG]at this
   exact this
  have d2:DR 1 (AK (AJ (A5 A u).tail)) (A5 A u)=(A5 A u).tail:=by
   rw[DR,AM,Jl,AjG,Aig]
  have ne:((i:Int))≠(j:Int):=by omega
  have f1:fits (AJ [u,D9 n u v]+AJ (A5 B v))=true:=Bd (by simp only[AM,AhO,Ahi];omega)
  have f2:fits (AJ (A4 [u,D9 n u v] (A5 B v))+AJ [D9 n v u])=true:=Bd (by simp only[AM,C6,AhP,AhO,Ahi];omega)
  have f3:fits (AJ (A4 (A4 [u,D9 n u v] (A5 B v)) [D9 n v u])+AJ (A5 A u).tail)=true:=Bd (by simp only[AM,C6,AhP,AhO,Ahi,List.length_tail];omega)
  have hcat:A4 (A4 (A4 [u,D9 n u v] (A5 B v)) [D9 n v u]) (A5 A u).tail=BE n A B u v:=by simp[C6,BE]
  have hput:AUn (rest,BE n A B u v,())=some (AAC rest (plain (BE n A B u v)),()):=AXE rest _ (by have:=hD.1;omega) hner hRG.2.1
  simp only[Eh n rings hD.1 hD.2,hRF,Hz,iu,iv,AhS,AhT,Mc n rings _ hD.1 (fun l hl=>(hD.2 l hl).1),pu,pv,Aq,ne,Ahg,Ak hi,Ak hj,Pe A u (by have:=rA.1.1;omega),Pe B v (by have:=rB.1.1;omega),I1,rA.1,rB.1,hu,hv,and_self,Ahv,AGE,f1,f2,s2,d2,f3,AcD,AcC,hw1,hw2,hcat,hput]
theorem AEN{n:Int}{rings:List (List Int)}{u v:Int}(hD:Dom rings)(h:¬ (RF n rings∧In n u∧In n v)):
  ∃ e,e≠0∧(∃ b,e=b∧(b=1∨b=10))∧MP ((n,(rings,())),u,v,())=some (n,rings,e,())∧Th ((n,(rings,())),u,v,())=some (n,rings,e,()):=by
 by_cases h1:RF n rings
 ·have h2:¬ (In n u∧In n v):=fun h2=>h ⟨h1,h2⟩
  refine⟨10,by omega,⟨10,rfl,.inr rfl⟩,?_,?_⟩
  ·rw[Hd,G1]
   simp only[HQ n rings u v hD,h1,h2,Ahv,AhZ,Aq]
   rfl
  ·rw[Nu,KJ]
   simp only[Eh n rings hD.1 hD.2,h1,Hz,AhS,AhT]
   by_cases hu:In n u
   ·have hv:¬ In n v:=fun hv=>h2 ⟨hu,hv⟩
    simp[hu,hv]
   ·simp[hu]
 ·refine⟨1,by omega,⟨1,rfl,.inl rfl⟩,?_,?_⟩
  ·rw[Hd,G1]
   simp only[HQ n rings u v hD,h1,AhZ,Aq]
   rfl
  ·rw[Nu,KJ]
   simp only[Eh n rings hD.1 hD.2,h1,Ahg,Ahw]
theorem ATt{n:Int}{rings:List (List Int)}(u v:Int)(hD:Dom rings):∃ zs e,MP ((n,(rings,())),u,v,())=some (n,zs,e,())∧Th ((n,(rings,())),u,v,())=some (n,zs,e,())∧Dom zs:=by
 by_cases h:RF n rings∧In n u∧In n v
 ·obtain⟨h1,iu,iv⟩:=h
  have hF:=Lg.1 h1
  obtain⟨i,A,pu,hi,hu,_⟩:=Mb (hF.cov u iu)
  obtain⟨j,B,pv,hj,hv,_⟩:=Mb (hF.cov v iv)
  by_cases hij:i=j
  ·obtain⟨q1,q2⟩:=ANb hF iu iv (by rw[pu,pv,hij])
   exact⟨_,_,q1,q2,hD⟩
  ·obtain⟨zs,rest,q1,q2,q3,_⟩:=Abz hF iu iv hi hj hu hv hij
   exact⟨_,_,q1,q2,q3.dom⟩
 ·obtain⟨e,_,_,q1,q2⟩:=AEN hD h
  exact⟨_,_,q1,q2,hD⟩
end Go.Pev.Pl
end
section
namespace Go.Pev.Pl
open Tok
def sel(l:List Edge)(bs:List Bool):List Edge:=((l.zip bs).filter fun p=>p.2).map fun p=>p.1
end Go.Pev.Pl
end
section
namespace Go.Pev.Pl
open Tok
instance (n v:Int):Decidable (In n v):=inferInstanceAs (Decidable (_∧_))
instance (n:Int):Decidable (Sz n):=inferInstanceAs (Decidable (_∧_))
end Go.Pev.Pl
end
section
namespace Go.Pev.Pl
instance (xs:List Int):Decidable (Rt xs):=inferInstanceAs (Decidable (_∧_∧_))
end Go.Pev.Pl
end
section
namespace Go.Pev.Pl
open Tok
noncomputable instance (n:Int) (xs:List Int):Decidable (TI n xs):=Classical.propDecidable _
end Go.Pev.Pl
end
section
namespace Go.Pev.Pl
open Tok
noncomputable instance (n:Int) (rings:List (List Int)):Decidable (RF n rings):=Classical.propDecidable _
noncomputable instance (n:Int) (xs:List Int):Decidable (RG n xs):=Classical.propDecidable _
end Go.Pev.Pl
end
section
namespace Go.Pev.Pl
open Tok
theorem ALB(n:Int)(rings:List (List Int))(l:List (Int×Int×Unit))(hD:Dom rings)(hs:l.length<9223372036854775808):AHC ((n,(rings,())),l,())=some (AO0 n rings (l.all fun e=>decide (In n e.1)&&decide (In n e.2.1)),()):=by
 rw[APp,Sc]
 simp only[Eh n rings hD.1 hD.2,AO0]
 by_cases h:RF n rings
 ·simp only[h,AhS,AhT,Ahv]
  have e:=I4 (step:=He) (fun i=>(l,n,rings,(i:Int),())) l (fun e => !(decide (In n e.1)&&decide (In n e.2.1))) (fun _=>.inl ((10:Int),())) (.inr (.inl ())) hs
   (fun i x hi hx=>by
    rw[He,AM,AO,AhH hi]
    simp only[Ak hx,Aj,A0]
    rw[AQ (by omega)]
    have q1:=AT1 (v:=x.1) h.1
    have q2:=AT1 (v:=x.2.1) h.1
    by_cases c1:x.1<0
    ·rw[AhH c1,Bool.true_or]at q1
     have:decide (In n x.1)=false:=by simpa using q1.symm
     simp[c1,this]
    ·by_cases c2:n≤x.1
     ·rw[AhH c2,Bool.or_true]at q1
      have:decide (In n x.1)=false:=by simpa using q1.symm
      simp[c1,c2,this]
     ·rw[AhF c1,AhF c2]at q1
      have g1:decide (In n x.1)=true:=by simpa using q1.symm
      by_cases c3:x.2.1<0
      ·rw[AhH c3,Bool.true_or]at q2
       have:decide (In n x.2.1)=false:=by simpa using q2.symm
       simp[c1,c2,c3,this]
      ·by_cases c4:n≤x.2.1
       ·rw[AhH c4,Bool.or_true]at q2
        have:decide (In n x.2.1)=false:=by simpa using q2.symm
        simp[c1,c2,c3,c4,this]
       ·rw[AhF c3,AhF c4]at q2
        have g2:decide (In n x.2.1)=true:=by simpa using q2.symm
        simp[c1,c2,c3,c4,g1,g2])
   (by rw[He,AM,AO,AhF (by omega)])
  have e':AW He many (l,n,rings,(0:Int),())=_:=e
  rw[e',List.any_eq_not_all_not]
  simp only[Bool.not_not]
  cases l.all fun e=>decide (In n e.1)&&decide (In n e.2.1)<;>rfl
 ·simp[h]
end Go.Pev.Pl
end
section
namespace Go.Pev.Pl
open Tok
end Go.Pev.Pl
end
section
namespace Go.Pev.Pl
open Tok
end Go.Pev.Pl
end
section
namespace Go.Pev.Pl
open Tok
end Go.Pev.Pl
end
section
namespace Go.Pev.Pl
open Tok
theorem ALr{N:Nat}(h1:1≤N)(hN:N≤64){ts:List Tie}(hs:ts.length≤400)(ho:oks N ts){out:List Int}(hc:MC (N:Int) (trs ts ts.length) out):
  Du (((N:Int),(ts,())),())=some (decide ((cnt out N:Int)=(N:Int)-(trs ts ts.length).length),()):=by
 have R:=QU N hN ts hs
 rw[AhX ho]at R
 have hin:=APc hN ho
 have hlen:=AGq ts ts.length
 obtain⟨o2,e2,c2⟩:=DL (N:Int) (trs ts ts.length) ⟨by omega,by omega⟩ (by omega) hin
 have:=MC.unique h1 hN hc c2
 subst this
 have hol:out.length=N:=by have:=hc.len;omega
 rw[FU,Eg]
 simp only[Aj,AM]
 rw[AhF (show ¬ (N:Int)<1 by omega),AhF (show ¬ 64<(N:Int) by omega),AhF (show ¬ 400<(ts.length:Int) by omega)]
 simp only[R,e2,OR N hN _ _ out hol,Aq]
 rw[Ai (by omega)]
end Go.Pev.Pl
end
section
namespace Go.Pev.Pl
open Tok
theorem Con.perm{l l':List Edge}(h:∀ e,e∈l↔e∈l'){a b:Int}:Con l a b↔Con l' a b:=
 ⟨fun c=>c.mono fun e he=>⟨e,(h e).1 he,.inl ⟨rfl,rfl⟩⟩,fun c=>c.mono fun e he=>⟨e,(h e).2 he,.inl ⟨rfl,rfl⟩⟩⟩
theorem MC.congr{n:Int}{l l':List Edge}{out:List Int}(h:∀ a b,Con l a b↔Con l' a b)(hc:MC n l out):MC n l' out:=
 ⟨hc.len,fun a b ia ib=>(hc.same a b ia ib).trans (h a b),hc.isin,fun a ia=>(h a _).1 (hc.con a ia),fun a b ia ib c=>hc.least a b ia ib ((h a b).2 c)⟩
end Go.Pev.Pl
end
section
namespace Go.Pev.Pl
open Tok
def AE1(x:Edge)(b:Bool):Tie:=(x.1,x.2.1,0,b,())
def Xx(ts:List Tie)(xs:List Edge)(bs:List Bool)(k:Nat):List Tie:=(List.range k).foldl (fun a i=>AAB a (AE1 (xs.getD i (0,0,())) (bs.getD i false))) ts
end Go.Pev.Pl
end
section
namespace Go.Pev.Pl
open Tok
def AR4(xs:List Edge)(bs:List Bool)(k:Nat):List Tie:=(List.range k).map fun i=>AE1 (xs.getD i (0,0,())) (bs.getD i false)
theorem AGG(ts:List Tie)(xs:List Edge)(bs:List Bool)(k:Nat):Xx ts xs bs (k+1)=AAB (Xx ts xs bs k) (AE1 (xs.getD k (0,0,())) (bs.getD k false)):=by
 unfold Xx
 rw[Aif,List.foldl_append]
 rfl
theorem VK(ts:List Tie)(xs:List Edge)(bs:List Bool):∀ k,(Xx ts xs bs k).Perm (ts++AR4 xs bs k):=by
 intro k
 induction k with
 |zero=>simp[Xx,AR4]
 |succ k ih=>
  rw[AGG]
  refine(AFN _ _).trans ?_
  unfold AR4 at *
  rw[Aif,Aiq,← AiM]
  refine(List.Perm.cons _ ih).trans ?_
  exact(List.perm_append_singleton _ _).symm
end Go.Pev.Pl
end
section
namespace Go.Pev.Pl
open Tok
theorem AdL{N:Nat}{ts:List Tie}(h:oks N ts)(hv0:0≤Hb N){xs:List Edge}(bs:List Bool)(hp:xs.Pairwise Js)(hx:∀ e∈xs,0≤e.1∧e.1<e.2.1∧e.2.1<(N:Int))(hn:∀ e∈xs,¬ e∈ts.map ed):oks N (Xx ts xs bs xs.length):=by
 rw[YC]at h ⊢
 obtain⟨h1,h2⟩:=h
 have hget:∀ i (hi:i<xs.length),xs.getD i (0,0,())=xs[i]:=fun i hi=>by
  simp only[AhK,AhM hi,Ahp]
 have hmem:∀ k,k≤xs.length→∀ t∈Xx ts xs bs k,t∈ts∨∃ i,i<k∧t=AE1 (xs.getD i (0,0,())) (bs.getD i false):=by
  intro k hk t ht
  rcases AhL.1 ((VK ts xs bs k).mem_iff.1 ht)with h|h
  ·exact .inl h
  ·unfold AR4 at h
   obtain⟨i,hi,rfl⟩:=Ahd.1 h
   exact .inr ⟨i,by simpa using hi,rfl⟩
 refine⟨fun t ht => ?_,?_⟩
 ·rcases hmem _ (AhQ _) t ht with h|⟨i,hi,rfl⟩
  ·exact h1 t h
  ·rw[hget i hi]
   obtain⟨q1,q2,q3⟩:=hx xs[i] (Air hi)
   exact⟨q1,q2,q3,by show(0:Int)≤0;omega,hv0⟩
 ·have key:∀ k,k≤xs.length→(Xx ts xs bs k).Pairwise ahead:=by
   intro k
   induction k with
   |zero=>intro _;exact h2
   |succ k ih=>
    intro hk
    rw[AGG]
    refine AXD (ih (by omega)) fun t ht => ?_
    rw[hget k (by omega)]
    rintro⟨e1,e2⟩
    rcases hmem k (by omega) t ht with h|⟨i,hi,rfl⟩
    ·refine hn xs[k] (Air (by omega)) (Ahd.2 ⟨t,h,?_⟩)
     unfold ed
     rw[e1,e2]
     rfl
    ·rw[hget i (by omega)]at e1 e2
     have:=(Ais.1 hp) i k (by omega) (by omega) hi
     unfold Js at this
     simp only[AE1]at e1 e2
     omega
  exact key _ (AhQ _)
end Go.Pev.Pl
end
section
namespace Go.Pev.Pl
open Tok
theorem AZn(ts:List Tie):∀ k,k≤ts.length→trs ts k=((ts.take k).filter fun t=>t.2.2.2.1).map ed:=by
 intro k
 induction k with
 |zero=>intro _;simp[trs]
 |succ k ih=>
  intro hk
  have hk':k<ts.length:=by omega
  rw[Yu,ih (by omega),Aij hk',Ai4,Aiq]
  simp only[AhK,AhM hk',Ahp]
  cases h:ts[k].2.2.2.1
  ·simp[h]
  ·simp[h]
theorem AGr(ts:List Tie):trs ts ts.length=(ts.filter fun t=>t.2.2.2.1).map ed:=by
 rw[AZn ts _ (AhQ _),Aig]
end Go.Pev.Pl
end
section
namespace Go.Pev.Pl
open Tok
theorem Abk{xs:List Edge}{bs:List Bool}(h:bs.length=xs.length):AR4 xs bs xs.length=(xs.zip bs).map fun p=>AE1 p.1 p.2:=by
 unfold AR4
 apply AkN
 ·simp[h]
 ·intro i h1 h2
  have hi:i<xs.length:=by simpa using h1
  simp[hi,show i<bs.length by omega]
theorem AdK(ts:List Tie){xs:List Edge}{bs:List Bool}(h:bs.length=xs.length):(trs (Xx ts xs bs xs.length) (Xx ts xs bs xs.length).length).Perm (trs ts ts.length++sel xs bs):=by
 rw[AGr,AGr]
 refine(((VK ts xs bs xs.length).filter _).map ed).trans ?_
 rw[Ai4,Aiq,Abk h,List.filter_map,List.map_map]
 exact List.Perm.refl _
theorem AdM(ts:List Tie)(xs:List Edge)(bs:List Bool):∀ k,(Xx ts xs bs k).length=ts.length+k:=by
 intro k
 rw[(VK ts xs bs k).length_eq]
 simp[AR4]
end Go.Pev.Pl
end
end
section
section
namespace Go.Pev.Pl
open Tok
theorem Ac2{N:Nat}(hN:N≤64)(ts:List Tie)(l:List Edge):∀ e∈KU N ts l,In (N:Int) e.1∧In (N:Int) e.2.1:=by
 intro e he
 obtain⟨⟨a,b,c,_⟩,_⟩:=(TN N ts l e).1 he
 exact⟨⟨by omega,by omega,a,by omega⟩,⟨by omega,by omega,by omega,c⟩⟩
end Go.Pev.Pl
end
section
namespace Go.Pev.Pl
open Tok
theorem AVN{N:Nat}(h1:1≤N)(hN:N≤64){a:Int}(h:0≤a∧a<(N:Int)):In (N:Int) a:=⟨by omega,by omega,h.1,h.2⟩
theorem AcB{N:Nat}{e:Edge}(h:In (N:Int) e.1∧In (N:Int) e.2.1):InE N e:=⟨⟨h.1.2.2.1,h.1.2.2.2⟩,⟨h.2.2.2.1,h.2.2.2.2⟩⟩
theorem Agg{N:Nat}(h1:1≤N)(hN:N≤64){l:List Edge}{out:List Int}(hc:MC (N:Int) l out):cnt out N=cc N l:=by
 unfold cnt cc
 rw[List.countP_eq_length_filter]
 congr 1
 refine AjZ fun k hk => ?_
 have hk:k<N:=by simpa using hk
 have ik:=AVN h1 hN (a:=(k:Int)) ⟨by omega,by omega⟩
 have hg:out.getD k 0=cl out (k:Int):=by unfold cl;rw[Ah8]
 rw[hg,Aie,Ah6,Hw]
 constructor
 ·intro h j hj hcn
  have:=hc.least (k:Int) (j:Int) ik (AVN h1 hN ⟨by omega,by omega⟩) hcn.symm
  omega
 ·intro h
  have a1:=hc.isin _ ik
  have a2:=hc.con _ ik
  have a3:=hc.least (k:Int) (k:Int) ik ik (.refl _)
  obtain⟨m,hm⟩:=AhR a1.2.2.1
  rw[hm]at a2 a3 ⊢
  by_cases hlt:m<k
  ·exact absurd a2.symm (h m hlt)
  ·omega
theorem FC.congr{n:Int}{rings:List (List Int)}{l l':List Edge}(h:FC n rings l)(hm:∀ e∈l,e∈l')(hc:∀ e∈l',Con l e.1 e.2.1):FC n rings l':=
 ⟨h.fr,fun a b ia ib=>(h.sam a b ia ib).trans ⟨fun c=>c.sub hm,fun c=>c.cut hc⟩,fun A hA u v ho hu=>by
  obtain⟨e,he,q⟩:=h.arcs A hA u v ho hu
  exact⟨e,hm e he,q⟩⟩
theorem ALq{N:Nat}(h1:1≤N)(hN:N≤64){ts:List Tie}(hs:ts.length≤400)(ho:oks N ts):Du (((N:Int),(ts,())),())=some (true,())↔Fo N (trs ts ts.length):=by
 have hlen:=AGq ts ts.length
 obtain⟨o,_,c⟩:=DL (N:Int) (trs ts ts.length) ⟨by omega,by omega⟩ (by omega) (APc hN ho)
 rw[ALr h1 hN hs ho c,Agg h1 hN c]
 unfold Fo
 constructor
 ·intro h
  have:decide ((cc N (trs ts ts.length):Int)=(N:Int)-(trs ts ts.length).length)=true:=by injection h with h;injection h
  have:=AjB this
  omega
 ·intro h
  rw[AhH (by omega)]
end Go.Pev.Pl
end
section
namespace Go.Pev.Pl
open Tok
end Go.Pev.Pl
end
section
namespace Go.Pev.Pl.SE
open Go.Sort
def ok(_:Int×Int×Unit):Prop:=True
def okz:Int×Int×Unit:=(0,0,())
theorem TJ:ok okz:=trivial
def lt(x y:Int×Int×Unit):Bool:=decide (x.1<y.1∨(x.1=y.1∧x.2.1<y.2.1))
theorem swo:SWO lt:=⟨fun x=>by simp[lt],fun x y z h1 h2=>by simp only[lt,AhI]at *;omega,fun x y z h1 h2=>by simp only[lt,Ah9]at *;omega⟩
theorem Wt(a b:Int):Dh (a,b,())=some (if a<b then -1 else if b<a then 1 else 0,()):=by
 rw[Gd,Ea,K4,K5,K4,K5]
 simp only[B4,Aj]
 by_cases h:a<b
 ·simp[h]
 ·by_cases h2:b<a
  ·simp[h,h2]
  ·simp[h,h2]
theorem or_val(a b:Int):orI ([a,b],())=some (if a=0 then b else a,()):=by
 obtain⟨m,hm⟩:∃ m,many=m+3:=⟨many-3,by simp only[many]⟩
 rw[AIY,AFd,As,hm]
 have i0:idx [a,b] (0:Int)=some a:=by rw[idx_eq];rfl
 have i1:idx [a,b] (1:Int)=some b:=by rw[idx_eq];rfl
 have l2:AJ [a,b]=(2:Int):=rfl
 have w1:IntKind.wrap .i64 ((0:Int)+1)=1:=by rw[Ai (by omega)];rfl
 have w2:IntKind.wrap .i64 ((1:Int)+1)=2:=by rw[Ai (by omega)];rfl
 have c0:ilt (0:Int) 2=true:=by rw[Aj];rfl
 have c1:ilt (1:Int) 2=true:=by rw[Aj];rfl
 have c2:ilt (2:Int) 2=false:=by rw[Aj];rfl
 by_cases ha:a=0
 ·subst ha
  by_cases hb:b=0
  ·subst hb
   have z:ieq (0:Int) 0=true:=by rw[B4];rfl
   simp only[AX,Fa,l2,i0,i1,w1,w2,c0,c1,c2,z,AhT,Ahv]
  ·have:ieq b 0=false:=by rw[B4];simpa using hb
   have z:ieq (0:Int) 0=true:=by rw[B4];rfl
   simp only[AX,Fa,l2,i0,i1,w1,w2,c0,c1,c2,z,this,AhT,Ahw,Ahv]
 ·have:ieq a 0=false:=by rw[B4];simpa using ha
  simp only[AX,Fa,l2,i0,i1,w1,w2,c0,c1,c2,this,ha,Ahw,AhZ]
end Go.Pev.Pl.SE
end
section
namespace Go.Pev.Pl.ST
open Go.Sort
def ok(_:Int×Int×Int×Bool×Unit):Prop:=True
def okz:Int×Int×Int×Bool×Unit:=(0,0,0,false,())
theorem TJ:ok okz:=trivial
def lt(x y:Int×Int×Int×Bool×Unit):Bool:=decide (x.1<y.1∨(x.1=y.1∧x.2.1<y.2.1))
theorem swo:SWO lt:=⟨fun x=>by simp[lt],fun x y z h1 h2=>by simp only[lt,AhI]at *;omega,fun x y z h1 h2=>by simp only[lt,Ah9]at *;omega⟩
theorem Wt(a b:Int):Dh (a,b,())=some (if a<b then -1 else if b<a then 1 else 0,()):=by
 rw[Gd,Ea,K4,K5,K4,K5]
 simp only[B4,Aj]
 by_cases h:a<b
 ·simp[h]
 ·by_cases h2:b<a
  ·simp[h,h2]
  ·simp[h,h2]
theorem or_val(a b:Int):orI ([a,b],())=some (if a=0 then b else a,()):=by
 obtain⟨m,hm⟩:∃ m,many=m+3:=⟨many-3,by simp only[many]⟩
 rw[AIY,AFd,As,hm]
 have i0:idx [a,b] (0:Int)=some a:=by rw[idx_eq];rfl
 have i1:idx [a,b] (1:Int)=some b:=by rw[idx_eq];rfl
 have l2:AJ [a,b]=(2:Int):=rfl
 have w1:IntKind.wrap .i64 ((0:Int)+1)=1:=by rw[Ai (by omega)];rfl
 have w2:IntKind.wrap .i64 ((1:Int)+1)=2:=by rw[Ai (by omega)];rfl
 have c0:ilt (0:Int) 2=true:=by rw[Aj];rfl
 have c1:ilt (1:Int) 2=true:=by rw[Aj];rfl
 have c2:ilt (2:Int) 2=false:=by rw[Aj];rfl
 by_cases ha:a=0
 ·subst ha
  by_cases hb:b=0
  ·subst hb
   have z:ieq (0:Int) 0=true:=by rw[B4];rfl
   simp only[AX,Fa,l2,i0,i1,w1,w2,c0,c1,c2,z,AhT,Ahv]
  ·have:ieq b 0=false:=by rw[B4];simpa using hb
   have z:ieq (0:Int) 0=true:=by rw[B4];rfl
   simp only[AX,Fa,l2,i0,i1,w1,w2,c0,c1,c2,z,this,AhT,Ahw,Ahv]
 ·have:ieq a 0=false:=by rw[B4];simpa using ha
  simp only[AX,Fa,l2,i0,i1,w1,w2,c0,c1,c2,this,ha,Ahw,AhZ]
end Go.Pev.Pl.ST
end
section
namespace Go.Pev.Pl
open Tok
section
variable {α β:Type} [DecidableEq α]
end
end Go.Pev.Pl
end
section
namespace Go.Pev.Pl
open Tok
theorem Ad8:∀ (xs b:List Edge),sel xs (gfl b xs)=MA b xs:=by
 intro xs
 induction xs with
 |nil=>intro b;rfl
 |cons x xs ih=>
  intro b
  have:=ih (b++[x])
  unfold sel at *
  rw[gfl,MA,Ajj,AiV]
  by_cases h:DS b x.1 x.2.1=true
  ·simp[h,this]
  ·simp[h,this]
theorem Aff{N:Nat}{b xs:List Edge}(h:Fo N b)(hx:∀ e∈xs,InE N e):Fo N (b++MA b xs):=by
 have h1:=N5 xs b hx
 have h2:cc N (b++xs)=cc N (b++MA b xs):=ACv fun a c=>ACl xs b
 unfold Fo at *
 rw[AhP]
 omega
theorem Vt{N:Nat}(hN:N≤64):0≤Hb N:=by
 have:((List.range 65).all fun k=>decide (0≤Hb k))=true:=by kernel_rfl
 exact AjB (Ahe.1 this N (by simp;omega))
noncomputable def grown(N:Nat)(ts:List Tie)(l:List Edge):List Tie:=Xx ts (KU N ts l) (gfl (trs ts ts.length) (KU N ts l)) (KU N ts l).length
theorem AYZ(N:Nat)(ts:List Tie)(l:List Edge):(grown N ts l).length=ts.length+(KU N ts l).length:=AdM ..
theorem AYX(N:Nat)(ts:List Tie)(l:List Edge):(trs (grown N ts l) (grown N ts l).length).Perm (trs ts ts.length++MA (trs ts ts.length) (KU N ts l)):=by
 have:=AdK ts (xs:=KU N ts l) (bs:=gfl (trs ts ts.length) (KU N ts l)) (AfI _ _)
 rw[Ad8]at this
 exact this
theorem AYY{N:Nat}(hN:N≤64){ts:List Tie}(ho:oks N ts)(l:List Edge):oks N (grown N ts l):=
 AdL ho (Vt hN) _ (ATe N ts l) (fun e he=>by
  obtain⟨⟨a,b,c,_⟩,_⟩:=(TN N ts l e).1 he
  exact⟨a,b,c⟩) (fun e he=>((TN N ts l e).1 he).2)
theorem AY3{N:Nat}(hN:N≤64)(ts:List Tie)(l:List Edge):∀ e∈KU N ts l,InE N e:=fun e he=>AcB (Ac2 hN ts l e he)
theorem AcU{N:Nat}(hN:N≤64){ts:List Tie}(h:Fo N (trs ts ts.length))(l:List Edge):Fo N (trs (grown N ts l) (grown N ts l).length):=
 (Aff h (AY3 hN ts l)).perm (AYX N ts l).symm
structure RG2(N:Nat)(ts:List Tie):Prop where
 h1:1≤N
 hN:N≤64
 ht:ts.length≤400
 oks:oks N ts
 fo:Fo N (trs ts ts.length)
theorem RG2.r21{N:Nat}{ts:List Tie}(h:RG2 N ts):Du (((N:Int),(ts,())),())=some (true,()):=(ALq h.h1 h.hN h.ht h.oks).2 h.fo
theorem RG2.lr{N:Nat}{ts:List Tie}(h:RG2 N ts):PM (((N:Int),(ts,())),())=some (true,()):=by
 obtain⟨b,h1,h2,_⟩:=AC6 (N:Int) ts (by have:=h.ht;omega)
 rw[h.r21]at h1
 cases h1
 exact h2
theorem AW6(n:Int)(ts:List Tie)(hl:ts.length<4611686018427387904):(Du ((n,(ts,())),())=some (false,())∧PM ((n,(ts,())),())=some (false,()))∨∃ N:Nat,n=(N:Int)∧RG2 N ts:=by
 obtain⟨b,h1,h2,h3⟩:=AC6 n ts hl
 cases b
 ·exact .inl ⟨h1,h2⟩
 ·obtain⟨N,rfl,q1,q2,q3,q4⟩:=h3 rfl
  exact .inr ⟨N,rfl,q1,q2,q3,q4,(ALq q1 q2 q3 q4).1 h1⟩
theorem RG2.inE{N:Nat}{ts:List Tie}(h:RG2 N ts):∀ e∈ts.map ed,In (N:Int) e.1∧In (N:Int) e.2.1:=Age h.hN h.oks
theorem RG2.grown{N:Nat}{ts:List Tie}(h:RG2 N ts){l:List Edge}(hf:ts.length+(KU N ts l).length≤400):RG2 N (grown N ts l):=
 ⟨h.h1,h.hN,by rw[AYZ];exact hf,AYY h.hN h.oks l,AcU h.hN h.fo l⟩
end Go.Pev.Pl
end
section
namespace Go.Pev.Pl
open Tok
end Go.Pev.Pl
end
end
section
namespace Go.Pev.Pl
open Tok
theorem AZq(ts:List Tie)(t:Tie)(k:Int):trk (ts++[t]) k=trk ts k++if t.2.2.2.1=true∧k≤t.2.2.1 then [ed t]else []:=by
 rw[DU]
 congr 1
 unfold trk
 rw[AiV]
 by_cases h:t.2.2.2.1=true∧k≤t.2.2.1
 ·rw[AhX h,h.1,AhH h.2];rfl
 ·rw[AhU h,AhU]
  ·rfl
  ·rw[AhJ,AhI];exact h
theorem AKw(k:Int):∀ (ts a:List Tie) (acc:List Edge),acc=trk a k→ts.foldl (fun acc t=>if t.2.2.2.1=true∧k≤t.2.2.1 then acc++[ed t]else acc) acc=trk (a++ts) k:=by
 intro ts
 induction ts with
 |nil=>intro a acc h;simpa using h
 |cons t ts ih=>
  intro a acc h
  rw[AiA,ih (a++[t])]
  ·simp
  ·rw[AZq,← h]
   split<;>simp
theorem AUF(ts:List Tie)(k:Int):(trk ts k).length≤ts.length:=by
 unfold trk
 rw[AiS]
 exact Aiw _ _
theorem AGs(ts:List Tie)(k:Int):∀ e∈trk ts k,e∈ts.map ed:=by
 intro e he
 obtain⟨t,h1,_,_,rfl⟩:=C3.1 he
 exact Ahd.2 ⟨t,h1,rfl⟩
theorem ANU(n:Int)(ts:List Tie)(hs:ts.length≤400)(k:Int):PL ((n,(ts,())),k,())=some (trk ts k,()):=by
 rw[Tb,Mt]
 have e:=DT (step:=Ck) (fun i (a:List Edge)=>(k,a,ts,AJ ts,(i:Int),())) ts (fun t a=>.inl (if t.2.2.2.1=true∧k≤t.2.2.1 then a++[ed t]else a)) (fun a=>.inl (a,())) (fun i a=>a.length≤i) (by omega)
  (fun i x a hi hx ha=>by
   refine⟨fun m' h' => ?_,fun r h'=>(by cases h')⟩
   cases h'
   constructor
   ·rw[Ck,AM,AO,AhH hi]
    simp only[Ak hx,AM]
    rw[AQ (by omega),A0,Bd (by simp only[AhO,Ahi];omega)]
    cases h4:x.2.2.2.1
    ·simp
    ·by_cases h5:k≤x.2.2.1
     ·simp[h5,ed,A4]
     ·simp[h5]
   ·split
    ·rw[AhP];simp;omega
    ·omega)
  (fun a _=>by rw[Ck,AM,AO,AhF (by omega)]) [] (AhQ _)
 have e':AW Ck many (k,[],ts,AJ ts,(0:Int),())=_:=e
 simp only[e']
 rw[Ba (fun(t:Tie) (a:List Edge)=>if t.2.2.2.1=true∧k≤t.2.2.1 then a++[ed t]else a),AKw k ts [] [] rfl]
 rfl
theorem Ni(n:Int)(ts:List Tie)(hs:ts.length≤400)(k:Int):Ia ((n,(ts,())),k,())=some (trk ts k,()):=by
 rw[Y2,Nj]
 have e:=DT (step:=EN) (fun i (a:List Edge)=>(k,n,ts,a,(i:Int),())) ts (fun t a=>.inl (if t.2.2.2.1=true∧k≤t.2.2.1 then a++[ed t]else a)) (fun a=>.inl (a,())) (fun i a=>a.length≤i) (by omega)
  (fun i x a hi hx ha=>by
   refine⟨fun m' h' => ?_,fun r h'=>(by cases h')⟩
   cases h'
   constructor
   ·rw[EN,AM,AO,AhH hi]
    simp only[Ak hx,AM]
    rw[AQ (by omega),A0,Bd (by simp only[AhO,Ahi];omega)]
    cases h4:x.2.2.2.1
    ·simp
    ·by_cases h5:k≤x.2.2.1
     ·simp[h5,ed,A4]
     ·simp[h5]
   ·split
    ·rw[AhP];simp;omega
    ·omega)
  (fun a _=>by rw[EN,AM,AO,AhF (by omega)]) [] (AhQ _)
 have e':AW EN many (k,n,ts,[],(0:Int),())=_:=e
 simp only[e']
 rw[Ba (fun(t:Tie) (a:List Edge)=>if t.2.2.2.1=true∧k≤t.2.2.1 then a++[ed t]else a),AKw k ts [] [] rfl]
 rfl
theorem AZp{N:Nat}{ts:List Tie}(h:oks N ts):trs ts ts.length=trk ts 0:=by
 rw[AGr]
 unfold trk
 congr 1
 refine AjZ fun t ht => ?_
 have:=((YC N ts).1 h).1 t ht
 rw[AhH this.2.2.2.1,Bool.and_true]
theorem RG2.fo0{N:Nat}{ts:List Tie}(h:RG2 N ts):Fo N (trk ts 0):=by rw[← AZp h.oks];exact h.fo
theorem RG2.inK{N:Nat}{ts:List Tie}(h:RG2 N ts)(k:Int):∀ e∈trk ts k,In (N:Int) e.1∧In (N:Int) e.2.1:=fun e he=>h.inE e (AGs ts k e he)
theorem RG2.AgW{N:Nat}{ts:List Tie}(h:RG2 N ts)(k:Int):(trk ts k).length≤400:=AiP (AUF ts k) h.ht
theorem RG2.AhB{N:Nat}{ts:List Tie}(h:RG2 N ts)(k:Int):∃ zs,Nv (((N:Int),(ts,())),k,())=some (((N:Int),(zs,())),0,())∧FC (N:Int) zs (trk ts k):=by
 have hl:=h.AgW k
 have h1:=h.h1
 have hN:=h.hN
 rcases(AVZ (N:Int) (trk ts k) ⟨by omega,by omega⟩ (by omega)).symm with⟨hno,_⟩|⟨_,zs,e,hF⟩
 ·exact absurd (h.inK k) hno
 refine⟨zs,?_,hF⟩
 rw[PO,KK]
 simp only[h.lr,AhT,ANU (N:Int) ts h.ht k,e]
theorem RG2.AVh{N:Nat}{ts:List Tie}(h:RG2 N ts)(k:Int):∃ out,DM ((N:Int),trk ts k,())=some (out,())∧MC (N:Int) (trk ts k) out:=by
 have:=h.AgW k
 have h1:=h.h1
 have hN:=h.hN
 exact DL (N:Int) (trk ts k) ⟨by omega,by omega⟩ (by omega) (h.inK k)
end Go.Pev.Pl
end
section
namespace Go.Pev.Pl
open Tok
noncomputable def Ly(p:Prop):Bool:=@decide p (Classical.propDecidable _)
theorem HM(p:Prop):Ly p=true↔p:=by
 unfold Ly
 exact @decide_eq_true_iff _ (Classical.propDecidable _)
theorem Qb{p:Prop}{b:Bool}(h:b=true↔p):b=Ly p:=by rw[Aie,HM];exact h
def Wz(ts:List Tie):Prop:=∀ e∈ts.map ed,Con (trk ts 0) e.1 e.2.1
def AKH(ts:List Tie):Prop:=∀ t∈ts,t.2.2.2.1=false→Con (trk ts t.2.2.1) t.1 t.2.1
def Re(N:Nat)(ts:List Tie):Prop:=∀ k:Nat,(k:Int)≤Hb N→∀ v:Nat,v<N→csz N (trk ts k) v≤max 1 (N/2 ^ k)
theorem AZB{N:Nat}(h1:1≤N)(hN:N≤64){l l':List Edge}{o o':List Int}(hc:MC (N:Int) l o)(hc':MC (N:Int) l' o')(hl:∀ e∈l,In (N:Int) e.1∧In (N:Int) e.2.1)(hl':∀ e∈l',In (N:Int) e.1∧In (N:Int) e.2.1):
  o=o'↔(∀ e∈l,Con l' e.1 e.2.1)∧(∀ e∈l',Con l e.1 e.2.1):=by
 constructor
 ·rintro rfl
  refine⟨fun e he => ?_,fun e he => ?_⟩
  ·obtain⟨i1,i2⟩:=hl e he
   exact(hc'.same _ _ i1 i2).1 ((hc.same _ _ i1 i2).2 (.edge e he))
  ·obtain⟨i1,i2⟩:=hl' e he
   exact(hc.same _ _ i1 i2).1 ((hc'.same _ _ i1 i2).2 (.edge e he))
 ·rintro⟨q1,q2⟩
  exact MC.unique h1 hN hc (MC.congr (fun a b=>⟨fun c=>c.cut q2,fun c=>c.cut q1⟩) hc')
noncomputable def ARz(ts:List Tie)(t:Tie):Bool := !t.2.2.2.1 && !DS (trk ts t.2.2.1) t.1 t.2.1
theorem Aeg(ts:List Tie):(!ts.any (ARz ts))=Ly (AKH ts):=by
 refine Qb ?_
 rw[AiK,Ajq]
 unfold ARz AKH
 constructor
 ·intro h t ht hf
  have:=h t ht
  rw[hf]at this
  rw[← BY]
  simpa using this
 ·intro h t ht
  cases hf:t.2.2.2.1
  ·have:=h t ht hf
   rw[← BY]at this
   simp[this]
  ·simp
theorem RG2.tie{N:Nat}{ts:List Tie}(h:RG2 N ts){t:Tie}(ht:t∈ts):In (N:Int) t.1∧In (N:Int) t.2.1∧t.1<t.2.1∧0≤t.2.2.1∧t.2.2.1≤Hb N:=by
 have h1:=((YC N ts).1 h.oks).1 t ht
 have h2:=h.inE (ed t) (Ahd.2 ⟨t,ht,rfl⟩)
 exact⟨h2.1,h2.2,h1.2.1,h1.2.2.2.1,h1.2.2.2.2⟩
end Go.Pev.Pl
end
section
namespace Go.Pev.Pl
open Tok
noncomputable def AJ6(N:Nat)(ts:List Tie)(k:Nat):Bool:=(List.range N).any fun v=>decide (max 1 (N/2 ^ k)<csz N (trk ts k) (v:Int))
def MN(N:Nat):Nat:=(Hb N).toNat
theorem Ib{N:Nat}(hN:N≤64):Hb N=(MN N:Int):=by
 have:=Vt hN
 unfold MN
 omega
theorem Adf{N:Nat}(hN:N≤64):MN N<64:=by
 have:((List.range 65).all fun k=>decide (Hb k<64))=true:=by kernel_rfl
 have h1:=AjB (Ahe.1 this N (by simp;omega))
 have:=Ib hN
 omega
theorem AdC{N:Nat}(hN:N≤64)(ts:List Tie):(!(List.range (MN N+1)).any (AJ6 N ts))=Ly (Re N ts):=by
 refine Qb ?_
 rw[AiK,Ajq]
 unfold AJ6 Re
 constructor
 ·intro h k hk v hv
  have h1:=h k (by rw[AiN];have:=Ib hN;omega)
  rw[Bool.not_eq_true,Ajq]at h1
  have:=h1 v (by simpa using hv)
  rw[Ah6]at this
  omega
 ·intro h k hk
  rw[AiN]at hk
  rw[Bool.not_eq_true,Ajq]
  intro v hv
  have:=h k (by rw[Ib hN];omega) v (by simpa using hv)
  rw[Ah6]
  omega
theorem AfR(N:Nat)(l:List Edge)(v:Int):csz N l v≤N:=by
 unfold csz
 have:=List.countP_le_length (p:=fun(w:Nat)=>DS l v (w:Int)) (l:=List.range N)
 rw[Ahu]at this
 exact this
theorem RG2.snd{N:Nat}{ts:List Tie}(h:RG2 N ts)(hs:Wz ts∧AKH ts∧Re N ts):Snd N (MN N:Int) ts:=by
 refine⟨fun x hx => ?_,fun x hx=>AcB (h.inE _ (Ahd.2 ⟨x,hx,rfl⟩)),h.fo0,hs.2.1,fun k hk v hv=>hs.2.2 k (by rw[Ib h.hN];exact hk) v hv⟩
 rw[← Ib h.hN]
 exact(h.tie hx).2.2.2
theorem Snd.parts{N:Nat}{ts:List Tie}(h:RG2 N ts)(hs:Snd N (MN N:Int) ts):Wz ts∧AKH ts∧Re N ts:=by
 refine⟨fun e he=>(hs.span _ _).1 (.edge e he),hs.lie,fun k hk v hv=>hs.halv k (by rw[← Ib h.hN];exact hk) v hv⟩
end Go.Pev.Pl
end
section
namespace Go.Pev.Pl
open Tok
theorem Ade{N:Nat}(hN:N≤64):N/2 ^ MN N≤1:=by
 have:((List.range 65).all fun k=>decide (k/2 ^ MN k≤1))=true:=by kernel_rfl
 exact AjB (Ahe.1 this N (by simp;omega))
theorem RG2.below{N:Nat}{ts:List Tie}(h:RG2 N ts)(hs:Snd N (MN N:Int) ts){t:Tie}(ht:t∈ts):t.2.2.1<(MN N:Int):=
 hs.below (Ade h.hN) ht (by have:=(h.tie ht).2.2.1;omega)
end Go.Pev.Pl
end
section
namespace Go.Pev.Pl
open Tok
noncomputable def Aeq(N:Nat)(l:List Edge)(v:Int):List Int:=((List.range N).filter fun(w:Nat)=>DS l v (w:Int)).map fun(w:Nat)=>(w:Int)
theorem Abq(N:Nat)(l:List Edge)(v:Int):(Aeq N l v).length=csz N l v:=by
 unfold Aeq csz
 rw[AiS,List.countP_eq_length_filter]
theorem AEK{N:Nat}(h1:1≤N)(hN:N≤64)(ts:List Tie)(ht:ts.length≤400)(hin:∀ e∈ts.map ed,In (N:Int) e.1∧In (N:Int) e.2.1)(v:Nat)(hv:v<N)(k:Int):KE (((N:Int),(ts,())),(v:Int),k,())=some (Aeq N (trk ts k) (v:Int),()):=by
 obtain⟨o,e1,c1⟩:=DL (N:Int) (trk ts k) ⟨by omega,by omega⟩ (by have:=AUF ts k;omega) (fun e he=>hin e (AGs ts k e he))
 have ho:o.length=N:=by have:=c1.len;omega
 have hi:∀ k:Nat,k<N→In (N:Int) (k:Int):=fun k hk=>AVN h1 hN ⟨by omega,by omega⟩
 have hg:∀ k:Nat,o.getD k 0=cl o (k:Int):=fun k=>by unfold cl;rw[Ah8]
 rw[Qo,Im]
 simp only[Ni (N:Int) ts ht,e1]
 have e:=DT (step:=C2) (fun i (a:List Int)=>((v:Int),(N:Int),ts,o,a,(i:Int),())) (List.range N) (fun(w:Nat) a=>.inl (if DS (trk ts k) (v:Int) (w:Int)=true then a++[(w:Int)]else a)) (fun a=>.inl (a,())) (fun i a=>a.length≤i) (by simp;omega)
  (fun i x a hx0 hx ha=>by
   refine⟨fun m' h' => ?_,fun r h'=>(by cases h')⟩
   cases h'
   have:=Db hx
   subst this
   rw[Ahu]at hx0
   constructor
   ·rw[C2,AO,AhH hx0]
    simp only[CW 0 (show x<o.length by omega),CW 0 (show v<o.length by omega),EX,Aq]
    rw[Bd (by simp only[AM,AhO,Ahi];omega),AQ (by omega)]
    have:decide (o.getD x 0=o.getD v 0)=DS (trk ts k) (v:Int) (x:Int):=by
     rw[Aie,Ah6,BY,hg,hg,c1.same _ _ (hi x hx0) (hi v hv)]
     exact⟨fun c=>c.symm,fun c=>c.symm⟩
    rw[this]
    cases DS (trk ts k) (v:Int) (x:Int)<;>simp[A4]
   ·split
    ·rw[AhP];simp;omega
    ·omega)
  (fun a _=>by rw[C2,Ahu,AO,AhF (by omega)]) [] (AhQ _)
 have e':AW C2 many ((v:Int),(N:Int),ts,o,[],(0:Int),())=_:=e
 simp only[e']
 rw[Ba (fun(w:Nat) (a:List Int)=>if DS (trk ts k) (v:Int) (w:Int)=true then a++[(w:Int)]else a),AJR (fun w:Nat=>DS (trk ts k) (v:Int) (w:Int)=true) (fun w:Nat=>(w:Int))]
 unfold Aeq
 simp
end Go.Pev.Pl
end
section
namespace Go.Pev.Pl
open Tok
end Go.Pev.Pl
end
section
namespace Go.Pev.Pl
open Tok
end Go.Pev.Pl
end
section
namespace Go.Pev.Pl
open Tok
theorem RG2.edP{N:Nat}{ts:List Tie}(h:RG2 N ts):(ts.map ed).Pairwise Js:=by
 rw[Ain]
 exact((YC N ts).1 h.oks).2
end Go.Pev.Pl
end
section
namespace Go.Pev.Pl
open Tok
noncomputable def ANG(ts:List Tie)(k:Nat):Bool:=ts.any fun t => !t.2.2.2.1&&(decide (t.2.2.1=(k:Int)) && !DS (trk ts k) t.1 t.2.1)
theorem ALK{N:Nat}{ts:List Tie}(h:RG2 N ts)(s:Int)(k:Nat){o:List Int}(hc:MC (N:Int) (trk ts k) o):
  AW DX many ((N:Int),ts,s,(k:Int),o,(0:Int),())=some (if ANG ts k then .inl (false,())else .inr (.inl ((N:Int),ts,s,(k:Int),()))):=by
 have ht:=h.ht
 have ho:o.length=N:=by have:=hc.len;omega
 have e:=I4 (step:=DX) (fun i=>((N:Int),ts,s,(k:Int),o,(i:Int),())) ts (fun t => !t.2.2.2.1&&(decide (t.2.2.1=(k:Int)) && !DS (trk ts k) t.1 t.2.1)) (fun _=>.inl (false,())) (.inr (.inl ((N:Int),ts,s,(k:Int),()))) (by omega)
  (fun i x hi hx=>by
   obtain⟨i1,i2,_,l1,l2⟩:=h.tie (AhV hx)
   rw[DX,AM,AO,AhH hi]
   simp only[Ak hx,Ac7 ho (show InV N x.1 from⟨i1.2.2.1,i1.2.2.2⟩),Ac7 ho (show InV N x.2.1 from⟨i2.2.2.1,i2.2.2.2⟩)]
   have hd:∀ w:Int,AY o (AK w) 0=cl o w:=fun _=>rfl
   rw[AQ (by omega),hd,hd,Aq,Aq]
   have:decide (cl o x.1=cl o x.2.1)=DS (trk ts k) x.1 x.2.1:=by
    rw[Aie,Ah6,BY]
    exact hc.same _ _ i1 i2
   rw[this]
   generalize DS (trk ts (k:Int)) x.1 x.2.1=c
   generalize decide (x.2.2.1=(k:Int))=d
   generalize x.2.2.2.1=f
   cases f<;>cases d<;>cases c<;>rfl)
  (by rw[DX,AM,AO,AhF (by omega)])
 have e':AW DX many ((N:Int),ts,s,(k:Int),o,(0:Int),())=_:=e
 rw[e']
 rfl
theorem ALL{N:Nat}{ts:List Tie}(h:RG2 N ts)(k:Nat):
  AW DW many ((N:Int),ts,((N/2 ^ k:Nat):Int),(k:Int),(0:Int),())=some (if AJ6 N ts k then .inl (false,())else .inr (.inl ((N:Int),ts,((N/2 ^ k:Nat):Int),(k:Int),()))):=by
 have hN:=h.hN
 have e:=I4 (step:=DW) (fun i=>((N:Int),ts,((N/2 ^ k:Nat):Int),(k:Int),(i:Int),())) (List.range N) (fun v=>decide (max 1 (N/2 ^ k)<csz N (trk ts k) (v:Int))) (fun _=>.inl (false,())) (.inr (.inl ((N:Int),ts,((N/2 ^ k:Nat):Int),(k:Int),()))) (by simp;omega)
  (fun i x hi hx=>by
   have:=Db hx
   subst this
   rw[Ahu]at hi
   have hle:=AfR N (trk ts k) (x:Int)
   have hdl:N/2 ^ k≤N:=Nat.div_le_self _ _
   rw[DW,AO,AhH hi]
   simp only[AEK h.h1 h.hN ts h.ht h.inE x hi,AM,Abq,Ae9]
   rw[AQ (by omega),Aj]
   have:decide (max (1:Int) ((N/2 ^ k:Nat):Int)<(csz N (trk ts k) (x:Int):Int))=decide (max 1 (N/2 ^ k)<csz N (trk ts k) (x:Int)):=Aik.2 (by omega)
   rw[this]
   cases decide (max 1 (N/2 ^ k)<csz N (trk ts k) (x:Int))<;>simp)
  (by rw[DW,Ahu,AO,AhF (by omega)])
 have e':AW DW many ((N:Int),ts,((N/2 ^ k:Nat):Int),(k:Int),(0:Int),())=_:=e
 rw[e']
 rfl
theorem Aeh{N:Nat}{ts:List Tie}(h:RG2 N ts):((List.range (MN N+1)).any fun k=>ANG ts k)=ts.any (ARz ts):=by
 rw[Aie,AiZ,AiZ]
 constructor
 ·rintro⟨k,_,hk⟩
  unfold ANG at hk
  rw[AiZ]at hk
  obtain⟨t,ht,q⟩:=hk
  simp only[AhJ,AhI]at q
  refine⟨t,ht,?_⟩
  unfold ARz
  rw[q.2.1,AhJ]
  exact⟨q.1,q.2.2⟩
 ·rintro⟨t,ht,q⟩
  unfold ARz at q
  rw[AhJ]at q
  obtain⟨_,_,_,l1,l2⟩:=h.tie ht
  obtain⟨k,hk⟩:=AhR l1
  have hT:=Ib h.hN
  refine⟨k,by rw[AiN];omega,?_⟩
  unfold ANG
  rw[AiZ]
  refine⟨t,ht,?_⟩
  rw[hk]at q
  simp only[AhJ,AhI]
  exact⟨q.1,hk,q.2⟩
theorem Vx{N:Nat}{ts:List Tie}(h:RG2 N ts):Km (((N:Int),(ts,())),())=some (Ly (Wz ts∧AKH ts∧Re N ts),()):=by
 have ht:=h.ht
 have h1:=h.h1
 have hN:=h.hN
 have hT:=Adf h.hN
 have hTe:=Ib h.hN
 obtain⟨o1,e1,c1⟩:=DL (N:Int) (ts.map ed) ⟨by omega,by omega⟩ (by rw[AiS];omega) h.inE
 obtain⟨o2,e2,c2⟩:=h.AVh 0
 have l1:o1.length=N:=by have:=c1.len;omega
 have l2:o2.length=N:=by have:=c2.len;omega
 rw[Oy,J2]
 simp only[h.r21,AhT,AOS (N:Int) ts h.ht h.r21,e1,Ni (N:Int) ts h.ht,e2]
 have f0:=I4 (step:=EP) (fun i=>((N:Int),ts,o1,o2,(i:Int),())) (List.range N) (fun k => !decide (o1.getD k 0=o2.getD k 0)) (fun _=>.inl (false,())) (.inr (.inl ((N:Int),ts,()))) (by simp;omega)
  (fun i x hi hx=>by
   have:=Db hx
   subst this
   rw[Ahu]at hi
   rw[EP,AO,AhH hi]
   simp only[CW 0 (show x<o1.length by omega),CW 0 (show x<o2.length by omega),EX,Aq]
   rw[AQ (by omega)]
   cases decide (o1.getD x 0=o2.getD x 0)<;>simp)
  (by rw[EP,Ahu,AO,AhF (by omega)])
 have f0':AW EP many ((N:Int),ts,o1,o2,(0:Int),())=_:=f0
 have hsame:(!(List.range N).any fun k => !decide (o1.getD k 0=o2.getD k 0))=Ly (Wz ts):=by
  refine Qb ?_
  have e0:(!(List.range N).any fun k => !decide (o1.getD k 0=o2.getD k 0))=true↔o1=o2:=by
   rw[AiK,Ajq]
   constructor
   ·intro hh
    refine G8 0 (by omega) fun k hk => ?_
    have:=hh k (by rw[AiN];omega)
    simpa using this
   ·rintro rfl k _
    simp
  rw[e0,AZB h1 hN c1 c2 h.inE (h.inK 0)]
  exact⟨fun q=>q.1,fun q=>⟨q,fun e he=>.edge e (AGs ts 0 e he)⟩⟩
 have f1:=I4 (step:=EO) (fun i=>((N:Int),ts,((N/2 ^ i:Nat):Int),(i:Int),())) (List.range (MN N+1)) (fun k=>ANG ts k||AJ6 N ts k) (fun _=>.inl (false,())) (.inr (.inl ())) (by simp;omega)
  (fun i x hi hx=>by
   have:=Db hx
   subst this
   rw[Ahu]at hi
   obtain⟨o,g1,g2⟩:=h.AVh x
   have hdl:N/2 ^ x≤N:=Nat.div_le_self _ _
   rw[EO]
   simp only[Sa N h.hN,hTe]
   rw[EI,AhH (by omega)]
   simp only[Ni (N:Int) ts h.ht,g1,ALK h _ x g2]
   cases ANG ts x
   ·simp only[Aha,AhZ,ALL h x,Bool.false_or]
    cases AJ6 N ts x
    ·simp only[Aha,AhZ]
     rw[Afj (by omega),AQ (by omega)]
     simp only[]
     rw[Nat.pow_succ,Nat.div_div_eq_div_mul]
    ·rfl
   ·rfl)
  (by
   rw[EO,Ahu]
   simp only[Sa N h.hN,hTe]
   rw[EI,AhF (by omega)])
 have hz:((N/2 ^ 0:Nat):Int)=(N:Int):=by simp
 have f1':AW EO many ((N:Int),ts,((N/2 ^ 0:Nat):Int),(0:Int),())=_:=f1
 rw[hz]at f1'
 have hor:((List.range (MN N+1)).any fun k=>ANG ts k||AJ6 N ts k)=(ts.any (ARz ts)||(List.range (MN N+1)).any (AJ6 N ts)):=by
  rw[← Aeh h]
  generalize List.range (MN N+1)=xs
  induction xs with
  |nil=>rfl
  |cons x xs ih=>simp only[AkL,ih];cases ANG ts x<;>cases AJ6 N ts x<;>simp
 have b1:=Aeg ts
 have b2:=AdC hN ts
 rw[hor]at f1'
 simp only[f0']
 have fin:Ly (Wz ts∧AKH ts∧Re N ts)=(Ly (Wz ts)&&(Ly (AKH ts)&&Ly (Re N ts))):=by
  symm
  refine Qb ?_
  rw[AhJ,AhJ,HM,HM,HM]
 rw[fin,← hsame,← b1,← b2]
 cases (List.range N).any fun k => !decide (o1.getD k 0=o2.getD k 0)
 ·simp only[Aha,AhZ,f1']
  cases ts.any (ARz ts)<;>cases (List.range (MN N+1)).any (AJ6 N ts)<;>rfl
 ·rfl
end Go.Pev.Pl
end
section
namespace Go.Pev.Pl
section
variable {N top:Nat} {ts w:List Tie} (hp:w.Perm ts) (hi:∀ x∈ts,InE N (ed x)) (hl:∀ t∈ts,0≤t.2.2.1∧t.2.2.1≤(top:Int)) (hfo:Fo N (trk ts 0)) (hlie:∀ x∈ts,x.2.2.2.1=false→Con (trk ts x.2.2.1) x.1 x.2.1)
include hp hi
include hl hfo hlie
end
end Go.Pev.Pl
end
section
namespace Go.Pev.Pl
open Tok
end Go.Pev.Pl
end
section
namespace Go.Pev.Pl
open Tok
def bef(x y:Tie):Prop:=y.2.2.1<x.2.2.1∨(x.2.2.1=y.2.2.1∧ahead x y)
theorem bef.trans{x y z:Tie}(h:bef x y)(h':bef y z):bef x z:=by
 unfold bef ahead at *
 omega
def Mrg(u v w:List Tie):Prop:=w.Perm (u++v)∧w.Pairwise bef
end Go.Pev.Pl
end
section
namespace Go.Pev.Pl
open Tok
noncomputable section
end
theorem Mrg.append{u1 u2 v1 v2 w1 w2:List Tie}(h1:Mrg u1 v1 w1)(h2:Mrg u2 v2 w2)(hu:(u1++u2).Pairwise bef)(hv:(v1++v2).Pairwise bef)(c1:∀ x∈u1,∀ y∈v2,bef x y)(c2:∀ y∈v1,∀ x∈u2,bef y x):Mrg (u1++u2) (v1++v2) (w1++w2):=by
 rw[Ajz]at hu hv
 refine⟨?_,?_⟩
 ·refine(h1.1.append h2.1).trans ?_
  rw[AiM,AiM]
  refine List.Perm.append_left _ ?_
  rw[← AiM,← AiM]
  exact List.Perm.append_right _ Ai0
 ·rw[Ajz]
  refine⟨h1.2,h2.2,fun x hx y hy => ?_⟩
  have hx:=AhL.1 (h1.1.mem_iff.1 hx)
  have hy:=AhL.1 (h2.1.mem_iff.1 hy)
  rcases hx with hx|hx<;>rcases hy with hy|hy
  ·exact hu.2.2 x hx y hy
  ·exact c1 x hx y hy
  ·exact c2 x hx y hy
  ·exact hv.2.2 x hx y hy
end Go.Pev.Pl
end
section
namespace Go.Pev.Pl
open Tok
end Go.Pev.Pl
end
section
namespace Go.Pev.Pl
open Tok
end Go.Pev.Pl
end
section
namespace Go.Pev.Pl
open Tok
def lvl(ts:List Tie)(k:Int):List Tie:=ts.filter fun t=>decide (t.2.2.1=k)
end Go.Pev.Pl
end
section
namespace Go.Pev.Pl
open Tok
section
variable (n:Int) (ts:List Tie)
end
end Go.Pev.Pl
end
section
namespace Go.Pev.Pl
open Tok
def mid(f:Int→Int)(xs:List Int)(i:Nat):List Int:=(xs.take i).map f++xs.drop i
def lb(at0:List Int)(v:Int):Int:=at0.getD v.toNat 0
end Go.Pev.Pl
end
section
namespace Go.Pev.Pl
open Tok
end Go.Pev.Pl
end
section
namespace Go.Pev.Pl
section
variable {α β:Type} [DecidableEq α]
theorem ABV(es:List (α×β))(k:α)(v:β)(j:α):AN (Ae es k v) j=if j=k then some v else AN es j:=by
 induction es with
 |nil=>
  simp only[Ae,AN]
  by_cases h:j=k
  ·rw[AhX h,AhX h.symm]
  ·rw[AhU h,AhU (Ahx h)]
 |cons e es ih=>
  obtain⟨a,x⟩:=e
  by_cases h1:a=k
  ·subst h1
   simp only[Ae,AN,Ahv]
   by_cases h:j=a
   ·rw[AhX h,AhX h.symm]
   ·rw[AhU h,AhU (Ahx h),AhU (Ahx h)]
  ·simp only[Ae,AN,h1,AhZ,ih]
   by_cases h:a=j
   ·subst h
    rw[AhX rfl,AhU h1,AhX rfl]
   ·rw[AhU h,AhU h]
theorem AFQ:∀ (es:List (α×β)) (k:α),D8 es k=none→∀ v,Ae es k v=es++[(k,v)]:=by
 intro es
 induction es with
 |nil=>intro k _ v;rfl
 |cons e es ih=>
  intro k h v
  obtain⟨a,b⟩:=e
  by_cases hk:a=k
  ·simp[D8,hk]at h
  ·simp only[D8,hk,AhZ,AkF]at h
   simp only[Ae,hk,AhZ,ih k h v,Ahl]
theorem AFP:∀ (es:List (α×β)) (k:α) (n:Nat),D8 es k=some n→∀ v,n<es.length∧Ae es k v=es.modify n fun e=>(e.1,v):=by
 intro es
 induction es with
 |nil=>intro k n h;simp[D8]at h
 |cons e es ih=>
  intro k n h v
  obtain⟨a,b⟩:=e
  by_cases hk:a=k
  ·simp only[D8,hk,Ahv,AhG]at h
   subst h
   simp[Ae,hk]
  ·simp only[D8,hk,AhZ,AhW]at h
   obtain⟨m,hm,rfl⟩:=h
   obtain⟨h1,h2⟩:=ih k m hm v
   simp only[Ae,hk,AhZ,AhO]
   exact⟨by omega,by rw[h2];rfl⟩
theorem AR8(es:List (α×β))(k:α)(z v:β):(ile (0:Int) (Qd es k)&&ilt (Qd es k) (AJ (Ae es k z)))=true∧ANJ (Ae es k z) (Qd es k) v=Ae es k v:=by
 rw[A0,Aj]
 unfold Qd ANJ
 cases h:D8 es k with
 |none=>
  rw[AFQ es k h,AFQ es k h,Option.getD_none,Ah8]
  constructor
  ·rw[AhH (by omega),AhH (by rw[AM,AhP];simp;omega)];rfl
  ·have:∀ (xs:List (α×β)),(xs++[(k,z)]).modify xs.length (fun e=>(e.1,v))=xs++[(k,v)]:=by
    intro xs
    induction xs with
    |nil=>rfl
    |cons x xs ih=>rw[Ahl,AhO,List.modify_succ_cons,ih];rfl
   exact this es
 |some n=>
  obtain⟨h1,h2⟩:=AFP es k n h z
  obtain⟨_,h3⟩:=AFP es k n h v
  rw[h2,h3,Ahp,Ah8]
  constructor
  ·rw[AhH (by omega),AhH (by rw[AM,List.length_modify];omega)];rfl
  ·apply AjA
   intro i
   simp only[Ajx]
   cases es[i]? with
   |none=>split<;>rfl
   |some e=>split<;>rfl
end
end Go.Pev.Pl
end
section
namespace Go.Pev.Pl
open Tok
end Go.Pev.Pl
end
section
namespace Go.Pev.Pl
open Tok
end Go.Pev.Pl
end
section
namespace Go.Pev.Pl
open Tok
end Go.Pev.Pl
end
section
namespace Go.Pev.Pl
open Tok
section
variable (n:Int) (a2 a3:Bool) (a4 a5 top:Int)
end
end Go.Pev.Pl
end
section
namespace Go.Pev.Pl
section
variable {α:Type} (z:α)
theorem ABz{a o:List α}{m k:Nat}(h:a.drop m=o.drop m)(hk:m≤k):a.getD k z=o.getD k z:=by
 have:=AiX (fun l=>l.getD (k-m) z) h
 simp only[AhK,AiH]at this
 rw[Nat.add_sub_cancel' hk]at this
 simpa [AhK]using this
theorem Lx{xs:List α}{i:Nat}(h:i<xs.length):xs.take (i+1)=xs.take i++[xs.getD i z]:=by
 rw[Aij h];simp[h]
theorem Acv{σ ρ:Type}{step:σ→Option (σ⊕ρ)}(st:List α→Nat→Nat→σ)(fin:List α→Nat→ρ)(keep:α→Bool)(o:List α)
  (h:∀ a w j,a.length=o.length→j<o.length→w<j→a.getD j z=o.getD j z→step (st a w j)=some (.inl (if keep (o.getD j z)=true then st (a.set w (o.getD j z)) (w+1) (j+1)else st a w (j+1))))
  (hN:∀ a w,a.length=o.length→step (st a w o.length)=some (.inr (fin a w))) :
  ∀ (k j w:Nat) (a:List α) (cnt:Nat),j+k=o.length→a.length=o.length→w=((o.take j).filter keep).length→a.take w=(o.take j).filter keep→w<j→a.drop j=o.drop j→k<cnt →
  ∃ a':List α,AX step cnt (st a w j)=some (fin a' (o.filter keep).length)∧a'.length=o.length∧a'.take (o.filter keep).length=o.filter keep:=by
 intro k
 induction k with
 |zero=>
  intro j w a cnt hk hl hw hq hwj hd hn
  obtain⟨cnt,rfl⟩:∃ k,cnt=k+1:=⟨cnt-1,by omega⟩
  have e:j=o.length:=by omega
  subst e
  rw[Aig]at hw hq
  rw[AX,hN a w hl]
  exact⟨a,by rw[hw],hl,by rw[← hw];exact hq⟩
 |succ k ih=>
  intro j w a cnt hk hl hw hq hwj hd hn
  obtain⟨cnt,rfl⟩:∃ k,cnt=k+1:=⟨cnt-1,by omega⟩
  have g1:=ABz z hd (AhQ j)
  have hdd:a.drop (j+1)=o.drop (j+1):=by
   have:=AiX (List.drop 1) hd
   simpa only[Ai7]using this
  have hst:(o.take (j+1)).filter keep=(o.take j).filter keep++if keep (o.getD j z)=true then [o.getD j z]else []:=by
   rw[Lx z (by omega),Ai4]
   generalize o.getD j z=v
   by_cases h:keep v=true<;>simp[h]
  rw[AX,h a w j hl (by omega) hwj g1]
  by_cases hv:keep (o.getD j z)=true
  ·rw[AhX hv]at hst ⊢
   refine ih (j+1) (w+1) (a.set w (o.getD j z)) cnt (by omega) (by simp[hl]) (by rw[hst];simp[hw]) ?_ (by omega) ?_ (by omega)
   ·rw[hst,← hq,Aij (by simp;omega)]
    simp[List.take_set_of_le]
   ·rw[List.drop_set_of_lt (by omega)]
    exact hdd
  ·rw[AhU hv]at hst ⊢
   rw[AiR]at hst
   exact ih (j+1) w a cnt (by omega) hl (by rw[hst];exact hw) (by rw[hst];exact hq) (by omega) hdd (by omega)
theorem AF3{σ ρ σ' ρ':Type}{find:σ'→Option (σ'⊕ρ')}{step:σ→Option (σ⊕ρ)}(st:List α→Nat→Nat→σ)(fin:List α→Nat→ρ)(sf:Nat→σ')(fr:Nat→ρ')(fn:ρ')(keep:α→Bool)(o:List α)(hs:o.length<4294967296)
  (h:∀ a w j,a.length=o.length→j<o.length→w<j→a.getD j z=o.getD j z→step (st a w j)=some (.inl (if keep (o.getD j z)=true then st (a.set w (o.getD j z)) (w+1) (j+1)else st a w (j+1))))
  (hN:∀ a w,a.length=o.length→step (st a w o.length)=some (.inr (fin a w)))
  (f:∀ i,i<o.length→find (sf i)=if keep (o.getD i z)=true then some (.inl (sf (i+1)))else some (.inr (fr i))) (fN:find (sf o.length)=some (.inr fn)) :
  (o.filter keep=o∧AW find many (sf 0)=some fn) ∨
  (∃ k a',k<o.length∧AW find many (sf 0)=some (fr k)∧AW step many (st o k (k+1))=some (fin a' (o.filter keep).length)∧a'.length=o.length∧(o.filter keep).length≤o.length∧a'.take (o.filter keep).length=o.filter keep):=by
 have hm:4294967296<many:=by simp only[many];omega
 have hall:∀ n,(∀ j,j<n→j<o.length→keep (o.getD j z)=true)→(o.take n).filter keep=o.take n:=by
  intro n hj
  rw[Aj3]
  intro x hx
  obtain⟨j,h1,rfl⟩:=AjL.1 hx
  have:=hj j (by omega) (by omega)
  simpa [show j<o.length by omega]using this
 rcases ALe (step:=find) sf o.length (fun i => !keep (o.getD i z)) fr fn (by omega) (fun i hi=>by rw[f i hi];cases keep (o.getD i z)<;>rfl) fN with⟨k,hk,hP,hF,e⟩|⟨hP,e⟩
 ·right
  have hkf:keep (o.getD k z)=false:=by
   cases hq:keep (o.getD k z)
   ·rfl
   ·rw[hq]at hP;cases hP
  have h1:(o.take k).filter keep=o.take k:=hall k fun j h1 _=>by
   have:=hF j h1
   cases hq:keep (o.getD j z)
   ·rw[hq]at this;cases this
   ·rfl
  have h2:(o.take (k+1)).filter keep=o.take k:=by
   rw[Lx z hk,Ai4,h1,AiV,hkf]
   simp
  obtain⟨a',e2,e3,e4⟩:=Acv z st fin keep o h hN (o.length-(k+1)) (k+1) k o many (by omega) rfl (by rw[h2,Ahc];omega) (by rw[h2]) (by omega) rfl (by omega)
  exact⟨k,a',hk,e,by rw[As];exact e2,e3,Aiw _ _,e4⟩
 ·left
  refine⟨?_,e⟩
  have:=hall o.length fun j _ h2=>by
   have:=hP j h2
   cases hq:keep (o.getD j z)
   ·rw[hq]at this;cases this
   ·rfl
  rwa [Aig]at this
theorem ACq{a:List α}{w:Nat}(h:w≤a.length):(Bl w (a.length-w) z a).take w=a.take w∧(Bl w (a.length-w) z a).length=a.length:=by
 constructor
 ·rw[Bl,List.take_append_of_le_length (by simp;omega),AjR,Nat.min_self]
 ·simp[Bl];omega
end
end Go.Pev.Pl
end
section
namespace Go.Pev.Pl
open Tok
end Go.Pev.Pl
end
section
namespace Go.Pev.Pl
open Tok
end Go.Pev.Pl
end
section
namespace Go.Pev.Pl
open Tok
end Go.Pev.Pl
end
section
namespace Go.Pev.Pl
open Tok
theorem Xv{n:Int}(l:List Edge)(hs:l.length<1073741824)(ha:∀ e∈l,In n e.1∧In n e.2.1):
  ∀ (m i c1 c2:Nat) (rings:List (List Int)) (t1 t2:List Bool),i+m=l.length→t1.length=i→t2.length=i→FC n rings (l.take i)→m<c1→m<c2 →
  ∃ zs b1 b2,AX Hx c1 (l,n,rings,(0:Int),t1,(i:Int),())=some (.inl (n,zs,(0:Int),b1,()))∧AX By c2 (n,rings,(0:Int),t2,l,(l.length:Int),(i:Int),())=some (.inl (n,zs,(0:Int),b2,()))∧FC n zs l:=by
 intro m
 induction m with
 |zero=>
  intro i c1 c2 rings t1 t2 hi ht1 ht2 h hc1 hc2
  obtain⟨c1,rfl⟩:∃ c,c1=c+1:=⟨c1-1,by omega⟩
  obtain⟨c2,rfl⟩:∃ c,c2=c+1:=⟨c2-1,by omega⟩
  rw[AiB (by omega)]at h
  refine⟨rings,t1,t2,?_,?_,h⟩
  ·rw[AX,Hx,AM,AO,AhF (by omega)]
  ·rw[AX,By,AO,AhF (by omega)]
 |succ m ih=>
  intro i c1 c2 rings t1 t2 hi ht1 ht2 h hc1 hc2
  obtain⟨c1,rfl⟩:∃ c,c1=c+1:=⟨c1-1,by omega⟩
  obtain⟨c2,rfl⟩:∃ c,c2=c+1:=⟨c2-1,by omega⟩
  have hi':i<l.length:=by omega
  have hx:l[i]? = some l[i]:=AhM hi'
  obtain⟨iu,iv⟩:=ha _ (Air hi')
  obtain⟨zs,q,e1,e2,_⟩:=AVs h iu iv
  obtain⟨zs',q',f1,f2,_⟩:=ATt (n:=n) (rings:=rings) l[i].1 l[i].2.1 h.fr.dom
  rw[e1]at f1
  cases f1
  rw[← Aij hi']at e2
  obtain⟨zs2,b1,b2,g1,g2,g3⟩:=ih (i+1) c1 c2 zs (A4 t1 [ieq q 0]) (A4 t2 [ieq q 0]) (by omega) (by simp[C6,ht1]) (by simp[C6,ht2]) e2 (by omega) (by omega)
  refine⟨zs2,b1,b2,?_,?_,g3⟩
  ·rw[AX,Hx,AM,AO,AhH hi']
   simp only[Ak hx,f2]
   rw[AQ (by omega),Bd (by simp only[AM,AhO,Ahi];omega)]
   exact g1
  ·rw[AX,By,AO,AhH hi']
   simp only[Ak hx,e1]
   rw[AQ (by omega),Bd (by simp only[AM,AhO,Ahi];omega)]
   exact g2
theorem AfW{N:Nat}(h1:1≤N)(hN:N≤64)(l:List Edge)(hs:l.length<1073741824)(ha:∀ e∈l,In (N:Int) e.1∧In (N:Int) e.2.1):
  ∃ zs,fof ((N:Int),l,())=some (((N:Int),(zs,())),0,())∧AgO ((N:Int),l,())=some (((N:Int),(zs,())),0,())∧FC (N:Int) zs l:=by
 have hF:=ADD h1 hN
 have hD:=hF.fr.dom
 have hRF:=Lg.2 hF.fr
 obtain⟨zs,b1,b2,e1,e2,h2⟩:=Xv l hs ha l.length 0 many many (BR N) [] [] (by omega) rfl rfl (by simpa using hF) (by simp only[many];omega) (by simp only[many];omega)
 refine⟨zs,?_,?_,h2⟩
 ·have hth:Pd (((N:Int),(BR N,())),l.flatMap fun e=>[e.1,e.2.1],())=some (0,()):=by
   have hfl:=AOQ l
   rw[AB1 _ _ _ hD (by omega),AOR,AO0,AhX hRF]
   split
   ·rfl
   ·rename_i hc
    exact absurd (Ahe.2 fun e he=>AhH (ha e he)) hc
  have hm:G4 (N:Int)=((N:Int),BR N,0,()):=by
   unfold G4
   rw[AhX (show Sz (N:Int)from⟨by omega,by omega⟩),Ah8]
  have e2':AX By many ((N:Int),BR N,(0:Int),[],l,(l.length:Int),(0:Int),())=_:=e2
  rw[AS8,AOE]
  simp only[AE0,hm,Dd,AhT]
  rw[T4,M7,NB,IB]
  simp only[ACO l hs,hth,Dd,AhT,As,AM,e2']
 ·have hall:(l.all fun e=>decide (In (N:Int) e.1)&&decide (In (N:Int) e.2.1))=true:=by
   rw[Ahe]
   intro e he
   obtain⟨h1,h2⟩:=ha e he
   simp[h1,h2]
  have e1':AW Hx many (l,(N:Int),BR N,(0:Int),[],(0:Int),())=_:=(As _ _ _).trans e1
  have hE:AO0 (N:Int) (BR N) true=0:=by
   unfold AO0
   simp[hRF]
  have hL:AIx (((N:Int),(BR N,())),l,())=some (((N:Int),(zs,())),b1,0,()):=by
   rw[ASY,Tg]
   simp only[ALB (N:Int) (BR N) l hD (by omega),hall]
   rw[hE]
   simp only[Ny,AhT,e1']
  have hm:AIr ((N:Int),())=some ((N:Int),BR N,0,()):=by
   rw[ASL]
   unfold G4
   rw[AhX (show Sz (N:Int)from⟨by omega,by omega⟩),Ah8]
  rw[Aej,AR1]
  simp only[hm,Ny,AhT,hL]
theorem RG2.both{N:Nat}{ts:List Tie}(h:RG2 N ts)(k:Int):∃ zs,Nv (((N:Int),(ts,())),k,())=some (((N:Int),(zs,())),0,())∧AB7 (((N:Int),(ts,())),k,())=some (((N:Int),(zs,())),0,())∧FC (N:Int) zs (trk ts k):=by
 have hl:=h.AgW k
 obtain⟨zs,e1,e2,hF⟩:=AfW h.h1 h.hN (trk ts k) (by omega) (h.inK k)
 refine⟨zs,?_,?_,hF⟩
 ·rw[PO,KK]
  simp only[h.lr,AhT,ANU (N:Int) ts h.ht k,e1]
 ·rw[AOC,Pf]
  simp only[h.r21,AhT,Ni (N:Int) ts h.ht k,e2]
end Go.Pev.Pl
end
section
namespace Go.Pev.Pl
open Tok
section
variable (n:Int) (ts:List Tie)
end
end Go.Pev.Pl
end
section
namespace Go.Pev.Pl
open Tok
end Go.Pev.Pl
end
section
namespace Go.Pev.Pl
open Tok
theorem ADs{n:Int}{ts:List Tie}(ht:ts.length≤400):(∃ N:Nat,n=(N:Int)∧RG2 N ts∧Snd N (MN N:Int) ts∧Km ((n,(ts,())),())=some (true,()))∨Km ((n,(ts,())),())=some (false,()):=by
 rcases AW6 n ts (by omega)with⟨r1,_⟩|⟨N,rfl,h⟩
 ·right
  rw[Oy,J2]
  simp only[r1,Ahw]
 ·by_cases hp:Wz ts∧AKH ts∧Re N ts
  ·exact .inl ⟨N,rfl,h,h.snd hp,by rw[Vx h,(HM _).2 hp]⟩
  ·right
   have:Ly (Wz ts∧AKH ts∧Re N ts)=false:=by rw[← Bool.not_eq_true,HM];exact hp
   rw[Vx h,this]
end Go.Pev.Pl
end
section
namespace Go.Pev.Pl
open Tok
end Go.Pev.Pl
end
section
namespace Go.Pev.Pl
open Tok
theorem AXk(n:Int)(rings:List (List Int))(v:Int)(hD:Dom rings):AgP ((n,(rings,())),v,())=some (if RF n rings∧In n v then plc rings v else -1,()):=by
 rw[Aek,AR2]
 simp only[Hz,Eh n rings hD.1 hD.2,Mc n rings v hD.1 (fun l hl=>(hD.2 l hl).1)]
 by_cases h1:In n v
 ·by_cases h2:RF n rings<;>simp[h1,h2]
 ·by_cases h2:RF n rings<;>simp[h1,h2]
section
variable (a0:Int) (a1:List Tie) (a2 a3 a4:Int) (a5:List (List Int)) (a6:Int) (a7:List (List Int)) (p q:List Edge)
end
end Go.Pev.Pl
end
section
namespace Go.Pev.Pl
open Tok
end Go.Pev.Pl
end
section
namespace Go.Pev.Pl
theorem YS{α β:Type}:∀ m:List (α×β),List.zip (List.map Prod.fst m) (List.map Prod.snd m)=m
 |[]=>rfl
 |(a,b)::m=>by simp only[Ahq,Ajj,YS m]
theorem J5{β:Type}(k:Int):∀ m:List (Int×List β),AY (m.map Prod.snd) (Cw (m.map Prod.fst) k) []=(AN m k).getD []
 |[]=>by simp[Cw,AY,AN]
 |(a,b)::m=>by
  have ih:=J5 k m
  simp only[Ahq,Cw,AN]
  by_cases h:a=k
  ·simp[h,AY]
  ·simp only[h,AhZ]
   rw[← ih]
   simp[AY]
theorem ALl{β:Type}(k:Int)(v:β):∀ m:List (Int×β),List.zip (LX (m.map Prod.fst) (Cw (m.map Prod.fst) k) k) (LX (m.map Prod.snd) (Cw (m.map Prod.fst) k) v)=Ae m k v
 |[]=>by simp[Cw,LX,Ae]
 |(a,b)::m=>by
  have ih:=ALl k v m
  simp only[Ahq,Cw,Ae]
  by_cases h:a=k
  ·simp[h,LX,YS]
  ·simp only[h,AhZ]
   rw[← ih]
   have q:∀ {α:Type} (x y:α) (xs:List α) (i:Nat),LX (x::xs) (i+1) y=x::LX xs i y:=by
    intro α x y xs i
    simp only[LX,AhO,Nat.add_lt_add_iff_right,List.set_cons_succ,Ahl]
    split<;>rfl
   rw[q,q,Ajj]
def XX(k:Int)(t:Tie):Bool := !t.2.2.2.1&&decide (t.2.2.1=k)
def B9(ts:List Tie)(k:Int):List Edge:=(ts.filter (XX k)).map ed
def EB(x:Int)(e:Edge):Bool:=decide (e.1=x∨e.2.1=x)
abbrev RM:=List (Int×List (Int×Int×Unit))
def Ex(m:RM)(x:Int):List (Int×Int×Unit):=(AN m x).getD []
def AO7(m:RM)(x:Int)(e:Edge):RM:=Ae m x (Ex m x++[e])
def ATz(m:RM)(e:Edge):RM:=AO7 (AO7 m e.1 e) e.2.1 e
theorem Nn(m:RM)(x:Int)(e:Edge)(y:Int):Ex (AO7 m x e) y=if y=x then Ex m x++[e]else Ex m y:=by
 unfold Ex AO7
 rw[Dx]
 by_cases h:y=x<;>simp[h,Ex]
theorem AW1(m:RM)(e:Edge)(h:e.1≠e.2.1)(y:Int):Ex (ATz m e) y=Ex m y++if EB y e=true then [e]else []:=by
 unfold ATz
 rw[Nn,Nn,Nn]
 unfold EB
 by_cases h1:y=e.1
 ·subst h1
  rw[AhU h,AhX rfl,AhX (by simp)]
 ·by_cases h2:y=e.2.1
  ·subst h2
   rw[AhX rfl,AhU h1,AhX (by simp)]
  ·rw[AhU h2,AhU h1,AhU (by simp;omega),AiR]
theorem Zz(m:RM)(x:Int)(e:Edge)(n:Nat)(h:∀ y,(Ex m y).length≤n):∀ y,(Ex (AO7 m x e) y).length≤n+1:=by
 intro y
 rw[Nn]
 have:=h x
 have:=h y
 split<;>simp<;>omega
def ANC(k:Int)(m:RM)(t:Tie):RM:=if XX k t=true then ATz m (ed t)else m
theorem AXa(k:Int)(y:Int):∀ (ts:List Tie) (m:RM),(∀ t∈ts,t.1<t.2.1)→Ex (ts.foldl (ANC k) m) y=Ex m y++(B9 ts k).filter (EB y):=by
 intro ts
 induction ts with
 |nil=>intro m _;simp[B9]
 |cons t ts ih=>
  intro m h
  rw[AiA,ih _ fun t ht=>h t (Ahh _ ht)]
  unfold ANC B9
  rw[AiV]
  by_cases hb:XX k t=true
  ·rw[AhX hb,AhX hb,AW1 _ _ (by have:=h t List.mem_cons_self;show t.1≠t.2.1;omega),Ahq,AiV]
   by_cases hy:EB y (ed t)=true
   ·rw[AhX hy,AhX hy];simp
   ·rw[AhU hy,AhU hy];simp
  ·rw[AhU hb,AhU hb]
theorem Aad(k n:Int)(tks:List Int)(ofm:List (Int×Int))(m:RM)(u v l:Int)(b:Bool)(ts:List Tie)(d i l' k':Int)(b':Bool)(c:Nat)(hc:∀ y,(Ex m y).length≤c)(hs:c<1073741824):
  AW GB many (k,n,tks,ofm,m,u,v,l,b,ts,d,i,l',k',b',([u,v]:List Int),(0:Int),())=some (.inl (k,n,tks,ofm,ATz m (u,(v,())),ts,d,i,l',k',b',())):=by
 obtain⟨q,hm⟩:∃ q,many=q+3:=⟨many-3,by simp only[many]⟩
 have i0:idx [u,v] (0:Int)=some u:=by rw[idx_eq];rfl
 have i1:idx [u,v] (1:Int)=some v:=by rw[idx_eq];rfl
 have w1:IntKind.wrap .i64 ((0:Int)+1)=1:=by rw[Ai (by omega)];rfl
 have w2:IntKind.wrap .i64 ((1:Int)+1)=2:=by rw[Ai (by omega)];rfl
 have c0:ilt (0:Int) 2=true:=by rw[Aj];rfl
 have c1:ilt (1:Int) 2=true:=by rw[Aj];rfl
 have c2:ilt (2:Int) 2=false:=by rw[Aj];rfl
 have d0:AY [u,v] 0 (0:Int)=u:=rfl
 have d1:AY [u,v] 1 (0:Int)=v:=rfl
 have fl:∀ (m:RM) (x:Int) (e:Edge),(Ex m x).length≤c+1→fits ((AJ ((AN m x).getD []))+(AJ ([e]:List Edge)))=true:=by
  intro m x e h
  apply Bd
  simp only[AM,Ajt]
  simp only[Ex]at h
  omega
 have q0:=Zz m u (u,(v,())) c hc
 have st:∀ (m:RM) (j x:Int),(Ex m x).length≤c+1→ilt j 2=true→idx [u,v] j=some x→GB (k,n,tks,ofm,m,u,v,l,b,ts,d,i,l',k',b',([u,v]:List Int),j,())=some (.inl (k,n,tks,ofm,AO7 m x (u,(v,())),u,v,l,b,ts,d,i,l',k',b',([u,v]:List Int),IntKind.wrap .i64 (j+1),())):=by
  intro m j x h1 h2 h3
  simp only[GB,d0,d1,h2,h3,J5,ALl,Dd,Aiz,C6,fl m x (u,(v,())) h1]
  rfl
 have en:GB (k,n,tks,ofm,ATz m (u,(v,())),u,v,l,b,ts,d,i,l',k',b',([u,v]:List Int),(2:Int),())=some (.inr (.inl (k,n,tks,ofm,ATz m (u,(v,())),ts,d,i,l',k',b',()))):=by
  simp only[GB,c2,YS]
 rw[As,hm,AX,st m 0 u (Nat.le_succ_of_le (hc u)) c0 i0,w1]
 show AX GB (q+2) _=_
 rw[AX,st _ 1 v (q0 v) c1 i1,w2]
 show AX GB (q+1) _=_
 rw[AX]
 have ea:AO7 (AO7 m u (u,(v,()))) v (u,(v,()))=ATz m (u,(v,())):=rfl
 rw[ea,en]
theorem AWm(k n:Int)(tks:List Int)(ofm:List (Int×Int))(ts:List Tie)(hs:ts.length≤400):
  AW Ie many (k,n,tks,ofm,([]:RM),ts,AJ ts,(0:Int),())=some (.inl (n,tks,ofm,ts.foldl (ANC k) [],())):=by
 have e:=DT (step:=Ie) (fun i (m:RM)=>(k,n,tks,ofm,m,ts,AJ ts,(i:Int),())) ts (fun t m=>.inl (ANC k m t)) (fun m=>.inl (n,tks,ofm,m,())) (fun i m=>∀ y,(Ex m y).length≤2*i) (by omega)
  (fun i x m hi hx hm=>by
   refine⟨fun m' h' => ?_,fun r h'=>(by cases h')⟩
   cases h'
   constructor
   ·rw[Ie,AM,AO,AhH hi]
    simp only[Ak hx,AM,YS]
    rw[AQ (by omega)]
    unfold ANC XX
    cases h4:x.2.2.2.1
    ·simp only[Aq]
     by_cases h5:x.2.2.1=k
     ·rw[AhH h5]
      simp only[AhT,Ahw,AjH,Ahv]
      rw[Aad k n tks ofm m x.1 x.2.1 x.2.2.1 false ts _ _ _ _ _ (2*i) hm (by omega)]
      simp only[YS]
      rw[AQ (by omega)]
      rfl
     ·rw[AhF h5]
      simp
    ·simp
   ·unfold ANC
    split
    ·intro y
     have:=Zz _ x.2.1 (ed x) (2*i+1) (Zz m x.1 (ed x) (2*i) hm) y
     exact this
    ·intro y
     have:=hm y
     omega)
  (fun m _=>by rw[Ie,AM,AO,AhF (by omega)];simp only[YS]) [] (fun y=>by simp[Ex,AN])
 have e':AW Ie many (k,n,tks,ofm,([]:RM),ts,AJ ts,(0:Int),())=_:=e
 rw[e',Ba (fun(t:Tie) (m:RM)=>ANC k m t)]
def ofF(m:List (Int×Int))(x:Int):List (Int×Int):=Ae m x 1
theorem Aei(y:Int):∀ (xs:List Int) (m:List (Int×Int)),(AN (xs.foldl ofF m) y).getD 0=if y∈xs then 1 else(AN m y).getD 0:=by
 intro xs
 induction xs with
 |nil=>intro m;simp
 |cons x xs ih=>
  intro m
  rw[AiA,ih]
  unfold ofF
  rw[Dx]
  by_cases h:y∈xs
  ·simp[h]
  ·by_cases h2:y=x<;>simp[h,h2]
theorem AWl(k n:Int)(ts:List Tie)(n':Int)(tks:List Int)(hs:tks.length≤1000):
  AW Ig many (k,n,ts,n',tks,([]:List (Int×Int)),([]:RM),tks,AJ tks,(0:Int),())=some (.inl (k,n,ts,n',tks,tks.foldl ofF [],([]:RM),())):=by
 have e:=DT (step:=Ig) (fun i (m:List (Int×Int))=>(k,n,ts,n',tks,m,([]:RM),tks,AJ tks,(i:Int),())) tks (fun x m=>.inl (ofF m x)) (fun m=>.inl (k,n,ts,n',tks,m,([]:RM),())) (fun _ _=>True) (by omega)
  (fun i x m hi hx hm=>by
   refine⟨fun m' h' => ?_,fun r h'=>(by cases h')⟩
   cases h'
   refine⟨?_,trivial⟩
   rw[Ig,AM,AO,AhH hi]
   simp only[Ak hx,AM,AjF,List.zip_nil_left]
   rw[AQ (by omega)]
   rfl)
  (fun m _=>by rw[Ig,AM,AO,AhF (by omega)];rfl) [] trivial
 have e':AW Ig many (k,n,ts,n',tks,([]:List (Int×Int)),([]:RM),tks,AJ tks,(0:Int),())=_:=e
 rw[e',Ba (fun(x:Int) (m:List (Int×Int))=>ofF m x)]
structure TR(N:Nat)(ts:List Tie)(v k:Int)(tks:List Int)(ofm:List (Int×Int))(outm:RM):Prop where
 rg:RG (N:Int) tks
 mem:v∈tks
 of:∀ x,(AN ofm x).getD 0=if x∈tks then 1 else 0
 row:∀ x,Ex outm x=(B9 ts k).filter (EB x)
 con:∀ u,In (N:Int) u→(u∈tks↔Con (trk ts k) v u)
theorem Aac{N:Nat}{ts:List Tie}(h:RG2 N ts)(v k:Int)(hv:0≤v∧v<(N:Int)):
  ∃ tks ofm outm,seen (((N:Int),(ts,())),v,k,())=some (.inr (.inl ((N:Int),tks,ofm,outm,0,())))∧AZu (((N:Int),(ts,())),v,k,())=some (tks,())∧TR N ts v k tks ofm outm:=by
 obtain⟨zs,e1,e2,hF⟩:=h.both k
 have iv:In (N:Int) v:=AVN h.h1 h.hN hv
 have hD:=hF.fr.dom
 have hRF:=(Lg.2 hF.fr)
 obtain⟨i,A,hp,hi,hvA,hil⟩:=Mb (hF.fr.cov v iv)
 have hA:A∈zs:=AhV hi
 have hrg:=hF.fr.rg A hA
 have hlen:A.length≤1000:=hrg.1.1
 refine⟨A,A.foldl ofF [],ts.foldl (ANC k) [],?_,?_,hrg,hvA,?_,?_,?_⟩
 ·rw[AHo,Zb]
  simp only[e1,Dd,AhT]
  rw[Aj,AhF (show ¬ v<0 by omega),A0,AhF (show ¬ (N:Int)≤v by omega)]
  simp only[Adi _ _ _ hD,AhX (show RF (N:Int) zs∧In (N:Int) v from⟨hRF,iv⟩),hp,Ak hi,List.zip_nil_left,AjF]
  rw[AWl k (N:Int) ts (N:Int) A hlen]
  simp only[AjF,List.zip_nil_left]
  rw[AWm k (N:Int) A _ ts h.ht]
  simp only[YS]
 ·rw[AWK,Y7]
  simp only[e2,AXk _ _ _ hD,AhX (show RF (N:Int) zs∧In (N:Int) v from⟨hRF,iv⟩),hp,Ak hi]
  rw[Aj,AhF (by omega)]
 ·intro x
  rw[Aei]
  rfl
 ·intro x
  rw[AXa k x ts [] fun t ht=>(h.tie ht).2.2.1]
  simp[Ex,AN]
 ·intro u iu
  rw[← hF.sam v u iv iu]
  constructor
  ·exact fun hu=>⟨A,hA,hvA,hu⟩
  ·rintro⟨B,hB,hvB,huB⟩
   obtain⟨j,hj⟩:=Aj0 hB
   have:=hF.fr.uniq hi hj iv.2.2.2 hvA hvB
   subst this
   rw[hi]at hj
   cases hj
   exact huB
theorem AWo{N:Nat}{ts:List Tie}(h:RG2 N ts)(v k:Int)(hv:¬ (0≤v∧v<(N:Int))):
  seen (((N:Int),(ts,())),v,k,())=some (.inl (10,()))∧AVk (((N:Int),(ts,())),v,())=some (10,()):=by
 obtain⟨zs,e1,e2,hF⟩:=h.both k
 rw[AHo,Zb,ATw,VF]
 simp only[e1,h.r21,Dd,AhT,Aj,A0]
 by_cases h1:v<0
 ·rw[AhH h1]
  exact⟨rfl,rfl⟩
 ·rw[AhF h1,AhH (show(N:Int)≤v by omega)]
  exact⟨rfl,rfl⟩
end Go.Pev.Pl
end
section
namespace Go.Pev.Pl.SE
open Go.Sort
theorem UT{x y:Int×Int×Unit}(_:ok x)(_:ok y):∃ c,BO (x,y,())=some (c,())∧ilt c (0:Int)=lt x y:=by
 rw[ALS,X7]
 simp only[Wt,or_val,Aj,lt]
 refine⟨_,rfl,?_⟩
 apply Aik.2
 by_cases h1:x.1<y.1
 ·simp[h1]
 ·by_cases h2:y.1<x.1
  ·have h3:¬ x.1=y.1:=by omega
   simp[h1,h2,h3]
  ·have h3:x.1=y.1:=by omega
   by_cases h4:x.2.1<y.2.1
   ·simp[h3,h4]
   ·by_cases h5:y.2.1<x.2.1
    ·simp[h3,h4,h5]
    ·simp[h3,h4,h5]
noncomputable def S:SG.SP (Int×Int×Unit):=⟨((0:Int),((0:Int),())),BO,ok,okz,TJ,lt,swo,fun h1 h2=>UT h1 h2⟩
theorem J3(xs:List (Int×Int×Unit))(h:xs.length<4294967296):∃ ys,AE6 (xs,())=some (ys,())∧ys.Perm xs∧ys.Pairwise fun x y=>lt y x=false:=SG.J3 S xs h fun _ _=>trivial
theorem AWb{xs zs:List (Int×Int×Unit)}(h:xs.length<4294967296)(hp:xs.Perm zs)(hz:zs.Pairwise Js):AE6 (xs,())=some (zs,()):=by
 obtain⟨ys,e,h1,h2⟩:=J3 xs h
 have hzs:zs.Pairwise fun x y=>lt y x=false:=hz.imp fun {a b} q=>by
  unfold lt
  unfold Js at q
  rw[Ah9]
  omega
 have:=List.Perm.eq_of_pairwise (le:=fun x y=>lt y x=false) (fun a b _ _ q1 q2=>by
  unfold lt at q1 q2
  rw[Ah9]at q1 q2
  obtain⟨a1,a2,⟨⟩⟩:=a
  obtain⟨b1,b2,⟨⟩⟩:=b
  simp only at q1 q2
  have e1:a1=b1:=by omega
  have e2:a2=b2:=by omega
  rw[e1,e2]) h2 hzs (h1.trans hp)
 rw[e,this]
end Go.Pev.Pl.SE
namespace Go.Pev.Pl
def FN(tks:List Int)(e:Edge):Bool:=decide (e.1∈tks) != decide (e.2.1∈tks)
def Gw(N:Nat)(L:List Edge)(x:Int):Bool:=decide (x<(N:Int))&&L.any (EB x)
def atL(L:List Edge)(toks:List Int):List Edge:=L.filter fun e=>decide (e.1∈toks)||decide (e.2.1∈toks)
theorem AfL(x:Edge):(x.1,(x.2.1,()))=x:=rfl
theorem ACC{α:Type}(P:α→Bool):∀ L:List α,decide (0<(L.filter P).length)=L.any P
 |[]=>rfl
 |x::L=>by
  rw[AiV,AkL,← ACC P L]
  by_cases h:P x=true<;>simp[h]
section
variable {N:Nat} {ts:List Tie} {v k:Int} {tks:List Int} {ofm:List (Int×Int)} {outm:RM}
theorem Tl(h:TR N ts v k tks ofm outm)(e:Edge):Kq ((N:Int),tks,ofm,outm,e,())=some ((N:Int),tks,ofm,outm,FN tks e,()):=by
 rw[ZX,Nl]
 simp only[h.of]
 unfold FN
 by_cases h1:e.1∈tks<;>by_cases h2:e.2.1∈tks<;>simp only[h1,h2,Ahv,AhZ,AhS,Ahg]<;>rw[Ai (by omega),Aq]<;>rfl
theorem ABI(h:TR N ts v k tks ofm outm)(x:Int):Hg ((N:Int),tks,ofm,outm,x,())=some ((N:Int),tks,ofm,outm,Gw N (B9 ts k) x,()):=by
 rw[WA,Kp]
 have hr:=h.row x
 unfold Ex at hr
 simp only[hr,AM]
 unfold Gw
 rw[Aj,Aj,← ACC]
 by_cases h1:x<(N:Int)<;>simp[h1]
theorem ZH(h:TR N ts v k tks ofm outm):Hf ((N:Int),tks,ofm,outm,())=some ((N:Int),tks,ofm,outm,tks.filter (Gw N (B9 ts k)),()):=by
 have hl:tks.length≤1000:=h.rg.1.1
 have hp:=AF3 (find:=Bw) (step:=Co) (0:Int) (fun a (w j:Nat)=>(a,(N:Int),tks,ofm,outm,(w:Int),(j:Int),())) (fun a (w:Nat)=>.inl (a,(N:Int),tks,ofm,outm,(w:Int),())) (fun i=>(tks,(N:Int),tks,ofm,outm,(tks.length:Int),(i:Int),())) (fun i=>.inl (tks,(N:Int),tks,ofm,outm,(i:Int),())) (.inr (.inl (tks,(N:Int),tks,ofm,outm,()))) (Gw N (B9 ts k)) tks (by omega)
  (fun a w j ha hj hw hg=>by
   unfold Co
   dsimp only
   simp (disch:=omega) only[AM,AO,ha,hj,AhS,CW (0:Int),EX,AJc,hg,AQ,ABI h]
   cases Gw N (B9 ts k) (tks.getD j 0)<;>rfl)
  (fun a w ha=>by unfold Co;dsimp only;rw[AM,AO,AhF (by omega)])
  (fun i hi=>by
   unfold Bw
   dsimp only
   simp (disch:=omega) only[AO,hi,AhS,CW (0:Int),EX,AQ,ABI h]
   cases Gw N (B9 ts k) (tks.getD i 0)<;>rfl)
  (by unfold Bw;dsimp only;rw[AO,AhF (by omega)])
 rw[Vz,Ko]
 simp only[ATg (show tks.length≤4294967296 by omega)]
 rw[NF,GM,Mz,GJ]
 generalize Gw N (B9 ts k)=keep at *
 rcases hp with⟨h0,e⟩|⟨i,a',hk,e,e2,hl,hle,e4⟩
 ·have e':AW Bw many (tks,(N:Int),tks,ofm,outm,AJ tks,(0:Int),())=_:=e
  simp only[e',Aq]
  rw[h0]
  show some ((N:Int),tks,ofm,outm,Bn (AK (AJ tks)) tks,())=_
  rw[Bn,AM,Jl,Aig]
 ·have e':AW Bw many (tks,(N:Int),tks,ofm,outm,AJ tks,(0:Int),())=_:=e
  obtain⟨c1,c2⟩:=ACq (0:Int) (a:=a') (w:=(tks.filter keep).length) (by omega)
  have s0:CM (Bl (tks.filter keep).length (a'.length-(tks.filter keep).length) (0:Int) a') (0:Int) (((tks.filter keep).length:Nat):Int)=some _:=Kk (by omega)
  have s1:CM a' (((tks.filter keep).length:Nat):Int) (a'.length:Int)=some _:=Ey (by omega)
  simp only[e',Aq]
  rw[AhF (by omega),AQ (by omega)]
  simp only[e2,s1,AM,Ahy,Jl,s0]
  rw[Ahc,c2,AiD (by omega),Bn,c1.trans e4]
theorem ATR(h:TR N ts v k tks ofm outm)(o:List Edge)(hs:o.length<4294967296):
  ∃ a:List Edge,IC (o,(N:Int),tks,ofm,outm,())=some (a,(N:Int),tks,ofm,outm,(((o.filter (FN tks)).length:Nat):Int),())∧a.take (o.filter (FN tks)).length=o.filter (FN tks):=by
 have hp:=AF3 (find:=CC) (step:=DK) ((0:Int),(0:Int),()) (fun a (w j:Nat)=>(a,(N:Int),tks,ofm,outm,(w:Int),(j:Int),())) (fun a (w:Nat)=>.inl (a,(N:Int),tks,ofm,outm,(w:Int),())) (fun i=>(o,(N:Int),tks,ofm,outm,(o.length:Int),(i:Int),())) (fun i=>.inl (o,(N:Int),tks,ofm,outm,(i:Int),())) (.inr (.inl (o,(N:Int),tks,ofm,outm,()))) (FN tks) o hs
  (fun a w j ha hj hw hg=>by
   unfold DK
   dsimp only
   simp (disch:=omega) only[AM,AO,ha,hj,AhS,CW ((0:Int),(0:Int),()),EX,AJc,hg,AQ,AfL,Tl h]
   cases FN tks (o.getD j ((0:Int),(0:Int),()))<;>rfl)
  (fun a w ha=>by unfold DK;dsimp only;rw[AM,AO,AhF (by omega)])
  (fun i hi=>by
   unfold CC
   dsimp only
   simp (disch:=omega) only[AO,hi,AhS,CW ((0:Int),(0:Int),()),EX,AQ,AfL,Tl h]
   cases FN tks (o.getD i ((0:Int),(0:Int),()))<;>rfl)
  (by unfold CC;dsimp only;rw[AO,AhF (by omega)])
 rw[Og,G9,OW,G6]
 generalize FN tks=keep at *
 rcases hp with⟨h0,e⟩|⟨i,a',hk,e,e2,hl,hle,e4⟩
 ·have e':AW CC many (o,(N:Int),tks,ofm,outm,AJ o,(0:Int),())=_:=e
  simp only[e',Aq]
  exact⟨o,by rw[h0];rfl,by rw[h0,Aig]⟩
 ·have e':AW CC many (o,(N:Int),tks,ofm,outm,AJ o,(0:Int),())=_:=e
  obtain⟨c1,c2⟩:=ACq ((0:Int),(0:Int),()) (a:=a') (w:=(o.filter keep).length) (by omega)
  have s0:CM (Bl (o.filter keep).length (a'.length-(o.filter keep).length) ((0:Int),(0:Int),()) a') (0:Int) (((o.filter keep).length:Nat):Int)=some _:=Kk (by omega)
  have s1:CM a' (((o.filter keep).length:Nat):Int) (a'.length:Int)=some _:=Ey (by omega)
  simp only[e',Aq]
  rw[AhF (by omega),AQ (by omega)]
  simp only[e2,s1,AM,Ahy,Jl,s0]
  refine⟨_,?_,c1.trans e4⟩
  rw[Ahc,c2,AiD (by omega)]
theorem AOI(h:TR N ts v k tks ofm outm)(o:List Edge)(hs:o.length<4294967296):
  H8 (o,(N:Int),tks,ofm,outm,())=some ((N:Int),tks,ofm,outm,if o.any (FN tks)then((o.findIdx (FN tks):Nat):Int)else -1,()):=by
 have e:=I4 (step:=Cc) (fun i=>((N:Int),tks,ofm,outm,o,(o.length:Int),(i:Int),())) o (FN tks) (fun i=>.inl ((N:Int),tks,ofm,outm,(i:Int),())) (.inr (.inl ((N:Int),tks,ofm,outm,()))) (by omega)
  (fun i x hi hx=>by
   unfold Cc
   dsimp only
   rw[AO,AhH hi]
   simp only[Ak hx,AfL,Tl h]
   rw[AQ (by omega)]
   cases FN tks x<;>rfl)
  (by unfold Cc;dsimp only;rw[AO,AhF (by omega)])
 rw[OZ,G7]
 have e':AW Cc many ((N:Int),tks,ofm,outm,o,AJ o,(0:Int),())=_:=e
 simp only[e']
 by_cases ha:o.any (FN tks)=true<;>simp[ha]
end
abbrev MS:=List (Edge×Int)×List Edge
def KD(m:List (Edge×Int))(x:Edge):Int:=(AN m x).getD 0
def OJ(a:MS)(x:Edge):MS:=(Ae a.1 x (KD a.1 x+1),if x∈a.2 then a.2 else a.2++[x])
structure MI2(s:Nat)(a:MS):Prop where
 len:a.2.length≤s
 bnd:∀ x,0≤KD a.1 x∧KD a.1 x≤(s:Int)
 zero:∀ x,KD a.1 x=0↔x∉a.2
 nd:a.2.Nodup
theorem MI2.step{s:Nat}{a:MS}(h:MI2 s a)(x:Edge):MI2 (s+1) (OJ a x):=by
 have hg:∀ y,KD (OJ a x).1 y=if y=x then KD a.1 x+1 else KD a.1 y:=by
  intro y
  unfold OJ KD
  simp only
  rw[ABV]
  split<;>rfl
 refine⟨?_,fun y => ?_,fun y => ?_,?_⟩
 ·have:=h.len
  unfold OJ
  simp only
  split<;>simp<;>omega
 ·rw[hg]
  have:=h.bnd x
  have:=h.bnd y
  split<;>omega
 ·rw[hg]
  unfold OJ
  simp only
  have b:=h.bnd x
  by_cases hy:y=x
  ·subst hy
   rw[AhX rfl]
   by_cases hm:y∈a.2
   ·rw[AhX hm]
    constructor
    ·intro q;omega
    ·intro q;exact absurd hm q
   ·rw[AhU hm]
    constructor
    ·intro q;omega
    ·intro q;exact absurd (by simp) q
  ·rw[AhU hy,h.zero]
   split
   ·exact Iff.rfl
   ·simp[hy]
 ·unfold OJ
  simp only
  split
  ·exact h.nd
  ·rename_i hm
   rw[AjC]
   refine⟨h.nd,by simp,fun p hp q hq => ?_⟩
   rw[Ahj]at hq
   rintro rfl
   exact hm (hq▸hp)
theorem Abp(a:MS)(x y:Edge):y∈(OJ a x).2↔y=x∨y∈a.2:=by
 unfold OJ
 simp only
 split
 ·rename_i h
  constructor
  ·exact .inr
  ·rintro (rfl|q)
   ·exact h
   ·exact q
 ·simp[or_comm]
theorem Acb:∀ (xs:List Edge) (a:MS) (y:Edge),y∈(xs.foldl OJ a).2↔y∈xs∨y∈a.2:=by
 intro xs
 induction xs with
 |nil=>intro a y;simp
 |cons x xs ih=>
  intro a y
  rw[AiA,ih,Abp,AhN]
  constructor
  ·rintro (q|q|q)
   ·exact .inl (.inr q)
   ·exact .inl (.inl q)
   ·exact .inr q
  ·rintro ((q|q)|q)
   ·exact .inr (.inl q)
   ·exact .inl q
   ·exact .inr (.inr q)
theorem AOD:∀ (xs:List Edge) (a:MS) (s:Nat),MI2 s a→MI2 (s+xs.length) (xs.foldl OJ a):=by
 intro xs
 induction xs with
 |nil=>intro a s h;exact h
 |cons x xs ih=>
  intro a s h
  have:=ih _ _ (h.step x)
  rw[AiA,AhO,show s+(xs.length+1)=s+1+xs.length by omega]
  exact this
theorem Agi(n:Int)(tks:List Int)(ofm:List (Int×Int))(outm:RM)(toks:List Int)(d e:Int)(row:List Edge)(hr:row.length≤400)(a:MS)(s:Nat)(ha:MI2 s a)(hs:s≤1000000):
  AW Ic many (n,tks,ofm,outm,a.1,a.2,toks,d,e,row,AJ row,(0:Int),())=some (.inl (n,tks,ofm,outm,(row.foldl OJ a).1,(row.foldl OJ a).2,toks,d,e,())):=by
 have q:=DT (step:=Ic) (fun i (a:MS)=>(n,tks,ofm,outm,a.1,a.2,toks,d,e,row,AJ row,(i:Int),())) row (fun x a=>.inl (OJ a x)) (fun a=>.inl (n,tks,ofm,outm,a.1,a.2,toks,d,e,())) (fun i a=>MI2 (s+i) a) (by omega)
  (fun i x a hi hx ha=>by
   refine⟨fun m' h' => ?_,fun r h'=>(by cases h')⟩
   cases h'
   refine⟨?_,ha.step x⟩
   have b:=ha.bnd x
   have bl:=ha.len
   have hz:=ha.zero x
   have hw:IntKind.wrap .i64 (KD a.1 x+1)=KD a.1 x+1:=Ai (by omega)
   obtain⟨m1,m2⟩:=AR8 a.1 x (KD a.1 x) (KD a.1 x+1)
   have hl:AN (Ae a.1 x (KD a.1 x+1)) x=some (KD a.1 x+1):=by rw[ABV,AhX rfl]
   rw[Ic,AM,AO,AhH hi]
   unfold KD at *
   simp only[Ak hx,AfL,m1,hw,m2,hl,Ahp,Aq]
   rw[AQ (by omega)]
   unfold OJ KD
   by_cases hm:x∈a.2
   ·rw[AhF (by intro q;exact(hz.1 (by omega)) hm),AhX hm]
   ·rw[AhH (by have:=hz.2 hm;omega),AhU hm,Bd (by simp only[AM,Ajt];omega)]
    rfl)
  (fun a _=>by rw[Ic,AM,AO,AhF (by omega)]) a ha
 have q':AW Ic many (n,tks,ofm,outm,a.1,a.2,toks,d,e,row,AJ row,(0:Int),())=_:=q
 rw[q',Ba (fun(x:Edge) (a:MS)=>OJ a x)]
def AK4(outm:RM)(a:MS)(x:Int):MS:=(Ex outm x).foldl OJ a
theorem Adh(outm:RM):∀ (toks:List Int) (a:MS) (y:Edge),y∈(toks.foldl (AK4 outm) a).2↔(∃ x∈toks,y∈Ex outm x)∨y∈a.2:=by
 intro toks
 induction toks with
 |nil=>intro a y;simp
 |cons x xs ih=>
  intro a y
  rw[AiA,ih,AK4,Acb]
  simp only[AhN,exists_eq_or_imp,or_assoc]
  constructor
  ·rintro (q|q|q)
   ·exact .inr (.inl q)
   ·exact .inl q
   ·exact .inr (.inr q)
  ·rintro (q|q|q)
   ·exact .inr (.inl q)
   ·exact .inl q
   ·exact .inr (.inr q)
theorem Afy(outm:RM):∀ (toks:List Int) (a:MS) (s:Nat),MI2 s a→(toks.foldl (AK4 outm) a).2.Nodup:=by
 intro toks
 induction toks with
 |nil=>intro a s h;exact h.nd
 |cons x xs ih=>intro a s h;rw[AiA];exact ih _ _ (AOD _ _ _ h)
theorem MI2.mono{s s':Nat}{a:MS}(h:MI2 s a)(hs:s≤s'):MI2 s' a:=⟨by have:=h.len;omega,fun x=>by have:=h.bnd x;omega,h.zero,h.nd⟩
theorem AFZ{N:Nat}{ts:List Tie}(h:RG2 N ts)(k:Int):(B9 ts k).Pairwise Js:=by
 unfold B9
 rw[Ain]
 have:=h.edP
 rw[Ain]at this
 exact this.filter _
theorem ABC{N:Nat}{ts:List Tie}(h:RG2 N ts)(k:Int):(B9 ts k).length≤400:=by
 unfold B9
 rw[AiS]
 have:=Aiw (XX k) ts
 have:=h.ht
 omega
theorem AZU{L:List Edge}(h:L.Pairwise Js):L.Nodup:=h.imp fun {a b} q=>by
 rintro rfl
 unfold Js at q
 omega
theorem AdD{N:Nat}{ts:List Tie}{v k:Int}{tks:List Int}{ofm:List (Int×Int)}{outm:RM}(hg:RG2 N ts)(h:TR N ts v k tks ofm outm)(toks:List Int)(hl:toks.length≤1000):
  AQQ ((N:Int),tks,ofm,outm,toks,())=some ((N:Int),tks,ofm,outm,atL (B9 ts k) toks,()):=by
 have hrow:∀ x,(Ex outm x).length≤400:=fun x=>by
  rw[h.row]
  have:=Aiw (EB x) (B9 ts k)
  have:=ABC hg k
  omega
 have q:=DT (step:=Kr) (fun i (a:MS)=>((N:Int),tks,ofm,outm,a.1,a.2,toks,AJ toks,(i:Int),())) toks (fun x a=>.inl (AK4 outm a x)) (fun a=>.inl ((N:Int),tks,ofm,outm,a.2,())) (fun i a=>MI2 (400*i) a) (by omega)
  (fun i x a hi hx ha=>by
   refine⟨fun m' h' => ?_,fun r h'=>(by cases h')⟩
   cases h'
   constructor
   ·rw[Kr,AM,AO,AhH hi]
    simp only[Ak hx]
    have:=Agi (N:Int) tks ofm outm toks (toks.length:Int) (i:Int) (Ex outm x) (hrow x) a (400*i) ha (by omega)
    unfold Ex at this
    simp only[this]
    rw[AQ (by omega)]
    rfl
   ·exact(AOD (Ex outm x) a _ ha).mono (by have:=hrow x;omega))
  (fun a _=>by rw[Kr,AM,AO,AhF (by omega)]) ([],[]) ⟨by simp,fun x=>by simp[KD,AN],fun x=>by simp[KD,AN],by simp⟩
 have hp:((toks.foldl (AK4 outm) ([],[])).2).Perm (atL (B9 ts k) toks):=by
  refine(List.perm_ext_iff_of_nodup (Afy outm toks ([],[]) 0 ⟨by simp,fun x=>by simp[KD,AN],fun x=>by simp[KD,AN],by simp⟩) (AZU ((AFZ hg k).filter _))).2 fun y => ?_
  rw[Adh,Ahs]
  simp only[h.row,Ahs,EB,Ah6,AiQ,Ai5,Ajn]
  constructor
  ·rintro⟨x,hx,q1,q2|q2⟩
   ·exact⟨q1,.inl (q2▸hx)⟩
   ·exact⟨q1,.inr (q2▸hx)⟩
  ·rintro⟨q1,q2|q2⟩
   ·exact⟨_,q2,q1,.inl rfl⟩
   ·exact⟨_,q2,q1,.inr rfl⟩
 rw[AUU,AHc]
 have q':AW Kr many ((N:Int),tks,ofm,outm,([]:List (Edge×Int)),([]:List Edge),toks,AJ toks,(0:Int),())=_:=q
 simp only[q']
 rw[Ba (fun(x:Int) (a:MS)=>AK4 outm a x)]
 have hlen:=hp.length_eq
 have h2:=Aiw (fun e:Edge=>decide (e.1∈toks)||decide (e.2.1∈toks)) (B9 ts k)
 have h3:=ABC hg k
 have:=SE.AWb (xs:=(toks.foldl (fun a x=>AK4 outm a x) ([],[])).2) (by
  have:(toks.foldl (fun a x=>AK4 outm a x) ([],[])).2.length=(atL (B9 ts k) toks).length:=hlen
  unfold atL at this
  omega) hp ((AFZ hg k).filter _)
 simp only[this]
end Go.Pev.Pl
end
section
namespace Go.Pev.Pl
end Go.Pev.Pl
end
section
namespace Go.Pev.Pl
section
variable {N:Nat} {ts:List Tie} {v k:Int} {tks:List Int} {ofm:List (Int×Int)} {outm:RM}
def stL(N:Nat)(ts:List Tie)(k:Int)(tks:List Int):List Int:=tks.filter (Gw N (B9 ts k))
theorem Ado(h:TR N ts v k tks ofm outm):(stL N ts k tks).length≤1000:=by
 have h1:tks.length≤1000:=h.rg.1.1
 have:=Aiw (Gw N (B9 ts k)) tks
 unfold stL
 omega
theorem AUy(hg:RG2 N ts){e:Edge}(he:e∈B9 ts k):In (N:Int) e.1∧In (N:Int) e.2.1:=by
 unfold B9 at he
 obtain⟨t,ht,rfl⟩:=Ahd.1 he
 exact hg.inE _ (Ahd.2 ⟨t,(Ahs.1 ht).1,rfl⟩)
theorem Aep(hg:RG2 N ts){e:Edge}(he:e∈B9 ts k):(e.1∈tks↔e.1∈stL N ts k tks)∧(e.2.1∈tks↔e.2.1∈stL N ts k tks):=by
 obtain⟨i1,i2⟩:=AUy hg he
 have m1:Gw N (B9 ts k) e.1=true:=by
  unfold Gw
  rw[AhH i1.2.2.2,AjH,AiZ]
  exact⟨e,he,AhH (.inl rfl)⟩
 have m2:Gw N (B9 ts k) e.2.1=true:=by
  unfold Gw
  rw[AhH i2.2.2.2,AjH,AiZ]
  exact⟨e,he,AhH (.inr rfl)⟩
 unfold stL
 rw[Ahs,Ahs,m1,m2]
 simp
theorem AdE(hg:RG2 N ts):atL (B9 ts k) (stL N ts k tks)=atL (B9 ts k) tks:=by
 unfold atL
 refine AjZ fun e he => ?_
 obtain⟨q1,q2⟩:=Aep (tks:=tks) hg he
 rw[Aik.2 q1,Aik.2 q2]
theorem AVj(hg:RG2 N ts)(toks:List Int):(atL (B9 ts k) toks).length≤400:=by
 have:=ABC hg k
 have:=Aiw (fun e:Edge=>decide (e.1∈toks)||decide (e.2.1∈toks)) (B9 ts k)
 unfold atL
 omega
def ldL(ts:List Tie)(k:Int)(tks:List Int):List Edge:=(atL (B9 ts k) tks).filter (FN tks)
theorem AaL(hg:RG2 N ts)(h:TR N ts v k tks ofm outm)(hs:seen (((N:Int),(ts,())),v,k,())=some (.inr (.inl ((N:Int),tks,ofm,outm,0,())))):
  AHO (((N:Int),(ts,())),v,k,())=some (ldL ts k tks,0,()):=by
 have hl:=AVj hg (k:=k) (stL N ts k tks)
 obtain⟨a,e1,e2⟩:=ATR h (atL (B9 ts k) (stL N ts k tks)) (by omega)
 rw[AHN,ZO]
 simp only[hs,Dd,AhT,ZH h]
 have ha:=AdD hg h (stL N ts k tks) (Ado h)
 unfold stL at ha e1 e2
 simp only[ha,e1,Bn,Jl,e2]
 have:=AdE (tks:=tks) (k:=k) hg
 unfold stL at this
 rw[this]
 rfl
def AB8(N:Nat)(ts:List Tie)(k:Int)(tks:List Int)(r:Nat):Option Edge:=(atL (B9 ts k) ((stL N ts k tks).take (2 ^ r))).find? (FN tks)
def ndL(c r:Nat):Nat:=if r=0 then 0 else min c (2 ^ (r-1))
theorem Abl(c r:Nat):ndL c (r+1)=min c (2 ^ r):=by unfold ndL;rw[AhU (by omega),Ajk]
def lkL(F:Nat→Option Edge)(c:Nat):Nat→Nat→Option Edge×Nat
 |0,r=>(none,r)
 |f+1,r=>if ndL c r<c then(match F r with
  |some e=>(some e,r+1)
  |none=>lkL F c f (r+1))else(none,r)
def Afl(c:Nat)(x:Option Edge×Nat):Bool×(Int×Int×Unit)×Int×Int×Unit:=(x.1.isSome,((x.1.getD (0,0,())).1,((x.1.getD (0,0,())).2.1,())),(x.2:Int),(ndL c x.2:Int),())
theorem Ad6{r:Nat}(h:r≤8):shl? .i64 (1:Int) (IntKind.wrap .u64 (r:Int))=some ((2 ^ r:Nat):Int):=by
 rw[IntWalk.u64_in _ (by omega),Za,XO,AhU (by omega),Ah8,show min r (IntKind.bits .i64)=r from AiD (by show r≤64;omega),Int.one_mul]
 have:2 ^ r≤2 ^ 8:=Nat.pow_le_pow_right (by omega) h
 have e:((2:Int) ^ r)=((2 ^ r:Nat):Int):=by rw[Int.natCast_pow];rfl
 rw[e]
 generalize 2 ^ r=q at *
 rw[Ai (by omega)]
theorem Afg(hg:RG2 N ts)(h:TR N ts v k tks ofm outm):(stL N ts k tks).length≤N:=by
 have hnd:(stL N ts k tks).Nodup:=h.rg.1.2.2.filter _
 have:=Ca (b:=(List.range N).map fun(i:Nat)=>(i:Int)) hnd fun x hx=>by
  unfold stL at hx
  obtain⟨q1,q2⟩:=Ahs.1 hx
  have q3:=(h.rg.1.2.1 x q1).1
  unfold Gw at q2
  rw[AhJ,Ah6]at q2
  rw[Ahd]
  exact⟨x.toNat,by rw[AiN];omega,by omega⟩
 rw[AiS,Ahu]at this
 exact this
theorem Afk{c:Nat}(h:c≤64):¬ ndL c 8<c:=by
 unfold ndL
 rw[AhU (by omega),AiD (AiP h (by decide))]
 omega
theorem AOH(P:Edge→Bool):∀ L:List Edge,(∃ e,L.find? P=some e∧L.any P=true∧L[L.findIdx P]? = some e)∨(L.find? P=none∧L.any P=false)
 |[]=>.inr ⟨rfl,rfl⟩
 |x::L=>by
  rw[List.find?_cons,AkL,Aja]
  by_cases h:P x=true
  ·exact .inl ⟨x,by simp[h],by simp[h],by simp[h]⟩
  ·have h':P x=false:=by simpa using h
   rcases AOH P L with⟨e,q1,q2,q3⟩|⟨q1,q2⟩
   ·exact .inl ⟨e,by simp[h',q1],by simp[q2],by simp[h',q3]⟩
   ·exact .inr ⟨by simp[h',q1],by simp[h',q2]⟩
theorem AP1(hg:RG2 N ts)(h:TR N ts v k tks ofm outm):∀ (f r:Nat),r+f=8→∀ cnt,f<cnt →
  ∃ z,AX GS cnt (false,(0:Int),(0:Int),(r:Int),(ndL (stL N ts k tks).length r:Int),(N:Int),tks,ofm,outm,stL N ts k tks,())=some (.inl (z.1,z.2.1.1,z.2.1.2.1,z.2.2.1,z.2.2.2.1,()))∧z=Afl (stL N ts k tks).length (lkL (AB8 N ts k tks) (stL N ts k tks).length f r):=by
 intro f
 have hN:=hg.hN
 have hc:=Afg hg h
 induction f with
 |zero=>
  intro r hr cnt hcnt
  obtain⟨cnt,rfl⟩:∃ c,cnt=c+1:=⟨cnt-1,by omega⟩
  obtain rfl:r=8:=by omega
  refine⟨_,?_,rfl⟩
  rw[AX,GS,AM]
  simp only[Ahw]
  rw[AO,AhF (Afk (by omega))]
  rfl
 |succ f ih=>
  intro r hr cnt hcnt
  obtain⟨cnt,rfl⟩:∃ c,cnt=c+1:=⟨cnt-1,by omega⟩
  rw[AX,GS,AM]
  simp only[Ahw]
  rw[AO]
  by_cases hn:ndL (stL N ts k tks).length r<(stL N ts k tks).length
  ·rw[AhH hn]
   have hm:Cm ((stL N ts k tks).length:Int) ((2 ^ r:Nat):Int)=(ndL (stL N ts k tks).length (r+1):Int):=by
    unfold Cm
    rw[Abl]
    generalize 2 ^ r=q at *
    generalize (stL N ts k tks).length=c at *
    rcases Nat.le_total c q with hh|hh
    ·rw[AiD hh];split<;>omega
    ·rw[Ajf hh];split<;>omega
   have hle:ndL (stL N ts k tks).length (r+1)≤(stL N ts k tks).length:=by unfold ndL;rw[AhU (by omega)];exact Nat.min_le_left _ _
   have htk:(stL N ts k tks).take (ndL (stL N ts k tks).length (r+1))=(stL N ts k tks).take (2 ^ r):=by
    unfold ndL
    rw[AhU (by omega),Ajk,List.take_eq_take_min (i:=2 ^ r),Nat.min_comm]
   have hl:=AVj hg (k:=k) ((stL N ts k tks).take (2 ^ r))
   simp only[Ad6 (show r≤8 by omega),hm,Kk hle,htk]
   rw[AdD hg h _ (by rw[Ahc];omega)]
   simp only[AOI h _ (show(atL (B9 ts k) ((stL N ts k tks).take (2 ^ r))).length<4294967296 by omega)]
   rw[AQ (by omega)]
   have hf:lkL (AB8 N ts k tks) (stL N ts k tks).length (f+1) r=match AB8 N ts k tks r with
    |some e=>(some e,r+1)
    |none=>lkL (AB8 N ts k tks) (stL N ts k tks).length f (r+1):=by rw[lkL,AhX hn]
   rw[hf]
   unfold AB8
   rcases AOH (FN tks) (atL (B9 ts k) ((stL N ts k tks).take (2 ^ r)))with⟨e,q1,q2,q3⟩|⟨q1,q2⟩
   ·rw[q1,AhX q2,A0,AhH (by omega)]
    simp only[Ak q3,AYz q3]
    obtain⟨cnt,rfl⟩:∃ c,cnt=c+1:=⟨cnt-1,by omega⟩
    refine⟨_,?_,rfl⟩
    rw[AX,GS]
    rfl
   ·rw[q1,AhU (by rw[q2];exact Bool.false_ne_true),A0,AhF (by omega)]
    exact ih (r+1) (by omega) cnt (by omega)
  ·rw[AhF hn,lkL,AhU hn]
   exact⟨_,rfl,rfl⟩
def Gx(N:Nat)(ts:List Tie)(k:Int)(tks:List Int):Option Edge×Nat:=lkL (AB8 N ts k tks) (stL N ts k tks).length 8 0
theorem AWV(hg:RG2 N ts)(h:TR N ts v k tks ofm outm)(hs:seen (((N:Int),(ts,())),v,k,())=some (.inr (.inl ((N:Int),tks,ofm,outm,0,())))):
  MQ (((N:Int),(ts,())),v,k,())=some (Afl (stL N ts k tks).length (Gx N ts k tks),0,()):=by
 obtain⟨z,e,hz⟩:=AP1 hg h 8 0 rfl many (by simp only[many];omega)
 rw[ZJ,QM]
 simp only[hs,Dd,AhT,ZH h]
 have e':AW GS many (false,(0:Int),(0:Int),(0:Int),(0:Int),(N:Int),tks,ofm,outm,tks.filter (Gw N (B9 ts k)),())=some (.inl (z.1,z.2.1.1,z.2.1.2.1,z.2.2.1,z.2.2.2.1,())):=by rw[As];exact e
 simp only[e',hz]
 rfl
end
end Go.Pev.Pl
end
section
namespace Go.Pev.Pl
theorem AKD:JD ()=some (true,()):=by
 rw[show JD () = @JD idI ()from AiX (fun i=>@JD i ()) ABW]
 kernel_rfl
theorem AN6(n:Int)(ts:List Tie):N0 ((n,(ts,())),())=some (true,())∨(N0 ((n,(ts,())),())=some (false,())∧ts.length≤30∧n≤12):=by
 rw[ABy,Nz]
 simp only[AM,Aj]
 by_cases h1:(30:Int)<ts.length
 ·rw[AhH h1];exact .inl rfl
 ·rw[AhF h1]
  by_cases h2:(12:Int)<n
  ·rw[AhH h2];exact .inl rfl
  ·rw[AhF h2];exact .inr ⟨rfl,by omega,by omega⟩
abbrev Lk3:=Bool×(Int×Int×Unit)×Int×Int×Unit
def Agy:Lk3:=(false,(((0:Int),((0:Int),())),((0:Int),((0:Int),()))))
theorem Acl{e:Int}(h:e=1∨e=10):ieq e 0=false:=by
 rw[Aq,AhF]
 omega
section
variable {n:Int} {ts:List Tie} {v k e:Int}
theorem AaN(he:e=1∨e=10)(h:seen ((n,(ts,())),v,k,())=some (.inl (e,()))):AHO ((n,(ts,())),v,k,())=some ([],e,()):=by
 rw[AHN,ZO];simp only[h,Acl he,Ahw]
theorem AWX(he:e=1∨e=10)(h:seen ((n,(ts,())),v,k,())=some (.inl (e,()))):MQ ((n,(ts,())),v,k,())=some (Agy,e,()):=by
 rw[ZJ,QM];simp only[h,Acl he,Ahw];rfl
end
abbrev GT:=(Int×(List (Int×Int×Int×Bool×Unit))×Unit)
theorem Aby(F:Nat→Option Edge)(c:Nat)(hc:c≤64):∀ f r,r+f=8 →
  r≤(lkL F c f r).2∧(lkL F c f r).2≤8∧((lkL F c f r).2=r→(lkL F c f r).1=none)∧(r<(lkL F c f r).2→ndL c ((lkL F c f r).2-1)<c∧(lkL F c f r).1=F ((lkL F c f r).2-1))∧((lkL F c f r).1=none→¬ ndL c (lkL F c f r).2<c):=by
 intro f
 induction f with
 |zero=>
  intro r hr
  obtain rfl:r=8:=by omega
  refine⟨AhQ _,AhQ _,fun _=>rfl,fun q => ?_,fun _=>Afk hc⟩
  unfold lkL at q
  omega
 |succ f ih=>
  intro r hr
  rw[lkL]
  by_cases hn:ndL c r<c
  ·rw[AhX hn]
   cases hF:F r with
   |some e=>
    simp only
    refine⟨by omega,by omega,fun q=>by omega,fun _=>⟨hn,?_⟩,fun q=>by cases q⟩
    rw[Ajk,hF]
   |none=>
    simp only
    obtain⟨i1,i2,i3,i4,i5⟩:=ih (r+1) (by omega)
    refine⟨by omega,i2,fun q=>by omega,fun q => ?_,i5⟩
    by_cases hh:(lkL F c f (r+1)).2=r+1
    ·rw[i3 hh,hh,Ajk]
     exact⟨hn,hF.symm⟩
    ·exact i4 (by omega)
  ·rw[AhU hn]
   refine⟨AhQ _,by omega,fun _=>rfl,fun q=>by omega,fun _=>hn⟩
section
variable {N:Nat} {ts:List Tie} {v k:Int} {tks:List Int} {ofm:List (Int×Int)} {outm:RM}
theorem AdF{L:List Edge}{S:List Int}{a:Nat}{e:Edge}(h:e∈atL L (S.take a)):e∈atL L S:=by
 unfold atL at *
 rw[Ahs]at *
 refine⟨h.1,?_⟩
 have:=h.2
 rw[AiQ,Ah6,Ah6]at *
 exact this.imp Ai6 Ai6
theorem AgQ(c r:Nat):ndL c r≤c:=by
 unfold ndL
 split
 ·omega
 ·exact Nat.min_le_left _ _
theorem Adx{x:Int}(hx:x∈stL N ts k tks):∃ e,e∈atL (B9 ts k) (stL N ts k tks):=by
 have hx':=hx
 unfold stL Gw at hx'
 rw[Ahs,AhJ,AiZ]at hx'
 obtain⟨_,_,e,he,ht⟩:=hx'
 unfold EB at ht
 rw[Ah6]at ht
 refine⟨e,Ahs.2 ⟨he,?_⟩⟩
 rw[AiQ,Ah6,Ah6]
 rcases ht with rfl|rfl
 ·exact .inl hx
 ·exact .inr hx
theorem ASV(hg:RG2 N ts)(h:TR N ts v k tks ofm outm)(hN:N≤12):
  (Gx N ts k tks).2≤5∧((Gx N ts k tks).1.isSome=decide (0<(ldL ts k tks).length)) ∧
  ((Gx N ts k tks).1=none→atL (B9 ts k) ((stL N ts k tks).take (ndL (stL N ts k tks).length (Gx N ts k tks).2))=atL (B9 ts k) ((stL N ts k tks).take 100)) ∧
  (∀ e,(Gx N ts k tks).1=some e→e∈ldL ts k tks∧e∈atL (B9 ts k) ((stL N ts k tks).take (ndL (stL N ts k tks).length (Gx N ts k tks).2))) ∧
  (((Gx N ts k tks).2=0)↔ndL (stL N ts k tks).length (Gx N ts k tks).2=0)∧(((Gx N ts k tks).2=0)↔(atL (B9 ts k) ((stL N ts k tks).take 100)).length=0) ∧
  ((Gx N ts k tks).2≠0→2 ^ ((Gx N ts k tks).2-1)<2*ndL (stL N ts k tks).length (Gx N ts k tks).2∧ndL (stL N ts k tks).length (Gx N ts k tks).2≤2 ^ ((Gx N ts k tks).2-1)):=by
 have hc:=Afg hg h
 obtain⟨_,s1,s2,s3,s4⟩:=Aby (AB8 N ts k tks) (stL N ts k tks).length (by omega) 8 0 rfl
 have hst:=AdE (tks:=tks) (k:=k) hg
 have h100:atL (B9 ts k) ((stL N ts k tks).take 100)=atL (B9 ts k) (stL N ts k tks):=by rw[AiB (by omega)]
 have hall:∀ R,¬ ndL (stL N ts k tks).length R<(stL N ts k tks).length→atL (B9 ts k) ((stL N ts k tks).take (ndL (stL N ts k tks).length R))=atL (B9 ts k) (stL N ts k tks):=fun R q=>by
  have:=AgQ (stL N ts k tks).length R
  rw[AiB (by omega)]
 rw[h100]
 unfold Gx
 generalize hx:lkL (AB8 N ts k tks) (stL N ts k tks).length 8 0=x at *
 obtain⟨o,R⟩:=x
 simp only at *
 have hpow:∀ {a b:Nat},a≤b→2 ^ a≤2 ^ b:=fun h=>Nat.pow_le_pow_right (by omega) h
 have hR5:R≤5:=by
  rcases Ah2 R 6 with q|q
  ·omega
  ·have:=(s3 (by omega)).1
   unfold ndL at this
   rw[AhU (by omega)]at this
   have:=hpow (show 4≤R-1-1 by omega)
   omega
 have hR0:R=0→(stL N ts k tks).length=0:=fun q=>by
  subst q
  have:=s4 (s2 rfl)
  unfold ndL at this
  simp only[Ahv]at this
  omega
 have hR1:R≠0→0<(stL N ts k tks).length:=fun q=>by
  have:=(s3 (by omega)).1
  omega
 have hnd:R≠0→ndL (stL N ts k tks).length R=min (stL N ts k tks).length (2 ^ (R-1)):=fun q=>by unfold ndL;rw[AhU q]
 have hfl:∀ e,AB8 N ts k tks (R-1)=some e→e∈ldL ts k tks∧e∈atL (B9 ts k) ((stL N ts k tks).take (2 ^ (R-1))):=fun e q=>by
  unfold AB8 at q
  have m:=List.mem_of_find?_eq_some q
  have p:=List.find?_some q
  refine⟨?_,m⟩
  unfold ldL
  rw[← hst,Ahs]
  exact⟨AdF m,p⟩
 refine⟨hR5,?_,fun q=>hall R (s4 q),?_,?_,?_,?_⟩
 ·cases o with
  |some e=>
   have hR:R≠0:=fun q=>by have:=s2 q;cases this
   obtain⟨m,_⟩:=hfl e (s3 (by omega)).2.symm
   rw[AhH (List.length_pos_of_mem m)]
   rfl
  |none=>
   have hn:=s4 rfl
   have:ldL ts k tks=[]:=by
    unfold ldL
    rw[← hst]
    by_cases hR:R=0
    ·have:=Ahb (hR0 hR)
     rw[this,atL]
     simp
    ·have e1:=(s3 (by omega)).2
     have e2:=hnd hR
     unfold AB8 at e1
     rw[AiB (by omega)]at e1
     rw[List.filter_eq_nil_iff]
     intro y hy hh
     exact absurd hh (by simpa using List.find?_eq_none.1 e1.symm y hy)
   rw[this]
   rfl
 ·intro e he
  subst he
  have hR:R≠0:=fun q=>by have:=s2 q;cases this
  obtain⟨m1,m2⟩:=hfl e (s3 (by omega)).2.symm
  refine⟨m1,?_⟩
  rw[hnd hR,Nat.min_comm,← List.take_eq_take_min]
  exact m2
 ·constructor
  ·intro q
   subst q
   rfl
  ·intro q
   apply AiF
   intro hR
   have:=hnd hR
   have:=hR1 hR
   have:=hpow (Aj2 (R-1))
   omega
 ·constructor
  ·intro q
   rw[Ahb (hR0 q),atL]
   simp
  ·intro q
   apply AiF
   intro hR
   obtain⟨x,hx⟩:=List.exists_mem_of_length_pos (hR1 hR)
   obtain⟨e,he⟩:=Adx hx
   have:=List.length_pos_of_mem he
   omega
 ·intro hR
  have e2:=hnd hR
  have e3:=hR1 hR
  refine⟨?_,by omega⟩
  have e4:=(s3 (by omega)).1
  by_cases hR2:R=1
  ·subst hR2
   simp only[Ai2,Nat.pow_zero]at *
   omega
  ·unfold ndL at e4
   rw[AhU (by omega)]at e4
   have:2 ^ (R-1)=2*2 ^ (R-1-1):=by
    obtain⟨q,rfl⟩:∃ q,R=q+2:=⟨R-2,by omega⟩
    show 2 ^ (q+1)=2*2 ^ q
    rw[Nat.pow_succ]
    omega
   have hB:0<2 ^ (R-1-1):=Nat.pow_pos (by omega)
   clear hfl hpow s3 hnd hx hall
   generalize 2 ^ (R-1-1)=B at *
   generalize 2 ^ (R-1)=A at *
   generalize ndL (stL N ts k tks).length R=nd at *
   omega
end
end Go.Pev.Pl
end
section
namespace Go.Pev.Pl
open Tok
inductive ON(f:Option Edge):List Tie→List Tie→Int→Prop
 |nil:ON f [] [] 0
 |cons {a b:Tie} {A B:List Tie} {r:Int}:ed a=ed b→a.2.2.1≤b.2.2.1→(a.2.2.2.1=true→b.2.2.2.1=true)→(b.2.2.2.1=true→a.2.2.2.1=false→f=some (ed b))→ON f A B r→ON f (a::A) (b::B) (b.2.2.1-a.2.2.1+r)
theorem ON.refl(f:Option Edge):∀ A:List Tie,ON f A A 0
 |[]=>.nil
 |a::A=>by
  have:=ON.cons (f:=f) (a:=a) (b:=a) rfl (AkJ _) (fun h=>h) (fun h h'=>by rw[h]at h';cases h') (ON.refl f A)
  rwa [Int.sub_self,Int.zero_add]at this
theorem ON.to{f:Option Edge}{A B:List Tie}{r r':Int}(h:ON f A B r)(e:r=r'):ON f A B r':=e▸h
theorem ON.trans{f:Option Edge}{A B C:List Tie}{r s:Int}(h:ON none A B r)(k:ON f B C s):ON f A C (r+s):=by
 induction h generalizing C s with
 |nil=>cases k;exact ON.nil
 |cons e1 e2 e3 e4 _ ih=>
  cases k with
  |cons g1 g2 g3 g4 k=>
   refine(ON.cons (e1.trans g1) (Int.le_trans e2 g2) (fun q=>g3 (e3 q)) (fun q q' => ?_) (ih k)).to (by omega)
   exact g4 q (Bool.eq_false_iff.2 fun hb=>by have:=e4 hb q';cases this)
end Go.Pev.Pl
end
section
namespace Go.Pev.Pl
section
variable {N:Nat} {ts:List Tie} {v k:Int} {tks:List Int} {ofm:List (Int×Int)} {outm:RM}
noncomputable def ldF(X:List Tie)(k a:Int):List Edge:=(B9 X k).filter fun e=>DS (trk X k) a e.1 != DS (trk X k) a e.2.1
theorem Afm(hg:RG2 N ts)(h:TR N ts v k tks ofm outm):ldL ts k tks=ldF ts k v:=by
 unfold ldL ldF atL
 rw[List.filter_filter]
 refine AjZ fun e he => ?_
 obtain⟨i1,i2⟩:=AUy hg he
 have c1:decide (e.1∈tks)=DS (trk ts k) v e.1:=by
  rw[Aie,Ah6,BY]
  exact h.con _ i1
 have c2:decide (e.2.1∈tks)=DS (trk ts k) v e.2.1:=by
  rw[Aie,Ah6,BY]
  exact h.con _ i2
 unfold FN
 rw[c1,c2]
 cases DS (trk ts k) v e.1<;>cases DS (trk ts k) v e.2.1<;>rfl
theorem AaS(hg:RG2 N ts)(hN:N≤12)(hv:0≤v∧v<(N:Int))(k:Int):
  ∃ y:Lk3,MQ (((N:Int),(ts,())),v,k,())=some (y,0,())∧y.1=decide (0<(ldF ts k v).length)∧AHO (((N:Int),(ts,())),v,k,())=some (ldF ts k v,0,()):=by
 obtain⟨tks,ofm,outm,h1,h2,h⟩:=Aac hg v k hv
 obtain⟨_,f2,_⟩:=ASV hg h hN
 refine⟨_,AWV hg h h1,?_,?_⟩
 ·rw[← Afm hg h,← f2]
  rfl
 ·rw[AaL hg h h1,Afm hg h]
end
theorem Sl(g:GT)(th:List Int){P Q:Prop}(_:P)(_:Q):Ef (g,th,())=some (true,()):=by
 obtain⟨n,ts,⟨⟩⟩:=g
 rw[MT,GC]
 simp only[AKD,AhT]
 rcases AN6 n ts with g1|⟨g1,g2,g3⟩
 ·simp only[g1]
 simp only[g1]
 rcases ADs (n:=n) (ts:=ts) (by omega)with⟨N,rfl,hg,hs,e⟩|e
 ·simp only[e,AhT]
  generalize AY th 0 (0:Int)=v
  generalize AY th 1 (0:Int)=k
  by_cases hv:0≤v∧v<(N:Int)
  ·obtain⟨y,e1,e2,e3⟩:=AaS hg (by omega) hv k
   have hz:ldF ts k v=[]:=by
    unfold ldF
    rw[List.filter_eq_nil_iff]
    intro e he
    unfold B9 at he
    obtain⟨t,ht,rfl⟩:=Ahd.1 he
    obtain⟨ht1,ht2⟩:=Ahs.1 ht
    unfold XX at ht2
    rw[AhJ,Ah6,AiK]at ht2
    have hc:=(hs.parts hg).2.1 t ht1 ht2.1
    rw[ht2.2]at hc
    have:DS (trk ts k) v (ed t).1=DS (trk ts k) v (ed t).2.1:=by
     rw[Aie,BY,BY]
     exact⟨fun q=>q.trans hc,fun q=>q.trans hc.symm⟩
    rw[this]
    simp
   rw[hz]at e2 e3
   simp only[e1,e3,Aj,A0]
   rw[AhF (show ¬ v<0 by omega),AhF (show ¬ (N:Int)≤v by omega),e2]
   simp only[Dd,AM,Ahi,Nat.lt_irrefl,Ahg,Ahw]
   rw[Aq]
   rfl
  ·obtain⟨q1,_⟩:=AWo hg v k hv
   have h10:(10:Int)=1∨(10:Int)=10:=.inr rfl
   simp only[AaN h10 q1,AWX h10 q1,Dd,Aj,A0]
   by_cases h1:v<0
   ·rw[AhH h1]
   ·rw[AhF h1,AhH (show(N:Int)≤v by omega)]
 ·simp only[e,Ahw]
structure Rai(m:Nat)(f:Tie→Tie)(X:List Tie):Prop where
 ed:∀ t,ed (f t)=ed t
 tree:∀ t,(f t).2.2.2.1=t.2.2.2.1
 low:∀ t∈X,t.2.2.1<(m:Int)→f t=t
 high:∀ t∈X,(m:Int)≤t.2.2.1→(m:Int)≤(f t).2.2.1
section
variable {N:Nat} {a b i:Nat} {X:List Tie} {f:Tie→Tie} {c:Nat} {S:Int→Bool}
theorem Rai.trk(h:Rai (i+1) f X):trk (X.map f) (i:Int)=Go.Pev.Pl.trk X (i:Int):=by
 refine X1 (i:Int) h.ed h.tree X fun t ht _ => ?_
 rcases Int.lt_or_le t.2.2.1 ((i+1:Nat):Int)with q|q
 ·rw[h.low t ht q]
 ·have:=h.high t ht q
  omega
theorem Rai.find(h:Rai (i+1) f X)(S:Int→Bool)(top:Int):((((X.map f).map (rT S top i)).filter fun t=>XX (i:Int) t&&(S t.1 != S t.2.1)).map Go.Pev.Pl.ed)=(B9 X (i:Int)).filter fun e=>S e.1 != S e.2.1:=by
 unfold B9
 rw[List.map_map,List.filter_map,List.map_map,List.filter_map,List.filter_filter]
 have e1:(Go.Pev.Pl.ed ∘ (rT S top i ∘ f))=Go.Pev.Pl.ed:=by
  funext t
  show Go.Pev.Pl.ed (rT S top i (f t))=_
  rw[Qa,h.ed]
 rw[e1]
 congr 1
 refine AjZ fun t ht => ?_
 show(XX (i:Int) (rT S top i (f t))&&(S (rT S top i (f t)).1 != S (rT S top i (f t)).2.1))=((S (Go.Pev.Pl.ed t).1 != S (Go.Pev.Pl.ed t).2.1)&&XX (i:Int) t)
 have e2:Go.Pev.Pl.ed (rT S top i (f t))=Go.Pev.Pl.ed t:=by rw[Qa,h.ed]
 have e3:(rT S top i (f t)).1=(Go.Pev.Pl.ed t).1:=AiX (fun e:Edge=>e.1) e2
 have e4:(rT S top i (f t)).2.1=(Go.Pev.Pl.ed t).2.1:=AiX (fun e:Edge=>e.2.1) e2
 have e5:XX (i:Int) (rT S top i (f t))=XX (i:Int) t:=by
  unfold XX
  rw[Ij,h.tree]
  cases ht2:t.2.2.2.1
  ·rw[Ik (by rw[h.tree];exact ht2)]
   simp only[Ahw,AjH]
   apply Aik.2
   rcases Int.lt_or_le t.2.2.1 ((i+1:Nat):Int)with q|q
   ·rw[h.low t ht q]
   ·have:=h.high t ht q
    omega
  ·rfl
 rw[e3,e4,e5,Bool.and_comm]
theorem Rai.next(h:Rai (i+1) f X)(S:Int→Bool){top:Int}(hit:(i:Int)≤top):Rai i (rO S top i ∘ (rT S top i ∘ f)) X:=by
 have hup:∀ t:Tie,t.2.2.1=(i:Int)→(i:Int)≤(rO S top i (rT S top i t)).2.2.1:=fun t ht=>by
  have h1:=AAA (S:=S) (i:=(i:Int)) (t:=t) (top:=top) (by omega)
  have h2:=AH3 (S:=S) (i:=(i:Int)) h1.2
  omega
 have hno:∀ t:Tie,t.2.2.1≠(i:Int)→rO S top i (rT S top i t)=t:=fun t ht=>by
  have:rT S top i t=t:=by unfold rT;rw[AhU (fun q=>ht q.2.1)]
  rw[this]
  unfold rO
  rw[AhU (fun q=>ht q.2.1)]
 refine⟨fun t => ?_,fun t => ?_,fun t ht hl => ?_,fun t ht hl => ?_⟩
 ·show Go.Pev.Pl.ed (rO S top i (rT S top i (f t)))=_
  rw[AUk,Qa,h.ed]
 ·show(rO S top i (rT S top i (f t))).2.2.2.1=_
  rw[YA,Ij,h.tree]
 ·show rO S top i (rT S top i (f t))=t
  rw[h.low t ht (by omega)]
  exact hno t (by omega)
 ·show(i:Int)≤(rO S top i (rT S top i (f t))).2.2.1
  rcases Int.lt_or_le t.2.2.1 ((i+1:Nat):Int)with q|q
  ·rw[h.low t ht q]
   exact hup t (by omega)
  ·have:=h.high t ht q
   rw[hno _ (by omega)]
   omega
end
end Go.Pev.Pl
end
section
namespace Go.Pev
open Go.RowKit
structure Agm(P:Program)(fn:Func)(T e:TypeId)(n:Nat):Prop where
 body:fn.body=some (.seq (.region 0 #[Bc fn 0 0] false) (.seq (.region 1 #[Bc fn 1 0,Bc fn 1 1,Bc fn 1 2,Bc fn 1 3,Bc fn 1 4,Bc fn 1 5,Bc fn 1 6] false) .ret))
 nt:fn.ntmps=9
 res:fn.results = #[.tmp 2]
 d:(Bc fn 0 0).dst=some 2∧(Bc fn 1 0).dst=some 3∧(Bc fn 1 1).dst=some 4∧(Bc fn 1 2).dst=some 5∧(Bc fn 1 3).dst=some 6∧(Bc fn 1 4).dst=some 7∧(Bc fn 1 5).dst=some 8∧(Bc fn 1 6).dst=some 2
 g:(Bc fn 0 0).guard=none∧(Bc fn 1 0).guard=none∧(Bc fn 1 1).guard=none∧(Bc fn 1 2).guard=none∧(Bc fn 1 3).guard=none∧(Bc fn 1 4).guard=none∧(Bc fn 1 5).guard=none∧(Bc fn 1 6).guard=none
 o00:(Bc fn 0 0).op = .assign (.const (.slice none 0 0))
 o10:(Bc fn 1 0).op = .move (.tmp 0)
 o11:(Bc fn 1 1).op = .move (.tmp 0)
 o12:(Bc fn 1 2).op = .call { callee:=.builtin .len,args:=#[.tmp 4],argTypes:=#[T] }
 o13:(Bc fn 1 3).op = .move (.tmp 0)
 o14:(Bc fn 1 4).op = .call { callee:=.builtin .len,args:=#[.tmp 6],argTypes:=#[T] }
 o15:(Bc fn 1 5).op = .slice T (.tmp 3) none (some (.tmp 5)) (some (.tmp 7))
 o16:(Bc fn 1 6).op = .assign (.tmp 8)
 sl:P.underlying T=some (.slice e)
 sz:BH P e=some n
section
variable {P:Program} {g:FuncId} {fn:Func} {T e:TypeId} {n:Nat}
end
end Go.Pev
end
section
namespace Go.Pev
open Go.Proofs
noncomputable section
abbrev ABd:Hints:={ loop:=fun n=>match n with|0=>Ac 0 26 AFo AFn Es|_=>fun _ _ _=>none,fp:=fun n=>match n with|6=>[[],[],[],[],[],[],[],[],[]]|_=>[] }
theorem AI5:∀ v,Es v=roundOf Tryz.prog Env.none ABd 1 0 26 (AB Tryz.f26 0) AFo AFn v:=by
 rintro⟨a0,a1,a2,⟨⟩⟩
 kernel_rfl
theorem AYI:AD (AB Tryz.f26 0) 1=[]:=by kernel_rfl
theorem AYJ:Ab Tryz.prog 0 (.loop (AB Tryz.f26 0)) (ABd.loop 0):=AU Env.AIc (AI5) (AA AYI trivial)
theorem ASj:∀ v,Qs v=AP 0 Tryz.prog Env.none ABd Tryz.f26 ABc ABb ABa v:=by
 rintro⟨a0,a1,⟨⟩⟩
 kernel_rfl
theorem Ab1:AD (AS Tryz.f26) 0=[(0,AB Tryz.f26 0)]:=by kernel_rfl
theorem ANh:AR Tryz.prog 26 (AF 0 2 ABc ABb ABa LG):=AH Env.AIc Tryz.func26 (by kernel_rfl) (by kernel_rfl) rfl (fun v=>(AFp v).trans (ASj v)) (AA Ab1 ⟨AYJ,trivial⟩)
def ADZ:Env:=Env.none.ext 26 true true (AF 0 2 ABc ABb ABa LG)
theorem XC:Aa Tryz.prog ADZ:=Env.Af Env.AIc ANh (fun _=>AL rfl rfl) (fun _=>AI rfl rfl)
abbrev AZm:Hints:={  }
theorem APb:∀ v,QJ v=AP 0 Tryz.prog ADZ AZm Tryz.f109 Yt Ys Yr v:=by
 rintro⟨a0,⟨⟩⟩
 kernel_rfl
theorem AZl:AD (AS Tryz.f109) 0=[]:=by kernel_rfl
theorem AKt:AR Tryz.prog 109 (AF 0 1 Yt Ys Yr MM):=AH XC Tryz.func109 (by kernel_rfl) (by kernel_rfl) rfl (fun v=>(AEr v).trans (APb v)) (AA AZl trivial)
def ADI:Env:=ADZ.ext 109 true true (AF 0 1 Yt Ys Yr MM)
theorem W2:Aa Tryz.prog ADI:=Env.Af XC AKt (fun _=>AL rfl rfl) (fun _=>AI rfl rfl)
abbrev Agr:Hints:={  }
theorem Adn:∀ v,AUI v=AP 0 Tryz.prog ADI Agr Tryz.f85 AZ9 AZ8 AZ7 v:=by
 rintro⟨a0,a1,⟨⟩⟩
 kernel_rfl
theorem Agq:AD (AS Tryz.f85) 0=[]:=by kernel_rfl
theorem AZ6:AR Tryz.prog 85 (AF 0 2 AZ9 AZ8 AZ7 tin):=AH W2 Tryz.func85 (by kernel_rfl) (by kernel_rfl) rfl (fun v=>(AaA v).trans (Adn v)) (AA Agq trivial)
def AdS:Env:=ADI.ext 85 true true (AF 0 2 AZ9 AZ8 AZ7 tin)
theorem APD:Aa Tryz.prog AdS:=Env.Af W2 AZ6 (fun _=>AL rfl rfl) (fun _=>AI rfl rfl)
abbrev Af0:Hints:={  }
theorem AaE:∀ v,AHD v=AP 0 Tryz.prog AdS Af0 Tryz.f153 APs APr APq v:=by
 rintro⟨a0,a1,a2,⟨⟩⟩
 kernel_rfl
theorem Afz:AD (AS Tryz.f153) 0=[]:=by kernel_rfl
theorem AWO:AR Tryz.prog 153 (AF 0 3 APs APr APq AWP):=AH APD Tryz.func153 (by kernel_rfl) (by kernel_rfl) rfl (fun v=>(AUJ v).trans (AaE v)) (AA Afz trivial)
def AT4:Env:=AdS.ext 153 true true (AF 0 3 APs APr APq AWP)
theorem AGJ:Aa Tryz.prog AT4:=Env.Af APD AWO (fun _=>AL rfl rfl) (fun _=>AI rfl rfl)
abbrev AZk:Hints:={ fp:=fun n=>match n with|5=>[[],[],[],[],[],[],[],[],[]]|_=>[] }
theorem APa:∀ v,QI v=AP 0 Tryz.prog AT4 AZk Tryz.f132 Yp Yo Yn v:=by
 rintro⟨a0,a1,⟨⟩⟩
 kernel_rfl
theorem AZj:AD (AS Tryz.f132) 0=[]:=by kernel_rfl
theorem AKs:AR Tryz.prog 132 (AF 0 2 Yp Yo Yn Yq):=AH AGJ Tryz.func132 (by kernel_rfl) (by kernel_rfl) rfl (fun v=>(AEq v).trans (APa v)) (AA AZj trivial)
def Ri:Env:=AT4.ext 132 true true (AF 0 2 Yp Yo Yn Yq)
theorem NT:Aa Tryz.prog Ri:=Env.Af AGJ AKs (fun _=>AL rfl rfl) (fun _=>AI rfl rfl)
abbrev AG8:Hints:={ loop:=fun n=>match n with|0=>Ac 0 25 AK7 AK6 Hc|_=>fun _ _ _=>none }
theorem AK5:∀ v,Hc v=roundOf Tryz.prog Ri AG8 1 0 25 (AB Tryz.f107 0) AK7 AK6 v:=by
 rintro⟨a0,a1,a2,a3,a4,⟨⟩⟩
 kernel_rfl
theorem AZ4:AD (AB Tryz.f107 0) 1=[]:=by kernel_rfl
theorem AZ5:Ab Tryz.prog 0 (.loop (AB Tryz.f107 0)) (AG8.loop 0):=AU NT (AK5) (AA AZ4 trivial)
theorem AWM:∀ v,X4 v=AP 0 Tryz.prog Ri AG8 Tryz.f107 AG7 AG6 AG5 v:=by
 rintro⟨a0,⟨⟩⟩
 kernel_rfl
theorem Adk:AD (AS Tryz.f107) 0=[(0,AB Tryz.f107 0)]:=by kernel_rfl
theorem APm:AR Tryz.prog 107 (AF 0 1 AG7 AG6 AG5 AK9):=AH NT Tryz.func107 (by kernel_rfl) (by kernel_rfl) rfl (fun v=>(AK8 v).trans (AWM v)) (AA Adk ⟨AZ5,trivial⟩)
def YN:Env:=Ri.ext 107 true true (AF 0 1 AG7 AG6 AG5 AK9)
theorem Py:Aa Tryz.prog YN:=Env.Af NT APm (fun _=>AL rfl rfl) (fun _=>AI rfl rfl)
abbrev ABk:Hints:={ loop:=fun n=>match n with|0=>Ac 0 19 AFs AFr Fg|_=>fun _ _ _=>none }
theorem AI6:∀ v,Fg v=roundOf Tryz.prog YN ABk 1 0 19 (AB Tryz.f134 0) AFs AFr v:=by
 rintro⟨a0,a1,a2,a3,⟨⟩⟩
 kernel_rfl
theorem AYM:AD (AB Tryz.f134 0) 1=[]:=by kernel_rfl
theorem AYN:Ab Tryz.prog 0 (.loop (AB Tryz.f134 0)) (ABk.loop 0):=AU Py (AI6) (AA AYM trivial)
theorem ASu:∀ v,Qu v=AP 0 Tryz.prog YN ABk Tryz.f134 ABj ABi ABh v:=by
 rintro⟨a0,a1,⟨⟩⟩
 kernel_rfl
theorem AcA:AD (AS Tryz.f134) 0=[(0,AB Tryz.f134 0)]:=by kernel_rfl
theorem ANi:AR Tryz.prog 134 (AF 0 2 ABj ABi ABh PY):=AH Py Tryz.func134 (by kernel_rfl) (by kernel_rfl) rfl (fun v=>(AFt v).trans (ASu v)) (AA AcA ⟨AYN,trivial⟩)
def ADa:Env:=YN.ext 134 true true (AF 0 2 ABj ABi ABh PY)
theorem XD:Aa Tryz.prog ADa:=Env.Af Py ANi (fun _=>AL rfl rfl) (fun _=>AI rfl rfl)
abbrev AOb:Hints:={  }
theorem AEd:∀ v,I9 v=AP 0 Tryz.prog ADa AOb Tryz.f114 NI NH NG v:=by
 rintro⟨a0,a1,⟨⟩⟩
 kernel_rfl
theorem AOa:AD (AS Tryz.f114) 0=[]:=by kernel_rfl
theorem ACa:AR Tryz.prog 114 (AF 0 2 NI NH NG Ft):=AH XD Tryz.func114 (by kernel_rfl) (by kernel_rfl) rfl (fun v=>(RN v).trans (AEd v)) (AA AOa trivial)
def JJ:Env:=ADa.ext 114 true true (AF 0 2 NI NH NG Ft)
theorem IU:Aa Tryz.prog JJ:=Env.Af XD ACa (fun _=>AL rfl rfl) (fun _=>AI rfl rfl)
abbrev ASD:Hints:={ loop:=fun n=>match n with|0=>Ac 0 25 AU8 AU7 K7|_=>fun _ _ _=>none }
theorem AR9:∀ v,K7 v=roundOf Tryz.prog JJ ASD 1 0 25 (AB Tryz.f110 0) AU8 AU7 v:=by
 rintro⟨a0,a1,a2,⟨⟩⟩
 kernel_rfl
theorem Aen:AD (AB Tryz.f110 0) 1=[]:=by kernel_rfl
theorem Aeo:Ab Tryz.prog 0 (.loop (AB Tryz.f110 0)) (ASD.loop 0):=AU IU (AR9) (AA Aen trivial)
theorem Abo:∀ v,AIf v=AP 0 Tryz.prog JJ ASD Tryz.f110 ASC ASB ASA v:=by
 rintro⟨a0,⟨⟩⟩
 kernel_rfl
theorem AgT:AD (AS Tryz.f110) 0=[(0,AB Tryz.f110 0)]:=by kernel_rfl
theorem AXq:AR Tryz.prog 110 (AF 0 1 ASC ASB ASA AXr):=AH IU Tryz.func110 (by kernel_rfl) (by kernel_rfl) rfl (fun v=>(AU9 v).trans (Abo v)) (AA AgT ⟨Aeo,trivial⟩)
def AUC:Env:=JJ.ext 110 true true (AF 0 1 ASC ASB ASA AXr)
theorem AGS:Aa Tryz.prog AUC:=Env.Af IU AXq (fun _=>AL rfl rfl) (fun _=>AI rfl rfl)
abbrev AfE:Hints:={  }
theorem AYb:∀ v,YG v=AP 0 Tryz.prog AUC AfE Tryz.f161 AJM AJL AJK v:=by
 rintro⟨a0,⟨⟩⟩
 kernel_rfl
theorem AfD:AD (AS Tryz.f161) 0=[]:=by kernel_rfl
theorem AS0:AR Tryz.prog 161 (AF 0 2 AJM AJL AJK AN5):=AH AGS Tryz.func161 (by kernel_rfl) (by kernel_rfl) rfl (fun v=>(AN4 v).trans (AYb v)) (AA AfD trivial)
def R3:Env:=AUC.ext 161 false true (AF 0 2 AJM AJL AJK AN5)
theorem Lt:Aa Tryz.prog R3:=Env.Af AGS AS0 ((by simp)) (fun _=>AI rfl rfl)
abbrev KT:Hints:={ loop:=fun n=>match n with|0=>Ac 0 36 ACj ACh EZ|1=>Ac 0 36 ACi ACg EY|_=>fun _ _ _=>none }
theorem AEf:∀ v,EY v=roundOf Tryz.prog R3 KT 2 0 36 (AB Tryz.f152 1) ACi ACg v:=by
 rintro⟨a0,a1,a2,a3,⟨⟩⟩
 kernel_rfl
theorem ATY:AD (AB Tryz.f152 1) 2=[]:=by kernel_rfl
theorem ATa:Ab Tryz.prog 0 (.loop (AB Tryz.f152 1)) (KT.loop 1):=AU Lt (AEf) (AA ATY trivial)
theorem AEg:∀ v,EZ v=roundOf Tryz.prog R3 KT 1 0 36 (AB Tryz.f152 0) ACj ACh v:=by
 rintro⟨a0,a1,a2,a3,a4,⟨⟩⟩
 kernel_rfl
theorem ATZ:AD (AB Tryz.f152 0) 1=[]:=by kernel_rfl
theorem ATb:Ab Tryz.prog 0 (.loop (AB Tryz.f152 0)) (KT.loop 0):=AU Lt (AEg) (AA ATZ trivial)
theorem AOe:∀ v,N3 v=AP 0 Tryz.prog R3 KT Tryz.f152 US UR UQ v:=by
 rintro⟨a0,⟨⟩⟩
 kernel_rfl
theorem AY2:AD (AS Tryz.f152) 0=[(0,AB Tryz.f152 0),(1,AB Tryz.f152 1)]:=by kernel_rfl
theorem AJi:AR Tryz.prog 152 (AF 0 1 US UR UQ JA):=AH Lt Tryz.func152 (by kernel_rfl) (by kernel_rfl) rfl (fun v=>(ACk v).trans (AOe v)) (AA AY2 ⟨ATb,ATa,trivial⟩)
def Vp:Env:=R3.ext 152 true true (AF 0 1 US UR UQ JA)
theorem R7:Aa Tryz.prog Vp:=Env.Af Lt AJi (fun _=>AL rfl rfl) (fun _=>AI rfl rfl)
theorem AW4:Tryz.f96.body.isSome=true:=by kernel_rfl
theorem AW3 : (Tryz.f96.name == "runtime.NumGoroutine") = false := by kernel_rfl
theorem AW2:loops (AS Tryz.f96)=0:=by kernel_rfl
def JH:Env:=Vp.ext 96 false false (DF Tryz.prog Vp {} Tryz.f96)
theorem IS:Aa Tryz.prog JH:=Env.Af R7 (Cr R7 Tryz.func96 AW4 AW3 AW2) (by simp) (by simp)
end
end Go.Pev
end
section
namespace Go.Pev
open Go.Proofs
noncomputable section
abbrev H7:Hints:={ loop:=fun n=>match n with|0=>Ac 0 19 L0 Lz B5|_=>fun _ _ _=>none }
theorem Pc:∀ v,B5 v=roundOf Tryz.prog JH H7 1 0 19 (AB Tryz.f91 0) L0 Lz v:=by
 rintro⟨a0,a1,a2,⟨⟩⟩
 kernel_rfl
theorem Xc:AD (AB Tryz.f91 0) 1=[]:=by kernel_rfl
theorem Xd:Ab Tryz.prog 0 (.loop (AB Tryz.f91 0)) (H7.loop 0):=AU IS (Pc) (AA Xc trivial)
theorem Tt:∀ v,E7 v=AP 0 Tryz.prog JH H7 Tryz.f91 H6 H5 H4 v:=by
 rintro⟨a0,⟨⟩⟩
 kernel_rfl
theorem ABv:AD (AS Tryz.f91) 0=[(0,AB Tryz.f91 0)]:=by kernel_rfl
theorem Q4:AR Tryz.prog 91 (AF 0 2 H6 H5 H4 G5):=AH IS Tryz.func91 (by kernel_rfl) (by kernel_rfl) rfl (fun v=>(L3 v).trans (Tt v)) (AA ABv ⟨Xd,trivial⟩)
def IT:Env:=JH.CE 91 1 96 (AF 0 2 H6 H5 H4 G5)
theorem JI:Aa Tryz.prog IT:=Env.Ay IS Q4 (AI rfl rfl)
abbrev Xm:Hints:={  }
theorem RT:∀ v,EJ v=AP 0 Tryz.prog IT Xm Tryz.f73 Gp Gn Gm v:=by
 rintro⟨a0,⟨⟩⟩
 kernel_rfl
theorem Xl:AD (AS Tryz.f73) 0=[]:=by kernel_rfl
theorem Po:AR Tryz.prog 73 (AF 0 2 Gp Gn Gm EE):=AH JI Tryz.func73 (by kernel_rfl) (by kernel_rfl) rfl (fun v=>(KS v).trans (RT v)) (AA Xl trivial)
def EK:Env:=IT.CE 73 1 96 (AF 0 2 Gp Gn Gm EE)
theorem Ed:Aa Tryz.prog EK:=Env.Ay JI Po (AI rfl rfl)
abbrev ARx:Hints:={ loop:=fun n=>match n with|0=>Ac 0 23 AU1 AU0 Ky|_=>fun _ _ _=>none }
theorem ARt:∀ v,Ky v=roundOf Tryz.prog EK ARx 1 0 23 (AB Tryz.f97 0) AU1 AU0 v:=by
 rintro⟨a0,a1,a2,a3,a4,⟨⟩⟩
 kernel_rfl
theorem Aee:AD (AB Tryz.f97 0) 1=[]:=by kernel_rfl
theorem Aef:Ab Tryz.prog 0 (.loop (AB Tryz.f97 0)) (ARx.loop 0):=AU Ed (ARt) (AA Aee trivial)
theorem Abi:∀ v,AIZ v=AP 0 Tryz.prog EK ARx Tryz.f97 ARw ARv ARu v:=by
 rintro⟨a0,⟨⟩⟩
 kernel_rfl
theorem AgM:AD (AS Tryz.f97) 0=[(0,AB Tryz.f97 0)]:=by kernel_rfl
theorem AXh:AR Tryz.prog 97 (AF 0 1 ARw ARv ARu once):=AH Ed Tryz.func97 (by kernel_rfl) (by kernel_rfl) rfl (fun v=>(AU2 v).trans (Abi v)) (AA AgM ⟨Aef,trivial⟩)
def AUA:Env:=EK.ext 97 true true (AF 0 1 ARw ARv ARu once)
theorem AGQ:Aa Tryz.prog AUA:=Env.Af Ed AXh (fun _=>AL rfl rfl) (fun _=>AI rfl rfl)
abbrev Aak:Hints:={  }
theorem AQg:∀ v,QR v=AP 0 Tryz.prog AUA Aak Tryz.f72 Zu Zt Zs v:=by
 rintro⟨a0,⟨⟩⟩
 kernel_rfl
theorem Aaj:AD (AS Tryz.f72) 0=[]:=by kernel_rfl
theorem ALi:AR Tryz.prog 72 (AF 0 1 Zu Zt Zs MY):=AH AGQ Tryz.func72 (by kernel_rfl) (by kernel_rfl) rfl (fun v=>(AFI v).trans (AQg v)) (AA Aaj trivial)
def ADQ:Env:=AUA.ext 72 true true (AF 0 1 Zu Zt Zs MY)
theorem W7:Aa Tryz.prog ADQ:=Env.Af AGQ ALi (fun _=>AL rfl rfl) (fun _=>AI rfl rfl)
abbrev AZi:Hints:={ fp:=fun n=>match n with|1=>[[],[],[],[],[],[],[],[0],[]]|_=>[] }
theorem APY:∀ v,QH v=AP 0 Tryz.prog ADQ AZi Tryz.f160 Ym Yl Yk v:=by
 rintro⟨a0,a1,⟨⟩⟩
 kernel_rfl
theorem AZh:AD (AS Tryz.f160) 0=[]:=by kernel_rfl
theorem AKr:AR Tryz.prog 160 (AF 0 2 Ym Yl Yk SU):=AH W7 Tryz.func160 (by kernel_rfl) (by kernel_rfl) rfl (fun v=>(AEp v).trans (APY v)) (AA AZh trivial)
def Rh:Env:=ADQ.ext 160 true true (AF 0 2 Ym Yl Yk SU)
theorem NS:Aa Tryz.prog Rh:=Env.Af W7 AKr (fun _=>AL rfl rfl) (fun _=>AI rfl rfl)
abbrev AAJ:Hints:={ loop:=fun n=>match n with|0=>Ac 0 29 AFS AFR Ej|_=>fun _ _ _=>none }
theorem AH7:∀ v,Ej v=roundOf Tryz.prog Rh AAJ 1 0 29 (AB Tryz.f159 0) AFS AFR v:=by
 rintro⟨a0,a1,a2,a3,a4,⟨⟩⟩
 kernel_rfl
theorem AXG:AD (AB Tryz.f159 0) 1=[]:=by kernel_rfl
theorem AXH:Ab Tryz.prog 0 (.loop (AB Tryz.f159 0)) (AAJ.loop 0):=AU NS (AH7) (AA AXG trivial)
theorem ARD:∀ v,Qe v=AP 0 Tryz.prog Rh AAJ Tryz.f159 AAI AAH AAG v:=by
 rintro⟨a0,a1,⟨⟩⟩
 kernel_rfl
theorem Aay:AD (AS Tryz.f159) 0=[(0,AB Tryz.f159 0)]:=by kernel_rfl
theorem ALy:AR Tryz.prog 159 (AF 0 2 AAI AAH AAG places):=AH NS Tryz.func159 (by kernel_rfl) (by kernel_rfl) rfl (fun v=>(AFT v).trans (ARD v)) (AA Aay ⟨AXH,trivial⟩)
def ADT:Env:=Rh.ext 159 true true (AF 0 2 AAI AAH AAG places)
theorem W9:Aa Tryz.prog ADT:=Env.Af NS ALy (fun _=>AL rfl rfl) (fun _=>AI rfl rfl)
abbrev AeH:Hints:={  }
theorem AW7:∀ v,X8 v=AP 0 Tryz.prog ADT AeH Tryz.f151 AHy AHx AHw v:=by
 rintro⟨a0,a1,⟨⟩⟩
 kernel_rfl
theorem AeG:AD (AS Tryz.f151) 0=[]:=by kernel_rfl
theorem AQq:AR Tryz.prog 151 (AF 0 2 AHy AHx AHw AFL):=AH W9 Tryz.func151 (by kernel_rfl) (by kernel_rfl) rfl (fun v=>(ALt v).trans (AW7 v)) (AA AeG trivial)
def AKP:Env:=ADT.ext 151 true true (AF 0 2 AHy AHx AHw AFL)
theorem ADS:Aa Tryz.prog AKP:=Env.Af W9 AQq (fun _=>AL rfl rfl) (fun _=>AI rfl rfl)
abbrev Aam:Hints:={  }
theorem AQi:∀ v,QS v=AP 0 Tryz.prog AKP Aam Tryz.f162 Zx Zw Zv v:=by
 rintro⟨a0,⟨⟩⟩
 kernel_rfl
theorem Aal:AD (AS Tryz.f162) 0=[]:=by kernel_rfl
theorem ALj:AR Tryz.prog 162 (AF 0 1 Zx Zw Zv Zy):=AH ADS Tryz.func162 (by kernel_rfl) (by kernel_rfl) rfl (fun v=>(AFJ v).trans (AQi v)) (AA Aal trivial)
def ADR:Env:=AKP.ext 162 true true (AF 0 1 Zx Zw Zv Zy)
theorem W8:Aa Tryz.prog ADR:=Env.Af ADS ALj (fun _=>AL rfl rfl) (fun _=>AI rfl rfl)
theorem AWJ:Tryz.f113.body.isSome=true:=by kernel_rfl
theorem AWI : (Tryz.f113.name == "runtime.NumGoroutine") = false := by kernel_rfl
theorem AWH:loops (AS Tryz.f113)=0:=by kernel_rfl
def JG:Env:=ADR.ext 113 false false (DF Tryz.prog ADR {} Tryz.f113)
theorem IP:Aa Tryz.prog JG:=Env.Af W8 (Cr W8 Tryz.func113 AWJ AWI AWH) (by simp) (by simp)
abbrev Fk:Hints:={ loop:=fun n=>match n with|0=>Ac 1 19 Ir Iq Bj|_=>fun _ _ _=>none }
theorem Mw:∀ v,Bj v=roundOf Tryz.prog JG Fk 1 1 19 (AB Tryz.f112 0) Ir Iq v:=by
 rintro⟨a0,a1,a2,a3,⟨⟩⟩
 kernel_rfl
theorem Qx:AD (AB Tryz.f112 0) 1=[]:=by kernel_rfl
theorem Qy:Ab Tryz.prog 1 (.loop (AB Tryz.f112 0)) (Fk.loop 0):=AU IP (Mw) (AA Qx trivial)
theorem Pa:∀ v,D0 v=AP 1 Tryz.prog JG Fk Tryz.f112 Fj Fi Fh v:=by
 rintro⟨a0,a1,⟨⟩⟩
 kernel_rfl
theorem To:AD (AS Tryz.f112) 0=[(0,AB Tryz.f112 0)]:=by kernel_rfl
theorem OK:AR Tryz.prog 112 (AF 1 2 Fj Fi Fh E5):=AH IP Tryz.func112 (by kernel_rfl) (by kernel_rfl) rfl (fun v=>(Is v).trans (Pa v)) (AA To ⟨Qy,trivial⟩)
def F6:Env:=JG.CE 112 1 113 (AF 1 2 Fj Fi Fh E5)
theorem Gy:Aa Tryz.prog F6:=Env.Ay IP OK (AI rfl rfl)
abbrev AZt:Hints:={  }
theorem APj:∀ v,QL v=AP 0 Tryz.prog F6 AZt Tryz.f87 Y6 Y5 Y4 v:=by
 rintro⟨a0,a1,⟨⟩⟩
 kernel_rfl
theorem AZs:AD (AS Tryz.f87) 0=[]:=by kernel_rfl
theorem AKz:AR Tryz.prog 87 (AF 0 2 Y6 Y5 Y4 Ov):=AH Gy Tryz.func87 (by kernel_rfl) (by kernel_rfl) rfl (fun v=>(AEz v).trans (APj v)) (AA AZs trivial)
def ADK:Env:=F6.ext 87 true true (AF 0 2 Y6 Y5 Y4 Ov)
theorem W4:Aa Tryz.prog ADK:=Env.Af Gy AKz (fun _=>AL rfl rfl) (fun _=>AI rfl rfl)
theorem Afe:Tryz.f133.body.isSome=true:=by kernel_rfl
theorem Afd : (Tryz.f133.name == "runtime.NumGoroutine") = false := by kernel_rfl
theorem Afc:loops (AS Tryz.f133)=0:=by kernel_rfl
def OG:Env:=ADK.ext 133 false false (DF Tryz.prog ADK {} Tryz.f133)
theorem Lw:Aa Tryz.prog OG:=Env.Af W4 (Cr W4 Tryz.func133 Afe Afd Afc) (by simp) (by simp)
end
end Go.Pev
end
section
namespace Go.Pev
open Go.Proofs
noncomputable section
abbrev AS5:Hints:={ loop:=fun n=>match n with|0=>Ac 0 107 AVU AVT I0|_=>fun _ _ _=>none,fp:=fun n=>match n with|8=>[[],[],[],[],[],[],[],[],[1000003],[],[],[],[],[],[],[],[],[0],[0],[0],[],[0],[0],[0],[2,26],[],[2,26],[2,26],[],[],[],[],[]]|13=>[[],[0],[0],[0],[2],[],[],[],[0],[0],[0],[6],[],[0],[0],[0],[4],[],[],[]]|3=>[[],[],[],[],[],[],[],[],[11],[],[],[],[8,10,12],[]]|_=>[] }
theorem AS1:∀ v,I0 v=roundOf Tryz.prog OG AS5 1 0 107 (AB Tryz.f111 0) AVU AVT v:=by
 rintro⟨a0,a1,a2,a3,a4,a5,a6,⟨⟩⟩
 kernel_rfl
theorem AfF:AD (AB Tryz.f111 0) 1=[]:=by kernel_rfl
theorem AfG:Ab Tryz.prog 0 (.loop (AB Tryz.f111 0)) (AS5.loop 0):=AU Lw (AS1) (AA AfF trivial)
theorem AcW:∀ v,AJO v=AP 0 Tryz.prog OG AS5 Tryz.f111 AS4 AS3 AS2 v:=by
 rintro⟨a0,a1,⟨⟩⟩
 kernel_rfl
theorem Agb:AD (AS Tryz.f111) 0=[(0,AB Tryz.f111 0)]:=by kernel_rfl
theorem AYh:AR Tryz.prog 111 (AF 0 2 AS4 AS3 AS2 goes):=AH Lw Tryz.func111 (by kernel_rfl) (by kernel_rfl) rfl (fun v=>(AVV v).trans (AcW v)) (AA Agb ⟨AfG,trivial⟩)
def VY:Env:=OG.ext 111 true true (AF 0 2 AS4 AS3 AS2 goes)
theorem Ka:Aa Tryz.prog VY:=Env.Af Lw AYh (fun _=>AL rfl rfl) (fun _=>AI rfl rfl)
abbrev HY:Hints:={ loop:=fun n=>match n with|0=>Ac 0 87 AEx AEu Dp|1=>Ac 0 87 AEw AEt Dn|2=>Ac 0 87 AEv AEs Ee|_=>fun _ _ _=>none,fp:=fun n=>match n with|8=>[[],[],[],[],[],[],[],[],[],[],[],[],[],[],[],[],[],[],[],[],[],[],[],[],[0],[0],[],[],[],[]]|_=>[] }
theorem AGt:∀ v,Ee v=roundOf Tryz.prog VY HY 3 0 87 (AB Tryz.f86 2) AEv AEs v:=by
 rintro⟨a0,a1,a2,⟨⟩⟩
 kernel_rfl
theorem AV9:AD (AB Tryz.f86 2) 3=[]:=by kernel_rfl
theorem AWC:Ab Tryz.prog 0 (.loop (AB Tryz.f86 2)) (HY.loop 2):=AU Ka (AGt) (AA AV9 trivial)
theorem AGu:∀ v,Dn v=roundOf Tryz.prog VY HY 2 0 87 (AB Tryz.f86 1) AEw AEt v:=by
 rintro⟨a0,a1,a2,a3,a4,a5,a6,a7,a8,a9,a10,a11,a12,a13,a14,a15,a16,a17,a18,a19,a20,a21,a22,a23,a24,a25,⟨⟩⟩
 kernel_rfl
theorem AWA:AD (AB Tryz.f86 1) 2=[]:=by kernel_rfl
theorem AWD:Ab Tryz.prog 0 (.loop (AB Tryz.f86 1)) (HY.loop 1):=AU Ka (AGu) (AA AWA trivial)
theorem AGv:∀ v,Dp v=roundOf Tryz.prog VY HY 1 0 87 (AB Tryz.f86 0) AEx AEu v:=by
 rintro⟨a0,a1,a2,a3,a4,a5,a6,⟨⟩⟩
 kernel_rfl
theorem AWB:AD (AB Tryz.f86 0) 1=[(1,AB Tryz.f86 1)]:=by kernel_rfl
theorem AWE:Ab Tryz.prog 0 (.loop (AB Tryz.f86 0)) (HY.loop 0):=AU Ka (AGv) (AA AWB ⟨AWD,trivial⟩)
theorem APd:∀ v,QK v=AP 0 Tryz.prog VY HY Tryz.f86 Yz Yy Yx v:=by
 rintro⟨a0,⟨⟩⟩
 kernel_rfl
theorem AZr:AD (AS Tryz.f86) 0=[(0,AB Tryz.f86 0),(2,AB Tryz.f86 2)]:=by kernel_rfl
theorem AKx:AR Tryz.prog 86 (AF 0 1 Yz Yy Yx Ou):=AH Ka Tryz.func86 (by kernel_rfl) (by kernel_rfl) rfl (fun v=>(AEy v).trans (APd v)) (AA AZr ⟨AWE,AWC,trivial⟩)
def ADJ:Env:=VY.ext 86 true true (AF 0 1 Yz Yy Yx Ou)
theorem W3:Aa Tryz.prog ADJ:=Env.Af Ka AKx (fun _=>AL rfl rfl) (fun _=>AI rfl rfl)
abbrev AfY:Hints:={  }
theorem AZP:∀ v,YM v=AP 0 Tryz.prog ADJ AfY Tryz.f150 AJ9 AJ8 AJ7 v:=by
 rintro⟨a0,a1,a2,⟨⟩⟩
 kernel_rfl
theorem AfX:AD (AS Tryz.f150) 0=[]:=by kernel_rfl
theorem ATv:AR Tryz.prog 150 (AF 0 3 AJ9 AJ8 AJ7 asked):=AH W3 Tryz.func150 (by kernel_rfl) (by kernel_rfl) rfl (fun v=>(AOz v).trans (AZP v)) (AA AfX trivial)
def AKX:Env:=ADJ.ext 150 true true (AF 0 3 AJ9 AJ8 AJ7 asked)
theorem ADh:Aa Tryz.prog AKX:=Env.Af W3 ATv (fun _=>AL rfl rfl) (fun _=>AI rfl rfl)
abbrev AgS:Hints:={  }
theorem Abm:∀ v,K5 v=AP 0 Tryz.prog AKX AgS Tryz.f90 AR7 AR6 AR5 v:=by
 rintro⟨a0,⟨⟩⟩
 kernel_rfl
theorem AgR:AD (AS Tryz.f90) 0=[]:=by kernel_rfl
theorem AXn:AR Tryz.prog 90 (AF 0 1 AR7 AR6 AR5 Abn):=AH ADh Tryz.func90 (by kernel_rfl) (by kernel_rfl) rfl (fun v=>(K4 v).trans (Abm v)) (AA AgR trivial)
def AUB:Env:=AKX.ext 90 true true (AF 0 1 AR7 AR6 AR5 Abn)
theorem AGR:Aa Tryz.prog AUB:=Env.Af ADh AXn (fun _=>AL rfl rfl) (fun _=>AI rfl rfl)
abbrev ATd:Hints:={  }
theorem AJl:∀ v,Ea v=AP 0 Tryz.prog AUB ATd Tryz.f62 Pr Pq Pp v:=by
 rintro⟨a0,a1,⟨⟩⟩
 kernel_rfl
theorem ATc:AD (AS Tryz.f62) 0=[]:=by kernel_rfl
theorem AEh:AR Tryz.prog 62 (AF 0 2 Pr Pq Pp Dh):=AH AGR Tryz.func62 (by kernel_rfl) (by kernel_rfl) rfl (fun v=>(Gd v).trans (AJl v)) (AA ATc trivial)
def P9:Env:=AUB.ext 62 true true (AF 0 2 Pr Pq Pp Dh)
theorem Ol:Aa Tryz.prog P9:=Env.Af AGR AEh (fun _=>AL rfl rfl) (fun _=>AI rfl rfl)
abbrev AdV:Hints:={ fp:=fun n=>match n with|1=>[[],[],[],[],[],[],[],[]]|_=>[] }
theorem AV0:∀ v,Xy v=AP 0 Tryz.prog P9 AdV Tryz.f164 AGc AGb AGa v:=by
 rintro⟨a0,a1,⟨⟩⟩
 kernel_rfl
theorem AdU:AD (AS Tryz.f164) 0=[]:=by kernel_rfl
theorem APF:AR Tryz.prog 164 (AF 0 2 AGc AGb AGa BN):=AH Ol Tryz.func164 (by kernel_rfl) (by kernel_rfl) rfl (fun v=>(AKb v).trans (AV0 v)) (AA AdU trivial)
def AKK:Env:=P9.ext 164 true true (AF 0 2 AGc AGb AGa BN)
theorem ADE:Aa Tryz.prog AKK:=Env.Af Ol APF (fun _=>AL rfl rfl) (fun _=>AI rfl rfl)
abbrev Aeu:Hints:={  }
theorem AYG:∀ v,YF v=AP 0 Tryz.prog AKK Aeu Tryz.f124 AI1 AI0 AIz v:=by
 rintro⟨a0,⟨⟩⟩
 kernel_rfl
theorem Aet:AD (AS Tryz.f124) 0=[]:=by kernel_rfl
theorem ASa:AR Tryz.prog 124 (AF 0 1 AI1 AI0 AIz ANe):=AH ADE Tryz.func124 (by kernel_rfl) (by kernel_rfl) rfl (fun v=>(ANd v).trans (AYG v)) (AA Aet trivial)
def AKS:Env:=AKK.ext 124 true true (AF 0 1 AI1 AI0 AIz ANe)
theorem ADY:Aa Tryz.prog AKS:=Env.Af ADE ASa (fun _=>AL rfl rfl) (fun _=>AI rfl rfl)
abbrev AZO:Hints:={  }
theorem AOy:∀ v,N6 v=AP 0 Tryz.prog AKS AZO Tryz.f89 VE VD VC v:=by
 rintro⟨a0,⟨⟩⟩
 kernel_rfl
theorem AZN:AD (AS Tryz.f89) 0=[]:=by kernel_rfl
theorem AJ5:AR Tryz.prog 89 (AF 0 1 VE VD VC bitsLen):=AH ADY Tryz.func89 (by kernel_rfl) (by kernel_rfl) rfl (fun v=>(AC7 v).trans (AOy v)) (AA AZN trivial)
def Vr:Env:=AKS.ext 89 true true (AF 0 1 VE VD VC bitsLen)
theorem R9:Aa Tryz.prog Vr:=Env.Af ADY AJ5 (fun _=>AL rfl rfl) (fun _=>AI rfl rfl)
abbrev AVw:Hints:={ fp:=fun n=>match n with|3=>[[],[0],[0],[],[0],[0],[],[],[0],[1]]|2=>[[],[0],[0],[],[0],[0],[],[],[0],[1]]|1=>[[],[0],[0],[],[0],[0],[],[],[0],[1]]|_=>[] }
theorem AKZ:∀ v,Nd v=AP 1 Tryz.prog Vr AVw Tryz.f137 SH SF SD v:=by
 rintro⟨a0,⟨⟩⟩
 kernel_rfl
theorem AVv:AD (AS Tryz.f137) 0=[]:=by kernel_rfl
theorem AGY:AR Tryz.prog 137 (AF 1 1 SH SF SD xorNext):=AH R9 Tryz.func137 (by kernel_rfl) (by kernel_rfl) rfl (fun v=>(YT v).trans (AKZ v)) (AA AVv trivial)
def VM:Env:=Vr.ext 137 false true (AF 1 1 SH SF SD xorNext)
theorem Rf:Aa Tryz.prog VM:=Env.Af R9 AGY ((by simp)) (fun _=>AI rfl rfl)
abbrev AXm:Hints:={  }
theorem ANI:∀ v,Ns v=AP 0 Tryz.prog VM AXm Tryz.f136 TM TL TK v:=by
 rintro⟨a0,⟨⟩⟩
 kernel_rfl
theorem AXl:AD (AS Tryz.f136) 0=[]:=by kernel_rfl
theorem AId:AR Tryz.prog 136 (AF 0 1 TM TL TK Ql):=AH Rf Tryz.func136 (by kernel_rfl) (by kernel_rfl) rfl (fun v=>(ABG v).trans (ANI v)) (AA AXl trivial)
def KW:Env:=VM.ext 136 true true (AF 0 1 TM TL TK Ql)
theorem HD:Aa Tryz.prog KW:=Env.Af Rf AId (fun _=>AL rfl rfl) (fun _=>AI rfl rfl)
abbrev ABe:Hints:={ loop:=fun n=>match n with|0=>Ac 1 53 AVG AVE AVC|1=>Ac 1 53 AVF AVD AVB|_=>fun _ _ _=>none,fp:=fun n=>match n with|4=>[[],[],[],[],[],[],[],[0],[0],[],[],[],[0],[0],[],[],[]]|6=>[[],[],[],[],[],[],[],[],[0],[0],[],[],[0],[0],[0],[1],[0],[1]]|_=>[] }
theorem ASk:∀ v,AVB v=roundOf Tryz.prog KW ABe 2 1 53 (AB Tryz.f166 1) AVF AVD v:=by
 rintro⟨a0,a1,a2,a3,a4,⟨⟩⟩
 kernel_rfl
theorem Aev:AD (AB Tryz.f166 1) 2=[]:=by kernel_rfl
theorem Aex:Ab Tryz.prog 1 (.loop (AB Tryz.f166 1)) (ABe.loop 1):=AU HD (ASk) (AA Aev trivial)
theorem ASl:∀ v,AVC v=roundOf Tryz.prog KW ABe 1 1 53 (AB Tryz.f166 0) AVG AVE v:=by
 rintro⟨a0,a1,a2,a3,⟨⟩⟩
 kernel_rfl
theorem Aew:AD (AB Tryz.f166 0) 1=[(1,AB Tryz.f166 1)]:=by kernel_rfl
theorem Aey:Ab Tryz.prog 1 (.loop (AB Tryz.f166 0)) (ABe.loop 0):=AU HD (ASl) (AA Aew ⟨Aex,trivial⟩)
theorem Ab3:∀ v,Ab4 v=AP 1 Tryz.prog KW ABe Tryz.f166 ASo ASn ASm v:=by
 rintro⟨a0,a1,a2,⟨⟩⟩
 kernel_rfl
theorem AgX:AD (AS Tryz.f166) 0=[(0,AB Tryz.f166 0)]:=by kernel_rfl
theorem AYK:AR Tryz.prog 166 (AF 1 4 ASo ASn ASm AgY):=AH HD Tryz.func166 (by kernel_rfl) (by kernel_rfl) rfl (fun v=>(Aez v).trans (Ab3 v)) (AA AgX ⟨Aey,trivial⟩)
def AKT:Env:=KW.CE 166 3 164 (AF 1 4 ASo ASn ASm AgY)
theorem VW:Aa Tryz.prog AKT:=Env.Ay HD AYK (AI rfl rfl)
abbrev AHg:Hints:={ loop:=fun n=>match n with|0=>Ac 1 82 ALW ALV ALU|_=>fun _ _ _=>none,fp:=fun n=>match n with|6=>[[],[],[],[],[],[],[],[],[],[],[],[],[0],[0],[],[],[],[],[0],[0],[0],[1],[0],[1]]|5=>[[],[],[],[],[],[0],[0],[],[],[],[],[0],[0],[],[],[]]|3=>[[],[],[],[],[],[],[],[],[],[],[0],[0],[],[],[],[],[],[0],[0],[],[],[]]|_=>[] }
theorem ALT:∀ v,ALU v=roundOf Tryz.prog AKT AHg 1 1 82 (AB Tryz.f174 0) ALW ALV v:=by
 rintro⟨a0,a1,a2,a3,⟨⟩⟩
 kernel_rfl
theorem AaT:AD (AB Tryz.f174 0) 1=[]:=by kernel_rfl
theorem AaU:Ab Tryz.prog 1 (.loop (AB Tryz.f174 0)) (AHg.loop 0):=AU VW (ALT) (AA AaT trivial)
theorem AWj:∀ v,AUV v=AP 1 Tryz.prog AKT AHg Tryz.f174 AHf AHe AHd v:=by
 rintro⟨a0,a1,a2,a3,⟨⟩⟩
 kernel_rfl
theorem Ad4:AD (AS Tryz.f174) 0=[(0,AB Tryz.f174 0)]:=by kernel_rfl
theorem AQR:AR Tryz.prog 174 (AF 1 5 AHf AHe AHd AaW):=AH VW Tryz.func174 (by kernel_rfl) (by kernel_rfl) rfl (fun v=>(AaV v).trans (AWj v)) (AA Ad4 ⟨AaU,trivial⟩)
def Rq:Env:=AKT.CE 174 4 164 (AF 1 5 AHf AHe AHd AaW)
theorem Lo:Aa Tryz.prog Rq:=Env.Ay VW AQR (AI rfl rfl)
end
end Go.Pev
end
section
namespace Go.Pev
open Go.Proofs
noncomputable section
abbrev Q6:Hints:={ loop:=fun n=>match n with|0=>Ac 1 60 ANr ANp ANn|1=>Ac 1 60 ANq ANo ANl|_=>fun _ _ _=>none,fp:=fun n=>match n with|10=>[[],[],[],[],[],[],[],[],[],[],[0],[0],[],[],[0],[0],[0],[1],[0],[1]]|_=>[] }
theorem ANk:∀ v,ANl v=roundOf Tryz.prog Rq Q6 2 1 60 (AB Tryz.f167 1) ANq ANo v:=by
 rintro⟨a0,a1,a2,a3,⟨⟩⟩
 kernel_rfl
theorem AcH:AD (AB Tryz.f167 1) 2=[]:=by kernel_rfl
theorem AcJ:Ab Tryz.prog 1 (.loop (AB Tryz.f167 1)) (Q6.loop 1):=AU Lo (ANk) (AA AcH trivial)
theorem ANm:∀ v,ANn v=roundOf Tryz.prog Rq Q6 1 1 60 (AB Tryz.f167 0) ANr ANp v:=by
 rintro⟨a0,a1,a2,a3,a4,⟨⟩⟩
 kernel_rfl
theorem AcI:AD (AB Tryz.f167 0) 1=[]:=by kernel_rfl
theorem AcK:Ab Tryz.prog 1 (.loop (AB Tryz.f167 0)) (Q6.loop 0):=AU Lo (ANm) (AA AcI trivial)
theorem AYT:∀ v,AVQ v=AP 1 Tryz.prog Rq Q6 Tryz.f167 AJE AJD AJC v:=by
 rintro⟨a0,a1,a2,⟨⟩⟩
 kernel_rfl
theorem AfA:AD (AS Tryz.f167) 0=[(0,AB Tryz.f167 0),(1,AB Tryz.f167 1)]:=by kernel_rfl
theorem ASx:AR Tryz.prog 167 (AF 1 4 AJE AJD AJC AcM):=AH Lo Tryz.func167 (by kernel_rfl) (by kernel_rfl) rfl (fun v=>(AcL v).trans (AYT v)) (AA AfA ⟨AcK,AcJ,trivial⟩)
def YP:Env:=Rq.CE 167 3 164 (AF 1 4 AJE AJD AJC AcM)
theorem P6:Aa Tryz.prog YP:=Env.Ay Lo ASx (AI rfl rfl)
abbrev AC0:Hints:={ loop:=fun n=>match n with|0=>Ac 1 67 AF8 AF7 AF6|_=>fun _ _ _=>none,fp:=fun n=>match n with|10=>[[],[],[],[],[],[],[],[],[],[],[0],[0],[],[],[0],[0],[0],[1],[0],[1]]|_=>[] }
theorem AJ2:∀ v,AF6 v=roundOf Tryz.prog YP AC0 1 1 67 (AB Tryz.f168 0) AF8 AF7 v:=by
 rintro⟨a0,a1,a2,a3,a4,a5,⟨⟩⟩
 kernel_rfl
theorem AZG:AD (AB Tryz.f168 0) 1=[]:=by kernel_rfl
theorem AZH:Ab Tryz.prog 1 (.loop (AB Tryz.f168 0)) (AC0.loop 0):=AU P6 (AJ2) (AA AZG trivial)
theorem ATo:∀ v,AOu v=AP 1 Tryz.prog YP AC0 Tryz.f168 ACz ACy ACx v:=by
 rintro⟨a0,a1,a2,⟨⟩⟩
 kernel_rfl
theorem AdA:AD (AS Tryz.f168) 0=[(0,AB Tryz.f168 0)]:=by kernel_rfl
theorem AOt:AR Tryz.prog 168 (AF 1 4 ACz ACy ACx ATp):=AH P6 Tryz.func168 (by kernel_rfl) (by kernel_rfl) rfl (fun v=>(AZI v).trans (ATo v)) (AA AdA ⟨AZH,trivial⟩)
def ADf:Env:=YP.CE 168 3 164 (AF 1 4 ACz ACy ACx ATp)
theorem XH:Aa Tryz.prog ADf:=Env.Ay P6 AOt (AI rfl rfl)
abbrev AXc:Hints:={ fp:=fun n=>match n with|1=>[[],[],[],[0],[0],[],[],[0],[0],[],[]]|_=>[] }
theorem AND:∀ v,AFb v=AP 2 Tryz.prog ADf AXc Tryz.f177 TE TD TC v:=by
 rintro⟨a0,a1,a2,a3,⟨⟩⟩
 kernel_rfl
theorem AXb:AD (AS Tryz.f177) 0=[]:=by kernel_rfl
theorem AIU:AR Tryz.prog 177 (AF 2 5 TE TD TC AIV):=AH XH Tryz.func177 (by kernel_rfl) (by kernel_rfl) rfl (fun v=>(ARq v).trans (AND v)) (AA AXb trivial)
def VQ:Env:=ADf.CE 177 4 164 (AF 2 5 TE TD TC AIV)
theorem Rw:Aa Tryz.prog VQ:=Env.Ay XH AIU (AI rfl rfl)
abbrev AXt:Hints:={  }
theorem ANO:∀ v,AFe v=AP 2 Tryz.prog VQ AXt Tryz.f176 TQ TP TO v:=by
 rintro⟨a0,a1,a2,a3,a4,⟨⟩⟩
 kernel_rfl
theorem AXs:AD (AS Tryz.f176) 0=[]:=by kernel_rfl
theorem AIi:AR Tryz.prog 176 (AF 2 6 TQ TP TO AIj):=AH Rw Tryz.func176 (by kernel_rfl) (by kernel_rfl) rfl (fun v=>(ASF v).trans (ANO v)) (AA AXs trivial)
def VS:Env:=VQ.CE 176 5 164 (AF 2 6 TQ TP TO AIj)
theorem Ry:Aa Tryz.prog VS:=Env.Ay Rw AIi (AI rfl rfl)
abbrev AXx:Hints:={  }
theorem ANQ:∀ v,AFg v=AP 2 Tryz.prog VS AXx Tryz.f175 TX TW TV v:=by
 rintro⟨a0,a1,a2,⟨⟩⟩
 kernel_rfl
theorem AXw:AD (AS Tryz.f175) 0=[]:=by kernel_rfl
theorem AIm:AR Tryz.prog 175 (AF 2 4 TX TW TV AIn):=AH Ry Tryz.func175 (by kernel_rfl) (by kernel_rfl) rfl (fun v=>(ASI v).trans (ANQ v)) (AA AXw trivial)
def VU:Env:=VS.CE 175 3 164 (AF 2 4 TX TW TV AIn)
theorem R0:Aa Tryz.prog VU:=Env.Ay Ry AIm (AI rfl rfl)
abbrev Aa0:Hints:={  }
theorem ARI:∀ v,AL0 v=AP 1 Tryz.prog VU Aa0 Tryz.f169 AAM AAL AAK v:=by
 rintro⟨a0,a1,a2,⟨⟩⟩
 kernel_rfl
theorem Aaz:AD (AS Tryz.f169) 0=[]:=by kernel_rfl
theorem ALz:AR Tryz.prog 169 (AF 1 4 AAM AAL AAK ARJ):=AH R0 Tryz.func169 (by kernel_rfl) (by kernel_rfl) rfl (fun v=>(AXI v).trans (ARI v)) (AA Aaz trivial)
def Ru:Env:=VU.CE 169 3 164 (AF 1 4 AAM AAL AAK ARJ)
theorem NX:Aa Tryz.prog Ru:=Env.Ay R0 ALz (AI rfl rfl)
abbrev AQv:Hints:={ loop:=fun n=>match n with|0=>Ac 1 34 AUg AUf AUe|_=>fun _ _ _=>none,fp:=fun n=>match n with|3=>[[],[],[],[],[],[],[0],[0],[],[],[0],[0],[0],[1],[0],[1]]|_=>[] }
theorem AQr:∀ v,AUe v=roundOf Tryz.prog Ru AQv 1 1 34 (AB Tryz.f170 0) AUg AUf v:=by
 rintro⟨a0,a1,a2,⟨⟩⟩
 kernel_rfl
theorem AeI:AD (AB Tryz.f170 0) 1=[]:=by kernel_rfl
theorem AeJ:Ab Tryz.prog 1 (.loop (AB Tryz.f170 0)) (AQv.loop 0):=AU NX (AQr) (AA AeI trivial)
theorem Aan:∀ v,Aao v=AP 1 Tryz.prog Ru AQv Tryz.f170 AQu AQt AQs v:=by
 rintro⟨a0,a1,a2,⟨⟩⟩
 kernel_rfl
theorem AgA:AD (AS Tryz.f170) 0=[(0,AB Tryz.f170 0)]:=by kernel_rfl
theorem AW8:AR Tryz.prog 170 (AF 1 4 AQu AQt AQs AgB):=AH NX Tryz.func170 (by kernel_rfl) (by kernel_rfl) rfl (fun v=>(AeK v).trans (Aan v)) (AA AgA ⟨AeJ,trivial⟩)
def P2:Env:=Ru.CE 170 3 164 (AF 1 4 AQu AQt AQs AgB)
theorem HT:Aa Tryz.prog P2:=Env.Ay NX AW8 (AI rfl rfl)
abbrev Cx:Hints:={ loop:=fun n=>match n with|0=>Ac 1 141 WT WO WK|1=>Ac 1 141 WS WN WJ|2=>Ac 1 141 WR WM WI|3=>Ac 1 141 WQ WL WH|_=>fun _ _ _=>none,fp:=fun n=>match n with|11=>[[],[],[],[],[],[],[],[],[0],[0],[],[],[0],[0],[0],[1],[0],[1]]|5=>[[],[],[],[],[],[],[],[0],[0],[],[],[],[0],[0],[],[],[],[]]|17=>[[],[],[],[],[],[],[],[],[0],[0],[],[],[0],[0],[0],[1],[0],[1]]|16=>[[],[],[],[0],[0],[],[],[],[0],[0],[],[],[]]|23=>[[],[],[],[],[],[],[],[],[0],[0],[],[],[0],[0],[0],[1],[0],[1]]|22=>[[],[],[],[0],[0],[],[],[],[0],[0],[],[],[]]|_=>[] }
theorem AAf:∀ v,WH v=roundOf Tryz.prog P2 Cx 4 1 141 (AB Tryz.f171 3) WQ WL v:=by
 rintro⟨a0,a1,a2,a3,a4,a5,⟨⟩⟩
 kernel_rfl
theorem AMS:AD (AB Tryz.f171 3) 4=[]:=by kernel_rfl
theorem AMW:Ab Tryz.prog 1 (.loop (AB Tryz.f171 3)) (Cx.loop 3):=AU HT (AAf) (AA AMS trivial)
theorem AAg:∀ v,WI v=roundOf Tryz.prog P2 Cx 3 1 141 (AB Tryz.f171 2) WR WM v:=by
 rintro⟨a0,a1,a2,a3,a4,a5,⟨⟩⟩
 kernel_rfl
theorem AMT:AD (AB Tryz.f171 2) 3=[]:=by kernel_rfl
theorem AMX:Ab Tryz.prog 1 (.loop (AB Tryz.f171 2)) (Cx.loop 2):=AU HT (AAg) (AA AMT trivial)
theorem AAh:∀ v,WJ v=roundOf Tryz.prog P2 Cx 2 1 141 (AB Tryz.f171 1) WS WN v:=by
 rintro⟨a0,a1,a2,a3,a4,⟨⟩⟩
 kernel_rfl
theorem AMU:AD (AB Tryz.f171 1) 2=[]:=by kernel_rfl
theorem AMY:Ab Tryz.prog 1 (.loop (AB Tryz.f171 1)) (Cx.loop 1):=AU HT (AAh) (AA AMU trivial)
theorem AAi:∀ v,WK v=roundOf Tryz.prog P2 Cx 1 1 141 (AB Tryz.f171 0) WT WO v:=by
 rintro⟨a0,a1,a2,a3,a4,⟨⟩⟩
 kernel_rfl
theorem AMV:AD (AB Tryz.f171 0) 1=[(1,AB Tryz.f171 1),(2,AB Tryz.f171 2),(3,AB Tryz.f171 3)]:=by kernel_rfl
theorem AMZ:Ab Tryz.prog 1 (.loop (AB Tryz.f171 0)) (Cx.loop 0):=AU HT (AAi) (AA AMV ⟨AMY,AMX,AMW,trivial⟩)
theorem AIJ:∀ v,AAj v=AP 1 Tryz.prog P2 Cx Tryz.f171 PD PC PB v:=by
 rintro⟨a0,a1,a2,⟨⟩⟩
 kernel_rfl
theorem ARX:AD (AS Tryz.f171) 0=[(0,AB Tryz.f171 0)]:=by kernel_rfl
theorem AD6:AR Tryz.prog 171 (AF 1 4 PD PC PB AAk):=AH HT Tryz.func171 (by kernel_rfl) (by kernel_rfl) rfl (fun v=>(AMa v).trans (AIJ v)) (AA ARX ⟨AMZ,trivial⟩)
def F4:Env:=P2.CE 171 3 164 (AF 1 4 PD PC PB AAk)
theorem EG:Aa Tryz.prog F4:=Env.Ay HT AD6 (AI rfl rfl)
abbrev FY:Hints:={ loop:=fun n=>match n with|0=>Ac 1 90 AA0 AAx AAu|1=>Ac 1 90 AAz AAw AAt|2=>Ac 1 90 AAy AAv AAs|_=>fun _ _ _=>none,fp:=fun n=>match n with|8=>[[],[],[],[],[],[],[0],[0],[],[],[0],[0],[0],[1],[0],[1]]|3=>[[],[],[],[],[],[],[],[0],[0],[],[],[0],[0],[],[],[],[]]|5=>[[],[],[],[],[],[],[],[0],[0],[],[],[0],[0],[],[],[]]|1=>[[],[],[],[],[],[],[0],[0],[],[],[0],[0],[0],[1],[0],[1]]|_=>[] }
theorem AEB:∀ v,AAs v=roundOf Tryz.prog F4 FY 3 1 90 (AB Tryz.f172 2) AAy AAv v:=by
 rintro⟨a0,a1,a2,a3,⟨⟩⟩
 kernel_rfl
theorem ARa:AD (AB Tryz.f172 2) 3=[]:=by kernel_rfl
theorem ARd:Ab Tryz.prog 1 (.loop (AB Tryz.f172 2)) (FY.loop 2):=AU EG (AEB) (AA ARa trivial)
theorem AEC:∀ v,AAt v=roundOf Tryz.prog F4 FY 2 1 90 (AB Tryz.f172 1) AAz AAw v:=by
 rintro⟨a0,a1,a2,a3,⟨⟩⟩
 kernel_rfl
theorem ARb:AD (AB Tryz.f172 1) 2=[]:=by kernel_rfl
theorem ARe:Ab Tryz.prog 1 (.loop (AB Tryz.f172 1)) (FY.loop 1):=AU EG (AEC) (AA ARb trivial)
theorem AED:∀ v,AAu v=roundOf Tryz.prog F4 FY 1 1 90 (AB Tryz.f172 0) AA0 AAx v:=by
 rintro⟨a0,a1,a2,a3,⟨⟩⟩
 kernel_rfl
theorem ARc:AD (AB Tryz.f172 0) 1=[(1,AB Tryz.f172 1),(2,AB Tryz.f172 2)]:=by kernel_rfl
theorem ARf:Ab Tryz.prog 1 (.loop (AB Tryz.f172 0)) (FY.loop 0):=AU EG (AED) (AA ARc ⟨ARe,ARd,trivial⟩)
theorem AMp:∀ v,AFW v=AP 1 Tryz.prog F4 FY Tryz.f172 S8 S7 S6 v:=by
 rintro⟨a0,a1,a2,a3,⟨⟩⟩
 kernel_rfl
theorem AXW:AD (AS Tryz.f172) 0=[(0,AB Tryz.f172 0)]:=by kernel_rfl
theorem AIM:AR Tryz.prog 172 (AF 1 5 S8 S7 S6 AIN):=AH EG Tryz.func172 (by kernel_rfl) (by kernel_rfl) rfl (fun v=>(ARg v).trans (AMp v)) (AA AXW ⟨ARf,trivial⟩)
def Ev:Env:=F4.CE 172 4 164 (AF 1 5 S8 S7 S6 AIN)
theorem DB:Aa Tryz.prog Ev:=Env.Ay EG AIM (AI rfl rfl)
abbrev E0:Hints:={ loop:=fun n=>match n with|0=>Ac 1 178 AMR AMM AMH|1=>Ac 1 178 AMQ AML AMF|2=>Ac 1 178 AMP AMK AMD|3=>Ac 1 178 AMO AMJ AMB|4=>Ac 1 178 AMN AMI AL9|_=>fun _ _ _=>none,fp:=fun n=>match n with|3=>[[],[],[],[],[],[],[],[0],[0],[],[],[0],[0],[],[],[]]|5=>[[],[],[],[],[],[],[],[0],[0],[],[],[0],[0],[],[],[],[]]|18=>[[],[],[],[],[],[],[0],[0],[],[],[0],[0],[0],[1],[0],[1]]|13=>[[],[],[],[],[],[],[],[0],[0],[],[],[0],[0],[],[],[]]|15=>[[],[],[],[],[],[],[],[0],[0],[],[],[0],[0],[],[],[],[]]|21=>[[],[],[],[],[],[],[0],[0],[],[],[0],[0],[0],[1],[0],[1]]|10=>[[],[],[],[],[],[],[0],[0],[],[],[0],[0],[0],[1],[0],[1]]|8=>[[],[],[],[],[],[],[0],[0],[],[],[0],[0],[0],[1],[0],[1]]|1=>[[],[],[],[],[],[],[0],[0],[],[],[0],[0],[0],[1],[0],[1]]|_=>[] }
theorem AL8:∀ v,AL9 v=roundOf Tryz.prog Ev E0 5 1 178 (AB Tryz.f173 4) AMN AMI v:=by
 rintro⟨a0,a1,a2,a3,⟨⟩⟩
 kernel_rfl
theorem Aa8:AD (AB Tryz.f173 4) 5=[]:=by kernel_rfl
theorem AbD:Ab Tryz.prog 1 (.loop (AB Tryz.f173 4)) (E0.loop 4):=AU DB (AL8) (AA Aa8 trivial)
theorem AMA:∀ v,AMB v=roundOf Tryz.prog Ev E0 4 1 178 (AB Tryz.f173 3) AMO AMJ v:=by
 rintro⟨a0,a1,a2,a3,⟨⟩⟩
 kernel_rfl
theorem Aa9:AD (AB Tryz.f173 3) 4=[]:=by kernel_rfl
theorem AbE:Ab Tryz.prog 1 (.loop (AB Tryz.f173 3)) (E0.loop 3):=AU DB (AMA) (AA Aa9 trivial)
theorem AMC:∀ v,AMD v=roundOf Tryz.prog Ev E0 3 1 178 (AB Tryz.f173 2) AMP AMK v:=by
 rintro⟨a0,a1,a2,a3,⟨⟩⟩
 kernel_rfl
theorem AbA:AD (AB Tryz.f173 2) 3=[(3,AB Tryz.f173 3),(4,AB Tryz.f173 4)]:=by kernel_rfl
theorem AbF:Ab Tryz.prog 1 (.loop (AB Tryz.f173 2)) (E0.loop 2):=AU DB (AMC) (AA AbA ⟨AbE,AbD,trivial⟩)
theorem AME:∀ v,AMF v=roundOf Tryz.prog Ev E0 2 1 178 (AB Tryz.f173 1) AMQ AML v:=by
 rintro⟨a0,a1,a2,a3,⟨⟩⟩
 kernel_rfl
theorem AbB:AD (AB Tryz.f173 1) 2=[]:=by kernel_rfl
theorem AbG:Ab Tryz.prog 1 (.loop (AB Tryz.f173 1)) (E0.loop 1):=AU DB (AME) (AA AbB trivial)
theorem AMG:∀ v,AMH v=roundOf Tryz.prog Ev E0 1 1 178 (AB Tryz.f173 0) AMR AMM v:=by
 rintro⟨a0,a1,a2,a3,⟨⟩⟩
 kernel_rfl
theorem AbC:AD (AB Tryz.f173 0) 1=[]:=by kernel_rfl
theorem AbH:Ab Tryz.prog 1 (.loop (AB Tryz.f173 0)) (E0.loop 0):=AU DB (AMG) (AA AbC trivial)
theorem AXU:∀ v,AUw v=AP 1 Tryz.prog Ev E0 Tryz.f173 AII AIH AIF v:=by
 rintro⟨a0,a1,a2,a3,⟨⟩⟩
 kernel_rfl
theorem AeZ:AD (AS Tryz.f173) 0=[(0,AB Tryz.f173 0),(1,AB Tryz.f173 1),(2,AB Tryz.f173 2)]:=by kernel_rfl
theorem ARW:AR Tryz.prog 173 (AF 1 5 AII AIH AIF AbJ):=AH DB Tryz.func173 (by kernel_rfl) (by kernel_rfl) rfl (fun v=>(AbI v).trans (AXU v)) (AA AeZ ⟨AbH,AbG,AbF,trivial⟩)
def AKQ:Env:=Ev.CE 173 4 164 (AF 1 5 AII AIH AIF AbJ)
theorem ADV:Aa Tryz.prog AKQ:=Env.Ay DB ARW (AI rfl rfl)
abbrev ARR(self:(List (List Int)×Int×Int×Int×Unit)→Option ((List (List Int)×Unit))):Hints:={ loop:=fun n=>match n with|0=>Ac 1 148 AUs AUr (AUq self)|_=>fun _ _ _=>none,fp:=fun n=>match n with|17=>[[],[],[],[],[],[],[],[0],[0],[],[],[0],[0],[],[],[],[]]|_=>[] }
abbrev AIB(self:(List (List Int)×Int×Int×Int×Unit)→Option ((List (List Int)×Unit))):Env:=AKQ.ext 165 false true (AF 1 5 AAY AAX AAW self)
theorem ARQ(self:(List (List Int)×Int×Int×Int×Unit)→Option ((List (List Int)×Unit))):∀ v,AUq self v=roundOf Tryz.prog (AIB self) (ARR self) 1 1 148 (AB Tryz.f165 0) AUs AUr v:=by
 rintro⟨a0,a1,a2,a3,a4,a5,⟨⟩⟩
 kernel_rfl
theorem AeQ:AD (AB Tryz.f165 0) 1=[]:=by kernel_rfl
theorem AeR(self:(List (List Int)×Int×Int×Int×Unit)→Option ((List (List Int)×Unit)))(hE:Aa Tryz.prog (AIB self)):Ab Tryz.prog 1 (.loop (AB Tryz.f165 0)) ((ARR self).loop 0):=AU hE (ARQ self) (AA AeQ trivial)
theorem Aa5(self:(List (List Int)×Int×Int×Int×Unit)→Option ((List (List Int)×Unit))):∀ v,AgH self v=AP 1 Tryz.prog (AIB self) (ARR self) Tryz.f165 AAY AAX AAW v:=by
 rintro⟨a0,a1,a2,a3,⟨⟩⟩
 kernel_rfl
theorem AgG:AD (AS Tryz.f165) 0=[(0,AB Tryz.f165 0)]:=by kernel_rfl
theorem ARS:∀ n,AR Tryz.prog 165 (AF 1 5 AAY AAX AAW (AAZ n)):=by
 intro n
 induction n with
 |zero=>exact Wi fun _=>rfl
 |succ n ih=>
  have hE:Aa Tryz.prog (AIB (AAZ n)):=Env.Af ADV ih ((by simp)) (fun _=>AI rfl rfl)
  let self:=AAZ n
  exact AH hE Tryz.func165 (by kernel_rfl) (by kernel_rfl) rfl (Aa5 self) (AA AgG ⟨(AeR self hE),trivial⟩)
theorem AXS:AR Tryz.prog 165 (AF 1 5 AAY AAX AAW AeT):=by
 have e:AeT=AAZ 100:=funext AeS
 rw[e]
 exact ARS _
def AT8:Env:=AKQ.CE 165 4 164 (AF 1 5 AAY AAX AAW AeT)
theorem AGO:Aa Tryz.prog AT8:=Env.Ay ADV AXS (AI rfl rfl)
abbrev Adu:Hints:={  }
theorem AWc:∀ v,AUN v=AP 1 Tryz.prog AT8 Adu Tryz.f163 AHS AHR AHQ v:=by
 rintro⟨a0,⟨⟩⟩
 kernel_rfl
theorem Adt:AD (AS Tryz.f163) 0=[]:=by kernel_rfl
theorem AQE:AR Tryz.prog 163 (AF 1 2 AHS AHR AHQ ALM):=AH AGO Tryz.func163 (by kernel_rfl) (by kernel_rfl) rfl (fun v=>(AaO v).trans (AWc v)) (AA Adt trivial)
def Rm:Env:=AT8.CE 163 1 164 (AF 1 2 AHS AHR AHQ ALM)
theorem Lm:Aa Tryz.prog Rm:=Env.Ay AGO AQE (AI rfl rfl)
end
end Go.Pev
end
section
namespace Go.Pev
open Go.Proofs
noncomputable section
abbrev QD:Hints:={ loop:=fun n=>match n with|0=>Ac 0 47 AKl AKj HW|1=>Ac 0 47 AKk AKi HV|_=>fun _ _ _=>none }
theorem AKg:∀ v,HV v=roundOf Tryz.prog Rm QD 2 0 47 (AB Tryz.f154 1) AKk AKi v:=by
 rintro⟨a0,a1,a2,a3,a4,a5,a6,⟨⟩⟩
 kernel_rfl
theorem AZb:AD (AB Tryz.f154 1) 2=[]:=by kernel_rfl
theorem AZd:Ab Tryz.prog 0 (.loop (AB Tryz.f154 1)) (QD.loop 1):=AU Lm (AKg) (AA AZb trivial)
theorem AKh:∀ v,HW v=roundOf Tryz.prog Rm QD 1 0 47 (AB Tryz.f154 0) AKl AKj v:=by
 rintro⟨a0,a1,a2,a3,a4,a5,a6,a7,a8,⟨⟩⟩
 kernel_rfl
theorem AZc:AD (AB Tryz.f154 0) 1=[]:=by kernel_rfl
theorem AZe:Ab Tryz.prog 0 (.loop (AB Tryz.f154 0)) (QD.loop 0):=AU Lm (AKh) (AA AZc trivial)
theorem AV6:∀ v,X0 v=AP 0 Tryz.prog Rm QD Tryz.f154 AGk AGj AGi v:=by
 rintro⟨a0,a1,a2,⟨⟩⟩
 kernel_rfl
theorem AdY:AD (AS Tryz.f154) 0=[(0,AB Tryz.f154 0),(1,AB Tryz.f154 1)]:=by kernel_rfl
theorem APO:AR Tryz.prog 154 (AF 0 3 AGk AGj AGi AKn):=AH Lm Tryz.func154 (by kernel_rfl) (by kernel_rfl) rfl (fun v=>(AKm v).trans (AV6 v)) (AA AdY ⟨AZe,AZd,trivial⟩)
def AKL:Env:=Rm.ext 154 true true (AF 0 3 AGk AGj AGi AKn)
theorem ADG:Aa Tryz.prog AKL:=Env.Af Lm APO (fun _=>AL rfl rfl) (fun _=>AI rfl rfl)
abbrev Adm:Hints:={ fp:=fun n=>match n with|9=>[[],[28],[0],[0],[],[],[],[],[],[0],[0],[],[],[],[],[],[28],[28,52,36,62],[64],[]]|4=>[[0],[],[],[0],[],[],[],[]]|_=>[] }
theorem AWN:∀ v,G1 v=AP 0 Tryz.prog AKL Adm Tryz.f131 AHB AHA AG9 v:=by
 rintro⟨a0,a1,a2,⟨⟩⟩
 kernel_rfl
theorem Adl:AD (AS Tryz.f131) 0=[]:=by kernel_rfl
theorem APo:AR Tryz.prog 131 (AF 0 3 AHB AHA AG9 MP):=AH ADG Tryz.func131 (by kernel_rfl) (by kernel_rfl) rfl (fun v=>(Hd v).trans (AWN v)) (AA Adl trivial)
def AKM:Env:=AKL.ext 131 true true (AF 0 3 AHB AHA AG9 MP)
theorem ADM:Aa Tryz.prog AKM:=Env.Af ADG APo (fun _=>AL rfl rfl) (fun _=>AI rfl rfl)
theorem AaD:Tryz.f158.body.isSome=true:=by kernel_rfl
theorem AaC : (Tryz.f158.name == "runtime.NumGoroutine") = false := by kernel_rfl
theorem AaB:loops (AS Tryz.f158)=0:=by kernel_rfl
def Lj:Env:=AKM.ext 158 false false (DF Tryz.prog AKM {} Tryz.f158)
theorem Jt:Aa Tryz.prog Lj:=Env.Af ADM (Cr ADM Tryz.func158 AaD AaC AaB) (by simp) (by simp)
abbrev Fq:Hints:={ loop:=fun n=>match n with|0=>Ac 1 19 Iv Iu Bk|_=>fun _ _ _=>none }
theorem M0:∀ v,Bk v=roundOf Tryz.prog Lj Fq 1 1 19 (AB Tryz.f91 0) Iv Iu v:=by
 rintro⟨a0,a1,a2,a3,a4,⟨⟩⟩
 kernel_rfl
theorem Q0:AD (AB Tryz.f91 0) 1=[]:=by kernel_rfl
theorem Q1:Ab Tryz.prog 1 (.loop (AB Tryz.f91 0)) (Fq.loop 0):=AU Jt (M0) (AA Q0 trivial)
theorem Pb:∀ v,D1 v=AP 1 Tryz.prog Lj Fq Tryz.f91 Fp Fm Fl v:=by
 rintro⟨a0,a1,a2,⟨⟩⟩
 kernel_rfl
theorem Tq:AD (AS Tryz.f91) 0=[(0,AB Tryz.f91 0)]:=by kernel_rfl
theorem OL:AR Tryz.prog 91 (AF 1 2 Fp Fm Fl E6):=AH Jt Tryz.func91 (by kernel_rfl) (by kernel_rfl) rfl (fun v=>(Iw v).trans (Pb v)) (AA Tq ⟨Q1,trivial⟩)
def F8:Env:=Lj.CE 91 1 158 (AF 1 2 Fp Fm Fl E6)
theorem Gz:Aa Tryz.prog F8:=Env.Ay Jt OL (AI rfl rfl)
abbrev RP:Hints:={  }
theorem OM:∀ v,DO v=AP 1 Tryz.prog F8 RP Tryz.f73 FG FF FE v:=by
 rintro⟨a0,a1,a2,⟨⟩⟩
 kernel_rfl
theorem RO:AD (AS Tryz.f73) 0=[]:=by kernel_rfl
theorem NJ:AR Tryz.prog 73 (AF 1 2 FG FF FE DG):=AH Gz Tryz.func73 (by kernel_rfl) (by kernel_rfl) rfl (fun v=>(ID v).trans (OM v)) (AA RO trivial)
def FM:Env:=F8.CE 73 1 158 (AF 1 2 FG FF FE DG)
theorem Gh:Aa Tryz.prog FM:=Env.Ay Gz NJ (AI rfl rfl)
abbrev AcZ:Hints:={  }
theorem AS6:∀ v,RA v=AP 0 Tryz.prog FM AcZ Tryz.f148 AB4 AB3 AB2 v:=by
 rintro⟨a0,a1,⟨⟩⟩
 kernel_rfl
theorem AcY:AD (AS Tryz.f148) 0=[]:=by kernel_rfl
theorem AOA:AR Tryz.prog 148 (AF 0 2 AB4 AB3 AB2 Pd):=AH Gh Tryz.func148 (by kernel_rfl) (by kernel_rfl) rfl (fun v=>(AFx v).trans (AS6 v)) (AA AcY trivial)
def R4:Env:=FM.ext 148 true true (AF 0 2 AB4 AB3 AB2 Pd)
theorem Na:Aa Tryz.prog R4:=Env.Af Gh AOA (fun _=>AL rfl rfl) (fun _=>AI rfl rfl)
abbrev ATL:Hints:={ loop:=fun n=>match n with|0=>Ac 0 21 AVc AVb LU|_=>fun _ _ _=>none }
theorem ATH:∀ v,LU v=roundOf Tryz.prog R4 ATL 1 0 21 (AB Tryz.f149 0) AVc AVb v:=by
 rintro⟨a0,a1,a2,a3,⟨⟩⟩
 kernel_rfl
theorem AfN:AD (AB Tryz.f149 0) 1=[]:=by kernel_rfl
theorem AfO:Ab Tryz.prog 0 (.loop (AB Tryz.f149 0)) (ATL.loop 0):=AU Na (ATH) (AA AfN trivial)
theorem Acp:∀ v,AJZ v=AP 0 Tryz.prog R4 ATL Tryz.f149 ATK ATJ ATI v:=by
 rintro⟨a0,⟨⟩⟩
 kernel_rfl
theorem Agd:AD (AS Tryz.f149) 0=[(0,AB Tryz.f149 0)]:=by kernel_rfl
theorem AYx:AR Tryz.prog 149 (AF 0 1 ATK ATJ ATI ends):=AH Na Tryz.func149 (by kernel_rfl) (by kernel_rfl) rfl (fun v=>(AVd v).trans (Acp v)) (AA Agd ⟨AfO,trivial⟩)
def AKW:Env:=R4.ext 149 true true (AF 0 1 ATK ATJ ATI ends)
theorem Vo:Aa Tryz.prog AKW:=Env.Af Na AYx (fun _=>AL rfl rfl) (fun _=>AI rfl rfl)
abbrev Pn:Hints:={ loop:=fun n=>match n with|0=>Ac 0 48 Ws Wr By|_=>fun _ _ _=>none,fp:=fun n=>match n with|1=>[[0],[],[],[4],[]]|_=>[] }
theorem ACT:∀ v,By v=roundOf Tryz.prog AKW Pn 1 0 48 (AB Tryz.f130 0) Ws Wr v:=by
 rintro⟨a0,a1,a2,a3,a4,a5,a6,⟨⟩⟩
 kernel_rfl
theorem AOU:AD (AB Tryz.f130 0) 1=[]:=by kernel_rfl
theorem AOV:Ab Tryz.prog 0 (.loop (AB Tryz.f130 0)) (Pn.loop 0):=AU Vo (ACT) (AA AOU trivial)
theorem AJb:∀ v,IB v=AP 0 Tryz.prog AKW Pn Tryz.f130 Pm Pk Pj v:=by
 rintro⟨a0,a1,⟨⟩⟩
 kernel_rfl
theorem ATO:AD (AS Tryz.f130) 0=[(0,AB Tryz.f130 0)]:=by kernel_rfl
theorem AEZ:AR Tryz.prog 130 (AF 0 3 Pm Pk Pj RI):=AH Vo Tryz.func130 (by kernel_rfl) (by kernel_rfl) rfl (fun v=>(NB v).trans (AJb v)) (AA ATO ⟨AOV,trivial⟩)
def P8:Env:=AKW.CE 130 2 131 (AF 0 3 Pm Pk Pj RI)
theorem Oj:Aa Tryz.prog P8:=Env.Ay Vo AEZ (AI rfl rfl)
abbrev Aci:Hints:={  }
theorem AS9:∀ v,M7 v=AP 0 Tryz.prog P8 Aci Tryz.f108 ACB ACA AB9 v:=by
 rintro⟨a0,a1,⟨⟩⟩
 kernel_rfl
theorem Ach:AD (AS Tryz.f108) 0=[]:=by kernel_rfl
theorem AOF:AR Tryz.prog 108 (AF 0 2 ACB ACA AB9 AJS):=AH Oj Tryz.func108 (by kernel_rfl) (by kernel_rfl) rfl (fun v=>(T4 v).trans (AS9 v)) (AA Ach trivial)
def ADc:Env:=P8.ext 108 true true (AF 0 2 ACB ACA AB9 AJS)
theorem XE:Aa Tryz.prog ADc:=Env.Af Oj AOF (fun _=>AL rfl rfl) (fun _=>AI rfl rfl)
abbrev Ag1:Hints:={  }
theorem AfJ:∀ v,AOE v=AP 0 Tryz.prog ADc Ag1 Tryz.f83 Acg Acf Ace v:=by
 rintro⟨a0,a1,⟨⟩⟩
 kernel_rfl
theorem Ag0:AD (AS Tryz.f83) 0=[]:=by kernel_rfl
theorem Acd:AR Tryz.prog 83 (AF 0 2 Acg Acf Ace fof):=AH XE Tryz.func83 (by kernel_rfl) (by kernel_rfl) rfl (fun v=>(AS8 v).trans (AfJ v)) (AA Ag0 trivial)
def AVu:Env:=ADc.ext 83 true true (AF 0 2 Acg Acf Ace fof)
theorem ADb:Aa Tryz.prog AVu:=Env.Af XE Acd (fun _=>AL rfl rfl) (fun _=>AI rfl rfl)
abbrev Abg:Hints:={ loop:=fun n=>match n with|0=>Ac 0 18 Abe Abc Fa|_=>fun _ _ _=>none }
theorem AXf:∀ v,Fa v=roundOf Tryz.prog AVu Abg 1 0 18 (AB Tryz.f61 0) Abe Abc v:=by
 rintro⟨a0,a1,a2,a3,⟨⟩⟩
 kernel_rfl
theorem AgK:AD (AB Tryz.f61 0) 1=[]:=by kernel_rfl
theorem AgL:Ab Tryz.prog 0 (.loop (AB Tryz.f61 0)) (Abg.loop 0):=AU ADb (AXf) (AA AgK trivial)
theorem Aed:∀ v,AFd v=AP 0 Tryz.prog AVu Abg Tryz.f61 Abf Abd Abb v:=by
 rintro⟨a0,⟨⟩⟩
 kernel_rfl
theorem Agv:AD (AS Tryz.f61) 0=[(0,AB Tryz.f61 0)]:=by kernel_rfl
theorem Aba:AR Tryz.prog 61 (AF 0 1 Abf Abd Abb orI):=AH ADb Tryz.func61 (by kernel_rfl) (by kernel_rfl) rfl (fun v=>(AIY v).trans (Aed v)) (AA Agv ⟨AgL,trivial⟩)
def AdT:Env:=AVu.ext 61 true true (AF 0 1 Abf Abd Abb orI)
theorem APE:Aa Tryz.prog AdT:=Env.Af ADb Aba (fun _=>AL rfl rfl) (fun _=>AI rfl rfl)
abbrev Abu:Hints:={  }
theorem AST:∀ v,Mu v=AP 0 Tryz.prog AdT Abu Tryz.f104 ABQ ABP ABO v:=by
 rintro⟨a0,⟨⟩⟩
 kernel_rfl
theorem Abt:AD (AS Tryz.f104) 0=[]:=by kernel_rfl
theorem ANX:AR Tryz.prog 104 (AF 0 1 ABQ ABP ABO Td):=AH APE Tryz.func104 (by kernel_rfl) (by kernel_rfl) rfl (fun v=>(Tc v).trans (AST v)) (AA Abt trivial)
def ADX:Env:=AdT.ext 104 true true (AF 0 1 ABQ ABP ABO Td)
theorem XB:Aa Tryz.prog ADX:=Env.Af APE ANX (fun _=>AL rfl rfl) (fun _=>AI rfl rfl)
end
end Go.Pev
end
