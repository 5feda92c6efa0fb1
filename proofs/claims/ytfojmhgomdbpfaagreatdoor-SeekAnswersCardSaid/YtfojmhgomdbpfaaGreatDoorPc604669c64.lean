/- A part of the proofs of this seat: DKD T22a T21a T23a T23b T24a PlnC DKE DKF DKG DKH DU24a DU24b DU24c DU24d DU23a DU23b DU23c DU23d DU23e T24b DU24f DU24g DU24h DU24i DU24j DU24k DU24l DU24m DU24n PlnD DU21a DU21b DU23f DU23g PlnE DU23h DU23i DU21c DU21d DU21e DU23j DU23k DU24e DU21f DU23l U29a U29b U29c U29d U29e PevClip G29cP1 G29cP2 G29cP3 G29cP4 G29cP5 G29cP6. -/
import Derived.Test.YtfojmhgomdbpfaaGreatDoorP6278a2feee
import Derived.KernelRfl
import Derived.Test.YtfojmhgomdbpfaaGreatDoorProg
set_option linter.unusedVariables false
set_option linter.unusedSimpArgs false
set_option linter.unusedSectionVars false
set_option maxRecDepth 100000
section
section
namespace Go.Pev.Pl
open Tok
def Cp{α:Type}(P:Nat→Bool):Nat→List α→List α
 |_,[]=>[]
 |i,x::xs=>if P i then Cp P (i+1) xs else x::Cp P (i+1) xs
theorem ASS{α:Type}(P:Nat→Bool):∀ (xs:List α) (s:Nat),(∀ k,s≤k→P k=false)→Cp P s xs=xs:=by
 intro xs
 induction xs with
 |nil=>intro s _;rfl
 |cons x xs ih=>
  intro s h
  rw[Cp,h s (Amd _),ih (s+1) fun k hk=>h k (by omega)]
  rfl
theorem AXj{α:Type}(P:Nat→Bool)(i:Nat):∀ (xs:List α) (s:Nat),s≤i→(∀ k,s≤k→P k=decide (k=i))→Cp P s xs=xs.eraseIdx (i-s):=by
 intro xs
 induction xs with
 |nil=>intro s _ _;rfl
 |cons x xs ih=>
  intro s hs h
  rw[Cp,h s (Amd _)]
  by_cases e:s=i
  ·subst e
   rw[ASS P xs (s+1) fun k hk=>by rw[h k (by omega)];simp;omega]
   simp
  ·rw[ih (s+1) (by omega) fun k hk=>h k (by omega)]
   rw[AmS e,Amh (by simp),show i-s=(i-(s+1))+1 by omega,Aov]
theorem Ln{α:Type}(P:Nat→Bool)(i j:Nat)(hij:i<j):∀ (xs:List α) (s:Nat),s≤i→(∀ k,s≤k→P k=decide (k=i∨k=j))→Cp P s xs=(xs.eraseIdx (j-s)).eraseIdx (i-s):=by
 intro xs
 induction xs with
 |nil=>intro s _ _;rfl
 |cons x xs ih=>
  intro s hs h
  rw[Cp,h s (Amd _)]
  by_cases e:s=i
  ·subst e
   rw[AXj P j xs (s+1) (by omega) fun k hk=>by rw[h k (by omega)];exact AoB.2 ⟨fun q=>by omega,fun q=>.inr q⟩]
   rw[AmU (.inl rfl),Amk rfl,show j-s=(j-(s+1))+1 by omega,Aov,AoQ,List.eraseIdx_zero]
   rfl
  ·rw[ih (s+1) (by omega) fun k hk=>h k (by omega)]
   rw[AmS (by omega),Amh (by simp),show j-s=(j-(s+1))+1 by omega,Aov,show i-s=(i-(s+1))+1 by omega,Aov]
theorem AST{α:Type}(P:Nat→Bool):∀ (xs:List α) (acc:List α) (k:Nat),(xs.foldl (fun(a:List α×Nat) x=>(if P a.2 then a.1 else a.1++[x],a.2+1)) (acc,k)).1=acc++Cp P k xs:=by
 intro xs
 induction xs with
 |nil=>intro acc k;simp[Cp]
 |cons x xs ih=>
  intro acc k
  rw[AnM,ih,Cp]
  cases P k<;>simp
theorem AXk{α:Type}(P:Nat→Bool):∀ (xs:List α) (k:Nat),(Cp P k xs).length≤xs.length∧∀ x∈Cp P k xs,x∈xs:=by
 intro xs
 induction xs with
 |nil=>intro k;simp[Cp]
 |cons x xs ih=>
  intro k
  obtain⟨h1,h2⟩:=ih (k+1)
  rw[Cp]
  split
  ·exact⟨by simp only[Amb];omega,fun y hy=>Amt _ (h2 y hy)⟩
  ·refine⟨by simp only[Amb];omega,fun y hy => ?_⟩
   rcases Ama.1 hy with rfl|hy
   ·simp
   ·exact Amt _ (h2 y hy)
theorem AHW(n:Int)(rings:List (List Int))(away:List Int)(come:List (List Int))(hlen:rings.length<1073741824)(ha:away.length<1073741824)(hc:come.length<1073741824)
  (hne:∀ l∈rings,l≠[]) (hce:∀ r∈come,plain r≠[]) :
  ∃ ys,AOJ ((n,(rings,())),away,come,())=some (n,ys,())∧ys.Perm (Cp (fun k=>decide ((k:Int)∈away)) 0 rings++come.map plain)∧ys.Pairwise (fun a b=>¬ hd b<hd a):=by
 rw[AOI,Zv]
 have e:=DQ (step:=He) (fun i (a:List (List Int)×Nat)=>(away,come,n,rings,(0:Int),a.1,rings,AK rings,(i:Int),())) rings
  (fun x a=>.inl (if decide ((a.2:Int)∈away)then a.1 else a.1++[x],a.2+1)) (fun a=>.inl (come,n,rings,(0:Int),a.1,())) (fun i a=>a.2=i∧a.1.length≤i) (by omega)
  (fun i x a hi hx ⟨h1,h2⟩=>by
   refine⟨fun m' h' => ?_,fun r h'=>by cases h'⟩
   cases h'
   subst h1
   rw[He,AM,AR,AmU hi]
   simp only[Ak hx,Jy away _ (show away.length<9223372036854775808 by omega)]
   rw[AS (by omega),BY (by simp only[AM,Amb,Amw];omega)]
   by_cases h:(a.2:Int)∈away
   ·simp only[h,Amg,Amf,Am7]
    exact⟨by trivial,by trivial,by omega⟩
   ·simp only[h,Amu,Am2]
    exact⟨by trivial,by trivial,by simp;omega⟩)
  (fun a _=>by rw[He,AM,AR,AmS (by omega)]) ([],0) ⟨rfl,by simp⟩
 have e':AX He many (away,come,n,rings,(0:Int),[],rings,AK rings,(0:Int),())=_:=e
 rw[e',Ba]
 have hdf:(rings.foldl (fun(a:List (List Int)×Nat) x=>(if decide ((a.2:Int)∈away)then a.1 else a.1++[x],a.2+1)) ([],0)).1=Cp (fun k=>decide ((k:Int)∈away)) 0 rings:=by
  have:=AST (fun k=>decide ((k:Int)∈away)) rings [] 0
  rw[Am5]at this
  exact this
 simp only[hdf]
 obtain⟨g1,g2⟩:=AXk (fun k=>decide ((k:Int)∈away)) rings 0
 generalize Cp (fun k=>decide ((k:Int)∈away)) 0 rings=rest at *
 have f:=DQ (step:=Hd) (fun i (a:List (List Int))=>(n,rings,(0:Int),a,come,AK come,(i:Int),())) come
  (fun x a=>.inl (a++[plain x])) (fun a=>.inl (n,rings,(0:Int),a,())) (fun i a=>a.length=rest.length+i) (by omega)
  (fun i x a hi hx h1=>by
   refine⟨fun m' h' => ?_,fun r h'=>by cases h'⟩
   cases h'
   rw[Hd,AM,AR,AmU hi]
   simp only[Ak hx,AUg]
   rw[AS (by omega),BY (by simp only[AM,Amb,Amw];omega)]
   exact⟨rfl,by simp;omega⟩)
  (fun a _=>by rw[Hd,AM,AR,AmS (by omega)]) rest rfl
 have f':AX Hd many (n,rings,(0:Int),rest,come,AK come,(0:Int),())=_:=f
 rw[f',Ba]
 have hfold:∀ (l acc:List (List Int)),l.foldl (fun a x=>a++[plain x]) acc=acc++l.map plain:=by
  intro l
  induction l with
  |nil=>intro acc;simp
  |cons x l ih=>intro acc;rw[AnM,ih];simp
 simp only[hfold]
 obtain⟨ys,y1,y2,y3⟩:=SL.KB (rest++come.map plain) (by simp;omega) (fun x hx=>by
  rcases AmY.1 hx with h|h
  ·exact hne x (g2 x h)
  ·obtain⟨r,hr,rfl⟩:=Amo.1 h
   exact hce r hr)
 refine⟨ys,by simp only[y1],y2,y3.imp fun {a b} h => ?_⟩
 simp only[SL.lt,Go.Sort.ltInt,AnK]at h
 exact h
def ACG(rest:List (List Int))(p:List Int):List (List Int):=rest.take (rest.findIdx fun x => !decide (hd x<hd p))++p::rest.drop (rest.findIdx fun x => !decide (hd x<hd p))
theorem AIK(rest:List (List Int))(p:List Int):(ACG rest p).Perm (p::rest):=by
 rw[ACG]
 refine List.perm_middle.trans ?_
 rw[AnP]
theorem AZE{rest:List (List Int)}{p:List Int}(h:rest.Pairwise (fun a b=>hd a<hd b))(hne:∀ x∈rest,hd x≠hd p):(ACG rest p).Pairwise (fun a b=>hd a<hd b):=by
 rw[ACG]
 have hlt:∀ x∈rest.take (rest.findIdx fun x => !decide (hd x<hd p)),hd x<hd p:=by
  intro x hx
  obtain⟨j,hj,e⟩:=AoY.1 hx
  have:=List.not_of_lt_findIdx (p:=fun x => !decide (hd x<hd p)) (xs:=rest) (i:=j) (by omega)
  rw[e]at this
  simpa using this
 have hgt:∀ x∈rest.drop (rest.findIdx fun x => !decide (hd x<hd p)),hd p<hd x:=by
  intro x hx
  by_cases hk:(rest.findIdx fun x => !decide (hd x<hd p))<rest.length
  ·have h0:=List.findIdx_getElem (p:=fun x => !decide (hd x<hd p)) (xs:=rest) (w:=hk)
   rw[AnN hk]at hx
   have h1:¬ hd rest[rest.findIdx fun x => !decide (hd x<hd p)]<hd p:=by simpa using h0
   have h2:=hne _ (An4 hk)
   rcases Ama.1 hx with rfl|hx
   ·omega
   ·have hpw:(rest.drop (rest.findIdx fun x => !decide (hd x<hd p))).Pairwise (fun a b=>hd a<hd b):=h.sublist (List.drop_sublist _ _)
    rw[AnN hk,AnI]at hpw
    have:=hpw.1 x hx
    omega
  ·rw[Anf (by omega)]at hx
   cases hx
 rw[ApB,AnI]
 refine⟨h.sublist (List.take_sublist _ _),⟨hgt,h.sublist (List.drop_sublist _ _)⟩,fun a ha b hb => ?_⟩
 rcases Ama.1 hb with rfl|hb
 ·exact hlt a ha
 ·have:=hlt a ha
  have:=hgt b hb
  omega
theorem AZr{l:List Int}(h:l≠[]):idx l (0:Int)=some (hd l):=by
 cases l with
 |nil=>exact absurd rfl h
 |cons x l=>rw[E6];rfl
theorem Ah3(l:List Int):Ab l 0 (0:Int)=hd l:=by cases l<;>rfl
end Go.Pev.Pl
end
section
namespace Go.Pev.Pl
open Tok
theorem ANW{n u v:Int}(h:okT n (.arc u v)):n≤D8 n u v:=by rw[FK h];exact(AAD h.1 h.2.1).1
def BE(n:Int)(A B:List Int)(u v:Int):List Int:=u::D8 n u v::(A5 B v++D8 n v u::(A5 A u).tail)
theorem Od{n u v:Int}{A B:List Int}(hA:TI n A)(hB:TI n B)(hu:u∈A)(hv:v∈B)(iu:In n u)(iv:In n v)(hd:Dis n A B):
  TI n (BE n A B u v)∧A5 A u=u::(A5 A u).tail∧(∀ t,t<n→(t∈BE n A B u v↔t∈A∨t∈B))∧u≠v∧okT n (.arc u v):=by
 obtain⟨a,a1,a2,a3⟩:=AS5 hA (t:=.ver u) iu hu
 obtain⟨b,b1,b2,b3⟩:=AS5 hB (t:=.ver v) iv hv
 have a1':A5 A u=(Tok.ver u::a).map (Di n):=a1
 have b1':A5 B v=(Tok.ver v::b).map (Di n):=b1
 have huv:u≠v:=by rintro rfl;exact hd u hu iu.2.2.2 hv
 have ho:okT n (.arc u v):=⟨iu,iv,huv⟩
 have pA:=(Ca hu).perm
 have pB:=(Ca hv).perm
 have ht:A5 A u=u::(A5 A u).tail:=by rw[a1'];rfl
 have hall:BE n A B u v=(Tok.ver u :: .arc u v::(.ver v::b ++ .arc v u::a)).map (Di n):=by
  rw[BE,a1',b1',FK ho,FK (E3 ho)]
  simp[Di]
 refine⟨⟨_,hall,fun t ht => ?_,T.join a2 b2 fun x hx hx2 => ?_⟩,ht,fun t ht2 => ?_,huv,ho⟩
 ·rcases Ama.1 ht with rfl|ht
  ·exact iu
  ·rcases Ama.1 ht with rfl|ht
   ·exact ho
   ·rcases AmY.1 ht with ht|ht
    ·exact b3 t ht
    ·rcases Ama.1 ht with rfl|ht
     ·exact E3 ho
     ·exact a3 t (Amt _ ht)
 ·have ix:=a3 _ hx
  have x1:x∈A:=pA.mem_iff.2 (by rw[a1'];exact Amo.2 ⟨_,hx,rfl⟩)
  have x2:x∈B:=pB.mem_iff.2 (by rw[b1'];exact Amo.2 ⟨_,hx2,rfl⟩)
  exact hd x x1 ix.2.2.2 x2
 ·have g1:=ANW ho
  have g2:=ANW (E3 ho)
  have e1:t∈A↔t=u∨t∈(A5 A u).tail:=by rw[pA.mem_iff,ht,Ama,AoX]
  rw[BE,Ama,Ama,AmY,Ama,e1,← pB.mem_iff]
  constructor
  ·rintro (h|h|h|h|h)
   ·exact .inl (.inl h)
   ·omega
   ·exact .inr h
   ·omega
   ·exact .inl (.inr h)
  ·rintro ((h|h)|h)
   ·exact .inl h
   ·exact .inr (.inr (.inr (.inr h)))
   ·exact .inr (.inr (.inl h))
theorem KY{n:Int}{a b:List (List Int)}(h:a.Perm b)(ha:a.Pairwise (Dis n)):b.Pairwise (Dis n):=(h.pairwise_iff fun {_ _} hh=>hh.symm).1 ha
theorem AaJ{n:Int}{rings rest zs:List (List Int)}{A B p:List Int}(h:FR n rings)(hp:rings.Perm (A::B::rest))(hg:RG n p)(hm:∀ t,t<n→(t∈p↔t∈A∨t∈B))(hz:zs.Perm (p::rest))(hu:zs.Pairwise (fun a b=>hd a<hd b)):FR n zs:=by
 have hd0:=KY hp h.dis
 rw[AnI,AnI]at hd0
 obtain⟨h1,h2,h3⟩:=hd0
 refine⟨h.sz,fun l hl => ?_,hu,KY hz.symm ?_,fun v hv => ?_⟩
 ·rcases Ama.1 (hz.mem_iff.1 hl)with rfl|hl
  ·exact hg
  ·exact h.rg l (hp.mem_iff.2 (by simp[hl]))
 ·rw[AnI]
  refine⟨fun r hr t ht htn => ?_,h3⟩
  rcases(hm t htn).1 ht with g|g
  ·exact h1 r (by simp[hr]) t g htn
  ·exact h2 r hr t g htn
 ·obtain⟨l,hl,hvl⟩:=h.cov v hv
  have:=hp.mem_iff.1 hl
  simp only[Ama]at this
  rcases this with rfl|rfl|g
  ·exact⟨p,hz.mem_iff.2 (by simp),(hm v hv.2.2.2).2 (.inl hvl)⟩
  ·exact⟨p,hz.mem_iff.2 (by simp),(hm v hv.2.2.2).2 (.inr hvl)⟩
  ·exact⟨l,hz.mem_iff.2 (by simp[g]),hvl⟩
theorem HX(n:Int)(rings:List (List Int))(u v:Int)(hD:Dom rings):asked ((n,(rings,())),u,v,())=some (if RF n rings then if In n u∧In n v then 0 else 10 else 1,()):=by
 rw[ASv,AAG]
 simp only[Ph n rings hD.1 hD.2,Zy]
 by_cases h:RF n rings
 ·by_cases h1:In n u
  ·by_cases h2:In n v<;>simp[h,h1,h2]
  ·simp[h,h1]
 ·simp[h]
theorem AhM(a b:Nat):imax (a:Int) (b:Int)=((max a b:Nat):Int):=by rw[imax];split<;>omega
theorem AhL(a b:Nat):CJ (a:Int) (b:Int)=((min a b:Nat):Int):=by rw[CJ];split<;>omega
theorem Ajt{n:Int}{rings:List (List Int)}{u v:Int}{i j:Nat}{A B:List Int}(h:FR n rings)(iu:In n u)(iv:In n v)(hi:rings[i]? = some A)(hj:rings[j]? = some B)(hu:u∈A)(hv:v∈B)(hij:i≠j):
  ∃ zs rest,Mo ((n,(rings,())),u,v,())=some (n,zs,0,())∧FR n zs∧rings.Perm (A::B::rest)∧zs.Perm (plain (BE n A B u v)::rest)∧Dis n A B:=by
 have hD:=h.dom
 have hRF:=Lz.2 h
 have rA:=h.rg A (Amj hi)
 have rB:=h.rg B (Amj hj)
 have hil:=(Anc.1 hi).1
 have hjl:=(Anc.1 hj).1
 have pu:plc rings u=(i:Int):=h.ALJ hi iu.2.2.2 hu
 have pv:plc rings v=(j:Int):=h.ALJ hj iv.2.2.2 hv
 have hperm:rings.Perm (A::B::(rings.eraseIdx (max i j)).eraseIdx (min i j)):=by
  rcases ApM hij with g|g
  ·rw[Aot (by omega),AnL (by omega)]
   exact JD g hi hj
  ·rw[Aoz (by omega),Aof (by omega)]
   exact(JD g hj hi).trans (List.Perm.swap _ _ _)
 have hdis:Dis n A B:=by
  have:=KY hperm h.dis
  rw[AnI]at this
  exact this.1 B (by simp)
 obtain⟨l1,l2,l3,huv,ho⟩:=Od rA.2.2.2 rB.2.2.2 hu hv iu iv hdis
 obtain⟨hRG,hrot⟩:=AFc l1
 have hall:BE n A B u v=u::D8 n u v::(A5 B v++D8 n v u::(A5 A u).tail):=rfl
 have lA:(A5 A u).length≤1000:=by rw[← (Ca hu).perm.length_eq];exact rA.1.1
 have lB:(A5 B v).length≤1000:=by rw[← (Ca hv).perm.length_eq];exact rB.1.1
 have hsub:((rings.eraseIdx (max i j)).eraseIdx (min i j)).Sublist rings:=(Ao7 _ _).trans (Ao7 _ _)
 have hdrop:Cp (fun k=>decide ((k:Int)∈[(i:Int),(j:Int)])) 0 rings=(rings.eraseIdx (max i j)).eraseIdx (min i j):=by
  rcases ApM hij with g|g
  ·rw[Aot (by omega),AnL (by omega)]
   exact Ln _ i j g rings 0 (by omega) fun k _=>AoB.2 (by simp only[Ama,AoH,Ao1];omega)
  ·rw[Aoz (by omega),Aof (by omega)]
   exact Ln _ j i g rings 0 (by omega) fun k _=>AoB.2 (by simp only[Ama,AoH,Ao1];omega)
 have hrl:((rings.eraseIdx (max i j)).eraseIdx (min i j)).length≤rings.length:=hsub.length_le
 generalize (rings.eraseIdx (max i j)).eraseIdx (min i j)=rest at *
 have hupr:rest.Pairwise (fun a b=>hd a<hd b):=h.up.sublist hsub
 have hner:∀ l∈rest,l≠[]:=fun l hl=>(h.rg l (hsub.subset hl)).2.1
 have hdd:=KY hperm h.dis
 rw[AnI,AnI]at hdd
 have hheads:∀ x∈rest,hd x≠hd (plain (BE n A B u v)):=by
  intro x hx e
  have g1:=Ou hRG
  have g2:=(l3 _ g1.2.2.2).1 (hrot.perm.mem_iff.2 (We hRG.2.1))
  have g3:hd (plain (BE n A B u v))∈x:=e▸We (hner x hx)
  rcases g2 with g|g
  ·exact hdd.1 x (by simp[hx]) _ g g1.2.2.2 g3
  ·exact hdd.2.1 x hx _ g g1.2.2.2 g3
 have hup:=AZE hupr hheads
 have hpz:=AIK rest (plain (BE n A B u v))
 refine⟨ACG rest (plain (BE n A B u v)),rest,?_,AaJ h hperm hRG (fun t ht=>by rw[← hrot.perm.mem_iff];exact l3 t ht) hpz hup,hperm,hpz,hdis⟩
 ·obtain⟨ys,y1,y2,y3⟩:=AHW n rings [(i:Int),(j:Int)] [BE n A B u v] hD.1 (by simp) (by simp) (fun l hl=>(h.rg l hl).2.1) (by simp;exact hRG.2.1)
  have hys:ys=ACG rest (plain (BE n A B u v)):=by
   refine Xv hup (y2.trans ?_) y3
   rw[hdrop]
   exact(AoD (l₁:=rest) (l₂:=[plain (BE n A B u v)])).trans hpz.symm
  rw[hys]at y1
  rw[Hm,G5]
  have s1:CM (A5 A u) (0:Int) (1:Int)=some [u]:=by
   have:=AKL (xs:=A5 A u) (l:=0) (h:=1) (by omega) (by rw[l2];simp)
   rw[l2]at this ⊢
   exact this
  have s2:CM (A5 A u) (1:Int) (AK (A5 A u))=some (A5 A u).tail:=by
   have:=Ey (xs:=A5 A u) (l:=1) (by rw[l2];simp)
   rw[AoS]at this
   exact this
  have d1:DP 0 (AN (AK [u])) (A5 A u)=[u]:=by rw[l2];rfl
  have d2:DP 1 (AN (AK (A5 A u).tail)) (A5 A u)=(A5 A u).tail:=by
   rw[DP,AM,IJ,AoS,Anq]
  have hcat:JH ([[u],[D8 n u v],A5 B v,[D8 n v u],(A5 A u).tail],())=some (BE n A B u v,()):=by
   rw[Np _ (by simp) (by simp;omega)]
   simp[BE]
  have ne:((i:Int))≠(j:Int):=by omega
  simp only[HX n rings u v hD,hRF,iu,iv,and_self,Am7,Ar,Hi n rings _ hD.1 (fun l hl=>(hD.2 l hl).1),pu,pv,ne,Amg,Amu,Amf,Ak hi,Ak hj,AIE,I9,rA.1,rB.1,hu,hv,s1,s2,AOn,d1,d2,hcat,y1]
theorem AWp{n:Int}{rings:List (List Int)}{u v:Int}(h:FR n rings)(iu:In n u)(iv:In n v)(hp:plc rings u=plc rings v):
  Mo ((n,(rings,())),u,v,())=some (n,rings,5,()):=by
 have hD:=h.dom
 have hRF:=Lz.2 h
 rw[Hm,G5]
 simp only[HX n rings u v hD,hRF,iu,iv,and_self,Am7,Ar,Hi n rings _ hD.1 (fun l hl=>(hD.2 l hl).1),hp,Amg,Amf]
end Go.Pev.Pl
end
section
namespace Go.Pev.Pl
open Tok
def Qu(rings:List (List Int))(a b:Int):Prop:=∃ A∈rings,a∈A∧b∈A
structure FC(n:Int)(rings:List (List Int))(l:List Edge):Prop where
 fr:FR n rings
 sam:∀ a b,In n a→In n b→(Qu rings a b↔Con l a b)
 arcs:∀ A∈rings,∀ u v,okT n (.arc u v)→D8 n u v∈A→∃ e∈l,(e.1=u∧e.2.1=v)∨(e.1=v∧e.2.1=u)
theorem FR.Afe{n:Int}{rings:List (List Int)}(h:FR n rings){a b:Int}(ia:In n a)(ib:In n b):plc rings a=plc rings b↔Qu rings a b:=by
 obtain⟨i,A,pa,hi,ha,_⟩:=M7 (h.cov a ia)
 obtain⟨j,B,pb,hj,hb,_⟩:=M7 (h.cov b ib)
 rw[pa,pb]
 constructor
 ·intro e
  have:i=j:=by omega
  subst this
  rw[hi]at hj
  cases hj
  exact⟨A,Amj hi,ha,hb⟩
 ·rintro⟨K,hK,h1,h2⟩
  obtain⟨k,hk⟩:∃ k:Nat,rings[k]? = some K:=by
   obtain⟨k,hk,rfl⟩:=An6 hK
   exact⟨k,AmZ hk⟩
  rw[h.uniq hi hk ia.2.2.2 ha h1,h.uniq hj hk ib.2.2.2 hb h2]
theorem FR.one{n:Int}{rings:List (List Int)}(h:FR n rings){A B:List Int}(hA:A∈rings)(hB:B∈rings){v:Int}(iv:v<n)(h1:v∈A)(h2:v∈B):A=B:=by
 obtain⟨i,hi,rfl⟩:=An6 hA
 obtain⟨j,hj,rfl⟩:=An6 hB
 have:=h.uniq (AmZ hi) (AmZ hj) iv h1 h2
 subst this
 rfl
theorem Qu.perm{a b:List (List Int)}(h:a.Perm b)(x y:Int):Qu a x y↔Qu b x y:=by
 constructor
 ·rintro⟨A,hA,h1⟩;exact⟨A,h.mem_iff.1 hA,h1⟩
 ·rintro⟨A,hA,h1⟩;exact⟨A,h.mem_iff.2 hA,h1⟩
theorem Acz{n u v x y:Int}{A B:List Int}(hA:TI n A)(hB:TI n B)(hu:u∈A)(hv:v∈B)(iu:In n u)(iv:In n v)(hd:Dis n A B)(ho:okT n (.arc x y))(h:D8 n x y∈BE n A B u v):D8 n x y∈A∨D8 n x y∈B∨(x=u∧y=v)∨(x=v∧y=u):=by
 obtain⟨_,l2,_,huv,ho2⟩:=Od hA hB hu hv iu iv hd
 have pA:=(Ca hu).perm
 have pB:=(Ca hv).perm
 have g:=ANW ho
 rw[BE,Ama,Ama,AmY,Ama]at h
 rcases h with h|h|h|h|h
 ·have:=iu.2.2.2;omega
 ·rw[FK ho,FK ho2]at h
  have:=GQ ho ho2 h
  cases this
  exact .inr (.inr (.inl ⟨rfl,rfl⟩))
 ·exact .inr (.inl (pB.mem_iff.2 h))
 ·rw[FK ho,FK (E3 ho2)]at h
  have:=GQ ho (E3 ho2) h
  cases this
  exact .inr (.inr (.inr ⟨rfl,rfl⟩))
 ·refine .inl (pA.mem_iff.2 ?_)
  rw[l2]
  exact Amt _ h
theorem AaK{n:Int}{rings:List (List Int)}{l:List Edge}{e:Edge}(h:FC n rings l)(iu:In n e.1)(iv:In n e.2.1):
  ∃ zs q,Mo ((n,(rings,())),e.1,e.2.1,())=some (n,zs,q,())∧FC n zs (l++[e])∧(q=0∧zs.length+1=rings.length∨q=5∧zs=rings):=by
 have hF:=h.fr
 obtain⟨i,A,pu,hi,hu,_⟩:=M7 (hF.cov _ iu)
 obtain⟨j,B,pv,hj,hv,_⟩:=M7 (hF.cov _ iv)
 have mA:=Amj hi
 have mB:=Amj hj
 by_cases hij:i=j
 ·have hpe:plc rings e.1=plc rings e.2.1:=by rw[pu,pv,hij]
  refine⟨rings,5,AWp hF iu iv hpe,⟨hF,fun a b ia ib => ?_,fun A hA u v ho hm => ?_⟩,.inr ⟨rfl,rfl⟩⟩
  ·rw[h.sam a b ia ib,Con.snoc]
   have hc:Con l e.1 e.2.1:=(h.sam _ _ iu iv).1 ((hF.Afe iu iv).1 hpe)
   constructor
   ·exact .inl
   ·rintro (g|⟨g1,g2⟩|⟨g1,g2⟩)
    ·exact g
    ·exact g1.trans (hc.trans g2)
    ·exact g1.trans (hc.symm.trans g2)
  ·obtain⟨e',h1,h2⟩:=h.arcs A hA u v ho hm
   exact⟨e',by simp[h1],h2⟩
 ·obtain⟨zs,rest,q1,q3,q4,q5,q6⟩:=Ajt hF iu iv hi hj hu hv hij
  have gA:=hF.rg A mA
  have gB:=hF.rg B mB
  obtain⟨l1,l2,l3,huv,ho⟩:=Od gA.2.2.2 gB.2.2.2 hu hv iu iv q6
  obtain⟨hRG,hrot⟩:=AFc l1
  have len1:=q4.length_eq
  have len2:=q5.length_eq
  simp only[Amb]at len1 len2
  refine⟨zs,0,q1,⟨q3,fun a b ia ib => ?_,fun K hK x y hxy hm => ?_⟩,.inl ⟨rfl,by omega⟩⟩
  ·rw[Qu.perm q5,Con.snoc,← h.sam a b ia ib,← h.sam a _ ia iu,← h.sam _ b iv ib,← h.sam a _ ia iv,← h.sam _ b iu ib]
   have pmem:∀ x,In n x→(x∈plain (BE n A B e.1 e.2.1)↔x∈A∨x∈B):=fun x ix=>by rw[← hrot.perm.mem_iff];exact l3 x ix.2.2.2
   have sA:∀ x,In n x→(Qu rings x e.1↔x∈A):=fun x ix=>by
    constructor
    ·rintro⟨K,hK,h1,h2⟩
     rw[hF.one mA hK iu.2.2.2 hu h2];exact h1
    ·intro hx;exact⟨A,mA,hx,hu⟩
   have sB:∀ x,In n x→(Qu rings x e.2.1↔x∈B):=fun x ix=>by
    constructor
    ·rintro⟨K,hK,h1,h2⟩
     rw[hF.one mB hK iv.2.2.2 hv h2];exact h1
    ·intro hx;exact⟨B,mB,hx,hv⟩
   have sy:∀ x y,Qu rings x y↔Qu rings y x:=fun x y=>⟨fun ⟨K,a,b,c⟩=>⟨K,a,c,b⟩,fun ⟨K,a,b,c⟩=>⟨K,a,c,b⟩⟩
   rw[sA a ia,sB a ia,sy e.2.1 b,sB b ib,sy e.1 b,sA b ib]
   have hs:Qu rings a b↔(a∈A∧b∈A)∨(a∈B∧b∈B)∨∃ K∈rest,a∈K∧b∈K:=by
    rw[Qu.perm q4]
    simp only[Qu,Ama,exists_eq_or_imp]
   have hz:Qu (plain (BE n A B e.1 e.2.1)::rest) a b↔((a∈A∨a∈B)∧(b∈A∨b∈B))∨∃ K∈rest,a∈K∧b∈K:=by
    simp only[Qu,Ama,exists_eq_or_imp,pmem a ia,pmem b ib]
   rw[hs,hz]
   constructor
   ·rintro (⟨h1|h1,h2|h2⟩|h)
    ·exact .inl (.inl ⟨h1,h2⟩)
    ·exact .inr (.inl ⟨h1,h2⟩)
    ·exact .inr (.inr ⟨h1,h2⟩)
    ·exact .inl (.inr (.inl ⟨h1,h2⟩))
    ·exact .inl (.inr (.inr h))
   ·rintro ((⟨h1,h2⟩|⟨h1,h2⟩|h)|⟨h1,h2⟩|⟨h1,h2⟩)
    ·exact .inl ⟨.inl h1,.inl h2⟩
    ·exact .inl ⟨.inr h1,.inr h2⟩
    ·exact .inr h
    ·exact .inl ⟨.inl h1,.inr h2⟩
    ·exact .inl ⟨.inr h1,.inl h2⟩
  ·have old:∀ K∈rings,D8 n x y∈K→∃ e'∈l++[e],(e'.1=x∧e'.2.1=y)∨(e'.1=y∧e'.2.1=x):=fun K hK hm=>by
    obtain⟨e',h1,h2⟩:=h.arcs K hK x y hxy hm
    exact⟨e',by simp[h1],h2⟩
   rcases Ama.1 (q5.mem_iff.1 hK)with rfl|hK
   ·rcases Acz gA.2.2.2 gB.2.2.2 hu hv iu iv q6 hxy (hrot.perm.mem_iff.2 hm)with g|g|⟨g1,g2⟩|⟨g1,g2⟩
    ·exact old A mA g
    ·exact old B mB g
    ·exact⟨e,by simp,.inl ⟨g1.symm,g2.symm⟩⟩
    ·exact⟨e,by simp,.inr ⟨g2.symm,g1.symm⟩⟩
   ·exact old K (q4.mem_iff.2 (by simp[hK])) hm
theorem AFh{N:Nat}(h1:1≤N)(h2:N≤64):FC (N:Int) (BR N) []:=by
 have hS:∀ A∈BR N,∃ k:Nat,k<N∧A=[(k:Int)]:=fun A hA=>by
  simp only[BR,Amo,An0]at hA
  obtain⟨k,hk,rfl⟩:=hA
  exact⟨k,hk,rfl⟩
 have key:∀ k,k<N→In (N:Int) (k:Int):=fun k hk=>⟨by omega,by omega,by omega,by omega⟩
 refine⟨⟨⟨by omega,by omega⟩,fun l hl => ?_,?_,?_,fun v hv => ?_⟩,fun a b ia ib => ?_,fun A hA u v ho hm => ?_⟩
 ·obtain⟨k,hk,rfl⟩:=hS l hl
  refine⟨⟨by simp,fun x hx => ?_,by simp⟩,by simp,rfl,(AiT (N:Int) k).2 (key k hk)⟩
  simp only[Amv]at hx
  omega
 ·rw[BR,Anx]
  exact List.pairwise_lt_range.imp fun h=>by simp only[hd,ApK];omega
 ·rw[BR,Anx]
  exact List.pairwise_lt_range.imp fun {a b} h t ht _ ht2=>by
   simp only[Amv]at ht ht2
   omega
 ·obtain⟨k,rfl⟩:=Ame hv.2.2.1
  have:=hv.2.2.2
  exact⟨[(k:Int)],by simp only[BR,Amo,An0];exact⟨k,by omega,rfl⟩,by simp⟩
 ·constructor
  ·rintro⟨A,hA,h1,h2⟩
   obtain⟨k,_,rfl⟩:=hS A hA
   simp only[Amv]at h1 h2
   rw[h1,h2]
   exact .refl _
  ·intro hc
   have:=hc.nil
   subst this
   obtain⟨k,rfl⟩:=Ame ia.2.2.1
   have:=ia.2.2.2
   exact⟨[(k:Int)],by simp only[BR,Amo,An0];exact⟨k,by omega,rfl⟩,by simp,by simp⟩
 ·obtain⟨k,hk,rfl⟩:=hS A hA
  simp only[Amv]at hm
  have:=ANW ho
  omega
theorem AEp(l:List Edge)(hs:l.length<1073741824):ends (l,())=some (l.flatMap fun e=>[e.1,e.2.1],()):=by
 rw[AZ5,AMu]
 have e:=DQ (step:=Ll) (fun i (a:List Int)=>(a,l,AK l,(i:Int),())) l (fun x a=>.inl (a++[x.1,x.2.1])) (fun a=>.inl (a,())) (fun i a=>a.length=2*i) (by omega)
  (fun i x a hi hx h1=>by
   refine⟨fun m' h' => ?_,fun r h'=>by cases h'⟩
   cases h'
   rw[Ll,AM,AR,AmU hi]
   simp only[Ak hx]
   rw[AS (by omega),BY (by simp only[AM,Amb,Amw];omega)]
   exact⟨rfl,by simp;omega⟩)
  (fun a _=>by rw[Ll,AM,AR,AmS (by omega)]) [] rfl
 have e':AX Ll many ([],l,AK l,(0:Int),())=_:=e
 rw[e',Ba]
 have hf:∀ (xs:List Edge) (acc:List Int),xs.foldl (fun a x=>a++[x.1,x.2.1]) acc=acc++xs.flatMap fun e=>[e.1,e.2.1]:=by
  intro xs
  induction xs with
  |nil=>intro acc;simp
  |cons x xs ih=>intro acc;rw[AnM,ih,An7];simp
 rw[hf]
 rfl
theorem ASP(n:Int)(l:List Edge):((l.flatMap fun e=>[e.1,e.2.1]).all fun v=>decide (In n v))=l.all fun e=>decide (In n e.1∧In n e.2.1):=by
 induction l with
 |nil=>rfl
 |cons e l ih=>
  rw[An7,List.all_append,List.all_cons,ih]
  simp
theorem ASO(l:List Edge):(l.flatMap fun e=>[e.1,e.2.1]).length=2*l.length:=by
 induction l with
 |nil=>rfl
 |cons e l ih=>rw[An7,Amc,ih];simp;omega
theorem AWm{n:Int}(l:List Edge)(hs:l.length<1073741824)(ha:∀ e∈l,In n e.1∧In n e.2.1):
  ∀ (m i cnt:Nat) (rings:List (List Int)) (taken:List Bool),i+m=l.length→taken.length=i→FC n rings (l.take i)→m<cnt →
  ∃ zs taken',AY By cnt (n,rings,(0:Int),taken,l,(l.length:Int),(i:Int),())=some (.inl (n,zs,(0:Int),taken',()))∧FC n zs l∧taken'.length=l.length:=by
 intro m
 induction m with
 |zero=>
  intro i cnt rings taken hi ht h hc
  obtain⟨cnt,rfl⟩:∃ c,cnt=c+1:=⟨cnt-1,by omega⟩
  rw[AnT (by omega)]at h
  refine⟨rings,taken,?_,h,by omega⟩
  rw[AY,By,AR,AmS (by omega)]
 |succ m ih=>
  intro i cnt rings taken hi ht h hc
  obtain⟨cnt,rfl⟩:∃ c,cnt=c+1:=⟨cnt-1,by omega⟩
  have hi':i<l.length:=by omega
  have hx:l[i]? = some l[i]:=AmZ hi'
  obtain⟨iu,iv⟩:=ha _ (An4 hi')
  obtain⟨zs,q,e1,e2,_⟩:=AaK h iu iv
  rw[AY,By,AR,AmU hi']
  simp only[Ak hx,e1]
  rw[AS (by omega),BY (by simp only[AM,Amb,Amw];omega)]
  rw[← Ant hi']at e2
  exact ih (i+1) cnt zs _ (by omega) (by simp[C9,ht]) e2 (by omega)
theorem AZ1(k:Int)(l:List Edge)(hk:Sz k)(hs:l.length<1073741824):
  ((∀ e∈l,In k e.1∧In k e.2.1)∧∃ rings,fof (k,l,())=some ((k,(rings,())),0,())∧FC k rings l) ∨
  (¬ (∀ e∈l,In k e.1∧In k e.2.1)∧fof (k,l,())=some ((0,([],())),10,())):=by
 have hmany:9223372036854775808<many:=by simp only[many];omega
 rw[AXU,ASC]
 have hm:G9 k=(k,BR k.toNat,0,()):=by rw[G9,Amk hk]
 obtain⟨s1,s2⟩:=hk
 obtain⟨N,rfl⟩:=Ame (show 0≤k by omega)
 have h0:=AFh (N:=N) (by omega) (by omega)
 have hD:=h0.fr.dom
 have hRF:=Lz.2 h0.fr
 have hfl:=ASO l
 have hth:Qb (((N:Int),(BR N,())),l.flatMap fun e=>[e.1,e.2.1],())=some (if ∀ e∈l,In (N:Int) e.1∧In (N:Int) e.2.1 then 0 else 10,()):=by
  rw[AEU _ _ _ hD (by omega),ASP,ASx,Amk hRF]
  by_cases ha:∀ e∈l,In (N:Int) e.1∧In (N:Int) e.2.1
  ·rw[Amk ha,Amk (Amr.2 fun e he=>AmU (ha e he))]
  ·rw[Amh ha,Amh]
   intro hc
   exact ha fun e he=>Aob (Amr.1 hc e he)
 simp only[AHr,hm,AnJ,CW,Amf]
 rw[Wj,Nc,Nh,II]
 by_cases ha:∀ e∈l,In (N:Int) e.1∧In (N:Int) e.2.1
 ·refine .inl ⟨ha,?_⟩
  rw[Amk ha]at hth
  obtain⟨zs,taken,e1,e2,_⟩:=AWm l hs ha l.length 0 many (BR N) [] (by omega) rfl (by rw[List.take_zero];exact h0) (by omega)
  have e1':AY By many ((N:Int),BR N,(0:Int),[],l,(l.length:Int),(0:Int),())=_:=e1
  simp only[AEp l hs,hth,CW,Amf,As,AM,e1']
  exact⟨zs,rfl,e2⟩
 ·refine .inr ⟨ha,?_⟩
  rw[Amh ha]at hth
  simp only[AEp l hs,hth,Ar]
  rfl
end Go.Pev.Pl
end
section
namespace Go.Pev.Pl
open Tok
def cl(out:List Int)(v:Int):Int:=out.getD v.toNat 0
def CI(N:Nat)(l:List Edge)(out:List Int):Prop:=out.length=N∧∀ k,k<N→0≤out.getD k 0∧out.getD k 0≤(k:Int)∧Con l (k:Int) (out.getD k 0)
theorem AYo:∀ (l:List Int) (k:Nat) (x:Int),k<l.length→(l.set k x).sum=l.sum-l.getD k 0+x:=by
 intro l
 induction l with
 |nil=>intro k x h;simp at h
 |cons y l ih=>
  intro k x h
  cases k with
  |zero=>simp;omega
  |succ k=>
   have:=ih k x (by simpa using h)
   simp only[List.set_cons_succ,List.sum_cons,List.getD_cons_succ,this]
   omega
theorem Pm{N:Nat}{l:List Edge}{out:List Int}(h:CI N l out)(hN:N≤64):0≤out.sum∧out.sum≤4096:=by
 obtain⟨h1,h2⟩:=h
 have key:∀ (xs:List Int),(∀ x∈xs,0≤x∧x≤64)→0≤xs.sum∧xs.sum≤64*(xs.length:Int):=by
  intro xs
  induction xs with
  |nil=>intro _;simp
  |cons x xs ih=>
   intro h
   have h3:=ih fun y hy=>h y (Amt _ hy)
   have h4:=h x (by simp)
   simp only[List.sum_cons,Amb]
   omega
 have:=key out fun x hx=>by
  obtain⟨k,hk,rfl⟩:=An6 hx
  have h5:=h2 k (by omega)
  rw[AmW,AmZ hk,Am4]at h5
  omega
 omega
theorem Al2(N:Nat)(l:List Edge)(hs:l.length<1073741824)(ha:∀ e∈l,In (N:Int) e.1∧In (N:Int) e.2.1):
  ∀ (m i cnt:Nat) (out:List Int) (more:Bool),i+m=l.length→CI N l out→m<cnt →
  ∃ out' more',AY DA cnt ((N:Int),l,out,more,(i:Int),())=some (.inl ((N:Int),l,out',more',()))∧CI N l out' ∧
   ((more'=more∧out'=out∧∀ e∈l.drop i,cl out e.1=cl out e.2.1)∨(more'=true∧out'.sum<out.sum)):=by
 intro m
 induction m with
 |zero=>
  intro i cnt out more hi h hc
  obtain⟨cnt,rfl⟩:∃ c,cnt=c+1:=⟨cnt-1,by omega⟩
  refine⟨out,more,?_,h,.inl ⟨rfl,rfl,?_⟩⟩
  ·rw[AY,DA,AM,AR,AmS (by omega)]
  ·rw[Anf (by omega)]
   intro e he;cases he
 |succ m ih=>
  intro i cnt out more hi h hc
  obtain⟨cnt,rfl⟩:∃ c,cnt=c+1:=⟨cnt-1,by omega⟩
  have hi':i<l.length:=by omega
  have hx:l[i]? = some l[i]:=AmZ hi'
  have hm:=An4 hi'
  have hdr:l.drop i=l[i]::l.drop (i+1):=AnN hi'
  rw[AY,DA,AM,AR,AmU hi']
  simp only[Ak hx]
  rw[hdr,AS (by omega)]
  generalize l[i]=e at *
  obtain⟨iu,iv⟩:=ha e hm
  have hcon:=Con.edge e hm
  obtain⟨eu,ev,eu'⟩:=e
  simp only at iu iv hcon ⊢
  obtain⟨u,rfl⟩:=Ame iu.2.2.1
  obtain⟨v,rfl⟩:=Ame iv.2.2.1
  have hu:u<N:=by have:=iu.2.2.2;omega
  have hv:v<N:=by have:=iv.2.2.2;omega
  have hul:u<out.length:=by rw[h.1];exact hu
  have hvl:v<out.length:=by rw[h.1];exact hv
  rw[Ah,AmS (by omega)]
  simp only[]
  rw[Ah,AmS (by omega)]
  simp only[]
  rw[A0,AmS (by omega)]
  simp only[]
  rw[A0,AmS (by omega)]
  simp only[DT (0:Int) hul,DT (0:Int) hvl,Fv,AMw,Ar]
  by_cases hq:out.getD u 0=out.getD v 0
  ·rw[AmU hq]
   obtain⟨out',more',e1,e2,e3⟩:=ih (i+1) cnt out more (by omega) h (by omega)
   refine⟨out',more',e1,e2,?_⟩
   rcases e3 with⟨g1,g2,g3⟩|g
   ·refine .inl ⟨g1,g2,fun e' he' => ?_⟩
    rcases Ama.1 he' with rfl|he'
    ·simpa [cl]using hq
    ·exact g3 e' he'
   ·exact .inr g
  ·rw[AmS hq]
   have hne:u≠v:=by rintro rfl;exact hq rfl
   have hlow:CJ (out.getD u 0) (out.getD v 0)=if out.getD v 0<out.getD u 0 then out.getD v 0 else out.getD u 0:=rfl
   generalize hlw:CJ (out.getD u 0) (out.getD v 0)=low at *
   have hvl2:v<(out.set u low).length:=by simp;exact hvl
   simp only[DT (0:Int) hvl2]
   have cu:=h.2 u hu
   have cv:=h.2 v hv
   have hset:∀ k,k<N→((out.set u low).set v low).getD k 0=if k=u∨k=v then low else out.getD k 0:=by
    intro k hk
    have hkl:k<out.length:=by rw[h.1];exact hk
    by_cases k2:k=v
    ·subst k2
     simp[AmW,hkl]
    ·by_cases k1:k=u
     ·subst k1
      rw[Amk (.inl rfl),AmW,AnD (Am8 k2)]
      simp[hkl]
     ·rw[Amh (by omega),AmW,AnD (Am8 k2),AnD (Am8 k1),AmW]
   have hlc:0≤low∧low≤(u:Int)∧low≤(v:Int)∧Con l (u:Int) low:=by
    rw[hlow]
    split
    ·exact⟨cv.1,by omega,cv.2.1,hcon.trans cv.2.2⟩
    ·exact⟨cu.1,cu.2.1,by omega,cu.2.2⟩
   have hI:CI N l ((out.set u low).set v low):=by
    refine⟨by simp[h.1],fun k hk => ?_⟩
    rw[hset k hk]
    split
    ·rename_i hkk
     rcases hkk with rfl|rfl
     ·exact⟨hlc.1,hlc.2.1,hlc.2.2.2⟩
     ·exact⟨hlc.1,hlc.2.2.1,hcon.symm.trans hlc.2.2.2⟩
    ·exact h.2 k hk
   have hsum:((out.set u low).set v low).sum<out.sum:=by
    rw[AYo _ _ _ hvl2,AYo _ _ _ hul]
    have:(out.set u low).getD v 0=out.getD v 0:=by
     rw[AmW,AnD hne,← AmW]
    rw[this,hlow]
    split<;>omega
   obtain⟨out',more',e1,e2,e3⟩:=ih (i+1) cnt _ true (by omega) hI (by omega)
   refine⟨out',more',e1,e2,.inr ?_⟩
   rcases e3 with⟨g1,g2,_⟩|⟨g1,g2⟩
   ·exact⟨g1,by rw[g2];exact hsum⟩
   ·exact⟨g1,by omega⟩
theorem Ak5(N:Nat)(hN:N≤64)(l:List Edge)(hs:l.length<1073741824)(ha:∀ e∈l,In (N:Int) e.1∧In (N:Int) e.2.1):
  ∀ (m cnt:Nat) (out:List Int),out.sum.toNat=m→CI N l out→m+1<cnt →
  ∃ out',AY D1 cnt ((N:Int),l,out,true,())=some (.inl (out',()))∧CI N l out'∧∀ e∈l,cl out' e.1=cl out' e.2.1:=by
 have hmany:9223372036854775808<many:=by simp only[many];omega
 intro m
 induction m using Nat.strongRecOn with
 |_ m ih=>
 intro cnt out hm h hc
 obtain⟨cnt,rfl⟩:∃ c,cnt=c+1:=⟨cnt-1,by omega⟩
 rw[AY,D1]
 obtain⟨out',more',e1,e2,e3⟩:=Al2 N l hs ha l.length 0 many out false (by omega) h (by omega)
 have e1':AY DA many ((N:Int),l,out,false,(0:Int),())=_:=e1
 simp only[As,e1']
 rcases e3 with⟨g1,g2,g3⟩|⟨g1,g2⟩
 ·subst g1 g2
  obtain⟨cnt,rfl⟩:∃ c,cnt=c+1:=⟨cnt-1,by omega⟩
  rw[AY,D1]
  exact⟨_,rfl,e2,by simpa using g3⟩
 ·subst g1
  have b1:=Pm h hN
  have b2:=Pm e2 hN
  exact ih out'.sum.toNat (by omega) cnt out' rfl e2 (by omega)
structure Xp(n:Int)(l:List Edge)(out:List Int):Prop where
 len:(out.length:Int)=n
 same:∀ a b,In n a→In n b→(cl out a=cl out b↔Con l a b)
 isin:∀ a,In n a→In n (cl out a)
 con:∀ a,In n a→Con l a (cl out a)
 least:∀ a b,In n a→In n b→Con l a b→cl out a≤b
theorem GS(n:Int)(l:List Edge)(hn:Sz n)(hs:l.length<1073741824)(ha:∀ e∈l,In n e.1∧In n e.2.1):∃ out,HW (n,l,())=some (out,())∧Xp n l out:=by
 have hmany:9223372036854775808<many:=by simp only[many];omega
 obtain⟨s1,s2⟩:=hn
 obtain⟨N,rfl⟩:=Ame (show 0≤n by omega)
 rw[Sl,JI]
 have key:∀ (m k cnt:Nat),k+m=N→m<cnt→AY DB cnt ((N:Int),l,(List.range k).map (fun(k:Nat)=>(k:Int)),(k:Int),())=some (.inl ((N:Int),l,(List.range N).map (fun(k:Nat)=>(k:Int)),())):=by
  intro m
  induction m with
  |zero=>
   intro k cnt hk hc
   obtain⟨cnt,rfl⟩:∃ c,cnt=c+1:=⟨cnt-1,by omega⟩
   have:k=N:=by omega
   subst this
   rw[AY,DB,AR,AmS (by omega)]
  |succ m ih=>
   intro k cnt hk hc
   obtain⟨cnt,rfl⟩:∃ c,cnt=c+1:=⟨cnt-1,by omega⟩
   have hih:=ih (k+1) cnt (by omega) (by omega)
   rw[Anp,An3]at hih
   rw[AY,DB,AR,AmU (by omega)]
   simp only[]
   rw[AS (by omega),BY (by simp only[AM,Amb,Amw,Ano,AnV];omega)]
   exact hih
 have e0:=key N 0 many (by omega) (by omega)
 have e0':AY DB many ((N:Int),l,[],(0:Int),())=_:=e0
 have h0:CI N l ((List.range N).map (fun(k:Nat)=>(k:Int))):=by
  refine⟨by simp,fun k hk => ?_⟩
  have:((List.range N).map (fun(k:Nat)=>(k:Int))).getD k 0=(k:Int):=by simp[AmW,hk]
  rw[this]
  exact⟨by omega,by omega,.refl _⟩
 have hb:=Pm h0 (by omega)
 obtain⟨out,e1,e2,e3⟩:=Ak5 N (by omega) l hs ha _ many _ rfl h0 (by omega)
 simp only[As,e0',e1]
 have fact:∀ a,In (N:Int) a→0≤cl out a∧cl out a≤a∧Con l a (cl out a):=by
  intro a hia
  obtain⟨k,rfl⟩:=Ame hia.2.2.1
  have:=e2.2 k (by have:=hia.2.2.2;omega)
  simpa [cl]using this
 refine⟨out,rfl,by rw[e2.1],fun a b ia ib=>⟨fun h => ?_,fun h=>h.const e3⟩,fun a ia => ?_,fun a ia=>(fact a ia).2.2,fun a b ia ib h => ?_⟩
 ·have h1:=(fact a ia).2.2
  have h2:=(fact b ib).2.2
  rw[← h]at h2
  exact h1.trans h2.symm
 ·have:=fact a ia
  have h3:=ia.2.2.2
  exact⟨s1,s2,by omega,by omega⟩
 ·have h1:cl out a=cl out b:=h.const e3
  have:=(fact b ib).2.1
  omega
end Go.Pev.Pl
end
end
section
namespace Go.Pev.Pl
def Low(l:List Edge)(k:Nat):Prop:=∀ j:Nat,j<k→¬ Con l (j:Int) (k:Int)
noncomputable def Ag3(l:List Edge)(k:Nat):Bool:=@decide (Low l k) (Classical.propDecidable _)
theorem H5(l:List Edge)(k:Nat):Ag3 l k=true↔Low l k:=by
 unfold Ag3
 exact @decide_eq_true_iff _ (Classical.propDecidable _)
noncomputable def cc(N:Nat)(l:List Edge):Nat:=(List.range N).countP (Ag3 l)
noncomputable def PD(l:List Edge)(a b:Int):Bool:=@decide (Con l a b) (Classical.propDecidable _)
theorem CX(l:List Edge)(a b:Int):PD l a b=true↔Con l a b:=by
 unfold PD
 exact @decide_eq_true_iff _ (Classical.propDecidable _)
theorem IW(l:List Edge)(a b:Int):PD l a b=false↔¬ Con l a b:=by
 rw[← CX];cases PD l a b<;>simp
theorem Con.sub{l l':List Edge}(h:∀ e∈l,e∈l'){a b:Int}(c:Con l a b):Con l' a b:=c.mono fun e he=>⟨e,h e he,.inl ⟨rfl,rfl⟩⟩
theorem Con.cut{l l':List Edge}(h:∀ e∈l,Con l' e.1 e.2.1){a b:Int}(c:Con l a b):Con l' a b:=by
 induction c with
 |refl a=>exact .refl a
 |edge e he=>exact h e he
 |symm _ ih=>exact ih.symm
 |trans _ _ ih1 ih2=>exact ih1.trans ih2
theorem Ag2(l:List Edge):∀ v:Nat,∃ m:Nat,m≤v∧Con l (m:Int) (v:Int)∧Low l m:=by
 intro v
 induction v using Nat.strongRecOn with
 |ind v ih=>
  by_cases h:Low l v
  ·exact⟨v,Amd _,.refl _,h⟩
  ·have:∃ j:Nat,j<v∧Con l (j:Int) (v:Int):=AnW fun hn=>h fun j hj hc=>hn ⟨j,hj,hc⟩
   obtain⟨j,hj,hc⟩:=this
   obtain⟨m,h1,h2,h3⟩:=ih j hj
   exact⟨m,by omega,h2.trans hc,h3⟩
theorem Low.le{l:List Edge}{m j:Nat}(h:Low l m)(hc:Con l (m:Int) (j:Int)):m≤j:=by
 refine Nat.le_of_not_lt fun hj=>h j hj hc.symm
theorem Low.uniq{l:List Edge}{a b:Nat}(ha:Low l a)(hb:Low l b)(h:Con l (a:Int) (b:Int)):a=b:=by
 have:=ha.le h
 have:=hb.le h.symm
 omega
theorem AiG{N:Nat}{l l':List Edge}(h:∀ j k:Nat,j<N→k<N→(Con l (j:Int) (k:Int)↔Con l' (j:Int) (k:Int))):cc N l=cc N l':=by
 unfold cc
 refine List.countP_congr fun k hk => ?_
 have hk:k<N:=by simpa using hk
 rw[H5,H5]
 constructor
 ·intro q j hj hc;exact q j hj ((h j k (by omega) hk).2 hc)
 ·intro q j hj hc;exact q j hj ((h j k (by omega) hk).1 hc)
theorem AFJ{N:Nat}{l l':List Edge}(h:∀ a b,Con l a b↔Con l' a b):cc N l=cc N l':=AiG fun _ _ _ _=>h _ _
theorem AM3{l l':List Edge}(h:∀ e,e∈l↔e∈l'){a b:Int}:Con l a b↔Con l' a b:=⟨fun c=>c.sub fun e he=>(h e).1 he,fun c=>c.sub fun e he=>(h e).2 he⟩
theorem AkS{N:Nat}{l l':List Edge}(h:l.Perm l'):cc N l=cc N l':=AFJ fun _ _=>AM3 fun _=>h.mem_iff
theorem Alo(N:Nat):cc N []=N:=by
 unfold cc
 have:(List.range N).countP (Ag3 [])=(List.range N).length:=by
  rw[List.countP_eq_length]
  intro k _
  rw[H5]
  intro j hj hc
  have:=hc.nil
  omega
 rw[this,AnV]
theorem AEx{P:Nat→Bool}{M:Nat}(hM:P M=true):∀ {xs:List Nat},xs.Nodup→M∈xs→xs.countP P=xs.countP (fun k=>P k && !decide (k=M))+1:=by
 intro xs
 induction xs with
 |nil=>intro _ h;cases h
 |cons x xs ih=>
  intro hn h
  rw[Am3]at hn
  rw[ApD,ApD]
  by_cases hx:x=M
  ·subst hx
   have:xs.countP P=xs.countP (fun k=>P k && !decide (k=x)):=by
    refine List.countP_congr fun k hk => ?_
    have:k≠x:=fun e=>hn.1 (e▸hk)
    simp[this]
   simp[hM,this]
  ·have:=ih hn.2 (by rcases Ama.1 h with h|h;exact absurd h.symm hx;exact h)
   rw[this]
   simp[hx]
   omega
def InE(N:Nat)(e:Edge):Prop:=(0≤e.1∧e.1<(N:Int))∧(0≤e.2.1∧e.2.1<(N:Int))
theorem ASb{l:List Edge}{e:Edge}(h:Con l e.1 e.2.1){a b:Int}:Con (l++[e]) a b↔Con l a b:=
 ⟨fun c=>c.cut fun x hx=>by
  rcases AmY.1 hx with hx|hx
  ·exact .edge x hx
  ·rw[Amv]at hx;subst hx;exact h,fun c=>c.sub fun x hx=>AmY.2 (.inl hx)⟩
theorem AZ9{N:Nat}{l:List Edge}{e:Edge}(he:InE N e):cc N l=cc N (l++[e])+(if PD l e.1 e.2.1=true then 0 else 1):=by
 by_cases h:Con l e.1 e.2.1
 ·rw[Amk ((CX _ _ _).2 h),An1]
  exact AFJ fun a b=>(ASb h).symm
 ·rw[Amh (fun hh=>h ((CX _ _ _).1 hh))]
  obtain⟨⟨a1,a2⟩,b1,b2⟩:=he
  obtain⟨u,hu⟩:=Ame a1
  obtain⟨v,hv⟩:=Ame b1
  have hsn:∀ {a b:Int},Con (l++[e]) a b↔Con l a b∨(Con l a (u:Int)∧Con l (v:Int) b)∨(Con l a (v:Int)∧Con l (u:Int) b):=by
   intro a b
   rw[Con.snoc,hu,hv]
  rw[hu,hv]at h
  obtain⟨p,p1,p2,p3⟩:=Ag2 l u
  obtain⟨q,q1,q2,q3⟩:=Ag2 l v
  have hpq:p≠q:=fun e=>h (p2.symm.trans (e▸q2))
  have hlow:∀ k:Nat,Low (l++[e]) k↔Low l k∧k≠max p q:=by
   intro k
   constructor
   ·intro hk
    refine⟨fun j hj hc=>hk j hj (hsn.2 (.inl hc)),fun e => ?_⟩
    refine hk (min p q) (by omega) (hsn.2 ?_)
    by_cases hlt:p<q
    ·rw[e,AnL (by omega),Aot (by omega)]
     exact .inr (.inl ⟨p2,q2.symm⟩)
    ·rw[e,Aof (by omega),Aoz (by omega)]
     exact .inr (.inr ⟨q2,p2.symm⟩)
   ·rintro⟨hk,hne⟩ j hj hc
    rcases hsn.1 hc with hc|⟨c1,c2⟩|⟨c1,c2⟩
    ·exact hk j hj hc
    ·have e1:=q3.uniq hk (q2.trans c2)
     have e2:=p3.le (p2.trans c1.symm)
     omega
    ·have e1:=p3.uniq hk (p2.trans c2)
     have e2:=q3.le (q2.trans c1.symm)
     omega
  have hM:Ag3 l (max p q)=true:=by
   rw[H5]
   by_cases hlt:p<q
   ·rw[Aot (by omega)];exact q3
   ·rw[Aoz (by omega)];exact p3
  unfold cc
  rw[AEx hM Ape (by rw[An0];omega)]
  congr 1
  refine List.countP_congr fun k _ => ?_
  rw[H5,hlow,AmX,H5]
  simp
noncomputable def gfl:List Edge→List Edge→List Bool
 |_,[]=>[]
 |b,x::xs=>(!PD b x.1 x.2.1)::gfl (b++[x]) xs
noncomputable def Mc:List Edge→List Edge→List Edge
 |_,[]=>[]
 |b,x::xs=>if PD b x.1 x.2.1=true then Mc (b++[x]) xs else x::Mc (b++[x]) xs
theorem AkH:∀ (xs b:List Edge),(gfl b xs).length=xs.length:=by
 intro xs
 induction xs with
 |nil=>intro b;rfl
 |cons x xs ih=>intro b;rw[gfl,Amb,Amb,ih]
theorem AR1:∀ (xs b:List Edge),(Mc b xs).Sublist xs:=by
 intro xs
 induction xs with
 |nil=>intro b;exact List.Sublist.refl _
 |cons x xs ih=>
  intro b
  rw[Mc]
  split
  ·exact(ih _).cons x
  ·exact(ih _).cons_cons x
theorem AE9:∀ (xs b:List Edge) {a c:Int},Con (b++xs) a c↔Con (b++Mc b xs) a c:=by
 intro xs
 induction xs with
 |nil=>intro b a c;rfl
 |cons x xs ih=>
  intro b a c
  have e1:b++x::xs=(b++[x])++xs:=by simp
  rw[e1,ih,Mc]
  by_cases h:Con b x.1 x.2.1
  ·rw[Amk ((CX _ _ _).2 h)]
   constructor
   ·intro q
    refine q.cut fun y hy => ?_
    rcases AmY.1 hy with hy|hy
    ·rcases AmY.1 hy with hy|hy
     ·exact .edge y (AmY.2 (.inl hy))
     ·rw[Amv]at hy;subst hy
      exact h.sub fun z hz=>AmY.2 (.inl hz)
    ·exact .edge y (AmY.2 (.inr hy))
   ·intro q
    refine q.sub fun y hy => ?_
    rcases AmY.1 hy with hy|hy
    ·simp[hy]
    ·simp[hy]
  ·rw[Amh (fun hh=>h ((CX _ _ _).1 hh))]
   exact AM3 fun y=>by simp
theorem On{N:Nat}:∀ (xs b:List Edge),(∀ e∈xs,InE N e)→cc N b=cc N (b++xs)+(Mc b xs).length:=by
 intro xs
 induction xs with
 |nil=>intro b _;simp[Mc]
 |cons x xs ih=>
  intro b h
  have e1:b++x::xs=(b++[x])++xs:=by simp
  rw[AZ9 (h x (by simp)),ih (b++[x]) (fun e he=>h e (by simp[he])),e1,Mc]
  by_cases hc:PD b x.1 x.2.1=true
  ·rw[Amk hc,Amk hc,An1]
  ·rw[Amh hc,Amh hc,Amb]
   omega
theorem Akq{N:Nat}(xs b:List Edge)(h:∀ e∈xs,InE N e):cc N b≤cc N (b++xs)+xs.length:=by
 have:=On xs b h
 have:=(AR1 xs b).length_le
 omega
def Fo(N:Nat)(l:List Edge):Prop:=cc N l+l.length=N
theorem Fo.perm{N:Nat}{l l':List Edge}(h:Fo N l)(hp:l.Perm l'):Fo N l':=by
 unfold Fo at *
 rw[← AkS hp,← hp.length_eq];exact h
theorem AiH{N:Nat}(l:List Edge)(h:∀ e∈l,InE N e):N≤cc N l+l.length:=by
 have:=Akq l [] h
 rw[Alo,Am5]at this
 exact this
theorem Fo.front{N:Nat}{a b:List Edge}(h:Fo N (a++b))(ha:∀ e∈a,InE N e)(hb:∀ e∈b,InE N e):Fo N a:=by
 unfold Fo at *
 have h1:=AiH a ha
 have h2:=Akq b a hb
 rw[Amc]at h
 omega
theorem Af5{α:Type}{a l:List α}(h:a.Sublist l):∃ r,l.Perm (a++r):=by
 induction h with
 |slnil=>exact⟨[],List.Perm.refl _⟩
 |@cons a l x _ ih=>
  obtain⟨r,hr⟩:=ih
  exact⟨x::r,(hr.cons x).trans (List.perm_middle.symm)⟩
 |@cons_cons a l x _ ih=>
  obtain⟨r,hr⟩:=ih
  exact⟨r,hr.cons x⟩
theorem Fo.sub{N:Nat}{a l:List Edge}(h:Fo N l)(hs:a.Sublist l)(hl:∀ e∈l,InE N e):Fo N a:=by
 obtain⟨r,hr⟩:=Af5 hs
 exact(h.perm hr).front (fun e he=>hl e (hr.mem_iff.2 (AmY.2 (.inl he)))) (fun e he=>hl e (hr.mem_iff.2 (AmY.2 (.inr he))))
theorem Fo.Mc{N:Nat}{b xs:List Edge}(h:Fo N (b++xs))(hb:∀ e∈b,InE N e)(hx:∀ e∈xs,InE N e):Mc b xs=xs:=by
 have h1:=On xs b hx
 have h2:=h.front hb hx
 unfold Fo at *
 rw[Amc]at h
 exact(AR1 xs b).eq_of_length (by omega)
end Go.Pev.Pl
end
section
namespace Go.Pev.Pl
abbrev Tie:=Int×Int×Int×Bool×Unit
abbrev zT:Tie:=(0,0,0,false,())
def ahead(p x:Tie):Prop:=p.1<x.1∨(p.1=x.1∧p.2.1<x.2.1)
instance (p x:Tie):Decidable (ahead p x):=inferInstanceAs (Decidable (_∨_))
def ed(t:Tie):Edge:=(t.1,t.2.1,())
def trk(ts:List Tie)(k:Int):List Edge:=(ts.filter fun t=>t.2.2.2.1&&decide (k≤t.2.2.1)).map ed
theorem C6{ts:List Tie}{k:Int}{e:Edge}:e∈trk ts k↔∃ t∈ts,t.2.2.2.1=true∧k≤t.2.2.1∧ed t=e:=by
 unfold trk
 simp only[Amo,AnG,AmX,AmV]
 constructor
 ·rintro⟨t,⟨h1,h2,h3⟩,h4⟩;exact⟨t,h1,h2,h3,h4⟩
 ·rintro⟨t,h1,h2,h3,h4⟩;exact⟨t,⟨h1,h2,h3⟩,h4⟩
theorem Hf{ts:List Tie}{k k':Int}(h:k≤k'):∀ e∈trk ts k',e∈trk ts k:=by
 intro e he
 obtain⟨t,h1,h2,h3,h4⟩:=C6.1 he
 exact C6.2 ⟨t,h1,h2,by omega,h4⟩
noncomputable def csz(N:Nat)(l:List Edge)(v:Int):Nat:=(List.range N).countP fun(w:Nat)=>PD l v (w:Int)
theorem AM0{N:Nat}{l l':List Edge}{v v':Int}(h:∀ w:Nat,w<N→Con l v (w:Int)→Con l' v' (w:Int)):csz N l v≤csz N l' v':=by
 unfold csz
 refine List.countP_mono_left fun w hw hc => ?_
 rw[CX]at hc ⊢
 exact h w (by simpa using hw) hc
theorem AkO{N:Nat}{l:List Edge}{v:Nat}(hv:v<N):1≤csz N l (v:Int):=by
 unfold csz
 refine List.countP_pos_iff.2 ⟨v,by simpa using hv,(CX _ _ _).2 (.refl _)⟩
theorem AkN{N:Nat}{l:List Edge}{a b:Nat}(ha:a<N)(hb:b<N)(hab:a≠b)(h:Con l (a:Int) (b:Int)):2≤csz N l (a:Int):=by
 unfold csz
 rw[AEx (P:=fun(w:Nat)=>PD l (a:Int) (w:Int)) (M:=a) ((CX _ _ _).2 (.refl _)) Ape (by simpa using ha)]
 have:0<(List.range N).countP (fun(w:Nat)=>PD l (a:Int) (w:Int) && !decide (w=a)):=by
  refine List.countP_pos_iff.2 ⟨b,by simpa using hb,?_⟩
  rw[AmX,CX]
  exact⟨h,by simp;omega⟩
 omega
theorem Ah8{N:Nat}{l:List Edge}{e:Edge}(h:¬ Con l e.1 e.2.1):csz N (l++[e]) e.1=csz N l e.1+csz N l e.2.1:=by
 unfold csz
 have key:∀ xs:List Nat,xs.countP (fun(w:Nat)=>PD (l++[e]) e.1 (w:Int))=xs.countP (fun(w:Nat)=>PD l e.1 (w:Int))+xs.countP (fun(w:Nat)=>PD l e.2.1 (w:Int)):=by
  intro xs
  induction xs with
  |nil=>rfl
  |cons x xs ih=>
   rw[ApD,ApD,ApD,ih]
   have hs:Con (l++[e]) e.1 (x:Int)↔Con l e.1 (x:Int)∨Con l e.2.1 (x:Int):=by
    rw[Con.snoc]
    constructor
    ·rintro (h|⟨_,h⟩|⟨_,h⟩)
     ·exact .inl h
     ·exact .inr h
     ·exact .inl h
    ·rintro (h|h)
     ·exact .inl h
     ·exact .inr (.inl ⟨.refl _,h⟩)
   by_cases h1:Con l e.1 (x:Int)
   ·have h2:¬ Con l e.2.1 (x:Int):=fun h2=>h (h1.trans h2.symm)
    rw[(CX _ _ _).2 (hs.2 (.inl h1)),(CX _ _ _).2 h1,(IW _ _ _).2 h2]
    simp only[Am7,Amq,Amn];omega
   ·by_cases h2:Con l e.2.1 (x:Int)
    ·rw[(CX _ _ _).2 (hs.2 (.inr h2)),(IW _ _ _).2 h1,(CX _ _ _).2 h2]
     simp only[Am7,Amq,Amn];omega
    ·rw[(IW _ _ _).2 (fun h=>(hs.1 h).elim h1 h2),(IW _ _ _).2 h1,(IW _ _ _).2 h2]
     simp only[Amq,Amn,An1]
 exact key _
end Go.Pev.Pl
end
section
namespace Go.Pev.Pl
def ACD(top:Int)(t:Tie):Tie:=(t.1,t.2.1,min top (t.2.2.1+1),t.2.2.2.1,())
def F4(t:Tie):Tie:=(t.1,t.2.1,t.2.2.1,true,())
def both(S:Int→Bool)(t:Tie):Bool:=S t.1&&S t.2.1
def AZ2(S:Int→Bool)(t:Tie):Prop:=S t.1≠S t.2.1
instance (S:Int→Bool)(t:Tie):Decidable (AZ2 S t):=inferInstanceAs (Decidable (_≠_))
def rT(S:Int→Bool)(top i:Int)(t:Tie):Tie:=if t.2.2.2.1=true∧t.2.2.1=i∧both S t=true then ACD top t else t
def rO(S:Int→Bool)(top i:Int)(t:Tie):Tie:=if t.2.2.2.1=false∧t.2.2.1=i∧both S t=true then ACD top t else t
def rB(S:Int→Bool)(top i:Int)(t:Tie):Tie:=if t.2.2.1=i∧both S t=true then ACD top t else t
theorem AII(S:Int→Bool)(top i:Int)(t:Tie):ed (rT S top i t)=ed t:=by unfold rT;split<;>rfl
theorem Afu(S:Int→Bool)(top i:Int)(t:Tie):ed (rO S top i t)=ed t:=by unfold rO;split<;>rfl
theorem OR(S:Int→Bool)(top i:Int)(t:Tie):(rT S top i t).2.2.2.1=t.2.2.2.1:=by unfold rT;split<;>rfl
theorem ALE(S:Int→Bool)(top i:Int)(t:Tie):(rO S top i t).2.2.2.1=t.2.2.2.1:=by unfold rO;split<;>rfl
theorem ALD{S:Int→Bool}{top i:Int}{t:Tie}(h:t.2.2.1≤top):t.2.2.1≤(rT S top i t).2.2.1∧(rT S top i t).2.2.1≤top:=by
 unfold rT
 split
 ·show t.2.2.1≤min top (t.2.2.1+1)∧min top (t.2.2.1+1)≤top
  omega
 ·omega
theorem AVC{S:Int→Bool}{top i:Int}{t:Tie}(h:t.2.2.1≤top):t.2.2.1≤(rO S top i t).2.2.1∧(rO S top i t).2.2.1≤top:=by
 unfold rO
 split
 ·show t.2.2.1≤min top (t.2.2.1+1)∧min top (t.2.2.1+1)≤top
  omega
 ·omega
theorem AVB{S:Int→Bool}{top i:Int}{t:Tie}(h:t.2.2.2.1=true):rO S top i t=t:=by
 unfold rO
 rw[Amh]
 rintro⟨a,_⟩
 rw[h]at a;cases a
theorem M6{S:Int→Bool}{top i:Int}{t:Tie}(h:t.2.2.2.1=false):rT S top i t=t:=by
 unfold rT
 rw[Amh]
 rintro⟨a,_⟩
 rw[h]at a;cases a
theorem AJu{f:Tie→Tie}(k:Int)(h1:∀ t,ed (f t)=ed t)(h2:∀ t,(f t).2.2.2.1=t.2.2.2.1)(ts:List Tie)(h3:∀ t∈ts,t.2.2.2.1=true→(k≤(f t).2.2.1↔k≤t.2.2.1)):trk (ts.map f) k=trk ts k:=by
 induction ts with
 |nil=>rfl
 |cons t ts ih=>
  have:=ih fun x hx=>h3 x (by simp[hx])
  unfold trk at *
  rw[Am0,AnR,AnR,h2]
  have ht:=h3 t (by simp)
  cases hh:t.2.2.2.1
  ·simp only[Aos,Amq,Amn];exact this
  ·have hd:decide (k≤(f t).2.2.1)=decide (k≤t.2.2.1):=AoB.2 (ht hh)
   rw[hd]
   simp only[AoI]
   split
   ·rw[Am0,Am0,h1,this]
   ·exact this
section
variable {N:Nat} {top:Int} {O:List Tie} {S:Int→Bool} {i:Int} {c:Int}
theorem QF{k:Int}{e:Edge}:e∈trk (O.map (rT S top i)) k↔∃ t∈O,t.2.2.2.1=true∧k≤(rT S top i t).2.2.1∧ed t=e:=by
 rw[C6]
 constructor
 ·rintro⟨t,ht,h1,h2,h3⟩
  obtain⟨x,hx,rfl⟩:=Amo.1 ht
  rw[OR]at h1
  rw[AII]at h3
  exact⟨x,hx,h1,h2,h3⟩
 ·rintro⟨t,ht,h1,h2,h3⟩
  exact⟨_,Amo.2 ⟨t,ht,rfl⟩,by rw[OR];exact h1,h2,by rw[AII];exact h3⟩
theorem CZ{k:Int}(hk:k≤i)(hit:i≤top):trk (O.map (rT S top i)) k=trk O k:=by
 refine AJu k (AII S top i) (OR S top i) O fun t _ _ => ?_
 unfold rT
 split
 ·rename_i h
  show k≤min top (t.2.2.1+1)↔_
  omega
 ·rfl
theorem AOR{k:Int}(hk:i+2≤k):trk (O.map (rT S top i)) k=trk O k:=by
 refine AJu k (AII S top i) (OR S top i) O fun t _ _ => ?_
 unfold rT
 split
 ·rename_i h
  show k≤min top (t.2.2.1+1)↔_
  omega
 ·rfl
theorem Kr(hl:∀ t∈O,t.2.2.1≤top)(k:Int):∀ e∈trk O k,e∈trk (O.map (rT S top i)) k:=by
 intro e he
 obtain⟨t,h1,h2,h3,h4⟩:=C6.1 he
 have:=ALD (S:=S) (i:=i) (hl t h1)
 exact QF.2 ⟨t,h1,h2,by omega,h4⟩
variable (hS:∀ a b,Con (trk O i) a b→S a=S b)
include hS
theorem AiA(hl:∀ t∈O,t.2.2.1≤top)(hit:i+1≤top){a b:Int}(h:Con (trk O i) a b)(ha:S a=true):Con (trk (O.map (rT S top i)) (i+1)) a b:=by
 have key:∀ {a b:Int},Con (trk O i) a b→S a=true→Con (trk (O.map (rT S top i)) (i+1)) a b:=by
  intro a b h
  induction h with
  |refl a=>intro _;exact .refl a
  |edge e he=>
   intro ha
   obtain⟨t,h1,h2,h3,rfl⟩:=C6.1 he
   have hb:S t.2.1=true:=by
    have:=hS _ _ (.edge _ he)
    exact this.symm.trans ha
   have hm:ed t∈trk (O.map (rT S top i)) (i+1):=by
    refine QF.2 ⟨t,h1,h2,?_,rfl⟩
    by_cases hlv:t.2.2.1=i
    ·unfold rT
     rw[Amk ⟨h2,hlv,by unfold both;rw[show S t.1=true from ha,hb];rfl⟩]
     show i+1≤min top (t.2.2.1+1)
     omega
    ·have:=ALD (S:=S) (i:=i) (hl t h1)
     omega
   exact .edge _ hm
  |symm h ih=>
   intro ha
   exact(ih (by rw[hS _ _ h];exact ha)).symm
  |trans h1 _ ih1 ih2=>
   intro ha
   exact(ih1 ha).trans (ih2 (by rw[← hS _ _ h1];exact ha))
 exact key h ha
theorem ASc(hit:i≤top){a b:Int}(h:Con (trk (O.map (rT S top i)) (i+1)) a b)(ha:S a=false):Con (trk O (i+1)) a b:=by
 have low:∀ {a b:Int},Con (trk (O.map (rT S top i)) (i+1)) a b→S a=S b:=fun h=>hS _ _ (by
  have:=h.sub (Hf (ts:=O.map (rT S top i)) (show i≤i+1 by omega))
  rw[CZ (Int.le_refl i) hit]at this
  exact this)
 have key:∀ {a b:Int},Con (trk (O.map (rT S top i)) (i+1)) a b→S a=false→Con (trk O (i+1)) a b:=by
  intro a b h
  induction h with
  |refl a=>intro _;exact .refl a
  |edge e he=>
   intro ha
   obtain⟨t,h1,h2,h3,rfl⟩:=QF.1 he
   refine .edge _ (C6.2 ⟨t,h1,h2,?_,rfl⟩)
   unfold rT at h3
   rw[Amh]at h3
   ·exact h3
   ·rintro⟨_,_,hb⟩
    unfold both at hb
    rw[show S t.1=false from ha]at hb
    cases hb
  |symm h ih=>
   intro ha
   exact(ih (by rw[low h];exact ha)).symm
  |trans h1 _ ih1 ih2=>
   intro ha
   exact(ih1 ha).trans (ih2 (by rw[← low h1];exact ha))
 exact key h ha
end
end Go.Pev.Pl
end
section
namespace Go.Pev.Pl
theorem Fo.AZY{N:Nat}{l:List Edge}{e:Edge}(h:Fo N (l++[e]))(hl:∀ x∈l,InE N x)(he:InE N e):¬ Con l e.1 e.2.1:=by
 intro hc
 have h1:=AZ9 (N:=N) (l:=l) he
 rw[Amk ((CX _ _ _).2 hc)]at h1
 have h2:=AiH l hl
 unfold Fo at h
 rw[Amc,AoC]at h
 omega
theorem Zw{N:Nat}{O:List Tie}(h:∀ x∈O,InE N (ed x))(k:Int):∀ e∈trk O k,InE N e:=by
 intro e he
 obtain⟨t,h1,_,_,rfl⟩:=C6.1 he
 exact h t h1
theorem DX(A B:List Tie)(k:Int):trk (A++B) k=trk A k++trk B k:=by
 unfold trk;rw[AoG,An3]
theorem Tm(S:Int→Bool)(top i:Int)(A:List Tie)(k:Int):trk (A.map (rO S top i)) k=trk A k:=
 AJu k (Afu S top i) (ALE S top i) A fun t _ h=>by rw[AVB h]
structure Snd(N:Nat)(top:Int)(O:List Tie):Prop where
 lvl:∀ x∈O,0≤x.2.2.1∧x.2.2.1≤top
 ins:∀ x∈O,InE N (ed x)
 fo:Fo N (trk O 0)
 lie:∀ x∈O,x.2.2.2.1=false→Con (trk O x.2.2.1) x.1 x.2.1
 halv:∀ k:Nat,(k:Int)≤top→∀ v:Nat,v<N→csz N (trk O k) v≤max 1 (N/2 ^ k)
structure PY(N:Nat)(top:Int)(t:Edge)(j:Int)(O:List Tie):Prop where
 lvl:∀ x∈O,0≤x.2.2.1∧x.2.2.1≤top
 ins:∀ x∈O,InE N (ed x)
 it:InE N t
 fo:Fo N (trk O 0++[t])
 lie1:∀ x∈O,x.2.2.2.1=false→j≤x.2.2.1→Con (trk O x.2.2.1) x.1 x.2.1
 lie2:∀ x∈O,x.2.2.2.1=false→x.2.2.1<j→Con (trk O x.2.2.1++[t]) x.1 x.2.1
 halv:∀ k:Nat,(k:Int)≤top→∀ v:Nat,v<N→csz N (trk O k) v≤max 1 (N/2 ^ k)
 halt:∀ k:Nat,(k:Int)<j→(k:Int)≤top→∀ v:Nat,v<N→csz N (trk O k++[t]) v≤max 1 (N/2 ^ k)
structure Q0(N:Nat)(t:Edge)(i:Nat)(O:List Tie)(S:Int→Bool)(c:Nat):Prop where
 cN:c<N
 at_:t.1=(c:Int)∨t.2.1=(c:Int)
 side:∀ w:Nat,w<N→(S (w:Int)=true↔Con (trk O i) (c:Int) (w:Int))
 less:2*csz N (trk O i) (c:Int)≤csz N (trk O i) t.1+csz N (trk O i) t.2.1
section
variable {N:Nat} {top:Int} {t:Edge} {O:List Tie} {S:Int→Bool} {i c:Nat}
theorem Q0.closed(hL:Q0 N t i O S c)(hi:∀ x∈O,InE N (ed x)):∀ a b,Con (trk O i) a b→S a=S b:=by
 intro a b h
 rcases Con.within (I:=fun a=>0≤a∧a<(N:Int)) (fun e he=>Zw hi i e he) h with rfl|⟨⟨a1,a2⟩,b1,b2⟩
 ·rfl
 ·obtain⟨u,rfl⟩:=Ame a1
  obtain⟨v,rfl⟩:=Ame b1
  have h1:=hL.side u (by omega)
  have h2:=hL.side v (by omega)
  rw[Aox,h1,h2]
  exact⟨fun q=>q.trans h,fun q=>q.trans h.symm⟩
theorem Q0.AZu(hL:Q0 N t i O S c):S (c:Int)=true:=(hL.side c hL.cN).2 (.refl _)
theorem Q0.con(hL:Q0 N t i O S c){a b:Int}(ia:0≤a∧a<(N:Int))(ib:0≤b∧b<(N:Int))(ha:S a=true)(hb:S b=true):Con (trk O i) a b:=by
 obtain⟨u,rfl⟩:=Ame ia.1
 obtain⟨v,rfl⟩:=Ame ib.1
 exact((hL.side u (by omega)).1 ha).symm.trans ((hL.side v (by omega)).1 hb)
variable (hG:PY N top t ((i:Int)+1) O) (hit:(i:Int)≤top) (hL:Q0 N t i O S c)
include hG
theorem PY.apart(k:Nat):¬ Con (trk O (k:Int)) t.1 t.2.1:=fun h=>hG.fo.AZY (Zw hG.ins 0) hG.it (h.sub (Hf (by omega)))
include hit hL
theorem PY.half(hi1:(i:Int)+1≤top):csz N (trk O i) (c:Int)≤N/2 ^ (i+1):=by
 obtain⟨⟨a1,a2⟩,b1,b2⟩:=hG.it
 obtain⟨u,hu⟩:=Ame a1
 have hj:=Ah8 (N:=N) (hG.apart i)
 have hh:=hG.halt i (by omega) hit u (by omega)
 rw[← hu,hj]at hh
 have hp:=AkO (N:=N) (l:=trk O i) hL.cN
 have hl:=hL.less
 have e:N/2 ^ (i+1)=N/2 ^ i/2:=by rw[Nat.pow_succ,Nat.div_div_eq_div_mul]
 rw[e]
 omega
theorem PY.Akp(k:Nat)(hk:(k:Int)≤top)(v:Nat)(hv:v<N):csz N (trk (O.map (rT S top i)) k) v≤max 1 (N/2 ^ k):=by
 have hS:=hL.closed hG.ins
 have hl:∀ x∈O,x.2.2.1≤top:=fun x hx=>(hG.lvl x hx).2
 rcases ApR k (i+1)with h|rfl|h
 ·rw[CZ (by omega) hit];exact hG.halv k hk v hv
 ·cases hsv:S (v:Int)
  ·refine Ana (AM0 fun w hw hc => ?_) (hG.halv (i+1) hk v hv)
   have:=ASc hS hit (a:=(v:Int)) (b:=(w:Int)) (by simpa using hc) hsv
   simpa using this
  ·have hle:csz N (trk (O.map (rT S top i)) ((i+1:Nat):Int)) v≤csz N (trk O i) (c:Int):=AM0 fun w hw hc=>by
    have h1:=hc.sub (Hf (ts:=O.map (rT S top i)) (show(i:Int)≤((i+1:Nat):Int) by omega))
    rw[CZ (Int.le_refl _) hit]at h1
    exact((hL.side v hv).1 hsv).trans h1
   have:=hG.half hit hL (by omega)
   omega
 ·rw[AOR (by omega)];exact hG.halv k hk v hv
omit hL
theorem ACE{x:Tie}(hx:x∈O.map (rT S top i))(h:x.2.2.2.1=false):x∈O:=by
 obtain⟨y,hy,rfl⟩:=Amo.1 hx
 rw[OR]at h
 rw[M6 h];exact hy
include hL
theorem PY.ADz{x:Tie}(hx:x∈O)(h1:x.2.2.1=(i:Int))(h2:both S x=true):Con (trk (O.map (rT S top i)) (min top (x.2.2.1+1))) x.1 x.2.1:=by
 have hS:=hL.closed hG.ins
 unfold both at h2
 rw[AmX]at h2
 have hc:=hL.con (hG.ins x hx).1 (hG.ins x hx).2 h2.1 h2.2
 by_cases hi1:(i:Int)+1≤top
 ·rw[h1,Int.min_eq_right hi1]
  exact AiA hS (fun x hx=>(hG.lvl x hx).2) hi1 hc h2.1
 ·rw[h1,Int.min_eq_left (by omega),show top=(i:Int) by omega]
  have:=CZ (O:=O) (S:=S) (top:=top) (i:=(i:Int)) (k:=(i:Int)) (Int.le_refl _) hit
  rw[show top=(i:Int) by omega]at this
  rw[this];exact hc
theorem PY.next(hno:∀ x∈O.map (rT S top i),x.2.2.2.1=false→x.2.2.1=(i:Int)→¬ AZ2 S x):PY N top t (i:Int) ((O.map (rT S top i)).map (rO S top i)):=by
 have hS:=hL.closed hG.ins
 have hl:∀ x∈O,x.2.2.1≤top:=fun x hx=>(hG.lvl x hx).2
 have hmem:∀ x∈(O.map (rT S top i)).map (rO S top i),∃ y∈O,x=rO S top i (rT S top i y):=fun x hx=>by
  obtain⟨z,hz,rfl⟩:=Amo.1 hx
  obtain⟨y,hy,rfl⟩:=Amo.1 hz
  exact⟨y,hy,rfl⟩
 have hlv:∀ y∈O,y.2.2.1≤(rO S top i (rT S top i y)).2.2.1∧(rO S top i (rT S top i y)).2.2.1≤top:=fun y hy=>by
  have h1:=ALD (S:=S) (i:=(i:Int)) (hl y hy)
  have h2:=AVC (S:=S) (i:=(i:Int)) h1.2
  omega
 have hoth:∀ x∈(O.map (rT S top i)).map (rO S top i),x.2.2.2.1=false→∃ y∈O,y.2.2.2.1=false∧x=rO S top i y:=fun x hx h=>by
  obtain⟨y,hy,rfl⟩:=hmem x hx
  rw[ALE,OR]at h
  exact⟨y,hy,h,by rw[M6 h]⟩
 refine⟨fun x hx => ?_,fun x hx => ?_,hG.it,?_,fun x hx h hj => ?_,fun x hx h hj => ?_,fun k hk v hv => ?_,fun k hk1 hk2 v hv => ?_⟩
 ·obtain⟨y,hy,rfl⟩:=hmem x hx
  have:=hlv y hy
  have:=(hG.lvl y hy).1
  omega
 ·obtain⟨y,hy,rfl⟩:=hmem x hx
  rw[Afu,AII];exact hG.ins y hy
 ·rw[Tm,CZ (by omega) hit];exact hG.fo
 ·obtain⟨y,hy,hf,rfl⟩:=hoth x hx h
  rw[Tm]
  by_cases hr:y.2.2.1=(i:Int)∧both S y=true
  ·have he:rO S top i y=ACD top y:=by unfold rO;rw[Amk ⟨hf,hr.1,hr.2⟩]
   rw[he]
   exact hG.ADz hit hL hy hr.1 hr.2
  ·have he:rO S top i y=y:=by unfold rO;rw[Amh (fun q=>hr ⟨q.2.1,q.2.2⟩)]
   rw[he]at hj ⊢
   by_cases hi:y.2.2.1=(i:Int)
   ·have hnb:¬ both S y=true:=fun q=>hr ⟨hi,q⟩
    have hne:=hno y (Amo.2 ⟨y,hy,M6 hf⟩) hf hi
    have h2:=hG.lie2 y hy hf (by omega)
    rw[hi,CZ (Int.le_refl _) hit]
    rw[hi]at h2
    unfold AZ2 at hne
    have hne:=Ao3.1 hne
    have hfalse:S y.1=false∧S y.2.1=false:=by
     unfold both at hnb
     rw[← hne]at hnb ⊢
     cases hsy:S y.1
     ·exact⟨rfl,rfl⟩
     ·rw[hsy]at hnb;exact absurd rfl hnb
    rw[Con.snoc]at h2
    rcases h2 with h2|⟨q1,q2⟩|⟨q1,q2⟩
    ·exact h2
    ·have e1:=hS _ _ q1
     have e2:=hS _ _ q2
     rcases hL.at_ with hc|hc
     ·rw[hc,hL.AZu,hfalse.1]at e1;cases e1
     ·rw[hc,hL.AZu,hfalse.2]at e2;cases e2
    ·have e1:=hS _ _ q1
     have e2:=hS _ _ q2
     rcases hL.at_ with hc|hc
     ·rw[hc,hL.AZu,hfalse.2]at e2;cases e2
     ·rw[hc,hL.AZu,hfalse.1]at e1;cases e1
   ·exact(hG.lie1 y hy hf (by omega)).sub (Kr hl _)
 ·obtain⟨y,hy,hf,rfl⟩:=hoth x hx h
  have h1:=AVC (S:=S) (i:=(i:Int)) (hl y hy)
  have he:rO S top i y=y:=by unfold rO;rw[Amh (fun q=>by have:=q.2.1;omega)]
  rw[he]at hj ⊢
  rw[Tm,CZ (by omega) hit]
  exact hG.lie2 y hy hf (by omega)
 ·rw[Tm];exact hG.Akp hit hL k hk v hv
 ·rw[Tm,CZ (by omega) hit];exact hG.halt k (by omega) hk2 v hv
theorem PY.found{A B:List Tie}{x:Tie}(hsp:O.map (rT S top i)=A++x::B)(hf:x.2.2.2.1=false)(hi:x.2.2.1=(i:Int))(hx:AZ2 S x):
  Snd N top (A.map (rO S top i)++F4 x::B)∧Con (trk (A.map (rO S top i)++F4 x::B) 0) t.1 t.2.1:=by
 have hS:=hL.closed hG.ins
 have hl:∀ x∈O,x.2.2.1≤top:=fun x hx=>(hG.lvl x hx).2
 have hxM:x∈O.map (rT S top i):=by rw[hsp];simp
 have hxO:x∈O:=ACE hG hit hxM hf
 have hAm:∀ y∈A,y∈O.map (rT S top i):=fun y hy=>by rw[hsp];simp[hy]
 have hBm:∀ y∈B,y∈O.map (rT S top i):=fun y hy=>by rw[hsp];simp[hy]
 have hml:∀ y∈O.map (rT S top i),0≤y.2.2.1∧y.2.2.1≤top:=fun y hy=>by
  obtain⟨z,hz,rfl⟩:=Amo.1 hy
  have:=ALD (S:=S) (i:=(i:Int)) (hl z hz)
  have:=(hG.lvl z hz).1
  omega
 have hme:∀ y∈O.map (rT S top i),InE N (ed y):=fun y hy=>by
  obtain⟨z,hz,rfl⟩:=Amo.1 hy
  rw[AII];exact hG.ins z hz
 have hxt:trk [x]=fun _=>[]:=by
  funext k
  unfold trk
  rw[AnR,hf]
  rfl
 have hat:∀ k,trk [F4 x] k=if k≤(i:Int)then [ed x]else []:=by
  intro k
  unfold trk
  have q1:(F4 x).2.2.1=(i:Int):=hi
  have q2:(F4 x).2.2.2.1=true:=rfl
  rw[AnR,q1,q2]
  by_cases hk:k≤(i:Int)
  ·rw[Amk hk,AmU hk];rfl
  ·rw[Amh hk,AmS hk];rfl
 have hM:∀ k,trk (O.map (rT S top i)) k=trk A k++trk B k:=by
  intro k
  rw[hsp,show A++x::B=A++([x]++B)from rfl,DX,DX,hxt,Am5]
 have hO':∀ k,trk (A.map (rO S top i)++F4 x::B) k=trk A k++((if k≤(i:Int)then [ed x]else [])++trk B k):=by
  intro k
  rw[show A.map (rO S top i)++F4 x::B=A.map (rO S top i)++([F4 x]++B)from rfl,DX,DX,Tm,hat]
 have hsup:∀ k,∀ e∈trk (O.map (rT S top i)) k,e∈trk (A.map (rO S top i)++F4 x::B) k:=by
  intro k e he
  rw[hM]at he
  rw[hO']
  rcases AmY.1 he with he|he
  ·exact AmY.2 (.inl he)
  ·exact AmY.2 (.inr (AmY.2 (.inr he)))
 have hxin:∀ k,k≤(i:Int)→ed x∈trk (A.map (rO S top i)++F4 x::B) k:=by
  intro k hk
  rw[hO',Amk hk];simp
 have h2:=hG.lie2 x hxO hf (by omega)
 rw[hi]at h2
 have ht:Con (trk O i++[ed x]) t.1 t.2.1:=by
  have up:∀ {a b:Int},Con (trk O i) a b→Con (trk O i++[ed x]) a b:=fun c=>c.sub fun e he=>AmY.2 (.inl he)
  have hxe:Con (trk O i++[ed x]) x.1 x.2.1:=.edge (l:=trk O i++[ed x]) (ed x) (by simp)
  rw[Con.snoc]at h2
  rcases h2 with h2|⟨q1,q2⟩|⟨q1,q2⟩
  ·exact absurd (hS _ _ h2) hx
  ·exact((up q1).symm.trans hxe).trans (up q2).symm
  ·exact((up q2).trans hxe.symm).trans (up q1)
 have ht':∀ k,k≤(i:Int)→Con (trk (A.map (rO S top i)++F4 x::B) k) t.1 t.2.1:=by
  intro k hk
  refine ht.sub fun e he => ?_
  rcases AmY.1 he with he|he
  ·exact Hf hk _ (hsup _ _ (Kr hl _ _ he))
  ·rw[Amv]at he;subst he;exact hxin k hk
 refine⟨⟨fun y hy => ?_,fun y hy => ?_,?_,fun y hy h => ?_,fun k hk v hv => ?_⟩,ht' 0 (by omega)⟩
 ·rcases AmY.1 hy with hy|hy
  ·obtain⟨z,hz,rfl⟩:=Amo.1 hy
   have h1:=hml z (hAm z hz)
   have:=AVC (S:=S) (i:=(i:Int)) h1.2
   omega
  ·rcases Ama.1 hy with rfl|hy
   ·exact hG.lvl x hxO
   ·exact hml y (hBm y hy)
 ·rcases AmY.1 hy with hy|hy
  ·obtain⟨z,hz,rfl⟩:=Amo.1 hy
   rw[Afu];exact hme z (hAm z hz)
  ·rcases Ama.1 hy with rfl|hy
   ·exact hG.ins x hxO
   ·exact hme y (hBm y hy)
 ·rw[hO',Amk (by omega)]
  have hM0:=hM 0
  rw[CZ (by omega) hit]at hM0
  have hp:(trk A 0++([ed x]++trk B 0)).Perm (trk O 0++[ed x]):=by
   rw[hM0,AnY]
   exact List.Perm.append_left _ AoD
  refine Fo.perm ?_ hp.symm
  have hfo:=hG.fo
  have hcc:cc N (trk O 0++[ed x])=cc N (trk O 0++[t]):=AFJ fun a b=>by
   have m0:=Hf (ts:=O) (show(0:Int)≤(i:Int) by omega)
   constructor
   ·intro c
    refine c.cut fun e he => ?_
    rcases AmY.1 he with he|he
    ·exact .edge _ (AmY.2 (.inl he))
    ·rw[Amv]at he;subst he
     refine h2.sub fun e he => ?_
     rcases AmY.1 he with he|he
     ·exact AmY.2 (.inl (m0 _ he))
     ·exact AmY.2 (.inr he)
   ·intro c
    refine c.cut fun e he => ?_
    rcases AmY.1 he with he|he
    ·exact .edge _ (AmY.2 (.inl he))
    ·rw[Amv]at he;subst he
     refine ht.sub fun e he => ?_
     rcases AmY.1 he with he|he
     ·exact AmY.2 (.inl (m0 _ he))
     ·exact AmY.2 (.inr he)
  unfold Fo at hfo ⊢
  rw[hcc,Amc]at *
  exact hfo
 ·-- others
  have key:∀ y:Tie,y∈O→y.2.2.2.1=false→Con (trk (A.map (rO S top i)++F4 x::B) y.2.2.1) y.1 y.2.1:=by
   intro y hy h
   by_cases hle:y.2.2.1≤(i:Int)
   ·refine(hG.lie2 y hy h (by omega)).cut fun e he => ?_
    rcases AmY.1 he with he|he
    ·exact .edge _ (hsup _ _ (Kr hl _ _ he))
    ·rw[Amv]at he;subst he;exact ht' _ hle
   ·exact(hG.lie1 y hy h (by omega)).sub fun e he=>hsup _ _ (Kr hl _ _ he)
  rcases AmY.1 hy with hy|hy
  ·obtain⟨z,hz,rfl⟩:=Amo.1 hy
   rw[ALE]at h
   have hzO:=ACE hG hit (hAm z hz) h
   by_cases hr:z.2.2.1=(i:Int)∧both S z=true
   ·have he:rO S top i z=ACD top z:=by unfold rO;rw[Amk ⟨h,hr.1,hr.2⟩]
    rw[he]
    exact(hG.ADz hit hL hzO hr.1 hr.2).sub (hsup _)
   ·have he:rO S top i z=z:=by unfold rO;rw[Amh (fun q=>hr ⟨q.2.1,q.2.2⟩)]
    rw[he]
    exact key z hzO h
  ·rcases Ama.1 hy with rfl|hy
   ·cases h
   ·exact key y (ACE hG hit (hBm y hy) h) h
 ·by_cases hki:(k:Int)≤(i:Int)
  ·refine Ana (AM0 fun w hw hc => ?_) (hG.halt k (by omega) hk v hv)
   refine hc.cut fun e he => ?_
   rw[hO',Amk hki]at he
   have hMk:=hM (k:Int)
   rw[CZ hki hit]at hMk
   rcases AmY.1 he with he|he
   ·exact .edge _ (AmY.2 (.inl (by rw[hMk];simp[he])))
   ·rcases AmY.1 he with he|he
    ·rw[Amv]at he;subst he
     refine h2.sub fun e he => ?_
     rcases AmY.1 he with he|he
     ·exact AmY.2 (.inl (Hf hki _ he))
     ·exact AmY.2 (.inr he)
    ·exact .edge _ (AmY.2 (.inl (by rw[hMk];simp[he])))
  ·have:trk (A.map (rO S top i)++F4 x::B) (k:Int)=trk (O.map (rT S top i)) (k:Int):=by
    rw[hO',Amh hki,hM];rfl
   rw[this]
   exact hG.Akp hit hL k hk v hv
end
theorem PY.end{N:Nat}{top:Int}{t:Edge}{O:List Tie}(h:PY N top t 0 O):Snd N top O∧¬ Con (trk O 0) t.1 t.2.1:=by
 refine⟨⟨h.lvl,h.ins,h.fo.front (Zw h.ins 0) (fun e he=>by rw[Amv]at he;subst he;exact h.it),fun x hx hf=>h.lie1 x hx hf (h.lvl x hx).1,h.halv⟩,h.fo.AZY (Zw h.ins 0) h.it⟩
theorem Snd.other{N:Nat}{top:Int}{P Q:List Tie}{t:Tie}(h:Snd N top (P++t::Q))(ht:t.2.2.2.1=false):Snd N top (P++Q):=by
 have hm:∀ x∈P++Q,x∈P++t::Q:=fun x hx=>by
  rcases AmY.1 hx with hx|hx
  ·simp[hx]
  ·simp[hx]
 have htk:∀ k,trk (P++t::Q) k=trk (P++Q) k:=by
  intro k
  rw[show P++t::Q=P++([t]++Q)from rfl,DX,DX,DX]
  congr 1
  unfold trk
  rw[AnR,ht]
  rfl
 refine⟨fun x hx=>h.lvl x (hm x hx),fun x hx=>h.ins x (hm x hx),by rw[← htk];exact h.fo,fun x hx hf=>by rw[← htk];exact h.lie x (hm x hx) hf,fun k hk v hv=>by rw[← htk];exact h.halv k hk v hv⟩
theorem Snd.span{N:Nat}{top:Int}{O:List Tie}(h:Snd N top O)(a b:Int):Con (O.map ed) a b↔Con (trk O 0) a b:=by
 constructor
 ·intro c
  refine c.cut fun e he => ?_
  obtain⟨x,hx,rfl⟩:=Amo.1 he
  cases hf:x.2.2.2.1
  ·exact(h.lie x hx hf).sub (Hf (h.lvl x hx).1)
  ·exact .edge _ (C6.2 ⟨x,hx,hf,(h.lvl x hx).1,rfl⟩)
 ·intro c
  refine c.sub fun e he => ?_
  obtain⟨x,h1,_,_,rfl⟩:=C6.1 he
  exact Amo.2 ⟨x,h1,rfl⟩
end Go.Pev.Pl
end
section
namespace Go.Pev.Pl
theorem Snd.below{N:Nat}{top:Nat}{O:List Tie}(h:Snd N (top:Int) O)(hN:N/2 ^ top≤1){x:Tie}(hx:x∈O)(hne:x.1≠x.2.1):x.2.2.1<(top:Int):=by
 have hl:=h.lvl x hx
 refine AnW fun hn => ?_
 have he:x.2.2.1=(top:Int):=by omega
 obtain⟨⟨a1,a2⟩,b1,b2⟩:=h.ins x hx
 obtain⟨u,hu⟩:=Ame a1
 obtain⟨v,hv⟩:=Ame b1
 have hc:Con (trk O (top:Int)) x.1 x.2.1:=by
  cases hf:x.2.2.2.1
  ·have:=h.lie x hx hf
   rw[he]at this;exact this
  ·exact .edge (l:=trk O (top:Int)) (ed x) (C6.2 ⟨x,hx,hf,by omega,rfl⟩)
 have hu':x.1=(u:Int):=hu
 have hv':x.2.1=(v:Int):=hv
 rw[hu',hv']at hc hne
 have h2:=AkN (N:=N) (a:=u) (b:=v) (by omega) (by omega) (by omega) hc
 have h3:=h.halv top (Int.le_refl _) u (by omega)
 omega
theorem Snd.grown{N:Nat}{top:Int}{O O':List Tie}{come:List Edge}{new:List Tie}(h:Snd N top O)(ht:0≤top)(hp:O'.Perm (O++new))(hc:∀ e∈come,InE N e)
  (hn:∀ x∈new,x.2.2.1=0∧ed x∈come) (htr:(trk O' 0).Perm (trk O 0++Mc (trk O 0) come)):Snd N top O':=by
 have hmem:∀ x,x∈O'↔x∈O∨x∈new:=fun x=>by rw[hp.mem_iff,AmY]
 have hk:∀ k:Int,0<k→∀ e,e∈trk O' k↔e∈trk O k:=by
  intro k hk e
  rw[C6,C6]
  constructor
  ·rintro⟨t,h1,h2,h3,h4⟩
   rcases(hmem t).1 h1 with h1|h1
   ·exact⟨t,h1,h2,h3,h4⟩
   ·have:=(hn t h1).1;omega
  ·rintro⟨t,h1,h2,h3,h4⟩
   exact⟨t,(hmem t).2 (.inl h1),h2,h3,h4⟩
 have hsup:∀ k:Int,∀ e∈trk O k,e∈trk O' k:=fun k e he=>by
  obtain⟨t,h1,h2,h3,h4⟩:=C6.1 he
  exact C6.2 ⟨t,(hmem t).2 (.inl h1),h2,h3,h4⟩
 refine⟨fun x hx => ?_,fun x hx => ?_,?_,fun x hx hf => ?_,fun k hkt v hv => ?_⟩
 ·rcases(hmem x).1 hx with hx|hx
  ·exact h.lvl x hx
  ·have:=(hn x hx).1;omega
 ·rcases(hmem x).1 hx with hx|hx
  ·exact h.ins x hx
  ·exact hc _ (hn x hx).2
 ·refine Fo.perm ?_ htr.symm
  have h1:=On come (trk O 0) hc
  have h2:cc N (trk O 0++come)=cc N (trk O 0++Mc (trk O 0) come):=AFJ fun a b=>AE9 come (trk O 0)
  have h3:=h.fo
  unfold Fo at *
  rw[Amc]
  omega
 ·rcases(hmem x).1 hx with hx|hx
  ·exact(h.lie x hx hf).sub (hsup _)
  ·obtain⟨h0,he⟩:=hn x hx
   rw[h0,AM3 fun e=>htr.mem_iff,← AE9]
   exact .edge (l:=trk O 0++come) (ed x) (AmY.2 (.inr he))
 ·by_cases hk0:k=0
  ·subst hk0
   have:csz N (trk O' ((0:Nat):Int)) (v:Int)≤N:=by
    unfold csz
    have:=List.countP_le_length (p:=fun(w:Nat)=>PD (trk O' ((0:Nat):Int)) (v:Int) (w:Int)) (l:=List.range N)
    rw[AnV]at this
    exact this
   simp only[Nat.pow_zero,Nat.div_one]
   omega
  ·exact Ana (AM0 fun w hw c=>c.sub fun e he=>(hk k (by omega) e).1 he) (h.halv k hkt v hv)
end Go.Pev.Pl
end
section
namespace Go.Pev.Pl
end Go.Pev.Pl
end
section
section
namespace Go.Pev.Pl
structure UF(N:Nat)(s:List Int)(c:Int→Int):Prop where
 len:s.length=N
 lo:∀ k,k<N→0≤s.getD k 0∧s.getD k 0≤(k:Int)
 par:∀ k,k<N→c (s.getD k 0)=c (k:Int)
 root:∀ k,k<N→s.getD k 0=(k:Int)→c (k:Int)=(k:Int)
 le:∀ k,k<N→0≤c (k:Int)∧c (k:Int)≤(k:Int)
theorem UF.idem{N:Nat}{s:List Int}{c:Int→Int}(h:UF N s c):∀ (m k:Nat),k≤m→k<N→c (c (k:Int))=c (k:Int):=by
 intro m
 induction m with
 |zero=>
  intro k hk hN
  have:=h.le k hN
  have e:c (k:Int)=(k:Int):=by omega
  rw[e,e]
 |succ m ih=>
  intro k hk hN
  have h1:=h.lo k hN
  by_cases hr:s.getD k 0=(k:Int)
  ·have e:=h.root k hN hr
   rw[e,e]
  ·obtain⟨j,hj⟩:=Ame h1.1
   have hp:=h.par k hN
   rw[hj]at hp
   rw[← hp]
   exact ih j (by omega) (by omega)
theorem UF.top{N:Nat}{s:List Int}{c:Int→Int}(h:UF N s c){k:Nat}(hk:k<N):s.getD (c (k:Int)).toNat 0=c (k:Int):=by
 have h1:=h.le k hk
 obtain⟨j,hj⟩:=Ame h1.1
 have hi:=h.idem k k (Amd _) hk
 rw[hj]at hi ⊢
 have hjN:j<N:=by omega
 have h2:=h.lo j hjN
 have hp:=h.par j hjN
 obtain⟨i,hi'⟩:=Ame h2.1
 rw[hi']at hp
 have h3:=h.le i (by omega)
 show s.getD j 0=_
 omega
theorem K7{N i x:Nat}(h:(List.range N)[i]? = some x):x=i:=by
 rw[Anc]at h
 obtain⟨h1,h2⟩:=h
 simpa using h2.symm
def Akk(c:Int→Int)(u v:Int):Int→Int:=fun x=>if c x=max (c u) (c v)then min (c u) (c v)else c x
def AiR(N:Nat)(c:Int→Int)(l:List Edge):Prop:=∀ a b,In (N:Int) a→In (N:Int) b→(c a=c b↔Con l a b)
theorem AiR.snoc{N:Nat}{c:Int→Int}{l:List Edge}{e:Edge}(h:AiR N c l)(h1:In (N:Int) e.1)(h2:In (N:Int) e.2.1):AiR N (Akk c e.1 e.2.1) (l++[e]):=by
 intro a b ia ib
 rw[Con.snoc,← h a b ia ib,← h a _ ia h1,← h _ b h2 ib,← h a _ ia h2,← h _ b h1 ib]
 unfold Akk
 generalize c a=x
 generalize c b=y
 generalize c e.1=u
 generalize c e.2.1=v
 split<;>split<;>omega
end Go.Pev.Pl
end
section
namespace Go.Pev.Pl
def sh(n:Int):Prop:=0≤n∧n≤65535
instance (n:Int):Decidable (sh n):=inferInstanceAs (Decidable (_∧_))
def tw(n:Int):List Int:=[n/256,n % 256]
end Go.Pev.Pl
end
section
namespace Go.Pev.Pl
abbrev Res:=Int×Int×List Int×Unit
def val(r:Res):Prop:=(0≤r.1∧r.1≤255)∧sh r.2.1∧sh (r.2.2.1.length:Int)∧∀ x∈r.2.2.1,sh x
instance (r:Res):Decidable (val r):=inferInstanceAs (Decidable (_∧_∧_∧_))
def enc(r:Res):List Int:=r.1::(tw r.2.1++(tw (r.2.2.1.length:Int)++r.2.2.1.flatMap tw))
end Go.Pev.Pl
end
section
namespace Go.Pev.Pl
theorem Og(a:Int):ieq a a=true:=by rw[B4];simp
end Go.Pev.Pl
end
section
namespace Go.Pev.Pl
open Go.RowKit Tok
section
variable {n:Int} {rings:List (List Int)}
theorem AR0{l:List Edge}{out:List Int}(h:FC n rings l)(hc:Xp n l out){A:List Int}{u:Int}(hA:A∈rings)(iu:In n u)(hu:u∈A):hd A=cl out u:=by
 have gA:=h.fr.rg A hA
 have ih:=Ou gA
 have hh:=We gA.2.1
 have h1:Con l u (hd A):=(h.sam u (hd A) iu ih).1 ⟨A,hA,hu,hh⟩
 have h2:=hc.least u (hd A) iu ih h1
 have h3:=hc.isin u iu
 obtain⟨K,hK,k1,k2⟩:=(h.sam u _ iu h3).2 (hc.con u iu)
 have:=h.fr.one hA hK iu.2.2.2 hu k1
 subst this
 have h4:=(Er gA.2.1).2 _ k2
 rw[gA.2.2.1]at h4
 have:hd A=A.headD 0:=rfl
 omega
end
end Go.Pev.Pl
end
section
namespace Go.Pev.Pl
def Il(n:Nat):Int:=((@PG idI ((n:Int),())).getD (0,())).1
theorem AmI:((List.range 65).all fun k=>decide (@PG idI ((k:Int),())=some (Il k,())))=true:=by kernel_rfl
theorem Alx:((List.range 65).all fun k=>decide (@AME idI ((k:Int),())=some (Il k,())))=true:=by kernel_rfl
theorem Aar(n:Nat)(h:n≤64):PG ((n:Int),())=some (Il n,()):=by
 rw[show PG ((n:Int),()) = @PG idI ((n:Int),())from Anj (fun i=>@PG i ((n:Int),())) ADp]
 exact Aob (Amr.1 AmI n (by simp;omega))
theorem ARO(n:Nat)(h:n≤64):AME ((n:Int),())=some (Il n,()):=by
 rw[show AME ((n:Int),()) = @AME idI ((n:Int),())from Anj (fun i=>@AME i ((n:Int),())) ADp]
 exact Aob (Amr.1 Alx n (by simp;omega))
def AkQ(a b:Int):Int:=if a<b then -1 else if b<a then 1 else 0
theorem AM4(a b:Int):Dj (a,b,())=some (AkQ a b,()):=by
 rw[Gj,EY]
 simp only[LF,LG,Og,Amf]
 unfold AkQ
 rw[Ah,Ah]
 by_cases h:a<b
 ·rw[AmU h,Amk h]
 ·rw[AmS h,Amh h]
  by_cases h':b<a
  ·rw[AmU h',Amk h']
  ·rw[AmS h',Amh h']
theorem Aji(a b:Int):orI ([a,b],())=some (if a=0 then b else a,()):=by
 rw[ALr,AIc]
 have e:=MW (step:=Fc) (fun i=>(0,[a,b],AK [a,b],(i:Int),())) [a,b] (fun x => !decide (x=0)) (fun i=>.inl ([a,b].getD i 0,())) (.inr (.inl (0,()))) (by simp)
  (fun i x hi hx=>by
   rw[Fc,AM,AR,AmU hi]
   simp only[Ak hx,Ar]
   have hi2:i<2:=hi
   rw[AS (by omega)]
   have hg:[a,b].getD i 0=x:=by rw[AmW,hx];rfl
   rw[hg]
   by_cases h:x=0
   ·simp[h]
   ·simp[h])
  (by rw[Fc,AM,AR,AmS (by omega)])
 have e':AX Fc many (0,[a,b],AK [a,b],(0:Int),())=_:=e
 rw[e']
 by_cases h:a=0
 ·by_cases h':b=0
  ·simp[h,h']
  ·simp[h,h',Aoo]
 ·simp[h,Aoo]
theorem AMN(p x:Tie):∃ y,KS (p,x,())=some (y,())∧ile 0 y = !decide (ahead p x):=by
 rw[Ya,LR]
 simp only[AM4,Aji]
 refine⟨_,rfl,?_⟩
 rw[A0]
 by_cases h:ahead p x
 ·rw[AmU h]
  unfold ahead at h
  unfold AkQ
  rw[AmS];· rfl
  split<;>split<;>(try split)<;>omega
 ·rw[AmS h]
  unfold ahead at h
  unfold AkQ
  rw[AmU];· rfl
  split<;>split<;>(try split)<;>omega
def Mb(N:Nat)(ts:List Tie)(i:Nat):Prop:=
 0≤(ts.getD i zT).1∧(ts.getD i zT).1<(ts.getD i zT).2.1∧(ts.getD i zT).2.1<(N:Int)∧0≤(ts.getD i zT).2.2.1∧(ts.getD i zT).2.2.1≤Il N∧(i=0∨ahead (ts.getD (i-1) zT) (ts.getD i zT))
instance (N:Nat)(ts:List Tie)(i:Nat):Decidable (Mb N ts i):=inferInstanceAs (Decidable (_∧_∧_∧_∧_∧_))
def trs(ts:List Tie)(k:Nat):List Edge:=(List.range k).foldl (fun a i=>if(ts.getD i zT).2.2.2.1=true then a++[ed (ts.getD i zT)]else a) []
theorem AN8{α β ρ:Type}(P:β→Prop)[DecidablePred P](g:β→α→α)(fin:α→ρ)(rt:ρ):∀ (xs:List β) (a:α),walk (fun x a=>if P x then .inl (g x a)else .inr rt) fin xs a=if ∀ x∈xs,P x then fin (xs.foldl (fun a x=>g x a) a)else rt:=by
 intro xs
 induction xs with
 |nil=>intro a;simp[walk]
 |cons x xs ih=>
  intro a
  rw[walk]
  by_cases h:P x
  ·rw[Amk h]
   simp only[]
   rw[ih]
   simp[h]
  ·rw[Amh h]
   simp[h]
theorem AAr(ts:List Tie)(k:Nat):trs ts (k+1)=if(ts.getD k zT).2.2.2.1=true then trs ts k++[ed (ts.getD k zT)]else trs ts k:=by
 unfold trs
 rw[Anp,List.foldl_append]
 rfl
theorem AJs(ts:List Tie):∀ k,(trs ts k).length≤k:=by
 intro k
 induction k with
 |zero=>exact Amd _
 |succ k ih=>
  rw[AAr]
  split
  ·rw[Amc];simp;omega
  ·omega
theorem Aie(ts:List Tie)(e:Edge):∀ k,e∈trs ts k→∃ i,i<k∧e=ed (ts.getD i zT):=by
 intro k
 induction k with
 |zero=>intro h;simp[trs]at h
 |succ k ih=>
  intro h
  rw[AAr]at h
  split at h
  ·rcases AmY.1 h with h|h
   ·obtain⟨i,h1,h2⟩:=ih h;exact⟨i,by omega,h2⟩
   ·simp only[Amv]at h;exact⟨k,by omega,h⟩
  ·obtain⟨i,h1,h2⟩:=ih h;exact⟨i,by omega,h2⟩
def oks(N:Nat)(ts:List Tie):Prop:=∀ i∈List.range ts.length,Mb N ts i
instance (N:Nat)(ts:List Tie):Decidable (oks N ts):=inferInstanceAs (Decidable (∀ i∈List.range ts.length,Mb N ts i))
theorem ARS(N:Nat)(hN:N≤64)(ts:List Tie)(hs:ts.length≤400):
  AX Du many ((N:Int),ts,Il N,ts,AK ts,(0:Int),())=some (if oks N ts then .inr (.inl ((N:Int),ts,()))else .inl (false,())):=by
 have e:=DQ (step:=Du) (fun i (_:Unit)=>((N:Int),ts,Il N,ts,AK ts,(i:Int),())) (List.range ts.length) (fun i a=>if Mb N ts i then .inl a else .inr (.inl (false,()))) (fun _=>.inr (.inl ((N:Int),ts,()))) (fun _ _=>True) (by simp;omega)
  (fun i x a hi hx _=>by
   have:=K7 hx
   subst this
   rw[AnV]at hi
   have step:Du ((N:Int),ts,Il N,ts,AK ts,(x:Int),())=if Mb N ts x then some (.inl ((N:Int),ts,Il N,ts,AK ts,((x+1:Nat):Int),()))else some (.inr (.inl (false,()))):=by
    rw[Du,AM,AR,AmU hi]
    simp only[DT zT hi]
    obtain⟨t,ht⟩:∃ t,ts.getD x zT=t:=⟨_,rfl⟩
    have hk:Mb N ts x↔(0≤t.1∧t.1<t.2.1∧t.2.1<(N:Int)∧0≤t.2.2.1∧t.2.2.1≤Il N∧(x=0∨ahead (ts.getD (x-1) zT) t)):=by unfold Mb;rw[ht]
    rw[ht]
    rw[Ah,A0,A0,Ah,Ah]
    by_cases h1:t.1<0
    ·rw[AmU h1,Amh (fun h=>by obtain⟨q1,q2,q3,q4,q5,_⟩:=hk.1 h;omega)]
    rw[AmS h1]
    by_cases h2:t.2.1≤t.1
    ·rw[AmU h2,Amh (fun h=>by obtain⟨q1,q2,q3,q4,q5,_⟩:=hk.1 h;omega)]
    rw[AmS h2]
    by_cases h3:(N:Int)≤t.2.1
    ·rw[AmU h3,Amh (fun h=>by obtain⟨q1,q2,q3,q4,q5,_⟩:=hk.1 h;omega)]
    rw[AmS h3]
    by_cases h4:t.2.2.1<0
    ·rw[AmU h4,Amh (fun h=>by obtain⟨q1,q2,q3,q4,q5,_⟩:=hk.1 h;omega)]
    rw[AmS h4]
    by_cases h5:Il N<t.2.2.1
    ·rw[AmU h5,Amh (fun h=>by obtain⟨q1,q2,q3,q4,q5,_⟩:=hk.1 h;omega)]
    rw[AmS h5]
    simp only[]
    rw[AS (by omega),Ah]
    by_cases h6:x=0
    ·subst h6
     rw[AmS (by omega),Amk (hk.2 ⟨by omega,by omega,by omega,by omega,by omega,.inl rfl⟩)]
    ·rw[AmU (by omega),Aj (by omega),show((x:Int)-1)=((x-1:Nat):Int) by omega]
     simp only[DT zT (show x-1<ts.length by omega)]
     obtain⟨y,ey,hy⟩:=AMN (ts.getD (x-1) zT) t
     have ey':KS (((ts.getD (x-1) zT).1,((ts.getD (x-1) zT).2.1,((ts.getD (x-1) zT).2.2.1,((ts.getD (x-1) zT).2.2.2.1,())))),(t.1,(t.2.1,(t.2.2.1,(t.2.2.2.1,())))),())=some (y,()):=ey
     simp only[ey',hy]
     by_cases h7:ahead (ts.getD (x-1) zT) t
     ·rw[AmU h7,Amk (hk.2 ⟨by omega,by omega,by omega,by omega,by omega,.inr h7⟩)]
      rfl
     ·rw[AmS h7,Amh (fun h=>by rcases(hk.1 h).2.2.2.2.2 with h|h;exact h6 h;exact h7 h)]
      rfl
   by_cases h:Mb N ts x
   ·rw[Amk h]at step ⊢
    refine⟨fun m' h' => ?_,fun r h'=>(by cases h')⟩
    cases h'
    exact⟨step,trivial⟩
   ·rw[Amh h]at step ⊢
    refine⟨fun m' h'=>(by cases h'),fun r h' => ?_⟩
    cases h'
    exact step)
  (fun a _=>by rw[Du,AnV,AM,AR,AmS (by omega)]) () trivial
 have e':AX Du many ((N:Int),ts,Il N,ts,AK ts,(0:Int),())=_:=e
 rw[e',AN8 (Mb N ts) (fun _ a=>a)]
 rfl
theorem Rh(N:Nat)(hN:N≤64)(ts:List Tie)(hs:ts.length≤400):
  AX Cx many ((N:Int),ts,[],(0:Int),())=some (if oks N ts then .inr (.inl ((N:Int),ts,trs ts ts.length,()))else .inl (false,())):=by
 have e:=DQ (step:=Cx) (fun i (a:List Edge)=>((N:Int),ts,a,(i:Int),())) (List.range ts.length) (fun i a=>if Mb N ts i then .inl (if(ts.getD i zT).2.2.2.1=true then a++[ed (ts.getD i zT)]else a)else .inr (.inl (false,()))) (fun a=>.inr (.inl ((N:Int),ts,a,()))) (fun i a=>a.length≤i) (by simp;omega)
  (fun i x a hi hx ha=>by
   have:=K7 hx
   subst this
   rw[AnV]at hi
   have step:Cx ((N:Int),ts,a,(x:Int),())=if Mb N ts x then some (.inl ((N:Int),ts,if(ts.getD x zT).2.2.2.1=true then a++[ed (ts.getD x zT)]else a,((x+1:Nat):Int),()))else some (.inr (.inl (false,()))):=by
    rw[Cx,AM,AR,AmU hi]
    simp only[DT zT hi,Aar N hN]
    obtain⟨t,ht⟩:∃ t,ts.getD x zT=t:=⟨_,rfl⟩
    have hk:Mb N ts x↔(0≤t.1∧t.1<t.2.1∧t.2.1<(N:Int)∧0≤t.2.2.1∧t.2.2.1≤Il N∧(x=0∨ahead (ts.getD (x-1) zT) t)):=by unfold Mb;rw[ht]
    rw[ht]
    rw[Ah,A0,A0,Ah,Ah]
    by_cases h1:t.1<0
    ·rw[AmU h1,Amh (fun h=>by obtain⟨q1,q2,q3,q4,q5,_⟩:=hk.1 h;omega)]
    rw[AmS h1]
    by_cases h2:t.2.1≤t.1
    ·rw[AmU h2,Amh (fun h=>by obtain⟨q1,q2,q3,q4,q5,_⟩:=hk.1 h;omega)]
    rw[AmS h2]
    by_cases h3:(N:Int)≤t.2.1
    ·rw[AmU h3,Amh (fun h=>by obtain⟨q1,q2,q3,q4,q5,_⟩:=hk.1 h;omega)]
    rw[AmS h3]
    by_cases h4:t.2.2.1<0
    ·rw[AmU h4,Amh (fun h=>by obtain⟨q1,q2,q3,q4,q5,_⟩:=hk.1 h;omega)]
    rw[AmS h4]
    by_cases h5:Il N<t.2.2.1
    ·rw[AmU h5,Amh (fun h=>by obtain⟨q1,q2,q3,q4,q5,_⟩:=hk.1 h;omega)]
    rw[AmS h5]
    simp only[AM]
    have hfit:fits ((a.length:Int)+(([(t.1,t.2.1,())]:List Edge).length:Int))=true:=BY (by simp;omega)
    rw[AS (by omega),Ah]
    by_cases h6:x=0
    ·subst h6
     rw[AmS (by omega),Amk (hk.2 ⟨by omega,by omega,by omega,by omega,by omega,.inl rfl⟩)]
     cases ht4:t.2.2.2.1
     ·simp
     ·simp only[hfit]
      simp[ed,A2]
    ·rw[AmU (by omega),Aj (by omega),show((x:Int)-1)=((x-1:Nat):Int) by omega]
     simp only[DT zT (show x-1<ts.length by omega),Ar]
     generalize ts.getD (x-1) zT=p at hk ⊢
     rw[Ah,A0]
     by_cases h7:t.1<p.1
     ·rw[AmU h7,Amh (fun h=>by rcases(hk.1 h).2.2.2.2.2 with h|h|h<;>omega)]
     rw[AmS h7]
     by_cases h8:p.1=t.1
     ·rw[AmU h8]
      by_cases h9:t.2.1≤p.2.1
      ·rw[AmU h9,Amh (fun h=>by rcases(hk.1 h).2.2.2.2.2 with h|h|h<;>omega)]
      rw[AmS h9,Amk (hk.2 ⟨by omega,by omega,by omega,by omega,by omega,.inr (.inr ⟨h8,by omega⟩)⟩)]
      cases ht4:t.2.2.2.1
      ·simp
      ·simp only[hfit]
       simp[ed,A2]
     ·rw[AmS h8,Amk (hk.2 ⟨by omega,by omega,by omega,by omega,by omega,.inr (.inl (by omega))⟩)]
      cases ht4:t.2.2.2.1
      ·simp
      ·simp only[hfit]
       simp[ed,A2]
   by_cases h:Mb N ts x
   ·rw[Amk h]at step ⊢
    refine⟨fun m' h' => ?_,fun r h'=>(by cases h')⟩
    cases h'
    refine⟨step,?_⟩
    split
    ·rw[Amc];simp;omega
    ·omega
   ·rw[Amh h]at step ⊢
    refine⟨fun m' h'=>(by cases h'),fun r h' => ?_⟩
    cases h'
    exact step)
  (fun a _=>by rw[Cx,AnV,AM,AR,AmS (by omega)]) [] (Amd _)
 have e':AX Cx many ((N:Int),ts,[],(0:Int),())=_:=e
 rw[e',AN8 (Mb N ts) (fun i a=>if(ts.getD i zT).2.2.2.1=true then a++[ed (ts.getD i zT)]else a)]
 rfl
end Go.Pev.Pl
end
end
section
section
namespace Go.Pev.Pl
theorem AZV{N:Nat}{ts:List Tie}(hN:N≤64){i:Nat}(h:Mb N ts i):In (N:Int) (ed (ts.getD i zT)).1∧In (N:Int) (ed (ts.getD i zT)).2.1:=by
 obtain⟨q1,q2,q3,_⟩:=h
 exact⟨⟨by omega,by omega,q1,by show(ts.getD i zT).1<_;omega⟩,⟨by omega,by omega,by show 0≤(ts.getD i zT).2.1;omega,q3⟩⟩
theorem ATb{N:Nat}{ts:List Tie}(hN:N≤64)(h:oks N ts):∀ e∈trs ts ts.length,In (N:Int) e.1∧In (N:Int) e.2.1:=by
 intro e he
 obtain⟨i,hi,rfl⟩:=Aie ts e _ he
 exact AZV hN (h i (by simp[hi]))
theorem All{N:Nat}{ts:List Tie}(hN:N≤64)(h:oks N ts):∀ e∈ts.map ed,In (N:Int) e.1∧In (N:Int) e.2.1:=by
 intro e he
 obtain⟨t,ht,rfl⟩:=Amo.1 he
 obtain⟨i,hi,rfl⟩:=An6 ht
 have:=AZV hN (h i (by simp[hi]))
 simpa [hi]using this
theorem AWc{N:Nat}(ts:List Tie)(hs:ts.length≤400)(h:oks N ts):QM (((N:Int),(ts,())),(0:Int),())=some (trs ts ts.length,()):=by
 rw[WC,NO]
 have e:=DQ (step:=Cm) (fun i (a:List Edge)=>((0:Int),a,ts,AK ts,(i:Int),())) (List.range ts.length) (fun i a=>.inl (if(ts.getD i zT).2.2.2.1=true then a++[ed (ts.getD i zT)]else a)) (fun a=>.inl (a,())) (fun i a=>a.length≤i) (by simp;omega)
  (fun i x a hi hx ha=>by
   refine⟨fun m' h' => ?_,fun r h'=>(by cases h')⟩
   cases h'
   have:=K7 hx
   subst this
   rw[AnV]at hi
   have hlv:=(h x (by simp[hi])).2.2.2.1
   constructor
   ·rw[Cm,AM,AR,AmU hi]
    simp only[DT zT hi,AM]
    have hfit:fits ((a.length:Int)+(([((ts.getD x zT).1,(ts.getD x zT).2.1,())]:List Edge).length:Int))=true:=BY (by simp;omega)
    rw[AS (by omega),A0,AmU hlv]
    cases ht4:(ts.getD x zT).2.2.2.1
    ·simp
    ·simp only[hfit]
     simp[ed,A2]
   ·split
    ·rw[Amc];simp;omega
    ·omega)
  (fun a _=>by rw[Cm,AnV,AM,AR,AmS (by omega)]) [] (Amd _)
 have e':AX Cm many ((0:Int),[],ts,AK ts,(0:Int),())=_:=e
 simp only[e']
 rw[Ba (fun i a=>if(ts.getD i zT).2.2.2.1=true then a++[ed (ts.getD i zT)]else a)]
 rfl
def cnt(out:List Int)(N:Nat):Nat:=((List.range N).filter fun k=>decide (out.getD k 0=(k:Int))).length
theorem APR{N:Nat}{rings:List (List Int)}{l:List Edge}{out:List Int}(h:FC (N:Int) rings l)(hc:Xp (N:Int) l out):rings.length=cnt out N:=by
 have hsz:=h.fr.sz
 have hp:(rings.map hd).Perm (((List.range N).filter fun k=>decide (out.getD k 0=(k:Int))).map fun(k:Nat)=>(k:Int)):=by
  rw[List.perm_ext_iff_of_nodup]
  ·intro a
   simp only[Amo,AnG,An0,AmV]
   constructor
   ·rintro⟨A,hA,rfl⟩
    have gA:=h.fr.rg A hA
    have ih:In (N:Int) (hd A):=Ou gA
    have hh:=We gA.2.1
    have:=AR0 h hc hA ih hh
    obtain⟨_,_,a1,a2⟩:=ih
    refine⟨(hd A).toNat,⟨by omega,?_⟩,by omega⟩
    rw[show out.getD (hd A).toNat 0=cl out (hd A)from rfl,← this]
    omega
   ·rintro⟨k,⟨hk,ho⟩,rfl⟩
    have ik:In (N:Int) (k:Int):=⟨hsz.1,hsz.2,by omega,by omega⟩
    obtain⟨A,hA,hm⟩:=h.fr.cov _ ik
    refine⟨A,hA,?_⟩
    rw[AR0 h hc hA ik hm]
    unfold cl
    rw[AnJ];exact ho
  ·exact(Anx.2 h.fr.up).imp (fun h=>by omega)
  ·refine List.Pairwise.map _ (S:=fun a b=>a≠b) (R:=fun a b=>a≠b) (fun a b h h'=>h (by omega)) ?_
   exact(Ape).filter _
 have:=hp.length_eq
 rw[Ano,Ano]at this
 exact this
theorem PI(N:Nat)(hN:N≤64)(p:List Tie)(q:List Edge)(out:List Int)(ho:out.length=N):AX Da many ((N:Int),p,q,out,(0:Int),(0:Int),())=some (.inl ((N:Int),p,q,(cnt out N:Int),())):=by
 have e:=DQ (step:=Da) (fun i (a:Nat)=>((N:Int),p,q,out,(a:Int),(i:Int),())) (List.range N) (fun k a=>.inl (if out.getD k 0=(k:Int)then a+1 else a)) (fun a=>.inl ((N:Int),p,q,(a:Int),())) (fun i a=>a≤i) (by simp;omega)
  (fun i x a hi hx ha=>by
   refine⟨fun m' h' => ?_,fun r h'=>(by cases h')⟩
   cases h'
   have:=K7 hx
   subst this
   rw[AnV]at hi
   constructor
   ·rw[Da,AR,AmU hi]
    simp only[DT 0 (show x<out.length by omega),Fv,Ar]
    rw[AS (by omega),AS (by omega)]
    by_cases h:out.getD x 0=(x:Int)
    ·rw[AmU h,Amk h]
    ·rw[AmS h,Amh h]
   ·split<;>omega)
  (fun a _=>by rw[Da,AnV,AR,AmS (by omega)]) 0 (Amd _)
 have e':AX Da many ((N:Int),p,q,out,(0:Int),(0:Int),())=_:=e
 rw[e',Ba (fun k a=>if out.getD k 0=(k:Int)then a+1 else a)]
 have key:∀ (xs:List Nat) (a:Nat),xs.foldl (fun a k=>if out.getD k 0=(k:Int)then a+1 else a) a=a+(xs.filter fun k=>decide (out.getD k 0=(k:Int))).length:=by
  intro xs
  induction xs with
  |nil=>intro a;rfl
  |cons x xs ih=>
   intro a
   rw[AnM,ih,AnR]
   by_cases h:out.getD x 0=(x:Int)
   ·simp only[h,Am7,Amg,Amb];omega
   ·simp only[h,Amn,Amu,Amq]
 rw[key,AnU]
 rfl
theorem AFU(n:Int)(ts:List Tie)(hl:ts.length<4611686018427387904):∃ b:Bool,E0 ((n,(ts,())),())=some (b,())∧LM ((n,(ts,())),())=some (b,())∧(b=true→∃ N:Nat,n=(N:Int)∧1≤N∧N≤64∧ts.length≤400∧oks N ts):=by
 by_cases hn:¬ (1≤n∧n≤64)
 ·refine⟨false,?_,?_,fun h=>by cases h⟩
  ·rw[FX,Eg,Ah,Ah]
   by_cases h:n<1
   ·simp only[AmU h]
   ·simp only[AmS h,AmU (show 64<n by omega)]
  ·rw[KQ,H4]
   simp only[WD,NP,A0]
   by_cases h:1≤n
   ·simp only[AmU h,AmS (show ¬ n≤64 by omega),Am2]
   ·simp only[AmS h,Am2]
 have hn:=Ao3.1 hn
 obtain⟨N,rfl⟩:=Ame (show 0≤n by omega)
 have hsz:WE ((N:Int),())=some (true,()):=by
  simp only[WD,NP,A0,AmU hn.1,AmU hn.2]
 by_cases h4:¬ ts.length≤400
 ·refine⟨false,?_,?_,fun h=>by cases h⟩
  ·rw[FX,Eg]
   simp only[Ah,AM]
   rw[AmS (show ¬ (N:Int)<1 by omega),AmS (show ¬ 64<(N:Int) by omega),AmU (show 400<(ts.length:Int) by omega)]
  ·rw[KQ,H4]
   simp only[hsz,Amf,Ah,AM]
   rw[AmU (show 400<(ts.length:Int) by omega)]
 have h4:=Ao3.1 h4
 have R:=Rh N (by omega) ts h4
 have L:=ARS N (by omega) ts h4
 by_cases ho:¬ oks N ts
 ·rw[Amh ho]at R L
  refine⟨false,?_,?_,fun h=>by cases h⟩
  ·rw[FX,Eg]
   simp only[Ah,AM]
   rw[AmS (show ¬ (N:Int)<1 by omega),AmS (show ¬ 64<(N:Int) by omega),AmS (show ¬ 400<(ts.length:Int) by omega)]
   simp only[R]
  ·rw[KQ,H4]
   simp only[hsz,Amf,Ah,AM,ARO N (by omega)]
   rw[AmS (show ¬ 400<(ts.length:Int) by omega)]
   rw[AM]at L
   simp only[L]
 have ho:=Ao3.1 ho
 rw[Amk ho]at R L
 have hin:=ATb (show N≤64 by omega) ho
 have hlen:=AJs ts ts.length
 obtain⟨out,hc,hcl⟩:=GS (N:Int) (trs ts ts.length) hn (by omega) hin
 rcases(AZ1 (N:Int) (trs ts ts.length) hn (by omega)).symm with⟨hno,_⟩|⟨_,rings,hf,hfc⟩
 ·exact absurd hin hno
 have hcount:=APR hfc hcl
 have hol:out.length=N:=by have:=hcl.len;omega
 refine⟨decide ((cnt out N:Int)=(N:Int)-(trs ts ts.length).length),?_,?_,fun _=>⟨N,rfl,by omega,by omega,h4,ho⟩⟩
 ·rw[FX,Eg]
  simp only[Ah,AM]
  rw[AmS (show ¬ (N:Int)<1 by omega),AmS (show ¬ 64<(N:Int) by omega),AmS (show ¬ 400<(ts.length:Int) by omega)]
  simp only[R,hc,PI N (by omega) _ _ out hol,Ar]
  rw[Aj (by omega)]
 ·rw[KQ,H4]
  simp only[hsz,Amf,Ah,AM,ARO N (by omega)]
  rw[AmS (show ¬ 400<(ts.length:Int) by omega)]
  rw[AM]at L
  simp only[L,AWc ts h4 ho,hf,Og,Ar,hcount]
  rw[Aj (by omega)]
end Go.Pev.Pl
end
section
namespace Go.Pev.Pl
theorem Xp.unique{N:Nat}{l:List Edge}{a b:List Int}(h1:1≤N)(h2:N≤64)(ha:Xp (N:Int) l a)(hb:Xp (N:Int) l b):a=b:=by
 have la:=ha.len
 have lb:=hb.len
 refine Lj (0:Int) (by omega) fun k hk => ?_
 have ik:In (N:Int) (k:Int):=⟨by omega,by omega,by omega,by omega⟩
 have e1:=ha.least _ _ ik (hb.isin _ ik) (hb.con _ ik)
 have e2:=hb.least _ _ ik (ha.isin _ ik) (ha.con _ ik)
 unfold cl at e1 e2
 rw[AnJ]at e1 e2
 omega
def InV(N:Nat)(x:Int):Prop:=0≤x∧x<(N:Int)
instance (N:Nat)(x:Int):Decidable (InV N x):=inferInstanceAs (Decidable (_∧_))
end Go.Pev.Pl
end
section
namespace Go.Pev.Pl
end Go.Pev.Pl
end
section
namespace Go.Pev.Pl
def AkB(l:List Edge)(u v:Int):Prop:=((u,(v,())):Edge)∈l∨((v,(u,())):Edge)∈l
instance (l:List Edge)(u v:Int):Decidable (AkB l u v):=inferInstanceAs (Decidable (_∨_))
def AjI(N:Nat)(l:List Edge)(u:Nat):List Edge:=((List.range (N-(u+1))).filter fun i=>decide (AkB l (u:Int) ((u+1+i:Nat):Int))).map fun(i:Nat)=>((u:Int),((u+1+i:Nat):Int),())
def ACK(N:Nat)(l:List Edge):List Edge:=(List.range N).flatMap fun u=>AjI N l u
end Go.Pev.Pl
end
section
namespace Go.Pev.Pl
def Kb(N:Nat)(ts:List Tie)(l:List Edge):List Edge:=(ACK N l).filter fun x => !decide (x∈ts.map ed)
def ACF(l:List Tie)(t:Tie):List Tie:=l.take (l.findIdx fun x => !decide (ahead x t))++t::l.drop (l.findIdx fun x => !decide (ahead x t))
end Go.Pev.Pl
end
section
namespace Go.Pev.Pl
def valid(N:Nat)(t:Tie):Prop:=0≤t.1∧t.1<t.2.1∧t.2.1<(N:Int)∧0≤t.2.2.1∧t.2.2.1≤Il N
theorem ahead.trans{a b c:Tie}(h:ahead a b)(h':ahead b c):ahead a c:=by
 unfold ahead at *
 omega
theorem Z6(N:Nat)(ts:List Tie):oks N ts↔(∀ t∈ts,valid N t)∧ts.Pairwise ahead:=by
 constructor
 ·intro h
  have hv:∀ i,i<ts.length→Mb N ts i:=fun i hi=>h i (by simpa using hi)
  refine⟨fun t ht => ?_,?_⟩
  ·obtain⟨i,hi,rfl⟩:=An6 ht
   obtain⟨q1,q2,q3,q4,q5,_⟩:=hv i hi
   simp only[AmW,AmZ hi,Am4]at q1 q2 q3 q4 q5
   exact⟨q1,q2,q3,q4,q5⟩
  ·have key:∀ (d i:Nat),i+d+1<ts.length→ahead (ts.getD i zT) (ts.getD (i+d+1) zT):=by
    intro d
    induction d with
    |zero=>
     intro i hi
     obtain⟨_,_,_,_,_,q⟩:=hv (i+0+1) hi
     rcases q with q|q
     ·omega
     ·simpa using q
    |succ d ih=>
     intro i hi
     have h1:=ih i (by omega)
     obtain⟨_,_,_,_,_,q⟩:=hv (i+(d+1)+1) hi
     rcases q with q|q
     ·omega
     ·rw[show i+(d+1)+1-1=i+d+1 by omega]at q
      exact h1.trans q
   rw[An5]
   intro i j hi hj hij
   have:=key (j-i-1) i (by omega)
   rw[show i+(j-i-1)+1=j by omega]at this
   simpa only[AmW,AmZ hi,AmZ hj,Am4]using this
 ·rintro⟨h1,h2⟩ i hi
  have hi:i<ts.length:=by simpa using hi
  have e:∀ j (hj:j<ts.length),ts.getD j zT=ts[j]:=fun j hj=>by
   simp only[AmW,AmZ hj,Am4]
  obtain⟨q1,q2,q3,q4,q5⟩:=h1 ts[i] (An4 hi)
  unfold Mb
  rw[e i hi]
  refine⟨q1,q2,q3,q4,q5,?_⟩
  by_cases h0:i=0
  ·exact .inl h0
  ·right
   rw[e (i-1) (by omega)]
   exact(An5.1 h2) (i-1) i (by omega) hi (by omega)
theorem AIJ(l:List Tie)(t:Tie):(ACF l t).Perm (t::l):=by
 unfold ACF
 refine List.perm_middle.trans ?_
 rw[AnP]
theorem Abq{l:List Tie}{t:Tie}(h:l.Pairwise ahead)(hn:∀ x∈l,¬ (x.1=t.1∧x.2.1=t.2.1)):(ACF l t).Pairwise ahead:=by
 induction l with
 |nil=>simp[ACF]
 |cons a l ih=>
  rw[AnI]at h
  have hna:=hn a (by simp)
  have hnl:∀ x∈l,¬ (x.1=t.1∧x.2.1=t.2.1):=fun x hx=>hn x (by simp[hx])
  by_cases ha:ahead a t
  ·have e:ACF (a::l) t=a::ACF l t:=by
    unfold ACF
    rw[Aoo]
    simp[ha]
   rw[e,AnI]
   refine⟨fun x hx => ?_,ih h.2 hnl⟩
   rcases Ama.1 ((AIJ l t).mem_iff.1 hx)with rfl|hx
   ·exact ha
   ·exact h.1 x hx
  ·have e:ACF (a::l) t=t::a::l:=by
    unfold ACF
    rw[Aoo]
    simp[ha]
   have hta:ahead t a:=by unfold ahead at *;omega
   rw[e,AnI,AnI]
   refine⟨fun x hx => ?_,h.1,h.2⟩
   rcases Ama.1 hx with rfl|hx
   ·exact hta
   ·exact hta.trans (h.1 x hx)
end Go.Pev.Pl
end
section
namespace Go.Pev.Pl
theorem AWR(N:Nat)(l:List Edge)(x:Edge):x∈ACK N l↔0≤x.1∧x.1<x.2.1∧x.2.1<(N:Int)∧AkB l x.1 x.2.1:=by
 unfold ACK AjI
 simp only[Apd,Amo,AnG,An0,AmV]
 constructor
 ·rintro⟨u,hu,i,⟨hi,he⟩,rfl⟩
  exact⟨by show(0:Int)≤(u:Int);omega,by show(u:Int)<((u+1+i:Nat):Int);omega,by show((u+1+i:Nat):Int)<(N:Int);omega,he⟩
 ·obtain⟨a,b,⟨⟩⟩:=x
  rintro⟨h1,h2,h3,h4⟩
  simp only at h1 h2 h3 h4
  obtain⟨u,rfl⟩:=Ame h1
  obtain⟨v,rfl⟩:=Ame (show 0≤b by omega)
  refine⟨u,by omega,v-(u+1),⟨by omega,?_⟩,?_⟩
  ·rw[show u+1+(v-(u+1))=v by omega];exact h4
  ·rw[show u+1+(v-(u+1))=v by omega]
def J0(p x:Edge):Prop:=p.1<x.1∨(p.1=x.1∧p.2.1<x.2.1)
theorem APf(N:Nat)(l:List Edge):(ACK N l).Pairwise J0:=by
 unfold ACK
 rw[List.pairwise_flatMap]
 refine⟨fun u _ => ?_,?_⟩
 ·unfold AjI
  rw[Anx]
  refine ApA _ ?_
  refine List.pairwise_lt_range.imp fun h => ?_
  exact .inr ⟨rfl,by show((u+1+_:Nat):Int)<((u+1+_:Nat):Int);omega⟩
 ·refine List.pairwise_lt_range.imp fun h x hx y hy => ?_
  unfold AjI at hx hy
  simp only[Amo]at hx hy
  obtain⟨i,_,rfl⟩:=hx
  obtain⟨j,_,rfl⟩:=hy
  exact .inl (by simp only;omega)
theorem Vo(N:Nat)(ts:List Tie)(l:List Edge)(x:Edge):x∈Kb N ts l↔(0≤x.1∧x.1<x.2.1∧x.2.1<(N:Int)∧AkB l x.1 x.2.1)∧¬ x∈ts.map ed:=by
 unfold Kb
 rw[AnG,AWR]
 simp
theorem AXy(N:Nat)(ts:List Tie)(l:List Edge):(Kb N ts l).Pairwise J0:=(APf N l).filter _
end Go.Pev.Pl
end
section
namespace Go.Pev.Pl
open Tok
instance (n v:Int):Decidable (In n v):=inferInstanceAs (Decidable (_∧_))
instance (n:Int):Decidable (Sz n):=inferInstanceAs (Decidable (_∧_))
theorem H8(n v:Int):AED (n,v,())=some (decide (In n v),()):=by
 rw[AZp,AMS]
 simp only[A0,Ah]
 by_cases h1:1≤n<;>by_cases h2:n≤64<;>by_cases h3:0≤v<;>simp[In,h1,h2,h3]
theorem AJH(n u v:Int):AFZ (n,u,v,())=some (D8 n u v,()):=by
 rw[ASy,AAH]
 simp only[H8,D8,Ar]
 by_cases h1:In n u
 ·by_cases h2:In n v
  ·by_cases h3:u=v
   ·simp[h1,h2,h3]
   ·obtain⟨a1,a2,a3,a4⟩:=h1
    obtain⟨b1,b2,b3,b4⟩:=h2
    have hb:=Fe a1 a2 a3 (by omega)
    have e1:u*n=n*u:=Int.mul_comm _ _
    have e2:n*(u+1)=n*u+n:=by rw[ApU,ApV]
    rw[e1,Aj (n:=n*u) (by omega),Aj (n:=n+n*u) (by omega),Aj (n:=n+n*u+v) (by omega),e2]
    have e3:n+n*u+v=n*u+n+v:=by omega
    simp[In,a1,a2,a3,a4,b3,b4,h3,e3]
  ·simp[h1,h2]
 ·simp[h1]
theorem Xr(n t:Int)(ht:-9223372036854775808≤t∧t≤9223372036854775807):OJ (n,t,())=some (O7 (B8 n t)):=by
 rw[ABB,OI]
 simp only[H8,Ah,A0]
 by_cases hi:In n t
 ·simp only[hi,Amg,B8,Am7,O7]
 ·simp only[hi,Amu]
  by_cases h1:n<1
  ·have hs:¬ Sz n:=fun h=>by have:=h.1;omega
   simp only[h1,Amg,B8,hi,Amn,hs,Aoc,O7]
  ·simp only[h1,Amu]
   by_cases h2:64<n
   ·have hs:¬ Sz n:=fun h=>by have:=h.2;omega
    simp only[h2,Amg,B8,hi,Amn,hs,Aoc,O7]
   ·have a1:1≤n:=by omega
    have a2:n≤64:=by omega
    have hb:=Fe (u:=n) a1 a2 (by omega) (by omega)
    have e3:n*(n+1)=n*n+n:=by rw[ApU,ApV]
    rw[Aj (n:=n*n) (by omega),Aj (n:=n+n*n) (by omega)]
    simp only[h2,Amu]
    by_cases h3:t<n
    ·have:¬ n≤t:=by omega
     simp only[h3,Amg,B8,hi,Amn,this,Aoc,and_false,O7]
    ·simp only[h3,Amu]
     by_cases h4:n+n*n≤t
     ·have:¬ t<n*(n+1):=by omega
      simp only[h4,Amg,B8,hi,Amn,this,Aoc,and_false,O7]
     ·obtain⟨d1,d2,d3⟩:=AMy (t:=t) ⟨a1,a2⟩ (by omega) (by omega)
      have q1:=d1.2.2.1
      have q2:=d1.2.2.2
      rw[Aj (n:=t-n) (by omega)]
      have hq:(t-n).tdiv n=t/n-1:=by
       rw[AoT (by omega)]
       have:=Int.add_mul_ediv_right t (-1) (show n≠0 by omega)
       rw[show t-n=t + -1*n by omega,this];omega
      have hm:(t-n).tmod n=t % n:=by
       rw[Int.tmod_eq_emod_of_nonneg (by omega)]
       have:=Int.add_mul_emod_self_right t (-1) n
       rw[show t-n=t + -1*n by omega,this]
      simp only[h4,Amu,UT,UU,ALB,ACC]
      rw[Amh (by omega),Amh (by omega),hq,hm,Aj (n:=t/n-1) (by omega)]
      simp only[]
      rw[Ar,B8,Amh hi]
      by_cases h5:t/n-1=t % n
      ·rw[Amh (by intro h;exact h.2.2.2 h5),AmU h5];rfl
      ·rw[Amk ⟨⟨a1,a2⟩,by omega,by omega,h5⟩,AmS h5];rfl
theorem ARU(xs ys:List (List Int))(hs:xs.length<9223372036854775808)(hi:∀ x∈xs,x.length<9223372036854775808):Ry (xs,ys,())=some (decide (xs=ys),()):=by
 rw[ADs,Oa,AEF]
 by_cases hl:xs.length=ys.length
 ·rw[AmU hl]
  simp only[Amf]
  rcases APD (step:=Df) (fun i=>(xs,ys,((i:Nat):Int),())) xs.length (fun i => !decide (xs.getD i []=ys.getD i [])) (fun _=>.inl (false,())) (.inr (.inl ())) hs (fun i hii=>by
   have hm:(xs.getD i []).length<9223372036854775808:=hi _ (by simp[hii])
   rw[Df,AM,AR,AmU hii]
   simp (disch:=first|omega|exact hm) only[DT ([]:List Int),AS,AWz]
   by_cases h:xs.getD i []=ys.getD i []
   ·rw[AmU h];simp
   ·rw[AmS h];simp) (by rw[Df,AM,AR,AmS (by omega)])with⟨k,hk,hP,_,e⟩|⟨h,e⟩
  ·have e':AX Df many (xs,ys,(0:Int),())=_:=e
   rw[e']
   have:xs≠ys:=YU ([]:List Int) (j:=k) (by simpa using hP)
   simp[this]
  ·have e':AX Df many (xs,ys,(0:Int),())=_:=e
   rw[e']
   have:xs=ys:=Lj ([]:List Int) hl fun j hj=>by simpa using h j hj
   simp[this]
 ·rw[AmS hl]
  have:xs≠ys:=fun e=>hl (by rw[e])
  simp[this]
theorem ARL(N:Nat)(hN:N≤64)(c:Int):∀ (k i n:Nat),i+k=N→k<n→AY Ff n ((N:Int),c,(N:Int),BR i,(i:Int),())=some (.inl (c,(N:Int),BR N,())):=by
 intro k
 induction k with
 |zero=>
  intro i n hi hn
  obtain⟨n,rfl⟩:∃ k,n=k+1:=⟨n-1,by omega⟩
  have:i=N:=by omega
  subst this
  rw[AY,Ff,AR,AmS (by omega)]
 |succ k ih=>
  intro i n hi hn
  obtain⟨n,rfl⟩:∃ k,n=k+1:=⟨n-1,by omega⟩
  rw[AY,Ff,AR,AmU (by omega)]
  simp only[AM,Xy,Amb,Amw]
  rw[BY (by omega),AS (by omega)]
  simp only[C9,← Ra]
  exact ih (i+1) n (by omega) (by omega)
theorem AWZ(n:Int):WB (n,())=some (G9 n):=by
 have hm:4294967296<many:=by simp only[many];omega
 rw[AIj,Rx,G9]
 simp only[Ah]
 by_cases h1:n<1
 ·have:¬ Sz n:=fun h=>by have:=h.1;omega
  simp[h1,this]
 ·by_cases h2:64<n
  ·have:¬ Sz n:=fun h=>by have:=h.2;omega
   simp[h1,h2,this]
  ·obtain⟨N,rfl⟩:=Ame (show 0≤n by omega)
   have hS:Sz (N:Int):=⟨by omega,by omega⟩
   have e:=ARL N (by omega) 0 N 0 many (by omega) (by omega)
   have e':AY Ff many ((N:Int),0,(N:Int),[],(0:Int),())=_:=e
   simp[h1,h2,hS,As,e']
end Go.Pev.Pl
end
section
namespace Go.Pev.Pl
theorem Gb(xs:List Int)(t:Int)(hs:xs.length<9223372036854775808):EH (xs,t,())=some (pos xs t,()):=by
 rw[ACY,OX]
 have e:=MW (step:=ER) (fun i=>(xs,t,(i:Int),())) xs (fun x=>decide (x=t)) (fun i=>.inl ((i:Int),())) (.inr (.inl ())) hs
  (fun i x hi hx=>by
   rw[ER,AM,AR,AmU hi]
   simp only[Ak hx,Ar]
   by_cases h:x=t
   ·simp[h]
   ·simp only[h,Amu];rw[AS (by omega)];simp)
  (by rw[ER,AM,AR,AmS (by omega)])
 have e':AX ER many (xs,t,(0:Int),())=_:=e
 rw[e',AaD,pos]
 by_cases h:t∈xs<;>simp[h]
instance (xs:List Int):Decidable (Rt xs):=inferInstanceAs (Decidable (_∧_∧_))
theorem M5(xs:List Int):K5 (xs,())=some (decide (Rt xs),()):=by
 rw[AB9,OQ,AM,Ah]
 by_cases hl:xs.length≤1000
 ·rw[AmS (by omega)]
  simp only[]
  rcases APD (step:=Db) (fun i=>(xs,((i:Nat):Int),())) xs.length (fun i=>decide (xs.getD i 0<0)||decide (10000<xs.getD i 0)||decide (xs.getD i 0∈xs.take i)) (fun _=>.inl (false,())) (.inr (.inl ())) (by omega) (fun i hi=>by
   rw[Db,AM,AR,AmU hi]
   have hpl:EH (xs.take i,xs.getD i 0,())=some (pos (xs.take i) (xs.getD i 0),()):=Gb _ _ (by simp;omega)
   simp (disch:=omega) only[DT (0:Int),JV,hpl,AS,Ah,A0]
   by_cases h1:xs.getD i 0<0
   ·simp only[h1,Amg];simp
   ·by_cases h2:10000<xs.getD i 0
    ·simp only[h1,h2,Amg,Amu];simp
    ·by_cases h3:xs.getD i 0∈xs.take i
     ·obtain⟨k,e,_⟩:=ACI h3
      rw[e]
      simp only[h1,h2,h3,Amg,Amu];simp
     ·rw[OS h3]
      simp only[h1,h2,h3,Amu];simp) (by rw[Db,AM,AR,AmS (by omega)])with⟨k,hk,hP,_,e⟩|⟨h,e⟩
  ·have e':AX Db many (xs,(0:Int),())=_:=e
   rw[e']
   have:¬ Rt xs:=by
    rintro⟨_,h1,h2⟩
    have hm:xs.getD k 0∈xs:=by
     rw[AmW,AmZ hk,Am4];exact An4 hk
    have:=h1 _ hm
    have h3:=(Ru xs).1 h2 k hk
    have c1:¬ xs.getD k 0<0:=by omega
    have c2:¬ 10000<xs.getD k 0:=by omega
    rw[AmS c1,AmS c2,AmS h3]at hP
    cases hP
   simp[this]
  ·have e':AX Db many (xs,(0:Int),())=_:=e
   rw[e']
   have:Rt xs:=by
    have key:∀ j,j<xs.length→¬ xs.getD j 0<0∧¬ 10000<xs.getD j 0∧xs.getD j 0∉xs.take j:=fun j hj=>by
     have:=h j hj
     rw[AoZ,AoZ,AnK,AnK,AnK]at this
     exact⟨this.1.1,this.1.2,this.2⟩
    refine⟨hl,fun x hx => ?_,(Ru xs).2 fun j hj=>(key j hj).2.2⟩
    obtain⟨j,hj,rfl⟩:=An6 hx
    obtain⟨k1,k2,_⟩:=key j hj
    rw[AmW,AmZ hj,Am4]at k1 k2
    omega
   simp[this]
 ·rw[AmU (by omega)]
  have:¬ Rt xs:=fun h=>hl h.1
  simp[this]
theorem Qc(xs:List Int)(t:Int)(hs:xs.length<9223372036854775808):Qd (xs,t,())=some (I9 xs t):=by
 rw[AI0,SQ,I9]
 simp only[Gb xs t hs,M5]
 by_cases hr:Rt xs
 ·have hl:=hr.1
  simp only[hr,Amg,Amf,Aom]
  by_cases h:t∈xs
  ·have hk:xs.findIdx (fun x=>decide (x=t))<xs.length:=Aog.2 ⟨t,h,by simp⟩
   rw[pos,Amk h,Amk h,A5,rot]
   generalize xs.findIdx (fun x=>decide (x=t))=k at *
   rw[Ah,AmS (by omega)]
   simp only[Ey (AoE hk),JV (AoE hk)]
   rw[BY (by simp only[AM,Amw,Am9];omega)]
   simp only[]
   rw[BY (by simp only[AM,C9,Am5,Amm,Am9];omega)]
   simp only[C9,Am5]
  ·rw[OS h,Amh h,Ah]
   simp
 ·simp[hr]
theorem X2(xs:List Int):OV (xs,())=some (plain xs,()):=by
 rw[ACO,OU,plain]
 simp only[M5]
 by_cases hr:Rt xs
 ·have hl:=hr.1
  simp only[hr,Amg,Amf,Aom]
  cases xs with
  |nil=>simp[AM,B4]
  |cons x xs=>
   rw[AM,Ar,AmS (by simp only[Amb];omega)]
   have i0:idx (x::xs) (0:Int)=some x:=by rw[E6];rfl
   simp only[i0]
   have e:=DQ (step:=EO) (fun i (a:Int)=>(x::xs,a,(i:Int),())) (x::xs) (fun y a=>.inl (CJ a y)) (fun a=>.inl (x::xs,a,())) (fun _ _=>True) (by omega)
    (fun i y a hi hy _=>by
     refine⟨fun m' h' => ?_,fun r h'=>by cases h'⟩
     cases h'
     rw[EO,AM,AR,AmU hi]
     simp only[Ak hy]
     rw[AS (by omega)]
     exact⟨rfl,trivial⟩)
    (fun a _=>by rw[EO,AM,AR,AmS (by omega)]) x trivial
   have e':AX EO many (x::xs,x,(0:Int),())=_:=e
   rw[e',Ba]
   have hmin:(x::xs).foldl (fun a y=>CJ a y) x=Gf (x::xs):=by
    rw[AnM,Gf]
    have:CJ x x=x:=by rw[CJ];split<;>rfl
    rw[this]
   rw[hmin]
   have hm:=(Er (xs:=x::xs) (by simp)).1
   simp only[Qc (x::xs) _ (by omega),I9,hr,hm,and_self,Am7]
   simp
 ·simp[hr]
end Go.Pev.Pl
end
section
namespace Go.Pev.Pl
open Tok
noncomputable instance (n:Int) (xs:List Int):Decidable (TI n xs):=Classical.propDecidable _
end Go.Pev.Pl
end
section
namespace Go.Pev.Pl
open Tok
theorem AKO(n t u:Int)(ht:-9223372036854775808≤t∧t≤9223372036854775807):Mq (n,t,u,())=some (Kt n t u,()):=by
 rw[Xu,Ku,Kt]
 simp only[Xr n t ht,Ar]
 cases B8 n t with
 |none=>rfl
 |some x=>cases x with
  |ver v=>
   by_cases h:v=u<;>simp[O7,st,h]
  |arc p q=>
   by_cases h:q=u<;>simp[O7,st,h]
end Go.Pev.Pl
end
section
namespace Go.Pev.Pl
open Tok
theorem Aih(n:Int)(l:List Int)(i:Nat)(hi:i<l.length)(hl:l.length<1073741824)(d5 d6 d7 d8:Bool)(d9 d10:Int)(d11:Bool)(d12 d13 d14 d15 d16:Int)(d17:Bool)(d18 d19 d20 d21 d22 d23 d24 d25 d26:Int)(d27:Bool):
  ∀ (m k cnt:Nat) (acc:List Int),k+m=l.length→acc.length≤k→m<cnt →
  AY FU cnt (n,l,(i:Int),acc,(k:Int),d5,d6,d7,d8,d9,d10,d11,d12,d13,d14,d15,d16,d17,d18,d19,d20,d21,d22,d23,d24,d25,d26,d27,()) =
   some (.inl (n,(i:Int),acc++(List.range' k m).map (fun k=>l.getD ((i+k) % l.length) 0),d5,d6,d7,d8,d9,d10,d11,d12,d13,d14,d15,d16,d17,d18,l,d19,d20,d21,d22,d23,d24,d25,d26,d27,())):=by
 intro m
 induction m with
 |zero=>
  intro k cnt acc hk ha hc
  obtain⟨cnt,rfl⟩:∃ c,cnt=c+1:=⟨cnt-1,by omega⟩
  rw[AY,FU,AM,AR,AmS (by omega)]
  simp
 |succ m ih=>
  intro k cnt acc hk ha hc
  obtain⟨cnt,rfl⟩:∃ c,cnt=c+1:=⟨cnt-1,by omega⟩
  have hm:(i+k) % l.length<l.length:=Nat.mod_lt _ (by omega)
  rw[AY,FU,AM,AR,AmU (by omega)]
  simp only[]
  rw[wrap_add (by omega),Z3 (by omega)]
  simp only[DT (0:Int) hm,Fv]
  rw[BY (by simp only[AM,Amb,Amw];omega),AS (by omega)]
  simp only[C9]
  rw[ih (k+1) cnt _ (by omega) (by simp;omega) (by omega)]
  simp[Apc]
theorem ATf(n:Int)(l:List Int)(i:Nat)(hi:i<l.length)(h1:1<l.length)(hl:l.length<1073741824)(hr:∀ x∈l, -9223372036854775808≤x∧x≤9223372036854775807):
  Ci (n,l,false,(i:Int),())=if LQ n l i then some (.inl (n,FY l i,true,((i+1:Nat):Int),()))else some (.inl (n,l,false,((i+1:Nat):Int),())):=by
 have hmany:4294967296<many:=by simp only[many];omega
 have m1:(i+1) % l.length<l.length:=Nat.mod_lt _ (by omega)
 have m2:(i+2) % l.length<l.length:=Nat.mod_lt _ (by omega)
 have m0:(i+l.length-1) % l.length<l.length:=Nat.mod_lt _ (by omega)
 have hin:∀ {k:Nat},k<l.length→l.getD k 0∈l:=fun {k} hk=>by
  rw[AmW,AmZ hk,Am4];exact An4 hk
 have w2:IntKind.wrap .i64 ((i:Int)+2)=((i+2:Nat):Int):=by rw[Aj (by omega)];omega
 have w3:IntKind.wrap .i64 ((i:Int)+(l.length:Int))=((i+l.length:Nat):Int):=wrap_add (by omega)
 have w4:IntKind.wrap .i64 (((i+l.length:Nat):Int)-1)=((i+l.length-1:Nat):Int):=BJ (by omega)
 have f4:ile (4:Int) (l.length:Int)=decide (4≤l.length):=by
  rw[A0]
  by_cases h:4≤l.length
  ·rw[AmU h,AmU (by omega)]
  ·rw[AmS h,AmS (by omega)]
 rw[Ci,AM,AR,AmU hi]
 simp only[Am2,DT (0:Int) hi]
 rw[AS (by omega),w2,Z3 (by omega),Z3 (by omega)]
 simp only[DT (0:Int) m1,DT (0:Int) m2,Fv,Xr n _ (hr _ (hin hi)),f4,LQ]
 by_cases h4:4≤l.length
 ·simp only[h4,Amg,AoI]
  cases ht:B8 n (l.getD i 0)with
  |none=>rfl
  |some t=>
   cases t with
   |ver v=>rfl
   |arc u v=>
    simp only[O7,Ar,AJH]
    by_cases c1:l.getD ((i+1) % l.length) 0=v
    ·simp only[c1,Amg,AoI]
     by_cases c2:l.getD ((i+2) % l.length) 0=D8 n v u
     ·simp only[c2,Amg,AoI,w3,w4]
      rw[Z3 (by omega)]
      simp only[DT (0:Int) m0,Fv,AKO n _ u (hr _ (hin m0))]
      cases Kt n (l.getD ((i+l.length-1) % l.length) 0) u
      ·rfl
      ·simp only[Am7,As]
       have e:=Aih n l i hi hl false true true true v v true (D8 n v u) n v u (D8 n v u) true n (i:Int) (l.length:Int) ((i+l.length:Nat):Int) ((i+l.length-1:Nat):Int) (l.length:Int) (((i+l.length-1) % l.length:Nat):Int) (l.getD ((i+l.length-1) % l.length) 0) u true (l.length-3) 3 many [] (by omega) (by simp) (by omega)
       have e':AY FU many (n,l,(i:Int),[],(3:Int),_)=_:=e
       simp only[e',AS (show i+1<9223372036854775808 by omega)]
       rfl
     ·simp only[c2,Amu,Aos,Amq,Amn]
    ·simp only[c1,Amu,Aos,Amq,Amn]
 ·simp only[h4,Amu,Aos,Amq,Amn]
theorem Aii(n:Int)(l:List Int)(h1:1<l.length)(hl:l.length<1073741824)(hr:∀ x∈l, -9223372036854775808≤x∧x≤9223372036854775807):
  ∀ (m i cnt:Nat),i+m=l.length→m+1<cnt →
  (∃ k,k<l.length∧LQ n l k=true∧AY Ci cnt (n,l,false,(i:Int),())=some (.inl (n,FY l k,true,()))) ∨
  ((∀ k,i≤k→k<l.length→LQ n l k=false)∧AY Ci cnt (n,l,false,(i:Int),())=some (.inl (n,l,false,()))):=by
 intro m
 induction m with
 |zero=>
  intro i cnt hi hc
  obtain⟨cnt,rfl⟩:∃ c,cnt=c+1:=⟨cnt-1,by omega⟩
  right
  refine⟨fun k q1 q2=>by omega,?_⟩
  rw[AY,Ci,AM,AR,AmS (by omega)]
 |succ m ih=>
  intro i cnt hi hc
  obtain⟨cnt,rfl⟩:∃ c,cnt=c+1:=⟨cnt-1,by omega⟩
  rw[AY,ATf n l i (by omega) h1 hl hr]
  cases hlf:LQ n l i
  ·simp only[Amq,Amn]
   rcases ih (i+1) cnt (by omega) (by omega)with h|⟨h,e⟩
   ·exact .inl h
   ·refine .inr ⟨fun k q1 q2 => ?_,e⟩
    by_cases ek:k=i
    ·rw[ek];exact hlf
    ·exact h k (by omega) q2
  ·simp only[Am7]
   obtain⟨cnt,rfl⟩:∃ c,cnt=c+1:=⟨cnt-1,by omega⟩
   refine .inl ⟨i,by omega,hlf,?_⟩
   rw[AY,Ci]
   cases ilt ((i+1:Nat):Int) (AK (FY l i))<;>rfl
theorem Aij(n:Int):∀ (m:Nat) (l:List Int) (cnt:Nat),l.length=m→l.length<1073741824→(∀ x∈l, -9223372036854775808≤x∧x≤9223372036854775807)→l.Nodup→m<cnt →
  (¬ TI n l∧AY HN cnt (n,l,())=some (.inl (false,()))) ∨
  ∃ l',AY HN cnt (n,l,())=some (.inr (.inl (n,l',())))∧l'.length≤1∧(TI n l↔TI n l'):=by
 intro m
 induction m using Nat.strongRecOn with
 |_ m ih=>
 intro l cnt hm hl hr hn hc
 have hmany:4294967296<many:=by simp only[many];omega
 obtain⟨cnt,rfl⟩:∃ c,cnt=c+1:=⟨cnt-1,by omega⟩
 rw[AY,HN,AM,Ah]
 by_cases h1:1<l.length
 ·rw[AmU (by omega)]
  simp only[As]
  rcases Aii n l h1 hl hr l.length 0 many (by omega) (by omega)with⟨k,k1,k2,e⟩|⟨k1,e⟩
  ·have e':AY Ci many (n,l,false,(0:Int),())=_:=e
   simp only[e',Amf]
   have hred:=AWs k1 k2
   have hiff:=AlJ hred hn
   have hlen:(FY l k).length=l.length-3:=by simp[FY]
   rcases ih (l.length-3) (by omega) (FY l k) cnt hlen (by omega) (fun x hx=>hr x (AU4 k1 x hx)) (Abp hred hn) (by omega)with⟨q1,q2⟩|⟨l',q1,q2,q3⟩
   ·exact .inl ⟨fun h=>q1 (hiff.1 h),q2⟩
   ·exact .inr ⟨l',q1,q2,hiff.trans q3⟩
  ·have e':AY Ci many (n,l,false,(0:Int),())=_:=e
   simp only[e',Am2]
   refine .inl ⟨fun h => ?_,by trivial⟩
   obtain⟨l',hl'⟩:=Alu h h1
   obtain⟨i,i1,i2⟩:=AU8 hl'
   rw[k1 i (by omega) i1]at i2
   cases i2
 ·rw[AmS (by omega)]
  exact .inr ⟨l,rfl,by omega,Iff.rfl⟩
theorem ATg(n:Int)(l:List Int)(hl:l.length<1073741824)(hr:∀ x∈l, -9223372036854775808≤x∧x≤9223372036854775807)(hn:l.Nodup):AA3 (n,l,())=some (decide (TI n l),()):=by
 have hmany:4294967296<many:=by simp only[many];omega
 rw[AHn,RU,BY (by simp only[AM,Amw];omega)]
 simp only[C9,Am5,As]
 rcases Aij n l.length l many rfl hl hr hn (by omega)with⟨q1,q2⟩|⟨l',q1,q2,q3⟩
 ·rw[q2,AmS q1]
 ·rw[q1]
  simp only[AM,Ar]
  match l',q2,q3 with
  |[],_,q3=>
   have:¬ TI n l:=fun h=>AiU n (q3.1 h)
   simp[this]
  |[t],_,q3=>
   rw[AiT]at q3
   have i0:idx [t] (0:Int)=some t:=by rw[E6];rfl
   have d0:Ab [t] 0 (0:Int)=t:=rfl
   rw[AmU (by simp)]
   simp only[i0,d0,H8]
   by_cases h:In n t
   ·rw[AmU h,AmU (q3.2 h)]
   ·rw[AmS h,AmS (fun h2=>h (q3.1 h2))]
end Go.Pev.Pl
end
section
namespace Go.Pev.Pl
open Tok
noncomputable instance (n:Int) (rings:List (List Int)):Decidable (RF n rings):=Classical.propDecidable _
noncomputable instance (n:Int) (xs:List Int):Decidable (RG n xs):=Classical.propDecidable _
end Go.Pev.Pl
end
end
section
section
namespace Go.Pev.Pl
open Tok
theorem AGc(N:Nat)(hN:N≤64)(l:List Int)(hl:l.length<1073741824)(h0:∀ t∈l,0≤t)(d1:List (List Int))(d3 d5:Int)(d8:List Int)(d9:Int)(d10:Bool)(d11:Int)(d12:List Int)(d13 d14:Bool)(d15 d16:List Int)(d17:List (List Int))(d18:List Int)(d19:List (List Int))(d20 d21:Bool)(d22:List Int)(d23 d24:Int)(d25:Bool):
  ∀ (m k cnt:Nat) (met:List Bool) (seen:List Int),k+m=l.length→MB N met seen→(l.drop k).Nodup→seen.length+m<4611686018427387904→m<cnt →
  ((∀ t∈l.drop k,t<(N:Int)→t∉seen)∧∃ met',AY Cy cnt ((N:Int),d1,met,d3,(seen.length:Int),d5,l,(k:Int),d8,d9,d10,d11,d12,d13,d14,d15,d16,d17,d18,d19,d20,d21,d22,d23,d24,d25,()) =
    some (.inr (.inl ((N:Int),d1,met',d3,((seen++(l.drop k).filter (fun t=>decide (t<(N:Int)))).length:Int),d5,d8,d9,d10,d11,d12,d13,d14,d15,d16,d17,d18,d19,d20,d21,d22,d23,d24,d25,())))∧MB N met' (seen++(l.drop k).filter (fun t=>decide (t<(N:Int))))) ∨
  (¬ (∀ t∈l.drop k,t<(N:Int)→t∉seen)∧AY Cy cnt ((N:Int),d1,met,d3,(seen.length:Int),d5,l,(k:Int),d8,d9,d10,d11,d12,d13,d14,d15,d16,d17,d18,d19,d20,d21,d22,d23,d24,d25,())=some (.inl (false,()))):=by
 intro m
 induction m with
 |zero=>
  intro k cnt met seen hk hm hn hsl hc
  obtain⟨cnt,rfl⟩:∃ c,cnt=c+1:=⟨cnt-1,by omega⟩
  have e:l.drop k=[]:=Anf (by omega)
  rw[e]
  refine .inl ⟨by simp,met,?_,by simpa using hm⟩
  rw[AY,Cy,AM,AR,AmS (by omega)]
  simp
 |succ m ih=>
  intro k cnt met seen hk hm hn hsl hc
  obtain⟨cnt,rfl⟩:∃ c,cnt=c+1:=⟨cnt-1,by omega⟩
  have hk':k<l.length:=by omega
  have e:l.drop k=l.getD k 0::l.drop (k+1):=by
   rw[AnN hk',AmW,AmZ hk',Am4]
  have hpos:0≤l.getD k 0:=h0 _ (by rw[AmW,AmZ hk',Am4];exact An4 hk')
  rw[AY,Cy,AM,AR,AmU hk']
  simp only[DT (0:Int) hk']
  rw[e]at hn ⊢
  generalize l.getD k 0=t at *
  rw[Am3]at hn
  rw[AS (show k+1<9223372036854775808 by omega),Ah]
  by_cases ht:t<(N:Int)
  ·rw[AmU ht]
   obtain⟨q,rfl⟩:=Ame hpos
   have hq:q<met.length:=by rw[hm.1];omega
   have hmq:=hm.2 q (by omega)
   simp only[DT false hq,Fv,AMw,hmq]
   by_cases hs:(q:Int)∈seen
   ·rw[AmU hs]
    exact .inr ⟨fun h=>h (q:Int) (by simp) ht hs,rfl⟩
   ·rw[AmS hs]
    simp only[]
    have hm':MB N (met.set q true) (seen++[(q:Int)]):=by
     refine⟨by simp[hm.1],fun y hy => ?_⟩
     by_cases e2:y=q
     ·subst e2
      simp[AmW,hq]
     ·have h3:=hm.2 y hy
      have e3:¬ (y:Int)=(q:Int):=by omega
      rw[AmW,AnD (Am8 e2),← AmW,h3]
      simp[e3]
    have hlen:(((seen.length:Nat):Int))=((seen.length:Nat):Int):=rfl
    have hw:IntKind.wrap .i64 ((seen.length:Int)+1)=((seen++[(q:Int)]).length:Int):=by
     rw[Aj (by omega)];simp
    rw[hw]
    have hiff:(∀ y∈(q:Int)::l.drop (k+1),y<(N:Int)→y∉seen)↔∀ y∈l.drop (k+1),y<(N:Int)→y∉seen++[(q:Int)]:=by
     constructor
     ·intro h y hy hyn hm2
      simp only[AmY,Amv]at hm2
      rcases hm2 with h2|rfl
      ·exact h y (Amt _ hy) hyn h2
      ·exact hn.1 hy
     ·intro h y hy hyn hm2
      rcases Ama.1 hy with rfl|hy
      ·exact hs hm2
      ·exact h y hy hyn (by simp[hm2])
    rcases ih (k+1) cnt _ _ (by omega) hm' hn.2 (by simp;omega) (by omega)with⟨q1,met',q2,q3⟩|⟨q1,q2⟩
    ·refine .inl ⟨hiff.2 q1,met',?_,?_⟩
     ·rw[ApO (by simpa using ht)]
      rw[q2,AnY]
      rfl
     ·rw[ApO (by simpa using ht)]
      simpa using q3
    ·exact .inr ⟨fun h=>q1 (hiff.1 h),q2⟩
  ·rw[AmS ht]
   simp only[]
   have hiff:(∀ y∈t::l.drop (k+1),y<(N:Int)→y∉seen)↔∀ y∈l.drop (k+1),y<(N:Int)→y∉seen:=by
    constructor
    ·intro h y hy;exact h y (Amt _ hy)
    ·intro h y hy hyn
     rcases Ama.1 hy with rfl|hy
     ·exact absurd hyn ht
     ·exact h y hy hyn
   rcases ih (k+1) cnt _ _ (by omega) hm hn.2 (by omega) (by omega)with⟨q1,met',q2,q3⟩|⟨q1,q2⟩
   ·refine .inl ⟨hiff.2 q1,met',?_,?_⟩
    ·rw[ApP (by simpa using ht)]
     exact q2
    ·rw[ApP (by simpa using ht)]
     exact q3
   ·exact .inr ⟨fun h=>q1 (hiff.1 h),q2⟩
theorem ZS(N:Nat)(hN1:1≤N)(hN:N≤64)(rings:List (List Int))(hlen:rings.length≤64)(hr:∀ l∈rings,l.length<9223372036854775808∧∀ x∈l, -9223372036854775808≤x∧x≤9223372036854775807):
  ∀ (ls:List (List Int)) (i cnt:Nat) (met:List Bool) (last:Int) (seen:List Int),rings.drop i=ls→i≤rings.length→MB N met seen→seen.length≤i*1073741824→ls.length<cnt →
  (okR (N:Int) seen last ls∧∃ met' seen',AY Cz cnt ((N:Int),rings,met,last,(seen.length:Int),(i:Int),())=some (.inr (.inl ((N:Int),rings,(seen'.length:Int),())))∧MB N met' seen'∧seen'=seen++ls.flatten.filter (fun t=>decide (t<(N:Int)))) ∨
  (¬ okR (N:Int) seen last ls∧AY Cz cnt ((N:Int),rings,met,last,(seen.length:Int),(i:Int),())=some (.inl (false,()))):=by
 have hmany:4294967296<many:=by simp only[many];omega
 intro ls
 induction ls with
 |nil=>
  intro i cnt met last seen hd hi hm hsl hc
  obtain⟨cnt,rfl⟩:∃ c,cnt=c+1:=⟨cnt-1,by simp at hc;omega⟩
  have:rings.length≤i:=by simpa using hd
  refine .inl ⟨trivial,met,seen,?_,hm,by simp⟩
  rw[AY,Cz,AM,AR,AmS (by omega)]
 |cons l ls ih=>
  intro i cnt met last seen hd hi hm hsl hc
  simp only[Amb]at hc
  obtain⟨cnt,rfl⟩:∃ c,cnt=c+1:=⟨cnt-1,by omega⟩
  have hi':i<rings.length:=by
   refine AnW fun h => ?_
   rw[Anf (by omega)]at hd
   cases hd
  rw[AnN hi']at hd
  simp only[Amp]at hd
  obtain⟨hd1,hd2⟩:=hd
  have hx:rings[i]? = some l:=by rw[AmZ hi',hd1]
  have hmem:l∈rings:=Amj hx
  obtain⟨hl,hlr⟩:=hr l hmem
  rw[AY,Cz,AM,AR,AmU hi',okR]
  simp only[Ak hx,M5]
  by_cases c2:Rt l
  ·rw[AmU c2]
   have hl:l.length<1073741824:=by have:=c2.1;omega
   simp only[Amf]
   cases l with
   |nil=>
    rw[AM,Ar,AmU (by simp)]
    exact .inr ⟨fun h=>h.1.2.1 rfl,rfl⟩
   |cons x tl=>
    rw[AM,Ar,AmS (by simp only[Amb];omega)]
    simp only[ATg (N:Int) (x::tl) hl hlr c2.2.2]
    by_cases c4:TI (N:Int) (x::tl)
    ·rw[AmU c4]
     simp only[Amf,X2]
     rw[ARU _ _ (by simp) (by
      intro y hy
      simp only[Amv]at hy
      subst hy
      obtain⟨a,b,q1,q2⟩:=Hu c2 (by simp)
      have:=Anj List.length q1
      rw[q2]
      simp only[Amb,Amc]at this hl ⊢
      omega)]
     have hps:=ACJ c2 (by simp)
     have hps2:([plain (x::tl)]=[x::tl])↔Gf (x::tl)=x:=by simpa using hps
     by_cases c3:Gf (x::tl)=x
     ·rw[AmU (hps2.2 c3)]
      have i0:idx (x::tl) (0:Int)=some x:=by rw[E6];rfl
      simp only[Amf,i0,ApK,A0]
      by_cases c1:x≤last
      ·rw[AmU c1]
       exact .inr ⟨fun h=>by omega,rfl⟩
      ·rw[AmS c1]
       simp only[As]
       have hRG:RG (N:Int) (x::tl):=⟨c2,by simp,c3,c4⟩
       rcases AGc N hN (x::tl) hl (fun t ht=>(c2.2.1 t ht).1) rings x (i:Int) (x::tl) ((x::tl).length:Int) false (N:Int) (x::tl) true false (x::tl) (plain (x::tl)) [plain (x::tl)] (x::tl) [x::tl] true false (x::tl) x last false (x::tl).length 0 many met seen (by omega) hm (by rw[AoW];exact c2.2.2) (by omega) (by omega)with⟨q1,met',q2,q3⟩|⟨q1,q2⟩
       ·rw[AoW]at q1 q3 q2
        have q2':AY Cy many ((N:Int),rings,met,x,(seen.length:Int),(i:Int),x::tl,(0:Int),x::tl,((x::tl).length:Int),false,(N:Int),x::tl,true,false,x::tl,plain (x::tl),[plain (x::tl)],x::tl,[x::tl],true,false,x::tl,x,last,false,())=_:=q2
        simp only[q2',AS (show i+1<9223372036854775808 by omega)]
        have hfl:((x::tl).filter (fun t=>decide (t<(N:Int)))).length≤(x::tl).length:=Anh _ _
        rcases ih (i+1) cnt met' x (seen++(x::tl).filter (fun t=>decide (t<(N:Int)))) hd2 (by omega) q3 (by rw[Amc];omega) (by omega)with⟨p1,met2,seen2,p2,p3,p4⟩|⟨p1,p2⟩
        ·refine .inl ⟨⟨hRG,by omega,q1,p1⟩,met2,seen2,p2,p3,?_⟩
         rw[p4,Aoa,AoG,AnY]
        ·exact .inr ⟨fun h=>p1 h.2.2.2,p2⟩
       ·rw[AoW]at q1
        have q2':AY Cy many ((N:Int),rings,met,x,(seen.length:Int),(i:Int),x::tl,(0:Int),x::tl,((x::tl).length:Int),false,(N:Int),x::tl,true,false,x::tl,plain (x::tl),[plain (x::tl)],x::tl,[x::tl],true,false,x::tl,x,last,false,())=_:=q2
        simp only[q2']
        exact .inr ⟨fun h=>q1 h.2.2.1,by trivial⟩
     ·rw[AmS (fun h=>c3 (hps2.1 h))]
      exact .inr ⟨fun h=>c3 h.1.2.2.1,rfl⟩
    ·rw[AmS c4]
     exact .inr ⟨fun h=>c4 h.1.2.2.2,rfl⟩
  ·rw[AmS c2]
   exact .inr ⟨fun h=>c2 h.1.1,rfl⟩
theorem Eh(n:Int)(rings:List (List Int))(hlen:rings.length<1073741824)(hr:∀ l∈rings,l.length<9223372036854775808∧∀ x∈l, -9223372036854775808≤x∧x≤9223372036854775807):
  K4 ((n,(rings,())),())=some (decide (RF n rings),()):=by
 have hmany:4294967296<many:=by simp only[many];omega
 rw[AB6,OP]
 simp only[Ah,AM]
 by_cases h1:n<1
 ·rw[AmU h1,AmS (show ¬ RF n rings from fun h=>by have:=h.1.1;omega)]
 ·rw[AmS h1]
  simp only[]
  by_cases h2:64<n
  ·rw[AmU h2,AmS (show ¬ RF n rings from fun h=>by have:=h.1.2;omega)]
  ·rw[AmS h2]
   simp only[]
   by_cases h3:n<(rings.length:Int)
   ·rw[AmU h3,AmS (show ¬ RF n rings from fun h=>by
     have:=AZT (by omega) h.2.1 (by omega) (by omega)
     omega)]
   ·rw[AmS h3]
    obtain⟨N,rfl⟩:=Ame (show 0≤n by omega)
    have f1:FQ (N:Int)=true:=(Oj _).2 (by omega)
    have f2:ile (N:Int) (N:Int)=true:=by rw[A0];simp
    simp only[f1,f2,Anz,Bool.and_true,As]
    have hMB:MB N (EB (AN (N:Int)) false) []:=by
     refine⟨by simp[EB,IJ],fun k hk => ?_⟩
     simp[EB,IJ,hk]
    rcases ZS N (by omega) (by omega) rings (by omega) hr rings 0 many _ (-1) [] (by simp) (by omega) hMB (by simp) (by omega)with⟨p1,met,seen,p2,p3,p4⟩|⟨p1,p2⟩
    ·have p2':AY Cz many ((N:Int),rings,EB (AN (N:Int)) false, -1,(0:Int),(0:Int),())=_:=p2
     simp only[p2',Ar]
     obtain⟨q1,q2⟩:=AcR p1 (by simp)
     rw[← p4]at q1
     have hsub:∀ x∈seen,x∈(List.range N).map (fun(k:Nat)=>(k:Int)):=by
      intro x hx
      rw[p4]at hx
      simp only[Am5,AnG,Apb,AmV]at hx
      obtain⟨⟨l,hl,hxl⟩,hxn⟩:=hx
      have:=((q2 l hl).1.2.1 x hxl).1
      rw[Amo]
      exact⟨x.toNat,by rw[An0];omega,by omega⟩
     have hv:∀ v,v∈seen↔(v<(N:Int)∧v∈rings.flatten):=fun v=>by rw[p4,Am5,AnG,AmV,and_comm]
     have hS:Sz (N:Int):=⟨by omega,by omega⟩
     by_cases hc:(seen.length:Int)=(N:Int)
     ·rw[AmU hc,AmU]
      refine⟨hS,p1,fun v v1 v2 => ?_⟩
      have:=Rs q1 hsub (by simp;omega) v (by rw[Amo];exact⟨v.toNat,by rw[An0];omega,by omega⟩)
      exact((hv v).1 this).2
     ·rw[AmS hc,AmS]
      rintro⟨_,_,h⟩
      have a1:=Cb q1 hsub
      have hrn:((List.range N).map (fun(k:Nat)=>(k:Int))).Nodup:=by
       rw[List.Nodup,Anx]
       exact List.nodup_range.imp fun h e=>h (by omega)
      have a2:=Cb (a:=(List.range N).map (fun(k:Nat)=>(k:Int))) (b:=seen) hrn fun x hx=>by
       rw[Amo]at hx
       obtain⟨k,hk,rfl⟩:=hx
       rw[An0]at hk
       exact(hv _).2 ⟨by omega,h (k:Int) (by omega) (by omega)⟩
      simp only[Ano,AnV]at a1 a2
      omega
    ·have p2':AY Cz many ((N:Int),rings,EB (AN (N:Int)) false, -1,(0:Int),(0:Int),())=_:=p2
     simp only[p2']
     rw[AmS (fun h=>p1 h.2.1)]
end Go.Pev.Pl
end
section
namespace Go.Pev.Pl
open Tok
theorem M8(n:Int)(rings:List (List Int))(v:Int)(hlen:rings.length<1073741824)(hr:∀ l∈rings,l.length<9223372036854775808):G7 ((n,(rings,())),v,())=some (plc rings v,()):=by
 rw[ACV,OW]
 have e:=MW (step:=EP) (fun i=>(v,n,rings,(i:Int),())) rings (fun l=>decide (v∈l)) (fun i=>.inl ((i:Int),())) (.inr (.inl ())) (by omega)
  (fun i l hi hx=>by
   have hl:=hr l (Amj hx)
   rw[EP,AM,AR,AmU hi]
   simp only[Ak hx,Gb l v (by omega)]
   rw[AS (by omega),A0]
   by_cases h:v∈l
   ·obtain⟨k,e,_⟩:=ACI h
    rw[e,AmU (by omega),AmU h];rfl
   ·rw[OS h,AmS (by omega),AmS h];rfl)
  (by rw[EP,AM,AR,AmS (by omega)])
 have e':AX EP many (v,n,rings,(0:Int),())=_:=e
 simp only[e',plc]
 cases rings.any (fun l=>decide (v∈l))<;>rfl
end Go.Pev.Pl
end
section
namespace Go.Pev.Pl
open Tok
theorem Abr(rest:List (List Int))(r:List Int)(hlen:rest.length<1073741824)(hne:∀ l∈rest,l≠[])(hp:plain r≠[]):AIL (rest,r,())=some (ACG rest (plain r),()):=by
 rw[APc,Z4]
 simp only[X2]
 generalize plain r=p at *
 have e:=MW (step:=Ht) (fun i=>(rest,p,(i:Int),())) rest (fun x => !decide (hd x<hd p)) (fun i=>.inl (rest,p,(i:Int),())) (.inl (rest,p,(rest.length:Int),())) (by omega)
  (fun i x hi hx=>by
   rw[Ht,AM,AR,AmU hi]
   simp only[Ak hx,AZr (hne x (Amj hx)),AZr hp,Ah3,Ah]
   rw[AS (by omega)]
   by_cases h:hd x<hd p
   ·rw[AmU h];rfl
   ·rw[AmS h];rfl)
  (by rw[Ht,AM,AR,AmS (by omega)])
 have e':AX Ht many (rest,p,(0:Int),())=_:=e
 have hk:(if rest.any (fun x => !decide (hd x<hd p))then(.inl (rest,p,((rest.findIdx fun x => !decide (hd x<hd p):Nat):Int),()):(List (List Int)×List Int×Int×Unit)⊕Unit)else .inl (rest,p,(rest.length:Int),())) = .inl (rest,p,((rest.findIdx fun x => !decide (hd x<hd p):Nat):Int),()):=by
  split
  ·rfl
  ·rename_i h
   rw[List.findIdx_eq_length.2 fun x hx=>by
    refine AnW fun hc=>h (AoV.2 ⟨x,hx,by simpa using hc⟩)]
 rw[e',hk]
 have hle:(rest.findIdx fun x => !decide (hd x<hd p))≤rest.length:=List.findIdx_le_length
 rw[ACG]
 generalize (rest.findIdx fun x => !decide (hd x<hd p))=k at *
 simp only[JV hle,Ey hle]
 rw[BY (by simp only[AM,Amw,Amm];omega)]
 simp only[]
 rw[BY (by simp only[AM,C9,Amc,Amb,Amw,Amm];omega)]
 simp only[]
 rw[BY (by simp only[AM,C9,Amc,Amb,Amw,Amm,Am9];omega)]
 simp only[C9,Am5,AnY,Aol]
theorem PF(l:List (List Int))(i:Nat)(hi:i<l.length)(hlen:l.length<1073741824):Ec (l,(i:Int),())=some (l.eraseIdx i,()):=by
 rw[RD,Io]
 rw[AS (by omega)]
 simp only[JV (AoE hi),Ey (show i+1≤l.length by omega)]
 rw[BY (by simp only[AM,Amw,Amm];omega)]
 simp only[]
 rw[BY (by simp only[AM,C9,Amc,Amw,Amm,Am9];omega)]
 simp only[C9,Am5,List.eraseIdx_eq_take_drop_succ]
end Go.Pev.Pl
end
section
namespace Go.Pev.Pl
open Tok
theorem Ain(n:Int)(rings:List (List Int))(v:Int)(hD:Dom rings):tof ((n,(rings,())),v,())=some (if RF n rings∧In n v then plc rings v else -1,()):=by
 rw[Aez,AYj]
 simp only[Zy,Ph n rings hD.1 hD.2,Hi n rings v hD.1 (fun l hl=>(hD.2 l hl).1)]
 by_cases h1:In n v
 ·by_cases h2:RF n rings<;>simp[h1,h2]
 ·simp[h1]
end Go.Pev.Pl
end
section
namespace Go.Pev.Pl
open Go.RowKit Tok
end Go.Pev.Pl
end
section
namespace Go.Pev.Pl
open Tok
end Go.Pev.Pl
end
section
namespace Go.Pev.Pl
open Tok
theorem ARX{n:Int}{rings:List (List Int)}{u v:Int}(h:FR n rings)(iu:In n u)(iv:In n v)(hp:plc rings u=plc rings v):
  Mo ((n,(rings,())),u,v,())=some (n,rings,5,())∧NQ ((n,(rings,())),u,v,())=some (n,rings,5,()):=by
 have hD:=h.dom
 have hRF:=Lz.2 h
 constructor
 ·rw[Hm,G5]
  simp only[HX n rings u v hD,hRF,iu,iv,and_self,Am7,Ar,Hi n rings _ hD.1 (fun l hl=>(hD.2 l hl).1),hp,Amg,Amf]
 ·rw[KR,H6]
  simp only[Eh n rings hD.1 hD.2,hRF,H8,iu,iv,Amg,Amf,M8 n rings _ hD.1 (fun l hl=>(hD.2 l hl).1),Ar,hp]
theorem Ag4{n:Int}{rings:List (List Int)}{u v:Int}{i j:Nat}{A B:List Int}(h:FR n rings)(iu:In n u)(iv:In n v)(hi:rings[i]? = some A)(hj:rings[j]? = some B)(hu:u∈A)(hv:v∈B)(hij:i≠j):
  ∃ zs rest,Mo ((n,(rings,())),u,v,())=some (n,zs,0,())∧NQ ((n,(rings,())),u,v,())=some (n,zs,0,())∧FR n zs∧rings.Perm (A::B::rest)∧zs.Perm (plain (BE n A B u v)::rest)∧Dis n A B:=by
 have hD:=h.dom
 have hRF:=Lz.2 h
 have rA:=h.rg A (Amj hi)
 have rB:=h.rg B (Amj hj)
 have hil:=(Anc.1 hi).1
 have hjl:=(Anc.1 hj).1
 have pu:plc rings u=(i:Int):=h.ALJ hi iu.2.2.2 hu
 have pv:plc rings v=(j:Int):=h.ALJ hj iv.2.2.2 hv
 have hperm:rings.Perm (A::B::(rings.eraseIdx (max i j)).eraseIdx (min i j)):=by
  rcases ApM hij with g|g
  ·rw[Aot (by omega),AnL (by omega)]
   exact JD g hi hj
  ·rw[Aoz (by omega),Aof (by omega)]
   exact(JD g hj hi).trans (List.Perm.swap _ _ _)
 have hdis:Dis n A B:=by
  have:=KY hperm h.dis
  rw[AnI]at this
  exact this.1 B (by simp)
 obtain⟨l1,l2,l3,huv,ho⟩:=Od rA.2.2.2 rB.2.2.2 hu hv iu iv hdis
 obtain⟨hRG,hrot⟩:=AFc l1
 have hall:BE n A B u v=u::D8 n u v::(A5 B v++D8 n v u::(A5 A u).tail):=rfl
 have lA:(A5 A u).length≤1000:=by rw[← (Ca hu).perm.length_eq];exact rA.1.1
 have lB:(A5 B v).length≤1000:=by rw[← (Ca hv).perm.length_eq];exact rB.1.1
 have hsub:((rings.eraseIdx (max i j)).eraseIdx (min i j)).Sublist rings:=(Ao7 _ _).trans (Ao7 _ _)
 have hw1:Ec (rings,((max i j:Nat):Int),())=some (rings.eraseIdx (max i j),()):=PF _ _ (by omega) hD.1
 have hel:(rings.eraseIdx (max i j)).length=rings.length-1:=by rw[List.length_eraseIdx];rw[Amk (by omega)]
 have hw2:Ec (rings.eraseIdx (max i j),((min i j:Nat):Int),())=some ((rings.eraseIdx (max i j)).eraseIdx (min i j),()):=PF _ _ (by omega) (by have:=hD.1;omega)
 have hdrop:Cp (fun k=>decide ((k:Int)∈[(i:Int),(j:Int)])) 0 rings=(rings.eraseIdx (max i j)).eraseIdx (min i j):=by
  rcases ApM hij with g|g
  ·rw[Aot (by omega),AnL (by omega)]
   exact Ln _ i j g rings 0 (by omega) fun k _=>AoB.2 (by simp only[Ama,AoH,Ao1];omega)
  ·rw[Aoz (by omega),Aof (by omega)]
   exact Ln _ j i g rings 0 (by omega) fun k _=>AoB.2 (by simp only[Ama,AoH,Ao1];omega)
 have hrl:((rings.eraseIdx (max i j)).eraseIdx (min i j)).length≤rings.length:=hsub.length_le
 generalize (rings.eraseIdx (max i j)).eraseIdx (min i j)=rest at *
 have hupr:rest.Pairwise (fun a b=>hd a<hd b):=h.up.sublist hsub
 have hner:∀ l∈rest,l≠[]:=fun l hl=>(h.rg l (hsub.subset hl)).2.1
 have hdd:=KY hperm h.dis
 rw[AnI,AnI]at hdd
 have hheads:∀ x∈rest,hd x≠hd (plain (BE n A B u v)):=by
  intro x hx e
  have g1:=Ou hRG
  have g2:=(l3 _ g1.2.2.2).1 (hrot.perm.mem_iff.2 (We hRG.2.1))
  have g3:hd (plain (BE n A B u v))∈x:=e▸We (hner x hx)
  rcases g2 with g|g
  ·exact hdd.1 x (by simp[hx]) _ g g1.2.2.2 g3
  ·exact hdd.2.1 x hx _ g g1.2.2.2 g3
 have hup:=AZE hupr hheads
 have hpz:=AIK rest (plain (BE n A B u v))
 refine⟨ACG rest (plain (BE n A B u v)),rest,?_,?_,AaJ h hperm hRG (fun t ht=>by rw[← hrot.perm.mem_iff];exact l3 t ht) hpz hup,hperm,hpz,hdis⟩
 ·obtain⟨ys,y1,y2,y3⟩:=AHW n rings [(i:Int),(j:Int)] [BE n A B u v] hD.1 (by simp) (by simp) (fun l hl=>(h.rg l hl).2.1) (by simp;exact hRG.2.1)
  have hys:ys=ACG rest (plain (BE n A B u v)):=by
   refine Xv hup (y2.trans ?_) y3
   rw[hdrop]
   exact(AoD (l₁:=rest) (l₂:=[plain (BE n A B u v)])).trans hpz.symm
  rw[hys]at y1
  rw[Hm,G5]
  have s1:CM (A5 A u) (0:Int) (1:Int)=some [u]:=by
   have:=AKL (xs:=A5 A u) (l:=0) (h:=1) (by omega) (by rw[l2];simp)
   rw[l2]at this ⊢
   exact this
  have s2:CM (A5 A u) (1:Int) (AK (A5 A u))=some (A5 A u).tail:=by
   have:=Ey (xs:=A5 A u) (l:=1) (by rw[l2];simp)
   rw[AoS]at this
   exact this
  have d1:DP 0 (AN (AK [u])) (A5 A u)=[u]:=by rw[l2];rfl
  have d2:DP 1 (AN (AK (A5 A u).tail)) (A5 A u)=(A5 A u).tail:=by
   rw[DP,AM,IJ,AoS,Anq]
  have hcat:JH ([[u],[D8 n u v],A5 B v,[D8 n v u],(A5 A u).tail],())=some (BE n A B u v,()):=by
   rw[Np _ (by simp) (by simp;omega)]
   simp[BE]
  have ne:((i:Int))≠(j:Int):=by omega
  simp only[HX n rings u v hD,hRF,iu,iv,and_self,Am7,Ar,Hi n rings _ hD.1 (fun l hl=>(hD.2 l hl).1),pu,pv,ne,Amg,Amu,Amf,Ak hi,Ak hj,AIE,I9,rA.1,rB.1,hu,hv,s1,s2,AOn,d1,d2,hcat,y1]
 ·rw[KR,H6]
  have s2:CM (A5 A u) (1:Int) (AK (A5 A u))=some (A5 A u).tail:=by
   have:=Ey (xs:=A5 A u) (l:=1) (by rw[l2];simp)
   rw[AoS]at this
   exact this
  have d2:DP 1 (AN (AK (A5 A u).tail)) (A5 A u)=(A5 A u).tail:=by
   rw[DP,AM,IJ,AoS,Anq]
  have ne:((i:Int))≠(j:Int):=by omega
  have f1:fits (AK [u,D8 n u v]+AK (A5 B v))=true:=BY (by simp only[AM,Amb,Amw];omega)
  have f2:fits (AK (A2 [u,D8 n u v] (A5 B v))+AK [D8 n v u])=true:=BY (by simp only[AM,C9,Amc,Amb,Amw];omega)
  have f3:fits (AK (A2 (A2 [u,D8 n u v] (A5 B v)) [D8 n v u])+AK (A5 A u).tail)=true:=BY (by simp only[AM,C9,Amc,Amb,Amw,List.length_tail];omega)
  have hcat:A2 (A2 (A2 [u,D8 n u v] (A5 B v)) [D8 n v u]) (A5 A u).tail=BE n A B u v:=by simp[C9,BE]
  have hput:AIL (rest,BE n A B u v,())=some (ACG rest (plain (BE n A B u v)),()):=Abr rest _ (by have:=hD.1;omega) hner hRG.2.1
  simp only[Eh n rings hD.1 hD.2,hRF,H8,iu,iv,Amg,Amf,M8 n rings _ hD.1 (fun l hl=>(hD.2 l hl).1),pu,pv,Ar,ne,Amu,Ak hi,Ak hj,Qc A u (by have:=rA.1.1;omega),Qc B v (by have:=rB.1.1;omega),I9,rA.1,rB.1,hu,hv,and_self,Am7,AJH,f1,f2,s2,d2,f3,AhM,AhL,hw1,hw2,hcat,hput]
theorem AG3{n:Int}{rings:List (List Int)}{u v:Int}(hD:Dom rings)(h:¬ (RF n rings∧In n u∧In n v)):
  ∃ e,e≠0∧(∃ b,e=b∧(b=1∨b=10))∧Mo ((n,(rings,())),u,v,())=some (n,rings,e,())∧NQ ((n,(rings,())),u,v,())=some (n,rings,e,()):=by
 by_cases h1:RF n rings
 ·have h2:¬ (In n u∧In n v):=fun h2=>h ⟨h1,h2⟩
  refine⟨10,by omega,⟨10,rfl,.inr rfl⟩,?_,?_⟩
  ·rw[Hm,G5]
   simp only[HX n rings u v hD,h1,h2,Am7,Amn,Ar]
   rfl
  ·rw[KR,H6]
   simp only[Eh n rings hD.1 hD.2,h1,H8,Amg,Amf]
   by_cases hu:In n u
   ·have hv:¬ In n v:=fun hv=>h2 ⟨hu,hv⟩
    simp[hu,hv]
   ·simp[hu]
 ·refine⟨1,by omega,⟨1,rfl,.inl rfl⟩,?_,?_⟩
  ·rw[Hm,G5]
   simp only[HX n rings u v hD,h1,Amn,Ar]
   rfl
  ·rw[KR,H6]
   simp only[Eh n rings hD.1 hD.2,h1,Amu,Am2]
theorem AYD{n:Int}{rings:List (List Int)}(u v:Int)(hD:Dom rings):∃ zs e,Mo ((n,(rings,())),u,v,())=some (n,zs,e,())∧NQ ((n,(rings,())),u,v,())=some (n,zs,e,())∧Dom zs:=by
 by_cases h:RF n rings∧In n u∧In n v
 ·obtain⟨h1,iu,iv⟩:=h
  have hF:=Lz.1 h1
  obtain⟨i,A,pu,hi,hu,_⟩:=M7 (hF.cov u iu)
  obtain⟨j,B,pv,hj,hv,_⟩:=M7 (hF.cov v iv)
  by_cases hij:i=j
  ·obtain⟨q1,q2⟩:=ARX hF iu iv (by rw[pu,pv,hij])
   exact⟨_,_,q1,q2,hD⟩
  ·obtain⟨zs,rest,q1,q2,q3,_⟩:=Ag4 hF iu iv hi hj hu hv hij
   exact⟨_,_,q1,q2,q3.dom⟩
 ·obtain⟨e,_,_,q1,q2⟩:=AG3 hD h
  exact⟨_,_,q1,q2,hD⟩
end Go.Pev.Pl
end
section
namespace Go.Pev.Pl
open Tok
def sel(l:List Edge)(bs:List Bool):List Edge:=((l.zip bs).filter fun p=>p.2).map fun p=>p.1
end Go.Pev.Pl
end
section
namespace Go.Pev.Pl
open Tok
instance (n v:Int):Decidable (In n v):=inferInstanceAs (Decidable (_∧_))
instance (n:Int):Decidable (Sz n):=inferInstanceAs (Decidable (_∧_))
end Go.Pev.Pl
end
section
namespace Go.Pev.Pl
instance (xs:List Int):Decidable (Rt xs):=inferInstanceAs (Decidable (_∧_∧_))
end Go.Pev.Pl
end
section
namespace Go.Pev.Pl
open Tok
noncomputable instance (n:Int) (xs:List Int):Decidable (TI n xs):=Classical.propDecidable _
end Go.Pev.Pl
end
section
namespace Go.Pev.Pl
open Tok
noncomputable instance (n:Int) (rings:List (List Int)):Decidable (RF n rings):=Classical.propDecidable _
noncomputable instance (n:Int) (xs:List Int):Decidable (RG n xs):=Classical.propDecidable _
end Go.Pev.Pl
end
section
namespace Go.Pev.Pl
open Tok
theorem AOl(n:Int)(rings:List (List Int))(l:List (Int×Int×Unit))(hD:Dom rings)(hs:l.length<9223372036854775808):RX ((n,(rings,())),l,())=some (ASx n rings (l.all fun e=>decide (In n e.1)&&decide (In n e.2.1)),()):=by
 rw[ABE,OK]
 simp only[Eh n rings hD.1 hD.2,ASx]
 by_cases h:RF n rings
 ·simp only[h,Amg,Amf,Am7]
  have e:=MW (step:=EN) (fun i=>(l,n,rings,(i:Int),())) l (fun e => !(decide (In n e.1)&&decide (In n e.2.1))) (fun _=>.inl ((10:Int),())) (.inr (.inl ())) hs
   (fun i x hi hx=>by
    rw[EN,AM,AR,AmU hi]
    simp only[Ak hx,Ah,A0]
    rw[AS (by omega)]
    have q1:=AYU (v:=x.1) h.1
    have q2:=AYU (v:=x.2.1) h.1
    by_cases c1:x.1<0
    ·rw[AmU c1,Bool.true_or]at q1
     have:decide (In n x.1)=false:=by simpa using q1.symm
     simp[c1,this]
    ·by_cases c2:n≤x.1
     ·rw[AmU c2,Bool.or_true]at q1
      have:decide (In n x.1)=false:=by simpa using q1.symm
      simp[c1,c2,this]
     ·rw[AmS c1,AmS c2]at q1
      have g1:decide (In n x.1)=true:=by simpa using q1.symm
      by_cases c3:x.2.1<0
      ·rw[AmU c3,Bool.true_or]at q2
       have:decide (In n x.2.1)=false:=by simpa using q2.symm
       simp[c1,c2,c3,this]
      ·by_cases c4:n≤x.2.1
       ·rw[AmU c4,Bool.or_true]at q2
        have:decide (In n x.2.1)=false:=by simpa using q2.symm
        simp[c1,c2,c3,c4,this]
       ·rw[AmS c3,AmS c4]at q2
        have g2:decide (In n x.2.1)=true:=by simpa using q2.symm
        simp[c1,c2,c3,c4,g1,g2])
   (by rw[EN,AM,AR,AmS (by omega)])
  have e':AX EN many (l,n,rings,(0:Int),())=_:=e
  rw[e',List.any_eq_not_all_not]
  simp only[Bool.not_not]
  cases l.all fun e=>decide (In n e.1)&&decide (In n e.2.1)<;>rfl
 ·simp[h]
end Go.Pev.Pl
end
section
namespace Go.Pev.Pl
open Tok
end Go.Pev.Pl
end
section
namespace Go.Pev.Pl
open Tok
end Go.Pev.Pl
end
section
namespace Go.Pev.Pl
open Tok
end Go.Pev.Pl
end
section
namespace Go.Pev.Pl
open Tok
theorem APT{N:Nat}(h1:1≤N)(hN:N≤64){ts:List Tie}(hs:ts.length≤400)(ho:oks N ts){out:List Int}(hc:Xp (N:Int) (trs ts ts.length) out):
  E0 (((N:Int),(ts,())),())=some (decide ((cnt out N:Int)=(N:Int)-(trs ts ts.length).length),()):=by
 have R:=Rh N hN ts hs
 rw[Amk ho]at R
 have hin:=ATb hN ho
 have hlen:=AJs ts ts.length
 obtain⟨o2,e2,c2⟩:=GS (N:Int) (trs ts ts.length) ⟨by omega,by omega⟩ (by omega) hin
 have:=Xp.unique h1 hN hc c2
 subst this
 have hol:out.length=N:=by have:=hc.len;omega
 rw[FX,Eg]
 simp only[Ah,AM]
 rw[AmS (show ¬ (N:Int)<1 by omega),AmS (show ¬ 64<(N:Int) by omega),AmS (show ¬ 400<(ts.length:Int) by omega)]
 simp only[R,e2,PI N hN _ _ out hol,Ar]
 rw[Aj (by omega)]
end Go.Pev.Pl
end
section
namespace Go.Pev.Pl
open Tok
theorem Con.perm{l l':List Edge}(h:∀ e,e∈l↔e∈l'){a b:Int}:Con l a b↔Con l' a b:=
 ⟨fun c=>c.mono fun e he=>⟨e,(h e).1 he,.inl ⟨rfl,rfl⟩⟩,fun c=>c.mono fun e he=>⟨e,(h e).2 he,.inl ⟨rfl,rfl⟩⟩⟩
theorem Xp.congr{n:Int}{l l':List Edge}{out:List Int}(h:∀ a b,Con l a b↔Con l' a b)(hc:Xp n l out):Xp n l' out:=
 ⟨hc.len,fun a b ia ib=>(hc.same a b ia ib).trans (h a b),hc.isin,fun a ia=>(h a _).1 (hc.con a ia),fun a b ia ib c=>hc.least a b ia ib ((h a b).2 c)⟩
end Go.Pev.Pl
end
section
namespace Go.Pev.Pl
open Tok
def AHs(x:Edge)(b:Bool):Tie:=(x.1,x.2.1,0,b,())
def Zs(ts:List Tie)(xs:List Edge)(bs:List Bool)(k:Nat):List Tie:=(List.range k).foldl (fun a i=>ACF a (AHs (xs.getD i (0,0,())) (bs.getD i false))) ts
end Go.Pev.Pl
end
section
namespace Go.Pev.Pl
open Tok
def AWH(xs:List Edge)(bs:List Bool)(k:Nat):List Tie:=(List.range k).map fun i=>AHs (xs.getD i (0,0,())) (bs.getD i false)
theorem AJJ(ts:List Tie)(xs:List Edge)(bs:List Bool)(k:Nat):Zs ts xs bs (k+1)=ACF (Zs ts xs bs k) (AHs (xs.getD k (0,0,())) (bs.getD k false)):=by
 unfold Zs
 rw[Anp,List.foldl_append]
 rfl
theorem XM(ts:List Tie)(xs:List Edge)(bs:List Bool):∀ k,(Zs ts xs bs k).Perm (ts++AWH xs bs k):=by
 intro k
 induction k with
 |zero=>simp[Zs,AWH]
 |succ k ih=>
  rw[AJJ]
  refine(AIJ _ _).trans ?_
  unfold AWH at *
  rw[Anp,An3,← AnY]
  refine(List.Perm.cons _ ih).trans ?_
  exact(List.perm_append_singleton _ _).symm
end Go.Pev.Pl
end
section
namespace Go.Pev.Pl
open Tok
theorem AiP{N:Nat}{ts:List Tie}(h:oks N ts)(hv0:0≤Il N){xs:List Edge}(bs:List Bool)(hp:xs.Pairwise J0)(hx:∀ e∈xs,0≤e.1∧e.1<e.2.1∧e.2.1<(N:Int))(hn:∀ e∈xs,¬ e∈ts.map ed):oks N (Zs ts xs bs xs.length):=by
 rw[Z6]at h ⊢
 obtain⟨h1,h2⟩:=h
 have hget:∀ i (hi:i<xs.length),xs.getD i (0,0,())=xs[i]:=fun i hi=>by
  simp only[AmW,AmZ hi,Am4]
 have hmem:∀ k,k≤xs.length→∀ t∈Zs ts xs bs k,t∈ts∨∃ i,i<k∧t=AHs (xs.getD i (0,0,())) (bs.getD i false):=by
  intro k hk t ht
  rcases AmY.1 ((XM ts xs bs k).mem_iff.1 ht)with h|h
  ·exact .inl h
  ·unfold AWH at h
   obtain⟨i,hi,rfl⟩:=Amo.1 h
   exact .inr ⟨i,by simpa using hi,rfl⟩
 refine⟨fun t ht => ?_,?_⟩
 ·rcases hmem _ (Amd _) t ht with h|⟨i,hi,rfl⟩
  ·exact h1 t h
  ·rw[hget i hi]
   obtain⟨q1,q2,q3⟩:=hx xs[i] (An4 hi)
   exact⟨q1,q2,q3,by show(0:Int)≤0;omega,hv0⟩
 ·have key:∀ k,k≤xs.length→(Zs ts xs bs k).Pairwise ahead:=by
   intro k
   induction k with
   |zero=>intro _;exact h2
   |succ k ih=>
    intro hk
    rw[AJJ]
    refine Abq (ih (by omega)) fun t ht => ?_
    rw[hget k (by omega)]
    rintro⟨e1,e2⟩
    rcases hmem k (by omega) t ht with h|⟨i,hi,rfl⟩
    ·refine hn xs[k] (An4 (by omega)) (Amo.2 ⟨t,h,?_⟩)
     unfold ed
     rw[e1,e2]
     rfl
    ·rw[hget i (by omega)]at e1 e2
     have:=(An5.1 hp) i k (by omega) (by omega) hi
     unfold J0 at this
     simp only[AHs]at e1 e2
     omega
  exact key _ (Amd _)
end Go.Pev.Pl
end
section
namespace Go.Pev.Pl
open Tok
theorem Aei(ts:List Tie):∀ k,k≤ts.length→trs ts k=((ts.take k).filter fun t=>t.2.2.2.1).map ed:=by
 intro k
 induction k with
 |zero=>intro _;simp[trs]
 |succ k ih=>
  intro hk
  have hk':k<ts.length:=by omega
  rw[AAr,ih (by omega),Ant hk',AoG,An3]
  simp only[AmW,AmZ hk',Am4]
  cases h:ts[k].2.2.2.1
  ·simp[h]
  ·simp[h]
theorem AJt(ts:List Tie):trs ts ts.length=(ts.filter fun t=>t.2.2.2.1).map ed:=by
 rw[Aei ts _ (Amd _),Anq]
end Go.Pev.Pl
end
section
namespace Go.Pev.Pl
open Tok
theorem Agr{xs:List Edge}{bs:List Bool}(h:bs.length=xs.length):AWH xs bs xs.length=(xs.zip bs).map fun p=>AHs p.1 p.2:=by
 unfold AWH
 apply ApZ
 ·simp[h]
 ·intro i h1 h2
  have hi:i<xs.length:=by simpa using h1
  simp[hi,show i<bs.length by omega]
theorem AiO(ts:List Tie){xs:List Edge}{bs:List Bool}(h:bs.length=xs.length):(trs (Zs ts xs bs xs.length) (Zs ts xs bs xs.length).length).Perm (trs ts ts.length++sel xs bs):=by
 rw[AJt,AJt]
 refine(((XM ts xs bs xs.length).filter _).map ed).trans ?_
 rw[AoG,An3,Agr h,List.filter_map,List.map_map]
 exact List.Perm.refl _
theorem AiQ(ts:List Tie)(xs:List Edge)(bs:List Bool):∀ k,(Zs ts xs bs k).length=ts.length+k:=by
 intro k
 rw[(XM ts xs bs k).length_eq]
 simp[AWH]
end Go.Pev.Pl
end
end
section
section
namespace Go.Pev.Pl
open Tok
theorem AiB{N:Nat}(hN:N≤64)(ts:List Tie)(l:List Edge):∀ e∈Kb N ts l,In (N:Int) e.1∧In (N:Int) e.2.1:=by
 intro e he
 obtain⟨⟨a,b,c,_⟩,_⟩:=(Vo N ts l e).1 he
 exact⟨⟨by omega,by omega,a,by omega⟩,⟨by omega,by omega,by omega,c⟩⟩
end Go.Pev.Pl
end
section
namespace Go.Pev.Pl
open Tok
theorem AhI{N:Nat}(h1:1≤N)(hN:N≤64){a:Int}(h:0≤a∧a<(N:Int)):In (N:Int) a:=⟨by omega,by omega,h.1,h.2⟩
theorem AhJ{N:Nat}{e:Edge}(h:In (N:Int) e.1∧In (N:Int) e.2.1):InE N e:=⟨⟨h.1.2.2.1,h.1.2.2.2⟩,⟨h.2.2.2.1,h.2.2.2.2⟩⟩
theorem Aln{N:Nat}(h1:1≤N)(hN:N≤64){l:List Edge}{out:List Int}(hc:Xp (N:Int) l out):cnt out N=cc N l:=by
 unfold cnt cc
 rw[List.countP_eq_length_filter]
 congr 1
 refine ApQ fun k hk => ?_
 have hk:k<N:=by simpa using hk
 have ik:=AhI h1 hN (a:=(k:Int)) ⟨by omega,by omega⟩
 have hg:out.getD k 0=cl out (k:Int):=by unfold cl;rw[AnJ]
 rw[hg,Aox,Aoi,H5]
 constructor
 ·intro h j hj hcn
  have:=hc.least (k:Int) (j:Int) ik (AhI h1 hN ⟨by omega,by omega⟩) hcn.symm
  omega
 ·intro h
  have a1:=hc.isin _ ik
  have a2:=hc.con _ ik
  have a3:=hc.least (k:Int) (k:Int) ik ik (.refl _)
  obtain⟨m,hm⟩:=Ame a1.2.2.1
  rw[hm]at a2 a3 ⊢
  by_cases hlt:m<k
  ·exact absurd a2.symm (h m hlt)
  ·omega
theorem FC.congr{n:Int}{rings:List (List Int)}{l l':List Edge}(h:FC n rings l)(hm:∀ e∈l,e∈l')(hc:∀ e∈l',Con l e.1 e.2.1):FC n rings l':=
 ⟨h.fr,fun a b ia ib=>(h.sam a b ia ib).trans ⟨fun c=>c.sub hm,fun c=>c.cut hc⟩,fun A hA u v ho hu=>by
  obtain⟨e,he,q⟩:=h.arcs A hA u v ho hu
  exact⟨e,hm e he,q⟩⟩
theorem APS{N:Nat}(h1:1≤N)(hN:N≤64){ts:List Tie}(hs:ts.length≤400)(ho:oks N ts):E0 (((N:Int),(ts,())),())=some (true,())↔Fo N (trs ts ts.length):=by
 have hlen:=AJs ts ts.length
 obtain⟨o,_,c⟩:=GS (N:Int) (trs ts ts.length) ⟨by omega,by omega⟩ (by omega) (ATb hN ho)
 rw[APT h1 hN hs ho c,Aln h1 hN c]
 unfold Fo
 constructor
 ·intro h
  have:decide ((cc N (trs ts ts.length):Int)=(N:Int)-(trs ts ts.length).length)=true:=by injection h with h;injection h
  have:=Aob this
  omega
 ·intro h
  rw[AmU (by omega)]
end Go.Pev.Pl
end
section
namespace Go.Pev.Pl
open Tok
end Go.Pev.Pl
end
section
namespace Go.Pev.Pl.SE
open Go.Sort
def ok(_:Int×Int×Unit):Prop:=True
def okz:Int×Int×Unit:=(0,0,())
theorem VW:ok okz:=trivial
def lt(x y:Int×Int×Unit):Bool:=decide (x.1<y.1∨(x.1=y.1∧x.2.1<y.2.1))
theorem swo:SWO lt:=⟨fun x=>by simp[lt],fun x y z h1 h2=>by simp only[lt,AmV]at *;omega,fun x y z h1 h2=>by simp only[lt,AnK]at *;omega⟩
theorem Yk(a b:Int):Dj (a,b,())=some (if a<b then -1 else if b<a then 1 else 0,()):=by
 rw[Gj,EY,LF,LG,LF,LG]
 simp only[B4,Ah]
 by_cases h:a<b
 ·simp[h]
 ·by_cases h2:b<a
  ·simp[h,h2]
  ·simp[h,h2]
theorem or_val(a b:Int):orI ([a,b],())=some (if a=0 then b else a,()):=by
 obtain⟨m,hm⟩:∃ m,many=m+3:=⟨many-3,by simp only[many]⟩
 rw[ALr,AIc,As,hm]
 have i0:idx [a,b] (0:Int)=some a:=by rw[idx_eq];rfl
 have i1:idx [a,b] (1:Int)=some b:=by rw[idx_eq];rfl
 have l2:AK [a,b]=(2:Int):=rfl
 have w1:IntKind.wrap .i64 ((0:Int)+1)=1:=by rw[Aj (by omega)];rfl
 have w2:IntKind.wrap .i64 ((1:Int)+1)=2:=by rw[Aj (by omega)];rfl
 have c0:ilt (0:Int) 2=true:=by rw[Ah];rfl
 have c1:ilt (1:Int) 2=true:=by rw[Ah];rfl
 have c2:ilt (2:Int) 2=false:=by rw[Ah];rfl
 by_cases ha:a=0
 ·subst ha
  by_cases hb:b=0
  ·subst hb
   have z:ieq (0:Int) 0=true:=by rw[B4];rfl
   simp only[AY,Fc,l2,i0,i1,w1,w2,c0,c1,c2,z,Amf,Am7]
  ·have:ieq b 0=false:=by rw[B4];simpa using hb
   have z:ieq (0:Int) 0=true:=by rw[B4];rfl
   simp only[AY,Fc,l2,i0,i1,w1,w2,c0,c1,c2,z,this,Amf,Am2,Am7]
 ·have:ieq a 0=false:=by rw[B4];simpa using ha
  simp only[AY,Fc,l2,i0,i1,w1,w2,c0,c1,c2,this,ha,Am2,Amn]
end Go.Pev.Pl.SE
end
section
namespace Go.Pev.Pl.ST
open Go.Sort
def ok(_:Int×Int×Int×Bool×Unit):Prop:=True
def okz:Int×Int×Int×Bool×Unit:=(0,0,0,false,())
theorem VW:ok okz:=trivial
def lt(x y:Int×Int×Int×Bool×Unit):Bool:=decide (x.1<y.1∨(x.1=y.1∧x.2.1<y.2.1))
theorem swo:SWO lt:=⟨fun x=>by simp[lt],fun x y z h1 h2=>by simp only[lt,AmV]at *;omega,fun x y z h1 h2=>by simp only[lt,AnK]at *;omega⟩
theorem Yk(a b:Int):Dj (a,b,())=some (if a<b then -1 else if b<a then 1 else 0,()):=by
 rw[Gj,EY,LF,LG,LF,LG]
 simp only[B4,Ah]
 by_cases h:a<b
 ·simp[h]
 ·by_cases h2:b<a
  ·simp[h,h2]
  ·simp[h,h2]
theorem or_val(a b:Int):orI ([a,b],())=some (if a=0 then b else a,()):=by
 obtain⟨m,hm⟩:∃ m,many=m+3:=⟨many-3,by simp only[many]⟩
 rw[ALr,AIc,As,hm]
 have i0:idx [a,b] (0:Int)=some a:=by rw[idx_eq];rfl
 have i1:idx [a,b] (1:Int)=some b:=by rw[idx_eq];rfl
 have l2:AK [a,b]=(2:Int):=rfl
 have w1:IntKind.wrap .i64 ((0:Int)+1)=1:=by rw[Aj (by omega)];rfl
 have w2:IntKind.wrap .i64 ((1:Int)+1)=2:=by rw[Aj (by omega)];rfl
 have c0:ilt (0:Int) 2=true:=by rw[Ah];rfl
 have c1:ilt (1:Int) 2=true:=by rw[Ah];rfl
 have c2:ilt (2:Int) 2=false:=by rw[Ah];rfl
 by_cases ha:a=0
 ·subst ha
  by_cases hb:b=0
  ·subst hb
   have z:ieq (0:Int) 0=true:=by rw[B4];rfl
   simp only[AY,Fc,l2,i0,i1,w1,w2,c0,c1,c2,z,Amf,Am7]
  ·have:ieq b 0=false:=by rw[B4];simpa using hb
   have z:ieq (0:Int) 0=true:=by rw[B4];rfl
   simp only[AY,Fc,l2,i0,i1,w1,w2,c0,c1,c2,z,this,Amf,Am2,Am7]
 ·have:ieq a 0=false:=by rw[B4];simpa using ha
  simp only[AY,Fc,l2,i0,i1,w1,w2,c0,c1,c2,this,ha,Am2,Amn]
end Go.Pev.Pl.ST
end
section
namespace Go.Pev.Pl
open Tok
section
variable {α β:Type} [DecidableEq α]
end
end Go.Pev.Pl
end
section
namespace Go.Pev.Pl
open Tok
theorem AjB:∀ (xs b:List Edge),sel xs (gfl b xs)=Mc b xs:=by
 intro xs
 induction xs with
 |nil=>intro b;rfl
 |cons x xs ih=>
  intro b
  have:=ih (b++[x])
  unfold sel at *
  rw[gfl,Mc,Aoy,AnR]
  by_cases h:PD b x.1 x.2.1=true
  ·simp[h,this]
  ·simp[h,this]
theorem Aki{N:Nat}{b xs:List Edge}(h:Fo N b)(hx:∀ e∈xs,InE N e):Fo N (b++Mc b xs):=by
 have h1:=On xs b hx
 have h2:cc N (b++xs)=cc N (b++Mc b xs):=AFJ fun a c=>AE9 xs b
 unfold Fo at *
 rw[Amc]
 omega
theorem Xq{N:Nat}(hN:N≤64):0≤Il N:=by
 have:((List.range 65).all fun k=>decide (0≤Il k))=true:=by kernel_rfl
 exact Aob (Amr.1 this N (by simp;omega))
noncomputable def grown(N:Nat)(ts:List Tie)(l:List Edge):List Tie:=Zs ts (Kb N ts l) (gfl (trs ts ts.length) (Kb N ts l)) (Kb N ts l).length
theorem AdP(N:Nat)(ts:List Tie)(l:List Edge):(grown N ts l).length=ts.length+(Kb N ts l).length:=AiQ ..
theorem AdN(N:Nat)(ts:List Tie)(l:List Edge):(trs (grown N ts l) (grown N ts l).length).Perm (trs ts ts.length++Mc (trs ts ts.length) (Kb N ts l)):=by
 have:=AiO ts (xs:=Kb N ts l) (bs:=gfl (trs ts ts.length) (Kb N ts l)) (AkH _ _)
 rw[AjB]at this
 exact this
theorem AdO{N:Nat}(hN:N≤64){ts:List Tie}(ho:oks N ts)(l:List Edge):oks N (grown N ts l):=
 AiP ho (Xq hN) _ (AXy N ts l) (fun e he=>by
  obtain⟨⟨a,b,c,_⟩,_⟩:=(Vo N ts l e).1 he
  exact⟨a,b,c⟩) (fun e he=>((Vo N ts l e).1 he).2)
theorem Adq{N:Nat}(hN:N≤64)(ts:List Tie)(l:List Edge):∀ e∈Kb N ts l,InE N e:=fun e he=>AhJ (AiB hN ts l e he)
theorem Ahd{N:Nat}(hN:N≤64){ts:List Tie}(h:Fo N (trs ts ts.length))(l:List Edge):Fo N (trs (grown N ts l) (grown N ts l).length):=
 (Aki h (Adq hN ts l)).perm (AdN N ts l).symm
structure RG2(N:Nat)(ts:List Tie):Prop where
 h1:1≤N
 hN:N≤64
 ht:ts.length≤400
 oks:oks N ts
 fo:Fo N (trs ts ts.length)
theorem RG2.r21{N:Nat}{ts:List Tie}(h:RG2 N ts):E0 (((N:Int),(ts,())),())=some (true,()):=(APS h.h1 h.hN h.ht h.oks).2 h.fo
theorem RG2.lr{N:Nat}{ts:List Tie}(h:RG2 N ts):LM (((N:Int),(ts,())),())=some (true,()):=by
 obtain⟨b,h1,h2,_⟩:=AFU (N:Int) ts (by have:=h.ht;omega)
 rw[h.r21]at h1
 cases h1
 exact h2
theorem Abj(n:Int)(ts:List Tie)(hl:ts.length<4611686018427387904):(E0 ((n,(ts,())),())=some (false,())∧LM ((n,(ts,())),())=some (false,()))∨∃ N:Nat,n=(N:Int)∧RG2 N ts:=by
 obtain⟨b,h1,h2,h3⟩:=AFU n ts hl
 cases b
 ·exact .inl ⟨h1,h2⟩
 ·obtain⟨N,rfl,q1,q2,q3,q4⟩:=h3 rfl
  exact .inr ⟨N,rfl,q1,q2,q3,q4,(APS q1 q2 q3 q4).1 h1⟩
theorem RG2.inE{N:Nat}{ts:List Tie}(h:RG2 N ts):∀ e∈ts.map ed,In (N:Int) e.1∧In (N:Int) e.2.1:=All h.hN h.oks
theorem RG2.grown{N:Nat}{ts:List Tie}(h:RG2 N ts){l:List Edge}(hf:ts.length+(Kb N ts l).length≤400):RG2 N (grown N ts l):=
 ⟨h.h1,h.hN,by rw[AdP];exact hf,AdO h.hN h.oks l,Ahd h.hN h.fo l⟩
end Go.Pev.Pl
end
section
namespace Go.Pev.Pl
open Tok
end Go.Pev.Pl
end
end
section
namespace Go.Pev.Pl
open Tok
theorem Ael(ts:List Tie)(t:Tie)(k:Int):trk (ts++[t]) k=trk ts k++if t.2.2.2.1=true∧k≤t.2.2.1 then [ed t]else []:=by
 rw[DX]
 congr 1
 unfold trk
 rw[AnR]
 by_cases h:t.2.2.2.1=true∧k≤t.2.2.1
 ·rw[Amk h,h.1,AmU h.2];rfl
 ·rw[Amh h,Amh]
  ·rfl
  ·rw[AmX,AmV];exact h
theorem AOS(k:Int):∀ (ts a:List Tie) (acc:List Edge),acc=trk a k→ts.foldl (fun acc t=>if t.2.2.2.1=true∧k≤t.2.2.1 then acc++[ed t]else acc) acc=trk (a++ts) k:=by
 intro ts
 induction ts with
 |nil=>intro a acc h;simpa using h
 |cons t ts ih=>
  intro a acc h
  rw[AnM,ih (a++[t])]
  ·simp
  ·rw[Ael,← h]
   split<;>simp
theorem Aig(ts:List Tie)(k:Int):(trk ts k).length≤ts.length:=by
 unfold trk
 rw[Ano]
 exact Anh _ _
theorem Aif(ts:List Tie)(k:Int):∀ e∈trk ts k,e∈ts.map ed:=by
 intro e he
 obtain⟨t,h1,_,_,rfl⟩:=C6.1 he
 exact Amo.2 ⟨t,h1,rfl⟩
theorem ARN(n:Int)(ts:List Tie)(hs:ts.length≤400)(k:Int):QM ((n,(ts,())),k,())=some (trk ts k,()):=by
 rw[WC,NO]
 have e:=DQ (step:=Cm) (fun i (a:List Edge)=>(k,a,ts,AK ts,(i:Int),())) ts (fun t a=>.inl (if t.2.2.2.1=true∧k≤t.2.2.1 then a++[ed t]else a)) (fun a=>.inl (a,())) (fun i a=>a.length≤i) (by omega)
  (fun i x a hi hx ha=>by
   refine⟨fun m' h' => ?_,fun r h'=>(by cases h')⟩
   cases h'
   constructor
   ·rw[Cm,AM,AR,AmU hi]
    simp only[Ak hx,AM]
    rw[AS (by omega),A0,BY (by simp only[Amb,Amw];omega)]
    cases h4:x.2.2.2.1
    ·simp
    ·by_cases h5:k≤x.2.2.1
     ·simp[h5,ed,A2]
     ·simp[h5]
   ·split
    ·rw[Amc];simp;omega
    ·omega)
  (fun a _=>by rw[Cm,AM,AR,AmS (by omega)]) [] (Amd _)
 have e':AX Cm many (k,[],ts,AK ts,(0:Int),())=_:=e
 simp only[e']
 rw[Ba (fun(t:Tie) (a:List Edge)=>if t.2.2.2.1=true∧k≤t.2.2.1 then a++[ed t]else a),AOS k ts [] [] rfl]
 rfl
theorem Aah(n:Int)(ts:List Tie)(hs:ts.length≤400)(k:Int):RT ((n,(ts,())),k,())=some (trk ts k,()):=by
 rw[AAz,OH]
 have e:=DQ (step:=EM) (fun i (a:List Edge)=>(k,n,ts,a,(i:Int),())) ts (fun t a=>.inl (if t.2.2.2.1=true∧k≤t.2.2.1 then a++[ed t]else a)) (fun a=>.inl (a,())) (fun i a=>a.length≤i) (by omega)
  (fun i x a hi hx ha=>by
   refine⟨fun m' h' => ?_,fun r h'=>(by cases h')⟩
   cases h'
   constructor
   ·rw[EM,AM,AR,AmU hi]
    simp only[Ak hx,AM]
    rw[AS (by omega),A0,BY (by simp only[Amb,Amw];omega)]
    cases h4:x.2.2.2.1
    ·simp
    ·by_cases h5:k≤x.2.2.1
     ·simp[h5,ed,A2]
     ·simp[h5]
   ·split
    ·rw[Amc];simp;omega
    ·omega)
  (fun a _=>by rw[EM,AM,AR,AmS (by omega)]) [] (Amd _)
 have e':AX EM many (k,n,ts,[],(0:Int),())=_:=e
 simp only[e']
 rw[Ba (fun(t:Tie) (a:List Edge)=>if t.2.2.2.1=true∧k≤t.2.2.1 then a++[ed t]else a),AOS k ts [] [] rfl]
 rfl
theorem Aek{N:Nat}{ts:List Tie}(h:oks N ts):trs ts ts.length=trk ts 0:=by
 rw[AJt]
 unfold trk
 congr 1
 refine ApQ fun t ht => ?_
 have:=((Z6 N ts).1 h).1 t ht
 rw[AmU this.2.2.2.1,Bool.and_true]
theorem RG2.fo0{N:Nat}{ts:List Tie}(h:RG2 N ts):Fo N (trk ts 0):=by rw[← Aek h.oks];exact h.fo
theorem RG2.inK{N:Nat}{ts:List Tie}(h:RG2 N ts)(k:Int):∀ e∈trk ts k,In (N:Int) e.1∧In (N:Int) e.2.1:=fun e he=>h.inE e (Aif ts k e he)
theorem RG2.Alb{N:Nat}{ts:List Tie}(h:RG2 N ts)(k:Int):(trk ts k).length≤400:=Ana (Aig ts k) h.ht
theorem RG2.AmO{N:Nat}{ts:List Tie}(h:RG2 N ts)(k:Int):∃ zs,LP (((N:Int),(ts,())),k,())=some (((N:Int),(zs,())),0,())∧FC (N:Int) zs (trk ts k):=by
 have hl:=h.Alb k
 have h1:=h.h1
 have hN:=h.hN
 rcases(AZ1 (N:Int) (trk ts k) ⟨by omega,by omega⟩ (by omega)).symm with⟨hno,_⟩|⟨_,zs,e,hF⟩
 ·exact absurd (h.inK k) hno
 refine⟨zs,?_,hF⟩
 rw[LO,HT]
 simp only[h.lr,Amf,ARN (N:Int) ts h.ht k,e]
theorem RG2.AmG{N:Nat}{ts:List Tie}(h:RG2 N ts)(k:Int):∃ out,HW ((N:Int),trk ts k,())=some (out,())∧Xp (N:Int) (trk ts k) out:=by
 have:=h.Alb k
 have h1:=h.h1
 have hN:=h.hN
 exact GS (N:Int) (trk ts k) ⟨by omega,by omega⟩ (by omega) (h.inK k)
end Go.Pev.Pl
end
section
namespace Go.Pev.Pl
open Tok
def Akw(ts:List Tie):Prop:=∀ e∈ts.map ed,Con (trk ts 0) e.1 e.2.1
def AmF(ts:List Tie):Prop:=∀ t∈ts,t.2.2.2.1=false→Con (trk ts t.2.2.1) t.1 t.2.1
def Akx(N:Nat)(ts:List Tie):Prop:=∀ k:Nat,(k:Int)≤Il N→∀ v:Nat,v<N→csz N (trk ts k) v≤max 1 (N/2 ^ k)
theorem RG2.tie{N:Nat}{ts:List Tie}(h:RG2 N ts){t:Tie}(ht:t∈ts):In (N:Int) t.1∧In (N:Int) t.2.1∧t.1<t.2.1∧0≤t.2.2.1∧t.2.2.1≤Il N:=by
 have h1:=((Z6 N ts).1 h.oks).1 t ht
 have h2:=h.inE (ed t) (Amo.2 ⟨t,ht,rfl⟩)
 exact⟨h2.1,h2.2,h1.2.1,h1.2.2.2.1,h1.2.2.2.2⟩
end Go.Pev.Pl
end
section
namespace Go.Pev.Pl
open Tok
def AOZ(N:Nat):Nat:=(Il N).toNat
theorem AJ4{N:Nat}(hN:N≤64):Il N=(AOZ N:Int):=by
 have:=Xq hN
 unfold AOZ
 omega
theorem RG2.snd{N:Nat}{ts:List Tie}(h:RG2 N ts)(hs:Akw ts∧AmF ts∧Akx N ts):Snd N (AOZ N:Int) ts:=by
 refine⟨fun x hx => ?_,fun x hx=>AhJ (h.inE _ (Amo.2 ⟨x,hx,rfl⟩)),h.fo0,hs.2.1,fun k hk v hv=>hs.2.2 k (by rw[AJ4 h.hN];exact hk) v hv⟩
 rw[← AJ4 h.hN]
 exact(h.tie hx).2.2.2
theorem Snd.parts{N:Nat}{ts:List Tie}(h:RG2 N ts)(hs:Snd N (AOZ N:Int) ts):Akw ts∧AmF ts∧Akx N ts:=by
 refine⟨fun e he=>(hs.span _ _).1 (.edge e he),hs.lie,fun k hk v hv=>hs.halv k (by rw[← AJ4 h.hN];exact hk) v hv⟩
end Go.Pev.Pl
end
section
namespace Go.Pev.Pl
open Tok
theorem Aik{N:Nat}(hN:N≤64):N/2 ^ AOZ N≤1:=by
 have:((List.range 65).all fun k=>decide (k/2 ^ AOZ k≤1))=true:=by kernel_rfl
 exact Aob (Amr.1 this N (by simp;omega))
theorem RG2.below{N:Nat}{ts:List Tie}(h:RG2 N ts)(hs:Snd N (AOZ N:Int) ts){t:Tie}(ht:t∈ts):t.2.2.1<(AOZ N:Int):=
 hs.below (Aik h.hN) ht (by have:=(h.tie ht).2.2.1;omega)
end Go.Pev.Pl
end
section
namespace Go.Pev.Pl
open Tok
end Go.Pev.Pl
end
section
namespace Go.Pev.Pl
open Tok
end Go.Pev.Pl
end
section
namespace Go.Pev.Pl
open Tok
end Go.Pev.Pl
end
section
namespace Go.Pev.Pl
open Tok
theorem RG2.edP{N:Nat}{ts:List Tie}(h:RG2 N ts):(ts.map ed).Pairwise J0:=by
 rw[Anx]
 exact((Z6 N ts).1 h.oks).2
end Go.Pev.Pl
end
section
namespace Go.Pev.Pl
open Tok
end Go.Pev.Pl
end
section
namespace Go.Pev.Pl
section
variable {N top:Nat} {ts w:List Tie} (hp:w.Perm ts) (hi:∀ x∈ts,InE N (ed x)) (hl:∀ t∈ts,0≤t.2.2.1∧t.2.2.1≤(top:Int)) (hfo:Fo N (trk ts 0)) (hlie:∀ x∈ts,x.2.2.2.1=false→Con (trk ts x.2.2.1) x.1 x.2.1)
include hp hi
include hl hfo hlie
end
end Go.Pev.Pl
end
section
namespace Go.Pev.Pl
open Tok
theorem AmC(x:Tie):(x.1,(x.2.1,(x.2.2.1,(x.2.2.2.1,()))))=x:=rfl
end Go.Pev.Pl
end
section
namespace Go.Pev.Pl
open Tok
def bef(x y:Tie):Prop:=y.2.2.1<x.2.2.1∨(x.2.2.1=y.2.2.1∧ahead x y)
theorem bef.trans{x y z:Tie}(h:bef x y)(h':bef y z):bef x z:=by
 unfold bef ahead at *
 omega
def Mrg(u v w:List Tie):Prop:=w.Perm (u++v)∧w.Pairwise bef
end Go.Pev.Pl
end
section
namespace Go.Pev.Pl
open Tok
noncomputable section
end
theorem Mrg.append{u1 u2 v1 v2 w1 w2:List Tie}(h1:Mrg u1 v1 w1)(h2:Mrg u2 v2 w2)(hu:(u1++u2).Pairwise bef)(hv:(v1++v2).Pairwise bef)(c1:∀ x∈u1,∀ y∈v2,bef x y)(c2:∀ y∈v1,∀ x∈u2,bef y x):Mrg (u1++u2) (v1++v2) (w1++w2):=by
 rw[ApB]at hu hv
 refine⟨?_,?_⟩
 ·refine(h1.1.append h2.1).trans ?_
  rw[AnY,AnY]
  refine List.Perm.append_left _ ?_
  rw[← AnY,← AnY]
  exact List.Perm.append_right _ AoD
 ·rw[ApB]
  refine⟨h1.2,h2.2,fun x hx y hy => ?_⟩
  have hx:=AmY.1 (h1.1.mem_iff.1 hx)
  have hy:=AmY.1 (h2.1.mem_iff.1 hy)
  rcases hx with hx|hx<;>rcases hy with hy|hy
  ·exact hu.2.2 x hx y hy
  ·exact c1 x hx y hy
  ·exact c2 x hx y hy
  ·exact hv.2.2 x hx y hy
end Go.Pev.Pl
end
section
namespace Go.Pev.Pl
open Tok
end Go.Pev.Pl
end
section
namespace Go.Pev.Pl
open Tok
end Go.Pev.Pl
end
section
namespace Go.Pev.Pl
open Tok
theorem X1(l:List Edge)(hs:l.length<1073741824):M0 (l,l,())=some (true,()):=by
 rw[AIB,Rd,AM,Ar]
 have e:=MW (step:=FW) (fun i=>(l,l,(i:Int),())) l (fun _=>false) (fun _=>.inl (false,())) (.inr (.inl ())) (by omega)
  (fun i x hi hx=>by
   rw[FW,AM,AR,AmU hi]
   simp only[Ak hx,Ar,Amg,Anz,Amf]
   rw[AS (by omega)]
   rfl)
  (by rw[FW,AM,AR,AmS (by omega)])
 have e':AX FW many (l,l,(0:Int),())=_:=e
 have hf:(l.any fun _=>false)=false:=by simp
 rw[e',hf]
 simp
def lvl(ts:List Tie)(k:Int):List Tie:=ts.filter fun t=>decide (t.2.2.1=k)
end Go.Pev.Pl
end
section
namespace Go.Pev.Pl
open Tok
section
variable (n:Int) (ts:List Tie)
end
end Go.Pev.Pl
end
section
namespace Go.Pev.Pl
open Tok
def mid(f:Int→Int)(xs:List Int)(i:Nat):List Int:=(xs.take i).map f++xs.drop i
def lb(at0:List Int)(v:Int):Int:=at0.getD v.toNat 0
end Go.Pev.Pl
end
section
namespace Go.Pev.Pl
open Tok
end Go.Pev.Pl
end
section
namespace Go.Pev.Pl
section
variable {α β:Type} [DecidableEq α]
theorem ADo(es:List (α×β))(k:α)(v:β)(j:α):AP (Af es k v) j=if j=k then some v else AP es j:=by
 induction es with
 |nil=>
  simp only[Af,AP]
  by_cases h:j=k
  ·rw[Amk h,Amk h.symm]
  ·rw[Amh h,Amh (Am8 h)]
 |cons e es ih=>
  obtain⟨a,x⟩:=e
  by_cases h1:a=k
  ·subst h1
   simp only[Af,AP,Am7]
   by_cases h:j=a
   ·rw[Amk h,Amk h.symm]
   ·rw[Amh h,Amh (Am8 h),Amh (Am8 h)]
  ·simp only[Af,AP,h1,Amn,ih]
   by_cases h:a=j
   ·subst h
    rw[Amk rfl,Amh h1,Amk rfl]
   ·rw[Amh h,Amh h]
theorem AIN:∀ (es:List (α×β)) (k:α),D7 es k=none→∀ v,Af es k v=es++[(k,v)]:=by
 intro es
 induction es with
 |nil=>intro k _ v;rfl
 |cons e es ih=>
  intro k h v
  obtain⟨a,b⟩:=e
  by_cases hk:a=k
  ·simp[D7,hk]at h
  ·simp only[D7,hk,Amn,ApT]at h
   simp only[Af,hk,Amn,ih k h v,Amy]
theorem AIM:∀ (es:List (α×β)) (k:α) (n:Nat),D7 es k=some n→∀ v,n<es.length∧Af es k v=es.modify n fun e=>(e.1,v):=by
 intro es
 induction es with
 |nil=>intro k n h;simp[D7]at h
 |cons e es ih=>
  intro k n h v
  obtain⟨a,b⟩:=e
  by_cases hk:a=k
  ·simp only[D7,hk,Am7,AmT]at h
   subst h
   simp[Af,hk]
  ·simp only[D7,hk,Amn,Ami]at h
   obtain⟨m,hm,rfl⟩:=h
   obtain⟨h1,h2⟩:=ih k m hm v
   simp only[Af,hk,Amn,Amb]
   exact⟨by omega,by rw[h2];rfl⟩
theorem AWL(es:List (α×β))(k:α)(z v:β):(ile (0:Int) (Rl es k)&&ilt (Rl es k) (AK (Af es k z)))=true∧ARA (Af es k z) (Rl es k) v=Af es k v:=by
 rw[A0,Ah]
 unfold Rl ARA
 cases h:D7 es k with
 |none=>
  rw[AIN es k h,AIN es k h,Option.getD_none,AnJ]
  constructor
  ·rw[AmU (by omega),AmU (by rw[AM,Amc];simp;omega)];rfl
  ·have:∀ (xs:List (α×β)),(xs++[(k,z)]).modify xs.length (fun e=>(e.1,v))=xs++[(k,v)]:=by
    intro xs
    induction xs with
    |nil=>rfl
    |cons x xs ih=>rw[Amy,Amb,List.modify_succ_cons,ih];rfl
   exact this es
 |some n=>
  obtain⟨h1,h2⟩:=AIM es k n h z
  obtain⟨_,h3⟩:=AIM es k n h v
  rw[h2,h3,Am4,AnJ]
  constructor
  ·rw[AmU (by omega),AmU (by rw[AM,List.length_modify];omega)];rfl
  ·apply AoM
   intro i
   simp only[Ao9]
   cases es[i]? with
   |none=>split<;>rfl
   |some e=>split<;>rfl
end
end Go.Pev.Pl
end
section
namespace Go.Pev.Pl
open Tok
end Go.Pev.Pl
end
section
namespace Go.Pev.Pl
open Tok
end Go.Pev.Pl
end
section
namespace Go.Pev.Pl
open Tok
end Go.Pev.Pl
end
section
namespace Go.Pev.Pl
open Tok
section
variable (n:Int) (a2 a3:Bool) (a4 a5 top:Int)
end
end Go.Pev.Pl
end
section
namespace Go.Pev.Pl
section
variable {α:Type} (z:α)
theorem AES{a o:List α}{m k:Nat}(h:a.drop m=o.drop m)(hk:m≤k):a.getD k z=o.getD k z:=by
 have:=Anj (fun l=>l.getD (k-m) z) h
 simp only[AmW,AnQ]at this
 rw[Nat.add_sub_cancel' hk]at this
 simpa [AmW]using this
theorem MQ{xs:List α}{i:Nat}(h:i<xs.length):xs.take (i+1)=xs.take i++[xs.getD i z]:=by
 rw[Ant h];simp[h]
theorem Ah4{σ ρ:Type}{step:σ→Option (σ⊕ρ)}(st:List α→Nat→Nat→σ)(fin:List α→Nat→ρ)(keep:α→Bool)(o:List α)
  (h:∀ a w j,a.length=o.length→j<o.length→w<j→a.getD j z=o.getD j z→step (st a w j)=some (.inl (if keep (o.getD j z)=true then st (a.set w (o.getD j z)) (w+1) (j+1)else st a w (j+1))))
  (hN:∀ a w,a.length=o.length→step (st a w o.length)=some (.inr (fin a w))) :
  ∀ (k j w:Nat) (a:List α) (cnt:Nat),j+k=o.length→a.length=o.length→w=((o.take j).filter keep).length→a.take w=(o.take j).filter keep→w<j→a.drop j=o.drop j→k<cnt →
  ∃ a':List α,AY step cnt (st a w j)=some (fin a' (o.filter keep).length)∧a'.length=o.length∧a'.take (o.filter keep).length=o.filter keep:=by
 intro k
 induction k with
 |zero=>
  intro j w a cnt hk hl hw hq hwj hd hn
  obtain⟨cnt,rfl⟩:∃ k,cnt=k+1:=⟨cnt-1,by omega⟩
  have e:j=o.length:=by omega
  subst e
  rw[Anq]at hw hq
  rw[AY,hN a w hl]
  exact⟨a,by rw[hw],hl,by rw[← hw];exact hq⟩
 |succ k ih=>
  intro j w a cnt hk hl hw hq hwj hd hn
  obtain⟨cnt,rfl⟩:∃ k,cnt=k+1:=⟨cnt-1,by omega⟩
  have g1:=AES z hd (Amd j)
  have hdd:a.drop (j+1)=o.drop (j+1):=by
   have:=Anj (List.drop 1) hd
   simpa only[AoJ]using this
  have hst:(o.take (j+1)).filter keep=(o.take j).filter keep++if keep (o.getD j z)=true then [o.getD j z]else []:=by
   rw[MQ z (by omega),AoG]
   generalize o.getD j z=v
   by_cases h:keep v=true<;>simp[h]
  rw[AY,h a w j hl (by omega) hwj g1]
  by_cases hv:keep (o.getD j z)=true
  ·rw[Amk hv]at hst ⊢
   refine ih (j+1) (w+1) (a.set w (o.getD j z)) cnt (by omega) (by simp[hl]) (by rw[hst];simp[hw]) ?_ (by omega) ?_ (by omega)
   ·rw[hst,← hq,Ant (by simp;omega)]
    simp[List.take_set_of_le]
   ·rw[List.drop_set_of_lt (by omega)]
    exact hdd
  ·rw[Amh hv]at hst ⊢
   rw[Anb]at hst
   exact ih (j+1) w a cnt (by omega) hl (by rw[hst];exact hw) (by rw[hst];exact hq) (by omega) hdd (by omega)
theorem AI6{σ ρ σ' ρ':Type}{find:σ'→Option (σ'⊕ρ')}{step:σ→Option (σ⊕ρ)}(st:List α→Nat→Nat→σ)(fin:List α→Nat→ρ)(sf:Nat→σ')(fr:Nat→ρ')(fn:ρ')(keep:α→Bool)(o:List α)(hs:o.length<4294967296)
  (h:∀ a w j,a.length=o.length→j<o.length→w<j→a.getD j z=o.getD j z→step (st a w j)=some (.inl (if keep (o.getD j z)=true then st (a.set w (o.getD j z)) (w+1) (j+1)else st a w (j+1))))
  (hN:∀ a w,a.length=o.length→step (st a w o.length)=some (.inr (fin a w)))
  (f:∀ i,i<o.length→find (sf i)=if keep (o.getD i z)=true then some (.inl (sf (i+1)))else some (.inr (fr i))) (fN:find (sf o.length)=some (.inr fn)) :
  (o.filter keep=o∧AX find many (sf 0)=some fn) ∨
  (∃ k a',k<o.length∧AX find many (sf 0)=some (fr k)∧AX step many (st o k (k+1))=some (fin a' (o.filter keep).length)∧a'.length=o.length∧(o.filter keep).length≤o.length∧a'.take (o.filter keep).length=o.filter keep):=by
 have hm:4294967296<many:=by simp only[many];omega
 have hall:∀ n,(∀ j,j<n→j<o.length→keep (o.getD j z)=true)→(o.take n).filter keep=o.take n:=by
  intro n hj
  rw[ApF]
  intro x hx
  obtain⟨j,h1,rfl⟩:=AoY.1 hx
  have:=hj j (by omega) (by omega)
  simpa [show j<o.length by omega]using this
 rcases APD (step:=find) sf o.length (fun i => !keep (o.getD i z)) fr fn (by omega) (fun i hi=>by rw[f i hi];cases keep (o.getD i z)<;>rfl) fN with⟨k,hk,hP,hF,e⟩|⟨hP,e⟩
 ·right
  have hkf:keep (o.getD k z)=false:=by
   cases hq:keep (o.getD k z)
   ·rfl
   ·rw[hq]at hP;cases hP
  have h1:(o.take k).filter keep=o.take k:=hall k fun j h1 _=>by
   have:=hF j h1
   cases hq:keep (o.getD j z)
   ·rw[hq]at this;cases this
   ·rfl
  have h2:(o.take (k+1)).filter keep=o.take k:=by
   rw[MQ z hk,AoG,h1,AnR,hkf]
   simp
  obtain⟨a',e2,e3,e4⟩:=Ah4 z st fin keep o h hN (o.length-(k+1)) (k+1) k o many (by omega) rfl (by rw[h2,Amm];omega) (by rw[h2]) (by omega) rfl (by omega)
  exact⟨k,a',hk,e,by rw[As];exact e2,e3,Anh _ _,e4⟩
 ·left
  refine⟨?_,e⟩
  have:=hall o.length fun j _ h2=>by
   have:=hP j h2
   cases hq:keep (o.getD j z)
   ·rw[hq]at this;cases this
   ·rfl
  rwa [Anq]at this
theorem AFE{a:List α}{w:Nat}(h:w≤a.length):(Bk w (a.length-w) z a).take w=a.take w∧(Bk w (a.length-w) z a).length=a.length:=by
 constructor
 ·rw[Bk,List.take_append_of_le_length (by simp;omega),Aoe,Nat.min_self]
 ·simp[Bk];omega
end
end Go.Pev.Pl
end
section
namespace Go.Pev.Pl
open Tok
end Go.Pev.Pl
end
section
namespace Go.Pev.Pl
open Tok
end Go.Pev.Pl
end
section
namespace Go.Pev.Pl
open Tok
end Go.Pev.Pl
end
section
namespace Go.Pev.Pl
open Tok
theorem Zq{n:Int}(l:List Edge)(hs:l.length<1073741824)(ha:∀ e∈l,In n e.1∧In n e.2.1):
  ∀ (m i c1 c2:Nat) (rings:List (List Int)) (t1 t2:List Bool),i+m=l.length→t1.length=i→t2.length=i→FC n rings (l.take i)→m<c1→m<c2 →
  ∃ zs b1 b2,AY ET c1 (l,n,rings,(0:Int),t1,(i:Int),())=some (.inl (n,zs,(0:Int),b1,()))∧AY By c2 (n,rings,(0:Int),t2,l,(l.length:Int),(i:Int),())=some (.inl (n,zs,(0:Int),b2,()))∧FC n zs l:=by
 intro m
 induction m with
 |zero=>
  intro i c1 c2 rings t1 t2 hi ht1 ht2 h hc1 hc2
  obtain⟨c1,rfl⟩:∃ c,c1=c+1:=⟨c1-1,by omega⟩
  obtain⟨c2,rfl⟩:∃ c,c2=c+1:=⟨c2-1,by omega⟩
  rw[AnT (by omega)]at h
  refine⟨rings,t1,t2,?_,?_,h⟩
  ·rw[AY,ET,AM,AR,AmS (by omega)]
  ·rw[AY,By,AR,AmS (by omega)]
 |succ m ih=>
  intro i c1 c2 rings t1 t2 hi ht1 ht2 h hc1 hc2
  obtain⟨c1,rfl⟩:∃ c,c1=c+1:=⟨c1-1,by omega⟩
  obtain⟨c2,rfl⟩:∃ c,c2=c+1:=⟨c2-1,by omega⟩
  have hi':i<l.length:=by omega
  have hx:l[i]? = some l[i]:=AmZ hi'
  obtain⟨iu,iv⟩:=ha _ (An4 hi')
  obtain⟨zs,q,e1,e2,_⟩:=AaK h iu iv
  obtain⟨zs',q',f1,f2,_⟩:=AYD (n:=n) (rings:=rings) l[i].1 l[i].2.1 h.fr.dom
  rw[e1]at f1
  cases f1
  rw[← Ant hi']at e2
  obtain⟨zs2,b1,b2,g1,g2,g3⟩:=ih (i+1) c1 c2 zs (A2 t1 [ieq q 0]) (A2 t2 [ieq q 0]) (by omega) (by simp[C9,ht1]) (by simp[C9,ht2]) e2 (by omega) (by omega)
  refine⟨zs2,b1,b2,?_,?_,g3⟩
  ·rw[AY,ET,AM,AR,AmU hi']
   simp only[Ak hx,f2]
   rw[AS (by omega),BY (by simp only[AM,Amb,Amw];omega)]
   exact g1
  ·rw[AY,By,AR,AmU hi']
   simp only[Ak hx,e1]
   rw[AS (by omega),BY (by simp only[AM,Amb,Amw];omega)]
   exact g2
theorem AkT{N:Nat}(h1:1≤N)(hN:N≤64)(l:List Edge)(hs:l.length<1073741824)(ha:∀ e∈l,In (N:Int) e.1∧In (N:Int) e.2.1):
  ∃ zs,fof ((N:Int),l,())=some (((N:Int),(zs,())),0,())∧Agn ((N:Int),l,())=some (((N:Int),(zs,())),0,())∧FC (N:Int) zs l:=by
 have hF:=AFh h1 hN
 have hD:=hF.fr.dom
 have hRF:=Lz.2 hF.fr
 obtain⟨zs,b1,b2,e1,e2,h2⟩:=Zq l hs ha l.length 0 many many (BR N) [] [] (by omega) rfl rfl (by simpa using hF) (by simp only[many];omega) (by simp only[many];omega)
 refine⟨zs,?_,?_,h2⟩
 ·have hth:Qb (((N:Int),(BR N,())),l.flatMap fun e=>[e.1,e.2.1],())=some (0,()):=by
   have hfl:=ASO l
   rw[AEU _ _ _ hD (by omega),ASP,ASx,Amk hRF]
   split
   ·rfl
   ·rename_i hc
    exact absurd (Amr.2 fun e he=>AmU (ha e he)) hc
  have hm:G9 (N:Int)=((N:Int),BR N,0,()):=by
   unfold G9
   rw[Amk (show Sz (N:Int)from⟨by omega,by omega⟩),AnJ]
  have e2':AY By many ((N:Int),BR N,(0:Int),[],l,(l.length:Int),(0:Int),())=_:=e2
  rw[AXU,ASC]
  simp only[AHr,hm,CW,Amf]
  rw[Wj,Nc,Nh,II]
  simp only[AEp l hs,hth,CW,Amf,As,AM,e2']
 ·have hall:(l.all fun e=>decide (In (N:Int) e.1)&&decide (In (N:Int) e.2.1))=true:=by
   rw[Amr]
   intro e he
   obtain⟨h1,h2⟩:=ha e he
   simp[h1,h2]
  have e1':AX ET many (l,(N:Int),BR N,(0:Int),[],(0:Int),())=_:=(As _ _ _).trans e1
  have hE:ASx (N:Int) (BR N) true=0:=by
   unfold ASx
   simp[hRF]
  have hL:Rz (((N:Int),(BR N,())),l,())=some (((N:Int),(zs,())),b1,0,()):=by
   rw[ADv,Oc]
   simp only[AOl (N:Int) (BR N) l hD (by omega),hall]
   rw[hE]
   simp only[Og,Amf,e1']
  have hm:WB ((N:Int),())=some ((N:Int),BR N,0,()):=by
   rw[AWZ]
   unfold G9
   rw[Amk (show Sz (N:Int)from⟨by omega,by omega⟩),AnJ]
  rw[AZW,ALv]
  simp only[hm,Og,Amf,hL]
theorem RG2.both{N:Nat}{ts:List Tie}(h:RG2 N ts)(k:Int):∃ zs,LP (((N:Int),(ts,())),k,())=some (((N:Int),(zs,())),0,())∧Nb (((N:Int),(ts,())),k,())=some (((N:Int),(zs,())),0,())∧FC (N:Int) zs (trk ts k):=by
 have hl:=h.Alb k
 obtain⟨zs,e1,e2,hF⟩:=AkT h.h1 h.hN (trk ts k) (by omega) (h.inK k)
 refine⟨zs,?_,?_,hF⟩
 ·rw[LO,HT]
  simp only[h.lr,Amf,ARN (N:Int) ts h.ht k,e1]
 ·rw[Ye,Lh]
  simp only[h.r21,Amf,Aah (N:Int) ts h.ht k,e2]
end Go.Pev.Pl
end
section
namespace Go.Pev.Pl
open Tok
section
variable (n:Int) (ts:List Tie)
theorem ARa(k:Int)(hr:LM ((n,(ts,())),())=some (false,())):LP ((n,(ts,())),k,())=some ((0,([],())),1,()):=by
 rw[LO,HT]
 simp only[hr,Am2]
end
end Go.Pev.Pl
end
section
namespace Go.Pev.Pl
open Tok
end Go.Pev.Pl
end
section
namespace Go.Pev.Pl
open Tok
end Go.Pev.Pl
end
section
namespace Go.Pev.Pl
open Tok
end Go.Pev.Pl
end
section
namespace Go.Pev.Pl
open Tok
theorem AcT(n:Int)(rings:List (List Int))(v:Int)(hD:Dom rings):Agp ((n,(rings,())),v,())=some (if RF n rings∧In n v then plc rings v else -1,()):=by
 rw[AZX,ALw]
 simp only[H8,Eh n rings hD.1 hD.2,M8 n rings v hD.1 (fun l hl=>(hD.2 l hl).1)]
 by_cases h1:In n v
 ·by_cases h2:RF n rings<;>simp[h1,h2]
 ·by_cases h2:RF n rings<;>simp[h1,h2]
section
variable (a0:Int) (a1:List Tie) (a2 a3 a4:Int) (a5:List (List Int)) (a6:Int) (a7:List (List Int)) (p q:List Edge)
end
end Go.Pev.Pl
end
section
namespace Go.Pev.Pl
open Tok
end Go.Pev.Pl
end
section
namespace Go.Pev.Pl
theorem AAO{α β:Type}:∀ m:List (α×β),List.zip (List.map Prod.fst m) (List.map Prod.snd m)=m
 |[]=>rfl
 |(a,b)::m=>by simp only[Am0,Aoy,AAO m]
theorem KD{β:Type}(k:Int):∀ m:List (Int×List β),Ab (m.map Prod.snd) (C0 (m.map Prod.fst) k) []=(AP m k).getD []
 |[]=>by simp[C0,Ab,AP]
 |(a,b)::m=>by
  have ih:=KD k m
  simp only[Am0,C0,AP]
  by_cases h:a=k
  ·simp[h,Ab]
  ·simp only[h,Amn]
   rw[← ih]
   simp[Ab]
theorem APK{β:Type}(k:Int)(v:β):∀ m:List (Int×β),List.zip (Lo (m.map Prod.fst) (C0 (m.map Prod.fst) k) k) (Lo (m.map Prod.snd) (C0 (m.map Prod.fst) k) v)=Af m k v
 |[]=>by simp[C0,Lo,Af]
 |(a,b)::m=>by
  have ih:=APK k v m
  simp only[Am0,C0,Af]
  by_cases h:a=k
  ·simp[h,Lo,AAO]
  ·simp only[h,Amn]
   rw[← ih]
   have q:∀ {α:Type} (x y:α) (xs:List α) (i:Nat),Lo (x::xs) (i+1) y=x::Lo xs i y:=by
    intro α x y xs i
    simp only[Lo,Amb,Nat.add_lt_add_iff_right,List.set_cons_succ,Amy]
    split<;>rfl
   rw[q,q,Aoy]
def O8(k:Int)(t:Tie):Bool := !t.2.2.2.1&&decide (t.2.2.1=k)
def Bl(ts:List Tie)(k:Int):List Edge:=(ts.filter (O8 k)).map ed
def DG(x:Int)(e:Edge):Bool:=decide (e.1=x∨e.2.1=x)
abbrev RM:=List (Int×List (Int×Int×Unit))
def Ex(m:RM)(x:Int):List (Int×Int×Unit):=(AP m x).getD []
def AS4(m:RM)(x:Int)(e:Edge):RM:=Af m x (Ex m x++[e])
def AYQ(m:RM)(e:Edge):RM:=AS4 (AS4 m e.1 e) e.2.1 e
theorem ON(m:RM)(x:Int)(e:Edge)(y:Int):Ex (AS4 m x e) y=if y=x then Ex m x++[e]else Ex m y:=by
 unfold Ex AS4
 rw[Dv]
 by_cases h:y=x<;>simp[h,Ex]
theorem Aba(m:RM)(e:Edge)(h:e.1≠e.2.1)(y:Int):Ex (AYQ m e) y=Ex m y++if DG y e=true then [e]else []:=by
 unfold AYQ
 rw[ON,ON,ON]
 unfold DG
 by_cases h1:y=e.1
 ·subst h1
  rw[Amh h,Amk rfl,Amk (by simp)]
 ·by_cases h2:y=e.2.1
  ·subst h2
   rw[Amk rfl,Amh h1,Amk (by simp)]
  ·rw[Amh h2,Amh h1,Amh (by simp;omega),Anb]
theorem ABw(m:RM)(x:Int)(e:Edge)(n:Nat)(h:∀ y,(Ex m y).length≤n):∀ y,(Ex (AS4 m x e) y).length≤n+1:=by
 intro y
 rw[ON]
 have:=h x
 have:=h y
 split<;>simp<;>omega
def AQz(k:Int)(m:RM)(t:Tie):RM:=if O8 k t=true then AYQ m (ed t)else m
theorem AcH(k:Int)(y:Int):∀ (ts:List Tie) (m:RM),(∀ t∈ts,t.1<t.2.1)→Ex (ts.foldl (AQz k) m) y=Ex m y++(Bl ts k).filter (DG y):=by
 intro ts
 induction ts with
 |nil=>intro m _;simp[Bl]
 |cons t ts ih=>
  intro m h
  rw[AnM,ih _ fun t ht=>h t (Amt _ ht)]
  unfold AQz Bl
  rw[AnR]
  by_cases hb:O8 k t=true
  ·rw[Amk hb,Amk hb,Aba _ _ (by have:=h t List.mem_cons_self;show t.1≠t.2.1;omega),Am0,AnR]
   by_cases hy:DG y (ed t)=true
   ·rw[Amk hy,Amk hy];simp
   ·rw[Amh hy,Amh hy];simp
  ·rw[Amh hb,Amh hb]
theorem AfZ(k n:Int)(tks:List Int)(ofm:List (Int×Int))(m:RM)(u v l:Int)(b:Bool)(ts:List Tie)(d i l' k':Int)(b':Bool)(c:Nat)(hc:∀ y,(Ex m y).length≤c)(hs:c<1073741824):
  AX GG many (k,n,tks,ofm,m,u,v,l,b,ts,d,i,l',k',b',([u,v]:List Int),(0:Int),())=some (.inl (k,n,tks,ofm,AYQ m (u,(v,())),ts,d,i,l',k',b',())):=by
 obtain⟨q,hm⟩:∃ q,many=q+3:=⟨many-3,by simp only[many]⟩
 have i0:idx [u,v] (0:Int)=some u:=by rw[idx_eq];rfl
 have i1:idx [u,v] (1:Int)=some v:=by rw[idx_eq];rfl
 have w1:IntKind.wrap .i64 ((0:Int)+1)=1:=by rw[Aj (by omega)];rfl
 have w2:IntKind.wrap .i64 ((1:Int)+1)=2:=by rw[Aj (by omega)];rfl
 have c0:ilt (0:Int) 2=true:=by rw[Ah];rfl
 have c1:ilt (1:Int) 2=true:=by rw[Ah];rfl
 have c2:ilt (2:Int) 2=false:=by rw[Ah];rfl
 have d0:Ab [u,v] 0 (0:Int)=u:=rfl
 have d1:Ab [u,v] 1 (0:Int)=v:=rfl
 have fl:∀ (m:RM) (x:Int) (e:Edge),(Ex m x).length≤c+1→fits ((AK ((AP m x).getD []))+(AK ([e]:List Edge)))=true:=by
  intro m x e h
  apply BY
  simp only[AM,AoC]
  simp only[Ex]at h
  omega
 have q0:=ABw m u (u,(v,())) c hc
 have st:∀ (m:RM) (j x:Int),(Ex m x).length≤c+1→ilt j 2=true→idx [u,v] j=some x→GG (k,n,tks,ofm,m,u,v,l,b,ts,d,i,l',k',b',([u,v]:List Int),j,())=some (.inl (k,n,tks,ofm,AS4 m x (u,(v,())),u,v,l,b,ts,d,i,l',k',b',([u,v]:List Int),IntKind.wrap .i64 (j+1),())):=by
  intro m j x h1 h2 h3
  simp only[GG,d0,d1,h2,h3,KD,APK,CW,Anz,C9,fl m x (u,(v,())) h1]
  rfl
 have en:GG (k,n,tks,ofm,AYQ m (u,(v,())),u,v,l,b,ts,d,i,l',k',b',([u,v]:List Int),(2:Int),())=some (.inr (.inl (k,n,tks,ofm,AYQ m (u,(v,())),ts,d,i,l',k',b',()))):=by
  simp only[GG,c2,AAO]
 rw[As,hm,AY,st m 0 u (Nat.le_succ_of_le (hc u)) c0 i0,w1]
 show AY GG (q+2) _=_
 rw[AY,st _ 1 v (q0 v) c1 i1,w2]
 show AY GG (q+1) _=_
 rw[AY]
 have ea:AS4 (AS4 m u (u,(v,()))) v (u,(v,()))=AYQ m (u,(v,())):=rfl
 rw[ea,en]
theorem AbK(k n:Int)(tks:List Int)(ofm:List (Int×Int))(ts:List Tie)(hs:ts.length≤400):
  AX Iq many (k,n,tks,ofm,([]:RM),ts,AK ts,(0:Int),())=some (.inl (n,tks,ofm,ts.foldl (AQz k) [],())):=by
 have e:=DQ (step:=Iq) (fun i (m:RM)=>(k,n,tks,ofm,m,ts,AK ts,(i:Int),())) ts (fun t m=>.inl (AQz k m t)) (fun m=>.inl (n,tks,ofm,m,())) (fun i m=>∀ y,(Ex m y).length≤2*i) (by omega)
  (fun i x m hi hx hm=>by
   refine⟨fun m' h' => ?_,fun r h'=>(by cases h')⟩
   cases h'
   constructor
   ·rw[Iq,AM,AR,AmU hi]
    simp only[Ak hx,AM,AAO]
    rw[AS (by omega)]
    unfold AQz O8
    cases h4:x.2.2.2.1
    ·simp only[Ar]
     by_cases h5:x.2.2.1=k
     ·rw[AmU h5]
      simp only[Amf,Am2,AoI,Am7]
      rw[AfZ k n tks ofm m x.1 x.2.1 x.2.2.1 false ts _ _ _ _ _ (2*i) hm (by omega)]
      simp only[AAO]
      rw[AS (by omega)]
      rfl
     ·rw[AmS h5]
      simp
    ·simp
   ·unfold AQz
    split
    ·intro y
     have:=ABw _ x.2.1 (ed x) (2*i+1) (ABw m x.1 (ed x) (2*i) hm) y
     exact this
    ·intro y
     have:=hm y
     omega)
  (fun m _=>by rw[Iq,AM,AR,AmS (by omega)];simp only[AAO]) [] (fun y=>by simp[Ex,AP])
 have e':AX Iq many (k,n,tks,ofm,([]:RM),ts,AK ts,(0:Int),())=_:=e
 rw[e',Ba (fun(t:Tie) (m:RM)=>AQz k m t)]
def ofF(m:List (Int×Int))(x:Int):List (Int×Int):=Af m x 1
theorem Ajm(y:Int):∀ (xs:List Int) (m:List (Int×Int)),(AP (xs.foldl ofF m) y).getD 0=if y∈xs then 1 else(AP m y).getD 0:=by
 intro xs
 induction xs with
 |nil=>intro m;simp
 |cons x xs ih=>
  intro m
  rw[AnM,ih]
  unfold ofF
  rw[Dv]
  by_cases h:y∈xs
  ·simp[h]
  ·by_cases h2:y=x<;>simp[h,h2]
theorem AbJ(k n:Int)(ts:List Tie)(n':Int)(tks:List Int)(hs:tks.length≤1000):
  AX Ir many (k,n,ts,n',tks,([]:List (Int×Int)),([]:RM),tks,AK tks,(0:Int),())=some (.inl (k,n,ts,n',tks,tks.foldl ofF [],([]:RM),())):=by
 have e:=DQ (step:=Ir) (fun i (m:List (Int×Int))=>(k,n,ts,n',tks,m,([]:RM),tks,AK tks,(i:Int),())) tks (fun x m=>.inl (ofF m x)) (fun m=>.inl (k,n,ts,n',tks,m,([]:RM),())) (fun _ _=>True) (by omega)
  (fun i x m hi hx hm=>by
   refine⟨fun m' h' => ?_,fun r h'=>(by cases h')⟩
   cases h'
   refine⟨?_,trivial⟩
   rw[Ir,AM,AR,AmU hi]
   simp only[Ak hx,AM,AoR,List.zip_nil_left]
   rw[AS (by omega)]
   rfl)
  (fun m _=>by rw[Ir,AM,AR,AmS (by omega)];rfl) [] trivial
 have e':AX Ir many (k,n,ts,n',tks,([]:List (Int×Int)),([]:RM),tks,AK tks,(0:Int),())=_:=e
 rw[e',Ba (fun(x:Int) (m:List (Int×Int))=>ofF m x)]
structure TR(N:Nat)(ts:List Tie)(v k:Int)(tks:List Int)(ofm:List (Int×Int))(outm:RM):Prop where
 rg:RG (N:Int) tks
 mem:v∈tks
 of:∀ x,(AP ofm x).getD 0=if x∈tks then 1 else 0
 row:∀ x,Ex outm x=(Bl ts k).filter (DG x)
 con:∀ u,In (N:Int) u→(u∈tks↔Con (trk ts k) v u)
theorem AfY{N:Nat}{ts:List Tie}(h:RG2 N ts)(v k:Int)(hv:0≤v∧v<(N:Int)):
  ∃ tks ofm outm,seen (((N:Int),(ts,())),v,k,())=some (.inr (.inl ((N:Int),tks,ofm,outm,0,())))∧Hj (((N:Int),(ts,())),v,k,())=some (tks,())∧TR N ts v k tks ofm outm:=by
 obtain⟨zs,e1,e2,hF⟩:=h.both k
 have iv:In (N:Int) v:=AhI h.h1 h.hN hv
 have hD:=hF.fr.dom
 have hRF:=(Lz.2 hF.fr)
 obtain⟨i,A,hp,hi,hvA,hil⟩:=M7 (hF.fr.cov v iv)
 have hA:A∈zs:=Amj hi
 have hrg:=hF.fr.rg A hA
 have hlen:A.length≤1000:=hrg.1.1
 refine⟨A,A.foldl ofF [],ts.foldl (AQz k) [],?_,?_,hrg,hvA,?_,?_,?_⟩
 ·rw[Z1,T7]
  simp only[e1,CW,Amf]
  rw[Ah,AmS (show ¬ v<0 by omega),A0,AmS (show ¬ (N:Int)≤v by omega)]
  simp only[Ain _ _ _ hD,Amk (show RF (N:Int) zs∧In (N:Int) v from⟨hRF,iv⟩),hp,Ak hi,List.zip_nil_left,AoR]
  rw[AbJ k (N:Int) ts (N:Int) A hlen]
  simp only[AoR,List.zip_nil_left]
  rw[AbK k (N:Int) A _ ts h.ht]
  simp only[AAO]
 ·rw[AHp,RW]
  simp only[e2,AcT _ _ _ hD,Amk (show RF (N:Int) zs∧In (N:Int) v from⟨hRF,iv⟩),hp,Ak hi]
  rw[Ah,AmS (by omega)]
 ·intro x
  rw[Ajm]
  rfl
 ·intro x
  rw[AcH k x ts [] fun t ht=>(h.tie ht).2.2.1]
  simp[Ex,AP]
 ·intro u iu
  rw[← hF.sam v u iv iu]
  constructor
  ·exact fun hu=>⟨A,hA,hvA,hu⟩
  ·rintro⟨B,hB,hvB,huB⟩
   obtain⟨j,hj⟩:=ApC hB
   have:=hF.fr.uniq hi hj iv.2.2.2 hvA hvB
   subst this
   rw[hi]at hj
   cases hj
   exact huB
theorem AbM{N:Nat}{ts:List Tie}(h:RG2 N ts)(v k:Int)(hv:¬ (0≤v∧v<(N:Int))):
  seen (((N:Int),(ts,())),v,k,())=some (.inl (10,()))∧D2 (((N:Int),(ts,())),v,())=some (10,()):=by
 obtain⟨zs,e1,e2,hF⟩:=h.both k
 rw[Z1,T7,Lv,HY]
 simp only[e1,h.r21,CW,Amf,Ah,A0]
 by_cases h1:v<0
 ·rw[AmU h1]
  exact⟨rfl,rfl⟩
 ·rw[AmS h1,AmU (show(N:Int)≤v by omega)]
  exact⟨rfl,rfl⟩
theorem AFX{N:Nat}{ts:List Tie}(h:RG2 N ts)(v:Int)(hv:0≤v∧v<(N:Int)):D2 (((N:Int),(ts,())),v,())=some (0,()):=by
 rw[Lv,HY]
 simp only[h.r21,Amf,Ah,A0]
 rw[AmS (show ¬ v<0 by omega),AmS (show ¬ (N:Int)≤v by omega)]
theorem Afb{n:Int}{ts:List Tie}(v k:Int)(hr:E0 ((n,(ts,())),())=some (false,()))(hl:LM ((n,(ts,())),())=some (false,())):
  seen ((n,(ts,())),v,k,())=some (.inl (1,()))∧D2 ((n,(ts,())),v,())=some (1,()):=by
 have h1:ieq (1:Int) 0=false:=by rw[Ar];rfl
 rw[Z1,T7,Lv,HY]
 simp only[ARa _ _ k hl,hr,h1,Am2]
 trivial
end Go.Pev.Pl
end
section
namespace Go.Pev.Pl.SE
open Go.Sort
theorem W4{x y:Int×Int×Unit}(_:ok x)(_:ok y):∃ c,BO (x,y,())=some (c,())∧ilt c (0:Int)=lt x y:=by
 rw[AOz,Z0]
 simp only[Yk,or_val,Ah,lt]
 refine⟨_,rfl,?_⟩
 apply AoB.2
 by_cases h1:x.1<y.1
 ·simp[h1]
 ·by_cases h2:y.1<x.1
  ·have h3:¬ x.1=y.1:=by omega
   simp[h1,h2,h3]
  ·have h3:x.1=y.1:=by omega
   by_cases h4:x.2.1<y.2.1
   ·simp[h3,h4]
   ·by_cases h5:y.2.1<x.2.1
    ·simp[h3,h4,h5]
    ·simp[h3,h4,h5]
noncomputable def S:SG.SP (Int×Int×Unit):=⟨((0:Int),((0:Int),())),BO,ok,okz,VW,lt,swo,fun h1 h2=>W4 h1 h2⟩
theorem KB(xs:List (Int×Int×Unit))(h:xs.length<4294967296):∃ ys,AHx (xs,())=some (ys,())∧ys.Perm xs∧ys.Pairwise fun x y=>lt y x=false:=SG.KB S xs h fun _ _=>trivial
theorem Aa9{xs zs:List (Int×Int×Unit)}(h:xs.length<4294967296)(hp:xs.Perm zs)(hz:zs.Pairwise J0):AHx (xs,())=some (zs,()):=by
 obtain⟨ys,e,h1,h2⟩:=KB xs h
 have hzs:zs.Pairwise fun x y=>lt y x=false:=hz.imp fun {a b} q=>by
  unfold lt
  unfold J0 at q
  rw[AnK]
  omega
 have:=List.Perm.eq_of_pairwise (le:=fun x y=>lt y x=false) (fun a b _ _ q1 q2=>by
  unfold lt at q1 q2
  rw[AnK]at q1 q2
  obtain⟨a1,a2,⟨⟩⟩:=a
  obtain⟨b1,b2,⟨⟩⟩:=b
  simp only at q1 q2
  have e1:a1=b1:=by omega
  have e2:a2=b2:=by omega
  rw[e1,e2]) h2 hzs (h1.trans hp)
 rw[e,this]
end Go.Pev.Pl.SE
namespace Go.Pev.Pl
def Cn(tks:List Int)(e:Edge):Bool:=decide (e.1∈tks) != decide (e.2.1∈tks)
def DR(N:Nat)(L:List Edge)(x:Int):Bool:=decide (x<(N:Int))&&L.any (DG x)
def atL(L:List Edge)(toks:List Int):List Edge:=L.filter fun e=>decide (e.1∈toks)||decide (e.2.1∈toks)
theorem Ahv(x:Edge):(x.1,(x.2.1,()))=x:=rfl
theorem AEe{α:Type}(P:α→Bool):∀ L:List α,decide (0<(L.filter P).length)=L.any P
 |[]=>rfl
 |x::L=>by
  rw[AnR,ApE,← AEe P L]
  by_cases h:P x=true<;>simp[h]
section
variable {N:Nat} {ts:List Tie} {v k:Int} {tks:List Int} {ofm:List (Int×Int)} {outm:RM}
theorem WT(h:TR N ts v k tks ofm outm)(e:Edge):Kx ((N:Int),tks,ofm,outm,e,())=some ((N:Int),tks,ofm,outm,Cn tks e,()):=by
 rw[ABS,OL]
 simp only[h.of]
 unfold Cn
 by_cases h1:e.1∈tks<;>by_cases h2:e.2.1∈tks<;>simp only[h1,h2,Am7,Amn,Amg,Amu]<;>rw[Aj (by omega),Ar]<;>rfl
theorem ADX(h:TR N ts v k tks ofm outm)(x:Int):Ho ((N:Int),tks,ofm,outm,x,())=some ((N:Int),tks,ofm,outm,DR N (Bl ts k) x,()):=by
 rw[Xx,Kw]
 have hr:=h.row x
 unfold Ex at hr
 simp only[hr,AM]
 unfold DR
 rw[Ah,Ah,← AEe]
 by_cases h1:x<(N:Int)<;>simp[h1]
theorem Pn(h:TR N ts v k tks ofm outm):Hn ((N:Int),tks,ofm,outm,())=some ((N:Int),tks,ofm,outm,tks.filter (DR N (Bl ts k)),()):=by
 have hl:tks.length≤1000:=h.rg.1.1
 have hp:=AI6 (find:=Bw) (step:=Cq) (0:Int) (fun a (w j:Nat)=>(a,(N:Int),tks,ofm,outm,(w:Int),(j:Int),())) (fun a (w:Nat)=>.inl (a,(N:Int),tks,ofm,outm,(w:Int),())) (fun i=>(tks,(N:Int),tks,ofm,outm,(tks.length:Int),(i:Int),())) (fun i=>.inl (tks,(N:Int),tks,ofm,outm,(i:Int),())) (.inr (.inl (tks,(N:Int),tks,ofm,outm,()))) (DR N (Bl ts k)) tks (by omega)
  (fun a w j ha hj hw hg=>by
   unfold Cq
   dsimp only
   simp (disch:=omega) only[AM,AR,ha,hj,Amg,DT (0:Int),Fv,AMw,hg,AS,ADX h]
   cases DR N (Bl ts k) (tks.getD j 0)<;>rfl)
  (fun a w ha=>by unfold Cq;dsimp only;rw[AM,AR,AmS (by omega)])
  (fun i hi=>by
   unfold Bw
   dsimp only
   simp (disch:=omega) only[AR,hi,Amg,DT (0:Int),Fv,AS,ADX h]
   cases DR N (Bl ts k) (tks.getD i 0)<;>rfl)
  (by unfold Bw;dsimp only;rw[AR,AmS (by omega)])
 rw[Xw,Kv]
 simp only[AX0 (show tks.length≤4294967296 by omega)]
 rw[Nk,GR,NV,GO]
 generalize DR N (Bl ts k)=keep at *
 rcases hp with⟨h0,e⟩|⟨i,a',hk,e,e2,hl,hle,e4⟩
 ·have e':AX Bw many (tks,(N:Int),tks,ofm,outm,AK tks,(0:Int),())=_:=e
  simp only[e',Ar]
  rw[h0]
  show some ((N:Int),tks,ofm,outm,Bn (AN (AK tks)) tks,())=_
  rw[Bn,AM,IJ,Anq]
 ·have e':AX Bw many (tks,(N:Int),tks,ofm,outm,AK tks,(0:Int),())=_:=e
  obtain⟨c1,c2⟩:=AFE (0:Int) (a:=a') (w:=(tks.filter keep).length) (by omega)
  have s0:CM (Bk (tks.filter keep).length (a'.length-(tks.filter keep).length) (0:Int) a') (0:Int) (((tks.filter keep).length:Nat):Int)=some _:=JV (by omega)
  have s1:CM a' (((tks.filter keep).length:Nat):Int) (a'.length:Int)=some _:=Ey (by omega)
  simp only[e',Ar]
  rw[AmS (by omega),AS (by omega)]
  simp only[e2,s1,AM,Am9,IJ,s0]
  rw[Amm,c2,AnL (by omega),Bn,c1.trans e4]
theorem AXl(h:TR N ts v k tks ofm outm)(o:List Edge)(hs:o.length<4294967296):
  ∃ a:List Edge,IK (o,(N:Int),tks,ofm,outm,())=some (a,(N:Int),tks,ofm,outm,(((o.filter (Cn tks)).length:Nat):Int),())∧a.take (o.filter (Cn tks)).length=o.filter (Cn tks):=by
 have hp:=AI6 (find:=CB) (step:=DO) ((0:Int),(0:Int),()) (fun a (w j:Nat)=>(a,(N:Int),tks,ofm,outm,(w:Int),(j:Int),())) (fun a (w:Nat)=>.inl (a,(N:Int),tks,ofm,outm,(w:Int),())) (fun i=>(o,(N:Int),tks,ofm,outm,(o.length:Int),(i:Int),())) (fun i=>.inl (o,(N:Int),tks,ofm,outm,(i:Int),())) (.inr (.inl (o,(N:Int),tks,ofm,outm,()))) (Cn tks) o hs
  (fun a w j ha hj hw hg=>by
   unfold DO
   dsimp only
   simp (disch:=omega) only[AM,AR,ha,hj,Amg,DT ((0:Int),(0:Int),()),Fv,AMw,hg,AS,Ahv,WT h]
   cases Cn tks (o.getD j ((0:Int),(0:Int),()))<;>rfl)
  (fun a w ha=>by unfold DO;dsimp only;rw[AM,AR,AmS (by omega)])
  (fun i hi=>by
   unfold CB
   dsimp only
   simp (disch:=omega) only[AR,hi,Amg,DT ((0:Int),(0:Int),()),Fv,AS,Ahv,WT h]
   cases Cn tks (o.getD i ((0:Int),(0:Int),()))<;>rfl)
  (by unfold CB;dsimp only;rw[AR,AmS (by omega)])
 rw[PX,HD,PN,HB]
 generalize Cn tks=keep at *
 rcases hp with⟨h0,e⟩|⟨i,a',hk,e,e2,hl,hle,e4⟩
 ·have e':AX CB many (o,(N:Int),tks,ofm,outm,AK o,(0:Int),())=_:=e
  simp only[e',Ar]
  exact⟨o,by rw[h0];rfl,by rw[h0,Anq]⟩
 ·have e':AX CB many (o,(N:Int),tks,ofm,outm,AK o,(0:Int),())=_:=e
  obtain⟨c1,c2⟩:=AFE ((0:Int),(0:Int),()) (a:=a') (w:=(o.filter keep).length) (by omega)
  have s0:CM (Bk (o.filter keep).length (a'.length-(o.filter keep).length) ((0:Int),(0:Int),()) a') (0:Int) (((o.filter keep).length:Nat):Int)=some _:=JV (by omega)
  have s1:CM a' (((o.filter keep).length:Nat):Int) (a'.length:Int)=some _:=Ey (by omega)
  simp only[e',Ar]
  rw[AmS (by omega),AS (by omega)]
  simp only[e2,s1,AM,Am9,IJ,s0]
  refine⟨_,?_,c1.trans e4⟩
  rw[Amm,c2,AnL (by omega)]
theorem ASG(h:TR N ts v k tks ofm outm)(o:List Edge)(hs:o.length<4294967296):
  IF (o,(N:Int),tks,ofm,outm,())=some ((N:Int),tks,ofm,outm,if o.any (Cn tks)then((o.findIdx (Cn tks):Nat):Int)else -1,()):=by
 have e:=MW (step:=Cd) (fun i=>((N:Int),tks,ofm,outm,o,(o.length:Int),(i:Int),())) o (Cn tks) (fun i=>.inl ((N:Int),tks,ofm,outm,(i:Int),())) (.inr (.inl ((N:Int),tks,ofm,outm,()))) (by omega)
  (fun i x hi hx=>by
   unfold Cd
   dsimp only
   rw[AR,AmU hi]
   simp only[Ak hx,Ahv,WT h]
   rw[AS (by omega)]
   cases Cn tks x<;>rfl)
  (by unfold Cd;dsimp only;rw[AR,AmS (by omega)])
 rw[PR,HC]
 have e':AX Cd many ((N:Int),tks,ofm,outm,o,AK o,(0:Int),())=_:=e
 simp only[e']
 by_cases ha:o.any (Cn tks)=true<;>simp[ha]
end
abbrev MS:=List (Edge×Int)×List Edge
def KN(m:List (Edge×Int))(x:Edge):Int:=(AP m x).getD 0
def O9(a:MS)(x:Edge):MS:=(Af a.1 x (KN a.1 x+1),if x∈a.2 then a.2 else a.2++[x])
structure MI2(s:Nat)(a:MS):Prop where
 len:a.2.length≤s
 bnd:∀ x,0≤KN a.1 x∧KN a.1 x≤(s:Int)
 zero:∀ x,KN a.1 x=0↔x∉a.2
 nd:a.2.Nodup
theorem MI2.step{s:Nat}{a:MS}(h:MI2 s a)(x:Edge):MI2 (s+1) (O9 a x):=by
 have hg:∀ y,KN (O9 a x).1 y=if y=x then KN a.1 x+1 else KN a.1 y:=by
  intro y
  unfold O9 KN
  simp only
  rw[ADo]
  split<;>rfl
 refine⟨?_,fun y => ?_,fun y => ?_,?_⟩
 ·have:=h.len
  unfold O9
  simp only
  split<;>simp<;>omega
 ·rw[hg]
  have:=h.bnd x
  have:=h.bnd y
  split<;>omega
 ·rw[hg]
  unfold O9
  simp only
  have b:=h.bnd x
  by_cases hy:y=x
  ·subst hy
   rw[Amk rfl]
   by_cases hm:y∈a.2
   ·rw[Amk hm]
    constructor
    ·intro q;omega
    ·intro q;exact absurd hm q
   ·rw[Amh hm]
    constructor
    ·intro q;omega
    ·intro q;exact absurd (by simp) q
  ·rw[Amh hy,h.zero]
   split
   ·exact Iff.rfl
   ·simp[hy]
 ·unfold O9
  simp only
  split
  ·exact h.nd
  ·rename_i hm
   rw[AoN]
   refine⟨h.nd,by simp,fun p hp q hq => ?_⟩
   rw[Amv]at hq
   rintro rfl
   exact hm (hq▸hp)
theorem Agv(a:MS)(x y:Edge):y∈(O9 a x).2↔y=x∨y∈a.2:=by
 unfold O9
 simp only
 split
 ·rename_i h
  constructor
  ·exact .inr
  ·rintro (rfl|q)
   ·exact h
   ·exact q
 ·simp[or_comm]
theorem Ahm:∀ (xs:List Edge) (a:MS) (y:Edge),y∈(xs.foldl O9 a).2↔y∈xs∨y∈a.2:=by
 intro xs
 induction xs with
 |nil=>intro a y;simp
 |cons x xs ih=>
  intro a y
  rw[AnM,ih,Agv,Ama]
  constructor
  ·rintro (q|q|q)
   ·exact .inl (.inr q)
   ·exact .inl (.inl q)
   ·exact .inr q
  ·rintro ((q|q)|q)
   ·exact .inr (.inl q)
   ·exact .inl q
   ·exact .inr (.inr q)
theorem ASB:∀ (xs:List Edge) (a:MS) (s:Nat),MI2 s a→MI2 (s+xs.length) (xs.foldl O9 a):=by
 intro xs
 induction xs with
 |nil=>intro a s h;exact h
 |cons x xs ih=>
  intro a s h
  have:=ih _ _ (h.step x)
  rw[AnM,Amb,show s+(xs.length+1)=s+1+xs.length by omega]
  exact this
theorem Alp(n:Int)(tks:List Int)(ofm:List (Int×Int))(outm:RM)(toks:List Int)(d e:Int)(row:List Edge)(hr:row.length≤400)(a:MS)(s:Nat)(ha:MI2 s a)(hs:s≤1000000):
  AX Ip many (n,tks,ofm,outm,a.1,a.2,toks,d,e,row,AK row,(0:Int),())=some (.inl (n,tks,ofm,outm,(row.foldl O9 a).1,(row.foldl O9 a).2,toks,d,e,())):=by
 have q:=DQ (step:=Ip) (fun i (a:MS)=>(n,tks,ofm,outm,a.1,a.2,toks,d,e,row,AK row,(i:Int),())) row (fun x a=>.inl (O9 a x)) (fun a=>.inl (n,tks,ofm,outm,a.1,a.2,toks,d,e,())) (fun i a=>MI2 (s+i) a) (by omega)
  (fun i x a hi hx ha=>by
   refine⟨fun m' h' => ?_,fun r h'=>(by cases h')⟩
   cases h'
   refine⟨?_,ha.step x⟩
   have b:=ha.bnd x
   have bl:=ha.len
   have hz:=ha.zero x
   have hw:IntKind.wrap .i64 (KN a.1 x+1)=KN a.1 x+1:=Aj (by omega)
   obtain⟨m1,m2⟩:=AWL a.1 x (KN a.1 x) (KN a.1 x+1)
   have hl:AP (Af a.1 x (KN a.1 x+1)) x=some (KN a.1 x+1):=by rw[ADo,Amk rfl]
   rw[Ip,AM,AR,AmU hi]
   unfold KN at *
   simp only[Ak hx,Ahv,m1,hw,m2,hl,Am4,Ar]
   rw[AS (by omega)]
   unfold O9 KN
   by_cases hm:x∈a.2
   ·rw[AmS (by intro q;exact(hz.1 (by omega)) hm),Amk hm]
   ·rw[AmU (by have:=hz.2 hm;omega),Amh hm,BY (by simp only[AM,AoC];omega)]
    rfl)
  (fun a _=>by rw[Ip,AM,AR,AmS (by omega)]) a ha
 have q':AX Ip many (n,tks,ofm,outm,a.1,a.2,toks,d,e,row,AK row,(0:Int),())=_:=q
 rw[q',Ba (fun(x:Edge) (a:MS)=>O9 a x)]
def AOe(outm:RM)(a:MS)(x:Int):MS:=(Ex outm x).foldl O9 a
theorem Aim(outm:RM):∀ (toks:List Int) (a:MS) (y:Edge),y∈(toks.foldl (AOe outm) a).2↔(∃ x∈toks,y∈Ex outm x)∨y∈a.2:=by
 intro toks
 induction toks with
 |nil=>intro a y;simp
 |cons x xs ih=>
  intro a y
  rw[AnM,ih,AOe,Ahm]
  simp only[Ama,exists_eq_or_imp,or_assoc]
  constructor
  ·rintro (q|q|q)
   ·exact .inr (.inl q)
   ·exact .inl q
   ·exact .inr (.inr q)
  ·rintro (q|q|q)
   ·exact .inr (.inl q)
   ·exact .inl q
   ·exact .inr (.inr q)
theorem Ak2(outm:RM):∀ (toks:List Int) (a:MS) (s:Nat),MI2 s a→(toks.foldl (AOe outm) a).2.Nodup:=by
 intro toks
 induction toks with
 |nil=>intro a s h;exact h.nd
 |cons x xs ih=>intro a s h;rw[AnM];exact ih _ _ (ASB _ _ _ h)
theorem MI2.mono{s s':Nat}{a:MS}(h:MI2 s a)(hs:s≤s'):MI2 s' a:=⟨by have:=h.len;omega,fun x=>by have:=h.bnd x;omega,h.zero,h.nd⟩
theorem AIW{N:Nat}{ts:List Tie}(h:RG2 N ts)(k:Int):(Bl ts k).Pairwise J0:=by
 unfold Bl
 rw[Anx]
 have:=h.edP
 rw[Anx]at this
 exact this.filter _
theorem ADS{N:Nat}{ts:List Tie}(h:RG2 N ts)(k:Int):(Bl ts k).length≤400:=by
 unfold Bl
 rw[Ano]
 have:=Anh (O8 k) ts
 have:=h.ht
 omega
theorem AeL{L:List Edge}(h:L.Pairwise J0):L.Nodup:=h.imp fun {a b} q=>by
 rintro rfl
 unfold J0 at q
 omega
theorem AYF{N:Nat}{ts:List Tie}{v k:Int}{tks:List Int}{ofm:List (Int×Int)}{outm:RM}(hg:RG2 N ts)(h:TR N ts v k tks ofm outm)(toks:List Int)(hl:toks.length≤1000):
  AUM ((N:Int),tks,ofm,outm,toks,())=some ((N:Int),tks,ofm,outm,atL (Bl ts k) toks,()):=by
 have hrow:∀ x,(Ex outm x).length≤400:=fun x=>by
  rw[h.row]
  have:=Anh (DG x) (Bl ts k)
  have:=ADS hg k
  omega
 have q:=DQ (step:=Ky) (fun i (a:MS)=>((N:Int),tks,ofm,outm,a.1,a.2,toks,AK toks,(i:Int),())) toks (fun x a=>.inl (AOe outm a x)) (fun a=>.inl ((N:Int),tks,ofm,outm,a.2,())) (fun i a=>MI2 (400*i) a) (by omega)
  (fun i x a hi hx ha=>by
   refine⟨fun m' h' => ?_,fun r h'=>(by cases h')⟩
   cases h'
   constructor
   ·rw[Ky,AM,AR,AmU hi]
    simp only[Ak hx]
    have:=Alp (N:Int) tks ofm outm toks (toks.length:Int) (i:Int) (Ex outm x) (hrow x) a (400*i) ha (by omega)
    unfold Ex at this
    simp only[this]
    rw[AS (by omega)]
    rfl
   ·exact(ASB (Ex outm x) a _ ha).mono (by have:=hrow x;omega))
  (fun a _=>by rw[Ky,AM,AR,AmS (by omega)]) ([],[]) ⟨by simp,fun x=>by simp[KN,AP],fun x=>by simp[KN,AP],by simp⟩
 have hp:((toks.foldl (AOe outm) ([],[])).2).Perm (atL (Bl ts k) toks):=by
  refine(List.perm_ext_iff_of_nodup (Ak2 outm toks ([],[]) 0 ⟨by simp,fun x=>by simp[KN,AP],fun x=>by simp[KN,AP],by simp⟩) (AeL ((AIW hg k).filter _))).2 fun y => ?_
  rw[Aim,AnG]
  simp only[h.row,AnG,DG,Aoi,Ann,AoH,Ao1]
  constructor
  ·rintro⟨x,hx,q1,q2|q2⟩
   ·exact⟨q1,.inl (q2▸hx)⟩
   ·exact⟨q1,.inr (q2▸hx)⟩
  ·rintro⟨q1,q2|q2⟩
   ·exact⟨_,q2,q1,.inl rfl⟩
   ·exact⟨_,q2,q1,.inr rfl⟩
 rw[AYx,AKj]
 have q':AX Ky many ((N:Int),tks,ofm,outm,([]:List (Edge×Int)),([]:List Edge),toks,AK toks,(0:Int),())=_:=q
 simp only[q']
 rw[Ba (fun(x:Int) (a:MS)=>AOe outm a x)]
 have hlen:=hp.length_eq
 have h2:=Anh (fun e:Edge=>decide (e.1∈toks)||decide (e.2.1∈toks)) (Bl ts k)
 have h3:=ADS hg k
 have:=SE.Aa9 (xs:=(toks.foldl (fun a x=>AOe outm a x) ([],[])).2) (by
  have:(toks.foldl (fun a x=>AOe outm a x) ([],[])).2.length=(atL (Bl ts k) toks).length:=hlen
  unfold atL at this
  omega) hp ((AIW hg k).filter _)
 simp only[this]
end Go.Pev.Pl
end
section
namespace Go.Pev.Pl
theorem YT(t:Tie)(k:Int):HS (t,k,())=some (O8 k t,()):=by
 rw[Rr,Iv]
 unfold O8
 simp only[Ar]
 cases t.2.2.2.1<;>rfl
theorem AHq(x k:Int):∀ ts:List Tie,(ts.any fun t=>O8 k t&&(decide (t.1=x)||decide (t.2.1=x)))=(Bl ts k).any (DG x)
 |[]=>rfl
 |t::ts=>by
  have ih:=AHq x k ts
  unfold Bl at *
  rw[ApE,ih,AnR]
  by_cases h:O8 k t=true
  ·rw[Amk h,Am0,ApE,h]
   unfold DG
   by_cases h1:t.1=x<;>by_cases h2:t.2.1=x<;>simp[ed,h1,h2]
  ·rw[Amh h]
   simp[h]
theorem AL9(N:Nat)(ts:List Tie)(hs:ts.length≤400)(x k:Int):NN (((N:Int),(ts,())),x,k,())=some ((Bl ts k).any (DG x),()):=by
 have e:=MW (step:=De) (fun i=>(x,k,(N:Int),ts,(i:Int),())) ts (fun t=>O8 k t&&(decide (t.1=x)||decide (t.2.1=x))) (fun _=>.inl (true,())) (.inr (.inl ())) (by omega)
  (fun i t hi hx=>by
   rw[De,AM,AR,AmU hi]
   simp only[Ak hx,AmC,YT,Ar]
   rw[AS (by omega)]
   cases O8 k t
   ·rfl
   ·by_cases h1:t.1=x
    ·simp[h1]
    ·by_cases h2:t.2.1=x<;>simp[h1,h2])
  (by rw[De,AM,AR,AmS (by omega)])
 rw[YY,LL]
 have e':AX De many (x,k,(N:Int),ts,(0:Int),())=_:=e
 simp only[e',AHq]
 cases (Bl ts k).any (DG x)<;>rfl
theorem L0(N:Nat)(ts:List Tie)(hs:ts.length≤400)(l:List Int)(hl:l.length≤1000)(k m:Int):
  IX (((N:Int),(ts,())),l,k,m,())=some ((l.filter (DR N (Bl ts k))).take m.toNat,()):=by
 have e:=DQ (step:=Ct) (fun i (a:List Int)=>(l,k,m,(N:Int),ts,a,(i:Int),())) l (fun x a=>if(a.length:Int)<m then .inl (if DR N (Bl ts k) x=true then a++[x]else a)else .inr (.inl (a,()))) (fun a=>.inl (a,())) (fun i a=>a.length≤i) (by omega)
  (fun i x a hi hx ha=>by
   refine⟨fun m' h' => ?_,fun r h' => ?_⟩
   ·split at h'
    ·rename_i hm
     cases h'
     constructor
     ·rw[Ct,AM,AR,AmU hi]
      simp only[Ak hx,AL9 N ts hs,AM]
      rw[AS (by omega),Ah,AmU hm,Ah]
      unfold DR
      by_cases h1:x<(N:Int)
      ·rw[AmU h1]
       simp only[AoI]
       cases (Bl ts k).any (DG x)
       ·rfl
       ·rw[BY (by simp only[AoC];omega)]
        rfl
      ·rw[AmS h1]
       rfl
     ·split
      ·simp;omega
      ·omega
    ·cases h'
   ·split at h'
    ·cases h'
    ·rename_i hm
     cases h'
     rw[Ct,AM,AR,AmU hi]
     simp only[AM]
     rw[Ah,AmS hm])
  (fun a _=>by rw[Ct,AM,AR,AmS (by omega)]) [] (Amd _)
 have key:∀ (xs:List Int) (a:List Int),walk (ρ:=(List Int×Unit)⊕Unit) (fun x (a:List Int)=>if(a.length:Int)<m then .inl (if DR N (Bl ts k) x=true then a++[x]else a)else .inr (.inl (a,()))) (fun a=>.inl (a,())) xs a = .inl (a++(xs.filter (DR N (Bl ts k))).take (m.toNat-a.length),()):=by
  intro xs
  induction xs with
  |nil=>intro a;simp[walk]
  |cons x xs ih=>
   intro a
   rw[walk]
   by_cases hm:(a.length:Int)<m
   ·rw[Amk hm]
    simp only[ih,AnR]
    by_cases hx:DR N (Bl ts k) x=true
    ·rw[Amk hx,Amk hx]
     have:m.toNat-a.length=(m.toNat-(a++[x]).length)+1:=by simp;omega
     rw[this,List.take_succ_cons]
     simp
    ·rw[Amh hx,Amh hx]
   ·rw[Amh hm]
    have:m.toNat-a.length=0:=by omega
    rw[this]
    simp
 rw[Ys,L3]
 have e':AX Ct many (l,k,m,(N:Int),ts,([]:List Int),(0:Int),())=_:=e
 simp only[e',key]
 rfl
theorem Afy(xs:List Int)(t:Int):ile (0:Int) (pos xs t)=decide (t∈xs):=by
 rw[A0]
 by_cases h:t∈xs
 ·obtain⟨q,h1,_⟩:=ACI h
  rw[h1,AmU h]
  exact AmU (by omega)
 ·rw[OS h,AmS h]
  rfl
theorem AeC(toks:List Int)(k:Int):∀ (ts:List Tie) (a:List Edge),ts.foldl (fun a t=>if O8 k t&&(decide (t.1∈toks)||decide (t.2.1∈toks))then a++[ed t]else a) a=a++atL (Bl ts k) toks:=by
 intro ts
 induction ts with
 |nil=>intro a;simp[Bl,atL]
 |cons t ts ih=>
  intro a
  rw[AnM,ih]
  unfold Bl
  rw[AnR]
  by_cases h:O8 k t=true
  ·rw[Amk h,Am0]
   unfold atL
   rw[AnR,h]
   simp only[AoI]
   show _=a++if(decide (t.1∈toks)||decide (t.2.1∈toks))=true then _ else _
   by_cases h2:(decide (t.1∈toks)||decide (t.2.1∈toks))=true
   ·rw[Amk h2,Amk h2];simp
   ·rw[Amh h2,Amh h2]
  ·rw[Amh h]
   simp[h]
theorem AFW(N:Nat)(ts:List Tie)(hs:ts.length≤400)(toks:List Int)(hl:toks.length≤1000)(k:Int):
  AYL (((N:Int),(ts,())),toks,k,())=some (atL (Bl ts k) toks,()):=by
 have e:=DQ (step:=Lu) (fun i (a:List Edge)=>(toks,k,(N:Int),ts,a,(i:Int),())) ts (fun t a=>.inl (if O8 k t&&(decide (t.1∈toks)||decide (t.2.1∈toks))then a++[ed t]else a)) (fun a=>.inl (a,())) (fun i a=>a.length≤i) (by omega)
  (fun i t a hi hx ha=>by
   refine⟨fun m' h' => ?_,fun r h'=>(by cases h')⟩
   cases h'
   constructor
   ·rw[Lu,AM,AR,AmU hi]
    simp only[Ak hx,AmC,YT,AM,Gb toks _ (show toks.length<9223372036854775808 by omega),Afy]
    rw[AS (by omega),BY (by simp only[AoC];omega)]
    cases O8 k t
    ·rfl
    ·by_cases h1:t.1∈toks
     ·simp[h1,ed,A2]
     ·by_cases h2:t.2.1∈toks<;>simp[h1,h2,ed,A2]
   ·split
    ·simp;omega
    ·omega)
  (fun a _=>by rw[Lu,AM,AR,AmS (by omega)]) [] (Amd _)
 rw[AaC,ANQ]
 have e':AX Lu many (toks,k,(N:Int),ts,([]:List Edge),(0:Int),())=_:=e
 simp only[e']
 rw[Ba (fun(t:Tie) (a:List Edge)=>if O8 k t&&(decide (t.1∈toks)||decide (t.2.1∈toks))then a++[ed t]else a),AeC]
 rfl
theorem AVz(tks:List Int):∀ (l a:List Edge),l.foldl (fun a e=>if Cn tks e=true then a++[e]else a) a=a++l.filter (Cn tks):=by
 intro l
 induction l with
 |nil=>intro a;simp
 |cons e l ih=>
  intro a
  rw[AnM,ih,AnR]
  by_cases h:Cn tks e=true<;>simp[h]
theorem AIY(l:List Edge)(hs:l.length≤400)(tks:List Int)(hl:tks.length≤1000):AIZ (l,tks,())=some (l.filter (Cn tks),()):=by
 have e:=DQ (step:=Hz) (fun i (a:List Edge)=>(l,tks,a,(i:Int),())) l (fun x a=>.inl (if Cn tks x=true then a++[x]else a)) (fun a=>.inl (a,())) (fun i a=>a.length≤i) (by omega)
  (fun i x a hi hx ha=>by
   refine⟨fun m' h' => ?_,fun r h'=>(by cases h')⟩
   cases h'
   constructor
   ·rw[Hz,AM,AR,AmU hi]
    simp only[Ak hx,Ahv,AM,Gb tks _ (show tks.length<9223372036854775808 by omega),Afy]
    rw[AS (by omega),BY (by simp only[AoC];omega)]
    unfold Cn
    by_cases h1:x.1∈tks<;>by_cases h2:x.2.1∈tks<;>simp[h1,h2,A2]
   ·split
    ·simp;omega
    ·omega)
  (fun a _=>by rw[Hz,AM,AR,AmS (by omega)]) [] (Amd _)
 rw[AQ3,Z5]
 have e':AX Hz many (l,tks,([]:List Edge),(0:Int),())=_:=e
 simp only[e']
 rw[Ba (fun(x:Edge) (a:List Edge)=>if Cn tks x=true then a++[x]else a),AVz]
 rfl
end Go.Pev.Pl
end
section
namespace Go.Pev.Pl
section
variable {N:Nat} {ts:List Tie} {v k:Int} {tks:List Int} {ofm:List (Int×Int)} {outm:RM}
def stL(N:Nat)(ts:List Tie)(k:Int)(tks:List Int):List Int:=tks.filter (DR N (Bl ts k))
theorem AKQ(h:TR N ts v k tks ofm outm):(stL N ts k tks).length≤1000:=by
 have h1:tks.length≤1000:=h.rg.1.1
 have:=Anh (DR N (Bl ts k)) tks
 unfold stL
 omega
theorem Ajg(hg:RG2 N ts){e:Edge}(he:e∈Bl ts k):In (N:Int) e.1∧In (N:Int) e.2.1:=by
 unfold Bl at he
 obtain⟨t,ht,rfl⟩:=Amo.1 he
 exact hg.inE _ (Amo.2 ⟨t,(AnG.1 ht).1,rfl⟩)
theorem Ajr(hg:RG2 N ts){e:Edge}(he:e∈Bl ts k):(e.1∈tks↔e.1∈stL N ts k tks)∧(e.2.1∈tks↔e.2.1∈stL N ts k tks):=by
 obtain⟨i1,i2⟩:=Ajg hg he
 have m1:DR N (Bl ts k) e.1=true:=by
  unfold DR
  rw[AmU i1.2.2.2,AoI,AoV]
  exact⟨e,he,AmU (.inl rfl)⟩
 have m2:DR N (Bl ts k) e.2.1=true:=by
  unfold DR
  rw[AmU i2.2.2.2,AoI,AoV]
  exact⟨e,he,AmU (.inr rfl)⟩
 unfold stL
 rw[AnG,AnG,m1,m2]
 simp
theorem Alq(hg:RG2 N ts):atL (Bl ts k) (stL N ts k tks)=atL (Bl ts k) tks:=by
 unfold atL
 refine ApQ fun e he => ?_
 obtain⟨q1,q2⟩:=Ajr (tks:=tks) hg he
 rw[AoB.2 q1,AoB.2 q2]
theorem Oq(hg:RG2 N ts)(toks:List Int):(atL (Bl ts k) toks).length≤400:=by
 have:=ADS hg k
 have:=Anh (fun e:Edge=>decide (e.1∈toks)||decide (e.2.1∈toks)) (Bl ts k)
 unfold atL
 omega
def ldL(ts:List Tie)(k:Int)(tks:List Int):List Edge:=(atL (Bl ts k) tks).filter (Cn tks)
theorem AfI(hg:RG2 N ts)(h:TR N ts v k tks ofm outm)(hs:seen (((N:Int),(ts,())),v,k,())=some (.inr (.inl ((N:Int),tks,ofm,outm,0,())))):
  AKW (((N:Int),(ts,())),v,k,())=some (ldL ts k tks,0,()):=by
 have hl:=Oq hg (k:=k) (stL N ts k tks)
 obtain⟨a,e1,e2⟩:=AXl h (atL (Bl ts k) (stL N ts k tks)) (by omega)
 rw[AKV,ABR]
 simp only[hs,CW,Amf,Pn h]
 have ha:=AYF hg h (stL N ts k tks) (AKQ h)
 unfold stL at ha e1 e2
 simp only[ha,e1,Bn,IJ,e2]
 have:=Alq (tks:=tks) (k:=k) hg
 unfold stL at this
 rw[this]
 rfl
theorem AeM(hg:RG2 N ts)(h:TR N ts v k tks ofm outm)(hv:0≤v∧v<(N:Int))(ht:Hj (((N:Int),(ts,())),v,k,())=some (tks,())):
  AFf (((N:Int),(ts,())),v,k,())=some (ldL ts k tks,0,()):=by
 rw[AFe,Sp]
 simp only[AFX hg v hv,CW,Amf,ht,AFW N ts hg.ht tks h.rg.1.1 k,AIY _ (Oq hg tks) tks h.rg.1.1]
 rfl
theorem AT4(hg:RG2 N ts)(h:TR N ts v k tks ofm outm)(hs:seen (((N:Int),(ts,())),v,k,())=some (.inr (.inl ((N:Int),tks,ofm,outm,0,()))))(m:Int):
  Mt (((N:Int),(ts,())),v,k,m,())=some (atL (Bl ts k) ((stL N ts k tks).take m.toNat),0,()):=by
 have hl:=AKQ h
 rw[T3,Ms]
 simp only[hs,CW,Amf,Pn h]
 obtain⟨q,hq,hq2,hq3⟩:∃ q:Nat,imax (0:Int) (CJ m (AK (stL N ts k tks)))=(q:Int)∧q≤(stL N ts k tks).length∧(stL N ts k tks).take q=(stL N ts k tks).take m.toNat:=by
  refine⟨min m.toNat (stL N ts k tks).length,?_,Nat.min_le_right _ _,?_⟩
  ·unfold imax CJ
   rw[AM]
   split<;>split<;>omega
  ·rw[List.take_eq_take_min (i:=m.toNat)]
 unfold stL at hq hq2 hq3 hl
 rw[AM]at hq
 simp only[hq,JV hq2,AM,IJ,DP,AoW,Amm,hq3]
 have ha:=AYF hg h ((stL N ts k tks).take m.toNat) (by rw[Amm];unfold stL;omega)
 unfold stL at ha
 simp only[← List.take_eq_take_min,ha]
 rfl
theorem APO(hg:RG2 N ts)(h:TR N ts v k tks ofm outm)(hv:0≤v∧v<(N:Int))(ht:Hj (((N:Int),(ts,())),v,k,())=some (tks,()))(m:Int):
  K0 (((N:Int),(ts,())),v,k,m,())=some (atL (Bl ts k) ((stL N ts k tks).take m.toNat),0,()):=by
 have hl:=AKQ h
 rw[P6,KE]
 simp only[AFX hg v hv,CW,Amf,ht,L0 N ts hg.ht tks h.rg.1.1]
 rw[AFW N ts hg.ht _ (by rw[Amm];unfold stL at hl;omega) k]
 rfl
def Za(N:Nat)(ts:List Tie)(k:Int)(tks:List Int)(r:Nat):Option Edge:=(atL (Bl ts k) ((stL N ts k tks).take (2 ^ r))).find? (Cn tks)
def ndL(c r:Nat):Nat:=if r=0 then 0 else min c (2 ^ (r-1))
theorem AQ9(c r:Nat):ndL c (r+1)=min c (2 ^ r):=by unfold ndL;rw[Amh (by omega),Nat.add_sub_cancel]
def lkL(F:Nat→Option Edge)(c:Nat):Nat→Nat→Option Edge×Nat
 |0,r=>(none,r)
 |f+1,r=>if ndL c r<c then(match F r with
  |some e=>(some e,r+1)
  |none=>lkL F c f (r+1))else(none,r)
def ART(c:Nat)(x:Option Edge×Nat):Bool×(Int×Int×Unit)×Int×Int×Unit:=(x.1.isSome,((x.1.getD (0,0,())).1,((x.1.getD (0,0,())).2.1,())),(x.2:Int),(ndL c x.2:Int),())
theorem Ai9{r:Nat}(h:r≤8):shl? .i64 (1:Int) (IntKind.wrap .u64 (r:Int))=some ((2 ^ r:Nat):Int):=by
 rw[IntWalk.u64_in _ (by omega),ABW,ZK,Amh (by omega),AnJ,show min r (IntKind.bits .i64)=r from AnL (by show r≤64;omega),Int.one_mul]
 have:2 ^ r≤2 ^ 8:=Nat.pow_le_pow_right (by omega) h
 have e:((2:Int) ^ r)=((2 ^ r:Nat):Int):=by rw[Int.natCast_pow];rfl
 rw[e]
 generalize 2 ^ r=q at *
 rw[Aj (by omega)]
theorem Akj(hg:RG2 N ts)(h:TR N ts v k tks ofm outm):(stL N ts k tks).length≤N:=by
 have hnd:(stL N ts k tks).Nodup:=h.rg.1.2.2.filter _
 have:=Cb (b:=(List.range N).map fun(i:Nat)=>(i:Int)) hnd fun x hx=>by
  unfold stL at hx
  obtain⟨q1,q2⟩:=AnG.1 hx
  have q3:=(h.rg.1.2.1 x q1).1
  unfold DR at q2
  rw[AmX,Aoi]at q2
  rw[Amo]
  exact⟨x.toNat,by rw[An0];omega,by omega⟩
 rw[Ano,AnV]at this
 exact this
theorem Akm{c:Nat}(h:c≤64):¬ ndL c 8<c:=by
 unfold ndL
 rw[Amh (by omega),AnL (Ana h (by decide))]
 omega
theorem ASF(P:Edge→Bool):∀ L:List Edge,(∃ e,L.find? P=some e∧L.any P=true∧L[L.findIdx P]? = some e)∨(L.find? P=none∧L.any P=false)
 |[]=>.inr ⟨rfl,rfl⟩
 |x::L=>by
  rw[List.find?_cons,ApE,Aoo]
  by_cases h:P x=true
  ·exact .inl ⟨x,by simp[h],by simp[h],by simp[h]⟩
  ·have h':P x=false:=by simpa using h
   rcases ASF P L with⟨e,q1,q2,q3⟩|⟨q1,q2⟩
   ·exact .inl ⟨e,by simp[h',q1],by simp[q2],by simp[h',q3]⟩
   ·exact .inr ⟨by simp[h',q1],by simp[h',q2]⟩
theorem AT3(hg:RG2 N ts)(h:TR N ts v k tks ofm outm):∀ (f r:Nat),r+f=8→∀ cnt,f<cnt →
  ∃ z,AY GZ cnt (false,(0:Int),(0:Int),(r:Int),(ndL (stL N ts k tks).length r:Int),(N:Int),tks,ofm,outm,stL N ts k tks,())=some (.inl (z.1,z.2.1.1,z.2.1.2.1,z.2.2.1,z.2.2.2.1,()))∧z=ART (stL N ts k tks).length (lkL (Za N ts k tks) (stL N ts k tks).length f r):=by
 intro f
 have hN:=hg.hN
 have hc:=Akj hg h
 induction f with
 |zero=>
  intro r hr cnt hcnt
  obtain⟨cnt,rfl⟩:∃ c,cnt=c+1:=⟨cnt-1,by omega⟩
  obtain rfl:r=8:=by omega
  refine⟨_,?_,rfl⟩
  rw[AY,GZ,AM]
  simp only[Am2]
  rw[AR,AmS (Akm (by omega))]
  rfl
 |succ f ih=>
  intro r hr cnt hcnt
  obtain⟨cnt,rfl⟩:∃ c,cnt=c+1:=⟨cnt-1,by omega⟩
  rw[AY,GZ,AM]
  simp only[Am2]
  rw[AR]
  by_cases hn:ndL (stL N ts k tks).length r<(stL N ts k tks).length
  ·rw[AmU hn]
   have hm:CJ ((stL N ts k tks).length:Int) ((2 ^ r:Nat):Int)=(ndL (stL N ts k tks).length (r+1):Int):=by
    unfold CJ
    rw[AQ9]
    generalize 2 ^ r=q at *
    generalize (stL N ts k tks).length=c at *
    rcases Nat.le_total c q with hh|hh
    ·rw[AnL hh];split<;>omega
    ·rw[Aof hh];split<;>omega
   have hle:ndL (stL N ts k tks).length (r+1)≤(stL N ts k tks).length:=by unfold ndL;rw[Amh (by omega)];exact Nat.min_le_left _ _
   have htk:(stL N ts k tks).take (ndL (stL N ts k tks).length (r+1))=(stL N ts k tks).take (2 ^ r):=by
    unfold ndL
    rw[Amh (by omega),Nat.add_sub_cancel,List.take_eq_take_min (i:=2 ^ r),Nat.min_comm]
   have hl:=Oq hg (k:=k) ((stL N ts k tks).take (2 ^ r))
   simp only[Ai9 (show r≤8 by omega),hm,JV hle,htk]
   rw[AYF hg h _ (by rw[Amm];omega)]
   simp only[ASG h _ (show(atL (Bl ts k) ((stL N ts k tks).take (2 ^ r))).length<4294967296 by omega)]
   rw[AS (by omega)]
   have hf:lkL (Za N ts k tks) (stL N ts k tks).length (f+1) r=match Za N ts k tks r with
    |some e=>(some e,r+1)
    |none=>lkL (Za N ts k tks) (stL N ts k tks).length f (r+1):=by rw[lkL,Amk hn]
   rw[hf]
   unfold Za
   rcases ASF (Cn tks) (atL (Bl ts k) ((stL N ts k tks).take (2 ^ r)))with⟨e,q1,q2,q3⟩|⟨q1,q2⟩
   ·rw[q1,Amk q2,A0,AmU (by omega)]
    simp only[Ak q3,Adm q3]
    obtain⟨cnt,rfl⟩:∃ c,cnt=c+1:=⟨cnt-1,by omega⟩
    refine⟨_,?_,rfl⟩
    rw[AY,GZ]
    rfl
   ·rw[q1,Amh (by rw[q2];exact Bool.false_ne_true),A0,AmS (by omega)]
    exact ih (r+1) (by omega) cnt (by omega)
  ·rw[AmS hn,lkL,Amh hn]
   exact⟨_,rfl,rfl⟩
def Ako(N:Nat)(ts:List Tie)(k:Int)(tks:List Int):Option Edge×Nat:=lkL (Za N ts k tks) (stL N ts k tks).length 8 0
theorem Aa5(hg:RG2 N ts)(h:TR N ts v k tks ofm outm)(hs:seen (((N:Int),(ts,())),v,k,())=some (.inr (.inl ((N:Int),tks,ofm,outm,0,())))):
  Mr (((N:Int),(ts,())),v,k,())=some (ART (stL N ts k tks).length (Ako N ts k tks),0,()):=by
 obtain⟨z,e,hz⟩:=AT3 hg h 8 0 rfl many (by simp only[many];omega)
 rw[ABN,RY]
 simp only[hs,CW,Amf,Pn h]
 have e':AX GZ many (false,(0:Int),(0:Int),(0:Int),(0:Int),(N:Int),tks,ofm,outm,tks.filter (DR N (Bl ts k)),())=some (.inl (z.1,z.2.1.1,z.2.1.2.1,z.2.2.1,z.2.2.2.1,())):=by rw[As];exact e
 simp only[e',hz]
 rfl
theorem APC(hg:RG2 N ts)(h:TR N ts v k tks ofm outm):∀ (f r:Nat),r+f=8→∀ cnt,f<cnt →
  ∃ z,AY Ef cnt (k,(N:Int),ts,false,(0:Int),(0:Int),(0:Int),(0:Int),tks,((stL N ts k tks).length:Int),false,(0:Int),(0:Int),(r:Int),(ndL (stL N ts k tks).length r:Int),((2 ^ r:Nat):Int),())=some (.inl (false,0,0,0,0,z.1,z.2.1.1,z.2.1.2.1,z.2.2.1,z.2.2.2.1,()))∧z=ART (stL N ts k tks).length (lkL (Za N ts k tks) (stL N ts k tks).length f r):=by
 intro f
 have hN:=hg.hN
 have hc:=Akj hg h
 induction f with
 |zero=>
  intro r hr cnt hcnt
  obtain⟨cnt,rfl⟩:∃ c,cnt=c+1:=⟨cnt-1,by omega⟩
  obtain rfl:r=8:=by omega
  refine⟨_,?_,rfl⟩
  rw[AY,Ef]
  rw[AR,AmS (Akm (by omega))]
  rfl
 |succ f ih=>
  intro r hr cnt hcnt
  obtain⟨cnt,rfl⟩:∃ c,cnt=c+1:=⟨cnt-1,by omega⟩
  rw[AY,Ef]
  rw[AR]
  by_cases hn:ndL (stL N ts k tks).length r<(stL N ts k tks).length
  ·rw[AmU hn]
   have hp:2 ^ r≤2 ^ 8:=Nat.pow_le_pow_right (by omega) (by omega)
   have hm:CJ ((2 ^ r:Nat):Int) ((stL N ts k tks).length:Int)=(ndL (stL N ts k tks).length (r+1):Int):=by
    unfold CJ
    rw[AQ9]
    generalize 2 ^ r=q at *
    generalize (stL N ts k tks).length=c at *
    rcases Nat.le_total c q with hh|hh
    ·rw[AnL hh];split<;>omega
    ·rw[Aof hh];split<;>omega
   have hl:=Oq hg (k:=k) ((stL N ts k tks).take (2 ^ r))
   have hM:=L0 N ts hg.ht tks h.rg.1.1 k ((2 ^ r:Nat):Int)
   rw[AnJ]at hM
   have hA:=AFW N ts hg.ht ((stL N ts k tks).take (2 ^ r)) (by rw[Amm];omega) k
   unfold stL at hA hl
   simp only[Am2,hM,hA,AIY _ hl tks h.rg.1.1]
   rw[AS (by omega),hm,AHV (by omega),show 2*2 ^ r=2 ^ (r+1) by rw[Nat.pow_succ];omega]
   have hf:lkL (Za N ts k tks) (stL N ts k tks).length (f+1) r=match Za N ts k tks r with
    |some e=>(some e,r+1)
    |none=>lkL (Za N ts k tks) (stL N ts k tks).length f (r+1):=by rw[lkL,Amk hn]
   rw[hf]
   have hfd:Za N ts k tks r=((atL (Bl ts k) ((tks.filter (DR N (Bl ts k))).take (2 ^ r))).filter (Cn tks)).head? := by
    unfold Za
    rw[List.head?_filter]
    rfl
   rw[hfd]
   cases hw:(atL (Bl ts k) ((tks.filter (DR N (Bl ts k))).take (2 ^ r))).filter (Cn tks)with
   |cons e rest=>
    simp only[AM,List.head?_cons]
    rw[Ah,AmU (by simp only[Amb];omega)]
    have i0:idx (e::rest) (0:Int)=some e:=by rw[E6];rfl
    have d0:Ab (e::rest) 0 ((0:Int),((0:Int),()))=e:=rfl
    simp only[i0,d0]
    obtain⟨cnt,rfl⟩:∃ c,cnt=c+1:=⟨cnt-1,by omega⟩
    refine⟨ART (stL N ts k tks).length (some e,r+1),?_,rfl⟩
    rw[AY,Ef]
    simp only[Amf]
    cases ilt (ndL (stL N ts k tks).length (r+1):Int) ((stL N ts k tks).length:Int)<;>rfl
   |nil=>
    simp only[AM,List.head?_nil]
    rw[Ah,AmS (by simp)]
    exact ih (r+1) (by omega) cnt (by omega)
  ·rw[AmS hn,lkL,Amh hn]
   exact⟨_,rfl,rfl⟩
theorem AUY(hg:RG2 N ts)(h:TR N ts v k tks ofm outm)(hv:0≤v∧v<(N:Int))(ht:Hj (((N:Int),(ts,())),v,k,())=some (tks,())):
  P2 (((N:Int),(ts,())),v,k,())=some (ART (stL N ts k tks).length (Ako N ts k tks),0,()):=by
 obtain⟨z,e,hz⟩:=APC hg h 8 0 rfl many (by simp only[many];omega)
 have hM:=L0 N ts hg.ht tks h.rg.1.1 k (AK tks)
 rw[AM,AnJ,AnT (by exact Anh _ _)]at hM
 rw[UA,Mw]
 simp only[AFX hg v hv,CW,Amf,ht,AM,hM]
 have e':AX Ef many (k,(N:Int),ts,false,(0:Int),(0:Int),(0:Int),(0:Int),tks,((tks.filter (DR N (Bl ts k))).length:Int),false,(0:Int),(0:Int),(0:Int),(0:Int),(1:Int),())=some (.inl (false,0,0,0,0,z.1,z.2.1.1,z.2.1.2.1,z.2.2.1,z.2.2.2.1,())):=by rw[As];exact e
 simp only[e',hz]
 rfl
end
end Go.Pev.Pl
end
section
namespace Go.Pev.Pl
theorem ANa:JK ()=some (true,()):=by
 rw[show JK () = @JK idI ()from Anj (fun i=>@JK i ()) ADp]
 kernel_rfl
theorem AR4(n:Int)(ts:List Tie):Oi ((n,(ts,())),())=some (true,())∨(Oi ((n,(ts,())),())=some (false,())∧ts.length≤30∧n≤12):=by
 rw[AER,Oh]
 simp only[AM,Ah]
 by_cases h1:(30:Int)<ts.length
 ·rw[AmU h1];exact .inl rfl
 ·rw[AmS h1]
  by_cases h2:(12:Int)<n
  ·rw[AmU h2];exact .inl rfl
  ·rw[AmS h2];exact .inr ⟨rfl,by omega,by omega⟩
abbrev Lk3:=Bool×(Int×Int×Unit)×Int×Int×Unit
def Akn:Lk3:=(false,(((0:Int),((0:Int),())),((0:Int),((0:Int),()))))
theorem ABU(n:Int)(ts:List Tie)(hl:ts.length≤400)(v k:Int):
  (∃ e:Int,(e=1∨(e=10∧∃ N:Nat,n=(N:Int)∧RG2 N ts∧¬ (0≤v∧v<(N:Int))))∧seen ((n,(ts,())),v,k,())=some (.inl (e,()))∧D2 ((n,(ts,())),v,())=some (e,())) ∨
  ∃ (N:Nat) (tks:List Int) (ofm:List (Int×Int)) (outm:RM),n=(N:Int)∧RG2 N ts∧(0≤v∧v<(N:Int))∧seen ((n,(ts,())),v,k,())=some (.inr (.inl ((N:Int),tks,ofm,outm,0,())))∧Hj ((n,(ts,())),v,k,())=some (tks,())∧TR N ts v k tks ofm outm:=by
 rcases Abj n ts (by omega)with⟨r1,r⟩|⟨N,rfl,h⟩
 ·obtain⟨q1,q2⟩:=Afb v k r1 r
  exact .inl ⟨1,.inl rfl,q1,q2⟩
 ·by_cases hv:0≤v∧v<(N:Int)
  ·obtain⟨tks,ofm,outm,h1,h2,h3⟩:=AfY h v k hv
   exact .inr ⟨N,tks,ofm,outm,rfl,h,hv,h1,h2,h3⟩
  ·obtain⟨q1,q2⟩:=AbM h v k hv
   exact .inl ⟨10,.inr ⟨rfl,N,rfl,h,hv⟩,q1,q2⟩
theorem Wl{e:Int}(h:e=1∨e=10):ieq e 0=false:=by
 rw[Ar,AmS]
 omega
section
variable {n:Int} {ts:List Tie} {v k e:Int}
theorem AfK(he:e=1∨e=10)(h:seen ((n,(ts,())),v,k,())=some (.inl (e,()))):AKW ((n,(ts,())),v,k,())=some ([],e,()):=by
 rw[AKV,ABR];simp only[h,Wl he,Am2]
theorem AT6(he:e=1∨e=10)(h:seen ((n,(ts,())),v,k,())=some (.inl (e,())))(m:Int):Mt ((n,(ts,())),v,k,m,())=some ([],e,()):=by
 rw[T3,Ms];simp only[h,Wl he,Am2]
theorem Aa7(he:e=1∨e=10)(h:seen ((n,(ts,())),v,k,())=some (.inl (e,()))):Mr ((n,(ts,())),v,k,())=some (Akn,e,()):=by
 rw[ABN,RY];simp only[h,Wl he,Am2];rfl
theorem AeO(he:e=1∨e=10)(h:D2 ((n,(ts,())),v,())=some (e,())):AFf ((n,(ts,())),v,k,())=some ([],e,()):=by
 rw[AFe,Sp];simp only[h,Wl he,Am2]
theorem APQ(he:e=1∨e=10)(h:D2 ((n,(ts,())),v,())=some (e,()))(m:Int):K0 ((n,(ts,())),v,k,m,())=some ([],e,()):=by
 rw[P6,KE];simp only[h,Wl he,Am2]
theorem AUa(he:e=1∨e=10)(h:D2 ((n,(ts,())),v,())=some (e,())):P2 ((n,(ts,())),v,k,())=some (Akn,e,()):=by
 rw[UA,Mw];simp only[h,Wl he,Am2];rfl
end
abbrev GT:=(Int×(List (Int×Int×Int×Bool×Unit))×Unit)
theorem T8(g:GT)(th:List Int){P Q:Prop}(_:P)(_:Q):Ee (g,th,())=some (true,()):=by
 obtain⟨n,ts,⟨⟩⟩:=g
 rw[Mv,GH]
 simp only[ANa,Amf]
 rcases AR4 n ts with g1|⟨g1,g2,g3⟩
 ·simp only[g1]
 simp only[g1]
 generalize Ab th 0 (0:Int)=v
 generalize Ab th 1 (0:Int)=k
 generalize Ab th 2 (0:Int)=m
 obtain⟨l1,x1,p1,q1,hl1⟩:∃ (l:List Edge) (x:Int),AKW ((n,(ts,())),v,k,())=some (l,x,())∧AFf ((n,(ts,())),v,k,())=some (l,x,())∧l.length≤400:=by
  rcases ABU n ts (by omega) v k with⟨e,he,hs,ha⟩|⟨N,tks,ofm,outm,rfl,hg,hv,hs,ht,h⟩
  ·have he':e=1∨e=10:=he.imp id And.left
   exact⟨_,_,AfK he' hs,AeO he' ha,by simp⟩
  ·refine⟨_,_,AfI hg h hs,AeM hg h hv ht,?_⟩
   have:=Oq hg (k:=k) tks
   have:=Anh (Cn tks) (atL (Bl ts k) tks)
   unfold ldL
   omega
 obtain⟨l2,x2,p2,q2,hl2⟩:∃ (l:List Edge) (x:Int),Mt ((n,(ts,())),v,k,m,())=some (l,x,())∧K0 ((n,(ts,())),v,k,m,())=some (l,x,())∧l.length≤400:=by
  rcases ABU n ts (by omega) v k with⟨e,he,hs,ha⟩|⟨N,tks,ofm,outm,rfl,hg,hv,hs,ht,h⟩
  ·have he':e=1∨e=10:=he.imp id And.left
   exact⟨_,_,AT6 he' hs m,APQ he' ha m,by simp⟩
  ·exact⟨_,_,AT4 hg h hs m,APO hg h hv ht m,Oq hg _⟩
 obtain⟨l3,x3,p3,q3⟩:∃ (l:Lk3) (x:Int),Mr ((n,(ts,())),v,k,())=some (l,x,())∧P2 ((n,(ts,())),v,k,())=some (l,x,()):=by
  rcases ABU n ts (by omega) v k with⟨e,he,hs,ha⟩|⟨N,tks,ofm,outm,rfl,hg,hv,hs,ht,h⟩
  ·have he':e=1∨e=10:=he.imp id And.left
   exact⟨_,_,Aa7 he' hs,AUa he' ha⟩
  ·exact⟨_,_,Aa5 hg h hs,AUY hg h hv ht⟩
 simp only[p1,q1,p2,q2,p3,q3,X1 l1 (by omega),X1 l2 (by omega),CW,beq_self_eq_true,Anz]
section
variable {N:Nat} {ts:List Tie} {v k:Int} {tks:List Int} {ofm:List (Int×Int)} {outm:RM}
end
end Go.Pev.Pl
end
section
namespace Go.Pev
open Go.RowKit
structure Alw(P:Program)(fn:Func)(T e:TypeId)(n:Nat):Prop where
 body:fn.body=some (.seq (.region 0 #[Bc fn 0 0] false) (.seq (.region 1 #[Bc fn 1 0,Bc fn 1 1,Bc fn 1 2,Bc fn 1 3,Bc fn 1 4,Bc fn 1 5,Bc fn 1 6] false) .ret))
 nt:fn.ntmps=9
 res:fn.results = #[.tmp 2]
 d:(Bc fn 0 0).dst=some 2∧(Bc fn 1 0).dst=some 3∧(Bc fn 1 1).dst=some 4∧(Bc fn 1 2).dst=some 5∧(Bc fn 1 3).dst=some 6∧(Bc fn 1 4).dst=some 7∧(Bc fn 1 5).dst=some 8∧(Bc fn 1 6).dst=some 2
 g:(Bc fn 0 0).guard=none∧(Bc fn 1 0).guard=none∧(Bc fn 1 1).guard=none∧(Bc fn 1 2).guard=none∧(Bc fn 1 3).guard=none∧(Bc fn 1 4).guard=none∧(Bc fn 1 5).guard=none∧(Bc fn 1 6).guard=none
 o00:(Bc fn 0 0).op = .assign (.const (.slice none 0 0))
 o10:(Bc fn 1 0).op = .move (.tmp 0)
 o11:(Bc fn 1 1).op = .move (.tmp 0)
 o12:(Bc fn 1 2).op = .call { callee:=.builtin .len,args:=#[.tmp 4],argTypes:=#[T] }
 o13:(Bc fn 1 3).op = .move (.tmp 0)
 o14:(Bc fn 1 4).op = .call { callee:=.builtin .len,args:=#[.tmp 6],argTypes:=#[T] }
 o15:(Bc fn 1 5).op = .slice T (.tmp 3) none (some (.tmp 5)) (some (.tmp 7))
 o16:(Bc fn 1 6).op = .assign (.tmp 8)
 sl:P.underlying T=some (.slice e)
 sz:BH P e=some n
section
variable {P:Program} {g:FuncId} {fn:Func} {T e:TypeId} {n:Nat}
end
end Go.Pev
end
section
namespace Go.Pev
open Go.Proofs
noncomputable section
abbrev AD5:Hints:={ loop:=fun n=>match n with|0=>Aa 0 26 AIq AIp Es|_=>fun _ _ _=>none,fp:=fun n=>match n with|6=>[[],[],[],[],[],[],[],[],[]]|_=>[] }
theorem AMQ:∀ v,Es v=roundOf Tryz.prog Env.none AD5 1 0 26 (AB Tryz.f26 0) AIq AIp v:=by
 rintro⟨a0,a1,a2,⟨⟩⟩
 kernel_rfl
theorem Ac7:AD (AB Tryz.f26 0) 1=[]:=by kernel_rfl
theorem Ac8:AZ Tryz.prog 0 (.loop (AB Tryz.f26 0)) (AD5.loop 0):=AT Env.ALx (AMQ) (AA Ac7 trivial)
theorem AW0:∀ v,R2 v=AL 0 Tryz.prog Env.none AD5 Tryz.f26 AD4 AD3 AD2 v:=by
 rintro⟨a0,a1,⟨⟩⟩
 kernel_rfl
theorem Ag8:AD (AQ Tryz.f26) 0=[(0,AB Tryz.f26 0)]:=by kernel_rfl
theorem ARf:AO Tryz.prog 26 (AF 0 2 AD4 AD3 AD2 LV):=AG Env.ALx Tryz.func26 (by kernel_rfl) (by kernel_rfl) rfl (fun v=>(AIr v).trans (AW0 v)) (AA Ag8 ⟨Ac8,trivial⟩)
def AF8:Env:=Env.none.ext 26 true true (AF 0 2 AD4 AD3 AD2 LV)
theorem Y8:AW Tryz.prog AF8:=Env.Ac Env.ALx ARf (fun _=>AI rfl rfl) (fun _=>AH rfl rfl)
abbrev Aeh:Hints:={  }
theorem ATa:∀ v,RQ v=AL 0 Tryz.prog AF8 Aeh Tryz.f109 AAq AAp AAo v:=by
 rintro⟨a0,⟨⟩⟩
 kernel_rfl
theorem Aeg:AD (AQ Tryz.f109) 0=[]:=by kernel_rfl
theorem AOP:AO Tryz.prog 109 (AF 0 1 AAq AAp AAo Mn):=AG Y8 Tryz.func109 (by kernel_rfl) (by kernel_rfl) rfl (fun v=>(AHZ v).trans (ATa v)) (AA Aeg trivial)
def AFm:Env:=AF8.ext 109 true true (AF 0 1 AAq AAp AAo Mn)
theorem Yv:AW Tryz.prog AFm:=Env.Ac Y8 AOP (fun _=>AI rfl rfl) (fun _=>AH rfl rfl)
abbrev Al1:Hints:={  }
theorem Ais:∀ v,AYl v=AL 0 Tryz.prog AFm Al1 Tryz.f85 Ae6 Ae5 Ae4 v:=by
 rintro⟨a0,a1,⟨⟩⟩
 kernel_rfl
theorem Al0:AD (AQ Tryz.f85) 0=[]:=by kernel_rfl
theorem Ae3:AO Tryz.prog 85 (AF 0 2 Ae6 Ae5 Ae4 tin):=AG Yv Tryz.func85 (by kernel_rfl) (by kernel_rfl) rfl (fun v=>(Ae7 v).trans (Ais v)) (AA Al0 trivial)
def AiW:Env:=AFm.ext 85 true true (AF 0 2 Ae6 Ae5 Ae4 tin)
theorem ATC:AW Tryz.prog AiW:=Env.Ac Yv Ae3 (fun _=>AI rfl rfl) (fun _=>AH rfl rfl)
abbrev Ak4:Hints:={  }
theorem AfB:∀ v,AKK v=AL 0 Tryz.prog AiW Ak4 Tryz.f153 ATs ATr ATq v:=by
 rintro⟨a0,a1,a2,⟨⟩⟩
 kernel_rfl
theorem Ak3:AD (AQ Tryz.f153) 0=[]:=by kernel_rfl
theorem Aay:AO Tryz.prog 153 (AF 0 3 ATs ATr ATq Aaz):=AG ATC Tryz.func153 (by kernel_rfl) (by kernel_rfl) rfl (fun v=>(AYm v).trans (AfB v)) (AA Ak3 trivial)
def AYX:Env:=AiW.ext 153 true true (AF 0 3 ATs ATr ATq Aaz)
theorem AJM:AW Tryz.prog AYX:=Env.Ac ATC Aay (fun _=>AI rfl rfl) (fun _=>AH rfl rfl)
abbrev Aef:Hints:={ fp:=fun n=>match n with|5=>[[],[],[],[],[],[],[],[],[]]|_=>[] }
theorem ATZ:∀ v,RP v=AL 0 Tryz.prog AYX Aef Tryz.f132 AAm AAl AAk v:=by
 rintro⟨a0,a1,⟨⟩⟩
 kernel_rfl
theorem Aee:AD (AQ Tryz.f132) 0=[]:=by kernel_rfl
theorem AOO:AO Tryz.prog 132 (AF 0 2 AAm AAl AAk AAn):=AG AJM Tryz.func132 (by kernel_rfl) (by kernel_rfl) rfl (fun v=>(AHY v).trans (ATZ v)) (AA Aee trivial)
def Su:Env:=AYX.ext 132 true true (AF 0 2 AAm AAl AAk AAn)
theorem N0:AW Tryz.prog Su:=Env.Ac AJM AOO (fun _=>AI rfl rfl) (fun _=>AH rfl rfl)
abbrev AKF:Hints:={ loop:=fun n=>match n with|0=>Aa 0 25 AOh AOg Hl|_=>fun _ _ _=>none }
theorem AOf:∀ v,Hl v=roundOf Tryz.prog Su AKF 1 0 25 (AB Tryz.f107 0) AOh AOg v:=by
 rintro⟨a0,a1,a2,a3,a4,⟨⟩⟩
 kernel_rfl
theorem Ae1:AD (AB Tryz.f107 0) 1=[]:=by kernel_rfl
theorem Ae2:AZ Tryz.prog 0 (.loop (AB Tryz.f107 0)) (AKF.loop 0):=AT N0 (AOf) (AA Ae1 trivial)
theorem Aav:∀ v,Zx v=AL 0 Tryz.prog Su AKF Tryz.f107 AKE AKD AKC v:=by
 rintro⟨a0,⟨⟩⟩
 kernel_rfl
theorem Aip:AD (AQ Tryz.f107) 0=[(0,AB Tryz.f107 0)]:=by kernel_rfl
theorem ATl:AO Tryz.prog 107 (AF 0 1 AKE AKD AKC AOj):=AG N0 Tryz.func107 (by kernel_rfl) (by kernel_rfl) rfl (fun v=>(AOi v).trans (Aav v)) (AA Aip ⟨Ae2,trivial⟩)
def AAI:Env:=Su.ext 107 true true (AF 0 1 AKE AKD AKC AOj)
theorem Q1:AW Tryz.prog AAI:=Env.Ac N0 ATl (fun _=>AI rfl rfl) (fun _=>AH rfl rfl)
abbrev AEC:Hints:={ loop:=fun n=>match n with|0=>Aa 0 19 AIu AIt Fi|_=>fun _ _ _=>none }
theorem AMR:∀ v,Fi v=roundOf Tryz.prog AAI AEC 1 0 19 (AB Tryz.f134 0) AIu AIt v:=by
 rintro⟨a0,a1,a2,a3,⟨⟩⟩
 kernel_rfl
theorem AdB:AD (AB Tryz.f134 0) 1=[]:=by kernel_rfl
theorem AdC:AZ Tryz.prog 0 (.loop (AB Tryz.f134 0)) (AEC.loop 0):=AT Q1 (AMR) (AA AdB trivial)
theorem AXB:∀ v,R4 v=AL 0 Tryz.prog AAI AEC Tryz.f134 AEB AEA AD9 v:=by
 rintro⟨a0,a1,⟨⟩⟩
 kernel_rfl
theorem AhH:AD (AQ Tryz.f134) 0=[(0,AB Tryz.f134 0)]:=by kernel_rfl
theorem ARg:AO Tryz.prog 134 (AF 0 2 AEB AEA AD9 QW):=AG Q1 Tryz.func134 (by kernel_rfl) (by kernel_rfl) rfl (fun v=>(AIv v).trans (AXB v)) (AA AhH ⟨AdC,trivial⟩)
def AF9:Env:=AAI.ext 134 true true (AF 0 2 AEB AEA AD9 QW)
theorem Y9:AW Tryz.prog AF9:=Env.Ac Q1 ARg (fun _=>AI rfl rfl) (fun _=>AH rfl rfl)
abbrev ASX:Hints:={  }
theorem AHJ:∀ v,JG v=AL 0 Tryz.prog AF9 ASX Tryz.f114 Nn Nm Nl v:=by
 rintro⟨a0,a1,⟨⟩⟩
 kernel_rfl
theorem ASW:AD (AQ Tryz.f114) 0=[]:=by kernel_rfl
theorem AEy:AO Tryz.prog 114 (AF 0 2 Nn Nm Nl Fw):=AG Y9 Tryz.func114 (by kernel_rfl) (by kernel_rfl) rfl (fun v=>(SZ v).trans (AHJ v)) (AA ASW trivial)
def JR:Env:=AF9.ext 114 true true (AF 0 2 Nn Nm Nl Fw)
theorem Ig:AW Tryz.prog JR:=Env.Ac Y9 AEy (fun _=>AI rfl rfl) (fun _=>AH rfl rfl)
abbrev AWQ:Hints:={ loop:=fun n=>match n with|0=>Aa 0 25 AZa AZZ LI|_=>fun _ _ _=>none }
theorem AWM:∀ v,LI v=roundOf Tryz.prog JR AWQ 1 0 25 (AB Tryz.f110 0) AZa AZZ v:=by
 rintro⟨a0,a1,a2,⟨⟩⟩
 kernel_rfl
theorem Ajp:AD (AB Tryz.f110 0) 1=[]:=by kernel_rfl
theorem Ajq:AZ Tryz.prog 0 (.loop (AB Tryz.f110 0)) (AWQ.loop 0):=AT Ig (AWM) (AA Ajp trivial)
theorem Agu:∀ v,AL0 v=AL 0 Tryz.prog JR AWQ Tryz.f110 AWP AWO AWN v:=by
 rintro⟨a0,⟨⟩⟩
 kernel_rfl
theorem AlY:AD (AQ Tryz.f110) 0=[(0,AB Tryz.f110 0)]:=by kernel_rfl
theorem Aca:AO Tryz.prog 110 (AF 0 1 AWP AWO AWN Acb):=AG Ig Tryz.func110 (by kernel_rfl) (by kernel_rfl) rfl (fun v=>(AZb v).trans (Agu v)) (AA AlY ⟨Ajq,trivial⟩)
def AYf:Env:=JR.ext 110 true true (AF 0 1 AWP AWO AWN Acb)
theorem AJU:AW Tryz.prog AYf:=Env.Ac Ig Aca (fun _=>AI rfl rfl) (fun _=>AH rfl rfl)
abbrev AkD:Hints:={  }
theorem AdR:∀ v,AAA v=AL 0 Tryz.prog AYf AkD Tryz.f161 AMh AMg AMf v:=by
 rintro⟨a0,⟨⟩⟩
 kernel_rfl
theorem AkC:AD (AQ Tryz.f161) 0=[]:=by kernel_rfl
theorem AXJ:AO Tryz.prog 161 (AF 0 2 AMh AMg AMf AR3):=AG AJU Tryz.func161 (by kernel_rfl) (by kernel_rfl) rfl (fun v=>(AR2 v).trans (AdR v)) (AA AkC trivial)
def TN:Env:=AYf.ext 161 false true (AF 0 2 AMh AMg AMf AR3)
theorem MM:AW Tryz.prog TN:=Env.Ac AJU AXJ ((by simp)) (fun _=>AH rfl rfl)
abbrev Ka:Hints:={ loop:=fun n=>match n with|0=>Aa 0 36 AE7 AE5 EX|1=>Aa 0 36 AE6 AE4 EW|_=>fun _ _ _=>none }
theorem AHL:∀ v,EW v=roundOf Tryz.prog TN Ka 2 0 36 (AB Tryz.f152 1) AE6 AE4 v:=by
 rintro⟨a0,a1,a2,a3,⟨⟩⟩
 kernel_rfl
theorem AXs:AD (AB Tryz.f152 1) 2=[]:=by kernel_rfl
theorem AXu:AZ Tryz.prog 0 (.loop (AB Tryz.f152 1)) (Ka.loop 1):=AT MM (AHL) (AA AXs trivial)
theorem AHM:∀ v,EX v=roundOf Tryz.prog TN Ka 1 0 36 (AB Tryz.f152 0) AE7 AE5 v:=by
 rintro⟨a0,a1,a2,a3,a4,⟨⟩⟩
 kernel_rfl
theorem AXt:AD (AB Tryz.f152 0) 1=[]:=by kernel_rfl
theorem AXv:AZ Tryz.prog 0 (.loop (AB Tryz.f152 0)) (Ka.loop 0):=AT MM (AHM) (AA AXt trivial)
theorem ASa:∀ v,Ol v=AL 0 Tryz.prog TN Ka Tryz.f152 W3 W2 W1 v:=by
 rintro⟨a0,⟨⟩⟩
 kernel_rfl
theorem Adp:AD (AQ Tryz.f152) 0=[(0,AB Tryz.f152 0),(1,AB Tryz.f152 1)]:=by kernel_rfl
theorem AM2:AO Tryz.prog 152 (AF 0 1 W3 W2 W1 JH):=AG MM Tryz.func152 (by kernel_rfl) (by kernel_rfl) rfl (fun v=>(AE8 v).trans (ASa v)) (AA Adp ⟨AXv,AXu,trivial⟩)
def Xj:Env:=TN.ext 152 true true (AF 0 1 W3 W2 W1 JH)
theorem TT:AW Tryz.prog Xj:=Env.Ac MM AM2 (fun _=>AI rfl rfl) (fun _=>AH rfl rfl)
theorem Abf:Tryz.f96.body.isSome=true:=by kernel_rfl
theorem Abe : (Tryz.f96.name == "runtime.NumGoroutine") = false := by kernel_rfl
theorem Abd:loops (AQ Tryz.f96)=0:=by kernel_rfl
def JO:Env:=Xj.ext 96 false false (DJ Tryz.prog Xj {} Tryz.f96)
theorem Ib:AW Tryz.prog JO:=Env.Ac TT (Cs TT Tryz.func96 Abf Abe Abd) (by simp) (by simp)
end
end Go.Pev
end
section
namespace Go.Pev
open Go.Proofs
noncomputable section
abbrev IE:Hints:={ loop:=fun n=>match n with|0=>Aa 0 19 MT MR B5|_=>fun _ _ _=>none }
theorem Qa:∀ v,B5 v=roundOf Tryz.prog JO IE 1 0 19 (AB Tryz.f91 0) MT MR v:=by
 rintro⟨a0,a1,a2,⟨⟩⟩
 kernel_rfl
theorem ZW:AD (AB Tryz.f91 0) 1=[]:=by kernel_rfl
theorem ZX:AZ Tryz.prog 0 (.loop (AB Tryz.f91 0)) (IE.loop 0):=AT Ib (Qa) (AA ZW trivial)
theorem Wb:∀ v,E9 v=AL 0 Tryz.prog JO IE Tryz.f91 ID IC IB v:=by
 rintro⟨a0,⟨⟩⟩
 kernel_rfl
theorem AEO:AD (AQ Tryz.f91) 0=[(0,AB Tryz.f91 0)]:=by kernel_rfl
theorem SF:AO Tryz.prog 91 (AF 0 2 ID IC IB HA):=AG Ib Tryz.func91 (by kernel_rfl) (by kernel_rfl) rfl (fun v=>(MU v).trans (Wb v)) (AA AEO ⟨ZX,trivial⟩)
def Ie:Env:=JO.CD 91 1 96 (AF 0 2 ID IC IB HA)
theorem JQ:AW Tryz.prog Ie:=Env.Ay Ib SF (AH rfl rfl)
abbrev Zh:Hints:={  }
theorem Se:∀ v,EI v=AL 0 Tryz.prog Ie Zh Tryz.f73 Gv Gu Gt v:=by
 rintro⟨a0,⟨⟩⟩
 kernel_rfl
theorem Zg:AD (AQ Tryz.f73) 0=[]:=by kernel_rfl
theorem Qn:AO Tryz.prog 73 (AF 0 2 Gv Gu Gt EC):=AG JQ Tryz.func73 (by kernel_rfl) (by kernel_rfl) rfl (fun v=>(KZ v).trans (Se v)) (AA Zg trivial)
def EJ:Env:=Ie.CD 73 1 96 (AF 0 2 Gv Gu Gt EC)
theorem Eb:AW Tryz.prog EJ:=Env.Ay JQ Qn (AH rfl rfl)
abbrev AV7:Hints:={ loop:=fun n=>match n with|0=>Aa 0 23 AZR AZQ LB|_=>fun _ _ _=>none }
theorem AV3:∀ v,LB v=roundOf Tryz.prog EJ AV7 1 0 23 (AB Tryz.f97 0) AZR AZQ v:=by
 rintro⟨a0,a1,a2,a3,a4,⟨⟩⟩
 kernel_rfl
theorem Ajk:AD (AB Tryz.f97 0) 1=[]:=by kernel_rfl
theorem Ajl:AZ Tryz.prog 0 (.loop (AB Tryz.f97 0)) (AV7.loop 0):=AT Eb (AV3) (AA Ajk trivial)
theorem Agl:∀ v,ALs v=AL 0 Tryz.prog EJ AV7 Tryz.f97 AV6 AV5 AV4 v:=by
 rintro⟨a0,⟨⟩⟩
 kernel_rfl
theorem AlQ:AD (AQ Tryz.f97) 0=[(0,AB Tryz.f97 0)]:=by kernel_rfl
theorem AcP:AO Tryz.prog 97 (AF 0 1 AV6 AV5 AV4 once):=AG Eb Tryz.func97 (by kernel_rfl) (by kernel_rfl) rfl (fun v=>(AZS v).trans (Agl v)) (AA AlQ ⟨Ajl,trivial⟩)
def AYd:Env:=EJ.ext 97 true true (AF 0 1 AV6 AV5 AV4 once)
theorem AJS:AW Tryz.prog AYd:=Env.Ac Eb AcP (fun _=>AI rfl rfl) (fun _=>AH rfl rfl)
abbrev Afi:Hints:={  }
theorem AUf:∀ v,Re v=AL 0 Tryz.prog AYd Afi Tryz.f72 ABr ABq ABp v:=by
 rintro⟨a0,⟨⟩⟩
 kernel_rfl
theorem Afh:AD (AQ Tryz.f72) 0=[]:=by kernel_rfl
theorem APH:AO Tryz.prog 72 (AF 0 1 ABr ABq ABp M4):=AG AJS Tryz.func72 (by kernel_rfl) (by kernel_rfl) rfl (fun v=>(AIC v).trans (AUf v)) (AA Afh trivial)
def AFw:Env:=AYd.ext 72 true true (AF 0 1 ABr ABq ABp M4)
theorem Y2:AW Tryz.prog AFw:=Env.Ac AJS APH (fun _=>AI rfl rfl) (fun _=>AH rfl rfl)
abbrev Aed:Hints:={ fp:=fun n=>match n with|1=>[[],[],[],[],[],[],[],[0],[]]|_=>[] }
theorem ATX:∀ v,RO v=AL 0 Tryz.prog AFw Aed Tryz.f160 AAj AAi AAh v:=by
 rintro⟨a0,a1,⟨⟩⟩
 kernel_rfl
theorem Aec:AD (AQ Tryz.f160) 0=[]:=by kernel_rfl
theorem AON:AO Tryz.prog 160 (AF 0 2 AAj AAi AAh Tl):=AG Y2 Tryz.func160 (by kernel_rfl) (by kernel_rfl) rfl (fun v=>(AHX v).trans (ATX v)) (AA Aec trivial)
def Ss:Env:=AFw.ext 160 true true (AF 0 2 AAj AAi AAh Tl)
theorem Nz:AW Tryz.prog Ss:=Env.Ac Y2 AON (fun _=>AI rfl rfl) (fun _=>AH rfl rfl)
abbrev ACS:Hints:={ loop:=fun n=>match n with|0=>Aa 0 29 AIP AIO Ej|_=>fun _ _ _=>none }
theorem ALL:∀ v,Ej v=roundOf Tryz.prog Ss ACS 1 0 29 (AB Tryz.f159 0) AIP AIO v:=by
 rintro⟨a0,a1,a2,a3,a4,⟨⟩⟩
 kernel_rfl
theorem Abv:AD (AB Tryz.f159 0) 1=[]:=by kernel_rfl
theorem Abw:AZ Tryz.prog 0 (.loop (AB Tryz.f159 0)) (ACS.loop 0):=AT Nz (ALL) (AA Abv trivial)
theorem AVJ:∀ v,Rm v=AL 0 Tryz.prog Ss ACS Tryz.f159 ACR ACQ ACP v:=by
 rintro⟨a0,a1,⟨⟩⟩
 kernel_rfl
theorem Afz:AD (AQ Tryz.f159) 0=[(0,AB Tryz.f159 0)]:=by kernel_rfl
theorem APh:AO Tryz.prog 159 (AF 0 2 ACR ACQ ACP places):=AG Nz Tryz.func159 (by kernel_rfl) (by kernel_rfl) rfl (fun v=>(AIQ v).trans (AVJ v)) (AA Afz ⟨Abw,trivial⟩)
def AF0:Env:=Ss.ext 159 true true (AF 0 2 ACR ACQ ACP places)
theorem Y4:AW Tryz.prog AF0:=Env.Ac Nz APh (fun _=>AI rfl rfl) (fun _=>AH rfl rfl)
abbrev AjK:Hints:={  }
theorem Abk:∀ v,Z2 v=AL 0 Tryz.prog AF0 AjK Tryz.f151 AK8 AK7 AK6 v:=by
 rintro⟨a0,a1,⟨⟩⟩
 kernel_rfl
theorem AjJ:AD (AQ Tryz.f151) 0=[]:=by kernel_rfl
theorem AUt:AO Tryz.prog 151 (AF 0 2 AK8 AK7 AK6 AIF):=AG Y4 Tryz.func151 (by kernel_rfl) (by kernel_rfl) rfl (fun v=>(APX v).trans (Abk v)) (AA AjJ trivial)
def ANo:Env:=AF0.ext 151 true true (AF 0 2 AK8 AK7 AK6 AIF)
theorem AFy:AW Tryz.prog ANo:=Env.Ac Y4 AUt (fun _=>AI rfl rfl) (fun _=>AH rfl rfl)
abbrev Afk:Hints:={  }
theorem AUh:∀ v,Rf v=AL 0 Tryz.prog ANo Afk Tryz.f162 ABu ABt ABs v:=by
 rintro⟨a0,⟨⟩⟩
 kernel_rfl
theorem Afj:AD (AQ Tryz.f162) 0=[]:=by kernel_rfl
theorem API:AO Tryz.prog 162 (AF 0 1 ABu ABt ABs ABv):=AG AFy Tryz.func162 (by kernel_rfl) (by kernel_rfl) rfl (fun v=>(AID v).trans (AUh v)) (AA Afj trivial)
def AFx:Env:=ANo.ext 162 true true (AF 0 1 ABu ABt ABs ABv)
theorem Y3:AW Tryz.prog AFx:=Env.Ac AFy API (fun _=>AI rfl rfl) (fun _=>AH rfl rfl)
theorem Aaq:Tryz.f113.body.isSome=true:=by kernel_rfl
theorem Aap : (Tryz.f113.name == "runtime.NumGoroutine") = false := by kernel_rfl
theorem Aao:loops (AQ Tryz.f113)=0:=by kernel_rfl
def JN:Env:=AFx.ext 113 false false (DJ Tryz.prog AFx {} Tryz.f113)
theorem IZ:AW Tryz.prog JN:=Env.Ac Y3 (Cs Y3 Tryz.func113 Aaq Aap Aao) (by simp) (by simp)
abbrev Fm:Hints:={ loop:=fun n=>match n with|0=>Aa 1 19 I0 Iz Bi|_=>fun _ _ _=>none }
theorem NS:∀ v,Bi v=roundOf Tryz.prog JN Fm 1 1 19 (AB Tryz.f112 0) I0 Iz v:=by
 rintro⟨a0,a1,a2,a3,⟨⟩⟩
 kernel_rfl
theorem R7:AD (AB Tryz.f112 0) 1=[]:=by kernel_rfl
theorem R8:AZ Tryz.prog 1 (.loop (AB Tryz.f112 0)) (Fm.loop 0):=AT IZ (NS) (AA R7 trivial)
theorem QY:∀ v,Dy v=AL 1 Tryz.prog JN Fm Tryz.f112 Fl Fk Fj v:=by
 rintro⟨a0,a1,⟨⟩⟩
 kernel_rfl
theorem WW:AD (AQ Tryz.f112) 0=[(0,AB Tryz.f112 0)]:=by kernel_rfl
theorem PA:AO Tryz.prog 112 (AF 1 2 Fl Fk Fj E7):=AG IZ Tryz.func112 (by kernel_rfl) (by kernel_rfl) rfl (fun v=>(I1 v).trans (QY v)) (AA WW ⟨R8,trivial⟩)
def GA:Env:=JN.CD 112 1 113 (AF 1 2 Fl Fk Fj E7)
theorem G2:AW Tryz.prog GA:=Env.Ay IZ PA (AH rfl rfl)
abbrev Aep:Hints:={  }
theorem ATi:∀ v,RV v=AL 0 Tryz.prog GA Aep Tryz.f87 AA6 AA5 AA4 v:=by
 rintro⟨a0,a1,⟨⟩⟩
 kernel_rfl
theorem Aeo:AD (AQ Tryz.f87) 0=[]:=by kernel_rfl
theorem AOW:AO Tryz.prog 87 (AF 0 2 AA6 AA5 AA4 Pk):=AG G2 Tryz.func87 (by kernel_rfl) (by kernel_rfl) rfl (fun v=>(AHo v).trans (ATi v)) (AA Aeo trivial)
def AFo:Env:=GA.ext 87 true true (AF 0 2 AA6 AA5 AA4 Pk)
theorem Yx:AW Tryz.prog AFo:=Env.Ac G2 AOW (fun _=>AI rfl rfl) (fun _=>AH rfl rfl)
theorem Akf:Tryz.f133.body.isSome=true:=by kernel_rfl
theorem Ake : (Tryz.f133.name == "runtime.NumGoroutine") = false := by kernel_rfl
theorem Akd:loops (AQ Tryz.f133)=0:=by kernel_rfl
def O5:Env:=AFo.ext 133 false false (DJ Tryz.prog AFo {} Tryz.f133)
theorem MO:AW Tryz.prog O5:=Env.Ac Yx (Cs Yx Tryz.func133 Akf Ake Akd) (by simp) (by simp)
end
end Go.Pev
end
section
namespace Go.Pev
open Go.Proofs
noncomputable section
abbrev AXO:Hints:={ loop:=fun n=>match n with|0=>Aa 0 107 AZw AZv I8|_=>fun _ _ _=>none,fp:=fun n=>match n with|8=>[[],[],[],[],[],[],[],[],[1000003],[],[],[],[],[],[],[],[],[0],[0],[0],[],[0],[0],[0],[2,26],[],[2,26],[2,26],[],[],[],[],[]]|13=>[[],[0],[0],[0],[2],[],[],[],[0],[0],[0],[6],[],[0],[0],[0],[4],[],[],[]]|3=>[[],[],[],[],[],[],[],[],[11],[],[],[],[8,10,12],[]]|_=>[] }
theorem AXK:∀ v,I8 v=roundOf Tryz.prog O5 AXO 1 0 107 (AB Tryz.f111 0) AZw AZv v:=by
 rintro⟨a0,a1,a2,a3,a4,a5,a6,⟨⟩⟩
 kernel_rfl
theorem AkE:AD (AB Tryz.f111 0) 1=[]:=by kernel_rfl
theorem AkF:AZ Tryz.prog 0 (.loop (AB Tryz.f111 0)) (AXO.loop 0):=AT MO (AXK) (AA AkE trivial)
theorem Ahf:∀ v,AMj v=AL 0 Tryz.prog O5 AXO Tryz.f111 AXN AXM AXL v:=by
 rintro⟨a0,a1,⟨⟩⟩
 kernel_rfl
theorem Ali:AD (AQ Tryz.f111) 0=[(0,AB Tryz.f111 0)]:=by kernel_rfl
theorem AdX:AO Tryz.prog 111 (AF 0 2 AXN AXM AXL goes):=AG MO Tryz.func111 (by kernel_rfl) (by kernel_rfl) rfl (fun v=>(AZx v).trans (Ahf v)) (AA Ali ⟨AkF,trivial⟩)
def Xg:Env:=O5.ext 111 true true (AF 0 2 AXN AXM AXL goes)
theorem Ki:AW Tryz.prog Xg:=Env.Ac MO AdX (fun _=>AI rfl rfl) (fun _=>AH rfl rfl)
abbrev Hg:Hints:={ loop:=fun n=>match n with|0=>Aa 0 87 AHf AHc Dq|1=>Aa 0 87 AHe AHb Dp|2=>Aa 0 87 AHd AHa Ed|_=>fun _ _ _=>none,fp:=fun n=>match n with|8=>[[],[],[],[],[],[],[],[],[],[],[],[],[],[],[],[],[],[],[],[],[],[],[],[],[0],[0],[],[],[],[]]|_=>[] }
theorem AJv:∀ v,Ed v=roundOf Tryz.prog Xg Hg 3 0 87 (AB Tryz.f86 2) AHd AHa v:=by
 rintro⟨a0,a1,a2,⟨⟩⟩
 kernel_rfl
theorem Aaa:AD (AB Tryz.f86 2) 3=[]:=by kernel_rfl
theorem Aad:AZ Tryz.prog 0 (.loop (AB Tryz.f86 2)) (Hg.loop 2):=AT Ki (AJv) (AA Aaa trivial)
theorem AJw:∀ v,Dp v=roundOf Tryz.prog Xg Hg 2 0 87 (AB Tryz.f86 1) AHe AHb v:=by
 rintro⟨a0,a1,a2,a3,a4,a5,a6,a7,a8,a9,a10,a11,a12,a13,a14,a15,a16,a17,a18,a19,a20,a21,a22,a23,a24,a25,⟨⟩⟩
 kernel_rfl
theorem Aab:AD (AB Tryz.f86 1) 2=[]:=by kernel_rfl
theorem Aae:AZ Tryz.prog 0 (.loop (AB Tryz.f86 1)) (Hg.loop 1):=AT Ki (AJw) (AA Aab trivial)
theorem AJx:∀ v,Dq v=roundOf Tryz.prog Xg Hg 1 0 87 (AB Tryz.f86 0) AHf AHc v:=by
 rintro⟨a0,a1,a2,a3,a4,a5,a6,⟨⟩⟩
 kernel_rfl
theorem Aac:AD (AB Tryz.f86 0) 1=[(1,AB Tryz.f86 1)]:=by kernel_rfl
theorem Aaf:AZ Tryz.prog 0 (.loop (AB Tryz.f86 0)) (Hg.loop 0):=AT Ki (AJx) (AA Aac ⟨Aae,trivial⟩)
theorem ATc:∀ v,RR v=AL 0 Tryz.prog Xg Hg Tryz.f86 AAw AAv AAu v:=by
 rintro⟨a0,⟨⟩⟩
 kernel_rfl
theorem Aem:AD (AQ Tryz.f86) 0=[(0,AB Tryz.f86 0),(2,AB Tryz.f86 2)]:=by kernel_rfl
theorem AOT:AO Tryz.prog 86 (AF 0 1 AAw AAv AAu Pj):=AG Ki Tryz.func86 (by kernel_rfl) (by kernel_rfl) rfl (fun v=>(AHg v).trans (ATc v)) (AA Aem ⟨Aaf,Aad,trivial⟩)
def AFn:Env:=Xg.ext 86 true true (AF 0 1 AAw AAv AAu Pj)
theorem Yw:AW Tryz.prog AFn:=Env.Ac Ki AOT (fun _=>AI rfl rfl) (fun _=>AH rfl rfl)
abbrev AkX:Hints:={  }
theorem AeD:∀ v,AAG v=AL 0 Tryz.prog AFn AkX Tryz.f150 ANT ANS ANR v:=by
 rintro⟨a0,a1,a2,⟨⟩⟩
 kernel_rfl
theorem AkW:AD (AQ Tryz.f150) 0=[]:=by kernel_rfl
theorem AYM:AO Tryz.prog 150 (AF 0 3 ANT ANS ANR asked):=AG Yw Tryz.func150 (by kernel_rfl) (by kernel_rfl) rfl (fun v=>(ASv v).trans (AeD v)) (AA AkW trivial)
def AN0:Env:=AFn.ext 150 true true (AF 0 3 ANT ANS ANR asked)
theorem AGG:AW Tryz.prog AN0:=Env.Ac Yw AYM (fun _=>AI rfl rfl) (fun _=>AH rfl rfl)
abbrev AlX:Hints:={  }
theorem Ags:∀ v,LG v=AL 0 Tryz.prog AN0 AlX Tryz.f90 AWK AWJ AWI v:=by
 rintro⟨a0,⟨⟩⟩
 kernel_rfl
theorem AlW:AD (AQ Tryz.f90) 0=[]:=by kernel_rfl
theorem AcX:AO Tryz.prog 90 (AF 0 1 AWK AWJ AWI Agt):=AG AGG Tryz.func90 (by kernel_rfl) (by kernel_rfl) rfl (fun v=>(LF v).trans (Ags v)) (AA AlW trivial)
def AYe:Env:=AN0.ext 90 true true (AF 0 1 AWK AWJ AWI Agt)
theorem AJT:AW Tryz.prog AYe:=Env.Ac AGG AcX (fun _=>AI rfl rfl) (fun _=>AH rfl rfl)
abbrev AXx:Hints:={  }
theorem AM5:∀ v,EY v=AL 0 Tryz.prog AYe AXx Tryz.f62 Qq Qp Qo v:=by
 rintro⟨a0,a1,⟨⟩⟩
 kernel_rfl
theorem AXw:AD (AQ Tryz.f62) 0=[]:=by kernel_rfl
theorem AHN:AO Tryz.prog 62 (AF 0 2 Qq Qp Qo Dj):=AG AJT Tryz.func62 (by kernel_rfl) (by kernel_rfl) rfl (fun v=>(Gj v).trans (AM5 v)) (AA AXw trivial)
def RA:Env:=AYe.ext 62 true true (AF 0 2 Qq Qp Qo Dj)
theorem Pc:AW Tryz.prog RA:=Env.Ac AJT AHN (fun _=>AI rfl rfl) (fun _=>AH rfl rfl)
abbrev Aia:Hints:={ fp:=fun n=>match n with|1=>[[],[],[],[],[],[],[],[]]|_=>[] }
theorem AaR:∀ v,Zt v=AL 0 Tryz.prog RA Aia Tryz.f164 AJe AJd AJc v:=by
 rintro⟨a0,a1,⟨⟩⟩
 kernel_rfl
theorem AiZ:AD (AQ Tryz.f164) 0=[]:=by kernel_rfl
theorem ATE:AO Tryz.prog 164 (AF 0 2 AJe AJd AJc BN):=AG Pc Tryz.func164 (by kernel_rfl) (by kernel_rfl) rfl (fun v=>(AN7 v).trans (AaR v)) (AA AiZ trivial)
def ANk:Env:=RA.ext 164 true true (AF 0 2 AJe AJd AJc BN)
theorem AFi:AW Tryz.prog ANk:=Env.Ac Pc ATE (fun _=>AI rfl rfl) (fun _=>AH rfl rfl)
abbrev Ajv:Hints:={  }
theorem Ac5:∀ v,Z9 v=AL 0 Tryz.prog ANk Ajv Tryz.f124 AMM AML AMK v:=by
 rintro⟨a0,⟨⟩⟩
 kernel_rfl
theorem Aju:AD (AQ Tryz.f124) 0=[]:=by kernel_rfl
theorem AWr:AO Tryz.prog 124 (AF 0 1 AMM AML AMK ARc):=AG AFi Tryz.func124 (by kernel_rfl) (by kernel_rfl) rfl (fun v=>(ARb v).trans (Ac5 v)) (AA Aju trivial)
def ANu:Env:=ANk.ext 124 true true (AF 0 1 AMM AML AMK ARc)
theorem AF7:AW Tryz.prog ANu:=Env.Ac AFi AWr (fun _=>AI rfl rfl) (fun _=>AH rfl rfl)
abbrev AeA:Hints:={  }
theorem ASu:∀ v,Oo v=AL 0 Tryz.prog ANu AeA Tryz.f89 XE XD XC v:=by
 rintro⟨a0,⟨⟩⟩
 kernel_rfl
theorem Ad9:AD (AQ Tryz.f89) 0=[]:=by kernel_rfl
theorem ANP:AO Tryz.prog 89 (AF 0 1 XE XD XC bitsLen):=AG AF7 Tryz.func89 (by kernel_rfl) (by kernel_rfl) rfl (fun v=>(AFV v).trans (ASu v)) (AA Ad9 trivial)
def Xl:Env:=ANu.ext 89 true true (AF 0 1 XE XD XC bitsLen)
theorem TV:AW Tryz.prog Xl:=Env.Ac AF7 ANP (fun _=>AI rfl rfl) (fun _=>AH rfl rfl)
abbrev AaO:Hints:={ fp:=fun n=>match n with|3=>[[],[0],[0],[],[0],[0],[],[],[0],[1]]|2=>[[],[0],[0],[],[0],[0],[],[],[0],[1]]|1=>[[],[0],[0],[],[0],[0],[],[],[0],[1]]|_=>[] }
theorem AN3:∀ v,OD v=AL 1 Tryz.prog Xl AaO Tryz.f137 Tc Tb Ta v:=by
 rintro⟨a0,⟨⟩⟩
 kernel_rfl
theorem AaN:AD (AQ Tryz.f137) 0=[]:=by kernel_rfl
theorem AJb:AO Tryz.prog 137 (AF 1 1 Tc Tb Ta xorNext):=AG TV Tryz.func137 (by kernel_rfl) (by kernel_rfl) rfl (fun v=>(AAP v).trans (AN3 v)) (AA AaN trivial)
def XO:Env:=Xl.ext 137 false true (AF 1 1 Tc Tb Ta xorNext)
theorem Sq:AW Tryz.prog XO:=Env.Ac TV AJb ((by simp)) (fun _=>AH rfl rfl)
abbrev AcW:Hints:={  }
theorem AQ8:∀ v,OZ v=AL 0 Tryz.prog XO AcW Tryz.f136 VZ VY VX v:=by
 rintro⟨a0,⟨⟩⟩
 kernel_rfl
theorem AcV:AD (AQ Tryz.f136) 0=[]:=by kernel_rfl
theorem ALy:AO Tryz.prog 136 (AF 0 1 VZ VY VX Rv):=AG Sq Tryz.func136 (by kernel_rfl) (by kernel_rfl) rfl (fun v=>(ADW v).trans (AQ8 v)) (AA AcV trivial)
def Kd:Env:=XO.ext 136 true true (AF 0 1 VZ VY VX Rv)
theorem HH:AW Tryz.prog Kd:=Env.Ac Sq ALy (fun _=>AI rfl rfl) (fun _=>AH rfl rfl)
abbrev AD6:Hints:={ loop:=fun n=>match n with|0=>Aa 1 53 AZi AZg AZe|1=>Aa 1 53 AZh AZf AZd|_=>fun _ _ _=>none,fp:=fun n=>match n with|4=>[[],[],[],[],[],[],[],[0],[0],[],[],[],[0],[0],[],[],[]]|6=>[[],[],[],[],[],[],[],[],[0],[0],[],[],[0],[0],[0],[1],[0],[1]]|_=>[] }
theorem AW1:∀ v,AZd v=roundOf Tryz.prog Kd AD6 2 1 53 (AB Tryz.f166 1) AZh AZf v:=by
 rintro⟨a0,a1,a2,a3,a4,⟨⟩⟩
 kernel_rfl
theorem Ajw:AD (AB Tryz.f166 1) 2=[]:=by kernel_rfl
theorem Ajy:AZ Tryz.prog 1 (.loop (AB Tryz.f166 1)) (AD6.loop 1):=AT HH (AW1) (AA Ajw trivial)
theorem AW2:∀ v,AZe v=roundOf Tryz.prog Kd AD6 1 1 53 (AB Tryz.f166 0) AZi AZg v:=by
 rintro⟨a0,a1,a2,a3,⟨⟩⟩
 kernel_rfl
theorem Ajx:AD (AB Tryz.f166 0) 1=[(1,AB Tryz.f166 1)]:=by kernel_rfl
theorem Ajz:AZ Tryz.prog 1 (.loop (AB Tryz.f166 0)) (AD6.loop 0):=AT HH (AW2) (AA Ajx ⟨Ajy,trivial⟩)
theorem AhA:∀ v,AhB v=AL 1 Tryz.prog Kd AD6 Tryz.f166 AW5 AW4 AW3 v:=by
 rintro⟨a0,a1,a2,⟨⟩⟩
 kernel_rfl
theorem Alc:AD (AQ Tryz.f166) 0=[(0,AB Tryz.f166 0)]:=by kernel_rfl
theorem Ac9:AO Tryz.prog 166 (AF 1 4 AW5 AW4 AW3 Ald):=AG HH Tryz.func166 (by kernel_rfl) (by kernel_rfl) rfl (fun v=>(Aj0 v).trans (AhA v)) (AA Alc ⟨Ajz,trivial⟩)
def ANv:Env:=Kd.CD 166 3 164 (AF 1 4 AW5 AW4 AW3 Ald)
theorem Xe:AW Tryz.prog ANv:=Env.Ay HH Ac9 (AH rfl rfl)
abbrev AKn:Hints:={ loop:=fun n=>match n with|0=>Aa 1 82 AO3 AO2 AO1|_=>fun _ _ _=>none,fp:=fun n=>match n with|6=>[[],[],[],[],[],[],[],[],[],[],[],[],[0],[0],[],[],[],[],[0],[0],[0],[1],[0],[1]]|5=>[[],[],[],[],[],[0],[0],[],[],[],[],[0],[0],[],[],[]]|3=>[[],[],[],[],[],[],[],[],[],[],[0],[0],[],[],[],[],[],[0],[0],[],[],[]]|_=>[] }
theorem AO0:∀ v,AO1 v=roundOf Tryz.prog ANv AKn 1 1 82 (AB Tryz.f174 0) AO3 AO2 v:=by
 rintro⟨a0,a1,a2,a3,⟨⟩⟩
 kernel_rfl
theorem AfP:AD (AB Tryz.f174 0) 1=[]:=by kernel_rfl
theorem AfQ:AZ Tryz.prog 1 (.loop (AB Tryz.f174 0)) (AKn.loop 0):=AT Xe (AO0) (AA AfP trivial)
theorem AbH:∀ v,AYy v=AL 1 Tryz.prog ANv AKn Tryz.f174 AKm AKl AKk v:=by
 rintro⟨a0,a1,a2,a3,⟨⟩⟩
 kernel_rfl
theorem Ai7:AD (AQ Tryz.f174) 0=[(0,AB Tryz.f174 0)]:=by kernel_rfl
theorem AUN:AO Tryz.prog 174 (AF 1 5 AKm AKl AKk AfS):=AG Xe Tryz.func174 (by kernel_rfl) (by kernel_rfl) rfl (fun v=>(AfR v).trans (AbH v)) (AA Ai7 ⟨AfQ,trivial⟩)
def S5:Env:=ANv.CD 174 4 164 (AF 1 5 AKm AKl AKk AfS)
theorem MC:AW Tryz.prog S5:=Env.Ay Xe AUN (AH rfl rfl)
end
end Go.Pev
end
section
namespace Go.Pev
open Go.Proofs
noncomputable section
abbrev SJ:Hints:={ loop:=fun n=>match n with|0=>Aa 1 60 ARp ARn ARl|1=>Aa 1 60 ARo ARm ARj|_=>fun _ _ _=>none,fp:=fun n=>match n with|10=>[[],[],[],[],[],[],[],[],[],[],[0],[0],[],[],[0],[0],[0],[1],[0],[1]]|_=>[] }
theorem ARi:∀ v,ARj v=roundOf Tryz.prog S5 SJ 2 1 60 (AB Tryz.f167 1) ARo ARm v:=by
 rintro⟨a0,a1,a2,a3,⟨⟩⟩
 kernel_rfl
theorem AhQ:AD (AB Tryz.f167 1) 2=[]:=by kernel_rfl
theorem AhS:AZ Tryz.prog 1 (.loop (AB Tryz.f167 1)) (SJ.loop 1):=AT MC (ARi) (AA AhQ trivial)
theorem ARk:∀ v,ARl v=roundOf Tryz.prog S5 SJ 1 1 60 (AB Tryz.f167 0) ARp ARn v:=by
 rintro⟨a0,a1,a2,a3,a4,⟨⟩⟩
 kernel_rfl
theorem AhR:AD (AB Tryz.f167 0) 1=[]:=by kernel_rfl
theorem AhT:AZ Tryz.prog 1 (.loop (AB Tryz.f167 0)) (SJ.loop 0):=AT MC (ARk) (AA AhR trivial)
theorem AdJ:∀ v,AZs v=AL 1 Tryz.prog S5 SJ Tryz.f167 AMZ AMY AMX v:=by
 rintro⟨a0,a1,a2,⟨⟩⟩
 kernel_rfl
theorem Aj9:AD (AQ Tryz.f167) 0=[(0,AB Tryz.f167 0),(1,AB Tryz.f167 1)]:=by kernel_rfl
theorem AXG:AO Tryz.prog 167 (AF 1 4 AMZ AMY AMX AhV):=AG MC Tryz.func167 (by kernel_rfl) (by kernel_rfl) rfl (fun v=>(AhU v).trans (AdJ v)) (AA Aj9 ⟨AhT,AhS,trivial⟩)
def AAK:Env:=S5.CD 167 3 164 (AF 1 4 AMZ AMY AMX AhV)
theorem Q6:AW Tryz.prog AAK:=Env.Ay MC AXG (AH rfl rfl)
abbrev AFO:Hints:={ loop:=fun n=>match n with|0=>Aa 1 67 AJB AJA AI9|_=>fun _ _ _=>none,fp:=fun n=>match n with|10=>[[],[],[],[],[],[],[],[],[],[],[0],[0],[],[],[0],[0],[0],[1],[0],[1]]|_=>[] }
theorem ANM:∀ v,AI9 v=roundOf Tryz.prog AAK AFO 1 1 67 (AB Tryz.f168 0) AJB AJA v:=by
 rintro⟨a0,a1,a2,a3,a4,a5,⟨⟩⟩
 kernel_rfl
theorem Ad2:AD (AB Tryz.f168 0) 1=[]:=by kernel_rfl
theorem Ad3:AZ Tryz.prog 1 (.loop (AB Tryz.f168 0)) (AFO.loop 0):=AT Q6 (ANM) (AA Ad2 trivial)
theorem AX8:∀ v,ASq v=AL 1 Tryz.prog AAK AFO Tryz.f168 AFN AFM AFL v:=by
 rintro⟨a0,a1,a2,⟨⟩⟩
 kernel_rfl
theorem AiI:AD (AQ Tryz.f168) 0=[(0,AB Tryz.f168 0)]:=by kernel_rfl
theorem ASp:AO Tryz.prog 168 (AF 1 4 AFN AFM AFL AX9):=AG Q6 Tryz.func168 (by kernel_rfl) (by kernel_rfl) rfl (fun v=>(Ad4 v).trans (AX8 v)) (AA AiI ⟨Ad3,trivial⟩)
def AGE:Env:=AAK.CD 168 3 164 (AF 1 4 AFN AFM AFL AX9)
theorem ZD:AW Tryz.prog AGE:=Env.Ay Q6 ASp (AH rfl rfl)
abbrev AcK:Hints:={ fp:=fun n=>match n with|1=>[[],[],[],[0],[0],[],[],[0],[0],[],[]]|_=>[] }
theorem AQ4:∀ v,AIa v=AL 2 Tryz.prog AGE AcK Tryz.f177 VS VR VQ v:=by
 rintro⟨a0,a1,a2,a3,⟨⟩⟩
 kernel_rfl
theorem AcJ:AD (AQ Tryz.f177) 0=[]:=by kernel_rfl
theorem ALn:AO Tryz.prog 177 (AF 2 5 VS VR VQ ALo):=AG ZD Tryz.func177 (by kernel_rfl) (by kernel_rfl) rfl (fun v=>(AV0 v).trans (AQ4 v)) (AA AcJ trivial)
def XV:Env:=AGE.CD 177 4 164 (AF 2 5 VS VR VQ ALo)
theorem TC:AW Tryz.prog XV:=Env.Ay ZD ALn (AH rfl rfl)
abbrev Ace:Hints:={  }
theorem ARE:∀ v,AId v=AL 2 Tryz.prog XV Ace Tryz.f176 Vr Vq Vp v:=by
 rintro⟨a0,a1,a2,a3,a4,⟨⟩⟩
 kernel_rfl
theorem Acd:AD (AQ Tryz.f176) 0=[]:=by kernel_rfl
theorem AL1:AO Tryz.prog 176 (AF 2 6 Vr Vq Vp AL2):=AG TC Tryz.func176 (by kernel_rfl) (by kernel_rfl) rfl (fun v=>(AWS v).trans (ARE v)) (AA Acd trivial)
def XY:Env:=XV.CD 176 5 164 (AF 2 6 Vr Vq Vp AL2)
theorem TE:AW Tryz.prog XY:=Env.Ay TC AL1 (AH rfl rfl)
abbrev Aci:Hints:={  }
theorem ARG:∀ v,AIf v=AL 2 Tryz.prog XY Aci Tryz.f175 Vx Vw Vv v:=by
 rintro⟨a0,a1,a2,⟨⟩⟩
 kernel_rfl
theorem Ach:AD (AQ Tryz.f175) 0=[]:=by kernel_rfl
theorem AL5:AO Tryz.prog 175 (AF 2 4 Vx Vw Vv AL6):=AG TE Tryz.func175 (by kernel_rfl) (by kernel_rfl) rfl (fun v=>(AWV v).trans (ARG v)) (AA Ach trivial)
def Xa:Env:=XY.CD 175 3 164 (AF 2 4 Vx Vw Vv AL6)
theorem TG:AW Tryz.prog Xa:=Env.Ay TE AL5 (AH rfl rfl)
abbrev Af1:Hints:={  }
theorem AVQ:∀ v,APl v=AL 1 Tryz.prog Xa Af1 Tryz.f169 ACb ACa ACZ v:=by
 rintro⟨a0,a1,a2,⟨⟩⟩
 kernel_rfl
theorem Af0:AD (AQ Tryz.f169) 0=[]:=by kernel_rfl
theorem APk:AO Tryz.prog 169 (AF 1 4 ACb ACa ACZ AVR):=AG TG Tryz.func169 (by kernel_rfl) (by kernel_rfl) rfl (fun v=>(Abz v).trans (AVQ v)) (AA Af0 trivial)
def TA:Env:=Xa.CD 169 3 164 (AF 1 4 ACb ACa ACZ AVR)
theorem N5:AW Tryz.prog TA:=Env.Ay TG APk (AH rfl rfl)
abbrev AUy:Hints:={ loop:=fun n=>match n with|0=>Aa 1 34 AY9 AY8 AY7|_=>fun _ _ _=>none,fp:=fun n=>match n with|3=>[[],[],[],[],[],[],[0],[0],[],[],[0],[0],[0],[1],[0],[1]]|_=>[] }
theorem AUu:∀ v,AY7 v=roundOf Tryz.prog TA AUy 1 1 34 (AB Tryz.f170 0) AY9 AY8 v:=by
 rintro⟨a0,a1,a2,⟨⟩⟩
 kernel_rfl
theorem AjL:AD (AB Tryz.f170 0) 1=[]:=by kernel_rfl
theorem AjM:AZ Tryz.prog 1 (.loop (AB Tryz.f170 0)) (AUy.loop 0):=AT N5 (AUu) (AA AjL trivial)
theorem Afl:∀ v,Afm v=AL 1 Tryz.prog TA AUy Tryz.f170 AUx AUw AUv v:=by
 rintro⟨a0,a1,a2,⟨⟩⟩
 kernel_rfl
theorem AlE:AD (AQ Tryz.f170) 0=[(0,AB Tryz.f170 0)]:=by kernel_rfl
theorem Abl:AO Tryz.prog 170 (AF 1 4 AUx AUw AUv AlF):=AG N5 Tryz.func170 (by kernel_rfl) (by kernel_rfl) rfl (fun v=>(AjN v).trans (Afl v)) (AA AlE ⟨AjM,trivial⟩)
def Q4:Env:=TA.CD 170 3 164 (AF 1 4 AUx AUw AUv AlF)
theorem Hb:AW Tryz.prog Q4:=Env.Ay N5 Abl (AH rfl rfl)
abbrev C1:Hints:={ loop:=fun n=>match n with|0=>Aa 1 141 YF YB X7|1=>Aa 1 141 YE YA X6|2=>Aa 1 141 YD X9 X5|3=>Aa 1 141 YC X8 X4|_=>fun _ _ _=>none,fp:=fun n=>match n with|11=>[[],[],[],[],[],[],[],[],[0],[0],[],[],[0],[0],[0],[1],[0],[1]]|5=>[[],[],[],[],[],[],[],[0],[0],[],[],[],[0],[0],[],[],[],[]]|17=>[[],[],[],[],[],[],[],[],[0],[0],[],[],[0],[0],[0],[1],[0],[1]]|16=>[[],[],[],[0],[0],[],[],[],[0],[0],[],[],[]]|23=>[[],[],[],[],[],[],[],[],[0],[0],[],[],[0],[0],[0],[1],[0],[1]]|22=>[[],[],[],[0],[0],[],[],[],[0],[0],[],[],[]]|_=>[] }
theorem ACu:∀ v,X4 v=roundOf Tryz.prog Q4 C1 4 1 141 (AB Tryz.f171 3) YC X8 v:=by
 rintro⟨a0,a1,a2,a3,a4,a5,⟨⟩⟩
 kernel_rfl
theorem AQD:AD (AB Tryz.f171 3) 4=[]:=by kernel_rfl
theorem AQH:AZ Tryz.prog 1 (.loop (AB Tryz.f171 3)) (C1.loop 3):=AT Hb (ACu) (AA AQD trivial)
theorem ACv:∀ v,X5 v=roundOf Tryz.prog Q4 C1 3 1 141 (AB Tryz.f171 2) YD X9 v:=by
 rintro⟨a0,a1,a2,a3,a4,a5,⟨⟩⟩
 kernel_rfl
theorem AQE:AD (AB Tryz.f171 2) 3=[]:=by kernel_rfl
theorem AQI:AZ Tryz.prog 1 (.loop (AB Tryz.f171 2)) (C1.loop 2):=AT Hb (ACv) (AA AQE trivial)
theorem ACw:∀ v,X6 v=roundOf Tryz.prog Q4 C1 2 1 141 (AB Tryz.f171 1) YE YA v:=by
 rintro⟨a0,a1,a2,a3,a4,⟨⟩⟩
 kernel_rfl
theorem AQF:AD (AB Tryz.f171 1) 2=[]:=by kernel_rfl
theorem AQJ:AZ Tryz.prog 1 (.loop (AB Tryz.f171 1)) (C1.loop 1):=AT Hb (ACw) (AA AQF trivial)
theorem ACx:∀ v,X7 v=roundOf Tryz.prog Q4 C1 1 1 141 (AB Tryz.f171 0) YF YB v:=by
 rintro⟨a0,a1,a2,a3,a4,⟨⟩⟩
 kernel_rfl
theorem AQG:AD (AB Tryz.f171 0) 1=[(1,AB Tryz.f171 1),(2,AB Tryz.f171 2),(3,AB Tryz.f171 3)]:=by kernel_rfl
theorem AQK:AZ Tryz.prog 1 (.loop (AB Tryz.f171 0)) (C1.loop 0):=AT Hb (ACx) (AA AQG ⟨AQJ,AQI,AQH,trivial⟩)
theorem ALY:∀ v,ACy v=AL 1 Tryz.prog Q4 C1 Tryz.f171 QA P9 P8 v:=by
 rintro⟨a0,a1,a2,⟨⟩⟩
 kernel_rfl
theorem AVf:AD (AQ Tryz.f171) 0=[(0,AB Tryz.f171 0)]:=by kernel_rfl
theorem AGk:AO Tryz.prog 171 (AF 1 4 QA P9 P8 ACz):=AG Hb Tryz.func171 (by kernel_rfl) (by kernel_rfl) rfl (fun v=>(AQL v).trans (ALY v)) (AA AVf ⟨AQK,trivial⟩)
def F8:Env:=Q4.CD 171 3 164 (AF 1 4 QA P9 P8 ACz)
theorem EF:AW Tryz.prog F8:=Env.Ay Hb AGk (AH rfl rfl)
abbrev Fa:Hints:={ loop:=fun n=>match n with|0=>Aa 1 90 ADF ADC AC9|1=>Aa 1 90 ADE ADB AC8|2=>Aa 1 90 ADD ADA AC7|_=>fun _ _ _=>none,fp:=fun n=>match n with|8=>[[],[],[],[],[],[],[0],[0],[],[],[0],[0],[0],[1],[0],[1]]|3=>[[],[],[],[],[],[],[],[0],[0],[],[],[0],[0],[],[],[],[]]|5=>[[],[],[],[],[],[],[],[0],[0],[],[],[0],[0],[],[],[]]|1=>[[],[],[],[],[],[],[0],[0],[],[],[0],[0],[0],[1],[0],[1]]|_=>[] }
theorem AGp:∀ v,AC7 v=roundOf Tryz.prog F8 Fa 3 1 90 (AB Tryz.f172 2) ADD ADA v:=by
 rintro⟨a0,a1,a2,a3,⟨⟩⟩
 kernel_rfl
theorem AVi:AD (AB Tryz.f172 2) 3=[]:=by kernel_rfl
theorem AVl:AZ Tryz.prog 1 (.loop (AB Tryz.f172 2)) (Fa.loop 2):=AT EF (AGp) (AA AVi trivial)
theorem AGq:∀ v,AC8 v=roundOf Tryz.prog F8 Fa 2 1 90 (AB Tryz.f172 1) ADE ADB v:=by
 rintro⟨a0,a1,a2,a3,⟨⟩⟩
 kernel_rfl
theorem AVj:AD (AB Tryz.f172 1) 2=[]:=by kernel_rfl
theorem AVm:AZ Tryz.prog 1 (.loop (AB Tryz.f172 1)) (Fa.loop 1):=AT EF (AGq) (AA AVj trivial)
theorem AGr:∀ v,AC9 v=roundOf Tryz.prog F8 Fa 1 1 90 (AB Tryz.f172 0) ADF ADC v:=by
 rintro⟨a0,a1,a2,a3,⟨⟩⟩
 kernel_rfl
theorem AVk:AD (AB Tryz.f172 0) 1=[(1,AB Tryz.f172 1),(2,AB Tryz.f172 2)]:=by kernel_rfl
theorem AVn:AZ Tryz.prog 1 (.loop (AB Tryz.f172 0)) (Fa.loop 0):=AT EF (AGr) (AA AVk ⟨AVm,AVl,trivial⟩)
theorem AQa:∀ v,AIT v=AL 1 Tryz.prog F8 Fa Tryz.f172 VM VL VK v:=by
 rintro⟨a0,a1,a2,a3,⟨⟩⟩
 kernel_rfl
theorem AcD:AD (AQ Tryz.f172) 0=[(0,AB Tryz.f172 0)]:=by kernel_rfl
theorem ALb:AO Tryz.prog 172 (AF 1 5 VM VL VK ALc):=AG EF Tryz.func172 (by kernel_rfl) (by kernel_rfl) rfl (fun v=>(AVo v).trans (AQa v)) (AA AcD ⟨AVn,trivial⟩)
def Ev:Env:=F8.CD 172 4 164 (AF 1 5 VM VL VK ALc)
theorem DE:AW Tryz.prog Ev:=Env.Ay EF ALb (AH rfl rfl)
abbrev E1:Hints:={ loop:=fun n=>match n with|0=>Aa 1 178 AQC AP7 AP2|1=>Aa 1 178 AQB AP6 AP0|2=>Aa 1 178 AQA AP5 APy|3=>Aa 1 178 AP9 AP4 APw|4=>Aa 1 178 AP8 AP3 APu|_=>fun _ _ _=>none,fp:=fun n=>match n with|3=>[[],[],[],[],[],[],[],[0],[0],[],[],[0],[0],[],[],[]]|5=>[[],[],[],[],[],[],[],[0],[0],[],[],[0],[0],[],[],[],[]]|18=>[[],[],[],[],[],[],[0],[0],[],[],[0],[0],[0],[1],[0],[1]]|13=>[[],[],[],[],[],[],[],[0],[0],[],[],[0],[0],[],[],[]]|15=>[[],[],[],[],[],[],[],[0],[0],[],[],[0],[0],[],[],[],[]]|21=>[[],[],[],[],[],[],[0],[0],[],[],[0],[0],[0],[1],[0],[1]]|10=>[[],[],[],[],[],[],[0],[0],[],[],[0],[0],[0],[1],[0],[1]]|8=>[[],[],[],[],[],[],[0],[0],[],[],[0],[0],[0],[1],[0],[1]]|1=>[[],[],[],[],[],[],[0],[0],[],[],[0],[0],[0],[1],[0],[1]]|_=>[] }
theorem APt:∀ v,APu v=roundOf Tryz.prog Ev E1 5 1 178 (AB Tryz.f173 4) AP8 AP3 v:=by
 rintro⟨a0,a1,a2,a3,⟨⟩⟩
 kernel_rfl
theorem Af9:AD (AB Tryz.f173 4) 5=[]:=by kernel_rfl
theorem AgE:AZ Tryz.prog 1 (.loop (AB Tryz.f173 4)) (E1.loop 4):=AT DE (APt) (AA Af9 trivial)
theorem APv:∀ v,APw v=roundOf Tryz.prog Ev E1 4 1 178 (AB Tryz.f173 3) AP9 AP4 v:=by
 rintro⟨a0,a1,a2,a3,⟨⟩⟩
 kernel_rfl
theorem AgA:AD (AB Tryz.f173 3) 4=[]:=by kernel_rfl
theorem AgF:AZ Tryz.prog 1 (.loop (AB Tryz.f173 3)) (E1.loop 3):=AT DE (APv) (AA AgA trivial)
theorem APx:∀ v,APy v=roundOf Tryz.prog Ev E1 3 1 178 (AB Tryz.f173 2) AQA AP5 v:=by
 rintro⟨a0,a1,a2,a3,⟨⟩⟩
 kernel_rfl
theorem AgB:AD (AB Tryz.f173 2) 3=[(3,AB Tryz.f173 3),(4,AB Tryz.f173 4)]:=by kernel_rfl
theorem AgG:AZ Tryz.prog 1 (.loop (AB Tryz.f173 2)) (E1.loop 2):=AT DE (APx) (AA AgB ⟨AgF,AgE,trivial⟩)
theorem APz:∀ v,AP0 v=roundOf Tryz.prog Ev E1 2 1 178 (AB Tryz.f173 1) AQB AP6 v:=by
 rintro⟨a0,a1,a2,a3,⟨⟩⟩
 kernel_rfl
theorem AgC:AD (AB Tryz.f173 1) 2=[]:=by kernel_rfl
theorem AgH:AZ Tryz.prog 1 (.loop (AB Tryz.f173 1)) (E1.loop 1):=AT DE (APz) (AA AgC trivial)
theorem AP1:∀ v,AP2 v=roundOf Tryz.prog Ev E1 1 1 178 (AB Tryz.f173 0) AQC AP7 v:=by
 rintro⟨a0,a1,a2,a3,⟨⟩⟩
 kernel_rfl
theorem AgD:AD (AB Tryz.f173 0) 1=[]:=by kernel_rfl
theorem AgI:AZ Tryz.prog 1 (.loop (AB Tryz.f173 0)) (E1.loop 0):=AT DE (AP1) (AA AgD trivial)
theorem AcB:∀ v,AZN v=AL 1 Tryz.prog Ev E1 Tryz.f173 ALX ALW ALV v:=by
 rintro⟨a0,a1,a2,a3,⟨⟩⟩
 kernel_rfl
theorem Ajd:AD (AQ Tryz.f173) 0=[(0,AB Tryz.f173 0),(1,AB Tryz.f173 1),(2,AB Tryz.f173 2)]:=by kernel_rfl
theorem AVe:AO Tryz.prog 173 (AF 1 5 ALX ALW ALV AgK):=AG DE Tryz.func173 (by kernel_rfl) (by kernel_rfl) rfl (fun v=>(AgJ v).trans (AcB v)) (AA Ajd ⟨AgI,AgH,AgG,trivial⟩)
def ANq:Env:=Ev.CD 173 4 164 (AF 1 5 ALX ALW ALV AgK)
theorem AF2:AW Tryz.prog ANq:=Env.Ay DE AVe (AH rfl rfl)
abbrev AVZ(self:(List (List Int)×Int×Int×Int×Unit)→Option ((List (List Int)×Unit))):Hints:={ loop:=fun n=>match n with|0=>Aa 1 148 AZJ AZI (AZH self)|_=>fun _ _ _=>none,fp:=fun n=>match n with|17=>[[],[],[],[],[],[],[],[0],[0],[],[],[0],[0],[],[],[],[]]|_=>[] }
abbrev ALR(self:(List (List Int)×Int×Int×Int×Unit)→Option ((List (List Int)×Unit))):Env:=ANq.ext 165 false true (AF 1 5 ACn ACm ACl self)
theorem AVY(self:(List (List Int)×Int×Int×Int×Unit)→Option ((List (List Int)×Unit))):∀ v,AZH self v=roundOf Tryz.prog (ALR self) (AVZ self) 1 1 148 (AB Tryz.f165 0) AZJ AZI v:=by
 rintro⟨a0,a1,a2,a3,a4,a5,⟨⟩⟩
 kernel_rfl
theorem AjU:AD (AB Tryz.f165 0) 1=[]:=by kernel_rfl
theorem AjV(self:(List (List Int)×Int×Int×Int×Unit)→Option ((List (List Int)×Unit)))(hE:AW Tryz.prog (ALR self)):AZ Tryz.prog 1 (.loop (AB Tryz.f165 0)) ((AVZ self).loop 0):=AT hE (AVY self) (AA AjU trivial)
theorem Af6(self:(List (List Int)×Int×Int×Int×Unit)→Option ((List (List Int)×Unit))):∀ v,AlL self v=AL 1 Tryz.prog (ALR self) (AVZ self) Tryz.f165 ACn ACm ACl v:=by
 rintro⟨a0,a1,a2,a3,⟨⟩⟩
 kernel_rfl
theorem AlK:AD (AQ Tryz.f165) 0=[(0,AB Tryz.f165 0)]:=by kernel_rfl
theorem AVa:∀ n,AO Tryz.prog 165 (AF 1 5 ACn ACm ACl (ACo n)):=by
 intro n
 induction n with
 |zero=>exact YV fun _=>rfl
 |succ n ih=>
  have hE:AW Tryz.prog (ALR (ACo n)):=Env.Ac AF2 ih ((by simp)) (fun _=>AH rfl rfl)
  let self:=ACo n
  exact AG hE Tryz.func165 (by kernel_rfl) (by kernel_rfl) rfl (Af6 self) (AA AlK ⟨(AjV self hE),trivial⟩)
theorem Ab9:AO Tryz.prog 165 (AF 1 5 ACn ACm ACl AjX):=by
 have e:AjX=ACo 100:=funext AjW
 rw[e]
 exact AVa _
def AYb:Env:=ANq.CD 165 4 164 (AF 1 5 ACn ACm ACl AjX)
theorem AJQ:AW Tryz.prog AYb:=Env.Ay AF2 Ab9 (AH rfl rfl)
abbrev Aiy:Hints:={  }
theorem AbA:∀ v,AYq v=AL 1 Tryz.prog AYb Aiy Tryz.f163 AKZ AKY AKX v:=by
 rintro⟨a0,⟨⟩⟩
 kernel_rfl
theorem Aix:AD (AQ Tryz.f163) 0=[]:=by kernel_rfl
theorem AUA:AO Tryz.prog 163 (AF 1 2 AKZ AKY AKX AOt):=AG AJQ Tryz.func163 (by kernel_rfl) (by kernel_rfl) rfl (fun v=>(AfL v).trans (AbA v)) (AA Aix trivial)
def S1:Env:=AYb.CD 163 1 164 (AF 1 2 AKZ AKY AKX AOt)
theorem L9:AW Tryz.prog S1:=Env.Ay AJQ AUA (AH rfl rfl)
end
end Go.Pev
end
section
namespace Go.Pev
open Go.Proofs
noncomputable section
abbrev RI:Hints:={ loop:=fun n=>match n with|0=>Aa 0 47 AOH AOF He|1=>Aa 0 47 AOG AOE Hd|_=>fun _ _ _=>none }
theorem AOC:∀ v,Hd v=roundOf Tryz.prog S1 RI 2 0 47 (AB Tryz.f154 1) AOG AOE v:=by
 rintro⟨a0,a1,a2,a3,a4,a5,a6,⟨⟩⟩
 kernel_rfl
theorem AeW:AD (AB Tryz.f154 1) 2=[]:=by kernel_rfl
theorem AeY:AZ Tryz.prog 0 (.loop (AB Tryz.f154 1)) (RI.loop 1):=AT L9 (AOC) (AA AeW trivial)
theorem AOD:∀ v,He v=roundOf Tryz.prog S1 RI 1 0 47 (AB Tryz.f154 0) AOH AOF v:=by
 rintro⟨a0,a1,a2,a3,a4,a5,a6,a7,a8,⟨⟩⟩
 kernel_rfl
theorem AeX:AD (AB Tryz.f154 0) 1=[]:=by kernel_rfl
theorem AeZ:AZ Tryz.prog 0 (.loop (AB Tryz.f154 0)) (RI.loop 0):=AT L9 (AOD) (AA AeX trivial)
theorem AaX:∀ v,Zv v=AL 0 Tryz.prog S1 RI Tryz.f154 AJm AJl AJk v:=by
 rintro⟨a0,a1,a2,⟨⟩⟩
 kernel_rfl
theorem Aid:AD (AQ Tryz.f154) 0=[(0,AB Tryz.f154 0),(1,AB Tryz.f154 1)]:=by kernel_rfl
theorem ATN:AO Tryz.prog 154 (AF 0 3 AJm AJl AJk AOJ):=AG L9 Tryz.func154 (by kernel_rfl) (by kernel_rfl) rfl (fun v=>(AOI v).trans (AaX v)) (AA Aid ⟨AeZ,AeY,trivial⟩)
def ANl:Env:=S1.ext 154 true true (AF 0 3 AJm AJl AJk AOJ)
theorem AFk:AW Tryz.prog ANl:=Env.Ac L9 ATN (fun _=>AI rfl rfl) (fun _=>AH rfl rfl)
abbrev Air:Hints:={ fp:=fun n=>match n with|9=>[[],[28],[0],[0],[],[],[],[],[],[0],[0],[],[],[],[],[],[28],[28,52,36,62],[64],[]]|4=>[[0],[],[],[0],[],[],[],[]]|_=>[] }
theorem Aaw:∀ v,G5 v=AL 0 Tryz.prog ANl Air Tryz.f131 AKI AKH AKG v:=by
 rintro⟨a0,a1,a2,⟨⟩⟩
 kernel_rfl
theorem Aiq:AD (AQ Tryz.f131) 0=[]:=by kernel_rfl
theorem ATn:AO Tryz.prog 131 (AF 0 3 AKI AKH AKG Mo):=AG AFk Tryz.func131 (by kernel_rfl) (by kernel_rfl) rfl (fun v=>(Hm v).trans (Aaw v)) (AA Aiq trivial)
def ANm:Env:=ANl.ext 131 true true (AF 0 3 AKI AKH AKG Mo)
theorem AFr:AW Tryz.prog ANm:=Env.Ac AFk ATn (fun _=>AI rfl rfl) (fun _=>AH rfl rfl)
theorem AfA:Tryz.f158.body.isSome=true:=by kernel_rfl
theorem Ae9 : (Tryz.f158.name == "runtime.NumGoroutine") = false := by kernel_rfl
theorem Ae8:loops (AQ Tryz.f158)=0:=by kernel_rfl
def L6:Env:=ANm.ext 158 false false (DJ Tryz.prog ANm {} Tryz.f158)
theorem J1:AW Tryz.prog L6:=Env.Ac AFr (Cs AFr Tryz.func158 AfA Ae9 Ae8) (by simp) (by simp)
abbrev Ft:Hints:={ loop:=fun n=>match n with|0=>Aa 1 19 I4 I3 Bj|_=>fun _ _ _=>none }
theorem NW:∀ v,Bj v=roundOf Tryz.prog L6 Ft 1 1 19 (AB Tryz.f91 0) I4 I3 v:=by
 rintro⟨a0,a1,a2,a3,a4,⟨⟩⟩
 kernel_rfl
theorem SA:AD (AB Tryz.f91 0) 1=[]:=by kernel_rfl
theorem SB:AZ Tryz.prog 1 (.loop (AB Tryz.f91 0)) (Ft.loop 0):=AT J1 (NW) (AA SA trivial)
theorem QZ:∀ v,Dz v=AL 1 Tryz.prog L6 Ft Tryz.f91 Fs Fq Fp v:=by
 rintro⟨a0,a1,a2,⟨⟩⟩
 kernel_rfl
theorem WY:AD (AQ Tryz.f91) 0=[(0,AB Tryz.f91 0)]:=by kernel_rfl
theorem PB:AO Tryz.prog 91 (AF 1 2 Fs Fq Fp E8):=AG J1 Tryz.func91 (by kernel_rfl) (by kernel_rfl) rfl (fun v=>(I5 v).trans (QZ v)) (AA WY ⟨SB,trivial⟩)
def GC:Env:=L6.CD 91 1 158 (AF 1 2 Fs Fq Fp E8)
theorem G3:AW Tryz.prog GC:=Env.Ay J1 PB (AH rfl rfl)
abbrev Sb:Hints:={  }
theorem PC:∀ v,DU v=AL 1 Tryz.prog GC Sb Tryz.f73 FI FH FG v:=by
 rintro⟨a0,a1,a2,⟨⟩⟩
 kernel_rfl
theorem Sa:AD (AQ Tryz.f73) 0=[]:=by kernel_rfl
theorem No:AO Tryz.prog 73 (AF 1 2 FI FH FG DK):=AG G3 Tryz.func73 (by kernel_rfl) (by kernel_rfl) rfl (fun v=>(IL v).trans (PC v)) (AA Sa trivial)
def FO:Env:=GC.CD 73 1 158 (AF 1 2 FI FH FG DK)
theorem Gn:AW Tryz.prog FO:=Env.Ay G3 No (AH rfl rfl)
abbrev Ahi:Hints:={  }
theorem AXP:∀ v,SO v=AL 0 Tryz.prog FO Ahi Tryz.f148 AEX AEW AEV v:=by
 rintro⟨a0,a1,⟨⟩⟩
 kernel_rfl
theorem Ahh:AD (AQ Tryz.f148) 0=[]:=by kernel_rfl
theorem AR8:AO Tryz.prog 148 (AF 0 2 AEX AEW AEV Qb):=AG Gn Tryz.func148 (by kernel_rfl) (by kernel_rfl) rfl (fun v=>(AIz v).trans (AXP v)) (AA Ahh trivial)
def TO:Env:=FO.ext 148 true true (AF 0 2 AEX AEW AEV Qb)
theorem N9:AW Tryz.prog TO:=Env.Ac Gn AR8 (fun _=>AI rfl rfl) (fun _=>AH rfl rfl)
abbrev AXh:Hints:={ loop:=fun n=>match n with|0=>Aa 0 21 AZ4 AZ3 Ll|_=>fun _ _ _=>none }
theorem AXd:∀ v,Ll v=roundOf Tryz.prog TO AXh 1 0 21 (AB Tryz.f149 0) AZ4 AZ3 v:=by
 rintro⟨a0,a1,a2,a3,⟨⟩⟩
 kernel_rfl
theorem AkL:AD (AB Tryz.f149 0) 1=[]:=by kernel_rfl
theorem AkM:AZ Tryz.prog 0 (.loop (AB Tryz.f149 0)) (AXh.loop 0):=AT N9 (AXd) (AA AkL trivial)
theorem Ahz:∀ v,AMu v=AL 0 Tryz.prog TO AXh Tryz.f149 AXg AXf AXe v:=by
 rintro⟨a0,⟨⟩⟩
 kernel_rfl
theorem Alk:AD (AQ Tryz.f149) 0=[(0,AB Tryz.f149 0)]:=by kernel_rfl
theorem Adl:AO Tryz.prog 149 (AF 0 1 AXg AXf AXe ends):=AG N9 Tryz.func149 (by kernel_rfl) (by kernel_rfl) rfl (fun v=>(AZ5 v).trans (Ahz v)) (AA Alk ⟨AkM,trivial⟩)
def ANy:Env:=TO.ext 149 true true (AF 0 1 AXg AXf AXe ends)
theorem Xi:AW Tryz.prog ANy:=Env.Ac N9 Adl (fun _=>AI rfl rfl) (fun _=>AH rfl rfl)
abbrev Qm:Hints:={ loop:=fun n=>match n with|0=>Aa 0 48 Yj Yi By|_=>fun _ _ _=>none,fp:=fun n=>match n with|1=>[[0],[],[],[4],[]]|_=>[] }
theorem AEr:∀ v,By v=roundOf Tryz.prog ANy Qm 1 0 48 (AB Tryz.f130 0) Yj Yi v:=by
 rintro⟨a0,a1,a2,a3,a4,a5,a6,⟨⟩⟩
 kernel_rfl
theorem ASQ:AD (AB Tryz.f130 0) 1=[]:=by kernel_rfl
theorem ASR:AZ Tryz.prog 0 (.loop (AB Tryz.f130 0)) (Qm.loop 0):=AT Xi (AEr) (AA ASQ trivial)
theorem AMv:∀ v,II v=AL 0 Tryz.prog ANy Qm Tryz.f130 Ql Qk Qj v:=by
 rintro⟨a0,a1,⟨⟩⟩
 kernel_rfl
theorem AXi:AD (AQ Tryz.f130) 0=[(0,AB Tryz.f130 0)]:=by kernel_rfl
theorem AHF:AO Tryz.prog 130 (AF 0 3 Ql Qk Qj SW):=AG Xi Tryz.func130 (by kernel_rfl) (by kernel_rfl) rfl (fun v=>(Nh v).trans (AMv v)) (AA AXi ⟨ASR,trivial⟩)
def Q9:Env:=ANy.CD 130 2 131 (AF 0 3 Ql Qk Qj SW)
theorem Pb:AW Tryz.prog Q9:=Env.Ay Xi AHF (AH rfl rfl)
abbrev Ahs:Hints:={  }
theorem AXV:∀ v,Nc v=AL 0 Tryz.prog Q9 Ahs Tryz.f108 AEd AEc AEb v:=by
 rintro⟨a0,a1,⟨⟩⟩
 kernel_rfl
theorem Ahr:AD (AQ Tryz.f108) 0=[]:=by kernel_rfl
theorem ASD:AO Tryz.prog 108 (AF 0 2 AEd AEc AEb AMn):=AG Pb Tryz.func108 (by kernel_rfl) (by kernel_rfl) rfl (fun v=>(Wj v).trans (AXV v)) (AA Ahr trivial)
def AGB:Env:=Q9.ext 108 true true (AF 0 2 AEd AEc AEb AMn)
theorem ZA:AW Tryz.prog AGB:=Env.Ac Pb ASD (fun _=>AI rfl rfl) (fun _=>AH rfl rfl)
abbrev AmB:Hints:={  }
theorem AkI:∀ v,ASC v=AL 0 Tryz.prog AGB AmB Tryz.f83 Ahq Ahp Aho v:=by
 rintro⟨a0,a1,⟨⟩⟩
 kernel_rfl
theorem AmA:AD (AQ Tryz.f83) 0=[]:=by kernel_rfl
theorem Ahn:AO Tryz.prog 83 (AF 0 2 Ahq Ahp Aho fof):=AG ZA Tryz.func83 (by kernel_rfl) (by kernel_rfl) rfl (fun v=>(AXU v).trans (AkI v)) (AA AmA trivial)
def AaM:Env:=AGB.ext 83 true true (AF 0 2 Ahq Ahp Aho fof)
theorem AGA:AW Tryz.prog AaM:=Env.Ac ZA Ahn (fun _=>AI rfl rfl) (fun _=>AH rfl rfl)
abbrev Agj:Hints:={ loop:=fun n=>match n with|0=>Aa 0 18 Agh Agf Fc|_=>fun _ _ _=>none }
theorem AcN:∀ v,Fc v=roundOf Tryz.prog AaM Agj 1 0 18 (AB Tryz.f61 0) Agh Agf v:=by
 rintro⟨a0,a1,a2,a3,⟨⟩⟩
 kernel_rfl
theorem AlO:AD (AB Tryz.f61 0) 1=[]:=by kernel_rfl
theorem AlP:AZ Tryz.prog 0 (.loop (AB Tryz.f61 0)) (Agj.loop 0):=AT AGA (AcN) (AA AlO trivial)
theorem Ajj:∀ v,AIc v=AL 0 Tryz.prog AaM Agj Tryz.f61 Agi Agg Age v:=by
 rintro⟨a0,⟨⟩⟩
 kernel_rfl
theorem Al6:AD (AQ Tryz.f61) 0=[(0,AB Tryz.f61 0)]:=by kernel_rfl
theorem Agd:AO Tryz.prog 61 (AF 0 1 Agi Agg Age orI):=AG AGA Tryz.func61 (by kernel_rfl) (by kernel_rfl) rfl (fun v=>(ALr v).trans (Ajj v)) (AA Al6 ⟨AlP,trivial⟩)
def AiX:Env:=AaM.ext 61 true true (AF 0 1 Agi Agg Age orI)
theorem ATD:AW Tryz.prog AiX:=Env.Ac AGA Agd (fun _=>AI rfl rfl) (fun _=>AH rfl rfl)
abbrev Ag0:Hints:={  }
theorem AWi:∀ v,NP v=AL 0 Tryz.prog AiX Ag0 Tryz.f104 ADj ADi ADh v:=by
 rintro⟨a0,⟨⟩⟩
 kernel_rfl
theorem Agz:AD (AQ Tryz.f104) 0=[]:=by kernel_rfl
theorem ARQ:AO Tryz.prog 104 (AF 0 1 ADj ADi ADh WE):=AG ATD Tryz.func104 (by kernel_rfl) (by kernel_rfl) rfl (fun v=>(WD v).trans (AWi v)) (AA Agz trivial)
def AF6:Env:=AiX.ext 104 true true (AF 0 1 ADj ADi ADh WE)
theorem Y7:AW Tryz.prog AF6:=Env.Ac ATD ARQ (fun _=>AI rfl rfl) (fun _=>AH rfl rfl)
end
end Go.Pev
end
section
namespace Go.Pev
open Go.Proofs
noncomputable section
abbrev Ala:Hints:={  }
theorem Agy:∀ v,AWh v=AL 0 Tryz.prog AF6 Ala Tryz.f105 AWg AWf AWe v:=by
 rintro⟨a0,⟨⟩⟩
 kernel_rfl
theorem AlZ:AD (AQ Tryz.f105) 0=[]:=by kernel_rfl
theorem Acr:AO Tryz.prog 105 (AF 0 1 AWg AWf AWe AME):=AG Y7 Tryz.func105 (by kernel_rfl) (by kernel_rfl) rfl (fun v=>(Ajs v).trans (Agy v)) (AA AlZ trivial)
def AYg:Env:=AF6.ext 105 true true (AF 0 1 AWg AWf AWe AME)
theorem AJV:AW Tryz.prog AYg:=Env.Ac Y7 Acr (fun _=>AI rfl rfl) (fun _=>AH rfl rfl)
abbrev AWu:Hints:={ fp:=fun n=>match n with|1=>[[0],[0],[2],[2],[],[0],[0],[2],[2],[],[],[20],[]]|_=>[] }
theorem AMO:∀ v,LR v=AL 0 Tryz.prog AYg AWu Tryz.f106 QQ QP QO v:=by
 rintro⟨a0,a1,⟨⟩⟩
 kernel_rfl
theorem AWt:AD (AQ Tryz.f106) 0=[]:=by kernel_rfl
theorem AG4:AO Tryz.prog 106 (AF 0 2 QQ QP QO KS):=AG AJV Tryz.func106 (by kernel_rfl) (by kernel_rfl) rfl (fun v=>(Ya v).trans (AMO v)) (AA AWt trivial)
def ML:Env:=AYg.ext 106 true true (AF 0 2 QQ QP QO KS)
theorem J3:AW Tryz.prog ML:=Env.Ac AJV AG4 (fun _=>AI rfl rfl) (fun _=>AH rfl rfl)
abbrev ADg:Hints:={ loop:=fun n=>match n with|0=>Aa 0 33 AIl AIk Cm|_=>fun _ _ _=>none }
theorem AMD:∀ v,Cm v=roundOf Tryz.prog ML ADg 1 0 33 (AB Tryz.f84 0) AIl AIk v:=by
 rintro⟨a0,a1,a2,a3,a4,⟨⟩⟩
 kernel_rfl
theorem Acp:AD (AB Tryz.f84 0) 1=[]:=by kernel_rfl
theorem Acq:AZ Tryz.prog 0 (.loop (AB Tryz.f84 0)) (ADg.loop 0):=AT J3 (AMD) (AA Acp trivial)
theorem AWd:∀ v,NO v=AL 0 Tryz.prog ML ADg Tryz.f84 ADf ADe ADd v:=by
 rintro⟨a0,a1,⟨⟩⟩
 kernel_rfl
theorem Agx:AD (AQ Tryz.f84) 0=[(0,AB Tryz.f84 0)]:=by kernel_rfl
theorem ARM:AO Tryz.prog 84 (AF 0 2 ADf ADe ADd QM):=AG J3 Tryz.func84 (by kernel_rfl) (by kernel_rfl) rfl (fun v=>(WC v).trans (AWd v)) (AA Agx ⟨Acq,trivial⟩)
def TJ:Env:=ML.ext 84 true true (AF 0 2 ADf ADe ADd QM)
theorem N7:AW Tryz.prog TJ:=Env.Ac J3 ARM (fun _=>AI rfl rfl) (fun _=>AH rfl rfl)
abbrev ADn:Hints:={ loop:=fun n=>match n with|0=>Aa 0 96 AIn AIm Du|_=>fun _ _ _=>none,fp:=fun n=>match n with|7=>[[2],[2],[],[],[2],[2],[2],[2],[],[],[],[2],[2],[0],[0],[],[],[],[2],[2],[],[],[],[2],[2],[],[],[],[],[],[],[],[0],[0],[],[],[],[],[2],[],[],[],[]]|_=>[] }
theorem AMF:∀ v,Du v=roundOf Tryz.prog TJ ADn 1 0 96 (AB Tryz.f82 0) AIn AIm v:=by
 rintro⟨a0,a1,a2,a3,a4,a5,⟨⟩⟩
 kernel_rfl
theorem Acs:AD (AB Tryz.f82 0) 1=[]:=by kernel_rfl
theorem Acu:AZ Tryz.prog 0 (.loop (AB Tryz.f82 0)) (ADn.loop 0):=AT N7 (AMF) (AA Acs trivial)
theorem AWj:∀ v,H4 v=AL 0 Tryz.prog TJ ADn Tryz.f82 ADm ADl ADk v:=by
 rintro⟨a0,⟨⟩⟩
 kernel_rfl
theorem Ag1:AD (AQ Tryz.f82) 0=[(0,AB Tryz.f82 0)]:=by kernel_rfl
theorem ARR:AO Tryz.prog 82 (AF 0 1 ADm ADl ADk LM):=AG N7 Tryz.func82 (by kernel_rfl) (by kernel_rfl) rfl (fun v=>(KQ v).trans (AWj v)) (AA Ag1 ⟨Acu,trivial⟩)
def Ke:Env:=TJ.ext 82 true true (AF 0 1 ADm ADl ADk LM)
theorem Gm:AW Tryz.prog Ke:=Env.Ac N7 ARR (fun _=>AI rfl rfl) (fun _=>AH rfl rfl)
abbrev Dk:Hints:={ loop:=fun n=>match n with|0=>Aa 0 83 Sk Sh DB|1=>Aa 0 83 Sj Sg D1|2=>Aa 0 83 Si Sf DA|_=>fun _ _ _=>none,fp:=fun n=>match n with|14=>[[],[],[0],[0],[],[],[0],[0],[],[]]|13=>[[],[],[],[],[],[],[],[],[],[],[],[],[],[],[],[],[],[],[],[0],[0],[],[],[0],[0],[],[]]|12=>[[],[],[],[],[],[],[],[],[],[],[],[]]|_=>[] }
theorem Zi:∀ v,DA v=roundOf Tryz.prog Ke Dk 3 0 83 (AB Tryz.f49 2) Si Sf v:=by
 rintro⟨a0,a1,a2,a3,a4,⟨⟩⟩
 kernel_rfl
theorem AM8:AD (AB Tryz.f49 2) 3=[]:=by kernel_rfl
theorem ANB:AZ Tryz.prog 0 (.loop (AB Tryz.f49 2)) (Dk.loop 2):=AT Gm (Zi) (AA AM8 trivial)
theorem Zj:∀ v,D1 v=roundOf Tryz.prog Ke Dk 2 0 83 (AB Tryz.f49 1) Sj Sg v:=by
 rintro⟨a0,a1,a2,a3,⟨⟩⟩
 kernel_rfl
theorem AM9:AD (AB Tryz.f49 1) 2=[(2,AB Tryz.f49 2)]:=by kernel_rfl
theorem ANC:AZ Tryz.prog 0 (.loop (AB Tryz.f49 1)) (Dk.loop 1):=AT Gm (Zj) (AA AM9 ⟨ANB,trivial⟩)
theorem Zk:∀ v,DB v=roundOf Tryz.prog Ke Dk 1 0 83 (AB Tryz.f49 0) Sk Sh v:=by
 rintro⟨a0,a1,a2,a3,⟨⟩⟩
 kernel_rfl
theorem ANA:AD (AB Tryz.f49 0) 1=[]:=by kernel_rfl
theorem AND:AZ Tryz.prog 0 (.loop (AB Tryz.f49 0)) (Dk.loop 0):=AT Gm (Zk) (AA ANA trivial)
theorem AHP:∀ v,JI v=AL 0 Tryz.prog Ke Dk Tryz.f49 Ns Nr Nq v:=by
 rintro⟨a0,a1,⟨⟩⟩
 kernel_rfl
theorem ASe:AD (AQ Tryz.f49) 0=[(0,AB Tryz.f49 0),(1,AB Tryz.f49 1)]:=by kernel_rfl
theorem AFF:AO Tryz.prog 49 (AF 0 2 Ns Nr Nq HW):=AG Gm Tryz.func49 (by kernel_rfl) (by kernel_rfl) rfl (fun v=>(Sl v).trans (AHP v)) (AA ASe ⟨AND,ANC,trivial⟩)
def JU:Env:=Ke.ext 49 true true (AF 0 2 Ns Nr Nq HW)
theorem Ij:AW Tryz.prog JU:=Env.Ac Gm AFF (fun _=>AI rfl rfl) (fun _=>AH rfl rfl)
abbrev AJ8:Hints:={ loop:=fun n=>match n with|0=>Aa 0 20 AOc AOb ABA|_=>fun _ _ _=>none }
theorem AOa:∀ v,ABA v=roundOf Tryz.prog JU AJ8 1 0 20 (AB Tryz.f52 0) AOc AOb v:=by
 rintro⟨a0,a1,⟨⟩⟩
 kernel_rfl
theorem Aes:AD (AB Tryz.f52 0) 1=[]:=by kernel_rfl
theorem Aet:AZ Tryz.prog 0 (.loop (AB Tryz.f52 0)) (AJ8.loop 0):=AT Ij (AOa) (AA Aes trivial)
theorem Aas:∀ v,AJ9 v=AL 0 Tryz.prog JU AJ8 Tryz.f52 AJ7 AJ6 AJ5 v:=by
 rintro⟨a0,⟨⟩⟩
 kernel_rfl
theorem Ail:AD (AQ Tryz.f52) 0=[(0,AB Tryz.f52 0)]:=by kernel_rfl
theorem ATk:AO Tryz.prog 52 (AF 0 1 AJ7 AJ6 AJ5 PG):=AG Ij Tryz.func52 (by kernel_rfl) (by kernel_rfl) rfl (fun v=>(Aeu v).trans (Aas v)) (AA Ail ⟨Aet,trivial⟩)
def Sx:Env:=JU.ext 52 true true (AF 0 1 AJ7 AJ6 AJ5 PG)
theorem L5:AW Tryz.prog Sx:=Env.Ac Ij ATk (fun _=>AI rfl rfl) (fun _=>AH rfl rfl)
abbrev KF:Hints:={ loop:=fun n=>match n with|0=>Aa 0 138 AB1 ABz Cx|1=>Aa 0 138 AB0 ABy Da|_=>fun _ _ _=>none,fp:=fun n=>match n with|10=>[[],[],[],[0],[0],[],[],[],[],[],[4],[4],[],[],[0],[0],[],[],[],[],[],[4],[4],[],[],[0],[0],[],[],[],[],[],[4],[4],[],[],[],[]]|8=>[[4],[4],[],[],[4],[4],[4],[4],[],[],[],[4],[4],[0],[0],[],[],[],[4],[4],[],[],[],[4],[4],[0],[0],[],[],[]]|_=>[] }
theorem AGY:∀ v,Da v=roundOf Tryz.prog Sx KF 2 0 138 (AB Tryz.f48 1) AB0 ABy v:=by
 rintro⟨a0,a1,a2,a3,a4,a5,⟨⟩⟩
 kernel_rfl
theorem AUj:AD (AB Tryz.f48 1) 2=[]:=by kernel_rfl
theorem AUl:AZ Tryz.prog 0 (.loop (AB Tryz.f48 1)) (KF.loop 1):=AT L5 (AGY) (AA AUj trivial)
theorem AGZ:∀ v,Cx v=roundOf Tryz.prog Sx KF 1 0 138 (AB Tryz.f48 0) AB1 ABz v:=by
 rintro⟨a0,a1,a2,a3,⟨⟩⟩
 kernel_rfl
theorem AUk:AD (AB Tryz.f48 0) 1=[]:=by kernel_rfl
theorem AUm:AZ Tryz.prog 0 (.loop (AB Tryz.f48 0)) (KF.loop 0):=AT L5 (AGZ) (AA AUk trivial)
theorem APU:∀ v,Eg v=AL 0 Tryz.prog Sx KF Tryz.f48 UL UK UJ v:=by
 rintro⟨a0,⟨⟩⟩
 kernel_rfl
theorem Abg:AD (AQ Tryz.f48) 0=[(0,AB Tryz.f48 0),(1,AB Tryz.f48 1)]:=by kernel_rfl
theorem AK3:AO Tryz.prog 48 (AF 0 1 UL UK UJ E0):=AG L5 Tryz.func48 (by kernel_rfl) (by kernel_rfl) rfl (fun v=>(FX v).trans (APU v)) (AA Abg ⟨AUm,AUl,trivial⟩)
def XT:Env:=Sx.ext 48 true true (AF 0 1 UL UK UJ E0)
theorem S8:AW Tryz.prog XT:=Env.Ac L5 AK3 (fun _=>AI rfl rfl) (fun _=>AH rfl rfl)
abbrev Alh:Hints:={  }
theorem AhK:∀ v,AMS v=AL 0 Tryz.prog XT Alh Tryz.f94 AXE AXD AXC v:=by
 rintro⟨a0,a1,⟨⟩⟩
 kernel_rfl
theorem Alg:AD (AQ Tryz.f94) 0=[]:=by kernel_rfl
theorem AdD:AO Tryz.prog 94 (AF 0 2 AXE AXD AXC AED):=AG S8 Tryz.func94 (by kernel_rfl) (by kernel_rfl) rfl (fun v=>(AZp v).trans (AhK v)) (AA Alg trivial)
def AYh:Env:=XT.ext 94 true true (AF 0 2 AXE AXD AXC AED)
theorem AJW:AW Tryz.prog AYh:=Env.Ac S8 AdD (fun _=>AI rfl rfl) (fun _=>AH rfl rfl)
abbrev Aau:Hints:={ fp:=fun n=>match n with|5=>[[],[],[],[],[],[],[],[],[],[],[],[]]|_=>[] }
theorem AOd:∀ v,OI v=AL 0 Tryz.prog AYh Aau Tryz.f142 Tt Ts Tr v:=by
 rintro⟨a0,a1,⟨⟩⟩
 kernel_rfl
theorem Aat:AD (AQ Tryz.f142) 0=[]:=by kernel_rfl
theorem AKA:AO Tryz.prog 142 (AF 0 2 Tt Ts Tr OJ):=AG AJW Tryz.func142 (by kernel_rfl) (by kernel_rfl) rfl (fun v=>(ABB v).trans (AOd v)) (AA Aat trivial)
def XR:Env:=AYh.ext 142 true true (AF 0 2 Tt Ts Tr OJ)
theorem Sy:AW Tryz.prog XR:=Env.Ac AJW AKA (fun _=>AI rfl rfl) (fun _=>AH rfl rfl)
abbrev Akb:Hints:={  }
theorem AeI:∀ v,AAH v=AL 0 Tryz.prog XR Akb Tryz.f143 ANZ ANY ANX v:=by
 rintro⟨a0,a1,a2,⟨⟩⟩
 kernel_rfl
theorem Aka:AD (AQ Tryz.f143) 0=[]:=by kernel_rfl
theorem AYN:AO Tryz.prog 143 (AF 0 3 ANZ ANY ANX AFZ):=AG Sy Tryz.func143 (by kernel_rfl) (by kernel_rfl) rfl (fun v=>(ASy v).trans (AeI v)) (AA Aka trivial)
def AAM:Env:=XR.ext 143 true true (AF 0 3 ANZ ANY ANX AFZ)
theorem RB:AW Tryz.prog AAM:=Env.Ac Sy AYN (fun _=>AI rfl rfl) (fun _=>AH rfl rfl)
abbrev ADc:Hints:={ loop:=fun n=>match n with|0=>Aa 0 28 AIi AIh Ff|_=>fun _ _ _=>none }
theorem AMC:∀ v,Ff v=roundOf Tryz.prog AAM ADc 1 0 28 (AB Tryz.f125 0) AIi AIh v:=by
 rintro⟨a0,a1,a2,a3,a4,⟨⟩⟩
 kernel_rfl
theorem Acm:AD (AB Tryz.f125 0) 1=[]:=by kernel_rfl
theorem Acn:AZ Tryz.prog 0 (.loop (AB Tryz.f125 0)) (ADc.loop 0):=AT RB (AMC) (AA Acm trivial)
theorem AWa:∀ v,Rx v=AL 0 Tryz.prog AAM ADc Tryz.f125 ADb ADa ADZ v:=by
 rintro⟨a0,⟨⟩⟩
 kernel_rfl
theorem Agw:AD (AQ Tryz.f125) 0=[(0,AB Tryz.f125 0)]:=by kernel_rfl
theorem ARK:AO Tryz.prog 125 (AF 0 1 ADb ADa ADZ WB):=AG RB Tryz.func125 (by kernel_rfl) (by kernel_rfl) rfl (fun v=>(AIj v).trans (AWa v)) (AA Agw ⟨Acn,trivial⟩)
def AF5:Env:=AAM.ext 125 true true (AF 0 1 ADb ADa ADZ WB)
theorem Y6:AW Tryz.prog AF5:=Env.Ac RB ARK (fun _=>AI rfl rfl) (fun _=>AH rfl rfl)
abbrev AT1:Hints:={  }
theorem AKP:∀ v,Ku v=AL 0 Tryz.prog AF5 AT1 Tryz.f144 Pq Pp Po v:=by
 rintro⟨a0,a1,a2,⟨⟩⟩
 kernel_rfl
theorem AT0:AD (AQ Tryz.f144) 0=[]:=by kernel_rfl
theorem AGQ:AO Tryz.prog 144 (AF 0 3 Pq Pp Po Mq):=AG Y6 Tryz.func144 (by kernel_rfl) (by kernel_rfl) rfl (fun v=>(Xu v).trans (AKP v)) (AA AT0 trivial)
def F6:Env:=AF5.ext 144 true true (AF 0 3 Pq Pp Po Mq)
theorem EE:AW Tryz.prog F6:=Env.Ac Y6 AGQ (fun _=>AI rfl rfl) (fun _=>AH rfl rfl)
end
end Go.Pev
end
