/- A part of the proofs of this seat: DKD T22a T21a T23a T23b T24a PlnC DKE DKF DKG DKH DU24a DU24b DU24c DU24d DU23a DU23b DU23c DU23d DU23e T24b DU24f DU24g DU24h DU24i DU24j DU24k DU24l DU24m DU24n PlnD DU21a DU21b DU23f DU23g PlnE DU23h DU23i DU21c DU21d DU21e DU23j DU23k DU24e DU21f DU23l U29a U29b U29c U29d U29e PevClip G29bP1 G29bP2 G29bP3 G29bP4 G29bP5 G29bP6. -/
import Derived.Test.YtfojmhgomdbpfaaGreatDoorPe310f320c5
import Derived.KernelRfl
import Derived.Test.YtfojmhgomdbpfaaGreatDoorProg
set_option linter.unusedVariables false
set_option linter.unusedSimpArgs false
set_option linter.unusedSectionVars false
set_option maxRecDepth 100000
section
section
namespace Go.Pev.Pl
open Tok
def Cp{α:Type}(P:Nat→Bool):Nat→List α→List α
 |_,[]=>[]
 |i,x::xs=>if P i then Cp P (i+1) xs else x::Cp P (i+1) xs
theorem AMb{α:Type}(P:Nat→Bool):∀ (xs:List α) (s:Nat),(∀ k,s≤k→P k=false)→Cp P s xs=xs:=by
 intro xs
 induction xs with
 |nil=>intro s _;rfl
 |cons x xs ih=>
  intro s h
  rw[Cp,h s (Aez _),ih (s+1) fun k hk=>h k (by omega)]
  rfl
theorem ARH{α:Type}(P:Nat→Bool)(i:Nat):∀ (xs:List α) (s:Nat),s≤i→(∀ k,s≤k→P k=decide (k=i))→Cp P s xs=xs.eraseIdx (i-s):=by
 intro xs
 induction xs with
 |nil=>intro s _ _;rfl
 |cons x xs ih=>
  intro s hs h
  rw[Cp,h s (Aez _)]
  by_cases e:s=i
  ·subst e
   rw[AMb P xs (s+1) fun k hk=>by rw[h k (by omega)];simp;omega]
   simp
  ·rw[ih (s+1) (by omega) fun k hk=>h k (by omega)]
   rw[Aeo e,Ae3 (by simp),show i-s=(i-(s+1))+1 by omega,AhF]
theorem K6{α:Type}(P:Nat→Bool)(i j:Nat)(hij:i<j):∀ (xs:List α) (s:Nat),s≤i→(∀ k,s≤k→P k=decide (k=i∨k=j))→Cp P s xs=(xs.eraseIdx (j-s)).eraseIdx (i-s):=by
 intro xs
 induction xs with
 |nil=>intro s _ _;rfl
 |cons x xs ih=>
  intro s hs h
  rw[Cp,h s (Aez _)]
  by_cases e:s=i
  ·subst e
   rw[ARH P j xs (s+1) (by omega) fun k hk=>by rw[h k (by omega)];exact Af3.2 ⟨fun q=>by omega,fun q=>.inr q⟩]
   rw[Aeq (.inl rfl),Ae6 rfl,show j-s=(j-(s+1))+1 by omega,AhF,Aga,List.eraseIdx_zero]
   rfl
  ·rw[ih (s+1) (by omega) fun k hk=>h k (by omega)]
   rw[Aeo (by omega),Ae3 (by simp),show j-s=(j-(s+1))+1 by omega,AhF,show i-s=(i-(s+1))+1 by omega,AhF]
theorem AMc{α:Type}(P:Nat→Bool):∀ (xs:List α) (acc:List α) (k:Nat),(xs.foldl (fun(a:List α×Nat) x=>(if P a.2 then a.1 else a.1++[x],a.2+1)) (acc,k)).1=acc++Cp P k xs:=by
 intro xs
 induction xs with
 |nil=>intro acc k;simp[Cp]
 |cons x xs ih=>
  intro acc k
  rw[Afj,ih,Cp]
  cases P k<;>simp
theorem ARI{α:Type}(P:Nat→Bool):∀ (xs:List α) (k:Nat),(Cp P k xs).length≤xs.length∧∀ x∈Cp P k xs,x∈xs:=by
 intro xs
 induction xs with
 |nil=>intro k;simp[Cp]
 |cons x xs ih=>
  intro k
  obtain⟨h1,h2⟩:=ih (k+1)
  rw[Cp]
  split
  ·exact⟨by simp only[Aex];omega,fun y hy=>AfF _ (h2 y hy)⟩
  ·refine⟨by simp only[Aex];omega,fun y hy => ?_⟩
   rcases Aew.1 hy with rfl|hy
   ·simp
   ·exact AfF _ (h2 y hy)
theorem ADE(n:Int)(rings:List (List Int))(away:List Int)(come:List (List Int))(hlen:rings.length<1073741824)(ha:away.length<1073741824)(hc:come.length<1073741824)
  (hne:∀ l∈rings,l≠[]) (hce:∀ r∈come,plain r≠[]) :
  ∃ ys,AIz ((n,(rings,())),away,come,())=some (n,ys,())∧ys.Perm (Cp (fun k=>decide ((k:Int)∈away)) 0 rings++come.map plain)∧ys.Pairwise (fun a b=>¬ hd b<hd a):=by
 rw[AIy,Wv]
 have e:=DO (step:=HG) (fun i (a:List (List Int)×Nat)=>(away,come,n,rings,(0:Int),a.1,rings,AH rings,(i:Int),())) rings
  (fun x a=>.inl (if decide ((a.2:Int)∈away)then a.1 else a.1++[x],a.2+1)) (fun a=>.inl (come,n,rings,(0:Int),a.1,())) (fun i a=>a.2=i∧a.1.length≤i) (by omega)
  (fun i x a hi hx ⟨h1,h2⟩=>by
   refine⟨fun m' h' => ?_,fun r h'=>by cases h'⟩
   cases h'
   subst h1
   rw[HG,AL,AN,Aeq hi]
   simp only[Aj hx,JU away _ (show away.length<9223372036854775808 by omega)]
   rw[AP (by omega),Be (by simp only[AL,Aex,AfI];omega)]
   by_cases h:(a.2:Int)∈away
   ·simp only[h,Ae2,Ae0,AfS]
    exact⟨by trivial,by trivial,by omega⟩
   ·simp only[h,AfG,AfT]
    exact⟨by trivial,by trivial,by simp;omega⟩)
  (fun a _=>by rw[HG,AL,AN,Aeo (by omega)]) ([],0) ⟨rfl,by simp⟩
 have e':AU HG many (away,come,n,rings,(0:Int),[],rings,AH rings,(0:Int),())=_:=e
 rw[e',BZ]
 have hdf:(rings.foldl (fun(a:List (List Int)×Nat) x=>(if decide ((a.2:Int)∈away)then a.1 else a.1++[x],a.2+1)) ([],0)).1=Cp (fun k=>decide ((k:Int)∈away)) 0 rings:=by
  have:=AMc (fun k=>decide ((k:Int)∈away)) rings [] 0
  rw[AfQ]at this
  exact this
 simp only[hdf]
 obtain⟨g1,g2⟩:=ARI (fun k=>decide ((k:Int)∈away)) rings 0
 generalize Cp (fun k=>decide ((k:Int)∈away)) 0 rings=rest at *
 have f:=DO (step:=HF) (fun i (a:List (List Int))=>(n,rings,(0:Int),a,come,AH come,(i:Int),())) come
  (fun x a=>.inl (a++[plain x])) (fun a=>.inl (n,rings,(0:Int),a,())) (fun i a=>a.length=rest.length+i) (by omega)
  (fun i x a hi hx h1=>by
   refine⟨fun m' h' => ?_,fun r h'=>by cases h'⟩
   cases h'
   rw[HF,AL,AN,Aeq hi]
   simp only[Aj hx,AOe]
   rw[AP (by omega),Be (by simp only[AL,Aex,AfI];omega)]
   exact⟨rfl,by simp;omega⟩)
  (fun a _=>by rw[HF,AL,AN,Aeo (by omega)]) rest rfl
 have f':AU HF many (n,rings,(0:Int),rest,come,AH come,(0:Int),())=_:=f
 rw[f',BZ]
 have hfold:∀ (l acc:List (List Int)),l.foldl (fun a x=>a++[plain x]) acc=acc++l.map plain:=by
  intro l
  induction l with
  |nil=>intro acc;simp
  |cons x l ih=>intro acc;rw[Afj,ih];simp
 simp only[hfold]
 obtain⟨ys,y1,y2,y3⟩:=SL.Jg (rest++come.map plain) (by simp;omega) (fun x hx=>by
  rcases Aeu.1 hx with h|h
  ·exact hne x (g2 x h)
  ·obtain⟨r,hr,rfl⟩:=AfB.1 h
   exact hce r hr)
 refine⟨ys,by simp only[y1],y2,y3.imp fun {a b} h => ?_⟩
 simp only[SL.lt,Go.Sort.ltInt,Aff]at h
 exact h
def Yo(rest:List (List Int))(p:List Int):List (List Int):=rest.take (rest.findIdx fun x => !decide (hd x<hd p))++p::rest.drop (rest.findIdx fun x => !decide (hd x<hd p))
theorem ADr(rest:List (List Int))(p:List Int):(Yo rest p).Perm (p::rest):=by
 rw[Yo]
 refine List.perm_middle.trans ?_
 rw[Afm]
theorem ASe{rest:List (List Int)}{p:List Int}(h:rest.Pairwise (fun a b=>hd a<hd b))(hne:∀ x∈rest,hd x≠hd p):(Yo rest p).Pairwise (fun a b=>hd a<hd b):=by
 rw[Yo]
 have hlt:∀ x∈rest.take (rest.findIdx fun x => !decide (hd x<hd p)),hd x<hd p:=by
  intro x hx
  obtain⟨j,hj,e⟩:=Ags.1 hx
  have:=List.not_of_lt_findIdx (p:=fun x => !decide (hd x<hd p)) (xs:=rest) (i:=j) (by omega)
  rw[e]at this
  simpa using this
 have hgt:∀ x∈rest.drop (rest.findIdx fun x => !decide (hd x<hd p)),hd p<hd x:=by
  intro x hx
  by_cases hk:(rest.findIdx fun x => !decide (hd x<hd p))<rest.length
  ·have h0:=List.findIdx_getElem (p:=fun x => !decide (hd x<hd p)) (xs:=rest) (w:=hk)
   rw[Afh hk]at hx
   have h1:¬ hd rest[rest.findIdx fun x => !decide (hd x<hd p)]<hd p:=by simpa using h0
   have h2:=hne _ (AgQ hk)
   rcases Aew.1 hx with rfl|hx
   ·omega
   ·have hpw:(rest.drop (rest.findIdx fun x => !decide (hd x<hd p))).Pairwise (fun a b=>hd a<hd b):=h.sublist (List.drop_sublist _ _)
    rw[Afh hk,Afe]at hpw
    have:=hpw.1 x hx
    omega
  ·rw[Af0 (by omega)]at hx
   cases hx
 rw[AhY,Afe]
 refine⟨h.sublist (List.take_sublist _ _),⟨hgt,h.sublist (List.drop_sublist _ _)⟩,fun a ha b hb => ?_⟩
 rcases Aew.1 hb with rfl|hb
 ·exact hlt a ha
 ·have:=hlt a ha
  have:=hgt b hb
  omega
theorem ATH{l:List Int}(h:l≠[]):idx l (0:Int)=some (hd l):=by
 cases l with
 |nil=>exact absurd rfl h
 |cons x l=>rw[GL];rfl
theorem AaW(l:List Int):AX l 0 (0:Int)=hd l:=by cases l<;>rfl
end Go.Pev.Pl
end
section
namespace Go.Pev.Pl
open Tok
theorem AIP{n u v:Int}(h:okT n (.arc u v)):n≤Du n u v:=by rw[Ey h];exact(XD h.1 h.2.1).1
def BE(n:Int)(A B:List Int)(u v:Int):List Int:=u::Du n u v::(A4 B v++Du n v u::(A4 A u).tail)
theorem NL{n u v:Int}{A B:List Int}(hA:TI n A)(hB:TI n B)(hu:u∈A)(hv:v∈B)(iu:In n u)(iv:In n v)(hd:Dis n A B):
  TI n (BE n A B u v)∧A4 A u=u::(A4 A u).tail∧(∀ t,t<n→(t∈BE n A B u v↔t∈A∨t∈B))∧u≠v∧okT n (.arc u v):=by
 obtain⟨a,a1,a2,a3⟩:=ANC hA (t:=.ver u) iu hu
 obtain⟨b,b1,b2,b3⟩:=ANC hB (t:=.ver v) iv hv
 have a1':A4 A u=(Tok.ver u::a).map (DW n):=a1
 have b1':A4 B v=(Tok.ver v::b).map (DW n):=b1
 have huv:u≠v:=by rintro rfl;exact hd u hu iu.2.2.2 hv
 have ho:okT n (.arc u v):=⟨iu,iv,huv⟩
 have pA:=(Cb hu).perm
 have pB:=(Cb hv).perm
 have ht:A4 A u=u::(A4 A u).tail:=by rw[a1'];rfl
 have hall:BE n A B u v=(Tok.ver u :: .arc u v::(.ver v::b ++ .arc v u::a)).map (DW n):=by
  rw[BE,a1',b1',Ey ho,Ey (Ef ho)]
  simp[DW]
 refine⟨⟨_,hall,fun t ht => ?_,T.join a2 b2 fun x hx hx2 => ?_⟩,ht,fun t ht2 => ?_,huv,ho⟩
 ·rcases Aew.1 ht with rfl|ht
  ·exact iu
  ·rcases Aew.1 ht with rfl|ht
   ·exact ho
   ·rcases Aeu.1 ht with ht|ht
    ·exact b3 t ht
    ·rcases Aew.1 ht with rfl|ht
     ·exact Ef ho
     ·exact a3 t (AfF _ ht)
 ·have ix:=a3 _ hx
  have x1:x∈A:=pA.mem_iff.2 (by rw[a1'];exact AfB.2 ⟨_,hx,rfl⟩)
  have x2:x∈B:=pB.mem_iff.2 (by rw[b1'];exact AfB.2 ⟨_,hx2,rfl⟩)
  exact hd x x1 ix.2.2.2 x2
 ·have g1:=AIP ho
  have g2:=AIP (Ef ho)
  have e1:t∈A↔t=u∨t∈(A4 A u).tail:=by rw[pA.mem_iff,ht,Aew,Agr]
  rw[BE,Aew,Aew,Aeu,Aew,e1,← pB.mem_iff]
  constructor
  ·rintro (h|h|h|h|h)
   ·exact .inl (.inl h)
   ·omega
   ·exact .inr h
   ·omega
   ·exact .inl (.inr h)
  ·rintro ((h|h)|h)
   ·exact .inl h
   ·exact .inr (.inr (.inr (.inr h)))
   ·exact .inr (.inr (.inl h))
theorem J1{n:Int}{a b:List (List Int)}(h:a.Perm b)(ha:a.Pairwise (Dis n)):b.Pairwise (Dis n):=(h.pairwise_iff fun {_ _} hh=>hh.symm).1 ha
theorem ATg{n:Int}{rings rest zs:List (List Int)}{A B p:List Int}(h:FR n rings)(hp:rings.Perm (A::B::rest))(hg:RG n p)(hm:∀ t,t<n→(t∈p↔t∈A∨t∈B))(hz:zs.Perm (p::rest))(hu:zs.Pairwise (fun a b=>hd a<hd b)):FR n zs:=by
 have hd0:=J1 hp h.dis
 rw[Afe,Afe]at hd0
 obtain⟨h1,h2,h3⟩:=hd0
 refine⟨h.sz,fun l hl => ?_,hu,J1 hz.symm ?_,fun v hv => ?_⟩
 ·rcases Aew.1 (hz.mem_iff.1 hl)with rfl|hl
  ·exact hg
  ·exact h.rg l (hp.mem_iff.2 (by simp[hl]))
 ·rw[Afe]
  refine⟨fun r hr t ht htn => ?_,h3⟩
  rcases(hm t htn).1 ht with g|g
  ·exact h1 r (by simp[hr]) t g htn
  ·exact h2 r hr t g htn
 ·obtain⟨l,hl,hvl⟩:=h.cov v hv
  have:=hp.mem_iff.1 hl
  simp only[Aew]at this
  rcases this with rfl|rfl|g
  ·exact⟨p,hz.mem_iff.2 (by simp),(hm v hv.2.2.2).2 (.inl hvl)⟩
  ·exact⟨p,hz.mem_iff.2 (by simp),(hm v hv.2.2.2).2 (.inr hvl)⟩
  ·exact⟨l,hz.mem_iff.2 (by simp[g]),hvl⟩
theorem HA(n:Int)(rings:List (List Int))(u v:Int)(hD:Dom rings):asked ((n,(rings,())),u,v,())=some (if RF n rings then if In n u∧In n v then 0 else 10 else 1,()):=by
 rw[AM3,XG]
 simp only[OG n rings hD.1 hD.2,Wz]
 by_cases h:RF n rings
 ·by_cases h1:In n u
  ·by_cases h2:In n v<;>simp[h,h1,h2]
  ·simp[h,h1]
 ·simp[h]
theorem AZs(a b:Nat):imax (a:Int) (b:Int)=((max a b:Nat):Int):=by rw[imax];split<;>omega
theorem AZr(a b:Nat):Ce (a:Int) (b:Int)=((min a b:Nat):Int):=by rw[Ce];split<;>omega
theorem AcO{n:Int}{rings:List (List Int)}{u v:Int}{i j:Nat}{A B:List Int}(h:FR n rings)(iu:In n u)(iv:In n v)(hi:rings[i]? = some A)(hj:rings[j]? = some B)(hu:u∈A)(hv:v∈B)(hij:i≠j):
  ∃ zs rest,Lq ((n,(rings,())),u,v,())=some (n,zs,0,())∧FR n zs∧rings.Perm (A::B::rest)∧zs.Perm (plain (BE n A B u v)::rest)∧Dis n A B:=by
 have hD:=h.dom
 have hRF:=LH.2 h
 have rA:=h.rg A (Ae5 hi)
 have rB:=h.rg B (Ae5 hj)
 have hil:=(Afy.1 hi).1
 have hjl:=(Afy.1 hj).1
 have pu:plc rings u=(i:Int):=h.AGU hi iu.2.2.2 hu
 have pv:plc rings v=(j:Int):=h.AGU hj iv.2.2.2 hv
 have hperm:rings.Perm (A::B::(rings.eraseIdx (max i j)).eraseIdx (min i j)):=by
  rcases Ahk hij with g|g
  ·rw[AhC (by omega),Afi (by omega)]
   exact Io g hi hj
  ·rw[AhK (by omega),AhD (by omega)]
   exact(Io g hj hi).trans (List.Perm.swap _ _ _)
 have hdis:Dis n A B:=by
  have:=J1 hperm h.dis
  rw[Afe]at this
  exact this.1 B (by simp)
 obtain⟨l1,l2,l3,huv,ho⟩:=NL rA.2.2.2 rB.2.2.2 hu hv iu iv hdis
 obtain⟨hRG,hrot⟩:=ABi l1
 have hall:BE n A B u v=u::Du n u v::(A4 B v++Du n v u::(A4 A u).tail):=rfl
 have lA:(A4 A u).length≤1000:=by rw[← (Cb hu).perm.length_eq];exact rA.1.1
 have lB:(A4 B v).length≤1000:=by rw[← (Cb hv).perm.length_eq];exact rB.1.1
 have hsub:((rings.eraseIdx (max i j)).eraseIdx (min i j)).Sublist rings:=(AhT _ _).trans (AhT _ _)
 have hdrop:Cp (fun k=>decide ((k:Int)∈[(i:Int),(j:Int)])) 0 rings=(rings.eraseIdx (max i j)).eraseIdx (min i j):=by
  rcases Ahk hij with g|g
  ·rw[AhC (by omega),Afi (by omega)]
   exact K6 _ i j g rings 0 (by omega) fun k _=>Af3.2 (by simp only[Aew,Agd,AhM];omega)
  ·rw[AhK (by omega),AhD (by omega)]
   exact K6 _ j i g rings 0 (by omega) fun k _=>Af3.2 (by simp only[Aew,Agd,AhM];omega)
 have hrl:((rings.eraseIdx (max i j)).eraseIdx (min i j)).length≤rings.length:=hsub.length_le
 generalize (rings.eraseIdx (max i j)).eraseIdx (min i j)=rest at *
 have hupr:rest.Pairwise (fun a b=>hd a<hd b):=h.up.sublist hsub
 have hner:∀ l∈rest,l≠[]:=fun l hl=>(h.rg l (hsub.subset hl)).2.1
 have hdd:=J1 hperm h.dis
 rw[Afe,Afe]at hdd
 have hheads:∀ x∈rest,hd x≠hd (plain (BE n A B u v)):=by
  intro x hx e
  have g1:=Na hRG
  have g2:=(l3 _ g1.2.2.2).1 (hrot.perm.mem_iff.2 (S2 hRG.2.1))
  have g3:hd (plain (BE n A B u v))∈x:=e▸S2 (hner x hx)
  rcases g2 with g|g
  ·exact hdd.1 x (by simp[hx]) _ g g1.2.2.2 g3
  ·exact hdd.2.1 x hx _ g g1.2.2.2 g3
 have hup:=ASe hupr hheads
 have hpz:=ADr rest (plain (BE n A B u v))
 refine⟨Yo rest (plain (BE n A B u v)),rest,?_,ATg h hperm hRG (fun t ht=>by rw[← hrot.perm.mem_iff];exact l3 t ht) hpz hup,hperm,hpz,hdis⟩
 ·obtain⟨ys,y1,y2,y3⟩:=ADE n rings [(i:Int),(j:Int)] [BE n A B u v] hD.1 (by simp) (by simp) (fun l hl=>(h.rg l hl).2.1) (by simp;exact hRG.2.1)
  have hys:ys=Yo rest (plain (BE n A B u v)):=by
   refine UB hup (y2.trans ?_) y3
   rw[hdrop]
   exact(AgY (l₁:=rest) (l₂:=[plain (BE n A B u v)])).trans hpz.symm
  rw[hys]at y1
  rw[HO,Gj]
  have s1:CO (A4 A u) (0:Int) (1:Int)=some [u]:=by
   have:=AFc (xs:=A4 A u) (l:=0) (h:=1) (by omega) (by rw[l2];simp)
   rw[l2]at this ⊢
   exact this
  have s2:CO (A4 A u) (1:Int) (AH (A4 A u))=some (A4 A u).tail:=by
   have:=Eb (xs:=A4 A u) (l:=1) (by rw[l2];simp)
   rw[Agn]at this
   exact this
  have d1:DI 0 (AK (AH [u])) (A4 A u)=[u]:=by rw[l2];rfl
  have d2:DI 1 (AK (AH (A4 A u).tail)) (A4 A u)=(A4 A u).tail:=by
   rw[DI,AL,Hw,Agn,AgD]
  have hcat:Is ([[u],[Du n u v],A4 B v,[Du n v u],(A4 A u).tail],())=some (BE n A B u v,()):=by
   rw[Ml _ (by simp) (by simp;omega)]
   simp[BE]
  have ne:((i:Int))≠(j:Int):=by omega
  simp only[HA n rings u v hD,hRF,iu,iv,and_self,AfS,Ao,HL n rings _ hD.1 (fun l hl=>(hD.2 l hl).1),pu,pv,ne,Ae2,AfG,Ae0,Aj hi,Aj hj,ADm,Ij,rA.1,rB.1,hu,hv,s1,s2,AJL,d1,d2,hcat,y1]
theorem AQS{n:Int}{rings:List (List Int)}{u v:Int}(h:FR n rings)(iu:In n u)(iv:In n v)(hp:plc rings u=plc rings v):
  Lq ((n,(rings,())),u,v,())=some (n,rings,5,()):=by
 have hD:=h.dom
 have hRF:=LH.2 h
 rw[HO,Gj]
 simp only[HA n rings u v hD,hRF,iu,iv,and_self,AfS,Ao,HL n rings _ hD.1 (fun l hl=>(hD.2 l hl).1),hp,Ae2,Ae0]
end Go.Pev.Pl
end
section
namespace Go.Pev.Pl
open Tok
def PI(rings:List (List Int))(a b:Int):Prop:=∃ A∈rings,a∈A∧b∈A
structure FC(n:Int)(rings:List (List Int))(l:List Edge):Prop where
 fr:FR n rings
 sam:∀ a b,In n a→In n b→(PI rings a b↔Con l a b)
 arcs:∀ A∈rings,∀ u v,okT n (.arc u v)→Du n u v∈A→∃ e∈l,(e.1=u∧e.2.1=v)∨(e.1=v∧e.2.1=u)
theorem FR.AYI{n:Int}{rings:List (List Int)}(h:FR n rings){a b:Int}(ia:In n a)(ib:In n b):plc rings a=plc rings b↔PI rings a b:=by
 obtain⟨i,A,pa,hi,ha,_⟩:=L6 (h.cov a ia)
 obtain⟨j,B,pb,hj,hb,_⟩:=L6 (h.cov b ib)
 rw[pa,pb]
 constructor
 ·intro e
  have:i=j:=by omega
  subst this
  rw[hi]at hj
  cases hj
  exact⟨A,Ae5 hi,ha,hb⟩
 ·rintro⟨K,hK,h1,h2⟩
  obtain⟨k,hk⟩:∃ k:Nat,rings[k]? = some K:=by
   obtain⟨k,hk,rfl⟩:=AgS hK
   exact⟨k,Aev hk⟩
  rw[h.uniq hi hk ia.2.2.2 ha h1,h.uniq hj hk ib.2.2.2 hb h2]
theorem FR.one{n:Int}{rings:List (List Int)}(h:FR n rings){A B:List Int}(hA:A∈rings)(hB:B∈rings){v:Int}(iv:v<n)(h1:v∈A)(h2:v∈B):A=B:=by
 obtain⟨i,hi,rfl⟩:=AgS hA
 obtain⟨j,hj,rfl⟩:=AgS hB
 have:=h.uniq (Aev hi) (Aev hj) iv h1 h2
 subst this
 rfl
theorem PI.perm{a b:List (List Int)}(h:a.Perm b)(x y:Int):PI a x y↔PI b x y:=by
 constructor
 ·rintro⟨A,hA,h1⟩;exact⟨A,h.mem_iff.1 hA,h1⟩
 ·rintro⟨A,hA,h1⟩;exact⟨A,h.mem_iff.2 hA,h1⟩
theorem AVt{n u v x y:Int}{A B:List Int}(hA:TI n A)(hB:TI n B)(hu:u∈A)(hv:v∈B)(iu:In n u)(iv:In n v)(hd:Dis n A B)(ho:okT n (.arc x y))(h:Du n x y∈BE n A B u v):Du n x y∈A∨Du n x y∈B∨(x=u∧y=v)∨(x=v∧y=u):=by
 obtain⟨_,l2,_,huv,ho2⟩:=NL hA hB hu hv iu iv hd
 have pA:=(Cb hu).perm
 have pB:=(Cb hv).perm
 have g:=AIP ho
 rw[BE,Aew,Aew,Aeu,Aew]at h
 rcases h with h|h|h|h|h
 ·have:=iu.2.2.2;omega
 ·rw[Ey ho,Ey ho2]at h
  have:=Fz ho ho2 h
  cases this
  exact .inr (.inr (.inl ⟨rfl,rfl⟩))
 ·exact .inr (.inl (pB.mem_iff.2 h))
 ·rw[Ey ho,Ey (Ef ho2)]at h
  have:=Fz ho (Ef ho2) h
  cases this
  exact .inr (.inr (.inr ⟨rfl,rfl⟩))
 ·refine .inl (pA.mem_iff.2 ?_)
  rw[l2]
  exact AfF _ h
theorem ATh{n:Int}{rings:List (List Int)}{l:List Edge}{e:Edge}(h:FC n rings l)(iu:In n e.1)(iv:In n e.2.1):
  ∃ zs q,Lq ((n,(rings,())),e.1,e.2.1,())=some (n,zs,q,())∧FC n zs (l++[e])∧(q=0∧zs.length+1=rings.length∨q=5∧zs=rings):=by
 have hF:=h.fr
 obtain⟨i,A,pu,hi,hu,_⟩:=L6 (hF.cov _ iu)
 obtain⟨j,B,pv,hj,hv,_⟩:=L6 (hF.cov _ iv)
 have mA:=Ae5 hi
 have mB:=Ae5 hj
 by_cases hij:i=j
 ·have hpe:plc rings e.1=plc rings e.2.1:=by rw[pu,pv,hij]
  refine⟨rings,5,AQS hF iu iv hpe,⟨hF,fun a b ia ib => ?_,fun A hA u v ho hm => ?_⟩,.inr ⟨rfl,rfl⟩⟩
  ·rw[h.sam a b ia ib,Con.snoc]
   have hc:Con l e.1 e.2.1:=(h.sam _ _ iu iv).1 ((hF.AYI iu iv).1 hpe)
   constructor
   ·exact .inl
   ·rintro (g|⟨g1,g2⟩|⟨g1,g2⟩)
    ·exact g
    ·exact g1.trans (hc.trans g2)
    ·exact g1.trans (hc.symm.trans g2)
  ·obtain⟨e',h1,h2⟩:=h.arcs A hA u v ho hm
   exact⟨e',by simp[h1],h2⟩
 ·obtain⟨zs,rest,q1,q3,q4,q5,q6⟩:=AcO hF iu iv hi hj hu hv hij
  have gA:=hF.rg A mA
  have gB:=hF.rg B mB
  obtain⟨l1,l2,l3,huv,ho⟩:=NL gA.2.2.2 gB.2.2.2 hu hv iu iv q6
  obtain⟨hRG,hrot⟩:=ABi l1
  have len1:=q4.length_eq
  have len2:=q5.length_eq
  simp only[Aex]at len1 len2
  refine⟨zs,0,q1,⟨q3,fun a b ia ib => ?_,fun K hK x y hxy hm => ?_⟩,.inl ⟨rfl,by omega⟩⟩
  ·rw[PI.perm q5,Con.snoc,← h.sam a b ia ib,← h.sam a _ ia iu,← h.sam _ b iv ib,← h.sam a _ ia iv,← h.sam _ b iu ib]
   have pmem:∀ x,In n x→(x∈plain (BE n A B e.1 e.2.1)↔x∈A∨x∈B):=fun x ix=>by rw[← hrot.perm.mem_iff];exact l3 x ix.2.2.2
   have sA:∀ x,In n x→(PI rings x e.1↔x∈A):=fun x ix=>by
    constructor
    ·rintro⟨K,hK,h1,h2⟩
     rw[hF.one mA hK iu.2.2.2 hu h2];exact h1
    ·intro hx;exact⟨A,mA,hx,hu⟩
   have sB:∀ x,In n x→(PI rings x e.2.1↔x∈B):=fun x ix=>by
    constructor
    ·rintro⟨K,hK,h1,h2⟩
     rw[hF.one mB hK iv.2.2.2 hv h2];exact h1
    ·intro hx;exact⟨B,mB,hx,hv⟩
   have sy:∀ x y,PI rings x y↔PI rings y x:=fun x y=>⟨fun ⟨K,a,b,c⟩=>⟨K,a,c,b⟩,fun ⟨K,a,b,c⟩=>⟨K,a,c,b⟩⟩
   rw[sA a ia,sB a ia,sy e.2.1 b,sB b ib,sy e.1 b,sA b ib]
   have hs:PI rings a b↔(a∈A∧b∈A)∨(a∈B∧b∈B)∨∃ K∈rest,a∈K∧b∈K:=by
    rw[PI.perm q4]
    simp only[PI,Aew,exists_eq_or_imp]
   have hz:PI (plain (BE n A B e.1 e.2.1)::rest) a b↔((a∈A∨a∈B)∧(b∈A∨b∈B))∨∃ K∈rest,a∈K∧b∈K:=by
    simp only[PI,Aew,exists_eq_or_imp,pmem a ia,pmem b ib]
   rw[hs,hz]
   constructor
   ·rintro (⟨h1|h1,h2|h2⟩|h)
    ·exact .inl (.inl ⟨h1,h2⟩)
    ·exact .inr (.inl ⟨h1,h2⟩)
    ·exact .inr (.inr ⟨h1,h2⟩)
    ·exact .inl (.inr (.inl ⟨h1,h2⟩))
    ·exact .inl (.inr (.inr h))
   ·rintro ((⟨h1,h2⟩|⟨h1,h2⟩|h)|⟨h1,h2⟩|⟨h1,h2⟩)
    ·exact .inl ⟨.inl h1,.inl h2⟩
    ·exact .inl ⟨.inr h1,.inr h2⟩
    ·exact .inr h
    ·exact .inl ⟨.inl h1,.inr h2⟩
    ·exact .inl ⟨.inr h1,.inl h2⟩
  ·have old:∀ K∈rings,Du n x y∈K→∃ e'∈l++[e],(e'.1=x∧e'.2.1=y)∨(e'.1=y∧e'.2.1=x):=fun K hK hm=>by
    obtain⟨e',h1,h2⟩:=h.arcs K hK x y hxy hm
    exact⟨e',by simp[h1],h2⟩
   rcases Aew.1 (q5.mem_iff.1 hK)with rfl|hK
   ·rcases AVt gA.2.2.2 gB.2.2.2 hu hv iu iv q6 hxy (hrot.perm.mem_iff.2 hm)with g|g|⟨g1,g2⟩|⟨g1,g2⟩
    ·exact old A mA g
    ·exact old B mB g
    ·exact⟨e,by simp,.inl ⟨g1.symm,g2.symm⟩⟩
    ·exact⟨e,by simp,.inr ⟨g2.symm,g1.symm⟩⟩
   ·exact old K (q4.mem_iff.2 (by simp[hK])) hm
theorem ABk{N:Nat}(h1:1≤N)(h2:N≤64):FC (N:Int) (BR N) []:=by
 have hS:∀ A∈BR N,∃ k:Nat,k<N∧A=[(k:Int)]:=fun A hA=>by
  simp only[BR,AfB,AgM]at hA
  obtain⟨k,hk,rfl⟩:=hA
  exact⟨k,hk,rfl⟩
 have key:∀ k,k<N→In (N:Int) (k:Int):=fun k hk=>⟨by omega,by omega,by omega,by omega⟩
 refine⟨⟨⟨by omega,by omega⟩,fun l hl => ?_,?_,?_,fun v hv => ?_⟩,fun a b ia ib => ?_,fun A hA u v ho hm => ?_⟩
 ·obtain⟨k,hk,rfl⟩:=hS l hl
  refine⟨⟨by simp,fun x hx => ?_,by simp⟩,by simp,rfl,(Aay (N:Int) k).2 (key k hk)⟩
  simp only[AfH]at hx
  omega
 ·rw[BR,AgL]
  exact List.pairwise_lt_range.imp fun h=>by simp only[hd,Ahi];omega
 ·rw[BR,AgL]
  exact List.pairwise_lt_range.imp fun {a b} h t ht _ ht2=>by
   simp only[AfH]at ht ht2
   omega
 ·obtain⟨k,rfl⟩:=Ae1 hv.2.2.1
  have:=hv.2.2.2
  exact⟨[(k:Int)],by simp only[BR,AfB,AgM];exact⟨k,by omega,rfl⟩,by simp⟩
 ·constructor
  ·rintro⟨A,hA,h1,h2⟩
   obtain⟨k,_,rfl⟩:=hS A hA
   simp only[AfH]at h1 h2
   rw[h1,h2]
   exact .refl _
  ·intro hc
   have:=hc.nil
   subst this
   obtain⟨k,rfl⟩:=Ae1 ia.2.2.1
   have:=ia.2.2.2
   exact⟨[(k:Int)],by simp only[BR,AfB,AgM];exact⟨k,by omega,rfl⟩,by simp,by simp⟩
 ·obtain⟨k,hk,rfl⟩:=hS A hA
  simp only[AfH]at hm
  have:=AIP ho
  omega
theorem AAy(l:List Edge)(hs:l.length<1073741824):ends (l,())=some (l.flatMap fun e=>[e.1,e.2.1],()):=by
 rw[ATV,AHt]
 have e:=DO (step:=K4) (fun i (a:List Int)=>(a,l,AH l,(i:Int),())) l (fun x a=>.inl (a++[x.1,x.2.1])) (fun a=>.inl (a,())) (fun i a=>a.length=2*i) (by omega)
  (fun i x a hi hx h1=>by
   refine⟨fun m' h' => ?_,fun r h'=>by cases h'⟩
   cases h'
   rw[K4,AL,AN,Aeq hi]
   simp only[Aj hx]
   rw[AP (by omega),Be (by simp only[AL,Aex,AfI];omega)]
   exact⟨rfl,by simp;omega⟩)
  (fun a _=>by rw[K4,AL,AN,Aeo (by omega)]) [] rfl
 have e':AU K4 many ([],l,AH l,(0:Int),())=_:=e
 rw[e',BZ]
 have hf:∀ (xs:List Edge) (acc:List Int),xs.foldl (fun a x=>a++[x.1,x.2.1]) acc=acc++xs.flatMap fun e=>[e.1,e.2.1]:=by
  intro xs
  induction xs with
  |nil=>intro acc;simp
  |cons x xs ih=>intro acc;rw[Afj,ih,AgT];simp
 rw[hf]
 rfl
theorem AMY(n:Int)(l:List Edge):((l.flatMap fun e=>[e.1,e.2.1]).all fun v=>decide (In n v))=l.all fun e=>decide (In n e.1∧In n e.2.1):=by
 induction l with
 |nil=>rfl
 |cons e l ih=>
  rw[AgT,List.all_append,List.all_cons,ih]
  simp
theorem AMX(l:List Edge):(l.flatMap fun e=>[e.1,e.2.1]).length=2*l.length:=by
 induction l with
 |nil=>rfl
 |cons e l ih=>rw[AgT,Aey,ih];simp;omega
theorem AQQ{n:Int}(l:List Edge)(hs:l.length<1073741824)(ha:∀ e∈l,In n e.1∧In n e.2.1):
  ∀ (m i cnt:Nat) (rings:List (List Int)) (taken:List Bool),i+m=l.length→taken.length=i→FC n rings (l.take i)→m<cnt →
  ∃ zs taken',AW Bz cnt (n,rings,(0:Int),taken,l,(l.length:Int),(i:Int),())=some (.inl (n,zs,(0:Int),taken',()))∧FC n zs l∧taken'.length=l.length:=by
 intro m
 induction m with
 |zero=>
  intro i cnt rings taken hi ht h hc
  obtain⟨cnt,rfl⟩:∃ c,cnt=c+1:=⟨cnt-1,by omega⟩
  rw[Afg (by omega)]at h
  refine⟨rings,taken,?_,h,by omega⟩
  rw[AW,Bz,AN,Aeo (by omega)]
 |succ m ih=>
  intro i cnt rings taken hi ht h hc
  obtain⟨cnt,rfl⟩:∃ c,cnt=c+1:=⟨cnt-1,by omega⟩
  have hi':i<l.length:=by omega
  have hx:l[i]? = some l[i]:=Aev hi'
  obtain⟨iu,iv⟩:=ha _ (AgQ hi')
  obtain⟨zs,q,e1,e2,_⟩:=ATh h iu iv
  rw[AW,Bz,AN,Aeq hi']
  simp only[Aj hx,e1]
  rw[AP (by omega),Be (by simp only[AL,Aex,AfI];omega)]
  rw[← AgG hi']at e2
  exact ih (i+1) cnt zs _ (by omega) (by simp[C5,ht]) e2 (by omega)
theorem ATR(k:Int)(l:List Edge)(hk:Sz k)(hs:l.length<1073741824):
  ((∀ e∈l,In k e.1∧In k e.2.1)∧∃ rings,fof (k,l,())=some ((k,(rings,())),0,())∧FC k rings l) ∨
  (¬ (∀ e∈l,In k e.1∧In k e.2.1)∧fof (k,l,())=some ((0,([],())),10,())):=by
 have hmany:9223372036854775808<many:=by simp only[many];omega
 rw[AQ1,AML]
 have hm:Gn k=(k,BR k.toNat,0,()):=by rw[Gn,Ae6 hk]
 obtain⟨s1,s2⟩:=hk
 obtain⟨N,rfl⟩:=Ae1 (show 0≤k by omega)
 have h0:=ABk (N:=N) (by omega) (by omega)
 have hD:=h0.fr.dom
 have hRF:=LH.2 h0.fr
 have hfl:=AMX l
 have hth:O2 (((N:Int),(BR N,())),l.flatMap fun e=>[e.1,e.2.1],())=some (if ∀ e∈l,In (N:Int) e.1∧In (N:Int) e.2.1 then 0 else 10,()):=by
  rw[AAc _ _ _ hD (by omega),AMY,AM4,Ae6 hRF]
  by_cases ha:∀ e∈l,In (N:Int) e.1∧In (N:Int) e.2.1
  ·rw[Ae6 ha,Ae6 (AfE.2 fun e he=>Aeq (ha e he))]
  ·rw[Ae3 ha,Ae3]
   intro hc
   exact ha fun e he=>Agv (AfE.1 hc e he)
 simp only[ADQ,hm,Afn,CL,Ae0]
 rw[S7,MY,Md,Hv]
 by_cases ha:∀ e∈l,In (N:Int) e.1∧In (N:Int) e.2.1
 ·refine .inl ⟨ha,?_⟩
  rw[Ae6 ha]at hth
  obtain⟨zs,taken,e1,e2,_⟩:=AQQ l hs ha l.length 0 many (BR N) [] (by omega) rfl (by rw[List.take_zero];exact h0) (by omega)
  have e1':AW Bz many ((N:Int),BR N,(0:Int),[],l,(l.length:Int),(0:Int),())=_:=e1
  simp only[AAy l hs,hth,CL,Ae0,As,AL,e1']
  exact⟨zs,rfl,e2⟩
 ·refine .inr ⟨ha,?_⟩
  rw[Ae3 ha]at hth
  simp only[AAy l hs,hth,Ao]
  rfl
end Go.Pev.Pl
end
section
namespace Go.Pev.Pl
open Tok
def cl(out:List Int)(v:Int):Int:=out.getD v.toNat 0
def CI(N:Nat)(l:List Edge)(out:List Int):Prop:=out.length=N∧∀ k,k<N→0≤out.getD k 0∧out.getD k 0≤(k:Int)∧Con l (k:Int) (out.getD k 0)
theorem ASC:∀ (l:List Int) (k:Nat) (x:Int),k<l.length→(l.set k x).sum=l.sum-l.getD k 0+x:=by
 intro l
 induction l with
 |nil=>intro k x h;simp at h
 |cons y l ih=>
  intro k x h
  cases k with
  |zero=>simp;omega
  |succ k=>
   have:=ih k x (by simpa using h)
   simp only[List.set_cons_succ,List.sum_cons,List.getD_cons_succ,this]
   omega
theorem OJ{N:Nat}{l:List Edge}{out:List Int}(h:CI N l out)(hN:N≤64):0≤out.sum∧out.sum≤4096:=by
 obtain⟨h1,h2⟩:=h
 have key:∀ (xs:List Int),(∀ x∈xs,0≤x∧x≤64)→0≤xs.sum∧xs.sum≤64*(xs.length:Int):=by
  intro xs
  induction xs with
  |nil=>intro _;simp
  |cons x xs ih=>
   intro h
   have h3:=ih fun y hy=>h y (AfF _ hy)
   have h4:=h x (by simp)
   simp only[List.sum_cons,Aex]
   omega
 have:=key out fun x hx=>by
  obtain⟨k,hk,rfl⟩:=AgS hx
  have h5:=h2 k (by omega)
  rw[Aes,Aev hk,AfN]at h5
  omega
 omega
theorem AeP(N:Nat)(l:List Edge)(hs:l.length<1073741824)(ha:∀ e∈l,In (N:Int) e.1∧In (N:Int) e.2.1):
  ∀ (m i cnt:Nat) (out:List Int) (more:Bool),i+m=l.length→CI N l out→m<cnt →
  ∃ out' more',AW Ev cnt ((N:Int),l,out,more,(i:Int),())=some (.inl ((N:Int),l,out',more',()))∧CI N l out' ∧
   ((more'=more∧out'=out∧∀ e∈l.drop i,cl out e.1=cl out e.2.1)∨(more'=true∧out'.sum<out.sum)):=by
 intro m
 induction m with
 |zero=>
  intro i cnt out more hi h hc
  obtain⟨cnt,rfl⟩:∃ c,cnt=c+1:=⟨cnt-1,by omega⟩
  refine⟨out,more,?_,h,.inl ⟨rfl,rfl,?_⟩⟩
  ·rw[AW,Ev,AL,AN,Aeo (by omega)]
  ·rw[Af0 (by omega)]
   intro e he;cases he
 |succ m ih=>
  intro i cnt out more hi h hc
  obtain⟨cnt,rfl⟩:∃ c,cnt=c+1:=⟨cnt-1,by omega⟩
  have hi':i<l.length:=by omega
  have hx:l[i]? = some l[i]:=Aev hi'
  have hm:=AgQ hi'
  have hdr:l.drop i=l[i]::l.drop (i+1):=Afh hi'
  rw[AW,Ev,AL,AN,Aeq hi']
  simp only[Aj hx]
  rw[hdr,AP (by omega)]
  generalize l[i]=e at *
  obtain⟨iu,iv⟩:=ha e hm
  have hcon:=Con.edge e hm
  obtain⟨eu,ev,eu'⟩:=e
  simp only at iu iv hcon ⊢
  obtain⟨u,rfl⟩:=Ae1 iu.2.2.1
  obtain⟨v,rfl⟩:=Ae1 iv.2.2.1
  have hu:u<N:=by have:=iu.2.2.2;omega
  have hv:v<N:=by have:=iv.2.2.2;omega
  have hul:u<out.length:=by rw[h.1];exact hu
  have hvl:v<out.length:=by rw[h.1];exact hv
  rw[Ai,Aeo (by omega)]
  simp only[]
  rw[Ai,Aeo (by omega)]
  simp only[]
  rw[Az,Aeo (by omega)]
  simp only[]
  rw[Az,Aeo (by omega)]
  simp only[DK (0:Int) hul,DK (0:Int) hvl,FZ,AHv,Ao]
  by_cases hq:out.getD u 0=out.getD v 0
  ·rw[Aeq hq]
   obtain⟨out',more',e1,e2,e3⟩:=ih (i+1) cnt out more (by omega) h (by omega)
   refine⟨out',more',e1,e2,?_⟩
   rcases e3 with⟨g1,g2,g3⟩|g
   ·refine .inl ⟨g1,g2,fun e' he' => ?_⟩
    rcases Aew.1 he' with rfl|he'
    ·simpa [cl]using hq
    ·exact g3 e' he'
   ·exact .inr g
  ·rw[Aeo hq]
   have hne:u≠v:=by rintro rfl;exact hq rfl
   have hlow:Ce (out.getD u 0) (out.getD v 0)=if out.getD v 0<out.getD u 0 then out.getD v 0 else out.getD u 0:=rfl
   generalize hlw:Ce (out.getD u 0) (out.getD v 0)=low at *
   have hvl2:v<(out.set u low).length:=by simp;exact hvl
   simp only[DK (0:Int) hvl2]
   have cu:=h.2 u hu
   have cv:=h.2 v hv
   have hset:∀ k,k<N→((out.set u low).set v low).getD k 0=if k=u∨k=v then low else out.getD k 0:=by
    intro k hk
    have hkl:k<out.length:=by rw[h.1];exact hk
    by_cases k2:k=v
    ·subst k2
     simp[Aes,hkl]
    ·by_cases k1:k=u
     ·subst k1
      rw[Ae6 (.inl rfl),Aes,Afb (AfV k2)]
      simp[hkl]
     ·rw[Ae3 (by omega),Aes,Afb (AfV k2),Afb (AfV k1),Aes]
   have hlc:0≤low∧low≤(u:Int)∧low≤(v:Int)∧Con l (u:Int) low:=by
    rw[hlow]
    split
    ·exact⟨cv.1,by omega,cv.2.1,hcon.trans cv.2.2⟩
    ·exact⟨cu.1,cu.2.1,by omega,cu.2.2⟩
   have hI:CI N l ((out.set u low).set v low):=by
    refine⟨by simp[h.1],fun k hk => ?_⟩
    rw[hset k hk]
    split
    ·rename_i hkk
     rcases hkk with rfl|rfl
     ·exact⟨hlc.1,hlc.2.1,hlc.2.2.2⟩
     ·exact⟨hlc.1,hlc.2.2.1,hcon.symm.trans hlc.2.2.2⟩
    ·exact h.2 k hk
   have hsum:((out.set u low).set v low).sum<out.sum:=by
    rw[ASC _ _ _ hvl2,ASC _ _ _ hul]
    have:(out.set u low).getD v 0=out.getD v 0:=by
     rw[Aes,Afb hne,← Aes]
    rw[this,hlow]
    split<;>omega
   obtain⟨out',more',e1,e2,e3⟩:=ih (i+1) cnt _ true (by omega) hI (by omega)
   refine⟨out',more',e1,e2,.inr ?_⟩
   rcases e3 with⟨g1,g2,_⟩|⟨g1,g2⟩
   ·exact⟨g1,by rw[g2];exact hsum⟩
   ·exact⟨g1,by omega⟩
theorem AdX(N:Nat)(hN:N≤64)(l:List Edge)(hs:l.length<1073741824)(ha:∀ e∈l,In (N:Int) e.1∧In (N:Int) e.2.1):
  ∀ (m cnt:Nat) (out:List Int),out.sum.toNat=m→CI N l out→m+1<cnt →
  ∃ out',AW Gv cnt ((N:Int),l,out,true,())=some (.inl (out',()))∧CI N l out'∧∀ e∈l,cl out' e.1=cl out' e.2.1:=by
 have hmany:9223372036854775808<many:=by simp only[many];omega
 intro m
 induction m using Nat.strongRecOn with
 |_ m ih=>
 intro cnt out hm h hc
 obtain⟨cnt,rfl⟩:∃ c,cnt=c+1:=⟨cnt-1,by omega⟩
 rw[AW,Gv]
 obtain⟨out',more',e1,e2,e3⟩:=AeP N l hs ha l.length 0 many out false (by omega) h (by omega)
 have e1':AW Ev many ((N:Int),l,out,false,(0:Int),())=_:=e1
 simp only[As,e1']
 rcases e3 with⟨g1,g2,g3⟩|⟨g1,g2⟩
 ·subst g1 g2
  obtain⟨cnt,rfl⟩:∃ c,cnt=c+1:=⟨cnt-1,by omega⟩
  rw[AW,Gv]
  exact⟨_,rfl,e2,by simpa using g3⟩
 ·subst g1
  have b1:=OJ h hN
  have b2:=OJ e2 hN
  exact ih out'.sum.toNat (by omega) cnt out' rfl e2 (by omega)
structure T6(n:Int)(l:List Edge)(out:List Int):Prop where
 len:(out.length:Int)=n
 same:∀ a b,In n a→In n b→(cl out a=cl out b↔Con l a b)
 isin:∀ a,In n a→In n (cl out a)
 con:∀ a,In n a→Con l a (cl out a)
 least:∀ a b,In n a→In n b→Con l a b→cl out a≤b
theorem F5(n:Int)(l:List Edge)(hn:Sz n)(hs:l.length<1073741824)(ha:∀ e∈l,In n e.1∧In n e.2.1):∃ out,NV (n,l,())=some (out,())∧T6 n l out:=by
 have hmany:9223372036854775808<many:=by simp only[many];omega
 obtain⟨s1,s2⟩:=hn
 obtain⟨N,rfl⟩:=Ae1 (show 0≤n by omega)
 rw[AH7,Mm]
 have key:∀ (m k cnt:Nat),k+m=N→m<cnt→AW Ew cnt ((N:Int),l,(List.range k).map (fun(k:Nat)=>(k:Int)),(k:Int),())=some (.inl ((N:Int),l,(List.range N).map (fun(k:Nat)=>(k:Int)),())):=by
  intro m
  induction m with
  |zero=>
   intro k cnt hk hc
   obtain⟨cnt,rfl⟩:∃ c,cnt=c+1:=⟨cnt-1,by omega⟩
   have:k=N:=by omega
   subst this
   rw[AW,Ew,AN,Aeo (by omega)]
  |succ m ih=>
   intro k cnt hk hc
   obtain⟨cnt,rfl⟩:∃ c,cnt=c+1:=⟨cnt-1,by omega⟩
   have hih:=ih (k+1) cnt (by omega) (by omega)
   rw[AgC,AgP]at hih
   rw[AW,Ew,AN,Aeq (by omega)]
   simp only[]
   rw[AP (by omega),Be (by simp only[AL,Aex,AfI,AgA,Afr];omega)]
   exact hih
 have e0:=key N 0 many (by omega) (by omega)
 have e0':AW Ew many ((N:Int),l,[],(0:Int),())=_:=e0
 have h0:CI N l ((List.range N).map (fun(k:Nat)=>(k:Int))):=by
  refine⟨by simp,fun k hk => ?_⟩
  have:((List.range N).map (fun(k:Nat)=>(k:Int))).getD k 0=(k:Int):=by simp[Aes,hk]
  rw[this]
  exact⟨by omega,by omega,.refl _⟩
 have hb:=OJ h0 (by omega)
 obtain⟨out,e1,e2,e3⟩:=AdX N (by omega) l hs ha _ many _ rfl h0 (by omega)
 simp only[As,e0',e1]
 have fact:∀ a,In (N:Int) a→0≤cl out a∧cl out a≤a∧Con l a (cl out a):=by
  intro a hia
  obtain⟨k,rfl⟩:=Ae1 hia.2.2.1
  have:=e2.2 k (by have:=hia.2.2.2;omega)
  simpa [cl]using this
 refine⟨out,rfl,by rw[e2.1],fun a b ia ib=>⟨fun h => ?_,fun h=>h.const e3⟩,fun a ia => ?_,fun a ia=>(fact a ia).2.2,fun a b ia ib h => ?_⟩
 ·have h1:=(fact a ia).2.2
  have h2:=(fact b ib).2.2
  rw[← h]at h2
  exact h1.trans h2.symm
 ·have:=fact a ia
  have h3:=ia.2.2.2
  exact⟨s1,s2,by omega,by omega⟩
 ·have h1:cl out a=cl out b:=h.const e3
  have:=(fact b ib).2.1
  omega
end Go.Pev.Pl
end
end
section
namespace Go.Pev.Pl
def Low(l:List Edge)(k:Nat):Prop:=∀ j:Nat,j<k→¬ Con l (j:Int) (k:Int)
noncomputable def AZa(l:List Edge)(k:Nat):Bool:=@decide (Low l k) (Classical.propDecidable _)
theorem Hi(l:List Edge)(k:Nat):AZa l k=true↔Low l k:=by
 unfold AZa
 exact @decide_eq_true_iff _ (Classical.propDecidable _)
noncomputable def cc(N:Nat)(l:List Edge):Nat:=(List.range N).countP (AZa l)
noncomputable def No(l:List Edge)(a b:Int):Bool:=@decide (Con l a b) (Classical.propDecidable _)
theorem CY(l:List Edge)(a b:Int):No l a b=true↔Con l a b:=by
 unfold No
 exact @decide_eq_true_iff _ (Classical.propDecidable _)
theorem H9(l:List Edge)(a b:Int):No l a b=false↔¬ Con l a b:=by
 rw[← CY];cases No l a b<;>simp
theorem Con.sub{l l':List Edge}(h:∀ e∈l,e∈l'){a b:Int}(c:Con l a b):Con l' a b:=c.mono fun e he=>⟨e,h e he,.inl ⟨rfl,rfl⟩⟩
theorem Con.cut{l l':List Edge}(h:∀ e∈l,Con l' e.1 e.2.1){a b:Int}(c:Con l a b):Con l' a b:=by
 induction c with
 |refl a=>exact .refl a
 |edge e he=>exact h e he
 |symm _ ih=>exact ih.symm
 |trans _ _ ih1 ih2=>exact ih1.trans ih2
theorem AZZ(l:List Edge):∀ v:Nat,∃ m:Nat,m≤v∧Con l (m:Int) (v:Int)∧Low l m:=by
 intro v
 induction v using Nat.strongRecOn with
 |ind v ih=>
  by_cases h:Low l v
  ·exact⟨v,Aez _,.refl _,h⟩
  ·have:∃ j:Nat,j<v∧Con l (j:Int) (v:Int):=Afl fun hn=>h fun j hj hc=>hn ⟨j,hj,hc⟩
   obtain⟨j,hj,hc⟩:=this
   obtain⟨m,h1,h2,h3⟩:=ih j hj
   exact⟨m,by omega,h2.trans hc,h3⟩
theorem Low.le{l:List Edge}{m j:Nat}(h:Low l m)(hc:Con l (m:Int) (j:Int)):m≤j:=by
 refine Nat.le_of_not_lt fun hj=>h j hj hc.symm
theorem Low.uniq{l:List Edge}{a b:Nat}(ha:Low l a)(hb:Low l b)(h:Con l (a:Int) (b:Int)):a=b:=by
 have:=ha.le h
 have:=hb.le h.symm
 omega
theorem Aaj{N:Nat}{l l':List Edge}(h:∀ j k:Nat,j<N→k<N→(Con l (j:Int) (k:Int)↔Con l' (j:Int) (k:Int))):cc N l=cc N l':=by
 unfold cc
 refine List.countP_congr fun k hk => ?_
 have hk:k<N:=by simpa using hk
 rw[Hi,Hi]
 constructor
 ·intro q j hj hc;exact q j hj ((h j k (by omega) hk).2 hc)
 ·intro q j hj hc;exact q j hj ((h j k (by omega) hk).1 hc)
theorem ABR{N:Nat}{l l':List Edge}(h:∀ a b,Con l a b↔Con l' a b):cc N l=cc N l':=Aaj fun _ _ _ _=>h _ _
theorem AH2{l l':List Edge}(h:∀ e,e∈l↔e∈l'){a b:Int}:Con l a b↔Con l' a b:=⟨fun c=>c.sub fun e he=>(h e).1 he,fun c=>c.sub fun e he=>(h e).2 he⟩
theorem Ac1{N:Nat}{l l':List Edge}(h:l.Perm l'):cc N l=cc N l':=ABR fun _ _=>AH2 fun _=>h.mem_iff
theorem AeE(N:Nat):cc N []=N:=by
 unfold cc
 have:(List.range N).countP (AZa [])=(List.range N).length:=by
  rw[List.countP_eq_length]
  intro k _
  rw[Hi]
  intro j hj hc
  have:=hc.nil
  omega
 rw[this,Afr]
theorem AA6{P:Nat→Bool}{M:Nat}(hM:P M=true):∀ {xs:List Nat},xs.Nodup→M∈xs→xs.countP P=xs.countP (fun k=>P k && !decide (k=M))+1:=by
 intro xs
 induction xs with
 |nil=>intro _ h;cases h
 |cons x xs ih=>
  intro hn h
  rw[AfO]at hn
  rw[Ahb,Ahb]
  by_cases hx:x=M
  ·subst hx
   have:xs.countP P=xs.countP (fun k=>P k && !decide (k=x)):=by
    refine List.countP_congr fun k hk => ?_
    have:k≠x:=fun e=>hn.1 (e▸hk)
    simp[this]
   simp[hM,this]
  ·have:=ih hn.2 (by rcases Aew.1 h with h|h;exact absurd h.symm hx;exact h)
   rw[this]
   simp[hx]
   omega
def InE(N:Nat)(e:Edge):Prop:=(0≤e.1∧e.1<(N:Int))∧(0≤e.2.1∧e.2.1<(N:Int))
theorem AMk{l:List Edge}{e:Edge}(h:Con l e.1 e.2.1){a b:Int}:Con (l++[e]) a b↔Con l a b:=
 ⟨fun c=>c.cut fun x hx=>by
  rcases Aeu.1 hx with hx|hx
  ·exact .edge x hx
  ·rw[AfH]at hx;subst hx;exact h,fun c=>c.sub fun x hx=>Aeu.2 (.inl hx)⟩
theorem ATZ{N:Nat}{l:List Edge}{e:Edge}(he:InE N e):cc N l=cc N (l++[e])+(if No l e.1 e.2.1=true then 0 else 1):=by
 by_cases h:Con l e.1 e.2.1
 ·rw[Ae6 ((CY _ _ _).2 h),AgN]
  exact ABR fun a b=>(AMk h).symm
 ·rw[Ae3 (fun hh=>h ((CY _ _ _).1 hh))]
  obtain⟨⟨a1,a2⟩,b1,b2⟩:=he
  obtain⟨u,hu⟩:=Ae1 a1
  obtain⟨v,hv⟩:=Ae1 b1
  have hsn:∀ {a b:Int},Con (l++[e]) a b↔Con l a b∨(Con l a (u:Int)∧Con l (v:Int) b)∨(Con l a (v:Int)∧Con l (u:Int) b):=by
   intro a b
   rw[Con.snoc,hu,hv]
  rw[hu,hv]at h
  obtain⟨p,p1,p2,p3⟩:=AZZ l u
  obtain⟨q,q1,q2,q3⟩:=AZZ l v
  have hpq:p≠q:=fun e=>h (p2.symm.trans (e▸q2))
  have hlow:∀ k:Nat,Low (l++[e]) k↔Low l k∧k≠max p q:=by
   intro k
   constructor
   ·intro hk
    refine⟨fun j hj hc=>hk j hj (hsn.2 (.inl hc)),fun e => ?_⟩
    refine hk (min p q) (by omega) (hsn.2 ?_)
    by_cases hlt:p<q
    ·rw[e,Afi (by omega),AhC (by omega)]
     exact .inr (.inl ⟨p2,q2.symm⟩)
    ·rw[e,AhD (by omega),AhK (by omega)]
     exact .inr (.inr ⟨q2,p2.symm⟩)
   ·rintro⟨hk,hne⟩ j hj hc
    rcases hsn.1 hc with hc|⟨c1,c2⟩|⟨c1,c2⟩
    ·exact hk j hj hc
    ·have e1:=q3.uniq hk (q2.trans c2)
     have e2:=p3.le (p2.trans c1.symm)
     omega
    ·have e1:=p3.uniq hk (p2.trans c2)
     have e2:=q3.le (q2.trans c1.symm)
     omega
  have hM:AZa l (max p q)=true:=by
   rw[Hi]
   by_cases hlt:p<q
   ·rw[AhC (by omega)];exact q3
   ·rw[AhK (by omega)];exact p3
  unfold cc
  rw[AA6 hM Ah3 (by rw[AgM];omega)]
  congr 1
  refine List.countP_congr fun k _ => ?_
  rw[Hi,hlow,Aet,Hi]
  simp
noncomputable def gfl:List Edge→List Edge→List Bool
 |_,[]=>[]
 |b,x::xs=>(!No b x.1 x.2.1)::gfl (b++[x]) xs
noncomputable def Lf:List Edge→List Edge→List Edge
 |_,[]=>[]
 |b,x::xs=>if No b x.1 x.2.1=true then Lf (b++[x]) xs else x::Lf (b++[x]) xs
theorem Aco:∀ (xs b:List Edge),(gfl b xs).length=xs.length:=by
 intro xs
 induction xs with
 |nil=>intro b;rfl
 |cons x xs ih=>intro b;rw[gfl,Aex,Aex,ih]
theorem AMA:∀ (xs b:List Edge),(Lf b xs).Sublist xs:=by
 intro xs
 induction xs with
 |nil=>intro b;exact List.Sublist.refl _
 |cons x xs ih=>
  intro b
  rw[Lf]
  split
  ·exact(ih _).cons x
  ·exact(ih _).cons_cons x
theorem ABI:∀ (xs b:List Edge) {a c:Int},Con (b++xs) a c↔Con (b++Lf b xs) a c:=by
 intro xs
 induction xs with
 |nil=>intro b a c;rfl
 |cons x xs ih=>
  intro b a c
  have e1:b++x::xs=(b++[x])++xs:=by simp
  rw[e1,ih,Lf]
  by_cases h:Con b x.1 x.2.1
  ·rw[Ae6 ((CY _ _ _).2 h)]
   constructor
   ·intro q
    refine q.cut fun y hy => ?_
    rcases Aeu.1 hy with hy|hy
    ·rcases Aeu.1 hy with hy|hy
     ·exact .edge y (Aeu.2 (.inl hy))
     ·rw[AfH]at hy;subst hy
      exact h.sub fun z hz=>Aeu.2 (.inl hz)
    ·exact .edge y (Aeu.2 (.inr hy))
   ·intro q
    refine q.sub fun y hy => ?_
    rcases Aeu.1 hy with hy|hy
    ·simp[hy]
    ·simp[hy]
  ·rw[Ae3 (fun hh=>h ((CY _ _ _).1 hh))]
   exact AH2 fun y=>by simp
theorem NW{N:Nat}:∀ (xs b:List Edge),(∀ e∈xs,InE N e)→cc N b=cc N (b++xs)+(Lf b xs).length:=by
 intro xs
 induction xs with
 |nil=>intro b _;simp[Lf]
 |cons x xs ih=>
  intro b h
  have e1:b++x::xs=(b++[x])++xs:=by simp
  rw[ATZ (h x (by simp)),ih (b++[x]) (fun e he=>h e (by simp[he])),e1,Lf]
  by_cases hc:No b x.1 x.2.1=true
  ·rw[Ae6 hc,Ae6 hc,AgN]
  ·rw[Ae3 hc,Ae3 hc,Aex]
   omega
theorem AdI{N:Nat}(xs b:List Edge)(h:∀ e∈xs,InE N e):cc N b≤cc N (b++xs)+xs.length:=by
 have:=NW xs b h
 have:=(AMA xs b).length_le
 omega
def Fo(N:Nat)(l:List Edge):Prop:=cc N l+l.length=N
theorem Fo.perm{N:Nat}{l l':List Edge}(h:Fo N l)(hp:l.Perm l'):Fo N l':=by
 unfold Fo at *
 rw[← Ac1 hp,← hp.length_eq];exact h
theorem Aak{N:Nat}(l:List Edge)(h:∀ e∈l,InE N e):N≤cc N l+l.length:=by
 have:=AdI l [] h
 rw[AeE,AfQ]at this
 exact this
theorem Fo.front{N:Nat}{a b:List Edge}(h:Fo N (a++b))(ha:∀ e∈a,InE N e)(hb:∀ e∈b,InE N e):Fo N a:=by
 unfold Fo at *
 have h1:=Aak a ha
 have h2:=AdI b a hb
 rw[Aey]at h
 omega
theorem AYh{α:Type}{a l:List α}(h:a.Sublist l):∃ r,l.Perm (a++r):=by
 induction h with
 |slnil=>exact⟨[],List.Perm.refl _⟩
 |@cons a l x _ ih=>
  obtain⟨r,hr⟩:=ih
  exact⟨x::r,(hr.cons x).trans (List.perm_middle.symm)⟩
 |@cons_cons a l x _ ih=>
  obtain⟨r,hr⟩:=ih
  exact⟨r,hr.cons x⟩
theorem Fo.sub{N:Nat}{a l:List Edge}(h:Fo N l)(hs:a.Sublist l)(hl:∀ e∈l,InE N e):Fo N a:=by
 obtain⟨r,hr⟩:=AYh hs
 exact(h.perm hr).front (fun e he=>hl e (hr.mem_iff.2 (Aeu.2 (.inl he)))) (fun e he=>hl e (hr.mem_iff.2 (Aeu.2 (.inr he))))
theorem Fo.Lf{N:Nat}{b xs:List Edge}(h:Fo N (b++xs))(hb:∀ e∈b,InE N e)(hx:∀ e∈xs,InE N e):Lf b xs=xs:=by
 have h1:=NW xs b hx
 have h2:=h.front hb hx
 unfold Fo at *
 rw[Aey]at h
 exact(AMA xs b).eq_of_length (by omega)
end Go.Pev.Pl
end
section
namespace Go.Pev.Pl
abbrev Tie:=Int×Int×Int×Bool×Unit
abbrev zT:Tie:=(0,0,0,false,())
def ahead(p x:Tie):Prop:=p.1<x.1∨(p.1=x.1∧p.2.1<x.2.1)
instance (p x:Tie):Decidable (ahead p x):=inferInstanceAs (Decidable (_∨_))
def ed(t:Tie):Edge:=(t.1,t.2.1,())
def trk(ts:List Tie)(k:Int):List Edge:=(ts.filter fun t=>t.2.2.2.1&&decide (k≤t.2.2.1)).map ed
theorem C2{ts:List Tie}{k:Int}{e:Edge}:e∈trk ts k↔∃ t∈ts,t.2.2.2.1=true∧k≤t.2.2.1∧ed t=e:=by
 unfold trk
 simp only[AfB,AfU,Aet,Aer]
 constructor
 ·rintro⟨t,⟨h1,h2,h3⟩,h4⟩;exact⟨t,h1,h2,h3,h4⟩
 ·rintro⟨t,h1,h2,h3,h4⟩;exact⟨t,⟨h1,h2,h3⟩,h4⟩
theorem HH{ts:List Tie}{k k':Int}(h:k≤k'):∀ e∈trk ts k',e∈trk ts k:=by
 intro e he
 obtain⟨t,h1,h2,h3,h4⟩:=C2.1 he
 exact C2.2 ⟨t,h1,h2,by omega,h4⟩
noncomputable def csz(N:Nat)(l:List Edge)(v:Int):Nat:=(List.range N).countP fun(w:Nat)=>No l v (w:Int)
theorem AHz{N:Nat}{l l':List Edge}{v v':Int}(h:∀ w:Nat,w<N→Con l v (w:Int)→Con l' v' (w:Int)):csz N l v≤csz N l' v':=by
 unfold csz
 refine List.countP_mono_left fun w hw hc => ?_
 rw[CY]at hc ⊢
 exact h w (by simpa using hw) hc
theorem Acx{N:Nat}{l:List Edge}{v:Nat}(hv:v<N):1≤csz N l (v:Int):=by
 unfold csz
 refine List.countP_pos_iff.2 ⟨v,by simpa using hv,(CY _ _ _).2 (.refl _)⟩
theorem Acw{N:Nat}{l:List Edge}{a b:Nat}(ha:a<N)(hb:b<N)(hab:a≠b)(h:Con l (a:Int) (b:Int)):2≤csz N l (a:Int):=by
 unfold csz
 rw[AA6 (P:=fun(w:Nat)=>No l (a:Int) (w:Int)) (M:=a) ((CY _ _ _).2 (.refl _)) Ah3 (by simpa using ha)]
 have:0<(List.range N).countP (fun(w:Nat)=>No l (a:Int) (w:Int) && !decide (w=a)):=by
  refine List.countP_pos_iff.2 ⟨b,by simpa using hb,?_⟩
  rw[Aet,CY]
  exact⟨h,by simp;omega⟩
 omega
theorem Aab{N:Nat}{l:List Edge}{e:Edge}(h:¬ Con l e.1 e.2.1):csz N (l++[e]) e.1=csz N l e.1+csz N l e.2.1:=by
 unfold csz
 have key:∀ xs:List Nat,xs.countP (fun(w:Nat)=>No (l++[e]) e.1 (w:Int))=xs.countP (fun(w:Nat)=>No l e.1 (w:Int))+xs.countP (fun(w:Nat)=>No l e.2.1 (w:Int)):=by
  intro xs
  induction xs with
  |nil=>rfl
  |cons x xs ih=>
   rw[Ahb,Ahb,Ahb,ih]
   have hs:Con (l++[e]) e.1 (x:Int)↔Con l e.1 (x:Int)∨Con l e.2.1 (x:Int):=by
    rw[Con.snoc]
    constructor
    ·rintro (h|⟨_,h⟩|⟨_,h⟩)
     ·exact .inl h
     ·exact .inr h
     ·exact .inl h
    ·rintro (h|h)
     ·exact .inl h
     ·exact .inr (.inl ⟨.refl _,h⟩)
   by_cases h1:Con l e.1 (x:Int)
   ·have h2:¬ Con l e.2.1 (x:Int):=fun h2=>h (h1.trans h2.symm)
    rw[(CY _ _ _).2 (hs.2 (.inl h1)),(CY _ _ _).2 h1,(H9 _ _ _).2 h2]
    simp only[AfS,AfD,Ae9];omega
   ·by_cases h2:Con l e.2.1 (x:Int)
    ·rw[(CY _ _ _).2 (hs.2 (.inr h2)),(H9 _ _ _).2 h1,(CY _ _ _).2 h2]
     simp only[AfS,AfD,Ae9];omega
    ·rw[(H9 _ _ _).2 (fun h=>(hs.1 h).elim h1 h2),(H9 _ _ _).2 h1,(H9 _ _ _).2 h2]
     simp only[AfD,Ae9,AgN]
 exact key _
end Go.Pev.Pl
end
section
namespace Go.Pev.Pl
def Yl(top:Int)(t:Tie):Tie:=(t.1,t.2.1,min top (t.2.2.1+1),t.2.2.2.1,())
def Ff(t:Tie):Tie:=(t.1,t.2.1,t.2.2.1,true,())
def both(S:Int→Bool)(t:Tie):Bool:=S t.1&&S t.2.1
def ATS(S:Int→Bool)(t:Tie):Prop:=S t.1≠S t.2.1
instance (S:Int→Bool)(t:Tie):Decidable (ATS S t):=inferInstanceAs (Decidable (_≠_))
def rT(S:Int→Bool)(top i:Int)(t:Tie):Tie:=if t.2.2.2.1=true∧t.2.2.1=i∧both S t=true then Yl top t else t
def rO(S:Int→Bool)(top i:Int)(t:Tie):Tie:=if t.2.2.2.1=false∧t.2.2.1=i∧both S t=true then Yl top t else t
def rB(S:Int→Bool)(top i:Int)(t:Tie):Tie:=if t.2.2.1=i∧both S t=true then Yl top t else t
theorem ADp(S:Int→Bool)(top i:Int)(t:Tie):ed (rT S top i t)=ed t:=by unfold rT;split<;>rfl
theorem AYY(S:Int→Bool)(top i:Int)(t:Tie):ed (rO S top i t)=ed t:=by unfold rO;split<;>rfl
theorem NG(S:Int→Bool)(top i:Int)(t:Tie):(rT S top i t).2.2.2.1=t.2.2.2.1:=by unfold rT;split<;>rfl
theorem AGR(S:Int→Bool)(top i:Int)(t:Tie):(rO S top i t).2.2.2.1=t.2.2.2.1:=by unfold rO;split<;>rfl
theorem AGQ{S:Int→Bool}{top i:Int}{t:Tie}(h:t.2.2.1≤top):t.2.2.1≤(rT S top i t).2.2.1∧(rT S top i t).2.2.1≤top:=by
 unfold rT
 split
 ·show t.2.2.1≤min top (t.2.2.1+1)∧min top (t.2.2.1+1)≤top
  omega
 ·omega
theorem AO2{S:Int→Bool}{top i:Int}{t:Tie}(h:t.2.2.1≤top):t.2.2.1≤(rO S top i t).2.2.1∧(rO S top i t).2.2.1≤top:=by
 unfold rO
 split
 ·show t.2.2.1≤min top (t.2.2.1+1)∧min top (t.2.2.1+1)≤top
  omega
 ·omega
theorem AO1{S:Int→Bool}{top i:Int}{t:Tie}(h:t.2.2.2.1=true):rO S top i t=t:=by
 unfold rO
 rw[Ae3]
 rintro⟨a,_⟩
 rw[h]at a;cases a
theorem L4{S:Int→Bool}{top i:Int}{t:Tie}(h:t.2.2.2.1=false):rT S top i t=t:=by
 unfold rT
 rw[Ae3]
 rintro⟨a,_⟩
 rw[h]at a;cases a
theorem AFK{f:Tie→Tie}(k:Int)(h1:∀ t,ed (f t)=ed t)(h2:∀ t,(f t).2.2.2.1=t.2.2.2.1)(ts:List Tie)(h3:∀ t∈ts,t.2.2.2.1=true→(k≤(f t).2.2.1↔k≤t.2.2.1)):trk (ts.map f) k=trk ts k:=by
 induction ts with
 |nil=>rfl
 |cons t ts ih=>
  have:=ih fun x hx=>h3 x (by simp[hx])
  unfold trk at *
  rw[AfP,Af2,Af2,h2]
  have ht:=h3 t (by simp)
  cases hh:t.2.2.2.1
  ·simp only[AhB,AfD,Ae9];exact this
  ·have hd:decide (k≤(f t).2.2.1)=decide (k≤t.2.2.1):=Af3.2 (ht hh)
   rw[hd]
   simp only[Agw]
   split
   ·rw[AfP,AfP,h1,this]
   ·exact this
section
variable {N:Nat} {top:Int} {O:List Tie} {S:Int→Bool} {i:Int} {c:Int}
theorem Og{k:Int}{e:Edge}:e∈trk (O.map (rT S top i)) k↔∃ t∈O,t.2.2.2.1=true∧k≤(rT S top i t).2.2.1∧ed t=e:=by
 rw[C2]
 constructor
 ·rintro⟨t,ht,h1,h2,h3⟩
  obtain⟨x,hx,rfl⟩:=AfB.1 ht
  rw[NG]at h1
  rw[ADp]at h3
  exact⟨x,hx,h1,h2,h3⟩
 ·rintro⟨t,ht,h1,h2,h3⟩
  exact⟨_,AfB.2 ⟨t,ht,rfl⟩,by rw[NG];exact h1,h2,by rw[ADp];exact h3⟩
theorem Ca{k:Int}(hk:k≤i)(hit:i≤top):trk (O.map (rT S top i)) k=trk O k:=by
 refine AFK k (ADp S top i) (NG S top i) O fun t _ _ => ?_
 unfold rT
 split
 ·rename_i h
  show k≤min top (t.2.2.1+1)↔_
  omega
 ·rfl
theorem AI7{k:Int}(hk:i+2≤k):trk (O.map (rT S top i)) k=trk O k:=by
 refine AFK k (ADp S top i) (NG S top i) O fun t _ _ => ?_
 unfold rT
 split
 ·rename_i h
  show k≤min top (t.2.2.1+1)↔_
  omega
 ·rfl
theorem KH(hl:∀ t∈O,t.2.2.1≤top)(k:Int):∀ e∈trk O k,e∈trk (O.map (rT S top i)) k:=by
 intro e he
 obtain⟨t,h1,h2,h3,h4⟩:=C2.1 he
 have:=AGQ (S:=S) (i:=i) (hl t h1)
 exact Og.2 ⟨t,h1,h2,by omega,h4⟩
variable (hS:∀ a b,Con (trk O i) a b→S a=S b)
include hS
theorem Aad(hl:∀ t∈O,t.2.2.1≤top)(hit:i+1≤top){a b:Int}(h:Con (trk O i) a b)(ha:S a=true):Con (trk (O.map (rT S top i)) (i+1)) a b:=by
 have key:∀ {a b:Int},Con (trk O i) a b→S a=true→Con (trk (O.map (rT S top i)) (i+1)) a b:=by
  intro a b h
  induction h with
  |refl a=>intro _;exact .refl a
  |edge e he=>
   intro ha
   obtain⟨t,h1,h2,h3,rfl⟩:=C2.1 he
   have hb:S t.2.1=true:=by
    have:=hS _ _ (.edge _ he)
    exact this.symm.trans ha
   have hm:ed t∈trk (O.map (rT S top i)) (i+1):=by
    refine Og.2 ⟨t,h1,h2,?_,rfl⟩
    by_cases hlv:t.2.2.1=i
    ·unfold rT
     rw[Ae6 ⟨h2,hlv,by unfold both;rw[show S t.1=true from ha,hb];rfl⟩]
     show i+1≤min top (t.2.2.1+1)
     omega
    ·have:=AGQ (S:=S) (i:=i) (hl t h1)
     omega
   exact .edge _ hm
  |symm h ih=>
   intro ha
   exact(ih (by rw[hS _ _ h];exact ha)).symm
  |trans h1 _ ih1 ih2=>
   intro ha
   exact(ih1 ha).trans (ih2 (by rw[← hS _ _ h1];exact ha))
 exact key h ha
theorem AMl(hit:i≤top){a b:Int}(h:Con (trk (O.map (rT S top i)) (i+1)) a b)(ha:S a=false):Con (trk O (i+1)) a b:=by
 have low:∀ {a b:Int},Con (trk (O.map (rT S top i)) (i+1)) a b→S a=S b:=fun h=>hS _ _ (by
  have:=h.sub (HH (ts:=O.map (rT S top i)) (show i≤i+1 by omega))
  rw[Ca (Int.le_refl i) hit]at this
  exact this)
 have key:∀ {a b:Int},Con (trk (O.map (rT S top i)) (i+1)) a b→S a=false→Con (trk O (i+1)) a b:=by
  intro a b h
  induction h with
  |refl a=>intro _;exact .refl a
  |edge e he=>
   intro ha
   obtain⟨t,h1,h2,h3,rfl⟩:=Og.1 he
   refine .edge _ (C2.2 ⟨t,h1,h2,?_,rfl⟩)
   unfold rT at h3
   rw[Ae3]at h3
   ·exact h3
   ·rintro⟨_,_,hb⟩
    unfold both at hb
    rw[show S t.1=false from ha]at hb
    cases hb
  |symm h ih=>
   intro ha
   exact(ih (by rw[low h];exact ha)).symm
  |trans h1 _ ih1 ih2=>
   intro ha
   exact(ih1 ha).trans (ih2 (by rw[← low h1];exact ha))
 exact key h ha
end
end Go.Pev.Pl
end
section
namespace Go.Pev.Pl
theorem Fo.ASy{N:Nat}{l:List Edge}{e:Edge}(h:Fo N (l++[e]))(hl:∀ x∈l,InE N x)(he:InE N e):¬ Con l e.1 e.2.1:=by
 intro hc
 have h1:=ATZ (N:=N) (l:=l) he
 rw[Ae6 ((CY _ _ _).2 hc)]at h1
 have h2:=Aak l hl
 unfold Fo at h
 rw[Aey,AhR]at h
 omega
theorem Ww{N:Nat}{O:List Tie}(h:∀ x∈O,InE N (ed x))(k:Int):∀ e∈trk O k,InE N e:=by
 intro e he
 obtain⟨t,h1,_,_,rfl⟩:=C2.1 he
 exact h t h1
theorem DP(A B:List Tie)(k:Int):trk (A++B) k=trk A k++trk B k:=by
 unfold trk;rw[Agc,AgP]
theorem Rh(S:Int→Bool)(top i:Int)(A:List Tie)(k:Int):trk (A.map (rO S top i)) k=trk A k:=
 AFK k (AYY S top i) (AGR S top i) A fun t _ h=>by rw[AO1 h]
structure Snd(N:Nat)(top:Int)(O:List Tie):Prop where
 lvl:∀ x∈O,0≤x.2.2.1∧x.2.2.1≤top
 ins:∀ x∈O,InE N (ed x)
 fo:Fo N (trk O 0)
 lie:∀ x∈O,x.2.2.2.1=false→Con (trk O x.2.2.1) x.1 x.2.1
 halv:∀ k:Nat,(k:Int)≤top→∀ v:Nat,v<N→csz N (trk O k) v≤max 1 (N/2 ^ k)
structure N8(N:Nat)(top:Int)(t:Edge)(j:Int)(O:List Tie):Prop where
 lvl:∀ x∈O,0≤x.2.2.1∧x.2.2.1≤top
 ins:∀ x∈O,InE N (ed x)
 it:InE N t
 fo:Fo N (trk O 0++[t])
 lie1:∀ x∈O,x.2.2.2.1=false→j≤x.2.2.1→Con (trk O x.2.2.1) x.1 x.2.1
 lie2:∀ x∈O,x.2.2.2.1=false→x.2.2.1<j→Con (trk O x.2.2.1++[t]) x.1 x.2.1
 halv:∀ k:Nat,(k:Int)≤top→∀ v:Nat,v<N→csz N (trk O k) v≤max 1 (N/2 ^ k)
 halt:∀ k:Nat,(k:Int)<j→(k:Int)≤top→∀ v:Nat,v<N→csz N (trk O k++[t]) v≤max 1 (N/2 ^ k)
structure PK(N:Nat)(t:Edge)(i:Nat)(O:List Tie)(S:Int→Bool)(c:Nat):Prop where
 cN:c<N
 at_:t.1=(c:Int)∨t.2.1=(c:Int)
 side:∀ w:Nat,w<N→(S (w:Int)=true↔Con (trk O i) (c:Int) (w:Int))
 less:2*csz N (trk O i) (c:Int)≤csz N (trk O i) t.1+csz N (trk O i) t.2.1
section
variable {N:Nat} {top:Int} {t:Edge} {O:List Tie} {S:Int→Bool} {i c:Nat}
theorem PK.closed(hL:PK N t i O S c)(hi:∀ x∈O,InE N (ed x)):∀ a b,Con (trk O i) a b→S a=S b:=by
 intro a b h
 rcases Con.within (I:=fun a=>0≤a∧a<(N:Int)) (fun e he=>Ww hi i e he) h with rfl|⟨⟨a1,a2⟩,b1,b2⟩
 ·rfl
 ·obtain⟨u,rfl⟩:=Ae1 a1
  obtain⟨v,rfl⟩:=Ae1 b1
  have h1:=hL.side u (by omega)
  have h2:=hL.side v (by omega)
  rw[AhH,h1,h2]
  exact⟨fun q=>q.trans h,fun q=>q.trans h.symm⟩
theorem PK.ATK(hL:PK N t i O S c):S (c:Int)=true:=(hL.side c hL.cN).2 (.refl _)
theorem PK.con(hL:PK N t i O S c){a b:Int}(ia:0≤a∧a<(N:Int))(ib:0≤b∧b<(N:Int))(ha:S a=true)(hb:S b=true):Con (trk O i) a b:=by
 obtain⟨u,rfl⟩:=Ae1 ia.1
 obtain⟨v,rfl⟩:=Ae1 ib.1
 exact((hL.side u (by omega)).1 ha).symm.trans ((hL.side v (by omega)).1 hb)
variable (hG:N8 N top t ((i:Int)+1) O) (hit:(i:Int)≤top) (hL:PK N t i O S c)
include hG
theorem N8.apart(k:Nat):¬ Con (trk O (k:Int)) t.1 t.2.1:=fun h=>hG.fo.ASy (Ww hG.ins 0) hG.it (h.sub (HH (by omega)))
include hit hL
theorem N8.half(hi1:(i:Int)+1≤top):csz N (trk O i) (c:Int)≤N/2 ^ (i+1):=by
 obtain⟨⟨a1,a2⟩,b1,b2⟩:=hG.it
 obtain⟨u,hu⟩:=Ae1 a1
 have hj:=Aab (N:=N) (hG.apart i)
 have hh:=hG.halt i (by omega) hit u (by omega)
 rw[← hu,hj]at hh
 have hp:=Acx (N:=N) (l:=trk O i) hL.cN
 have hl:=hL.less
 have e:N/2 ^ (i+1)=N/2 ^ i/2:=by rw[Nat.pow_succ,Nat.div_div_eq_div_mul]
 rw[e]
 omega
theorem N8.AdH(k:Nat)(hk:(k:Int)≤top)(v:Nat)(hv:v<N):csz N (trk (O.map (rT S top i)) k) v≤max 1 (N/2 ^ k):=by
 have hS:=hL.closed hG.ins
 have hl:∀ x∈O,x.2.2.1≤top:=fun x hx=>(hG.lvl x hx).2
 rcases Ahp k (i+1)with h|rfl|h
 ·rw[Ca (by omega) hit];exact hG.halv k hk v hv
 ·cases hsv:S (v:Int)
  ·refine Afv (AHz fun w hw hc => ?_) (hG.halv (i+1) hk v hv)
   have:=AMl hS hit (a:=(v:Int)) (b:=(w:Int)) (by simpa using hc) hsv
   simpa using this
  ·have hle:csz N (trk (O.map (rT S top i)) ((i+1:Nat):Int)) v≤csz N (trk O i) (c:Int):=AHz fun w hw hc=>by
    have h1:=hc.sub (HH (ts:=O.map (rT S top i)) (show(i:Int)≤((i+1:Nat):Int) by omega))
    rw[Ca (Int.le_refl _) hit]at h1
    exact((hL.side v hv).1 hsv).trans h1
   have:=hG.half hit hL (by omega)
   omega
 ·rw[AI7 (by omega)];exact hG.halv k hk v hv
omit hL
theorem Ym{x:Tie}(hx:x∈O.map (rT S top i))(h:x.2.2.2.1=false):x∈O:=by
 obtain⟨y,hy,rfl⟩:=AfB.1 hx
 rw[NG]at h
 rw[L4 h];exact hy
include hL
theorem N8.Z8{x:Tie}(hx:x∈O)(h1:x.2.2.1=(i:Int))(h2:both S x=true):Con (trk (O.map (rT S top i)) (min top (x.2.2.1+1))) x.1 x.2.1:=by
 have hS:=hL.closed hG.ins
 unfold both at h2
 rw[Aet]at h2
 have hc:=hL.con (hG.ins x hx).1 (hG.ins x hx).2 h2.1 h2.2
 by_cases hi1:(i:Int)+1≤top
 ·rw[h1,Int.min_eq_right hi1]
  exact Aad hS (fun x hx=>(hG.lvl x hx).2) hi1 hc h2.1
 ·rw[h1,Int.min_eq_left (by omega),show top=(i:Int) by omega]
  have:=Ca (O:=O) (S:=S) (top:=top) (i:=(i:Int)) (k:=(i:Int)) (Int.le_refl _) hit
  rw[show top=(i:Int) by omega]at this
  rw[this];exact hc
theorem N8.next(hno:∀ x∈O.map (rT S top i),x.2.2.2.1=false→x.2.2.1=(i:Int)→¬ ATS S x):N8 N top t (i:Int) ((O.map (rT S top i)).map (rO S top i)):=by
 have hS:=hL.closed hG.ins
 have hl:∀ x∈O,x.2.2.1≤top:=fun x hx=>(hG.lvl x hx).2
 have hmem:∀ x∈(O.map (rT S top i)).map (rO S top i),∃ y∈O,x=rO S top i (rT S top i y):=fun x hx=>by
  obtain⟨z,hz,rfl⟩:=AfB.1 hx
  obtain⟨y,hy,rfl⟩:=AfB.1 hz
  exact⟨y,hy,rfl⟩
 have hlv:∀ y∈O,y.2.2.1≤(rO S top i (rT S top i y)).2.2.1∧(rO S top i (rT S top i y)).2.2.1≤top:=fun y hy=>by
  have h1:=AGQ (S:=S) (i:=(i:Int)) (hl y hy)
  have h2:=AO2 (S:=S) (i:=(i:Int)) h1.2
  omega
 have hoth:∀ x∈(O.map (rT S top i)).map (rO S top i),x.2.2.2.1=false→∃ y∈O,y.2.2.2.1=false∧x=rO S top i y:=fun x hx h=>by
  obtain⟨y,hy,rfl⟩:=hmem x hx
  rw[AGR,NG]at h
  exact⟨y,hy,h,by rw[L4 h]⟩
 refine⟨fun x hx => ?_,fun x hx => ?_,hG.it,?_,fun x hx h hj => ?_,fun x hx h hj => ?_,fun k hk v hv => ?_,fun k hk1 hk2 v hv => ?_⟩
 ·obtain⟨y,hy,rfl⟩:=hmem x hx
  have:=hlv y hy
  have:=(hG.lvl y hy).1
  omega
 ·obtain⟨y,hy,rfl⟩:=hmem x hx
  rw[AYY,ADp];exact hG.ins y hy
 ·rw[Rh,Ca (by omega) hit];exact hG.fo
 ·obtain⟨y,hy,hf,rfl⟩:=hoth x hx h
  rw[Rh]
  by_cases hr:y.2.2.1=(i:Int)∧both S y=true
  ·have he:rO S top i y=Yl top y:=by unfold rO;rw[Ae6 ⟨hf,hr.1,hr.2⟩]
   rw[he]
   exact hG.Z8 hit hL hy hr.1 hr.2
  ·have he:rO S top i y=y:=by unfold rO;rw[Ae3 (fun q=>hr ⟨q.2.1,q.2.2⟩)]
   rw[he]at hj ⊢
   by_cases hi:y.2.2.1=(i:Int)
   ·have hnb:¬ both S y=true:=fun q=>hr ⟨hi,q⟩
    have hne:=hno y (AfB.2 ⟨y,hy,L4 hf⟩) hf hi
    have h2:=hG.lie2 y hy hf (by omega)
    rw[hi,Ca (Int.le_refl _) hit]
    rw[hi]at h2
    unfold ATS at hne
    have hne:=AhO.1 hne
    have hfalse:S y.1=false∧S y.2.1=false:=by
     unfold both at hnb
     rw[← hne]at hnb ⊢
     cases hsy:S y.1
     ·exact⟨rfl,rfl⟩
     ·rw[hsy]at hnb;exact absurd rfl hnb
    rw[Con.snoc]at h2
    rcases h2 with h2|⟨q1,q2⟩|⟨q1,q2⟩
    ·exact h2
    ·have e1:=hS _ _ q1
     have e2:=hS _ _ q2
     rcases hL.at_ with hc|hc
     ·rw[hc,hL.ATK,hfalse.1]at e1;cases e1
     ·rw[hc,hL.ATK,hfalse.2]at e2;cases e2
    ·have e1:=hS _ _ q1
     have e2:=hS _ _ q2
     rcases hL.at_ with hc|hc
     ·rw[hc,hL.ATK,hfalse.2]at e2;cases e2
     ·rw[hc,hL.ATK,hfalse.1]at e1;cases e1
   ·exact(hG.lie1 y hy hf (by omega)).sub (KH hl _)
 ·obtain⟨y,hy,hf,rfl⟩:=hoth x hx h
  have h1:=AO2 (S:=S) (i:=(i:Int)) (hl y hy)
  have he:rO S top i y=y:=by unfold rO;rw[Ae3 (fun q=>by have:=q.2.1;omega)]
  rw[he]at hj ⊢
  rw[Rh,Ca (by omega) hit]
  exact hG.lie2 y hy hf (by omega)
 ·rw[Rh];exact hG.AdH hit hL k hk v hv
 ·rw[Rh,Ca (by omega) hit];exact hG.halt k (by omega) hk2 v hv
theorem N8.found{A B:List Tie}{x:Tie}(hsp:O.map (rT S top i)=A++x::B)(hf:x.2.2.2.1=false)(hi:x.2.2.1=(i:Int))(hx:ATS S x):
  Snd N top (A.map (rO S top i)++Ff x::B)∧Con (trk (A.map (rO S top i)++Ff x::B) 0) t.1 t.2.1:=by
 have hS:=hL.closed hG.ins
 have hl:∀ x∈O,x.2.2.1≤top:=fun x hx=>(hG.lvl x hx).2
 have hxM:x∈O.map (rT S top i):=by rw[hsp];simp
 have hxO:x∈O:=Ym hG hit hxM hf
 have hAm:∀ y∈A,y∈O.map (rT S top i):=fun y hy=>by rw[hsp];simp[hy]
 have hBm:∀ y∈B,y∈O.map (rT S top i):=fun y hy=>by rw[hsp];simp[hy]
 have hml:∀ y∈O.map (rT S top i),0≤y.2.2.1∧y.2.2.1≤top:=fun y hy=>by
  obtain⟨z,hz,rfl⟩:=AfB.1 hy
  have:=AGQ (S:=S) (i:=(i:Int)) (hl z hz)
  have:=(hG.lvl z hz).1
  omega
 have hme:∀ y∈O.map (rT S top i),InE N (ed y):=fun y hy=>by
  obtain⟨z,hz,rfl⟩:=AfB.1 hy
  rw[ADp];exact hG.ins z hz
 have hxt:trk [x]=fun _=>[]:=by
  funext k
  unfold trk
  rw[Af2,hf]
  rfl
 have hat:∀ k,trk [Ff x] k=if k≤(i:Int)then [ed x]else []:=by
  intro k
  unfold trk
  have q1:(Ff x).2.2.1=(i:Int):=hi
  have q2:(Ff x).2.2.2.1=true:=rfl
  rw[Af2,q1,q2]
  by_cases hk:k≤(i:Int)
  ·rw[Ae6 hk,Aeq hk];rfl
  ·rw[Ae3 hk,Aeo hk];rfl
 have hM:∀ k,trk (O.map (rT S top i)) k=trk A k++trk B k:=by
  intro k
  rw[hsp,show A++x::B=A++([x]++B)from rfl,DP,DP,hxt,AfQ]
 have hO':∀ k,trk (A.map (rO S top i)++Ff x::B) k=trk A k++((if k≤(i:Int)then [ed x]else [])++trk B k):=by
  intro k
  rw[show A.map (rO S top i)++Ff x::B=A.map (rO S top i)++([Ff x]++B)from rfl,DP,DP,Rh,hat]
 have hsup:∀ k,∀ e∈trk (O.map (rT S top i)) k,e∈trk (A.map (rO S top i)++Ff x::B) k:=by
  intro k e he
  rw[hM]at he
  rw[hO']
  rcases Aeu.1 he with he|he
  ·exact Aeu.2 (.inl he)
  ·exact Aeu.2 (.inr (Aeu.2 (.inr he)))
 have hxin:∀ k,k≤(i:Int)→ed x∈trk (A.map (rO S top i)++Ff x::B) k:=by
  intro k hk
  rw[hO',Ae6 hk];simp
 have h2:=hG.lie2 x hxO hf (by omega)
 rw[hi]at h2
 have ht:Con (trk O i++[ed x]) t.1 t.2.1:=by
  have up:∀ {a b:Int},Con (trk O i) a b→Con (trk O i++[ed x]) a b:=fun c=>c.sub fun e he=>Aeu.2 (.inl he)
  have hxe:Con (trk O i++[ed x]) x.1 x.2.1:=.edge (l:=trk O i++[ed x]) (ed x) (by simp)
  rw[Con.snoc]at h2
  rcases h2 with h2|⟨q1,q2⟩|⟨q1,q2⟩
  ·exact absurd (hS _ _ h2) hx
  ·exact((up q1).symm.trans hxe).trans (up q2).symm
  ·exact((up q2).trans hxe.symm).trans (up q1)
 have ht':∀ k,k≤(i:Int)→Con (trk (A.map (rO S top i)++Ff x::B) k) t.1 t.2.1:=by
  intro k hk
  refine ht.sub fun e he => ?_
  rcases Aeu.1 he with he|he
  ·exact HH hk _ (hsup _ _ (KH hl _ _ he))
  ·rw[AfH]at he;subst he;exact hxin k hk
 refine⟨⟨fun y hy => ?_,fun y hy => ?_,?_,fun y hy h => ?_,fun k hk v hv => ?_⟩,ht' 0 (by omega)⟩
 ·rcases Aeu.1 hy with hy|hy
  ·obtain⟨z,hz,rfl⟩:=AfB.1 hy
   have h1:=hml z (hAm z hz)
   have:=AO2 (S:=S) (i:=(i:Int)) h1.2
   omega
  ·rcases Aew.1 hy with rfl|hy
   ·exact hG.lvl x hxO
   ·exact hml y (hBm y hy)
 ·rcases Aeu.1 hy with hy|hy
  ·obtain⟨z,hz,rfl⟩:=AfB.1 hy
   rw[AYY];exact hme z (hAm z hz)
  ·rcases Aew.1 hy with rfl|hy
   ·exact hG.ins x hxO
   ·exact hme y (hBm y hy)
 ·rw[hO',Ae6 (by omega)]
  have hM0:=hM 0
  rw[Ca (by omega) hit]at hM0
  have hp:(trk A 0++([ed x]++trk B 0)).Perm (trk O 0++[ed x]):=by
   rw[hM0,Aft]
   exact List.Perm.append_left _ AgY
  refine Fo.perm ?_ hp.symm
  have hfo:=hG.fo
  have hcc:cc N (trk O 0++[ed x])=cc N (trk O 0++[t]):=ABR fun a b=>by
   have m0:=HH (ts:=O) (show(0:Int)≤(i:Int) by omega)
   constructor
   ·intro c
    refine c.cut fun e he => ?_
    rcases Aeu.1 he with he|he
    ·exact .edge _ (Aeu.2 (.inl he))
    ·rw[AfH]at he;subst he
     refine h2.sub fun e he => ?_
     rcases Aeu.1 he with he|he
     ·exact Aeu.2 (.inl (m0 _ he))
     ·exact Aeu.2 (.inr he)
   ·intro c
    refine c.cut fun e he => ?_
    rcases Aeu.1 he with he|he
    ·exact .edge _ (Aeu.2 (.inl he))
    ·rw[AfH]at he;subst he
     refine ht.sub fun e he => ?_
     rcases Aeu.1 he with he|he
     ·exact Aeu.2 (.inl (m0 _ he))
     ·exact Aeu.2 (.inr he)
  unfold Fo at hfo ⊢
  rw[hcc,Aey]at *
  exact hfo
 ·-- others
  have key:∀ y:Tie,y∈O→y.2.2.2.1=false→Con (trk (A.map (rO S top i)++Ff x::B) y.2.2.1) y.1 y.2.1:=by
   intro y hy h
   by_cases hle:y.2.2.1≤(i:Int)
   ·refine(hG.lie2 y hy h (by omega)).cut fun e he => ?_
    rcases Aeu.1 he with he|he
    ·exact .edge _ (hsup _ _ (KH hl _ _ he))
    ·rw[AfH]at he;subst he;exact ht' _ hle
   ·exact(hG.lie1 y hy h (by omega)).sub fun e he=>hsup _ _ (KH hl _ _ he)
  rcases Aeu.1 hy with hy|hy
  ·obtain⟨z,hz,rfl⟩:=AfB.1 hy
   rw[AGR]at h
   have hzO:=Ym hG hit (hAm z hz) h
   by_cases hr:z.2.2.1=(i:Int)∧both S z=true
   ·have he:rO S top i z=Yl top z:=by unfold rO;rw[Ae6 ⟨h,hr.1,hr.2⟩]
    rw[he]
    exact(hG.Z8 hit hL hzO hr.1 hr.2).sub (hsup _)
   ·have he:rO S top i z=z:=by unfold rO;rw[Ae3 (fun q=>hr ⟨q.2.1,q.2.2⟩)]
    rw[he]
    exact key z hzO h
  ·rcases Aew.1 hy with rfl|hy
   ·cases h
   ·exact key y (Ym hG hit (hBm y hy) h) h
 ·by_cases hki:(k:Int)≤(i:Int)
  ·refine Afv (AHz fun w hw hc => ?_) (hG.halt k (by omega) hk v hv)
   refine hc.cut fun e he => ?_
   rw[hO',Ae6 hki]at he
   have hMk:=hM (k:Int)
   rw[Ca hki hit]at hMk
   rcases Aeu.1 he with he|he
   ·exact .edge _ (Aeu.2 (.inl (by rw[hMk];simp[he])))
   ·rcases Aeu.1 he with he|he
    ·rw[AfH]at he;subst he
     refine h2.sub fun e he => ?_
     rcases Aeu.1 he with he|he
     ·exact Aeu.2 (.inl (HH hki _ he))
     ·exact Aeu.2 (.inr he)
    ·exact .edge _ (Aeu.2 (.inl (by rw[hMk];simp[he])))
  ·have:trk (A.map (rO S top i)++Ff x::B) (k:Int)=trk (O.map (rT S top i)) (k:Int):=by
    rw[hO',Ae3 hki,hM];rfl
   rw[this]
   exact hG.AdH hit hL k hk v hv
end
theorem N8.end{N:Nat}{top:Int}{t:Edge}{O:List Tie}(h:N8 N top t 0 O):Snd N top O∧¬ Con (trk O 0) t.1 t.2.1:=by
 refine⟨⟨h.lvl,h.ins,h.fo.front (Ww h.ins 0) (fun e he=>by rw[AfH]at he;subst he;exact h.it),fun x hx hf=>h.lie1 x hx hf (h.lvl x hx).1,h.halv⟩,h.fo.ASy (Ww h.ins 0) h.it⟩
theorem Snd.other{N:Nat}{top:Int}{P Q:List Tie}{t:Tie}(h:Snd N top (P++t::Q))(ht:t.2.2.2.1=false):Snd N top (P++Q):=by
 have hm:∀ x∈P++Q,x∈P++t::Q:=fun x hx=>by
  rcases Aeu.1 hx with hx|hx
  ·simp[hx]
  ·simp[hx]
 have htk:∀ k,trk (P++t::Q) k=trk (P++Q) k:=by
  intro k
  rw[show P++t::Q=P++([t]++Q)from rfl,DP,DP,DP]
  congr 1
  unfold trk
  rw[Af2,ht]
  rfl
 refine⟨fun x hx=>h.lvl x (hm x hx),fun x hx=>h.ins x (hm x hx),by rw[← htk];exact h.fo,fun x hx hf=>by rw[← htk];exact h.lie x (hm x hx) hf,fun k hk v hv=>by rw[← htk];exact h.halv k hk v hv⟩
theorem Snd.span{N:Nat}{top:Int}{O:List Tie}(h:Snd N top O)(a b:Int):Con (O.map ed) a b↔Con (trk O 0) a b:=by
 constructor
 ·intro c
  refine c.cut fun e he => ?_
  obtain⟨x,hx,rfl⟩:=AfB.1 he
  cases hf:x.2.2.2.1
  ·exact(h.lie x hx hf).sub (HH (h.lvl x hx).1)
  ·exact .edge _ (C2.2 ⟨x,hx,hf,(h.lvl x hx).1,rfl⟩)
 ·intro c
  refine c.sub fun e he => ?_
  obtain⟨x,h1,_,_,rfl⟩:=C2.1 he
  exact AfB.2 ⟨x,h1,rfl⟩
end Go.Pev.Pl
end
section
namespace Go.Pev.Pl
theorem Snd.below{N:Nat}{top:Nat}{O:List Tie}(h:Snd N (top:Int) O)(hN:N/2 ^ top≤1){x:Tie}(hx:x∈O)(hne:x.1≠x.2.1):x.2.2.1<(top:Int):=by
 have hl:=h.lvl x hx
 refine Afl fun hn => ?_
 have he:x.2.2.1=(top:Int):=by omega
 obtain⟨⟨a1,a2⟩,b1,b2⟩:=h.ins x hx
 obtain⟨u,hu⟩:=Ae1 a1
 obtain⟨v,hv⟩:=Ae1 b1
 have hc:Con (trk O (top:Int)) x.1 x.2.1:=by
  cases hf:x.2.2.2.1
  ·have:=h.lie x hx hf
   rw[he]at this;exact this
  ·exact .edge (l:=trk O (top:Int)) (ed x) (C2.2 ⟨x,hx,hf,by omega,rfl⟩)
 have hu':x.1=(u:Int):=hu
 have hv':x.2.1=(v:Int):=hv
 rw[hu',hv']at hc hne
 have h2:=Acw (N:=N) (a:=u) (b:=v) (by omega) (by omega) (by omega) hc
 have h3:=h.halv top (Int.le_refl _) u (by omega)
 omega
theorem Snd.grown{N:Nat}{top:Int}{O O':List Tie}{come:List Edge}{new:List Tie}(h:Snd N top O)(ht:0≤top)(hp:O'.Perm (O++new))(hc:∀ e∈come,InE N e)
  (hn:∀ x∈new,x.2.2.1=0∧ed x∈come) (htr:(trk O' 0).Perm (trk O 0++Lf (trk O 0) come)):Snd N top O':=by
 have hmem:∀ x,x∈O'↔x∈O∨x∈new:=fun x=>by rw[hp.mem_iff,Aeu]
 have hk:∀ k:Int,0<k→∀ e,e∈trk O' k↔e∈trk O k:=by
  intro k hk e
  rw[C2,C2]
  constructor
  ·rintro⟨t,h1,h2,h3,h4⟩
   rcases(hmem t).1 h1 with h1|h1
   ·exact⟨t,h1,h2,h3,h4⟩
   ·have:=(hn t h1).1;omega
  ·rintro⟨t,h1,h2,h3,h4⟩
   exact⟨t,(hmem t).2 (.inl h1),h2,h3,h4⟩
 have hsup:∀ k:Int,∀ e∈trk O k,e∈trk O' k:=fun k e he=>by
  obtain⟨t,h1,h2,h3,h4⟩:=C2.1 he
  exact C2.2 ⟨t,(hmem t).2 (.inl h1),h2,h3,h4⟩
 refine⟨fun x hx => ?_,fun x hx => ?_,?_,fun x hx hf => ?_,fun k hkt v hv => ?_⟩
 ·rcases(hmem x).1 hx with hx|hx
  ·exact h.lvl x hx
  ·have:=(hn x hx).1;omega
 ·rcases(hmem x).1 hx with hx|hx
  ·exact h.ins x hx
  ·exact hc _ (hn x hx).2
 ·refine Fo.perm ?_ htr.symm
  have h1:=NW come (trk O 0) hc
  have h2:cc N (trk O 0++come)=cc N (trk O 0++Lf (trk O 0) come):=ABR fun a b=>ABI come (trk O 0)
  have h3:=h.fo
  unfold Fo at *
  rw[Aey]
  omega
 ·rcases(hmem x).1 hx with hx|hx
  ·exact(h.lie x hx hf).sub (hsup _)
  ·obtain⟨h0,he⟩:=hn x hx
   rw[h0,AH2 fun e=>htr.mem_iff,← ABI]
   exact .edge (l:=trk O 0++come) (ed x) (Aeu.2 (.inr he))
 ·by_cases hk0:k=0
  ·subst hk0
   have:csz N (trk O' ((0:Nat):Int)) (v:Int)≤N:=by
    unfold csz
    have:=List.countP_le_length (p:=fun(w:Nat)=>No (trk O' ((0:Nat):Int)) (v:Int) (w:Int)) (l:=List.range N)
    rw[Afr]at this
    exact this
   simp only[Nat.pow_zero,Nat.div_one]
   omega
  ·exact Afv (AHz fun w hw c=>c.sub fun e he=>(hk k (by omega) e).1 he) (h.halv k hkt v hv)
end Go.Pev.Pl
end
section
namespace Go.Pev.Pl
end Go.Pev.Pl
end
section
section
namespace Go.Pev.Pl
structure UF(N:Nat)(s:List Int)(c:Int→Int):Prop where
 len:s.length=N
 lo:∀ k,k<N→0≤s.getD k 0∧s.getD k 0≤(k:Int)
 par:∀ k,k<N→c (s.getD k 0)=c (k:Int)
 root:∀ k,k<N→s.getD k 0=(k:Int)→c (k:Int)=(k:Int)
 le:∀ k,k<N→0≤c (k:Int)∧c (k:Int)≤(k:Int)
theorem UF.idem{N:Nat}{s:List Int}{c:Int→Int}(h:UF N s c):∀ (m k:Nat),k≤m→k<N→c (c (k:Int))=c (k:Int):=by
 intro m
 induction m with
 |zero=>
  intro k hk hN
  have:=h.le k hN
  have e:c (k:Int)=(k:Int):=by omega
  rw[e,e]
 |succ m ih=>
  intro k hk hN
  have h1:=h.lo k hN
  by_cases hr:s.getD k 0=(k:Int)
  ·have e:=h.root k hN hr
   rw[e,e]
  ·obtain⟨j,hj⟩:=Ae1 h1.1
   have hp:=h.par k hN
   rw[hj]at hp
   rw[← hp]
   exact ih j (by omega) (by omega)
theorem UF.top{N:Nat}{s:List Int}{c:Int→Int}(h:UF N s c){k:Nat}(hk:k<N):s.getD (c (k:Int)).toNat 0=c (k:Int):=by
 have h1:=h.le k hk
 obtain⟨j,hj⟩:=Ae1 h1.1
 have hi:=h.idem k k (Aez _) hk
 rw[hj]at hi ⊢
 have hjN:j<N:=by omega
 have h2:=h.lo j hjN
 have hp:=h.par j hjN
 obtain⟨i,hi'⟩:=Ae1 h2.1
 rw[hi']at hp
 have h3:=h.le i (by omega)
 show s.getD j 0=_
 omega
theorem KQ{N i x:Nat}(h:(List.range N)[i]? = some x):x=i:=by
 rw[Afy]at h
 obtain⟨h1,h2⟩:=h
 simpa using h2.symm
def AdD(c:Int→Int)(u v:Int):Int→Int:=fun x=>if c x=max (c u) (c v)then min (c u) (c v)else c x
def Aaw(N:Nat)(c:Int→Int)(l:List Edge):Prop:=∀ a b,In (N:Int) a→In (N:Int) b→(c a=c b↔Con l a b)
theorem Aaw.snoc{N:Nat}{c:Int→Int}{l:List Edge}{e:Edge}(h:Aaw N c l)(h1:In (N:Int) e.1)(h2:In (N:Int) e.2.1):Aaw N (AdD c e.1 e.2.1) (l++[e]):=by
 intro a b ia ib
 rw[Con.snoc,← h a b ia ib,← h a _ ia h1,← h _ b h2 ib,← h a _ ia h2,← h _ b h1 ib]
 unfold AdD
 generalize c a=x
 generalize c b=y
 generalize c e.1=u
 generalize c e.2.1=v
 split<;>split<;>omega
end Go.Pev.Pl
end
section
namespace Go.Pev.Pl
def sh(n:Int):Prop:=0≤n∧n≤65535
instance (n:Int):Decidable (sh n):=inferInstanceAs (Decidable (_∧_))
def tw(n:Int):List Int:=[n/256,n % 256]
end Go.Pev.Pl
end
section
namespace Go.Pev.Pl
abbrev Res:=Int×Int×List Int×Unit
def val(r:Res):Prop:=(0≤r.1∧r.1≤255)∧sh r.2.1∧sh (r.2.2.1.length:Int)∧∀ x∈r.2.2.1,sh x
instance (r:Res):Decidable (val r):=inferInstanceAs (Decidable (_∧_∧_∧_))
def enc(r:Res):List Int:=r.1::(tw r.2.1++(tw (r.2.2.1.length:Int)++r.2.2.1.flatMap tw))
end Go.Pev.Pl
end
section
namespace Go.Pev.Pl
theorem NP(a:Int):ieq a a=true:=by rw[B5];simp
end Go.Pev.Pl
end
section
namespace Go.Pev.Pl
open Go.RowKit Tok
section
variable {n:Int} {rings:List (List Int)}
theorem AL9{l:List Edge}{out:List Int}(h:FC n rings l)(hc:T6 n l out){A:List Int}{u:Int}(hA:A∈rings)(iu:In n u)(hu:u∈A):hd A=cl out u:=by
 have gA:=h.fr.rg A hA
 have ih:=Na gA
 have hh:=S2 gA.2.1
 have h1:Con l u (hd A):=(h.sam u (hd A) iu ih).1 ⟨A,hA,hu,hh⟩
 have h2:=hc.least u (hd A) iu ih h1
 have h3:=hc.isin u iu
 obtain⟨K,hK,k1,k2⟩:=(h.sam u _ iu h3).2 (hc.con u iu)
 have:=h.fr.one hA hK iu.2.2.2 hu k1
 subst this
 have h4:=(EU gA.2.1).2 _ k2
 rw[gA.2.2.1]at h4
 have:hd A=A.headD 0:=rfl
 omega
end
end Go.Pev.Pl
end
section
namespace Go.Pev.Pl
def IJ(n:Nat):Int:=((@X0 idI ((n:Int),())).getD (0,())).1
theorem Aee:((List.range 65).all fun k=>decide (@X0 idI ((k:Int),())=some (IJ k,())))=true:=by kernel_rfl
theorem AeK:((List.range 65).all fun k=>decide (@AHE idI ((k:Int),())=some (IJ k,())))=true:=by kernel_rfl
theorem AT8(n:Nat)(h:n≤64):X0 ((n:Int),())=some (IJ n,()):=by
 rw[show X0 ((n:Int),()) = @X0 idI ((n:Int),())from Af5 (fun i=>@X0 i ((n:Int),())) Z7]
 exact Agv (AfE.1 Aee n (by simp;omega))
theorem ALb(n:Nat)(h:n≤64):AHE ((n:Int),())=some (IJ n,()):=by
 rw[show AHE ((n:Int),()) = @AHE idI ((n:Int),())from Af5 (fun i=>@AHE i ((n:Int),())) Z7]
 exact Agv (AfE.1 AeK n (by simp;omega))
def Acz(a b:Int):Int:=if a<b then -1 else if b<a then 1 else 0
theorem AH3(a b:Int):DX (a,b,())=some (Acz a b,()):=by
 rw[GO,EE]
 simp only[KY,KZ,NP,Ae0]
 unfold Acz
 rw[Ai,Ai]
 by_cases h:a<b
 ·rw[Aeq h,Ae6 h]
 ·rw[Aeo h,Ae3 h]
  by_cases h':b<a
  ·rw[Aeq h',Ae6 h']
  ·rw[Aeo h',Ae3 h']
theorem AcB(a b:Int):orI ([a,b],())=some (if a=0 then b else a,()):=by
 rw[AGv,AD6]
 have e:=MZ (step:=FI) (fun i=>(0,[a,b],AH [a,b],(i:Int),())) [a,b] (fun x => !decide (x=0)) (fun i=>.inl ([a,b].getD i 0,())) (.inr (.inl (0,()))) (by simp)
  (fun i x hi hx=>by
   rw[FI,AL,AN,Aeq hi]
   simp only[Aj hx,Ao]
   have hi2:i<2:=hi
   rw[AP (by omega)]
   have hg:[a,b].getD i 0=x:=by rw[Aes,hx];rfl
   rw[hg]
   by_cases h:x=0
   ·simp[h]
   ·simp[h])
  (by rw[FI,AL,AN,Aeo (by omega)])
 have e':AU FI many (0,[a,b],AH [a,b],(0:Int),())=_:=e
 rw[e']
 by_cases h:a=0
 ·by_cases h':b=0
  ·simp[h,h']
  ·simp[h,h',Ag8]
 ·simp[h,Ag8]
theorem AHN(p x:Tie):∃ y,Jv (p,x,())=some (y,())∧ile 0 y = !decide (ahead p x):=by
 rw[VN,Kj]
 simp only[AH3,AcB]
 refine⟨_,rfl,?_⟩
 rw[Az]
 by_cases h:ahead p x
 ·rw[Aeq h]
  unfold ahead at h
  unfold Acz
  rw[Aeo];· rfl
  split<;>split<;>(try split)<;>omega
 ·rw[Aeo h]
  unfold ahead at h
  unfold Acz
  rw[Aeq];· rfl
  split<;>split<;>(try split)<;>omega
def Le(N:Nat)(ts:List Tie)(i:Nat):Prop:=
 0≤(ts.getD i zT).1∧(ts.getD i zT).1<(ts.getD i zT).2.1∧(ts.getD i zT).2.1<(N:Int)∧0≤(ts.getD i zT).2.2.1∧(ts.getD i zT).2.2.1≤IJ N∧(i=0∨ahead (ts.getD (i-1) zT) (ts.getD i zT))
instance (N:Nat)(ts:List Tie)(i:Nat):Decidable (Le N ts i):=inferInstanceAs (Decidable (_∧_∧_∧_∧_∧_))
def trs(ts:List Tie)(k:Nat):List Edge:=(List.range k).foldl (fun a i=>if(ts.getD i zT).2.2.2.1=true then a++[ed (ts.getD i zT)]else a) []
theorem AIo{α β ρ:Type}(P:β→Prop)[DecidablePred P](g:β→α→α)(fin:α→ρ)(rt:ρ):∀ (xs:List β) (a:α),walk (fun x a=>if P x then .inl (g x a)else .inr rt) fin xs a=if ∀ x∈xs,P x then fin (xs.foldl (fun a x=>g x a) a)else rt:=by
 intro xs
 induction xs with
 |nil=>intro a;simp[walk]
 |cons x xs ih=>
  intro a
  rw[walk]
  by_cases h:P x
  ·rw[Ae6 h]
   simp only[]
   rw[ih]
   simp[h]
  ·rw[Ae3 h]
   simp[h]
theorem Xp(ts:List Tie)(k:Nat):trs ts (k+1)=if(ts.getD k zT).2.2.2.1=true then trs ts k++[ed (ts.getD k zT)]else trs ts k:=by
 unfold trs
 rw[AgC,List.foldl_append]
 rfl
theorem AFI(ts:List Tie):∀ k,(trs ts k).length≤k:=by
 intro k
 induction k with
 |zero=>exact Aez _
 |succ k ih=>
  rw[Xp]
  split
  ·rw[Aey];simp;omega
  ·omega
theorem Aa9(ts:List Tie)(e:Edge):∀ k,e∈trs ts k→∃ i,i<k∧e=ed (ts.getD i zT):=by
 intro k
 induction k with
 |zero=>intro h;simp[trs]at h
 |succ k ih=>
  intro h
  rw[Xp]at h
  split at h
  ·rcases Aeu.1 h with h|h
   ·obtain⟨i,h1,h2⟩:=ih h;exact⟨i,by omega,h2⟩
   ·simp only[AfH]at h;exact⟨k,by omega,h⟩
  ·obtain⟨i,h1,h2⟩:=ih h;exact⟨i,by omega,h2⟩
def oks(N:Nat)(ts:List Tie):Prop:=∀ i∈List.range ts.length,Le N ts i
instance (N:Nat)(ts:List Tie):Decidable (oks N ts):=inferInstanceAs (Decidable (∀ i∈List.range ts.length,Le N ts i))
theorem ALf(N:Nat)(hN:N≤64)(ts:List Tie)(hs:ts.length≤400):
  AU Dh many ((N:Int),ts,IJ N,ts,AH ts,(0:Int),())=some (if oks N ts then .inr (.inl ((N:Int),ts,()))else .inl (false,())):=by
 have e:=DO (step:=Dh) (fun i (_:Unit)=>((N:Int),ts,IJ N,ts,AH ts,(i:Int),())) (List.range ts.length) (fun i a=>if Le N ts i then .inl a else .inr (.inl (false,()))) (fun _=>.inr (.inl ((N:Int),ts,()))) (fun _ _=>True) (by simp;omega)
  (fun i x a hi hx _=>by
   have:=KQ hx
   subst this
   rw[Afr]at hi
   have step:Dh ((N:Int),ts,IJ N,ts,AH ts,(x:Int),())=if Le N ts x then some (.inl ((N:Int),ts,IJ N,ts,AH ts,((x+1:Nat):Int),()))else some (.inr (.inl (false,()))):=by
    rw[Dh,AL,AN,Aeq hi]
    simp only[DK zT hi]
    obtain⟨t,ht⟩:∃ t,ts.getD x zT=t:=⟨_,rfl⟩
    have hk:Le N ts x↔(0≤t.1∧t.1<t.2.1∧t.2.1<(N:Int)∧0≤t.2.2.1∧t.2.2.1≤IJ N∧(x=0∨ahead (ts.getD (x-1) zT) t)):=by unfold Le;rw[ht]
    rw[ht]
    rw[Ai,Az,Az,Ai,Ai]
    by_cases h1:t.1<0
    ·rw[Aeq h1,Ae3 (fun h=>by obtain⟨q1,q2,q3,q4,q5,_⟩:=hk.1 h;omega)]
    rw[Aeo h1]
    by_cases h2:t.2.1≤t.1
    ·rw[Aeq h2,Ae3 (fun h=>by obtain⟨q1,q2,q3,q4,q5,_⟩:=hk.1 h;omega)]
    rw[Aeo h2]
    by_cases h3:(N:Int)≤t.2.1
    ·rw[Aeq h3,Ae3 (fun h=>by obtain⟨q1,q2,q3,q4,q5,_⟩:=hk.1 h;omega)]
    rw[Aeo h3]
    by_cases h4:t.2.2.1<0
    ·rw[Aeq h4,Ae3 (fun h=>by obtain⟨q1,q2,q3,q4,q5,_⟩:=hk.1 h;omega)]
    rw[Aeo h4]
    by_cases h5:IJ N<t.2.2.1
    ·rw[Aeq h5,Ae3 (fun h=>by obtain⟨q1,q2,q3,q4,q5,_⟩:=hk.1 h;omega)]
    rw[Aeo h5]
    simp only[]
    rw[AP (by omega),Ai]
    by_cases h6:x=0
    ·subst h6
     rw[Aeo (by omega),Ae6 (hk.2 ⟨by omega,by omega,by omega,by omega,by omega,.inl rfl⟩)]
    ·rw[Aeq (by omega),Ah (by omega),show((x:Int)-1)=((x-1:Nat):Int) by omega]
     simp only[DK zT (show x-1<ts.length by omega)]
     obtain⟨y,ey,hy⟩:=AHN (ts.getD (x-1) zT) t
     have ey':Jv (((ts.getD (x-1) zT).1,((ts.getD (x-1) zT).2.1,((ts.getD (x-1) zT).2.2.1,((ts.getD (x-1) zT).2.2.2.1,())))),(t.1,(t.2.1,(t.2.2.1,(t.2.2.2.1,())))),())=some (y,()):=ey
     simp only[ey',hy]
     by_cases h7:ahead (ts.getD (x-1) zT) t
     ·rw[Aeq h7,Ae6 (hk.2 ⟨by omega,by omega,by omega,by omega,by omega,.inr h7⟩)]
      rfl
     ·rw[Aeo h7,Ae3 (fun h=>by rcases(hk.1 h).2.2.2.2.2 with h|h;exact h6 h;exact h7 h)]
      rfl
   by_cases h:Le N ts x
   ·rw[Ae6 h]at step ⊢
    refine⟨fun m' h' => ?_,fun r h'=>(by cases h')⟩
    cases h'
    exact⟨step,trivial⟩
   ·rw[Ae3 h]at step ⊢
    refine⟨fun m' h'=>(by cases h'),fun r h' => ?_⟩
    cases h'
    exact step)
  (fun a _=>by rw[Dh,Afr,AL,AN,Aeo (by omega)]) () trivial
 have e':AU Dh many ((N:Int),ts,IJ N,ts,AH ts,(0:Int),())=_:=e
 rw[e',AIo (Le N ts) (fun _ a=>a)]
 rfl
theorem Py(N:Nat)(hN:N≤64)(ts:List Tie)(hs:ts.length≤400):
  AU D6 many ((N:Int),ts,[],(0:Int),())=some (if oks N ts then .inr (.inl ((N:Int),ts,trs ts ts.length,()))else .inl (false,())):=by
 have e:=DO (step:=D6) (fun i (a:List Edge)=>((N:Int),ts,a,(i:Int),())) (List.range ts.length) (fun i a=>if Le N ts i then .inl (if(ts.getD i zT).2.2.2.1=true then a++[ed (ts.getD i zT)]else a)else .inr (.inl (false,()))) (fun a=>.inr (.inl ((N:Int),ts,a,()))) (fun i a=>a.length≤i) (by simp;omega)
  (fun i x a hi hx ha=>by
   have:=KQ hx
   subst this
   rw[Afr]at hi
   have step:D6 ((N:Int),ts,a,(x:Int),())=if Le N ts x then some (.inl ((N:Int),ts,if(ts.getD x zT).2.2.2.1=true then a++[ed (ts.getD x zT)]else a,((x+1:Nat):Int),()))else some (.inr (.inl (false,()))):=by
    rw[D6,AL,AN,Aeq hi]
    simp only[DK zT hi,AT8 N hN]
    obtain⟨t,ht⟩:∃ t,ts.getD x zT=t:=⟨_,rfl⟩
    have hk:Le N ts x↔(0≤t.1∧t.1<t.2.1∧t.2.1<(N:Int)∧0≤t.2.2.1∧t.2.2.1≤IJ N∧(x=0∨ahead (ts.getD (x-1) zT) t)):=by unfold Le;rw[ht]
    rw[ht]
    rw[Ai,Az,Az,Ai,Ai]
    by_cases h1:t.1<0
    ·rw[Aeq h1,Ae3 (fun h=>by obtain⟨q1,q2,q3,q4,q5,_⟩:=hk.1 h;omega)]
    rw[Aeo h1]
    by_cases h2:t.2.1≤t.1
    ·rw[Aeq h2,Ae3 (fun h=>by obtain⟨q1,q2,q3,q4,q5,_⟩:=hk.1 h;omega)]
    rw[Aeo h2]
    by_cases h3:(N:Int)≤t.2.1
    ·rw[Aeq h3,Ae3 (fun h=>by obtain⟨q1,q2,q3,q4,q5,_⟩:=hk.1 h;omega)]
    rw[Aeo h3]
    by_cases h4:t.2.2.1<0
    ·rw[Aeq h4,Ae3 (fun h=>by obtain⟨q1,q2,q3,q4,q5,_⟩:=hk.1 h;omega)]
    rw[Aeo h4]
    by_cases h5:IJ N<t.2.2.1
    ·rw[Aeq h5,Ae3 (fun h=>by obtain⟨q1,q2,q3,q4,q5,_⟩:=hk.1 h;omega)]
    rw[Aeo h5]
    simp only[AL]
    have hfit:fits ((a.length:Int)+(([(t.1,t.2.1,())]:List Edge).length:Int))=true:=Be (by simp;omega)
    rw[AP (by omega),Ai]
    by_cases h6:x=0
    ·subst h6
     rw[Aeo (by omega),Ae6 (hk.2 ⟨by omega,by omega,by omega,by omega,by omega,.inl rfl⟩)]
     cases ht4:t.2.2.2.1
     ·simp
     ·simp only[hfit]
      simp[ed,A9]
    ·rw[Aeq (by omega),Ah (by omega),show((x:Int)-1)=((x-1:Nat):Int) by omega]
     simp only[DK zT (show x-1<ts.length by omega),Ao]
     generalize ts.getD (x-1) zT=p at hk ⊢
     rw[Ai,Az]
     by_cases h7:t.1<p.1
     ·rw[Aeq h7,Ae3 (fun h=>by rcases(hk.1 h).2.2.2.2.2 with h|h|h<;>omega)]
     rw[Aeo h7]
     by_cases h8:p.1=t.1
     ·rw[Aeq h8]
      by_cases h9:t.2.1≤p.2.1
      ·rw[Aeq h9,Ae3 (fun h=>by rcases(hk.1 h).2.2.2.2.2 with h|h|h<;>omega)]
      rw[Aeo h9,Ae6 (hk.2 ⟨by omega,by omega,by omega,by omega,by omega,.inr (.inr ⟨h8,by omega⟩)⟩)]
      cases ht4:t.2.2.2.1
      ·simp
      ·simp only[hfit]
       simp[ed,A9]
     ·rw[Aeo h8,Ae6 (hk.2 ⟨by omega,by omega,by omega,by omega,by omega,.inr (.inl (by omega))⟩)]
      cases ht4:t.2.2.2.1
      ·simp
      ·simp only[hfit]
       simp[ed,A9]
   by_cases h:Le N ts x
   ·rw[Ae6 h]at step ⊢
    refine⟨fun m' h' => ?_,fun r h'=>(by cases h')⟩
    cases h'
    refine⟨step,?_⟩
    split
    ·rw[Aey];simp;omega
    ·omega
   ·rw[Ae3 h]at step ⊢
    refine⟨fun m' h'=>(by cases h'),fun r h' => ?_⟩
    cases h'
    exact step)
  (fun a _=>by rw[D6,Afr,AL,AN,Aeo (by omega)]) [] (Aez _)
 have e':AU D6 many ((N:Int),ts,[],(0:Int),())=_:=e
 rw[e',AIo (Le N ts) (fun i a=>if(ts.getD i zT).2.2.2.1=true then a++[ed (ts.getD i zT)]else a)]
 rfl
end Go.Pev.Pl
end
end
section
section
namespace Go.Pev.Pl
theorem ASx{N:Nat}{ts:List Tie}(hN:N≤64){i:Nat}(h:Le N ts i):In (N:Int) (ed (ts.getD i zT)).1∧In (N:Int) (ed (ts.getD i zT)).2.1:=by
 obtain⟨q1,q2,q3,_⟩:=h
 exact⟨⟨by omega,by omega,q1,by show(ts.getD i zT).1<_;omega⟩,⟨by omega,by omega,by show 0≤(ts.getD i zT).2.1;omega,q3⟩⟩
theorem ANh{N:Nat}{ts:List Tie}(hN:N≤64)(h:oks N ts):∀ e∈trs ts ts.length,In (N:Int) e.1∧In (N:Int) e.2.1:=by
 intro e he
 obtain⟨i,hi,rfl⟩:=Aa9 ts e _ he
 exact ASx hN (h i (by simp[hi]))
theorem AeB{N:Nat}{ts:List Tie}(hN:N≤64)(h:oks N ts):∀ e∈ts.map ed,In (N:Int) e.1∧In (N:Int) e.2.1:=by
 intro e he
 obtain⟨t,ht,rfl⟩:=AfB.1 he
 obtain⟨i,hi,rfl⟩:=AgS ht
 have:=ASx hN (h i (by simp[hi]))
 simpa [hi]using this
theorem AQG{N:Nat}(ts:List Tie)(hs:ts.length≤400)(h:oks N ts):Oj (((N:Int),(ts,())),(0:Int),())=some (trs ts ts.length,()):=by
 rw[Sf,ML]
 have e:=DO (step:=Cn) (fun i (a:List Edge)=>((0:Int),a,ts,AH ts,(i:Int),())) (List.range ts.length) (fun i a=>.inl (if(ts.getD i zT).2.2.2.1=true then a++[ed (ts.getD i zT)]else a)) (fun a=>.inl (a,())) (fun i a=>a.length≤i) (by simp;omega)
  (fun i x a hi hx ha=>by
   refine⟨fun m' h' => ?_,fun r h'=>(by cases h')⟩
   cases h'
   have:=KQ hx
   subst this
   rw[Afr]at hi
   have hlv:=(h x (by simp[hi])).2.2.2.1
   constructor
   ·rw[Cn,AL,AN,Aeq hi]
    simp only[DK zT hi,AL]
    have hfit:fits ((a.length:Int)+(([((ts.getD x zT).1,(ts.getD x zT).2.1,())]:List Edge).length:Int))=true:=Be (by simp;omega)
    rw[AP (by omega),Az,Aeq hlv]
    cases ht4:(ts.getD x zT).2.2.2.1
    ·simp
    ·simp only[hfit]
     simp[ed,A9]
   ·split
    ·rw[Aey];simp;omega
    ·omega)
  (fun a _=>by rw[Cn,Afr,AL,AN,Aeo (by omega)]) [] (Aez _)
 have e':AU Cn many ((0:Int),[],ts,AH ts,(0:Int),())=_:=e
 simp only[e']
 rw[BZ (fun i a=>if(ts.getD i zT).2.2.2.1=true then a++[ed (ts.getD i zT)]else a)]
 rfl
def cnt(out:List Int)(N:Nat):Nat:=((List.range N).filter fun k=>decide (out.getD k 0=(k:Int))).length
theorem AJy{N:Nat}{rings:List (List Int)}{l:List Edge}{out:List Int}(h:FC (N:Int) rings l)(hc:T6 (N:Int) l out):rings.length=cnt out N:=by
 have hsz:=h.fr.sz
 have hp:(rings.map hd).Perm (((List.range N).filter fun k=>decide (out.getD k 0=(k:Int))).map fun(k:Nat)=>(k:Int)):=by
  rw[List.perm_ext_iff_of_nodup]
  ·intro a
   simp only[AfB,AfU,AgM,Aer]
   constructor
   ·rintro⟨A,hA,rfl⟩
    have gA:=h.fr.rg A hA
    have ih:In (N:Int) (hd A):=Na gA
    have hh:=S2 gA.2.1
    have:=AL9 h hc hA ih hh
    obtain⟨_,_,a1,a2⟩:=ih
    refine⟨(hd A).toNat,⟨by omega,?_⟩,by omega⟩
    rw[show out.getD (hd A).toNat 0=cl out (hd A)from rfl,← this]
    omega
   ·rintro⟨k,⟨hk,ho⟩,rfl⟩
    have ik:In (N:Int) (k:Int):=⟨hsz.1,hsz.2,by omega,by omega⟩
    obtain⟨A,hA,hm⟩:=h.fr.cov _ ik
    refine⟨A,hA,?_⟩
    rw[AL9 h hc hA ik hm]
    unfold cl
    rw[Afn];exact ho
  ·exact(AgL.2 h.fr.up).imp (fun h=>by omega)
  ·refine List.Pairwise.map _ (S:=fun a b=>a≠b) (R:=fun a b=>a≠b) (fun a b h h'=>h (by omega)) ?_
   exact(Ah3).filter _
 have:=hp.length_eq
 rw[AgA,AgA]at this
 exact this
theorem Nt(N:Nat)(hN:N≤64)(p:List Tie)(q:List Edge)(out:List Int)(ho:out.length=N):AU E9 many ((N:Int),p,q,out,(0:Int),(0:Int),())=some (.inl ((N:Int),p,q,(cnt out N:Int),())):=by
 have e:=DO (step:=E9) (fun i (a:Nat)=>((N:Int),p,q,out,(a:Int),(i:Int),())) (List.range N) (fun k a=>.inl (if out.getD k 0=(k:Int)then a+1 else a)) (fun a=>.inl ((N:Int),p,q,(a:Int),())) (fun i a=>a≤i) (by simp;omega)
  (fun i x a hi hx ha=>by
   refine⟨fun m' h' => ?_,fun r h'=>(by cases h')⟩
   cases h'
   have:=KQ hx
   subst this
   rw[Afr]at hi
   constructor
   ·rw[E9,AN,Aeq hi]
    simp only[DK 0 (show x<out.length by omega),FZ,Ao]
    rw[AP (by omega),AP (by omega)]
    by_cases h:out.getD x 0=(x:Int)
    ·rw[Aeq h,Ae6 h]
    ·rw[Aeo h,Ae3 h]
   ·split<;>omega)
  (fun a _=>by rw[E9,Afr,AN,Aeo (by omega)]) 0 (Aez _)
 have e':AU E9 many ((N:Int),p,q,out,(0:Int),(0:Int),())=_:=e
 rw[e',BZ (fun k a=>if out.getD k 0=(k:Int)then a+1 else a)]
 have key:∀ (xs:List Nat) (a:Nat),xs.foldl (fun a k=>if out.getD k 0=(k:Int)then a+1 else a) a=a+(xs.filter fun k=>decide (out.getD k 0=(k:Int))).length:=by
  intro xs
  induction xs with
  |nil=>intro a;rfl
  |cons x xs ih=>
   intro a
   rw[Afj,ih,Af2]
   by_cases h:out.getD x 0=(x:Int)
   ·simp only[h,AfS,Ae2,Aex];omega
   ·simp only[h,Ae9,AfG,AfD]
 rw[key,Afq]
 rfl
theorem ABc(n:Int)(ts:List Tie)(hl:ts.length<4611686018427387904):∃ b:Bool,Gl ((n,(ts,())),())=some (b,())∧Ke ((n,(ts,())),())=some (b,())∧(b=true→∃ N:Nat,n=(N:Int)∧1≤N∧N≤64∧ts.length≤400∧oks N ts):=by
 by_cases hn:¬ (1≤n∧n≤64)
 ·refine⟨false,?_,?_,fun h=>by cases h⟩
  ·rw[HW,FA,Ai,Ai]
   by_cases h:n<1
   ·simp only[Aeq h]
   ·simp only[Aeo h,Aeq (show 64<n by omega)]
  ·rw[Jt,Hh]
   simp only[Sg,MM,Az]
   by_cases h:1≤n
   ·simp only[Aeq h,Aeo (show ¬ n≤64 by omega),AfT]
   ·simp only[Aeo h,AfT]
 have hn:=AhO.1 hn
 obtain⟨N,rfl⟩:=Ae1 (show 0≤n by omega)
 have hsz:Sh ((N:Int),())=some (true,()):=by
  simp only[Sg,MM,Az,Aeq hn.1,Aeq hn.2]
 by_cases h4:¬ ts.length≤400
 ·refine⟨false,?_,?_,fun h=>by cases h⟩
  ·rw[HW,FA]
   simp only[Ai,AL]
   rw[Aeo (show ¬ (N:Int)<1 by omega),Aeo (show ¬ 64<(N:Int) by omega),Aeq (show 400<(ts.length:Int) by omega)]
  ·rw[Jt,Hh]
   simp only[hsz,Ae0,Ai,AL]
   rw[Aeq (show 400<(ts.length:Int) by omega)]
 have h4:=AhO.1 h4
 have R:=Py N (by omega) ts h4
 have L:=ALf N (by omega) ts h4
 by_cases ho:¬ oks N ts
 ·rw[Ae3 ho]at R L
  refine⟨false,?_,?_,fun h=>by cases h⟩
  ·rw[HW,FA]
   simp only[Ai,AL]
   rw[Aeo (show ¬ (N:Int)<1 by omega),Aeo (show ¬ 64<(N:Int) by omega),Aeo (show ¬ 400<(ts.length:Int) by omega)]
   simp only[R]
  ·rw[Jt,Hh]
   simp only[hsz,Ae0,Ai,AL,ALb N (by omega)]
   rw[Aeo (show ¬ 400<(ts.length:Int) by omega)]
   rw[AL]at L
   simp only[L]
 have ho:=AhO.1 ho
 rw[Ae6 ho]at R L
 have hin:=ANh (show N≤64 by omega) ho
 have hlen:=AFI ts ts.length
 obtain⟨out,hc,hcl⟩:=F5 (N:Int) (trs ts ts.length) hn (by omega) hin
 rcases(ATR (N:Int) (trs ts ts.length) hn (by omega)).symm with⟨hno,_⟩|⟨_,rings,hf,hfc⟩
 ·exact absurd hin hno
 have hcount:=AJy hfc hcl
 have hol:out.length=N:=by have:=hcl.len;omega
 refine⟨decide ((cnt out N:Int)=(N:Int)-(trs ts ts.length).length),?_,?_,fun _=>⟨N,rfl,by omega,by omega,h4,ho⟩⟩
 ·rw[HW,FA]
  simp only[Ai,AL]
  rw[Aeo (show ¬ (N:Int)<1 by omega),Aeo (show ¬ 64<(N:Int) by omega),Aeo (show ¬ 400<(ts.length:Int) by omega)]
  simp only[R,hc,Nt N (by omega) _ _ out hol,Ao]
  rw[Ah (by omega)]
 ·rw[Jt,Hh]
  simp only[hsz,Ae0,Ai,AL,ALb N (by omega)]
  rw[Aeo (show ¬ 400<(ts.length:Int) by omega)]
  rw[AL]at L
  simp only[L,AQG ts h4 ho,hf,NP,Ao,hcount]
  rw[Ah (by omega)]
end Go.Pev.Pl
end
section
namespace Go.Pev.Pl
theorem T6.unique{N:Nat}{l:List Edge}{a b:List Int}(h1:1≤N)(h2:N≤64)(ha:T6 (N:Int) l a)(hb:T6 (N:Int) l b):a=b:=by
 have la:=ha.len
 have lb:=hb.len
 refine K0 (0:Int) (by omega) fun k hk => ?_
 have ik:In (N:Int) (k:Int):=⟨by omega,by omega,by omega,by omega⟩
 have e1:=ha.least _ _ ik (hb.isin _ ik) (hb.con _ ik)
 have e2:=hb.least _ _ ik (ha.isin _ ik) (ha.con _ ik)
 unfold cl at e1 e2
 rw[Afn]at e1 e2
 omega
def InV(N:Nat)(x:Int):Prop:=0≤x∧x<(N:Int)
instance (N:Nat)(x:Int):Decidable (InV N x):=inferInstanceAs (Decidable (_∧_))
end Go.Pev.Pl
end
section
namespace Go.Pev.Pl
end Go.Pev.Pl
end
section
namespace Go.Pev.Pl
def Aci(l:List Edge)(u v:Int):Prop:=((u,(v,())):Edge)∈l∨((v,(u,())):Edge)∈l
instance (l:List Edge)(u v:Int):Decidable (Aci l u v):=inferInstanceAs (Decidable (_∨_))
def Abn(N:Nat)(l:List Edge)(u:Nat):List Edge:=((List.range (N-(u+1))).filter fun i=>decide (Aci l (u:Int) ((u+1+i:Nat):Int))).map fun(i:Nat)=>((u:Int),((u+1+i:Nat):Int),())
def Yr(N:Nat)(l:List Edge):List Edge:=(List.range N).flatMap fun u=>Abn N l u
end Go.Pev.Pl
end
section
namespace Go.Pev.Pl
def J4(N:Nat)(ts:List Tie)(l:List Edge):List Edge:=(Yr N l).filter fun x => !decide (x∈ts.map ed)
def Yn(l:List Tie)(t:Tie):List Tie:=l.take (l.findIdx fun x => !decide (ahead x t))++t::l.drop (l.findIdx fun x => !decide (ahead x t))
end Go.Pev.Pl
end
section
namespace Go.Pev.Pl
def valid(N:Nat)(t:Tie):Prop:=0≤t.1∧t.1<t.2.1∧t.2.1<(N:Int)∧0≤t.2.2.1∧t.2.2.1≤IJ N
theorem ahead.trans{a b c:Tie}(h:ahead a b)(h':ahead b c):ahead a c:=by
 unfold ahead at *
 omega
theorem W6(N:Nat)(ts:List Tie):oks N ts↔(∀ t∈ts,valid N t)∧ts.Pairwise ahead:=by
 constructor
 ·intro h
  have hv:∀ i,i<ts.length→Le N ts i:=fun i hi=>h i (by simpa using hi)
  refine⟨fun t ht => ?_,?_⟩
  ·obtain⟨i,hi,rfl⟩:=AgS ht
   obtain⟨q1,q2,q3,q4,q5,_⟩:=hv i hi
   simp only[Aes,Aev hi,AfN]at q1 q2 q3 q4 q5
   exact⟨q1,q2,q3,q4,q5⟩
  ·have key:∀ (d i:Nat),i+d+1<ts.length→ahead (ts.getD i zT) (ts.getD (i+d+1) zT):=by
    intro d
    induction d with
    |zero=>
     intro i hi
     obtain⟨_,_,_,_,_,q⟩:=hv (i+0+1) hi
     rcases q with q|q
     ·omega
     ·simpa using q
    |succ d ih=>
     intro i hi
     have h1:=ih i (by omega)
     obtain⟨_,_,_,_,_,q⟩:=hv (i+(d+1)+1) hi
     rcases q with q|q
     ·omega
     ·rw[show i+(d+1)+1-1=i+d+1 by omega]at q
      exact h1.trans q
   rw[AgR]
   intro i j hi hj hij
   have:=key (j-i-1) i (by omega)
   rw[show i+(j-i-1)+1=j by omega]at this
   simpa only[Aes,Aev hi,Aev hj,AfN]using this
 ·rintro⟨h1,h2⟩ i hi
  have hi:i<ts.length:=by simpa using hi
  have e:∀ j (hj:j<ts.length),ts.getD j zT=ts[j]:=fun j hj=>by
   simp only[Aes,Aev hj,AfN]
  obtain⟨q1,q2,q3,q4,q5⟩:=h1 ts[i] (AgQ hi)
  unfold Le
  rw[e i hi]
  refine⟨q1,q2,q3,q4,q5,?_⟩
  by_cases h0:i=0
  ·exact .inl h0
  ·right
   rw[e (i-1) (by omega)]
   exact(AgR.1 h2) (i-1) i (by omega) hi (by omega)
theorem ADq(l:List Tie)(t:Tie):(Yn l t).Perm (t::l):=by
 unfold Yn
 refine List.perm_middle.trans ?_
 rw[Afm]
theorem AUw{l:List Tie}{t:Tie}(h:l.Pairwise ahead)(hn:∀ x∈l,¬ (x.1=t.1∧x.2.1=t.2.1)):(Yn l t).Pairwise ahead:=by
 induction l with
 |nil=>simp[Yn]
 |cons a l ih=>
  rw[Afe]at h
  have hna:=hn a (by simp)
  have hnl:∀ x∈l,¬ (x.1=t.1∧x.2.1=t.2.1):=fun x hx=>hn x (by simp[hx])
  by_cases ha:ahead a t
  ·have e:Yn (a::l) t=a::Yn l t:=by
    unfold Yn
    rw[Ag8]
    simp[ha]
   rw[e,Afe]
   refine⟨fun x hx => ?_,ih h.2 hnl⟩
   rcases Aew.1 ((ADq l t).mem_iff.1 hx)with rfl|hx
   ·exact ha
   ·exact h.1 x hx
  ·have e:Yn (a::l) t=t::a::l:=by
    unfold Yn
    rw[Ag8]
    simp[ha]
   have hta:ahead t a:=by unfold ahead at *;omega
   rw[e,Afe,Afe]
   refine⟨fun x hx => ?_,h.1,h.2⟩
   rcases Aew.1 hx with rfl|hx
   ·exact hta
   ·exact hta.trans (h.1 x hx)
end Go.Pev.Pl
end
section
namespace Go.Pev.Pl
theorem AP7(N:Nat)(l:List Edge)(x:Edge):x∈Yr N l↔0≤x.1∧x.1<x.2.1∧x.2.1<(N:Int)∧Aci l x.1 x.2.1:=by
 unfold Yr Abn
 simp only[Ah2,AfB,AfU,AgM,Aer]
 constructor
 ·rintro⟨u,hu,i,⟨hi,he⟩,rfl⟩
  exact⟨by show(0:Int)≤(u:Int);omega,by show(u:Int)<((u+1+i:Nat):Int);omega,by show((u+1+i:Nat):Int)<(N:Int);omega,he⟩
 ·obtain⟨a,b,⟨⟩⟩:=x
  rintro⟨h1,h2,h3,h4⟩
  simp only at h1 h2 h3 h4
  obtain⟨u,rfl⟩:=Ae1 h1
  obtain⟨v,rfl⟩:=Ae1 (show 0≤b by omega)
  refine⟨u,by omega,v-(u+1),⟨by omega,?_⟩,?_⟩
  ·rw[show u+1+(v-(u+1))=v by omega];exact h4
  ·rw[show u+1+(v-(u+1))=v by omega]
def JW(p x:Edge):Prop:=p.1<x.1∨(p.1=x.1∧p.2.1<x.2.1)
theorem AJ5(N:Nat)(l:List Edge):(Yr N l).Pairwise JW:=by
 unfold Yr
 rw[List.pairwise_flatMap]
 refine⟨fun u _ => ?_,?_⟩
 ·unfold Abn
  rw[AgL]
  refine AhX _ ?_
  refine List.pairwise_lt_range.imp fun h => ?_
  exact .inr ⟨rfl,by show((u+1+_:Nat):Int)<((u+1+_:Nat):Int);omega⟩
 ·refine List.pairwise_lt_range.imp fun h x hx y hy => ?_
  unfold Abn at hx hy
  simp only[AfB]at hx hy
  obtain⟨i,_,rfl⟩:=hx
  obtain⟨j,_,rfl⟩:=hy
  exact .inl (by simp only;omega)
theorem SR(N:Nat)(ts:List Tie)(l:List Edge)(x:Edge):x∈J4 N ts l↔(0≤x.1∧x.1<x.2.1∧x.2.1<(N:Int)∧Aci l x.1 x.2.1)∧¬ x∈ts.map ed:=by
 unfold J4
 rw[AfU,AP7]
 simp
theorem ARW(N:Nat)(ts:List Tie)(l:List Edge):(J4 N ts l).Pairwise JW:=(AJ5 N l).filter _
end Go.Pev.Pl
end
section
namespace Go.Pev.Pl
open Tok
instance (n v:Int):Decidable (In n v):=inferInstanceAs (Decidable (_∧_))
instance (n:Int):Decidable (Sz n):=inferInstanceAs (Decidable (_∧_))
theorem Hl(n v:Int):AHS (n,v,())=some (decide (In n v),()):=by
 rw[Ace,AQo]
 simp only[Az,Ai]
 by_cases h1:1≤n<;>by_cases h2:n≤64<;>by_cases h3:0≤v<;>simp[In,h1,h2,h3]
theorem AEh(n u v:Int):AM5 (n,u,v,())=some (Du n u v,()):=by
 rw[Aaq,AIQ]
 simp only[Hl,Du,Ao]
 by_cases h1:In n u
 ·by_cases h2:In n v
  ·by_cases h3:u=v
   ·simp[h1,h2,h3]
   ·obtain⟨a1,a2,a3,a4⟩:=h1
    obtain⟨b1,b2,b3,b4⟩:=h2
    have hb:=FJ a1 a2 a3 (by omega)
    have e1:u*n=n*u:=Int.mul_comm _ _
    have e2:n*(u+1)=n*u+n:=by rw[Ahr,Ahs]
    rw[e1,Ah (n:=n*u) (by omega),Ah (n:=n+n*u) (by omega),Ah (n:=n+n*u+v) (by omega),e2]
    have e3:n+n*u+v=n*u+n+v:=by omega
    simp[In,a1,a2,a3,a4,b3,b4,h3,e3]
  ·simp[h1,h2]
 ·simp[h1]
theorem T8(n t:Int)(ht:-9223372036854775808≤t∧t≤9223372036854775807):Wx (n,t,())=some (Nj (B9 n t)):=by
 rw[ANp,Rj]
 simp only[Hl,Ai,Az]
 by_cases hi:In n t
 ·simp only[hi,Ae2,B9,AfS,Nj]
 ·simp only[hi,AfG]
  by_cases h1:n<1
  ·have hs:¬ Sz n:=fun h=>by have:=h.1;omega
   simp only[h1,Ae2,B9,hi,Ae9,hs,Agx,Nj]
  ·simp only[h1,AfG]
   by_cases h2:64<n
   ·have hs:¬ Sz n:=fun h=>by have:=h.2;omega
    simp only[h2,Ae2,B9,hi,Ae9,hs,Agx,Nj]
   ·have a1:1≤n:=by omega
    have a2:n≤64:=by omega
    have hb:=FJ (u:=n) a1 a2 (by omega) (by omega)
    have e3:n*(n+1)=n*n+n:=by rw[Ahr,Ahs]
    rw[Ah (n:=n*n) (by omega),Ah (n:=n+n*n) (by omega)]
    simp only[h2,AfG]
    by_cases h3:t<n
    ·have:¬ n≤t:=by omega
     simp only[h3,Ae2,B9,hi,Ae9,this,Agx,and_false,Nj]
    ·simp only[h3,AfG]
     by_cases h4:n+n*n≤t
     ·have:¬ t<n*(n+1):=by omega
      simp only[h4,Ae2,B9,hi,Ae9,this,Agx,and_false,Nj]
     ·obtain⟨d1,d2,d3⟩:=AHx (t:=t) ⟨a1,a2⟩ (by omega) (by omega)
      have q1:=d1.2.2.1
      have q2:=d1.2.2.2
      rw[Ah (n:=t-n) (by omega)]
      have hq:(t-n).tdiv n=t/n-1:=by
       rw[Ago (by omega)]
       have:=Int.add_mul_ediv_right t (-1) (show n≠0 by omega)
       rw[show t-n=t + -1*n by omega,this];omega
      have hm:(t-n).tmod n=t % n:=by
       rw[Int.tmod_eq_emod_of_nonneg (by omega)]
       have:=Int.add_mul_emod_self_right t (-1) n
       rw[show t-n=t + -1*n by omega,this]
      simp only[h4,AfG,Rz,R0,AGO,Yk]
      rw[Ae3 (by omega),Ae3 (by omega),hq,hm,Ah (n:=t/n-1) (by omega)]
      simp only[]
      rw[Ao,B9,Ae3 hi]
      by_cases h5:t/n-1=t % n
      ·rw[Ae3 (by intro h;exact h.2.2.2 h5),Aeq h5];rfl
      ·rw[Ae6 ⟨⟨a1,a2⟩,by omega,by omega,h5⟩,Aeo h5];rfl
theorem ALg(xs ys:List (List Int))(hs:xs.length<9223372036854775808)(hi:∀ x∈xs,x.length<9223372036854775808):AHH (xs,ys,())=some (decide (xs=ys),()):=by
 rw[AQP,Sj,AAN]
 by_cases hl:xs.length=ys.length
 ·rw[Aeq hl]
  simp only[Ae0]
  rcases AJm (step:=FL) (fun i=>(xs,ys,((i:Nat):Int),())) xs.length (fun i => !decide (xs.getD i []=ys.getD i [])) (fun _=>.inl (false,())) (.inr (.inl ())) hs (fun i hii=>by
   have hm:(xs.getD i []).length<9223372036854775808:=hi _ (by simp[hii])
   rw[FL,AL,AN,Aeq hii]
   simp (disch:=first|omega|exact hm) only[DK ([]:List Int),AP,AQb]
   by_cases h:xs.getD i []=ys.getD i []
   ·rw[Aeq h];simp
   ·rw[Aeo h];simp) (by rw[FL,AL,AN,Aeo (by omega)])with⟨k,hk,hP,_,e⟩|⟨h,e⟩
  ·have e':AU FL many (xs,ys,(0:Int),())=_:=e
   rw[e']
   have:xs≠ys:=VK ([]:List Int) (j:=k) (by simpa using hP)
   simp[this]
  ·have e':AU FL many (xs,ys,(0:Int),())=_:=e
   rw[e']
   have:xs=ys:=K0 ([]:List Int) hl fun j hj=>by simpa using h j hj
   simp[this]
 ·rw[Aeo hl]
  have:xs≠ys:=fun e=>hl (by rw[e])
  simp[this]
theorem ALY(N:Nat)(hN:N≤64)(c:Int):∀ (k i n:Nat),i+k=N→k<n→AW Js n ((N:Int),c,(N:Int),BR i,(i:Int),())=some (.inl (c,(N:Int),BR N,())):=by
 intro k
 induction k with
 |zero=>
  intro i n hi hn
  obtain⟨n,rfl⟩:∃ k,n=k+1:=⟨n-1,by omega⟩
  have:i=N:=by omega
  subst this
  rw[AW,Js,AN,Aeo (by omega)]
 |succ k ih=>
  intro i n hi hn
  obtain⟨n,rfl⟩:∃ k,n=k+1:=⟨n-1,by omega⟩
  rw[AW,Js,AN,Aeq (by omega)]
  simp only[AL,UE,Aex,AfI]
  rw[Be (by omega),AP (by omega)]
  simp only[C5,← Pm]
  exact ih (i+1) n (by omega) (by omega)
theorem AQE(n:Int):AHC (n,())=some (Gn n):=by
 have hm:4294967296<many:=by simp only[many];omega
 rw[AVk,Zu,Gn]
 simp only[Ai]
 by_cases h1:n<1
 ·have:¬ Sz n:=fun h=>by have:=h.1;omega
  simp[h1,this]
 ·by_cases h2:64<n
  ·have:¬ Sz n:=fun h=>by have:=h.2;omega
   simp[h1,h2,this]
  ·obtain⟨N,rfl⟩:=Ae1 (show 0≤n by omega)
   have hS:Sz (N:Int):=⟨by omega,by omega⟩
   have e:=ALY N (by omega) 0 N 0 many (by omega) (by omega)
   have e':AW Js many ((N:Int),0,(N:Int),[],(0:Int),())=_:=e
   simp[h1,h2,hS,As,e']
end Go.Pev.Pl
end
section
namespace Go.Pev.Pl
theorem L8(xs:List Int)(t:Int)(hs:xs.length<9223372036854775808):NI (xs,t,())=some (pos xs t,()):=by
 rw[APB,R3]
 have e:=MZ (step:=Ha) (fun i=>(xs,t,(i:Int),())) xs (fun x=>decide (x=t)) (fun i=>.inl ((i:Int),())) (.inr (.inl ())) hs
  (fun i x hi hx=>by
   rw[Ha,AL,AN,Aeq hi]
   simp only[Aj hx,Ao]
   by_cases h:x=t
   ·simp[h]
   ·simp only[h,AfG];rw[AP (by omega)];simp)
  (by rw[Ha,AL,AN,Aeo (by omega)])
 have e':AU Ha many (xs,t,(0:Int),())=_:=e
 rw[e',ATa,pos]
 by_cases h:t∈xs<;>simp[h]
instance (xs:List Int):Decidable (Rt xs):=inferInstanceAs (Decidable (_∧_∧_))
theorem L3(xs:List Int):P1 (xs,())=some (decide (Rt xs),()):=by
 rw[AOi,Ry,AL,Ai]
 by_cases hl:xs.length≤1000
 ·rw[Aeo (by omega)]
  simp only[]
  rcases AJm (step:=FD) (fun i=>(xs,((i:Nat):Int),())) xs.length (fun i=>decide (xs.getD i 0<0)||decide (10000<xs.getD i 0)||decide (xs.getD i 0∈xs.take i)) (fun _=>.inl (false,())) (.inr (.inl ())) (by omega) (fun i hi=>by
   rw[FD,AL,AN,Aeq hi]
   have hpl:NI (xs.take i,xs.getD i 0,())=some (pos (xs.take i) (xs.getD i 0),()):=L8 _ _ (by simp;omega)
   simp (disch:=omega) only[DK (0:Int),I4,hpl,AP,Ai,Az]
   by_cases h1:xs.getD i 0<0
   ·simp only[h1,Ae2];simp
   ·by_cases h2:10000<xs.getD i 0
    ·simp only[h1,h2,Ae2,AfG];simp
    ·by_cases h3:xs.getD i 0∈xs.take i
     ·obtain⟨k,e,_⟩:=AGT h3
      rw[e]
      simp only[h1,h2,h3,Ae2,AfG];simp
     ·rw[P7 h3]
      simp only[h1,h2,h3,AfG];simp) (by rw[FD,AL,AN,Aeo (by omega)])with⟨k,hk,hP,_,e⟩|⟨h,e⟩
  ·have e':AU FD many (xs,(0:Int),())=_:=e
   rw[e']
   have:¬ Rt xs:=by
    rintro⟨_,h1,h2⟩
    have hm:xs.getD k 0∈xs:=by
     rw[Aes,Aev hk,AfN];exact AgQ hk
    have:=h1 _ hm
    have h3:=(QF xs).1 h2 k hk
    have c1:¬ xs.getD k 0<0:=by omega
    have c2:¬ 10000<xs.getD k 0:=by omega
    rw[Aeo c1,Aeo c2,Aeo h3]at hP
    cases hP
   simp[this]
  ·have e':AU FD many (xs,(0:Int),())=_:=e
   rw[e']
   have:Rt xs:=by
    have key:∀ j,j<xs.length→¬ xs.getD j 0<0∧¬ 10000<xs.getD j 0∧xs.getD j 0∉xs.take j:=fun j hj=>by
     have:=h j hj
     rw[Agt,Agt,Aff,Aff,Aff]at this
     exact⟨this.1.1,this.1.2,this.2⟩
    refine⟨hl,fun x hx => ?_,(QF xs).2 fun j hj=>(key j hj).2.2⟩
    obtain⟨j,hj,rfl⟩:=AgS hx
    obtain⟨k1,k2,_⟩:=key j hj
    rw[Aes,Aev hj,AfN]at k1 k2
    omega
   simp[this]
 ·rw[Aeq (by omega)]
  have:¬ Rt xs:=fun h=>hl h.1
  simp[this]
theorem O3(xs:List Int)(t:Int)(hs:xs.length<9223372036854775808):AAh (xs,t,())=some (Ij xs t):=by
 rw[AWU,AAg,Ij]
 simp only[L8 xs t hs,L3]
 by_cases hr:Rt xs
 ·have hl:=hr.1
  simp only[hr,Ae2,Ae0,Ag6]
  by_cases h:t∈xs
  ·have hk:xs.findIdx (fun x=>decide (x=t))<xs.length:=Ag1.2 ⟨t,h,by simp⟩
   rw[pos,Ae6 h,Ae6 h,A4,rot]
   generalize xs.findIdx (fun x=>decide (x=t))=k at *
   rw[Ai,Aeo (by omega)]
   simp only[Eb (AgZ hk),I4 (AgZ hk)]
   rw[Be (by simp only[AL,AfI,AfW];omega)]
   simp only[]
   rw[Be (by simp only[AL,C5,AfQ,Ae8,AfW];omega)]
   simp only[C5,AfQ]
  ·rw[P7 h,Ae3 h,Ai]
   simp
 ·simp[hr]
theorem UI(xs:List Int):W5 (xs,())=some (plain xs,()):=by
 rw[AO6,R1,plain]
 simp only[L3]
 by_cases hr:Rt xs
 ·have hl:=hr.1
  simp only[hr,Ae2,Ae0,Ag6]
  cases xs with
  |nil=>simp[AL,B5]
  |cons x xs=>
   rw[AL,Ao,Aeo (by simp only[Aex];omega)]
   have i0:idx (x::xs) (0:Int)=some x:=by rw[GL];rfl
   simp only[i0]
   have e:=DO (step:=HY) (fun i (a:Int)=>(x::xs,a,(i:Int),())) (x::xs) (fun y a=>.inl (Ce a y)) (fun a=>.inl (x::xs,a,())) (fun _ _=>True) (by omega)
    (fun i y a hi hy _=>by
     refine⟨fun m' h' => ?_,fun r h'=>by cases h'⟩
     cases h'
     rw[HY,AL,AN,Aeq hi]
     simp only[Aj hy]
     rw[AP (by omega)]
     exact⟨rfl,trivial⟩)
    (fun a _=>by rw[HY,AL,AN,Aeo (by omega)]) x trivial
   have e':AU HY many (x::xs,x,(0:Int),())=_:=e
   rw[e',BZ]
   have hmin:(x::xs).foldl (fun a y=>Ce a y) x=GJ (x::xs):=by
    rw[Afj,GJ]
    have:Ce x x=x:=by rw[Ce];split<;>rfl
    rw[this]
   rw[hmin]
   have hm:=(EU (xs:=x::xs) (by simp)).1
   simp only[O3 (x::xs) _ (by omega),Ij,hr,hm,and_self,AfS]
   simp
 ·simp[hr]
end Go.Pev.Pl
end
section
namespace Go.Pev.Pl
open Tok
noncomputable instance (n:Int) (xs:List Int):Decidable (TI n xs):=Classical.propDecidable _
end Go.Pev.Pl
end
section
namespace Go.Pev.Pl
open Tok
theorem AFf(n t u:Int)(ht:-9223372036854775808≤t∧t≤9223372036854775807):X9 (n,t,u,())=some (KJ n t u,()):=by
 rw[AJN,OL,KJ]
 simp only[T8 n t ht,Ao]
 cases B9 n t with
 |none=>rfl
 |some x=>cases x with
  |ver v=>
   by_cases h:v=u<;>simp[Nj,st,h]
  |arc p q=>
   by_cases h:q=u<;>simp[Nj,st,h]
end Go.Pev.Pl
end
section
namespace Go.Pev.Pl
open Tok
theorem AbC(n:Int)(l:List Int)(i:Nat)(hi:i<l.length)(hl:l.length<1073741824)(d5 d6 d7 d8:Bool)(d9 d10:Int)(d11:Bool)(d12 d13 d14 d15 d16:Int)(d17:Bool)(d18 d19 d20 d21 d22 d23 d24 d25 d26:Int)(d27:Bool):
  ∀ (m k cnt:Nat) (acc:List Int),k+m=l.length→acc.length≤k→m<cnt →
  AW Jd cnt (n,l,(i:Int),acc,(k:Int),d5,d6,d7,d8,d9,d10,d11,d12,d13,d14,d15,d16,d17,d18,d19,d20,d21,d22,d23,d24,d25,d26,d27,()) =
   some (.inl (n,(i:Int),acc++(List.range' k m).map (fun k=>l.getD ((i+k) % l.length) 0),d5,d6,d7,d8,d9,d10,d11,d12,d13,d14,d15,d16,d17,d18,l,d19,d20,d21,d22,d23,d24,d25,d26,d27,())):=by
 intro m
 induction m with
 |zero=>
  intro k cnt acc hk ha hc
  obtain⟨cnt,rfl⟩:∃ c,cnt=c+1:=⟨cnt-1,by omega⟩
  rw[AW,Jd,AL,AN,Aeo (by omega)]
  simp
 |succ m ih=>
  intro k cnt acc hk ha hc
  obtain⟨cnt,rfl⟩:∃ c,cnt=c+1:=⟨cnt-1,by omega⟩
  have hm:(i+k) % l.length<l.length:=Nat.mod_lt _ (by omega)
  rw[AW,Jd,AL,AN,Aeq (by omega)]
  simp only[]
  rw[wrap_add (by omega),W4 (by omega)]
  simp only[DK (0:Int) hm,FZ]
  rw[Be (by simp only[AL,Aex,AfI];omega),AP (by omega)]
  simp only[C5]
  rw[ih (k+1) cnt _ (by omega) (by simp;omega) (by omega)]
  simp[Ah1]
theorem ANk(n:Int)(l:List Int)(i:Nat)(hi:i<l.length)(h1:1<l.length)(hl:l.length<1073741824)(hr:∀ x∈l, -9223372036854775808≤x∧x≤9223372036854775807):
  Dd (n,l,false,(i:Int),())=if Ki n l i then some (.inl (n,FE l i,true,((i+1:Nat):Int),()))else some (.inl (n,l,false,((i+1:Nat):Int),())):=by
 have hmany:4294967296<many:=by simp only[many];omega
 have m1:(i+1) % l.length<l.length:=Nat.mod_lt _ (by omega)
 have m2:(i+2) % l.length<l.length:=Nat.mod_lt _ (by omega)
 have m0:(i+l.length-1) % l.length<l.length:=Nat.mod_lt _ (by omega)
 have hin:∀ {k:Nat},k<l.length→l.getD k 0∈l:=fun {k} hk=>by
  rw[Aes,Aev hk,AfN];exact AgQ hk
 have w2:IntKind.wrap .i64 ((i:Int)+2)=((i+2:Nat):Int):=by rw[Ah (by omega)];omega
 have w3:IntKind.wrap .i64 ((i:Int)+(l.length:Int))=((i+l.length:Nat):Int):=wrap_add (by omega)
 have w4:IntKind.wrap .i64 (((i+l.length:Nat):Int)-1)=((i+l.length-1:Nat):Int):=BF (by omega)
 have f4:ile (4:Int) (l.length:Int)=decide (4≤l.length):=by
  rw[Az]
  by_cases h:4≤l.length
  ·rw[Aeq h,Aeq (by omega)]
  ·rw[Aeo h,Aeo (by omega)]
 rw[Dd,AL,AN,Aeq hi]
 simp only[AfT,DK (0:Int) hi]
 rw[AP (by omega),w2,W4 (by omega),W4 (by omega)]
 simp only[DK (0:Int) m1,DK (0:Int) m2,FZ,T8 n _ (hr _ (hin hi)),f4,Ki]
 by_cases h4:4≤l.length
 ·simp only[h4,Ae2,Agw]
  cases ht:B9 n (l.getD i 0)with
  |none=>rfl
  |some t=>
   cases t with
   |ver v=>rfl
   |arc u v=>
    simp only[Nj,Ao,AEh]
    by_cases c1:l.getD ((i+1) % l.length) 0=v
    ·simp only[c1,Ae2,Agw]
     by_cases c2:l.getD ((i+2) % l.length) 0=Du n v u
     ·simp only[c2,Ae2,Agw,w3,w4]
      rw[W4 (by omega)]
      simp only[DK (0:Int) m0,FZ,AFf n _ u (hr _ (hin m0))]
      cases KJ n (l.getD ((i+l.length-1) % l.length) 0) u
      ·rfl
      ·simp only[AfS,As]
       have e:=AbC n l i hi hl false true true true v v true (Du n v u) n v u (Du n v u) true n (i:Int) (l.length:Int) ((i+l.length:Nat):Int) ((i+l.length-1:Nat):Int) (l.length:Int) (((i+l.length-1) % l.length:Nat):Int) (l.getD ((i+l.length-1) % l.length) 0) u true (l.length-3) 3 many [] (by omega) (by simp) (by omega)
       have e':AW Jd many (n,l,(i:Int),[],(3:Int),_)=_:=e
       simp only[e',AP (show i+1<9223372036854775808 by omega)]
       rfl
     ·simp only[c2,AfG,AhB,AfD,Ae9]
    ·simp only[c1,AfG,AhB,AfD,Ae9]
 ·simp only[h4,AfG,AhB,AfD,Ae9]
theorem AbD(n:Int)(l:List Int)(h1:1<l.length)(hl:l.length<1073741824)(hr:∀ x∈l, -9223372036854775808≤x∧x≤9223372036854775807):
  ∀ (m i cnt:Nat),i+m=l.length→m+1<cnt →
  (∃ k,k<l.length∧Ki n l k=true∧AW Dd cnt (n,l,false,(i:Int),())=some (.inl (n,FE l k,true,()))) ∨
  ((∀ k,i≤k→k<l.length→Ki n l k=false)∧AW Dd cnt (n,l,false,(i:Int),())=some (.inl (n,l,false,()))):=by
 intro m
 induction m with
 |zero=>
  intro i cnt hi hc
  obtain⟨cnt,rfl⟩:∃ c,cnt=c+1:=⟨cnt-1,by omega⟩
  right
  refine⟨fun k q1 q2=>by omega,?_⟩
  rw[AW,Dd,AL,AN,Aeo (by omega)]
 |succ m ih=>
  intro i cnt hi hc
  obtain⟨cnt,rfl⟩:∃ c,cnt=c+1:=⟨cnt-1,by omega⟩
  rw[AW,ANk n l i (by omega) h1 hl hr]
  cases hlf:Ki n l i
  ·simp only[AfD,Ae9]
   rcases ih (i+1) cnt (by omega) (by omega)with h|⟨h,e⟩
   ·exact .inl h
   ·refine .inr ⟨fun k q1 q2 => ?_,e⟩
    by_cases ek:k=i
    ·rw[ek];exact hlf
    ·exact h k (by omega) q2
  ·simp only[AfS]
   obtain⟨cnt,rfl⟩:∃ c,cnt=c+1:=⟨cnt-1,by omega⟩
   refine .inl ⟨i,by omega,hlf,?_⟩
   rw[AW,Dd]
   cases ilt ((i+1:Nat):Int) (AH (FE l i))<;>rfl
theorem AbE(n:Int):∀ (m:Nat) (l:List Int) (cnt:Nat),l.length=m→l.length<1073741824→(∀ x∈l, -9223372036854775808≤x∧x≤9223372036854775807)→l.Nodup→m<cnt →
  (¬ TI n l∧AW NA cnt (n,l,())=some (.inl (false,()))) ∨
  ∃ l',AW NA cnt (n,l,())=some (.inr (.inl (n,l',())))∧l'.length≤1∧(TI n l↔TI n l'):=by
 intro m
 induction m using Nat.strongRecOn with
 |_ m ih=>
 intro l cnt hm hl hr hn hc
 have hmany:4294967296<many:=by simp only[many];omega
 obtain⟨cnt,rfl⟩:∃ c,cnt=c+1:=⟨cnt-1,by omega⟩
 rw[AW,NA,AL,Ai]
 by_cases h1:1<l.length
 ·rw[Aeq (by omega)]
  simp only[As]
  rcases AbD n l h1 hl hr l.length 0 many (by omega) (by omega)with⟨k,k1,k2,e⟩|⟨k1,e⟩
  ·have e':AW Dd many (n,l,false,(0:Int),())=_:=e
   simp only[e',Ae0]
   have hred:=AQU k1 k2
   have hiff:=Adm hred hn
   have hlen:(FE l k).length=l.length-3:=by simp[FE]
   rcases ih (l.length-3) (by omega) (FE l k) cnt hlen (by omega) (fun x hx=>hr x (AOu k1 x hx)) (AUv hred hn) (by omega)with⟨q1,q2⟩|⟨l',q1,q2,q3⟩
   ·exact .inl ⟨fun h=>q1 (hiff.1 h),q2⟩
   ·exact .inr ⟨l',q1,q2,hiff.trans q3⟩
  ·have e':AW Dd many (n,l,false,(0:Int),())=_:=e
   simp only[e',AfT]
   refine .inl ⟨fun h => ?_,by trivial⟩
   obtain⟨l',hl'⟩:=AeH h h1
   obtain⟨i,i1,i2⟩:=AOy hl'
   rw[k1 i (by omega) i1]at i2
   cases i2
 ·rw[Aeo (by omega)]
  exact .inr ⟨l,rfl,by omega,Iff.rfl⟩
theorem ANl(n:Int)(l:List Int)(hl:l.length<1073741824)(hr:∀ x∈l, -9223372036854775808≤x∧x≤9223372036854775807)(hn:l.Nodup):ANm (n,l,())=some (decide (TI n l),()):=by
 have hmany:4294967296<many:=by simp only[many];omega
 rw[AT3,Xv,Be (by simp only[AL,AfI];omega)]
 simp only[C5,AfQ,As]
 rcases AbE n l.length l many rfl hl hr hn (by omega)with⟨q1,q2⟩|⟨l',q1,q2,q3⟩
 ·rw[q2,Aeo q1]
 ·rw[q1]
  simp only[AL,Ao]
  match l',q2,q3 with
  |[],_,q3=>
   have:¬ TI n l:=fun h=>Aaz n (q3.1 h)
   simp[this]
  |[t],_,q3=>
   rw[Aay]at q3
   have i0:idx [t] (0:Int)=some t:=by rw[GL];rfl
   have d0:AX [t] 0 (0:Int)=t:=rfl
   rw[Aeq (by simp)]
   simp only[i0,d0,Hl]
   by_cases h:In n t
   ·rw[Aeq h,Aeq (q3.2 h)]
   ·rw[Aeo h,Aeo (fun h2=>h (q3.1 h2))]
end Go.Pev.Pl
end
section
namespace Go.Pev.Pl
open Tok
noncomputable instance (n:Int) (rings:List (List Int)):Decidable (RF n rings):=Classical.propDecidable _
noncomputable instance (n:Int) (xs:List Int):Decidable (RG n xs):=Classical.propDecidable _
end Go.Pev.Pl
end
end
section
section
namespace Go.Pev.Pl
open Tok
theorem ACV(N:Nat)(hN:N≤64)(l:List Int)(hl:l.length<1073741824)(h0:∀ t∈l,0≤t)(d1:List (List Int))(d3 d5:Int)(d8:List Int)(d9:Int)(d10:Bool)(d11:Int)(d12:List Int)(d13 d14:Bool)(d15 d16:List Int)(d17:List (List Int))(d18:List Int)(d19:List (List Int))(d20 d21:Bool)(d22:List Int)(d23 d24:Int)(d25:Bool):
  ∀ (m k cnt:Nat) (met:List Bool) (seen:List Int),k+m=l.length→MB N met seen→(l.drop k).Nodup→seen.length+m<4611686018427387904→m<cnt →
  ((∀ t∈l.drop k,t<(N:Int)→t∉seen)∧∃ met',AW D7 cnt ((N:Int),d1,met,d3,(seen.length:Int),d5,l,(k:Int),d8,d9,d10,d11,d12,d13,d14,d15,d16,d17,d18,d19,d20,d21,d22,d23,d24,d25,()) =
    some (.inr (.inl ((N:Int),d1,met',d3,((seen++(l.drop k).filter (fun t=>decide (t<(N:Int)))).length:Int),d5,d8,d9,d10,d11,d12,d13,d14,d15,d16,d17,d18,d19,d20,d21,d22,d23,d24,d25,())))∧MB N met' (seen++(l.drop k).filter (fun t=>decide (t<(N:Int))))) ∨
  (¬ (∀ t∈l.drop k,t<(N:Int)→t∉seen)∧AW D7 cnt ((N:Int),d1,met,d3,(seen.length:Int),d5,l,(k:Int),d8,d9,d10,d11,d12,d13,d14,d15,d16,d17,d18,d19,d20,d21,d22,d23,d24,d25,())=some (.inl (false,()))):=by
 intro m
 induction m with
 |zero=>
  intro k cnt met seen hk hm hn hsl hc
  obtain⟨cnt,rfl⟩:∃ c,cnt=c+1:=⟨cnt-1,by omega⟩
  have e:l.drop k=[]:=Af0 (by omega)
  rw[e]
  refine .inl ⟨by simp,met,?_,by simpa using hm⟩
  rw[AW,D7,AL,AN,Aeo (by omega)]
  simp
 |succ m ih=>
  intro k cnt met seen hk hm hn hsl hc
  obtain⟨cnt,rfl⟩:∃ c,cnt=c+1:=⟨cnt-1,by omega⟩
  have hk':k<l.length:=by omega
  have e:l.drop k=l.getD k 0::l.drop (k+1):=by
   rw[Afh hk',Aes,Aev hk',AfN]
  have hpos:0≤l.getD k 0:=h0 _ (by rw[Aes,Aev hk',AfN];exact AgQ hk')
  rw[AW,D7,AL,AN,Aeq hk']
  simp only[DK (0:Int) hk']
  rw[e]at hn ⊢
  generalize l.getD k 0=t at *
  rw[AfO]at hn
  rw[AP (show k+1<9223372036854775808 by omega),Ai]
  by_cases ht:t<(N:Int)
  ·rw[Aeq ht]
   obtain⟨q,rfl⟩:=Ae1 hpos
   have hq:q<met.length:=by rw[hm.1];omega
   have hmq:=hm.2 q (by omega)
   simp only[DK false hq,FZ,AHv,hmq]
   by_cases hs:(q:Int)∈seen
   ·rw[Aeq hs]
    exact .inr ⟨fun h=>h (q:Int) (by simp) ht hs,rfl⟩
   ·rw[Aeo hs]
    simp only[]
    have hm':MB N (met.set q true) (seen++[(q:Int)]):=by
     refine⟨by simp[hm.1],fun y hy => ?_⟩
     by_cases e2:y=q
     ·subst e2
      simp[Aes,hq]
     ·have h3:=hm.2 y hy
      have e3:¬ (y:Int)=(q:Int):=by omega
      rw[Aes,Afb (AfV e2),← Aes,h3]
      simp[e3]
    have hlen:(((seen.length:Nat):Int))=((seen.length:Nat):Int):=rfl
    have hw:IntKind.wrap .i64 ((seen.length:Int)+1)=((seen++[(q:Int)]).length:Int):=by
     rw[Ah (by omega)];simp
    rw[hw]
    have hiff:(∀ y∈(q:Int)::l.drop (k+1),y<(N:Int)→y∉seen)↔∀ y∈l.drop (k+1),y<(N:Int)→y∉seen++[(q:Int)]:=by
     constructor
     ·intro h y hy hyn hm2
      simp only[Aeu,AfH]at hm2
      rcases hm2 with h2|rfl
      ·exact h y (AfF _ hy) hyn h2
      ·exact hn.1 hy
     ·intro h y hy hyn hm2
      rcases Aew.1 hy with rfl|hy
      ·exact hs hm2
      ·exact h y hy hyn (by simp[hm2])
    rcases ih (k+1) cnt _ _ (by omega) hm' hn.2 (by simp;omega) (by omega)with⟨q1,met',q2,q3⟩|⟨q1,q2⟩
    ·refine .inl ⟨hiff.2 q1,met',?_,?_⟩
     ·rw[Ahm (by simpa using ht)]
      rw[q2,Aft]
      rfl
     ·rw[Ahm (by simpa using ht)]
      simpa using q3
    ·exact .inr ⟨fun h=>q1 (hiff.1 h),q2⟩
  ·rw[Aeo ht]
   simp only[]
   have hiff:(∀ y∈t::l.drop (k+1),y<(N:Int)→y∉seen)↔∀ y∈l.drop (k+1),y<(N:Int)→y∉seen:=by
    constructor
    ·intro h y hy;exact h y (AfF _ hy)
    ·intro h y hy hyn
     rcases Aew.1 hy with rfl|hy
     ·exact absurd hyn ht
     ·exact h y hy hyn
   rcases ih (k+1) cnt _ _ (by omega) hm hn.2 (by omega) (by omega)with⟨q1,met',q2,q3⟩|⟨q1,q2⟩
   ·refine .inl ⟨hiff.2 q1,met',?_,?_⟩
    ·rw[Ahn (by simpa using ht)]
     exact q2
    ·rw[Ahn (by simpa using ht)]
     exact q3
   ·exact .inr ⟨fun h=>q1 (hiff.1 h),q2⟩
theorem WW(N:Nat)(hN1:1≤N)(hN:N≤64)(rings:List (List Int))(hlen:rings.length≤64)(hr:∀ l∈rings,l.length<9223372036854775808∧∀ x∈l, -9223372036854775808≤x∧x≤9223372036854775807):
  ∀ (ls:List (List Int)) (i cnt:Nat) (met:List Bool) (last:Int) (seen:List Int),rings.drop i=ls→i≤rings.length→MB N met seen→seen.length≤i*1073741824→ls.length<cnt →
  (okR (N:Int) seen last ls∧∃ met' seen',AW D8 cnt ((N:Int),rings,met,last,(seen.length:Int),(i:Int),())=some (.inr (.inl ((N:Int),rings,(seen'.length:Int),())))∧MB N met' seen'∧seen'=seen++ls.flatten.filter (fun t=>decide (t<(N:Int)))) ∨
  (¬ okR (N:Int) seen last ls∧AW D8 cnt ((N:Int),rings,met,last,(seen.length:Int),(i:Int),())=some (.inl (false,()))):=by
 have hmany:4294967296<many:=by simp only[many];omega
 intro ls
 induction ls with
 |nil=>
  intro i cnt met last seen hd hi hm hsl hc
  obtain⟨cnt,rfl⟩:∃ c,cnt=c+1:=⟨cnt-1,by simp at hc;omega⟩
  have:rings.length≤i:=by simpa using hd
  refine .inl ⟨trivial,met,seen,?_,hm,by simp⟩
  rw[AW,D8,AL,AN,Aeo (by omega)]
 |cons l ls ih=>
  intro i cnt met last seen hd hi hm hsl hc
  simp only[Aex]at hc
  obtain⟨cnt,rfl⟩:∃ c,cnt=c+1:=⟨cnt-1,by omega⟩
  have hi':i<rings.length:=by
   refine Afl fun h => ?_
   rw[Af0 (by omega)]at hd
   cases hd
  rw[Afh hi']at hd
  simp only[AfC]at hd
  obtain⟨hd1,hd2⟩:=hd
  have hx:rings[i]? = some l:=by rw[Aev hi',hd1]
  have hmem:l∈rings:=Ae5 hx
  obtain⟨hl,hlr⟩:=hr l hmem
  rw[AW,D8,AL,AN,Aeq hi',okR]
  simp only[Aj hx,L3]
  by_cases c2:Rt l
  ·rw[Aeq c2]
   have hl:l.length<1073741824:=by have:=c2.1;omega
   simp only[Ae0]
   cases l with
   |nil=>
    rw[AL,Ao,Aeq (by simp)]
    exact .inr ⟨fun h=>h.1.2.1 rfl,rfl⟩
   |cons x tl=>
    rw[AL,Ao,Aeo (by simp only[Aex];omega)]
    simp only[ANl (N:Int) (x::tl) hl hlr c2.2.2]
    by_cases c4:TI (N:Int) (x::tl)
    ·rw[Aeq c4]
     simp only[Ae0,UI]
     rw[ALg _ _ (by simp) (by
      intro y hy
      simp only[AfH]at hy
      subst hy
      obtain⟨a,b,q1,q2⟩:=HX c2 (by simp)
      have:=Af5 List.length q1
      rw[q2]
      simp only[Aex,Aey]at this hl ⊢
      omega)]
     have hps:=Yq c2 (by simp)
     have hps2:([plain (x::tl)]=[x::tl])↔GJ (x::tl)=x:=by simpa using hps
     by_cases c3:GJ (x::tl)=x
     ·rw[Aeq (hps2.2 c3)]
      have i0:idx (x::tl) (0:Int)=some x:=by rw[GL];rfl
      simp only[Ae0,i0,Ahi,Az]
      by_cases c1:x≤last
      ·rw[Aeq c1]
       exact .inr ⟨fun h=>by omega,rfl⟩
      ·rw[Aeo c1]
       simp only[As]
       have hRG:RG (N:Int) (x::tl):=⟨c2,by simp,c3,c4⟩
       rcases ACV N hN (x::tl) hl (fun t ht=>(c2.2.1 t ht).1) rings x (i:Int) (x::tl) ((x::tl).length:Int) false (N:Int) (x::tl) true false (x::tl) (plain (x::tl)) [plain (x::tl)] (x::tl) [x::tl] true false (x::tl) x last false (x::tl).length 0 many met seen (by omega) hm (by rw[Agq];exact c2.2.2) (by omega) (by omega)with⟨q1,met',q2,q3⟩|⟨q1,q2⟩
       ·rw[Agq]at q1 q3 q2
        have q2':AW D7 many ((N:Int),rings,met,x,(seen.length:Int),(i:Int),x::tl,(0:Int),x::tl,((x::tl).length:Int),false,(N:Int),x::tl,true,false,x::tl,plain (x::tl),[plain (x::tl)],x::tl,[x::tl],true,false,x::tl,x,last,false,())=_:=q2
        simp only[q2',AP (show i+1<9223372036854775808 by omega)]
        have hfl:((x::tl).filter (fun t=>decide (t<(N:Int)))).length≤(x::tl).length:=AgH _ _
        rcases ih (i+1) cnt met' x (seen++(x::tl).filter (fun t=>decide (t<(N:Int)))) hd2 (by omega) q3 (by rw[Aey];omega) (by omega)with⟨p1,met2,seen2,p2,p3,p4⟩|⟨p1,p2⟩
        ·refine .inl ⟨⟨hRG,by omega,q1,p1⟩,met2,seen2,p2,p3,?_⟩
         rw[p4,Agu,Agc,Aft]
        ·exact .inr ⟨fun h=>p1 h.2.2.2,p2⟩
       ·rw[Agq]at q1
        have q2':AW D7 many ((N:Int),rings,met,x,(seen.length:Int),(i:Int),x::tl,(0:Int),x::tl,((x::tl).length:Int),false,(N:Int),x::tl,true,false,x::tl,plain (x::tl),[plain (x::tl)],x::tl,[x::tl],true,false,x::tl,x,last,false,())=_:=q2
        simp only[q2']
        exact .inr ⟨fun h=>q1 h.2.2.1,by trivial⟩
     ·rw[Aeo (fun h=>c3 (hps2.1 h))]
      exact .inr ⟨fun h=>c3 h.1.2.2.1,rfl⟩
    ·rw[Aeo c4]
     exact .inr ⟨fun h=>c4 h.1.2.2.2,rfl⟩
  ·rw[Aeo c2]
   exact .inr ⟨fun h=>c2 h.1.1,rfl⟩
theorem EJ(n:Int)(rings:List (List Int))(hlen:rings.length<1073741824)(hr:∀ l∈rings,l.length<9223372036854775808∧∀ x∈l, -9223372036854775808≤x∧x≤9223372036854775807):
  Pz ((n,(rings,())),())=some (decide (RF n rings),()):=by
 have hmany:4294967296<many:=by simp only[many];omega
 rw[AOh,Rx]
 simp only[Ai,AL]
 by_cases h1:n<1
 ·rw[Aeq h1,Aeo (show ¬ RF n rings from fun h=>by have:=h.1.1;omega)]
 ·rw[Aeo h1]
  simp only[]
  by_cases h2:64<n
  ·rw[Aeq h2,Aeo (show ¬ RF n rings from fun h=>by have:=h.1.2;omega)]
  ·rw[Aeo h2]
   simp only[]
   by_cases h3:n<(rings.length:Int)
   ·rw[Aeq h3,Aeo (show ¬ RF n rings from fun h=>by
     have:=ASv (by omega) h.2.1 (by omega) (by omega)
     omega)]
   ·rw[Aeo h3]
    obtain⟨N,rfl⟩:=Ae1 (show 0≤n by omega)
    have f1:E5 (N:Int)=true:=(NS _).2 (by omega)
    have f2:ile (N:Int) (N:Int)=true:=by rw[Az];simp
    simp only[f1,f2,AgB,Bool.and_true,As]
    have hMB:MB N (Dy (AK (N:Int)) false) []:=by
     refine⟨by simp[Dy,Hw],fun k hk => ?_⟩
     simp[Dy,Hw,hk]
    rcases WW N (by omega) (by omega) rings (by omega) hr rings 0 many _ (-1) [] (by simp) (by omega) hMB (by simp) (by omega)with⟨p1,met,seen,p2,p3,p4⟩|⟨p1,p2⟩
    ·have p2':AW D8 many ((N:Int),rings,Dy (AK (N:Int)) false, -1,(0:Int),(0:Int),())=_:=p2
     simp only[p2',Ao]
     obtain⟨q1,q2⟩:=AVS p1 (by simp)
     rw[← p4]at q1
     have hsub:∀ x∈seen,x∈(List.range N).map (fun(k:Nat)=>(k:Int)):=by
      intro x hx
      rw[p4]at hx
      simp only[AfQ,AfU,Ahz,Aer]at hx
      obtain⟨⟨l,hl,hxl⟩,hxn⟩:=hx
      have:=((q2 l hl).1.2.1 x hxl).1
      rw[AfB]
      exact⟨x.toNat,by rw[AgM];omega,by omega⟩
     have hv:∀ v,v∈seen↔(v<(N:Int)∧v∈rings.flatten):=fun v=>by rw[p4,AfQ,AfU,Aer,and_comm]
     have hS:Sz (N:Int):=⟨by omega,by omega⟩
     by_cases hc:(seen.length:Int)=(N:Int)
     ·rw[Aeq hc,Aeq]
      refine⟨hS,p1,fun v v1 v2 => ?_⟩
      have:=QE q1 hsub (by simp;omega) v (by rw[AfB];exact⟨v.toNat,by rw[AgM];omega,by omega⟩)
      exact((hv v).1 this).2
     ·rw[Aeo hc,Aeo]
      rintro⟨_,_,h⟩
      have a1:=Cc q1 hsub
      have hrn:((List.range N).map (fun(k:Nat)=>(k:Int))).Nodup:=by
       rw[List.Nodup,AgL]
       exact List.nodup_range.imp fun h e=>h (by omega)
      have a2:=Cc (a:=(List.range N).map (fun(k:Nat)=>(k:Int))) (b:=seen) hrn fun x hx=>by
       rw[AfB]at hx
       obtain⟨k,hk,rfl⟩:=hx
       rw[AgM]at hk
       exact(hv _).2 ⟨by omega,h (k:Int) (by omega) (by omega)⟩
      simp only[AgA,Afr]at a1 a2
      omega
    ·have p2':AW D8 many ((N:Int),rings,Dy (AK (N:Int)) false, -1,(0:Int),(0:Int),())=_:=p2
     simp only[p2']
     rw[Aeo (fun h=>p1 h.2.1)]
end Go.Pev.Pl
end
section
namespace Go.Pev.Pl
open Tok
theorem L7(n:Int)(rings:List (List Int))(v:Int)(hlen:rings.length<1073741824)(hr:∀ l∈rings,l.length<9223372036854775808):KR ((n,(rings,())),v,())=some (plc rings v,()):=by
 rw[APA,R2]
 have e:=MZ (step:=HZ) (fun i=>(v,n,rings,(i:Int),())) rings (fun l=>decide (v∈l)) (fun i=>.inl ((i:Int),())) (.inr (.inl ())) (by omega)
  (fun i l hi hx=>by
   have hl:=hr l (Ae5 hx)
   rw[HZ,AL,AN,Aeq hi]
   simp only[Aj hx,L8 l v (by omega)]
   rw[AP (by omega),Az]
   by_cases h:v∈l
   ·obtain⟨k,e,_⟩:=AGT h
    rw[e,Aeq (by omega),Aeq h];rfl
   ·rw[P7 h,Aeo (by omega),Aeo h];rfl)
  (by rw[HZ,AL,AN,Aeo (by omega)])
 have e':AU HZ many (v,n,rings,(0:Int),())=_:=e
 simp only[e',plc]
 cases rings.any (fun l=>decide (v∈l))<;>rfl
end Go.Pev.Pl
end
section
namespace Go.Pev.Pl
open Tok
theorem AUx(rest:List (List Int))(r:List Int)(hlen:rest.length<1073741824)(hne:∀ l∈rest,l≠[])(hp:plain r≠[]):ASf (rest,r,())=some (Yo rest (plain r),()):=by
 rw[AYZ,AGS]
 simp only[UI]
 generalize plain r=p at *
 have e:=MZ (step:=L5) (fun i=>(rest,p,(i:Int),())) rest (fun x => !decide (hd x<hd p)) (fun i=>.inl (rest,p,(i:Int),())) (.inl (rest,p,(rest.length:Int),())) (by omega)
  (fun i x hi hx=>by
   rw[L5,AL,AN,Aeq hi]
   simp only[Aj hx,ATH (hne x (Ae5 hx)),ATH hp,AaW,Ai]
   rw[AP (by omega)]
   by_cases h:hd x<hd p
   ·rw[Aeq h];rfl
   ·rw[Aeo h];rfl)
  (by rw[L5,AL,AN,Aeo (by omega)])
 have e':AU L5 many (rest,p,(0:Int),())=_:=e
 have hk:(if rest.any (fun x => !decide (hd x<hd p))then(.inl (rest,p,((rest.findIdx fun x => !decide (hd x<hd p):Nat):Int),()):(List (List Int)×List Int×Int×Unit)⊕Unit)else .inl (rest,p,(rest.length:Int),())) = .inl (rest,p,((rest.findIdx fun x => !decide (hd x<hd p):Nat):Int),()):=by
  split
  ·rfl
  ·rename_i h
   rw[List.findIdx_eq_length.2 fun x hx=>by
    refine Afl fun hc=>h (AgX.2 ⟨x,hx,by simpa using hc⟩)]
 rw[e',hk]
 have hle:(rest.findIdx fun x => !decide (hd x<hd p))≤rest.length:=List.findIdx_le_length
 rw[Yo]
 generalize (rest.findIdx fun x => !decide (hd x<hd p))=k at *
 simp only[I4 hle,Eb hle]
 rw[Be (by simp only[AL,AfI,Ae8];omega)]
 simp only[]
 rw[Be (by simp only[AL,C5,Aey,Aex,AfI,Ae8];omega)]
 simp only[]
 rw[Be (by simp only[AL,C5,Aey,Aex,AfI,Ae8,AfW];omega)]
 simp only[C5,AfQ,Aft,Ag5]
theorem Nq(l:List (List Int))(i:Nat)(hi:i<l.length)(hlen:l.length<1073741824):G0 (l,(i:Int),())=some (l.eraseIdx i,()):=by
 rw[AE1,Lg]
 rw[AP (by omega)]
 simp only[I4 (AgZ hi),Eb (show i+1≤l.length by omega)]
 rw[Be (by simp only[AL,AfI,Ae8];omega)]
 simp only[]
 rw[Be (by simp only[AL,C5,Aey,AfI,Ae8,AfW];omega)]
 simp only[C5,AfQ,List.eraseIdx_eq_take_drop_succ]
end Go.Pev.Pl
end
section
namespace Go.Pev.Pl
open Tok
theorem AbI(n:Int)(rings:List (List Int))(v:Int)(hD:Dom rings):tof ((n,(rings,())),v,())=some (if RF n rings∧In n v then plc rings v else -1,()):=by
 rw[AXd,AR7]
 simp only[Wz,OG n rings hD.1 hD.2,HL n rings v hD.1 (fun l hl=>(hD.2 l hl).1)]
 by_cases h1:In n v
 ·by_cases h2:RF n rings<;>simp[h1,h2]
 ·simp[h1]
end Go.Pev.Pl
end
section
namespace Go.Pev.Pl
open Go.RowKit Tok
end Go.Pev.Pl
end
section
namespace Go.Pev.Pl
open Tok
end Go.Pev.Pl
end
section
namespace Go.Pev.Pl
open Tok
theorem ALh{n:Int}{rings:List (List Int)}{u v:Int}(h:FR n rings)(iu:In n u)(iv:In n v)(hp:plc rings u=plc rings v):
  Lq ((n,(rings,())),u,v,())=some (n,rings,5,())∧Sl ((n,(rings,())),u,v,())=some (n,rings,5,()):=by
 have hD:=h.dom
 have hRF:=LH.2 h
 constructor
 ·rw[HO,Gj]
  simp only[HA n rings u v hD,hRF,iu,iv,and_self,AfS,Ao,HL n rings _ hD.1 (fun l hl=>(hD.2 l hl).1),hp,Ae2,Ae0]
 ·rw[NM,Ju]
  simp only[EJ n rings hD.1 hD.2,hRF,Hl,iu,iv,Ae2,Ae0,L7 n rings _ hD.1 (fun l hl=>(hD.2 l hl).1),Ao,hp]
theorem AZd{n:Int}{rings:List (List Int)}{u v:Int}{i j:Nat}{A B:List Int}(h:FR n rings)(iu:In n u)(iv:In n v)(hi:rings[i]? = some A)(hj:rings[j]? = some B)(hu:u∈A)(hv:v∈B)(hij:i≠j):
  ∃ zs rest,Lq ((n,(rings,())),u,v,())=some (n,zs,0,())∧Sl ((n,(rings,())),u,v,())=some (n,zs,0,())∧FR n zs∧rings.Perm (A::B::rest)∧zs.Perm (plain (BE n A B u v)::rest)∧Dis n A B:=by
 have hD:=h.dom
 have hRF:=LH.2 h
 have rA:=h.rg A (Ae5 hi)
 have rB:=h.rg B (Ae5 hj)
 have hil:=(Afy.1 hi).1
 have hjl:=(Afy.1 hj).1
 have pu:plc rings u=(i:Int):=h.AGU hi iu.2.2.2 hu
 have pv:plc rings v=(j:Int):=h.AGU hj iv.2.2.2 hv
 have hperm:rings.Perm (A::B::(rings.eraseIdx (max i j)).eraseIdx (min i j)):=by
  rcases Ahk hij with g|g
  ·rw[AhC (by omega),Afi (by omega)]
   exact Io g hi hj
  ·rw[AhK (by omega),AhD (by omega)]
   exact(Io g hj hi).trans (List.Perm.swap _ _ _)
 have hdis:Dis n A B:=by
  have:=J1 hperm h.dis
  rw[Afe]at this
  exact this.1 B (by simp)
 obtain⟨l1,l2,l3,huv,ho⟩:=NL rA.2.2.2 rB.2.2.2 hu hv iu iv hdis
 obtain⟨hRG,hrot⟩:=ABi l1
 have hall:BE n A B u v=u::Du n u v::(A4 B v++Du n v u::(A4 A u).tail):=rfl
 have lA:(A4 A u).length≤1000:=by rw[← (Cb hu).perm.length_eq];exact rA.1.1
 have lB:(A4 B v).length≤1000:=by rw[← (Cb hv).perm.length_eq];exact rB.1.1
 have hsub:((rings.eraseIdx (max i j)).eraseIdx (min i j)).Sublist rings:=(AhT _ _).trans (AhT _ _)
 have hw1:G0 (rings,((max i j:Nat):Int),())=some (rings.eraseIdx (max i j),()):=Nq _ _ (by omega) hD.1
 have hel:(rings.eraseIdx (max i j)).length=rings.length-1:=by rw[List.length_eraseIdx];rw[Ae6 (by omega)]
 have hw2:G0 (rings.eraseIdx (max i j),((min i j:Nat):Int),())=some ((rings.eraseIdx (max i j)).eraseIdx (min i j),()):=Nq _ _ (by omega) (by have:=hD.1;omega)
 have hdrop:Cp (fun k=>decide ((k:Int)∈[(i:Int),(j:Int)])) 0 rings=(rings.eraseIdx (max i j)).eraseIdx (min i j):=by
  rcases Ahk hij with g|g
  ·rw[AhC (by omega),Afi (by omega)]
   exact K6 _ i j g rings 0 (by omega) fun k _=>Af3.2 (by simp only[Aew,Agd,AhM];omega)
  ·rw[AhK (by omega),AhD (by omega)]
   exact K6 _ j i g rings 0 (by omega) fun k _=>Af3.2 (by simp only[Aew,Agd,AhM];omega)
 have hrl:((rings.eraseIdx (max i j)).eraseIdx (min i j)).length≤rings.length:=hsub.length_le
 generalize (rings.eraseIdx (max i j)).eraseIdx (min i j)=rest at *
 have hupr:rest.Pairwise (fun a b=>hd a<hd b):=h.up.sublist hsub
 have hner:∀ l∈rest,l≠[]:=fun l hl=>(h.rg l (hsub.subset hl)).2.1
 have hdd:=J1 hperm h.dis
 rw[Afe,Afe]at hdd
 have hheads:∀ x∈rest,hd x≠hd (plain (BE n A B u v)):=by
  intro x hx e
  have g1:=Na hRG
  have g2:=(l3 _ g1.2.2.2).1 (hrot.perm.mem_iff.2 (S2 hRG.2.1))
  have g3:hd (plain (BE n A B u v))∈x:=e▸S2 (hner x hx)
  rcases g2 with g|g
  ·exact hdd.1 x (by simp[hx]) _ g g1.2.2.2 g3
  ·exact hdd.2.1 x hx _ g g1.2.2.2 g3
 have hup:=ASe hupr hheads
 have hpz:=ADr rest (plain (BE n A B u v))
 refine⟨Yo rest (plain (BE n A B u v)),rest,?_,?_,ATg h hperm hRG (fun t ht=>by rw[← hrot.perm.mem_iff];exact l3 t ht) hpz hup,hperm,hpz,hdis⟩
 ·obtain⟨ys,y1,y2,y3⟩:=ADE n rings [(i:Int),(j:Int)] [BE n A B u v] hD.1 (by simp) (by simp) (fun l hl=>(h.rg l hl).2.1) (by simp;exact hRG.2.1)
  have hys:ys=Yo rest (plain (BE n A B u v)):=by
   refine UB hup (y2.trans ?_) y3
   rw[hdrop]
   exact(AgY (l₁:=rest) (l₂:=[plain (BE n A B u v)])).trans hpz.symm
  rw[hys]at y1
  rw[HO,Gj]
  have s1:CO (A4 A u) (0:Int) (1:Int)=some [u]:=by
   have:=AFc (xs:=A4 A u) (l:=0) (h:=1) (by omega) (by rw[l2];simp)
   rw[l2]at this ⊢
   exact this
  have s2:CO (A4 A u) (1:Int) (AH (A4 A u))=some (A4 A u).tail:=by
   have:=Eb (xs:=A4 A u) (l:=1) (by rw[l2];simp)
   rw[Agn]at this
   exact this
  have d1:DI 0 (AK (AH [u])) (A4 A u)=[u]:=by rw[l2];rfl
  have d2:DI 1 (AK (AH (A4 A u).tail)) (A4 A u)=(A4 A u).tail:=by
   rw[DI,AL,Hw,Agn,AgD]
  have hcat:Is ([[u],[Du n u v],A4 B v,[Du n v u],(A4 A u).tail],())=some (BE n A B u v,()):=by
   rw[Ml _ (by simp) (by simp;omega)]
   simp[BE]
  have ne:((i:Int))≠(j:Int):=by omega
  simp only[HA n rings u v hD,hRF,iu,iv,and_self,AfS,Ao,HL n rings _ hD.1 (fun l hl=>(hD.2 l hl).1),pu,pv,ne,Ae2,AfG,Ae0,Aj hi,Aj hj,ADm,Ij,rA.1,rB.1,hu,hv,s1,s2,AJL,d1,d2,hcat,y1]
 ·rw[NM,Ju]
  have s2:CO (A4 A u) (1:Int) (AH (A4 A u))=some (A4 A u).tail:=by
   have:=Eb (xs:=A4 A u) (l:=1) (by rw[l2];simp)
   rw[Agn]at this
   exact this
  have d2:DI 1 (AK (AH (A4 A u).tail)) (A4 A u)=(A4 A u).tail:=by
   rw[DI,AL,Hw,Agn,AgD]
  have ne:((i:Int))≠(j:Int):=by omega
  have f1:fits (AH [u,Du n u v]+AH (A4 B v))=true:=Be (by simp only[AL,Aex,AfI];omega)
  have f2:fits (AH (A9 [u,Du n u v] (A4 B v))+AH [Du n v u])=true:=Be (by simp only[AL,C5,Aey,Aex,AfI];omega)
  have f3:fits (AH (A9 (A9 [u,Du n u v] (A4 B v)) [Du n v u])+AH (A4 A u).tail)=true:=Be (by simp only[AL,C5,Aey,Aex,AfI,List.length_tail];omega)
  have hcat:A9 (A9 (A9 [u,Du n u v] (A4 B v)) [Du n v u]) (A4 A u).tail=BE n A B u v:=by simp[C5,BE]
  have hput:ASf (rest,BE n A B u v,())=some (Yo rest (plain (BE n A B u v)),()):=AUx rest _ (by have:=hD.1;omega) hner hRG.2.1
  simp only[EJ n rings hD.1 hD.2,hRF,Hl,iu,iv,Ae2,Ae0,L7 n rings _ hD.1 (fun l hl=>(hD.2 l hl).1),pu,pv,Ao,ne,AfG,Aj hi,Aj hj,O3 A u (by have:=rA.1.1;omega),O3 B v (by have:=rB.1.1;omega),Ij,rA.1,rB.1,hu,hv,and_self,AfS,AEh,f1,f2,s2,d2,f3,AZs,AZr,hw1,hw2,hcat,hput]
theorem ACo{n:Int}{rings:List (List Int)}{u v:Int}(hD:Dom rings)(h:¬ (RF n rings∧In n u∧In n v)):
  ∃ e,e≠0∧(∃ b,e=b∧(b=1∨b=10))∧Lq ((n,(rings,())),u,v,())=some (n,rings,e,())∧Sl ((n,(rings,())),u,v,())=some (n,rings,e,()):=by
 by_cases h1:RF n rings
 ·have h2:¬ (In n u∧In n v):=fun h2=>h ⟨h1,h2⟩
  refine⟨10,by omega,⟨10,rfl,.inr rfl⟩,?_,?_⟩
  ·rw[HO,Gj]
   simp only[HA n rings u v hD,h1,h2,AfS,Ae9,Ao]
   rfl
  ·rw[NM,Ju]
   simp only[EJ n rings hD.1 hD.2,h1,Hl,Ae2,Ae0]
   by_cases hu:In n u
   ·have hv:¬ In n v:=fun hv=>h2 ⟨hu,hv⟩
    simp[hu,hv]
   ·simp[hu]
 ·refine⟨1,by omega,⟨1,rfl,.inl rfl⟩,?_,?_⟩
  ·rw[HO,Gj]
   simp only[HA n rings u v hD,h1,Ae9,Ao]
   rfl
  ·rw[NM,Ju]
   simp only[EJ n rings hD.1 hD.2,h1,AfG,AfT]
theorem ARl{n:Int}{rings:List (List Int)}(u v:Int)(hD:Dom rings):∃ zs e,Lq ((n,(rings,())),u,v,())=some (n,zs,e,())∧Sl ((n,(rings,())),u,v,())=some (n,zs,e,())∧Dom zs:=by
 by_cases h:RF n rings∧In n u∧In n v
 ·obtain⟨h1,iu,iv⟩:=h
  have hF:=LH.1 h1
  obtain⟨i,A,pu,hi,hu,_⟩:=L6 (hF.cov u iu)
  obtain⟨j,B,pv,hj,hv,_⟩:=L6 (hF.cov v iv)
  by_cases hij:i=j
  ·obtain⟨q1,q2⟩:=ALh hF iu iv (by rw[pu,pv,hij])
   exact⟨_,_,q1,q2,hD⟩
  ·obtain⟨zs,rest,q1,q2,q3,_⟩:=AZd hF iu iv hi hj hu hv hij
   exact⟨_,_,q1,q2,q3.dom⟩
 ·obtain⟨e,_,_,q1,q2⟩:=ACo hD h
  exact⟨_,_,q1,q2,hD⟩
end Go.Pev.Pl
end
section
namespace Go.Pev.Pl
open Tok
def sel(l:List Edge)(bs:List Bool):List Edge:=((l.zip bs).filter fun p=>p.2).map fun p=>p.1
end Go.Pev.Pl
end
section
namespace Go.Pev.Pl
open Tok
instance (n v:Int):Decidable (In n v):=inferInstanceAs (Decidable (_∧_))
instance (n:Int):Decidable (Sz n):=inferInstanceAs (Decidable (_∧_))
end Go.Pev.Pl
end
section
namespace Go.Pev.Pl
instance (xs:List Int):Decidable (Rt xs):=inferInstanceAs (Decidable (_∧_∧_))
end Go.Pev.Pl
end
section
namespace Go.Pev.Pl
open Tok
noncomputable instance (n:Int) (xs:List Int):Decidable (TI n xs):=Classical.propDecidable _
end Go.Pev.Pl
end
section
namespace Go.Pev.Pl
open Tok
noncomputable instance (n:Int) (rings:List (List Int)):Decidable (RF n rings):=Classical.propDecidable _
noncomputable instance (n:Int) (xs:List Int):Decidable (RG n xs):=Classical.propDecidable _
end Go.Pev.Pl
end
section
namespace Go.Pev.Pl
open Tok
theorem AJK(n:Int)(rings:List (List Int))(l:List (Int×Int×Unit))(hD:Dom rings)(hs:l.length<9223372036854775808):AFa ((n,(rings,())),l,())=some (AM4 n rings (l.all fun e=>decide (In n e.1)&&decide (In n e.2.1)),()):=by
 rw[ANt,Rk]
 simp only[EJ n rings hD.1 hD.2,AM4]
 by_cases h:RF n rings
 ·simp only[h,Ae2,Ae0,AfS]
  have e:=MZ (step:=HP) (fun i=>(l,n,rings,(i:Int),())) l (fun e => !(decide (In n e.1)&&decide (In n e.2.1))) (fun _=>.inl ((10:Int),())) (.inr (.inl ())) hs
   (fun i x hi hx=>by
    rw[HP,AL,AN,Aeq hi]
    simp only[Aj hx,Ai,Az]
    rw[AP (by omega)]
    have q1:=ARt (v:=x.1) h.1
    have q2:=ARt (v:=x.2.1) h.1
    by_cases c1:x.1<0
    ·rw[Aeq c1,Bool.true_or]at q1
     have:decide (In n x.1)=false:=by simpa using q1.symm
     simp[c1,this]
    ·by_cases c2:n≤x.1
     ·rw[Aeq c2,Bool.or_true]at q1
      have:decide (In n x.1)=false:=by simpa using q1.symm
      simp[c1,c2,this]
     ·rw[Aeo c1,Aeo c2]at q1
      have g1:decide (In n x.1)=true:=by simpa using q1.symm
      by_cases c3:x.2.1<0
      ·rw[Aeq c3,Bool.true_or]at q2
       have:decide (In n x.2.1)=false:=by simpa using q2.symm
       simp[c1,c2,c3,this]
      ·by_cases c4:n≤x.2.1
       ·rw[Aeq c4,Bool.or_true]at q2
        have:decide (In n x.2.1)=false:=by simpa using q2.symm
        simp[c1,c2,c3,c4,this]
       ·rw[Aeo c3,Aeo c4]at q2
        have g2:decide (In n x.2.1)=true:=by simpa using q2.symm
        simp[c1,c2,c3,c4,g1,g2])
   (by rw[HP,AL,AN,Aeo (by omega)])
  have e':AU HP many (l,n,rings,(0:Int),())=_:=e
  rw[e',List.any_eq_not_all_not]
  simp only[Bool.not_not]
  cases l.all fun e=>decide (In n e.1)&&decide (In n e.2.1)<;>rfl
 ·simp[h]
end Go.Pev.Pl
end
section
namespace Go.Pev.Pl
open Tok
end Go.Pev.Pl
end
section
namespace Go.Pev.Pl
open Tok
end Go.Pev.Pl
end
section
namespace Go.Pev.Pl
open Tok
end Go.Pev.Pl
end
section
namespace Go.Pev.Pl
open Tok
theorem AJ0{N:Nat}(h1:1≤N)(hN:N≤64){ts:List Tie}(hs:ts.length≤400)(ho:oks N ts){out:List Int}(hc:T6 (N:Int) (trs ts ts.length) out):
  Gl (((N:Int),(ts,())),())=some (decide ((cnt out N:Int)=(N:Int)-(trs ts ts.length).length),()):=by
 have R:=Py N hN ts hs
 rw[Ae6 ho]at R
 have hin:=ANh hN ho
 have hlen:=AFI ts ts.length
 obtain⟨o2,e2,c2⟩:=F5 (N:Int) (trs ts ts.length) ⟨by omega,by omega⟩ (by omega) hin
 have:=T6.unique h1 hN hc c2
 subst this
 have hol:out.length=N:=by have:=hc.len;omega
 rw[HW,FA]
 simp only[Ai,AL]
 rw[Aeo (show ¬ (N:Int)<1 by omega),Aeo (show ¬ 64<(N:Int) by omega),Aeo (show ¬ 400<(ts.length:Int) by omega)]
 simp only[R,e2,Nt N hN _ _ out hol,Ao]
 rw[Ah (by omega)]
end Go.Pev.Pl
end
section
namespace Go.Pev.Pl
open Tok
theorem Con.perm{l l':List Edge}(h:∀ e,e∈l↔e∈l'){a b:Int}:Con l a b↔Con l' a b:=
 ⟨fun c=>c.mono fun e he=>⟨e,(h e).1 he,.inl ⟨rfl,rfl⟩⟩,fun c=>c.mono fun e he=>⟨e,(h e).2 he,.inl ⟨rfl,rfl⟩⟩⟩
theorem T6.congr{n:Int}{l l':List Edge}{out:List Int}(h:∀ a b,Con l a b↔Con l' a b)(hc:T6 n l out):T6 n l' out:=
 ⟨hc.len,fun a b ia ib=>(hc.same a b ia ib).trans (h a b),hc.isin,fun a ia=>(h a _).1 (hc.con a ia),fun a b ia ib c=>hc.least a b ia ib ((h a b).2 c)⟩
end Go.Pev.Pl
end
section
namespace Go.Pev.Pl
open Tok
def ADR(x:Edge)(b:Bool):Tie:=(x.1,x.2.1,0,b,())
def Ws(ts:List Tie)(xs:List Edge)(bs:List Bool)(k:Nat):List Tie:=(List.range k).foldl (fun a i=>Yn a (ADR (xs.getD i (0,0,())) (bs.getD i false))) ts
end Go.Pev.Pl
end
section
namespace Go.Pev.Pl
open Tok
def APx(xs:List Edge)(bs:List Bool)(k:Nat):List Tie:=(List.range k).map fun i=>ADR (xs.getD i (0,0,())) (bs.getD i false)
theorem AEj(ts:List Tie)(xs:List Edge)(bs:List Bool)(k:Nat):Ws ts xs bs (k+1)=Yn (Ws ts xs bs k) (ADR (xs.getD k (0,0,())) (bs.getD k false)):=by
 unfold Ws
 rw[AgC,List.foldl_append]
 rfl
theorem Tj(ts:List Tie)(xs:List Edge)(bs:List Bool):∀ k,(Ws ts xs bs k).Perm (ts++APx xs bs k):=by
 intro k
 induction k with
 |zero=>simp[Ws,APx]
 |succ k ih=>
  rw[AEj]
  refine(ADq _ _).trans ?_
  unfold APx at *
  rw[AgC,AgP,← Aft]
  refine(List.Perm.cons _ ih).trans ?_
  exact(List.perm_append_singleton _ _).symm
end Go.Pev.Pl
end
section
namespace Go.Pev.Pl
open Tok
theorem Aau{N:Nat}{ts:List Tie}(h:oks N ts)(hv0:0≤IJ N){xs:List Edge}(bs:List Bool)(hp:xs.Pairwise JW)(hx:∀ e∈xs,0≤e.1∧e.1<e.2.1∧e.2.1<(N:Int))(hn:∀ e∈xs,¬ e∈ts.map ed):oks N (Ws ts xs bs xs.length):=by
 rw[W6]at h ⊢
 obtain⟨h1,h2⟩:=h
 have hget:∀ i (hi:i<xs.length),xs.getD i (0,0,())=xs[i]:=fun i hi=>by
  simp only[Aes,Aev hi,AfN]
 have hmem:∀ k,k≤xs.length→∀ t∈Ws ts xs bs k,t∈ts∨∃ i,i<k∧t=ADR (xs.getD i (0,0,())) (bs.getD i false):=by
  intro k hk t ht
  rcases Aeu.1 ((Tj ts xs bs k).mem_iff.1 ht)with h|h
  ·exact .inl h
  ·unfold APx at h
   obtain⟨i,hi,rfl⟩:=AfB.1 h
   exact .inr ⟨i,by simpa using hi,rfl⟩
 refine⟨fun t ht => ?_,?_⟩
 ·rcases hmem _ (Aez _) t ht with h|⟨i,hi,rfl⟩
  ·exact h1 t h
  ·rw[hget i hi]
   obtain⟨q1,q2,q3⟩:=hx xs[i] (AgQ hi)
   exact⟨q1,q2,q3,by show(0:Int)≤0;omega,hv0⟩
 ·have key:∀ k,k≤xs.length→(Ws ts xs bs k).Pairwise ahead:=by
   intro k
   induction k with
   |zero=>intro _;exact h2
   |succ k ih=>
    intro hk
    rw[AEj]
    refine AUw (ih (by omega)) fun t ht => ?_
    rw[hget k (by omega)]
    rintro⟨e1,e2⟩
    rcases hmem k (by omega) t ht with h|⟨i,hi,rfl⟩
    ·refine hn xs[k] (AgQ (by omega)) (AfB.2 ⟨t,h,?_⟩)
     unfold ed
     rw[e1,e2]
     rfl
    ·rw[hget i (by omega)]at e1 e2
     have:=(AgR.1 hp) i k (by omega) (by omega) hi
     unfold JW at this
     simp only[ADR]at e1 e2
     omega
  exact key _ (Aez _)
end Go.Pev.Pl
end
section
namespace Go.Pev.Pl
open Tok
theorem AXR(ts:List Tie):∀ k,k≤ts.length→trs ts k=((ts.take k).filter fun t=>t.2.2.2.1).map ed:=by
 intro k
 induction k with
 |zero=>intro _;simp[trs]
 |succ k ih=>
  intro hk
  have hk':k<ts.length:=by omega
  rw[Xp,ih (by omega),AgG hk',Agc,AgP]
  simp only[Aes,Aev hk',AfN]
  cases h:ts[k].2.2.2.1
  ·simp[h]
  ·simp[h]
theorem AFJ(ts:List Tie):trs ts ts.length=(ts.filter fun t=>t.2.2.2.1).map ed:=by
 rw[AXR ts _ (Aez _),AgD]
end Go.Pev.Pl
end
section
namespace Go.Pev.Pl
open Tok
theorem AZO{xs:List Edge}{bs:List Bool}(h:bs.length=xs.length):APx xs bs xs.length=(xs.zip bs).map fun p=>ADR p.1 p.2:=by
 unfold APx
 apply Ahx
 ·simp[h]
 ·intro i h1 h2
  have hi:i<xs.length:=by simpa using h1
  simp[hi,show i<bs.length by omega]
theorem Aat(ts:List Tie){xs:List Edge}{bs:List Bool}(h:bs.length=xs.length):(trs (Ws ts xs bs xs.length) (Ws ts xs bs xs.length).length).Perm (trs ts ts.length++sel xs bs):=by
 rw[AFJ,AFJ]
 refine(((Tj ts xs bs xs.length).filter _).map ed).trans ?_
 rw[Agc,AgP,AZO h,List.filter_map,List.map_map]
 exact List.Perm.refl _
theorem Aav(ts:List Tie)(xs:List Edge)(bs:List Bool):∀ k,(Ws ts xs bs k).length=ts.length+k:=by
 intro k
 rw[(Tj ts xs bs k).length_eq]
 simp[APx]
end Go.Pev.Pl
end
end
section
section
namespace Go.Pev.Pl
open Tok
theorem Aae{N:Nat}(hN:N≤64)(ts:List Tie)(l:List Edge):∀ e∈J4 N ts l,In (N:Int) e.1∧In (N:Int) e.2.1:=by
 intro e he
 obtain⟨⟨a,b,c,_⟩,_⟩:=(SR N ts l e).1 he
 exact⟨⟨by omega,by omega,a,by omega⟩,⟨by omega,by omega,by omega,c⟩⟩
end Go.Pev.Pl
end
section
namespace Go.Pev.Pl
open Tok
theorem AZp{N:Nat}(h1:1≤N)(hN:N≤64){a:Int}(h:0≤a∧a<(N:Int)):In (N:Int) a:=⟨by omega,by omega,h.1,h.2⟩
theorem AZq{N:Nat}{e:Edge}(h:In (N:Int) e.1∧In (N:Int) e.2.1):InE N e:=⟨⟨h.1.2.2.1,h.1.2.2.2⟩,⟨h.2.2.2.1,h.2.2.2.2⟩⟩
theorem AeD{N:Nat}(h1:1≤N)(hN:N≤64){l:List Edge}{out:List Int}(hc:T6 (N:Int) l out):cnt out N=cc N l:=by
 unfold cnt cc
 rw[List.countP_eq_length_filter]
 congr 1
 refine Aho fun k hk => ?_
 have hk:k<N:=by simpa using hk
 have ik:=AZp h1 hN (a:=(k:Int)) ⟨by omega,by omega⟩
 have hg:out.getD k 0=cl out (k:Int):=by unfold cl;rw[Afn]
 rw[hg,AhH,Af9,Hi]
 constructor
 ·intro h j hj hcn
  have:=hc.least (k:Int) (j:Int) ik (AZp h1 hN ⟨by omega,by omega⟩) hcn.symm
  omega
 ·intro h
  have a1:=hc.isin _ ik
  have a2:=hc.con _ ik
  have a3:=hc.least (k:Int) (k:Int) ik ik (.refl _)
  obtain⟨m,hm⟩:=Ae1 a1.2.2.1
  rw[hm]at a2 a3 ⊢
  by_cases hlt:m<k
  ·exact absurd a2.symm (h m hlt)
  ·omega
theorem FC.congr{n:Int}{rings:List (List Int)}{l l':List Edge}(h:FC n rings l)(hm:∀ e∈l,e∈l')(hc:∀ e∈l',Con l e.1 e.2.1):FC n rings l':=
 ⟨h.fr,fun a b ia ib=>(h.sam a b ia ib).trans ⟨fun c=>c.sub hm,fun c=>c.cut hc⟩,fun A hA u v ho hu=>by
  obtain⟨e,he,q⟩:=h.arcs A hA u v ho hu
  exact⟨e,hm e he,q⟩⟩
theorem AJz{N:Nat}(h1:1≤N)(hN:N≤64){ts:List Tie}(hs:ts.length≤400)(ho:oks N ts):Gl (((N:Int),(ts,())),())=some (true,())↔Fo N (trs ts ts.length):=by
 have hlen:=AFI ts ts.length
 obtain⟨o,_,c⟩:=F5 (N:Int) (trs ts ts.length) ⟨by omega,by omega⟩ (by omega) (ANh hN ho)
 rw[AJ0 h1 hN hs ho c,AeD h1 hN c]
 unfold Fo
 constructor
 ·intro h
  have:decide ((cc N (trs ts ts.length):Int)=(N:Int)-(trs ts ts.length).length)=true:=by injection h with h;injection h
  have:=Agv this
  omega
 ·intro h
  rw[Aeq (by omega)]
end Go.Pev.Pl
end
section
namespace Go.Pev.Pl
open Tok
end Go.Pev.Pl
end
section
namespace Go.Pev.Pl.SE
open Go.Sort
def ok(_:Int×Int×Unit):Prop:=True
def okz:Int×Int×Unit:=(0,0,())
theorem SM:ok okz:=trivial
def lt(x y:Int×Int×Unit):Bool:=decide (x.1<y.1∨(x.1=y.1∧x.2.1<y.2.1))
theorem swo:SWO lt:=⟨fun x=>by simp[lt],fun x y z h1 h2=>by simp only[lt,Aer]at *;omega,fun x y z h1 h2=>by simp only[lt,Aff]at *;omega⟩
theorem VY(a b:Int):DX (a,b,())=some (if a<b then -1 else if b<a then 1 else 0,()):=by
 rw[GO,EE,KY,KZ,KY,KZ]
 simp only[B5,Ai]
 by_cases h:a<b
 ·simp[h]
 ·by_cases h2:b<a
  ·simp[h,h2]
  ·simp[h,h2]
theorem or_val(a b:Int):orI ([a,b],())=some (if a=0 then b else a,()):=by
 obtain⟨m,hm⟩:∃ m,many=m+3:=⟨many-3,by simp only[many]⟩
 rw[AGv,AD6,As,hm]
 have i0:idx [a,b] (0:Int)=some a:=by rw[idx_eq];rfl
 have i1:idx [a,b] (1:Int)=some b:=by rw[idx_eq];rfl
 have l2:AH [a,b]=(2:Int):=rfl
 have w1:IntKind.wrap .i64 ((0:Int)+1)=1:=by rw[Ah (by omega)];rfl
 have w2:IntKind.wrap .i64 ((1:Int)+1)=2:=by rw[Ah (by omega)];rfl
 have c0:ilt (0:Int) 2=true:=by rw[Ai];rfl
 have c1:ilt (1:Int) 2=true:=by rw[Ai];rfl
 have c2:ilt (2:Int) 2=false:=by rw[Ai];rfl
 by_cases ha:a=0
 ·subst ha
  by_cases hb:b=0
  ·subst hb
   have z:ieq (0:Int) 0=true:=by rw[B5];rfl
   simp only[AW,FI,l2,i0,i1,w1,w2,c0,c1,c2,z,Ae0,AfS]
  ·have:ieq b 0=false:=by rw[B5];simpa using hb
   have z:ieq (0:Int) 0=true:=by rw[B5];rfl
   simp only[AW,FI,l2,i0,i1,w1,w2,c0,c1,c2,z,this,Ae0,AfT,AfS]
 ·have:ieq a 0=false:=by rw[B5];simpa using ha
  simp only[AW,FI,l2,i0,i1,w1,w2,c0,c1,c2,this,ha,AfT,Ae9]
end Go.Pev.Pl.SE
end
section
namespace Go.Pev.Pl.ST
open Go.Sort
def ok(_:Int×Int×Int×Bool×Unit):Prop:=True
def okz:Int×Int×Int×Bool×Unit:=(0,0,0,false,())
theorem SM:ok okz:=trivial
def lt(x y:Int×Int×Int×Bool×Unit):Bool:=decide (x.1<y.1∨(x.1=y.1∧x.2.1<y.2.1))
theorem swo:SWO lt:=⟨fun x=>by simp[lt],fun x y z h1 h2=>by simp only[lt,Aer]at *;omega,fun x y z h1 h2=>by simp only[lt,Aff]at *;omega⟩
theorem VY(a b:Int):DX (a,b,())=some (if a<b then -1 else if b<a then 1 else 0,()):=by
 rw[GO,EE,KY,KZ,KY,KZ]
 simp only[B5,Ai]
 by_cases h:a<b
 ·simp[h]
 ·by_cases h2:b<a
  ·simp[h,h2]
  ·simp[h,h2]
theorem or_val(a b:Int):orI ([a,b],())=some (if a=0 then b else a,()):=by
 obtain⟨m,hm⟩:∃ m,many=m+3:=⟨many-3,by simp only[many]⟩
 rw[AGv,AD6,As,hm]
 have i0:idx [a,b] (0:Int)=some a:=by rw[idx_eq];rfl
 have i1:idx [a,b] (1:Int)=some b:=by rw[idx_eq];rfl
 have l2:AH [a,b]=(2:Int):=rfl
 have w1:IntKind.wrap .i64 ((0:Int)+1)=1:=by rw[Ah (by omega)];rfl
 have w2:IntKind.wrap .i64 ((1:Int)+1)=2:=by rw[Ah (by omega)];rfl
 have c0:ilt (0:Int) 2=true:=by rw[Ai];rfl
 have c1:ilt (1:Int) 2=true:=by rw[Ai];rfl
 have c2:ilt (2:Int) 2=false:=by rw[Ai];rfl
 by_cases ha:a=0
 ·subst ha
  by_cases hb:b=0
  ·subst hb
   have z:ieq (0:Int) 0=true:=by rw[B5];rfl
   simp only[AW,FI,l2,i0,i1,w1,w2,c0,c1,c2,z,Ae0,AfS]
  ·have:ieq b 0=false:=by rw[B5];simpa using hb
   have z:ieq (0:Int) 0=true:=by rw[B5];rfl
   simp only[AW,FI,l2,i0,i1,w1,w2,c0,c1,c2,z,this,Ae0,AfT,AfS]
 ·have:ieq a 0=false:=by rw[B5];simpa using ha
  simp only[AW,FI,l2,i0,i1,w1,w2,c0,c1,c2,this,ha,AfT,Ae9]
end Go.Pev.Pl.ST
end
section
namespace Go.Pev.Pl
open Tok
section
variable {α β:Type} [DecidableEq α]
end
end Go.Pev.Pl
end
section
namespace Go.Pev.Pl
open Tok
theorem Abg:∀ (xs b:List Edge),sel xs (gfl b xs)=Lf b xs:=by
 intro xs
 induction xs with
 |nil=>intro b;rfl
 |cons x xs ih=>
  intro b
  have:=ih (b++[x])
  unfold sel at *
  rw[gfl,Lf,AhI,Af2]
  by_cases h:No b x.1 x.2.1=true
  ·simp[h,this]
  ·simp[h,this]
theorem AdB{N:Nat}{b xs:List Edge}(h:Fo N b)(hx:∀ e∈xs,InE N e):Fo N (b++Lf b xs):=by
 have h1:=NW xs b hx
 have h2:cc N (b++xs)=cc N (b++Lf b xs):=ABR fun a c=>ABI xs b
 unfold Fo at *
 rw[Aey]
 omega
theorem T7{N:Nat}(hN:N≤64):0≤IJ N:=by
 have:((List.range 65).all fun k=>decide (0≤IJ k))=true:=by kernel_rfl
 exact Agv (AfE.1 this N (by simp;omega))
noncomputable def grown(N:Nat)(ts:List Tie)(l:List Edge):List Tie:=Ws ts (J4 N ts l) (gfl (trs ts ts.length) (J4 N ts l)) (J4 N ts l).length
theorem AWI(N:Nat)(ts:List Tie)(l:List Edge):(grown N ts l).length=ts.length+(J4 N ts l).length:=Aav ..
theorem AWG(N:Nat)(ts:List Tie)(l:List Edge):(trs (grown N ts l) (grown N ts l).length).Perm (trs ts ts.length++Lf (trs ts ts.length) (J4 N ts l)):=by
 have:=Aat ts (xs:=J4 N ts l) (bs:=gfl (trs ts ts.length) (J4 N ts l)) (Aco _ _)
 rw[Abg]at this
 exact this
theorem AWH{N:Nat}(hN:N≤64){ts:List Tie}(ho:oks N ts)(l:List Edge):oks N (grown N ts l):=
 Aau ho (T7 hN) _ (ARW N ts l) (fun e he=>by
  obtain⟨⟨a,b,c,_⟩,_⟩:=(SR N ts l e).1 he
  exact⟨a,b,c⟩) (fun e he=>((SR N ts l e).1 he).2)
theorem AWi{N:Nat}(hN:N≤64)(ts:List Tie)(l:List Edge):∀ e∈J4 N ts l,InE N e:=fun e he=>AZq (Aae hN ts l e he)
theorem AZ9{N:Nat}(hN:N≤64){ts:List Tie}(h:Fo N (trs ts ts.length))(l:List Edge):Fo N (trs (grown N ts l) (grown N ts l).length):=
 (AdB h (AWi hN ts l)).perm (AWG N ts l).symm
structure RG2(N:Nat)(ts:List Tie):Prop where
 h1:1≤N
 hN:N≤64
 ht:ts.length≤400
 oks:oks N ts
 fo:Fo N (trs ts ts.length)
theorem RG2.r21{N:Nat}{ts:List Tie}(h:RG2 N ts):Gl (((N:Int),(ts,())),())=some (true,()):=(AJz h.h1 h.hN h.ht h.oks).2 h.fo
theorem RG2.lr{N:Nat}{ts:List Tie}(h:RG2 N ts):Ke (((N:Int),(ts,())),())=some (true,()):=by
 obtain⟨b,h1,h2,_⟩:=ABc (N:Int) ts (by have:=h.ht;omega)
 rw[h.r21]at h1
 cases h1
 exact h2
theorem AUp(n:Int)(ts:List Tie)(hl:ts.length<4611686018427387904):(Gl ((n,(ts,())),())=some (false,())∧Ke ((n,(ts,())),())=some (false,()))∨∃ N:Nat,n=(N:Int)∧RG2 N ts:=by
 obtain⟨b,h1,h2,h3⟩:=ABc n ts hl
 cases b
 ·exact .inl ⟨h1,h2⟩
 ·obtain⟨N,rfl,q1,q2,q3,q4⟩:=h3 rfl
  exact .inr ⟨N,rfl,q1,q2,q3,q4,(AJz q1 q2 q3 q4).1 h1⟩
theorem RG2.inE{N:Nat}{ts:List Tie}(h:RG2 N ts):∀ e∈ts.map ed,In (N:Int) e.1∧In (N:Int) e.2.1:=AeB h.hN h.oks
theorem RG2.grown{N:Nat}{ts:List Tie}(h:RG2 N ts){l:List Edge}(hf:ts.length+(J4 N ts l).length≤400):RG2 N (grown N ts l):=
 ⟨h.h1,h.hN,by rw[AWI];exact hf,AWH h.hN h.oks l,AZ9 h.hN h.fo l⟩
end Go.Pev.Pl
end
section
namespace Go.Pev.Pl
open Tok
end Go.Pev.Pl
end
end
section
namespace Go.Pev.Pl
open Tok
theorem AXU(ts:List Tie)(t:Tie)(k:Int):trk (ts++[t]) k=trk ts k++if t.2.2.2.1=true∧k≤t.2.2.1 then [ed t]else []:=by
 rw[DP]
 congr 1
 unfold trk
 rw[Af2]
 by_cases h:t.2.2.2.1=true∧k≤t.2.2.1
 ·rw[Ae6 h,h.1,Aeq h.2];rfl
 ·rw[Ae3 h,Ae3]
  ·rfl
  ·rw[Aet,Aer];exact h
theorem AI8(k:Int):∀ (ts a:List Tie) (acc:List Edge),acc=trk a k→ts.foldl (fun acc t=>if t.2.2.2.1=true∧k≤t.2.2.1 then acc++[ed t]else acc) acc=trk (a++ts) k:=by
 intro ts
 induction ts with
 |nil=>intro a acc h;simpa using h
 |cons t ts ih=>
  intro a acc h
  rw[Afj,ih (a++[t])]
  ·simp
  ·rw[AXU,← h]
   split<;>simp
theorem AbB(ts:List Tie)(k:Int):(trk ts k).length≤ts.length:=by
 unfold trk
 rw[AgA]
 exact AgH _ _
theorem AbA(ts:List Tie)(k:Int):∀ e∈trk ts k,e∈ts.map ed:=by
 intro e he
 obtain⟨t,h1,_,_,rfl⟩:=C2.1 he
 exact AfB.2 ⟨t,h1,rfl⟩
theorem ALa(n:Int)(ts:List Tie)(hs:ts.length≤400)(k:Int):Oj ((n,(ts,())),k,())=some (trk ts k,()):=by
 rw[Sf,ML]
 have e:=DO (step:=Cn) (fun i (a:List Edge)=>(k,a,ts,AH ts,(i:Int),())) ts (fun t a=>.inl (if t.2.2.2.1=true∧k≤t.2.2.1 then a++[ed t]else a)) (fun a=>.inl (a,())) (fun i a=>a.length≤i) (by omega)
  (fun i x a hi hx ha=>by
   refine⟨fun m' h' => ?_,fun r h'=>(by cases h')⟩
   cases h'
   constructor
   ·rw[Cn,AL,AN,Aeq hi]
    simp only[Aj hx,AL]
    rw[AP (by omega),Az,Be (by simp only[Aex,AfI];omega)]
    cases h4:x.2.2.2.1
    ·simp
    ·by_cases h5:k≤x.2.2.1
     ·simp[h5,ed,A9]
     ·simp[h5]
   ·split
    ·rw[Aey];simp;omega
    ·omega)
  (fun a _=>by rw[Cn,AL,AN,Aeo (by omega)]) [] (Aez _)
 have e':AU Cn many (k,[],ts,AH ts,(0:Int),())=_:=e
 simp only[e']
 rw[BZ (fun(t:Tie) (a:List Edge)=>if t.2.2.2.1=true∧k≤t.2.2.1 then a++[ed t]else a),AI8 k ts [] [] rfl]
 rfl
theorem AT2(n:Int)(ts:List Tie)(hs:ts.length≤400)(k:Int):AFP ((n,(ts,())),k,())=some (trk ts k,()):=by
 rw[ANj,Ri]
 have e:=DO (step:=HK) (fun i (a:List Edge)=>(k,n,ts,a,(i:Int),())) ts (fun t a=>.inl (if t.2.2.2.1=true∧k≤t.2.2.1 then a++[ed t]else a)) (fun a=>.inl (a,())) (fun i a=>a.length≤i) (by omega)
  (fun i x a hi hx ha=>by
   refine⟨fun m' h' => ?_,fun r h'=>(by cases h')⟩
   cases h'
   constructor
   ·rw[HK,AL,AN,Aeq hi]
    simp only[Aj hx,AL]
    rw[AP (by omega),Az,Be (by simp only[Aex,AfI];omega)]
    cases h4:x.2.2.2.1
    ·simp
    ·by_cases h5:k≤x.2.2.1
     ·simp[h5,ed,A9]
     ·simp[h5]
   ·split
    ·rw[Aey];simp;omega
    ·omega)
  (fun a _=>by rw[HK,AL,AN,Aeo (by omega)]) [] (Aez _)
 have e':AU HK many (k,n,ts,[],(0:Int),())=_:=e
 simp only[e']
 rw[BZ (fun(t:Tie) (a:List Edge)=>if t.2.2.2.1=true∧k≤t.2.2.1 then a++[ed t]else a),AI8 k ts [] [] rfl]
 rfl
theorem AXT{N:Nat}{ts:List Tie}(h:oks N ts):trs ts ts.length=trk ts 0:=by
 rw[AFJ]
 unfold trk
 congr 1
 refine Aho fun t ht => ?_
 have:=((W6 N ts).1 h).1 t ht
 rw[Aeq this.2.2.2.1,Bool.and_true]
theorem RG2.fo0{N:Nat}{ts:List Tie}(h:RG2 N ts):Fo N (trk ts 0):=by rw[← AXT h.oks];exact h.fo
theorem RG2.inK{N:Nat}{ts:List Tie}(h:RG2 N ts)(k:Int):∀ e∈trk ts k,In (N:Int) e.1∧In (N:Int) e.2.1:=fun e he=>h.inE e (AbA ts k e he)
theorem RG2.Ad3{N:Nat}{ts:List Tie}(h:RG2 N ts)(k:Int):(trk ts k).length≤400:=Afv (AbB ts k) h.ht
theorem RG2.Aek{N:Nat}{ts:List Tie}(h:RG2 N ts)(k:Int):∃ zs,Kh (((N:Int),(ts,())),k,())=some (((N:Int),(zs,())),0,())∧FC (N:Int) zs (trk ts k):=by
 have hl:=h.Ad3 k
 have h1:=h.h1
 have hN:=h.hN
 rcases(ATR (N:Int) (trk ts k) ⟨by omega,by omega⟩ (by omega)).symm with⟨hno,_⟩|⟨_,zs,e,hF⟩
 ·exact absurd (h.inK k) hno
 refine⟨zs,?_,hF⟩
 rw[Kg,G7]
 simp only[h.lr,Ae0,ALa (N:Int) ts h.ht k,e]
theorem RG2.Aec{N:Nat}{ts:List Tie}(h:RG2 N ts)(k:Int):∃ out,NV ((N:Int),trk ts k,())=some (out,())∧T6 (N:Int) (trk ts k) out:=by
 have:=h.Ad3 k
 have h1:=h.h1
 have hN:=h.hN
 exact F5 (N:Int) (trk ts k) ⟨by omega,by omega⟩ (by omega) (h.inK k)
end Go.Pev.Pl
end
section
namespace Go.Pev.Pl
open Tok
def AdO(ts:List Tie):Prop:=∀ e∈ts.map ed,Con (trk ts 0) e.1 e.2.1
def Aeb(ts:List Tie):Prop:=∀ t∈ts,t.2.2.2.1=false→Con (trk ts t.2.2.1) t.1 t.2.1
def AdP(N:Nat)(ts:List Tie):Prop:=∀ k:Nat,(k:Int)≤IJ N→∀ v:Nat,v<N→csz N (trk ts k) v≤max 1 (N/2 ^ k)
theorem RG2.tie{N:Nat}{ts:List Tie}(h:RG2 N ts){t:Tie}(ht:t∈ts):In (N:Int) t.1∧In (N:Int) t.2.1∧t.1<t.2.1∧0≤t.2.2.1∧t.2.2.1≤IJ N:=by
 have h1:=((W6 N ts).1 h.oks).1 t ht
 have h2:=h.inE (ed t) (AfB.2 ⟨t,ht,rfl⟩)
 exact⟨h2.1,h2.2,h1.2.1,h1.2.2.2.1,h1.2.2.2.2⟩
end Go.Pev.Pl
end
section
namespace Go.Pev.Pl
open Tok
def AJC(N:Nat):Nat:=(IJ N).toNat
theorem AFR{N:Nat}(hN:N≤64):IJ N=(AJC N:Int):=by
 have:=T7 hN
 unfold AJC
 omega
theorem RG2.snd{N:Nat}{ts:List Tie}(h:RG2 N ts)(hs:AdO ts∧Aeb ts∧AdP N ts):Snd N (AJC N:Int) ts:=by
 refine⟨fun x hx => ?_,fun x hx=>AZq (h.inE _ (AfB.2 ⟨x,hx,rfl⟩)),h.fo0,hs.2.1,fun k hk v hv=>hs.2.2 k (by rw[AFR h.hN];exact hk) v hv⟩
 rw[← AFR h.hN]
 exact(h.tie hx).2.2.2
theorem Snd.parts{N:Nat}{ts:List Tie}(h:RG2 N ts)(hs:Snd N (AJC N:Int) ts):AdO ts∧Aeb ts∧AdP N ts:=by
 refine⟨fun e he=>(hs.span _ _).1 (.edge e he),hs.lie,fun k hk v hv=>hs.halv k (by rw[← AFR h.hN];exact hk) v hv⟩
end Go.Pev.Pl
end
section
namespace Go.Pev.Pl
open Tok
theorem AbF{N:Nat}(hN:N≤64):N/2 ^ AJC N≤1:=by
 have:((List.range 65).all fun k=>decide (k/2 ^ AJC k≤1))=true:=by kernel_rfl
 exact Agv (AfE.1 this N (by simp;omega))
theorem RG2.below{N:Nat}{ts:List Tie}(h:RG2 N ts)(hs:Snd N (AJC N:Int) ts){t:Tie}(ht:t∈ts):t.2.2.1<(AJC N:Int):=
 hs.below (AbF h.hN) ht (by have:=(h.tie ht).2.2.1;omega)
end Go.Pev.Pl
end
section
namespace Go.Pev.Pl
open Tok
end Go.Pev.Pl
end
section
namespace Go.Pev.Pl
open Tok
end Go.Pev.Pl
end
section
namespace Go.Pev.Pl
open Tok
end Go.Pev.Pl
end
section
namespace Go.Pev.Pl
open Tok
theorem RG2.edP{N:Nat}{ts:List Tie}(h:RG2 N ts):(ts.map ed).Pairwise JW:=by
 rw[AgL]
 exact((W6 N ts).1 h.oks).2
end Go.Pev.Pl
end
section
namespace Go.Pev.Pl
open Tok
end Go.Pev.Pl
end
section
namespace Go.Pev.Pl
section
variable {N top:Nat} {ts w:List Tie} (hp:w.Perm ts) (hi:∀ x∈ts,InE N (ed x)) (hl:∀ t∈ts,0≤t.2.2.1∧t.2.2.1≤(top:Int)) (hfo:Fo N (trk ts 0)) (hlie:∀ x∈ts,x.2.2.2.1=false→Con (trk ts x.2.2.1) x.1 x.2.1)
include hp hi
include hl hfo hlie
end
end Go.Pev.Pl
end
section
namespace Go.Pev.Pl
open Tok
end Go.Pev.Pl
end
section
namespace Go.Pev.Pl
open Tok
def bef(x y:Tie):Prop:=y.2.2.1<x.2.2.1∨(x.2.2.1=y.2.2.1∧ahead x y)
theorem bef.trans{x y z:Tie}(h:bef x y)(h':bef y z):bef x z:=by
 unfold bef ahead at *
 omega
def Mrg(u v w:List Tie):Prop:=w.Perm (u++v)∧w.Pairwise bef
end Go.Pev.Pl
end
section
namespace Go.Pev.Pl
open Tok
noncomputable section
end
theorem Mrg.append{u1 u2 v1 v2 w1 w2:List Tie}(h1:Mrg u1 v1 w1)(h2:Mrg u2 v2 w2)(hu:(u1++u2).Pairwise bef)(hv:(v1++v2).Pairwise bef)(c1:∀ x∈u1,∀ y∈v2,bef x y)(c2:∀ y∈v1,∀ x∈u2,bef y x):Mrg (u1++u2) (v1++v2) (w1++w2):=by
 rw[AhY]at hu hv
 refine⟨?_,?_⟩
 ·refine(h1.1.append h2.1).trans ?_
  rw[Aft,Aft]
  refine List.Perm.append_left _ ?_
  rw[← Aft,← Aft]
  exact List.Perm.append_right _ AgY
 ·rw[AhY]
  refine⟨h1.2,h2.2,fun x hx y hy => ?_⟩
  have hx:=Aeu.1 (h1.1.mem_iff.1 hx)
  have hy:=Aeu.1 (h2.1.mem_iff.1 hy)
  rcases hx with hx|hx<;>rcases hy with hy|hy
  ·exact hu.2.2 x hx y hy
  ·exact c1 x hx y hy
  ·exact c2 x hx y hy
  ·exact hv.2.2 x hx y hy
end Go.Pev.Pl
end
section
namespace Go.Pev.Pl
open Tok
end Go.Pev.Pl
end
section
namespace Go.Pev.Pl
open Tok
end Go.Pev.Pl
end
section
namespace Go.Pev.Pl
open Tok
theorem AJq(l:List Edge)(hs:l.length<1073741824):Ly (l,l,())=some (true,()):=by
 rw[ADj,Pu,AL,Ao]
 have e:=MZ (step:=E8) (fun i=>(l,l,(i:Int),())) l (fun _=>false) (fun _=>.inl (false,())) (.inr (.inl ())) (by omega)
  (fun i x hi hx=>by
   rw[E8,AL,AN,Aeq hi]
   simp only[Aj hx,Ao,Ae2,AgB,Ae0]
   rw[AP (by omega)]
   rfl)
  (by rw[E8,AL,AN,Aeo (by omega)])
 have e':AU E8 many (l,l,(0:Int),())=_:=e
 have hf:(l.any fun _=>false)=false:=by simp
 rw[e',hf]
 simp
def lvl(ts:List Tie)(k:Int):List Tie:=ts.filter fun t=>decide (t.2.2.1=k)
end Go.Pev.Pl
end
section
namespace Go.Pev.Pl
open Tok
section
variable (n:Int) (ts:List Tie)
end
end Go.Pev.Pl
end
section
namespace Go.Pev.Pl
open Tok
def mid(f:Int→Int)(xs:List Int)(i:Nat):List Int:=(xs.take i).map f++xs.drop i
def lb(at0:List Int)(v:Int):Int:=at0.getD v.toNat 0
end Go.Pev.Pl
end
section
namespace Go.Pev.Pl
open Tok
end Go.Pev.Pl
end
section
namespace Go.Pev.Pl
section
variable {α β:Type} [DecidableEq α]
theorem Z6(es:List (α×β))(k:α)(v:β)(j:α):AM (Ac es k v) j=if j=k then some v else AM es j:=by
 induction es with
 |nil=>
  simp only[Ac,AM]
  by_cases h:j=k
  ·rw[Ae6 h,Ae6 h.symm]
  ·rw[Ae3 h,Ae3 (AfV h)]
 |cons e es ih=>
  obtain⟨a,x⟩:=e
  by_cases h1:a=k
  ·subst h1
   simp only[Ac,AM,AfS]
   by_cases h:j=a
   ·rw[Ae6 h,Ae6 h.symm]
   ·rw[Ae3 h,Ae3 (AfV h),Ae3 (AfV h)]
  ·simp only[Ac,AM,h1,Ae9,ih]
   by_cases h:a=j
   ·subst h
    rw[Ae6 rfl,Ae3 h1,Ae6 rfl]
   ·rw[Ae3 h,Ae3 h]
theorem ADt:∀ (es:List (α×β)) (k:α),Dt es k=none→∀ v,Ac es k v=es++[(k,v)]:=by
 intro es
 induction es with
 |nil=>intro k _ v;rfl
 |cons e es ih=>
  intro k h v
  obtain⟨a,b⟩:=e
  by_cases hk:a=k
  ·simp[Dt,hk]at h
  ·simp only[Dt,hk,Ae9,Ahq]at h
   simp only[Ac,hk,Ae9,ih k h v,AfK]
theorem ADs:∀ (es:List (α×β)) (k:α) (n:Nat),Dt es k=some n→∀ v,n<es.length∧Ac es k v=es.modify n fun e=>(e.1,v):=by
 intro es
 induction es with
 |nil=>intro k n h;simp[Dt]at h
 |cons e es ih=>
  intro k n h v
  obtain⟨a,b⟩:=e
  by_cases hk:a=k
  ·simp only[Dt,hk,AfS,Aep]at h
   subst h
   simp[Ac,hk]
  ·simp only[Dt,hk,Ae9,Ae4]at h
   obtain⟨m,hm,rfl⟩:=h
   obtain⟨h1,h2⟩:=ih k m hm v
   simp only[Ac,hk,Ae9,Aex]
   exact⟨by omega,by rw[h2];rfl⟩
theorem AP1(es:List (α×β))(k:α)(z v:β):(ile (0:Int) (P8 es k)&&ilt (P8 es k) (AH (Ac es k z)))=true∧ALQ (Ac es k z) (P8 es k) v=Ac es k v:=by
 rw[Az,Ai]
 unfold P8 ALQ
 cases h:Dt es k with
 |none=>
  rw[ADt es k h,ADt es k h,Ah0,Afn]
  constructor
  ·rw[Aeq (by omega),Aeq (by rw[AL,Aey];simp;omega)];rfl
  ·have:∀ (xs:List (α×β)),(xs++[(k,z)]).modify xs.length (fun e=>(e.1,v))=xs++[(k,v)]:=by
    intro xs
    induction xs with
    |nil=>rfl
    |cons x xs ih=>rw[AfK,Aex,List.modify_succ_cons,ih];rfl
   exact this es
 |some n=>
  obtain⟨h1,h2⟩:=ADs es k n h z
  obtain⟨_,h3⟩:=ADs es k n h v
  rw[h2,h3,AfN,Afn]
  constructor
  ·rw[Aeq (by omega),Aeq (by rw[AL,List.length_modify];omega)];rfl
  ·apply Agi
   intro i
   simp only[AhW]
   cases es[i]? with
   |none=>split<;>rfl
   |some e=>split<;>rfl
end
end Go.Pev.Pl
end
section
namespace Go.Pev.Pl
open Tok
end Go.Pev.Pl
end
section
namespace Go.Pev.Pl
open Tok
end Go.Pev.Pl
end
section
namespace Go.Pev.Pl
open Tok
end Go.Pev.Pl
end
section
namespace Go.Pev.Pl
open Tok
section
variable (n:Int) (a2 a3:Bool) (a4 a5 top:Int)
end
end Go.Pev.Pl
end
section
namespace Go.Pev.Pl
section
variable {α:Type} (z:α)
theorem AAa{a o:List α}{m k:Nat}(h:a.drop m=o.drop m)(hk:m≤k):a.getD k z=o.getD k z:=by
 have:=Af5 (fun l=>l.getD (k-m) z) h
 simp only[Aes,Afo]at this
 rw[Nat.add_sub_cancel' hk]at this
 simpa [Aes]using this
theorem LV{xs:List α}{i:Nat}(h:i<xs.length):xs.take (i+1)=xs.take i++[xs.getD i z]:=by
 rw[AgG h];simp[h]
theorem AaX{σ ρ:Type}{step:σ→Option (σ⊕ρ)}(st:List α→Nat→Nat→σ)(fin:List α→Nat→ρ)(keep:α→Bool)(o:List α)
  (h:∀ a w j,a.length=o.length→j<o.length→w<j→a.getD j z=o.getD j z→step (st a w j)=some (.inl (if keep (o.getD j z)=true then st (a.set w (o.getD j z)) (w+1) (j+1)else st a w (j+1))))
  (hN:∀ a w,a.length=o.length→step (st a w o.length)=some (.inr (fin a w))) :
  ∀ (k j w:Nat) (a:List α) (cnt:Nat),j+k=o.length→a.length=o.length→w=((o.take j).filter keep).length→a.take w=(o.take j).filter keep→w<j→a.drop j=o.drop j→k<cnt →
  ∃ a':List α,AW step cnt (st a w j)=some (fin a' (o.filter keep).length)∧a'.length=o.length∧a'.take (o.filter keep).length=o.filter keep:=by
 intro k
 induction k with
 |zero=>
  intro j w a cnt hk hl hw hq hwj hd hn
  obtain⟨cnt,rfl⟩:∃ k,cnt=k+1:=⟨cnt-1,by omega⟩
  have e:j=o.length:=by omega
  subst e
  rw[AgD]at hw hq
  rw[AW,hN a w hl]
  exact⟨a,by rw[hw],hl,by rw[← hw];exact hq⟩
 |succ k ih=>
  intro j w a cnt hk hl hw hq hwj hd hn
  obtain⟨cnt,rfl⟩:∃ k,cnt=k+1:=⟨cnt-1,by omega⟩
  have g1:=AAa z hd (Aez j)
  have hdd:a.drop (j+1)=o.drop (j+1):=by
   have:=Af5 (List.drop 1) hd
   simpa only[Agf]using this
  have hst:(o.take (j+1)).filter keep=(o.take j).filter keep++if keep (o.getD j z)=true then [o.getD j z]else []:=by
   rw[LV z (by omega),Agc]
   generalize o.getD j z=v
   by_cases h:keep v=true<;>simp[h]
  rw[AW,h a w j hl (by omega) hwj g1]
  by_cases hv:keep (o.getD j z)=true
  ·rw[Ae6 hv]at hst ⊢
   refine ih (j+1) (w+1) (a.set w (o.getD j z)) cnt (by omega) (by simp[hl]) (by rw[hst];simp[hw]) ?_ (by omega) ?_ (by omega)
   ·rw[hst,← hq,AgG (by simp;omega)]
    simp[List.take_set_of_le]
   ·rw[List.drop_set_of_lt (by omega)]
    exact hdd
  ·rw[Ae3 hv]at hst ⊢
   rw[Afx]at hst
   exact ih (j+1) w a cnt (by omega) hl (by rw[hst];exact hw) (by rw[hst];exact hq) (by omega) hdd (by omega)
theorem AEW{σ ρ σ' ρ':Type}{find:σ'→Option (σ'⊕ρ')}{step:σ→Option (σ⊕ρ)}(st:List α→Nat→Nat→σ)(fin:List α→Nat→ρ)(sf:Nat→σ')(fr:Nat→ρ')(fn:ρ')(keep:α→Bool)(o:List α)(hs:o.length<4294967296)
  (h:∀ a w j,a.length=o.length→j<o.length→w<j→a.getD j z=o.getD j z→step (st a w j)=some (.inl (if keep (o.getD j z)=true then st (a.set w (o.getD j z)) (w+1) (j+1)else st a w (j+1))))
  (hN:∀ a w,a.length=o.length→step (st a w o.length)=some (.inr (fin a w)))
  (f:∀ i,i<o.length→find (sf i)=if keep (o.getD i z)=true then some (.inl (sf (i+1)))else some (.inr (fr i))) (fN:find (sf o.length)=some (.inr fn)) :
  (o.filter keep=o∧AU find many (sf 0)=some fn) ∨
  (∃ k a',k<o.length∧AU find many (sf 0)=some (fr k)∧AU step many (st o k (k+1))=some (fin a' (o.filter keep).length)∧a'.length=o.length∧(o.filter keep).length≤o.length∧a'.take (o.filter keep).length=o.filter keep):=by
 have hm:4294967296<many:=by simp only[many];omega
 have hall:∀ n,(∀ j,j<n→j<o.length→keep (o.getD j z)=true)→(o.take n).filter keep=o.take n:=by
  intro n hj
  rw[Ahd]
  intro x hx
  obtain⟨j,h1,rfl⟩:=Ags.1 hx
  have:=hj j (by omega) (by omega)
  simpa [show j<o.length by omega]using this
 rcases AJm (step:=find) sf o.length (fun i => !keep (o.getD i z)) fr fn (by omega) (fun i hi=>by rw[f i hi];cases keep (o.getD i z)<;>rfl) fN with⟨k,hk,hP,hF,e⟩|⟨hP,e⟩
 ·right
  have hkf:keep (o.getD k z)=false:=by
   cases hq:keep (o.getD k z)
   ·rfl
   ·rw[hq]at hP;cases hP
  have h1:(o.take k).filter keep=o.take k:=hall k fun j h1 _=>by
   have:=hF j h1
   cases hq:keep (o.getD j z)
   ·rw[hq]at this;cases this
   ·rfl
  have h2:(o.take (k+1)).filter keep=o.take k:=by
   rw[LV z hk,Agc,h1,Af2,hkf]
   simp
  obtain⟨a',e2,e3,e4⟩:=AaX z st fin keep o h hN (o.length-(k+1)) (k+1) k o many (by omega) rfl (by rw[h2,Ae8];omega) (by rw[h2]) (by omega) rfl (by omega)
  exact⟨k,a',hk,e,by rw[As];exact e2,e3,AgH _ _,e4⟩
 ·left
  refine⟨?_,e⟩
  have:=hall o.length fun j _ h2=>by
   have:=hP j h2
   cases hq:keep (o.getD j z)
   ·rw[hq]at this;cases this
   ·rfl
  rwa [AgD]at this
theorem ABN{a:List α}{w:Nat}(h:w≤a.length):(Bm w (a.length-w) z a).take w=a.take w∧(Bm w (a.length-w) z a).length=a.length:=by
 constructor
 ·rw[Bm,List.take_append_of_le_length (by simp;omega),Agz,Nat.min_self]
 ·simp[Bm];omega
end
end Go.Pev.Pl
end
section
namespace Go.Pev.Pl
open Tok
end Go.Pev.Pl
end
section
namespace Go.Pev.Pl
open Tok
end Go.Pev.Pl
end
section
namespace Go.Pev.Pl
open Tok
end Go.Pev.Pl
end
section
namespace Go.Pev.Pl
open Tok
theorem Wq{n:Int}(l:List Edge)(hs:l.length<1073741824)(ha:∀ e∈l,In n e.1∧In n e.2.1):
  ∀ (m i c1 c2:Nat) (rings:List (List Int)) (t1 t2:List Bool),i+m=l.length→t1.length=i→t2.length=i→FC n rings (l.take i)→m<c1→m<c2 →
  ∃ zs b1 b2,AW Hj c1 (l,n,rings,(0:Int),t1,(i:Int),())=some (.inl (n,zs,(0:Int),b1,()))∧AW Bz c2 (n,rings,(0:Int),t2,l,(l.length:Int),(i:Int),())=some (.inl (n,zs,(0:Int),b2,()))∧FC n zs l:=by
 intro m
 induction m with
 |zero=>
  intro i c1 c2 rings t1 t2 hi ht1 ht2 h hc1 hc2
  obtain⟨c1,rfl⟩:∃ c,c1=c+1:=⟨c1-1,by omega⟩
  obtain⟨c2,rfl⟩:∃ c,c2=c+1:=⟨c2-1,by omega⟩
  rw[Afg (by omega)]at h
  refine⟨rings,t1,t2,?_,?_,h⟩
  ·rw[AW,Hj,AL,AN,Aeo (by omega)]
  ·rw[AW,Bz,AN,Aeo (by omega)]
 |succ m ih=>
  intro i c1 c2 rings t1 t2 hi ht1 ht2 h hc1 hc2
  obtain⟨c1,rfl⟩:∃ c,c1=c+1:=⟨c1-1,by omega⟩
  obtain⟨c2,rfl⟩:∃ c,c2=c+1:=⟨c2-1,by omega⟩
  have hi':i<l.length:=by omega
  have hx:l[i]? = some l[i]:=Aev hi'
  obtain⟨iu,iv⟩:=ha _ (AgQ hi')
  obtain⟨zs,q,e1,e2,_⟩:=ATh h iu iv
  obtain⟨zs',q',f1,f2,_⟩:=ARl (n:=n) (rings:=rings) l[i].1 l[i].2.1 h.fr.dom
  rw[e1]at f1
  cases f1
  rw[← AgG hi']at e2
  obtain⟨zs2,b1,b2,g1,g2,g3⟩:=ih (i+1) c1 c2 zs (A9 t1 [ieq q 0]) (A9 t2 [ieq q 0]) (by omega) (by simp[C5,ht1]) (by simp[C5,ht2]) e2 (by omega) (by omega)
  refine⟨zs2,b1,b2,?_,?_,g3⟩
  ·rw[AW,Hj,AL,AN,Aeq hi']
   simp only[Aj hx,f2]
   rw[AP (by omega),Be (by simp only[AL,Aex,AfI];omega)]
   exact g1
  ·rw[AW,Bz,AN,Aeq hi']
   simp only[Aj hx,e1]
   rw[AP (by omega),Be (by simp only[AL,Aex,AfI];omega)]
   exact g2
theorem Ac2{N:Nat}(h1:1≤N)(hN:N≤64)(l:List Edge)(hs:l.length<1073741824)(ha:∀ e∈l,In (N:Int) e.1∧In (N:Int) e.2.1):
  ∃ zs,fof ((N:Int),l,())=some (((N:Int),(zs,())),0,())∧Adv ((N:Int),l,())=some (((N:Int),(zs,())),0,())∧FC (N:Int) zs l:=by
 have hF:=ABk h1 hN
 have hD:=hF.fr.dom
 have hRF:=LH.2 hF.fr
 obtain⟨zs,b1,b2,e1,e2,h2⟩:=Wq l hs ha l.length 0 many many (BR N) [] [] (by omega) rfl rfl (by simpa using hF) (by simp only[many];omega) (by simp only[many];omega)
 refine⟨zs,?_,?_,h2⟩
 ·have hth:O2 (((N:Int),(BR N,())),l.flatMap fun e=>[e.1,e.2.1],())=some (0,()):=by
   have hfl:=AMX l
   rw[AAc _ _ _ hD (by omega),AMY,AM4,Ae6 hRF]
   split
   ·rfl
   ·rename_i hc
    exact absurd (AfE.2 fun e he=>Aeq (ha e he)) hc
  have hm:Gn (N:Int)=((N:Int),BR N,0,()):=by
   unfold Gn
   rw[Ae6 (show Sz (N:Int)from⟨by omega,by omega⟩),Afn]
  have e2':AW Bz many ((N:Int),BR N,(0:Int),[],l,(l.length:Int),(0:Int),())=_:=e2
  rw[AQ1,AML]
  simp only[ADQ,hm,CL,Ae0]
  rw[S7,MY,Md,Hv]
  simp only[AAy l hs,hth,CL,Ae0,As,AL,e2']
 ·have hall:(l.all fun e=>decide (In (N:Int) e.1)&&decide (In (N:Int) e.2.1))=true:=by
   rw[AfE]
   intro e he
   obtain⟨h1,h2⟩:=ha e he
   simp[h1,h2]
  have e1':AU Hj many (l,(N:Int),BR N,(0:Int),[],(0:Int),())=_:=(As _ _ _).trans e1
  have hE:AM4 (N:Int) (BR N) true=0:=by
   unfold AM4
   simp[hRF]
  have hL:AHI (((N:Int),(BR N,())),l,())=some (((N:Int),(zs,())),b1,0,()):=by
   rw[AQR,Sk]
   simp only[AJK (N:Int) (BR N) l hD (by omega),hall]
   rw[hE]
   simp only[NP,Ae0,e1']
  have hm:AHC ((N:Int),())=some ((N:Int),BR N,0,()):=by
   rw[AQE]
   unfold Gn
   rw[Ae6 (show Sz (N:Int)from⟨by omega,by omega⟩),Afn]
  rw[AcG,APu]
  simp only[hm,NP,Ae0,hL]
theorem RG2.both{N:Nat}{ts:List Tie}(h:RG2 N ts)(k:Int):∃ zs,Kh (((N:Int),(ts,())),k,())=some (((N:Int),(zs,())),0,())∧AAi (((N:Int),(ts,())),k,())=some (((N:Int),(zs,())),0,())∧FC (N:Int) zs (trk ts k):=by
 have hl:=h.Ad3 k
 obtain⟨zs,e1,e2,hF⟩:=Ac2 h.h1 h.hN (trk ts k) (by omega) (h.inK k)
 refine⟨zs,?_,?_,hF⟩
 ·rw[Kg,G7]
  simp only[h.lr,Ae0,ALa (N:Int) ts h.ht k,e1]
 ·rw[AMJ,O4]
  simp only[h.r21,Ae0,AT2 (N:Int) ts h.ht k,e2]
end Go.Pev.Pl
end
section
namespace Go.Pev.Pl
open Tok
section
variable (n:Int) (ts:List Tie)
theorem ALj(k:Int)(hr:Ke ((n,(ts,())),())=some (false,())):Kh ((n,(ts,())),k,())=some ((0,([],())),1,()):=by
 rw[Kg,G7]
 simp only[hr,AfT]
end
end Go.Pev.Pl
end
section
namespace Go.Pev.Pl
open Tok
end Go.Pev.Pl
end
section
namespace Go.Pev.Pl
open Tok
end Go.Pev.Pl
end
section
namespace Go.Pev.Pl
open Tok
end Go.Pev.Pl
end
section
namespace Go.Pev.Pl
open Tok
theorem AVT(n:Int)(rings:List (List Int))(v:Int)(hD:Dom rings):Adw ((n,(rings,())),v,())=some (if RF n rings∧In n v then plc rings v else -1,()):=by
 rw[AcH,APv]
 simp only[Hl,EJ n rings hD.1 hD.2,L7 n rings v hD.1 (fun l hl=>(hD.2 l hl).1)]
 by_cases h1:In n v
 ·by_cases h2:RF n rings<;>simp[h1,h2]
 ·by_cases h2:RF n rings<;>simp[h1,h2]
section
variable (a0:Int) (a1:List Tie) (a2 a3 a4:Int) (a5:List (List Int)) (a6:Int) (a7:List (List Int)) (p q:List Edge)
end
end Go.Pev.Pl
end
section
namespace Go.Pev.Pl
open Tok
end Go.Pev.Pl
end
section
namespace Go.Pev.Pl
theorem XN{α β:Type}:∀ m:List (α×β),List.zip (List.map Prod.fst m) (List.map Prod.snd m)=m
 |[]=>rfl
 |(a,b)::m=>by simp only[AfP,AhI,XN m]
theorem Ji{β:Type}(k:Int):∀ m:List (Int×List β),AX (m.map Prod.snd) (Cw (m.map Prod.fst) k) []=(AM m k).getD []
 |[]=>by simp[Cw,AX,AM]
 |(a,b)::m=>by
  have ih:=Ji k m
  simp only[AfP,Cw,AM]
  by_cases h:a=k
  ·simp[h,AX]
  ·simp only[h,Ae9]
   rw[← ih]
   simp[AX]
theorem AJu{β:Type}(k:Int)(v:β):∀ m:List (Int×β),List.zip (K7 (m.map Prod.fst) (Cw (m.map Prod.fst) k) k) (K7 (m.map Prod.snd) (Cw (m.map Prod.fst) k) v)=Ac m k v
 |[]=>by simp[Cw,K7,Ac]
 |(a,b)::m=>by
  have ih:=AJu k v m
  simp only[AfP,Cw,Ac]
  by_cases h:a=k
  ·simp[h,K7,XN]
  ·simp only[h,Ae9]
   rw[← ih]
   have q:∀ {α:Type} (x y:α) (xs:List α) (i:Nat),K7 (x::xs) (i+1) y=x::K7 xs i y:=by
    intro α x y xs i
    simp only[K7,Aex,Nat.add_lt_add_iff_right,List.set_cons_succ,AfK]
    split<;>rfl
   rw[q,q,AhI]
def AZC(k:Int)(t:Tie):Bool := !t.2.2.2.1&&decide (t.2.2.1=k)
def CA(ts:List Tie)(k:Int):List Edge:=(ts.filter (AZC k)).map ed
def Dw(x:Int)(e:Edge):Bool:=decide (e.1=x∨e.2.1=x)
abbrev RM:=List (Int×List (Int×Int×Unit))
def Ea(m:RM)(x:Int):List (Int×Int×Unit):=(AM m x).getD []
def ANB(m:RM)(x:Int)(e:Edge):RM:=Ac m x (Ea m x++[e])
def ARr(m:RM)(e:Edge):RM:=ANB (ANB m e.1 e) e.2.1 e
theorem ND(m:RM)(x:Int)(e:Edge)(y:Int):Ea (ANB m x e) y=if y=x then Ea m x++[e]else Ea m y:=by
 unfold Ea ANB
 rw[Di]
 by_cases h:y=x<;>simp[h,Ea]
theorem AUl(m:RM)(e:Edge)(h:e.1≠e.2.1)(y:Int):Ea (ARr m e) y=Ea m y++if Dw y e=true then [e]else []:=by
 unfold ARr
 rw[ND,ND,ND]
 unfold Dw
 by_cases h1:y=e.1
 ·subst h1
  rw[Ae3 h,Ae6 rfl,Ae6 (by simp)]
 ·by_cases h2:y=e.2.1
  ·subst h2
   rw[Ae6 rfl,Ae3 h1,Ae6 (by simp)]
  ·rw[Ae3 h2,Ae3 h1,Ae3 (by simp;omega),Afx]
theorem Yg(m:RM)(x:Int)(e:Edge)(n:Nat)(h:∀ y,(Ea m y).length≤n):∀ y,(Ea (ANB m x e) y).length≤n+1:=by
 intro y
 rw[ND]
 have:=h x
 have:=h y
 split<;>simp<;>omega
def ALK(k:Int)(m:RM)(t:Tie):RM:=if AZC k t=true then ARr m (ed t)else m
theorem AVJ(k:Int)(y:Int):∀ (ts:List Tie) (m:RM),(∀ t∈ts,t.1<t.2.1)→Ea (ts.foldl (ALK k) m) y=Ea m y++(CA ts k).filter (Dw y):=by
 intro ts
 induction ts with
 |nil=>intro m _;simp[CA]
 |cons t ts ih=>
  intro m h
  rw[Afj,ih _ fun t ht=>h t (AfF _ ht)]
  unfold ALK CA
  rw[Af2]
  by_cases hb:AZC k t=true
  ·rw[Ae6 hb,Ae6 hb,AUl _ _ (by have:=h t List.mem_cons_self;show t.1≠t.2.1;omega),AfP,Af2]
   by_cases hy:Dw y (ed t)=true
   ·rw[Ae6 hy,Ae6 hy];simp
   ·rw[Ae3 hy,Ae3 hy];simp
  ·rw[Ae3 hb,Ae3 hb]
theorem AYE(k n:Int)(tks:List Int)(ofm:List (Int×Int))(m:RM)(u v l:Int)(b:Bool)(ts:List Tie)(d i l' k':Int)(b':Bool)(c:Nat)(hc:∀ y,(Ea m y).length≤c)(hs:c<1073741824):
  AU Fs many (k,n,tks,ofm,m,u,v,l,b,ts,d,i,l',k',b',([u,v]:List Int),(0:Int),())=some (.inl (k,n,tks,ofm,ARr m (u,(v,())),ts,d,i,l',k',b',())):=by
 obtain⟨q,hm⟩:∃ q,many=q+3:=⟨many-3,by simp only[many]⟩
 have i0:idx [u,v] (0:Int)=some u:=by rw[idx_eq];rfl
 have i1:idx [u,v] (1:Int)=some v:=by rw[idx_eq];rfl
 have w1:IntKind.wrap .i64 ((0:Int)+1)=1:=by rw[Ah (by omega)];rfl
 have w2:IntKind.wrap .i64 ((1:Int)+1)=2:=by rw[Ah (by omega)];rfl
 have c0:ilt (0:Int) 2=true:=by rw[Ai];rfl
 have c1:ilt (1:Int) 2=true:=by rw[Ai];rfl
 have c2:ilt (2:Int) 2=false:=by rw[Ai];rfl
 have d0:AX [u,v] 0 (0:Int)=u:=rfl
 have d1:AX [u,v] 1 (0:Int)=v:=rfl
 have fl:∀ (m:RM) (x:Int) (e:Edge),(Ea m x).length≤c+1→fits ((AH ((AM m x).getD []))+(AH ([e]:List Edge)))=true:=by
  intro m x e h
  apply Be
  simp only[AL,AhR]
  simp only[Ea]at h
  omega
 have q0:=Yg m u (u,(v,())) c hc
 have st:∀ (m:RM) (j x:Int),(Ea m x).length≤c+1→ilt j 2=true→idx [u,v] j=some x→Fs (k,n,tks,ofm,m,u,v,l,b,ts,d,i,l',k',b',([u,v]:List Int),j,())=some (.inl (k,n,tks,ofm,ANB m x (u,(v,())),u,v,l,b,ts,d,i,l',k',b',([u,v]:List Int),IntKind.wrap .i64 (j+1),())):=by
  intro m j x h1 h2 h3
  simp only[Fs,d0,d1,h2,h3,Ji,AJu,CL,AgB,C5,fl m x (u,(v,())) h1]
  rfl
 have en:Fs (k,n,tks,ofm,ARr m (u,(v,())),u,v,l,b,ts,d,i,l',k',b',([u,v]:List Int),(2:Int),())=some (.inr (.inl (k,n,tks,ofm,ARr m (u,(v,())),ts,d,i,l',k',b',()))):=by
  simp only[Fs,c2,XN]
 rw[As,hm,AW,st m 0 u (Nat.le_succ_of_le (hc u)) c0 i0,w1]
 show AW Fs (q+2) _=_
 rw[AW,st _ 1 v (q0 v) c1 i1,w2]
 show AW Fs (q+1) _=_
 rw[AW]
 have ea:ANB (ANB m u (u,(v,()))) v (u,(v,()))=ARr m (u,(v,())):=rfl
 rw[ea,en]
theorem AUX(k n:Int)(tks:List Int)(ofm:List (Int×Int))(ts:List Tie)(hs:ts.length≤400):
  AU IM many (k,n,tks,ofm,([]:RM),ts,AH ts,(0:Int),())=some (.inl (n,tks,ofm,ts.foldl (ALK k) [],())):=by
 have e:=DO (step:=IM) (fun i (m:RM)=>(k,n,tks,ofm,m,ts,AH ts,(i:Int),())) ts (fun t m=>.inl (ALK k m t)) (fun m=>.inl (n,tks,ofm,m,())) (fun i m=>∀ y,(Ea m y).length≤2*i) (by omega)
  (fun i x m hi hx hm=>by
   refine⟨fun m' h' => ?_,fun r h'=>(by cases h')⟩
   cases h'
   constructor
   ·rw[IM,AL,AN,Aeq hi]
    simp only[Aj hx,AL,XN]
    rw[AP (by omega)]
    unfold ALK AZC
    cases h4:x.2.2.2.1
    ·simp only[Ao]
     by_cases h5:x.2.2.1=k
     ·rw[Aeq h5]
      simp only[Ae0,AfT,Agw,AfS]
      rw[AYE k n tks ofm m x.1 x.2.1 x.2.2.1 false ts _ _ _ _ _ (2*i) hm (by omega)]
      simp only[XN]
      rw[AP (by omega)]
      rfl
     ·rw[Aeo h5]
      simp
    ·simp
   ·unfold ALK
    split
    ·intro y
     have:=Yg _ x.2.1 (ed x) (2*i+1) (Yg m x.1 (ed x) (2*i) hm) y
     exact this
    ·intro y
     have:=hm y
     omega)
  (fun m _=>by rw[IM,AL,AN,Aeo (by omega)];simp only[XN]) [] (fun y=>by simp[Ea,AM])
 have e':AU IM many (k,n,tks,ofm,([]:RM),ts,AH ts,(0:Int),())=_:=e
 rw[e',BZ (fun(t:Tie) (m:RM)=>ALK k m t)]
def ofF(m:List (Int×Int))(x:Int):List (Int×Int):=Ac m x 1
theorem AcF(y:Int):∀ (xs:List Int) (m:List (Int×Int)),(AM (xs.foldl ofF m) y).getD 0=if y∈xs then 1 else(AM m y).getD 0:=by
 intro xs
 induction xs with
 |nil=>intro m;simp
 |cons x xs ih=>
  intro m
  rw[Afj,ih]
  unfold ofF
  rw[Di]
  by_cases h:y∈xs
  ·simp[h]
  ·by_cases h2:y=x<;>simp[h,h2]
theorem AUW(k n:Int)(ts:List Tie)(n':Int)(tks:List Int)(hs:tks.length≤1000):
  AU IN many (k,n,ts,n',tks,([]:List (Int×Int)),([]:RM),tks,AH tks,(0:Int),())=some (.inl (k,n,ts,n',tks,tks.foldl ofF [],([]:RM),())):=by
 have e:=DO (step:=IN) (fun i (m:List (Int×Int))=>(k,n,ts,n',tks,m,([]:RM),tks,AH tks,(i:Int),())) tks (fun x m=>.inl (ofF m x)) (fun m=>.inl (k,n,ts,n',tks,m,([]:RM),())) (fun _ _=>True) (by omega)
  (fun i x m hi hx hm=>by
   refine⟨fun m' h' => ?_,fun r h'=>(by cases h')⟩
   cases h'
   refine⟨?_,trivial⟩
   rw[IN,AL,AN,Aeq hi]
   simp only[Aj hx,AL,Agm,List.zip_nil_left]
   rw[AP (by omega)]
   rfl)
  (fun m _=>by rw[IN,AL,AN,Aeo (by omega)];rfl) [] trivial
 have e':AU IN many (k,n,ts,n',tks,([]:List (Int×Int)),([]:RM),tks,AH tks,(0:Int),())=_:=e
 rw[e',BZ (fun(x:Int) (m:List (Int×Int))=>ofF m x)]
structure TR(N:Nat)(ts:List Tie)(v k:Int)(tks:List Int)(ofm:List (Int×Int))(outm:RM):Prop where
 rg:RG (N:Int) tks
 mem:v∈tks
 of:∀ x,(AM ofm x).getD 0=if x∈tks then 1 else 0
 row:∀ x,Ea outm x=(CA ts k).filter (Dw x)
 con:∀ u,In (N:Int) u→(u∈tks↔Con (trk ts k) v u)
theorem AYD{N:Nat}{ts:List Tie}(h:RG2 N ts)(v k:Int)(hv:0≤v∧v<(N:Int)):
  ∃ tks ofm outm,seen (((N:Int),(ts,())),v,k,())=some (.inr (.inl ((N:Int),tks,ofm,outm,0,())))∧ANo (((N:Int),(ts,())),v,k,())=some (tks,())∧TR N ts v k tks ofm outm:=by
 obtain⟨zs,e1,e2,hF⟩:=h.both k
 have iv:In (N:Int) v:=AZp h.h1 h.hN hv
 have hD:=hF.fr.dom
 have hRF:=(LH.2 hF.fr)
 obtain⟨i,A,hp,hi,hvA,hil⟩:=L6 (hF.fr.cov v iv)
 have hA:A∈zs:=Ae5 hi
 have hrg:=hF.fr.rg A hA
 have hlen:A.length≤1000:=hrg.1.1
 refine⟨A,A.foldl ofF [],ts.foldl (ALK k) [],?_,?_,hrg,hvA,?_,?_,?_⟩
 ·rw[W2,Rq]
  simp only[e1,CL,Ae0]
  rw[Ai,Aeo (show ¬ v<0 by omega),Az,Aeo (show ¬ (N:Int)≤v by omega)]
  simp only[AbI _ _ _ hD,Ae6 (show RF (N:Int) zs∧In (N:Int) v from⟨hRF,iv⟩),hp,Aj hi,List.zip_nil_left,Agm]
  rw[AUW k (N:Int) ts (N:Int) A hlen]
  simp only[Agm,List.zip_nil_left]
  rw[AUX k (N:Int) A _ ts h.ht]
  simp only[XN]
 ·rw[AT7,Xz]
  simp only[e2,AVT _ _ _ hD,Ae6 (show RF (N:Int) zs∧In (N:Int) v from⟨hRF,iv⟩),hp,Aj hi]
  rw[Ai,Aeo (by omega)]
 ·intro x
  rw[AcF]
  rfl
 ·intro x
  rw[AVJ k x ts [] fun t ht=>(h.tie ht).2.2.1]
  simp[Ea,AM]
 ·intro u iu
  rw[← hF.sam v u iv iu]
  constructor
  ·exact fun hu=>⟨A,hA,hvA,hu⟩
  ·rintro⟨B,hB,hvB,huB⟩
   obtain⟨j,hj⟩:=AhZ hB
   have:=hF.fr.uniq hi hj iv.2.2.2 hvA hvB
   subst this
   rw[hi]at hj
   cases hj
   exact huB
theorem AUZ{N:Nat}{ts:List Tie}(h:RG2 N ts)(v k:Int)(hv:¬ (0≤v∧v<(N:Int))):
  seen (((N:Int),(ts,())),v,k,())=some (.inl (10,()))∧XH (((N:Int),(ts,())),v,())=some (10,()):=by
 obtain⟨zs,e1,e2,hF⟩:=h.both k
 rw[W2,Rq,ABe,NY]
 simp only[e1,h.r21,CL,Ae0,Ai,Az]
 by_cases h1:v<0
 ·rw[Aeq h1]
  exact⟨rfl,rfl⟩
 ·rw[Aeo h1,Aeq (show(N:Int)≤v by omega)]
  exact⟨rfl,rfl⟩
theorem AYG{n:Int}{ts:List Tie}(v k:Int)(hr:Gl ((n,(ts,())),())=some (false,()))(hl:Ke ((n,(ts,())),())=some (false,())):
  seen ((n,(ts,())),v,k,())=some (.inl (1,()))∧XH ((n,(ts,())),v,())=some (1,()):=by
 have h1:ieq (1:Int) 0=false:=by rw[Ao];rfl
 rw[W2,Rq,ABe,NY]
 simp only[ALj _ _ k hl,hr,h1,AfT]
 trivial
end Go.Pev.Pl
end
section
namespace Go.Pev.Pl.SE
open Go.Sort
theorem TU{x y:Int×Int×Unit}(_:ok x)(_:ok y):∃ c,BO (x,y,())=some (c,())∧ilt c (0:Int)=lt x y:=by
 rw[AJZ,W1]
 simp only[VY,or_val,Ai,lt]
 refine⟨_,rfl,?_⟩
 apply Af3.2
 by_cases h1:x.1<y.1
 ·simp[h1]
 ·by_cases h2:y.1<x.1
  ·have h3:¬ x.1=y.1:=by omega
   simp[h1,h2,h3]
  ·have h3:x.1=y.1:=by omega
   by_cases h4:x.2.1<y.2.1
   ·simp[h3,h4]
   ·by_cases h5:y.2.1<x.2.1
    ·simp[h3,h4,h5]
    ·simp[h3,h4,h5]
noncomputable def S:SG.SP (Int×Int×Unit):=⟨((0:Int),((0:Int),())),BO,ok,okz,SM,lt,swo,fun h1 h2=>TU h1 h2⟩
theorem Jg(xs:List (Int×Int×Unit))(h:xs.length<4294967296):∃ ys,ADX (xs,())=some (ys,())∧ys.Perm xs∧ys.Pairwise fun x y=>lt y x=false:=SG.Jg S xs h fun _ _=>trivial
theorem AUM{xs zs:List (Int×Int×Unit)}(h:xs.length<4294967296)(hp:xs.Perm zs)(hz:zs.Pairwise JW):ADX (xs,())=some (zs,()):=by
 obtain⟨ys,e,h1,h2⟩:=Jg xs h
 have hzs:zs.Pairwise fun x y=>lt y x=false:=hz.imp fun {a b} q=>by
  unfold lt
  unfold JW at q
  rw[Aff]
  omega
 have:=List.Perm.eq_of_pairwise (le:=fun x y=>lt y x=false) (fun a b _ _ q1 q2=>by
  unfold lt at q1 q2
  rw[Aff]at q1 q2
  obtain⟨a1,a2,⟨⟩⟩:=a
  obtain⟨b1,b2,⟨⟩⟩:=b
  simp only at q1 q2
  have e1:a1=b1:=by omega
  have e2:a2=b2:=by omega
  rw[e1,e2]) h2 hzs (h1.trans hp)
 rw[e,this]
end Go.Pev.Pl.SE
namespace Go.Pev.Pl
def E3(tks:List Int)(e:Edge):Bool:=decide (e.1∈tks) != decide (e.2.1∈tks)
def Gf(N:Nat)(L:List Edge)(x:Int):Bool:=decide (x<(N:Int))&&L.any (Dw x)
def atL(L:List Edge)(toks:List Int):List Edge:=L.filter fun e=>decide (e.1∈toks)||decide (e.2.1∈toks)
theorem Acr(x:Edge):(x.1,(x.2.1,()))=x:=rfl
theorem AAn{α:Type}(P:α→Bool):∀ L:List α,decide (0<(L.filter P).length)=L.any P
 |[]=>rfl
 |x::L=>by
  rw[Af2,Ahv,← AAn P L]
  by_cases h:P x=true<;>simp[h]
section
variable {N:Nat} {ts:List Tie} {v k:Int} {tks:List Int} {ofm:List (Int×Int)} {outm:RM}
theorem Sp(h:TR N ts v k tks ofm outm)(e:Edge):KM ((N:Int),tks,ofm,outm,e,())=some ((N:Int),tks,ofm,outm,E3 tks e,()):=by
 rw[YF,NB]
 simp only[h.of]
 unfold E3
 by_cases h1:e.1∈tks<;>by_cases h2:e.2.1∈tks<;>simp only[h1,h2,AfS,Ae9,Ae2,AfG]<;>rw[Ah (by omega),Ao]<;>rfl
theorem Zt(h:TR N ts v k tks ofm outm)(x:Int):HR ((N:Int),tks,ofm,outm,x,())=some ((N:Int),tks,ofm,outm,Gf N (CA ts k) x,()):=by
 rw[UD,KL]
 have hr:=h.row x
 unfold Ea at hr
 simp only[hr,AL]
 unfold Gf
 rw[Ai,Ai,← AAn]
 by_cases h1:x<(N:Int)<;>simp[h1]
theorem OK(h:TR N ts v k tks ofm outm):HQ ((N:Int),tks,ofm,outm,())=some ((N:Int),tks,ofm,outm,tks.filter (Gf N (CA ts k)),()):=by
 have hl:tks.length≤1000:=h.rg.1.1
 have hp:=AEW (find:=Bx) (step:=Cq) (0:Int) (fun a (w j:Nat)=>(a,(N:Int),tks,ofm,outm,(w:Int),(j:Int),())) (fun a (w:Nat)=>.inl (a,(N:Int),tks,ofm,outm,(w:Int),())) (fun i=>(tks,(N:Int),tks,ofm,outm,(tks.length:Int),(i:Int),())) (fun i=>.inl (tks,(N:Int),tks,ofm,outm,(i:Int),())) (.inr (.inl (tks,(N:Int),tks,ofm,outm,()))) (Gf N (CA ts k)) tks (by omega)
  (fun a w j ha hj hw hg=>by
   unfold Cq
   dsimp only
   simp (disch:=omega) only[AL,AN,ha,hj,Ae2,DK (0:Int),FZ,AHv,hg,AP,Zt h]
   cases Gf N (CA ts k) (tks.getD j 0)<;>rfl)
  (fun a w ha=>by unfold Cq;dsimp only;rw[AL,AN,Aeo (by omega)])
  (fun i hi=>by
   unfold Bx
   dsimp only
   simp (disch:=omega) only[AN,hi,Ae2,DK (0:Int),FZ,AP,Zt h]
   cases Gf N (CA ts k) (tks.getD i 0)<;>rfl)
  (by unfold Bx;dsimp only;rw[AN,Aeo (by omega)])
 rw[UC,KK]
 simp only[ARY (show tks.length≤4294967296 by omega)]
 rw[Mg,F4,MR,Fx]
 generalize Gf N (CA ts k)=keep at *
 rcases hp with⟨h0,e⟩|⟨i,a',hk,e,e2,hl,hle,e4⟩
 ·have e':AU Bx many (tks,(N:Int),tks,ofm,outm,AH tks,(0:Int),())=_:=e
  simp only[e',Ao]
  rw[h0]
  show some ((N:Int),tks,ofm,outm,Bo (AK (AH tks)) tks,())=_
  rw[Bo,AL,Hw,AgD]
 ·have e':AU Bx many (tks,(N:Int),tks,ofm,outm,AH tks,(0:Int),())=_:=e
  obtain⟨c1,c2⟩:=ABN (0:Int) (a:=a') (w:=(tks.filter keep).length) (by omega)
  have s0:CO (Bm (tks.filter keep).length (a'.length-(tks.filter keep).length) (0:Int) a') (0:Int) (((tks.filter keep).length:Nat):Int)=some _:=I4 (by omega)
  have s1:CO a' (((tks.filter keep).length:Nat):Int) (a'.length:Int)=some _:=Eb (by omega)
  simp only[e',Ao]
  rw[Aeo (by omega),AP (by omega)]
  simp only[e2,s1,AL,AfW,Hw,s0]
  rw[Ae8,c2,Afi (by omega),Bo,c1.trans e4]
theorem ARJ(h:TR N ts v k tks ofm outm)(o:List Edge)(hs:o.length<4294967296):
  ∃ a:List Edge,Hx (o,(N:Int),tks,ofm,outm,())=some (a,(N:Int),tks,ofm,outm,(((o.filter (E3 tks)).length:Nat):Int),())∧a.take (o.filter (E3 tks)).length=o.filter (E3 tks):=by
 have hp:=AEW (find:=CD) (step:=DH) ((0:Int),(0:Int),()) (fun a (w j:Nat)=>(a,(N:Int),tks,ofm,outm,(w:Int),(j:Int),())) (fun a (w:Nat)=>.inl (a,(N:Int),tks,ofm,outm,(w:Int),())) (fun i=>(o,(N:Int),tks,ofm,outm,(o.length:Int),(i:Int),())) (fun i=>.inl (o,(N:Int),tks,ofm,outm,(i:Int),())) (.inr (.inl (o,(N:Int),tks,ofm,outm,()))) (E3 tks) o hs
  (fun a w j ha hj hw hg=>by
   unfold DH
   dsimp only
   simp (disch:=omega) only[AL,AN,ha,hj,Ae2,DK ((0:Int),(0:Int),()),FZ,AHv,hg,AP,Acr,Sp h]
   cases E3 tks (o.getD j ((0:Int),(0:Int),()))<;>rfl)
  (fun a w ha=>by unfold DH;dsimp only;rw[AL,AN,Aeo (by omega)])
  (fun i hi=>by
   unfold CD
   dsimp only
   simp (disch:=omega) only[AN,hi,Ae2,DK ((0:Int),(0:Int),()),FZ,AP,Acr,Sp h]
   cases E3 tks (o.getD i ((0:Int),(0:Int),()))<;>rfl)
  (by unfold CD;dsimp only;rw[AN,Aeo (by omega)])
 rw[N7,Gs,Ny,Gq]
 generalize E3 tks=keep at *
 rcases hp with⟨h0,e⟩|⟨i,a',hk,e,e2,hl,hle,e4⟩
 ·have e':AU CD many (o,(N:Int),tks,ofm,outm,AH o,(0:Int),())=_:=e
  simp only[e',Ao]
  exact⟨o,by rw[h0];rfl,by rw[h0,AgD]⟩
 ·have e':AU CD many (o,(N:Int),tks,ofm,outm,AH o,(0:Int),())=_:=e
  obtain⟨c1,c2⟩:=ABN ((0:Int),(0:Int),()) (a:=a') (w:=(o.filter keep).length) (by omega)
  have s0:CO (Bm (o.filter keep).length (a'.length-(o.filter keep).length) ((0:Int),(0:Int),()) a') (0:Int) (((o.filter keep).length:Nat):Int)=some _:=I4 (by omega)
  have s1:CO a' (((o.filter keep).length:Nat):Int) (a'.length:Int)=some _:=Eb (by omega)
  simp only[e',Ao]
  rw[Aeo (by omega),AP (by omega)]
  simp only[e2,s1,AL,AfW,Hw,s0]
  refine⟨_,?_,c1.trans e4⟩
  rw[Ae8,c2,Afi (by omega)]
theorem AMP(h:TR N ts v k tks ofm outm)(o:List Edge)(hs:o.length<4294967296):
  Hs (o,(N:Int),tks,ofm,outm,())=some ((N:Int),tks,ofm,outm,if o.any (E3 tks)then((o.findIdx (E3 tks):Nat):Int)else -1,()):=by
 have e:=MZ (step:=Cf) (fun i=>((N:Int),tks,ofm,outm,o,(o.length:Int),(i:Int),())) o (E3 tks) (fun i=>.inl ((N:Int),tks,ofm,outm,(i:Int),())) (.inr (.inl ((N:Int),tks,ofm,outm,()))) (by omega)
  (fun i x hi hx=>by
   unfold Cf
   dsimp only
   rw[AN,Aeq hi]
   simp only[Aj hx,Acr,Sp h]
   rw[AP (by omega)]
   cases E3 tks x<;>rfl)
  (by unfold Cf;dsimp only;rw[AN,Aeo (by omega)])
 rw[N1,Gr]
 have e':AU Cf many ((N:Int),tks,ofm,outm,o,AH o,(0:Int),())=_:=e
 simp only[e']
 by_cases ha:o.any (E3 tks)=true<;>simp[ha]
end
abbrev MS:=List (Edge×Int)×List Edge
def Jp(m:List (Edge×Int))(x:Edge):Int:=(AM m x).getD 0
def Nk(a:MS)(x:Edge):MS:=(Ac a.1 x (Jp a.1 x+1),if x∈a.2 then a.2 else a.2++[x])
structure MI2(s:Nat)(a:MS):Prop where
 len:a.2.length≤s
 bnd:∀ x,0≤Jp a.1 x∧Jp a.1 x≤(s:Int)
 zero:∀ x,Jp a.1 x=0↔x∉a.2
 nd:a.2.Nodup
theorem MI2.step{s:Nat}{a:MS}(h:MI2 s a)(x:Edge):MI2 (s+1) (Nk a x):=by
 have hg:∀ y,Jp (Nk a x).1 y=if y=x then Jp a.1 x+1 else Jp a.1 y:=by
  intro y
  unfold Nk Jp
  simp only
  rw[Z6]
  split<;>rfl
 refine⟨?_,fun y => ?_,fun y => ?_,?_⟩
 ·have:=h.len
  unfold Nk
  simp only
  split<;>simp<;>omega
 ·rw[hg]
  have:=h.bnd x
  have:=h.bnd y
  split<;>omega
 ·rw[hg]
  unfold Nk
  simp only
  have b:=h.bnd x
  by_cases hy:y=x
  ·subst hy
   rw[Ae6 rfl]
   by_cases hm:y∈a.2
   ·rw[Ae6 hm]
    constructor
    ·intro q;omega
    ·intro q;exact absurd hm q
   ·rw[Ae3 hm]
    constructor
    ·intro q;omega
    ·intro q;exact absurd (by simp) q
  ·rw[Ae3 hy,h.zero]
   split
   ·exact Iff.rfl
   ·simp[hy]
 ·unfold Nk
  simp only
  split
  ·exact h.nd
  ·rename_i hm
   rw[Agj]
   refine⟨h.nd,by simp,fun p hp q hq => ?_⟩
   rw[AfH]at hq
   rintro rfl
   exact hm (hq▸hp)
theorem AZT(a:MS)(x y:Edge):y∈(Nk a x).2↔y=x∨y∈a.2:=by
 unfold Nk
 simp only
 split
 ·rename_i h
  constructor
  ·exact .inr
  ·rintro (rfl|q)
   ·exact h
   ·exact q
 ·simp[or_comm]
theorem AaG:∀ (xs:List Edge) (a:MS) (y:Edge),y∈(xs.foldl Nk a).2↔y∈xs∨y∈a.2:=by
 intro xs
 induction xs with
 |nil=>intro a y;simp
 |cons x xs ih=>
  intro a y
  rw[Afj,ih,AZT,Aew]
  constructor
  ·rintro (q|q|q)
   ·exact .inl (.inr q)
   ·exact .inl (.inl q)
   ·exact .inr q
  ·rintro ((q|q)|q)
   ·exact .inr (.inl q)
   ·exact .inl q
   ·exact .inr (.inr q)
theorem AMK:∀ (xs:List Edge) (a:MS) (s:Nat),MI2 s a→MI2 (s+xs.length) (xs.foldl Nk a):=by
 intro xs
 induction xs with
 |nil=>intro a s h;exact h
 |cons x xs ih=>
  intro a s h
  have:=ih _ _ (h.step x)
  rw[Afj,Aex,show s+(xs.length+1)=s+1+xs.length by omega]
  exact this
theorem AeF(n:Int)(tks:List Int)(ofm:List (Int×Int))(outm:RM)(toks:List Int)(d e:Int)(row:List Edge)(hr:row.length≤400)(a:MS)(s:Nat)(ha:MI2 s a)(hs:s≤1000000):
  AU IL many (n,tks,ofm,outm,a.1,a.2,toks,d,e,row,AH row,(0:Int),())=some (.inl (n,tks,ofm,outm,(row.foldl Nk a).1,(row.foldl Nk a).2,toks,d,e,())):=by
 have q:=DO (step:=IL) (fun i (a:MS)=>(n,tks,ofm,outm,a.1,a.2,toks,d,e,row,AH row,(i:Int),())) row (fun x a=>.inl (Nk a x)) (fun a=>.inl (n,tks,ofm,outm,a.1,a.2,toks,d,e,())) (fun i a=>MI2 (s+i) a) (by omega)
  (fun i x a hi hx ha=>by
   refine⟨fun m' h' => ?_,fun r h'=>(by cases h')⟩
   cases h'
   refine⟨?_,ha.step x⟩
   have b:=ha.bnd x
   have bl:=ha.len
   have hz:=ha.zero x
   have hw:IntKind.wrap .i64 (Jp a.1 x+1)=Jp a.1 x+1:=Ah (by omega)
   obtain⟨m1,m2⟩:=AP1 a.1 x (Jp a.1 x) (Jp a.1 x+1)
   have hl:AM (Ac a.1 x (Jp a.1 x+1)) x=some (Jp a.1 x+1):=by rw[Z6,Ae6 rfl]
   rw[IL,AL,AN,Aeq hi]
   unfold Jp at *
   simp only[Aj hx,Acr,m1,hw,m2,hl,AfN,Ao]
   rw[AP (by omega)]
   unfold Nk Jp
   by_cases hm:x∈a.2
   ·rw[Aeo (by intro q;exact(hz.1 (by omega)) hm),Ae6 hm]
   ·rw[Aeq (by have:=hz.2 hm;omega),Ae3 hm,Be (by simp only[AL,AhR];omega)]
    rfl)
  (fun a _=>by rw[IL,AL,AN,Aeo (by omega)]) a ha
 have q':AU IL many (n,tks,ofm,outm,a.1,a.2,toks,d,e,row,AH row,(0:Int),())=_:=q
 rw[q',BZ (fun(x:Edge) (a:MS)=>Nk a x)]
def AJD(outm:RM)(a:MS)(x:Int):MS:=(Ea outm x).foldl Nk a
theorem AbH(outm:RM):∀ (toks:List Int) (a:MS) (y:Edge),y∈(toks.foldl (AJD outm) a).2↔(∃ x∈toks,y∈Ea outm x)∨y∈a.2:=by
 intro toks
 induction toks with
 |nil=>intro a y;simp
 |cons x xs ih=>
  intro a y
  rw[Afj,ih,AJD,AaG]
  simp only[Aew,exists_eq_or_imp,or_assoc]
  constructor
  ·rintro (q|q|q)
   ·exact .inr (.inl q)
   ·exact .inl q
   ·exact .inr (.inr q)
  ·rintro (q|q|q)
   ·exact .inr (.inl q)
   ·exact .inl q
   ·exact .inr (.inr q)
theorem AdU(outm:RM):∀ (toks:List Int) (a:MS) (s:Nat),MI2 s a→(toks.foldl (AJD outm) a).2.Nodup:=by
 intro toks
 induction toks with
 |nil=>intro a s h;exact h.nd
 |cons x xs ih=>intro a s h;rw[Afj];exact ih _ _ (AMK _ _ _ h)
theorem MI2.mono{s s':Nat}{a:MS}(h:MI2 s a)(hs:s≤s'):MI2 s' a:=⟨by have:=h.len;omega,fun x=>by have:=h.bnd x;omega,h.zero,h.nd⟩
theorem AD2{N:Nat}{ts:List Tie}(h:RG2 N ts)(k:Int):(CA ts k).Pairwise JW:=by
 unfold CA
 rw[AgL]
 have:=h.edP
 rw[AgL]at this
 exact this.filter _
theorem Zo{N:Nat}{ts:List Tie}(h:RG2 N ts)(k:Int):(CA ts k).length≤400:=by
 unfold CA
 rw[AgA]
 have:=AgH (AZC k) ts
 have:=h.ht
 omega
theorem AW8{L:List Edge}(h:L.Pairwise JW):L.Nodup:=h.imp fun {a b} q=>by
 rintro rfl
 unfold JW at q
 omega
theorem ARn{N:Nat}{ts:List Tie}{v k:Int}{tks:List Int}{ofm:List (Int×Int)}{outm:RM}(hg:RG2 N ts)(h:TR N ts v k tks ofm outm)(toks:List Int)(hl:toks.length≤1000):
  AON ((N:Int),tks,ofm,outm,toks,())=some ((N:Int),tks,ofm,outm,atL (CA ts k) toks,()):=by
 have hrow:∀ x,(Ea outm x).length≤400:=fun x=>by
  rw[h.row]
  have:=AgH (Dw x) (CA ts k)
  have:=Zo hg k
  omega
 have q:=DO (step:=KN) (fun i (a:MS)=>((N:Int),tks,ofm,outm,a.1,a.2,toks,AH toks,(i:Int),())) toks (fun x a=>.inl (AJD outm a x)) (fun a=>.inl ((N:Int),tks,ofm,outm,a.2,())) (fun i a=>MI2 (400*i) a) (by omega)
  (fun i x a hi hx ha=>by
   refine⟨fun m' h' => ?_,fun r h'=>(by cases h')⟩
   cases h'
   constructor
   ·rw[KN,AL,AN,Aeq hi]
    simp only[Aj hx]
    have:=AeF (N:Int) tks ofm outm toks (toks.length:Int) (i:Int) (Ea outm x) (hrow x) a (400*i) ha (by omega)
    unfold Ea at this
    simp only[this]
    rw[AP (by omega)]
    rfl
   ·exact(AMK (Ea outm x) a _ ha).mono (by have:=hrow x;omega))
  (fun a _=>by rw[KN,AL,AN,Aeo (by omega)]) ([],[]) ⟨by simp,fun x=>by simp[Jp,AM],fun x=>by simp[Jp,AM],by simp⟩
 have hp:((toks.foldl (AJD outm) ([],[])).2).Perm (atL (CA ts k) toks):=by
  refine(List.perm_ext_iff_of_nodup (AdU outm toks ([],[]) 0 ⟨by simp,fun x=>by simp[Jp,AM],fun x=>by simp[Jp,AM],by simp⟩) (AW8 ((AD2 hg k).filter _))).2 fun y => ?_
  rw[AbH,AfU]
  simp only[h.row,AfU,Dw,Af9,Afw,Agd,AhM]
  constructor
  ·rintro⟨x,hx,q1,q2|q2⟩
   ·exact⟨q1,.inl (q2▸hx)⟩
   ·exact⟨q1,.inr (q2▸hx)⟩
  ·rintro⟨q1,q2|q2⟩
   ·exact⟨_,q2,q1,.inl rfl⟩
   ·exact⟨_,q2,q1,.inr rfl⟩
 rw[ASM,AFx]
 have q':AU KN many ((N:Int),tks,ofm,outm,([]:List (Edge×Int)),([]:List Edge),toks,AH toks,(0:Int),())=_:=q
 simp only[q']
 rw[BZ (fun(x:Int) (a:MS)=>AJD outm a x)]
 have hlen:=hp.length_eq
 have h2:=AgH (fun e:Edge=>decide (e.1∈toks)||decide (e.2.1∈toks)) (CA ts k)
 have h3:=Zo hg k
 have:=SE.AUM (xs:=(toks.foldl (fun a x=>AJD outm a x) ([],[])).2) (by
  have:(toks.foldl (fun a x=>AJD outm a x) ([],[])).2.length=(atL (CA ts k) toks).length:=hlen
  unfold atL at this
  omega) hp ((AD2 hg k).filter _)
 simp only[this]
end Go.Pev.Pl
end
section
namespace Go.Pev.Pl
end Go.Pev.Pl
end
section
namespace Go.Pev.Pl
section
variable {N:Nat} {ts:List Tie} {v k:Int} {tks:List Int} {ofm:List (Int×Int)} {outm:RM}
def stL(N:Nat)(ts:List Tie)(k:Int)(tks:List Int):List Int:=tks.filter (Gf N (CA ts k))
theorem ASE(h:TR N ts v k tks ofm outm):(stL N ts k tks).length≤1000:=by
 have h1:tks.length≤1000:=h.rg.1.1
 have:=AgH (Gf N (CA ts k)) tks
 unfold stL
 omega
theorem AcA(hg:RG2 N ts){e:Edge}(he:e∈CA ts k):In (N:Int) e.1∧In (N:Int) e.2.1:=by
 unfold CA at he
 obtain⟨t,ht,rfl⟩:=AfB.1 he
 exact hg.inE _ (AfB.2 ⟨t,(AfU.1 ht).1,rfl⟩)
theorem AcM(hg:RG2 N ts){e:Edge}(he:e∈CA ts k):(e.1∈tks↔e.1∈stL N ts k tks)∧(e.2.1∈tks↔e.2.1∈stL N ts k tks):=by
 obtain⟨i1,i2⟩:=AcA hg he
 have m1:Gf N (CA ts k) e.1=true:=by
  unfold Gf
  rw[Aeq i1.2.2.2,Agw,AgX]
  exact⟨e,he,Aeq (.inl rfl)⟩
 have m2:Gf N (CA ts k) e.2.1=true:=by
  unfold Gf
  rw[Aeq i2.2.2.2,Agw,AgX]
  exact⟨e,he,Aeq (.inr rfl)⟩
 unfold stL
 rw[AfU,AfU,m1,m2]
 simp
theorem Aan(hg:RG2 N ts):atL (CA ts k) (stL N ts k tks)=atL (CA ts k) tks:=by
 unfold atL
 refine Aho fun e he => ?_
 obtain⟨q1,q2⟩:=AcM (tks:=tks) hg he
 rw[Af3.2 q1,Af3.2 q2]
theorem Qr(hg:RG2 N ts)(toks:List Int):(atL (CA ts k) toks).length≤400:=by
 have:=Zo hg k
 have:=AgH (fun e:Edge=>decide (e.1∈toks)||decide (e.2.1∈toks)) (CA ts k)
 unfold atL
 omega
def ldL(ts:List Tie)(k:Int)(tks:List Int):List Edge:=(atL (CA ts k) tks).filter (E3 tks)
theorem AXw(hg:RG2 N ts)(h:TR N ts v k tks ofm outm)(hs:seen (((N:Int),(ts,())),v,k,())=some (.inr (.inl ((N:Int),tks,ofm,outm,0,())))):
  AJS (((N:Int),(ts,())),v,k,())=some (ldL ts k tks,0,()):=by
 have hl:=Qr hg (k:=k) (stL N ts k tks)
 obtain⟨a,e1,e2⟩:=ARJ h (atL (CA ts k) (stL N ts k tks)) (by omega)
 rw[AFk,YE]
 simp only[hs,CL,Ae0,OK h]
 have ha:=ARn hg h (stL N ts k tks) (ASE h)
 unfold stL at ha e1 e2
 simp only[ha,e1,Bo,Hw,e2]
 have:=Aan (tks:=tks) (k:=k) hg
 unfold stL at this
 rw[this]
 rfl
theorem AN6(hg:RG2 N ts)(h:TR N ts v k tks ofm outm)(hs:seen (((N:Int),(ts,())),v,k,())=some (.inr (.inl ((N:Int),tks,ofm,outm,0,()))))(m:Int):
  OM (((N:Int),(ts,())),v,k,m,())=some (atL (CA ts k) ((stL N ts k tks).take m.toNat),0,()):=by
 have hl:=ASE h
 rw[ADW,Pj]
 simp only[hs,CL,Ae0,OK h]
 obtain⟨q,hq,hq2,hq3⟩:∃ q:Nat,imax (0:Int) (Ce m (AH (stL N ts k tks)))=(q:Int)∧q≤(stL N ts k tks).length∧(stL N ts k tks).take q=(stL N ts k tks).take m.toNat:=by
  refine⟨min m.toNat (stL N ts k tks).length,?_,Nat.min_le_right _ _,?_⟩
  ·unfold imax Ce
   rw[AL]
   split<;>split<;>omega
  ·rw[AhU (i:=m.toNat)]
 unfold stL at hq hq2 hq3 hl
 rw[AL]at hq
 simp only[hq,I4 hq2,AL,Hw,DI,Agq,Ae8,hq3]
 have ha:=ARn hg h ((stL N ts k tks).take m.toNat) (by rw[Ae8];unfold stL;omega)
 unfold stL at ha
 simp only[← AhU,ha]
 rfl
def AAj(N:Nat)(ts:List Tie)(k:Int)(tks:List Int)(r:Nat):Option Edge:=(atL (CA ts k) ((stL N ts k tks).take (2 ^ r))).find? (E3 tks)
def ndL(c r:Nat):Nat:=if r=0 then 0 else min c (2 ^ (r-1))
theorem AZP(c r:Nat):ndL c (r+1)=min c (2 ^ r):=by unfold ndL;rw[Ae3 (by omega),AhJ]
def lkL(F:Nat→Option Edge)(c:Nat):Nat→Nat→Option Edge×Nat
 |0,r=>(none,r)
 |f+1,r=>if ndL c r<c then(match F r with
  |some e=>(some e,r+1)
  |none=>lkL F c f (r+1))else(none,r)
def AZb(c:Nat)(x:Option Edge×Nat):Bool×(Int×Int×Unit)×Int×Int×Unit:=(x.1.isSome,((x.1.getD (0,0,())).1,((x.1.getD (0,0,())).2.1,())),(x.2:Int),(ndL c x.2:Int),())
theorem ASP{r:Nat}(h:r≤8):shl? .i64 (1:Int) (IntKind.wrap .u64 (r:Int))=some ((2 ^ r:Nat):Int):=by
 rw[IntWalk.u64_in _ (by omega),YI,WS,Ae3 (by omega),Afn,show min r (IntKind.bits .i64)=r from Afi (by show r≤64;omega),Int.one_mul]
 have:2 ^ r≤2 ^ 8:=Aha (by omega) h
 have e:((2:Int) ^ r)=((2 ^ r:Nat):Int):=by rw[Int.natCast_pow];rfl
 rw[e]
 generalize 2 ^ r=q at *
 rw[Ah (by omega)]
theorem AdC(hg:RG2 N ts)(h:TR N ts v k tks ofm outm):(stL N ts k tks).length≤N:=by
 have hnd:(stL N ts k tks).Nodup:=h.rg.1.2.2.filter _
 have:=Cc (b:=(List.range N).map fun(i:Nat)=>(i:Int)) hnd fun x hx=>by
  unfold stL at hx
  obtain⟨q1,q2⟩:=AfU.1 hx
  have q3:=(h.rg.1.2.1 x q1).1
  unfold Gf at q2
  rw[Aet,Af9]at q2
  rw[AfB]
  exact⟨x.toNat,by rw[AgM];omega,by omega⟩
 rw[AgA,Afr]at this
 exact this
theorem AdF{c:Nat}(h:c≤64):¬ ndL c 8<c:=by
 unfold ndL
 rw[Ae3 (by omega),Afi (Afv h (by decide))]
 omega
theorem AMO(P:Edge→Bool):∀ L:List Edge,(∃ e,L.find? P=some e∧L.any P=true∧L[L.findIdx P]? = some e)∨(L.find? P=none∧L.any P=false)
 |[]=>.inr ⟨rfl,rfl⟩
 |x::L=>by
  rw[List.find?_cons,Ahv,Ag8]
  by_cases h:P x=true
  ·exact .inl ⟨x,by simp[h],by simp[h],by simp[h]⟩
  ·have h':P x=false:=by simpa using h
   rcases AMO P L with⟨e,q1,q2,q3⟩|⟨q1,q2⟩
   ·exact .inl ⟨e,by simp[h',q1],by simp[q2],by simp[h',q3]⟩
   ·exact .inr ⟨by simp[h',q1],by simp[h',q2]⟩
theorem AN5(hg:RG2 N ts)(h:TR N ts v k tks ofm outm):∀ (f r:Nat),r+f=8→∀ cnt,f<cnt →
  ∃ z,AW GB cnt (false,(0:Int),(0:Int),(r:Int),(ndL (stL N ts k tks).length r:Int),(N:Int),tks,ofm,outm,stL N ts k tks,())=some (.inl (z.1,z.2.1.1,z.2.1.2.1,z.2.2.1,z.2.2.2.1,()))∧z=AZb (stL N ts k tks).length (lkL (AAj N ts k tks) (stL N ts k tks).length f r):=by
 intro f
 have hN:=hg.hN
 have hc:=AdC hg h
 induction f with
 |zero=>
  intro r hr cnt hcnt
  obtain⟨cnt,rfl⟩:∃ c,cnt=c+1:=⟨cnt-1,by omega⟩
  obtain rfl:r=8:=by omega
  refine⟨_,?_,rfl⟩
  rw[AW,GB,AL]
  simp only[AfT]
  rw[AN,Aeo (AdF (by omega))]
  rfl
 |succ f ih=>
  intro r hr cnt hcnt
  obtain⟨cnt,rfl⟩:∃ c,cnt=c+1:=⟨cnt-1,by omega⟩
  rw[AW,GB,AL]
  simp only[AfT]
  rw[AN]
  by_cases hn:ndL (stL N ts k tks).length r<(stL N ts k tks).length
  ·rw[Aeq hn]
   have hm:Ce ((stL N ts k tks).length:Int) ((2 ^ r:Nat):Int)=(ndL (stL N ts k tks).length (r+1):Int):=by
    unfold Ce
    rw[AZP]
    generalize 2 ^ r=q at *
    generalize (stL N ts k tks).length=c at *
    rcases Nat.le_total c q with hh|hh
    ·rw[Afi hh];split<;>omega
    ·rw[AhD hh];split<;>omega
   have hle:ndL (stL N ts k tks).length (r+1)≤(stL N ts k tks).length:=by unfold ndL;rw[Ae3 (by omega)];exact Nat.min_le_left _ _
   have htk:(stL N ts k tks).take (ndL (stL N ts k tks).length (r+1))=(stL N ts k tks).take (2 ^ r):=by
    unfold ndL
    rw[Ae3 (by omega),AhJ,AhU (i:=2 ^ r),Nat.min_comm]
   have hl:=Qr hg (k:=k) ((stL N ts k tks).take (2 ^ r))
   simp only[ASP (show r≤8 by omega),hm,I4 hle,htk]
   rw[ARn hg h _ (by rw[Ae8];omega)]
   simp only[AMP h _ (show(atL (CA ts k) ((stL N ts k tks).take (2 ^ r))).length<4294967296 by omega)]
   rw[AP (by omega)]
   have hf:lkL (AAj N ts k tks) (stL N ts k tks).length (f+1) r=match AAj N ts k tks r with
    |some e=>(some e,r+1)
    |none=>lkL (AAj N ts k tks) (stL N ts k tks).length f (r+1):=by rw[lkL,Ae6 hn]
   rw[hf]
   unfold AAj
   rcases AMO (E3 tks) (atL (CA ts k) ((stL N ts k tks).take (2 ^ r)))with⟨e,q1,q2,q3⟩|⟨q1,q2⟩
   ·rw[q1,Ae6 q2,Az,Aeq (by omega)]
    simp only[Aj q3,TJ q3]
    obtain⟨cnt,rfl⟩:∃ c,cnt=c+1:=⟨cnt-1,by omega⟩
    refine⟨_,?_,rfl⟩
    rw[AW,GB]
    rfl
   ·rw[q1,Ae3 (by rw[q2];exact Bool.false_ne_true),Az,Aeo (by omega)]
    exact ih (r+1) (by omega) cnt (by omega)
  ·rw[Aeo hn,lkL,Ae3 hn]
   exact⟨_,rfl,rfl⟩
def Ei(N:Nat)(ts:List Tie)(k:Int)(tks:List Int):Option Edge×Nat:=lkL (AAj N ts k tks) (stL N ts k tks).length 8 0
theorem AUI(hg:RG2 N ts)(h:TR N ts v k tks ofm outm)(hs:seen (((N:Int),(ts,())),v,k,())=some (.inr (.inl ((N:Int),tks,ofm,outm,0,())))):
  Ns (((N:Int),(ts,())),v,k,())=some (AZb (stL N ts k tks).length (Ei N ts k tks),0,()):=by
 obtain⟨z,e,hz⟩:=AN5 hg h 8 0 rfl many (by simp only[many];omega)
 rw[YA,Ph]
 simp only[hs,CL,Ae0,OK h]
 have e':AU GB many (false,(0:Int),(0:Int),(0:Int),(0:Int),(N:Int),tks,ofm,outm,tks.filter (Gf N (CA ts k)),())=some (.inl (z.1,z.2.1.1,z.2.1.2.1,z.2.2.1,z.2.2.2.1,())):=by rw[As];exact e
 simp only[e',hz]
 rfl
end
end Go.Pev.Pl
end
section
namespace Go.Pev.Pl
theorem AIR:Iu ()=some (true,()):=by
 rw[show Iu () = @Iu idI ()from Af5 (fun i=>@Iu i ()) Z7]
 kernel_rfl
theorem AMD(n:Int)(ts:List Tie):NR ((n,(ts,())),())=some (true,())∨(NR ((n,(ts,())),())=some (false,())∧ts.length≤30∧n≤12):=by
 rw[AAZ,NQ]
 simp only[AL,Ai]
 by_cases h1:(30:Int)<ts.length
 ·rw[Aeq h1];exact .inl rfl
 ·rw[Aeo h1]
  by_cases h2:(12:Int)<n
  ·rw[Aeq h2];exact .inl rfl
  ·rw[Aeo h2];exact .inr ⟨rfl,by omega,by omega⟩
abbrev Lk3:=Bool×(Int×Int×Unit)×Int×Int×Unit
def AdG:Lk3:=(false,(((0:Int),((0:Int),())),((0:Int),((0:Int),()))))
theorem AX3(n:Int)(ts:List Tie)(hl:ts.length≤400)(v k:Int):
  (∃ e:Int,(e=1∨(e=10∧∃ N:Nat,n=(N:Int)∧RG2 N ts∧¬ (0≤v∧v<(N:Int))))∧seen ((n,(ts,())),v,k,())=some (.inl (e,()))∧XH ((n,(ts,())),v,())=some (e,())) ∨
  ∃ (N:Nat) (tks:List Int) (ofm:List (Int×Int)) (outm:RM),n=(N:Int)∧RG2 N ts∧(0≤v∧v<(N:Int))∧seen ((n,(ts,())),v,k,())=some (.inr (.inl ((N:Int),tks,ofm,outm,0,())))∧ANo ((n,(ts,())),v,k,())=some (tks,())∧TR N ts v k tks ofm outm:=by
 rcases AUp n ts (by omega)with⟨r1,r⟩|⟨N,rfl,h⟩
 ·obtain⟨q1,q2⟩:=AYG v k r1 r
  exact .inl ⟨1,.inl rfl,q1,q2⟩
 ·by_cases hv:0≤v∧v<(N:Int)
  ·obtain⟨tks,ofm,outm,h1,h2,h3⟩:=AYD h v k hv
   exact .inr ⟨N,tks,ofm,outm,rfl,h,hv,h1,h2,h3⟩
  ·obtain⟨q1,q2⟩:=AUZ h v k hv
   exact .inl ⟨10,.inr ⟨rfl,N,rfl,h,hv⟩,q1,q2⟩
theorem AQ4{e:Int}(h:e=1∨e=10):ieq e 0=false:=by
 rw[Ao,Aeo]
 omega
section
variable {n:Int} {ts:List Tie} {v k e:Int}
theorem AXy(he:e=1∨e=10)(h:seen ((n,(ts,())),v,k,())=some (.inl (e,()))):AJS ((n,(ts,())),v,k,())=some ([],e,()):=by
 rw[AFk,YE];simp only[h,AQ4 he,AfT]
theorem AUK(he:e=1∨e=10)(h:seen ((n,(ts,())),v,k,())=some (.inl (e,()))):Ns ((n,(ts,())),v,k,())=some (AdG,e,()):=by
 rw[YA,Ph];simp only[h,AQ4 he,AfT];rfl
end
abbrev GT:=(Int×(List (Int×Int×Int×Bool×Unit))×Unit)
theorem AZc(F:Nat→Option Edge)(c:Nat)(hc:c≤64):∀ f r,r+f=8 →
  r≤(lkL F c f r).2∧(lkL F c f r).2≤8∧((lkL F c f r).2=r→(lkL F c f r).1=none)∧(r<(lkL F c f r).2→ndL c ((lkL F c f r).2-1)<c∧(lkL F c f r).1=F ((lkL F c f r).2-1))∧((lkL F c f r).1=none→¬ ndL c (lkL F c f r).2<c):=by
 intro f
 induction f with
 |zero=>
  intro r hr
  obtain rfl:r=8:=by omega
  refine⟨Aez _,Aez _,fun _=>rfl,fun q => ?_,fun _=>AdF hc⟩
  unfold lkL at q
  omega
 |succ f ih=>
  intro r hr
  rw[lkL]
  by_cases hn:ndL c r<c
  ·rw[Ae6 hn]
   cases hF:F r with
   |some e=>
    simp only
    refine⟨by omega,by omega,fun q=>by omega,fun _=>⟨hn,?_⟩,fun q=>by cases q⟩
    rw[AhJ,hF]
   |none=>
    simp only
    obtain⟨i1,i2,i3,i4,i5⟩:=ih (r+1) (by omega)
    refine⟨by omega,i2,fun q=>by omega,fun q => ?_,i5⟩
    by_cases hh:(lkL F c f (r+1)).2=r+1
    ·rw[i3 hh,hh,AhJ]
     exact⟨hn,hF.symm⟩
    ·exact i4 (by omega)
  ·rw[Ae3 hn]
   refine⟨Aez _,by omega,fun _=>rfl,fun q=>by omega,fun _=>hn⟩
section
variable {N:Nat} {ts:List Tie} {v k:Int} {tks:List Int} {ofm:List (Int×Int)} {outm:RM}
theorem Aao{L:List Edge}{S:List Int}{a:Nat}{e:Edge}(h:e∈atL L (S.take a)):e∈atL L S:=by
 unfold atL at *
 rw[AfU]at *
 refine⟨h.1,?_⟩
 have:=h.2
 rw[Afw,Af9,Af9]at *
 exact this.imp Age Age
theorem Adx(c r:Nat):ndL c r≤c:=by
 unfold ndL
 split
 ·omega
 ·exact Nat.min_le_left _ _
theorem AbW{x:Int}(hx:x∈stL N ts k tks):∃ e,e∈atL (CA ts k) (stL N ts k tks):=by
 have hx':=hx
 unfold stL Gf at hx'
 rw[AfU,Aet,AgX]at hx'
 obtain⟨_,_,e,he,ht⟩:=hx'
 unfold Dw at ht
 rw[Af9]at ht
 refine⟨e,AfU.2 ⟨he,?_⟩⟩
 rw[Afw,Af9,Af9]
 rcases ht with rfl|rfl
 ·exact .inl hx
 ·exact .inr hx
theorem AQO(hg:RG2 N ts)(h:TR N ts v k tks ofm outm)(hN:N≤12):
  (Ei N ts k tks).2≤5∧((Ei N ts k tks).1.isSome=decide (0<(ldL ts k tks).length)) ∧
  ((Ei N ts k tks).1=none→atL (CA ts k) ((stL N ts k tks).take (ndL (stL N ts k tks).length (Ei N ts k tks).2))=atL (CA ts k) ((stL N ts k tks).take 100)) ∧
  (∀ e,(Ei N ts k tks).1=some e→e∈ldL ts k tks∧e∈atL (CA ts k) ((stL N ts k tks).take (ndL (stL N ts k tks).length (Ei N ts k tks).2))) ∧
  (((Ei N ts k tks).2=0)↔ndL (stL N ts k tks).length (Ei N ts k tks).2=0)∧(((Ei N ts k tks).2=0)↔(atL (CA ts k) ((stL N ts k tks).take 100)).length=0) ∧
  ((Ei N ts k tks).2≠0→2 ^ ((Ei N ts k tks).2-1)<2*ndL (stL N ts k tks).length (Ei N ts k tks).2∧ndL (stL N ts k tks).length (Ei N ts k tks).2≤2 ^ ((Ei N ts k tks).2-1)):=by
 have hc:=AdC hg h
 obtain⟨_,s1,s2,s3,s4⟩:=AZc (AAj N ts k tks) (stL N ts k tks).length (by omega) 8 0 rfl
 have hst:=Aan (tks:=tks) (k:=k) hg
 have h100:atL (CA ts k) ((stL N ts k tks).take 100)=atL (CA ts k) (stL N ts k tks):=by rw[Afg (by omega)]
 have hall:∀ R,¬ ndL (stL N ts k tks).length R<(stL N ts k tks).length→atL (CA ts k) ((stL N ts k tks).take (ndL (stL N ts k tks).length R))=atL (CA ts k) (stL N ts k tks):=fun R q=>by
  have:=Adx (stL N ts k tks).length R
  rw[Afg (by omega)]
 rw[h100]
 unfold Ei
 generalize hx:lkL (AAj N ts k tks) (stL N ts k tks).length 8 0=x at *
 obtain⟨o,R⟩:=x
 simp only at *
 have hpow:∀ {a b:Nat},a≤b→2 ^ a≤2 ^ b:=fun h=>Aha (by omega) h
 have hR5:R≤5:=by
  rcases Afa R 6 with q|q
  ·omega
  ·have:=(s3 (by omega)).1
   unfold ndL at this
   rw[Ae3 (by omega)]at this
   have:=hpow (show 4≤R-1-1 by omega)
   omega
 have hR0:R=0→(stL N ts k tks).length=0:=fun q=>by
  subst q
  have:=s4 (s2 rfl)
  unfold ndL at this
  simp only[AfS]at this
  omega
 have hR1:R≠0→0<(stL N ts k tks).length:=fun q=>by
  have:=(s3 (by omega)).1
  omega
 have hnd:R≠0→ndL (stL N ts k tks).length R=min (stL N ts k tks).length (2 ^ (R-1)):=fun q=>by unfold ndL;rw[Ae3 q]
 have hfl:∀ e,AAj N ts k tks (R-1)=some e→e∈ldL ts k tks∧e∈atL (CA ts k) ((stL N ts k tks).take (2 ^ (R-1))):=fun e q=>by
  unfold AAj at q
  have m:=List.mem_of_find?_eq_some q
  have p:=List.find?_some q
  refine⟨?_,m⟩
  unfold ldL
  rw[← hst,AfU]
  exact⟨Aao m,p⟩
 refine⟨hR5,?_,fun q=>hall R (s4 q),?_,?_,?_,?_⟩
 ·cases o with
  |some e=>
   have hR:R≠0:=fun q=>by have:=s2 q;cases this
   obtain⟨m,_⟩:=hfl e (s3 (by omega)).2.symm
   rw[Aeq (List.length_pos_of_mem m)]
   rfl
  |none=>
   have hn:=s4 rfl
   have:ldL ts k tks=[]:=by
    unfold ldL
    rw[← hst]
    by_cases hR:R=0
    ·have:=AfA (hR0 hR)
     rw[this,atL]
     simp
    ·have e1:=(s3 (by omega)).2
     have e2:=hnd hR
     unfold AAj at e1
     rw[Afg (by omega)]at e1
     rw[List.filter_eq_nil_iff]
     intro y hy hh
     exact absurd hh (by simpa using List.find?_eq_none.1 e1.symm y hy)
   rw[this]
   rfl
 ·intro e he
  subst he
  have hR:R≠0:=fun q=>by have:=s2 q;cases this
  obtain⟨m1,m2⟩:=hfl e (s3 (by omega)).2.symm
  refine⟨m1,?_⟩
  rw[hnd hR,Nat.min_comm,← AhU]
  exact m2
 ·constructor
  ·intro q
   subst q
   rfl
  ·intro q
   apply Afl
   intro hR
   have:=hnd hR
   have:=hR1 hR
   have:=hpow (Ahc (R-1))
   omega
 ·constructor
  ·intro q
   rw[AfA (hR0 q),atL]
   simp
  ·intro q
   apply Afl
   intro hR
   obtain⟨x,hx⟩:=List.exists_mem_of_length_pos (hR1 hR)
   obtain⟨e,he⟩:=AbW hx
   have:=List.length_pos_of_mem he
   omega
 ·intro hR
  have e2:=hnd hR
  have e3:=hR1 hR
  refine⟨?_,by omega⟩
  have e4:=(s3 (by omega)).1
  by_cases hR2:R=1
  ·subst hR2
   simp only[Aga,Nat.pow_zero]at *
   omega
  ·unfold ndL at e4
   rw[Ae3 (by omega)]at e4
   have:2 ^ (R-1)=2*2 ^ (R-1-1):=by
    obtain⟨q,rfl⟩:∃ q,R=q+2:=⟨R-2,by omega⟩
    show 2 ^ (q+1)=2*2 ^ q
    rw[Nat.pow_succ]
    omega
   have hB:0<2 ^ (R-1-1):=Nat.pow_pos (by omega)
   clear hfl hpow s3 hnd hx hall
   generalize 2 ^ (R-1-1)=B at *
   generalize 2 ^ (R-1)=A at *
   generalize ndL (stL N ts k tks).length R=nd at *
   omega
end
noncomputable def isE(u w:Int)(x:Edge):Bool:=ieq x.1 u&&(ieq x.2.1 w&&true)
theorem ASq(P:Edge→Bool):∀ (l:List Edge) (b:Bool),l.foldl (fun b x=>b||P x) b=(b||l.any P):=by
 intro l
 induction l with
 |nil=>intro b;simp
 |cons x l ih=>intro b;rw[Afj,ih,Ahv,Bool.or_assoc]
theorem VT(f:Bool)(u w r m:Int)(l last all:List Edge)(b:Bool)(hs:l.length≤400):
  AU Bi many (f,u,w,r,m,l,last,all,b,(0:Int),())=some (.inl (f,u,w,r,m,last,all,b||l.any (isE u w),())):=by
 have e:=DO (step:=Bi) (fun i (b:Bool)=>(f,u,w,r,m,l,last,all,b,(i:Int),())) l (fun x b=>.inl (b||isE u w x)) (fun b=>.inl (f,u,w,r,m,last,all,b,())) (fun _ _=>True) (by omega)
  (fun i x b hi hx _=>by
   refine⟨fun m' h' => ?_,fun r h'=>(by cases h')⟩
   cases h'
   refine⟨?_,trivial⟩
   unfold Bi
   dsimp only
   rw[AL,AN,Aeq hi]
   simp only[Aj hx,TJ hx]
   rw[AP (by omega)]
   cases b<;>rfl)
  (fun b _=>by unfold Bi;dsimp only;rw[AL,AN,Aeo (by omega)]) b trivial
 have e':AU Bi many (f,u,w,r,m,l,last,all,b,(0:Int),())=_:=e
 rw[e',BZ (fun(x:Edge) (b:Bool)=>b||isE u w x),ASq]
theorem VS(f:Bool)(u w r m:Int)(l all:List Edge)(c b:Bool)(hs:l.length≤400):
  AU Bh many (f,u,w,r,m,l,all,c,b,(0:Int),())=some (.inl (f,u,w,r,m,all,c,b||l.any (isE u w),())):=by
 have e:=DO (step:=Bh) (fun i (b:Bool)=>(f,u,w,r,m,l,all,c,b,(i:Int),())) l (fun x b=>.inl (b||isE u w x)) (fun b=>.inl (f,u,w,r,m,all,c,b,())) (fun _ _=>True) (by omega)
  (fun i x b hi hx _=>by
   refine⟨fun m' h' => ?_,fun r h'=>(by cases h')⟩
   cases h'
   refine⟨?_,trivial⟩
   unfold Bh
   dsimp only
   rw[AL,AN,Aeq hi]
   simp only[Aj hx,TJ hx]
   rw[AP (by omega)]
   cases b<;>rfl)
  (fun b _=>by unfold Bh;dsimp only;rw[AL,AN,Aeo (by omega)]) b trivial
 have e':AU Bh many (f,u,w,r,m,l,all,c,b,(0:Int),())=_:=e
 rw[e',BZ (fun(x:Edge) (b:Bool)=>b||isE u w x),ASq]
theorem AS3{e:Edge}{l:List Edge}(h:e∈l):l.any (isE e.1 e.2.1)=true:=by
 rw[AgX]
 exact⟨e,h,by unfold isE;rw[CL,CL];rfl⟩
theorem YK(g:GT)(th:List Int){P Q:Prop}(_:P)(_:Q):G3 (g,th,())=some (true,()):=by
 obtain⟨n,ts,⟨⟩⟩:=g
 rw[Ps,IQ]
 simp only[AIR,Ae0]
 rcases AMD n ts with g1|⟨g1,g2,g3⟩
 ·simp only[g1]
 simp only[g1]
 generalize AX th 0 (0:Int)=v
 generalize AX th 1 (0:Int)=k
 rcases AX3 n ts (by omega) v k with⟨e,he,hs,ha⟩|⟨N,tks,ofm,outm,rfl,hg,hv,hs,ht,h⟩
 ·have he':e=1∨e=10:=he.imp id And.left
  simp only[AXy he' hs,AUK he' hs,AQ4 he',AfT,CL,AdG,AL,Ag0,AgB]
  rw[Ao]
  rfl
 ·obtain⟨f1,f2,f3,f4,f5,f6,f7⟩:=AQO hg h (by omega)
  have hl:(ldL ts k tks).length≤400:=by
   have:=Qr hg (k:=k) tks
   have:=AgH (E3 tks) (atL (CA ts k) tks)
   unfold ldL
   omega
  have hnn:∀ r:Nat,((r:Int)).toNat=r:=fun r=>by omega
  have h100:((100:Int)).toNat=100:=rfl
  simp only[AXw hg h hs,AUI hg h hs,CL,Ae0,AN6 hg h hs,AZb,hnn,h100,AL]
  have la:=Qr hg (k:=k) ((stL N ts k tks).take 100)
  have lb:=Qr hg (k:=k) ((stL N ts k tks).take (ndL (stL N ts k tks).length (Ei N ts k tks).2))
  generalize ndL (stL N ts k tks).length (Ei N ts k tks).2=nd at *
  generalize atL (CA ts k) ((stL N ts k tks).take nd)=last at *
  generalize atL (CA ts k) ((stL N ts k tks).take 100)=all at *
  generalize ldL ts k tks=l at *
  generalize Ei N ts k tks=x at *
  obtain⟨o,R⟩:=x
  simp only at *
  have hlen:ilt (0:Int) ((l.length:Nat):Int)=decide (0<l.length):=by rw[Ai];exact Af3.2 (by omega)
  have q1:ieq (R:Int) 0=ieq (nd:Int) 0:=by
   rw[Ao,Ao]
   exact Af3.2 (by omega)
  have q2:ieq (R:Int) 0=ieq ((all.length:Nat):Int) 0:=by
   rw[Ao,Ao]
   exact Af3.2 (by omega)
  have q3:ilt (R:Int) 0=false:=by rw[Ai];exact Aeo (by omega)
  have q4:ilt (5:Int) (R:Int)=false:=by rw[Ai];exact Aeo (by omega)
  have hend:(match(ieq (R:Int) (0:Int))with
   |true=>some (true,())
   |false=>match shl? .i64 (1:Int) (IntKind.wrap .u64 (IntKind.wrap .i64 ((R:Int)-(1:Int))))with
    |none=>none
    |some x45=>match(ilt x45 (IntKind.wrap .i64 ((2:Int)*(nd:Int))))with
     |true=>match shl? .i64 (1:Int) (IntKind.wrap .u64 (IntKind.wrap .i64 ((R:Int)-(1:Int))))with
      |none=>none
      |some x46=>some ((ile (nd:Int) x46),())
     |false=>some (false,()))=some (true,()):=by
   rw[Ao]
   by_cases hR:R=0
   ·rw[Aeq (by omega)]
   ·obtain⟨k1,k2⟩:=f7 hR
    have:2 ^ (R-1)≤2 ^ 5:=Aha (by omega) (by omega)
    rw[Aeo (by omega),BF (by omega),ASP (by omega),ADD (by omega)]
    simp only
    rw[AN,Aeq k1,Ej,Aeq k2]
  rw[f2,hlen]
  simp only[Ag0,Ae0]
  have z0:(Int×Int×Unit)=(Int×Int×Unit):=rfl
  cases o with
  |none=>
   have f2':decide (0<l.length)=false:=f2.symm
   have f3':=f3 rfl
   subst f3'
   simp only[f2',AfT,Ah0,CL,AgB,Ae0,AJq last (by omega),VT _ _ _ _ _ l _ _ _ hl,VS _ _ _ _ _ _ _ _ _ lb,Bool.true_or,q3,q4,q1,q2,Ag0]
   rw[q1]at hend
   have:=q1.symm.trans q2
   simp only[this,Ag0,Ae0]at hend ⊢
   exact hend
  |some e=>
   have f2':decide (0<l.length)=true:=f2.symm
   obtain⟨m1,m2⟩:=f4 e rfl
   simp only[f2',Ae0,AfN,VT _ _ _ _ _ l _ _ _ hl,VS _ _ _ _ _ _ _ _ _ lb,AS3 m1,AS3 m2,Bool.or_true,q3,q4,q1,q2,Ag0]
   rw[q1]at hend
   have:=q1.symm.trans q2
   simp only[this,Ag0,Ae0]at hend ⊢
   exact hend
end Go.Pev.Pl
end
section
namespace Go.Pev
open Go.RowKit
structure AeJ(P:Program)(fn:Func)(T e:TypeId)(n:Nat):Prop where
 body:fn.body=some (.seq (.region 0 #[Bb fn 0 0] false) (.seq (.region 1 #[Bb fn 1 0,Bb fn 1 1,Bb fn 1 2,Bb fn 1 3,Bb fn 1 4,Bb fn 1 5,Bb fn 1 6] false) .ret))
 nt:fn.ntmps=9
 res:fn.results = #[.tmp 2]
 d:(Bb fn 0 0).dst=some 2∧(Bb fn 1 0).dst=some 3∧(Bb fn 1 1).dst=some 4∧(Bb fn 1 2).dst=some 5∧(Bb fn 1 3).dst=some 6∧(Bb fn 1 4).dst=some 7∧(Bb fn 1 5).dst=some 8∧(Bb fn 1 6).dst=some 2
 g:(Bb fn 0 0).guard=none∧(Bb fn 1 0).guard=none∧(Bb fn 1 1).guard=none∧(Bb fn 1 2).guard=none∧(Bb fn 1 3).guard=none∧(Bb fn 1 4).guard=none∧(Bb fn 1 5).guard=none∧(Bb fn 1 6).guard=none
 o00:(Bb fn 0 0).op = .assign (.const (.slice none 0 0))
 o10:(Bb fn 1 0).op = .move (.tmp 0)
 o11:(Bb fn 1 1).op = .move (.tmp 0)
 o12:(Bb fn 1 2).op = .call { callee:=.builtin .len,args:=#[.tmp 4],argTypes:=#[T] }
 o13:(Bb fn 1 3).op = .move (.tmp 0)
 o14:(Bb fn 1 4).op = .call { callee:=.builtin .len,args:=#[.tmp 6],argTypes:=#[T] }
 o15:(Bb fn 1 5).op = .slice T (.tmp 3) none (some (.tmp 5)) (some (.tmp 7))
 o16:(Bb fn 1 6).op = .assign (.tmp 8)
 sl:P.underlying T=some (.slice e)
 sz:BI P e=some n
section
variable {P:Program} {g:FuncId} {fn:Func} {T e:TypeId} {n:Nat}
end
end Go.Pev
end
section
namespace Go.Pev
open Go.Proofs
noncomputable section
abbrev AAE:Hints:={ loop:=fun n=>match n with|0=>Ae 0 26 AEH AEG EV|_=>fun _ _ _=>none,fp:=fun n=>match n with|6=>[[],[],[],[],[],[],[],[],[]]|_=>[] }
theorem AHQ:∀ v,EV v=roundOf Tryz.prog Env.none AAE 1 0 26 (AB Tryz.f26 0) AEH AEG v:=by
 rintro⟨a0,a1,a2,⟨⟩⟩
 kernel_rfl
theorem AV1:AD (AB Tryz.f26 0) 1=[]:=by kernel_rfl
theorem AV2:Ad Tryz.prog 0 (.loop (AB Tryz.f26 0)) (AAE.loop 0):=AY Env.AGz (AHQ) (AA AV1 trivial)
theorem AQc:∀ v,QK v=AQ 0 Tryz.prog Env.none AAE Tryz.f26 AAD AAC AAB v:=by
 rintro⟨a0,a1,⟨⟩⟩
 kernel_rfl
theorem AZf:AD (AT Tryz.f26) 0=[(0,AB Tryz.f26 0)]:=by kernel_rfl
theorem ALo:AR Tryz.prog 26 (AF 0 2 AAD AAC AAB Km):=AI Env.AGz Tryz.func26 (by kernel_rfl) (by kernel_rfl) rfl (fun v=>(AEI v).trans (AQc v)) (AA AZf ⟨AV2,trivial⟩)
def AB5:Env:=Env.none.ext 26 true true (AF 0 2 AAD AAC AAB Km)
theorem WE:Ab Tryz.prog AB5:=Env.Ak Env.AGz ALo (fun _=>AO rfl rfl) (fun _=>AJ rfl rfl)
abbrev AXQ:Hints:={  }
theorem ANg:∀ v,Pe v=AQ 0 Tryz.prog AB5 AXQ Tryz.f109 Xo Xn Xm v:=by
 rintro⟨a0,⟨⟩⟩
 kernel_rfl
theorem AXP:AD (AT Tryz.f109) 0=[]:=by kernel_rfl
theorem AI5:AR Tryz.prog 109 (AF 0 1 Xo Xn Xm Lp):=AI WE Tryz.func109 (by kernel_rfl) (by kernel_rfl) rfl (fun v=>(ADH v).trans (ANg v)) (AA AXP trivial)
def ABp:Env:=AB5.ext 109 true true (AF 0 1 Xo Xn Xm Lp)
theorem Vu:Ab Tryz.prog ABp:=Env.Ak WE AI5 (fun _=>AO rfl rfl) (fun _=>AJ rfl rfl)
abbrev AeO:Hints:={  }
theorem AbN:∀ v,AR9 v=AQ 0 Tryz.prog ABp AeO Tryz.f85 AXk AXj AXi v:=by
 rintro⟨a0,a1,⟨⟩⟩
 kernel_rfl
theorem AeN:AD (AT Tryz.f85) 0=[]:=by kernel_rfl
theorem AXh:AR Tryz.prog 85 (AF 0 2 AXk AXj AXi tin):=AI Vu Tryz.func85 (by kernel_rfl) (by kernel_rfl) rfl (fun v=>(AXl v).trans (AbN v)) (AA AeN trivial)
def Aa2:Env:=ABp.ext 85 true true (AF 0 2 AXk AXj AXi tin)
theorem ANI:Ab Tryz.prog Aa2:=Env.Ak Vu AXh (fun _=>AO rfl rfl) (fun _=>AJ rfl rfl)
abbrev AdW:Hints:={  }
theorem AXp:∀ v,AFb v=AQ 0 Tryz.prog Aa2 AdW Tryz.f153 ANw ANv ANu v:=by
 rintro⟨a0,a1,a2,⟨⟩⟩
 kernel_rfl
theorem AdV:AD (AT Tryz.f153) 0=[]:=by kernel_rfl
theorem AUB:AR Tryz.prog 153 (AF 0 3 ANw ANv ANu AUC):=AI ANI Tryz.func153 (by kernel_rfl) (by kernel_rfl) rfl (fun v=>(ASA v).trans (AXp v)) (AA AdV trivial)
def ARw:Env:=Aa2.ext 153 true true (AF 0 3 ANw ANv ANu AUC)
theorem AEm:Ab Tryz.prog ARw:=Env.Ak ANI AUB (fun _=>AO rfl rfl) (fun _=>AJ rfl rfl)
abbrev AXO:Hints:={ fp:=fun n=>match n with|5=>[[],[],[],[],[],[],[],[],[]]|_=>[] }
theorem ANf:∀ v,Pd v=AQ 0 Tryz.prog ARw AXO Tryz.f132 Xk Xj Xi v:=by
 rintro⟨a0,a1,⟨⟩⟩
 kernel_rfl
theorem AXN:AD (AT Tryz.f132) 0=[]:=by kernel_rfl
theorem AI4:AR Tryz.prog 132 (AF 0 2 Xk Xj Xi Xl):=AI AEm Tryz.func132 (by kernel_rfl) (by kernel_rfl) rfl (fun v=>(ADG v).trans (ANf v)) (AA AXN trivial)
def Qx:Env:=ARw.ext 132 true true (AF 0 2 Xk Xj Xi Xl)
theorem Mt:Ab Tryz.prog Qx:=Env.Ak AEm AI4 (fun _=>AO rfl rfl) (fun _=>AJ rfl rfl)
abbrev AFW:Hints:={ loop:=fun n=>match n with|0=>Ae 0 25 AJG AJF HN|_=>fun _ _ _=>none }
theorem AJE:∀ v,HN v=roundOf Tryz.prog Qx AFW 1 0 25 (AB Tryz.f107 0) AJG AJF v:=by
 rintro⟨a0,a1,a2,a3,a4,⟨⟩⟩
 kernel_rfl
theorem AXf:AD (AB Tryz.f107 0) 1=[]:=by kernel_rfl
theorem AXg:Ad Tryz.prog 0 (.loop (AB Tryz.f107 0)) (AFW.loop 0):=AY Mt (AJE) (AA AXf trivial)
theorem AT9:∀ v,Wy v=AQ 0 Tryz.prog Qx AFW Tryz.f107 AFV AFU AFT v:=by
 rintro⟨a0,⟨⟩⟩
 kernel_rfl
theorem AbK:AD (AT Tryz.f107) 0=[(0,AB Tryz.f107 0)]:=by kernel_rfl
theorem ANq:AR Tryz.prog 107 (AF 0 1 AFV AFU AFT AJI):=AI Mt Tryz.func107 (by kernel_rfl) (by kernel_rfl) rfl (fun v=>(AJH v).trans (AT9 v)) (AA AbK ⟨AXg,trivial⟩)
def XI:Env:=Qx.ext 107 true true (AF 0 1 AFV AFU AFT AJI)
theorem PL:Ab Tryz.prog XI:=Env.Ak Mt ANq (fun _=>AO rfl rfl) (fun _=>AJ rfl rfl)
abbrev AAL:Hints:={ loop:=fun n=>match n with|0=>Ae 0 19 AEL AEK FN|_=>fun _ _ _=>none }
theorem AHR:∀ v,FN v=roundOf Tryz.prog XI AAL 1 0 19 (AB Tryz.f134 0) AEL AEK v:=by
 rintro⟨a0,a1,a2,a3,⟨⟩⟩
 kernel_rfl
theorem AV5:AD (AB Tryz.f134 0) 1=[]:=by kernel_rfl
theorem AV6:Ad Tryz.prog 0 (.loop (AB Tryz.f134 0)) (AAL.loop 0):=AY PL (AHR) (AA AV5 trivial)
theorem AQn:∀ v,QM v=AQ 0 Tryz.prog XI AAL Tryz.f134 AAK AAJ AAI v:=by
 rintro⟨a0,a1,⟨⟩⟩
 kernel_rfl
theorem AZo:AD (AT Tryz.f134) 0=[(0,AB Tryz.f134 0)]:=by kernel_rfl
theorem ALp:AR Tryz.prog 134 (AF 0 2 AAK AAJ AAI Ox):=AI PL Tryz.func134 (by kernel_rfl) (by kernel_rfl) rfl (fun v=>(AEM v).trans (AQn v)) (AA AZo ⟨AV6,trivial⟩)
def AB6:Env:=XI.ext 134 true true (AF 0 2 AAK AAJ AAI Ox)
theorem WG:Ab Tryz.prog AB6:=Env.Ak PL ALp (fun _=>AO rfl rfl) (fun _=>AJ rfl rfl)
abbrev AMg:Hints:={  }
theorem AC3:∀ v,Ir v=AQ 0 Tryz.prog AB6 AMg Tryz.f114 Mj Mi Mh v:=by
 rintro⟨a0,a1,⟨⟩⟩
 kernel_rfl
theorem AMf:AD (AT Tryz.f114) 0=[]:=by kernel_rfl
theorem AA7:AR Tryz.prog 114 (AF 0 2 Mj Mi Mh Fa):=AI WG Tryz.func114 (by kernel_rfl) (by kernel_rfl) rfl (fun v=>(Qk v).trans (AC3 v)) (AA AMf trivial)
def I1:Env:=AB6.ext 114 true true (AF 0 2 Mj Mi Mh Fa)
theorem IF:Ab Tryz.prog I1:=Env.Ak WG AA7 (fun _=>AO rfl rfl) (fun _=>AJ rfl rfl)
abbrev AP6:Hints:={ loop:=fun n=>match n with|0=>Ae 0 25 AS0 ASz Kb|_=>fun _ _ _=>none }
theorem AP2:∀ v,Kb v=roundOf Tryz.prog I1 AP6 1 0 25 (AB Tryz.f110 0) AS0 ASz v:=by
 rintro⟨a0,a1,a2,⟨⟩⟩
 kernel_rfl
theorem AcK:AD (AB Tryz.f110 0) 1=[]:=by kernel_rfl
theorem AcL:Ad Tryz.prog 0 (.loop (AB Tryz.f110 0)) (AP6.loop 0):=AY IF (AP2) (AA AcK trivial)
theorem AZS:∀ v,AG2 v=AQ 0 Tryz.prog I1 AP6 Tryz.f110 AP5 AP4 AP3 v:=by
 rintro⟨a0,⟨⟩⟩
 kernel_rfl
theorem Ad0:AD (AT Tryz.f110) 0=[(0,AB Tryz.f110 0)]:=by kernel_rfl
theorem AVZ:AR Tryz.prog 110 (AF 0 1 AP5 AP4 AP3 AVa):=AI IF Tryz.func110 (by kernel_rfl) (by kernel_rfl) rfl (fun v=>(AS1 v).trans (AZS v)) (AA Ad0 ⟨AcL,trivial⟩)
def AR4:Env:=I1.ext 110 true true (AF 0 1 AP5 AP4 AP3 AVa)
theorem AEu:Ab Tryz.prog AR4:=Env.Ak IF AVZ (fun _=>AO rfl rfl) (fun _=>AJ rfl rfl)
abbrev Ack:Hints:={  }
theorem AWK:∀ v,XA v=AQ 0 Tryz.prog AR4 Ack Tryz.f161 AHh AHg AHf v:=by
 rintro⟨a0,⟨⟩⟩
 kernel_rfl
theorem Acj:AD (AT Tryz.f161) 0=[]:=by kernel_rfl
theorem AQt:AR Tryz.prog 161 (AF 0 2 AHh AHg AHf AMC):=AI AEu Tryz.func161 (by kernel_rfl) (by kernel_rfl) rfl (fun v=>(AMB v).trans (AWK v)) (AA Acj trivial)
def RI:Env:=AR4.ext 161 false true (AF 0 2 AHh AHg AHf AMC)
theorem LQ:Ab Tryz.prog RI:=Env.Ak AEu AQt ((by simp)) (fun _=>AJ rfl rfl)
abbrev J3:Hints:={ loop:=fun n=>match n with|0=>Ae 0 36 ABG ABE ED|1=>Ae 0 36 ABF ABD EC|_=>fun _ _ _=>none }
theorem AC5:∀ v,EC v=roundOf Tryz.prog RI J3 2 0 36 (AB Tryz.f152 1) ABF ABD v:=by
 rintro⟨a0,a1,a2,a3,⟨⟩⟩
 kernel_rfl
theorem ARQ:AD (AB Tryz.f152 1) 2=[]:=by kernel_rfl
theorem ARS:Ad Tryz.prog 0 (.loop (AB Tryz.f152 1)) (J3.loop 1):=AY LQ (AC5) (AA ARQ trivial)
theorem AC6:∀ v,ED v=roundOf Tryz.prog RI J3 1 0 36 (AB Tryz.f152 0) ABG ABE v:=by
 rintro⟨a0,a1,a2,a3,a4,⟨⟩⟩
 kernel_rfl
theorem ARR:AD (AB Tryz.f152 0) 1=[]:=by kernel_rfl
theorem ART:Ad Tryz.prog 0 (.loop (AB Tryz.f152 0)) (J3.loop 0):=AY LQ (AC6) (AA ARR trivial)
theorem AMj:∀ v,NT v=AQ 0 Tryz.prog RI J3 Tryz.f152 TT TS TQ v:=by
 rintro⟨a0,⟨⟩⟩
 kernel_rfl
theorem AWh:AD (AT Tryz.f152) 0=[(0,AB Tryz.f152 0),(1,AB Tryz.f152 1)]:=by kernel_rfl
theorem AH1:AR Tryz.prog 152 (AF 0 1 TT TS TQ Is):=AI LQ Tryz.func152 (by kernel_rfl) (by kernel_rfl) rfl (fun v=>(ABH v).trans (AMj v)) (AA AWh ⟨ART,ARS,trivial⟩)
def T2:Env:=RI.ext 152 true true (AF 0 1 TT TS TQ Is)
theorem RO:Ab Tryz.prog T2:=Env.Ak LQ AH1 (fun _=>AO rfl rfl) (fun _=>AJ rfl rfl)
theorem AUo:Tryz.f96.body.isSome=true:=by kernel_rfl
theorem AUn : (Tryz.f96.name == "runtime.NumGoroutine") = false := by kernel_rfl
theorem AUm:loops (AT Tryz.f96)=0:=by kernel_rfl
def Iz:Env:=T2.ext 96 false false (DC Tryz.prog T2 {} Tryz.f96)
theorem ID:Ab Tryz.prog Iz:=Env.Ak RO (Cs RO Tryz.func96 AUo AUn AUm) (by simp) (by simp)
end
end Go.Pev
end
section
namespace Go.Pev
open Go.Proofs
noncomputable section
abbrev Hr:Hints:={ loop:=fun n=>match n with|0=>Ae 0 19 LX LW B6|_=>fun _ _ _=>none }
theorem O1:∀ v,B6 v=roundOf Tryz.prog Iz Hr 1 0 19 (AB Tryz.f91 0) LX LW v:=by
 rintro⟨a0,a1,a2,⟨⟩⟩
 kernel_rfl
theorem Wa:AD (AB Tryz.f91 0) 1=[]:=by kernel_rfl
theorem Wb:Ad Tryz.prog 0 (.loop (AB Tryz.f91 0)) (Hr.loop 0):=AY ID (O1) (AA Wa trivial)
theorem Sy:∀ v,Em v=AQ 0 Tryz.prog Iz Hr Tryz.f91 Hq Hp Ho v:=by
 rintro⟨a0,⟨⟩⟩
 kernel_rfl
theorem AAW:AD (AT Tryz.f91) 0=[(0,AB Tryz.f91 0)]:=by kernel_rfl
theorem QW:AR Tryz.prog 91 (AF 0 2 Hq Hp Ho Gp):=AI ID Tryz.func91 (by kernel_rfl) (by kernel_rfl) rfl (fun v=>(LY v).trans (Sy v)) (AA AAW ⟨Wb,trivial⟩)
def IE:Env:=Iz.CF 91 1 96 (AF 0 2 Hq Hp Ho Gp)
theorem I0:Ab Tryz.prog IE:=Env.Ax ID QW (AJ rfl rfl)
abbrev Wk:Hints:={  }
theorem Qp:∀ v,D3 v=AQ 0 Tryz.prog IE Wk Tryz.f73 GZ GY GX v:=by
 rintro⟨a0,⟨⟩⟩
 kernel_rfl
theorem Wj:AD (AT Tryz.f73) 0=[]:=by kernel_rfl
theorem PB:AR Tryz.prog 73 (AF 0 2 GZ GY GX Dz):=AI I0 Tryz.func73 (by kernel_rfl) (by kernel_rfl) rfl (fun v=>(J2 v).trans (Qp v)) (AA Wj trivial)
def D4:Env:=IE.CF 73 1 96 (AF 0 2 GZ GY GX Dz)
theorem EH:Ab Tryz.prog D4:=Env.Ax I0 PB (AJ rfl rfl)
abbrev APr:Hints:={ loop:=fun n=>match n with|0=>Ae 0 23 ASt ASs KV|_=>fun _ _ _=>none }
theorem APn:∀ v,KV v=roundOf Tryz.prog D4 APr 1 0 23 (AB Tryz.f97 0) ASt ASs v:=by
 rintro⟨a0,a1,a2,a3,a4,⟨⟩⟩
 kernel_rfl
theorem AcD:AD (AB Tryz.f97 0) 1=[]:=by kernel_rfl
theorem AcE:Ad Tryz.prog 0 (.loop (AB Tryz.f97 0)) (APr.loop 0):=AY EH (APn) (AA AcD trivial)
theorem AZM:∀ v,AGw v=AQ 0 Tryz.prog D4 APr Tryz.f97 APq APp APo v:=by
 rintro⟨a0,⟨⟩⟩
 kernel_rfl
theorem Adt:AD (AT Tryz.f97) 0=[(0,AB Tryz.f97 0)]:=by kernel_rfl
theorem AVQ:AR Tryz.prog 97 (AF 0 1 APq APp APo once):=AI EH Tryz.func97 (by kernel_rfl) (by kernel_rfl) rfl (fun v=>(ASu v).trans (AZM v)) (AA Adt ⟨AcE,trivial⟩)
def AR2:Env:=D4.ext 97 true true (AF 0 1 APq APp APo once)
theorem AEs:Ab Tryz.prog AR2:=Env.Ak EH AVQ (fun _=>AO rfl rfl) (fun _=>AJ rfl rfl)
abbrev AYM:Hints:={  }
theorem AOd:∀ v,Pv v=AQ 0 Tryz.prog AR2 AYM Tryz.f72 Yb Ya YZ v:=by
 rintro⟨a0,⟨⟩⟩
 kernel_rfl
theorem AYL:AD (AT Tryz.f72) 0=[]:=by kernel_rfl
theorem AJr:AR Tryz.prog 72 (AF 0 1 Yb Ya YZ L0):=AI AEs Tryz.func72 (by kernel_rfl) (by kernel_rfl) rfl (fun v=>(ADk v).trans (AOd v)) (AA AYL trivial)
def ABw:Env:=AR2.ext 72 true true (AF 0 1 Yb Ya YZ L0)
theorem Vz:Ab Tryz.prog ABw:=Env.Ak AEs AJr (fun _=>AO rfl rfl) (fun _=>AJ rfl rfl)
abbrev AXM:Hints:={ fp:=fun n=>match n with|1=>[[],[],[],[],[],[],[],[0],[]]|_=>[] }
theorem ANd:∀ v,Pc v=AQ 0 Tryz.prog ABw AXM Tryz.f160 Xh Xg Xf v:=by
 rintro⟨a0,a1,⟨⟩⟩
 kernel_rfl
theorem AXL:AD (AT Tryz.f160) 0=[]:=by kernel_rfl
theorem AI3:AR Tryz.prog 160 (AF 0 2 Xh Xg Xf Rg):=AI Vz Tryz.func160 (by kernel_rfl) (by kernel_rfl) rfl (fun v=>(ADF v).trans (ANd v)) (AA AXL trivial)
def Qw:Env:=ABw.ext 160 true true (AF 0 2 Xh Xg Xf Rg)
theorem Ms:Ab Tryz.prog Qw:=Env.Ak Vz AI3 (fun _=>AO rfl rfl) (fun _=>AJ rfl rfl)
abbrev Yv:Hints:={ loop:=fun n=>match n with|0=>Ae 0 29 ADv ADu EM|_=>fun _ _ _=>none }
theorem AGV:∀ v,EM v=roundOf Tryz.prog Qw Yv 1 0 29 (AB Tryz.f159 0) ADv ADu v:=by
 rintro⟨a0,a1,a2,a3,a4,⟨⟩⟩
 kernel_rfl
theorem AUz:AD (AB Tryz.f159 0) 1=[]:=by kernel_rfl
theorem AU0:Ad Tryz.prog 0 (.loop (AB Tryz.f159 0)) (Yv.loop 0):=AY Ms (AGV) (AA AUz trivial)
theorem AO7:∀ v,P9 v=AQ 0 Tryz.prog Qw Yv Tryz.f159 Yu Yt Ys v:=by
 rintro⟨a0,a1,⟨⟩⟩
 kernel_rfl
theorem AYb:AD (AT Tryz.f159) 0=[(0,AB Tryz.f159 0)]:=by kernel_rfl
theorem AJ6:AR Tryz.prog 159 (AF 0 2 Yu Yt Ys places):=AI Ms Tryz.func159 (by kernel_rfl) (by kernel_rfl) rfl (fun v=>(ADw v).trans (AO7 v)) (AA AYb ⟨AU0,trivial⟩)
def ABz:Env:=Qw.ext 159 true true (AF 0 2 Yu Yt Ys places)
theorem WB:Ab Tryz.prog ABz:=Env.Ak Ms AJ6 (fun _=>AO rfl rfl) (fun _=>AJ rfl rfl)
abbrev Abp:Hints:={  }
theorem AUq:∀ v,W3 v=AQ 0 Tryz.prog ABz Abp Tryz.f151 AGL AGK AGJ v:=by
 rintro⟨a0,a1,⟨⟩⟩
 kernel_rfl
theorem Abo:AD (AT Tryz.f151) 0=[]:=by kernel_rfl
theorem AOj:AR Tryz.prog 151 (AF 0 2 AGL AGK AGJ ADn):=AI WB Tryz.func151 (by kernel_rfl) (by kernel_rfl) rfl (fun v=>(AJ1 v).trans (AUq v)) (AA Abo trivial)
def AIb:Env:=ABz.ext 151 true true (AF 0 2 AGL AGK AGJ ADn)
theorem ABy:Ab Tryz.prog AIb:=Env.Ak WB AOj (fun _=>AO rfl rfl) (fun _=>AJ rfl rfl)
abbrev AYO:Hints:={  }
theorem AOf:∀ v,Pw v=AQ 0 Tryz.prog AIb AYO Tryz.f162 Ye Yd Yc v:=by
 rintro⟨a0,⟨⟩⟩
 kernel_rfl
theorem AYN:AD (AT Tryz.f162) 0=[]:=by kernel_rfl
theorem AJs:AR Tryz.prog 162 (AF 0 1 Ye Yd Yc Yf):=AI ABy Tryz.func162 (by kernel_rfl) (by kernel_rfl) rfl (fun v=>(ADl v).trans (AOf v)) (AA AYN trivial)
def ABx:Env:=AIb.ext 162 true true (AF 0 1 Ye Yd Yc Yf)
theorem WA:Ab Tryz.prog ABx:=Env.Ak ABy AJs (fun _=>AO rfl rfl) (fun _=>AJ rfl rfl)
theorem AT6:Tryz.f113.body.isSome=true:=by kernel_rfl
theorem AT5 : (Tryz.f113.name == "runtime.NumGoroutine") = false := by kernel_rfl
theorem AT4:loops (AT Tryz.f113)=0:=by kernel_rfl
def Iy:Env:=ABx.ext 113 false false (DC Tryz.prog ABx {} Tryz.f113)
theorem IB:Ab Tryz.prog Iy:=Env.Ak WA (Cs WA Tryz.func113 AT6 AT5 AT4) (by simp) (by simp)
abbrev FT:Hints:={ loop:=fun n=>match n with|0=>Ae 1 19 IY IX Bk|_=>fun _ _ _=>none }
theorem MO:∀ v,Bk v=roundOf Tryz.prog Iy FT 1 1 19 (AB Tryz.f112 0) IY IX v:=by
 rintro⟨a0,a1,a2,a3,⟨⟩⟩
 kernel_rfl
theorem QP:AD (AB Tryz.f112 0) 1=[]:=by kernel_rfl
theorem QQ:Ad Tryz.prog 1 (.loop (AB Tryz.f112 0)) (FT.loop 0):=AY IB (MO) (AA QP trivial)
theorem Oz:∀ v,Dl v=AQ 1 Tryz.prog Iy FT Tryz.f112 FQ FP FO v:=by
 rintro⟨a0,a1,⟨⟩⟩
 kernel_rfl
theorem Ss:AD (AT Tryz.f112) 0=[(0,AB Tryz.f112 0)]:=by kernel_rfl
theorem Nl:AR Tryz.prog 112 (AF 1 2 FQ FP FO Ek):=AI IB Tryz.func112 (by kernel_rfl) (by kernel_rfl) rfl (fun v=>(IZ v).trans (Oz v)) (AA Ss ⟨QQ,trivial⟩)
def Fk:Env:=Iy.CF 112 1 113 (AF 1 2 FQ FP FO Ek)
theorem Gg:Ab Tryz.prog Fk:=Env.Ax IB Nl (AJ rfl rfl)
abbrev AXX:Hints:={  }
theorem ANn:∀ v,Pg v=AQ 0 Tryz.prog Fk AXX Tryz.f87 Xy Xx Xw v:=by
 rintro⟨a0,a1,⟨⟩⟩
 kernel_rfl
theorem AXW:AD (AT Tryz.f87) 0=[]:=by kernel_rfl
theorem AJA:AR Tryz.prog 87 (AF 0 2 Xy Xx Xw OI):=AI Gg Tryz.func87 (by kernel_rfl) (by kernel_rfl) rfl (fun v=>(ADP v).trans (ANn v)) (AA AXW trivial)
def ABr:Env:=Fk.ext 87 true true (AF 0 2 Xy Xx Xw OI)
theorem Vw:Ab Tryz.prog ABr:=Env.Ak Gg AJA (fun _=>AO rfl rfl) (fun _=>AJ rfl rfl)
theorem AdA:Tryz.f133.body.isSome=true:=by kernel_rfl
theorem Ac9 : (Tryz.f133.name == "runtime.NumGoroutine") = false := by kernel_rfl
theorem Ac8:loops (AT Tryz.f133)=0:=by kernel_rfl
def Nh:Env:=ABr.ext 133 false false (DC Tryz.prog ABr {} Tryz.f133)
theorem LU:Ab Tryz.prog Nh:=Env.Ak Vw (Cs Vw Tryz.func133 AdA Ac9 Ac8) (by simp) (by simp)
end
end Go.Pev
end
section
namespace Go.Pev
open Go.Proofs
noncomputable section
abbrev AQy:Hints:={ loop:=fun n=>match n with|0=>Ae 0 107 ATM ATL Ii|_=>fun _ _ _=>none,fp:=fun n=>match n with|8=>[[],[],[],[],[],[],[],[],[1000003],[],[],[],[],[],[],[],[],[0],[0],[0],[],[0],[0],[0],[2,26],[],[2,26],[2,26],[],[],[],[],[]]|13=>[[],[0],[0],[0],[2],[],[],[],[0],[0],[0],[6],[],[0],[0],[0],[4],[],[],[]]|3=>[[],[],[],[],[],[],[],[],[11],[],[],[],[8,10,12],[]]|_=>[] }
theorem AQu:∀ v,Ii v=roundOf Tryz.prog Nh AQy 1 0 107 (AB Tryz.f111 0) ATM ATL v:=by
 rintro⟨a0,a1,a2,a3,a4,a5,a6,⟨⟩⟩
 kernel_rfl
theorem Acl:AD (AB Tryz.f111 0) 1=[]:=by kernel_rfl
theorem Acm:Ad Tryz.prog 0 (.loop (AB Tryz.f111 0)) (AQy.loop 0):=AY LU (AQu) (AA Acl trivial)
theorem AaB:∀ v,AHj v=AQ 0 Tryz.prog Nh AQy Tryz.f111 AQx AQw AQv v:=by
 rintro⟨a0,a1,⟨⟩⟩
 kernel_rfl
theorem Ad8:AD (AT Tryz.f111) 0=[(0,AB Tryz.f111 0)]:=by kernel_rfl
theorem AWQ:AR Tryz.prog 111 (AF 0 2 AQx AQw AQv goes):=AI LU Tryz.func111 (by kernel_rfl) (by kernel_rfl) rfl (fun v=>(ATN v).trans (AaB v)) (AA Ad8 ⟨Acm,trivial⟩)
def Tw:Env:=Nh.ext 111 true true (AF 0 2 AQx AQw AQv goes)
theorem J9:Ab Tryz.prog Tw:=Env.Ak LU AWQ (fun _=>AO rfl rfl) (fun _=>AJ rfl rfl)
abbrev HJ:Hints:={ loop:=fun n=>match n with|0=>Ae 0 87 ADN ADK Dc|1=>Ae 0 87 ADM ADJ Db|2=>Ae 0 87 ADL ADI EI|_=>fun _ _ _=>none,fp:=fun n=>match n with|8=>[[],[],[],[],[],[],[],[],[],[],[],[],[],[],[],[],[],[],[],[],[],[],[],[],[0],[0],[],[],[],[]]|_=>[] }
theorem AFL:∀ v,EI v=roundOf Tryz.prog Tw HJ 3 0 87 (AB Tryz.f86 2) ADL ADI v:=by
 rintro⟨a0,a1,a2,⟨⟩⟩
 kernel_rfl
theorem ATw:AD (AB Tryz.f86 2) 3=[]:=by kernel_rfl
theorem ATz:Ad Tryz.prog 0 (.loop (AB Tryz.f86 2)) (HJ.loop 2):=AY J9 (AFL) (AA ATw trivial)
theorem AFM:∀ v,Db v=roundOf Tryz.prog Tw HJ 2 0 87 (AB Tryz.f86 1) ADM ADJ v:=by
 rintro⟨a0,a1,a2,a3,a4,a5,a6,a7,a8,a9,a10,a11,a12,a13,a14,a15,a16,a17,a18,a19,a20,a21,a22,a23,a24,a25,⟨⟩⟩
 kernel_rfl
theorem ATx:AD (AB Tryz.f86 1) 2=[]:=by kernel_rfl
theorem AT0:Ad Tryz.prog 0 (.loop (AB Tryz.f86 1)) (HJ.loop 1):=AY J9 (AFM) (AA ATx trivial)
theorem AFN:∀ v,Dc v=roundOf Tryz.prog Tw HJ 1 0 87 (AB Tryz.f86 0) ADN ADK v:=by
 rintro⟨a0,a1,a2,a3,a4,a5,a6,⟨⟩⟩
 kernel_rfl
theorem ATy:AD (AB Tryz.f86 0) 1=[(1,AB Tryz.f86 1)]:=by kernel_rfl
theorem AT1:Ad Tryz.prog 0 (.loop (AB Tryz.f86 0)) (HJ.loop 0):=AY J9 (AFN) (AA ATy ⟨AT0,trivial⟩)
theorem ANi:∀ v,Pf v=AQ 0 Tryz.prog Tw HJ Tryz.f86 Xu Xt Xs v:=by
 rintro⟨a0,⟨⟩⟩
 kernel_rfl
theorem AXV:AD (AT Tryz.f86) 0=[(0,AB Tryz.f86 0),(2,AB Tryz.f86 2)]:=by kernel_rfl
theorem AI9:AR Tryz.prog 86 (AF 0 1 Xu Xt Xs OH):=AI J9 Tryz.func86 (by kernel_rfl) (by kernel_rfl) rfl (fun v=>(ADO v).trans (ANi v)) (AA AXV ⟨AT1,ATz,trivial⟩)
def ABq:Env:=Tw.ext 86 true true (AF 0 1 Xu Xt Xs OH)
theorem Vv:Ab Tryz.prog ABq:=Env.Ak J9 AI9 (fun _=>AO rfl rfl) (fun _=>AJ rfl rfl)
abbrev Ac4:Hints:={  }
theorem AW3:∀ v,XG v=AQ 0 Tryz.prog ABq Ac4 Tryz.f150 AIN AIM AIL v:=by
 rintro⟨a0,a1,a2,⟨⟩⟩
 kernel_rfl
theorem Ac3:AD (AT Tryz.f150) 0=[]:=by kernel_rfl
theorem ARo:AR Tryz.prog 150 (AF 0 3 AIN AIM AIL asked):=AI Vv Tryz.func150 (by kernel_rfl) (by kernel_rfl) rfl (fun v=>(AM3 v).trans (AW3 v)) (AA Ac3 trivial)
def AIj:Env:=ABq.ext 150 true true (AF 0 3 AIN AIM AIL asked)
theorem ACD:Ab Tryz.prog AIj:=Env.Ak Vv ARo (fun _=>AO rfl rfl) (fun _=>AJ rfl rfl)
abbrev Adz:Hints:={  }
theorem AZQ:∀ v,KZ v=AQ 0 Tryz.prog AIj Adz Tryz.f90 AP0 APz APy v:=by
 rintro⟨a0,⟨⟩⟩
 kernel_rfl
theorem Ady:AD (AT Tryz.f90) 0=[]:=by kernel_rfl
theorem AVW:AR Tryz.prog 90 (AF 0 1 AP0 APz APy AZR):=AI ACD Tryz.func90 (by kernel_rfl) (by kernel_rfl) rfl (fun v=>(KY v).trans (AZQ v)) (AA Ady trivial)
def AR3:Env:=AIj.ext 90 true true (AF 0 1 AP0 APz APy AZR)
theorem AEt:Ab Tryz.prog AR3:=Env.Ak ACD AVW (fun _=>AO rfl rfl) (fun _=>AJ rfl rfl)
abbrev ARV:Hints:={  }
theorem AH4:∀ v,EE v=AQ 0 Tryz.prog AR3 ARV Tryz.f62 PE PD PC v:=by
 rintro⟨a0,a1,⟨⟩⟩
 kernel_rfl
theorem ARU:AD (AT Tryz.f62) 0=[]:=by kernel_rfl
theorem AC7:AR Tryz.prog 62 (AF 0 2 PE PD PC DX):=AI AEt Tryz.func62 (by kernel_rfl) (by kernel_rfl) rfl (fun v=>(GO v).trans (AH4 v)) (AA ARU trivial)
def PU:Env:=AR3.ext 62 true true (AF 0 2 PE PD PC DX)
theorem OB:Ab Tryz.prog PU:=Env.Ak AEt AC7 (fun _=>AO rfl rfl) (fun _=>AJ rfl rfl)
abbrev Aa5:Hints:={ fp:=fun n=>match n with|1=>[[],[],[],[],[],[],[],[]]|_=>[] }
theorem ATn:∀ v,Wt v=AQ 0 Tryz.prog PU Aa5 Tryz.f164 AE4 AE3 AE2 v:=by
 rintro⟨a0,a1,⟨⟩⟩
 kernel_rfl
theorem Aa4:AD (AT Tryz.f164) 0=[]:=by kernel_rfl
theorem ANK:AR Tryz.prog 164 (AF 0 2 AE4 AE3 AE2 BN):=AI OB Tryz.func164 (by kernel_rfl) (by kernel_rfl) rfl (fun v=>(AIn v).trans (ATn v)) (AA Aa4 trivial)
def AIX:Env:=PU.ext 164 true true (AF 0 2 AE4 AE3 AE2 BN)
theorem ABl:Ab Tryz.prog AIX:=Env.Ak OB ANK (fun _=>AO rfl rfl) (fun _=>AJ rfl rfl)
abbrev AcQ:Hints:={  }
theorem AVz:∀ v,W9 v=AQ 0 Tryz.prog AIX AcQ Tryz.f124 AHM AHL AHK v:=by
 rintro⟨a0,⟨⟩⟩
 kernel_rfl
theorem AcP:AD (AT Tryz.f124) 0=[]:=by kernel_rfl
theorem AQT:AR Tryz.prog 124 (AF 0 1 AHM AHL AHK ALl):=AI ABl Tryz.func124 (by kernel_rfl) (by kernel_rfl) rfl (fun v=>(ALk v).trans (AVz v)) (AA AcP trivial)
def AIf:Env:=AIX.ext 124 true true (AF 0 1 AHM AHL AHK ALl)
theorem AB4:Ab Tryz.prog AIf:=Env.Ak ABl AQT (fun _=>AO rfl rfl) (fun _=>AJ rfl rfl)
abbrev AW2:Hints:={  }
theorem AM2:∀ v,NX v=AQ 0 Tryz.prog AIf AW2 Tryz.f89 Te Td Tc v:=by
 rintro⟨a0,⟨⟩⟩
 kernel_rfl
theorem AW1:AD (AT Tryz.f89) 0=[]:=by kernel_rfl
theorem AIK:AR Tryz.prog 89 (AF 0 1 Te Td Tc bitsLen):=AI AB4 Tryz.func89 (by kernel_rfl) (by kernel_rfl) rfl (fun v=>(ABd v).trans (AM2 v)) (AA AW1 trivial)
def T4:Env:=AIf.ext 89 true true (AF 0 1 Te Td Tc bitsLen)
theorem RQ:Ab Tryz.prog T4:=Env.Ak AB4 AIK (fun _=>AO rfl rfl) (fun _=>AJ rfl rfl)
abbrev ATk:Hints:={ fp:=fun n=>match n with|3=>[[],[0],[0],[],[0],[0],[],[],[0],[1]]|2=>[[],[0],[0],[],[0],[0],[],[],[0],[1]]|1=>[[],[0],[0],[],[0],[0],[],[],[0],[1]]|_=>[] }
theorem AIl:∀ v,M6 v=AQ 1 Tryz.prog T4 ATk Tryz.f137 RX RW RV v:=by
 rintro⟨a0,⟨⟩⟩
 kernel_rfl
theorem ATj:AD (AT Tryz.f137) 0=[]:=by kernel_rfl
theorem AE0:AR Tryz.prog 137 (AF 1 1 RX RW RV xorNext):=AI RQ Tryz.func137 (by kernel_rfl) (by kernel_rfl) rfl (fun v=>(XO v).trans (AIl v)) (AA ATj trivial)
def Tl:Env:=T4.ext 137 false true (AF 1 1 RX RW RV xorNext)
theorem Qu:Ab Tryz.prog Tl:=Env.Ak RQ AE0 ((by simp)) (fun _=>AJ rfl rfl)
abbrev AVV:Hints:={  }
theorem ALP:∀ v,NK v=AQ 0 Tryz.prog Tl AVV Tryz.f136 SQ SO SN v:=by
 rintro⟨a0,⟨⟩⟩
 kernel_rfl
theorem AVU:AD (AT Tryz.f136) 0=[]:=by kernel_rfl
theorem AG0:AR Tryz.prog 136 (AF 0 1 SQ SO SN QG):=AI Qu Tryz.func136 (by kernel_rfl) (by kernel_rfl) rfl (fun v=>(Zs v).trans (ALP v)) (AA AVU trivial)
def J6:Env:=Tl.ext 136 true true (AF 0 1 SQ SO SN QG)
theorem Gx:Ab Tryz.prog J6:=Env.Ak Qu AG0 (fun _=>AO rfl rfl) (fun _=>AJ rfl rfl)
abbrev AAF:Hints:={ loop:=fun n=>match n with|0=>Ae 1 53 AS9 AS7 AS5|1=>Ae 1 53 AS8 AS6 AS4|_=>fun _ _ _=>none,fp:=fun n=>match n with|4=>[[],[],[],[],[],[],[],[0],[0],[],[],[],[0],[0],[],[],[]]|6=>[[],[],[],[],[],[],[],[],[0],[0],[],[],[0],[0],[0],[1],[0],[1]]|_=>[] }
theorem AQd:∀ v,AS4 v=roundOf Tryz.prog J6 AAF 2 1 53 (AB Tryz.f166 1) AS8 AS6 v:=by
 rintro⟨a0,a1,a2,a3,a4,⟨⟩⟩
 kernel_rfl
theorem AcR:AD (AB Tryz.f166 1) 2=[]:=by kernel_rfl
theorem AcT:Ad Tryz.prog 1 (.loop (AB Tryz.f166 1)) (AAF.loop 1):=AY Gx (AQd) (AA AcR trivial)
theorem AQe:∀ v,AS5 v=roundOf Tryz.prog J6 AAF 1 1 53 (AB Tryz.f166 0) AS9 AS7 v:=by
 rintro⟨a0,a1,a2,a3,⟨⟩⟩
 kernel_rfl
theorem AcS:AD (AB Tryz.f166 0) 1=[(1,AB Tryz.f166 1)]:=by kernel_rfl
theorem AcU:Ad Tryz.prog 1 (.loop (AB Tryz.f166 0)) (AAF.loop 0):=AY Gx (AQe) (AA AcS ⟨AcT,trivial⟩)
theorem AZh:∀ v,AZi v=AQ 1 Tryz.prog J6 AAF Tryz.f166 AQh AQg AQf v:=by
 rintro⟨a0,a1,a2,⟨⟩⟩
 kernel_rfl
theorem Ad4:AD (AT Tryz.f166) 0=[(0,AB Tryz.f166 0)]:=by kernel_rfl
theorem AV3:AR Tryz.prog 166 (AF 1 4 AQh AQg AQf Ad5):=AI Gx Tryz.func166 (by kernel_rfl) (by kernel_rfl) rfl (fun v=>(AcV v).trans (AZh v)) (AA Ad4 ⟨AcU,trivial⟩)
def AIg:Env:=J6.CF 166 3 164 (AF 1 4 AQh AQg AQf Ad5)
theorem Tu:Ab Tryz.prog AIg:=Env.Ax Gx AV3 (AJ rfl rfl)
abbrev AF1:Hints:={ loop:=fun n=>match n with|0=>Ae 1 82 AJd AJc AJb|_=>fun _ _ _=>none,fp:=fun n=>match n with|6=>[[],[],[],[],[],[],[],[],[],[],[],[],[0],[0],[],[],[],[],[0],[0],[0],[1],[0],[1]]|5=>[[],[],[],[],[],[0],[0],[],[],[],[],[0],[0],[],[],[]]|3=>[[],[],[],[],[],[],[],[],[],[],[0],[0],[],[],[],[],[],[0],[0],[],[],[]]|_=>[] }
theorem AJa:∀ v,AJb v=roundOf Tryz.prog AIg AF1 1 1 82 (AB Tryz.f174 0) AJd AJc v:=by
 rintro⟨a0,a1,a2,a3,⟨⟩⟩
 kernel_rfl
theorem AX4:AD (AB Tryz.f174 0) 1=[]:=by kernel_rfl
theorem AX5:Ad Tryz.prog 1 (.loop (AB Tryz.f174 0)) (AF1.loop 0):=AY Tu (AJa) (AA AX4 trivial)
theorem AUU:∀ v,ASN v=AQ 1 Tryz.prog AIg AF1 Tryz.f174 AF0 AFz AFy v:=by
 rintro⟨a0,a1,a2,a3,⟨⟩⟩
 kernel_rfl
theorem Abd:AD (AT Tryz.f174) 0=[(0,AB Tryz.f174 0)]:=by kernel_rfl
theorem AOO:AR Tryz.prog 174 (AF 1 5 AF0 AFz AFy AX7):=AI Tu Tryz.func174 (by kernel_rfl) (by kernel_rfl) rfl (fun v=>(AX6 v).trans (AUU v)) (AA Abd ⟨AX5,trivial⟩)
def Q3:Env:=AIg.CF 174 4 164 (AF 1 5 AF0 AFz AFy AX7)
theorem LN:Ab Tryz.prog Q3:=Env.Ax Tu AOO (AJ rfl rfl)
end
end Go.Pev
end
section
namespace Go.Pev
open Go.Proofs
noncomputable section
abbrev QY:Hints:={ loop:=fun n=>match n with|0=>Ae 1 60 ALy ALw ALu|1=>Ae 1 60 ALx ALv ALs|_=>fun _ _ _=>none,fp:=fun n=>match n with|10=>[[],[],[],[],[],[],[],[],[],[],[0],[0],[],[],[0],[0],[0],[1],[0],[1]]|_=>[] }
theorem ALr:∀ v,ALs v=roundOf Tryz.prog Q3 QY 2 1 60 (AB Tryz.f167 1) ALx ALv v:=by
 rintro⟨a0,a1,a2,a3,⟨⟩⟩
 kernel_rfl
theorem AZw:AD (AB Tryz.f167 1) 2=[]:=by kernel_rfl
theorem AZy:Ad Tryz.prog 1 (.loop (AB Tryz.f167 1)) (QY.loop 1):=AY LN (ALr) (AA AZw trivial)
theorem ALt:∀ v,ALu v=roundOf Tryz.prog Q3 QY 1 1 60 (AB Tryz.f167 0) ALy ALw v:=by
 rintro⟨a0,a1,a2,a3,a4,⟨⟩⟩
 kernel_rfl
theorem AZx:AD (AB Tryz.f167 0) 1=[]:=by kernel_rfl
theorem AZz:Ad Tryz.prog 1 (.loop (AB Tryz.f167 0)) (QY.loop 0):=AY LN (ALt) (AA AZx trivial)
theorem AWC:∀ v,ATI v=AQ 1 Tryz.prog Q3 QY Tryz.f167 AHZ AHY AHX v:=by
 rintro⟨a0,a1,a2,⟨⟩⟩
 kernel_rfl
theorem Acg:AD (AT Tryz.f167) 0=[(0,AB Tryz.f167 0),(1,AB Tryz.f167 1)]:=by kernel_rfl
theorem AQq:AR Tryz.prog 167 (AF 1 4 AHZ AHY AHX AZ1):=AI LN Tryz.func167 (by kernel_rfl) (by kernel_rfl) rfl (fun v=>(AZ0 v).trans (AWC v)) (AA Acg ⟨AZz,AZy,trivial⟩)
def XK:Env:=Q3.CF 167 3 164 (AF 1 4 AHZ AHY AHX AZ1)
theorem PR:Ab Tryz.prog XK:=Env.Ax LN AQq (AJ rfl rfl)
abbrev ABW:Hints:={ loop:=fun n=>match n with|0=>Ae 1 67 AEb AEa AEZ|_=>fun _ _ _=>none,fp:=fun n=>match n with|10=>[[],[],[],[],[],[],[],[],[],[],[0],[0],[],[],[0],[0],[0],[1],[0],[1]]|_=>[] }
theorem AIH:∀ v,AEZ v=roundOf Tryz.prog XK ABW 1 1 67 (AB Tryz.f168 0) AEb AEa v:=by
 rintro⟨a0,a1,a2,a3,a4,a5,⟨⟩⟩
 kernel_rfl
theorem AWu:AD (AB Tryz.f168 0) 1=[]:=by kernel_rfl
theorem AWv:Ad Tryz.prog 1 (.loop (AB Tryz.f168 0)) (ABW.loop 0):=AY PR (AIH) (AA AWu trivial)
theorem ARg:∀ v,AMy v=AQ 1 Tryz.prog XK ABW Tryz.f168 ABV ABU ABT v:=by
 rintro⟨a0,a1,a2,⟨⟩⟩
 kernel_rfl
theorem Aal:AD (AT Tryz.f168) 0=[(0,AB Tryz.f168 0)]:=by kernel_rfl
theorem AMx:AR Tryz.prog 168 (AF 1 4 ABV ABU ABT ARh):=AI PR Tryz.func168 (by kernel_rfl) (by kernel_rfl) rfl (fun v=>(AWw v).trans (ARg v)) (AA Aal ⟨AWv,trivial⟩)
def ACB:Env:=XK.CF 168 3 164 (AF 1 4 ABV ABU ABT ARh)
theorem WK:Ab Tryz.prog ACB:=Env.Ax PR AMx (AJ rfl rfl)
abbrev AVL:Hints:={ fp:=fun n=>match n with|1=>[[],[],[],[0],[0],[],[],[0],[0],[],[]]|_=>[] }
theorem ALL:∀ v,AD4 v=AQ 2 Tryz.prog ACB AVL Tryz.f177 SF SD SC v:=by
 rintro⟨a0,a1,a2,a3,⟨⟩⟩
 kernel_rfl
theorem AVK:AD (AT Tryz.f177) 0=[]:=by kernel_rfl
theorem AGr:AR Tryz.prog 177 (AF 2 5 SF SD SC AGs):=AI WK Tryz.func177 (by kernel_rfl) (by kernel_rfl) rfl (fun v=>(APk v).trans (ALL v)) (AA AVK trivial)
def To:Env:=ACB.CF 177 4 164 (AF 2 5 SF SD SC AGs)
theorem Q8:Ab Tryz.prog To:=Env.Ax WK AGr (AJ rfl rfl)
abbrev AVc:Hints:={  }
theorem ALU:∀ v,AD7 v=AQ 2 Tryz.prog To AVc Tryz.f176 SV SU SS v:=by
 rintro⟨a0,a1,a2,a3,a4,⟨⟩⟩
 kernel_rfl
theorem AVb:AD (AT Tryz.f176) 0=[]:=by kernel_rfl
theorem AG3:AR Tryz.prog 176 (AF 2 6 SV SU SS AG4):=AI Q8 Tryz.func176 (by kernel_rfl) (by kernel_rfl) rfl (fun v=>(AP8 v).trans (ALU v)) (AA AVb trivial)
def Tq:Env:=To.CF 176 5 164 (AF 2 6 SV SU SS AG4)
theorem RA:Ab Tryz.prog Tq:=Env.Ax Q8 AG3 (AJ rfl rfl)
abbrev AVg:Hints:={  }
theorem ALW:∀ v,AD9 v=AQ 2 Tryz.prog Tq AVg Tryz.f175 Sb Sa SZ v:=by
 rintro⟨a0,a1,a2,⟨⟩⟩
 kernel_rfl
theorem AVf:AD (AT Tryz.f175) 0=[]:=by kernel_rfl
theorem AG7:AR Tryz.prog 175 (AF 2 4 Sb Sa SZ AG8):=AI RA Tryz.func175 (by kernel_rfl) (by kernel_rfl) rfl (fun v=>(AQB v).trans (ALW v)) (AA AVf trivial)
def Ts:Env:=Tq.CF 175 3 164 (AF 2 4 Sb Sa SZ AG8)
theorem RC:Ab Tryz.prog Ts:=Env.Ax RA AG7 (AJ rfl rfl)
abbrev AYd:Hints:={  }
theorem APC:∀ v,AJ8 v=AQ 1 Tryz.prog Ts AYd Tryz.f169 Yy Yx Yw v:=by
 rintro⟨a0,a1,a2,⟨⟩⟩
 kernel_rfl
theorem AYc:AD (AT Tryz.f169) 0=[]:=by kernel_rfl
theorem AJ7:AR Tryz.prog 169 (AF 1 4 Yy Yx Yw APD):=AI RC Tryz.func169 (by kernel_rfl) (by kernel_rfl) rfl (fun v=>(AU1 v).trans (APC v)) (AA AYc trivial)
def Q6:Env:=Ts.CF 169 3 164 (AF 1 4 Yy Yx Yw APD)
theorem Mx:Ab Tryz.prog Q6:=Env.Ax RC AJ7 (AJ rfl rfl)
abbrev AOo:Hints:={ loop:=fun n=>match n with|0=>Ae 1 34 ASZ ASY ASX|_=>fun _ _ _=>none,fp:=fun n=>match n with|3=>[[],[],[],[],[],[],[0],[0],[],[],[0],[0],[0],[1],[0],[1]]|_=>[] }
theorem AOk:∀ v,ASX v=roundOf Tryz.prog Q6 AOo 1 1 34 (AB Tryz.f170 0) ASZ ASY v:=by
 rintro⟨a0,a1,a2,⟨⟩⟩
 kernel_rfl
theorem Abq:AD (AB Tryz.f170 0) 1=[]:=by kernel_rfl
theorem Abr:Ad Tryz.prog 1 (.loop (AB Tryz.f170 0)) (AOo.loop 0):=AY Mx (AOk) (AA Abq trivial)
theorem AYP:∀ v,AYQ v=AQ 1 Tryz.prog Q6 AOo Tryz.f170 AOn AOm AOl v:=by
 rintro⟨a0,a1,a2,⟨⟩⟩
 kernel_rfl
theorem Adh:AD (AT Tryz.f170) 0=[(0,AB Tryz.f170 0)]:=by kernel_rfl
theorem AUr:AR Tryz.prog 170 (AF 1 4 AOn AOm AOl Adi):=AI Mx Tryz.func170 (by kernel_rfl) (by kernel_rfl) rfl (fun v=>(Abs v).trans (AYP v)) (AA Adh ⟨Abr,trivial⟩)
def PO:Env:=Q6.CF 170 3 164 (AF 1 4 AOn AOm AOl Adi)
theorem HD:Ab Tryz.prog PO:=Env.Ax Mx AUr (AJ rfl rfl)
abbrev Cx:Hints:={ loop:=fun n=>match n with|0=>Ae 1 141 UW UR UN|1=>Ae 1 141 UU UQ UM|2=>Ae 1 141 UT UP UL|3=>Ae 1 141 US UO UK|_=>fun _ _ _=>none,fp:=fun n=>match n with|11=>[[],[],[],[],[],[],[],[],[0],[0],[],[],[0],[0],[0],[1],[0],[1]]|5=>[[],[],[],[],[],[],[],[0],[0],[],[],[],[0],[0],[],[],[],[]]|17=>[[],[],[],[],[],[],[],[],[0],[0],[],[],[0],[0],[0],[1],[0],[1]]|16=>[[],[],[],[0],[0],[],[],[],[0],[0],[],[],[]]|23=>[[],[],[],[],[],[],[],[],[0],[0],[],[],[0],[0],[0],[1],[0],[1]]|22=>[[],[],[],[0],[0],[],[],[],[0],[0],[],[],[]]|_=>[] }
theorem ZH:∀ v,UK v=roundOf Tryz.prog PO Cx 4 1 141 (AB Tryz.f171 3) US UO v:=by
 rintro⟨a0,a1,a2,a3,a4,a5,⟨⟩⟩
 kernel_rfl
theorem AKa:AD (AB Tryz.f171 3) 4=[]:=by kernel_rfl
theorem AKe:Ad Tryz.prog 1 (.loop (AB Tryz.f171 3)) (Cx.loop 3):=AY HD (ZH) (AA AKa trivial)
theorem ZI:∀ v,UL v=roundOf Tryz.prog PO Cx 3 1 141 (AB Tryz.f171 2) UT UP v:=by
 rintro⟨a0,a1,a2,a3,a4,a5,⟨⟩⟩
 kernel_rfl
theorem AKb:AD (AB Tryz.f171 2) 3=[]:=by kernel_rfl
theorem AKf:Ad Tryz.prog 1 (.loop (AB Tryz.f171 2)) (Cx.loop 2):=AY HD (ZI) (AA AKb trivial)
theorem ZJ:∀ v,UM v=roundOf Tryz.prog PO Cx 2 1 141 (AB Tryz.f171 1) UU UQ v:=by
 rintro⟨a0,a1,a2,a3,a4,⟨⟩⟩
 kernel_rfl
theorem AKc:AD (AB Tryz.f171 1) 2=[]:=by kernel_rfl
theorem AKg:Ad Tryz.prog 1 (.loop (AB Tryz.f171 1)) (Cx.loop 1):=AY HD (ZJ) (AA AKc trivial)
theorem ZK:∀ v,UN v=roundOf Tryz.prog PO Cx 1 1 141 (AB Tryz.f171 0) UW UR v:=by
 rintro⟨a0,a1,a2,a3,a4,⟨⟩⟩
 kernel_rfl
theorem AKd:AD (AB Tryz.f171 0) 1=[(1,AB Tryz.f171 1),(2,AB Tryz.f171 2),(3,AB Tryz.f171 3)]:=by kernel_rfl
theorem AKh:Ad Tryz.prog 1 (.loop (AB Tryz.f171 0)) (Cx.loop 0):=AY HD (ZK) (AA AKd ⟨AKg,AKf,AKe,trivial⟩)
theorem AGg:∀ v,ZL v=AQ 1 Tryz.prog PO Cx Tryz.f171 Oa OZ OY v:=by
 rintro⟨a0,a1,a2,⟨⟩⟩
 kernel_rfl
theorem APR:AD (AT Tryz.f171) 0=[(0,AB Tryz.f171 0)]:=by kernel_rfl
theorem ACZ:AR Tryz.prog 171 (AF 1 4 Oa OZ OY ZM):=AI HD Tryz.func171 (by kernel_rfl) (by kernel_rfl) rfl (fun v=>(AKi v).trans (AGg v)) (AA APR ⟨AKh,trivial⟩)
def Fi:Env:=PO.CF 171 3 164 (AF 1 4 Oa OZ OY ZM)
theorem D1:Ab Tryz.prog Fi:=Env.Ax HD ACZ (AJ rfl rfl)
abbrev FG:Hints:={ loop:=fun n=>match n with|0=>Ae 1 90 Zc ZZ ZW|1=>Ae 1 90 Zb ZY ZV|2=>Ae 1 90 Za ZX ZU|_=>fun _ _ _=>none,fp:=fun n=>match n with|8=>[[],[],[],[],[],[],[0],[0],[],[],[0],[0],[0],[1],[0],[1]]|3=>[[],[],[],[],[],[],[],[0],[0],[],[],[0],[0],[],[],[],[]]|5=>[[],[],[],[],[],[],[],[0],[0],[],[],[0],[0],[],[],[]]|1=>[[],[],[],[],[],[],[0],[0],[],[],[0],[0],[0],[1],[0],[1]]|_=>[] }
theorem ACe:∀ v,ZU v=roundOf Tryz.prog Fi FG 3 1 90 (AB Tryz.f172 2) Za ZX v:=by
 rintro⟨a0,a1,a2,a3,⟨⟩⟩
 kernel_rfl
theorem APU:AD (AB Tryz.f172 2) 3=[]:=by kernel_rfl
theorem APX:Ad Tryz.prog 1 (.loop (AB Tryz.f172 2)) (FG.loop 2):=AY D1 (ACe) (AA APU trivial)
theorem ACf:∀ v,ZV v=roundOf Tryz.prog Fi FG 2 1 90 (AB Tryz.f172 1) Zb ZY v:=by
 rintro⟨a0,a1,a2,a3,⟨⟩⟩
 kernel_rfl
theorem APV:AD (AB Tryz.f172 1) 2=[]:=by kernel_rfl
theorem APY:Ad Tryz.prog 1 (.loop (AB Tryz.f172 1)) (FG.loop 1):=AY D1 (ACf) (AA APV trivial)
theorem ACg:∀ v,ZW v=roundOf Tryz.prog Fi FG 1 1 90 (AB Tryz.f172 0) Zc ZZ v:=by
 rintro⟨a0,a1,a2,a3,⟨⟩⟩
 kernel_rfl
theorem APW:AD (AB Tryz.f172 0) 1=[(1,AB Tryz.f172 1),(2,AB Tryz.f172 2)]:=by kernel_rfl
theorem APZ:Ad Tryz.prog 1 (.loop (AB Tryz.f172 0)) (FG.loop 0):=AY D1 (ACg) (AA APW ⟨APY,APX,trivial⟩)
theorem AKx:∀ v,ADz v=AQ 1 Tryz.prog Fi FG Tryz.f172 R8 R7 R6 v:=by
 rintro⟨a0,a1,a2,a3,⟨⟩⟩
 kernel_rfl
theorem AVF:AD (AT Tryz.f172) 0=[(0,AB Tryz.f172 0)]:=by kernel_rfl
theorem AGj:AR Tryz.prog 172 (AF 1 5 R8 R7 R6 AGk):=AI D1 Tryz.func172 (by kernel_rfl) (by kernel_rfl) rfl (fun v=>(APa v).trans (AKx v)) (AA AVF ⟨APZ,trivial⟩)
def EY:Env:=Fi.CF 172 4 164 (AF 1 5 R8 R7 R6 AGk)
theorem C8:Ab Tryz.prog EY:=Env.Ax D1 AGj (AJ rfl rfl)
abbrev Ed:Hints:={ loop:=fun n=>match n with|0=>Ae 1 178 AKZ AKU AKP|1=>Ae 1 178 AKY AKT AKN|2=>Ae 1 178 AKX AKS AKL|3=>Ae 1 178 AKW AKR AKJ|4=>Ae 1 178 AKV AKQ AKH|_=>fun _ _ _=>none,fp:=fun n=>match n with|3=>[[],[],[],[],[],[],[],[0],[0],[],[],[0],[0],[],[],[]]|5=>[[],[],[],[],[],[],[],[0],[0],[],[],[0],[0],[],[],[],[]]|18=>[[],[],[],[],[],[],[0],[0],[],[],[0],[0],[0],[1],[0],[1]]|13=>[[],[],[],[],[],[],[],[0],[0],[],[],[0],[0],[],[],[]]|15=>[[],[],[],[],[],[],[],[0],[0],[],[],[0],[0],[],[],[],[]]|21=>[[],[],[],[],[],[],[0],[0],[],[],[0],[0],[0],[1],[0],[1]]|10=>[[],[],[],[],[],[],[0],[0],[],[],[0],[0],[0],[1],[0],[1]]|8=>[[],[],[],[],[],[],[0],[0],[],[],[0],[0],[0],[1],[0],[1]]|1=>[[],[],[],[],[],[],[0],[0],[],[],[0],[0],[0],[1],[0],[1]]|_=>[] }
theorem AKG:∀ v,AKH v=roundOf Tryz.prog EY Ed 5 1 178 (AB Tryz.f173 4) AKV AKQ v:=by
 rintro⟨a0,a1,a2,a3,⟨⟩⟩
 kernel_rfl
theorem AYl:AD (AB Tryz.f173 4) 5=[]:=by kernel_rfl
theorem AYq:Ad Tryz.prog 1 (.loop (AB Tryz.f173 4)) (Ed.loop 4):=AY C8 (AKG) (AA AYl trivial)
theorem AKI:∀ v,AKJ v=roundOf Tryz.prog EY Ed 4 1 178 (AB Tryz.f173 3) AKW AKR v:=by
 rintro⟨a0,a1,a2,a3,⟨⟩⟩
 kernel_rfl
theorem AYm:AD (AB Tryz.f173 3) 4=[]:=by kernel_rfl
theorem AYr:Ad Tryz.prog 1 (.loop (AB Tryz.f173 3)) (Ed.loop 3):=AY C8 (AKI) (AA AYm trivial)
theorem AKK:∀ v,AKL v=roundOf Tryz.prog EY Ed 3 1 178 (AB Tryz.f173 2) AKX AKS v:=by
 rintro⟨a0,a1,a2,a3,⟨⟩⟩
 kernel_rfl
theorem AYn:AD (AB Tryz.f173 2) 3=[(3,AB Tryz.f173 3),(4,AB Tryz.f173 4)]:=by kernel_rfl
theorem AYs:Ad Tryz.prog 1 (.loop (AB Tryz.f173 2)) (Ed.loop 2):=AY C8 (AKK) (AA AYn ⟨AYr,AYq,trivial⟩)
theorem AKM:∀ v,AKN v=roundOf Tryz.prog EY Ed 2 1 178 (AB Tryz.f173 1) AKY AKT v:=by
 rintro⟨a0,a1,a2,a3,⟨⟩⟩
 kernel_rfl
theorem AYo:AD (AB Tryz.f173 1) 2=[]:=by kernel_rfl
theorem AYt:Ad Tryz.prog 1 (.loop (AB Tryz.f173 1)) (Ed.loop 1):=AY C8 (AKM) (AA AYo trivial)
theorem AKO:∀ v,AKP v=roundOf Tryz.prog EY Ed 1 1 178 (AB Tryz.f173 0) AKZ AKU v:=by
 rintro⟨a0,a1,a2,a3,⟨⟩⟩
 kernel_rfl
theorem AYp:AD (AB Tryz.f173 0) 1=[]:=by kernel_rfl
theorem AYu:Ad Tryz.prog 1 (.loop (AB Tryz.f173 0)) (Ed.loop 0):=AY C8 (AKO) (AA AYp trivial)
theorem AVD:∀ v,ASo v=AQ 1 Tryz.prog EY Ed Tryz.f173 AGf AGe AGd v:=by
 rintro⟨a0,a1,a2,a3,⟨⟩⟩
 kernel_rfl
theorem Ab7:AD (AT Tryz.f173) 0=[(0,AB Tryz.f173 0),(1,AB Tryz.f173 1),(2,AB Tryz.f173 2)]:=by kernel_rfl
theorem APQ:AR Tryz.prog 173 (AF 1 5 AGf AGe AGd AYw):=AI C8 Tryz.func173 (by kernel_rfl) (by kernel_rfl) rfl (fun v=>(AYv v).trans (AVD v)) (AA Ab7 ⟨AYu,AYt,AYs,trivial⟩)
def AIc:Env:=EY.CF 173 4 164 (AF 1 5 AGf AGe AGd AYw)
theorem AB1:Ab Tryz.prog AIc:=Env.Ax C8 APQ (AJ rfl rfl)
abbrev APL(self:(List (List Int)×Int×Int×Int×Unit)→Option ((List (List Int)×Unit))):Hints:={ loop:=fun n=>match n with|0=>Ae 1 148 ASk ASj (ASi self)|_=>fun _ _ _=>none,fp:=fun n=>match n with|17=>[[],[],[],[],[],[],[],[0],[0],[],[],[0],[0],[],[],[],[]]|_=>[] }
abbrev AGZ(self:(List (List Int)×Int×Int×Int×Unit)→Option ((List (List Int)×Unit))):Env:=AIc.ext 165 false true (AF 1 5 ZA Y9 Y8 self)
theorem APK(self:(List (List Int)×Int×Int×Int×Unit)→Option ((List (List Int)×Unit))):∀ v,ASi self v=roundOf Tryz.prog (AGZ self) (APL self) 1 1 148 (AB Tryz.f165 0) ASk ASj v:=by
 rintro⟨a0,a1,a2,a3,a4,a5,⟨⟩⟩
 kernel_rfl
theorem Aby:AD (AB Tryz.f165 0) 1=[]:=by kernel_rfl
theorem Abz(self:(List (List Int)×Int×Int×Int×Unit)→Option ((List (List Int)×Unit)))(hE:Ab Tryz.prog (AGZ self)):Ad Tryz.prog 1 (.loop (AB Tryz.f165 0)) ((APL self).loop 0):=AY hE (APK self) (AA Aby trivial)
theorem AYi(self:(List (List Int)×Int×Int×Int×Unit)→Option ((List (List Int)×Unit))):∀ v,Ado self v=AQ 1 Tryz.prog (AGZ self) (APL self) Tryz.f165 ZA Y9 Y8 v:=by
 rintro⟨a0,a1,a2,a3,⟨⟩⟩
 kernel_rfl
theorem Adn:AD (AT Tryz.f165) 0=[(0,AB Tryz.f165 0)]:=by kernel_rfl
theorem APM:∀ n,AR Tryz.prog 165 (AF 1 5 ZA Y9 Y8 (ZB n)):=by
 intro n
 induction n with
 |zero=>exact VL fun _=>rfl
 |succ n ih=>
  have hE:Ab Tryz.prog (AGZ (ZB n)):=Env.Ak AB1 ih ((by simp)) (fun _=>AJ rfl rfl)
  let self:=ZB n
  exact AI hE Tryz.func165 (by kernel_rfl) (by kernel_rfl) rfl (AYi self) (AA Adn ⟨(Abz self hE),trivial⟩)
theorem AVB:AR Tryz.prog 165 (AF 1 5 ZA Y9 Y8 Ab1):=by
 have e:Ab1=ZB 100:=funext Ab0
 rw[e]
 exact APM _
def AR0:Env:=AIc.CF 165 4 164 (AF 1 5 ZA Y9 Y8 Ab1)
theorem AEq:Ab Tryz.prog AR0:=Env.Ax AB1 AVB (AJ rfl rfl)
abbrev AbT:Hints:={  }
theorem AUN:∀ v,ASF v=AQ 1 Tryz.prog AR0 AbT Tryz.f163 AFn AFm AFl v:=by
 rintro⟨a0,⟨⟩⟩
 kernel_rfl
theorem AbS:AD (AT Tryz.f163) 0=[]:=by kernel_rfl
theorem AOB:AR Tryz.prog 163 (AF 1 2 AFn AFm AFl AJT):=AI AEq Tryz.func163 (by kernel_rfl) (by kernel_rfl) rfl (fun v=>(AXz v).trans (AUN v)) (AA AbS trivial)
def Qz:Env:=AR0.CF 163 1 164 (AF 1 2 AFn AFm AFl AJT)
theorem LL:Ab Tryz.prog Qz:=Env.Ax AEq AOB (AJ rfl rfl)
end
end Go.Pev
end
section
namespace Go.Pev
open Go.Proofs
noncomputable section
abbrev PY:Hints:={ loop:=fun n=>match n with|0=>Ae 0 47 AIx AIv HG|1=>Ae 0 47 AIw AIu HF|_=>fun _ _ _=>none }
theorem AIs:∀ v,HF v=roundOf Tryz.prog Qz PY 2 0 47 (AB Tryz.f154 1) AIw AIu v:=by
 rintro⟨a0,a1,a2,a3,a4,a5,a6,⟨⟩⟩
 kernel_rfl
theorem AXF:AD (AB Tryz.f154 1) 2=[]:=by kernel_rfl
theorem AXH:Ad Tryz.prog 0 (.loop (AB Tryz.f154 1)) (PY.loop 1):=AY LL (AIs) (AA AXF trivial)
theorem AIt:∀ v,HG v=roundOf Tryz.prog Qz PY 1 0 47 (AB Tryz.f154 0) AIx AIv v:=by
 rintro⟨a0,a1,a2,a3,a4,a5,a6,a7,a8,⟨⟩⟩
 kernel_rfl
theorem AXG:AD (AB Tryz.f154 0) 1=[]:=by kernel_rfl
theorem AXI:Ad Tryz.prog 0 (.loop (AB Tryz.f154 0)) (PY.loop 0):=AY LL (AIt) (AA AXG trivial)
theorem ATt:∀ v,Wv v=AQ 0 Tryz.prog Qz PY Tryz.f154 AFC AFB AFA v:=by
 rintro⟨a0,a1,a2,⟨⟩⟩
 kernel_rfl
theorem Aa8:AD (AT Tryz.f154) 0=[(0,AB Tryz.f154 0),(1,AB Tryz.f154 1)]:=by kernel_rfl
theorem ANT:AR Tryz.prog 154 (AF 0 3 AFC AFB AFA AIz):=AI LL Tryz.func154 (by kernel_rfl) (by kernel_rfl) rfl (fun v=>(AIy v).trans (ATt v)) (AA Aa8 ⟨AXI,AXH,trivial⟩)
def AIY:Env:=Qz.ext 154 true true (AF 0 3 AFC AFB AFA AIz)
theorem ABn:Ab Tryz.prog AIY:=Env.Ak LL ANT (fun _=>AO rfl rfl) (fun _=>AJ rfl rfl)
abbrev AbM:Hints:={ fp:=fun n=>match n with|9=>[[],[28],[0],[0],[],[],[],[],[],[0],[0],[],[],[],[],[],[28],[28,52,36,62],[64],[]]|4=>[[0],[],[],[0],[],[],[],[]]|_=>[] }
theorem AUA:∀ v,Gj v=AQ 0 Tryz.prog AIY AbM Tryz.f131 AFZ AFY AFX v:=by
 rintro⟨a0,a1,a2,⟨⟩⟩
 kernel_rfl
theorem AbL:AD (AT Tryz.f131) 0=[]:=by kernel_rfl
theorem ANs:AR Tryz.prog 131 (AF 0 3 AFZ AFY AFX Lq):=AI ABn Tryz.func131 (by kernel_rfl) (by kernel_rfl) rfl (fun v=>(HO v).trans (AUA v)) (AA AbL trivial)
def AIZ:Env:=AIY.ext 131 true true (AF 0 3 AFZ AFY AFX Lq)
theorem ABs:Ab Tryz.prog AIZ:=Env.Ak ABn ANs (fun _=>AO rfl rfl) (fun _=>AJ rfl rfl)
theorem AXo:Tryz.f158.body.isSome=true:=by kernel_rfl
theorem AXn : (Tryz.f158.name == "runtime.NumGoroutine") = false := by kernel_rfl
theorem AXm:loops (AT Tryz.f158)=0:=by kernel_rfl
def LJ:Env:=AIZ.ext 158 false false (DC Tryz.prog AIZ {} Tryz.f158)
theorem JX:Ab Tryz.prog LJ:=Env.Ak ABs (Cs ABs Tryz.func158 AXo AXn AXm) (by simp) (by simp)
abbrev FX:Hints:={ loop:=fun n=>match n with|0=>Ae 1 19 Ic Ib Bl|_=>fun _ _ _=>none }
theorem MT:∀ v,Bl v=roundOf Tryz.prog LJ FX 1 1 19 (AB Tryz.f91 0) Ic Ib v:=by
 rintro⟨a0,a1,a2,a3,a4,⟨⟩⟩
 kernel_rfl
theorem QS:AD (AB Tryz.f91 0) 1=[]:=by kernel_rfl
theorem QT:Ad Tryz.prog 1 (.loop (AB Tryz.f91 0)) (FX.loop 0):=AY JX (MT) (AA QS trivial)
theorem O0:∀ v,Dm v=AQ 1 Tryz.prog LJ FX Tryz.f91 FW FV FU v:=by
 rintro⟨a0,a1,a2,⟨⟩⟩
 kernel_rfl
theorem Sv:AD (AT Tryz.f91) 0=[(0,AB Tryz.f91 0)]:=by kernel_rfl
theorem Nm:AR Tryz.prog 91 (AF 1 2 FW FV FU El):=AI JX Tryz.func91 (by kernel_rfl) (by kernel_rfl) rfl (fun v=>(Ie v).trans (O0 v)) (AA Sv ⟨QT,trivial⟩)
def Fm:Env:=LJ.CF 91 1 158 (AF 1 2 FW FV FU El)
theorem Gh:Ab Tryz.prog Fm:=Env.Ax JX Nm (AJ rfl rfl)
abbrev Qm:Hints:={  }
theorem Nn:∀ v,DL v=AQ 1 Tryz.prog Fm Qm Tryz.f73 Eu Et Es v:=by
 rintro⟨a0,a1,a2,⟨⟩⟩
 kernel_rfl
theorem Ql:AD (AT Tryz.f73) 0=[]:=by kernel_rfl
theorem Mk:AR Tryz.prog 73 (AF 1 2 Eu Et Es DD):=AI Gh Tryz.func73 (by kernel_rfl) (by kernel_rfl) rfl (fun v=>(Hy v).trans (Nn v)) (AA Ql trivial)
def E2:Env:=Fm.CF 73 1 158 (AF 1 2 Eu Et Es DD)
theorem GR:Ab Tryz.prog E2:=Env.Ax Gh Mk (AJ rfl rfl)
abbrev AaE:Hints:={  }
theorem AQz:∀ v,Qc v=AQ 0 Tryz.prog E2 AaE Tryz.f148 AAf AAe AAd v:=by
 rintro⟨a0,a1,⟨⟩⟩
 kernel_rfl
theorem AaD:AD (AT Tryz.f148) 0=[]:=by kernel_rfl
theorem AMH:AR Tryz.prog 148 (AF 0 2 AAf AAe AAd O2):=AI GR Tryz.func148 (by kernel_rfl) (by kernel_rfl) rfl (fun v=>(AEQ v).trans (AQz v)) (AA AaD trivial)
def RJ:Env:=E2.ext 148 true true (AF 0 2 AAf AAe AAd O2)
theorem M3:Ab Tryz.prog RJ:=Env.Ak GR AMH (fun _=>AO rfl rfl) (fun _=>AJ rfl rfl)
abbrev ARF:Hints:={ loop:=fun n=>match n with|0=>Ae 0 21 ATU ATT K4|_=>fun _ _ _=>none }
theorem ARB:∀ v,K4 v=roundOf Tryz.prog RJ ARF 1 0 21 (AB Tryz.f149 0) ATU ATT v:=by
 rintro⟨a0,a1,a2,a3,⟨⟩⟩
 kernel_rfl
theorem Acu:AD (AB Tryz.f149 0) 1=[]:=by kernel_rfl
theorem Acv:Ad Tryz.prog 0 (.loop (AB Tryz.f149 0)) (ARF.loop 0):=AY M3 (ARB) (AA Acu trivial)
theorem AaS:∀ v,AHt v=AQ 0 Tryz.prog RJ ARF Tryz.f149 ARE ARD ARC v:=by
 rintro⟨a0,⟨⟩⟩
 kernel_rfl
theorem AeA:AD (AT Tryz.f149) 0=[(0,AB Tryz.f149 0)]:=by kernel_rfl
theorem AWe:AR Tryz.prog 149 (AF 0 1 ARE ARD ARC ends):=AI M3 Tryz.func149 (by kernel_rfl) (by kernel_rfl) rfl (fun v=>(ATV v).trans (AaS v)) (AA AeA ⟨Acv,trivial⟩)
def AIi:Env:=RJ.ext 149 true true (AF 0 1 ARE ARD ARC ends)
theorem Tz:Ab Tryz.prog AIi:=Env.Ak M3 AWe (fun _=>AO rfl rfl) (fun _=>AJ rfl rfl)
abbrev PA:Hints:={ loop:=fun n=>match n with|0=>Ae 0 48 VX VW Bz|_=>fun _ _ _=>none,fp:=fun n=>match n with|1=>[[0],[],[],[4],[]]|_=>[] }
theorem AA0:∀ v,Bz v=roundOf Tryz.prog AIi PA 1 0 48 (AB Tryz.f130 0) VX VW v:=by
 rintro⟨a0,a1,a2,a3,a4,a5,a6,⟨⟩⟩
 kernel_rfl
theorem AMZ:AD (AB Tryz.f130 0) 1=[]:=by kernel_rfl
theorem AMa:Ad Tryz.prog 0 (.loop (AB Tryz.f130 0)) (PA.loop 0):=AY Tz (AA0) (AA AMZ trivial)
theorem AHu:∀ v,Hv v=AQ 0 Tryz.prog AIi PA Tryz.f130 O9 O8 O7 v:=by
 rintro⟨a0,a1,⟨⟩⟩
 kernel_rfl
theorem ARG:AD (AT Tryz.f130) 0=[(0,AB Tryz.f130 0)]:=by kernel_rfl
theorem ACz:AR Tryz.prog 130 (AF 0 3 O9 O8 O7 Qh):=AI Tz Tryz.func130 (by kernel_rfl) (by kernel_rfl) rfl (fun v=>(Md v).trans (AHu v)) (AA ARG ⟨AMa,trivial⟩)
def PT:Env:=AIi.CF 130 2 131 (AF 0 3 O9 O8 O7 Qh)
theorem OA:Ab Tryz.prog PT:=Env.Ax Tz ACz (AJ rfl rfl)
abbrev AaM:Hints:={  }
theorem AQ2:∀ v,MY v=AQ 0 Tryz.prog PT AaM Tryz.f108 AAm AAl AAk v:=by
 rintro⟨a0,a1,⟨⟩⟩
 kernel_rfl
theorem AaL:AD (AT Tryz.f108) 0=[]:=by kernel_rfl
theorem AMM:AR Tryz.prog 108 (AF 0 2 AAm AAl AAk AHm):=AI OA Tryz.func108 (by kernel_rfl) (by kernel_rfl) rfl (fun v=>(S7 v).trans (AQ2 v)) (AA AaL trivial)
def AB8:Env:=PT.ext 108 true true (AF 0 2 AAm AAl AAk AHm)
theorem WH:Ab Tryz.prog AB8:=Env.Ak OA AMM (fun _=>AO rfl rfl) (fun _=>AJ rfl rfl)
abbrev AeY:Hints:={  }
theorem Acp:∀ v,AML v=AQ 0 Tryz.prog AB8 AeY Tryz.f83 AaK AaJ AaI v:=by
 rintro⟨a0,a1,⟨⟩⟩
 kernel_rfl
theorem AeX:AD (AT Tryz.f83) 0=[]:=by kernel_rfl
theorem AaH:AR Tryz.prog 83 (AF 0 2 AaK AaJ AaI fof):=AI WH Tryz.func83 (by kernel_rfl) (by kernel_rfl) rfl (fun v=>(AQ1 v).trans (Acp v)) (AA AeX trivial)
def ATi:Env:=AB8.ext 83 true true (AF 0 2 AaK AaJ AaI fof)
theorem AB7:Ab Tryz.prog ATi:=Env.Ak WH AaH (fun _=>AO rfl rfl) (fun _=>AJ rfl rfl)
abbrev AZK:Hints:={ loop:=fun n=>match n with|0=>Ae 0 18 AZI AZG FI|_=>fun _ _ _=>none }
theorem AVO:∀ v,FI v=roundOf Tryz.prog ATi AZK 1 0 18 (AB Tryz.f61 0) AZI AZG v:=by
 rintro⟨a0,a1,a2,a3,⟨⟩⟩
 kernel_rfl
theorem Adr:AD (AB Tryz.f61 0) 1=[]:=by kernel_rfl
theorem Ads:Ad Tryz.prog 0 (.loop (AB Tryz.f61 0)) (AZK.loop 0):=AY AB7 (AVO) (AA Adr trivial)
theorem AcC:∀ v,AD6 v=AQ 0 Tryz.prog ATi AZK Tryz.f61 AZJ AZH AZF v:=by
 rintro⟨a0,⟨⟩⟩
 kernel_rfl
theorem AeT:AD (AT Tryz.f61) 0=[(0,AB Tryz.f61 0)]:=by kernel_rfl
theorem AZE:AR Tryz.prog 61 (AF 0 1 AZJ AZH AZF orI):=AI AB7 Tryz.func61 (by kernel_rfl) (by kernel_rfl) rfl (fun v=>(AGv v).trans (AcC v)) (AA AeT ⟨Ads,trivial⟩)
def Aa3:Env:=ATi.ext 61 true true (AF 0 1 AZJ AZH AZF orI)
theorem ANJ:Ab Tryz.prog Aa3:=Env.Ak AB7 AZE (fun _=>AO rfl rfl) (fun _=>AJ rfl rfl)
abbrev AZX:Hints:={  }
theorem AQM:∀ v,MM v=AQ 0 Tryz.prog Aa3 AZX Tryz.f104 Z1 Z0 Zz v:=by
 rintro⟨a0,⟨⟩⟩
 kernel_rfl
theorem AZW:AD (AT Tryz.f104) 0=[]:=by kernel_rfl
theorem ALd:AR Tryz.prog 104 (AF 0 1 Z1 Z0 Zz Sh):=AI ANJ Tryz.func104 (by kernel_rfl) (by kernel_rfl) rfl (fun v=>(Sg v).trans (AQM v)) (AA AZW trivial)
def AB3:Env:=Aa3.ext 104 true true (AF 0 1 Z1 Z0 Zz Sh)
theorem WD:Ab Tryz.prog AB3:=Env.Ak ANJ ALd (fun _=>AO rfl rfl) (fun _=>AJ rfl rfl)
end
end Go.Pev
end
section
namespace Go.Pev
open Go.Proofs
noncomputable section
abbrev Ad2:Hints:={  }
theorem AZV:∀ v,AQL v=AQ 0 Tryz.prog AB3 Ad2 Tryz.f105 AQK AQJ AQI v:=by
 rintro⟨a0,⟨⟩⟩
 kernel_rfl
theorem Ad1:AD (AT Tryz.f105) 0=[]:=by kernel_rfl
theorem AVo:AR Tryz.prog 105 (AF 0 1 AQK AQJ AQI AHE):=AI WD Tryz.func105 (by kernel_rfl) (by kernel_rfl) rfl (fun v=>(AcN v).trans (AZV v)) (AA Ad1 trivial)
def AR5:Env:=AB3.ext 105 true true (AF 0 1 AQK AQJ AQI AHE)
theorem AEv:Ab Tryz.prog AR5:=Env.Ak WD AVo (fun _=>AO rfl rfl) (fun _=>AJ rfl rfl)
abbrev AQW:Hints:={ fp:=fun n=>match n with|1=>[[0],[0],[2],[2],[],[0],[0],[2],[2],[],[],[20],[]]|_=>[] }
theorem AHO:∀ v,Kj v=AQ 0 Tryz.prog AR5 AQW Tryz.f106 Oo On Om v:=by
 rintro⟨a0,a1,⟨⟩⟩
 kernel_rfl
theorem AQV:AD (AT Tryz.f106) 0=[]:=by kernel_rfl
theorem ACp:AR Tryz.prog 106 (AF 0 2 Oo On Om Jv):=AI AEv Tryz.func106 (by kernel_rfl) (by kernel_rfl) rfl (fun v=>(VN v).trans (AHO v)) (AA AQV trivial)
def LP:Env:=AR5.ext 106 true true (AF 0 2 Oo On Om Jv)
theorem JY:Ab Tryz.prog LP:=Env.Ak AEv ACp (fun _=>AO rfl rfl) (fun _=>AJ rfl rfl)
abbrev Zy:Hints:={ loop:=fun n=>match n with|0=>Ae 0 33 AEC AEB Cn|_=>fun _ _ _=>none }
theorem AHD:∀ v,Cn v=roundOf Tryz.prog LP Zy 1 0 33 (AB Tryz.f84 0) AEC AEB v:=by
 rintro⟨a0,a1,a2,a3,a4,⟨⟩⟩
 kernel_rfl
theorem AVm:AD (AB Tryz.f84 0) 1=[]:=by kernel_rfl
theorem AVn:Ad Tryz.prog 0 (.loop (AB Tryz.f84 0)) (Zy.loop 0):=AY JY (AHD) (AA AVm trivial)
theorem AQH:∀ v,ML v=AQ 0 Tryz.prog LP Zy Tryz.f84 Zx Zw Zv v:=by
 rintro⟨a0,a1,⟨⟩⟩
 kernel_rfl
theorem AZU:AD (AT Tryz.f84) 0=[(0,AB Tryz.f84 0)]:=by kernel_rfl
theorem ALZ:AR Tryz.prog 84 (AF 0 2 Zx Zw Zv Oj):=AI JY Tryz.func84 (by kernel_rfl) (by kernel_rfl) rfl (fun v=>(Sf v).trans (AQH v)) (AA AZU ⟨AVn,trivial⟩)
def RE:Env:=LP.ext 84 true true (AF 0 2 Zx Zw Zv Oj)
theorem Mz:Ab Tryz.prog RE:=Env.Ak JY ALZ (fun _=>AO rfl rfl) (fun _=>AJ rfl rfl)
abbrev Z5:Hints:={ loop:=fun n=>match n with|0=>Ae 0 96 AEE AED Dh|_=>fun _ _ _=>none,fp:=fun n=>match n with|7=>[[2],[2],[],[],[2],[2],[2],[2],[],[],[],[2],[2],[0],[0],[],[],[],[2],[2],[],[],[],[2],[2],[],[],[],[],[],[],[],[0],[0],[],[],[],[],[2],[],[],[],[]]|_=>[] }
theorem AHF:∀ v,Dh v=roundOf Tryz.prog RE Z5 1 0 96 (AB Tryz.f82 0) AEE AED v:=by
 rintro⟨a0,a1,a2,a3,a4,a5,⟨⟩⟩
 kernel_rfl
theorem AVp:AD (AB Tryz.f82 0) 1=[]:=by kernel_rfl
theorem AVq:Ad Tryz.prog 0 (.loop (AB Tryz.f82 0)) (Z5.loop 0):=AY Mz (AHF) (AA AVp trivial)
theorem AQN:∀ v,Hh v=AQ 0 Tryz.prog RE Z5 Tryz.f82 Z4 Z3 Z2 v:=by
 rintro⟨a0,⟨⟩⟩
 kernel_rfl
theorem AZY:AD (AT Tryz.f82) 0=[(0,AB Tryz.f82 0)]:=by kernel_rfl
theorem ALe:AR Tryz.prog 82 (AF 0 1 Z4 Z3 Z2 Ke):=AI Mz Tryz.func82 (by kernel_rfl) (by kernel_rfl) rfl (fun v=>(Jt v).trans (AQN v)) (AA AZY ⟨AVq,trivial⟩)
def RH:Env:=RE.ext 82 true true (AF 0 1 Z4 Z3 Z2 Ke)
theorem M0:Ab Tryz.prog RH:=Env.Ak Mz ALe (fun _=>AO rfl rfl) (fun _=>AJ rfl rfl)
abbrev YU:Hints:={ loop:=fun n=>match n with|0=>Ae 0 26 ADi ADh E8|_=>fun _ _ _=>none,fp:=fun n=>match n with|6=>[[],[],[],[],[],[],[],[],[]]|_=>[] }
theorem AGI:∀ v,E8 v=roundOf Tryz.prog RH YU 1 0 26 (AB Tryz.f17 0) ADi ADh v:=by
 rintro⟨a0,a1,a2,⟨⟩⟩
 kernel_rfl
theorem AUi:AD (AB Tryz.f17 0) 1=[]:=by kernel_rfl
theorem AUj:Ad Tryz.prog 0 (.loop (AB Tryz.f17 0)) (YU.loop 0):=AY M0 (AGI) (AA AUi trivial)
theorem AOa:∀ v,Pu v=AQ 0 Tryz.prog RH YU Tryz.f17 YT YS YR v:=by
 rintro⟨a0,a1,⟨⟩⟩
 kernel_rfl
theorem AYJ:AD (AT Tryz.f17) 0=[(0,AB Tryz.f17 0)]:=by kernel_rfl
theorem AJp:AR Tryz.prog 17 (AF 0 2 YT YS YR Ly):=AI M0 Tryz.func17 (by kernel_rfl) (by kernel_rfl) rfl (fun v=>(ADj v).trans (AOa v)) (AA AYJ ⟨AUj,trivial⟩)
def ABv:Env:=RH.ext 17 true true (AF 0 2 YT YS YR Ly)
theorem Vy:Ab Tryz.prog ABv:=Env.Ak M0 AJp (fun _=>AO rfl rfl) (fun _=>AJ rfl rfl)
abbrev AeM:Hints:={  }
theorem AbJ:∀ v,AR7 v=AQ 0 Tryz.prog ABv AeM Tryz.f58 AXc AXb AXa v:=by
 rintro⟨a0,a1,⟨⟩⟩
 kernel_rfl
theorem AeL:AD (AT Tryz.f58) 0=[]:=by kernel_rfl
theorem AXZ:AR Tryz.prog 58 (AF 0 2 AXc AXb AXa tof):=AI Vy Tryz.func58 (by kernel_rfl) (by kernel_rfl) rfl (fun v=>(AXd v).trans (AbJ v)) (AA AeL trivial)
def Aa1:Env:=ABv.ext 58 true true (AF 0 2 AXc AXb AXa tof)
theorem ANH:Ab Tryz.prog Aa1:=Env.Ak Vy AXZ (fun _=>AO rfl rfl) (fun _=>AJ rfl rfl)
abbrev AVv:Hints:={ fp:=fun n=>match n with|3=>[[0],[0],[0],[],[],[12],[],[],[3],[]]|_=>[] }
theorem ALi:∀ v,G7 v=AQ 0 Tryz.prog Aa1 AVv Tryz.f57 So Sn Sm v:=by
 rintro⟨a0,a1,⟨⟩⟩
 kernel_rfl
theorem AVu:AD (AT Tryz.f57) 0=[]:=by kernel_rfl
theorem AHJ:AR Tryz.prog 57 (AF 0 2 So Sn Sm Kh):=AI ANH Tryz.func57 (by kernel_rfl) (by kernel_rfl) rfl (fun v=>(Kg v).trans (ALi v)) (AA AVu trivial)
def AEw:Env:=Aa1.ext 57 true true (AF 0 2 So Sn Sm Kh)
theorem AIe:Ab Tryz.prog AEw:=Env.Ak ANH AHJ (fun _=>AO rfl rfl) (fun _=>AJ rfl rfl)
theorem Aai : (Tryz.f64.name == "runtime.NumGoroutine") = false := by kernel_rfl
theorem AH6:ACE Tryz.prog Tryz.f64 43 3 (.int .i64) where
 body:=by kernel_rfl
 nt:=by kernel_rfl
 res:=by kernel_rfl
 d:=⟨by kernel_rfl,by kernel_rfl,by kernel_rfl,by kernel_rfl,by kernel_rfl,by kernel_rfl,by kernel_rfl,by kernel_rfl⟩
 g:=⟨by kernel_rfl,by kernel_rfl,by kernel_rfl,by kernel_rfl,by kernel_rfl,by kernel_rfl,by kernel_rfl,by kernel_rfl⟩
 o00:=by kernel_rfl
 o10:=by kernel_rfl
 o11:=by kernel_rfl
 o20:=by kernel_rfl
 o30:=by kernel_rfl
 o31:=by kernel_rfl
 o32:=by kernel_rfl
 o33:=by kernel_rfl
 sl:=by kernel_rfl
 z:=by kernel_rfl
 by1:=by kernel_rfl
def ACA:Env:=AEw.ext 64 true true (G9 3 (.int .i64))
theorem WJ:Ab Tryz.prog ACA:=Env.Ak AIe (Aah AH6 Tryz.func64 Aai) (fun _=>La _ _) (fun _=>(La _ _).Aef)
abbrev AbY:Hints:={ fp:=fun n=>match n with|1=>[[0],[0],[2],[2],[],[0],[0],[2],[2],[],[],[20],[]]|_=>[] }
theorem AUS:∀ v,W1 v=AQ 0 Tryz.prog ACA AbY Tryz.f60 AFw AFv AFu v:=by
 rintro⟨a0,a1,⟨⟩⟩
 kernel_rfl
theorem AbX:AD (AT Tryz.f60) 0=[]:=by kernel_rfl
theorem AOH:AR Tryz.prog 60 (AF 0 2 AFw AFv AFu BO):=AI WJ Tryz.func60 (by kernel_rfl) (by kernel_rfl) rfl (fun v=>(AJZ v).trans (AUS v)) (AA AbX trivial)
def Q2:Env:=ACA.ext 60 true true (AF 0 2 AFw AFv AFu BO)
theorem LM:Ab Tryz.prog Q2:=Env.Ak WJ AOH (fun _=>AO rfl rfl) (fun _=>AJ rfl rfl)
abbrev AAH:Hints:={ loop:=fun n=>match n with|0=>Ae 1 53 ATF ATD ATB|1=>Ae 1 53 ATE ATC ATA|_=>fun _ _ _=>none,fp:=fun n=>match n with|4=>[[],[],[],[],[],[],[],[0],[0],[],[],[],[0],[0],[],[],[]]|6=>[[],[],[],[],[],[],[],[],[0],[0],[],[],[0],[0],[0],[1],[0],[1]]|_=>[] }
theorem AQi:∀ v,ATA v=roundOf Tryz.prog Q2 AAH 2 1 53 (AB Tryz.f115 1) ATE ATC v:=by
 rintro⟨a0,a1,a2,a3,a4,⟨⟩⟩
 kernel_rfl
theorem AcY:AD (AB Tryz.f115 1) 2=[]:=by kernel_rfl
theorem Aca:Ad Tryz.prog 1 (.loop (AB Tryz.f115 1)) (AAH.loop 1):=AY LM (AQi) (AA AcY trivial)
theorem AQj:∀ v,ATB v=roundOf Tryz.prog Q2 AAH 1 1 53 (AB Tryz.f115 0) ATF ATD v:=by
 rintro⟨a0,a1,a2,a3,⟨⟩⟩
 kernel_rfl
theorem AcZ:AD (AB Tryz.f115 0) 1=[(1,AB Tryz.f115 1)]:=by kernel_rfl
theorem Acb:Ad Tryz.prog 1 (.loop (AB Tryz.f115 0)) (AAH.loop 0):=AY LM (AQj) (AA AcZ ⟨Aca,trivial⟩)
theorem AZm:∀ v,AZn v=AQ 1 Tryz.prog Q2 AAH Tryz.f115 AQm AQl AQk v:=by
 rintro⟨a0,a1,a2,⟨⟩⟩
 kernel_rfl
theorem Ad6:AD (AT Tryz.f115) 0=[(0,AB Tryz.f115 0)]:=by kernel_rfl
theorem AV4:AR Tryz.prog 115 (AF 1 4 AQm AQl AQk Ad7):=AI LM Tryz.func115 (by kernel_rfl) (by kernel_rfl) rfl (fun v=>(Acd v).trans (AZm v)) (AA Ad6 ⟨Acb,trivial⟩)
def AIh:Env:=Q2.CF 115 3 60 (AF 1 4 AQm AQl AQk Ad7)
theorem Tv:Ab Tryz.prog AIh:=Env.Ax LM AV4 (AJ rfl rfl)
abbrev AF5:Hints:={ loop:=fun n=>match n with|0=>Ae 1 82 AJh AJg AJf|_=>fun _ _ _=>none,fp:=fun n=>match n with|6=>[[],[],[],[],[],[],[],[],[],[],[],[],[0],[0],[],[],[],[],[0],[0],[0],[1],[0],[1]]|5=>[[],[],[],[],[],[0],[0],[],[],[],[],[0],[0],[],[],[]]|3=>[[],[],[],[],[],[],[],[],[],[],[0],[0],[],[],[],[],[],[0],[0],[],[],[]]|_=>[] }
theorem AJe:∀ v,AJf v=roundOf Tryz.prog AIh AF5 1 1 82 (AB Tryz.f135 0) AJh AJg v:=by
 rintro⟨a0,a1,a2,a3,⟨⟩⟩
 kernel_rfl
theorem AX9:AD (AB Tryz.f135 0) 1=[]:=by kernel_rfl
theorem AYA:Ad Tryz.prog 1 (.loop (AB Tryz.f135 0)) (AF5.loop 0):=AY Tv (AJe) (AA AX9 trivial)
theorem AUV:∀ v,ASO v=AQ 1 Tryz.prog AIh AF5 Tryz.f135 AF4 AF3 AF2 v:=by
 rintro⟨a0,a1,a2,a3,⟨⟩⟩
 kernel_rfl
theorem Abe:AD (AT Tryz.f135) 0=[(0,AB Tryz.f135 0)]:=by kernel_rfl
theorem AOQ:AR Tryz.prog 135 (AF 1 5 AF4 AF3 AF2 AYC):=AI Tv Tryz.func135 (by kernel_rfl) (by kernel_rfl) rfl (fun v=>(AYB v).trans (AUV v)) (AA Abe ⟨AYA,trivial⟩)
def Q4:Env:=AIh.CF 135 4 60 (AF 1 5 AF4 AF3 AF2 AYC)
theorem LO:Ab Tryz.prog Q4:=Env.Ax Tv AOQ (AJ rfl rfl)
abbrev Qa:Hints:={ loop:=fun n=>match n with|0=>Ae 1 60 AL8 AL6 AL4|1=>Ae 1 60 AL7 AL5 AL2|_=>fun _ _ _=>none,fp:=fun n=>match n with|10=>[[],[],[],[],[],[],[],[],[],[],[0],[0],[],[],[0],[0],[0],[1],[0],[1]]|_=>[] }
theorem AL1:∀ v,AL2 v=roundOf Tryz.prog Q4 Qa 2 1 60 (AB Tryz.f116 1) AL7 AL5 v:=by
 rintro⟨a0,a1,a2,a3,⟨⟩⟩
 kernel_rfl
theorem AZ3:AD (AB Tryz.f116 1) 2=[]:=by kernel_rfl
theorem AZ5:Ad Tryz.prog 1 (.loop (AB Tryz.f116 1)) (Qa.loop 1):=AY LO (AL1) (AA AZ3 trivial)
theorem AL3:∀ v,AL4 v=roundOf Tryz.prog Q4 Qa 1 1 60 (AB Tryz.f116 0) AL8 AL6 v:=by
 rintro⟨a0,a1,a2,a3,a4,⟨⟩⟩
 kernel_rfl
theorem AZ4:AD (AB Tryz.f116 0) 1=[]:=by kernel_rfl
theorem AZ6:Ad Tryz.prog 1 (.loop (AB Tryz.f116 0)) (Qa.loop 0):=AY LO (AL3) (AA AZ4 trivial)
theorem AWF:∀ v,ATJ v=AQ 1 Tryz.prog Q4 Qa Tryz.f116 AHc AHb AHa v:=by
 rintro⟨a0,a1,a2,⟨⟩⟩
 kernel_rfl
theorem Ach:AD (AT Tryz.f116) 0=[(0,AB Tryz.f116 0),(1,AB Tryz.f116 1)]:=by kernel_rfl
theorem AQr:AR Tryz.prog 116 (AF 1 4 AHc AHb AHa AZ8):=AI LO Tryz.func116 (by kernel_rfl) (by kernel_rfl) rfl (fun v=>(AZ7 v).trans (AWF v)) (AA Ach ⟨AZ6,AZ5,trivial⟩)
def XL:Env:=Q4.CF 116 3 60 (AF 1 4 AHc AHb AHa AZ8)
theorem PS:Ab Tryz.prog XL:=Env.Ax LO AQr (AJ rfl rfl)
end
end Go.Pev
end
