/- A part of the proofs of this seat: AKD T22a T21a T23a T23b T24a PlnC AKE AKF AKG AKH AU24a AU24b AU24c AU24d AU23a AU23b AU23c AU23d AU23e T24b AU24f AU24g AU24h AU24i AU24j AU24k AU24l AU24m AU24n AU21a AU21b ASIa ASIb ASIc ASId ASIe ASIf AU23f AU23g AU23h AU21c BW22v U26i U26j U26k U26l U26m U26n PevClip G26dP1 G26dP2 G26dP3 G26dP4 G26dP5 G26dP6 G26dP7 G26dP8 G26dP9 G26dP10. -/
import Derived.Test.YtfojmhgomdbpfaaGreatPd311f3bd71
import Derived.KernelRfl
import Derived.Test.YtfojmhgomdbpfaaGreatProg
set_option linter.unusedVariables false
set_option linter.unusedSimpArgs false
set_option linter.unusedSectionVars false
set_option maxRecDepth 100000
section
section
namespace Go.Pev.Pl
open Tok
def Cy{α:Type}(P:Nat→Bool):Nat→List α→List α
 |_,[]=>[]
 |i,x::xs=>if P i then Cy P (i+1) xs else x::Cy P (i+1) xs
theorem ATh{α:Type}(P:Nat→Bool):∀ (xs:List α) (s:Nat),(∀ k,s≤k→P k=false)→Cy P s xs=xs:=by
 intro xs
 induction xs with
 |nil=>intro s _;rfl
 |cons x xs ih=>
  intro s h
  rw[Cy,h s (Apj _),ih (s+1) fun k hk=>h k (by omega)]
  rfl
theorem AZF{α:Type}(P:Nat→Bool)(i:Nat):∀ (xs:List α) (s:Nat),s≤i→(∀ k,s≤k→P k=decide (k=i))→Cy P s xs=xs.eraseIdx (i-s):=by
 intro xs
 induction xs with
 |nil=>intro s _ _;rfl
 |cons x xs ih=>
  intro s hs h
  rw[Cy,h s (Apj _)]
  by_cases e:s=i
  ·subst e
   rw[ATh P xs (s+1) fun k hk=>by rw[h k (by omega)];simp;omega]
   simp
  ·rw[ih (s+1) (by omega) fun k hk=>h k (by omega)]
   rw[ApW e,Apg (by simp),show i-s=(i-(s+1))+1 by omega,Ar8]
theorem AEk{α:Type}(P:Nat→Bool)(i j:Nat)(hij:i<j):∀ (xs:List α) (s:Nat),s≤i→(∀ k,s≤k→P k=decide (k=i∨k=j))→Cy P s xs=(xs.eraseIdx (j-s)).eraseIdx (i-s):=by
 intro xs
 induction xs with
 |nil=>intro s _ _;rfl
 |cons x xs ih=>
  intro s hs h
  rw[Cy,h s (Apj _)]
  by_cases e:s=i
  ·subst e
   rw[AZF P j xs (s+1) (by omega) fun k hk=>by rw[h k (by omega)];exact Aqs.2 ⟨fun q=>by omega,fun q=>.inr q⟩]
   rw[ApX (.inl rfl),Apk rfl,show j-s=(j-(s+1))+1 by omega,Ar8,Ark,List.eraseIdx_zero]
   rfl
  ·rw[ih (s+1) (by omega) fun k hk=>h k (by omega)]
   rw[ApW (by omega),Apg (by simp),show j-s=(j-(s+1))+1 by omega,Ar8,show i-s=(i-(s+1))+1 by omega,Ar8]
theorem ATi{α:Type}(P:Nat→Bool):∀ (xs:List α) (acc:List α) (k:Nat),(xs.foldl (fun(a:List α×Nat) x=>(if P a.2 then a.1 else a.1++[x],a.2+1)) (acc,k)).1=acc++Cy P k xs:=by
 intro xs
 induction xs with
 |nil=>intro acc k;simp[Cy]
 |cons x xs ih=>
  intro acc k
  rw[Aqd,ih,Cy]
  cases P k<;>simp
theorem AZG{α:Type}(P:Nat→Bool):∀ (xs:List α) (k:Nat),(Cy P k xs).length≤xs.length∧∀ x∈Cy P k xs,x∈xs:=by
 intro xs
 induction xs with
 |nil=>intro k;simp[Cy]
 |cons x xs ih=>
  intro k
  obtain⟨h1,h2⟩:=ih (k+1)
  rw[Cy]
  split
  ·exact⟨by simp only[Api];omega,fun y hy=>Ap5 _ (h2 y hy)⟩
  ·refine⟨by simp only[Api];omega,fun y hy => ?_⟩
   rcases Ape.1 hy with rfl|hy
   ·simp
   ·exact Ap5 _ (h2 y hy)
theorem AcK(n:Int)(rings:List (List Int))(away:List Int)(come:List (List Int))(hlen:rings.length<1073741824)(ha:away.length<1073741824)(hc:come.length<1073741824)
  (hne:∀ l∈rings,l≠[]) (hce:∀ r∈come,plain r≠[]) :
  ∃ ys,APg ((n,(rings,())),away,come,())=some (n,ys,())∧ys.Perm (Cy (fun k=>decide ((k:Int)∈away)) 0 rings++come.map plain)∧ys.Pairwise (fun a b=>¬ hd b<hd a):=by
 rw[APf,ZT]
 have e:=Es (step:=HT) (fun i (a:List (List Int)×Nat)=>(away,come,n,rings,(0:Int),a.1,rings,AM rings,(i:Int),())) rings
  (fun x a=>.inl (if decide ((a.2:Int)∈away)then a.1 else a.1++[x],a.2+1)) (fun a=>.inl (come,n,rings,(0:Int),a.1,())) (fun i a=>a.2=i∧a.1.length≤i) (by omega)
  (fun i x a hi hx ⟨h1,h2⟩=>by
   refine⟨fun m' h' => ?_,fun r h'=>by cases h'⟩
   cases h'
   subst h1
   rw[HT,AS,AL,ApX hi]
   simp only[AW hx,JG away _ (show away.length<9223372036854775808 by omega)]
   rw[AP (by omega),Bj (by simp only[AS,Api,Apt];omega)]
   by_cases h:(a.2:Int)∈away
   ·simp only[h,Apu,Aph,AqI]
    exact⟨by trivial,by trivial,by omega⟩
   ·simp only[h,AqJ,Ap8]
    exact⟨by trivial,by trivial,by simp;omega⟩)
  (fun a _=>by rw[HT,AS,AL,ApW (by omega)]) ([],0) ⟨rfl,by simp⟩
 have e':AU HT many (away,come,n,rings,(0:Int),[],rings,AM rings,(0:Int),())=_:=e
 rw[e',CP]
 have hdf:(rings.foldl (fun(a:List (List Int)×Nat) x=>(if decide ((a.2:Int)∈away)then a.1 else a.1++[x],a.2+1)) ([],0)).1=Cy (fun k=>decide ((k:Int)∈away)) 0 rings:=by
  have:=ATi (fun k=>decide ((k:Int)∈away)) rings [] 0
  rw[AqK]at this
  exact this
 simp only[hdf]
 obtain⟨g1,g2⟩:=AZG (fun k=>decide ((k:Int)∈away)) rings 0
 generalize Cy (fun k=>decide ((k:Int)∈away)) 0 rings=rest at *
 have f:=Es (step:=HS) (fun i (a:List (List Int))=>(n,rings,(0:Int),a,come,AM come,(i:Int),())) come
  (fun x a=>.inl (a++[plain x])) (fun a=>.inl (n,rings,(0:Int),a,())) (fun i a=>a.length=rest.length+i) (by omega)
  (fun i x a hi hx h1=>by
   refine⟨fun m' h' => ?_,fun r h'=>by cases h'⟩
   cases h'
   rw[HS,AS,AL,ApX hi]
   simp only[AW hx,AWI]
   rw[AP (by omega),Bj (by simp only[AS,Api,Apt];omega)]
   exact⟨rfl,by simp;omega⟩)
  (fun a _=>by rw[HS,AS,AL,ApW (by omega)]) rest rfl
 have f':AU HS many (n,rings,(0:Int),rest,come,AM come,(0:Int),())=_:=f
 rw[f',CP]
 have hfold:∀ (l acc:List (List Int)),l.foldl (fun a x=>a++[plain x]) acc=acc++l.map plain:=by
  intro l
  induction l with
  |nil=>intro acc;simp
  |cons x l ih=>intro acc;rw[Aqd,ih];simp
 simp only[hfold]
 obtain⟨ys,y1,y2,y3⟩:=SL.Jc (rest++come.map plain) (by simp;omega) (fun x hx=>by
  rcases Apc.1 hx with h|h
  ·exact hne x (g2 x h)
  ·obtain⟨r,hr,rfl⟩:=Apx.1 h
   exact hce r hr)
 refine⟨ys,by simp only[y1],y2,y3.imp fun {a b} h => ?_⟩
 simp only[SL.lt,Go.Sort.ltInt,Aqa]at h
 exact h
def Adg(rest:List (List Int))(p:List Int):List (List Int):=rest.take (rest.findIdx fun x => !decide (hd x<hd p))++p::rest.drop (rest.findIdx fun x => !decide (hd x<hd p))
theorem Adf(rest:List (List Int))(p:List Int):(Adg rest p).Perm (p::rest):=by
 rw[Adg]
 refine List.perm_middle.trans ?_
 rw[Aqh]
theorem AmJ{rest:List (List Int)}{p:List Int}(h:rest.Pairwise (fun a b=>hd a<hd b))(hne:∀ x∈rest,hd x≠hd p):(Adg rest p).Pairwise (fun a b=>hd a<hd b):=by
 rw[Adg]
 have hlt:∀ x∈rest.take (rest.findIdx fun x => !decide (hd x<hd p)),hd x<hd p:=by
  intro x hx
  obtain⟨j,hj,e⟩:=Asa.1 hx
  have:=List.not_of_lt_findIdx (p:=fun x => !decide (hd x<hd p)) (xs:=rest) (i:=j) (by omega)
  rw[e]at this
  simpa using this
 have hgt:∀ x∈rest.drop (rest.findIdx fun x => !decide (hd x<hd p)),hd p<hd x:=by
  intro x hx
  by_cases hk:(rest.findIdx fun x => !decide (hd x<hd p))<rest.length
  ·have h0:=List.findIdx_getElem (p:=fun x => !decide (hd x<hd p)) (xs:=rest) (w:=hk)
   rw[AqL hk]at hx
   have h1:¬ hd rest[rest.findIdx fun x => !decide (hd x<hd p)]<hd p:=by simpa using h0
   have h2:=hne _ (ArQ hk)
   rcases Ape.1 hx with rfl|hx
   ·omega
   ·have hpw:(rest.drop (rest.findIdx fun x => !decide (hd x<hd p))).Pairwise (fun a b=>hd a<hd b):=h.sublist (List.drop_sublist _ _)
    rw[AqL hk,Aqk]at hpw
    have:=hpw.1 x hx
    omega
  ·rw[Aq6 (by omega)]at hx
   cases hx
 rw[AsS,Aqk]
 refine⟨h.sublist (List.take_sublist _ _),⟨hgt,h.sublist (List.drop_sublist _ _)⟩,fun a ha b hb => ?_⟩
 rcases Ape.1 hb with rfl|hb
 ·exact hlt a ha
 ·have:=hlt a ha
  have:=hgt b hb
  omega
end Go.Pev.Pl
end
section
namespace Go.Pev.Pl
open Tok
theorem AOt{n u v:Int}(h:okT n (.arc u v)):n≤OX n u v:=by rw[H4 h];exact(Zm h.1 h.2.1).1
def Bt(n:Int)(A B:List Int)(u v:Int):List Int:=u::OX n u v::(B0 B v++OX n v u::(B0 A u).tail)
theorem VM{n u v:Int}{A B:List Int}(hA:TI n A)(hB:TI n B)(hu:u∈A)(hv:v∈B)(iu:In n u)(iv:In n v)(hd:Dis n A B):
  TI n (Bt n A B u v)∧B0 A u=u::(B0 A u).tail∧(∀ t,t<n→(t∈Bt n A B u v↔t∈A∨t∈B))∧u≠v∧okT n (.arc u v):=by
 obtain⟨a,a1,a2,a3⟩:=AUv hA (t:=.ver u) iu hu
 obtain⟨b,b1,b2,b3⟩:=AUv hB (t:=.ver v) iv hv
 have a1':B0 A u=(Tok.ver u::a).map (F5 n):=a1
 have b1':B0 B v=(Tok.ver v::b).map (F5 n):=b1
 have huv:u≠v:=by rintro rfl;exact hd u hu iu.2.2.2 hv
 have ho:okT n (.arc u v):=⟨iu,iv,huv⟩
 have pA:=(DP hu).perm
 have pB:=(DP hv).perm
 have ht:B0 A u=u::(B0 A u).tail:=by rw[a1'];rfl
 have hall:Bt n A B u v=(Tok.ver u :: .arc u v::(.ver v::b ++ .arc v u::a)).map (F5 n):=by
  rw[Bt,a1',b1',H4 ho,H4 (Mh ho)]
  simp[F5]
 refine⟨⟨_,hall,fun t ht => ?_,T.join a2 b2 fun x hx hx2 => ?_⟩,ht,fun t ht2 => ?_,huv,ho⟩
 ·rcases Ape.1 ht with rfl|ht
  ·exact iu
  ·rcases Ape.1 ht with rfl|ht
   ·exact ho
   ·rcases Apc.1 ht with ht|ht
    ·exact b3 t ht
    ·rcases Ape.1 ht with rfl|ht
     ·exact Mh ho
     ·exact a3 t (Ap5 _ ht)
 ·have ix:=a3 _ hx
  have x1:x∈A:=pA.mem_iff.2 (by rw[a1'];exact Apx.2 ⟨_,hx,rfl⟩)
  have x2:x∈B:=pB.mem_iff.2 (by rw[b1'];exact Apx.2 ⟨_,hx2,rfl⟩)
  exact hd x x1 ix.2.2.2 x2
 ·have g1:=AOt ho
  have g2:=AOt (Mh ho)
  have e1:t∈A↔t=u∨t∈(B0 A u).tail:=by rw[pA.mem_iff,ht,Ape,Are]
  rw[Bt,Ape,Ape,Apc,Ape,e1,← pB.mem_iff]
  constructor
  ·rintro (h|h|h|h|h)
   ·exact .inl (.inl h)
   ·omega
   ·exact .inr h
   ·omega
   ·exact .inl (.inr h)
  ·rintro ((h|h)|h)
   ·exact .inl h
   ·exact .inr (.inr (.inr (.inr h)))
   ·exact .inr (.inr (.inl h))
theorem Rv{n:Int}{a b:List (List Int)}(h:a.Perm b)(ha:a.Pairwise (Dis n)):b.Pairwise (Dis n):=(h.pairwise_iff fun {_ _} hh=>hh.symm).1 ha
theorem Anw{n:Int}{rings rest zs:List (List Int)}{A B p:List Int}(h:FR n rings)(hp:rings.Perm (A::B::rest))(hg:RG n p)(hm:∀ t,t<n→(t∈p↔t∈A∨t∈B))(hz:zs.Perm (p::rest))(hu:zs.Pairwise (fun a b=>hd a<hd b)):FR n zs:=by
 have hd0:=Rv hp h.dis
 rw[Aqk,Aqk]at hd0
 obtain⟨h1,h2,h3⟩:=hd0
 refine⟨h.sz,fun l hl => ?_,hu,Rv hz.symm ?_,fun v hv => ?_⟩
 ·rcases Ape.1 (hz.mem_iff.1 hl)with rfl|hl
  ·exact hg
  ·exact h.rg l (hp.mem_iff.2 (by simp[hl]))
 ·rw[Aqk]
  refine⟨fun r hr t ht htn => ?_,h3⟩
  rcases(hm t htn).1 ht with g|g
  ·exact h1 r (by simp[hr]) t g htn
  ·exact h2 r hr t g htn
 ·obtain⟨l,hl,hvl⟩:=h.cov v hv
  have:=hp.mem_iff.1 hl
  simp only[Ape]at this
  rcases this with rfl|rfl|g
  ·exact⟨p,hz.mem_iff.2 (by simp),(hm v hv.2.2.2).2 (.inl hvl)⟩
  ·exact⟨p,hz.mem_iff.2 (by simp),(hm v hv.2.2.2).2 (.inr hvl)⟩
  ·exact⟨l,hz.mem_iff.2 (by simp[g]),hvl⟩
theorem AJx(n:Int)(rings:List (List Int))(u v:Int)(hD:Dom rings):asked ((n,(rings,())),u,v,())=some (if RF n rings then if In n u∧In n v then 0 else 10 else 1,()):=by
 rw[AUm,Zv]
 simp only[AAU n rings hD.1 hD.2,AK4]
 by_cases h:RF n rings
 ·by_cases h1:In n u
  ·by_cases h2:In n v<;>simp[h,h1,h2]
  ·simp[h,h1]
 ·simp[h]
theorem Ami{n:Int}{rings:List (List Int)}{u v:Int}{i j:Nat}{A B:List Int}(h:FR n rings)(iu:In n u)(iv:In n v)(hi:rings[i]? = some A)(hj:rings[j]? = some B)(hu:u∈A)(hv:v∈B)(hij:i≠j):
  ∃ zs rest,AAf ((n,(rings,())),u,v,())=some (n,zs,0,())∧FR n zs∧rings.Perm (A::B::rest)∧zs.Perm (plain (Bt n A B u v)::rest)∧Dis n A B:=by
 have hD:=h.dom
 have hRF:=AOw.2 h
 have rA:=h.rg A (Apm hi)
 have rB:=h.rg B (Apm hj)
 have hil:=(Apn.1 hi).1
 have hjl:=(Apn.1 hj).1
 have pu:plc rings u=(i:Int):=h.AiU hi iu.2.2.2 hu
 have pv:plc rings v=(j:Int):=h.AiU hj iv.2.2.2 hv
 have hperm:rings.Perm (A::B::(rings.eraseIdx (max i j)).eraseIdx (min i j)):=by
  rcases Nat.lt_or_gt_of_ne hij with g|g
  ·rw[Ass (by omega),Aqy (by omega)]
   exact YF g hi hj
  ·rw[Nat.max_eq_left (by omega),Nat.min_eq_right (by omega)]
   exact(YF g hj hi).trans (List.Perm.swap _ _ _)
 have hdis:Dis n A B:=by
  have:=Rv hperm h.dis
  rw[Aqk]at this
  exact this.1 B (by simp)
 obtain⟨l1,l2,l3,huv,ho⟩:=VM rA.2.2.2 rB.2.2.2 hu hv iu iv hdis
 obtain⟨hRG,hrot⟩:=AUx l1
 have hall:Bt n A B u v=u::OX n u v::(B0 B v++OX n v u::(B0 A u).tail):=rfl
 have lA:(B0 A u).length≤1000:=by rw[← (DP hu).perm.length_eq];exact rA.1.1
 have lB:(B0 B v).length≤1000:=by rw[← (DP hv).perm.length_eq];exact rB.1.1
 have hsub:((rings.eraseIdx (max i j)).eraseIdx (min i j)).Sublist rings:=(List.eraseIdx_sublist _ _).trans (List.eraseIdx_sublist _ _)
 have hdrop:Cy (fun k=>decide ((k:Int)∈[(i:Int),(j:Int)])) 0 rings=(rings.eraseIdx (max i j)).eraseIdx (min i j):=by
  rcases Nat.lt_or_gt_of_ne hij with g|g
  ·rw[Ass (by omega),Aqy (by omega)]
   exact AEk _ i j g rings 0 (by omega) fun k _=>Aqs.2 (by simp only[Ape,ArR,AsG];omega)
  ·rw[Nat.max_eq_left (by omega),Nat.min_eq_right (by omega)]
   exact AEk _ j i g rings 0 (by omega) fun k _=>Aqs.2 (by simp only[Ape,ArR,AsG];omega)
 have hrl:((rings.eraseIdx (max i j)).eraseIdx (min i j)).length≤rings.length:=hsub.length_le
 generalize (rings.eraseIdx (max i j)).eraseIdx (min i j)=rest at *
 have hupr:rest.Pairwise (fun a b=>hd a<hd b):=h.up.sublist hsub
 have hner:∀ l∈rest,l≠[]:=fun l hl=>(h.rg l (hsub.subset hl)).2.1
 have hdd:=Rv hperm h.dis
 rw[Aqk,Aqk]at hdd
 have hheads:∀ x∈rest,hd x≠hd (plain (Bt n A B u v)):=by
  intro x hx e
  have g1:=SO hRG
  have g2:=(l3 _ g1.2.2.2).1 (hrot.perm.mem_iff.2 (ANH hRG.2.1))
  have g3:hd (plain (Bt n A B u v))∈x:=e▸ANH (hner x hx)
  rcases g2 with g|g
  ·exact hdd.1 x (by simp[hx]) _ g g1.2.2.2 g3
  ·exact hdd.2.1 x hx _ g g1.2.2.2 g3
 have hup:=AmJ hupr hheads
 have hpz:=Adf rest (plain (Bt n A B u v))
 refine⟨Adg rest (plain (Bt n A B u v)),rest,?_,Anw h hperm hRG (fun t ht=>by rw[← hrot.perm.mem_iff];exact l3 t ht) hpz hup,hperm,hpz,hdis⟩
 ·obtain⟨ys,y1,y2,y3⟩:=AcK n rings [(i:Int),(j:Int)] [Bt n A B u v] hD.1 (by simp) (by simp) (fun l hl=>(h.rg l hl).2.1) (by simp;exact hRG.2.1)
  have hys:ys=Adg rest (plain (Bt n A B u v)):=by
   refine AQC hup (y2.trans ?_) y3
   rw[hdrop]
   exact(Ari (l₁:=rest) (l₂:=[plain (Bt n A B u v)])).trans hpz.symm
  rw[hys]at y1
  rw[AAe,Qm]
  have s1:EG (B0 A u) (0:Int) (1:Int)=some [u]:=by
   have:=AK6 (xs:=B0 A u) (l:=0) (h:=1) (by omega) (by rw[l2];simp)
   rw[l2]at this ⊢
   exact this
  have s2:EG (B0 A u) (1:Int) (AM (B0 A u))=some (B0 A u).tail:=by
   have:=Qq (xs:=B0 A u) (l:=1) (by rw[l2];simp)
   rw[AsV]at this
   exact this
  have d1:F8 0 (AN (AM [u])) (B0 A u)=[u]:=by rw[l2];rfl
  have d2:F8 1 (AN (AM (B0 A u).tail)) (B0 A u)=(B0 A u).tail:=by
   rw[F8,AS,AEm,AsV,AqF]
  have hcat:LN ([[u],[OX n u v],B0 B v,[OX n v u],(B0 A u).tail],())=some (Bt n A B u v,()):=by
   rw[YO _ (by simp) (by simp;omega)]
   simp[Bt]
  have ne:((i:Int))≠(j:Int):=by omega
  simp only[AJx n rings u v hD,hRF,iu,iv,and_self,AqI,Ag,AAZ n rings _ hD.1 (fun l hl=>(hD.2 l hl).1),pu,pv,ne,Apu,AqJ,Aph,AW hi,AW hj,AdV,ANR,rA.1,rB.1,hu,hv,s1,s2,AhK,d1,d2,hcat,y1]
theorem AYD{n:Int}{rings:List (List Int)}{u v:Int}(h:FR n rings)(iu:In n u)(iv:In n v)(hp:plc rings u=plc rings v):
  AAf ((n,(rings,())),u,v,())=some (n,rings,5,()):=by
 have hD:=h.dom
 have hRF:=AOw.2 h
 rw[AAe,Qm]
 simp only[AJx n rings u v hD,hRF,iu,iv,and_self,AqI,Ag,AAZ n rings _ hD.1 (fun l hl=>(hD.2 l hl).1),hp,Apu,Aph]
end Go.Pev.Pl
end
section
namespace Go.Pev.Pl
open Tok
def QO(rings:List (List Int))(a b:Int):Prop:=∃ A∈rings,a∈A∧b∈A
structure FC(n:Int)(rings:List (List Int))(l:List Edge):Prop where
 fr:FR n rings
 sam:∀ a b,In n a→In n b→(QO rings a b↔Con l a b)
 arcs:∀ A∈rings,∀ u v,okT n (.arc u v)→OX n u v∈A→∃ e∈l,(e.1=u∧e.2.1=v)∨(e.1=v∧e.2.1=u)
theorem FR.Ahg{n:Int}{rings:List (List Int)}(h:FR n rings){a b:Int}(ia:In n a)(ib:In n b):plc rings a=plc rings b↔QO rings a b:=by
 obtain⟨i,A,pa,hi,ha,_⟩:=ACL (h.cov a ia)
 obtain⟨j,B,pb,hj,hb,_⟩:=ACL (h.cov b ib)
 rw[pa,pb]
 constructor
 ·intro e
  have:i=j:=by omega
  subst this
  rw[hi]at hj
  cases hj
  exact⟨A,Apm hi,ha,hb⟩
 ·rintro⟨K,hK,h1,h2⟩
  obtain⟨k,hk⟩:∃ k:Nat,rings[k]? = some K:=by
   obtain⟨k,hk,rfl⟩:=ArI hK
   exact⟨k,ApZ hk⟩
  rw[h.uniq hi hk ia.2.2.2 ha h1,h.uniq hj hk ib.2.2.2 hb h2]
theorem FR.one{n:Int}{rings:List (List Int)}(h:FR n rings){A B:List Int}(hA:A∈rings)(hB:B∈rings){v:Int}(iv:v<n)(h1:v∈A)(h2:v∈B):A=B:=by
 obtain⟨i,hi,rfl⟩:=ArI hA
 obtain⟨j,hj,rfl⟩:=ArI hB
 have:=h.uniq (ApZ hi) (ApZ hj) iv h1 h2
 subst this
 rfl
theorem QO.perm{a b:List (List Int)}(h:a.Perm b)(x y:Int):QO a x y↔QO b x y:=by
 constructor
 ·rintro⟨A,hA,h1⟩;exact⟨A,h.mem_iff.1 hA,h1⟩
 ·rintro⟨A,hA,h1⟩;exact⟨A,h.mem_iff.2 hA,h1⟩
theorem Aee{n u v x y:Int}{A B:List Int}(hA:TI n A)(hB:TI n B)(hu:u∈A)(hv:v∈B)(iu:In n u)(iv:In n v)(hd:Dis n A B)(ho:okT n (.arc x y))(h:OX n x y∈Bt n A B u v):OX n x y∈A∨OX n x y∈B∨(x=u∧y=v)∨(x=v∧y=u):=by
 obtain⟨_,l2,_,huv,ho2⟩:=VM hA hB hu hv iu iv hd
 have pA:=(DP hu).perm
 have pB:=(DP hv).perm
 have g:=AOt ho
 rw[Bt,Ape,Ape,Apc,Ape]at h
 rcases h with h|h|h|h|h
 ·have:=iu.2.2.2;omega
 ·rw[H4 ho,H4 ho2]at h
  have:=Ro ho ho2 h
  cases this
  exact .inr (.inr (.inl ⟨rfl,rfl⟩))
 ·exact .inr (.inl (pB.mem_iff.2 h))
 ·rw[H4 ho,H4 (Mh ho2)]at h
  have:=Ro ho (Mh ho2) h
  cases this
  exact .inr (.inr (.inr ⟨rfl,rfl⟩))
 ·refine .inl (pA.mem_iff.2 ?_)
  rw[l2]
  exact Ap5 _ h
theorem Anx{n:Int}{rings:List (List Int)}{l:List Edge}{e:Edge}(h:FC n rings l)(iu:In n e.1)(iv:In n e.2.1):
  ∃ zs q,AAf ((n,(rings,())),e.1,e.2.1,())=some (n,zs,q,())∧FC n zs (l++[e])∧(q=0∧zs.length+1=rings.length∨q=5∧zs=rings):=by
 have hF:=h.fr
 obtain⟨i,A,pu,hi,hu,_⟩:=ACL (hF.cov _ iu)
 obtain⟨j,B,pv,hj,hv,_⟩:=ACL (hF.cov _ iv)
 have mA:=Apm hi
 have mB:=Apm hj
 by_cases hij:i=j
 ·have hpe:plc rings e.1=plc rings e.2.1:=by rw[pu,pv,hij]
  refine⟨rings,5,AYD hF iu iv hpe,⟨hF,fun a b ia ib => ?_,fun A hA u v ho hm => ?_⟩,.inr ⟨rfl,rfl⟩⟩
  ·rw[h.sam a b ia ib,Con.snoc]
   have hc:Con l e.1 e.2.1:=(h.sam _ _ iu iv).1 ((hF.Ahg iu iv).1 hpe)
   constructor
   ·exact .inl
   ·rintro (g|⟨g1,g2⟩|⟨g1,g2⟩)
    ·exact g
    ·exact g1.trans (hc.trans g2)
    ·exact g1.trans (hc.symm.trans g2)
  ·obtain⟨e',h1,h2⟩:=h.arcs A hA u v ho hm
   exact⟨e',by simp[h1],h2⟩
 ·obtain⟨zs,rest,q1,q3,q4,q5,q6⟩:=Ami hF iu iv hi hj hu hv hij
  have gA:=hF.rg A mA
  have gB:=hF.rg B mB
  obtain⟨l1,l2,l3,huv,ho⟩:=VM gA.2.2.2 gB.2.2.2 hu hv iu iv q6
  obtain⟨hRG,hrot⟩:=AUx l1
  have len1:=q4.length_eq
  have len2:=q5.length_eq
  simp only[Api]at len1 len2
  refine⟨zs,0,q1,⟨q3,fun a b ia ib => ?_,fun K hK x y hxy hm => ?_⟩,.inl ⟨rfl,by omega⟩⟩
  ·rw[QO.perm q5,Con.snoc,← h.sam a b ia ib,← h.sam a _ ia iu,← h.sam _ b iv ib,← h.sam a _ ia iv,← h.sam _ b iu ib]
   have pmem:∀ x,In n x→(x∈plain (Bt n A B e.1 e.2.1)↔x∈A∨x∈B):=fun x ix=>by rw[← hrot.perm.mem_iff];exact l3 x ix.2.2.2
   have sA:∀ x,In n x→(QO rings x e.1↔x∈A):=fun x ix=>by
    constructor
    ·rintro⟨K,hK,h1,h2⟩
     rw[hF.one mA hK iu.2.2.2 hu h2];exact h1
    ·intro hx;exact⟨A,mA,hx,hu⟩
   have sB:∀ x,In n x→(QO rings x e.2.1↔x∈B):=fun x ix=>by
    constructor
    ·rintro⟨K,hK,h1,h2⟩
     rw[hF.one mB hK iv.2.2.2 hv h2];exact h1
    ·intro hx;exact⟨B,mB,hx,hv⟩
   have sy:∀ x y,QO rings x y↔QO rings y x:=fun x y=>⟨fun ⟨K,a,b,c⟩=>⟨K,a,c,b⟩,fun ⟨K,a,b,c⟩=>⟨K,a,c,b⟩⟩
   rw[sA a ia,sB a ia,sy e.2.1 b,sB b ib,sy e.1 b,sA b ib]
   have hs:QO rings a b↔(a∈A∧b∈A)∨(a∈B∧b∈B)∨∃ K∈rest,a∈K∧b∈K:=by
    rw[QO.perm q4]
    simp only[QO,Ape,exists_eq_or_imp]
   have hz:QO (plain (Bt n A B e.1 e.2.1)::rest) a b↔((a∈A∨a∈B)∧(b∈A∨b∈B))∨∃ K∈rest,a∈K∧b∈K:=by
    simp only[QO,Ape,exists_eq_or_imp,pmem a ia,pmem b ib]
   rw[hs,hz]
   constructor
   ·rintro (⟨h1|h1,h2|h2⟩|h)
    ·exact .inl (.inl ⟨h1,h2⟩)
    ·exact .inr (.inl ⟨h1,h2⟩)
    ·exact .inr (.inr ⟨h1,h2⟩)
    ·exact .inl (.inr (.inl ⟨h1,h2⟩))
    ·exact .inl (.inr (.inr h))
   ·rintro ((⟨h1,h2⟩|⟨h1,h2⟩|h)|⟨h1,h2⟩|⟨h1,h2⟩)
    ·exact .inl ⟨.inl h1,.inl h2⟩
    ·exact .inl ⟨.inr h1,.inr h2⟩
    ·exact .inr h
    ·exact .inl ⟨.inl h1,.inr h2⟩
    ·exact .inl ⟨.inr h1,.inl h2⟩
  ·have old:∀ K∈rings,OX n x y∈K→∃ e'∈l++[e],(e'.1=x∧e'.2.1=y)∨(e'.1=y∧e'.2.1=x):=fun K hK hm=>by
    obtain⟨e',h1,h2⟩:=h.arcs K hK x y hxy hm
    exact⟨e',by simp[h1],h2⟩
   rcases Ape.1 (q5.mem_iff.1 hK)with rfl|hK
   ·rcases Aee gA.2.2.2 gB.2.2.2 hu hv iu iv q6 hxy (hrot.perm.mem_iff.2 hm)with g|g|⟨g1,g2⟩|⟨g1,g2⟩
    ·exact old A mA g
    ·exact old B mB g
    ·exact⟨e,by simp,.inl ⟨g1.symm,g2.symm⟩⟩
    ·exact⟨e,by simp,.inr ⟨g2.symm,g1.symm⟩⟩
   ·exact old K (q4.mem_iff.2 (by simp[hK])) hm
theorem AaK{N:Nat}(h1:1≤N)(h2:N≤64):FC (N:Int) (B6 N) []:=by
 have hS:∀ A∈B6 N,∃ k:Nat,k<N∧A=[(k:Int)]:=fun A hA=>by
  simp only[B6,Apx,AqC]at hA
  obtain⟨k,hk,rfl⟩:=hA
  exact⟨k,hk,rfl⟩
 have key:∀ k,k<N→In (N:Int) (k:Int):=fun k hk=>⟨by omega,by omega,by omega,by omega⟩
 refine⟨⟨⟨by omega,by omega⟩,fun l hl => ?_,?_,?_,fun v hv => ?_⟩,fun a b ia ib => ?_,fun A hA u v ho hm => ?_⟩
 ·obtain⟨k,hk,rfl⟩:=hS l hl
  refine⟨⟨by simp,fun x hx => ?_,by simp⟩,by simp,rfl,(Ao2 (N:Int) k).2 (key k hk)⟩
  simp only[AqG]at hx
  omega
 ·rw[B6,ArW]
  exact List.pairwise_lt_range.imp fun h=>by simp only[hd,List.headD_cons];omega
 ·rw[B6,ArW]
  exact List.pairwise_lt_range.imp fun {a b} h t ht _ ht2=>by
   simp only[AqG]at ht ht2
   omega
 ·obtain⟨k,rfl⟩:=Apl hv.2.2.1
  have:=hv.2.2.2
  exact⟨[(k:Int)],by simp only[B6,Apx,AqC];exact⟨k,by omega,rfl⟩,by simp⟩
 ·constructor
  ·rintro⟨A,hA,h1,h2⟩
   obtain⟨k,_,rfl⟩:=hS A hA
   simp only[AqG]at h1 h2
   rw[h1,h2]
   exact .refl _
  ·intro hc
   have:=hc.nil
   subst this
   obtain⟨k,rfl⟩:=Apl ia.2.2.1
   have:=ia.2.2.2
   exact⟨[(k:Int)],by simp only[B6,Apx,AqC];exact⟨k,by omega,rfl⟩,by simp,by simp⟩
 ·obtain⟨k,hk,rfl⟩:=hS A hA
  simp only[AqG]at hm
  have:=AOt ho
  omega
theorem ATY(l:List Edge)(hs:l.length<1073741824):ends (l,())=some (l.flatMap fun e=>[e.1,e.2.1],()):=by
 rw[Abp,ANf]
 have e:=Es (step:=LF) (fun i (a:List Int)=>(a,l,AM l,(i:Int),())) l (fun x a=>.inl (a++[x.1,x.2.1])) (fun a=>.inl (a,())) (fun i a=>a.length=2*i) (by omega)
  (fun i x a hi hx h1=>by
   refine⟨fun m' h' => ?_,fun r h'=>by cases h'⟩
   cases h'
   rw[LF,AS,AL,ApX hi]
   simp only[AW hx]
   rw[AP (by omega),Bj (by simp only[AS,Api,Apt];omega)]
   exact⟨rfl,by simp;omega⟩)
  (fun a _=>by rw[LF,AS,AL,ApW (by omega)]) [] rfl
 have e':AU LF many ([],l,AM l,(0:Int),())=_:=e
 rw[e',CP]
 have hf:∀ (xs:List Edge) (acc:List Int),xs.foldl (fun a x=>a++[x.1,x.2.1]) acc=acc++xs.flatMap fun e=>[e.1,e.2.1]:=by
  intro xs
  induction xs with
  |nil=>intro acc;simp
  |cons x xs ih=>intro acc;rw[Aqd,ih,AqH];simp
 rw[hf]
 rfl
theorem AkY(n:Int)(l:List Edge):((l.flatMap fun e=>[e.1,e.2.1]).all fun v=>decide (In n v))=l.all fun e=>decide (In n e.1∧In n e.2.1):=by
 induction l with
 |nil=>rfl
 |cons e l ih=>
  rw[AqH,List.all_append,List.all_cons,ih]
  simp
theorem AkX(l:List Edge):(l.flatMap fun e=>[e.1,e.2.1]).length=2*l.length:=by
 induction l with
 |nil=>rfl
 |cons e l ih=>rw[AqH,Apd,ih];simp;omega
theorem AYC{n:Int}(l:List Edge)(hs:l.length<1073741824)(ha:∀ e∈l,In n e.1∧In n e.2.1):
  ∀ (m i cnt:Nat) (rings:List (List Int)) (taken:List Bool),i+m=l.length→taken.length=i→FC n rings (l.take i)→m<cnt →
  ∃ zs taken',Aj DV cnt (n,rings,(0:Int),taken,l,(l.length:Int),(i:Int),())=some (.inl (n,zs,(0:Int),taken',()))∧FC n zs l∧taken'.length=l.length:=by
 intro m
 induction m with
 |zero=>
  intro i cnt rings taken hi ht h hc
  obtain⟨cnt,rfl⟩:∃ c,cnt=c+1:=⟨cnt-1,by omega⟩
  rw[AqU (by omega)]at h
  refine⟨rings,taken,?_,h,by omega⟩
  rw[Aj,DV,AL,ApW (by omega)]
 |succ m ih=>
  intro i cnt rings taken hi ht h hc
  obtain⟨cnt,rfl⟩:∃ c,cnt=c+1:=⟨cnt-1,by omega⟩
  have hi':i<l.length:=by omega
  have hx:l[i]? = some l[i]:=ApZ hi'
  obtain⟨iu,iv⟩:=ha _ (ArQ hi')
  obtain⟨zs,q,e1,e2,_⟩:=Anx h iu iv
  rw[Aj,DV,AL,ApX hi']
  simp only[AW hx,e1]
  rw[AP (by omega),Bj (by simp only[AS,Api,Apt];omega)]
  rw[← Aq1 hi']at e2
  exact ih (i+1) cnt zs _ (by omega) (by simp[ET,ht]) e2 (by omega)
theorem AnG(k:Int)(l:List Edge)(hk:Sz k)(hs:l.length<1073741824):
  ((∀ e∈l,In k e.1∧In k e.2.1)∧∃ rings,fof (k,l,())=some ((k,(rings,())),0,())∧FC k rings l) ∨
  (¬ (∀ e∈l,In k e.1∧In k e.2.1)∧fof (k,l,())=some ((0,([],())),10,())):=by
 have hmany:9223372036854775808<many:=by simp only[many];omega
 rw[AkN,Abl]
 have hm:Zf k=(k,B6 k.toNat,0,()):=by rw[Zf,Apk hk]
 obtain⟨s1,s2⟩:=hk
 obtain⟨N,rfl⟩:=Apl (show 0≤k by omega)
 have h0:=AaK (N:=N) (by omega) (by omega)
 have hD:=h0.fr.dom
 have hRF:=AOw.2 h0.fr
 have hfl:=AkX l
 have hth:Vq (((N:Int),(B6 N,())),l.flatMap fun e=>[e.1,e.2.1],())=some (if ∀ e∈l,In (N:Int) e.1∧In (N:Int) e.2.1 then 0 else 10,()):=by
  rw[AYo _ _ _ hD (by omega),AkY,Ao0,Apk hRF]
  by_cases ha:∀ e∈l,In (N:Int) e.1∧In (N:Int) e.2.1
  ·rw[Apk ha,Apk (Ap3.2 fun e he=>ApX (ha e he))]
  ·rw[Apg ha,Apg]
   intro hc
   exact ha fun e he=>Arn (Ap3.1 hc e he)
 simp only[AcX,hm,AqX,ASr,Aph]
 rw[AJO,Ri,YJ,LH]
 by_cases ha:∀ e∈l,In (N:Int) e.1∧In (N:Int) e.2.1
 ·refine .inl ⟨ha,?_⟩
  rw[Apk ha]at hth
  obtain⟨zs,taken,e1,e2,_⟩:=AYC l hs ha l.length 0 many (B6 N) [] (by omega) rfl (by rw[List.take_zero];exact h0) (by omega)
  have e1':Aj DV many ((N:Int),B6 N,(0:Int),[],l,(l.length:Int),(0:Int),())=_:=e1
  simp only[ATY l hs,hth,ASr,Aph,A3,AS,e1']
  exact⟨zs,rfl,e2⟩
 ·refine .inr ⟨ha,?_⟩
  rw[Apg ha]at hth
  simp only[ATY l hs,hth,Ag]
  rfl
end Go.Pev.Pl
end
section
namespace Go.Pev.Pl
open Tok
def cl(out:List Int)(v:Int):Int:=out.getD v.toNat 0
def CI(N:Nat)(l:List Edge)(out:List Int):Prop:=out.length=N∧∀ k,k<N→0≤out.getD k 0∧out.getD k 0≤(k:Int)∧Con l (k:Int) (out.getD k 0)
theorem Aaf:∀ (l:List Int) (k:Nat) (x:Int),k<l.length→(l.set k x).sum=l.sum-l.getD k 0+x:=by
 intro l
 induction l with
 |nil=>intro k x h;simp at h
 |cons y l ih=>
  intro k x h
  cases k with
  |zero=>simp;omega
  |succ k=>
   have:=ih k x (by simpa using h)
   simp only[List.set_cons_succ,Ar9,List.getD_cons_succ,this]
   omega
theorem PI{N:Nat}{l:List Edge}{out:List Int}(h:CI N l out)(hN:N≤64):0≤out.sum∧out.sum≤4096:=by
 obtain⟨h1,h2⟩:=h
 have key:∀ (xs:List Int),(∀ x∈xs,0≤x∧x≤64)→0≤xs.sum∧xs.sum≤64*(xs.length:Int):=by
  intro xs
  induction xs with
  |nil=>intro _;simp
  |cons x xs ih=>
   intro h
   have h3:=ih fun y hy=>h y (Ap5 _ hy)
   have h4:=h x (by simp)
   simp only[Ar9,Api]
   omega
 have:=key out fun x hx=>by
  obtain⟨k,hk,rfl⟩:=ArI hx
  have h5:=h2 k (by omega)
  rw[Apa,ApZ hk,AqT]at h5
  omega
 omega
theorem Ao9(N:Nat)(l:List Edge)(hs:l.length<1073741824)(ha:∀ e∈l,In (N:Int) e.1∧In (N:Int) e.2.1):
  ∀ (m i cnt:Nat) (out:List Int) (more:Bool),i+m=l.length→CI N l out→m<cnt →
  ∃ out' more',Aj Cz cnt ((N:Int),l,out,more,(i:Int),())=some (.inl ((N:Int),l,out',more',()))∧CI N l out' ∧
   ((more'=more∧out'=out∧∀ e∈l.drop i,cl out e.1=cl out e.2.1)∨(more'=true∧out'.sum<out.sum)):=by
 intro m
 induction m with
 |zero=>
  intro i cnt out more hi h hc
  obtain⟨cnt,rfl⟩:∃ c,cnt=c+1:=⟨cnt-1,by omega⟩
  refine⟨out,more,?_,h,.inl ⟨rfl,rfl,?_⟩⟩
  ·rw[Aj,Cz,AS,AL,ApW (by omega)]
  ·rw[Aq6 (by omega)]
   intro e he;cases he
 |succ m ih=>
  intro i cnt out more hi h hc
  obtain⟨cnt,rfl⟩:∃ c,cnt=c+1:=⟨cnt-1,by omega⟩
  have hi':i<l.length:=by omega
  have hx:l[i]? = some l[i]:=ApZ hi'
  have hm:=ArQ hi'
  have hdr:l.drop i=l[i]::l.drop (i+1):=AqL hi'
  rw[Aj,Cz,AS,AL,ApX hi']
  simp only[AW hx]
  rw[hdr,AP (by omega)]
  generalize l[i]=e at *
  obtain⟨iu,iv⟩:=ha e hm
  have hcon:=Con.edge e hm
  obtain⟨eu,ev,eu'⟩:=e
  simp only at iu iv hcon ⊢
  obtain⟨u,rfl⟩:=Apl iu.2.2.1
  obtain⟨v,rfl⟩:=Apl iv.2.2.1
  have hu:u<N:=by have:=iu.2.2.2;omega
  have hv:v<N:=by have:=iv.2.2.2;omega
  have hul:u<out.length:=by rw[h.1];exact hu
  have hvl:v<out.length:=by rw[h.1];exact hv
  rw[Ae,ApW (by omega)]
  simp only[]
  rw[Ae,ApW (by omega)]
  simp only[]
  rw[An,ApW (by omega)]
  simp only[]
  rw[An,ApW (by omega)]
  simp only[Lu (0:Int) hul,Lu (0:Int) hvl,QC,DW,Ag]
  by_cases hq:out.getD u 0=out.getD v 0
  ·rw[ApX hq]
   obtain⟨out',more',e1,e2,e3⟩:=ih (i+1) cnt out more (by omega) h (by omega)
   refine⟨out',more',e1,e2,?_⟩
   rcases e3 with⟨g1,g2,g3⟩|g
   ·refine .inl ⟨g1,g2,fun e' he' => ?_⟩
    rcases Ape.1 he' with rfl|he'
    ·simpa [cl]using hq
    ·exact g3 e' he'
   ·exact .inr g
  ·rw[ApW hq]
   have hne:u≠v:=by rintro rfl;exact hq rfl
   have hlow:B7 (out.getD u 0) (out.getD v 0)=if out.getD v 0<out.getD u 0 then out.getD v 0 else out.getD u 0:=rfl
   generalize hlw:B7 (out.getD u 0) (out.getD v 0)=low at *
   have hvl2:v<(out.set u low).length:=by simp;exact hvl
   simp only[Lu (0:Int) hvl2]
   have cu:=h.2 u hu
   have cv:=h.2 v hv
   have hset:∀ k,k<N→((out.set u low).set v low).getD k 0=if k=u∨k=v then low else out.getD k 0:=by
    intro k hk
    have hkl:k<out.length:=by rw[h.1];exact hk
    by_cases k2:k=v
    ·subst k2
     simp[Apa,hkl]
    ·by_cases k1:k=u
     ·subst k1
      rw[Apk (.inl rfl),Apa,Aqe (AqS k2)]
      simp[hkl]
     ·rw[Apg (by omega),Apa,Aqe (AqS k2),Aqe (AqS k1),Apa]
   have hlc:0≤low∧low≤(u:Int)∧low≤(v:Int)∧Con l (u:Int) low:=by
    rw[hlow]
    split
    ·exact⟨cv.1,by omega,cv.2.1,hcon.trans cv.2.2⟩
    ·exact⟨cu.1,cu.2.1,by omega,cu.2.2⟩
   have hI:CI N l ((out.set u low).set v low):=by
    refine⟨by simp[h.1],fun k hk => ?_⟩
    rw[hset k hk]
    split
    ·rename_i hkk
     rcases hkk with rfl|rfl
     ·exact⟨hlc.1,hlc.2.1,hlc.2.2.2⟩
     ·exact⟨hlc.1,hlc.2.2.1,hcon.symm.trans hlc.2.2.2⟩
    ·exact h.2 k hk
   have hsum:((out.set u low).set v low).sum<out.sum:=by
    rw[Aaf _ _ _ hvl2,Aaf _ _ _ hul]
    have:(out.set u low).getD v 0=out.getD v 0:=by
     rw[Apa,Aqe hne,← Apa]
    rw[this,hlow]
    split<;>omega
   obtain⟨out',more',e1,e2,e3⟩:=ih (i+1) cnt _ true (by omega) hI (by omega)
   refine⟨out',more',e1,e2,.inr ?_⟩
   rcases e3 with⟨g1,g2,_⟩|⟨g1,g2⟩
   ·exact⟨g1,by rw[g2];exact hsum⟩
   ·exact⟨g1,by omega⟩
theorem AoG(N:Nat)(hN:N≤64)(l:List Edge)(hs:l.length<1073741824)(ha:∀ e∈l,In (N:Int) e.1∧In (N:Int) e.2.1):
  ∀ (m cnt:Nat) (out:List Int),out.sum.toNat=m→CI N l out→m+1<cnt →
  ∃ out',Aj Dn cnt ((N:Int),l,out,true,())=some (.inl (out',()))∧CI N l out'∧∀ e∈l,cl out' e.1=cl out' e.2.1:=by
 have hmany:9223372036854775808<many:=by simp only[many];omega
 intro m
 induction m using Nat.strongRecOn with
 |_ m ih=>
 intro cnt out hm h hc
 obtain⟨cnt,rfl⟩:∃ c,cnt=c+1:=⟨cnt-1,by omega⟩
 rw[Aj,Dn]
 obtain⟨out',more',e1,e2,e3⟩:=Ao9 N l hs ha l.length 0 many out false (by omega) h (by omega)
 have e1':Aj Cz many ((N:Int),l,out,false,(0:Int),())=_:=e1
 simp only[A3,e1']
 rcases e3 with⟨g1,g2,g3⟩|⟨g1,g2⟩
 ·subst g1 g2
  obtain⟨cnt,rfl⟩:∃ c,cnt=c+1:=⟨cnt-1,by omega⟩
  rw[Aj,Dn]
  exact⟨_,rfl,e2,by simpa using g3⟩
 ·subst g1
  have b1:=PI h hN
  have b2:=PI e2 hN
  exact ih out'.sum.toNat (by omega) cnt out' rfl e2 (by omega)
structure XP(n:Int)(l:List Edge)(out:List Int):Prop where
 len:(out.length:Int)=n
 same:∀ a b,In n a→In n b→(cl out a=cl out b↔Con l a b)
 isin:∀ a,In n a→In n (cl out a)
 con:∀ a,In n a→Con l a (cl out a)
 least:∀ a b,In n a→In n b→Con l a b→cl out a≤b
theorem GZ(n:Int)(l:List Edge)(hn:Sz n)(hs:l.length<1073741824)(ha:∀ e∈l,In n e.1∧In n e.2.1):∃ out,HP (n,l,())=some (out,())∧XP n l out:=by
 have hmany:9223372036854775808<many:=by simp only[many];omega
 obtain⟨s1,s2⟩:=hn
 obtain⟨N,rfl⟩:=Apl (show 0≤n by omega)
 rw[R9,Is]
 have key:∀ (m k cnt:Nat),k+m=N→m<cnt→Aj C0 cnt ((N:Int),l,(List.range k).map (fun(k:Nat)=>(k:Int)),(k:Int),())=some (.inl ((N:Int),l,(List.range N).map (fun(k:Nat)=>(k:Int)),())):=by
  intro m
  induction m with
  |zero=>
   intro k cnt hk hc
   obtain⟨cnt,rfl⟩:∃ c,cnt=c+1:=⟨cnt-1,by omega⟩
   have:k=N:=by omega
   subst this
   rw[Aj,C0,AL,ApW (by omega)]
  |succ m ih=>
   intro k cnt hk hc
   obtain⟨cnt,rfl⟩:∃ c,cnt=c+1:=⟨cnt-1,by omega⟩
   have hih:=ih (k+1) cnt (by omega) (by omega)
   rw[AqR,AqZ]at hih
   rw[Aj,C0,AL,ApX (by omega)]
   simp only[]
   rw[AP (by omega),Bj (by simp only[AS,Api,Apt,Ap1,AqA];omega)]
   exact hih
 have e0:=key N 0 many (by omega) (by omega)
 have e0':Aj C0 many ((N:Int),l,[],(0:Int),())=_:=e0
 have h0:CI N l ((List.range N).map (fun(k:Nat)=>(k:Int))):=by
  refine⟨by simp,fun k hk => ?_⟩
  have:((List.range N).map (fun(k:Nat)=>(k:Int))).getD k 0=(k:Int):=by simp[Apa,hk]
  rw[this]
  exact⟨by omega,by omega,.refl _⟩
 have hb:=PI h0 (by omega)
 obtain⟨out,e1,e2,e3⟩:=AoG N (by omega) l hs ha _ many _ rfl h0 (by omega)
 simp only[A3,e0',e1]
 have fact:∀ a,In (N:Int) a→0≤cl out a∧cl out a≤a∧Con l a (cl out a):=by
  intro a hia
  obtain⟨k,rfl⟩:=Apl hia.2.2.1
  have:=e2.2 k (by have:=hia.2.2.2;omega)
  simpa [cl]using this
 refine⟨out,rfl,by rw[e2.1],fun a b ia ib=>⟨fun h => ?_,fun h=>h.const e3⟩,fun a ia => ?_,fun a ia=>(fact a ia).2.2,fun a b ia ib h => ?_⟩
 ·have h1:=(fact a ia).2.2
  have h2:=(fact b ib).2.2
  rw[← h]at h2
  exact h1.trans h2.symm
 ·have:=fact a ia
  have h3:=ia.2.2.2
  exact⟨s1,s2,by omega,by omega⟩
 ·have h1:cl out a=cl out b:=h.const e3
  have:=(fact b ib).2.1
  omega
end Go.Pev.Pl
end
end
section
namespace Go.Pev.Pl
def Low(l:List Edge)(k:Nat):Prop:=∀ j:Nat,j<k→¬ Con l (j:Int) (k:Int)
noncomputable def AjY(l:List Edge)(k:Nat):Bool:=@decide (Low l k) (Classical.propDecidable _)
theorem Hk(l:List Edge)(k:Nat):AjY l k=true↔Low l k:=by
 unfold AjY
 exact @decide_eq_true_iff _ (Classical.propDecidable _)
noncomputable def cc(N:Nat)(l:List Edge):Nat:=(List.range N).countP (AjY l)
noncomputable def OV(l:List Edge)(a b:Int):Bool:=@decide (Con l a b) (Classical.propDecidable _)
theorem CY(l:List Edge)(a b:Int):OV l a b=true↔Con l a b:=by
 unfold OV
 exact @decide_eq_true_iff _ (Classical.propDecidable _)
theorem Hw(l:List Edge)(a b:Int):OV l a b=false↔¬ Con l a b:=by
 rw[← CY];cases OV l a b<;>simp
theorem Con.sub{l l':List Edge}(h:∀ e∈l,e∈l'){a b:Int}(c:Con l a b):Con l' a b:=c.mono fun e he=>⟨e,h e he,.inl ⟨rfl,rfl⟩⟩
theorem Con.cut{l l':List Edge}(h:∀ e∈l,Con l' e.1 e.2.1){a b:Int}(c:Con l a b):Con l' a b:=by
 induction c with
 |refl a=>exact .refl a
 |edge e he=>exact h e he
 |symm _ ih=>exact ih.symm
 |trans _ _ ih1 ih2=>exact ih1.trans ih2
theorem AjX(l:List Edge):∀ v:Nat,∃ m:Nat,m≤v∧Con l (m:Int) (v:Int)∧Low l m:=by
 intro v
 induction v using Nat.strongRecOn with
 |ind v ih=>
  by_cases h:Low l v
  ·exact⟨v,Apj _,.refl _,h⟩
  ·have:∃ j:Nat,j<v∧Con l (j:Int) (v:Int):=Aqx fun hn=>h fun j hj hc=>hn ⟨j,hj,hc⟩
   obtain⟨j,hj,hc⟩:=this
   obtain⟨m,h1,h2,h3⟩:=ih j hj
   exact⟨m,by omega,h2.trans hc,h3⟩
theorem Low.le{l:List Edge}{m j:Nat}(h:Low l m)(hc:Con l (m:Int) (j:Int)):m≤j:=by
 refine Nat.le_of_not_lt fun hj=>h j hj hc.symm
theorem Low.uniq{l:List Edge}{a b:Nat}(ha:Low l a)(hb:Low l b)(h:Con l (a:Int) (b:Int)):a=b:=by
 have:=ha.le h
 have:=hb.le h.symm
 omega
theorem Ak3{N:Nat}{l l':List Edge}(h:∀ j k:Nat,j<N→k<N→(Con l (j:Int) (k:Int)↔Con l' (j:Int) (k:Int))):cc N l=cc N l':=by
 unfold cc
 refine Aru fun k hk => ?_
 have hk:k<N:=by simpa using hk
 rw[Hk,Hk]
 constructor
 ·intro q j hj hc;exact q j hj ((h j k (by omega) hk).2 hc)
 ·intro q j hj hc;exact q j hj ((h j k (by omega) hk).1 hc)
theorem AFV{N:Nat}{l l':List Edge}(h:∀ a b,Con l a b↔Con l' a b):cc N l=cc N l':=Ak3 fun _ _ _ _=>h _ _
theorem AOC{l l':List Edge}(h:∀ e,e∈l↔e∈l'){a b:Int}:Con l a b↔Con l' a b:=⟨fun c=>c.sub fun e he=>(h e).1 he,fun c=>c.sub fun e he=>(h e).2 he⟩
theorem Anh{N:Nat}{l l':List Edge}(h:l.Perm l'):cc N l=cc N l':=AFV fun _ _=>AOC fun _=>h.mem_iff
theorem Aoy(N:Nat):cc N []=N:=by
 unfold cc
 have:(List.range N).countP (AjY [])=(List.range N).length:=by
  rw[List.countP_eq_length]
  intro k _
  rw[Hk]
  intro j hj hc
  have:=hc.nil
  omega
 rw[this,AqA]
theorem AE6{P:Nat→Bool}{M:Nat}(hM:P M=true):∀ {xs:List Nat},xs.Nodup→M∈xs→xs.countP P=xs.countP (fun k=>P k && !decide (k=M))+1:=by
 intro xs
 induction xs with
 |nil=>intro _ h;cases h
 |cons x xs ih=>
  intro hn h
  rw[Ap9]at hn
  rw[Ard,Ard]
  by_cases hx:x=M
  ·subst hx
   have:xs.countP P=xs.countP (fun k=>P k && !decide (k=x)):=by
    refine Aru fun k hk => ?_
    have:k≠x:=fun e=>hn.1 (e▸hk)
    simp[this]
   simp[hM,this]
  ·have:=ih hn.2 (by rcases Ape.1 h with h|h;exact absurd h.symm hx;exact h)
   rw[this]
   simp[hx]
   omega
def InE(N:Nat)(e:Edge):Prop:=(0≤e.1∧e.1<(N:Int))∧(0≤e.2.1∧e.2.1<(N:Int))
theorem AT4{l:List Edge}{e:Edge}(h:Con l e.1 e.2.1){a b:Int}:Con (l++[e]) a b↔Con l a b:=
 ⟨fun c=>c.cut fun x hx=>by
  rcases Apc.1 hx with hx|hx
  ·exact .edge x hx
  ·rw[AqG]at hx;subst hx;exact h,fun c=>c.sub fun x hx=>Apc.2 (.inl hx)⟩
theorem Abx{N:Nat}{l:List Edge}{e:Edge}(he:InE N e):cc N l=cc N (l++[e])+(if OV l e.1 e.2.1=true then 0 else 1):=by
 by_cases h:Con l e.1 e.2.1
 ·rw[Apk ((CY _ _ _).2 h),Aqz]
  exact AFV fun a b=>(AT4 h).symm
 ·rw[Apg (fun hh=>h ((CY _ _ _).1 hh))]
  obtain⟨⟨a1,a2⟩,b1,b2⟩:=he
  obtain⟨u,hu⟩:=Apl a1
  obtain⟨v,hv⟩:=Apl b1
  have hsn:∀ {a b:Int},Con (l++[e]) a b↔Con l a b∨(Con l a (u:Int)∧Con l (v:Int) b)∨(Con l a (v:Int)∧Con l (u:Int) b):=by
   intro a b
   rw[Con.snoc,hu,hv]
  rw[hu,hv]at h
  obtain⟨p,p1,p2,p3⟩:=AjX l u
  obtain⟨q,q1,q2,q3⟩:=AjX l v
  have hpq:p≠q:=fun e=>h (p2.symm.trans (e▸q2))
  have hlow:∀ k:Nat,Low (l++[e]) k↔Low l k∧k≠max p q:=by
   intro k
   constructor
   ·intro hk
    refine⟨fun j hj hc=>hk j hj (hsn.2 (.inl hc)),fun e => ?_⟩
    refine hk (min p q) (by omega) (hsn.2 ?_)
    by_cases hlt:p<q
    ·rw[e,Aqy (by omega),Ass (by omega)]
     exact .inr (.inl ⟨p2,q2.symm⟩)
    ·rw[e,Nat.min_eq_right (by omega),Nat.max_eq_left (by omega)]
     exact .inr (.inr ⟨q2,p2.symm⟩)
   ·rintro⟨hk,hne⟩ j hj hc
    rcases hsn.1 hc with hc|⟨c1,c2⟩|⟨c1,c2⟩
    ·exact hk j hj hc
    ·have e1:=q3.uniq hk (q2.trans c2)
     have e2:=p3.le (p2.trans c1.symm)
     omega
    ·have e1:=p3.uniq hk (p2.trans c2)
     have e2:=q3.le (q2.trans c1.symm)
     omega
  have hM:AjY l (max p q)=true:=by
   rw[Hk]
   by_cases hlt:p<q
   ·rw[Ass (by omega)];exact q3
   ·rw[Nat.max_eq_left (by omega)];exact p3
  unfold cc
  rw[AE6 hM Aq8 (by rw[AqC];omega)]
  congr 1
  refine Aru fun k _ => ?_
  rw[Hk,hlow,Apf,Hk]
  simp
noncomputable def gfl:List Edge→List Edge→List Bool
 |_,[]=>[]
 |b,x::xs=>(!OV b x.1 x.2.1)::gfl (b++[x]) xs
noncomputable def MA:List Edge→List Edge→List Edge
 |_,[]=>[]
 |b,x::xs=>if OV b x.1 x.2.1=true then MA (b++[x]) xs else x::MA (b++[x]) xs
theorem AnF:∀ (xs b:List Edge),(gfl b xs).length=xs.length:=by
 intro xs
 induction xs with
 |nil=>intro b;rfl
 |cons x xs ih=>intro b;rw[gfl,Api,Api,ih]
theorem ATC:∀ (xs b:List Edge),(MA b xs).Sublist xs:=by
 intro xs
 induction xs with
 |nil=>intro b;exact List.Sublist.refl _
 |cons x xs ih=>
  intro b
  rw[MA]
  split
  ·exact(ih _).cons x
  ·exact(ih _).cons_cons x
theorem AFE:∀ (xs b:List Edge) {a c:Int},Con (b++xs) a c↔Con (b++MA b xs) a c:=by
 intro xs
 induction xs with
 |nil=>intro b a c;rfl
 |cons x xs ih=>
  intro b a c
  have e1:b++x::xs=(b++[x])++xs:=by simp
  rw[e1,ih,MA]
  by_cases h:Con b x.1 x.2.1
  ·rw[Apk ((CY _ _ _).2 h)]
   constructor
   ·intro q
    refine q.cut fun y hy => ?_
    rcases Apc.1 hy with hy|hy
    ·rcases Apc.1 hy with hy|hy
     ·exact .edge y (Apc.2 (.inl hy))
     ·rw[AqG]at hy;subst hy
      exact h.sub fun z hz=>Apc.2 (.inl hz)
    ·exact .edge y (Apc.2 (.inr hy))
   ·intro q
    refine q.sub fun y hy => ?_
    rcases Apc.1 hy with hy|hy
    ·simp[hy]
    ·simp[hy]
  ·rw[Apg (fun hh=>h ((CY _ _ _).1 hh))]
   exact AOC fun y=>by simp
theorem OD{N:Nat}:∀ (xs b:List Edge),(∀ e∈xs,InE N e)→cc N b=cc N (b++xs)+(MA b xs).length:=by
 intro xs
 induction xs with
 |nil=>intro b _;simp[MA]
 |cons x xs ih=>
  intro b h
  have e1:b++x::xs=(b++[x])++xs:=by simp
  rw[Abx (h x (by simp)),ih (b++[x]) (fun e he=>h e (by simp[he])),e1,MA]
  by_cases hc:OV b x.1 x.2.1=true
  ·rw[Apk hc,Apk hc,Aqz]
  ·rw[Apg hc,Apg hc,Api]
   omega
theorem An4{N:Nat}(xs b:List Edge)(h:∀ e∈xs,InE N e):cc N b≤cc N (b++xs)+xs.length:=by
 have:=OD xs b h
 have:=(ATC xs b).length_le
 omega
def Fo(N:Nat)(l:List Edge):Prop:=cc N l+l.length=N
theorem Fo.perm{N:Nat}{l l':List Edge}(h:Fo N l)(hp:l.Perm l'):Fo N l':=by
 unfold Fo at *
 rw[← Anh hp,← hp.length_eq];exact h
theorem Ak4{N:Nat}(l:List Edge)(h:∀ e∈l,InE N e):N≤cc N l+l.length:=by
 have:=An4 l [] h
 rw[Aoy,AqK]at this
 exact this
theorem Fo.front{N:Nat}{a b:List Edge}(h:Fo N (a++b))(ha:∀ e∈a,InE N e)(hb:∀ e∈b,InE N e):Fo N a:=by
 unfold Fo at *
 have h1:=Ak4 a ha
 have h2:=An4 b a hb
 rw[Apd]at h
 omega
theorem Aic{α:Type}{a l:List α}(h:a.Sublist l):∃ r,l.Perm (a++r):=by
 induction h with
 |slnil=>exact⟨[],Asg _⟩
 |@cons a l x _ ih=>
  obtain⟨r,hr⟩:=ih
  exact⟨x::r,(hr.cons x).trans (List.perm_middle.symm)⟩
 |@cons_cons a l x _ ih=>
  obtain⟨r,hr⟩:=ih
  exact⟨r,hr.cons x⟩
theorem Fo.sub{N:Nat}{a l:List Edge}(h:Fo N l)(hs:a.Sublist l)(hl:∀ e∈l,InE N e):Fo N a:=by
 obtain⟨r,hr⟩:=Aic hs
 exact(h.perm hr).front (fun e he=>hl e (hr.mem_iff.2 (Apc.2 (.inl he)))) (fun e he=>hl e (hr.mem_iff.2 (Apc.2 (.inr he))))
theorem Fo.MA{N:Nat}{b xs:List Edge}(h:Fo N (b++xs))(hb:∀ e∈b,InE N e)(hx:∀ e∈xs,InE N e):MA b xs=xs:=by
 have h1:=OD xs b hx
 have h2:=h.front hb hx
 unfold Fo at *
 rw[Apd]at h
 exact(ATC xs b).eq_of_length (by omega)
end Go.Pev.Pl
end
section
namespace Go.Pev.Pl
abbrev Tie:=Int×Int×Int×Bool×Unit
abbrev zT:Tie:=(0,0,0,false,())
def ahead(p x:Tie):Prop:=p.1<x.1∨(p.1=x.1∧p.2.1<x.2.1)
instance (p x:Tie):Decidable (ahead p x):=inferInstanceAs (Decidable (_∨_))
def ed(t:Tie):Edge:=(t.1,t.2.1,())
def trk(ts:List Tie)(k:Int):List Edge:=(ts.filter fun t=>t.2.2.2.1&&decide (k≤t.2.2.1)).map ed
theorem Dg{ts:List Tie}{k:Int}{e:Edge}:e∈trk ts k↔∃ t∈ts,t.2.2.2.1=true∧k≤t.2.2.1∧ed t=e:=by
 unfold trk
 simp only[Apx,AqB,Apf,Apb]
 constructor
 ·rintro⟨t,⟨h1,h2,h3⟩,h4⟩;exact⟨t,h1,h2,h3,h4⟩
 ·rintro⟨t,h1,h2,h3,h4⟩;exact⟨t,⟨h1,h2,h3⟩,h4⟩
theorem JX{ts:List Tie}{k k':Int}(h:k≤k'):∀ e∈trk ts k',e∈trk ts k:=by
 intro e he
 obtain⟨t,h1,h2,h3,h4⟩:=Dg.1 he
 exact Dg.2 ⟨t,h1,h2,by omega,h4⟩
noncomputable def csz(N:Nat)(l:List Edge)(v:Int):Nat:=(List.range N).countP fun(w:Nat)=>OV l v (w:Int)
theorem AN3{N:Nat}{l l':List Edge}{v v':Int}(h:∀ w:Nat,w<N→Con l v (w:Int)→Con l' v' (w:Int)):csz N l v≤csz N l' v':=by
 unfold csz
 refine List.countP_mono_left fun w hw hc => ?_
 rw[CY]at hc ⊢
 exact h w (by simpa using hw) hc
theorem AnV{N:Nat}{l:List Edge}{v:Nat}(hv:v<N):1≤csz N l (v:Int):=by
 unfold csz
 refine List.countP_pos_iff.2 ⟨v,by simpa using hv,(CY _ _ _).2 (.refl _)⟩
theorem AnU{N:Nat}{l:List Edge}{a b:Nat}(ha:a<N)(hb:b<N)(hab:a≠b)(h:Con l (a:Int) (b:Int)):2≤csz N l (a:Int):=by
 unfold csz
 rw[AE6 (P:=fun(w:Nat)=>OV l (a:Int) (w:Int)) (M:=a) ((CY _ _ _).2 (.refl _)) Aq8 (by simpa using ha)]
 have:0<(List.range N).countP (fun(w:Nat)=>OV l (a:Int) (w:Int) && !decide (w=a)):=by
  refine List.countP_pos_iff.2 ⟨b,by simpa using hb,?_⟩
  rw[Apf,CY]
  exact⟨h,by simp;omega⟩
 omega
theorem Akl{N:Nat}{l:List Edge}{e:Edge}(h:¬ Con l e.1 e.2.1):csz N (l++[e]) e.1=csz N l e.1+csz N l e.2.1:=by
 unfold csz
 have key:∀ xs:List Nat,xs.countP (fun(w:Nat)=>OV (l++[e]) e.1 (w:Int))=xs.countP (fun(w:Nat)=>OV l e.1 (w:Int))+xs.countP (fun(w:Nat)=>OV l e.2.1 (w:Int)):=by
  intro xs
  induction xs with
  |nil=>rfl
  |cons x xs ih=>
   rw[Ard,Ard,Ard,ih]
   have hs:Con (l++[e]) e.1 (x:Int)↔Con l e.1 (x:Int)∨Con l e.2.1 (x:Int):=by
    rw[Con.snoc]
    constructor
    ·rintro (h|⟨_,h⟩|⟨_,h⟩)
     ·exact .inl h
     ·exact .inr h
     ·exact .inl h
    ·rintro (h|h)
     ·exact .inl h
     ·exact .inr (.inl ⟨.refl _,h⟩)
   by_cases h1:Con l e.1 (x:Int)
   ·have h2:¬ Con l e.2.1 (x:Int):=fun h2=>h (h1.trans h2.symm)
    rw[(CY _ _ _).2 (hs.2 (.inl h1)),(CY _ _ _).2 h1,(Hw _ _ _).2 h2]
    simp only[AqI,Apo,Apr];omega
   ·by_cases h2:Con l e.2.1 (x:Int)
    ·rw[(CY _ _ _).2 (hs.2 (.inr h2)),(Hw _ _ _).2 h1,(CY _ _ _).2 h2]
     simp only[AqI,Apo,Apr];omega
    ·rw[(Hw _ _ _).2 (fun h=>(hs.1 h).elim h1 h2),(Hw _ _ _).2 h1,(Hw _ _ _).2 h2]
     simp only[Apo,Apr,Aqz]
 exact key _
end Go.Pev.Pl
end
section
namespace Go.Pev.Pl
def AB4(top:Int)(t:Tie):Tie:=(t.1,t.2.1,min top (t.2.2.1+1),t.2.2.2.1,())
def GC(t:Tie):Tie:=(t.1,t.2.1,t.2.2.1,true,())
def both(S:Int→Bool)(t:Tie):Bool:=S t.1&&S t.2.1
def Abm(S:Int→Bool)(t:Tie):Prop:=S t.1≠S t.2.1
instance (S:Int→Bool)(t:Tie):Decidable (Abm S t):=inferInstanceAs (Decidable (_≠_))
def rT(S:Int→Bool)(top i:Int)(t:Tie):Tie:=if t.2.2.2.1=true∧t.2.2.1=i∧both S t=true then AB4 top t else t
def rO(S:Int→Bool)(top i:Int)(t:Tie):Tie:=if t.2.2.2.1=false∧t.2.2.1=i∧both S t=true then AB4 top t else t
def rB(S:Int→Bool)(top i:Int)(t:Tie):Tie:=if t.2.2.1=i∧both S t=true then AB4 top t else t
theorem AId(S:Int→Bool)(top i:Int)(t:Tie):ed (rT S top i t)=ed t:=by unfold rT;split<;>rfl
theorem AiM(S:Int→Bool)(top i:Int)(t:Tie):ed (rO S top i t)=ed t:=by unfold rO;split<;>rfl
theorem Nr(S:Int→Bool)(top i:Int)(t:Tie):(rT S top i t).2.2.2.1=t.2.2.2.1:=by unfold rT;split<;>rfl
theorem ALz(S:Int→Bool)(top i:Int)(t:Tie):(rO S top i t).2.2.2.1=t.2.2.2.1:=by unfold rO;split<;>rfl
theorem ALy{S:Int→Bool}{top i:Int}{t:Tie}(h:t.2.2.1≤top):t.2.2.1≤(rT S top i t).2.2.1∧(rT S top i t).2.2.1≤top:=by
 unfold rT
 split
 ·show t.2.2.1≤min top (t.2.2.1+1)∧min top (t.2.2.1+1)≤top
  omega
 ·omega
theorem AWo{S:Int→Bool}{top i:Int}{t:Tie}(h:t.2.2.1≤top):t.2.2.1≤(rO S top i t).2.2.1∧(rO S top i t).2.2.1≤top:=by
 unfold rO
 split
 ·show t.2.2.1≤min top (t.2.2.1+1)∧min top (t.2.2.1+1)≤top
  omega
 ·omega
theorem AWn{S:Int→Bool}{top i:Int}{t:Tie}(h:t.2.2.2.1=true):rO S top i t=t:=by
 unfold rO
 rw[Apg]
 rintro⟨a,_⟩
 rw[h]at a;cases a
theorem MW{S:Int→Bool}{top i:Int}{t:Tie}(h:t.2.2.2.1=false):rT S top i t=t:=by
 unfold rT
 rw[Apg]
 rintro⟨a,_⟩
 rw[h]at a;cases a
theorem AKd{f:Tie→Tie}(k:Int)(h1:∀ t,ed (f t)=ed t)(h2:∀ t,(f t).2.2.2.1=t.2.2.2.1)(ts:List Tie)(h3:∀ t∈ts,t.2.2.2.1=true→(k≤(f t).2.2.1↔k≤t.2.2.1)):trk (ts.map f) k=trk ts k:=by
 induction ts with
 |nil=>rfl
 |cons t ts ih=>
  have:=ih fun x hx=>h3 x (by simp[hx])
  unfold trk at *
  rw[AqE,Aqo,Aqo,h2]
  have ht:=h3 t (by simp)
  cases hh:t.2.2.2.1
  ·simp only[Bool.false_and,Apo,Apr];exact this
  ·have hd:decide (k≤(f t).2.2.1)=decide (k≤t.2.2.1):=Aqs.2 (ht hh)
   rw[hd]
   simp only[Bool.true_and]
   split
   ·rw[AqE,AqE,h1,this]
   ·exact this
section
variable {N:Nat} {top:Int} {O:List Tie} {S:Int→Bool} {i:Int} {c:Int}
theorem Pk{k:Int}{e:Edge}:e∈trk (O.map (rT S top i)) k↔∃ t∈O,t.2.2.2.1=true∧k≤(rT S top i t).2.2.1∧ed t=e:=by
 rw[Dg]
 constructor
 ·rintro⟨t,ht,h1,h2,h3⟩
  obtain⟨x,hx,rfl⟩:=Apx.1 ht
  rw[Nr]at h1
  rw[AId]at h3
  exact⟨x,hx,h1,h2,h3⟩
 ·rintro⟨t,ht,h1,h2,h3⟩
  exact⟨_,Apx.2 ⟨t,ht,rfl⟩,by rw[Nr];exact h1,h2,by rw[AId];exact h3⟩
theorem Ca{k:Int}(hk:k≤i)(hit:i≤top):trk (O.map (rT S top i)) k=trk O k:=by
 refine AKd k (AId S top i) (Nr S top i) O fun t _ _ => ?_
 unfold rT
 split
 ·rename_i h
  show k≤min top (t.2.2.1+1)↔_
  omega
 ·rfl
theorem APk{k:Int}(hk:i+2≤k):trk (O.map (rT S top i)) k=trk O k:=by
 refine AKd k (AId S top i) (Nr S top i) O fun t _ _ => ?_
 unfold rT
 split
 ·rename_i h
  show k≤min top (t.2.2.1+1)↔_
  omega
 ·rfl
theorem KP(hl:∀ t∈O,t.2.2.1≤top)(k:Int):∀ e∈trk O k,e∈trk (O.map (rT S top i)) k:=by
 intro e he
 obtain⟨t,h1,h2,h3,h4⟩:=Dg.1 he
 have:=ALy (S:=S) (i:=i) (hl t h1)
 exact Pk.2 ⟨t,h1,h2,by omega,h4⟩
variable (hS:∀ a b,Con (trk O i) a b→S a=S b)
include hS
theorem Ako(hl:∀ t∈O,t.2.2.1≤top)(hit:i+1≤top){a b:Int}(h:Con (trk O i) a b)(ha:S a=true):Con (trk (O.map (rT S top i)) (i+1)) a b:=by
 have key:∀ {a b:Int},Con (trk O i) a b→S a=true→Con (trk (O.map (rT S top i)) (i+1)) a b:=by
  intro a b h
  induction h with
  |refl a=>intro _;exact .refl a
  |edge e he=>
   intro ha
   obtain⟨t,h1,h2,h3,rfl⟩:=Dg.1 he
   have hb:S t.2.1=true:=by
    have:=hS _ _ (.edge _ he)
    exact this.symm.trans ha
   have hm:ed t∈trk (O.map (rT S top i)) (i+1):=by
    refine Pk.2 ⟨t,h1,h2,?_,rfl⟩
    by_cases hlv:t.2.2.1=i
    ·unfold rT
     rw[Apk ⟨h2,hlv,by unfold both;rw[show S t.1=true from ha,hb];rfl⟩]
     show i+1≤min top (t.2.2.1+1)
     omega
    ·have:=ALy (S:=S) (i:=i) (hl t h1)
     omega
   exact .edge _ hm
  |symm h ih=>
   intro ha
   exact(ih (by rw[hS _ _ h];exact ha)).symm
  |trans h1 _ ih1 ih2=>
   intro ha
   exact(ih1 ha).trans (ih2 (by rw[← hS _ _ h1];exact ha))
 exact key h ha
theorem AT5(hit:i≤top){a b:Int}(h:Con (trk (O.map (rT S top i)) (i+1)) a b)(ha:S a=false):Con (trk O (i+1)) a b:=by
 have low:∀ {a b:Int},Con (trk (O.map (rT S top i)) (i+1)) a b→S a=S b:=fun h=>hS _ _ (by
  have:=h.sub (JX (ts:=O.map (rT S top i)) (show i≤i+1 by omega))
  rw[Ca (Asp i) hit]at this
  exact this)
 have key:∀ {a b:Int},Con (trk (O.map (rT S top i)) (i+1)) a b→S a=false→Con (trk O (i+1)) a b:=by
  intro a b h
  induction h with
  |refl a=>intro _;exact .refl a
  |edge e he=>
   intro ha
   obtain⟨t,h1,h2,h3,rfl⟩:=Pk.1 he
   refine .edge _ (Dg.2 ⟨t,h1,h2,?_,rfl⟩)
   unfold rT at h3
   rw[Apg]at h3
   ·exact h3
   ·rintro⟨_,_,hb⟩
    unfold both at hb
    rw[show S t.1=false from ha]at hb
    cases hb
  |symm h ih=>
   intro ha
   exact(ih (by rw[low h];exact ha)).symm
  |trans h1 _ ih1 ih2=>
   intro ha
   exact(ih1 ha).trans (ih2 (by rw[← low h1];exact ha))
 exact key h ha
end
end Go.Pev.Pl
end
section
namespace Go.Pev.Pl
theorem Fo.AbE{N:Nat}{l:List Edge}{e:Edge}(h:Fo N (l++[e]))(hl:∀ x∈l,InE N x)(he:InE N e):¬ Con l e.1 e.2.1:=by
 intro hc
 have h1:=Abx (N:=N) (l:=l) he
 rw[Apk ((CY _ _ _).2 hc)]at h1
 have h2:=Ak4 l hl
 unfold Fo at h
 rw[Apd,List.length_singleton]at h
 omega
theorem ZU{N:Nat}{O:List Tie}(h:∀ x∈O,InE N (ed x))(k:Int):∀ e∈trk O k,InE N e:=by
 intro e he
 obtain⟨t,h1,_,_,rfl⟩:=Dg.1 he
 exact h t h1
theorem EE(A B:List Tie)(k:Int):trk (A++B) k=trk A k++trk B k:=by
 unfold trk;rw[Aqu,AqZ]
theorem TJ(S:Int→Bool)(top i:Int)(A:List Tie)(k:Int):trk (A.map (rO S top i)) k=trk A k:=
 AKd k (AiM S top i) (ALz S top i) A fun t _ h=>by rw[AWn h]
structure Snd(N:Nat)(top:Int)(O:List Tie):Prop where
 lvl:∀ x∈O,0≤x.2.2.1∧x.2.2.1≤top
 ins:∀ x∈O,InE N (ed x)
 fo:Fo N (trk O 0)
 lie:∀ x∈O,x.2.2.2.1=false→Con (trk O x.2.2.1) x.1 x.2.1
 halv:∀ k:Nat,(k:Int)≤top→∀ v:Nat,v<N→csz N (trk O k) v≤max 1 (N/2 ^ k)
structure O5(N:Nat)(top:Int)(t:Edge)(j:Int)(O:List Tie):Prop where
 lvl:∀ x∈O,0≤x.2.2.1∧x.2.2.1≤top
 ins:∀ x∈O,InE N (ed x)
 it:InE N t
 fo:Fo N (trk O 0++[t])
 lie1:∀ x∈O,x.2.2.2.1=false→j≤x.2.2.1→Con (trk O x.2.2.1) x.1 x.2.1
 lie2:∀ x∈O,x.2.2.2.1=false→x.2.2.1<j→Con (trk O x.2.2.1++[t]) x.1 x.2.1
 halv:∀ k:Nat,(k:Int)≤top→∀ v:Nat,v<N→csz N (trk O k) v≤max 1 (N/2 ^ k)
 halt:∀ k:Nat,(k:Int)<j→(k:Int)≤top→∀ v:Nat,v<N→csz N (trk O k++[t]) v≤max 1 (N/2 ^ k)
structure QQ(N:Nat)(t:Edge)(i:Nat)(O:List Tie)(S:Int→Bool)(c:Nat):Prop where
 cN:c<N
 at_:t.1=(c:Int)∨t.2.1=(c:Int)
 side:∀ w:Nat,w<N→(S (w:Int)=true↔Con (trk O i) (c:Int) (w:Int))
 less:2*csz N (trk O i) (c:Int)≤csz N (trk O i) t.1+csz N (trk O i) t.2.1
section
variable {N:Nat} {top:Int} {t:Edge} {O:List Tie} {S:Int→Bool} {i c:Nat}
theorem QQ.closed(hL:QQ N t i O S c)(hi:∀ x∈O,InE N (ed x)):∀ a b,Con (trk O i) a b→S a=S b:=by
 intro a b h
 rcases Con.within (I:=fun a=>0≤a∧a<(N:Int)) (fun e he=>ZU hi i e he) h with rfl|⟨⟨a1,a2⟩,b1,b2⟩
 ·rfl
 ·obtain⟨u,rfl⟩:=Apl a1
  obtain⟨v,rfl⟩:=Apl b1
  have h1:=hL.side u (by omega)
  have h2:=hL.side v (by omega)
  rw[Aql,h1,h2]
  exact⟨fun q=>q.trans h,fun q=>q.trans h.symm⟩
theorem QQ.Abb(hL:QQ N t i O S c):S (c:Int)=true:=(hL.side c hL.cN).2 (.refl _)
theorem QQ.con(hL:QQ N t i O S c){a b:Int}(ia:0≤a∧a<(N:Int))(ib:0≤b∧b<(N:Int))(ha:S a=true)(hb:S b=true):Con (trk O i) a b:=by
 obtain⟨u,rfl⟩:=Apl ia.1
 obtain⟨v,rfl⟩:=Apl ib.1
 exact((hL.side u (by omega)).1 ha).symm.trans ((hL.side v (by omega)).1 hb)
variable (hG:O5 N top t ((i:Int)+1) O) (hit:(i:Int)≤top) (hL:QQ N t i O S c)
include hG
theorem O5.apart(k:Nat):¬ Con (trk O (k:Int)) t.1 t.2.1:=fun h=>hG.fo.AbE (ZU hG.ins 0) hG.it (h.sub (JX (by omega)))
include hit hL
theorem O5.half(hi1:(i:Int)+1≤top):csz N (trk O i) (c:Int)≤N/2 ^ (i+1):=by
 obtain⟨⟨a1,a2⟩,b1,b2⟩:=hG.it
 obtain⟨u,hu⟩:=Apl a1
 have hj:=Akl (N:=N) (hG.apart i)
 have hh:=hG.halt i (by omega) hit u (by omega)
 rw[← hu,hj]at hh
 have hp:=AnV (N:=N) (l:=trk O i) hL.cN
 have hl:=hL.less
 have e:N/2 ^ (i+1)=N/2 ^ i/2:=by rw[Nat.pow_succ,Nat.div_div_eq_div_mul]
 rw[e]
 omega
theorem O5.An3(k:Nat)(hk:(k:Int)≤top)(v:Nat)(hv:v<N):csz N (trk (O.map (rT S top i)) k) v≤max 1 (N/2 ^ k):=by
 have hS:=hL.closed hG.ins
 have hl:∀ x∈O,x.2.2.1≤top:=fun x hx=>(hG.lvl x hx).2
 rcases Asm k (i+1)with h|rfl|h
 ·rw[Ca (by omega) hit];exact hG.halv k hk v hv
 ·cases hsv:S (v:Int)
  ·refine AqY (AN3 fun w hw hc => ?_) (hG.halv (i+1) hk v hv)
   have:=AT5 hS hit (a:=(v:Int)) (b:=(w:Int)) (by simpa using hc) hsv
   simpa using this
  ·have hle:csz N (trk (O.map (rT S top i)) ((i+1:Nat):Int)) v≤csz N (trk O i) (c:Int):=AN3 fun w hw hc=>by
    have h1:=hc.sub (JX (ts:=O.map (rT S top i)) (show(i:Int)≤((i+1:Nat):Int) by omega))
    rw[Ca (Asp _) hit]at h1
    exact((hL.side v hv).1 hsv).trans h1
   have:=hG.half hit hL (by omega)
   omega
 ·rw[APk (by omega)];exact hG.halv k hk v hv
omit hL
theorem AB5{x:Tie}(hx:x∈O.map (rT S top i))(h:x.2.2.2.1=false):x∈O:=by
 obtain⟨y,hy,rfl⟩:=Apx.1 hx
 rw[Nr]at h
 rw[MW h];exact hy
include hL
theorem O5.ADe{x:Tie}(hx:x∈O)(h1:x.2.2.1=(i:Int))(h2:both S x=true):Con (trk (O.map (rT S top i)) (min top (x.2.2.1+1))) x.1 x.2.1:=by
 have hS:=hL.closed hG.ins
 unfold both at h2
 rw[Apf]at h2
 have hc:=hL.con (hG.ins x hx).1 (hG.ins x hx).2 h2.1 h2.2
 by_cases hi1:(i:Int)+1≤top
 ·rw[h1,Ar2 hi1]
  exact Ako hS (fun x hx=>(hG.lvl x hx).2) hi1 hc h2.1
 ·rw[h1,AsE (by omega),show top=(i:Int) by omega]
  have:=Ca (O:=O) (S:=S) (top:=top) (i:=(i:Int)) (k:=(i:Int)) (Asp _) hit
  rw[show top=(i:Int) by omega]at this
  rw[this];exact hc
theorem O5.next(hno:∀ x∈O.map (rT S top i),x.2.2.2.1=false→x.2.2.1=(i:Int)→¬ Abm S x):O5 N top t (i:Int) ((O.map (rT S top i)).map (rO S top i)):=by
 have hS:=hL.closed hG.ins
 have hl:∀ x∈O,x.2.2.1≤top:=fun x hx=>(hG.lvl x hx).2
 have hmem:∀ x∈(O.map (rT S top i)).map (rO S top i),∃ y∈O,x=rO S top i (rT S top i y):=fun x hx=>by
  obtain⟨z,hz,rfl⟩:=Apx.1 hx
  obtain⟨y,hy,rfl⟩:=Apx.1 hz
  exact⟨y,hy,rfl⟩
 have hlv:∀ y∈O,y.2.2.1≤(rO S top i (rT S top i y)).2.2.1∧(rO S top i (rT S top i y)).2.2.1≤top:=fun y hy=>by
  have h1:=ALy (S:=S) (i:=(i:Int)) (hl y hy)
  have h2:=AWo (S:=S) (i:=(i:Int)) h1.2
  omega
 have hoth:∀ x∈(O.map (rT S top i)).map (rO S top i),x.2.2.2.1=false→∃ y∈O,y.2.2.2.1=false∧x=rO S top i y:=fun x hx h=>by
  obtain⟨y,hy,rfl⟩:=hmem x hx
  rw[ALz,Nr]at h
  exact⟨y,hy,h,by rw[MW h]⟩
 refine⟨fun x hx => ?_,fun x hx => ?_,hG.it,?_,fun x hx h hj => ?_,fun x hx h hj => ?_,fun k hk v hv => ?_,fun k hk1 hk2 v hv => ?_⟩
 ·obtain⟨y,hy,rfl⟩:=hmem x hx
  have:=hlv y hy
  have:=(hG.lvl y hy).1
  omega
 ·obtain⟨y,hy,rfl⟩:=hmem x hx
  rw[AiM,AId];exact hG.ins y hy
 ·rw[TJ,Ca (by omega) hit];exact hG.fo
 ·obtain⟨y,hy,hf,rfl⟩:=hoth x hx h
  rw[TJ]
  by_cases hr:y.2.2.1=(i:Int)∧both S y=true
  ·have he:rO S top i y=AB4 top y:=by unfold rO;rw[Apk ⟨hf,hr.1,hr.2⟩]
   rw[he]
   exact hG.ADe hit hL hy hr.1 hr.2
  ·have he:rO S top i y=y:=by unfold rO;rw[Apg (fun q=>hr ⟨q.2.1,q.2.2⟩)]
   rw[he]at hj ⊢
   by_cases hi:y.2.2.1=(i:Int)
   ·have hnb:¬ both S y=true:=fun q=>hr ⟨hi,q⟩
    have hne:=hno y (Apx.2 ⟨y,hy,MW hf⟩) hf hi
    have h2:=hG.lie2 y hy hf (by omega)
    rw[hi,Ca (Asp _) hit]
    rw[hi]at h2
    unfold Abm at hne
    have hne:=Arw.1 hne
    have hfalse:S y.1=false∧S y.2.1=false:=by
     unfold both at hnb
     rw[← hne]at hnb ⊢
     cases hsy:S y.1
     ·exact⟨rfl,rfl⟩
     ·rw[hsy]at hnb;exact absurd rfl hnb
    rw[Con.snoc]at h2
    rcases h2 with h2|⟨q1,q2⟩|⟨q1,q2⟩
    ·exact h2
    ·have e1:=hS _ _ q1
     have e2:=hS _ _ q2
     rcases hL.at_ with hc|hc
     ·rw[hc,hL.Abb,hfalse.1]at e1;cases e1
     ·rw[hc,hL.Abb,hfalse.2]at e2;cases e2
    ·have e1:=hS _ _ q1
     have e2:=hS _ _ q2
     rcases hL.at_ with hc|hc
     ·rw[hc,hL.Abb,hfalse.2]at e2;cases e2
     ·rw[hc,hL.Abb,hfalse.1]at e1;cases e1
   ·exact(hG.lie1 y hy hf (by omega)).sub (KP hl _)
 ·obtain⟨y,hy,hf,rfl⟩:=hoth x hx h
  have h1:=AWo (S:=S) (i:=(i:Int)) (hl y hy)
  have he:rO S top i y=y:=by unfold rO;rw[Apg (fun q=>by have:=q.2.1;omega)]
  rw[he]at hj ⊢
  rw[TJ,Ca (by omega) hit]
  exact hG.lie2 y hy hf (by omega)
 ·rw[TJ];exact hG.An3 hit hL k hk v hv
 ·rw[TJ,Ca (by omega) hit];exact hG.halt k (by omega) hk2 v hv
theorem O5.found{A B:List Tie}{x:Tie}(hsp:O.map (rT S top i)=A++x::B)(hf:x.2.2.2.1=false)(hi:x.2.2.1=(i:Int))(hx:Abm S x):
  Snd N top (A.map (rO S top i)++GC x::B)∧Con (trk (A.map (rO S top i)++GC x::B) 0) t.1 t.2.1:=by
 have hS:=hL.closed hG.ins
 have hl:∀ x∈O,x.2.2.1≤top:=fun x hx=>(hG.lvl x hx).2
 have hxM:x∈O.map (rT S top i):=by rw[hsp];simp
 have hxO:x∈O:=AB5 hG hit hxM hf
 have hAm:∀ y∈A,y∈O.map (rT S top i):=fun y hy=>by rw[hsp];simp[hy]
 have hBm:∀ y∈B,y∈O.map (rT S top i):=fun y hy=>by rw[hsp];simp[hy]
 have hml:∀ y∈O.map (rT S top i),0≤y.2.2.1∧y.2.2.1≤top:=fun y hy=>by
  obtain⟨z,hz,rfl⟩:=Apx.1 hy
  have:=ALy (S:=S) (i:=(i:Int)) (hl z hz)
  have:=(hG.lvl z hz).1
  omega
 have hme:∀ y∈O.map (rT S top i),InE N (ed y):=fun y hy=>by
  obtain⟨z,hz,rfl⟩:=Apx.1 hy
  rw[AId];exact hG.ins z hz
 have hxt:trk [x]=fun _=>[]:=by
  funext k
  unfold trk
  rw[Aqo,hf]
  rfl
 have hat:∀ k,trk [GC x] k=if k≤(i:Int)then [ed x]else []:=by
  intro k
  unfold trk
  have q1:(GC x).2.2.1=(i:Int):=hi
  have q2:(GC x).2.2.2.1=true:=rfl
  rw[Aqo,q1,q2]
  by_cases hk:k≤(i:Int)
  ·rw[Apk hk,ApX hk];rfl
  ·rw[Apg hk,ApW hk];rfl
 have hM:∀ k,trk (O.map (rT S top i)) k=trk A k++trk B k:=by
  intro k
  rw[hsp,show A++x::B=A++([x]++B)from rfl,EE,EE,hxt,AqK]
 have hO':∀ k,trk (A.map (rO S top i)++GC x::B) k=trk A k++((if k≤(i:Int)then [ed x]else [])++trk B k):=by
  intro k
  rw[show A.map (rO S top i)++GC x::B=A.map (rO S top i)++([GC x]++B)from rfl,EE,EE,TJ,hat]
 have hsup:∀ k,∀ e∈trk (O.map (rT S top i)) k,e∈trk (A.map (rO S top i)++GC x::B) k:=by
  intro k e he
  rw[hM]at he
  rw[hO']
  rcases Apc.1 he with he|he
  ·exact Apc.2 (.inl he)
  ·exact Apc.2 (.inr (Apc.2 (.inr he)))
 have hxin:∀ k,k≤(i:Int)→ed x∈trk (A.map (rO S top i)++GC x::B) k:=by
  intro k hk
  rw[hO',Apk hk];simp
 have h2:=hG.lie2 x hxO hf (by omega)
 rw[hi]at h2
 have ht:Con (trk O i++[ed x]) t.1 t.2.1:=by
  have up:∀ {a b:Int},Con (trk O i) a b→Con (trk O i++[ed x]) a b:=fun c=>c.sub fun e he=>Apc.2 (.inl he)
  have hxe:Con (trk O i++[ed x]) x.1 x.2.1:=.edge (l:=trk O i++[ed x]) (ed x) (by simp)
  rw[Con.snoc]at h2
  rcases h2 with h2|⟨q1,q2⟩|⟨q1,q2⟩
  ·exact absurd (hS _ _ h2) hx
  ·exact((up q1).symm.trans hxe).trans (up q2).symm
  ·exact((up q2).trans hxe.symm).trans (up q1)
 have ht':∀ k,k≤(i:Int)→Con (trk (A.map (rO S top i)++GC x::B) k) t.1 t.2.1:=by
  intro k hk
  refine ht.sub fun e he => ?_
  rcases Apc.1 he with he|he
  ·exact JX hk _ (hsup _ _ (KP hl _ _ he))
  ·rw[AqG]at he;subst he;exact hxin k hk
 refine⟨⟨fun y hy => ?_,fun y hy => ?_,?_,fun y hy h => ?_,fun k hk v hv => ?_⟩,ht' 0 (by omega)⟩
 ·rcases Apc.1 hy with hy|hy
  ·obtain⟨z,hz,rfl⟩:=Apx.1 hy
   have h1:=hml z (hAm z hz)
   have:=AWo (S:=S) (i:=(i:Int)) h1.2
   omega
  ·rcases Ape.1 hy with rfl|hy
   ·exact hG.lvl x hxO
   ·exact hml y (hBm y hy)
 ·rcases Apc.1 hy with hy|hy
  ·obtain⟨z,hz,rfl⟩:=Apx.1 hy
   rw[AiM];exact hme z (hAm z hz)
  ·rcases Ape.1 hy with rfl|hy
   ·exact hG.ins x hxO
   ·exact hme y (hBm y hy)
 ·rw[hO',Apk (by omega)]
  have hM0:=hM 0
  rw[Ca (by omega) hit]at hM0
  have hp:(trk A 0++([ed x]++trk B 0)).Perm (trk O 0++[ed x]):=by
   rw[hM0,AqD]
   exact List.Perm.append_left _ Ari
  refine Fo.perm ?_ hp.symm
  have hfo:=hG.fo
  have hcc:cc N (trk O 0++[ed x])=cc N (trk O 0++[t]):=AFV fun a b=>by
   have m0:=JX (ts:=O) (show(0:Int)≤(i:Int) by omega)
   constructor
   ·intro c
    refine c.cut fun e he => ?_
    rcases Apc.1 he with he|he
    ·exact .edge _ (Apc.2 (.inl he))
    ·rw[AqG]at he;subst he
     refine h2.sub fun e he => ?_
     rcases Apc.1 he with he|he
     ·exact Apc.2 (.inl (m0 _ he))
     ·exact Apc.2 (.inr he)
   ·intro c
    refine c.cut fun e he => ?_
    rcases Apc.1 he with he|he
    ·exact .edge _ (Apc.2 (.inl he))
    ·rw[AqG]at he;subst he
     refine ht.sub fun e he => ?_
     rcases Apc.1 he with he|he
     ·exact Apc.2 (.inl (m0 _ he))
     ·exact Apc.2 (.inr he)
  unfold Fo at hfo ⊢
  rw[hcc,Apd]at *
  exact hfo
 ·-- others
  have key:∀ y:Tie,y∈O→y.2.2.2.1=false→Con (trk (A.map (rO S top i)++GC x::B) y.2.2.1) y.1 y.2.1:=by
   intro y hy h
   by_cases hle:y.2.2.1≤(i:Int)
   ·refine(hG.lie2 y hy h (by omega)).cut fun e he => ?_
    rcases Apc.1 he with he|he
    ·exact .edge _ (hsup _ _ (KP hl _ _ he))
    ·rw[AqG]at he;subst he;exact ht' _ hle
   ·exact(hG.lie1 y hy h (by omega)).sub fun e he=>hsup _ _ (KP hl _ _ he)
  rcases Apc.1 hy with hy|hy
  ·obtain⟨z,hz,rfl⟩:=Apx.1 hy
   rw[ALz]at h
   have hzO:=AB5 hG hit (hAm z hz) h
   by_cases hr:z.2.2.1=(i:Int)∧both S z=true
   ·have he:rO S top i z=AB4 top z:=by unfold rO;rw[Apk ⟨h,hr.1,hr.2⟩]
    rw[he]
    exact(hG.ADe hit hL hzO hr.1 hr.2).sub (hsup _)
   ·have he:rO S top i z=z:=by unfold rO;rw[Apg (fun q=>hr ⟨q.2.1,q.2.2⟩)]
    rw[he]
    exact key z hzO h
  ·rcases Ape.1 hy with rfl|hy
   ·cases h
   ·exact key y (AB5 hG hit (hBm y hy) h) h
 ·by_cases hki:(k:Int)≤(i:Int)
  ·refine AqY (AN3 fun w hw hc => ?_) (hG.halt k (by omega) hk v hv)
   refine hc.cut fun e he => ?_
   rw[hO',Apk hki]at he
   have hMk:=hM (k:Int)
   rw[Ca hki hit]at hMk
   rcases Apc.1 he with he|he
   ·exact .edge _ (Apc.2 (.inl (by rw[hMk];simp[he])))
   ·rcases Apc.1 he with he|he
    ·rw[AqG]at he;subst he
     refine h2.sub fun e he => ?_
     rcases Apc.1 he with he|he
     ·exact Apc.2 (.inl (JX hki _ he))
     ·exact Apc.2 (.inr he)
    ·exact .edge _ (Apc.2 (.inl (by rw[hMk];simp[he])))
  ·have:trk (A.map (rO S top i)++GC x::B) (k:Int)=trk (O.map (rT S top i)) (k:Int):=by
    rw[hO',Apg hki,hM];rfl
   rw[this]
   exact hG.An3 hit hL k hk v hv
end
theorem O5.end{N:Nat}{top:Int}{t:Edge}{O:List Tie}(h:O5 N top t 0 O):Snd N top O∧¬ Con (trk O 0) t.1 t.2.1:=by
 refine⟨⟨h.lvl,h.ins,h.fo.front (ZU h.ins 0) (fun e he=>by rw[AqG]at he;subst he;exact h.it),fun x hx hf=>h.lie1 x hx hf (h.lvl x hx).1,h.halv⟩,h.fo.AbE (ZU h.ins 0) h.it⟩
theorem Snd.other{N:Nat}{top:Int}{P Q:List Tie}{t:Tie}(h:Snd N top (P++t::Q))(ht:t.2.2.2.1=false):Snd N top (P++Q):=by
 have hm:∀ x∈P++Q,x∈P++t::Q:=fun x hx=>by
  rcases Apc.1 hx with hx|hx
  ·simp[hx]
  ·simp[hx]
 have htk:∀ k,trk (P++t::Q) k=trk (P++Q) k:=by
  intro k
  rw[show P++t::Q=P++([t]++Q)from rfl,EE,EE,EE]
  congr 1
  unfold trk
  rw[Aqo,ht]
  rfl
 refine⟨fun x hx=>h.lvl x (hm x hx),fun x hx=>h.ins x (hm x hx),by rw[← htk];exact h.fo,fun x hx hf=>by rw[← htk];exact h.lie x (hm x hx) hf,fun k hk v hv=>by rw[← htk];exact h.halv k hk v hv⟩
end Go.Pev.Pl
end
section
namespace Go.Pev.Pl
theorem Snd.below{N:Nat}{top:Nat}{O:List Tie}(h:Snd N (top:Int) O)(hN:N/2 ^ top≤1){x:Tie}(hx:x∈O)(hne:x.1≠x.2.1):x.2.2.1<(top:Int):=by
 have hl:=h.lvl x hx
 refine Aqx fun hn => ?_
 have he:x.2.2.1=(top:Int):=by omega
 obtain⟨⟨a1,a2⟩,b1,b2⟩:=h.ins x hx
 obtain⟨u,hu⟩:=Apl a1
 obtain⟨v,hv⟩:=Apl b1
 have hc:Con (trk O (top:Int)) x.1 x.2.1:=by
  cases hf:x.2.2.2.1
  ·have:=h.lie x hx hf
   rw[he]at this;exact this
  ·exact .edge (l:=trk O (top:Int)) (ed x) (Dg.2 ⟨x,hx,hf,by omega,rfl⟩)
 have hu':x.1=(u:Int):=hu
 have hv':x.2.1=(v:Int):=hv
 rw[hu',hv']at hc hne
 have h2:=AnU (N:=N) (a:=u) (b:=v) (by omega) (by omega) (by omega) hc
 have h3:=h.halv top (Asp _) u (by omega)
 omega
theorem Snd.grown{N:Nat}{top:Int}{O O':List Tie}{come:List Edge}{new:List Tie}(h:Snd N top O)(ht:0≤top)(hp:O'.Perm (O++new))(hc:∀ e∈come,InE N e)
  (hn:∀ x∈new,x.2.2.1=0∧ed x∈come) (htr:(trk O' 0).Perm (trk O 0++MA (trk O 0) come)):Snd N top O':=by
 have hmem:∀ x,x∈O'↔x∈O∨x∈new:=fun x=>by rw[hp.mem_iff,Apc]
 have hk:∀ k:Int,0<k→∀ e,e∈trk O' k↔e∈trk O k:=by
  intro k hk e
  rw[Dg,Dg]
  constructor
  ·rintro⟨t,h1,h2,h3,h4⟩
   rcases(hmem t).1 h1 with h1|h1
   ·exact⟨t,h1,h2,h3,h4⟩
   ·have:=(hn t h1).1;omega
  ·rintro⟨t,h1,h2,h3,h4⟩
   exact⟨t,(hmem t).2 (.inl h1),h2,h3,h4⟩
 have hsup:∀ k:Int,∀ e∈trk O k,e∈trk O' k:=fun k e he=>by
  obtain⟨t,h1,h2,h3,h4⟩:=Dg.1 he
  exact Dg.2 ⟨t,(hmem t).2 (.inl h1),h2,h3,h4⟩
 refine⟨fun x hx => ?_,fun x hx => ?_,?_,fun x hx hf => ?_,fun k hkt v hv => ?_⟩
 ·rcases(hmem x).1 hx with hx|hx
  ·exact h.lvl x hx
  ·have:=(hn x hx).1;omega
 ·rcases(hmem x).1 hx with hx|hx
  ·exact h.ins x hx
  ·exact hc _ (hn x hx).2
 ·refine Fo.perm ?_ htr.symm
  have h1:=OD come (trk O 0) hc
  have h2:cc N (trk O 0++come)=cc N (trk O 0++MA (trk O 0) come):=AFV fun a b=>AFE come (trk O 0)
  have h3:=h.fo
  unfold Fo at *
  rw[Apd]
  omega
 ·rcases(hmem x).1 hx with hx|hx
  ·exact(h.lie x hx hf).sub (hsup _)
  ·obtain⟨h0,he⟩:=hn x hx
   rw[h0,AOC fun e=>htr.mem_iff,← AFE]
   exact .edge (l:=trk O 0++come) (ed x) (Apc.2 (.inr he))
 ·by_cases hk0:k=0
  ·subst hk0
   have:csz N (trk O' ((0:Nat):Int)) (v:Int)≤N:=by
    unfold csz
    have:=List.countP_le_length (p:=fun(w:Nat)=>OV (trk O' ((0:Nat):Int)) (v:Int) (w:Int)) (l:=List.range N)
    rw[AqA]at this
    exact this
   simp only[Nat.pow_zero,Nat.div_one]
   omega
  ·exact AqY (AN3 fun w hw c=>c.sub fun e he=>(hk k (by omega) e).1 he) (h.halv k hkt v hv)
end Go.Pev.Pl
end
section
namespace Go.Pev.Pl
end Go.Pev.Pl
end
section
section
namespace Go.Pev.Pl
structure UF(N:Nat)(s:List Int)(c:Int→Int):Prop where
 len:s.length=N
 lo:∀ k,k<N→0≤s.getD k 0∧s.getD k 0≤(k:Int)
 par:∀ k,k<N→c (s.getD k 0)=c (k:Int)
 root:∀ k,k<N→s.getD k 0=(k:Int)→c (k:Int)=(k:Int)
 le:∀ k,k<N→0≤c (k:Int)∧c (k:Int)≤(k:Int)
theorem UF.idem{N:Nat}{s:List Int}{c:Int→Int}(h:UF N s c):∀ (m k:Nat),k≤m→k<N→c (c (k:Int))=c (k:Int):=by
 intro m
 induction m with
 |zero=>
  intro k hk hN
  have:=h.le k hN
  have e:c (k:Int)=(k:Int):=by omega
  rw[e,e]
 |succ m ih=>
  intro k hk hN
  have h1:=h.lo k hN
  by_cases hr:s.getD k 0=(k:Int)
  ·have e:=h.root k hN hr
   rw[e,e]
  ·obtain⟨j,hj⟩:=Apl h1.1
   have hp:=h.par k hN
   rw[hj]at hp
   rw[← hp]
   exact ih j (by omega) (by omega)
theorem UF.top{N:Nat}{s:List Int}{c:Int→Int}(h:UF N s c){k:Nat}(hk:k<N):s.getD (c (k:Int)).toNat 0=c (k:Int):=by
 have h1:=h.le k hk
 obtain⟨j,hj⟩:=Apl h1.1
 have hi:=h.idem k k (Apj _) hk
 rw[hj]at hi ⊢
 have hjN:j<N:=by omega
 have h2:=h.lo j hjN
 have hp:=h.par j hjN
 obtain⟨i,hi'⟩:=Apl h2.1
 rw[hi']at hp
 have h3:=h.le i (by omega)
 show s.getD j 0=_
 omega
theorem AbX(a b:Int):B7 a b=min a b:=by unfold B7;split<;>omega
theorem AbY(a b:Int):imax a b=max a b:=by unfold imax;split<;>omega
theorem KX{N i x:Nat}(h:(List.range N)[i]? = some x):x=i:=by
 rw[Apn]at h
 obtain⟨h1,h2⟩:=h
 simpa using h2.symm
def An0(c:Int→Int)(u v:Int):Int→Int:=fun x=>if c x=max (c u) (c v)then min (c u) (c v)else c x
def AlM(N:Nat)(c:Int→Int)(l:List Edge):Prop:=∀ a b,In (N:Int) a→In (N:Int) b→(c a=c b↔Con l a b)
theorem AlM.snoc{N:Nat}{c:Int→Int}{l:List Edge}{e:Edge}(h:AlM N c l)(h1:In (N:Int) e.1)(h2:In (N:Int) e.2.1):AlM N (An0 c e.1 e.2.1) (l++[e]):=by
 intro a b ia ib
 rw[Con.snoc,← h a b ia ib,← h a _ ia h1,← h _ b h2 ib,← h a _ ia h2,← h _ b h1 ib]
 unfold An0
 generalize c a=x
 generalize c b=y
 generalize c e.1=u
 generalize c e.2.1=v
 split<;>split<;>omega
end Go.Pev.Pl
end
section
namespace Go.Pev.Pl
def sh(n:Int):Prop:=0≤n∧n≤65535
instance (n:Int):Decidable (sh n):=inferInstanceAs (Decidable (_∧_))
def tw(n:Int):List Int:=[n/256,n % 256]
theorem AfK{α β:Type}(g:β→α):∀ (xs:List β) (a:List α),xs.foldl (fun a x=>a++[g x]) a=a++xs.map g:=by
 intro xs
 induction xs with
 |nil=>intro a;simp
 |cons x xs ih=>intro a;rw[Aqd,ih];simp
end Go.Pev.Pl
end
section
namespace Go.Pev.Pl
abbrev Res:=Int×Int×List Int×Unit
def val(r:Res):Prop:=(0≤r.1∧r.1≤255)∧sh r.2.1∧sh (r.2.2.1.length:Int)∧∀ x∈r.2.2.1,sh x
instance (r:Res):Decidable (val r):=inferInstanceAs (Decidable (_∧_∧_∧_))
def enc(r:Res):List Int:=r.1::(tw r.2.1++(tw (r.2.2.1.length:Int)++r.2.2.1.flatMap tw))
end Go.Pev.Pl
end
section
namespace Go.Pev.Pl
theorem AJE(a:Int):ieq a a=true:=by rw[CN];simp
end Go.Pev.Pl
end
section
namespace Go.Pev.Pl
open Go.RowKit Tok
section
variable {n:Int} {rings:List (List Int)}
theorem ATB{l:List Edge}{out:List Int}(h:FC n rings l)(hc:XP n l out){A:List Int}{u:Int}(hA:A∈rings)(iu:In n u)(hu:u∈A):hd A=cl out u:=by
 have gA:=h.fr.rg A hA
 have ih:=SO gA
 have hh:=ANH gA.2.1
 have h1:Con l u (hd A):=(h.sam u (hd A) iu ih).1 ⟨A,hA,hu,hh⟩
 have h2:=hc.least u (hd A) iu ih h1
 have h3:=hc.isin u iu
 obtain⟨K,hK,k1,k2⟩:=(h.sam u _ iu h3).2 (hc.con u iu)
 have:=h.fr.one hA hK iu.2.2.2 hu k1
 subst this
 have h4:=(Ff gA.2.1).2 _ k2
 rw[gA.2.2.1]at h4
 have:hd A=A.headD 0:=rfl
 omega
end
end Go.Pev.Pl
end
section
namespace Go.Pev.Pl
def JY(n:Nat):Int:=((@OZ idI ((n:Int),())).getD (0,())).1
theorem ApL:((List.range 65).all fun k=>decide (@OZ idI ((k:Int),())=some (JY k,())))=true:=by kernel_rfl
theorem Ao6:((List.range 65).all fun k=>decide (@AMs idI ((k:Int),())=some (JY k,())))=true:=by kernel_rfl
theorem AcV(n:Nat)(h:n≤64):OZ ((n:Int),())=some (JY n,()):=by
 rw[show OZ ((n:Int),()) = @OZ idI ((n:Int),())from Aq7 (fun i=>@OZ i ((n:Int),())) ADd]
 exact Arn (Ap3.1 ApL n (by simp;omega))
theorem ASf(n:Nat)(h:n≤64):AMs ((n:Int),())=some (JY n,()):=by
 rw[show AMs ((n:Int),()) = @AMs idI ((n:Int),())from Aq7 (fun i=>@AMs i ((n:Int),())) ADd]
 exact Arn (Ap3.1 Ao6 n (by simp;omega))
def AnZ(a b:Int):Int:=if a<b then -1 else if b<a then 1 else 0
theorem AOD(a b:Int):DY (a,b,())=some (AnZ a b,()):=by
 rw[Gl,EW]
 simp only[Ke,Kf,AJE,Aph]
 unfold AnZ
 rw[Ae,Ae]
 by_cases h:a<b
 ·rw[ApX h,Apk h]
 ·rw[ApW h,Apg h]
  by_cases h':b<a
  ·rw[ApX h',Apk h']
  ·rw[ApW h',Apg h']
theorem AmY(a b:Int):orI ([a,b],())=some (if a=0 then b else a,()):=by
 rw[AMW,AIv]
 have e:=Io (step:=Fe) (fun i=>(0,[a,b],AM [a,b],(i:Int),())) [a,b] (fun x => !decide (x=0)) (fun i=>.inl ([a,b].getD i 0,())) (.inr (.inl (0,()))) (by simp)
  (fun i x hi hx=>by
   rw[Fe,AS,AL,ApX hi]
   simp only[AW hx,Ag]
   have hi2:i<2:=hi
   rw[AP (by omega)]
   have hg:[a,b].getD i 0=x:=by rw[Apa,hx];rfl
   rw[hg]
   by_cases h:x=0
   ·simp[h]
   ·simp[h])
  (by rw[Fe,AS,AL,ApW (by omega)])
 have e':AU Fe many (0,[a,b],AM [a,b],(0:Int),())=_:=e
 rw[e']
 by_cases h:a=0
 ·by_cases h':b=0
  ·simp[h,h']
  ·simp[h,h',AsK]
 ·simp[h,AsK]
theorem AMz(p x:Tie):∃ y,Js (p,x,())=some (y,())∧ile 0 y = !decide (ahead p x):=by
 rw[X6,Kl]
 simp only[AOD,AmY]
 refine⟨_,rfl,?_⟩
 rw[An]
 by_cases h:ahead p x
 ·rw[ApX h]
  unfold ahead at h
  unfold AnZ
  rw[ApW];· rfl
  split<;>split<;>(try split)<;>omega
 ·rw[ApW h]
  unfold ahead at h
  unfold AnZ
  rw[ApX];· rfl
  split<;>split<;>(try split)<;>omega
def L9(N:Nat)(ts:List Tie)(i:Nat):Prop:=
 0≤(ts.getD i zT).1∧(ts.getD i zT).1<(ts.getD i zT).2.1∧(ts.getD i zT).2.1<(N:Int)∧0≤(ts.getD i zT).2.2.1∧(ts.getD i zT).2.2.1≤JY N∧(i=0∨ahead (ts.getD (i-1) zT) (ts.getD i zT))
instance (N:Nat)(ts:List Tie)(i:Nat):Decidable (L9 N ts i):=inferInstanceAs (Decidable (_∧_∧_∧_∧_∧_))
def trs(ts:List Tie)(k:Nat):List Edge:=(List.range k).foldl (fun a i=>if(ts.getD i zT).2.2.2.1=true then a++[ed (ts.getD i zT)]else a) []
theorem APX{α β ρ:Type}(P:β→Prop)[DecidablePred P](g:β→α→α)(fin:α→ρ)(rt:ρ):∀ (xs:List β) (a:α),walk (fun x a=>if P x then .inl (g x a)else .inr rt) fin xs a=if ∀ x∈xs,P x then fin (xs.foldl (fun a x=>g x a) a)else rt:=by
 intro xs
 induction xs with
 |nil=>intro a;simp[walk]
 |cons x xs ih=>
  intro a
  rw[walk]
  by_cases h:P x
  ·rw[Apk h]
   simp only[]
   rw[ih]
   simp[h]
  ·rw[Apg h]
   simp[h]
theorem AAS(ts:List Tie)(k:Nat):trs ts (k+1)=if(ts.getD k zT).2.2.2.1=true then trs ts k++[ed (ts.getD k zT)]else trs ts k:=by
 unfold trs
 rw[AqR,ArV]
 rfl
theorem AKc(ts:List Tie):∀ k,(trs ts k).length≤k:=by
 intro k
 induction k with
 |zero=>exact Apj _
 |succ k ih=>
  rw[AAS]
  split
  ·rw[Apd];simp;omega
  ·omega
theorem Ald(ts:List Tie)(e:Edge):∀ k,e∈trs ts k→∃ i,i<k∧e=ed (ts.getD i zT):=by
 intro k
 induction k with
 |zero=>intro h;simp[trs]at h
 |succ k ih=>
  intro h
  rw[AAS]at h
  split at h
  ·rcases Apc.1 h with h|h
   ·obtain⟨i,h1,h2⟩:=ih h;exact⟨i,by omega,h2⟩
   ·simp only[AqG]at h;exact⟨k,by omega,h⟩
  ·obtain⟨i,h1,h2⟩:=ih h;exact⟨i,by omega,h2⟩
def oks(N:Nat)(ts:List Tie):Prop:=∀ i∈List.range ts.length,L9 N ts i
instance (N:Nat)(ts:List Tie):Decidable (oks N ts):=inferInstanceAs (Decidable (∀ i∈List.range ts.length,L9 N ts i))
theorem ASi(N:Nat)(hN:N≤64)(ts:List Tie)(hs:ts.length≤400):
  AU Dh many ((N:Int),ts,JY N,ts,AM ts,(0:Int),())=some (if oks N ts then .inr (.inl ((N:Int),ts,()))else .inl (false,())):=by
 have e:=Es (step:=Dh) (fun i (_:Unit)=>((N:Int),ts,JY N,ts,AM ts,(i:Int),())) (List.range ts.length) (fun i a=>if L9 N ts i then .inl a else .inr (.inl (false,()))) (fun _=>.inr (.inl ((N:Int),ts,()))) (fun _ _=>True) (by simp;omega)
  (fun i x a hi hx _=>by
   have:=KX hx
   subst this
   rw[AqA]at hi
   have step:Dh ((N:Int),ts,JY N,ts,AM ts,(x:Int),())=if L9 N ts x then some (.inl ((N:Int),ts,JY N,ts,AM ts,((x+1:Nat):Int),()))else some (.inr (.inl (false,()))):=by
    rw[Dh,AS,AL,ApX hi]
    simp only[Lu zT hi]
    obtain⟨t,ht⟩:∃ t,ts.getD x zT=t:=⟨_,rfl⟩
    have hk:L9 N ts x↔(0≤t.1∧t.1<t.2.1∧t.2.1<(N:Int)∧0≤t.2.2.1∧t.2.2.1≤JY N∧(x=0∨ahead (ts.getD (x-1) zT) t)):=by unfold L9;rw[ht]
    rw[ht]
    rw[Ae,An,An,Ae,Ae]
    by_cases h1:t.1<0
    ·rw[ApX h1,Apg (fun h=>by obtain⟨q1,q2,q3,q4,q5,_⟩:=hk.1 h;omega)]
    rw[ApW h1]
    by_cases h2:t.2.1≤t.1
    ·rw[ApX h2,Apg (fun h=>by obtain⟨q1,q2,q3,q4,q5,_⟩:=hk.1 h;omega)]
    rw[ApW h2]
    by_cases h3:(N:Int)≤t.2.1
    ·rw[ApX h3,Apg (fun h=>by obtain⟨q1,q2,q3,q4,q5,_⟩:=hk.1 h;omega)]
    rw[ApW h3]
    by_cases h4:t.2.2.1<0
    ·rw[ApX h4,Apg (fun h=>by obtain⟨q1,q2,q3,q4,q5,_⟩:=hk.1 h;omega)]
    rw[ApW h4]
    by_cases h5:JY N<t.2.2.1
    ·rw[ApX h5,Apg (fun h=>by obtain⟨q1,q2,q3,q4,q5,_⟩:=hk.1 h;omega)]
    rw[ApW h5]
    simp only[]
    rw[AP (by omega),Ae]
    by_cases h6:x=0
    ·subst h6
     rw[ApW (by omega),Apk (hk.2 ⟨by omega,by omega,by omega,by omega,by omega,.inl rfl⟩)]
    ·rw[ApX (by omega),Ah (by omega),show((x:Int)-1)=((x-1:Nat):Int) by omega]
     simp only[Lu zT (show x-1<ts.length by omega)]
     obtain⟨y,ey,hy⟩:=AMz (ts.getD (x-1) zT) t
     have ey':Js (((ts.getD (x-1) zT).1,((ts.getD (x-1) zT).2.1,((ts.getD (x-1) zT).2.2.1,((ts.getD (x-1) zT).2.2.2.1,())))),(t.1,(t.2.1,(t.2.2.1,(t.2.2.2.1,())))),())=some (y,()):=ey
     simp only[ey',hy]
     by_cases h7:ahead (ts.getD (x-1) zT) t
     ·rw[ApX h7,Apk (hk.2 ⟨by omega,by omega,by omega,by omega,by omega,.inr h7⟩)]
      rfl
     ·rw[ApW h7,Apg (fun h=>by rcases(hk.1 h).2.2.2.2.2 with h|h;exact h6 h;exact h7 h)]
      rfl
   by_cases h:L9 N ts x
   ·rw[Apk h]at step ⊢
    refine⟨fun m' h' => ?_,fun r h'=>(by cases h')⟩
    cases h'
    exact⟨step,trivial⟩
   ·rw[Apg h]at step ⊢
    refine⟨fun m' h'=>(by cases h'),fun r h' => ?_⟩
    cases h'
    exact step)
  (fun a _=>by rw[Dh,AqA,AS,AL,ApW (by omega)]) () trivial
 have e':AU Dh many ((N:Int),ts,JY N,ts,AM ts,(0:Int),())=_:=e
 rw[e',APX (L9 N ts) (fun _ a=>a)]
 rfl
theorem Q5(N:Nat)(hN:N≤64)(ts:List Tie)(hs:ts.length≤400):
  AU Ct many ((N:Int),ts,[],(0:Int),())=some (if oks N ts then .inr (.inl ((N:Int),ts,trs ts ts.length,()))else .inl (false,())):=by
 have e:=Es (step:=Ct) (fun i (a:List Edge)=>((N:Int),ts,a,(i:Int),())) (List.range ts.length) (fun i a=>if L9 N ts i then .inl (if(ts.getD i zT).2.2.2.1=true then a++[ed (ts.getD i zT)]else a)else .inr (.inl (false,()))) (fun a=>.inr (.inl ((N:Int),ts,a,()))) (fun i a=>a.length≤i) (by simp;omega)
  (fun i x a hi hx ha=>by
   have:=KX hx
   subst this
   rw[AqA]at hi
   have step:Ct ((N:Int),ts,a,(x:Int),())=if L9 N ts x then some (.inl ((N:Int),ts,if(ts.getD x zT).2.2.2.1=true then a++[ed (ts.getD x zT)]else a,((x+1:Nat):Int),()))else some (.inr (.inl (false,()))):=by
    rw[Ct,AS,AL,ApX hi]
    simp only[Lu zT hi,AcV N hN]
    obtain⟨t,ht⟩:∃ t,ts.getD x zT=t:=⟨_,rfl⟩
    have hk:L9 N ts x↔(0≤t.1∧t.1<t.2.1∧t.2.1<(N:Int)∧0≤t.2.2.1∧t.2.2.1≤JY N∧(x=0∨ahead (ts.getD (x-1) zT) t)):=by unfold L9;rw[ht]
    rw[ht]
    rw[Ae,An,An,Ae,Ae]
    by_cases h1:t.1<0
    ·rw[ApX h1,Apg (fun h=>by obtain⟨q1,q2,q3,q4,q5,_⟩:=hk.1 h;omega)]
    rw[ApW h1]
    by_cases h2:t.2.1≤t.1
    ·rw[ApX h2,Apg (fun h=>by obtain⟨q1,q2,q3,q4,q5,_⟩:=hk.1 h;omega)]
    rw[ApW h2]
    by_cases h3:(N:Int)≤t.2.1
    ·rw[ApX h3,Apg (fun h=>by obtain⟨q1,q2,q3,q4,q5,_⟩:=hk.1 h;omega)]
    rw[ApW h3]
    by_cases h4:t.2.2.1<0
    ·rw[ApX h4,Apg (fun h=>by obtain⟨q1,q2,q3,q4,q5,_⟩:=hk.1 h;omega)]
    rw[ApW h4]
    by_cases h5:JY N<t.2.2.1
    ·rw[ApX h5,Apg (fun h=>by obtain⟨q1,q2,q3,q4,q5,_⟩:=hk.1 h;omega)]
    rw[ApW h5]
    simp only[AS]
    have hfit:fits ((a.length:Int)+(([(t.1,t.2.1,())]:List Edge).length:Int))=true:=Bj (by simp;omega)
    rw[AP (by omega),Ae]
    by_cases h6:x=0
    ·subst h6
     rw[ApW (by omega),Apk (hk.2 ⟨by omega,by omega,by omega,by omega,by omega,.inl rfl⟩)]
     cases ht4:t.2.2.2.1
     ·simp
     ·simp only[hfit]
      simp[ed,BT]
    ·rw[ApX (by omega),Ah (by omega),show((x:Int)-1)=((x-1:Nat):Int) by omega]
     simp only[Lu zT (show x-1<ts.length by omega),Ag]
     generalize ts.getD (x-1) zT=p at hk ⊢
     rw[Ae,An]
     by_cases h7:t.1<p.1
     ·rw[ApX h7,Apg (fun h=>by rcases(hk.1 h).2.2.2.2.2 with h|h|h<;>omega)]
     rw[ApW h7]
     by_cases h8:p.1=t.1
     ·rw[ApX h8]
      by_cases h9:t.2.1≤p.2.1
      ·rw[ApX h9,Apg (fun h=>by rcases(hk.1 h).2.2.2.2.2 with h|h|h<;>omega)]
      rw[ApW h9,Apk (hk.2 ⟨by omega,by omega,by omega,by omega,by omega,.inr (.inr ⟨h8,by omega⟩)⟩)]
      cases ht4:t.2.2.2.1
      ·simp
      ·simp only[hfit]
       simp[ed,BT]
     ·rw[ApW h8,Apk (hk.2 ⟨by omega,by omega,by omega,by omega,by omega,.inr (.inl (by omega))⟩)]
      cases ht4:t.2.2.2.1
      ·simp
      ·simp only[hfit]
       simp[ed,BT]
   by_cases h:L9 N ts x
   ·rw[Apk h]at step ⊢
    refine⟨fun m' h' => ?_,fun r h'=>(by cases h')⟩
    cases h'
    refine⟨step,?_⟩
    split
    ·rw[Apd];simp;omega
    ·omega
   ·rw[Apg h]at step ⊢
    refine⟨fun m' h'=>(by cases h'),fun r h' => ?_⟩
    cases h'
    exact step)
  (fun a _=>by rw[Ct,AqA,AS,AL,ApW (by omega)]) [] (Apj _)
 have e':AU Ct many ((N:Int),ts,[],(0:Int),())=_:=e
 rw[e',APX (L9 N ts) (fun i a=>if(ts.getD i zT).2.2.2.1=true then a++[ed (ts.getD i zT)]else a)]
 rfl
end Go.Pev.Pl
end
end
section
section
namespace Go.Pev.Pl
theorem AbC{N:Nat}{ts:List Tie}(hN:N≤64){i:Nat}(h:L9 N ts i):In (N:Int) (ed (ts.getD i zT)).1∧In (N:Int) (ed (ts.getD i zT)).2.1:=by
 obtain⟨q1,q2,q3,_⟩:=h
 exact⟨⟨by omega,by omega,q1,by show(ts.getD i zT).1<_;omega⟩,⟨by omega,by omega,by show 0≤(ts.getD i zT).2.1;omega,q3⟩⟩
theorem AVN{N:Nat}{ts:List Tie}(hN:N≤64)(h:oks N ts):∀ e∈trs ts ts.length,In (N:Int) e.1∧In (N:Int) e.2.1:=by
 intro e he
 obtain⟨i,hi,rfl⟩:=Ald ts e _ he
 exact AbC hN (h i (by simp[hi]))
theorem Aot{N:Nat}{ts:List Tie}(hN:N≤64)(h:oks N ts):∀ e∈ts.map ed,In (N:Int) e.1∧In (N:Int) e.2.1:=by
 intro e he
 obtain⟨t,ht,rfl⟩:=Apx.1 he
 obtain⟨i,hi,rfl⟩:=ArI ht
 have:=AbC hN (h i (by simp[hi]))
 simpa [hi]using this
theorem AX3{N:Nat}(ts:List Tie)(hs:ts.length≤400)(h:oks N ts):ADV (((N:Int),(ts,())),(0:Int),())=some (trs ts ts.length,()):=by
 rw[AI3,RM]
 have e:=Es (step:=Fg) (fun i (a:List Edge)=>((0:Int),a,ts,AM ts,(i:Int),())) (List.range ts.length) (fun i a=>.inl (if(ts.getD i zT).2.2.2.1=true then a++[ed (ts.getD i zT)]else a)) (fun a=>.inl (a,())) (fun i a=>a.length≤i) (by simp;omega)
  (fun i x a hi hx ha=>by
   refine⟨fun m' h' => ?_,fun r h'=>(by cases h')⟩
   cases h'
   have:=KX hx
   subst this
   rw[AqA]at hi
   have hlv:=(h x (by simp[hi])).2.2.2.1
   constructor
   ·rw[Fg,AS,AL,ApX hi]
    simp only[Lu zT hi,AS]
    have hfit:fits ((a.length:Int)+(([((ts.getD x zT).1,(ts.getD x zT).2.1,())]:List Edge).length:Int))=true:=Bj (by simp;omega)
    rw[AP (by omega),An,ApX hlv]
    cases ht4:(ts.getD x zT).2.2.2.1
    ·simp
    ·simp only[hfit]
     simp[ed,BT]
   ·split
    ·rw[Apd];simp;omega
    ·omega)
  (fun a _=>by rw[Fg,AqA,AS,AL,ApW (by omega)]) [] (Apj _)
 have e':AU Fg many ((0:Int),[],ts,AM ts,(0:Int),())=_:=e
 simp only[e']
 rw[CP (fun i a=>if(ts.getD i zT).2.2.2.1=true then a++[ed (ts.getD i zT)]else a)]
 rfl
def cnt(out:List Int)(N:Nat):Nat:=((List.range N).filter fun k=>decide (out.getD k 0=(k:Int))).length
theorem AQv{N:Nat}{rings:List (List Int)}{l:List Edge}{out:List Int}(h:FC (N:Int) rings l)(hc:XP (N:Int) l out):rings.length=cnt out N:=by
 have hsz:=h.fr.sz
 have hp:(rings.map hd).Perm (((List.range N).filter fun k=>decide (out.getD k 0=(k:Int))).map fun(k:Nat)=>(k:Int)):=by
  rw[AsW]
  ·intro a
   simp only[Apx,AqB,AqC,Apb]
   constructor
   ·rintro⟨A,hA,rfl⟩
    have gA:=h.fr.rg A hA
    have ih:In (N:Int) (hd A):=SO gA
    have hh:=ANH gA.2.1
    have:=ATB h hc hA ih hh
    obtain⟨_,_,a1,a2⟩:=ih
    refine⟨(hd A).toNat,⟨by omega,?_⟩,by omega⟩
    rw[show out.getD (hd A).toNat 0=cl out (hd A)from rfl,← this]
    omega
   ·rintro⟨k,⟨hk,ho⟩,rfl⟩
    have ik:In (N:Int) (k:Int):=⟨hsz.1,hsz.2,by omega,by omega⟩
    obtain⟨A,hA,hm⟩:=h.fr.cov _ ik
    refine⟨A,hA,?_⟩
    rw[ATB h hc hA ik hm]
    unfold cl
    rw[AqX];exact ho
  ·exact(ArW.2 h.fr.up).imp (fun h=>by omega)
  ·refine List.Pairwise.map _ (S:=fun a b=>a≠b) (R:=fun a b=>a≠b) (fun a b h h'=>h (by omega)) ?_
   exact(Aq8).filter _
 have:=hp.length_eq
 rw[Ap1,Ap1]at this
 exact this
theorem Oe(N:Nat)(hN:N≤64)(p:List Tie)(q:List Edge)(out:List Int)(ho:out.length=N):AU DQ many ((N:Int),p,q,out,(0:Int),(0:Int),())=some (.inl ((N:Int),p,q,(cnt out N:Int),())):=by
 have e:=Es (step:=DQ) (fun i (a:Nat)=>((N:Int),p,q,out,(a:Int),(i:Int),())) (List.range N) (fun k a=>.inl (if out.getD k 0=(k:Int)then a+1 else a)) (fun a=>.inl ((N:Int),p,q,(a:Int),())) (fun i a=>a≤i) (by simp;omega)
  (fun i x a hi hx ha=>by
   refine⟨fun m' h' => ?_,fun r h'=>(by cases h')⟩
   cases h'
   have:=KX hx
   subst this
   rw[AqA]at hi
   constructor
   ·rw[DQ,AL,ApX hi]
    simp only[Lu 0 (show x<out.length by omega),QC,Ag]
    rw[AP (by omega),AP (by omega)]
    by_cases h:out.getD x 0=(x:Int)
    ·rw[ApX h,Apk h]
    ·rw[ApW h,Apg h]
   ·split<;>omega)
  (fun a _=>by rw[DQ,AqA,AL,ApW (by omega)]) 0 (Apj _)
 have e':AU DQ many ((N:Int),p,q,out,(0:Int),(0:Int),())=_:=e
 rw[e',CP (fun k a=>if out.getD k 0=(k:Int)then a+1 else a)]
 have key:∀ (xs:List Nat) (a:Nat),xs.foldl (fun a k=>if out.getD k 0=(k:Int)then a+1 else a) a=a+(xs.filter fun k=>decide (out.getD k 0=(k:Int))).length:=by
  intro xs
  induction xs with
  |nil=>intro a;rfl
  |cons x xs ih=>
   intro a
   rw[Aqd,ih,Aqo]
   by_cases h:out.getD x 0=(x:Int)
   ·simp only[h,AqI,Apu,Api];omega
   ·simp only[h,Apr,AqJ,Apo]
 rw[key,Aqq]
 rfl
theorem AFk(n:Int)(ts:List Tie)(hl:ts.length<4611686018427387904):∃ b:Bool,G6 ((n,(ts,())),())=some (b,())∧Fh ((n,(ts,())),())=some (b,())∧(b=true→∃ N:Nat,n=(N:Int)∧1≤N∧N≤64∧ts.length≤400∧oks N ts):=by
 by_cases hn:¬ (1≤n∧n≤64)
 ·refine⟨false,?_,?_,fun h=>by cases h⟩
  ·rw[FX,Ed,Ae,Ae]
   by_cases h:n<1
   ·simp only[ApX h]
   ·simp only[ApW h,ApX (show 64<n by omega)]
  ·rw[Jr,Hj]
   simp only[VI,Ml,An]
   by_cases h:1≤n
   ·simp only[ApX h,ApW (show ¬ n≤64 by omega),Ap8]
   ·simp only[ApW h,Ap8]
 have hn:=Arw.1 hn
 obtain⟨N,rfl⟩:=Apl (show 0≤n by omega)
 have hsz:VJ ((N:Int),())=some (true,()):=by
  simp only[VI,Ml,An,ApX hn.1,ApX hn.2]
 by_cases h4:¬ ts.length≤400
 ·refine⟨false,?_,?_,fun h=>by cases h⟩
  ·rw[FX,Ed]
   simp only[Ae,AS]
   rw[ApW (show ¬ (N:Int)<1 by omega),ApW (show ¬ 64<(N:Int) by omega),ApX (show 400<(ts.length:Int) by omega)]
  ·rw[Jr,Hj]
   simp only[hsz,Aph,Ae,AS]
   rw[ApX (show 400<(ts.length:Int) by omega)]
 have h4:=Arw.1 h4
 have R:=Q5 N (by omega) ts h4
 have L:=ASi N (by omega) ts h4
 by_cases ho:¬ oks N ts
 ·rw[Apg ho]at R L
  refine⟨false,?_,?_,fun h=>by cases h⟩
  ·rw[FX,Ed]
   simp only[Ae,AS]
   rw[ApW (show ¬ (N:Int)<1 by omega),ApW (show ¬ 64<(N:Int) by omega),ApW (show ¬ 400<(ts.length:Int) by omega)]
   simp only[R]
  ·rw[Jr,Hj]
   simp only[hsz,Aph,Ae,AS,ASf N (by omega)]
   rw[ApW (show ¬ 400<(ts.length:Int) by omega)]
   rw[AS]at L
   simp only[L]
 have ho:=Arw.1 ho
 rw[Apk ho]at R L
 have hin:=AVN (show N≤64 by omega) ho
 have hlen:=AKc ts ts.length
 obtain⟨out,hc,hcl⟩:=GZ (N:Int) (trs ts ts.length) hn (by omega) hin
 rcases(AnG (N:Int) (trs ts ts.length) hn (by omega)).symm with⟨hno,_⟩|⟨_,rings,hf,hfc⟩
 ·exact absurd hin hno
 have hcount:=AQv hfc hcl
 have hol:out.length=N:=by have:=hcl.len;omega
 refine⟨decide ((cnt out N:Int)=(N:Int)-(trs ts ts.length).length),?_,?_,fun _=>⟨N,rfl,by omega,by omega,h4,ho⟩⟩
 ·rw[FX,Ed]
  simp only[Ae,AS]
  rw[ApW (show ¬ (N:Int)<1 by omega),ApW (show ¬ 64<(N:Int) by omega),ApW (show ¬ 400<(ts.length:Int) by omega)]
  simp only[R,hc,Oe N (by omega) _ _ out hol,Ag]
  rw[Ah (by omega)]
 ·rw[Jr,Hj]
  simp only[hsz,Aph,Ae,AS,ASf N (by omega)]
  rw[ApW (show ¬ 400<(ts.length:Int) by omega)]
  rw[AS]at L
  simp only[L,AX3 ts h4 ho,hf,AJE,Ag,hcount]
  rw[Ah (by omega)]
end Go.Pev.Pl
end
section
namespace Go.Pev.Pl
theorem XP.unique{N:Nat}{l:List Edge}{a b:List Int}(h1:1≤N)(h2:N≤64)(ha:XP (N:Int) l a)(hb:XP (N:Int) l b):a=b:=by
 have la:=ha.len
 have lb:=hb.len
 refine Rk (0:Int) (by omega) fun k hk => ?_
 have ik:In (N:Int) (k:Int):=⟨by omega,by omega,by omega,by omega⟩
 have e1:=ha.least _ _ ik (hb.isin _ ik) (hb.con _ ik)
 have e2:=hb.least _ _ ik (ha.isin _ ik) (ha.con _ ik)
 unfold cl at e1 e2
 rw[AqX]at e1 e2
 omega
theorem AfJ(xs:List Tie)(a:List Edge):xs.foldl (fun a x=>a++[ed x]) a=a++xs.map ed:=AfK ed xs a
theorem ADf(n:Int)(ts:List Tie)(hs:ts.length≤400)(h:Fh ((n,(ts,())),())=some (true,())):VN ((n,(ts,())),())=some (ts.map ed,()):=by
 rw[AI8,RN]
 simp only[h,Aph]
 have e:=Es (step:=Fj) (fun i (a:List Edge)=>(a,ts,AM ts,(i:Int),())) ts (fun x a=>.inl (a++[ed x])) (fun a=>.inl (a,())) (fun i a=>a.length≤i) (by omega)
  (fun i x a hi hx ha=>by
   refine⟨fun m' h' => ?_,fun r h'=>(by cases h')⟩
   cases h'
   constructor
   ·rw[Fj]
    simp only[AS]
    rw[AL,ApX hi]
    simp only[AW hx]
    rw[Bj (by simp;omega),AP (by omega)]
    rfl
   ·rw[Apd];simp;omega)
  (fun a _=>by rw[Fj,AS,AL,ApW (by omega)]) [] (Apj _)
 have e':AU Fj many ([],ts,AM ts,(0:Int),())=_:=e
 simp only[e']
 rw[CP (fun x a=>a++[ed x]),AfJ]
 rfl
def InV(N:Nat)(x:Int):Prop:=0≤x∧x<(N:Int)
instance (N:Nat)(x:Int):Decidable (InV N x):=inferInstanceAs (Decidable (_∧_))
end Go.Pev.Pl
end
section
namespace Go.Pev.Pl
end Go.Pev.Pl
end
section
namespace Go.Pev.Pl
def Y7(l:List Edge)(u v:Int):Prop:=((u,(v,())):Edge)∈l∨((v,(u,())):Edge)∈l
instance (l:List Edge)(u v:Int):Decidable (Y7 l u v):=inferInstanceAs (Decidable (_∨_))
def Ahw(N:Nat)(l:List Edge)(u:Nat):List Edge:=((List.range (N-(u+1))).filter fun i=>decide (Y7 l (u:Int) ((u+1+i:Nat):Int))).map fun(i:Nat)=>((u:Int),((u+1+i:Nat):Int),())
def He(N:Nat)(l:List Edge):List Edge:=(List.range N).flatMap fun u=>Ahw N l u
end Go.Pev.Pl
end
section
namespace Go.Pev.Pl
def Dv(N:Nat)(ts:List Tie)(l:List Edge):List Edge:=(He N l).filter fun x => !decide (x∈ts.map ed)
def ACA(l:List Tie)(t:Tie):List Tie:=l.take (l.findIdx fun x => !decide (ahead x t))++t::l.drop (l.findIdx fun x => !decide (ahead x t))
end Go.Pev.Pl
end
section
namespace Go.Pev.Pl
def valid(N:Nat)(t:Tie):Prop:=0≤t.1∧t.1<t.2.1∧t.2.1<(N:Int)∧0≤t.2.2.1∧t.2.2.1≤JY N
theorem ahead.trans{a b c:Tie}(h:ahead a b)(h':ahead b c):ahead a c:=by
 unfold ahead at *
 omega
theorem AMY(N:Nat)(ts:List Tie):oks N ts↔(∀ t∈ts,valid N t)∧ts.Pairwise ahead:=by
 constructor
 ·intro h
  have hv:∀ i,i<ts.length→L9 N ts i:=fun i hi=>h i (by simpa using hi)
  refine⟨fun t ht => ?_,?_⟩
  ·obtain⟨i,hi,rfl⟩:=ArI ht
   obtain⟨q1,q2,q3,q4,q5,_⟩:=hv i hi
   simp only[Apa,ApZ hi,AqT]at q1 q2 q3 q4 q5
   exact⟨q1,q2,q3,q4,q5⟩
  ·have key:∀ (d i:Nat),i+d+1<ts.length→ahead (ts.getD i zT) (ts.getD (i+d+1) zT):=by
    intro d
    induction d with
    |zero=>
     intro i hi
     obtain⟨_,_,_,_,_,q⟩:=hv (i+0+1) hi
     rcases q with q|q
     ·omega
     ·simpa using q
    |succ d ih=>
     intro i hi
     have h1:=ih i (by omega)
     obtain⟨_,_,_,_,_,q⟩:=hv (i+(d+1)+1) hi
     rcases q with q|q
     ·omega
     ·rw[show i+(d+1)+1-1=i+d+1 by omega]at q
      exact h1.trans q
   rw[ArK]
   intro i j hi hj hij
   have:=key (j-i-1) i (by omega)
   rw[show i+(j-i-1)+1=j by omega]at this
   simpa only[Apa,ApZ hi,ApZ hj,AqT]using this
 ·rintro⟨h1,h2⟩ i hi
  have hi:i<ts.length:=by simpa using hi
  have e:∀ j (hj:j<ts.length),ts.getD j zT=ts[j]:=fun j hj=>by
   simp only[Apa,ApZ hj,AqT]
  obtain⟨q1,q2,q3,q4,q5⟩:=h1 ts[i] (ArQ hi)
  unfold L9
  rw[e i hi]
  refine⟨q1,q2,q3,q4,q5,?_⟩
  by_cases h0:i=0
  ·exact .inl h0
  ·right
   rw[e (i-1) (by omega)]
   exact(ArK.1 h2) (i-1) i (by omega) hi (by omega)
theorem AIf(l:List Tie)(t:Tie):(ACA l t).Perm (t::l):=by
 unfold ACA
 refine List.perm_middle.trans ?_
 rw[Aqh]
theorem Ade{l:List Tie}{t:Tie}(h:l.Pairwise ahead)(hn:∀ x∈l,¬ (x.1=t.1∧x.2.1=t.2.1)):(ACA l t).Pairwise ahead:=by
 induction l with
 |nil=>simp[ACA]
 |cons a l ih=>
  rw[Aqk]at h
  have hna:=hn a (by simp)
  have hnl:∀ x∈l,¬ (x.1=t.1∧x.2.1=t.2.1):=fun x hx=>hn x (by simp[hx])
  by_cases ha:ahead a t
  ·have e:ACA (a::l) t=a::ACA l t:=by
    unfold ACA
    rw[AsK]
    simp[ha]
   rw[e,Aqk]
   refine⟨fun x hx => ?_,ih h.2 hnl⟩
   rcases Ape.1 ((AIf l t).mem_iff.1 hx)with rfl|hx
   ·exact ha
   ·exact h.1 x hx
  ·have e:ACA (a::l) t=t::a::l:=by
    unfold ACA
    rw[AsK]
    simp[ha]
   have hta:ahead t a:=by unfold ahead at *;omega
   rw[e,Aqk,Aqk]
   refine⟨fun x hx => ?_,h.1,h.2⟩
   rcases Ape.1 hx with rfl|hx
   ·exact hta
   ·exact hta.trans (h.1 x hx)
end Go.Pev.Pl
end
section
namespace Go.Pev.Pl
theorem ADP(N:Nat)(l:List Edge)(x:Edge):x∈He N l↔0≤x.1∧x.1<x.2.1∧x.2.1<(N:Int)∧Y7 l x.1 x.2.1:=by
 unfold He Ahw
 simp only[ArP,Apx,AqB,AqC,Apb]
 constructor
 ·rintro⟨u,hu,i,⟨hi,he⟩,rfl⟩
  exact⟨by show(0:Int)≤(u:Int);omega,by show(u:Int)<((u+1+i:Nat):Int);omega,by show((u+1+i:Nat):Int)<(N:Int);omega,he⟩
 ·obtain⟨a,b,⟨⟩⟩:=x
  rintro⟨h1,h2,h3,h4⟩
  simp only at h1 h2 h3 h4
  obtain⟨u,rfl⟩:=Apl h1
  obtain⟨v,rfl⟩:=Apl (show 0≤b by omega)
  refine⟨u,by omega,v-(u+1),⟨by omega,?_⟩,?_⟩
  ·rw[show u+1+(v-(u+1))=v by omega];exact h4
  ·rw[show u+1+(v-(u+1))=v by omega]
def FI(p x:Edge):Prop:=p.1<x.1∨(p.1=x.1∧p.2.1<x.2.1)
theorem Xd(N:Nat)(l:List Edge):(He N l).Pairwise FI:=by
 unfold He
 rw[List.pairwise_flatMap]
 refine⟨fun u _ => ?_,?_⟩
 ·unfold Ahw
  rw[ArW]
  refine AsR _ ?_
  refine List.pairwise_lt_range.imp fun h => ?_
  exact .inr ⟨rfl,by show((u+1+_:Nat):Int)<((u+1+_:Nat):Int);omega⟩
 ·refine List.pairwise_lt_range.imp fun h x hx y hy => ?_
  unfold Ahw at hx hy
  simp only[Apx]at hx hy
  obtain⟨i,_,rfl⟩:=hx
  obtain⟨j,_,rfl⟩:=hy
  exact .inl (by simp only;omega)
theorem Nx(N:Nat)(ts:List Tie)(l:List Edge)(x:Edge):x∈Dv N ts l↔(0≤x.1∧x.1<x.2.1∧x.2.1<(N:Int)∧Y7 l x.1 x.2.1)∧¬ x∈ts.map ed:=by
 unfold Dv
 rw[AqB,ADP]
 simp
theorem AFF(N:Nat)(ts:List Tie)(l:List Edge):(Dv N ts l).Pairwise FI:=(Xd N l).filter _
end Go.Pev.Pl
end
section
namespace Go.Pev.Pl
open Tok
instance (n v:Int):Decidable (In n v):=inferInstanceAs (Decidable (_∧_))
instance (n:Int):Decidable (Sz n):=inferInstanceAs (Decidable (_∧_))
end Go.Pev.Pl
end
section
namespace Go.Pev.Pl
instance (xs:List Int):Decidable (Rt xs):=inferInstanceAs (Decidable (_∧_∧_))
end Go.Pev.Pl
end
section
namespace Go.Pev.Pl
open Tok
noncomputable instance (n:Int) (xs:List Int):Decidable (TI n xs):=Classical.propDecidable _
end Go.Pev.Pl
end
section
namespace Go.Pev.Pl
open Tok
end Go.Pev.Pl
end
section
namespace Go.Pev.Pl
open Tok
end Go.Pev.Pl
end
section
namespace Go.Pev.Pl
open Tok
noncomputable instance (n:Int) (rings:List (List Int)):Decidable (RF n rings):=Classical.propDecidable _
noncomputable instance (n:Int) (xs:List Int):Decidable (RG n xs):=Classical.propDecidable _
end Go.Pev.Pl
end
end
section
section
namespace Go.Pev.Pl
open Tok
end Go.Pev.Pl
end
section
namespace Go.Pev.Pl
open Tok
end Go.Pev.Pl
end
section
namespace Go.Pev.Pl
open Tok
end Go.Pev.Pl
end
section
namespace Go.Pev.Pl
open Tok
end Go.Pev.Pl
end
section
namespace Go.Pev.Pl
open Go.RowKit Tok
end Go.Pev.Pl
end
section
namespace Go.Pev.Pl
open Tok
end Go.Pev.Pl
end
section
namespace Go.Pev.Pl
open Tok
end Go.Pev.Pl
end
section
namespace Go.Pev.Pl
open Tok
def sel(l:List Edge)(bs:List Bool):List Edge:=((l.zip bs).filter fun p=>p.2).map fun p=>p.1
end Go.Pev.Pl
end
section
namespace Go.Pev.Pl
open Tok
instance (n v:Int):Decidable (In n v):=inferInstanceAs (Decidable (_∧_))
instance (n:Int):Decidable (Sz n):=inferInstanceAs (Decidable (_∧_))
end Go.Pev.Pl
end
section
namespace Go.Pev.Pl
instance (xs:List Int):Decidable (Rt xs):=inferInstanceAs (Decidable (_∧_∧_))
end Go.Pev.Pl
end
section
namespace Go.Pev.Pl
open Tok
noncomputable instance (n:Int) (xs:List Int):Decidable (TI n xs):=Classical.propDecidable _
end Go.Pev.Pl
end
section
namespace Go.Pev.Pl
open Tok
noncomputable instance (n:Int) (rings:List (List Int)):Decidable (RF n rings):=Classical.propDecidable _
noncomputable instance (n:Int) (xs:List Int):Decidable (RG n xs):=Classical.propDecidable _
end Go.Pev.Pl
end
section
namespace Go.Pev.Pl
open Tok
end Go.Pev.Pl
end
section
namespace Go.Pev.Pl
open Tok
end Go.Pev.Pl
end
section
namespace Go.Pev.Pl
open Tok
end Go.Pev.Pl
end
section
namespace Go.Pev.Pl
open Tok
end Go.Pev.Pl
end
section
namespace Go.Pev.Pl
open Tok
theorem AQy{N:Nat}(h1:1≤N)(hN:N≤64){ts:List Tie}(hs:ts.length≤400)(ho:oks N ts){out:List Int}(hc:XP (N:Int) (trs ts ts.length) out):
  G6 (((N:Int),(ts,())),())=some (decide ((cnt out N:Int)=(N:Int)-(trs ts ts.length).length),()):=by
 have R:=Q5 N hN ts hs
 rw[Apk ho]at R
 have hin:=AVN hN ho
 have hlen:=AKc ts ts.length
 obtain⟨o2,e2,c2⟩:=GZ (N:Int) (trs ts ts.length) ⟨by omega,by omega⟩ (by omega) hin
 have:=XP.unique h1 hN hc c2
 subst this
 have hol:out.length=N:=by have:=hc.len;omega
 rw[FX,Ed]
 simp only[Ae,AS]
 rw[ApW (show ¬ (N:Int)<1 by omega),ApW (show ¬ 64<(N:Int) by omega),ApW (show ¬ 400<(ts.length:Int) by omega)]
 simp only[R,e2,Oe N hN _ _ out hol,Ag]
 rw[Ah (by omega)]
end Go.Pev.Pl
end
section
namespace Go.Pev.Pl
open Tok
theorem Con.perm{l l':List Edge}(h:∀ e,e∈l↔e∈l'){a b:Int}:Con l a b↔Con l' a b:=
 ⟨fun c=>c.mono fun e he=>⟨e,(h e).1 he,.inl ⟨rfl,rfl⟩⟩,fun c=>c.mono fun e he=>⟨e,(h e).2 he,.inl ⟨rfl,rfl⟩⟩⟩
theorem XP.congr{n:Int}{l l':List Edge}{out:List Int}(h:∀ a b,Con l a b↔Con l' a b)(hc:XP n l out):XP n l' out:=
 ⟨hc.len,fun a b ia ib=>(hc.same a b ia ib).trans (h a b),hc.isin,fun a ia=>(h a _).1 (hc.con a ia),fun a b ia ib c=>hc.least a b ia ib ((h a b).2 c)⟩
end Go.Pev.Pl
end
section
namespace Go.Pev.Pl
open Tok
def AIB(x:Edge)(b:Bool):Tie:=(x.1,x.2.1,0,b,())
def ZQ(ts:List Tie)(xs:List Edge)(bs:List Bool)(k:Nat):List Tie:=(List.range k).foldl (fun a i=>ACA a (AIB (xs.getD i (0,0,())) (bs.getD i false))) ts
end Go.Pev.Pl
end
section
namespace Go.Pev.Pl
open Tok
def AXl(xs:List Edge)(bs:List Bool)(k:Nat):List Tie:=(List.range k).map fun i=>AIB (xs.getD i (0,0,())) (bs.getD i false)
theorem AJ3(ts:List Tie)(xs:List Edge)(bs:List Bool)(k:Nat):ZQ ts xs bs (k+1)=ACA (ZQ ts xs bs k) (AIB (xs.getD k (0,0,())) (bs.getD k false)):=by
 unfold ZQ
 rw[AqR,ArV]
 rfl
theorem Wv(ts:List Tie)(xs:List Edge)(bs:List Bool):∀ k,(ZQ ts xs bs k).Perm (ts++AXl xs bs k):=by
 intro k
 induction k with
 |zero=>simp[ZQ,AXl]
 |succ k ih=>
  rw[AJ3]
  refine(AIf _ _).trans ?_
  unfold AXl at *
  rw[AqR,AqZ,← AqD]
  refine(List.Perm.cons _ ih).trans ?_
  exact(List.perm_append_singleton _ _).symm
end Go.Pev.Pl
end
section
namespace Go.Pev.Pl
open Tok
theorem AlI{N:Nat}{ts:List Tie}(h:oks N ts)(hv0:0≤JY N){xs:List Edge}(bs:List Bool)(hp:xs.Pairwise FI)(hx:∀ e∈xs,0≤e.1∧e.1<e.2.1∧e.2.1<(N:Int))(hn:∀ e∈xs,¬ e∈ts.map ed):oks N (ZQ ts xs bs xs.length):=by
 rw[AMY]at h ⊢
 obtain⟨h1,h2⟩:=h
 have hget:∀ i (hi:i<xs.length),xs.getD i (0,0,())=xs[i]:=fun i hi=>by
  simp only[Apa,ApZ hi,AqT]
 have hmem:∀ k,k≤xs.length→∀ t∈ZQ ts xs bs k,t∈ts∨∃ i,i<k∧t=AIB (xs.getD i (0,0,())) (bs.getD i false):=by
  intro k hk t ht
  rcases Apc.1 ((Wv ts xs bs k).mem_iff.1 ht)with h|h
  ·exact .inl h
  ·unfold AXl at h
   obtain⟨i,hi,rfl⟩:=Apx.1 h
   exact .inr ⟨i,by simpa using hi,rfl⟩
 refine⟨fun t ht => ?_,?_⟩
 ·rcases hmem _ (Apj _) t ht with h|⟨i,hi,rfl⟩
  ·exact h1 t h
  ·rw[hget i hi]
   obtain⟨q1,q2,q3⟩:=hx xs[i] (ArQ hi)
   exact⟨q1,q2,q3,by show(0:Int)≤0;omega,hv0⟩
 ·have key:∀ k,k≤xs.length→(ZQ ts xs bs k).Pairwise ahead:=by
   intro k
   induction k with
   |zero=>intro _;exact h2
   |succ k ih=>
    intro hk
    rw[AJ3]
    refine Ade (ih (by omega)) fun t ht => ?_
    rw[hget k (by omega)]
    rintro⟨e1,e2⟩
    rcases hmem k (by omega) t ht with h|⟨i,hi,rfl⟩
    ·refine hn xs[k] (ArQ (by omega)) (Apx.2 ⟨t,h,?_⟩)
     unfold ed
     rw[e1,e2]
     rfl
    ·rw[hget i (by omega)]at e1 e2
     have:=(ArK.1 hp) i k (by omega) (by omega) hi
     unfold FI at this
     simp only[AIB]at e1 e2
     omega
  exact key _ (Apj _)
end Go.Pev.Pl
end
section
namespace Go.Pev.Pl
open Tok
theorem Agw(ts:List Tie):∀ k,k≤ts.length→trs ts k=((ts.take k).filter fun t=>t.2.2.2.1).map ed:=by
 intro k
 induction k with
 |zero=>intro _;simp[trs]
 |succ k ih=>
  intro hk
  have hk':k<ts.length:=by omega
  rw[AAS,ih (by omega),Aq1 hk',Aqu,AqZ]
  simp only[Apa,ApZ hk',AqT]
  cases h:ts[k].2.2.2.1
  ·simp[h]
  ·simp[h]
theorem AaY(ts:List Tie):trs ts ts.length=(ts.filter fun t=>t.2.2.2.1).map ed:=by
 rw[Agw ts _ (Apj _),AqF]
end Go.Pev.Pl
end
section
namespace Go.Pev.Pl
open Tok
theorem AjN{xs:List Edge}{bs:List Bool}(h:bs.length=xs.length):AXl xs bs xs.length=(xs.zip bs).map fun p=>AIB p.1 p.2:=by
 unfold AXl
 apply Ar1
 ·simp[h]
 ·intro i h1 h2
  have hi:i<xs.length:=by simpa using h1
  simp[hi,show i<bs.length by omega]
theorem AlH(ts:List Tie){xs:List Edge}{bs:List Bool}(h:bs.length=xs.length):(trs (ZQ ts xs bs xs.length) (ZQ ts xs bs xs.length).length).Perm (trs ts ts.length++sel xs bs):=by
 rw[AaY,AaY]
 refine(((Wv ts xs bs xs.length).filter _).map ed).trans ?_
 rw[Aqu,AqZ,AjN h,List.filter_map,List.map_map]
 exact Asg _
theorem AlJ(ts:List Tie)(xs:List Edge)(bs:List Bool):∀ k,(ZQ ts xs bs k).length=ts.length+k:=by
 intro k
 rw[(Wv ts xs bs k).length_eq]
 simp[AXl]
end Go.Pev.Pl
end
end
section
section
namespace Go.Pev.Pl
open Tok
def An6(N:Nat)(l:List Edge):Prop:=∀ e∈l,In (N:Int) e.1∧In (N:Int) e.2.1
theorem Akp{N:Nat}(hN:N≤64)(ts:List Tie)(l:List Edge):∀ e∈Dv N ts l,In (N:Int) e.1∧In (N:Int) e.2.1:=by
 intro e he
 obtain⟨⟨a,b,c,_⟩,_⟩:=(Nx N ts l e).1 he
 exact⟨⟨by omega,by omega,a,by omega⟩,⟨by omega,by omega,by omega,c⟩⟩
end Go.Pev.Pl
end
section
namespace Go.Pev.Pl
open Tok
theorem AbW{N:Nat}(h1:1≤N)(hN:N≤64){a:Int}(h:0≤a∧a<(N:Int)):In (N:Int) a:=⟨by omega,by omega,h.1,h.2⟩
theorem Aom{N:Nat}{e:Edge}(h:In (N:Int) e.1∧In (N:Int) e.2.1):InE N e:=⟨⟨h.1.2.2.1,h.1.2.2.2⟩,⟨h.2.2.2.1,h.2.2.2.2⟩⟩
theorem Aox{N:Nat}(h1:1≤N)(hN:N≤64){l:List Edge}{out:List Int}(hc:XP (N:Int) l out):cnt out N=cc N l:=by
 unfold cnt cc
 rw[List.countP_eq_length_filter]
 congr 1
 refine Art fun k hk => ?_
 have hk:k<N:=by simpa using hk
 have ik:=AbW h1 hN (a:=(k:Int)) ⟨by omega,by omega⟩
 have hg:out.getD k 0=cl out (k:Int):=by unfold cl;rw[AqX]
 rw[hg,Aql,ArO,Hk]
 constructor
 ·intro h j hj hcn
  have:=hc.least (k:Int) (j:Int) ik (AbW h1 hN ⟨by omega,by omega⟩) hcn.symm
  omega
 ·intro h
  have a1:=hc.isin _ ik
  have a2:=hc.con _ ik
  have a3:=hc.least (k:Int) (k:Int) ik ik (.refl _)
  obtain⟨m,hm⟩:=Apl a1.2.2.1
  rw[hm]at a2 a3 ⊢
  by_cases hlt:m<k
  ·exact absurd a2.symm (h m hlt)
  ·omega
theorem FC.congr{n:Int}{rings:List (List Int)}{l l':List Edge}(h:FC n rings l)(hm:∀ e∈l,e∈l')(hc:∀ e∈l',Con l e.1 e.2.1):FC n rings l':=
 ⟨h.fr,fun a b ia ib=>(h.sam a b ia ib).trans ⟨fun c=>c.sub hm,fun c=>c.cut hc⟩,fun A hA u v ho hu=>by
  obtain⟨e,he,q⟩:=h.arcs A hA u v ho hu
  exact⟨e,hm e he,q⟩⟩
theorem AQx{N:Nat}(h1:1≤N)(hN:N≤64){ts:List Tie}(hs:ts.length≤400)(ho:oks N ts):G6 (((N:Int),(ts,())),())=some (true,())↔Fo N (trs ts ts.length):=by
 have hlen:=AKc ts ts.length
 obtain⟨o,_,c⟩:=GZ (N:Int) (trs ts ts.length) ⟨by omega,by omega⟩ (by omega) (AVN hN ho)
 rw[AQy h1 hN hs ho c,Aox h1 hN c]
 unfold Fo
 constructor
 ·intro h
  have:decide ((cc N (trs ts ts.length):Int)=(N:Int)-(trs ts ts.length).length)=true:=by injection h with h;injection h
  have:=Arn this
  omega
 ·intro h
  rw[ApX (by omega)]
end Go.Pev.Pl
end
section
namespace Go.Pev.Pl
open Tok
end Go.Pev.Pl
end
section
namespace Go.Pev.Pl.SE
open Go.Sort
def ok(_:Int×Int×Unit):Prop:=True
def okz:Int×Int×Unit:=(0,0,())
theorem UR:ok okz:=trivial
def lt(x y:Int×Int×Unit):Bool:=decide (x.1<y.1∨(x.1=y.1∧x.2.1<y.2.1))
theorem swo:SWO lt:=⟨fun x=>by simp[lt],fun x y z h1 h2=>by simp only[lt,Apb]at *;omega,fun x y z h1 h2=>by simp only[lt,Aqa]at *;omega⟩
theorem YP(a b:Int):DY (a,b,())=some (if a<b then -1 else if b<a then 1 else 0,()):=by
 rw[Gl,EW,Ke,Kf,Ke,Kf]
 simp only[CN,Ae]
 by_cases h:a<b
 ·simp[h]
 ·by_cases h2:b<a
  ·simp[h,h2]
  ·simp[h,h2]
theorem or_val(a b:Int):orI ([a,b],())=some (if a=0 then b else a,()):=by
 obtain⟨m,hm⟩:∃ m,many=m+3:=⟨many-3,by simp only[many]⟩
 rw[AMW,AIv,A3,hm]
 have i0:idx [a,b] (0:Int)=some a:=by rw[idx_eq];rfl
 have i1:idx [a,b] (1:Int)=some b:=by rw[idx_eq];rfl
 have l2:AM [a,b]=(2:Int):=rfl
 have w1:IntKind.wrap .i64 ((0:Int)+1)=1:=by rw[Ah (by omega)];rfl
 have w2:IntKind.wrap .i64 ((1:Int)+1)=2:=by rw[Ah (by omega)];rfl
 have c0:ilt (0:Int) 2=true:=by rw[Ae];rfl
 have c1:ilt (1:Int) 2=true:=by rw[Ae];rfl
 have c2:ilt (2:Int) 2=false:=by rw[Ae];rfl
 by_cases ha:a=0
 ·subst ha
  by_cases hb:b=0
  ·subst hb
   have z:ieq (0:Int) 0=true:=by rw[CN];rfl
   simp only[Aj,Fe,l2,i0,i1,w1,w2,c0,c1,c2,z,Aph,AqI]
  ·have:ieq b 0=false:=by rw[CN];simpa using hb
   have z:ieq (0:Int) 0=true:=by rw[CN];rfl
   simp only[Aj,Fe,l2,i0,i1,w1,w2,c0,c1,c2,z,this,Aph,Ap8,AqI]
 ·have:ieq a 0=false:=by rw[CN];simpa using ha
  simp only[Aj,Fe,l2,i0,i1,w1,w2,c0,c1,c2,this,ha,Ap8,Apr]
end Go.Pev.Pl.SE
end
section
namespace Go.Pev.Pl.ST
open Go.Sort
def ok(_:Int×Int×Int×Bool×Unit):Prop:=True
def okz:Int×Int×Int×Bool×Unit:=(0,0,0,false,())
theorem UR:ok okz:=trivial
def lt(x y:Int×Int×Int×Bool×Unit):Bool:=decide (x.1<y.1∨(x.1=y.1∧x.2.1<y.2.1))
theorem swo:SWO lt:=⟨fun x=>by simp[lt],fun x y z h1 h2=>by simp only[lt,Apb]at *;omega,fun x y z h1 h2=>by simp only[lt,Aqa]at *;omega⟩
theorem YP(a b:Int):DY (a,b,())=some (if a<b then -1 else if b<a then 1 else 0,()):=by
 rw[Gl,EW,Ke,Kf,Ke,Kf]
 simp only[CN,Ae]
 by_cases h:a<b
 ·simp[h]
 ·by_cases h2:b<a
  ·simp[h,h2]
  ·simp[h,h2]
theorem or_val(a b:Int):orI ([a,b],())=some (if a=0 then b else a,()):=by
 obtain⟨m,hm⟩:∃ m,many=m+3:=⟨many-3,by simp only[many]⟩
 rw[AMW,AIv,A3,hm]
 have i0:idx [a,b] (0:Int)=some a:=by rw[idx_eq];rfl
 have i1:idx [a,b] (1:Int)=some b:=by rw[idx_eq];rfl
 have l2:AM [a,b]=(2:Int):=rfl
 have w1:IntKind.wrap .i64 ((0:Int)+1)=1:=by rw[Ah (by omega)];rfl
 have w2:IntKind.wrap .i64 ((1:Int)+1)=2:=by rw[Ah (by omega)];rfl
 have c0:ilt (0:Int) 2=true:=by rw[Ae];rfl
 have c1:ilt (1:Int) 2=true:=by rw[Ae];rfl
 have c2:ilt (2:Int) 2=false:=by rw[Ae];rfl
 by_cases ha:a=0
 ·subst ha
  by_cases hb:b=0
  ·subst hb
   have z:ieq (0:Int) 0=true:=by rw[CN];rfl
   simp only[Aj,Fe,l2,i0,i1,w1,w2,c0,c1,c2,z,Aph,AqI]
  ·have:ieq b 0=false:=by rw[CN];simpa using hb
   have z:ieq (0:Int) 0=true:=by rw[CN];rfl
   simp only[Aj,Fe,l2,i0,i1,w1,w2,c0,c1,c2,z,this,Aph,Ap8,AqI]
 ·have:ieq a 0=false:=by rw[CN];simpa using ha
  simp only[Aj,Fe,l2,i0,i1,w1,w2,c0,c1,c2,this,ha,Ap8,Apr]
end Go.Pev.Pl.ST
end
section
namespace Go.Pev.Pl
open Tok
section
variable {α β:Type} [DecidableEq α]
theorem Og(es:List (α×β))(k:α)(v:β)(j:α):AR (Ad es k v) j=if j=k then some v else AR es j:=by
 induction es with
 |nil=>
  simp only[Ad,AR]
  by_cases h:k=j
  ·simp[h]
  ·simp[h,AqS h]
 |cons e es ih=>
  obtain⟨a,b⟩:=e
  simp only[Ad]
  by_cases h:a=k
  ·subst h
   simp only[AqI,AR]
   by_cases h2:a=j
   ·simp[h2]
   ·simp[h2,AqS h2]
  ·simp only[h,Apr,AR,ih]
   by_cases h2:a=j
   ·subst h2;simp[h]
   ·simp[h2]
end
def nrm(x:Edge):Edge:=(min x.1 x.2.1,max x.1 x.2.1,())
def Yz(n:Int)(x:Edge)(a:List (Edge×Int)×List Edge):(List (Edge×Int)×List Edge)⊕((Int×Unit)⊕(List Edge×Unit)⊕Unit):=
 if(nrm x).1<0∨n≤(nrm x).2.1 then .inr (.inl (10,()))else
 if(nrm x).1<(nrm x).2.1∧(AR a.1 (nrm x)).getD 0=0 then .inl (Ad a.1 (nrm x) 1,a.2++[nrm x])else .inl a
theorem AeF(n:Int)(own:List Edge):∀ (l:List Edge) (m:List (Edge×Int)) (come:List Edge),(∀ x∈l,0≤(nrm x).1∧(nrm x).2.1<n)→come.Nodup→(∀ k,(AR m k).getD 0=if k∈own∨k∈come then 1 else 0) →
  ∃ ys,walk (Yz n) (fun a=>(.inr (.inl (a.2,())):(Int×Unit)⊕(List Edge×Unit)⊕Unit)) l (m,come) = .inr (.inl (ys,()))∧ys.Nodup∧(∀ k,k∈ys↔k∈come∨(k∉own∧k.1<k.2.1∧∃ x∈l,nrm x=k))∧ys.length≤come.length+l.length:=by
 intro l
 induction l with
 |nil=>intro m come _ hn _;exact⟨come,rfl,hn,fun k=>by simp,by simp⟩
 |cons x l ih=>
  intro m come hall hn hm
  obtain⟨a1,a2⟩:=hall x (by simp)
  rw[walk]
  have hnf:Yz n x (m,come)=if(nrm x).1<(nrm x).2.1∧(AR m (nrm x)).getD 0=0 then .inl (Ad m (nrm x) 1,come++[nrm x])else .inl (m,come):=by
   unfold Yz
   rw[Apg (by omega)]
  by_cases hc:(nrm x).1<(nrm x).2.1∧(AR m (nrm x)).getD 0=0
  ·rw[hnf,Apk hc]
   have hk:=hm (nrm x)
   rw[hc.2]at hk
   have hk2:¬ (nrm x∈own∨nrm x∈come):=fun h=>by rw[Apk h]at hk;omega
   obtain⟨ys,e,h1,h2,h3⟩:=ih (Ad m (nrm x) 1) (come++[nrm x]) (fun y hy=>hall y (by simp[hy]))
    (by
     rw[Aq9]
     exact⟨hn,by simp,fun a ha b hb=>by rintro rfl;simp at hb;exact hk2 (.inr (hb▸ha))⟩)
    (fun k=>by
     rw[Og]
     by_cases hkx:k=nrm x
     ·subst hkx;simp
     ·rw[Apg hkx,hm]
      simp[hkx])
   refine⟨ys,e,h1,fun k => ?_,by rw[Apd]at h3;simp at h3 ⊢;omega⟩
   rw[h2]
   constructor
   ·rintro (h|h)
    ·rcases Apc.1 h with h|h
     ·exact .inl h
     ·rw[AqG]at h
      subst h
      exact .inr ⟨fun h=>hk2 (.inl h),hc.1,x,by simp,rfl⟩
    ·obtain⟨g1,g2,y,hy,g3⟩:=h
     exact .inr ⟨g1,g2,y,by simp[hy],g3⟩
   ·rintro (h|⟨g1,g2,y,hy,g3⟩)
    ·exact .inl (by simp[h])
    ·rcases Ape.1 hy with rfl|hy
     ·exact .inl (by simp[g3])
     ·exact .inr ⟨g1,g2,y,hy,g3⟩
  ·rw[hnf,Apg hc]
   obtain⟨ys,e,h1,h2,h3⟩:=ih m come (fun y hy=>hall y (by simp[hy])) hn hm
   refine⟨ys,e,h1,fun k => ?_,by simp;omega⟩
   rw[h2]
   constructor
   ·rintro (h|⟨g1,g2,y,hy,g3⟩)
    ·exact .inl h
    ·exact .inr ⟨g1,g2,y,by simp[hy],g3⟩
   ·rintro (h|⟨g1,g2,y,hy,g3⟩)
    ·exact .inl h
    ·rcases Ape.1 hy with rfl|hy
     ·subst g3
      have hk:=hm (nrm y)
      by_cases hin:nrm y∈own∨nrm y∈come
      ·rcases hin with h|h
       ·exact absurd h g1
       ·exact .inl h
      ·rw[Apg hin]at hk
       exact absurd ⟨g2,hk⟩ hc
     ·exact .inr ⟨g1,g2,y,hy,g3⟩
theorem AMe(n:Int):∀ (l:List Edge) (a:List (Edge×Int)×List Edge),¬ (∀ x∈l,0≤(nrm x).1∧(nrm x).2.1<n) →
  walk (Yz n) (fun a=>(.inr (.inl (a.2,())):(Int×Unit)⊕(List Edge×Unit)⊕Unit)) l a = .inl (10,()):=by
 intro l
 induction l with
 |nil=>intro a h;exact absurd (by simp) h
 |cons x l ih=>
  intro a h
  rw[walk]
  by_cases hx:(nrm x).1<0∨n≤(nrm x).2.1
  ·unfold Yz
   rw[Apk hx]
  ·have hl:¬ (∀ x∈l,0≤(nrm x).1∧(nrm x).2.1<n):=fun hl=>h fun y hy=>by
    rcases Ape.1 hy with rfl|hy
    ·exact⟨by omega,by omega⟩
    ·exact hl y hy
   have hnf:Yz n x a = .inl (if(nrm x).1<(nrm x).2.1∧(AR a.1 (nrm x)).getD 0=0 then(Ad a.1 (nrm x) 1,a.2++[nrm x])else a):=by
    unfold Yz
    rw[Apg hx]
    split<;>rfl
   rw[hnf]
   exact ih _ hl
theorem AV0{xs ys zs:List Edge}(hp:ys.Perm xs)(hy:ys.Pairwise (fun x y=>SE.lt y x=false))(hz:zs.Pairwise FI)(hzp:xs.Perm zs):ys=zs:=by
 refine Asf (le:=fun x y=>SE.lt y x=false) ?_ hy ?_ (hp.trans hzp)
 ·intro a b _ _ h1 h2
  simp only[SE.lt,Aqa]at h1 h2
  obtain⟨a1,a2,⟨⟩⟩:=a
  obtain⟨b1,b2,⟨⟩⟩:=b
  simp only at h1 h2
  have e1:a1=b1:=by omega
  have e2:a2=b2:=by omega
  rw[e1,e2]
 ·refine hz.imp fun h => ?_
  unfold FI at h
  simp only[SE.lt,Aqa]
  omega
end Go.Pev.Pl
end
section
namespace Go.Pev.Pl
open Tok
theorem Al4:∀ (xs b:List Edge),sel xs (gfl b xs)=MA b xs:=by
 intro xs
 induction xs with
 |nil=>intro b;rfl
 |cons x xs ih=>
  intro b
  have:=ih (b++[x])
  unfold sel at *
  rw[gfl,MA,List.zip_cons_cons,Aqo]
  by_cases h:OV b x.1 x.2.1=true
  ·simp[h,this]
  ·simp[h,this]
theorem Anv{N:Nat}{b xs:List Edge}(h:Fo N b)(hx:∀ e∈xs,InE N e):Fo N (b++MA b xs):=by
 have h1:=OD xs b hx
 have h2:cc N (b++xs)=cc N (b++MA b xs):=AFV fun a c=>AFE xs b
 unfold Fo at *
 rw[Apd]
 omega
theorem APo{N:Nat}(hN:N≤64):0≤JY N:=by
 have:((List.range 65).all fun k=>decide (0≤JY k))=true:=by kernel_rfl
 exact Arn (Ap3.1 this N (by simp;omega))
noncomputable def grown(N:Nat)(ts:List Tie)(l:List Edge):List Tie:=ZQ ts (Dv N ts l) (gfl (trs ts ts.length) (Dv N ts l)) (Dv N ts l).length
theorem Ae2(N:Nat)(ts:List Tie)(l:List Edge):(grown N ts l).length=ts.length+(Dv N ts l).length:=AlJ ..
theorem Ae0(N:Nat)(ts:List Tie)(l:List Edge):(trs (grown N ts l) (grown N ts l).length).Perm (trs ts ts.length++MA (trs ts ts.length) (Dv N ts l)):=by
 have:=AlH ts (xs:=Dv N ts l) (bs:=gfl (trs ts ts.length) (Dv N ts l)) (AnF _ _)
 rw[Al4]at this
 exact this
theorem Ae1{N:Nat}(hN:N≤64){ts:List Tie}(ho:oks N ts)(l:List Edge):oks N (grown N ts l):=
 AlI ho (APo hN) _ (AFF N ts l) (fun e he=>by
  obtain⟨⟨a,b,c,_⟩,_⟩:=(Nx N ts l e).1 he
  exact⟨a,b,c⟩) (fun e he=>((Nx N ts l e).1 he).2)
theorem Af4{N:Nat}(hN:N≤64)(ts:List Tie)(l:List Edge):∀ e∈Dv N ts l,InE N e:=fun e he=>Aom (Akp hN ts l e he)
theorem Aj4{N:Nat}(hN:N≤64){ts:List Tie}(h:Fo N (trs ts ts.length))(l:List Edge):Fo N (trs (grown N ts l) (grown N ts l).length):=
 (Anv h (Af4 hN ts l)).perm (Ae0 N ts l).symm
structure RG2(N:Nat)(ts:List Tie):Prop where
 h1:1≤N
 hN:N≤64
 ht:ts.length≤400
 oks:oks N ts
 fo:Fo N (trs ts ts.length)
theorem RG2.r21{N:Nat}{ts:List Tie}(h:RG2 N ts):G6 (((N:Int),(ts,())),())=some (true,()):=(AQx h.h1 h.hN h.ht h.oks).2 h.fo
theorem RG2.lr{N:Nat}{ts:List Tie}(h:RG2 N ts):Fh (((N:Int),(ts,())),())=some (true,()):=by
 obtain⟨b,h1,h2,_⟩:=AFk (N:Int) ts (by have:=h.ht;omega)
 rw[h.r21]at h1
 cases h1
 exact h2
theorem RG2.inE{N:Nat}{ts:List Tie}(h:RG2 N ts):∀ e∈ts.map ed,In (N:Int) e.1∧In (N:Int) e.2.1:=Aot h.hN h.oks
theorem RG2.grown{N:Nat}{ts:List Tie}(h:RG2 N ts){l:List Edge}(hf:ts.length+(Dv N ts l).length≤400):RG2 N (grown N ts l):=
 ⟨h.h1,h.hN,by rw[Ae2];exact hf,Ae1 h.hN h.oks l,Aj4 h.hN h.fo l⟩
end Go.Pev.Pl
end
section
namespace Go.Pev.Pl
open Tok
end Go.Pev.Pl
end
end
section
namespace Go.Pev.Pl
open Tok
theorem Alf(ts:List Tie)(k:Int):(trk ts k).length≤ts.length:=by
 unfold trk
 rw[Ap1]
 exact Arh _ _
theorem Ale(ts:List Tie)(k:Int):∀ e∈trk ts k,e∈ts.map ed:=by
 intro e he
 obtain⟨t,h1,_,_,rfl⟩:=Dg.1 he
 exact Apx.2 ⟨t,h1,rfl⟩
theorem RG2.inK{N:Nat}{ts:List Tie}(h:RG2 N ts)(k:Int):∀ e∈trk ts k,In (N:Int) e.1∧In (N:Int) e.2.1:=fun e he=>h.inE e (Ale ts k e he)
theorem RG2.ApR{N:Nat}{ts:List Tie}(h:RG2 N ts)(k:Int):(trk ts k).length≤400:=AqY (Alf ts k) h.ht
theorem RG2.ApJ{N:Nat}{ts:List Tie}(h:RG2 N ts)(k:Int):∃ out,HP ((N:Int),trk ts k,())=some (out,())∧XP (N:Int) (trk ts k) out:=by
 have:=h.ApR k
 have h1:=h.h1
 have hN:=h.hN
 exact GZ (N:Int) (trk ts k) ⟨by omega,by omega⟩ (by omega) (h.inK k)
end Go.Pev.Pl
end
section
namespace Go.Pev.Pl
open Tok
theorem RG2.tie{N:Nat}{ts:List Tie}(h:RG2 N ts){t:Tie}(ht:t∈ts):In (N:Int) t.1∧In (N:Int) t.2.1∧t.1<t.2.1∧0≤t.2.2.1∧t.2.2.1≤JY N:=by
 have h1:=((AMY N ts).1 h.oks).1 t ht
 have h2:=h.inE (ed t) (Apx.2 ⟨t,ht,rfl⟩)
 exact⟨h2.1,h2.2,h1.2.1,h1.2.2.2.1,h1.2.2.2.2⟩
end Go.Pev.Pl
end
section
namespace Go.Pev.Pl
open Tok
def Alh(N:Nat):Nat:=(JY N).toNat
end Go.Pev.Pl
end
section
namespace Go.Pev.Pl
open Tok
theorem Alg{N:Nat}(hN:N≤64):N/2 ^ Alh N≤1:=by
 have:((List.range 65).all fun k=>decide (k/2 ^ Alh k≤1))=true:=by kernel_rfl
 exact Arn (Ap3.1 this N (by simp;omega))
theorem RG2.below{N:Nat}{ts:List Tie}(h:RG2 N ts)(hs:Snd N (Alh N:Int) ts){t:Tie}(ht:t∈ts):t.2.2.1<(Alh N:Int):=
 hs.below (Alg h.hN) ht (by have:=(h.tie ht).2.2.1;omega)
end Go.Pev.Pl
end
section
namespace Go.Pev.Pl
open Tok
end Go.Pev.Pl
end
section
namespace Go.Pev.Pl
open Tok
end Go.Pev.Pl
end
section
namespace Go.Pev.Pl
open Tok
end Go.Pev.Pl
end
section
namespace Go.Pev.Pl
open Tok
theorem RG2.edP{N:Nat}{ts:List Tie}(h:RG2 N ts):(ts.map ed).Pairwise FI:=by
 rw[ArW]
 exact((AMY N ts).1 h.oks).2
theorem RG2.ApS{N:Nat}{ts:List Tie}(h:RG2 N ts):∀ e∈ts.map ed,e.1<e.2.1:=by
 intro e he
 obtain⟨t,ht,rfl⟩:=Apx.1 he
 exact(h.tie ht).2.2.1
noncomputable def Re(N:Nat)(ts:List Tie)(l:List Edge):List Edge:=(He N l).filter fun x=>decide (x∈ts.map ed)
end Go.Pev.Pl
end
section
namespace Go.Pev.Pl
open Tok
theorem AYb(N:Nat)(ts:List Tie)(l:List Edge):(Re N ts l).Pairwise FI:=(Xd N l).filter _
end Go.Pev.Pl
end
section
namespace Go.Pev.Pl
section
variable {N top:Nat} {ts w:List Tie} (hp:w.Perm ts) (hi:∀ x∈ts,InE N (ed x)) (hl:∀ t∈ts,0≤t.2.2.1∧t.2.2.1≤(top:Int)) (hfo:Fo N (trk ts 0)) (hlie:∀ x∈ts,x.2.2.2.1=false→Con (trk ts x.2.2.1) x.1 x.2.1)
include hp hi
include hl hfo hlie
end
end Go.Pev.Pl
end
section
namespace Go.Pev.Pl
open Tok
end Go.Pev.Pl
end
section
namespace Go.Pev.Pl
open Tok
def bef(x y:Tie):Prop:=y.2.2.1<x.2.2.1∨(x.2.2.1=y.2.2.1∧ahead x y)
theorem bef.trans{x y z:Tie}(h:bef x y)(h':bef y z):bef x z:=by
 unfold bef ahead at *
 omega
def Mrg(u v w:List Tie):Prop:=w.Perm (u++v)∧w.Pairwise bef
end Go.Pev.Pl
end
section
namespace Go.Pev.Pl
open Tok
noncomputable section
end
theorem Mrg.append{u1 u2 v1 v2 w1 w2:List Tie}(h1:Mrg u1 v1 w1)(h2:Mrg u2 v2 w2)(hu:(u1++u2).Pairwise bef)(hv:(v1++v2).Pairwise bef)(c1:∀ x∈u1,∀ y∈v2,bef x y)(c2:∀ y∈v1,∀ x∈u2,bef y x):Mrg (u1++u2) (v1++v2) (w1++w2):=by
 rw[AsS]at hu hv
 refine⟨?_,?_⟩
 ·refine(h1.1.append h2.1).trans ?_
  rw[AqD,AqD]
  refine List.Perm.append_left _ ?_
  rw[← AqD,← AqD]
  exact List.Perm.append_right _ Ari
 ·rw[AsS]
  refine⟨h1.2,h2.2,fun x hx y hy => ?_⟩
  have hx:=Apc.1 (h1.1.mem_iff.1 hx)
  have hy:=Apc.1 (h2.1.mem_iff.1 hy)
  rcases hx with hx|hx<;>rcases hy with hy|hy
  ·exact hu.2.2 x hx y hy
  ·exact c1 x hx y hy
  ·exact c2 x hx y hy
  ·exact hv.2.2 x hx y hy
end Go.Pev.Pl
end
section
namespace Go.Pev.Pl
open Tok
end Go.Pev.Pl
end
section
namespace Go.Pev.Pl
open Tok
end Go.Pev.Pl
end
section
namespace Go.Pev.Pl
open Tok
def lvl(ts:List Tie)(k:Int):List Tie:=ts.filter fun t=>decide (t.2.2.1=k)
end Go.Pev.Pl
end
section
namespace Go.Pev.Pl
open Tok
section
variable (n:Int) (ts:List Tie)
end
end Go.Pev.Pl
end
section
namespace Go.Pev.Pl
open Tok
def mid(f:Int→Int)(xs:List Int)(i:Nat):List Int:=(xs.take i).map f++xs.drop i
def lb(at0:List Int)(v:Int):Int:=at0.getD v.toNat 0
end Go.Pev.Pl
end
section
namespace Go.Pev.Pl
open Tok
end Go.Pev.Pl
end
section
namespace Go.Pev.Pl
open Tok
end Go.Pev.Pl
end
section
namespace Go.Pev.Pl
open Tok
end Go.Pev.Pl
end
section
namespace Go.Pev.Pl.SI
open Go.Sort
theorem GN(lt:Int→Int→Bool)(a j:Nat)(d:Array Int):(insInner lt a j d).size=d.size:=by
 induction j generalizing d with
 |zero=>rfl
 |succ j ih=>
  rw[insInner]
  split
  ·rw[ih,size_swp]
  ·rfl
end Go.Pev.Pl.SI
end
section
namespace Go.Pev.Pl.SI
open Go.Sort
theorem Cb(lt:Int→Int→Bool)(hi first:Nat):∀ (k root:Nat) (d:Array Int),hi-root=k→(siftDown lt hi first root d).size=d.size:=by
 intro k
 induction k using Nat.strongRecOn with
 |_ k ih=>
 intro root d hk
 rw[siftDown]
 split
 ·rfl
 ·split
  ·split
   ·rfl
   ·split
    ·rw[ih (hi-(2*root+2)) (by omega) _ _ rfl,size_swp]
    ·rfl
  ·split
   ·rfl
   ·rw[ih (hi-(2*root+1)) (by omega) _ _ rfl,size_swp]
theorem HY(lt:Int→Int→Bool)(hi first:Nat):∀ (k:Nat) (d:Array Int),(heapBuild lt hi first k d).size=d.size:=by
 intro k
 induction k with
 |zero=>intro d;rfl
 |succ k ih=>intro d;rw[heapBuild,ih,Cb _ _ _ _ _ _ rfl]
end Go.Pev.Pl.SI
end
section
namespace Go.Pev.Pl.SI
open Go.Sort
section
variable (d:Array Int) (a i j:Nat) (hs:d.size<4294967296) (ha:a<d.size) (hj:j<d.size)
include hs ha hj
end
theorem IU(p:Int→Bool)(d:Array Int)(j i:Nat)(hj:j<d.size)(hi:i≤d.size):scanUp p d j i≤d.size:=by
 suffices h:∀ (k i:Nat),j+1-i=k→i≤d.size→scanUp p d j i≤d.size from h _ i rfl hi
 intro k
 induction k using Nat.strongRecOn with
 |_ k ih=>
 intro i hk hi
 rw[scanUp]
 split
 ·rename_i h
  have:i≤j:=by simp at h;exact h.1
  exact ih (j+1-(i+1)) (by omega) (i+1) rfl (by omega)
 ·exact hi
end Go.Pev.Pl.SI
end
section
namespace Go.Pev.Pl.SI
open Go.Sort
theorem IV(d:Array Int)(b:Nat):∀ (k i:Nat),b-i=k→i≤b→i≤scanSorted ltInt d b i∧scanSorted ltInt d b i≤b:=by
 intro k
 induction k using Nat.strongRecOn with
 |_ k ih=>
 intro i hk hi
 rw[scanSorted]
 split
 ·rename_i h
  have:i<b:=by simp at h;exact h.1
  have:=ih (b-(i+1)) (by omega) (i+1) rfl (by omega)
  omega
 ·omega
theorem MO:∀ (j:Nat) (d:Array Int),(shiftDown ltInt j d).size=d.size:=by
 intro j
 induction j with
 |zero=>intro d;rfl
 |succ j ih=>
  intro d
  rw[shiftDown]
  split
  ·rfl
  ·rw[ih,size_swp]
theorem Ew(b:Nat):∀ (k j:Nat) (d:Array Int),b-j=k→(shiftUp ltInt b j d).size=d.size:=by
 intro k
 induction k using Nat.strongRecOn with
 |_ k ih=>
 intro j d hk
 rw[shiftUp]
 split
 ·split
  ·rfl
  ·rw[ih (b-(j+1)) (by omega) (j+1) _ rfl,size_swp]
 ·rfl
end Go.Pev.Pl.SI
end
section
namespace Go.Pev.Pl.SI
open Go.Sort
end Go.Pev.Pl.SI
end
section
namespace Go.Pev.Pl.SI
open Go.Sort
abbrev AlP:=List Int×Int×Int×Int×Bool×Bool×Unit
abbrev Zy:=AlP⊕(List Int×Unit)⊕Unit
noncomputable section
end
def Ww(d:Array Int)(a b:Nat):Zy→Prop
 |.inl (xs,x,y,l,_,_,_)=>∃ (e:Array Int) (i j:Nat),xs=e.toList∧x=(i:Int)∧y=(j:Int)∧0≤l∧l≤100∧i≤j∧j≤e.size∧e.size=d.size∧j-i<b-a∧Below ltInt i j e ∧
   ∀ R,PermIn i j e R→SortedIn ltInt i j R→PermIn a b d R∧SortedIn ltInt a b R
 |.inr (.inl (xs,_))=>∃ R:Array Int,xs=R.toList∧PermIn a b d R∧SortedIn ltInt a b R
 |.inr (.inr _)=>False
def D7(self:(List Int×Int×Int×Int×Unit)→Option ((List Int×Unit)))(m:Nat):Prop:=
 ∀ (d:Array Int) (a b:Nat) (l:Int),a≤b→b≤d.size→d.size<4294967296→0≤l→l≤100→Below ltInt a b d→2*(b-a)<m →
  ∃ R:Array Int,self (d.toList,(a:Int),(b:Int),l,())=some (R.toList,())∧PermIn a b d R∧SortedIn ltInt a b R
section
variable {self:(List Int×Int×Int×Int×Unit)→Option ((List Int×Unit))} {d:Array Int} {a b:Nat} {l:Int}
end
def sorted(xs:List Int):List Int:=xs.mergeSort (fun x y=>decide (x≤y))
end Go.Pev.Pl.SI
end
section
namespace Go.Pev.Pl
open Tok
end Go.Pev.Pl
end
section
namespace Go.Pev.Pl
open Tok
section
variable (n:Int) (a2 a3:Bool) (a4 a5 top:Int)
end
end Go.Pev.Pl
end
section
namespace Go.Pev.Pl
open Tok
def FN(x:Edge):Edge:=(min x.1 x.2.1,max x.1 x.2.1,())
abbrev WM:=List (Edge×Int)
def FL(m:WM)(x:Edge):Int:=(AR m x).getD 0
theorem Akg(o:List Edge)(m:WM)(hs:o.length<4294967296):
  ∃ a:List Edge,Hu (o,m,())=some (a,m,(((o.filter fun x => !ieq (FL m x) 0).length:Nat):Int),())∧a.take (o.filter fun x => !ieq (FL m x) 0).length=o.filter fun x => !ieq (FL m x) 0:=by
 have hp:=Afm (find:=CB) (step:=DA) ((0:Int),(0:Int),()) (fun a (w j:Nat)=>(a,m,(w:Int),(j:Int),())) (fun a (w:Nat)=>.inl (a,m,(w:Int),())) (fun i=>(o,m,(o.length:Int),(i:Int),())) (fun i=>.inl (o,m,(i:Int),())) (.inr (.inl (o,m,()))) (fun x => !ieq (FL m x) 0) o hs
  (fun a w j ha hj hw hg=>by
   unfold DA
   dsimp only
   simp (disch:=omega) only[AS,AL,ha,hj,Apu,Lu ((0:Int),(0:Int),()),QC,DW,hg,AP]
   unfold FL
   cases (!ieq ((AR m (o.getD j ((0:Int),(0:Int),()))).getD 0) 0)<;>rfl)
  (fun a w ha=>by unfold DA;dsimp only;rw[AS,AL,ApW (by omega)])
  (fun i hi=>by
   unfold CB
   dsimp only
   simp (disch:=omega) only[AL,hi,Apu,Lu ((0:Int),(0:Int),()),QC,AP]
   unfold FL
   cases ieq ((AR m (o.getD i ((0:Int),(0:Int),()))).getD 0) 0<;>rfl)
  (by unfold CB;dsimp only;rw[AL,ApW (by omega)])
 rw[O3,HD,Ou,HA]
 generalize (fun x => !ieq (FL m x) 0)=keep at *
 rcases hp with⟨h0,e⟩|⟨k,a',hk,e,e2,hl,hle,e4⟩
 ·have e':AU CB many (o,m,AM o,(0:Int),())=_:=e
  simp only[e',Ag]
  exact⟨o,by rw[h0];rfl,by rw[h0,AqF]⟩
 ·have e':AU CB many (o,m,AM o,(0:Int),())=_:=e
  obtain⟨c1,c2⟩:=AZm ((0:Int),(0:Int),()) (a:=a') (w:=(o.filter keep).length) (by omega)
  have s0:EG (Bs (o.filter keep).length (a'.length-(o.filter keep).length) ((0:Int),(0:Int),()) a') (0:Int) (((o.filter keep).length:Nat):Int)=some _:=AAt (by omega)
  have s1:EG a' (((o.filter keep).length:Nat):Int) (a'.length:Int)=some _:=Qq (by omega)
  simp only[e',Ag]
  rw[ApW (by omega),AP (by omega)]
  simp only[e2,s1,AS,Aqc,AEm,s0]
  refine⟨_,?_,c1.trans e4⟩
  rw[Aps,c2,Aqy (by omega)]
theorem AW6{N:Nat}(h1:1≤N)(hN:N≤64)(ts:List Tie)(l:List Edge)(hs:l.length<1073741824)(m:WM)(i:Nat)(x:Edge)(hi:i<l.length)(hx:l[i]? = some x)(hb:0≤FL m (FN x)∧FL m (FN x)≤(i:Int)):
  D1 ((N:Int),ts,m,l,(l.length:Int),(i:Int),())=if In (N:Int) x.1∧In (N:Int) x.2.1 then some (.inl ((N:Int),ts,Ad m (FN x) (FL m (FN x)+1),l,(l.length:Int),((i+1:Nat):Int),()))else some (.inr (.inl (10,()))):=by
 unfold D1
 dsimp only
 rw[AL,ApX hi]
 simp only[AW hx,AbX,AbY]
 have hw:IntKind.wrap .i64 (FL m (FN x)+1)=FL m (FN x)+1:=Ah (by omega)
 obtain⟨m1,m2⟩:=AXp m (FN x) (FL m (FN x)) (FL m (FN x)+1)
 unfold FL FN at m1 m2 hw
 by_cases c1:min x.1 x.2.1<0
 ·rw[Ae,ApX c1,Apg (fun q=>by have q1:=q.1.2.2.1;have q2:=q.2.2.2.1;omega)]
 ·rw[Ae,ApW c1]
  by_cases c2:(N:Int)≤max x.1 x.2.1
  ·rw[An,ApX c2,Apg (fun q=>by have q1:=q.1.2.2.2;have q2:=q.2.2.2.2;omega)]
  ·rw[An,ApW c2,Apk ⟨⟨by omega,by omega,by omega,by omega⟩,⟨by omega,by omega,by omega,by omega⟩⟩]
   simp only[m1,hw,m2,AP (show i+1<9223372036854775808 by omega)]
   rfl
theorem AW8{N:Nat}(h1:1≤N)(hN:N≤64)(ts:List Tie)(l:List Edge)(hs:l.length<1073741824):
  (¬ An6 N l∧AU D1 many ((N:Int),ts,([]:WM),l,(l.length:Int),(0:Int),())=some (.inl (10,()))) ∨
  (An6 N l∧∃ m:WM,(∀ x,FL m x=0↔x∉l.map FN)∧AU D1 many ((N:Int),ts,([]:WM),l,(l.length:Int),(0:Int),())=some (.inr (.inl ((N:Int),ts,m,())))):=by
 have key:∀ (k i:Nat) (m:WM) (cnt:Nat),i+k=l.length→k<cnt→(∀ x,0≤FL m x∧FL m x≤(i:Int)∧(FL m x=0↔x∉(l.take i).map FN)) →
   ((∃ x∈l.drop i,¬ (In (N:Int) x.1∧In (N:Int) x.2.1))∧Aj D1 cnt ((N:Int),ts,m,l,(l.length:Int),(i:Int),())=some (.inl (10,()))) ∨
   ((∀ x∈l.drop i,In (N:Int) x.1∧In (N:Int) x.2.1)∧∃ m':WM,(∀ x,FL m' x=0↔x∉l.map FN)∧Aj D1 cnt ((N:Int),ts,m,l,(l.length:Int),(i:Int),())=some (.inr (.inl ((N:Int),ts,m',())))):=by
  intro k
  induction k with
  |zero=>
   intro i m cnt hi hc hm
   obtain⟨cnt,rfl⟩:∃ c,cnt=c+1:=⟨cnt-1,by omega⟩
   right
   have:i=l.length:=by omega
   subst this
   refine⟨fun x hx=>(by rw[List.drop_length]at hx;cases hx),m,fun x => ?_,?_⟩
   ·have:=(hm x).2.2
    rwa [AqF]at this
   ·unfold D1
    rw[Aj]
    dsimp only
    rw[AL,ApW (by omega)]
  |succ k ih=>
   intro i m cnt hi hc hm
   obtain⟨cnt,rfl⟩:∃ c,cnt=c+1:=⟨cnt-1,by omega⟩
   have hi':i<l.length:=by omega
   have hx:l[i]? = some l[i]:=ApZ hi'
   have hdr:l.drop i=l[i]::l.drop (i+1):=AqL hi'
   have htk:l.take (i+1)=l.take i++[l[i]]:=Aq1 hi'
   rw[hdr]
   generalize hxe:l[i]=x at *
   have hb:=hm (FN x)
   obtain⟨b1,b2,_⟩:=hb
   rw[Aj,AW6 h1 hN ts l hs m i x hi' hx ⟨b1,b2⟩]
   by_cases hin:In (N:Int) x.1∧In (N:Int) x.2.1
   ·rw[Apk hin]
    have hst:∀ y,FL (Ad m (FN x) (FL m (FN x)+1)) y=if y=FN x then FL m (FN x)+1 else FL m y:=by
     intro y
     unfold FL
     rw[AYB]
     split<;>rfl
    have:=ih (i+1) (Ad m (FN x) (FL m (FN x)+1)) cnt (by omega) (by omega) (fun y=>by
     rw[hst]
     obtain⟨d1,d2,d3⟩:=hm y
     rw[htk,AqZ,Apc]
     by_cases e:y=FN x
     ·rw[Apk e]
      refine⟨by omega,by omega,⟨fun q=>by omega,fun q=>absurd (.inr (by simp[e])) q⟩⟩
     ·rw[Apg e]
      refine⟨d1,by omega,d3.trans ⟨fun q hh => ?_,fun q hh=>q (.inl hh)⟩⟩
      rcases hh with hh|hh
      ·exact q hh
      ·exact e (by simpa using hh))
    rcases this with⟨⟨y,hy1,hy2⟩,h3⟩|⟨h2,h3⟩
    ·exact .inl ⟨⟨y,by simp[hy1],hy2⟩,h3⟩
    ·refine .inr ⟨fun y hy => ?_,h3⟩
     rcases Ape.1 hy with rfl|hy
     ·exact hin
     ·exact h2 y hy
   ·rw[Apg hin]
    exact .inl ⟨⟨x,by simp,hin⟩,rfl⟩
 have hz:∀ x:Edge,FL ([]:WM) x=0:=fun _=>rfl
 have:=key l.length 0 [] many (by omega) (by simp only[many];omega) (fun x=>by rw[hz];simp)
 rw[AsL]at this
 rw[A3]
 rcases this with⟨⟨x,hx,hn⟩,e⟩|⟨h,e⟩
 ·exact .inl ⟨fun q=>hn (q x hx),e⟩
 ·exact .inr ⟨h,e⟩
theorem Adq{N:Nat}{ts:List Tie}(h:RG2 N ts)(l:List Edge)(hs:l.length<1073741824):
  ARL (((N:Int),(ts,())),l,())=some (if ∀ e∈l,In (N:Int) e.1∧In (N:Int) e.2.1 then(Re N ts l,0,())else([],10,())):=by
 have ht:=h.ht
 rw[ARK,Zc]
 simp only[h.lr,Aph,AS]
 rcases AW8 h.h1 h.hN ts l hs with⟨hn,e⟩|⟨hall,m,hm,e⟩
 ·rw[Apg (show ¬ ∀ e∈l,In (N:Int) e.1∧In (N:Int) e.2.1 from hn)]
  simp only[e]
 ·rw[Apk (show ∀ e∈l,In (N:Int) e.1∧In (N:Int) e.2.1 from hall)]
  obtain⟨a,e1,e2⟩:=Akg (ts.map ed) m (by rw[Ap1];omega)
  simp only[e,ADf (N:Int) ts h.ht h.lr,e1,Bv,AEm,e2]
  congr 2
  have hf:((ts.map ed).filter fun x => !ieq (FL m x) 0)=(ts.map ed).filter fun x=>decide (x∈l.map FN):=by
   refine Art fun x _ => ?_
   rw[Ag,Aql,ArG,Aqa,ArO,hm x]
   exact Arw
  rw[hf]
  have p1:((ts.map ed).filter fun x=>decide (x∈l.map FN)).Pairwise FI:=h.edP.filter _
  have p2:=AYb N ts l
  have hmem:∀ x:Edge,x∈((ts.map ed).filter fun x=>decide (x∈l.map FN))↔x∈Re N ts l:=by
   intro x
   unfold Re
   rw[AqB,AqB,ADP,ArO,ArO]
   have norm:∀ y:Edge,x=FN y→x.1<x.2.1→x=y∨x=(y.2.1,y.1,()):=by
    rintro⟨a,b,⟨⟩⟩ rfl hlt
    unfold FN at hlt ⊢
    simp only at hlt ⊢
    rcases Int.lt_or_le a b with q|q
    ·left;rw[AsE (by omega),AsU (by omega)]
    ·right;rw[Ar2 (by omega),Ase (by omega)]
   constructor
   ·rintro⟨q1,q2⟩
    have hlt:=h.ApS x q1
    obtain⟨i1,i2⟩:=h.inE x q1
    refine⟨⟨i1.2.2.1,hlt,i2.2.2.2,?_⟩,q1⟩
    obtain⟨y,hy,hyx⟩:=Apx.1 q2
    unfold Y7
    rcases norm y hyx.symm hlt with rfl|hh
    ·exact .inl hy
    ·refine .inr ?_
     rw[hh]
     exact hy
   ·rintro⟨⟨q1,q2,q3,q4⟩,q5⟩
    refine⟨q5,Apx.2 ?_⟩
    obtain⟨a,b,⟨⟩⟩:=x
    unfold FN
    simp only at q2
    rcases q4 with q4|q4
    ·exact⟨_,q4,by simp only;rw[AsE (by omega),AsU (by omega)]⟩
    ·exact⟨_,q4,by simp only;rw[Ar2 (by omega),Ase (by omega)]⟩
  have asym:∀ a b:Edge,FI a b→FI b a→False:=fun a b q1 q2=>by unfold FI at *;omega
  have nd1:((ts.map ed).filter fun x=>decide (x∈l.map FN)).Nodup:=p1.imp fun {a b} hh=>by rintro rfl;exact asym _ _ hh hh
  have nd2:(Re N ts l).Nodup:=p2.imp fun {a b} hh=>by rintro rfl;exact asym _ _ hh hh
  exact Asf (le:=FI) (fun a b _ _ q1 q2=>(asym a b q1 q2).elim) p1 p2 ((AsW nd1 nd2).2 hmem)
end Go.Pev.Pl
end
section
namespace Go.Pev.Pl
open Tok
theorem Acl(x y:Tie):(ieq x.1 y.1&&(ieq x.2.1 y.2.1&&(ieq x.2.2.1 y.2.2.1&&((x.2.2.2.1==y.2.2.2.1)&&true))))=decide (x=y):=by
 obtain⟨a,b,c,d,⟨⟩⟩:=x
 obtain⟨a',b',c',d',⟨⟩⟩:=y
 simp only[Ag]
 rw[Aql]
 simp only[Apf,ArO,ArJ,Apy,Arr]
theorem AV7(n m:Int)(xs ys:List Tie)(hs:xs.length<4611686018427387904):Tq ((n,(xs,())),(m,(ys,())),())=some (decide (n=m∧xs=ys),()):=by
 rw[AIQ,Qx]
 simp only[ASs]
 rw[Ag]
 by_cases hn:n=m
 ·rw[ApX hn]
  simp only[Aph]
  by_cases hl:xs.length=ys.length
  ·rw[ApX hl]
   have e:=Ahf (step:=Ec) (fun i=>(n,xs,m,ys,(i:Int),())) xs.length (fun i => !decide (xs.getD i zT=ys.getD i zT)) (fun _=>.inl (false,())) (.inr (.inl ())) (by omega)
    (fun i hi=>by
     have hx:xs[i]? = some xs[i]:=ApZ hi
     have hy:ys[i]? = some (ys[i]'(by omega)):=ApZ (by omega)
     have gx:xs.getD i zT=xs[i]:=by simp[hi]
     have gy:ys.getD i zT=ys[i]'(by omega):=by simp[show i<ys.length by omega]
     rw[Ec,AS,AL,ApX hi]
     simp only[AW hx,AW hy,Acl,gx,gy]
     rw[AP (by omega)]
     by_cases he:xs[i]=ys[i]'(by omega)
     ·simp[he]
     ·simp[he])
    (by rw[Ec,AS,AL,ApW (by omega)])
   rcases e with⟨k,k1,k2,_,k4⟩|⟨k1,k2⟩
   ·have k4':AU Ec many (n,xs,m,ys,(0:Int),())=_:=k4
    simp only[Aph,k4']
    rw[ApW]
    rintro⟨_,rfl⟩
    simp at k2
   ·have k2':AU Ec many (n,xs,m,ys,(0:Int),())=_:=k2
    simp only[Aph,k2']
    rw[ApX]
    exact⟨hn,Rk zT hl fun j hj=>by simpa using k1 j hj⟩
  ·rw[ApW hl]
   simp only[Ap8]
   rw[ApW]
   rintro⟨_,rfl⟩
   exact hl rfl
 ·rw[ApW hn]
  simp only[Ap8]
  rw[ApW]
  exact fun h=>hn h.1
end Go.Pev.Pl
end
section
namespace Go.Pev.Pl.SE
open Go.Sort
theorem Wd{x y:Int×Int×Unit}(_:ok x)(_:ok y):∃ c,Ak (x,y,())=some (c,())∧ilt c (0:Int)=lt x y:=by
 rw[YB,LA]
 simp only[YP,or_val,Ae,lt]
 refine⟨_,rfl,?_⟩
 apply Aqs.2
 by_cases h1:x.1<y.1
 ·simp[h1]
 ·by_cases h2:y.1<x.1
  ·have h3:¬ x.1=y.1:=by omega
   simp[h1,h2,h3]
  ·have h3:x.1=y.1:=by omega
   by_cases h4:x.2.1<y.2.1
   ·simp[h3,h4]
   ·by_cases h5:y.2.1<x.2.1
    ·simp[h3,h4,h5]
    ·simp[h3,h4,h5]
noncomputable def S:SG.SP (Int×Int×Unit):=⟨((0:Int),((0:Int),())),Ak,ok,okz,UR,lt,swo,fun h1 h2=>Wd h1 h2⟩
theorem Jc(xs:List (Int×Int×Unit))(h:xs.length<4294967296)(hok:∀ x∈xs,ok x):∃ ys,AQE (xs,())=some (ys,())∧ys.Perm xs∧ys.Pairwise fun x y=>lt y x=false:=SG.Jc S xs h hok
end Go.Pev.Pl.SE
namespace Go.Pev.Pl
open Tok
section
variable {α β:Type} [DecidableEq α]
end
theorem ASj(l:List Edge)(n:Int)(ts:List Tie)(own:List Edge)(hs:own.length<1073741824):
  ∃ m:List (Edge×Int),AU Ik many (l,n,ts,([]:List (Edge×Int)),own,AM own,(0:Int),())=some (.inl (l,n,ts,m,()))∧∀ k,(AR m k).getD 0=if k∈own then 1 else 0:=by
 have e:=Es (step:=Ik) (fun i (a:List (Edge×Int))=>(l,n,ts,a,own,AM own,(i:Int),())) own (fun x a=>.inl (Ad a x (1:Int))) (fun a=>.inl (l,n,ts,a,())) (fun i a=>True) (by omega)
  (fun i x a hi hx _=>by
   refine⟨fun m' h' => ?_,fun r h'=>(by cases h')⟩
   cases h'
   refine⟨?_,trivial⟩
   rw[Ik,AS,AL,ApX hi]
   simp only[AW hx,BJ hx]
   rw[AP (by omega)])
  (fun a _=>by rw[Ik,AS,AL,ApW (by omega)]) [] trivial
 have e':AU Ik many (l,n,ts,([]:List (Edge×Int)),own,AM own,(0:Int),())=_:=e
 rw[CP (fun(x:Edge) (a:List (Edge×Int))=>Ad a x (1:Int))]at e'
 refine⟨_,e',?_⟩
 have key:∀ (xs:List Edge) (a:List (Edge×Int)) (k:Edge),(AR (xs.foldl (fun a x=>Ad a x (1:Int)) a) k).getD 0=if k∈xs then 1 else(AR a k).getD 0:=by
  intro xs
  induction xs with
  |nil=>intro a k;simp
  |cons x xs ih=>
   intro a k
   rw[Aqd,ih,Og]
   by_cases h:k∈xs
   ·simp[h]
   ·by_cases h2:k=x
    ·subst h2;simp
    ·simp[h,h2]
 intro k
 rw[key]
 rfl
theorem AfD(n:Int)(ts:List Tie)(m:List (Edge×Int))(l:List Edge)(hs:l.length<1073741824):
  AU Ij many (n,ts,m,([]:List Edge),l,AM l,(0:Int),())=some (walk (Yz n) (fun a=>.inr (.inl (a.2,()))) l (m,[])):=by
 have e:=Es (step:=Ij) (fun i (a:List (Edge×Int)×List Edge)=>(n,ts,a.1,a.2,l,AM l,(i:Int),())) l (Yz n) (fun a=>.inr (.inl (a.2,()))) (fun i a=>a.2.length≤i) (by omega)
  (fun i x a hi hx ha=>by
   have step:Ij (n,ts,a.1,a.2,l,AM l,(i:Int),())=match Yz n x a with
     |.inl a'=>some (.inl (n,ts,a'.1,a'.2,l,AM l,((i+1:Nat):Int),()))
     |.inr r=>some (.inr r):=by
    rw[Ij,AS,AL,ApX hi]
    simp only[AW hx,AbX,AbY]
    rw[Ae,An,Ae,Ag,AP (by omega),Bj (by simp only[AS,Api,Apt];omega)]
    unfold Yz
    have hn1:(nrm x).1=min x.1 x.2.1:=rfl
    have hn2:(nrm x).2.1=max x.1 x.2.1:=rfl
    have hn3:(min x.1 x.2.1,max x.1 x.2.1,())=nrm x:=rfl
    rw[hn3,← hn1,← hn2]
    by_cases q1:(nrm x).1<0
    ·rw[ApX q1,Apk (.inl q1)]
    rw[ApW q1]
    by_cases q2:n≤(nrm x).2.1
    ·rw[ApX q2,Apk (.inr q2)]
    rw[ApW q2,Apg (fun h=>by rcases h with h|h;exact q1 h;exact q2 h)]
    by_cases q3:(nrm x).1<(nrm x).2.1
    ·rw[ApX q3]
     by_cases q4:(AR a.1 (nrm x)).getD 0=0
     ·rw[ApX q4,Apk ⟨q3,q4⟩]
      rfl
     ·rw[ApW q4,Apg (fun h=>q4 h.2)]
    ·rw[ApW q3,Apg (fun h=>q3 h.1)]
   refine⟨fun m' h' => ?_,fun r h' => ?_⟩
   ·rw[h']at step
    refine⟨step,?_⟩
    unfold Yz at h'
    split at h'
    ·cases h'
    ·split at h'
     ·cases h';rw[Apd];simp;omega
     ·cases h';omega
   ·rw[h']at step;exact step)
  (fun a _=>by rw[Ij,AS,AL,ApW (by omega)]) (m,[]) (Apj _)
 exact e
theorem Aj9{N:Nat}(h1:1≤N)(hN:N≤64)(ts:List Tie)(ht:ts.length≤400)(l:List Edge)(hs:l.length<1073741824)(hr:Fh (((N:Int),(ts,())),())=some (true,())):
  AkB (((N:Int),(ts,())),l,())=some (if ∀ e∈l,In (N:Int) e.1∧In (N:Int) e.2.1 then(Dv N ts l,0,())else([],10,())):=by
 obtain⟨m,e0,hm⟩:=ASj l (N:Int) ts (ts.map ed) (by rw[Ap1];omega)
 rw[Abk,ANP]
 simp only[hr,Aph,ADf (N:Int) ts ht hr,e0,AfD (N:Int) ts m l hs]
 have hiff:(∀ x∈l,0≤(nrm x).1∧(nrm x).2.1<(N:Int))↔∀ e∈l,In (N:Int) e.1∧In (N:Int) e.2.1:=by
  constructor
  ·intro h e he
   have:=h e he
   simp only[nrm]at this
   exact⟨AbW h1 hN (by omega),AbW h1 hN (by omega)⟩
  ·intro h e he
   obtain⟨⟨_,_,a1,a2⟩,⟨_,_,b1,b2⟩⟩:=h e he
   simp only[nrm]
   omega
 by_cases hall:∀ e∈l,In (N:Int) e.1∧In (N:Int) e.2.1
 ·rw[Apk hall]
  obtain⟨ys,e1,y1,y2,y3⟩:=AeF (N:Int) (ts.map ed) l m [] (hiff.2 hall) List.nodup_nil (fun k=>by
   rw[hm]
   by_cases h:k∈ts.map ed
   ·rw[Apk h,Apk (.inl h)]
   ·rw[Apg h,Apg (fun hh=>by rcases hh with hh|hh;exact h hh;cases hh)])
  rw[e1]
  have hlen:ys.length<4294967296:=by
   have:([]:List Edge).length=0:=rfl
   omega
  obtain⟨zs,z1,z2,z3⟩:=SE.Jc ys hlen (fun _ _=>trivial)
  have hcp:=AFF N ts l
  have hperm:ys.Perm (Dv N ts l):=by
   rw[AsW y1 (hcp.imp fun {a b} h=>by
    rintro rfl
    unfold FI at h;omega)]
   intro k
   rw[y2,Nx]
   constructor
   ·rintro (h|⟨g1,g2,x,hx,rfl⟩)
    ·cases h
    ·have:=(hiff.2 hall) x hx
     refine⟨⟨this.1,g2,this.2,?_⟩,g1⟩
     obtain⟨a,b,⟨⟩⟩:=x
     unfold Y7 nrm
     simp only
     rcases Int.le_total a b with h|h
     ·left;rw[AsE h,AsU h];exact hx
     ·right;rw[Ar2 h,Ase h];exact hx
   ·rintro⟨⟨g1,g2,g3,g4⟩,g5⟩
    refine .inr ⟨g5,g2,?_⟩
    obtain⟨a,b,⟨⟩⟩:=k
    simp only at g2
    rcases g4 with h|h
    ·exact⟨_,h,by unfold nrm;simp only;rw[AsE (by omega),AsU (by omega)]⟩
    ·exact⟨_,h,by unfold nrm;simp only;rw[Ar2 (by omega),Ase (by omega)]⟩
  rw[AV0 z2 z3 hcp hperm]at z1
  simp only[z1]
 ·rw[Apg hall,AMe (N:Int) l (m,[]) (fun h=>hall (hiff.1 h))]
end Go.Pev.Pl
end
section
namespace Go.Pev.Pl
def ADm(e:Edge):Nat:=(min e.1 e.2.1).toNat*65536+(max e.1 e.2.1).toNat
def D3(e:Edge):Prop:=0≤e.1∧e.1<65536∧0≤e.2.1∧e.2.1<65536
theorem Amn{e:Edge}(h:D3 e):ADm e<4294967296:=by
 unfold D3 at h;unfold ADm
 have h1:(min e.1 e.2.1).toNat<65536:=by omega
 have h2:(max e.1 e.2.1).toNat<65536:=by omega
 omega
theorem AJb{n:Int}(h:0≤n∧n<65536):AJc (n,())=some (true,()):=by
 rw[ATn,Zo,An,ApX h.1,Ae,ApX h.2]
theorem AjA{a b:Nat}(ha:a<65536)(hb:b<65536):IntKind.wrap .u32 (BitVec.ofInt (IntKind.bits .u32) ((a*65536:Nat):Int) ||| BitVec.ofInt (IntKind.bits .u32) (b:Int)).toNat=((a*65536+b:Nat):Int):=by
 have e:(BitVec.ofInt (IntKind.bits .u32) ((a*65536:Nat):Int) ||| BitVec.ofInt (IntKind.bits .u32) (b:Int)).toNat=a*65536+b:=by
  rw[BitVec.toNat_or,Ary,Ary,AsD,AsD]
  have hbits:IntKind.bits .u32=32:=rfl
  rw[hbits,ArN (by omega),ArN (by omega)]
  have:=Nat.shiftLeft_add_eq_or_of_lt (i:=16) (b:=b) (by omega) a
  rw[Nat.shiftLeft_eq]at this
  exact this.symm
 rw[e]
 exact IP (by omega)
theorem Akc{e:Edge}(h:D3 e):Ake ((e.1,(e.2.1,())),())=some ((ADm e:Int),true,()):=by
 obtain⟨u,v,⟨⟩⟩:=e
 obtain⟨h1,h2,h3,h4⟩:=h
 simp only at h1 h2 h3 h4
 obtain⟨u,rfl⟩:=Apl h1
 obtain⟨v,rfl⟩:=Apl h3
 rw[Abs,ANq]
 simp only[AJb (show 0≤(u:Int)∧(u:Int)<65536 by omega),AJb (show 0≤(v:Int)∧(v:Int)<65536 by omega),Aph]
 have e1:B7 (u:Int) (v:Int)=((min u v:Nat):Int):=by unfold B7;split<;>omega
 have e2:imax (u:Int) (v:Int)=((max u v:Nat):Int):=by unfold imax;split<;>omega
 have hm:min u v<65536:=by omega
 have hM:max u v<65536:=by omega
 rw[e1,e2,IP (by omega),IP (by omega)]
 have e3:shl? .u32 ((min u v:Nat):Int) (16:Int)=some ((min u v*65536:Nat):Int):=by
  rw[PL,Qv,Apg (by omega)]
  have:min (16:Int).toNat (IntKind.bits .u32)=16:=by decide
  rw[this,show((min u v:Nat):Int)*2 ^ 16=((min u v*65536:Nat):Int) by omega,IP (by omega)]
 simp only[e3]
 rw[AjA hm hM]
 have:ADm ((u:Int),(v:Int),())=min u v*65536+max u v:=by
  unfold ADm
  show(min (u:Int) (v:Int)).toNat*65536+(max (u:Int) (v:Int)).toNat=_
  have a1:(min (u:Int) (v:Int)).toNat=min u v:=by omega
  have a2:(max (u:Int) (v:Int)).toNat=max u v:=by omega
  rw[a1,a2]
 rw[this]
def AAG(k:Int):Edge:=(k/65536,k % 65536,())
theorem Afr{k:Nat}(h:k<4294967296):ATs ((k:Int),())=some (AAG k,()):=by
 rw[ATr,Zp]
 have e1:shr? .u32 (k:Int) (16:Int)=some ((k:Int)/65536):=by
  rw[AA7,Yw,Apg (by omega)]
  have:min (16:Int).toNat (IntKind.bits .u32)=16:=by decide
  rw[this]
  congr 1
  rw[show(2:Int) ^ 16=65536 by decide,Int.fdiv_eq_ediv_of_nonneg _ (by omega)]
 have e2:IntKind.wrap .u16 (k:Int)=(k:Int) % 65536:=by
  simp[IntKind.wrap,IntKind.bits,IntKind.signed]
 simp only[e1,e2]
 rw[Ah (by omega),Ah (by omega)]
 rfl
theorem AHy{e:Edge}(h:D3 e):AAG (ADm e:Int)=(min e.1 e.2.1,max e.1 e.2.1,()):=by
 obtain⟨u,v,⟨⟩⟩:=e
 obtain⟨h1,h2,h3,h4⟩:=h
 simp only at h1 h2 h3 h4
 unfold AAG ADm
 simp only[Apy,Arr]
 omega
def Co(l:List Edge):List Nat:=(l.filter fun e=>decide (e.1≠e.2.1)).map ADm
theorem ASn{l:List Edge}(h:∀ e∈l,D3 e):∀ k∈Co l,k<4294967296:=by
 intro k hk
 obtain⟨e,he,rfl⟩:=Apx.1 hk
 exact Amn (h e (AqB.1 he).1)
theorem VP(l:List Edge):(Co l).length≤l.length:=by
 unfold Co;rw[Ap1];exact Arh _ _
noncomputable def FT(w:AHt)(n:Nat):Int:=match CO ((nbl n w.2.1.toNat:Int),w.2.2.1,()),CO ((n:Int),w.2.2.1,())with
 |some a,some b=>2*a.2.1*(nps w.1.toNat:Int)+(2*a.2.1+b.2.1)
 |_,_=>0
theorem Afe{ks:List Nat}{w:AHt}(hw:O4 w)(hk:∀ x∈ks,x<4294967296)(hn:ks.length≤1000):
  0≤FT w ks.length∧(FT w ks.length=0→ks=[])∧(ks=[]→FT w ks.length=0)∧YK (nI ks,w,())=some (ADI (nI (srt ks w.1.toNat)),FT w ks.length,0,()):=by
 obtain⟨b,c,p,u⟩:=w
 obtain⟨h1,h2,h3,h4,h5⟩:=hw
 simp only at h1 h2 h3 h4 h5
 obtain⟨b,rfl⟩:=Apl (show 0≤b by omega)
 obtain⟨c,rfl⟩:=Apl (show 0≤c by omega)
 have hcb:nbl ks.length c≤1000:=AqY (ADO (by omega)) hn
 obtain⟨U,k,u1,u2,u3,u4⟩:=AEH hcb h5
 obtain⟨V,m,v1,v2,v3,v4⟩:=AEH hn h5
 have hst:FT ((b:Int),(c:Int),p,u) ks.length=((2*k*nps b+(2*k+m):Nat):Int):=by
  unfold FT
  simp only[AqX,u4,v4]
  have:(2:Int)*(k:Int)*(nps b:Int)=((2*k*nps b:Nat):Int):=by
   rw[ArX,ArX];rfl
  rw[this];omega
 obtain⟨T,hT⟩:=ATl (p:=p) (b:=b) (c:=c) (by omega) (by omega) (by omega) (by omega) hk hn u3 v3 u1 u4 v1 v4
 rw[hst]
 refine⟨by omega,fun h0 => ?_,fun h0 => ?_,?_⟩
 ·have hm:m=0:=by omega
  rcases AqW ks.length with hz|hz
  ·exact Ap0 hz
  ·have:=v2 hz;omega
 ·subst h0
  have z1:k=0:=by
   have hz:nbl ([]:List Nat).length c=0:=by have:=ADO (n:=0) (b:=c) (by omega);simpa using this
   rw[hz]at u4
   have e:=Mr h5
   have u4':CO ((0:Int),p,())=some (nI U,(k:Int),0,()):=u4
   rw[e]at u4'
   simp only[ApY,Apy]at u4'
   omega
  have z2:m=0:=by
   have e:=Mr h5
   have v4':CO ((0:Int),p,())=some (nI V,(m:Int),0,()):=v4
   rw[e]at v4'
   simp only[ApY,Apy]at v4'
   omega
  rw[z1,z2];simp
 ·obtain⟨a,d,q,v⟩:=p
  rw[AEl,Rs]
  simp only[hT]
  simp only[AqX]
theorem Afg{xs:List Int}{w:AHt}(h:¬ (O4 w∧xs.length≤1000)):YK (xs,w,())=some ([],0,1,()):=by
 have hr:=AdL h
 obtain⟨b,c,⟨a,d,q,v⟩,u⟩:=w
 have e1:ieq (1:Int) 0=false:=by rw[Ag];rfl
 have hr':ABe (xs,b,c,(a,d,q,()),())=some ([],0,1,()):=hr
 have hd:N7 (xs,(b,c,(a,d,q,()),()),())=some ([],[],0,1,()):=by
  rw[QB,J5]
  simp only[hr',e1,Ap8]
 rw[AEl,Rs]
 simp only[hd]
def Ip(l:List Edge)(b:Nat):List Edge:=(ADI (nI (srt (Co l) b))).map AAG
theorem AXv{l:List Nat}{x:Int}:x∈nI l↔∃ k∈l,x=(k:Int):=by
 unfold nI;rw[Apx]
 exact⟨fun ⟨k,h1,h2⟩=>⟨k,h1,h2.symm⟩,fun ⟨k,h1,h2⟩=>⟨k,h1,h2.symm⟩⟩
theorem Nw{l:List Edge}{b:Nat}(hf:∀ e∈l,D3 e)(x:Edge):x∈Ip l b↔0≤x.1∧x.1<x.2.1∧Y7 l x.1 x.2.1:=by
 unfold Ip
 rw[Apx]
 constructor
 ·rintro⟨k,hk,rfl⟩
  rw[ADQ,AXv]at hk
  obtain⟨k,hk,rfl⟩:=hk
  rw[(MN _ _).mem_iff]at hk
  obtain⟨e,he,rfl⟩:=Apx.1 hk
  obtain⟨he,hne⟩:=AqB.1 he
  have hne:e.1≠e.2.1:=by simpa using hne
  rw[AHy (hf e he)]
  have hfe:=hf e he
  obtain⟨u,v,⟨⟩⟩:=e
  unfold D3 at hfe
  simp only at hne hfe ⊢
  rcases Int.lt_or_gt_of_ne hne with h|h
  ·rw[AsE (by omega),AsU (by omega)]
   exact⟨by omega,h,.inl he⟩
  ·rw[Ar2 (by omega),Ase (by omega)]
   exact⟨by omega,h,.inr he⟩
 ·rintro⟨h1,h2,h3⟩
  obtain⟨u,v,⟨⟩⟩:=x
  simp only at h1 h2 h3
  have main:∀ e:Edge,e∈l→e.1≠e.2.1→min e.1 e.2.1=u→max e.1 e.2.1=v→∃ a∈ADI (nI (srt (Co l) b)),AAG a=(u,v,()):=by
   intro e he hne hu hv
   refine⟨(ADm e:Int),?_,by rw[AHy (hf e he),hu,hv]⟩
   rw[ADQ,AXv]
   refine⟨ADm e,(MN _ _).mem_iff.2 (Apx.2 ⟨e,AqB.2 ⟨he,by simpa using hne⟩,rfl⟩),rfl⟩
  rcases h3 with h3|h3
  ·exact main _ h3 (by simp only;omega) (by simp only;omega) (by simp only;omega)
  ·exact main _ h3 (by simp only;omega) (by simp only;omega) (by simp only;omega)
theorem AJV{l:List Edge}{b:Nat}:(Ip l b).length≤l.length:=by
 unfold Ip ADI
 rw[Ap1,Ap1]
 have h1:=Zi (P2 (nI (srt (Co l) b))) (nI (srt (Co l) b)).length
 have h2:=(MN (Co l) b).length_eq
 have h3:=VP l
 rw[Bc]at h1 ⊢
 omega
section
variable {l:List Edge} {w:AHt} (hf:∀ e∈l,D3 e) (hn:l.length≤1000)
include hf hn
theorem YL(b c a d:Int)(q:List (List Int)):AU F7 many (b,c,a,d,q,([]:List Int),l,(l.length:Int),(0:Int),())=some (.inr (.inl (b,c,a,d,q,nI (Co l),()))):=by
 have Q:=FM (step:=F7) (fun i=>(b,c,a,d,q,nI (Co (l.take i)),l,(l.length:Int),(i:Int),())) l.length (.inr (.inl (b,c,a,d,q,nI (Co l),()))) (by omega)
  (fun i hi=>by
   obtain⟨e,he⟩:=BX hi
   have hfe:=hf e (Apm he)
   have hkl:=VP (l.take i)
   rw[Aps]at hkl
   have hsn:Co (l.take (i+1))=Co (l.take i)++(if e.1=e.2.1 then []else [ADm e]):=by
    rw[Bh he]
    unfold Co
    rw[Aqu,AqZ]
    congr 1
    by_cases h:e.1=e.2.1<;>simp[h]
   rw[F7,AL,ApX hi]
   simp only[AW he,Akc hfe,Aph,Ag]
   rw[AP (by omega),hsn]
   by_cases h:e.1=e.2.1
   ·rw[ApX h,Apk h,Aqn]
    rfl
   ·rw[ApW h,Apg h]
    simp only[Ap8,AS,Bc,Api,Apt]
    rw[Bj (by omega)]
    simp only[ET]
    unfold nI
    rw[AqZ]
    rfl)
  (by rw[F7,AL,ApW (by omega),AqF])
 exact Q
theorem AZS(hw:O4 w):WQ (l,w,())=some (Ip l w.1.toNat,FT w (Co l).length,0,()):=by
 have hkl:=VP l
 obtain⟨_,_,_,hd⟩:=Afe hw (ASn hf) (by omega)
 obtain⟨b,c,⟨a,d,q,v⟩,u⟩:=w
 have hd':YK (nI (Co l),(b,c,(a,d,q,()),()),())=some (ADI (nI (srt (Co l) b.toNat)),FT (b,c,(a,d,q,()),()) (Co l).length,0,()):=hd
 rw[WO,Mx]
 simp only[AS,YL hf hn,hd']
 generalize hO:ADI (nI (srt (Co l) b.toNat))=O
 have hOm:∀ k∈O,∃ n:Nat,k=(n:Int)∧n<4294967296:=by
  intro k hk
  rw[← hO,ADQ,AXv]at hk
  obtain⟨n,h1,h2⟩:=hk
  exact⟨n,h2,ASn hf n ((MN _ _).mem_iff.1 h1)⟩
 have hOl:O.length≤1000:=by
  have:=AJV (l:=l) (b:=b.toNat)
  unfold Ip at this
  rw[hO,Ap1]at this
  omega
 have Q:=FM (step:=DB) (fun i=>(FT (b,c,(a,d,q,()),()) (Co l).length,(0:Int),(O.take i).map AAG,O,(O.length:Int),(i:Int),())) O.length (.inl (FT (b,c,(a,d,q,()),()) (Co l).length,(0:Int),O.map AAG,())) (by omega)
  (fun i hi=>by
   obtain⟨k,hk⟩:=BX hi
   obtain⟨n,rfl,hn'⟩:=hOm k (Apm hk)
   rw[DB,AL,ApX hi]
   simp only[AW hk,BJ hk,Afr hn',AS,Ap1,Aps,Api,Apt]
   rw[Bj (by omega),AP (by omega),Bh hk]
   simp only[ET,AqZ]
   rfl)
  (by rw[DB,AL,ApW (by omega),AqF])
 have Q':AU DB many (FT (b,c,(a,d,q,()),()) (Co l).length,(0:Int),([]:List Edge),O,(O.length:Int),(0:Int),())=_:=Q
 simp only[Q']
 unfold Ip
 rw[hO]
theorem AZU(hw:¬ O4 w):WQ (l,w,())=some ([],0,1,()):=by
 have hd:=Afg (xs:=nI (Co l)) (w:=w) fun h=>hw h.1
 obtain⟨b,c,⟨a,d,q,v⟩,u⟩:=w
 have hd':YK (nI (Co l),(b,c,(a,d,q,()),()),())=some ([],0,1,()):=hd
 rw[WO,Mx]
 simp only[AS,YL hf hn,hd']
 have Q:=FM (step:=DB) (fun i=>((0:Int),(1:Int),([]:List Edge),([]:List Int),(0:Int),(i:Int),())) 0 (.inl ((0:Int),(1:Int),([]:List Edge),())) (by omega)
  (fun i hi=>absurd hi (by omega))
  (by rw[DB,Ae,ApW (by omega)])
 have Q':AU DB many ((0:Int),(1:Int),([]:List Edge),([]:List Int),((([]:List Int).length:Nat):Int),(0:Int),())=_:=Q
 simp only[Q']
end
theorem AL2{N:Nat}{l l':List Edge}(h:∀ u v:Int,0≤u→u<v→(Y7 l u v↔Y7 l' u v)):He N l=He N l':=by
 unfold He
 refine Aq7 (List.flatMap · (List.range N)) (funext fun u => ?_)
 unfold Ahw
 congr 1
 refine Art fun i _ => ?_
 rw[Aqs]
 exact h _ _ (by omega) (by omega)
theorem AfZ{l:List Edge}{b:Nat}(hf:∀ e∈l,D3 e){u v:Int}(h0:0≤u)(h:u<v):Y7 (Ip l b) u v↔Y7 l u v:=by
 unfold Y7
 constructor
 ·rintro (h1|h1)
  ·exact((Nw hf _).1 h1).2.2
  ·have:=((Nw hf _).1 h1).2.1
   simp only at this
   omega
 ·intro h1
  exact .inl ((Nw hf (u,v,())).2 ⟨h0,h,h1⟩)
theorem YG{l:List Edge}{b N:Nat}(hf:∀ e∈l,D3 e):He N (Ip l b)=He N l:=AL2 fun _ _ h0 h=>AfZ hf h0 h
end Go.Pev.Pl
end
section
namespace Go.Pev.Pl
abbrev AGf:=Int×Int×Int×Unit
abbrev APP:=Int×List Edge×List AGf×Unit
instance (e:Edge):Decidable (D3 e):=by unfold D3;exact inferInstance
def Er(n:Int):Prop:=0≤n∧n<65536
instance (n:Int):Decidable (Er n):=by unfold Er;exact inferInstance
def C4(a:AGf):Prop:=1≤a.1∧a.1≤4∧Er a.2.1∧Er a.2.2.1
instance (a:AGf):Decidable (C4 a):=by unfold C4;exact inferInstance
def WR(x:APP):Prop:=((x.1=1∨x.1=2)∧x.2.2.1=[]∧x.2.1.length≤60∧∀ e∈x.2.1,D3 e)∨(x.1=3∧x.2.1=[]∧x.2.2.1.length≤60∧∀ a∈x.2.2.1,C4 a)
instance (x:APP):Decidable (WR x):=by unfold WR;exact inferInstance
theorem AHx(n:Int):XQ (n,())=some (decide (Er n),()):=by
 rw[APW,ZS]
 have e:IntKind.wrap .u16 n=n % 65536:=by simp[IntKind.wrap,IntKind.bits,IntKind.signed]
 rw[e,Ah (by omega),Ag]
 congr 2
 rw[Aqs]
 unfold Er
 omega
theorem AVC(n:Int):AAE (n,())=some (decide (1≤n∧n≤4),()):=by
 rw[AHw,Qe,An]
 by_cases h:1≤n
 ·rw[ApX h,An];simp[h]
 ·rw[ApW h];simp[h]
theorem XZ(n:Int):IT (n,())=some (decide (Er n),()):=by
 rw[AA8,Nm,An]
 by_cases h:0≤n
 ·have:decide (n≤65535)=decide (Er n):=by rw[Aqs];unfold Er;omega
  rw[ApX h,An]
  simp only[this]
 ·have:decide (Er n)=false:=ApW (by unfold Er;omega)
  rw[ApW h,this]
theorem Zx{α:Type}(P:α→Prop)[DecidablePred P](l:List α):(l.any fun x => !decide (P x)) = !decide (∀ x∈l,P x):=by
 rw[Aql,Arp]
 simp
theorem Af1(l:List Edge)(hl:l.length≤60):DX (l,())=some (!decide (∀ e∈l,D3 e),()):=by
 have e:=Io (step:=Ce) (fun i=>(l,(l.length:Int),(i:Int),())) l (fun e => !decide (D3 e)) (fun i=>.inl ((i:Int),())) (.inr (.inl ())) (by omega)
  (fun i x hi hx=>by
   rw[Ce,AL,ApX hi]
   simp only[AW hx,AHx]
   rw[AP (by omega)]
   have hsplit:D3 x↔Er x.1∧Er x.2.1:=by unfold D3 Er;omega
   by_cases h1:Er x.1
   ·by_cases h2:Er x.2.1
    ·simp only[ApX h1,ApX h2,ApX (hsplit.2 ⟨h1,h2⟩)];rfl
    ·simp only[ApX h1,ApW h2,ApW (show ¬ D3 x from fun h=>h2 (hsplit.1 h).2)];rfl
   ·simp only[ApW h1,ApW (show ¬ D3 x from fun h=>h1 (hsplit.1 h).1)];rfl)
  (by rw[Ce,AL,ApW (by omega)])
 have e':AU Ce many (l,(l.length:Int),(0:Int),())=_:=e
 rw[M6,GX,Oo,G9]
 simp only[AS,e',Zx]
 by_cases h:∀ e∈l,D3 e
 ·rw[ApX h]
  simp only[Aph,Apo,Apr]
  rw[An,ApW (by decide)]
 ·rw[ApW h]
  simp only[Ap8,AqI]
  rw[An,ApX (by omega)]
theorem Af2(l:List AGf)(hl:l.length≤60):Gk (l,())=some (!decide (∀ a∈l,C4 a),()):=by
 have e:=Io (step:=Cf) (fun i=>(l,(l.length:Int),(i:Int),())) l (fun a => !decide (C4 a)) (fun i=>.inl ((i:Int),())) (.inr (.inl ())) (by omega)
  (fun i x hi hx=>by
   rw[Cf,AL,ApX hi]
   simp only[AW hx,AVC,AHx]
   rw[AP (by omega)]
   have hsplit:C4 x↔(1≤x.1∧x.1≤4)∧Er x.2.1∧Er x.2.2.1:=by unfold C4;exact and_assoc.symm
   by_cases h0:1≤x.1∧x.1≤4
   ·by_cases h1:Er x.2.1
    ·by_cases h2:Er x.2.2.1
     ·simp only[ApX h0,ApX h1,ApX h2,ApX (hsplit.2 ⟨h0,h1,h2⟩)];rfl
     ·simp only[ApX h0,ApX h1,ApW h2,ApW (show ¬ C4 x from fun h=>h2 (hsplit.1 h).2.2)];rfl
    ·simp only[ApX h0,ApW h1,ApW (show ¬ C4 x from fun h=>h1 (hsplit.1 h).2.1)];rfl
   ·simp only[ApW h0,ApW (show ¬ C4 x from fun h=>h0 (hsplit.1 h).1)];rfl)
  (by rw[Cf,AL,ApW (by omega)])
 have e':AU Cf many (l,(l.length:Int),(0:Int),())=_:=e
 rw[M7,GY,Ox,HB]
 simp only[AS,e',Zx]
 by_cases h:∀ a∈l,C4 a
 ·rw[ApX h]
  simp only[Aph,Apo,Apr]
  rw[An,ApW (by decide)]
 ·rw[ApW h]
  simp only[Ap8,AqI]
  rw[An,ApX (by omega)]
theorem Amj{α:Type}(l:List α):ieq (l.length:Int) 0=decide (l=[]):=by
 rw[Ag,Aqs]
 constructor
 ·intro h;exact Ap0 (by omega)
 ·rintro rfl;rfl
theorem KM(x:APP):AAA (x,())=some (decide (WR x),()):=by
 obtain⟨k,es,asz,⟨⟩⟩:=x
 rw[AHv,Qd]
 simp only[AS,Amj]
 simp only[Ag]
 have hle:∀ {α:Type} (l:List α),ile (l.length:Int) 60=decide (l.length≤60):=fun l=>by rw[An,Aqs];omega
 have edges:k=1∨k=2→(WR (k,es,asz,())↔asz=[]∧es.length≤60∧∀ e∈es,D3 e):=by
  intro hk
  unfold WR
  simp only
  constructor
  ·rintro (h|h)
   ·exact h.2
   ·omega
  ·exact fun h=>.inl ⟨hk,h⟩
 have block:k=1∨k=2→(match decide (asz=[])with
   |true=>match ile (es.length:Int) 60 with
    |true=>match DX (es,())with
     |none=>none
     |some (y0,_)=>some ((!y0),())
    |false=>some (false,())
   |false=>some (false,()))=some (decide (WR (k,es,asz,())),()):=by
  intro hk
  by_cases h1:asz=[]
  ·rw[ApX h1]
   simp only[hle]
   by_cases h2:es.length≤60
   ·rw[ApX h2]
    simp only[Af1 es h2,Bool.not_not]
    congr 2
    rw[Aqs,edges hk]
    exact⟨fun h=>⟨h1,h2,h⟩,fun h=>h.2.2⟩
   ·rw[ApW h2,ApW (fun h=>h2 ((edges hk).1 h).2.1)]
  ·rw[ApW h1,ApW (fun h=>h1 ((edges hk).1 h).1)]
 by_cases k1:k=1
 ·rw[ApX k1]
  exact block (.inl k1)
 ·rw[ApW k1]
  by_cases k2:k=2
  ·rw[ApX k2]
   exact block (.inr k2)
  ·rw[ApW k2]
   by_cases k3:k=3
   ·rw[ApX k3]
    have asks:WR (k,es,asz,())↔es=[]∧asz.length≤60∧∀ a∈asz,C4 a:=by
     unfold WR
     simp only
     constructor
     ·rintro (h|h)
      ·omega
      ·exact h.2
     ·exact fun h=>.inr ⟨k3,h⟩
    by_cases h1:es=[]
    ·rw[ApX h1]
     simp only[hle]
     by_cases h2:asz.length≤60
     ·rw[ApX h2]
      simp only[Af2 asz h2,Bool.not_not]
      congr 2
      rw[Aqs,asks]
      exact⟨fun h=>⟨h1,h2,h⟩,fun h=>h.2.2⟩
     ·rw[ApW h2,ApW (fun h=>h2 (asks.1 h).2.1)]
    ·rw[ApW h1,ApW (fun h=>h1 (asks.1 h).1)]
   ·have hn:¬ WR (k,es,asz,()):=by
     unfold WR
     rintro (⟨h,_⟩|⟨h,_⟩)
     ·simp only at h;omega
     ·exact k3 h
    rw[ApW k3,ApW hn]
def Fi(a:AGf):List Int:=if a.1=1 then [a.2.1,a.2.2.1]else if a.1=2∨a.1=3 then [a.2.1]else []
def Bm(x:APP):List Int:=(x.2.1.flatMap fun e=>[e.1,e.2.1])++x.2.2.1.flatMap Fi
theorem HO(a:AGf):(Fi a).length≤2:=by
 unfold Fi
 by_cases h:a.1=1
 ·simp[h]
 ·by_cases h2:a.1=2∨a.1=3<;>simp[h,h2]
theorem AaE(a:AGf):AFr ((a.1,(a.2.1,(a.2.2.1,()))),())=some (Fi a,()):=by
 rw[AJ1,SK]
 simp only[Ag]
 unfold Fi
 by_cases h1:a.1=1
 ·simp[h1]
 ·by_cases h2:a.1=2
  ·simp[h2]
  ·by_cases h3:a.1=3
   ·simp[h3]
   ·simp[h1,h2,h3]
theorem C8{α:Type}(f:α→List Int)(hf:∀ a,(f a).length≤2):∀ (l:List α),(l.flatMap f).length≤2*l.length:=by
 intro l
 induction l with
 |nil=>simp
 |cons a l ih=>
  rw[AqH,Apd,Api]
  have:=hf a
  omega
theorem OF{x:APP}(h1:x.2.1.length≤1000000)(h2:x.2.2.1.length≤1000000):AFm (x,())=some (Bm x,()):=by
 obtain⟨k,es,asz,⟨⟩⟩:=x
 simp only at h1 h2
 rw[AUl,Zu]
 have hl:∀ i,((es.take i).flatMap fun e=>[e.1,e.2.1]).length≤2000000:=fun i=>by
  have:=C8 (fun e:Edge=>[e.1,e.2.1]) (fun _=>by simp) (es.take i)
  rw[Aps]at this
  omega
 have Q:=FM (step:=H3) (fun i=>(k,es,asz,((es.take i).flatMap fun e=>[e.1,e.2.1]),es,(es.length:Int),(i:Int),())) es.length (.inl (k,es,asz,(es.flatMap fun e=>[e.1,e.2.1]),())) (by omega)
  (fun i hi=>by
   obtain⟨e,he⟩:=BX hi
   have:=hl i
   rw[H3,AL,ApX hi]
   simp only[AW he,AS,Api,Apt]
   rw[Bj (by omega),AP (by omega),Bh he,Aqw]
   simp only[ET]
   rfl)
  (by rw[H3,AL,ApW (by omega),AqF])
 have Q':AU H3 many (k,es,asz,([]:List Int),es,(es.length:Int),(0:Int),())=_:=Q
 simp only[AS,Q']
 have R:=FM (step:=H0) (fun i=>((es.flatMap fun e=>[e.1,e.2.1])++(asz.take i).flatMap Fi,asz,(asz.length:Int),(i:Int),())) asz.length (.inl (Bm (k,es,asz,()),())) (by omega)
  (fun i hi=>by
   obtain⟨a,ha⟩:=BX hi
   have h3:=hl es.length
   rw[AqF]at h3
   have h4:=C8 Fi HO (asz.take i)
   rw[Aps]at h4
   have h5:=HO a
   rw[H0,AL,ApX hi]
   simp only[AW ha,AaE,AS,Apd]
   rw[Bj (by omega),AP (by omega),Bh ha,Aqw]
   simp only[ET,AqD]
   simp)
  (by rw[H0,AL,ApW (by omega),AqF];rfl)
 have z:(es.flatMap fun e=>[e.1,e.2.1])++(asz.take 0).flatMap Fi=es.flatMap fun e=>[e.1,e.2.1]:=by simp
 rw[z]at R
 have R':AU H0 many ((es.flatMap fun e=>[e.1,e.2.1]),asz,(asz.length:Int),(0:Int),())=_:=R
 simp only[R']
theorem WT(n:Int)(ts:List Tie)(l:List Int)(hl:l.length≤1000000):Gj (l,n,ts,())=some (n,ts,(l.any fun v=>decide (n≤v)),()):=by
 have e:=Io (step:=Cd) (fun i=>(n,ts,l,(l.length:Int),(i:Int),())) l (fun v=>decide (n≤v)) (fun i=>.inl (n,ts,(i:Int),())) (.inr (.inl (n,ts,()))) (by omega)
  (fun i x hi hx=>by
   rw[Cd,AL,ApX hi]
   simp only[AW hx,An]
   rw[AP (by omega)]
   by_cases h:n≤x
   ·simp only[ApX h];rfl
   ·simp only[ApW h];rfl)
  (by rw[Cd,AL,ApW (by omega)])
 have e':AU Cd many (n,ts,l,(l.length:Int),(0:Int),())=_:=e
 rw[M5,GW,Ol,G8]
 simp only[AS,e']
 cases h:(l.any fun v=>decide (n≤v))with
 |true=>
  simp only[AqI]
  rw[An,ApX (by omega)]
 |false=>
  simp only[Apo,Apr]
  rw[An,ApW (by decide)]
instance (w:AHt):Decidable (O4 w):=by unfold O4;exact inferInstance
abbrev AlU:=Int×List Edge×List AGf×Int×Int×Unit
def AQ4(e:Int):AlU:=(0,[],[],0,e,())
def GR(n:Int)(ts:List Tie):Prop:=∃ N:Nat,n=(N:Int)∧RG2 N ts
theorem AQw(n:Int)(ts:List Tie)(hl:ts.length<4611686018427387904):∃ b:Bool,G6 ((n,(ts,())),())=some (b,())∧Fh ((n,(ts,())),())=some (b,())∧(b=true↔GR n ts):=by
 obtain⟨b,h1,h2,h3⟩:=AFk n ts hl
 refine⟨b,h1,h2,fun hb => ?_,?_⟩
 ·obtain⟨N,rfl,a1,a2,a3,a4⟩:=h3 hb
  subst hb
  exact⟨N,rfl,⟨a1,a2,a3,a4,(AQx a1 a2 a3 a4).1 h1⟩⟩
 ·rintro⟨N,rfl,h⟩
  have:=h.r21
  rw[h1]at this
  simp only[ApY,Apy,Arr]at this
  exact this
section
variable {n:Int} {ts:List Tie} {x:APP} {w:AHt}
theorem AgA(hl:ts.length<4611686018427387904)(h:¬ (GR n ts∧WR x)):GF ((n,(ts,())),x,w,())=some (AQ4 1):=by
 obtain⟨b,_,h2,h3⟩:=AQw n ts hl
 obtain⟨k,es,asz,⟨⟩⟩:=x
 rw[KC,H9]
 simp only[h2]
 cases b with
 |false=>rfl
 |true=>
  have hw:¬ WR (k,es,asz,()):=fun hw=>h ⟨h3.1 rfl,hw⟩
  simp only[Aph,KM,ApW hw]
  rfl
theorem AKQ(h:WR x):x.2.1.length≤60∧x.2.2.1.length≤60∧(∀ e∈x.2.1,D3 e):=by
 obtain⟨k,es,asz,⟨⟩⟩:=x
 rcases h with⟨_,h1,h2,h3⟩|⟨_,h1,h2,_⟩
 ·simp only at h1;subst h1;exact⟨h2,by simp,h3⟩
 ·simp only at h1;subst h1;exact⟨by simp,h2,by simp⟩
variable {N:Nat} (h:RG2 N ts) (hw:WR x)
include h hw
theorem AZn(hv:∃ v∈Bm x,(N:Int)≤v):GF (((N:Int),(ts,())),x,w,())=some (AQ4 10):=by
 obtain⟨l1,l2,_⟩:=AKQ hw
 have ha:=OF (x:=x) (by omega) (by omega)
 have hvl:(Bm x).length≤1000000:=by
  unfold Bm
  rw[Apd]
  have:=C8 (fun e:Edge=>[e.1,e.2.1]) (fun _=>by simp) x.2.1
  have:=C8 Fi HO x.2.2.1
  omega
 have hany:((Bm x).any fun v=>decide ((N:Int)≤v))=true:=by
  obtain⟨v,h1,h2⟩:=hv
  exact Arp.2 ⟨v,h1,ApX h2⟩
 have hc:=WT (N:Int) ts (Bm x) hvl
 obtain⟨k,es,asz,⟨⟩⟩:=x
 rw[KC,H9]
 simp only[h.lr,Aph,KM,ApX hw,ha,hc,hany]
 rfl
variable (hv:∀ v∈Bm x,v<(N:Int))
include hv
omit h hw in
theorem AT9:((Bm x).any fun v=>decide ((N:Int)≤v))=false:=by
 rw[List.any_eq_false]
 intro v hvv
 have:=hv v hvv
 simp;omega
theorem AZo(hk:x.1=3):GF (((N:Int),(ts,())),x,w,())=some (3,[],x.2.2.1,0,0,()):=by
 obtain⟨l1,l2,_⟩:=AKQ hw
 have ha:=OF (x:=x) (by omega) (by omega)
 have hvl:(Bm x).length≤1000000:=by
  unfold Bm
  rw[Apd]
  have:=C8 (fun e:Edge=>[e.1,e.2.1]) (fun _=>by simp) x.2.1
  have:=C8 Fi HO x.2.2.1
  omega
 have hany:=AT9 hv
 have hc:=WT (N:Int) ts (Bm x) hvl
 obtain⟨k,es,asz,⟨⟩⟩:=x
 simp only at hk
 subst hk
 rw[KC,H9]
 simp only[h.lr,Aph,KM,ApX hw,ha,hc,hany,Ag,Apu]
theorem AUA(hk:x.1=1∨x.1=2):GF (((N:Int),(ts,())),x,w,()) =
  if O4 w then
   if x.1=2 then some (2,Re N ts x.2.1,[],FT w (Co x.2.1).length,0,())
   else if 400-ts.length<(Dv N ts x.2.1).length then some (AQ4 2)else some (1,Dv N ts x.2.1,[],FT w (Co x.2.1).length,0,())
  else some (AQ4 1):=by
 obtain⟨l1,l2,hfit⟩:=AKQ hw
 have ha:=OF (x:=x) (by omega) (by omega)
 have hvl:(Bm x).length≤1000000:=by
  unfold Bm
  rw[Apd]
  have:=C8 (fun e:Edge=>[e.1,e.2.1]) (fun _=>by simp) x.2.1
  have:=C8 Fi HO x.2.2.1
  omega
 have hany:=AT9 hv
 have hc:=WT (N:Int) ts (Bm x) hvl
 have hel:=AJV (l:=x.2.1) (b:=w.1.toNat)
 have hin:∀ e∈Ip x.2.1 w.1.toNat,In (N:Int) e.1∧In (N:Int) e.2.1:=by
  intro e he
  obtain⟨q1,q2,q3⟩:=(Nw hfit e).1 he
  have hlt:e.2.1<(N:Int):=by
   refine hv _ ?_
   unfold Bm
   refine Apc.2 (.inl (ArP.2 ?_))
   rcases q3 with q3|q3
   ·exact⟨_,q3,by simp⟩
   ·exact⟨_,q3,by simp⟩
  have hN:=h.hN
  have h1:=h.h1
  unfold In
  omega
 have hgn:Re N ts (Ip x.2.1 w.1.toNat)=Re N ts x.2.1:=by unfold Re;rw[YG hfit]
 have hcm:Dv N ts (Ip x.2.1 w.1.toNat)=Dv N ts x.2.1:=by unfold Dv;rw[YG hfit]
 have hgone:=Adq h (Ip x.2.1 w.1.toNat) (by omega)
 rw[Apk hin,hgn]at hgone
 have hcome:=Aj9 h.h1 h.hN ts h.ht (Ip x.2.1 w.1.toNat) (by omega) h.lr
 rw[Apk hin,hcm]at hcome
 have hwr:=KM x
 rw[ApX hw]at hwr
 have hdv:=fun hW=>AZS (w:=w) hfit (by omega) hW
 have hdb:=fun hW=>AZU (w:=w) hfit (by omega) hW
 have hk3:ieq x.1 3=false:=by rw[Ag];exact ApW (by omega)
 have ht:=h.ht
 have hroom:AJ0 (((N:Int),(ts,())),())=some (((400-ts.length:Nat):Int),()):=by
  rw[AUn,Zw]
  simp only[h.lr,Aph,AS]
  rw[Ah (by omega),show(400:Int)-(ts.length:Int)=((400-ts.length:Nat):Int) by omega]
 have e0:ieq (0:Int) 0=true:=by rw[Ag];rfl
 have e1:ieq (1:Int) 0=false:=by rw[Ag];rfl
 obtain⟨k,es,asz,⟨⟩⟩:=x
 obtain⟨b,c,⟨a,d,q,⟨⟩⟩,⟨⟩⟩:=w
 rw[KC,H9]
 simp only[h.lr,Aph,hwr,ha,hc,hany,hk3]
 by_cases hW:O4 (b,c,(a,d,q,()),())
 ·rw[Apk hW]
  simp only[hdv hW,e0,Aph]
  by_cases k2:k=2
  ·subst k2
   rw[Apk rfl,Ag,ApX rfl]
   simp only[hgone]
  ·have k1:k=1:=by simp only at hk;omega
   subst k1
   rw[Apg (by decide),Ag,ApW (by decide)]
   simp only[hcome,hroom,AS,AL]
   by_cases hf:400-ts.length<(Dv N ts es).length
   ·rw[Apk hf,ApX hf];rfl
   ·rw[Apg hf,ApW hf]
 ·rw[Apg hW]
  simp only[hdb hW,e1,Ap8]
  rfl
end
end Go.Pev.Pl
end
section
namespace Go.Pev.Pl
theorem ATF(g:Int×List Tie×Unit)(x:APP)(w:AHt):N1 (g,x,w,())=some (true,()) ∨
  (N1 (g,x,w,())=some (false,())∧g.2.1.length≤30∧g.1≤12∧IntKind.wrap .i64 ((x.2.1.length:Int)+(x.2.2.1.length:Int))≤30∧w.2.2.1.2.2.1.length≤60):=by
 rw[AD1,N0]
 simp only[AS,Ae]
 by_cases h1:(30:Int)<(g.2.1.length:Int)
 ·rw[ApX h1];exact .inl rfl
 ·rw[ApW h1]
  by_cases h2:12<g.1
  ·rw[ApX h2];exact .inl rfl
  ·rw[ApW h2]
   by_cases h3:30<IntKind.wrap .i64 ((x.2.1.length:Int)+(x.2.2.1.length:Int))
   ·rw[ApX h3];exact .inl rfl
   ·rw[ApW h3]
    by_cases h4:(60:Int)<(w.2.2.1.2.2.1.length:Int)
    ·rw[ApX h4];exact .inl rfl
    ·rw[ApW h4]
     exact .inr ⟨rfl,by omega,by omega,by omega,by omega⟩
end Go.Pev.Pl
end
section
namespace Go.Pev.Pl
theorem MV(k:Int)(es:List Edge)(asz:List AGf)(hl:es.length≤60):AU CH many (k,es,asz,(0:Int),())=some (if ∀ e∈es,D3 e then .inr (.inl (k,es,asz,()))else .inl (false,())):=by
 have e:=Io (step:=CH) (fun i=>(k,es,asz,(i:Int),())) es (fun e => !decide (D3 e)) (fun _=>.inl (false,())) (.inr (.inl (k,es,asz,()))) (by omega)
  (fun i x hi hx=>by
   rw[CH,AS,AL,ApX hi]
   simp only[AW hx,XZ]
   rw[AP (by omega)]
   have hsplit:D3 x↔Er x.1∧Er x.2.1:=by unfold D3 Er;omega
   by_cases h1:Er x.1
   ·by_cases h2:Er x.2.1
    ·simp only[ApX h1,ApX h2,ApX (hsplit.2 ⟨h1,h2⟩)];rfl
    ·simp only[ApX h1,ApW h2,ApW (show ¬ D3 x from fun h=>h2 (hsplit.1 h).2)];rfl
   ·simp only[ApW h1,ApW (show ¬ D3 x from fun h=>h1 (hsplit.1 h).1)];rfl)
  (by rw[CH,AS,AL,ApW (by omega)])
 have e':AU CH many (k,es,asz,(0:Int),())=_:=e
 rw[e',Zx]
 by_cases h:∀ e∈es,D3 e
 ·rw[ApX h,Apk h];rfl
 ·rw[ApW h,Apg h];rfl
theorem MU(k:Int)(es:List Edge)(asz:List AGf)(hl:asz.length≤60):AU CG many (k,es,asz,(0:Int),())=some (if ∀ a∈asz,C4 a then .inr (.inl ())else .inl (false,())):=by
 have e:=Io (step:=CG) (fun i=>(k,es,asz,(i:Int),())) asz (fun a => !decide (C4 a)) (fun _=>.inl (false,())) (.inr (.inl ())) (by omega)
  (fun i x hi hx=>by
   rw[CG,AS,AL,ApX hi]
   simp only[AW hx,XZ,Ae]
   rw[AP (by omega)]
   have hsplit:C4 x↔Er x.2.1∧Er x.2.2.1∧¬ x.1<1∧¬ 4<x.1:=by
    unfold C4
    constructor
    ·rintro⟨a,b,c,d⟩;exact⟨c,d,by omega,by omega⟩
    ·rintro⟨a,b,c,d⟩;exact⟨by omega,by omega,a,b⟩
   by_cases h1:Er x.2.1
   ·by_cases h2:Er x.2.2.1
    ·by_cases h3:x.1<1
     ·simp only[ApX h1,ApX h2,ApX h3,ApW (show ¬ C4 x from fun h=>(hsplit.1 h).2.2.1 h3)];rfl
     ·by_cases h4:4<x.1
      ·simp only[ApX h1,ApX h2,ApW h3,ApX h4,ApW (show ¬ C4 x from fun h=>(hsplit.1 h).2.2.2 h4)];rfl
      ·simp only[ApX h1,ApX h2,ApW h3,ApW h4,ApX (hsplit.2 ⟨h1,h2,h3,h4⟩)];rfl
    ·simp only[ApX h1,ApW h2,ApW (show ¬ C4 x from fun h=>h2 (hsplit.1 h).2.1)];rfl
   ·simp only[ApW h1,ApW (show ¬ C4 x from fun h=>h1 (hsplit.1 h).1)];rfl)
  (by rw[CG,AS,AL,ApW (by omega)])
 have e':AU CG many (k,es,asz,(0:Int),())=_:=e
 rw[e',Zx]
 by_cases h:∀ a∈asz,C4 a
 ·rw[ApX h,Apk h];rfl
 ·rw[ApW h,Apg h];rfl
theorem AQz(x:APP):Q4 (x,())=some (decide (WR x),()):=by
 obtain⟨k,es,asz,⟨⟩⟩:=x
 have hlt:∀ {α:Type} (l:List α),ilt (60:Int) (l.length:Int) = !decide (l.length≤60):=fun l=>by
  rw[Ae,Aql];simp;omega
 have hl0:∀ {α:Type} (l:List α),ilt (0:Int) (l.length:Int) = !decide (l=[]):=fun l=>by
  rw[Ae,Aql]
  cases l<;>simp
 rw[ABt,Nq]
 simp only[AS,hlt,hl0,Ae,Ag]
 have key:∀ (r:Bool),(WR (k,es,asz,())↔r=true)→some (r,())=some (decide (WR (k,es,asz,())),()):=fun r h=>by
  congr 2
  rw[Aql,Apb];exact h.symm
 by_cases k1:k<1
 ·rw[ApX k1]
  exact key false ⟨fun h=>by unfold WR at h;simp only at h;omega,fun h=>by cases h⟩
 ·rw[ApW k1]
  by_cases k4:3<k
  ·rw[ApX k4]
   exact key false ⟨fun h=>by unfold WR at h;simp only at h;omega,fun h=>by cases h⟩
  ·rw[ApW k4]
   by_cases k3:k=3
   ·rw[ApX k3]
    have asks:WR (k,es,asz,())↔es=[]∧asz.length≤60∧∀ a∈asz,C4 a:=by
     unfold WR
     simp only
     constructor
     ·rintro (h|h)
      ·omega
      ·exact h.2
     ·exact fun h=>.inr ⟨k3,h⟩
    by_cases h1:es=[]
    ·subst h1
     simp only[Apu,Aph,Apt]
     by_cases h2:asz.length≤60
     ·simp only[ApX h2,Aph,show decide ((0:Nat)≤60)=true from rfl,MV k [] asz (by simp)]
      rw[Apk (by simp)]
      simp only[MU k [] asz h2]
      by_cases h3:∀ a∈asz,C4 a
      ·rw[Apk h3]
       exact key true ⟨fun _=>rfl,fun _=>asks.2 ⟨rfl,h2,h3⟩⟩
      ·rw[Apg h3]
       exact key false ⟨fun h=>absurd (asks.1 h).2.2 h3,fun h=>by cases h⟩
     ·simp only[ApW h2,Ap8,show decide ((0:Nat)≤60)=true from rfl,Aph]
      exact key false ⟨fun h=>absurd (asks.1 h).2.1 h2,fun h=>by cases h⟩
    ·simp only[ApW h1,Ap8]
     exact key false ⟨fun h=>absurd (asks.1 h).1 h1,fun h=>by cases h⟩
   ·rw[ApW k3]
    have edges:WR (k,es,asz,())↔asz=[]∧es.length≤60∧∀ e∈es,D3 e:=by
     unfold WR
     simp only
     constructor
     ·rintro (h|h)
      ·exact h.2
      ·omega
     ·exact fun h=>.inl ⟨by omega,h⟩
    by_cases h1:asz=[]
    ·subst h1
     simp only[Apu,Aph,Ap8,Apt]
     by_cases h2:es.length≤60
     ·simp only[ApX h2,Aph,show decide ((0:Nat)≤60)=true from rfl,MV k es [] h2]
      by_cases h3:∀ e∈es,D3 e
      ·rw[Apk h3]
       simp only[MU k es [] (by simp)]
       rw[Apk (by simp)]
       exact key true ⟨fun _=>rfl,fun _=>edges.2 ⟨rfl,h2,h3⟩⟩
      ·rw[Apg h3]
       exact key false ⟨fun h=>absurd (edges.1 h).2.2 h3,fun h=>by cases h⟩
     ·simp only[ApW h2,Ap8]
      exact key false ⟨fun h=>absurd (edges.1 h).2.1 h2,fun h=>by cases h⟩
    ·simp only[ApW h1,Ap8]
     exact key false ⟨fun h=>absurd (edges.1 h).1 h1,fun h=>by cases h⟩
end Go.Pev.Pl
end
section
namespace Go.Pev.Pl
end Go.Pev.Pl
end
section
namespace Go.Pev.Pl
theorem Ai6{n:Int}{ts:List Tie}{k:Int}{es:List Edge}{asz:List AGf}{m:Int}{ts2:List Tie}{e:Int}(v:List Int)(hv:v.length≤1000000000):
  AU Bz many (n,ts,k,es,asz,m,ts2,e,v,false,(0:Int),())=some (.inl (n,ts,k,es,asz,m,ts2,e,(v.any fun z=>decide (z<0∨n≤z)),())):=by
 have Q:=FM (step:=Bz) (fun i=>(n,ts,k,es,asz,m,ts2,e,v,((v.take i).any fun z=>decide (z<0∨n≤z)),(i:Int),())) v.length (.inl (n,ts,k,es,asz,m,ts2,e,(v.any fun z=>decide (z<0∨n≤z)),())) (by omega)
  (fun i hi=>by
   obtain⟨z,hz⟩:=BX hi
   unfold Bz
   dsimp only
   rw[AS,AL,ApX hi,AP (by omega),Bh hz,List.any_append]
   simp only[List.any_cons,List.any_nil,Bool.or_false]
   cases h:(v.take i).any fun z=>decide (z<0∨n≤z)with
   |true=>simp only[Bool.true_or]
   |false=>
    simp only[AW hz,BJ hz,Bool.false_or]
    rw[Ae,An]
    by_cases h1:z<0
    ·rw[ApX h1,ApX (show z<0∨n≤z from .inl h1)]
    ·rw[ApW h1]
     by_cases h2:n≤z
     ·simp only[ApX h2,ApX (show z<0∨n≤z from .inr h2)]
     ·simp only[ApW h2,ApW (show ¬ (z<0∨n≤z)from fun h=>h.elim h1 h2)])
  (by unfold Bz;dsimp only;rw[AS,AL,ApW (by omega),AqF])
 exact Q
theorem SM(g:Int×List Tie×Unit)(x:APP)(w:AHt){A B C:Prop}(_:A)(_:B)(_:C)(hr:x.2.1.length≤140737488351232∧x.2.2.1.length≤140737488351232):Dr (g,x,w,())=some (true,()):=by
 have hgr:=ATF g x w
 have hr25:=AQz x
 obtain⟨n,ts,⟨⟩⟩:=g
 obtain⟨hr1,hr2⟩:=hr
 rw[L3,FJ]
 simp only[AOu,Aph]
 have e0:∀ z:Int,ieq z z=true:=fun z=>by rw[Ag];exact ApX rfl
 rcases hgr with hgr|⟨hgr,h1,h2,h3,h4⟩
 ·obtain⟨k,es,asz,⟨⟩⟩:=x
  obtain⟨b,c,⟨a,d,q,⟨⟩⟩,⟨⟩⟩:=w
  simp only[hgr]
 simp only at h1 h2 h3 h4
 rw[Ah (by omega)]at h3
 have hav:=OF (x:=x) (by omega) (by omega)
 have hvl:(Bm x).length≤1000000000:=by
  unfold Bm
  rw[Apd]
  have:=C8 (fun e:Edge=>[e.1,e.2.1]) (fun _=>by simp) x.2.1
  have:=C8 Fi HO x.2.2.1
  omega
 have hsame:=(AV7 n n ts ts (by omega)).trans (by rw[ApX ⟨rfl,rfl⟩])
 obtain⟨rb,hr21,_,hrb⟩:=AQw n ts (by omega)
 have main:∃ o:AlU,GF ((n,(ts,())),x,w,())=some o∧(¬ (GR n ts∧WR x)→o.2.2.2.2.1=1)∧(GR n ts∧WR x→((Bm x).any fun z=>decide (z<0∨n≤z))=true→o.2.2.2.2.1=10)∧(GR n ts∧WR x→((Bm x).any fun z=>decide (z<0∨n≤z))=false→o.2.2.2.2.1≠10):=by
  by_cases hg:GR n ts∧WR x
  rotate_left
  ·exact⟨AQ4 1,AgA (by omega) hg,fun _=>rfl,fun h=>absurd h hg,fun h=>absurd h hg⟩
  have hg':=hg
  obtain⟨⟨N,rfl,hN⟩,hw⟩:=hg
  have h0:∀ z∈Bm x,0≤z:=by
   intro z hz
   unfold Bm at hz
   rcases Apc.1 hz with hz|hz
   ·obtain⟨e,he,hz⟩:=ArP.1 hz
    have:=(AKQ hw).2.2 e he
    unfold D3 at this
    simp only[Ape,ArR,AsG]at hz
    omega
   ·obtain⟨a,ha,hz⟩:=ArP.1 hz
    have hok:C4 a:=by
     rcases hw with⟨_,h,_⟩|⟨_,_,_,h⟩
     ·rw[h]at ha;cases ha
     ·exact h a ha
    unfold C4 Er at hok
    unfold Fi at hz
    split at hz
    ·simp only[Ape,ArR,AsG]at hz;omega
    ·split at hz
     ·simp only[Ape,ArR,AsG]at hz;omega
     ·cases hz
  by_cases hv:∃ v∈Bm x,(N:Int)≤v
  ·refine⟨AQ4 10,AZn hN hw hv,fun h=>absurd hg' h,fun _ _=>rfl,fun _ h => ?_⟩
   obtain⟨v,hv1,hv2⟩:=hv
   rw[List.any_eq_false]at h
   exact absurd (ApX (.inr hv2)) (h v hv1)
  ·have hv':∀ v∈Bm x,v<(N:Int):=fun v hm=>by
    rcases Int.lt_or_le v (N:Int)with h|h
    ·exact h
    ·exact absurd ⟨v,hm,h⟩ hv
   have hany:((Bm x).any fun z=>decide (z<0∨(N:Int)≤z))=false:=by
    rw[List.any_eq_false]
    intro v hm
    have:=hv' v hm
    have:=h0 v hm
    simp only[Apb]
    omega
   by_cases hk3:x.1=3
   ·exact⟨_,AZo hN hw hv' hk3,fun h=>absurd hg' h,fun _ h=>(by rw[hany]at h;cases h),fun _ _=>by simp⟩
   ·have hk:x.1=1∨x.1=2:=by
     rcases hw with⟨hh,_⟩|⟨hh,_⟩
     ·exact hh
     ·exact absurd hh hk3
    have hc:=AUA (w:=w) hN hw hv' hk
    by_cases hW:O4 w
    ·rw[Apk hW]at hc
     by_cases k2:x.1=2
     ·rw[Apk k2]at hc
      exact⟨_,hc,fun h=>absurd hg' h,fun _ h=>(by rw[hany]at h;cases h),fun _ _=>by simp⟩
     ·rw[Apg k2]at hc
      by_cases hf:400-ts.length<(Dv N ts x.2.1).length
      ·rw[Apk hf]at hc
       exact⟨_,hc,fun h=>absurd hg' h,fun _ h=>(by rw[hany]at h;cases h),fun _ _=>by unfold AQ4;simp⟩
      ·rw[Apg hf]at hc
       exact⟨_,hc,fun h=>absurd hg' h,fun _ h=>(by rw[hany]at h;cases h),fun _ _=>by simp⟩
    ·rw[Apg hW]at hc
     exact⟨_,hc,fun h=>absurd hg' h,fun _ h=>(by rw[hany]at h;cases h),fun _ _=>by unfold AQ4;simp⟩
 obtain⟨o,hc,m1,m2,m3⟩:=main
 obtain⟨o1,o2,o3,o4,o5,⟨⟩⟩:=o
 simp only at m1 m2 m3
 obtain⟨k,es,asz,⟨⟩⟩:=x
 obtain⟨b,c,⟨a,d,q,⟨⟩⟩,⟨⟩⟩:=w
 simp only[hgr,AS,Apt]
 rw[Bj (by omega)]
 have hda:BT ([]:List Tie) ts=ts:=rfl
 simp only[hda,hc,hav,Ai6 (Bm (k,es,asz,())) hvl,hr21,hr25,hsame]
 generalize ((Bm (k,es,asz,())).any fun z=>decide (z<0∨n≤z))=ob at m2 m3
 have eo:∀ z:Int,ieq o5 z=decide (o5=z):=fun z=>Ag _ _
 simp only[eo]
 cases rb with
 |false=>
  have:o5=1:=m1 fun h=>by have:=hrb.2 h.1;cases this
  rw[ApX this]
 |true=>
  have hgr':=hrb.1 rfl
  by_cases hw:WR (k,es,asz,())
  ·simp only[ApX hw,Aph]
   cases ob with
   |true=>
    have:=m2 ⟨hgr',hw⟩ rfl
    simp only[Aph,ApX this]
   |false=>
    have:=m3 ⟨hgr',hw⟩ rfl
    simp only[Ap8,ApW this]
  ·have:o5=1:=m1 fun h=>hw h.2
   simp only[ApW hw,Ap8,ApX this]
end Go.Pev.Pl
end
section
namespace Go.Pev
open Go.RowKit
noncomputable def NA(n:Nat):Spec:=fun R args _ _ _ k=>
 match args with
 |[.data (.slice e) xs]=>match decide (e.size=n)with
  |true=>k (.clip e xs) {}
  |false=>none
 |_=>none
structure AKH(P:Program)(fn:Func)(T e:TypeId)(n:Nat):Prop where
 body:fn.body=some (.seq (.region 0 #[Bb fn 0 0] false) (.seq (.region 1 #[Bb fn 1 0,Bb fn 1 1,Bb fn 1 2,Bb fn 1 3,Bb fn 1 4,Bb fn 1 5,Bb fn 1 6] false) .ret))
 nt:fn.ntmps=9
 res:fn.results = #[.tmp 2]
 d:(Bb fn 0 0).dst=some 2∧(Bb fn 1 0).dst=some 3∧(Bb fn 1 1).dst=some 4∧(Bb fn 1 2).dst=some 5∧(Bb fn 1 3).dst=some 6∧(Bb fn 1 4).dst=some 7∧(Bb fn 1 5).dst=some 8∧(Bb fn 1 6).dst=some 2
 g:(Bb fn 0 0).guard=none∧(Bb fn 1 0).guard=none∧(Bb fn 1 1).guard=none∧(Bb fn 1 2).guard=none∧(Bb fn 1 3).guard=none∧(Bb fn 1 4).guard=none∧(Bb fn 1 5).guard=none∧(Bb fn 1 6).guard=none
 o00:(Bb fn 0 0).op = .assign (.const (.slice none 0 0))
 o10:(Bb fn 1 0).op = .move (.tmp 0)
 o11:(Bb fn 1 1).op = .move (.tmp 0)
 o12:(Bb fn 1 2).op = .call { callee:=.builtin .len,args:=#[.tmp 4],argTypes:=#[T] }
 o13:(Bb fn 1 3).op = .move (.tmp 0)
 o14:(Bb fn 1 4).op = .call { callee:=.builtin .len,args:=#[.tmp 6],argTypes:=#[T] }
 o15:(Bb fn 1 5).op = .slice T (.tmp 3) none (some (.tmp 5)) (some (.tmp 7))
 o16:(Bb fn 1 6).op = .assign (.tmp 8)
 sl:P.underlying T=some (.slice e)
 sz:BI P e=some n
section
variable {P:Program} {g:FuncId} {fn:Func} {T e:TypeId} {n:Nat}
theorem Anb (hs : AKH P fn T e n) (hf : P.funcs[g]? = some fn) (hn : (fn.name == "runtime.NumGoroutine") = false) : AO P g (NA n) := by
 intro R args H fz slot k r hk
 unfold NA at hk
 split at hk
 ·rename_i t xs
  split at hk
  ·rename_i hsz
   refine⟨_,_,hk,fun R' k'=>by simp only[NA,hsz],It hf (by rw[hs.body];rfl) hn,fun w F m vals hi hr => ?_⟩
   simp only[Apb]at hsz
   obtain⟨i,hi0,hsz'⟩:=BL hs.sz
   unfold Af at hr
   obtain⟨v,vs',rfl,hrv,hnil⟩:=hr
   unfold Af at hnil;subst hnil
   have hrv:Dat w F (.slice t) xs [v]:=hrv
   obtain⟨a,cap,e1,e2,e3⟩:=hrv
   simp only[Apz,Arr]at e1
   subst e1
   refine calls_of_wp hf hs.body ?_
   obtain⟨d0,d1,d2,d3,d4,d5,d6,d7⟩:=hs.d
   obtain⟨g0,g1,g2,g3,g4,g5,g6,g7⟩:=hs.g
   have hres:∀ (tm:Array Value) (w0:World),(results fn tm).run P w0 = .ok (tm.getD 2 undef) w0:=fun tm w0=>by simp[results,hs.res]
   refine wp_seq (wp_region ?_)
   simp only[Aqt,Api,Apt,AqR,AsB,AqK]
   refine B1 (by rfl) g0 (B2 (Gg hs.o00) ?_)
   refine wp_seq (wp_region ?_)
   simp only[Aqt,Api,Apt,AqR,AsB,AqK,Ap2]
   refine B1 (by rfl) g1 (B2 (J1 hs.o10) ?_)
   refine B1 (by rfl) g2 (B2 (J1 hs.o11) ?_)
   refine B1 (by rfl) g3 (B2 (u:=.int .i64 (List.length (α:=t.den) xs)) (w':=w) (by simp[execOp,hs.o12,resolve,invoke,builtin,Act.eval,Act.put,d0,d1,d2,hs.nt,Ba hs.sl]) ?_)
   refine B1 (by rfl) g4 (B2 (J1 hs.o13) ?_)
   refine B1 (by rfl) g5 (B2 (u:=.int .i64 (List.length (α:=t.den) xs)) (w':=w) (by simp[execOp,hs.o14,resolve,invoke,builtin,Act.eval,Act.put,d0,d1,d2,d3,d4,hs.nt,Ba hs.sl]) ?_)
   have hrun:=MR (P:=P) (w:=w) (kh:=.i64) (km:=.i64) hs.sl hi0 a (List.length (α:=t.den) xs) cap (l:=0) (h:=(List.length (α:=t.den) xs:Int)) (.inl ⟨rfl,rfl⟩) (by omega) (by omega) (by omega)
   refine B1 (by rfl) g6 (B2 (u:=.slice a (List.length (α:=t.den) xs) (List.length (α:=t.den) xs)) (w':=w) (by
    simp[execOp,hs.o15,Act.eval,Act.put,d0,d1,d2,d3,d4,d5,hs.nt,hrun]
    intro _
    cases a<;>rfl) ?_)
   refine B1 (by rfl) g7 (B2 (Gg hs.o16) ?_)
   refine wp_ret ?_
   refine⟨by simp[Act.put,d0,d1,d2,d3,d4,d5,d6,d7],_,hres _ _,?_⟩
   refine⟨_,rfl,F,m,Av.refl hi,?_⟩
   have:Rep w F m H (.clip t xs) (.slice a (List.length (α:=t.den) xs) (List.length (α:=t.den) xs)):=by
    unfold Rep
    exact⟨⟨a,_,rfl,Apj _,e3⟩,a,rfl⟩
   show Rep _ _ _ H _ _
   simpa [Act.put,Act.eval,d0,d1,d2,d3,d4,d5,d6,d7,hs.nt]using this
  ·cases hk
 ·cases hk
theorem M9(n:Nat):GG (NA n):=fun _ _ _ _ _ _ _ _ _=>rfl
end
end Go.Pev
end
section
namespace Go.Pev
open Go.Proofs
noncomputable section
abbrev Agv:Hints:={  }
theorem AVM:∀ v,Qj v=AK 0 Tryz.prog Env.none Agv Tryz.f85 AAR AAQ AAP v:=by
 rintro⟨a0,⟨⟩⟩
 kernel_rfl
theorem Agu:AD (AQ Tryz.f85) 0=[]:=by kernel_rfl
theorem APj:AO Tryz.prog 85 (AF 0 1 AAR AAQ AAP MD):=AH Env.AbF Tryz.func85 (by kernel_rfl) (by kernel_rfl) rfl (fun v=>(AH1 v).trans (AVM v)) (AA Agu trivial)
def AF3:Env:=Env.none.ext 85 true true (AF 0 1 AAR AAQ AAP MD)
theorem YX:AX Tryz.prog AF3:=Env.AZ Env.AbF APj (fun _=>AI rfl rfl) (fun _=>AG rfl rfl)
abbrev Ao8:Hints:={  }
theorem Alp:∀ v,Aad v=AK 0 Tryz.prog AF3 Ao8 Tryz.f126 AhF AhE AhD v:=by
 rintro⟨a0,a1,⟨⟩⟩
 kernel_rfl
theorem Ao7:AD (AQ Tryz.f126) 0=[]:=by kernel_rfl
theorem AhC:AO Tryz.prog 126 (AF 0 2 AhF AhE AhD tin):=AH YX Tryz.func126 (by kernel_rfl) (by kernel_rfl) rfl (fun v=>(AhG v).trans (Alp v)) (AA Ao7 trivial)
def AlQ:Env:=AF3.ext 126 true true (AF 0 2 AhF AhE AhD tin)
theorem AU2:AX Tryz.prog AlQ:=Env.AZ YX AhC (fun _=>AI rfl rfl) (fun _=>AG rfl rfl)
abbrev AoF:Hints:={  }
theorem AhL:∀ v,AK5 v=AK 0 Tryz.prog AlQ AoF Tryz.f108 AVh AVg AVf v:=by
 rintro⟨a0,a1,a2,⟨⟩⟩
 kernel_rfl
theorem AoE:AD (AQ Tryz.f108) 0=[]:=by kernel_rfl
theorem Acm:AO Tryz.prog 108 (AF 0 3 AVh AVg AVf Acn):=AH AU2 Tryz.func108 (by kernel_rfl) (by kernel_rfl) rfl (fun v=>(Aae v).trans (AhL v)) (AA AoE trivial)
def AaM:Env:=AlQ.ext 108 true true (AF 0 3 AVh AVg AVf Acn)
theorem AJ7:AX Tryz.prog AaM:=Env.AZ AU2 Acm (fun _=>AI rfl rfl) (fun _=>AG rfl rfl)
abbrev Agt:Hints:={ fp:=fun n=>match n with|5=>[[],[],[],[],[],[],[],[],[]]|_=>[] }
theorem AVL:∀ v,Qi v=AK 0 Tryz.prog AaM Agt Tryz.f163 AAN AAM AAL v:=by
 rintro⟨a0,a1,⟨⟩⟩
 kernel_rfl
theorem Ags:AD (AQ Tryz.f163) 0=[]:=by kernel_rfl
theorem APi:AO Tryz.prog 163 (AF 0 2 AAN AAM AAL AAO):=AH AJ7 Tryz.func163 (by kernel_rfl) (by kernel_rfl) rfl (fun v=>(AH0 v).trans (AVL v)) (AA Ags trivial)
def SU:Env:=AaM.ext 163 true true (AF 0 2 AAN AAM AAL AAO)
theorem NL:AX Tryz.prog SU:=Env.AZ AJ7 APi (fun _=>AI rfl rfl) (fun _=>AG rfl rfl)
abbrev AKs:Hints:={ loop:=fun n=>match n with|0=>Ab 0 25 APu APt HW|_=>fun _ _ _=>none }
theorem APs:∀ v,HW v=roundOf Tryz.prog SU AKs 1 0 25 (AB Tryz.f74 0) APu APt v:=by
 rintro⟨a0,a1,a2,a3,a4,⟨⟩⟩
 kernel_rfl
theorem Ag5:AD (AB Tryz.f74 0) 1=[]:=by kernel_rfl
theorem Ag6:Aa Tryz.prog 0 (.loop (AB Tryz.f74 0)) (AKs.loop 0):=AT NL (APs) (AA Ag5 trivial)
theorem AcY:∀ v,ZV v=AK 0 Tryz.prog SU AKs Tryz.f74 AKr AKq AKp v:=by
 rintro⟨a0,⟨⟩⟩
 kernel_rfl
theorem Alk:AD (AQ Tryz.f74) 0=[(0,AB Tryz.f74 0)]:=by kernel_rfl
theorem AVS:AO Tryz.prog 74 (AF 0 1 AKr AKq AKp APw):=AH NL Tryz.func74 (by kernel_rfl) (by kernel_rfl) rfl (fun v=>(APv v).trans (AcY v)) (AA Alk ⟨Ag6,trivial⟩)
def Zz:Env:=SU.ext 74 true true (AF 0 1 AKr AKq AKp APw)
theorem QR:AX Tryz.prog Zz:=Env.AZ NL AVS (fun _=>AI rfl rfl) (fun _=>AG rfl rfl)
abbrev ADu:Hints:={ loop:=fun n=>match n with|0=>Ab 0 19 AJC AJB Fl|_=>fun _ _ _=>none }
theorem AM3:∀ v,Fl v=roundOf Tryz.prog Zz ADu 1 0 19 (AB Tryz.f147 0) AJC AJB v:=by
 rintro⟨a0,a1,a2,a3,⟨⟩⟩
 kernel_rfl
theorem Aep:AD (AB Tryz.f147 0) 1=[]:=by kernel_rfl
theorem Aeq:Aa Tryz.prog 0 (.loop (AB Tryz.f147 0)) (ADu.loop 0):=AT QR (AM3) (AA Aep trivial)
theorem AYV:∀ v,RR v=AK 0 Tryz.prog Zz ADu Tryz.f147 ADt ADs ADr v:=by
 rintro⟨a0,a1,⟨⟩⟩
 kernel_rfl
theorem Ajn:AD (AQ Tryz.f147) 0=[(0,AB Tryz.f147 0)]:=by kernel_rfl
theorem ASp:AO Tryz.prog 147 (AF 0 2 ADt ADs ADr Pu):=AH QR Tryz.func147 (by kernel_rfl) (by kernel_rfl) rfl (fun v=>(AJD v).trans (AYV v)) (AA Ajn ⟨Aeq,trivial⟩)
def AGM:Env:=Zz.ext 147 true true (AF 0 2 ADt ADs ADr Pu)
theorem Yj:AX Tryz.prog AGM:=Env.AZ QR ASp (fun _=>AI rfl rfl) (fun _=>AG rfl rfl)
abbrev AT0:Hints:={  }
theorem AHa:∀ v,Ir v=AK 0 Tryz.prog AGM AT0 Tryz.f129 M3 M0 Mz v:=by
 rintro⟨a0,a1,⟨⟩⟩
 kernel_rfl
theorem ATz:AD (AQ Tryz.f129) 0=[]:=by kernel_rfl
theorem AE7:AO Tryz.prog 129 (AF 0 2 M3 M0 Mz GA):=AH Yj Tryz.func129 (by kernel_rfl) (by kernel_rfl) rfl (fun v=>(Rz v).trans (AHa v)) (AA ATz trivial)
def I5:Env:=AGM.ext 129 true true (AF 0 2 M3 M0 Mz GA)
theorem II:AX Tryz.prog I5:=Env.AZ Yj AE7 (fun _=>AI rfl rfl) (fun _=>AG rfl rfl)
abbrev AXu:Hints:={ loop:=fun n=>match n with|0=>Ab 0 25 AbH AbG Kh|_=>fun _ _ _=>none }
theorem AXq:∀ v,Kh v=roundOf Tryz.prog I5 AXu 1 0 25 (AB Tryz.f145 0) AbH AbG v:=by
 rintro⟨a0,a1,a2,⟨⟩⟩
 kernel_rfl
theorem Amf:AD (AB Tryz.f145 0) 1=[]:=by kernel_rfl
theorem Amg:Aa Tryz.prog 0 (.loop (AB Tryz.f145 0)) (AXu.loop 0):=AT II (AXq) (AA Amf trivial)
theorem AjQ:∀ v,AMh v=AK 0 Tryz.prog I5 AXu Tryz.f145 AXt AXs AXr v:=by
 rintro⟨a0,⟨⟩⟩
 kernel_rfl
theorem Aof:AD (AQ Tryz.f145) 0=[(0,AB Tryz.f145 0)]:=by kernel_rfl
theorem AeK:AO Tryz.prog 145 (AF 0 1 AXt AXs AXr AeL):=AH II Tryz.func145 (by kernel_rfl) (by kernel_rfl) rfl (fun v=>(AbI v).trans (AjQ v)) (AA Aof ⟨Amg,trivial⟩)
def AaR:Env:=I5.ext 145 true true (AF 0 1 AXt AXs AXr AeL)
theorem AKC:AX Tryz.prog AaR:=Env.AZ II AeK (fun _=>AI rfl rfl) (fun _=>AG rfl rfl)
abbrev Am4:Hints:={  }
theorem Ae4:∀ v,Zj v=AK 0 Tryz.prog AaR Am4 Tryz.f132 ANM ANL ANK v:=by
 rintro⟨a0,⟨⟩⟩
 kernel_rfl
theorem Am3:AD (AQ Tryz.f132) 0=[]:=by kernel_rfl
theorem AYa:AO Tryz.prog 132 (AF 0 2 ANM ANL ANK ATE):=AH AKC Tryz.func132 (by kernel_rfl) (by kernel_rfl) rfl (fun v=>(ATD v).trans (Ae4 v)) (AA Am3 trivial)
def Sw:Env:=AaR.ext 132 false true (AF 0 2 ANM ANL ANK ATE)
theorem Ll:AX Tryz.prog Sw:=Env.AZ AKC AYa ((by simp)) (fun _=>AG rfl rfl)
abbrev J7:Hints:={ loop:=fun n=>match n with|0=>Ab 0 36 AFC AFA EV|1=>Ab 0 36 AFB AE9 EU|_=>fun _ _ _=>none }
theorem AHi:∀ v,EU v=roundOf Tryz.prog Sw J7 2 0 36 (AB Tryz.f107 1) AFB AE9 v:=by
 rintro⟨a0,a1,a2,a3,⟨⟩⟩
 kernel_rfl
theorem AZf:AD (AB Tryz.f107 1) 2=[]:=by kernel_rfl
theorem AZh:Aa Tryz.prog 0 (.loop (AB Tryz.f107 1)) (J7.loop 1):=AT Ll (AHi) (AA AZf trivial)
theorem AHj:∀ v,EV v=roundOf Tryz.prog Sw J7 1 0 36 (AB Tryz.f107 0) AFC AFA v:=by
 rintro⟨a0,a1,a2,a3,a4,⟨⟩⟩
 kernel_rfl
theorem AZg:AD (AB Tryz.f107 0) 1=[]:=by kernel_rfl
theorem AZi:Aa Tryz.prog 0 (.loop (AB Tryz.f107 0)) (J7.loop 0):=AT Ll (AHj) (AA AZg trivial)
theorem AT3:∀ v,N9 v=AK 0 Tryz.prog Sw J7 Tryz.f107 WZ WY WX v:=by
 rintro⟨a0,⟨⟩⟩
 kernel_rfl
theorem Af3:AD (AQ Tryz.f107) 0=[(0,AB Tryz.f107 0),(1,AB Tryz.f107 1)]:=by kernel_rfl
theorem AOB:AO Tryz.prog 107 (AF 0 1 WZ WY WX LN):=AH Ll Tryz.func107 (by kernel_rfl) (by kernel_rfl) rfl (fun v=>(AFD v).trans (AT3 v)) (AA Af3 ⟨AZi,AZh,trivial⟩)
def XM:Env:=Sw.ext 107 true true (AF 0 1 WZ WY WX LN)
theorem S7:AX Tryz.prog XM:=Env.AZ Ll AOB (fun _=>AI rfl rfl) (fun _=>AG rfl rfl)
theorem AdS:Tryz.f161.body.isSome=true:=by kernel_rfl
theorem AdR : (Tryz.f161.name == "runtime.NumGoroutine") = false := by kernel_rfl
theorem AdQ:loops (AQ Tryz.f161)=0:=by kernel_rfl
def I1:Env:=XM.ext 161 false false (Cl Tryz.prog XM {} Tryz.f161)
theorem IF:AX Tryz.prog I1:=Env.AZ S7 (CX S7 Tryz.func161 AdS AdR AdQ) (by simp) (by simp)
abbrev Hq:Hints:={ loop:=fun n=>match n with|0=>Ab 0 19 Lw Lv By|_=>fun _ _ _=>none }
theorem Px:∀ v,By v=roundOf Tryz.prog I1 Hq 1 0 19 (AB Tryz.f56 0) Lw Lv v:=by
 rintro⟨a0,a1,a2,⟨⟩⟩
 kernel_rfl
theorem Y1:AD (AB Tryz.f56 0) 1=[]:=by kernel_rfl
theorem Y2:Aa Tryz.prog 0 (.loop (AB Tryz.f56 0)) (Hq.loop 0):=AT IF (Px) (AA Y1 trivial)
theorem VT:∀ v,E4 v=AK 0 Tryz.prog I1 Hq Tryz.f56 Hp Ho Hn v:=by
 rintro⟨a0,⟨⟩⟩
 kernel_rfl
theorem ADw:AD (AQ Tryz.f56) 0=[(0,AB Tryz.f56 0)]:=by kernel_rfl
theorem RZ:AO Tryz.prog 56 (AF 0 2 Hp Ho Hn G7):=AH IF Tryz.func56 (by kernel_rfl) (by kernel_rfl) rfl (fun v=>(Lx v).trans (VT v)) (AA ADw ⟨Y2,trivial⟩)
def IG:Env:=I1.CE 56 1 161 (AF 0 2 Hp Ho Hn G7)
theorem I3:AX Tryz.prog IG:=Env.Aw IF RZ (AG rfl rfl)
end
end Go.Pev
end
section
namespace Go.Pev
open Go.Proofs
noncomputable section
abbrev ZB:Hints:={  }
theorem R2:∀ v,EC v=AK 0 Tryz.prog IG ZB Tryz.f29 Gy Gx Gw v:=by
 rintro⟨a0,⟨⟩⟩
 kernel_rfl
theorem ZA:AD (AQ Tryz.f29) 0=[]:=by kernel_rfl
theorem QD:AO Tryz.prog 29 (AF 0 2 Gy Gx Gw D5):=AH I3 Tryz.func29 (by kernel_rfl) (by kernel_rfl) rfl (fun v=>(J6 v).trans (R2 v)) (AA ZA trivial)
def ED:Env:=IG.CE 29 1 161 (AF 0 2 Gy Gx Gw D5)
theorem Ea:AX Tryz.prog ED:=Env.Aw I3 QD (AG rfl rfl)
abbrev AXh:Hints:={ loop:=fun n=>match n with|0=>Ab 0 23 Aa9 Aa8 Kb|_=>fun _ _ _=>none }
theorem AXd:∀ v,Kb v=roundOf Tryz.prog ED AXh 1 0 23 (AB Tryz.f162 0) Aa9 Aa8 v:=by
 rintro⟨a0,a1,a2,a3,a4,⟨⟩⟩
 kernel_rfl
theorem Ama:AD (AB Tryz.f162 0) 1=[]:=by kernel_rfl
theorem Amb:Aa Tryz.prog 0 (.loop (AB Tryz.f162 0)) (AXh.loop 0):=AT Ea (AXd) (AA Ama trivial)
theorem AjJ:∀ v,AMX v=AK 0 Tryz.prog ED AXh Tryz.f162 AXg AXf AXe v:=by
 rintro⟨a0,⟨⟩⟩
 kernel_rfl
theorem Aob:AD (AQ Tryz.f162) 0=[(0,AB Tryz.f162 0)]:=by kernel_rfl
theorem Ad9:AO Tryz.prog 162 (AF 0 1 AXg AXf AXe once):=AH Ea Tryz.func162 (by kernel_rfl) (by kernel_rfl) rfl (fun v=>(AbA v).trans (AjJ v)) (AA Aob ⟨Amb,trivial⟩)
def AaP:Env:=ED.ext 162 true true (AF 0 1 AXg AXf AXe once)
theorem AKA:AX Tryz.prog AaP:=Env.AZ Ea Ad9 (fun _=>AI rfl rfl) (fun _=>AG rfl rfl)
abbrev Aht:Hints:={  }
theorem AWH:∀ v,Q2 v=AK 0 Tryz.prog AaP Aht Tryz.f144 ABh ABg ABf v:=by
 rintro⟨a0,⟨⟩⟩
 kernel_rfl
theorem Ahs:AD (AQ Tryz.f144) 0=[]:=by kernel_rfl
theorem AQj:AO Tryz.prog 144 (AF 0 1 ABh ABg ABf PT):=AH AKA Tryz.func144 (by kernel_rfl) (by kernel_rfl) rfl (fun v=>(AIY v).trans (AWH v)) (AA Ahs trivial)
def AGD:Env:=AaP.ext 144 true true (AF 0 1 ABh ABg ABf PT)
theorem Yf:AX Tryz.prog AGD:=Env.AZ AKA AQj (fun _=>AI rfl rfl) (fun _=>AG rfl rfl)
abbrev Agr:Hints:={ fp:=fun n=>match n with|1=>[[],[],[],[],[],[],[],[0],[]]|_=>[] }
theorem AVJ:∀ v,Qh v=AK 0 Tryz.prog AGD Agr Tryz.f131 AAK AAJ AAI v:=by
 rintro⟨a0,a1,⟨⟩⟩
 kernel_rfl
theorem Agq:AD (AQ Tryz.f131) 0=[]:=by kernel_rfl
theorem APh:AO Tryz.prog 131 (AF 0 2 AAK AAJ AAI TH):=AH Yf Tryz.func131 (by kernel_rfl) (by kernel_rfl) rfl (fun v=>(AHz v).trans (AVJ v)) (AA Agq trivial)
def SS:Env:=AGD.ext 131 true true (AF 0 2 AAK AAJ AAI TH)
theorem NK:AX Tryz.prog SS:=Env.AZ Yf APh (fun _=>AI rfl rfl) (fun _=>AG rfl rfl)
abbrev ACQ:Hints:={ loop:=fun n=>match n with|0=>Ab 0 29 AIm AIl Ee|_=>fun _ _ _=>none }
theorem AL3:∀ v,Ee v=roundOf Tryz.prog SS ACQ 1 0 29 (AB Tryz.f130 0) AIm AIl v:=by
 rintro⟨a0,a1,a2,a3,a4,⟨⟩⟩
 kernel_rfl
theorem Adk:AD (AB Tryz.f130 0) 1=[]:=by kernel_rfl
theorem Adl:Aa Tryz.prog 0 (.loop (AB Tryz.f130 0)) (ACQ.loop 0):=AT NK (AL3) (AA Adk trivial)
theorem AWy:∀ v,RD v=AK 0 Tryz.prog SS ACQ Tryz.f130 ACP ACO ACN v:=by
 rintro⟨a0,a1,⟨⟩⟩
 kernel_rfl
theorem AiV:AD (AQ Tryz.f130) 0=[(0,AB Tryz.f130 0)]:=by kernel_rfl
theorem ARB:AO Tryz.prog 130 (AF 0 2 ACP ACO ACN AL4):=AH NK Tryz.func130 (by kernel_rfl) (by kernel_rfl) rfl (fun v=>(AIn v).trans (AWy v)) (AA AiV ⟨Adl,trivial⟩)
def AGG:Env:=SS.ext 130 true true (AF 0 2 ACP ACO ACN AL4)
theorem Yh:AX Tryz.prog AGG:=Env.AZ NK ARB (fun _=>AI rfl rfl) (fun _=>AG rfl rfl)
abbrev Al8:Hints:={  }
theorem AdW:∀ v,Zb v=AK 0 Tryz.prog AGG Al8 Tryz.f106 ALt ALs ALr v:=by
 rintro⟨a0,a1,⟨⟩⟩
 kernel_rfl
theorem Al7:AD (AQ Tryz.f106) 0=[]:=by kernel_rfl
theorem AWU:AO Tryz.prog 106 (AF 0 2 ALt ALs ALr AIa):=AH Yh Tryz.func106 (by kernel_rfl) (by kernel_rfl) rfl (fun v=>(AQ2 v).trans (AdW v)) (AA Al7 trivial)
def AO8:Env:=AGG.ext 106 true true (AF 0 2 ALt ALs ALr AIa)
theorem AGF:AX Tryz.prog AO8:=Env.AZ Yh AWU (fun _=>AI rfl rfl) (fun _=>AG rfl rfl)
abbrev Ahv:Hints:={  }
theorem AWJ:∀ v,Q3 v=AK 0 Tryz.prog AO8 Ahv Tryz.f133 ABk ABj ABi v:=by
 rintro⟨a0,⟨⟩⟩
 kernel_rfl
theorem Ahu:AD (AQ Tryz.f133) 0=[]:=by kernel_rfl
theorem AQk:AO Tryz.prog 133 (AF 0 1 ABk ABj ABi ABl):=AH AGF Tryz.func133 (by kernel_rfl) (by kernel_rfl) rfl (fun v=>(AIZ v).trans (AWJ v)) (AA Ahu trivial)
def AGE:Env:=AO8.ext 133 true true (AF 0 1 ABk ABj ABi ABl)
theorem Yg:AX Tryz.prog AGE:=Env.AZ AGF AQk (fun _=>AI rfl rfl) (fun _=>AG rfl rfl)
theorem AcU:Tryz.f128.body.isSome=true:=by kernel_rfl
theorem AcT : (Tryz.f128.name == "runtime.NumGoroutine") = false := by kernel_rfl
theorem AcS:loops (AQ Tryz.f128)=0:=by kernel_rfl
def Iz:Env:=AGE.ext 128 false false (Cl Tryz.prog AGE {} Tryz.f128)
theorem IC:AX Tryz.prog Iz:=Env.AZ Yg (CX Yg Tryz.func128 AcU AcT AcS) (by simp) (by simp)
abbrev Fs:Hints:={ loop:=fun n=>match n with|0=>Ab 1 19 Ib Ia Be|_=>fun _ _ _=>none }
theorem Mo:∀ v,Be v=roundOf Tryz.prog Iz Fs 1 1 19 (AB Tryz.f127 0) Ib Ia v:=by
 rintro⟨a0,a1,a2,a3,⟨⟩⟩
 kernel_rfl
theorem RV:AD (AB Tryz.f127 0) 1=[]:=by kernel_rfl
theorem RW:Aa Tryz.prog 1 (.loop (AB Tryz.f127 0)) (Fs.loop 0):=AT IC (Mo) (AA RV trivial)
theorem Pv:∀ v,Dl v=AK 1 Tryz.prog Iz Fs Tryz.f127 Fq Fp Fm v:=by
 rintro⟨a0,a1,⟨⟩⟩
 kernel_rfl
theorem VR:AD (AQ Tryz.f127) 0=[(0,AB Tryz.f127 0)]:=by kernel_rfl
theorem OS:AO Tryz.prog 127 (AF 1 2 Fq Fp Fm E2):=AH IC Tryz.func127 (by kernel_rfl) (by kernel_rfl) rfl (fun v=>(Ic v).trans (Pv v)) (AA VR ⟨RW,trivial⟩)
def GK:Env:=Iz.CE 127 1 128 (AF 1 2 Fq Fp Fm E2)
theorem G4:AX Tryz.prog GK:=Env.Aw IC OS (AG rfl rfl)
abbrev Ag0:Hints:={  }
theorem AVP:∀ v,Ql v=AK 0 Tryz.prog GK Ag0 Tryz.f105 AAc AAb AAa v:=by
 rintro⟨a0,a1,⟨⟩⟩
 kernel_rfl
theorem Agz:AD (AQ Tryz.f105) 0=[]:=by kernel_rfl
theorem APm:AO Tryz.prog 105 (AF 0 2 AAc AAb AAa TL):=AH G4 Tryz.func105 (by kernel_rfl) (by kernel_rfl) rfl (fun v=>(AH9 v).trans (AVP v)) (AA Agz trivial)
def AF5:Env:=GK.ext 105 true true (AF 0 2 AAc AAb AAa TL)
theorem YZ:AX Tryz.prog AF5:=Env.AZ G4 APm (fun _=>AI rfl rfl) (fun _=>AG rfl rfl)
theorem Anu:Tryz.f164.body.isSome=true:=by kernel_rfl
theorem Ant : (Tryz.f164.name == "runtime.NumGoroutine") = false := by kernel_rfl
theorem Ans:loops (AQ Tryz.f164)=0:=by kernel_rfl
def OP:Env:=AF5.ext 164 false false (Cl Tryz.prog AF5 {} Tryz.f164)
theorem Lq:AX Tryz.prog OP:=Env.AZ YZ (CX YZ Tryz.func164 Anu Ant Ans) (by simp) (by simp)
abbrev AYg:Hints:={ loop:=fun n=>match n with|0=>Ab 0 107 Abd Abc Ii|_=>fun _ _ _=>none,fp:=fun n=>match n with|8=>[[],[],[],[],[],[],[],[],[1000003],[],[],[],[],[],[],[],[],[0],[0],[0],[],[0],[0],[0],[2,26],[],[2,26],[2,26],[],[],[],[],[]]|13=>[[],[0],[0],[0],[2],[],[],[],[0],[0],[0],[6],[],[0],[0],[0],[4],[],[],[]]|3=>[[],[],[],[],[],[],[],[],[11],[],[],[],[8,10,12],[]]|_=>[] }
theorem AYc:∀ v,Ii v=roundOf Tryz.prog OP AYg 1 0 107 (AB Tryz.f146 0) Abd Abc v:=by
 rintro⟨a0,a1,a2,a3,a4,a5,a6,⟨⟩⟩
 kernel_rfl
theorem Am8:AD (AB Tryz.f146 0) 1=[]:=by kernel_rfl
theorem Am9:Aa Tryz.prog 0 (.loop (AB Tryz.f146 0)) (AYg.loop 0):=AT Lq (AYc) (AA Am8 trivial)
theorem Aj6:∀ v,ANO v=AK 0 Tryz.prog OP AYg Tryz.f146 AYf AYe AYd v:=by
 rintro⟨a0,a1,⟨⟩⟩
 kernel_rfl
theorem Aoo:AD (AQ Tryz.f146) 0=[(0,AB Tryz.f146 0)]:=by kernel_rfl
theorem AfA:AO Tryz.prog 146 (AF 0 2 AYf AYe AYd Aj8):=AH Lq Tryz.func146 (by kernel_rfl) (by kernel_rfl) rfl (fun v=>(Abe v).trans (Aj6 v)) (AA Aoo ⟨Am9,trivial⟩)
def XH:Env:=OP.ext 146 true true (AF 0 2 AYf AYe AYd Aj8)
theorem KH:AX Tryz.prog XH:=Env.AZ Lq AfA (fun _=>AI rfl rfl) (fun _=>AG rfl rfl)
end
end Go.Pev
end
section
namespace Go.Pev
open Go.Proofs
noncomputable section
abbrev HU:Hints:={ loop:=fun n=>match n with|0=>Ab 0 87 AH7 AH4 Dc|1=>Ab 0 87 AH6 AH3 Db|2=>Ab 0 87 AH5 AH2 Eb|_=>fun _ _ _=>none,fp:=fun n=>match n with|8=>[[],[],[],[],[],[],[],[],[],[],[],[],[],[],[],[],[],[],[],[],[],[],[],[],[0],[0],[],[],[],[]]|_=>[] }
theorem AKe:∀ v,Eb v=roundOf Tryz.prog XH HU 3 0 87 (AB Tryz.f124 2) AH5 AH2 v:=by
 rintro⟨a0,a1,a2,⟨⟩⟩
 kernel_rfl
theorem AcM:AD (AB Tryz.f124 2) 3=[]:=by kernel_rfl
theorem AcP:Aa Tryz.prog 0 (.loop (AB Tryz.f124 2)) (HU.loop 2):=AT KH (AKe) (AA AcM trivial)
theorem AKf:∀ v,Db v=roundOf Tryz.prog XH HU 2 0 87 (AB Tryz.f124 1) AH6 AH3 v:=by
 rintro⟨a0,a1,a2,a3,a4,a5,a6,a7,a8,a9,a10,a11,a12,a13,a14,a15,a16,a17,a18,a19,a20,a21,a22,a23,a24,a25,⟨⟩⟩
 kernel_rfl
theorem AcN:AD (AB Tryz.f124 1) 2=[]:=by kernel_rfl
theorem AcQ:Aa Tryz.prog 0 (.loop (AB Tryz.f124 1)) (HU.loop 1):=AT KH (AKf) (AA AcN trivial)
theorem AKg:∀ v,Dc v=roundOf Tryz.prog XH HU 1 0 87 (AB Tryz.f124 0) AH7 AH4 v:=by
 rintro⟨a0,a1,a2,a3,a4,a5,a6,⟨⟩⟩
 kernel_rfl
theorem AcO:AD (AB Tryz.f124 0) 1=[(1,AB Tryz.f124 1)]:=by kernel_rfl
theorem AcR:Aa Tryz.prog 0 (.loop (AB Tryz.f124 0)) (HU.loop 0):=AT KH (AKg) (AA AcO ⟨AcQ,trivial⟩)
theorem AVO:∀ v,Qk v=AK 0 Tryz.prog XH HU Tryz.f124 AAY AAX AAW v:=by
 rintro⟨a0,⟨⟩⟩
 kernel_rfl
theorem Agy:AD (AQ Tryz.f124) 0=[(0,AB Tryz.f124 0),(2,AB Tryz.f124 2)]:=by kernel_rfl
theorem APl:AO Tryz.prog 124 (AF 0 1 AAY AAX AAW TK):=AH KH Tryz.func124 (by kernel_rfl) (by kernel_rfl) rfl (fun v=>(AH8 v).trans (AVO v)) (AA Agy ⟨AcR,AcP,trivial⟩)
def AF4:Env:=XH.ext 124 true true (AF 0 1 AAY AAX AAW TK)
theorem YY:AX Tryz.prog AF4:=Env.AZ KH APl (fun _=>AI rfl rfl) (fun _=>AG rfl rfl)
abbrev Ank:Hints:={  }
theorem AgW:∀ v,Zv v=AK 0 Tryz.prog AF4 Ank Tryz.f104 AOk AOj AOi v:=by
 rintro⟨a0,a1,a2,⟨⟩⟩
 kernel_rfl
theorem Anj:AD (AQ Tryz.f104) 0=[]:=by kernel_rfl
theorem AaB:AO Tryz.prog 104 (AF 0 3 AOk AOj AOi asked):=AH YY Tryz.func104 (by kernel_rfl) (by kernel_rfl) rfl (fun v=>(AUm v).trans (AgW v)) (AA Anj trivial)
def APM:Env:=AF4.ext 104 true true (AF 0 3 AOk AOj AOi asked)
theorem AGb:AX Tryz.prog APM:=Env.AZ YY AaB (fun _=>AI rfl rfl) (fun _=>AG rfl rfl)
abbrev Aoe:Hints:={  }
theorem AjO:∀ v,Kf v=AK 0 Tryz.prog APM Aoe Tryz.f84 AXo AXn AXm v:=by
 rintro⟨a0,⟨⟩⟩
 kernel_rfl
theorem Aod:AD (AQ Tryz.f84) 0=[]:=by kernel_rfl
theorem AeG:AO Tryz.prog 84 (AF 0 1 AXo AXn AXm AjP):=AH AGb Tryz.func84 (by kernel_rfl) (by kernel_rfl) rfl (fun v=>(Ke v).trans (AjO v)) (AA Aod trivial)
def AaQ:Env:=APM.ext 84 true true (AF 0 1 AXo AXn AXm AjP)
theorem AKB:AX Tryz.prog AaQ:=Env.AZ AGb AeG (fun _=>AI rfl rfl) (fun _=>AG rfl rfl)
abbrev AZk:Hints:={  }
theorem AOE:∀ v,EW v=AK 0 Tryz.prog AaQ AZk Tryz.f73 QG QF QE v:=by
 rintro⟨a0,a1,⟨⟩⟩
 kernel_rfl
theorem AZj:AD (AQ Tryz.f73) 0=[]:=by kernel_rfl
theorem AHk:AO Tryz.prog 73 (AF 0 2 QG QF QE DY):=AH AKB Tryz.func73 (by kernel_rfl) (by kernel_rfl) rfl (fun v=>(Gl v).trans (AOE v)) (AA AZj trivial)
def Qa:Env:=AaQ.ext 73 true true (AF 0 2 QG QF QE DY)
theorem O8:AX Tryz.prog Qa:=Env.AZ AKB AHk (fun _=>AI rfl rfl) (fun _=>AG rfl rfl)
abbrev AlY:Hints:={ fp:=fun n=>match n with|1=>[[],[],[],[],[],[],[],[]]|_=>[] }
theorem AcH:∀ v,ZR v=AK 0 Tryz.prog Qa AlY Tryz.f135 AKT AKS AKR v:=by
 rintro⟨a0,a1,⟨⟩⟩
 kernel_rfl
theorem AlX:AD (AQ Tryz.f135) 0=[]:=by kernel_rfl
theorem AVE:AO Tryz.prog 135 (AF 0 2 AKT AKS AKR BG):=AH O8 Tryz.func135 (by kernel_rfl) (by kernel_rfl) rfl (fun v=>(APV v).trans (AcH v)) (AA AlX trivial)
def AO2:Env:=Qa.ext 135 true true (AF 0 2 AKT AKS AKR BG)
theorem AF0:AX Tryz.prog AO2:=Env.AZ O8 AVE (fun _=>AI rfl rfl) (fun _=>AG rfl rfl)
abbrev Aml:Hints:={  }
theorem Aei:∀ v,Zg v=AK 0 Tryz.prog AO2 Aml Tryz.f83 AMx AMw AMv v:=by
 rintro⟨a0,⟨⟩⟩
 kernel_rfl
theorem Amk:AD (AQ Tryz.f83) 0=[]:=by kernel_rfl
theorem AYE:AO Tryz.prog 83 (AF 0 1 AMx AMw AMv ASl):=AH AF0 Tryz.func83 (by kernel_rfl) (by kernel_rfl) rfl (fun v=>(ASk v).trans (Aei v)) (AA Amk trivial)
def APC:Env:=AO2.ext 83 true true (AF 0 1 AMx AMw AMv ASl)
theorem AGL:AX Tryz.prog APC:=Env.AZ AF0 AYE (fun _=>AI rfl rfl) (fun _=>AG rfl rfl)
abbrev AgS:Hints:={  }
theorem AUd:∀ v,OE v=AK 0 Tryz.prog APC AgS Tryz.f71 Wj Wi Wh v:=by
 rintro⟨a0,⟨⟩⟩
 kernel_rfl
theorem AgR:AD (AQ Tryz.f71) 0=[]:=by kernel_rfl
theorem AOe:AO Tryz.prog 71 (AF 0 1 Wj Wi Wh bitsLen):=AH AGL Tryz.func71 (by kernel_rfl) (by kernel_rfl) rfl (fun v=>(AFl v).trans (AUd v)) (AA AgR trivial)
def XO:Env:=APC.ext 71 true true (AF 0 1 Wj Wi Wh bitsLen)
theorem TA:AX Tryz.prog XO:=Env.AZ AGL AOe (fun _=>AI rfl rfl) (fun _=>AG rfl rfl)
abbrev Ab6:Hints:={ fp:=fun n=>match n with|3=>[[],[0],[0],[],[0],[0],[],[],[0],[1]]|2=>[[],[0],[0],[],[0],[0],[],[],[0],[1]]|1=>[[],[0],[0],[],[0],[0],[],[],[0],[1]]|_=>[] }
theorem APR:∀ v,Nb v=AK 1 Tryz.prog XO Ab6 Tryz.f118 TG TF TE v:=by
 rintro⟨a0,⟨⟩⟩
 kernel_rfl
theorem Ab5:AD (AQ Tryz.f118) 0=[]:=by kernel_rfl
theorem AKL:AO Tryz.prog 118 (AF 1 1 TG TF TE xorNext):=AH TA Tryz.func118 (by kernel_rfl) (by kernel_rfl) rfl (fun v=>(Z6 v).trans (APR v)) (AA Ab5 trivial)
def Wy:Env:=XO.ext 118 false true (AF 1 1 TG TF TE xorNext)
theorem SQ:AX Tryz.prog Wy:=Env.AZ TA AKL ((by simp)) (fun _=>AG rfl rfl)
abbrev AeE:Hints:={  }
theorem ASX:∀ v,Nv v=AK 0 Tryz.prog Wy AeE Tryz.f117 UU UT US v:=by
 rintro⟨a0,⟨⟩⟩
 kernel_rfl
theorem AeD:AD (AQ Tryz.f117) 0=[]:=by kernel_rfl
theorem AMd:AO Tryz.prog 117 (AF 0 1 UU UT US RK):=AH SQ Tryz.func117 (by kernel_rfl) (by kernel_rfl) rfl (fun v=>(ADM v).trans (ASX v)) (AA AeD trivial)
def KF:Env:=Wy.ext 117 true true (AF 0 1 UU UT US RK)
theorem HG:AX Tryz.prog KF:=Env.AZ SQ AMd (fun _=>AI rfl rfl) (fun _=>AG rfl rfl)
abbrev ADo:Hints:={ loop:=fun n=>match n with|0=>Ab 1 53 AbP AbN AbL|1=>Ab 1 53 AbO AbM AbK|_=>fun _ _ _=>none,fp:=fun n=>match n with|4=>[[],[],[],[],[],[],[],[0],[0],[],[],[],[0],[0],[],[],[]]|6=>[[],[],[],[],[],[],[],[],[0],[0],[],[],[0],[0],[0],[1],[0],[1]]|_=>[] }
theorem AYL:∀ v,AbK v=roundOf Tryz.prog KF ADo 2 1 53 (AB Tryz.f165 1) AbO AbM v:=by
 rintro⟨a0,a1,a2,a3,a4,⟨⟩⟩
 kernel_rfl
theorem Amo:AD (AB Tryz.f165 1) 2=[]:=by kernel_rfl
theorem Amq:Aa Tryz.prog 1 (.loop (AB Tryz.f165 1)) (ADo.loop 1):=AT HG (AYL) (AA Amo trivial)
theorem AYM:∀ v,AbL v=roundOf Tryz.prog KF ADo 1 1 53 (AB Tryz.f165 0) AbP AbN v:=by
 rintro⟨a0,a1,a2,a3,⟨⟩⟩
 kernel_rfl
theorem Amp:AD (AB Tryz.f165 0) 1=[(1,AB Tryz.f165 1)]:=by kernel_rfl
theorem Amr:Aa Tryz.prog 1 (.loop (AB Tryz.f165 0)) (ADo.loop 0):=AT HG (AYM) (AA Amp ⟨Amq,trivial⟩)
theorem Ajg:∀ v,Ajh v=AK 1 Tryz.prog KF ADo Tryz.f165 AYP AYO AYN v:=by
 rintro⟨a0,a1,a2,⟨⟩⟩
 kernel_rfl
theorem Aoi:AD (AQ Tryz.f165) 0=[(0,AB Tryz.f165 0)]:=by kernel_rfl
theorem Aen:AO Tryz.prog 165 (AF 1 4 AYP AYO AYN Aoj):=AH HG Tryz.func165 (by kernel_rfl) (by kernel_rfl) rfl (fun v=>(Ams v).trans (Ajg v)) (AA Aoi ⟨Amr,trivial⟩)
def APD:Env:=KF.CE 165 3 135 (AF 1 4 AYP AYO AYN Aoj)
theorem XE:AX Tryz.prog APD:=Env.Aw HG Aen (AG rfl rfl)
abbrev ALQ:Hints:={ loop:=fun n=>match n with|0=>Ab 1 82 AQK AQJ AQI|_=>fun _ _ _=>none,fp:=fun n=>match n with|6=>[[],[],[],[],[],[],[],[],[],[],[],[],[0],[0],[],[],[],[],[0],[0],[0],[1],[0],[1]]|5=>[[],[],[],[],[],[0],[0],[],[],[],[],[0],[0],[],[],[]]|3=>[[],[],[],[],[],[],[],[],[],[],[0],[0],[],[],[],[],[],[0],[0],[],[],[]]|_=>[] }
theorem AQH:∀ v,AQI v=roundOf Tryz.prog APD ALQ 1 1 82 (AB Tryz.f186 0) AQK AQJ v:=by
 rintro⟨a0,a1,a2,a3,⟨⟩⟩
 kernel_rfl
theorem AhW:AD (AB Tryz.f186 0) 1=[]:=by kernel_rfl
theorem AhX:Aa Tryz.prog 1 (.loop (AB Tryz.f186 0)) (ALQ.loop 0):=AT XE (AQH) (AA AhW trivial)
theorem Acy:∀ v,Aal v=AK 1 Tryz.prog APD ALQ Tryz.f186 ALP ALO ALN v:=by
 rintro⟨a0,a1,a2,a3,⟨⟩⟩
 kernel_rfl
theorem Al1:AD (AQ Tryz.f186) 0=[(0,AB Tryz.f186 0)]:=by kernel_rfl
theorem AV1:AO Tryz.prog 186 (AF 1 5 ALP ALO ALN AhZ):=AH XE Tryz.func186 (by kernel_rfl) (by kernel_rfl) rfl (fun v=>(AhY v).trans (Acy v)) (AA Al1 ⟨AhX,trivial⟩)
def Se:Env:=APD.CE 186 4 135 (AF 1 5 ALP ALO ALN AhZ)
theorem Lb:AX Tryz.prog Se:=Env.Aw XE AV1 (AG rfl rfl)
abbrev Rb:Hints:={ loop:=fun n=>match n with|0=>Ab 1 60 AS0 ASy ASw|1=>Ab 1 60 ASz ASx ASu|_=>fun _ _ _=>none,fp:=fun n=>match n with|10=>[[],[],[],[],[],[],[],[],[],[],[0],[0],[],[],[0],[0],[0],[1],[0],[1]]|_=>[] }
theorem ASt:∀ v,ASu v=roundOf Tryz.prog Se Rb 2 1 60 (AB Tryz.f166 1) ASz ASx v:=by
 rintro⟨a0,a1,a2,a3,⟨⟩⟩
 kernel_rfl
theorem Ajr:AD (AB Tryz.f166 1) 2=[]:=by kernel_rfl
theorem Ajt:Aa Tryz.prog 1 (.loop (AB Tryz.f166 1)) (Rb.loop 1):=AT Lb (ASt) (AA Ajr trivial)
theorem ASv:∀ v,ASw v=roundOf Tryz.prog Se Rb 1 1 60 (AB Tryz.f166 0) AS0 ASy v:=by
 rintro⟨a0,a1,a2,a3,a4,⟨⟩⟩
 kernel_rfl
theorem Ajs:AD (AB Tryz.f166 0) 1=[]:=by kernel_rfl
theorem Aju:Aa Tryz.prog 1 (.loop (AB Tryz.f166 0)) (Rb.loop 0):=AT Lb (ASv) (AA Ajs trivial)
theorem Aew:∀ v,AbZ v=AK 1 Tryz.prog Se Rb Tryz.f166 AND ANC ANB v:=by
 rintro⟨a0,a1,a2,⟨⟩⟩
 kernel_rfl
theorem Am1:AD (AQ Tryz.f166) 0=[(0,AB Tryz.f166 0),(1,AB Tryz.f166 1)]:=by kernel_rfl
theorem AYX:AO Tryz.prog 166 (AF 1 4 AND ANC ANB Ajw):=AH Lb Tryz.func166 (by kernel_rfl) (by kernel_rfl) rfl (fun v=>(Ajv v).trans (Aew v)) (AA Am1 ⟨Aju,Ajt,trivial⟩)
def Z2:Env:=Se.CE 166 3 135 (AF 1 4 AND ANC ANB Ajw)
theorem QW:AX Tryz.prog Z2:=Env.Aw Lb AYX (AG rfl rfl)
end
end Go.Pev
end
section
namespace Go.Pev
open Go.Proofs
noncomputable section
abbrev AFe:Hints:={ loop:=fun n=>match n with|0=>Ab 1 67 AJt AJs AJr|_=>fun _ _ _=>none,fp:=fun n=>match n with|10=>[[],[],[],[],[],[],[],[],[],[],[0],[0],[],[],[0],[0],[0],[1],[0],[1]]|_=>[] }
theorem AOc:∀ v,AJr v=roundOf Tryz.prog Z2 AFe 1 1 67 (AB Tryz.f167 0) AJt AJs v:=by
 rintro⟨a0,a1,a2,a3,a4,a5,⟨⟩⟩
 kernel_rfl
theorem AgK:AD (AB Tryz.f167 0) 1=[]:=by kernel_rfl
theorem AgL:Aa Tryz.prog 1 (.loop (AB Tryz.f167 0)) (AFe.loop 0):=AT QW (AOc) (AA AgK trivial)
theorem AZ4:∀ v,AUX v=AK 1 Tryz.prog Z2 AFe Tryz.f167 AFd AFc AFb v:=by
 rintro⟨a0,a1,a2,⟨⟩⟩
 kernel_rfl
theorem Ak7:AD (AQ Tryz.f167) 0=[(0,AB Tryz.f167 0)]:=by kernel_rfl
theorem AUW:AO Tryz.prog 167 (AF 1 4 AFd AFc AFb AZ5):=AH QW Tryz.func167 (by kernel_rfl) (by kernel_rfl) rfl (fun v=>(AgM v).trans (AZ4 v)) (AA Ak7 ⟨AgL,trivial⟩)
def AGY:Env:=Z2.CE 167 3 135 (AF 1 4 AFd AFc AFb AZ5)
theorem Yq:AX Tryz.prog AGY:=Env.Aw QW AUW (AG rfl rfl)
abbrev Ad4:Hints:={ fp:=fun n=>match n with|1=>[[],[],[],[0],[0],[],[],[0],[0],[],[]]|_=>[] }
theorem AST:∀ v,AIs v=AK 2 Tryz.prog AGY Ad4 Tryz.f195 UM UL UK v:=by
 rintro⟨a0,a1,a2,a3,⟨⟩⟩
 kernel_rfl
theorem Ad3:AD (AQ Tryz.f195) 0=[]:=by kernel_rfl
theorem AMS:AO Tryz.prog 195 (AF 2 5 UM UL UK AMT):=AH Yq Tryz.func195 (by kernel_rfl) (by kernel_rfl) rfl (fun v=>(AXa v).trans (AST v)) (AA Ad3 trivial)
def W7:Env:=AGY.CE 195 4 135 (AF 2 5 UM UL UK AMT)
theorem Sn:AX Tryz.prog W7:=Env.Aw Yq AMS (AG rfl rfl)
abbrev AeN:Hints:={  }
theorem ASa:∀ v,AIw v=AK 2 Tryz.prog W7 AeN Tryz.f188 UY UX UW v:=by
 rintro⟨a0,a1,a2,a3,a4,⟨⟩⟩
 kernel_rfl
theorem AeM:AD (AQ Tryz.f188) 0=[]:=by kernel_rfl
theorem AMi:AO Tryz.prog 188 (AF 2 6 UY UX UW AMj):=AH Sn Tryz.func188 (by kernel_rfl) (by kernel_rfl) rfl (fun v=>(AXw v).trans (ASa v)) (AA AeM trivial)
def XA:Env:=W7.CE 188 5 135 (AF 2 6 UY UX UW AMj)
theorem Sp:AX Tryz.prog XA:=Env.Aw Sn AMi (AG rfl rfl)
abbrev AeR:Hints:={  }
theorem ASc:∀ v,AIy v=AK 2 Tryz.prog XA AeR Tryz.f187 VE VD VC v:=by
 rintro⟨a0,a1,a2,⟨⟩⟩
 kernel_rfl
theorem AeQ:AD (AQ Tryz.f187) 0=[]:=by kernel_rfl
theorem AMm:AO Tryz.prog 187 (AF 2 4 VE VD VC AMn):=AH Sp Tryz.func187 (by kernel_rfl) (by kernel_rfl) rfl (fun v=>(AXz v).trans (ASc v)) (AA AeQ trivial)
def XC:Env:=XA.CE 187 3 135 (AF 2 4 VE VD VC AMn)
theorem Sr:AX Tryz.prog XC:=Env.Aw Sp AMm (AG rfl rfl)
abbrev AiX:Hints:={  }
theorem AW1:∀ v,ARD v=AK 1 Tryz.prog XC AiX Tryz.f168 ACT ACS ACR v:=by
 rintro⟨a0,a1,a2,⟨⟩⟩
 kernel_rfl
theorem AiW:AD (AQ Tryz.f168) 0=[]:=by kernel_rfl
theorem ARC:AO Tryz.prog 168 (AF 1 4 ACT ACS ACR AW2):=AH Sr Tryz.func168 (by kernel_rfl) (by kernel_rfl) rfl (fun v=>(Adm v).trans (AW1 v)) (AA AiW trivial)
def Sl:Env:=XC.CE 168 3 135 (AF 1 4 ACT ACS ACR AW2)
theorem NQ:AX Tryz.prog Sl:=Env.Aw Sr ARC (AG rfl rfl)
abbrev AWZ:Hints:={ loop:=fun n=>match n with|0=>Ab 1 34 Aaq Aap Aao|_=>fun _ _ _=>none,fp:=fun n=>match n with|3=>[[],[],[],[],[],[],[0],[0],[],[],[0],[0],[0],[1],[0],[1]]|_=>[] }
theorem AWV:∀ v,Aao v=roundOf Tryz.prog Sl AWZ 1 1 34 (AB Tryz.f169 0) Aaq Aap v:=by
 rintro⟨a0,a1,a2,⟨⟩⟩
 kernel_rfl
theorem Al9:AD (AB Tryz.f169 0) 1=[]:=by kernel_rfl
theorem AmA:Aa Tryz.prog 1 (.loop (AB Tryz.f169 0)) (AWZ.loop 0):=AT NQ (AWV) (AA Al9 trivial)
theorem Ahz:∀ v,Ah0 v=AK 1 Tryz.prog Sl AWZ Tryz.f169 AWY AWX AWW v:=by
 rintro⟨a0,a1,a2,⟨⟩⟩
 kernel_rfl
theorem AoI:AD (AQ Tryz.f169) 0=[(0,AB Tryz.f169 0)]:=by kernel_rfl
theorem AdX:AO Tryz.prog 169 (AF 1 4 AWY AWX AWW AoJ):=AH NQ Tryz.func169 (by kernel_rfl) (by kernel_rfl) rfl (fun v=>(AmB v).trans (Ahz v)) (AA AoI ⟨AmA,trivial⟩)
def QU:Env:=Sl.CE 169 3 135 (AF 1 4 AWY AWX AWW AoJ)
theorem HQ:AX Tryz.prog QU:=Env.Aw NQ AdX (AG rfl rfl)
abbrev Cu:Hints:={ loop:=fun n=>match n with|0=>Ab 1 141 Xq Xm Xi|1=>Ab 1 141 Xp Xl Xh|2=>Ab 1 141 Xo Xk Xg|3=>Ab 1 141 Xn Xj Xf|_=>fun _ _ _=>none,fp:=fun n=>match n with|11=>[[],[],[],[],[],[],[],[],[0],[0],[],[],[0],[0],[0],[1],[0],[1]]|5=>[[],[],[],[],[],[],[],[0],[0],[],[],[],[0],[0],[],[],[],[]]|17=>[[],[],[],[],[],[],[],[],[0],[0],[],[],[0],[0],[0],[1],[0],[1]]|16=>[[],[],[],[0],[0],[],[],[],[0],[0],[],[],[]]|23=>[[],[],[],[],[],[],[],[],[0],[0],[],[],[0],[0],[0],[1],[0],[1]]|22=>[[],[],[],[0],[0],[],[],[],[0],[0],[],[],[]]|_=>[] }
theorem ACh:∀ v,Xf v=roundOf Tryz.prog QU Cu 4 1 141 (AB Tryz.f170 3) Xn Xj v:=by
 rintro⟨a0,a1,a2,a3,a4,a5,⟨⟩⟩
 kernel_rfl
theorem ARj:AD (AB Tryz.f170 3) 4=[]:=by kernel_rfl
theorem ARn:Aa Tryz.prog 1 (.loop (AB Tryz.f170 3)) (Cu.loop 3):=AT HQ (ACh) (AA ARj trivial)
theorem ACi:∀ v,Xg v=roundOf Tryz.prog QU Cu 3 1 141 (AB Tryz.f170 2) Xo Xk v:=by
 rintro⟨a0,a1,a2,a3,a4,a5,⟨⟩⟩
 kernel_rfl
theorem ARk:AD (AB Tryz.f170 2) 3=[]:=by kernel_rfl
theorem ARo:Aa Tryz.prog 1 (.loop (AB Tryz.f170 2)) (Cu.loop 2):=AT HQ (ACi) (AA ARk trivial)
theorem ACj:∀ v,Xh v=roundOf Tryz.prog QU Cu 2 1 141 (AB Tryz.f170 1) Xp Xl v:=by
 rintro⟨a0,a1,a2,a3,a4,⟨⟩⟩
 kernel_rfl
theorem ARl:AD (AB Tryz.f170 1) 2=[]:=by kernel_rfl
theorem ARp:Aa Tryz.prog 1 (.loop (AB Tryz.f170 1)) (Cu.loop 1):=AT HQ (ACj) (AA ARl trivial)
theorem ACk:∀ v,Xi v=roundOf Tryz.prog QU Cu 1 1 141 (AB Tryz.f170 0) Xq Xm v:=by
 rintro⟨a0,a1,a2,a3,a4,⟨⟩⟩
 kernel_rfl
theorem ARm:AD (AB Tryz.f170 0) 1=[(1,AB Tryz.f170 1),(2,AB Tryz.f170 2),(3,AB Tryz.f170 3)]:=by kernel_rfl
theorem ARq:Aa Tryz.prog 1 (.loop (AB Tryz.f170 0)) (Cu.loop 0):=AT HQ (ACk) (AA ARm ⟨ARp,ARo,ARn,trivial⟩)
theorem AMH:∀ v,ACl v=AK 1 Tryz.prog QU Cu Tryz.f170 Pe Pd Pc v:=by
 rintro⟨a0,a1,a2,⟨⟩⟩
 kernel_rfl
theorem AXH:AD (AQ Tryz.f170) 0=[(0,AB Tryz.f170 0)]:=by kernel_rfl
theorem AG0:AO Tryz.prog 170 (AF 1 4 Pe Pd Pc ACm):=AH HQ Tryz.func170 (by kernel_rfl) (by kernel_rfl) rfl (fun v=>(ARr v).trans (AMH v)) (AA AXH ⟨ARq,trivial⟩)
def GH:Env:=QU.CE 170 3 135 (AF 1 4 Pe Pd Pc ACm)
theorem D8:AX Tryz.prog GH:=Env.Aw HQ AG0 (AG rfl rfl)
abbrev Fb:Hints:={ loop:=fun n=>match n with|0=>Ab 1 90 AC2 ACz ACw|1=>Ab 1 90 AC1 ACy ACv|2=>Ab 1 90 AC0 ACx ACu|_=>fun _ _ _=>none,fp:=fun n=>match n with|8=>[[],[],[],[],[],[],[0],[0],[],[],[0],[0],[0],[1],[0],[1]]|3=>[[],[],[],[],[],[],[],[0],[0],[],[],[0],[0],[],[],[],[]]|5=>[[],[],[],[],[],[],[],[0],[0],[],[],[0],[0],[],[],[]]|1=>[[],[],[],[],[],[],[0],[0],[],[],[0],[0],[0],[1],[0],[1]]|_=>[] }
theorem AG5:∀ v,ACu v=roundOf Tryz.prog GH Fb 3 1 90 (AB Tryz.f171 2) AC0 ACx v:=by
 rintro⟨a0,a1,a2,a3,⟨⟩⟩
 kernel_rfl
theorem AXK:AD (AB Tryz.f171 2) 3=[]:=by kernel_rfl
theorem AXN:Aa Tryz.prog 1 (.loop (AB Tryz.f171 2)) (Fb.loop 2):=AT D8 (AG5) (AA AXK trivial)
theorem AG6:∀ v,ACv v=roundOf Tryz.prog GH Fb 2 1 90 (AB Tryz.f171 1) AC1 ACy v:=by
 rintro⟨a0,a1,a2,a3,⟨⟩⟩
 kernel_rfl
theorem AXL:AD (AB Tryz.f171 1) 2=[]:=by kernel_rfl
theorem AXO:Aa Tryz.prog 1 (.loop (AB Tryz.f171 1)) (Fb.loop 1):=AT D8 (AG6) (AA AXL trivial)
theorem AG7:∀ v,ACw v=roundOf Tryz.prog GH Fb 1 1 90 (AB Tryz.f171 0) AC2 ACz v:=by
 rintro⟨a0,a1,a2,a3,⟨⟩⟩
 kernel_rfl
theorem AXM:AD (AB Tryz.f171 0) 1=[(1,AB Tryz.f171 1),(2,AB Tryz.f171 2)]:=by kernel_rfl
theorem AXP:Aa Tryz.prog 1 (.loop (AB Tryz.f171 0)) (Fb.loop 0):=AT D8 (AG7) (AA AXM ⟨AXO,AXN,trivial⟩)
theorem AR6:∀ v,AIo v=AK 1 Tryz.prog GH Fb Tryz.f171 UG UE UD v:=by
 rintro⟨a0,a1,a2,a3,⟨⟩⟩
 kernel_rfl
theorem Adz:AD (AQ Tryz.f171) 0=[(0,AB Tryz.f171 0)]:=by kernel_rfl
theorem AMK:AO Tryz.prog 171 (AF 1 5 UG UE UD AML):=AH D8 Tryz.func171 (by kernel_rfl) (by kernel_rfl) rfl (fun v=>(AXQ v).trans (AR6 v)) (AA Adz ⟨AXP,trivial⟩)
def En:Env:=GH.CE 171 4 135 (AF 1 5 UG UE UD AML)
theorem C1:AX Tryz.prog En:=Env.Aw D8 AMK (AG rfl rfl)
abbrev Ey:Hints:={ loop:=fun n=>match n with|0=>Ab 1 178 ARi ARd ARY|1=>Ab 1 178 ARh ARc ARW|2=>Ab 1 178 ARg ARb ARU|3=>Ab 1 178 ARf ARa ARS|4=>Ab 1 178 ARe ARZ ARQ|_=>fun _ _ _=>none,fp:=fun n=>match n with|3=>[[],[],[],[],[],[],[],[0],[0],[],[],[0],[0],[],[],[]]|5=>[[],[],[],[],[],[],[],[0],[0],[],[],[0],[0],[],[],[],[]]|18=>[[],[],[],[],[],[],[0],[0],[],[],[0],[0],[0],[1],[0],[1]]|13=>[[],[],[],[],[],[],[],[0],[0],[],[],[0],[0],[],[],[]]|15=>[[],[],[],[],[],[],[],[0],[0],[],[],[0],[0],[],[],[],[]]|21=>[[],[],[],[],[],[],[0],[0],[],[],[0],[0],[0],[1],[0],[1]]|10=>[[],[],[],[],[],[],[0],[0],[],[],[0],[0],[0],[1],[0],[1]]|8=>[[],[],[],[],[],[],[0],[0],[],[],[0],[0],[0],[1],[0],[1]]|1=>[[],[],[],[],[],[],[0],[0],[],[],[0],[0],[0],[1],[0],[1]]|_=>[] }
theorem ARP:∀ v,ARQ v=roundOf Tryz.prog En Ey 5 1 178 (AB Tryz.f172 4) ARe ARZ v:=by
 rintro⟨a0,a1,a2,a3,⟨⟩⟩
 kernel_rfl
theorem Aig:AD (AB Tryz.f172 4) 5=[]:=by kernel_rfl
theorem Ail:Aa Tryz.prog 1 (.loop (AB Tryz.f172 4)) (Ey.loop 4):=AT C1 (ARP) (AA Aig trivial)
theorem ARR:∀ v,ARS v=roundOf Tryz.prog En Ey 4 1 178 (AB Tryz.f172 3) ARf ARa v:=by
 rintro⟨a0,a1,a2,a3,⟨⟩⟩
 kernel_rfl
theorem Aih:AD (AB Tryz.f172 3) 4=[]:=by kernel_rfl
theorem Aim:Aa Tryz.prog 1 (.loop (AB Tryz.f172 3)) (Ey.loop 3):=AT C1 (ARR) (AA Aih trivial)
theorem ART:∀ v,ARU v=roundOf Tryz.prog En Ey 3 1 178 (AB Tryz.f172 2) ARg ARb v:=by
 rintro⟨a0,a1,a2,a3,⟨⟩⟩
 kernel_rfl
theorem Aii:AD (AB Tryz.f172 2) 3=[(3,AB Tryz.f172 3),(4,AB Tryz.f172 4)]:=by kernel_rfl
theorem Ain:Aa Tryz.prog 1 (.loop (AB Tryz.f172 2)) (Ey.loop 2):=AT C1 (ART) (AA Aii ⟨Aim,Ail,trivial⟩)
theorem ARV:∀ v,ARW v=roundOf Tryz.prog En Ey 2 1 178 (AB Tryz.f172 1) ARh ARc v:=by
 rintro⟨a0,a1,a2,a3,⟨⟩⟩
 kernel_rfl
theorem Aij:AD (AB Tryz.f172 1) 2=[]:=by kernel_rfl
theorem Aio:Aa Tryz.prog 1 (.loop (AB Tryz.f172 1)) (Ey.loop 1):=AT C1 (ARV) (AA Aij trivial)
theorem ARX:∀ v,ARY v=roundOf Tryz.prog En Ey 1 1 178 (AB Tryz.f172 0) ARi ARd v:=by
 rintro⟨a0,a1,a2,a3,⟨⟩⟩
 kernel_rfl
theorem Aik:AD (AB Tryz.f172 0) 1=[]:=by kernel_rfl
theorem Aip:Aa Tryz.prog 1 (.loop (AB Tryz.f172 0)) (Ey.loop 0):=AT C1 (ARX) (AA Aik trivial)
theorem Adx:∀ v,Aa5 v=AK 1 Tryz.prog En Ey Tryz.f172 AMG AMF AME v:=by
 rintro⟨a0,a1,a2,a3,⟨⟩⟩
 kernel_rfl
theorem AmV:AD (AQ Tryz.f172) 0=[(0,AB Tryz.f172 0),(1,AB Tryz.f172 1),(2,AB Tryz.f172 2)]:=by kernel_rfl
theorem AXG:AO Tryz.prog 172 (AF 1 5 AMG AMF AME Air):=AH C1 Tryz.func172 (by kernel_rfl) (by kernel_rfl) rfl (fun v=>(Aiq v).trans (Adx v)) (AA AmV ⟨Aip,Aio,Ain,trivial⟩)
def APA:Env:=En.CE 172 4 135 (AF 1 5 AMG AMF AME Air)
theorem AGI:AX Tryz.prog APA:=Env.Aw C1 AXG (AG rfl rfl)
abbrev AXB(self:(List (List Int)×Int×Int×Int×Unit)→Option ((List (List Int)×Unit))):Hints:={ loop:=fun n=>match n with|0=>Ab 1 148 Aa1 Aa0 (Aaz self)|_=>fun _ _ _=>none,fp:=fun n=>match n with|17=>[[],[],[],[],[],[],[],[0],[0],[],[],[0],[0],[],[],[],[]]|_=>[] }
abbrev AMA(self:(List (List Int)×Int×Int×Int×Unit)→Option ((List (List Int)×Unit))):Env:=APA.ext 148 false true (AF 1 5 ACa ACZ ACY self)
theorem AXA(self:(List (List Int)×Int×Int×Int×Unit)→Option ((List (List Int)×Unit))):∀ v,Aaz self v=roundOf Tryz.prog (AMA self) (AXB self) 1 1 148 (AB Tryz.f148 0) Aa1 Aa0 v:=by
 rintro⟨a0,a1,a2,a3,a4,a5,⟨⟩⟩
 kernel_rfl
theorem AmM:AD (AB Tryz.f148 0) 1=[]:=by kernel_rfl
theorem AmN(self:(List (List Int)×Int×Int×Int×Unit)→Option ((List (List Int)×Unit)))(hE:AX Tryz.prog (AMA self)):Aa Tryz.prog 1 (.loop (AB Tryz.f148 0)) ((AXB self).loop 0):=AT hE (AXA self) (AA AmM trivial)
theorem Aid(self:(List (List Int)×Int×Int×Int×Unit)→Option ((List (List Int)×Unit))):∀ v,AoW self v=AK 1 Tryz.prog (AMA self) (AXB self) Tryz.f148 ACa ACZ ACY v:=by
 rintro⟨a0,a1,a2,a3,⟨⟩⟩
 kernel_rfl
theorem AoV:AD (AQ Tryz.f148) 0=[(0,AB Tryz.f148 0)]:=by kernel_rfl
theorem AXC:∀ n,AO Tryz.prog 148 (AF 1 5 ACa ACZ ACY (ACb n)):=by
 intro n
 induction n with
 |zero=>exact X4 fun _=>rfl
 |succ n ih=>
  have hE:AX Tryz.prog (AMA (ACb n)):=Env.AZ AGI ih ((by simp)) (fun _=>AG rfl rfl)
  let self:=ACb n
  exact AH hE Tryz.func148 (by kernel_rfl) (by kernel_rfl) rfl (Aid self) (AA AoV ⟨(AmN self hE),trivial⟩)
theorem Adv:AO Tryz.prog 148 (AF 1 5 ACa ACZ ACY AmP):=by
 have e:AmP=ACb 100:=funext AmO
 rw[e]
 exact AXC _
def AaN:Env:=APA.CE 148 4 135 (AF 1 5 ACa ACZ ACY AmP)
theorem AJ8:AX Tryz.prog AaN:=Env.Aw AGI Adv (AG rfl rfl)
abbrev Alx:Hints:={  }
theorem Acv:∀ v,Aah v=AK 1 Tryz.prog AaN Alx Tryz.f134 ALH ALG ALF v:=by
 rintro⟨a0,⟨⟩⟩
 kernel_rfl
theorem Alw:AD (AQ Tryz.f134) 0=[]:=by kernel_rfl
theorem AVy:AO Tryz.prog 134 (AF 1 2 ALH ALG ALF AQD):=AH AJ8 Tryz.func134 (by kernel_rfl) (by kernel_rfl) rfl (fun v=>(AhS v).trans (Acv v)) (AA Alw trivial)
def Sc:Env:=AaN.CE 134 1 135 (AF 1 2 ALH ALG ALF AQD)
theorem LZ:AX Tryz.prog Sc:=Env.Aw AJ8 AVy (AG rfl rfl)
abbrev Qg:Hints:={ loop:=fun n=>match n with|0=>Ab 0 47 APe APc HT|1=>Ab 0 47 APd APb HS|_=>fun _ _ _=>none }
theorem APZ:∀ v,HS v=roundOf Tryz.prog Sc Qg 2 0 47 (AB Tryz.f109 1) APd APb v:=by
 rintro⟨a0,a1,a2,a3,a4,a5,a6,⟨⟩⟩
 kernel_rfl
theorem Agm:AD (AB Tryz.f109 1) 2=[]:=by kernel_rfl
theorem Ago:Aa Tryz.prog 0 (.loop (AB Tryz.f109 1)) (Qg.loop 1):=AT LZ (APZ) (AA Agm trivial)
theorem APa:∀ v,HT v=roundOf Tryz.prog Sc Qg 1 0 47 (AB Tryz.f109 0) APe APc v:=by
 rintro⟨a0,a1,a2,a3,a4,a5,a6,a7,a8,⟨⟩⟩
 kernel_rfl
theorem Agn:AD (AB Tryz.f109 0) 1=[]:=by kernel_rfl
theorem Agp:Aa Tryz.prog 0 (.loop (AB Tryz.f109 0)) (Qg.loop 0):=AT LZ (APa) (AA Agn trivial)
theorem AcL:∀ v,ZT v=AK 0 Tryz.prog Sc Qg Tryz.f109 AKb AKa AKZ v:=by
 rintro⟨a0,a1,a2,⟨⟩⟩
 kernel_rfl
theorem Alc:AD (AQ Tryz.f109) 0=[(0,AB Tryz.f109 0),(1,AB Tryz.f109 1)]:=by kernel_rfl
theorem AVI:AO Tryz.prog 109 (AF 0 3 AKb AKa AKZ APg):=AH LZ Tryz.func109 (by kernel_rfl) (by kernel_rfl) rfl (fun v=>(APf v).trans (AcL v)) (AA Alc ⟨Agp,Ago,trivial⟩)
def AO4:Env:=Sc.ext 109 true true (AF 0 3 AKb AKa AKZ APg)
theorem AF2:AX Tryz.prog AO4:=Env.AZ LZ AVI (fun _=>AI rfl rfl) (fun _=>AG rfl rfl)
end
end Go.Pev
end
section
namespace Go.Pev
open Go.Proofs
noncomputable section
abbrev Alm:Hints:={ fp:=fun n=>match n with|9=>[[],[28],[0],[0],[],[],[],[],[],[0],[0],[],[],[],[],[],[28],[28,52,36,62],[64],[]]|4=>[[0],[],[],[0],[],[],[],[]]|_=>[] }
theorem AcZ:∀ v,Qm v=AK 0 Tryz.prog AO4 Alm Tryz.f87 AKv AKu AKt v:=by
 rintro⟨a0,a1,a2,⟨⟩⟩
 kernel_rfl
theorem All:AD (AQ Tryz.f87) 0=[]:=by kernel_rfl
theorem AVU:AO Tryz.prog 87 (AF 0 3 AKv AKu AKt AAf):=AH AF2 Tryz.func87 (by kernel_rfl) (by kernel_rfl) rfl (fun v=>(AAe v).trans (AcZ v)) (AA All trivial)
def AO5:Env:=AO4.ext 87 true true (AF 0 3 AKv AKu AKt AAf)
theorem AF6:AX Tryz.prog AO5:=Env.AZ AF2 AVU (fun _=>AI rfl rfl) (fun _=>AG rfl rfl)
theorem AhJ:Tryz.f125.body.isSome=true:=by kernel_rfl
theorem AhI : (Tryz.f125.name == "runtime.NumGoroutine") = false := by kernel_rfl
theorem AhH:loops (AQ Tryz.f125)=0:=by kernel_rfl
def LX:Env:=AO5.ext 125 false false (Cl Tryz.prog AO5 {} Tryz.f125)
theorem JR:AX Tryz.prog LX:=Env.AZ AF6 (CX AF6 Tryz.func125 AhJ AhI AhH) (by simp) (by simp)
abbrev Fw:Hints:={ loop:=fun n=>match n with|0=>Ab 1 19 Ig Ie Bf|_=>fun _ _ _=>none }
theorem Mq:∀ v,Bf v=roundOf Tryz.prog LX Fw 1 1 19 (AB Tryz.f56 0) Ig Ie v:=by
 rintro⟨a0,a1,a2,a3,a4,⟨⟩⟩
 kernel_rfl
theorem RX:AD (AB Tryz.f56 0) 1=[]:=by kernel_rfl
theorem RY:Aa Tryz.prog 1 (.loop (AB Tryz.f56 0)) (Fw.loop 0):=AT JR (Mq) (AA RX trivial)
theorem Pw:∀ v,Dm v=AK 1 Tryz.prog LX Fw Tryz.f56 Fv Fu Ft v:=by
 rintro⟨a0,a1,a2,⟨⟩⟩
 kernel_rfl
theorem VS:AD (AQ Tryz.f56) 0=[(0,AB Tryz.f56 0)]:=by kernel_rfl
theorem OT:AO Tryz.prog 56 (AF 1 2 Fv Fu Ft E3):=AH JR Tryz.func56 (by kernel_rfl) (by kernel_rfl) rfl (fun v=>(Ih v).trans (Pw v)) (AA VS ⟨RY,trivial⟩)
def GL:Env:=LX.CE 56 1 125 (AF 1 2 Fv Fu Ft E3)
theorem G5:AX Tryz.prog GL:=Env.Aw JR OT (AG rfl rfl)
abbrev R1:Hints:={  }
theorem OU:∀ v,DG v=AK 1 Tryz.prog GL R1 Tryz.f29 FD FA E9 v:=by
 rintro⟨a0,a1,a2,⟨⟩⟩
 kernel_rfl
theorem R0:AD (AQ Tryz.f29) 0=[]:=by kernel_rfl
theorem M4:AO Tryz.prog 29 (AF 1 2 FD FA E9 C3):=AH G5 Tryz.func29 (by kernel_rfl) (by kernel_rfl) rfl (fun v=>(Hv v).trans (OU v)) (AA R0 trivial)
def FK:Env:=GL.CE 29 1 125 (AF 1 2 FD FA E9 C3)
theorem Gs:AX Tryz.prog FK:=Env.Aw G5 M4 (AG rfl rfl)
abbrev AkD:Hints:={  }
theorem AYp:∀ v,Rg v=AK 0 Tryz.prog FK AkD Tryz.f102 AD7 AD6 AD5 v:=by
 rintro⟨a0,a1,⟨⟩⟩
 kernel_rfl
theorem AkC:AD (AQ Tryz.f102) 0=[]:=by kernel_rfl
theorem ATI:AO Tryz.prog 102 (AF 0 2 AD7 AD6 AD5 Vq):=AH Gs Tryz.func102 (by kernel_rfl) (by kernel_rfl) rfl (fun v=>(AJI v).trans (AYp v)) (AA AkC trivial)
def Sy:Env:=FK.ext 102 true true (AF 0 2 AD7 AD6 AD5 Vq)
theorem NU:AX Tryz.prog Sy:=Env.AZ Gs ATI (fun _=>AI rfl rfl) (fun _=>AG rfl rfl)
abbrev AY6:Hints:={ loop:=fun n=>match n with|0=>Ab 0 21 Abo Abn LF|_=>fun _ _ _=>none }
theorem AY2:∀ v,LF v=roundOf Tryz.prog Sy AY6 1 0 21 (AB Tryz.f103 0) Abo Abn v:=by
 rintro⟨a0,a1,a2,a3,⟨⟩⟩
 kernel_rfl
theorem AnK:AD (AB Tryz.f103 0) 1=[]:=by kernel_rfl
theorem AnL:Aa Tryz.prog 0 (.loop (AB Tryz.f103 0)) (AY6.loop 0):=AT NU (AY2) (AA AnK trivial)
theorem AkW:∀ v,ANf v=AK 0 Tryz.prog Sy AY6 Tryz.f103 AY5 AY4 AY3 v:=by
 rintro⟨a0,⟨⟩⟩
 kernel_rfl
theorem Aos:AD (AQ Tryz.f103) 0=[(0,AB Tryz.f103 0)]:=by kernel_rfl
theorem AfX:AO Tryz.prog 103 (AF 0 1 AY5 AY4 AY3 ends):=AH NU Tryz.func103 (by kernel_rfl) (by kernel_rfl) rfl (fun v=>(Abp v).trans (AkW v)) (AA Aos ⟨AnL,trivial⟩)
def APF:Env:=Sy.ext 103 true true (AF 0 1 AY5 AY4 AY3 ends)
theorem XI:AX Tryz.prog APF:=Env.AZ NU AfX (fun _=>AI rfl rfl) (fun _=>AG rfl rfl)
abbrev QA:Hints:={ loop:=fun n=>match n with|0=>Ab 0 48 YI YH DV|_=>fun _ _ _=>none,fp:=fun n=>match n with|1=>[[0],[],[],[4],[]]|_=>[] }
theorem AEZ:∀ v,DV v=roundOf Tryz.prog APF QA 1 0 48 (AB Tryz.f86 0) YI YH v:=by
 rintro⟨a0,a1,a2,a3,a4,a5,a6,⟨⟩⟩
 kernel_rfl
theorem ATb:AD (AB Tryz.f86 0) 1=[]:=by kernel_rfl
theorem ATc:Aa Tryz.prog 0 (.loop (AB Tryz.f86 0)) (QA.loop 0):=AT XI (AEZ) (AA ATb trivial)
theorem ANg:∀ v,LH v=AK 0 Tryz.prog APF QA Tryz.f86 P9 P8 P7 v:=by
 rintro⟨a0,a1,⟨⟩⟩
 kernel_rfl
theorem AY7:AD (AQ Tryz.f86) 0=[(0,AB Tryz.f86 0)]:=by kernel_rfl
theorem AHS:AO Tryz.prog 86 (AF 0 3 P9 P8 P7 Rp):=AH XI Tryz.func86 (by kernel_rfl) (by kernel_rfl) rfl (fun v=>(YJ v).trans (ANg v)) (AA AY7 ⟨ATc,trivial⟩)
def QY:Env:=APF.CE 86 2 87 (AF 0 3 P9 P8 P7 Rp)
theorem O7:AX Tryz.prog QY:=Env.Aw XI AHS (AG rfl rfl)
abbrev AkP:Hints:={  }
theorem AYx:∀ v,Ri v=AK 0 Tryz.prog QY AkP Tryz.f75 AEK AEJ AEI v:=by
 rintro⟨a0,a1,⟨⟩⟩
 kernel_rfl
theorem AkO:AD (AQ Tryz.f75) 0=[]:=by kernel_rfl
theorem ATP:AO Tryz.prog 75 (AF 0 2 AEK AEJ AEI ANV):=AH O7 Tryz.func75 (by kernel_rfl) (by kernel_rfl) rfl (fun v=>(AJO v).trans (AYx v)) (AA AkO trivial)
def AGP:Env:=QY.ext 75 true true (AF 0 2 AEK AEJ AEI ANV)
theorem Yl:AX Tryz.prog AGP:=Env.AZ O7 ATP (fun _=>AI rfl rfl) (fun _=>AG rfl rfl)
abbrev ApF:Hints:={  }
theorem AnH:∀ v,Abl v=AK 0 Tryz.prog AGP ApF Tryz.f49 AkM AkL AkK v:=by
 rintro⟨a0,a1,⟨⟩⟩
 kernel_rfl
theorem ApE:AD (AQ Tryz.f49) 0=[]:=by kernel_rfl
theorem AkJ:AO Tryz.prog 49 (AF 0 2 AkM AkL AkK fof):=AH Yl Tryz.func49 (by kernel_rfl) (by kernel_rfl) rfl (fun v=>(AkN v).trans (AnH v)) (AA ApE trivial)
def Ab4:Env:=AGP.ext 49 true true (AF 0 2 AkM AkL AkK fof)
theorem AGO:AX Tryz.prog Ab4:=Env.AZ Yl AkJ (fun _=>AI rfl rfl) (fun _=>AG rfl rfl)
abbrev AjH:Hints:={ loop:=fun n=>match n with|0=>Ab 0 18 AjF AjD Fe|_=>fun _ _ _=>none }
theorem Ad7:∀ v,Fe v=roundOf Tryz.prog Ab4 AjH 1 0 18 (AB Tryz.f72 0) AjF AjD v:=by
 rintro⟨a0,a1,a2,a3,⟨⟩⟩
 kernel_rfl
theorem AoZ:AD (AB Tryz.f72 0) 1=[]:=by kernel_rfl
theorem Aoa:Aa Tryz.prog 0 (.loop (AB Tryz.f72 0)) (AjH.loop 0):=AT AGO (Ad7) (AA AoZ trivial)
theorem AmZ:∀ v,AIv v=AK 0 Tryz.prog Ab4 AjH Tryz.f72 AjG AjE AjC v:=by
 rintro⟨a0,⟨⟩⟩
 kernel_rfl
theorem ApC:AD (AQ Tryz.f72) 0=[(0,AB Tryz.f72 0)]:=by kernel_rfl
theorem AjB:AO Tryz.prog 72 (AF 0 1 AjG AjE AjC orI):=AH AGO Tryz.func72 (by kernel_rfl) (by kernel_rfl) rfl (fun v=>(AMW v).trans (AmZ v)) (AA ApC ⟨Aoa,trivial⟩)
def AlS:Env:=Ab4.ext 72 true true (AF 0 1 AjG AjE AjC orI)
theorem AU4:AX Tryz.prog AlS:=Env.AZ AGO AjB (fun _=>AI rfl rfl) (fun _=>AG rfl rfl)
abbrev AjV:Hints:={  }
theorem AX9:∀ v,Ml v=AK 0 Tryz.prog AlS AjV Tryz.f45 ADY ADX ADW v:=by
 rintro⟨a0,⟨⟩⟩
 kernel_rfl
theorem AjU:AD (AQ Tryz.f45) 0=[]:=by kernel_rfl
theorem ASg:AO Tryz.prog 45 (AF 0 1 ADY ADX ADW VJ):=AH AU4 Tryz.func45 (by kernel_rfl) (by kernel_rfl) rfl (fun v=>(VI v).trans (AX9 v)) (AA AjU trivial)
def AGK:Env:=AlS.ext 45 true true (AF 0 1 ADY ADX ADW VJ)
theorem Yi:AX Tryz.prog AGK:=Env.AZ AU4 ASg (fun _=>AI rfl rfl) (fun _=>AG rfl rfl)
abbrev Aoh:Hints:={  }
theorem AjT:∀ v,AX8 v=AK 0 Tryz.prog AGK Aoh Tryz.f46 AX7 AX6 AX5 v:=by
 rintro⟨a0,⟨⟩⟩
 kernel_rfl
theorem Aog:AD (AQ Tryz.f46) 0=[]:=by kernel_rfl
theorem AeZ:AO Tryz.prog 46 (AF 0 1 AX7 AX6 AX5 AMs):=AH Yi Tryz.func46 (by kernel_rfl) (by kernel_rfl) rfl (fun v=>(Amh v).trans (AjT v)) (AA Aog trivial)
def AaS:Env:=AGK.ext 46 true true (AF 0 1 AX7 AX6 AX5 AMs)
theorem AKD:AX Tryz.prog AaS:=Env.AZ Yi AeZ (fun _=>AI rfl rfl) (fun _=>AG rfl rfl)
end
end Go.Pev
end
section
namespace Go.Pev
open Go.Proofs
noncomputable section
abbrev AYH:Hints:={ fp:=fun n=>match n with|1=>[[0],[0],[2],[2],[],[0],[0],[2],[2],[],[],[20],[]]|_=>[] }
theorem AM0:∀ v,Kl v=AK 0 Tryz.prog AaS AYH Tryz.f47 Pp Po Pn v:=by
 rintro⟨a0,a1,⟨⟩⟩
 kernel_rfl
theorem AYG:AD (AQ Tryz.f47) 0=[]:=by kernel_rfl
theorem AHG:AO Tryz.prog 47 (AF 0 2 Pp Po Pn Js):=AH AKD Tryz.func47 (by kernel_rfl) (by kernel_rfl) rfl (fun v=>(X6 v).trans (AM0 v)) (AA AYG trivial)
def Lg:Env:=AaS.ext 47 true true (AF 0 2 Pp Po Pn Js)
theorem JT:AX Tryz.prog Lg:=Env.AZ AKD AHG (fun _=>AI rfl rfl) (fun _=>AG rfl rfl)
abbrev ADU:Hints:={ loop:=fun n=>match n with|0=>Ab 0 33 AI2 AI1 Fg|_=>fun _ _ _=>none }
theorem AMr:∀ v,Fg v=roundOf Tryz.prog Lg ADU 1 0 33 (AB Tryz.f48 0) AI2 AI1 v:=by
 rintro⟨a0,a1,a2,a3,a4,⟨⟩⟩
 kernel_rfl
theorem AeX:AD (AB Tryz.f48 0) 1=[]:=by kernel_rfl
theorem AeY:Aa Tryz.prog 0 (.loop (AB Tryz.f48 0)) (ADU.loop 0):=AT JT (AMr) (AA AeX trivial)
theorem AX4:∀ v,RM v=AK 0 Tryz.prog Lg ADU Tryz.f48 ADT ADS ADR v:=by
 rintro⟨a0,a1,⟨⟩⟩
 kernel_rfl
theorem AjS:AD (AQ Tryz.f48) 0=[(0,AB Tryz.f48 0)]:=by kernel_rfl
theorem ASe:AO Tryz.prog 48 (AF 0 2 ADT ADS ADR ADV):=AH JT Tryz.func48 (by kernel_rfl) (by kernel_rfl) rfl (fun v=>(AI3 v).trans (AX4 v)) (AA AjS ⟨AeY,trivial⟩)
def Su:Env:=Lg.ext 48 true true (AF 0 2 ADT ADS ADR ADV)
theorem NS:AX Tryz.prog Su:=Env.AZ JT ASe (fun _=>AI rfl rfl) (fun _=>AG rfl rfl)
abbrev ADc:Hints:={ loop:=fun n=>match n with|0=>Ab 0 96 AI5 AI4 Dh|_=>fun _ _ _=>none,fp:=fun n=>match n with|7=>[[2],[2],[],[],[2],[2],[2],[2],[],[],[],[2],[2],[0],[0],[],[],[],[2],[2],[],[],[],[2],[2],[],[],[],[],[],[],[],[0],[0],[],[],[],[],[2],[],[],[],[]]|_=>[] }
theorem AMt:∀ v,Dh v=roundOf Tryz.prog Su ADc 1 0 96 (AB Tryz.f27 0) AI5 AI4 v:=by
 rintro⟨a0,a1,a2,a3,a4,a5,⟨⟩⟩
 kernel_rfl
theorem Aea:AD (AB Tryz.f27 0) 1=[]:=by kernel_rfl
theorem Aeb:Aa Tryz.prog 0 (.loop (AB Tryz.f27 0)) (ADc.loop 0):=AT NS (AMt) (AA Aea trivial)
theorem AYA:∀ v,Hj v=AK 0 Tryz.prog Su ADc Tryz.f27 ADb ADa ADZ v:=by
 rintro⟨a0,⟨⟩⟩
 kernel_rfl
theorem AjW:AD (AQ Tryz.f27) 0=[(0,AB Tryz.f27 0)]:=by kernel_rfl
theorem ASh:AO Tryz.prog 27 (AF 0 1 ADb ADa ADZ Fh):=AH NS Tryz.func27 (by kernel_rfl) (by kernel_rfl) rfl (fun v=>(Jr v).trans (AYA v)) (AA AjW ⟨Aeb,trivial⟩)
def Sv:Env:=Su.ext 27 true true (AF 0 1 ADb ADa ADZ Fh)
theorem NT:AX Tryz.prog Sv:=Env.AZ NS ASh (fun _=>AI rfl rfl) (fun _=>AG rfl rfl)
abbrev ADj:Hints:={ loop:=fun n=>match n with|0=>Ab 0 26 AI7 AI6 Fj|_=>fun _ _ _=>none }
theorem AMy:∀ v,Fj v=roundOf Tryz.prog Sv ADj 1 0 26 (AB Tryz.f61 0) AI7 AI6 v:=by
 rintro⟨a0,a1,a2,a3,⟨⟩⟩
 kernel_rfl
theorem Aej:AD (AB Tryz.f61 0) 1=[]:=by kernel_rfl
theorem Aek:Aa Tryz.prog 0 (.loop (AB Tryz.f61 0)) (ADj.loop 0):=AT NT (AMy) (AA Aej trivial)
theorem AYF:∀ v,RN v=AK 0 Tryz.prog Sv ADj Tryz.f61 ADi ADh ADg v:=by
 rintro⟨a0,⟨⟩⟩
 kernel_rfl
theorem AjZ:AD (AQ Tryz.f61) 0=[(0,AB Tryz.f61 0)]:=by kernel_rfl
theorem ASm:AO Tryz.prog 61 (AF 0 1 ADi ADh ADg VN):=AH NT Tryz.func61 (by kernel_rfl) (by kernel_rfl) rfl (fun v=>(AI8 v).trans (AYF v)) (AA AjZ ⟨Aek,trivial⟩)
def KG:Env:=Sv.ext 61 true true (AF 0 1 ADi ADh ADg VN)
theorem Gr:AX Tryz.prog KG:=Env.AZ NT ASm (fun _=>AI rfl rfl) (fun _=>AG rfl rfl)
abbrev DZ:Hints:={ loop:=fun n=>match n with|0=>Ab 0 83 R8 R5 C0|1=>Ab 0 83 R7 R4 Dn|2=>Ab 0 83 R6 R3 Cz|_=>fun _ _ _=>none,fp:=fun n=>match n with|14=>[[],[],[0],[0],[],[],[0],[0],[],[]]|13=>[[],[],[],[],[],[],[],[],[],[],[],[],[],[],[],[],[],[],[],[0],[0],[],[],[0],[0],[],[]]|12=>[[],[],[],[],[],[],[],[],[],[],[],[]]|_=>[] }
theorem ZF:∀ v,Cz v=roundOf Tryz.prog KG DZ 3 0 83 (AB Tryz.f39 2) R6 R3 v:=by
 rintro⟨a0,a1,a2,a3,a4,⟨⟩⟩
 kernel_rfl
theorem AOJ:AD (AB Tryz.f39 2) 3=[]:=by kernel_rfl
theorem AOM:Aa Tryz.prog 0 (.loop (AB Tryz.f39 2)) (DZ.loop 2):=AT Gr (ZF) (AA AOJ trivial)
theorem ZG:∀ v,Dn v=roundOf Tryz.prog KG DZ 2 0 83 (AB Tryz.f39 1) R7 R4 v:=by
 rintro⟨a0,a1,a2,a3,⟨⟩⟩
 kernel_rfl
theorem AOK:AD (AB Tryz.f39 1) 2=[(2,AB Tryz.f39 2)]:=by kernel_rfl
theorem AON:Aa Tryz.prog 0 (.loop (AB Tryz.f39 1)) (DZ.loop 1):=AT Gr (ZG) (AA AOK ⟨AOM,trivial⟩)
theorem ZH:∀ v,C0 v=roundOf Tryz.prog KG DZ 1 0 83 (AB Tryz.f39 0) R8 R5 v:=by
 rintro⟨a0,a1,a2,a3,⟨⟩⟩
 kernel_rfl
theorem AOL:AD (AB Tryz.f39 0) 1=[]:=by kernel_rfl
theorem AOO:Aa Tryz.prog 0 (.loop (AB Tryz.f39 0)) (DZ.loop 0):=AT Gr (ZH) (AA AOL trivial)
theorem AHn:∀ v,Is v=AK 0 Tryz.prog KG DZ Tryz.f39 ND NC NB v:=by
 rintro⟨a0,a1,⟨⟩⟩
 kernel_rfl
theorem AUB:AD (AQ Tryz.f39) 0=[(0,AB Tryz.f39 0),(1,AB Tryz.f39 1)]:=by kernel_rfl
theorem AFJ:AO Tryz.prog 39 (AF 0 2 ND NC NB HP):=AH Gr Tryz.func39 (by kernel_rfl) (by kernel_rfl) rfl (fun v=>(R9 v).trans (AHn v)) (AA AUB ⟨AOO,AON,trivial⟩)
def I6:Env:=KG.ext 39 true true (AF 0 2 ND NC NB HP)
theorem IJ:AX Tryz.prog I6:=Env.AZ Gr AFJ (fun _=>AI rfl rfl) (fun _=>AG rfl rfl)
abbrev AKm:Hints:={ loop:=fun n=>match n with|0=>Ab 0 20 APr APq AAd|_=>fun _ _ _=>none }
theorem APp:∀ v,AAd v=roundOf Tryz.prog I6 AKm 1 0 20 (AB Tryz.f38 0) APr APq v:=by
 rintro⟨a0,a1,⟨⟩⟩
 kernel_rfl
theorem Ag1:AD (AB Tryz.f38 0) 1=[]:=by kernel_rfl
theorem Ag2:Aa Tryz.prog 0 (.loop (AB Tryz.f38 0)) (AKm.loop 0):=AT IJ (APp) (AA Ag1 trivial)
theorem AcW:∀ v,AKn v=AK 0 Tryz.prog I6 AKm Tryz.f38 AKl AKk AKj v:=by
 rintro⟨a0,⟨⟩⟩
 kernel_rfl
theorem Ali:AD (AQ Tryz.f38) 0=[(0,AB Tryz.f38 0)]:=by kernel_rfl
theorem AVQ:AO Tryz.prog 38 (AF 0 1 AKl AKk AKj OZ):=AH IJ Tryz.func38 (by kernel_rfl) (by kernel_rfl) rfl (fun v=>(Ag3 v).trans (AcW v)) (AA Ali ⟨Ag2,trivial⟩)
def SV:Env:=I6.ext 38 true true (AF 0 1 AKl AKk AKj OZ)
theorem LV:AX Tryz.prog SV:=Env.AZ IJ AVQ (fun _=>AI rfl rfl) (fun _=>AG rfl rfl)
abbrev Ji:Hints:={ loop:=fun n=>match n with|0=>Ab 0 138 ABx ABv Ct|1=>Ab 0 138 ABw ABu DQ|_=>fun _ _ _=>none,fp:=fun n=>match n with|10=>[[],[],[],[0],[0],[],[],[],[],[],[4],[4],[],[],[0],[0],[],[],[],[],[],[4],[4],[],[],[0],[0],[],[],[],[],[],[4],[4],[],[],[],[]]|8=>[[4],[4],[],[],[4],[4],[4],[4],[],[],[],[4],[4],[0],[0],[],[],[],[4],[4],[],[],[],[4],[4],[0],[0],[],[],[]]|_=>[] }
theorem AGt:∀ v,DQ v=roundOf Tryz.prog SV Ji 2 0 138 (AB Tryz.f21 1) ABw ABu v:=by
 rintro⟨a0,a1,a2,a3,a4,a5,⟨⟩⟩
 kernel_rfl
theorem AWQ:AD (AB Tryz.f21 1) 2=[]:=by kernel_rfl
theorem AWS:Aa Tryz.prog 0 (.loop (AB Tryz.f21 1)) (Ji.loop 1):=AT LV (AGt) (AA AWQ trivial)
theorem AGu:∀ v,Ct v=roundOf Tryz.prog SV Ji 1 0 138 (AB Tryz.f21 0) ABx ABv v:=by
 rintro⟨a0,a1,a2,a3,⟨⟩⟩
 kernel_rfl
theorem AWR:AD (AB Tryz.f21 0) 1=[]:=by kernel_rfl
theorem AWT:Aa Tryz.prog 0 (.loop (AB Tryz.f21 0)) (Ji.loop 0):=AT LV (AGu) (AA AWR trivial)
theorem AQ1:∀ v,Ed v=AK 0 Tryz.prog SV Ji Tryz.f21 T7 T6 T5 v:=by
 rintro⟨a0,⟨⟩⟩
 kernel_rfl
theorem AdU:AD (AQ Tryz.f21) 0=[(0,AB Tryz.f21 0),(1,AB Tryz.f21 1)]:=by kernel_rfl
theorem ALq:AO Tryz.prog 21 (AF 0 1 T7 T6 T5 G6):=AH LV Tryz.func21 (by kernel_rfl) (by kernel_rfl) rfl (fun v=>(FX v).trans (AQ1 v)) (AA AdU ⟨AWT,AWS,trivial⟩)
def OM:Env:=SV.ext 21 true true (AF 0 1 T7 T6 T5 G6)
theorem Lf:AX Tryz.prog OM:=Env.AZ LV ALq (fun _=>AI rfl rfl) (fun _=>AG rfl rfl)
abbrev ABO:Hints:={ loop:=fun n=>match n with|0=>Ab 0 26 AIS AIR Ts|_=>fun _ _ _=>none,fp:=fun n=>match n with|6=>[[],[],[],[],[],[],[],[],[]]|_=>[] }
theorem ALd:∀ v,Ts v=roundOf Tryz.prog OM ABO 1 0 26 (AB Tryz.f26 0) AIS AIR v:=by
 rintro⟨a0,a1,a2,⟨⟩⟩
 kernel_rfl
theorem AdD:AD (AB Tryz.f26 0) 1=[]:=by kernel_rfl
theorem AdE:Aa Tryz.prog 0 (.loop (AB Tryz.f26 0)) (ABO.loop 0):=AT Lf (ALd) (AA AdD trivial)
theorem AV9:∀ v,ABP v=AK 0 Tryz.prog OM ABO Tryz.f26 ABN ABM ABL v:=by
 rintro⟨a0,a1,⟨⟩⟩
 kernel_rfl
theorem Ahj:AD (AQ Tryz.f26) 0=[(0,AB Tryz.f26 0)]:=by kernel_rfl
theorem AQX:AO Tryz.prog 26 (AF 0 2 ABN ABM ABL ALe):=AH Lf Tryz.func26 (by kernel_rfl) (by kernel_rfl) rfl (fun v=>(AdF v).trans (AV9 v)) (AA Ahj ⟨AdE,trivial⟩)
def AGB:Env:=OM.ext 26 true true (AF 0 2 ABN ABM ABL ALe)
theorem Yd:AX Tryz.prog AGB:=Env.AZ Lf AQX (fun _=>AI rfl rfl) (fun _=>AG rfl rfl)
theorem Am7:Tryz.f62.body.isSome=true:=by kernel_rfl
theorem Am6 : (Tryz.f62.name == "runtime.NumGoroutine") = false := by kernel_rfl
theorem Am5:loops (AQ Tryz.f62)=0:=by kernel_rfl
def ON:Env:=AGB.ext 62 false false (Cl Tryz.prog AGB {} Tryz.f62)
theorem Lm:AX Tryz.prog ON:=Env.AZ Yd (CX Yd Tryz.func62 Am7 Am6 Am5) (by simp) (by simp)
abbrev K2:Hints:={ loop:=fun n=>match n with|0=>Ab 3 19 Ot Oq CB|_=>fun _ _ _=>none }
theorem VW:∀ v,CB v=roundOf Tryz.prog ON K2 1 3 19 (AB Tryz.f76 0) Ot Oq v:=by
 rintro⟨a0,a1,a2,a3,⟨⟩⟩
 kernel_rfl
theorem AHL:AD (AB Tryz.f76 0) 1=[]:=by kernel_rfl
theorem AHM:Aa Tryz.prog 3 (.loop (AB Tryz.f76 0)) (K2.loop 0):=AT Lm (VW) (AA AHL trivial)
theorem ADz:∀ v,HA v=AK 3 Tryz.prog ON K2 Tryz.f76 K1 K0 Kz v:=by
 rintro⟨a0,a1,⟨⟩⟩
 kernel_rfl
theorem AM9:AD (AQ Tryz.f76) 0=[(0,AB Tryz.f76 0)]:=by kernel_rfl
theorem Y5:AO Tryz.prog 76 (AF 3 2 K1 K0 Kz K3):=AH Lm Tryz.func76 (by kernel_rfl) (by kernel_rfl) rfl (fun v=>(Ou v).trans (ADz v)) (AA AM9 ⟨AHM,trivial⟩)
def HH:Env:=ON.CE 76 1 62 (AF 3 2 K1 K0 Kz K3)
theorem G2:AX Tryz.prog HH:=Env.Aw Lm Y5 (AG rfl rfl)
abbrev LL:Hints:={ loop:=fun n=>match n with|0=>Ab 3 42 O2 O1 DA|_=>fun _ _ _=>none }
theorem WN:∀ v,DA v=roundOf Tryz.prog HH LL 1 3 42 (AB Tryz.f60 0) O2 O1 v:=by
 rintro⟨a0,a1,a2,a3,⟨⟩⟩
 kernel_rfl
theorem AHY:AD (AB Tryz.f60 0) 1=[]:=by kernel_rfl
theorem AHZ:Aa Tryz.prog 3 (.loop (AB Tryz.f60 0)) (LL.loop 0):=AT G2 (WN) (AA AHY trivial)
theorem AEv:∀ v,HD v=AK 3 Tryz.prog HH LL Tryz.f60 LK LJ LI v:=by
 rintro⟨a0,a1,⟨⟩⟩
 kernel_rfl
theorem ANx:AD (AQ Tryz.f60) 0=[(0,AB Tryz.f60 0)]:=by kernel_rfl
theorem Y9:AO Tryz.prog 60 (AF 3 2 LK LJ LI Hu):=AH G2 Tryz.func60 (by kernel_rfl) (by kernel_rfl) rfl (fun v=>(O3 v).trans (AEv v)) (AA ANx ⟨AHZ,trivial⟩)
def HJ:Env:=HH.CE 60 1 62 (MM (AF 3 2 LK LJ LI Hu))
theorem G3:AX Tryz.prog HJ:=Env.Aw G2 (AP8 Y9) (Alq rfl rfl)
abbrev AL8:Hints:={ loop:=fun n=>match n with|0=>Ab 0 51 ARJ ARI D1|_=>fun _ _ _=>none,fp:=fun n=>match n with|10=>[[2],[6],[4],[],[5],[],[5]]|_=>[] }
theorem ARH:∀ v,D1 v=roundOf Tryz.prog HJ AL8 1 0 51 (AB Tryz.f32 0) ARJ ARI v:=by
 rintro⟨a0,a1,a2,a3,a4,a5,⟨⟩⟩
 kernel_rfl
theorem Aia:AD (AB Tryz.f32 0) 1=[]:=by kernel_rfl
theorem Aib:Aa Tryz.prog 0 (.loop (AB Tryz.f32 0)) (AL8.loop 0):=AT G3 (ARH) (AA Aia trivial)
theorem Adr:∀ v,Zc v=AK 0 Tryz.prog HJ AL8 Tryz.f32 AL7 AL6 AL5 v:=by
 rintro⟨a0,a1,⟨⟩⟩
 kernel_rfl
theorem AmL:AD (AQ Tryz.f32) 0=[(0,AB Tryz.f32 0)]:=by kernel_rfl
theorem AW7:AO Tryz.prog 32 (AF 0 2 AL7 AL6 AL5 ARL):=AH G3 Tryz.func32 (by kernel_rfl) (by kernel_rfl) rfl (fun v=>(ARK v).trans (Adr v)) (AA AmL ⟨Aib,trivial⟩)
def AO9:Env:=HJ.ext 32 true true (AF 0 2 AL7 AL6 AL5 ARL)
theorem AGH:AX Tryz.prog AO9:=Env.AZ G3 AW7 (fun _=>AI rfl rfl) (fun _=>AG rfl rfl)
end
end Go.Pev
end
section
namespace Go.Pev
open Go.Proofs
noncomputable section
abbrev AYn:Hints:={ fp:=fun n=>match n with|1=>[[0],[0],[2],[2],[],[0],[0],[2],[2],[],[],[20],[]]|_=>[] }
theorem ANQ:∀ v,LA v=AK 0 Tryz.prog AO9 AYn Tryz.f64 P1 Pz Py v:=by
 rintro⟨a0,a1,⟨⟩⟩
 kernel_rfl
theorem AYm:AD (AQ Tryz.f64) 0=[]:=by kernel_rfl
theorem AHQ:AO Tryz.prog 64 (AF 0 2 P1 Pz Py Ak):=AH AGH Tryz.func64 (by kernel_rfl) (by kernel_rfl) rfl (fun v=>(YB v).trans (ANQ v)) (AA AYm trivial)
def IH:Env:=AO9.ext 64 true true (AF 0 2 P1 Pz Py Ak)
theorem Ga:AX Tryz.prog IH:=Env.AZ AGH AHQ (fun _=>AI rfl rfl) (fun _=>AG rfl rfl)
abbrev ADq:Hints:={ loop:=fun n=>match n with|0=>Ab 1 53 AbV AbT AbR|1=>Ab 1 53 AbU AbS AbQ|_=>fun _ _ _=>none,fp:=fun n=>match n with|4=>[[],[],[],[],[],[],[],[0],[0],[],[],[],[0],[0],[],[],[]]|6=>[[],[],[],[],[],[],[],[],[0],[0],[],[],[0],[0],[0],[1],[0],[1]]|_=>[] }
theorem AYQ:∀ v,AbQ v=roundOf Tryz.prog IH ADq 2 1 53 (AB Tryz.f92 1) AbU AbS v:=by
 rintro⟨a0,a1,a2,a3,a4,⟨⟩⟩
 kernel_rfl
theorem Amv:AD (AB Tryz.f92 1) 2=[]:=by kernel_rfl
theorem Amx:Aa Tryz.prog 1 (.loop (AB Tryz.f92 1)) (ADq.loop 1):=AT Ga (AYQ) (AA Amv trivial)
theorem AYR:∀ v,AbR v=roundOf Tryz.prog IH ADq 1 1 53 (AB Tryz.f92 0) AbV AbT v:=by
 rintro⟨a0,a1,a2,a3,⟨⟩⟩
 kernel_rfl
theorem Amw:AD (AB Tryz.f92 0) 1=[(1,AB Tryz.f92 1)]:=by kernel_rfl
theorem Amy:Aa Tryz.prog 1 (.loop (AB Tryz.f92 0)) (ADq.loop 0):=AT Ga (AYR) (AA Amw ⟨Amx,trivial⟩)
theorem Ajl:∀ v,Ajm v=AK 1 Tryz.prog IH ADq Tryz.f92 AYU AYT AYS v:=by
 rintro⟨a0,a1,a2,⟨⟩⟩
 kernel_rfl
theorem Aok:AD (AQ Tryz.f92) 0=[(0,AB Tryz.f92 0)]:=by kernel_rfl
theorem Aeo:AO Tryz.prog 92 (AF 1 4 AYU AYT AYS Aol):=AH Ga Tryz.func92 (by kernel_rfl) (by kernel_rfl) rfl (fun v=>(Amz v).trans (Ajl v)) (AA Aok ⟨Amy,trivial⟩)
def APE:Env:=IH.CE 92 3 64 (AF 1 4 AYU AYT AYS Aol)
theorem XF:AX Tryz.prog APE:=Env.Aw Ga Aeo (AG rfl rfl)
abbrev ALU:Hints:={ loop:=fun n=>match n with|0=>Ab 1 82 AQO AQN AQM|_=>fun _ _ _=>none,fp:=fun n=>match n with|6=>[[],[],[],[],[],[],[],[],[],[],[],[],[0],[0],[],[],[],[],[0],[0],[0],[1],[0],[1]]|5=>[[],[],[],[],[],[0],[0],[],[],[],[],[0],[0],[],[],[]]|3=>[[],[],[],[],[],[],[],[],[],[],[0],[0],[],[],[],[],[],[0],[0],[],[],[]]|_=>[] }
theorem AQL:∀ v,AQM v=roundOf Tryz.prog APE ALU 1 1 82 (AB Tryz.f116 0) AQO AQN v:=by
 rintro⟨a0,a1,a2,a3,⟨⟩⟩
 kernel_rfl
theorem Ahb:AD (AB Tryz.f116 0) 1=[]:=by kernel_rfl
theorem Ahc:Aa Tryz.prog 1 (.loop (AB Tryz.f116 0)) (ALU.loop 0):=AT XF (AQL) (AA Ahb trivial)
theorem Acz:∀ v,Aam v=AK 1 Tryz.prog APE ALU Tryz.f116 ALT ALS ALR v:=by
 rintro⟨a0,a1,a2,a3,⟨⟩⟩
 kernel_rfl
theorem Al2:AD (AQ Tryz.f116) 0=[(0,AB Tryz.f116 0)]:=by kernel_rfl
theorem AV3:AO Tryz.prog 116 (AF 1 5 ALT ALS ALR Ahe):=AH XF Tryz.func116 (by kernel_rfl) (by kernel_rfl) rfl (fun v=>(Ahd v).trans (Acz v)) (AA Al2 ⟨Ahc,trivial⟩)
def Sf:Env:=APE.CE 116 4 64 (AF 1 5 ALT ALS ALR Ahe)
theorem Lc:AX Tryz.prog Sf:=Env.Aw XF AV3 (AG rfl rfl)
abbrev Rd:Hints:={ loop:=fun n=>match n with|0=>Ab 1 60 ATA AS8 AS6|1=>Ab 1 60 AS9 AS7 AS4|_=>fun _ _ _=>none,fp:=fun n=>match n with|10=>[[],[],[],[],[],[],[],[],[],[],[0],[0],[],[],[0],[0],[0],[1],[0],[1]]|_=>[] }
theorem AS3:∀ v,AS4 v=roundOf Tryz.prog Sf Rd 2 1 60 (AB Tryz.f93 1) AS9 AS7 v:=by
 rintro⟨a0,a1,a2,a3,⟨⟩⟩
 kernel_rfl
theorem Ajy:AD (AB Tryz.f93 1) 2=[]:=by kernel_rfl
theorem Aj0:Aa Tryz.prog 1 (.loop (AB Tryz.f93 1)) (Rd.loop 1):=AT Lc (AS3) (AA Ajy trivial)
theorem AS5:∀ v,AS6 v=roundOf Tryz.prog Sf Rd 1 1 60 (AB Tryz.f93 0) ATA AS8 v:=by
 rintro⟨a0,a1,a2,a3,a4,⟨⟩⟩
 kernel_rfl
theorem Ajz:AD (AB Tryz.f93 0) 1=[]:=by kernel_rfl
theorem Aj1:Aa Tryz.prog 1 (.loop (AB Tryz.f93 0)) (Rd.loop 0):=AT Lc (AS5) (AA Ajz trivial)
theorem Aez:∀ v,Aba v=AK 1 Tryz.prog Sf Rd Tryz.f93 ANG ANF ANE v:=by
 rintro⟨a0,a1,a2,⟨⟩⟩
 kernel_rfl
theorem Am2:AD (AQ Tryz.f93) 0=[(0,AB Tryz.f93 0),(1,AB Tryz.f93 1)]:=by kernel_rfl
theorem AYY:AO Tryz.prog 93 (AF 1 4 ANG ANF ANE Aj3):=AH Lc Tryz.func93 (by kernel_rfl) (by kernel_rfl) rfl (fun v=>(Aj2 v).trans (Aez v)) (AA Am2 ⟨Aj1,Aj0,trivial⟩)
def Z3:Env:=Sf.CE 93 3 64 (AF 1 4 ANG ANF ANE Aj3)
theorem QX:AX Tryz.prog Z3:=Env.Aw Lc AYY (AG rfl rfl)
abbrev AFj:Hints:={ loop:=fun n=>match n with|0=>Ab 1 67 AJw AJv AJu|_=>fun _ _ _=>none,fp:=fun n=>match n with|10=>[[],[],[],[],[],[],[],[],[],[],[0],[0],[],[],[0],[0],[0],[1],[0],[1]]|_=>[] }
theorem AOd:∀ v,AJu v=roundOf Tryz.prog Z3 AFj 1 1 67 (AB Tryz.f94 0) AJw AJv v:=by
 rintro⟨a0,a1,a2,a3,a4,a5,⟨⟩⟩
 kernel_rfl
theorem AgO:AD (AB Tryz.f94 0) 1=[]:=by kernel_rfl
theorem AgP:Aa Tryz.prog 1 (.loop (AB Tryz.f94 0)) (AFj.loop 0):=AT QX (AOd) (AA AgO trivial)
theorem AZ7:∀ v,AUa v=AK 1 Tryz.prog Z3 AFj Tryz.f94 AFi AFh AFg v:=by
 rintro⟨a0,a1,a2,⟨⟩⟩
 kernel_rfl
theorem Ak8:AD (AQ Tryz.f94) 0=[(0,AB Tryz.f94 0)]:=by kernel_rfl
theorem AUZ:AO Tryz.prog 94 (AF 1 4 AFi AFh AFg AZ8):=AH QX Tryz.func94 (by kernel_rfl) (by kernel_rfl) rfl (fun v=>(AgQ v).trans (AZ7 v)) (AA Ak8 ⟨AgP,trivial⟩)
def AGZ:Env:=Z3.CE 94 3 64 (AF 1 4 AFi AFh AFg AZ8)
theorem Yr:AX Tryz.prog AGZ:=Env.Aw QX AUZ (AG rfl rfl)
abbrev Ad6:Hints:={ fp:=fun n=>match n with|1=>[[],[],[],[0],[0],[],[],[0],[0],[],[]]|_=>[] }
theorem ASU:∀ v,AIt v=AK 2 Tryz.prog AGZ Ad6 Tryz.f140 UP UO UN v:=by
 rintro⟨a0,a1,a2,a3,⟨⟩⟩
 kernel_rfl
theorem Ad5:AD (AQ Tryz.f140) 0=[]:=by kernel_rfl
theorem AMU:AO Tryz.prog 140 (AF 2 5 UP UO UN AMV):=AH Yr Tryz.func140 (by kernel_rfl) (by kernel_rfl) rfl (fun v=>(AXc v).trans (ASU v)) (AA Ad5 trivial)
def W8:Env:=AGZ.CE 140 4 64 (AF 2 5 UP UO UN AMV)
theorem So:AX Tryz.prog W8:=Env.Aw Yr AMU (AG rfl rfl)
abbrev AeP:Hints:={  }
theorem ASb:∀ v,AIx v=AK 2 Tryz.prog W8 AeP Tryz.f120 VB VA UZ v:=by
 rintro⟨a0,a1,a2,a3,a4,⟨⟩⟩
 kernel_rfl
theorem AeO:AD (AQ Tryz.f120) 0=[]:=by kernel_rfl
theorem AMk:AO Tryz.prog 120 (AF 2 6 VB VA UZ AMl):=AH So Tryz.func120 (by kernel_rfl) (by kernel_rfl) rfl (fun v=>(AXy v).trans (ASb v)) (AA AeO trivial)
def XB:Env:=W8.CE 120 5 64 (AF 2 6 VB VA UZ AMl)
theorem Sq:AX Tryz.prog XB:=Env.Aw So AMk (AG rfl rfl)
abbrev AeT:Hints:={  }
theorem ASd:∀ v,AIz v=AK 2 Tryz.prog XB AeT Tryz.f119 VH VG VF v:=by
 rintro⟨a0,a1,a2,⟨⟩⟩
 kernel_rfl
theorem AeS:AD (AQ Tryz.f119) 0=[]:=by kernel_rfl
theorem AMo:AO Tryz.prog 119 (AF 2 4 VH VG VF AMp):=AH Sq Tryz.func119 (by kernel_rfl) (by kernel_rfl) rfl (fun v=>(AX1 v).trans (ASd v)) (AA AeS trivial)
def XD:Env:=XB.CE 119 3 64 (AF 2 4 VH VG VF AMp)
theorem Ss:AX Tryz.prog XD:=Env.Aw Sq AMo (AG rfl rfl)
abbrev AiZ:Hints:={  }
theorem AW4:∀ v,ARF v=AK 1 Tryz.prog XD AiZ Tryz.f95 ACX ACW ACV v:=by
 rintro⟨a0,a1,a2,⟨⟩⟩
 kernel_rfl
theorem AiY:AD (AQ Tryz.f95) 0=[]:=by kernel_rfl
theorem ARE:AO Tryz.prog 95 (AF 1 4 ACX ACW ACV AW5):=AH Ss Tryz.func95 (by kernel_rfl) (by kernel_rfl) rfl (fun v=>(Ado v).trans (AW4 v)) (AA AiY trivial)
def Sm:Env:=XD.CE 95 3 64 (AF 1 4 ACX ACW ACV AW5)
theorem NR:AX Tryz.prog Sm:=Env.Aw Ss ARE (AG rfl rfl)
abbrev AWe:Hints:={ loop:=fun n=>match n with|0=>Ab 1 34 Aat Aas Aar|_=>fun _ _ _=>none,fp:=fun n=>match n with|3=>[[],[],[],[],[],[],[0],[0],[],[],[0],[0],[0],[1],[0],[1]]|_=>[] }
theorem AWa:∀ v,Aar v=roundOf Tryz.prog Sm AWe 1 1 34 (AB Tryz.f96 0) Aat Aas v:=by
 rintro⟨a0,a1,a2,⟨⟩⟩
 kernel_rfl
theorem AmD:AD (AB Tryz.f96 0) 1=[]:=by kernel_rfl
theorem AmE:Aa Tryz.prog 1 (.loop (AB Tryz.f96 0)) (AWe.loop 0):=AT NR (AWa) (AA AmD trivial)
theorem Ah3:∀ v,Ah4 v=AK 1 Tryz.prog Sm AWe Tryz.f96 AWd AWc AWb v:=by
 rintro⟨a0,a1,a2,⟨⟩⟩
 kernel_rfl
theorem AoK:AD (AQ Tryz.f96) 0=[(0,AB Tryz.f96 0)]:=by kernel_rfl
theorem AdZ:AO Tryz.prog 96 (AF 1 4 AWd AWc AWb AoL):=AH NR Tryz.func96 (by kernel_rfl) (by kernel_rfl) rfl (fun v=>(AmF v).trans (Ah3 v)) (AA AoK ⟨AmE,trivial⟩)
def QV:Env:=Sm.CE 96 3 64 (AF 1 4 AWd AWc AWb AoL)
theorem HR:AX Tryz.prog QV:=Env.Aw NR AdZ (AG rfl rfl)
abbrev Cv:Hints:={ loop:=fun n=>match n with|0=>Ab 1 141 X3 Xz Xv|1=>Ab 1 141 X2 Xy Xu|2=>Ab 1 141 X1 Xx Xt|3=>Ab 1 141 X0 Xw Xs|_=>fun _ _ _=>none,fp:=fun n=>match n with|11=>[[],[],[],[],[],[],[],[],[0],[0],[],[],[0],[0],[0],[1],[0],[1]]|5=>[[],[],[],[],[],[],[],[0],[0],[],[],[],[0],[0],[],[],[],[]]|17=>[[],[],[],[],[],[],[],[],[0],[0],[],[],[0],[0],[0],[1],[0],[1]]|16=>[[],[],[],[0],[0],[],[],[],[0],[0],[],[],[]]|23=>[[],[],[],[],[],[],[],[],[0],[0],[],[],[0],[0],[0],[1],[0],[1]]|22=>[[],[],[],[0],[0],[],[],[],[0],[0],[],[],[]]|_=>[] }
theorem ACn:∀ v,Xs v=roundOf Tryz.prog QV Cv 4 1 141 (AB Tryz.f97 3) X0 Xw v:=by
 rintro⟨a0,a1,a2,a3,a4,a5,⟨⟩⟩
 kernel_rfl
theorem ARt:AD (AB Tryz.f97 3) 4=[]:=by kernel_rfl
theorem ARx:Aa Tryz.prog 1 (.loop (AB Tryz.f97 3)) (Cv.loop 3):=AT HR (ACn) (AA ARt trivial)
theorem ACo:∀ v,Xt v=roundOf Tryz.prog QV Cv 3 1 141 (AB Tryz.f97 2) X1 Xx v:=by
 rintro⟨a0,a1,a2,a3,a4,a5,⟨⟩⟩
 kernel_rfl
theorem ARu:AD (AB Tryz.f97 2) 3=[]:=by kernel_rfl
theorem ARy:Aa Tryz.prog 1 (.loop (AB Tryz.f97 2)) (Cv.loop 2):=AT HR (ACo) (AA ARu trivial)
theorem ACp:∀ v,Xu v=roundOf Tryz.prog QV Cv 2 1 141 (AB Tryz.f97 1) X2 Xy v:=by
 rintro⟨a0,a1,a2,a3,a4,⟨⟩⟩
 kernel_rfl
theorem ARv:AD (AB Tryz.f97 1) 2=[]:=by kernel_rfl
theorem ARz:Aa Tryz.prog 1 (.loop (AB Tryz.f97 1)) (Cv.loop 1):=AT HR (ACp) (AA ARv trivial)
theorem ACq:∀ v,Xv v=roundOf Tryz.prog QV Cv 1 1 141 (AB Tryz.f97 0) X3 Xz v:=by
 rintro⟨a0,a1,a2,a3,a4,⟨⟩⟩
 kernel_rfl
theorem ARw:AD (AB Tryz.f97 0) 1=[(1,AB Tryz.f97 1),(2,AB Tryz.f97 2),(3,AB Tryz.f97 3)]:=by kernel_rfl
theorem AR0:Aa Tryz.prog 1 (.loop (AB Tryz.f97 0)) (Cv.loop 0):=AT HR (ACq) (AA ARw ⟨ARz,ARy,ARx,trivial⟩)
theorem AMJ:∀ v,ACr v=AK 1 Tryz.prog QV Cv Tryz.f97 Ph Pg Pf v:=by
 rintro⟨a0,a1,a2,⟨⟩⟩
 kernel_rfl
theorem AXI:AD (AQ Tryz.f97) 0=[(0,AB Tryz.f97 0)]:=by kernel_rfl
theorem AG4:AO Tryz.prog 97 (AF 1 4 Ph Pg Pf ACs):=AH HR Tryz.func97 (by kernel_rfl) (by kernel_rfl) rfl (fun v=>(AR1 v).trans (AMJ v)) (AA AXI ⟨AR0,trivial⟩)
def GJ:Env:=QV.CE 97 3 64 (AF 1 4 Ph Pg Pf ACs)
theorem D9:AX Tryz.prog GJ:=Env.Aw HR AG4 (AG rfl rfl)
abbrev Fc:Hints:={ loop:=fun n=>match n with|0=>Ab 1 90 ADB AC8 AC5|1=>Ab 1 90 ADA AC7 AC4|2=>Ab 1 90 AC9 AC6 AC3|_=>fun _ _ _=>none,fp:=fun n=>match n with|8=>[[],[],[],[],[],[],[0],[0],[],[],[0],[0],[0],[1],[0],[1]]|3=>[[],[],[],[],[],[],[],[0],[0],[],[],[0],[0],[],[],[],[]]|5=>[[],[],[],[],[],[],[],[0],[0],[],[],[0],[0],[],[],[]]|1=>[[],[],[],[],[],[],[0],[0],[],[],[0],[0],[0],[1],[0],[1]]|_=>[] }
theorem AHA:∀ v,AC3 v=roundOf Tryz.prog GJ Fc 3 1 90 (AB Tryz.f98 2) AC9 AC6 v:=by
 rintro⟨a0,a1,a2,a3,⟨⟩⟩
 kernel_rfl
theorem AXS:AD (AB Tryz.f98 2) 3=[]:=by kernel_rfl
theorem AXV:Aa Tryz.prog 1 (.loop (AB Tryz.f98 2)) (Fc.loop 2):=AT D9 (AHA) (AA AXS trivial)
theorem AHB:∀ v,AC4 v=roundOf Tryz.prog GJ Fc 2 1 90 (AB Tryz.f98 1) ADA AC7 v:=by
 rintro⟨a0,a1,a2,a3,⟨⟩⟩
 kernel_rfl
theorem AXT:AD (AB Tryz.f98 1) 2=[]:=by kernel_rfl
theorem AXW:Aa Tryz.prog 1 (.loop (AB Tryz.f98 1)) (Fc.loop 1):=AT D9 (AHB) (AA AXT trivial)
theorem AHC:∀ v,AC5 v=roundOf Tryz.prog GJ Fc 1 1 90 (AB Tryz.f98 0) ADB AC8 v:=by
 rintro⟨a0,a1,a2,a3,⟨⟩⟩
 kernel_rfl
theorem AXU:AD (AB Tryz.f98 0) 1=[(1,AB Tryz.f98 1),(2,AB Tryz.f98 2)]:=by kernel_rfl
theorem AXX:Aa Tryz.prog 1 (.loop (AB Tryz.f98 0)) (Fc.loop 0):=AT D9 (AHC) (AA AXU ⟨AXW,AXV,trivial⟩)
theorem AR8:∀ v,AIp v=AK 1 Tryz.prog GJ Fc Tryz.f98 UJ UI UH v:=by
 rintro⟨a0,a1,a2,a3,⟨⟩⟩
 kernel_rfl
theorem Ad0:AD (AQ Tryz.f98) 0=[(0,AB Tryz.f98 0)]:=by kernel_rfl
theorem AMN:AO Tryz.prog 98 (AF 1 5 UJ UI UH AMO):=AH D9 Tryz.func98 (by kernel_rfl) (by kernel_rfl) rfl (fun v=>(AXY v).trans (AR8 v)) (AA Ad0 ⟨AXX,trivial⟩)
def Eo:Env:=GJ.CE 98 4 64 (AF 1 5 UJ UI UH AMO)
theorem C2:AX Tryz.prog Eo:=Env.Aw D9 AMN (AG rfl rfl)
end
end Go.Pev
end
section
namespace Go.Pev
open Go.Proofs
noncomputable section
abbrev Ez:Hints:={ loop:=fun n=>match n with|0=>Ab 1 178 ASS ASN ASI|1=>Ab 1 178 ASR ASM ASG|2=>Ab 1 178 ASQ ASL ASE|3=>Ab 1 178 ASP ASK ASC|4=>Ab 1 178 ASO ASJ ASA|_=>fun _ _ _=>none,fp:=fun n=>match n with|3=>[[],[],[],[],[],[],[],[0],[0],[],[],[0],[0],[],[],[]]|5=>[[],[],[],[],[],[],[],[0],[0],[],[],[0],[0],[],[],[],[]]|18=>[[],[],[],[],[],[],[0],[0],[],[],[0],[0],[0],[1],[0],[1]]|13=>[[],[],[],[],[],[],[],[0],[0],[],[],[0],[0],[],[],[]]|15=>[[],[],[],[],[],[],[],[0],[0],[],[],[0],[0],[],[],[],[]]|21=>[[],[],[],[],[],[],[0],[0],[],[],[0],[0],[0],[1],[0],[1]]|10=>[[],[],[],[],[],[],[0],[0],[],[],[0],[0],[0],[1],[0],[1]]|8=>[[],[],[],[],[],[],[0],[0],[],[],[0],[0],[0],[1],[0],[1]]|1=>[[],[],[],[],[],[],[0],[0],[],[],[0],[0],[0],[1],[0],[1]]|_=>[] }
theorem AR9:∀ v,ASA v=roundOf Tryz.prog Eo Ez 5 1 178 (AB Tryz.f99 4) ASO ASJ v:=by
 rintro⟨a0,a1,a2,a3,⟨⟩⟩
 kernel_rfl
theorem Ait:AD (AB Tryz.f99 4) 5=[]:=by kernel_rfl
theorem Aiy:Aa Tryz.prog 1 (.loop (AB Tryz.f99 4)) (Ez.loop 4):=AT C2 (AR9) (AA Ait trivial)
theorem ASB:∀ v,ASC v=roundOf Tryz.prog Eo Ez 4 1 178 (AB Tryz.f99 3) ASP ASK v:=by
 rintro⟨a0,a1,a2,a3,⟨⟩⟩
 kernel_rfl
theorem Aiu:AD (AB Tryz.f99 3) 4=[]:=by kernel_rfl
theorem Aiz:Aa Tryz.prog 1 (.loop (AB Tryz.f99 3)) (Ez.loop 3):=AT C2 (ASB) (AA Aiu trivial)
theorem ASD:∀ v,ASE v=roundOf Tryz.prog Eo Ez 3 1 178 (AB Tryz.f99 2) ASQ ASL v:=by
 rintro⟨a0,a1,a2,a3,⟨⟩⟩
 kernel_rfl
theorem Aiv:AD (AB Tryz.f99 2) 3=[(3,AB Tryz.f99 3),(4,AB Tryz.f99 4)]:=by kernel_rfl
theorem Ai0:Aa Tryz.prog 1 (.loop (AB Tryz.f99 2)) (Ez.loop 2):=AT C2 (ASD) (AA Aiv ⟨Aiz,Aiy,trivial⟩)
theorem ASF:∀ v,ASG v=roundOf Tryz.prog Eo Ez 2 1 178 (AB Tryz.f99 1) ASR ASM v:=by
 rintro⟨a0,a1,a2,a3,⟨⟩⟩
 kernel_rfl
theorem Aiw:AD (AB Tryz.f99 1) 2=[]:=by kernel_rfl
theorem Ai1:Aa Tryz.prog 1 (.loop (AB Tryz.f99 1)) (Ez.loop 1):=AT C2 (ASF) (AA Aiw trivial)
theorem ASH:∀ v,ASI v=roundOf Tryz.prog Eo Ez 1 1 178 (AB Tryz.f99 0) ASS ASN v:=by
 rintro⟨a0,a1,a2,a3,⟨⟩⟩
 kernel_rfl
theorem Aix:AD (AB Tryz.f99 0) 1=[]:=by kernel_rfl
theorem Ai2:Aa Tryz.prog 1 (.loop (AB Tryz.f99 0)) (Ez.loop 0):=AT C2 (ASH) (AA Aix trivial)
theorem Ad1:∀ v,Aa6 v=AK 1 Tryz.prog Eo Ez Tryz.f99 AMR AMQ AMP v:=by
 rintro⟨a0,a1,a2,a3,⟨⟩⟩
 kernel_rfl
theorem AmW:AD (AQ Tryz.f99) 0=[(0,AB Tryz.f99 0),(1,AB Tryz.f99 1),(2,AB Tryz.f99 2)]:=by kernel_rfl
theorem AXZ:AO Tryz.prog 99 (AF 1 5 AMR AMQ AMP Ai4):=AH C2 Tryz.func99 (by kernel_rfl) (by kernel_rfl) rfl (fun v=>(Ai3 v).trans (Ad1 v)) (AA AmW ⟨Ai2,Ai1,Ai0,trivial⟩)
def APB:Env:=Eo.CE 99 4 64 (AF 1 5 AMR AMQ AMP Ai4)
theorem AGJ:AX Tryz.prog APB:=Env.Aw C2 AXZ (AG rfl rfl)
abbrev AXE(self:(List (Int×Int×Unit)×Int×Int×Int×Unit)→Option ((List (Int×Int×Unit)×Unit))):Hints:={ loop:=fun n=>match n with|0=>Ab 1 148 Aa4 Aa3 (Aa2 self)|_=>fun _ _ _=>none,fp:=fun n=>match n with|17=>[[],[],[],[],[],[],[],[0],[0],[],[],[0],[0],[],[],[],[]]|_=>[] }
abbrev AMD(self:(List (Int×Int×Unit)×Int×Int×Int×Unit)→Option ((List (Int×Int×Unit)×Unit))):Env:=APB.ext 80 false true (AF 1 5 ACf ACe ACd self)
theorem AXD(self:(List (Int×Int×Unit)×Int×Int×Int×Unit)→Option ((List (Int×Int×Unit)×Unit))):∀ v,Aa2 self v=roundOf Tryz.prog (AMD self) (AXE self) 1 1 148 (AB Tryz.f80 0) Aa4 Aa3 v:=by
 rintro⟨a0,a1,a2,a3,a4,a5,⟨⟩⟩
 kernel_rfl
theorem AmR:AD (AB Tryz.f80 0) 1=[]:=by kernel_rfl
theorem AmS(self:(List (Int×Int×Unit)×Int×Int×Int×Unit)→Option ((List (Int×Int×Unit)×Unit)))(hE:AX Tryz.prog (AMD self)):Aa Tryz.prog 1 (.loop (AB Tryz.f80 0)) ((AXE self).loop 0):=AT hE (AXD self) (AA AmR trivial)
theorem Aif(self:(List (Int×Int×Unit)×Int×Int×Int×Unit)→Option ((List (Int×Int×Unit)×Unit))):∀ v,AoY self v=AK 1 Tryz.prog (AMD self) (AXE self) Tryz.f80 ACf ACe ACd v:=by
 rintro⟨a0,a1,a2,a3,⟨⟩⟩
 kernel_rfl
theorem AoX:AD (AQ Tryz.f80) 0=[(0,AB Tryz.f80 0)]:=by kernel_rfl
theorem AXF:∀ n,AO Tryz.prog 80 (AF 1 5 ACf ACe ACd (ACg n)):=by
 intro n
 induction n with
 |zero=>exact X4 fun _=>rfl
 |succ n ih=>
  have hE:AX Tryz.prog (AMD (ACg n)):=Env.AZ AGJ ih ((by simp)) (fun _=>AG rfl rfl)
  let self:=ACg n
  exact AH hE Tryz.func80 (by kernel_rfl) (by kernel_rfl) rfl (Aif self) (AA AoX ⟨(AmS self hE),trivial⟩)
theorem Adw:AO Tryz.prog 80 (AF 1 5 ACf ACe ACd AmU):=by
 have e:AmU=ACg 100:=funext AmT
 rw[e]
 exact AXF _
def AaO:Env:=APB.CE 80 4 64 (AF 1 5 ACf ACe ACd AmU)
theorem AJ9:AX Tryz.prog AaO:=Env.Aw AGJ Adw (AG rfl rfl)
abbrev Alz:Hints:={  }
theorem Acw:∀ v,Aaj v=AK 1 Tryz.prog AaO Alz Tryz.f63 ALK ALJ ALI v:=by
 rintro⟨a0,⟨⟩⟩
 kernel_rfl
theorem Aly:AD (AQ Tryz.f63) 0=[]:=by kernel_rfl
theorem AVz:AO Tryz.prog 63 (AF 1 2 ALK ALJ ALI AQE):=AH AJ9 Tryz.func63 (by kernel_rfl) (by kernel_rfl) rfl (fun v=>(AhU v).trans (Acw v)) (AA Aly trivial)
def Sd:Env:=AaO.CE 63 1 64 (AF 1 2 ALK ALJ ALI AQE)
theorem La:AX Tryz.prog Sd:=Env.Aw AJ9 AVz (AG rfl rfl)
abbrev AD2:Hints:={ loop:=fun n=>match n with|0=>Ab 0 74 Abj Abh Ik|1=>Ab 0 74 Abi Abg Ij|_=>fun _ _ _=>none }
theorem AYh:∀ v,Ij v=roundOf Tryz.prog Sd AD2 2 0 74 (AB Tryz.f33 1) Abi Abg v:=by
 rintro⟨a0,a1,a2,a3,a4,a5,a6,⟨⟩⟩
 kernel_rfl
theorem AnB:AD (AB Tryz.f33 1) 2=[]:=by kernel_rfl
theorem AnD:Aa Tryz.prog 0 (.loop (AB Tryz.f33 1)) (AD2.loop 1):=AT La (AYh) (AA AnB trivial)
theorem AYi:∀ v,Ik v=roundOf Tryz.prog Sd AD2 1 0 74 (AB Tryz.f33 0) Abj Abh v:=by
 rintro⟨a0,a1,a2,a3,a4,a5,a6,⟨⟩⟩
 kernel_rfl
theorem AnC:AD (AB Tryz.f33 0) 1=[]:=by kernel_rfl
theorem AnE:Aa Tryz.prog 0 (.loop (AB Tryz.f33 0)) (AD2.loop 0):=AT La (AYi) (AA AnC trivial)
theorem AkA:∀ v,ANP v=AK 0 Tryz.prog Sd AD2 Tryz.f33 AYl AYk AYj v:=by
 rintro⟨a0,a1,⟨⟩⟩
 kernel_rfl
theorem Aop:AD (AQ Tryz.f33) 0=[(0,AB Tryz.f33 0),(1,AB Tryz.f33 1)]:=by kernel_rfl
theorem AfC:AO Tryz.prog 33 (AF 0 2 AYl AYk AYj AkB):=AH La Tryz.func33 (by kernel_rfl) (by kernel_rfl) rfl (fun v=>(Abk v).trans (AkA v)) (AA Aop ⟨AnE,AnD,trivial⟩)
def AaT:Env:=Sd.ext 33 true true (AF 0 2 AYl AYk AYj AkB)
theorem AKE:AX Tryz.prog AaT:=Env.AZ La AfC (fun _=>AI rfl rfl) (fun _=>AG rfl rfl)
abbrev Ala:Hints:={  }
theorem AcI:∀ v,ZS v=AK 0 Tryz.prog AaT Ala Tryz.f51 AKW AKV AKU v:=by
 rintro⟨a0,⟨⟩⟩
 kernel_rfl
theorem AlZ:AD (AQ Tryz.f51) 0=[]:=by kernel_rfl
theorem AVG:AO Tryz.prog 51 (AF 0 1 AKW AKV AKU XQ):=AH AKE Tryz.func51 (by kernel_rfl) (by kernel_rfl) rfl (fun v=>(APW v).trans (AcI v)) (AA AlZ trivial)
def AO3:Env:=AaT.ext 51 true true (AF 0 1 AKW AKV AKU XQ)
theorem AF1:AX Tryz.prog AO3:=Env.AZ AKE AVG (fun _=>AI rfl rfl) (fun _=>AG rfl rfl)
abbrev Agl:Hints:={  }
theorem AVD:∀ v,Qe v=AK 0 Tryz.prog AO3 Agl Tryz.f54 AAD AAC AAB v:=by
 rintro⟨a0,⟨⟩⟩
 kernel_rfl
theorem Agk:AD (AQ Tryz.f54) 0=[]:=by kernel_rfl
theorem APT:AO Tryz.prog 54 (AF 0 1 AAD AAC AAB AAE):=AH AF1 Tryz.func54 (by kernel_rfl) (by kernel_rfl) rfl (fun v=>(AHw v).trans (AVD v)) (AA Agk trivial)
def AFz:Env:=AO3.ext 54 true true (AF 0 1 AAD AAC AAB AAE)
theorem YW:AX Tryz.prog AFz:=Env.AZ AF1 APT (fun _=>AI rfl rfl) (fun _=>AG rfl rfl)
theorem AcD:Tryz.f50.body.isSome=true:=by kernel_rfl
theorem AcC : (Tryz.f50.name == "runtime.NumGoroutine") = false := by kernel_rfl
theorem AcB:loops (AQ Tryz.f50)=0:=by kernel_rfl
theorem AcA:Tryz.f53.body.isSome=true:=by kernel_rfl
theorem Ab9 : (Tryz.f53.name == "runtime.NumGoroutine") = false := by kernel_rfl
theorem Ab8:loops (AQ Tryz.f53)=0:=by kernel_rfl
def Iy:Env:=AFz.ext 50 false false (Cl Tryz.prog AFz {} Tryz.f50)
theorem IB:AX Tryz.prog Iy:=Env.AZ YW (CX YW Tryz.func50 AcD AcC AcB) (by simp) (by simp)
abbrev Kx:Hints:={ loop:=fun n=>match n with|0=>Ab 0 19 On Om Ce|_=>fun _ _ _=>none }
theorem VV:∀ v,Ce v=roundOf Tryz.prog Iy Kx 1 0 19 (AB Tryz.f76 0) On Om v:=by
 rintro⟨a0,a1,a2,⟨⟩⟩
 kernel_rfl
theorem AHJ:AD (AB Tryz.f76 0) 1=[]:=by kernel_rfl
theorem AHK:Aa Tryz.prog 0 (.loop (AB Tryz.f76 0)) (Kx.loop 0):=AT IB (VV) (AA AHJ trivial)
theorem ADy:∀ v,G9 v=AK 0 Tryz.prog Iy Kx Tryz.f76 Kw Kv Ku v:=by
 rintro⟨a0,⟨⟩⟩
 kernel_rfl
theorem AM8:AD (AQ Tryz.f76) 0=[(0,AB Tryz.f76 0)]:=by kernel_rfl
theorem Y4:AO Tryz.prog 76 (AF 0 2 Kw Kv Ku Ky):=AH IB Tryz.func76 (by kernel_rfl) (by kernel_rfl) rfl (fun v=>(Oo v).trans (ADy v)) (AA AM8 ⟨AHK,trivial⟩)
def Li:Env:=Iy.CE 76 1 50 (AF 0 2 Kw Kv Ku Ky)
theorem L5:AX Tryz.prog Li:=Env.Aw IB Y4 (AG rfl rfl)
abbrev AHe:Hints:={  }
theorem ZD:∀ v,GX v=AK 0 Tryz.prog Li AHe Tryz.f52 JM JL JK v:=by
 rintro⟨a0,⟨⟩⟩
 kernel_rfl
theorem AHd:AD (AQ Tryz.f52) 0=[]:=by kernel_rfl
theorem WV:AO Tryz.prog 52 (AF 0 2 JM JL JK DX):=AH L5 Tryz.func52 (by kernel_rfl) (by kernel_rfl) rfl (fun v=>(M6 v).trans (ZD v)) (AA AHd trivial)
def JV:Env:=Li.CE 52 1 50 (AF 0 2 JM JL JK DX)
theorem KJ:AX Tryz.prog JV:=Env.Aw L5 WV (AG rfl rfl)
def Ix:Env:=JV.ext 53 false false (Cl Tryz.prog JV {} Tryz.f53)
theorem IA:AX Tryz.prog Ix:=Env.AZ KJ (CX KJ Tryz.func53 AcA Ab9 Ab8) (by simp) (by simp)
abbrev K7:Hints:={ loop:=fun n=>match n with|0=>Ab 0 19 Ow Ov Cf|_=>fun _ _ _=>none }
theorem VX:∀ v,Cf v=roundOf Tryz.prog Ix K7 1 0 19 (AB Tryz.f77 0) Ow Ov v:=by
 rintro⟨a0,a1,a2,⟨⟩⟩
 kernel_rfl
theorem AHN:AD (AB Tryz.f77 0) 1=[]:=by kernel_rfl
theorem AHO:Aa Tryz.prog 0 (.loop (AB Tryz.f77 0)) (K7.loop 0):=AT IA (VX) (AA AHN trivial)
theorem AD0:∀ v,HB v=AK 0 Tryz.prog Ix K7 Tryz.f77 K6 K5 K4 v:=by
 rintro⟨a0,⟨⟩⟩
 kernel_rfl
theorem ANA:AD (AQ Tryz.f77) 0=[(0,AB Tryz.f77 0)]:=by kernel_rfl
theorem Y6:AO Tryz.prog 77 (AF 0 2 K6 K5 K4 K8):=AH IA Tryz.func77 (by kernel_rfl) (by kernel_rfl) rfl (fun v=>(Ox v).trans (AD0 v)) (AA ANA ⟨AHO,trivial⟩)
def Lj:Env:=Ix.CE 77 1 53 (AF 0 2 K6 K5 K4 K8)
theorem L6:AX Tryz.prog Lj:=Env.Aw IA Y6 (AG rfl rfl)
abbrev AHg:Hints:={  }
theorem ZE:∀ v,GY v=AK 0 Tryz.prog Lj AHg Tryz.f55 JP JO JN v:=by
 rintro⟨a0,⟨⟩⟩
 kernel_rfl
theorem AHf:AD (AQ Tryz.f55) 0=[]:=by kernel_rfl
theorem WW:AO Tryz.prog 55 (AF 0 2 JP JO JN Gk):=AH L6 Tryz.func55 (by kernel_rfl) (by kernel_rfl) rfl (fun v=>(M7 v).trans (ZE v)) (AA AHf trivial)
def JW:Env:=Lj.CE 55 1 53 (AF 0 2 JP JO JN Gk)
theorem KK:AX Tryz.prog JW:=Env.Aw L6 WW (AG rfl rfl)
end
end Go.Pev
end
section
namespace Go.Pev
open Go.Proofs
noncomputable section
abbrev Agj:Hints:={  }
theorem AVB:∀ v,Qd v=AK 0 Tryz.prog JW Agj Tryz.f28 Z9 Z8 Z7 v:=by
 rintro⟨a0,⟨⟩⟩
 kernel_rfl
theorem Agi:AD (AQ Tryz.f28) 0=[]:=by kernel_rfl
theorem APS:AO Tryz.prog 28 (AF 0 1 Z9 Z8 Z7 AAA):=AH KK Tryz.func28 (by kernel_rfl) (by kernel_rfl) rfl (fun v=>(AHv v).trans (AVB v)) (AA Agi trivial)
def SR:Env:=JW.ext 28 true true (AF 0 1 Z9 Z8 Z7 AAA)
theorem NJ:AX Tryz.prog SR:=Env.AZ KK APS (fun _=>AI rfl rfl) (fun _=>AG rfl rfl)
abbrev AEP:Hints:={ loop:=fun n=>match n with|0=>Ab 0 26 AJR AJQ Vs|_=>fun _ _ _=>none,fp:=fun n=>match n with|6=>[[],[],[],[],[],[],[],[],[]]|_=>[] }
theorem ANc:∀ v,Vs v=roundOf Tryz.prog SR AEP 1 0 26 (AB Tryz.f69 0) AJR AJQ v:=by
 rintro⟨a0,a1,a2,a3,⟨⟩⟩
 kernel_rfl
theorem AfQ:AD (AB Tryz.f69 0) 1=[]:=by kernel_rfl
theorem AfR:Aa Tryz.prog 0 (.loop (AB Tryz.f69 0)) (AEP.loop 0):=AT NJ (ANc) (AA AfQ trivial)
theorem AYz:∀ v,AEQ v=AK 0 Tryz.prog SR AEP Tryz.f69 AEO AEN AEM v:=by
 rintro⟨a0,a1,⟨⟩⟩
 kernel_rfl
theorem AkT:AD (AQ Tryz.f69) 0=[(0,AB Tryz.f69 0)]:=by kernel_rfl
theorem ATV:AO Tryz.prog 69 (AF 0 2 AEO AEN AEM ANd):=AH NJ Tryz.func69 (by kernel_rfl) (by kernel_rfl) rfl (fun v=>(AfS v).trans (AYz v)) (AA AkT ⟨AfR,trivial⟩)
def S0:Env:=SR.ext 69 true true (AF 0 2 AEO AEN AEM ANd)
theorem NW:AX Tryz.prog S0:=Env.AZ NJ ATV (fun _=>AI rfl rfl) (fun _=>AG rfl rfl)
abbrev AEU:Hints:={ loop:=fun n=>match n with|0=>Ab 0 26 AJT AJS Vt|_=>fun _ _ _=>none,fp:=fun n=>match n with|6=>[[],[],[],[],[],[],[],[],[]]|_=>[] }
theorem ANe:∀ v,Vt v=roundOf Tryz.prog S0 AEU 1 0 26 (AB Tryz.f70 0) AJT AJS v:=by
 rintro⟨a0,a1,a2,a3,⟨⟩⟩
 kernel_rfl
theorem AfT:AD (AB Tryz.f70 0) 1=[]:=by kernel_rfl
theorem AfU:Aa Tryz.prog 0 (.loop (AB Tryz.f70 0)) (AEU.loop 0):=AT NW (ANe) (AA AfT trivial)
theorem AY0:∀ v,AEV v=AK 0 Tryz.prog S0 AEU Tryz.f70 AET AES AER v:=by
 rintro⟨a0,a1,⟨⟩⟩
 kernel_rfl
theorem AkU:AD (AQ Tryz.f70) 0=[(0,AB Tryz.f70 0)]:=by kernel_rfl
theorem ATW:AO Tryz.prog 70 (AF 0 2 AET AES AER equalA):=AH NW Tryz.func70 (by kernel_rfl) (by kernel_rfl) rfl (fun v=>(AfV v).trans (AY0 v)) (AA AkU ⟨AfU,trivial⟩)
def AGQ:Env:=S0.ext 70 true true (AF 0 2 AET AES AER equalA)
theorem Ym:AX Tryz.prog AGQ:=Env.AZ NW ATW (fun _=>AI rfl rfl) (fun _=>AG rfl rfl)
abbrev AlW:Hints:={  }
theorem Ab7:∀ v,AKP v=AK 0 Tryz.prog AGQ AlW Tryz.f37 AKO AKN AKM v:=by
 rintro⟨a0,a1,⟨⟩⟩
 kernel_rfl
theorem AlV:AD (AQ Tryz.f37) 0=[]:=by kernel_rfl
theorem AVA:AO Tryz.prog 37 (AF 0 2 AKO AKN AKM AaW):=AH Ym Tryz.func37 (by kernel_rfl) (by kernel_rfl) rfl (fun v=>(Agh v).trans (Ab7 v)) (AA AlV trivial)
def AO1:Env:=AGQ.ext 37 true true (AF 0 2 AKO AKN AKM AaW)
theorem AFy:AX Tryz.prog AO1:=Env.AZ Ym AVA (fun _=>AI rfl rfl) (fun _=>AG rfl rfl)
abbrev AlF:Hints:={  }
theorem AaF:∀ v,SK v=AK 0 Tryz.prog AO1 AlF Tryz.f36 AFq AFp AFo v:=by
 rintro⟨a0,⟨⟩⟩
 kernel_rfl
theorem AlE:AD (AQ Tryz.f36) 0=[]:=by kernel_rfl
theorem AUr:AO Tryz.prog 36 (AF 0 1 AFq AFp AFo AFr):=AH AFy Tryz.func36 (by kernel_rfl) (by kernel_rfl) rfl (fun v=>(AJ1 v).trans (AaF v)) (AA AlE trivial)
def Na:Env:=AO1.ext 36 true true (AF 0 1 AFq AFp AFo AFr)
theorem I8:AX Tryz.prog Na:=Env.AZ AFy AUr (fun _=>AI rfl rfl) (fun _=>AG rfl rfl)
abbrev SH:Hints:={ loop:=fun n=>match n with|0=>Ab 0 36 AUk AUi H3|1=>Ab 0 36 AUj AUh H0|_=>fun _ _ _=>none }
theorem AUf:∀ v,H0 v=roundOf Tryz.prog Na SH 2 0 36 (AB Tryz.f14 1) AUj AUh v:=by
 rintro⟨a0,a1,a2,a3,⟨⟩⟩
 kernel_rfl
theorem Ak9:AD (AB Tryz.f14 1) 2=[]:=by kernel_rfl
theorem AlB:Aa Tryz.prog 0 (.loop (AB Tryz.f14 1)) (SH.loop 1):=AT I8 (AUf) (AA Ak9 trivial)
theorem AUg:∀ v,H3 v=roundOf Tryz.prog Na SH 1 0 36 (AB Tryz.f14 0) AUk AUi v:=by
 rintro⟨a0,a1,a2,a3,a4,a5,a6,⟨⟩⟩
 kernel_rfl
theorem AlA:AD (AB Tryz.f14 0) 1=[]:=by kernel_rfl
theorem AlC:Aa Tryz.prog 0 (.loop (AB Tryz.f14 0)) (SH.loop 0):=AT I8 (AUg) (AA AlA trivial)
theorem AgV:∀ v,Zu v=AK 0 Tryz.prog Na SH Tryz.f14 AOh AOg AOf v:=by
 rintro⟨a0,⟨⟩⟩
 kernel_rfl
theorem Ani:AD (AQ Tryz.f14) 0=[(0,AB Tryz.f14 0),(1,AB Tryz.f14 1)]:=by kernel_rfl
theorem AaA:AO Tryz.prog 14 (AF 0 1 AOh AOg AOf AFm):=AH I8 Tryz.func14 (by kernel_rfl) (by kernel_rfl) rfl (fun v=>(AUl v).trans (AgV v)) (AA Ani ⟨AlC,AlB,trivial⟩)
def APL:Env:=Na.ext 14 true true (AF 0 1 AOh AOg AOf AFm)
theorem AGa:AX Tryz.prog APL:=Env.AZ I8 AaA (fun _=>AI rfl rfl) (fun _=>AG rfl rfl)
abbrev Anq:Hints:={  }
theorem Aga:∀ v,Zw v=AK 0 Tryz.prog APL Anq Tryz.f16 AOs AOr AOq v:=by
 rintro⟨a0,⟨⟩⟩
 kernel_rfl
theorem Anp:AD (AQ Tryz.f16) 0=[]:=by kernel_rfl
theorem AaD:AO Tryz.prog 16 (AF 0 1 AOs AOr AOq AJ0):=AH AGa Tryz.func16 (by kernel_rfl) (by kernel_rfl) rfl (fun v=>(AUn v).trans (Aga v)) (AA Anp trivial)
def APO:Env:=APL.ext 16 true true (AF 0 1 AOs AOr AOq AJ0)
theorem AGd:AX Tryz.prog APO:=Env.AZ AGa AaD (fun _=>AI rfl rfl) (fun _=>AG rfl rfl)
abbrev Anm:Hints:={  }
theorem AgX:∀ v,AOo v=AK 0 Tryz.prog APO Anm Tryz.f18 AOn AOm AOl v:=by
 rintro⟨a0,a1,⟨⟩⟩
 kernel_rfl
theorem Anl:AD (AQ Tryz.f18) 0=[]:=by kernel_rfl
theorem AaC:AO Tryz.prog 18 (AF 0 2 AOn AOm AOl Abz):=AH AGd Tryz.func18 (by kernel_rfl) (by kernel_rfl) rfl (fun v=>(AlD v).trans (AgX v)) (AA Anl trivial)
def APN:Env:=APO.ext 18 true true (AF 0 2 AOn AOm AOl Abz)
theorem AGc:AX Tryz.prog APN:=Env.AZ AGd AaC (fun _=>AI rfl rfl) (fun _=>AG rfl rfl)
abbrev AnR:Hints:={  }
theorem Afk:∀ v,Zo v=AK 0 Tryz.prog APN AnR Tryz.f78 ANv ANu ANt v:=by
 rintro⟨a0,⟨⟩⟩
 kernel_rfl
theorem AnQ:AD (AQ Tryz.f78) 0=[]:=by kernel_rfl
theorem AZP:AO Tryz.prog 78 (AF 0 1 ANv ANu ANt AJc):=AH AGc Tryz.func78 (by kernel_rfl) (by kernel_rfl) rfl (fun v=>(ATn v).trans (Afk v)) (AA AnQ trivial)
def APG:Env:=APN.ext 78 true true (AF 0 1 ANv ANu ANt AJc)
theorem AGR:AX Tryz.prog APG:=Env.AZ AGc AZP (fun _=>AI rfl rfl) (fun _=>AG rfl rfl)
abbrev Aov:Hints:={  }
theorem Akd:∀ v,ANq v=AK 0 Tryz.prog APG Aov Tryz.f57 AZM AZL AZK v:=by
 rintro⟨a0,⟨⟩⟩
 kernel_rfl
theorem Aou:AD (AQ Tryz.f57) 0=[]:=by kernel_rfl
theorem Afi:AO Tryz.prog 57 (AF 0 1 AZM AZL AZK Ake):=AH AGR Tryz.func57 (by kernel_rfl) (by kernel_rfl) rfl (fun v=>(Abs v).trans (Akd v)) (AA Aou trivial)
def AaU:Env:=APG.ext 57 true true (AF 0 1 AZM AZL AZK Ake)
theorem AKF:AX Tryz.prog AaU:=Env.AZ AGR Afi (fun _=>AI rfl rfl) (fun _=>AG rfl rfl)
abbrev AnT:Hints:={  }
theorem Afs:∀ v,Zp v=AK 0 Tryz.prog AaU AnT Tryz.f59 AN2 AN1 AN0 v:=by
 rintro⟨a0,⟨⟩⟩
 kernel_rfl
theorem AnS:AD (AQ Tryz.f59) 0=[]:=by kernel_rfl
theorem AZV:AO Tryz.prog 59 (AF 0 1 AN2 AN1 AN0 ATs):=AH AKF Tryz.func59 (by kernel_rfl) (by kernel_rfl) rfl (fun v=>(ATr v).trans (Afs v)) (AA AnS trivial)
def Z4:Env:=AaU.ext 59 true true (AF 0 1 AN2 AN1 AN0 ATs)
theorem QZ:AX Tryz.prog Z4:=Env.AZ AKF AZV (fun _=>AI rfl rfl) (fun _=>AG rfl rfl)
abbrev WL:Hints:={ loop:=fun n=>match n with|0=>Ab 0 32 AEt AEs ES|_=>fun _ _ _=>none }
theorem AHX:∀ v,ES v=roundOf Tryz.prog Z4 WL 1 0 32 (AB Tryz.f91 0) AEt AEs v:=by
 rintro⟨a0,a1,a2,a3,a4,⟨⟩⟩
 kernel_rfl
theorem AZQ:AD (AB Tryz.f91 0) 1=[]:=by kernel_rfl
theorem AZR:Aa Tryz.prog 0 (.loop (AB Tryz.f91 0)) (WL.loop 0):=AT QZ (AHX) (AA AZQ trivial)
theorem ATp:∀ v,N8 v=AK 0 Tryz.prog Z4 WL Tryz.f91 WK WJ WI v:=by
 rintro⟨a0,⟨⟩⟩
 kernel_rfl
theorem Afl:AD (AQ Tryz.f91) 0=[(0,AB Tryz.f91 0)]:=by kernel_rfl
theorem ANw:AO Tryz.prog 91 (AF 0 1 WK WJ WI Rw):=AH QZ Tryz.func91 (by kernel_rfl) (by kernel_rfl) rfl (fun v=>(AEu v).trans (ATp v)) (AA Afl ⟨AZR,trivial⟩)
def XL:Env:=Z4.ext 91 true true (AF 0 1 WK WJ WI Rw)
theorem S6:AX Tryz.prog XL:=Env.AZ QZ ANw (fun _=>AI rfl rfl) (fun _=>AG rfl rfl)
end
end Go.Pev
end
section
namespace Go.Pev
open Go.Proofs
noncomputable section
abbrev AdN:Hints:={  }
theorem AQl:∀ v,Je v=AK 0 Tryz.prog XL AdN Tryz.f110 T1 Tz Tx v:=by
 rintro⟨a0,⟨⟩⟩
 kernel_rfl
theorem AdM:AD (AQ Tryz.f110) 0=[]:=by kernel_rfl
theorem ALk:AO Tryz.prog 110 (AF 0 1 T1 Tz Tx KV):=AH S6 Tryz.func110 (by kernel_rfl) (by kernel_rfl) rfl (fun v=>(PU v).trans (AQl v)) (AA AdM trivial)
def W5:Env:=XL.ext 110 true true (AF 0 1 T1 Tz Tx KV)
theorem Sh:AX Tryz.prog W5:=Env.AZ S6 ALk (fun _=>AI rfl rfl) (fun _=>AG rfl rfl)
abbrev Ahn:Hints:={  }
theorem AWD:∀ v,Qz v=AK 0 Tryz.prog W5 Ahn Tryz.f153 ABX ABW ABV v:=by
 rintro⟨a0,a1,⟨⟩⟩
 kernel_rfl
theorem Ahm:AD (AQ Tryz.f153) 0=[]:=by kernel_rfl
theorem AQa:AO Tryz.prog 153 (AF 0 2 ABX ABW ABV ABY):=AH Sh Tryz.func153 (by kernel_rfl) (by kernel_rfl) rfl (fun v=>(AIW v).trans (AWD v)) (AA Ahm trivial)
def AGC:Env:=W5.ext 153 true true (AF 0 2 ABX ABW ABV ABY)
theorem Ye:AX Tryz.prog AGC:=Env.AZ Sh AQa (fun _=>AI rfl rfl) (fun _=>AG rfl rfl)
abbrev Ah8:Hints:={  }
theorem AWl:∀ v,Q8 v=AK 0 Tryz.prog AGC Ah8 Tryz.f138 AB2 AB1 AB0 v:=by
 rintro⟨a0,a1,a2,⟨⟩⟩
 kernel_rfl
theorem Ah7:AD (AQ Tryz.f138) 0=[]:=by kernel_rfl
theorem AQ5:AO Tryz.prog 138 (AF 0 3 AB2 AB1 AB0 PW):=AH Ye Tryz.func138 (by kernel_rfl) (by kernel_rfl) rfl (fun v=>(AIc v).trans (AWl v)) (AA Ah7 trivial)
def Si:Env:=AGC.ext 138 true true (AF 0 3 AB2 AB1 AB0 PW)
theorem NN:AX Tryz.prog Si:=Env.AZ Ye AQ5 (fun _=>AI rfl rfl) (fun _=>AG rfl rfl)
abbrev ALo:Hints:={ loop:=fun n=>match n with|0=>Ab 0 37 AQs AQr Hd|_=>fun _ _ _=>none }
theorem AQq:∀ v,Hd v=roundOf Tryz.prog Si ALo 1 0 37 (AB Tryz.f113 0) AQs AQr v:=by
 rintro⟨a0,a1,a2,a3,a4,a5,⟨⟩⟩
 kernel_rfl
theorem Ahx:AD (AB Tryz.f113 0) 1=[]:=by kernel_rfl
theorem Ahy:Aa Tryz.prog 0 (.loop (AB Tryz.f113 0)) (ALo.loop 0):=AT NN (AQq) (AA Ahx trivial)
theorem AdP:∀ v,Za v=AK 0 Tryz.prog Si ALo Tryz.f113 ALn ALm ALl v:=by
 rintro⟨a0,a1,⟨⟩⟩
 kernel_rfl
theorem Al6:AD (AQ Tryz.f113) 0=[(0,AB Tryz.f113 0)]:=by kernel_rfl
theorem AWL:AO Tryz.prog 113 (AF 0 2 ALn ALm ALl AQu):=AH NN Tryz.func113 (by kernel_rfl) (by kernel_rfl) rfl (fun v=>(AQt v).trans (AdP v)) (AA Al6 ⟨Ahy,trivial⟩)
def OK:Env:=Si.ext 113 true true (AF 0 2 ALn ALm ALl AQu)
theorem IE:AX Tryz.prog OK:=Env.AZ NN AWL (fun _=>AI rfl rfl) (fun _=>AG rfl rfl)
abbrev AB3:Hints:={ loop:=fun n=>match n with|0=>Ab 0 91 AiI AiE PZ|1=>Ab 0 91 AiH AiD PY|2=>Ab 0 91 AiG AiC PX|_=>fun _ _ _=>none,fp:=fun n=>match n with|10=>[[],[],[],[0],[0],[],[],[0],[0],[],[0],[1]]|_=>[] }
theorem Ada:∀ v,PX v=roundOf Tryz.prog OK AB3 3 0 91 (AB Tryz.f112 2) AiG AiC v:=by
 rintro⟨a0,a1,a2,a3,a4,a5,a6,a7,⟨⟩⟩
 kernel_rfl
theorem AoN:AD (AB Tryz.f112 2) 3=[]:=by kernel_rfl
theorem AoQ:Aa Tryz.prog 0 (.loop (AB Tryz.f112 2)) (AB3.loop 2):=AT IE (Ada) (AA AoN trivial)
theorem Adb:∀ v,PY v=roundOf Tryz.prog OK AB3 2 0 91 (AB Tryz.f112 1) AiH AiD v:=by
 rintro⟨a0,a1,a2,a3,a4,a5,a6,⟨⟩⟩
 kernel_rfl
theorem AoO:AD (AB Tryz.f112 1) 2=[]:=by kernel_rfl
theorem AoR:Aa Tryz.prog 0 (.loop (AB Tryz.f112 1)) (AB3.loop 1):=AT IE (Adb) (AA AoO trivial)
theorem Adc:∀ v,PZ v=roundOf Tryz.prog OK AB3 1 0 91 (AB Tryz.f112 0) AiI AiE v:=by
 rintro⟨a0,a1,a2,a3,a4,a5,a6,a7,⟨⟩⟩
 kernel_rfl
theorem AoP:AD (AB Tryz.f112 0) 1=[]:=by kernel_rfl
theorem AoS:Aa Tryz.prog 0 (.loop (AB Tryz.f112 0)) (AB3.loop 0):=AT IE (Adc) (AA AoP trivial)
theorem AmI:∀ v,Aau v=AK 0 Tryz.prog OK AB3 Tryz.f112 AiJ AiF AiB v:=by
 rintro⟨a0,a1,a2,a3,⟨⟩⟩
 kernel_rfl
theorem ApA:AD (AQ Tryz.f112) 0=[(0,AB Tryz.f112 0),(1,AB Tryz.f112 1),(2,AB Tryz.f112 2)]:=by kernel_rfl
theorem AiA:AO Tryz.prog 112 (AF 0 4 AiJ AiF AiB rby):=AH IE Tryz.func112 (by kernel_rfl) (by kernel_rfl) rfl (fun v=>(AiK v).trans (AmI v)) (AA ApA ⟨AoS,AoR,AoQ,trivial⟩)
def AlR:Env:=OK.ext 112 true true (AF 0 4 AiJ AiF AiB rby)
theorem AU3:AX Tryz.prog AlR:=Env.AZ IE AiA (fun _=>AI rfl rfl) (fun _=>AG rfl rfl)
abbrev AP5:Hints:={  }
theorem AGj:∀ v,IS v=AK 0 Tryz.prog AlR AP5 Tryz.f196 ML MK MJ v:=by
 rintro⟨a0,a1,⟨⟩⟩
 kernel_rfl
theorem AP4:AD (AQ Tryz.f196) 0=[]:=by kernel_rfl
theorem AAr:AO Tryz.prog 196 (AF 0 2 ML MK MJ HK):=AH AU3 Tryz.func196 (by kernel_rfl) (by kernel_rfl) rfl (fun v=>(Qo v).trans (AGj v)) (AA AP4 trivial)
def I0:Env:=AlR.ext 196 true true (AF 0 2 ML MK MJ HK)
theorem ID:AX Tryz.prog I0:=Env.AZ AU3 AAr (fun _=>AI rfl rfl) (fun _=>AG rfl rfl)
abbrev TV:Hints:={ loop:=fun n=>match n with|0=>Ab 0 72 AAj AAi EF|_=>fun _ _ _=>none }
theorem AGh:∀ v,EF v=roundOf Tryz.prog I0 TV 1 0 72 (AB Tryz.f202 0) AAj AAi v:=by
 rintro⟨a0,a1,a2,a3,a4,a5,⟨⟩⟩
 kernel_rfl
theorem AVV:AD (AB Tryz.f202 0) 1=[]:=by kernel_rfl
theorem AVW:Aa Tryz.prog 0 (.loop (AB Tryz.f202 0)) (TV.loop 0):=AT ID (AGh) (AA AVV trivial)
theorem APz:∀ v,Ng v=AK 0 Tryz.prog I0 TV Tryz.f202 TU TT TS v:=by
 rintro⟨a0,⟨⟩⟩
 kernel_rfl
theorem Acf:AD (AQ Tryz.f202) 0=[(0,AB Tryz.f202 0)]:=by kernel_rfl
theorem AKy:AO Tryz.prog 202 (AF 0 1 TU TT TS Nh):=AH ID Tryz.func202 (by kernel_rfl) (by kernel_rfl) rfl (fun v=>(AAk v).trans (APz v)) (AA Acf ⟨AVW,trivial⟩)
def W1:Env:=I0.ext 202 true true (AF 0 1 TU TT TS Nh)
theorem SY:AX Tryz.prog W1:=Env.AZ ID AKy (fun _=>AI rfl rfl) (fun _=>AG rfl rfl)
abbrev Ace:Hints:={  }
theorem APy:∀ v,Nf v=AK 0 Tryz.prog W1 Ace Tryz.f209 TR TQ TP v:=by
 rintro⟨a0,a1,⟨⟩⟩
 kernel_rfl
theorem Acd:AD (AQ Tryz.f209) 0=[]:=by kernel_rfl
theorem AKx:AO Tryz.prog 209 (AF 0 2 TR TQ TP KR):=AH SY Tryz.func209 (by kernel_rfl) (by kernel_rfl) rfl (fun v=>(AAh v).trans (APy v)) (AA Acd trivial)
def W0:Env:=W1.ext 209 true true (AF 0 2 TR TQ TP KR)
theorem SX:AX Tryz.prog W0:=Env.AZ SY AKx (fun _=>AI rfl rfl) (fun _=>AG rfl rfl)
abbrev Acb:Hints:={  }
theorem APx:∀ v,Nd v=AK 0 Tryz.prog W0 Acb Tryz.f210 TO TN TM v:=by
 rintro⟨a0,⟨⟩⟩
 kernel_rfl
theorem Aca:AD (AQ Tryz.f210) 0=[]:=by kernel_rfl
theorem AKw:AO Tryz.prog 210 (AF 0 1 TO TN TM IQ):=AH SX Tryz.func210 (by kernel_rfl) (by kernel_rfl) rfl (fun v=>(AAg v).trans (APx v)) (AA Aca trivial)
def Wz:Env:=W0.ext 210 true true (AF 0 1 TO TN TM IQ)
theorem SW:AX Tryz.prog Wz:=Env.AZ SX AKw (fun _=>AI rfl rfl) (fun _=>AG rfl rfl)
abbrev Ach:Hints:={ fp:=fun n=>match n with|1=>[[0],[],[],[],[],[0],[0],[],[],[],[],[0],[0],[],[],[]]|_=>[] }
theorem AP1:∀ v,Ni v=AK 0 Tryz.prog Wz Ach Tryz.f205 TY TX TW v:=by
 rintro⟨a0,a1,⟨⟩⟩
 kernel_rfl
theorem Acg:AD (AQ Tryz.f205) 0=[]:=by kernel_rfl
theorem AKz:AO Tryz.prog 205 (AF 0 2 TY TX TW Nj):=AH SW Tryz.func205 (by kernel_rfl) (by kernel_rfl) rfl (fun v=>(AAp v).trans (AP1 v)) (AA Acg trivial)
def W2:Env:=Wz.ext 205 true true (AF 0 2 TY TX TW Nj)
theorem Sa:AX Tryz.prog W2:=Env.AZ SW AKz (fun _=>AI rfl rfl) (fun _=>AG rfl rfl)
abbrev Ack:Hints:={  }
theorem AP7:∀ v,Nk v=AK 0 Tryz.prog W2 Ack Tryz.f189 Tb Ta TZ v:=by
 rintro⟨a0,a1,⟨⟩⟩
 kernel_rfl
theorem Acj:AD (AQ Tryz.f189) 0=[]:=by kernel_rfl
theorem AK3:AO Tryz.prog 189 (AF 0 2 Tb Ta TZ Qp):=AH Sa Tryz.func189 (by kernel_rfl) (by kernel_rfl) rfl (fun v=>(AAs v).trans (AP7 v)) (AA Acj trivial)
def AJ6:Env:=W2.ext 189 true true (AF 0 2 Tb Ta TZ Qp)
theorem AO6:AX Tryz.prog AJ6:=Env.AZ Sa AK3 (fun _=>AI rfl rfl) (fun _=>AG rfl rfl)
theorem Af9 : (Tryz.f211.name == "runtime.NumGoroutine") = false := by kernel_rfl
theorem AHm:Ls Tryz.prog Tryz.f211 171 199 (.prod (.int .i64) (.prod (.int .i64) (.prod (.int .i64) (.prod (.int .i64) .unit)))) where
 body:=by kernel_rfl
 nt:=by kernel_rfl
 res:=by kernel_rfl
 d:=⟨by kernel_rfl,by kernel_rfl,by kernel_rfl,by kernel_rfl,by kernel_rfl,by kernel_rfl,by kernel_rfl,by kernel_rfl⟩
 g:=⟨by kernel_rfl,by kernel_rfl,by kernel_rfl,by kernel_rfl,by kernel_rfl,by kernel_rfl,by kernel_rfl,by kernel_rfl⟩
 o00:=by kernel_rfl
 o10:=by kernel_rfl
 o11:=by kernel_rfl
 o20:=by kernel_rfl
 o30:=by kernel_rfl
 o31:=by kernel_rfl
 o32:=by kernel_rfl
 o33:=by kernel_rfl
 sl:=by kernel_rfl
 z:=by kernel_rfl
 by1:=by kernel_rfl
def AKG:Env:=AJ6.ext 211 true true (El 199 (.prod (.int .i64) (.prod (.int .i64) (.prod (.int .i64) (.prod (.int .i64) .unit)))))
theorem API:AX Tryz.prog AKG:=Env.AZ AO6 (AFI AHm Tryz.func211 Af9) (fun _=>CR _ _) (fun _=>(CR _ _).Alj)
end
end Go.Pev
end
