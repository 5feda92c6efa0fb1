/- A part of the proofs of this seat: T19a AKD T22a T21a T23a T23b T24a PlnC AKE AKF AKG AKH AU24a AU24b AU24c AU24d AU23a AU23b AU23c AU23d AU23e T24b AU24f AU24g AU24h AU24i AU24j AU24k AU24l AU24m AU24n AU21a AU21b ASIa ASIb ASIc ASId ASIe ASIf AU23f AU23g AU23h AU21c BW22v U26i U26j U26k U26l PevClip G26bP1 G26bP2 G26bP3 G26bP4 G26bP5 G26bP6 G26bP7 G26bP8. -/
import Derived.Test.YtfojmhgomdbpfaaGreatPde412a812b
import Derived.KernelRfl
import Derived.Test.YtfojmhgomdbpfaaGreatProg
set_option linter.unusedVariables false
set_option linter.unusedSimpArgs false
set_option linter.unusedSectionVars false
set_option maxRecDepth 100000
section
namespace Go.Pev.Pl
abbrev Edge:=Int×Int×Unit
inductive Con(l:List Edge):Int→Int→Prop
 |refl (a:Int):Con l a a
 |edge (e:Edge):e∈l→Con l e.1 e.2.1
 |symm {a b:Int}:Con l a b→Con l b a
 |trans {a b c:Int}:Con l a b→Con l b c→Con l a c
theorem Con.mono{l l':List Edge}(h:∀ e∈l,∃ e'∈l',(e'.1=e.1∧e'.2.1=e.2.1)∨(e'.1=e.2.1∧e'.2.1=e.1)){a b:Int}(c:Con l a b):Con l' a b:=by
 induction c with
 |refl a=>exact .refl a
 |edge e he=>
  obtain⟨e',h1,h2|h2⟩:=h e he
  ·have:=Con.edge e' h1
   rw[h2.1,h2.2]at this
   exact this
  ·have:=Con.edge e' h1
   rw[h2.1,h2.2]at this
   exact this.symm
 |symm _ ih=>exact ih.symm
 |trans _ _ ih1 ih2=>exact ih1.trans ih2
theorem Con.snoc{l:List Edge}{e:Edge}{a b:Int}:Con (l++[e]) a b↔Con l a b∨(Con l a e.1∧Con l e.2.1 b)∨(Con l a e.2.1∧Con l e.1 b):=by
 constructor
 ·intro h
  induction h with
  |refl a=>exact .inl (.refl a)
  |edge e' he=>
   rcases ArI.1 he with h|h
   ·exact .inl (.edge e' h)
   ·simp only[Arx]at h
    subst h
    exact .inr (.inl ⟨.refl _,.refl _⟩)
  |symm _ ih=>
   rcases ih with h|⟨h1,h2⟩|⟨h1,h2⟩
   ·exact .inl h.symm
   ·exact .inr (.inr ⟨h2.symm,h1.symm⟩)
   ·exact .inr (.inl ⟨h2.symm,h1.symm⟩)
  |trans _ _ ih1 ih2=>
   rcases ih1 with h|⟨h1,h2⟩|⟨h1,h2⟩
   ·rcases ih2 with g|⟨g1,g2⟩|⟨g1,g2⟩
    ·exact .inl (h.trans g)
    ·exact .inr (.inl ⟨h.trans g1,g2⟩)
    ·exact .inr (.inr ⟨h.trans g1,g2⟩)
   ·rcases ih2 with g|⟨g1,g2⟩|⟨g1,g2⟩
    ·exact .inr (.inl ⟨h1,h2.trans g⟩)
    ·exact .inr (.inl ⟨h1,g2⟩)
    ·exact .inl (h1.trans g2)
   ·rcases ih2 with g|⟨g1,g2⟩|⟨g1,g2⟩
    ·exact .inr (.inr ⟨h1,h2.trans g⟩)
    ·exact .inl (h1.trans g2)
    ·exact .inr (.inr ⟨h1,g2⟩)
 ·have up:∀ {x y},Con l x y→Con (l++[e]) x y:=fun h=>h.mono fun e' he=>⟨e',by simp[he],.inl ⟨rfl,rfl⟩⟩
  have he:Con (l++[e]) e.1 e.2.1:=.edge e (by simp)
  rintro (h|⟨h1,h2⟩|⟨h1,h2⟩)
  ·exact up h
  ·exact(up h1).trans (he.trans (up h2))
  ·exact(up h1).trans (he.symm.trans (up h2))
theorem Con.nil{a b:Int}(h:Con [] a b):a=b:=by
 induction h with
 |refl a=>rfl
 |edge e he=>cases he
 |symm _ ih=>exact ih.symm
 |trans _ _ ih1 ih2=>exact ih1.trans ih2
theorem Con.within{l:List Edge}{I:Int→Prop}(h:∀ e∈l,I e.1∧I e.2.1){a b:Int}(c:Con l a b):a=b∨(I a∧I b):=by
 induction c with
 |refl a=>exact .inl rfl
 |edge e he=>exact .inr (h e he)
 |symm _ ih=>
  rcases ih with h|h
  ·exact .inl h.symm
  ·exact .inr ⟨h.2,h.1⟩
 |trans _ _ ih1 ih2=>
  rcases ih1 with rfl|h1
  ·exact ih2
  ·rcases ih2 with rfl|h2
   ·exact .inr h1
   ·exact .inr ⟨h1.1,h2.2⟩
theorem Con.const{l:List Edge}{f:Int→Int}(h:∀ e∈l,f e.1=f e.2.1){a b:Int}(c:Con l a b):f a=f b:=by
 induction c with
 |refl a=>rfl
 |edge e he=>exact h e he
 |symm _ ih=>exact ih.symm
 |trans _ _ ih1 ih2=>exact ih1.trans ih2
end Go.Pev.Pl
end
section
section
namespace Go.Pev.Pl
open Tok
def Cx{α:Type}(P:Nat→Bool):Nat→List α→List α
 |_,[]=>[]
 |i,x::xs=>if P i then Cx P (i+1) xs else x::Cx P (i+1) xs
theorem AUu{α:Type}(P:Nat→Bool):∀ (xs:List α) (s:Nat),(∀ k,s≤k→P k=false)→Cx P s xs=xs:=by
 intro xs
 induction xs with
 |nil=>intro s _;rfl
 |cons x xs ih=>
  intro s h
  rw[Cx,h s (ArP _),ih (s+1) fun k hk=>h k (by omega)]
  rfl
theorem Aag{α:Type}(P:Nat→Bool)(i:Nat):∀ (xs:List α) (s:Nat),s≤i→(∀ k,s≤k→P k=decide (k=i))→Cx P s xs=xs.eraseIdx (i-s):=by
 intro xs
 induction xs with
 |nil=>intro s _ _;rfl
 |cons x xs ih=>
  intro s hs h
  rw[Cx,h s (ArP _)]
  by_cases e:s=i
  ·subst e
   rw[AUu P xs (s+1) fun k hk=>by rw[h k (by omega)];simp;omega]
   simp
  ·rw[ih (s+1) (by omega) fun k hk=>h k (by omega)]
   rw[ArC e,ArM (by simp),show i-s=(i-(s+1))+1 by omega,Ats]
theorem AFL{α:Type}(P:Nat→Bool)(i j:Nat)(hij:i<j):∀ (xs:List α) (s:Nat),s≤i→(∀ k,s≤k→P k=decide (k=i∨k=j))→Cx P s xs=(xs.eraseIdx (j-s)).eraseIdx (i-s):=by
 intro xs
 induction xs with
 |nil=>intro s _ _;rfl
 |cons x xs ih=>
  intro s hs h
  rw[Cx,h s (ArP _)]
  by_cases e:s=i
  ·subst e
   rw[Aag P j xs (s+1) (by omega) fun k hk=>by rw[h k (by omega)];exact AsX.2 ⟨fun q=>by omega,fun q=>.inr q⟩]
   rw[ArD (.inl rfl),ArQ rfl,show j-s=(j-(s+1))+1 by omega,Ats,AtQ,List.eraseIdx_zero]
   rfl
  ·rw[ih (s+1) (by omega) fun k hk=>h k (by omega)]
   rw[ArC (by omega),ArM (by simp),show j-s=(j-(s+1))+1 by omega,Ats,show i-s=(i-(s+1))+1 by omega,Ats]
theorem AUv{α:Type}(P:Nat→Bool):∀ (xs:List α) (acc:List α) (k:Nat),(xs.foldl (fun(a:List α×Nat) x=>(if P a.2 then a.1 else a.1++[x],a.2+1)) (acc,k)).1=acc++Cx P k xs:=by
 intro xs
 induction xs with
 |nil=>intro acc k;simp[Cx]
 |cons x xs ih=>
  intro acc k
  rw[AsC,ih,Cx]
  cases P k<;>simp
theorem Aah{α:Type}(P:Nat→Bool):∀ (xs:List α) (k:Nat),(Cx P k xs).length≤xs.length∧∀ x∈Cx P k xs,x∈xs:=by
 intro xs
 induction xs with
 |nil=>intro k;simp[Cx]
 |cons x xs ih=>
  intro k
  obtain⟨h1,h2⟩:=ih (k+1)
  rw[Cx]
  split
  ·exact⟨by simp only[ArO];omega,fun y hy=>Arn _ (h2 y hy)⟩
  ·refine⟨by simp only[ArO];omega,fun y hy => ?_⟩
   rcases ArK.1 hy with rfl|hy
   ·simp
   ·exact Arn _ (h2 y hy)
theorem Ado(n:Int)(rings:List (List Int))(away:List Int)(come:List (List Int))(hlen:rings.length<1073741824)(ha:away.length<1073741824)(hc:come.length<1073741824)
  (hne:∀ l∈rings,l≠[]) (hce:∀ r∈come,plain r≠[]) :
  ∃ ys,AQe ((n,(rings,())),away,come,())=some (n,ys,())∧ys.Perm (Cx (fun k=>decide ((k:Int)∈away)) 0 rings++come.map plain)∧ys.Pairwise (fun a b=>¬ hd b<hd a):=by
 rw[AQd,Zv]
 have e:=DI (step:=Hb) (fun i (a:List (List Int)×Nat)=>(away,come,n,rings,(0:Int),a.1,rings,AM rings,(i:Int),())) rings
  (fun x a=>.inl (if decide ((a.2:Int)∈away)then a.1 else a.1++[x],a.2+1)) (fun a=>.inl (come,n,rings,(0:Int),a.1,())) (fun i a=>a.2=i∧a.1.length≤i) (by omega)
  (fun i x a hi hx ⟨h1,h2⟩=>by
   refine⟨fun m' h' => ?_,fun r h'=>by cases h'⟩
   cases h'
   subst h1
   rw[Hb,AR,AK,ArD hi]
   simp only[AW hx,JO away _ (show away.length<9223372036854775808 by omega)]
   rw[AN (by omega),Bd (by simp only[AR,ArO,ArZ];omega)]
   by_cases h:(a.2:Int)∈away
   ·simp only[h,Ara,ArN,Ar0]
    exact⟨by trivial,by trivial,by omega⟩
   ·simp only[h,Ar1,Ars]
    exact⟨by trivial,by trivial,by simp;omega⟩)
  (fun a _=>by rw[Hb,AR,AK,ArC (by omega)]) ([],0) ⟨rfl,by simp⟩
 have e':AU Hb many (away,come,n,rings,(0:Int),[],rings,AM rings,(0:Int),())=_:=e
 rw[e',Bi]
 have hdf:(rings.foldl (fun(a:List (List Int)×Nat) x=>(if decide ((a.2:Int)∈away)then a.1 else a.1++[x],a.2+1)) ([],0)).1=Cx (fun k=>decide ((k:Int)∈away)) 0 rings:=by
  have:=AUv (fun k=>decide ((k:Int)∈away)) rings [] 0
  rw[Ary]at this
  exact this
 simp only[hdf]
 obtain⟨g1,g2⟩:=Aah (fun k=>decide ((k:Int)∈away)) rings 0
 generalize Cx (fun k=>decide ((k:Int)∈away)) 0 rings=rest at *
 have f:=DI (step:=Ha) (fun i (a:List (List Int))=>(n,rings,(0:Int),a,come,AM come,(i:Int),())) come
  (fun x a=>.inl (a++[plain x])) (fun a=>.inl (n,rings,(0:Int),a,())) (fun i a=>a.length=rest.length+i) (by omega)
  (fun i x a hi hx h1=>by
   refine⟨fun m' h' => ?_,fun r h'=>by cases h'⟩
   cases h'
   rw[Ha,AR,AK,ArD hi]
   simp only[AW hx,AXX]
   rw[AN (by omega),Bd (by simp only[AR,ArO,ArZ];omega)]
   exact⟨rfl,by simp;omega⟩)
  (fun a _=>by rw[Ha,AR,AK,ArC (by omega)]) rest rfl
 have f':AU Ha many (n,rings,(0:Int),rest,come,AM come,(0:Int),())=_:=f
 rw[f',Bi]
 have hfold:∀ (l acc:List (List Int)),l.foldl (fun a x=>a++[plain x]) acc=acc++l.map plain:=by
  intro l
  induction l with
  |nil=>intro acc;simp
  |cons x l ih=>intro acc;rw[AsC,ih];simp
 simp only[hfold]
 obtain⟨ys,y1,y2,y3⟩:=SL.Jj (rest++come.map plain) (by simp;omega) (fun x hx=>by
  rcases ArI.1 hx with h|h
  ·exact hne x (g2 x h)
  ·obtain⟨r,hr,rfl⟩:=ArT.1 h
   exact hce r hr)
 refine⟨ys,by simp only[y1],y2,y3.imp fun {a b} h => ?_⟩
 simp only[SL.lt,Go.Sort.ltInt,AsI]at h
 exact h
def Ae3(rest:List (List Int))(p:List Int):List (List Int):=rest.take (rest.findIdx fun x => !decide (hd x<hd p))++p::rest.drop (rest.findIdx fun x => !decide (hd x<hd p))
theorem Ae2(rest:List (List Int))(p:List Int):(Ae3 rest p).Perm (p::rest):=by
 rw[Ae3]
 refine List.perm_middle.trans ?_
 rw[AsO]
theorem Anu{rest:List (List Int)}{p:List Int}(h:rest.Pairwise (fun a b=>hd a<hd b))(hne:∀ x∈rest,hd x≠hd p):(Ae3 rest p).Pairwise (fun a b=>hd a<hd b):=by
 rw[Ae3]
 have hlt:∀ x∈rest.take (rest.findIdx fun x => !decide (hd x<hd p)),hd x<hd p:=by
  intro x hx
  obtain⟨j,hj,e⟩:=AuK.1 hx
  have:=List.not_of_lt_findIdx (p:=fun x => !decide (hd x<hd p)) (xs:=rest) (i:=j) (by omega)
  rw[e]at this
  simpa using this
 have hgt:∀ x∈rest.drop (rest.findIdx fun x => !decide (hd x<hd p)),hd p<hd x:=by
  intro x hx
  by_cases hk:(rest.findIdx fun x => !decide (hd x<hd p))<rest.length
  ·have h0:=List.findIdx_getElem (p:=fun x => !decide (hd x<hd p)) (xs:=rest) (w:=hk)
   rw[Ar8 hk]at hx
   have h1:¬ hd rest[rest.findIdx fun x => !decide (hd x<hd p)]<hd p:=by simpa using h0
   have h2:=hne _ (As8 hk)
   rcases ArK.1 hx with rfl|hx
   ·omega
   ·have hpw:(rest.drop (rest.findIdx fun x => !decide (hd x<hd p))).Pairwise (fun a b=>hd a<hd b):=h.sublist (List.drop_sublist _ _)
    rw[Ar8 hk,AsR]at hpw
    have:=hpw.1 x hx
    omega
  ·rw[Aso (by omega)]at hx
   cases hx
 rw[AuB,AsR]
 refine⟨h.sublist (List.take_sublist _ _),⟨hgt,h.sublist (List.drop_sublist _ _)⟩,fun a ha b hb => ?_⟩
 rcases ArK.1 hb with rfl|hb
 ·exact hlt a ha
 ·have:=hlt a ha
  have:=hgt b hb
  omega
end Go.Pev.Pl
end
section
namespace Go.Pev.Pl
open Tok
theorem APr{n u v:Int}(h:okT n (.arc u v)):n≤Oq n u v:=by rw[ID h];exact(AAG h.1 h.2.1).1
def Bt(n:Int)(A B:List Int)(u v:Int):List Int:=u::Oq n u v::(Bz B v++Oq n v u::(Bz A u).tail)
theorem WA{n u v:Int}{A B:List Int}(hA:TI n A)(hB:TI n B)(hu:u∈A)(hv:v∈B)(iu:In n u)(iv:In n v)(hd:Dis n A B):
  TI n (Bt n A B u v)∧Bz A u=u::(Bz A u).tail∧(∀ t,t<n→(t∈Bt n A B u v↔t∈A∨t∈B))∧u≠v∧okT n (.arc u v):=by
 obtain⟨a,a1,a2,a3⟩:=AWA hA (t:=.ver u) iu hu
 obtain⟨b,b1,b2,b3⟩:=AWA hB (t:=.ver v) iv hv
 have a1':Bz A u=(Tok.ver u::a).map (F9 n):=a1
 have b1':Bz B v=(Tok.ver v::b).map (F9 n):=b1
 have huv:u≠v:=by rintro rfl;exact hd u hu iu.2.2.2 hv
 have ho:okT n (.arc u v):=⟨iu,iv,huv⟩
 have pA:=(DO hu).perm
 have pB:=(DO hv).perm
 have ht:Bz A u=u::(Bz A u).tail:=by rw[a1'];rfl
 have hall:Bt n A B u v=(Tok.ver u :: .arc u v::(.ver v::b ++ .arc v u::a)).map (F9 n):=by
  rw[Bt,a1',b1',ID ho,ID (Mq ho)]
  simp[F9]
 refine⟨⟨_,hall,fun t ht => ?_,T.join a2 b2 fun x hx hx2 => ?_⟩,ht,fun t ht2 => ?_,huv,ho⟩
 ·rcases ArK.1 ht with rfl|ht
  ·exact iu
  ·rcases ArK.1 ht with rfl|ht
   ·exact ho
   ·rcases ArI.1 ht with ht|ht
    ·exact b3 t ht
    ·rcases ArK.1 ht with rfl|ht
     ·exact Mq ho
     ·exact a3 t (Arn _ ht)
 ·have ix:=a3 _ hx
  have x1:x∈A:=pA.mem_iff.2 (by rw[a1'];exact ArT.2 ⟨_,hx,rfl⟩)
  have x2:x∈B:=pB.mem_iff.2 (by rw[b1'];exact ArT.2 ⟨_,hx2,rfl⟩)
  exact hd x x1 ix.2.2.2 x2
 ·have g1:=APr ho
  have g2:=APr (Mq ho)
  have e1:t∈A↔t=u∨t∈(Bz A u).tail:=by rw[pA.mem_iff,ht,ArK,AtL]
  rw[Bt,ArK,ArK,ArI,ArK,e1,← pB.mem_iff]
  constructor
  ·rintro (h|h|h|h|h)
   ·exact .inl (.inl h)
   ·omega
   ·exact .inr h
   ·omega
   ·exact .inl (.inr h)
  ·rintro ((h|h)|h)
   ·exact .inl h
   ·exact .inr (.inr (.inr (.inr h)))
   ·exact .inr (.inr (.inl h))
theorem SK{n:Int}{a b:List (List Int)}(h:a.Perm b)(ha:a.Pairwise (Dis n)):b.Pairwise (Dis n):=(h.pairwise_iff fun {_ _} hh=>hh.symm).1 ha
theorem ApZ{n:Int}{rings rest zs:List (List Int)}{A B p:List Int}(h:FR n rings)(hp:rings.Perm (A::B::rest))(hg:RG n p)(hm:∀ t,t<n→(t∈p↔t∈A∨t∈B))(hz:zs.Perm (p::rest))(hu:zs.Pairwise (fun a b=>hd a<hd b)):FR n zs:=by
 have hd0:=SK hp h.dis
 rw[AsR,AsR]at hd0
 obtain⟨h1,h2,h3⟩:=hd0
 refine⟨h.sz,fun l hl => ?_,hu,SK hz.symm ?_,fun v hv => ?_⟩
 ·rcases ArK.1 (hz.mem_iff.1 hl)with rfl|hl
  ·exact hg
  ·exact h.rg l (hp.mem_iff.2 (by simp[hl]))
 ·rw[AsR]
  refine⟨fun r hr t ht htn => ?_,h3⟩
  rcases(hm t htn).1 ht with g|g
  ·exact h1 r (by simp[hr]) t g htn
  ·exact h2 r hr t g htn
 ·obtain⟨l,hl,hvl⟩:=h.cov v hv
  have:=hp.mem_iff.1 hl
  simp only[ArK]at this
  rcases this with rfl|rfl|g
  ·exact⟨p,hz.mem_iff.2 (by simp),(hm v hv.2.2.2).2 (.inl hvl)⟩
  ·exact⟨p,hz.mem_iff.2 (by simp),(hm v hv.2.2.2).2 (.inr hvl)⟩
  ·exact⟨l,hz.mem_iff.2 (by simp[g]),hvl⟩
theorem AKm(n:Int)(rings:List (List Int))(u v:Int)(hD:Dom rings):asked ((n,(rings,())),u,v,())=some (if RF n rings then if In n u∧In n v then 0 else 10 else 1,()):=by
 rw[AVx,AAP]
 simp only[AAy n rings hD.1 hD.2,ALs]
 by_cases h:RF n rings
 ·by_cases h1:In n u
  ·by_cases h2:In n v<;>simp[h,h1,h2]
  ·simp[h,h1]
 ·simp[h]
theorem AoL{n:Int}{rings:List (List Int)}{u v:Int}{i j:Nat}{A B:List Int}(h:FR n rings)(iu:In n u)(iv:In n v)(hi:rings[i]? = some A)(hj:rings[j]? = some B)(hu:u∈A)(hv:v∈B)(hij:i≠j):
  ∃ zs rest,AA9 ((n,(rings,())),u,v,())=some (n,zs,0,())∧FR n zs∧rings.Perm (A::B::rest)∧zs.Perm (plain (Bt n A B u v)::rest)∧Dis n A B:=by
 have hD:=h.dom
 have hRF:=APu.2 h
 have rA:=h.rg A (ArS hi)
 have rB:=h.rg B (ArS hj)
 have hil:=(ArW.1 hi).1
 have hjl:=(ArW.1 hj).1
 have pu:plc rings u=(i:Int):=h.Ajw hi iu.2.2.2 hu
 have pv:plc rings v=(j:Int):=h.Ajw hj iv.2.2.2 hv
 have hperm:rings.Perm (A::B::(rings.eraseIdx (max i j)).eraseIdx (min i j)):=by
  rcases Nat.lt_or_gt_of_ne hij with g|g
  ·rw[Aue (by omega),Ase (by omega)]
   exact Yk g hi hj
  ·rw[Nat.max_eq_left (by omega),Auf (by omega)]
   exact(Yk g hj hi).trans (List.Perm.swap _ _ _)
 have hdis:Dis n A B:=by
  have:=SK hperm h.dis
  rw[AsR]at this
  exact this.1 B (by simp)
 obtain⟨l1,l2,l3,huv,ho⟩:=WA rA.2.2.2 rB.2.2.2 hu hv iu iv hdis
 obtain⟨hRG,hrot⟩:=AWC l1
 have hall:Bt n A B u v=u::Oq n u v::(Bz B v++Oq n v u::(Bz A u).tail):=rfl
 have lA:(Bz A u).length≤1000:=by rw[← (DO hu).perm.length_eq];exact rA.1.1
 have lB:(Bz B v).length≤1000:=by rw[← (DO hv).perm.length_eq];exact rB.1.1
 have hsub:((rings.eraseIdx (max i j)).eraseIdx (min i j)).Sublist rings:=(List.eraseIdx_sublist _ _).trans (List.eraseIdx_sublist _ _)
 have hdrop:Cx (fun k=>decide ((k:Int)∈[(i:Int),(j:Int)])) 0 rings=(rings.eraseIdx (max i j)).eraseIdx (min i j):=by
  rcases Nat.lt_or_gt_of_ne hij with g|g
  ·rw[Aue (by omega),Ase (by omega)]
   exact AFL _ i j g rings 0 (by omega) fun k _=>AsX.2 (by simp only[ArK,AtZ,AuR];omega)
  ·rw[Nat.max_eq_left (by omega),Auf (by omega)]
   exact AFL _ j i g rings 0 (by omega) fun k _=>AsX.2 (by simp only[ArK,AtZ,AuR];omega)
 have hrl:((rings.eraseIdx (max i j)).eraseIdx (min i j)).length≤rings.length:=hsub.length_le
 generalize (rings.eraseIdx (max i j)).eraseIdx (min i j)=rest at *
 have hupr:rest.Pairwise (fun a b=>hd a<hd b):=h.up.sublist hsub
 have hner:∀ l∈rest,l≠[]:=fun l hl=>(h.rg l (hsub.subset hl)).2.1
 have hdd:=SK hperm h.dis
 rw[AsR,AsR]at hdd
 have hheads:∀ x∈rest,hd x≠hd (plain (Bt n A B u v)):=by
  intro x hx e
  have g1:=Sn hRG
  have g2:=(l3 _ g1.2.2.2).1 (hrot.perm.mem_iff.2 (AN7 hRG.2.1))
  have g3:hd (plain (Bt n A B u v))∈x:=e▸AN7 (hner x hx)
  rcases g2 with g|g
  ·exact hdd.1 x (by simp[hx]) _ g g1.2.2.2 g3
  ·exact hdd.2.1 x hx _ g g1.2.2.2 g3
 have hup:=Anu hupr hheads
 have hpz:=Ae2 rest (plain (Bt n A B u v))
 refine⟨Ae3 rest (plain (Bt n A B u v)),rest,?_,ApZ h hperm hRG (fun t ht=>by rw[← hrot.perm.mem_iff];exact l3 t ht) hpz hup,hperm,hpz,hdis⟩
 ·obtain⟨ys,y1,y2,y3⟩:=Ado n rings [(i:Int),(j:Int)] [Bt n A B u v] hD.1 (by simp) (by simp) (fun l hl=>(h.rg l hl).2.1) (by simp;exact hRG.2.1)
  have hys:ys=Ae3 rest (plain (Bt n A B u v)):=by
   refine ARA hup (y2.trans ?_) y3
   rw[hdrop]
   exact(AtN (l₁:=rest) (l₂:=[plain (Bt n A B u v)])).trans hpz.symm
  rw[hys]at y1
  rw[AA8,Q4]
  have s1:EK (Bz A u) (0:Int) (1:Int)=some [u]:=by
   have:=ALu (xs:=Bz A u) (l:=0) (h:=1) (by omega) (by rw[l2];simp)
   rw[l2]at this ⊢
   exact this
  have s2:EK (Bz A u) (1:Int) (AM (Bz A u))=some (Bz A u).tail:=by
   have:=Q8 (xs:=Bz A u) (l:=1) (by rw[l2];simp)
   rw[AuE]at this
   exact this
  have d1:GC 0 (AO (AM [u])) (Bz A u)=[u]:=by rw[l2];rfl
  have d2:GC 1 (AO (AM (Bz A u).tail)) (Bz A u)=(Bz A u).tail:=by
   rw[GC,AR,AFN,AuE,Arw]
  have hcat:LY ([[u],[Oq n u v],Bz B v,[Oq n v u],(Bz A u).tail],())=some (Bt n A B u v,()):=by
   rw[Yt _ (by simp) (by simp;omega)]
   simp[Bt]
  have ne:((i:Int))≠(j:Int):=by omega
  simp only[AKm n rings u v hD,hRF,iu,iv,and_self,Ar0,Ah,AA3 n rings _ hD.1 (fun l hl=>(hD.2 l hl).1),pu,pv,ne,Ara,Ar1,ArN,AW hi,AW hj,Aet,AOK,rA.1,rB.1,hu,hv,s1,s2,Aio,d1,d2,hcat,y1]
theorem AZW{n:Int}{rings:List (List Int)}{u v:Int}(h:FR n rings)(iu:In n u)(iv:In n v)(hp:plc rings u=plc rings v):
  AA9 ((n,(rings,())),u,v,())=some (n,rings,5,()):=by
 have hD:=h.dom
 have hRF:=APu.2 h
 rw[AA8,Q4]
 simp only[AKm n rings u v hD,hRF,iu,iv,and_self,Ar0,Ah,AA3 n rings _ hD.1 (fun l hl=>(hD.2 l hl).1),hp,Ara,ArN]
end Go.Pev.Pl
end
section
namespace Go.Pev.Pl
open Tok
def Qf(rings:List (List Int))(a b:Int):Prop:=∃ A∈rings,a∈A∧b∈A
structure FC(n:Int)(rings:List (List Int))(l:List Edge):Prop where
 fr:FR n rings
 sam:∀ a b,In n a→In n b→(Qf rings a b↔Con l a b)
 arcs:∀ A∈rings,∀ u v,okT n (.arc u v)→Oq n u v∈A→∃ e∈l,(e.1=u∧e.2.1=v)∨(e.1=v∧e.2.1=u)
theorem FR.Ai9{n:Int}{rings:List (List Int)}(h:FR n rings){a b:Int}(ia:In n a)(ib:In n b):plc rings a=plc rings b↔Qf rings a b:=by
 obtain⟨i,A,pa,hi,ha,_⟩:=ACm (h.cov a ia)
 obtain⟨j,B,pb,hj,hb,_⟩:=ACm (h.cov b ib)
 rw[pa,pb]
 constructor
 ·intro e
  have:i=j:=by omega
  subst this
  rw[hi]at hj
  cases hj
  exact⟨A,ArS hi,ha,hb⟩
 ·rintro⟨K,hK,h1,h2⟩
  obtain⟨k,hk⟩:∃ k:Nat,rings[k]? = some K:=by
   obtain⟨k,hk,rfl⟩:=As3 hK
   exact⟨k,ArG hk⟩
  rw[h.uniq hi hk ia.2.2.2 ha h1,h.uniq hj hk ib.2.2.2 hb h2]
theorem FR.one{n:Int}{rings:List (List Int)}(h:FR n rings){A B:List Int}(hA:A∈rings)(hB:B∈rings){v:Int}(iv:v<n)(h1:v∈A)(h2:v∈B):A=B:=by
 obtain⟨i,hi,rfl⟩:=As3 hA
 obtain⟨j,hj,rfl⟩:=As3 hB
 have:=h.uniq (ArG hi) (ArG hj) iv h1 h2
 subst this
 rfl
theorem Qf.perm{a b:List (List Int)}(h:a.Perm b)(x y:Int):Qf a x y↔Qf b x y:=by
 constructor
 ·rintro⟨A,hA,h1⟩;exact⟨A,h.mem_iff.1 hA,h1⟩
 ·rintro⟨A,hA,h1⟩;exact⟨A,h.mem_iff.2 hA,h1⟩
theorem Af5{n u v x y:Int}{A B:List Int}(hA:TI n A)(hB:TI n B)(hu:u∈A)(hv:v∈B)(iu:In n u)(iv:In n v)(hd:Dis n A B)(ho:okT n (.arc x y))(h:Oq n x y∈Bt n A B u v):Oq n x y∈A∨Oq n x y∈B∨(x=u∧y=v)∨(x=v∧y=u):=by
 obtain⟨_,l2,_,huv,ho2⟩:=WA hA hB hu hv iu iv hd
 have pA:=(DO hu).perm
 have pB:=(DO hv).perm
 have g:=APr ho
 rw[Bt,ArK,ArK,ArI,ArK]at h
 rcases h with h|h|h|h|h
 ·have:=iu.2.2.2;omega
 ·rw[ID ho,ID ho2]at h
  have:=SA ho ho2 h
  cases this
  exact .inr (.inr (.inl ⟨rfl,rfl⟩))
 ·exact .inr (.inl (pB.mem_iff.2 h))
 ·rw[ID ho,ID (Mq ho2)]at h
  have:=SA ho (Mq ho2) h
  cases this
  exact .inr (.inr (.inr ⟨rfl,rfl⟩))
 ·refine .inl (pA.mem_iff.2 ?_)
  rw[l2]
  exact Arn _ h
theorem Apa{n:Int}{rings:List (List Int)}{l:List Edge}{e:Edge}(h:FC n rings l)(iu:In n e.1)(iv:In n e.2.1):
  ∃ zs q,AA9 ((n,(rings,())),e.1,e.2.1,())=some (n,zs,q,())∧FC n zs (l++[e])∧(q=0∧zs.length+1=rings.length∨q=5∧zs=rings):=by
 have hF:=h.fr
 obtain⟨i,A,pu,hi,hu,_⟩:=ACm (hF.cov _ iu)
 obtain⟨j,B,pv,hj,hv,_⟩:=ACm (hF.cov _ iv)
 have mA:=ArS hi
 have mB:=ArS hj
 by_cases hij:i=j
 ·have hpe:plc rings e.1=plc rings e.2.1:=by rw[pu,pv,hij]
  refine⟨rings,5,AZW hF iu iv hpe,⟨hF,fun a b ia ib => ?_,fun A hA u v ho hm => ?_⟩,.inr ⟨rfl,rfl⟩⟩
  ·rw[h.sam a b ia ib,Con.snoc]
   have hc:Con l e.1 e.2.1:=(h.sam _ _ iu iv).1 ((hF.Ai9 iu iv).1 hpe)
   constructor
   ·exact .inl
   ·rintro (g|⟨g1,g2⟩|⟨g1,g2⟩)
    ·exact g
    ·exact g1.trans (hc.trans g2)
    ·exact g1.trans (hc.symm.trans g2)
  ·obtain⟨e',h1,h2⟩:=h.arcs A hA u v ho hm
   exact⟨e',by simp[h1],h2⟩
 ·obtain⟨zs,rest,q1,q3,q4,q5,q6⟩:=AoL hF iu iv hi hj hu hv hij
  have gA:=hF.rg A mA
  have gB:=hF.rg B mB
  obtain⟨l1,l2,l3,huv,ho⟩:=WA gA.2.2.2 gB.2.2.2 hu hv iu iv q6
  obtain⟨hRG,hrot⟩:=AWC l1
  have len1:=q4.length_eq
  have len2:=q5.length_eq
  simp only[ArO]at len1 len2
  refine⟨zs,0,q1,⟨q3,fun a b ia ib => ?_,fun K hK x y hxy hm => ?_⟩,.inl ⟨rfl,by omega⟩⟩
  ·rw[Qf.perm q5,Con.snoc,← h.sam a b ia ib,← h.sam a _ ia iu,← h.sam _ b iv ib,← h.sam a _ ia iv,← h.sam _ b iu ib]
   have pmem:∀ x,In n x→(x∈plain (Bt n A B e.1 e.2.1)↔x∈A∨x∈B):=fun x ix=>by rw[← hrot.perm.mem_iff];exact l3 x ix.2.2.2
   have sA:∀ x,In n x→(Qf rings x e.1↔x∈A):=fun x ix=>by
    constructor
    ·rintro⟨K,hK,h1,h2⟩
     rw[hF.one mA hK iu.2.2.2 hu h2];exact h1
    ·intro hx;exact⟨A,mA,hx,hu⟩
   have sB:∀ x,In n x→(Qf rings x e.2.1↔x∈B):=fun x ix=>by
    constructor
    ·rintro⟨K,hK,h1,h2⟩
     rw[hF.one mB hK iv.2.2.2 hv h2];exact h1
    ·intro hx;exact⟨B,mB,hx,hv⟩
   have sy:∀ x y,Qf rings x y↔Qf rings y x:=fun x y=>⟨fun ⟨K,a,b,c⟩=>⟨K,a,c,b⟩,fun ⟨K,a,b,c⟩=>⟨K,a,c,b⟩⟩
   rw[sA a ia,sB a ia,sy e.2.1 b,sB b ib,sy e.1 b,sA b ib]
   have hs:Qf rings a b↔(a∈A∧b∈A)∨(a∈B∧b∈B)∨∃ K∈rest,a∈K∧b∈K:=by
    rw[Qf.perm q4]
    simp only[Qf,ArK,exists_eq_or_imp]
   have hz:Qf (plain (Bt n A B e.1 e.2.1)::rest) a b↔((a∈A∨a∈B)∧(b∈A∨b∈B))∨∃ K∈rest,a∈K∧b∈K:=by
    simp only[Qf,ArK,exists_eq_or_imp,pmem a ia,pmem b ib]
   rw[hs,hz]
   constructor
   ·rintro (⟨h1|h1,h2|h2⟩|h)
    ·exact .inl (.inl ⟨h1,h2⟩)
    ·exact .inr (.inl ⟨h1,h2⟩)
    ·exact .inr (.inr ⟨h1,h2⟩)
    ·exact .inl (.inr (.inl ⟨h1,h2⟩))
    ·exact .inl (.inr (.inr h))
   ·rintro ((⟨h1,h2⟩|⟨h1,h2⟩|h)|⟨h1,h2⟩|⟨h1,h2⟩)
    ·exact .inl ⟨.inl h1,.inl h2⟩
    ·exact .inl ⟨.inr h1,.inr h2⟩
    ·exact .inr h
    ·exact .inl ⟨.inl h1,.inr h2⟩
    ·exact .inl ⟨.inr h1,.inl h2⟩
  ·have old:∀ K∈rings,Oq n x y∈K→∃ e'∈l++[e],(e'.1=x∧e'.2.1=y)∨(e'.1=y∧e'.2.1=x):=fun K hK hm=>by
    obtain⟨e',h1,h2⟩:=h.arcs K hK x y hxy hm
    exact⟨e',by simp[h1],h2⟩
   rcases ArK.1 (q5.mem_iff.1 hK)with rfl|hK
   ·rcases Af5 gA.2.2.2 gB.2.2.2 hu hv iu iv q6 hxy (hrot.perm.mem_iff.2 hm)with g|g|⟨g1,g2⟩|⟨g1,g2⟩
    ·exact old A mA g
    ·exact old B mB g
    ·exact⟨e,by simp,.inl ⟨g1.symm,g2.symm⟩⟩
    ·exact⟨e,by simp,.inr ⟨g2.symm,g1.symm⟩⟩
   ·exact old K (q4.mem_iff.2 (by simp[hK])) hm
theorem Abm{N:Nat}(h1:1≤N)(h2:N≤64):FC (N:Int) (B5 N) []:=by
 have hS:∀ A∈B5 N,∃ k:Nat,k<N∧A=[(k:Int)]:=fun A hA=>by
  simp only[B5,ArT,Arl]at hA
  obtain⟨k,hk,rfl⟩:=hA
  exact⟨k,hk,rfl⟩
 have key:∀ k,k<N→In (N:Int) (k:Int):=fun k hk=>⟨by omega,by omega,by omega,by omega⟩
 refine⟨⟨⟨by omega,by omega⟩,fun l hl => ?_,?_,?_,fun v hv => ?_⟩,fun a b ia ib => ?_,fun A hA u v ho hm => ?_⟩
 ·obtain⟨k,hk,rfl⟩:=hS l hl
  refine⟨⟨by simp,fun x hx => ?_,by simp⟩,by simp,rfl,(Aqg (N:Int) k).2 (key k hk)⟩
  simp only[Arx]at hx
  omega
 ·rw[B5,Asu]
  exact List.pairwise_lt_range.imp fun h=>by simp only[hd,List.headD_cons];omega
 ·rw[B5,Asu]
  exact List.pairwise_lt_range.imp fun {a b} h t ht _ ht2=>by
   simp only[Arx]at ht ht2
   omega
 ·obtain⟨k,rfl⟩:=ArR hv.2.2.1
  have:=hv.2.2.2
  exact⟨[(k:Int)],by simp only[B5,ArT,Arl];exact⟨k,by omega,rfl⟩,by simp⟩
 ·constructor
  ·rintro⟨A,hA,h1,h2⟩
   obtain⟨k,_,rfl⟩:=hS A hA
   simp only[Arx]at h1 h2
   rw[h1,h2]
   exact .refl _
  ·intro hc
   have:=hc.nil
   subst this
   obtain⟨k,rfl⟩:=ArR ia.2.2.1
   have:=ia.2.2.2
   exact⟨[(k:Int)],by simp only[B5,ArT,Arl];exact⟨k,by omega,rfl⟩,by simp,by simp⟩
 ·obtain⟨k,hk,rfl⟩:=hS A hA
  simp only[Arx]at hm
  have:=APr ho
  omega
theorem AUj(l:List Edge)(hs:l.length<1073741824):ends (l,())=some (l.flatMap fun e=>[e.1,e.2.1],()):=by
 rw[AdJ,AOa]
 have e:=DI (step:=LP) (fun i (a:List Int)=>(a,l,AM l,(i:Int),())) l (fun x a=>.inl (a++[x.1,x.2.1])) (fun a=>.inl (a,())) (fun i a=>a.length=2*i) (by omega)
  (fun i x a hi hx h1=>by
   refine⟨fun m' h' => ?_,fun r h'=>by cases h'⟩
   cases h'
   rw[LP,AR,AK,ArD hi]
   simp only[AW hx]
   rw[AN (by omega),Bd (by simp only[AR,ArO,ArZ];omega)]
   exact⟨rfl,by simp;omega⟩)
  (fun a _=>by rw[LP,AR,AK,ArC (by omega)]) [] rfl
 have e':AU LP many ([],l,AM l,(0:Int),())=_:=e
 rw[e',Bi]
 have hf:∀ (xs:List Edge) (acc:List Int),xs.foldl (fun a x=>a++[x.1,x.2.1]) acc=acc++xs.flatMap fun e=>[e.1,e.2.1]:=by
  intro xs
  induction xs with
  |nil=>intro acc;simp
  |cons x xs ih=>intro acc;rw[AsC,ih,Arv];simp
 rw[hf]
 rfl
theorem Al6(n:Int)(l:List Edge):((l.flatMap fun e=>[e.1,e.2.1]).all fun v=>decide (In n v))=l.all fun e=>decide (In n e.1∧In n e.2.1):=by
 induction l with
 |nil=>rfl
 |cons e l ih=>
  rw[Arv,List.all_append,List.all_cons,ih]
  simp
theorem Al5(l:List Edge):(l.flatMap fun e=>[e.1,e.2.1]).length=2*l.length:=by
 induction l with
 |nil=>rfl
 |cons e l ih=>rw[Arv,ArJ,ih];simp;omega
theorem AZV{n:Int}(l:List Edge)(hs:l.length<1073741824)(ha:∀ e∈l,In n e.1∧In n e.2.1):
  ∀ (m i cnt:Nat) (rings:List (List Int)) (taken:List Bool),i+m=l.length→taken.length=i→FC n rings (l.take i)→m<cnt →
  ∃ zs taken',Aj DX cnt (n,rings,(0:Int),taken,l,(l.length:Int),(i:Int),())=some (.inl (n,zs,(0:Int),taken',()))∧FC n zs l∧taken'.length=l.length:=by
 intro m
 induction m with
 |zero=>
  intro i cnt rings taken hi ht h hc
  obtain⟨cnt,rfl⟩:∃ c,cnt=c+1:=⟨cnt-1,by omega⟩
  rw[Ar6 (by omega)]at h
  refine⟨rings,taken,?_,h,by omega⟩
  rw[Aj,DX,AK,ArC (by omega)]
 |succ m ih=>
  intro i cnt rings taken hi ht h hc
  obtain⟨cnt,rfl⟩:∃ c,cnt=c+1:=⟨cnt-1,by omega⟩
  have hi':i<l.length:=by omega
  have hx:l[i]? = some l[i]:=ArG hi'
  obtain⟨iu,iv⟩:=ha _ (As8 hi')
  obtain⟨zs,q,e1,e2,_⟩:=Apa h iu iv
  rw[Aj,DX,AK,ArD hi']
  simp only[AW hx,e1]
  rw[AN (by omega),Bd (by simp only[AR,ArO,ArZ];omega)]
  rw[← Asi hi']at e2
  exact ih (i+1) cnt zs _ (by omega) (by simp[D1,ht]) e2 (by omega)
theorem Aou(k:Int)(l:List Edge)(hk:Sz k)(hs:l.length<1073741824):
  ((∀ e∈l,In k e.1∧In k e.2.1)∧∃ rings,fof (k,l,())=some ((k,(rings,())),0,())∧FC k rings l) ∨
  (¬ (∀ e∈l,In k e.1∧In k e.2.1)∧fof (k,l,())=some ((0,([],())),10,())):=by
 have hmany:9223372036854775808<many:=by simp only[many];omega
 rw[Alv,AdF]
 have hm:Z8 k=(k,B5 k.toNat,0,()):=by rw[Z8,ArQ hk]
 obtain⟨s1,s2⟩:=hk
 obtain⟨N,rfl⟩:=ArR (show 0≤k by omega)
 have h0:=Abm (N:=N) (by omega) (by omega)
 have hD:=h0.fr.dom
 have hRF:=APu.2 h0.fr
 have hfl:=Al5 l
 have hth:WS (((N:Int),(B5 N,())),l.flatMap fun e=>[e.1,e.2.1],())=some (if ∀ e∈l,In (N:Int) e.1∧In (N:Int) e.2.1 then 0 else 10,()):=by
  rw[AaA _ _ _ hD (by omega),Al6,Aqe,ArQ hRF]
  by_cases ha:∀ e∈l,In (N:Int) e.1∧In (N:Int) e.2.1
  ·rw[ArQ ha,ArQ (Ark.2 fun e he=>ArD (ha e he))]
  ·rw[ArM ha,ArM]
   intro hc
   exact ha fun e he=>AtV (Ark.1 hc e he)
 simp only[Ad1,hm,AsG,ATx,ArN]
 rw[AKA,R5,Yo,LR]
 by_cases ha:∀ e∈l,In (N:Int) e.1∧In (N:Int) e.2.1
 ·refine .inl ⟨ha,?_⟩
  rw[ArQ ha]at hth
  obtain⟨zs,taken,e1,e2,_⟩:=AZV l hs ha l.length 0 many (B5 N) [] (by omega) rfl (by rw[AuT];exact h0) (by omega)
  have e1':Aj DX many ((N:Int),B5 N,(0:Int),[],l,(l.length:Int),(0:Int),())=_:=e1
  simp only[AUj l hs,hth,ATx,ArN,A3,AR,e1']
  exact⟨zs,rfl,e2⟩
 ·refine .inr ⟨ha,?_⟩
  rw[ArM ha]at hth
  simp only[AUj l hs,hth,Ah]
  rfl
end Go.Pev.Pl
end
section
namespace Go.Pev.Pl
open Tok
def cl(out:List Int)(v:Int):Int:=out.getD v.toNat 0
def CI(N:Nat)(l:List Edge)(out:List Int):Prop:=out.length=N∧∀ k,k<N→0≤out.getD k 0∧out.getD k 0≤(k:Int)∧Con l (k:Int) (out.getD k 0)
theorem Ab7:∀ (l:List Int) (k:Nat) (x:Int),k<l.length→(l.set k x).sum=l.sum-l.getD k 0+x:=by
 intro l
 induction l with
 |nil=>intro k x h;simp at h
 |cons y l ih=>
  intro k x h
  cases k with
  |zero=>simp;omega
  |succ k=>
   have:=ih k x (by simpa using h)
   simp only[List.set_cons_succ,Att,List.getD_cons_succ,this]
   omega
theorem PY{N:Nat}{l:List Edge}{out:List Int}(h:CI N l out)(hN:N≤64):0≤out.sum∧out.sum≤4096:=by
 obtain⟨h1,h2⟩:=h
 have key:∀ (xs:List Int),(∀ x∈xs,0≤x∧x≤64)→0≤xs.sum∧xs.sum≤64*(xs.length:Int):=by
  intro xs
  induction xs with
  |nil=>intro _;simp
  |cons x xs ih=>
   intro h
   have h3:=ih fun y hy=>h y (Arn _ hy)
   have h4:=h x (by simp)
   simp only[Att,ArO]
   omega
 have:=key out fun x hx=>by
  obtain⟨k,hk,rfl⟩:=As3 hx
  have h5:=h2 k (by omega)
  rw[ArF,ArG hk,AsB]at h5
  omega
 omega
theorem Aqo(N:Nat)(l:List Edge)(hs:l.length<1073741824)(ha:∀ e∈l,In (N:Int) e.1∧In (N:Int) e.2.1):
  ∀ (m i cnt:Nat) (out:List Int) (more:Bool),i+m=l.length→CI N l out→m<cnt →
  ∃ out' more',Aj Cy cnt ((N:Int),l,out,more,(i:Int),())=some (.inl ((N:Int),l,out',more',()))∧CI N l out' ∧
   ((more'=more∧out'=out∧∀ e∈l.drop i,cl out e.1=cl out e.2.1)∨(more'=true∧out'.sum<out.sum)):=by
 intro m
 induction m with
 |zero=>
  intro i cnt out more hi h hc
  obtain⟨cnt,rfl⟩:∃ c,cnt=c+1:=⟨cnt-1,by omega⟩
  refine⟨out,more,?_,h,.inl ⟨rfl,rfl,?_⟩⟩
  ·rw[Aj,Cy,AR,AK,ArC (by omega)]
  ·rw[Aso (by omega)]
   intro e he;cases he
 |succ m ih=>
  intro i cnt out more hi h hc
  obtain⟨cnt,rfl⟩:∃ c,cnt=c+1:=⟨cnt-1,by omega⟩
  have hi':i<l.length:=by omega
  have hx:l[i]? = some l[i]:=ArG hi'
  have hm:=As8 hi'
  have hdr:l.drop i=l[i]::l.drop (i+1):=Ar8 hi'
  rw[Aj,Cy,AR,AK,ArD hi']
  simp only[AW hx]
  rw[hdr,AN (by omega)]
  generalize l[i]=e at *
  obtain⟨iu,iv⟩:=ha e hm
  have hcon:=Con.edge e hm
  obtain⟨eu,ev,eu'⟩:=e
  simp only at iu iv hcon ⊢
  obtain⟨u,rfl⟩:=ArR iu.2.2.1
  obtain⟨v,rfl⟩:=ArR iv.2.2.1
  have hu:u<N:=by have:=iu.2.2.2;omega
  have hv:v<N:=by have:=iv.2.2.2;omega
  have hul:u<out.length:=by rw[h.1];exact hu
  have hvl:v<out.length:=by rw[h.1];exact hv
  rw[Ae,ArC (by omega)]
  simp only[]
  rw[Ae,ArC (by omega)]
  simp only[]
  rw[An,ArC (by omega)]
  simp only[]
  rw[An,ArC (by omega)]
  simp only[L7 (0:Int) hul,L7 (0:Int) hvl,QU,DY,Ah]
  by_cases hq:out.getD u 0=out.getD v 0
  ·rw[ArD hq]
   obtain⟨out',more',e1,e2,e3⟩:=ih (i+1) cnt out more (by omega) h (by omega)
   refine⟨out',more',e1,e2,?_⟩
   rcases e3 with⟨g1,g2,g3⟩|g
   ·refine .inl ⟨g1,g2,fun e' he' => ?_⟩
    rcases ArK.1 he' with rfl|he'
    ·simpa [cl]using hq
    ·exact g3 e' he'
   ·exact .inr g
  ·rw[ArC hq]
   have hne:u≠v:=by rintro rfl;exact hq rfl
   have hlow:B6 (out.getD u 0) (out.getD v 0)=if out.getD v 0<out.getD u 0 then out.getD v 0 else out.getD u 0:=rfl
   generalize hlw:B6 (out.getD u 0) (out.getD v 0)=low at *
   have hvl2:v<(out.set u low).length:=by simp;exact hvl
   simp only[L7 (0:Int) hvl2]
   have cu:=h.2 u hu
   have cv:=h.2 v hv
   have hset:∀ k,k<N→((out.set u low).set v low).getD k 0=if k=u∨k=v then low else out.getD k 0:=by
    intro k hk
    have hkl:k<out.length:=by rw[h.1];exact hk
    by_cases k2:k=v
    ·subst k2
     simp[ArF,hkl]
    ·by_cases k1:k=u
     ·subst k1
      rw[ArQ (.inl rfl),ArF,AsL (AsA k2)]
      simp[hkl]
     ·rw[ArM (by omega),ArF,AsL (AsA k2),AsL (AsA k1),ArF]
   have hlc:0≤low∧low≤(u:Int)∧low≤(v:Int)∧Con l (u:Int) low:=by
    rw[hlow]
    split
    ·exact⟨cv.1,by omega,cv.2.1,hcon.trans cv.2.2⟩
    ·exact⟨cu.1,cu.2.1,by omega,cu.2.2⟩
   have hI:CI N l ((out.set u low).set v low):=by
    refine⟨by simp[h.1],fun k hk => ?_⟩
    rw[hset k hk]
    split
    ·rename_i hkk
     rcases hkk with rfl|rfl
     ·exact⟨hlc.1,hlc.2.1,hlc.2.2.2⟩
     ·exact⟨hlc.1,hlc.2.2.1,hcon.symm.trans hlc.2.2.2⟩
    ·exact h.2 k hk
   have hsum:((out.set u low).set v low).sum<out.sum:=by
    rw[Ab7 _ _ _ hvl2,Ab7 _ _ _ hul]
    have:(out.set u low).getD v 0=out.getD v 0:=by
     rw[ArF,AsL hne,← ArF]
    rw[this,hlow]
    split<;>omega
   obtain⟨out',more',e1,e2,e3⟩:=ih (i+1) cnt _ true (by omega) hI (by omega)
   refine⟨out',more',e1,e2,.inr ?_⟩
   rcases e3 with⟨g1,g2,_⟩|⟨g1,g2⟩
   ·exact⟨g1,by rw[g2];exact hsum⟩
   ·exact⟨g1,by omega⟩
theorem Apu(N:Nat)(hN:N≤64)(l:List Edge)(hs:l.length<1073741824)(ha:∀ e∈l,In (N:Int) e.1∧In (N:Int) e.2.1):
  ∀ (m cnt:Nat) (out:List Int),out.sum.toNat=m→CI N l out→m+1<cnt →
  ∃ out',Aj Ds cnt ((N:Int),l,out,true,())=some (.inl (out',()))∧CI N l out'∧∀ e∈l,cl out' e.1=cl out' e.2.1:=by
 have hmany:9223372036854775808<many:=by simp only[many];omega
 intro m
 induction m using Nat.strongRecOn with
 |_ m ih=>
 intro cnt out hm h hc
 obtain⟨cnt,rfl⟩:∃ c,cnt=c+1:=⟨cnt-1,by omega⟩
 rw[Aj,Ds]
 obtain⟨out',more',e1,e2,e3⟩:=Aqo N l hs ha l.length 0 many out false (by omega) h (by omega)
 have e1':Aj Cy many ((N:Int),l,out,false,(0:Int),())=_:=e1
 simp only[A3,e1']
 rcases e3 with⟨g1,g2,g3⟩|⟨g1,g2⟩
 ·subst g1 g2
  obtain⟨cnt,rfl⟩:∃ c,cnt=c+1:=⟨cnt-1,by omega⟩
  rw[Aj,Ds]
  exact⟨_,rfl,e2,by simpa using g3⟩
 ·subst g1
  have b1:=PY h hN
  have b2:=PY e2 hN
  exact ih out'.sum.toNat (by omega) cnt out' rfl e2 (by omega)
structure Xo(n:Int)(l:List Edge)(out:List Int):Prop where
 len:(out.length:Int)=n
 same:∀ a b,In n a→In n b→(cl out a=cl out b↔Con l a b)
 isin:∀ a,In n a→In n (cl out a)
 con:∀ a,In n a→Con l a (cl out a)
 least:∀ a b,In n a→In n b→Con l a b→cl out a≤b
theorem Gd(n:Int)(l:List Edge)(hn:Sz n)(hs:l.length<1073741824)(ha:∀ e∈l,In n e.1∧In n e.2.1):∃ out,HW (n,l,())=some (out,())∧Xo n l out:=by
 have hmany:9223372036854775808<many:=by simp only[many];omega
 obtain⟨s1,s2⟩:=hn
 obtain⟨N,rfl⟩:=ArR (show 0≤n by omega)
 rw[Sb,Ix]
 have key:∀ (m k cnt:Nat),k+m=N→m<cnt→Aj Cz cnt ((N:Int),l,(List.range k).map (fun(k:Nat)=>(k:Int)),(k:Int),())=some (.inl ((N:Int),l,(List.range N).map (fun(k:Nat)=>(k:Int)),())):=by
  intro m
  induction m with
  |zero=>
   intro k cnt hk hc
   obtain⟨cnt,rfl⟩:∃ c,cnt=c+1:=⟨cnt-1,by omega⟩
   have:k=N:=by omega
   subst this
   rw[Aj,Cz,AK,ArC (by omega)]
  |succ m ih=>
   intro k cnt hk hc
   obtain⟨cnt,rfl⟩:∃ c,cnt=c+1:=⟨cnt-1,by omega⟩
   have hih:=ih (k+1) cnt (by omega) (by omega)
   rw[Arz,Ar9]at hih
   rw[Aj,Cz,AK,ArD (by omega)]
   simp only[]
   rw[AN (by omega),Bd (by simp only[AR,ArO,ArZ,Arf,Are];omega)]
   exact hih
 have e0:=key N 0 many (by omega) (by omega)
 have e0':Aj Cz many ((N:Int),l,[],(0:Int),())=_:=e0
 have h0:CI N l ((List.range N).map (fun(k:Nat)=>(k:Int))):=by
  refine⟨by simp,fun k hk => ?_⟩
  have:((List.range N).map (fun(k:Nat)=>(k:Int))).getD k 0=(k:Int):=by simp[ArF,hk]
  rw[this]
  exact⟨by omega,by omega,.refl _⟩
 have hb:=PY h0 (by omega)
 obtain⟨out,e1,e2,e3⟩:=Apu N (by omega) l hs ha _ many _ rfl h0 (by omega)
 simp only[A3,e0',e1]
 have fact:∀ a,In (N:Int) a→0≤cl out a∧cl out a≤a∧Con l a (cl out a):=by
  intro a hia
  obtain⟨k,rfl⟩:=ArR hia.2.2.1
  have:=e2.2 k (by have:=hia.2.2.2;omega)
  simpa [cl]using this
 refine⟨out,rfl,by rw[e2.1],fun a b ia ib=>⟨fun h => ?_,fun h=>h.const e3⟩,fun a ia => ?_,fun a ia=>(fact a ia).2.2,fun a b ia ib h => ?_⟩
 ·have h1:=(fact a ia).2.2
  have h2:=(fact b ib).2.2
  rw[← h]at h2
  exact h1.trans h2.symm
 ·have:=fact a ia
  have h3:=ia.2.2.2
  exact⟨s1,s2,by omega,by omega⟩
 ·have h1:cl out a=cl out b:=h.const e3
  have:=(fact b ib).2.1
  omega
end Go.Pev.Pl
end
end
section
namespace Go.Pev.Pl
def Low(l:List Edge)(k:Nat):Prop:=∀ j:Nat,j<k→¬ Con l (j:Int) (k:Int)
noncomputable def Ak1(l:List Edge)(k:Nat):Bool:=@decide (Low l k) (Classical.propDecidable _)
theorem Hs(l:List Edge)(k:Nat):Ak1 l k=true↔Low l k:=by
 unfold Ak1
 exact @decide_eq_true_iff _ (Classical.propDecidable _)
noncomputable def cc(N:Nat)(l:List Edge):Nat:=(List.range N).countP (Ak1 l)
noncomputable def NI(l:List Edge)(a b:Int):Bool:=@decide (Con l a b) (Classical.propDecidable _)
theorem CW(l:List Edge)(a b:Int):NI l a b=true↔Con l a b:=by
 unfold NI
 exact @decide_eq_true_iff _ (Classical.propDecidable _)
theorem GG(l:List Edge)(a b:Int):NI l a b=false↔¬ Con l a b:=by
 rw[← CW];cases NI l a b<;>simp
theorem Con.sub{l l':List Edge}(h:∀ e∈l,e∈l'){a b:Int}(c:Con l a b):Con l' a b:=c.mono fun e he=>⟨e,h e he,.inl ⟨rfl,rfl⟩⟩
theorem Con.cut{l l':List Edge}(h:∀ e∈l,Con l' e.1 e.2.1){a b:Int}(c:Con l a b):Con l' a b:=by
 induction c with
 |refl a=>exact .refl a
 |edge e he=>exact h e he
 |symm _ ih=>exact ih.symm
 |trans _ _ ih1 ih2=>exact ih1.trans ih2
theorem Ak0(l:List Edge):∀ v:Nat,∃ m:Nat,m≤v∧Con l (m:Int) (v:Int)∧Low l m:=by
 intro v
 induction v using Nat.strongRecOn with
 |ind v ih=>
  by_cases h:Low l v
  ·exact⟨v,ArP _,.refl _,h⟩
  ·have:∃ j:Nat,j<v∧Con l (j:Int) (v:Int):=AsU fun hn=>h fun j hj hc=>hn ⟨j,hj,hc⟩
   obtain⟨j,hj,hc⟩:=this
   obtain⟨m,h1,h2,h3⟩:=ih j hj
   exact⟨m,by omega,h2.trans hc,h3⟩
theorem Low.le{l:List Edge}{m j:Nat}(h:Low l m)(hc:Con l (m:Int) (j:Int)):m≤j:=by
 refine Nat.le_of_not_lt fun hj=>h j hj hc.symm
theorem Low.uniq{l:List Edge}{a b:Nat}(ha:Low l a)(hb:Low l b)(h:Con l (a:Int) (b:Int)):a=b:=by
 have:=ha.le h
 have:=hb.le h.symm
 omega
theorem Amd{N:Nat}{l l':List Edge}(h:∀ j k:Nat,j<N→k<N→(Con l (j:Int) (k:Int)↔Con l' (j:Int) (k:Int))):cc N l=cc N l':=by
 unfold cc
 refine Atg fun k hk => ?_
 have hk:k<N:=by simpa using hk
 rw[Hs,Hs]
 constructor
 ·intro q j hj hc;exact q j hj ((h j k (by omega) hk).2 hc)
 ·intro q j hj hc;exact q j hj ((h j k (by omega) hk).1 hc)
theorem AF6{N:Nat}{l l':List Edge}(h:∀ a b,Con l a b↔Con l' a b):cc N l=cc N l':=Amd fun _ _ _ _=>h _ _
theorem AO8{l l':List Edge}(h:∀ e,e∈l↔e∈l'){a b:Int}:Con l a b↔Con l' a b:=⟨fun c=>c.sub fun e he=>(h e).1 he,fun c=>c.sub fun e he=>(h e).2 he⟩
theorem ApK{N:Nat}{l l':List Edge}(h:l.Perm l'):cc N l=cc N l':=AF6 fun _ _=>AO8 fun _=>h.mem_iff
theorem Amc(N:Nat):cc N []=N:=by
 unfold cc
 have:(List.range N).countP (Ak1 [])=(List.range N).length:=by
  rw[List.countP_eq_length]
  intro k _
  rw[Hs]
  intro j hj hc
  have:=hc.nil
  omega
 rw[this,Are]
theorem AFh{P:Nat→Bool}{M:Nat}(hM:P M=true):∀ {xs:List Nat},xs.Nodup→M∈xs→xs.countP P=xs.countP (fun k=>P k && !decide (k=M))+1:=by
 intro xs
 induction xs with
 |nil=>intro _ h;cases h
 |cons x xs ih=>
  intro hn h
  rw[Arp]at hn
  rw[AtK,AtK]
  by_cases hx:x=M
  ·subst hx
   have:xs.countP P=xs.countP (fun k=>P k && !decide (k=x)):=by
    refine Atg fun k hk => ?_
    have:k≠x:=fun e=>hn.1 (e▸hk)
    simp[this]
   simp[hM,this]
  ·have:=ih hn.2 (by rcases ArK.1 h with h|h;exact absurd h.symm hx;exact h)
   rw[this]
   simp[hx]
   omega
def InE(N:Nat)(e:Edge):Prop:=(0≤e.1∧e.1<(N:Int))∧(0≤e.2.1∧e.2.1<(N:Int))
theorem AVH{l:List Edge}{e:Edge}(h:Con l e.1 e.2.1){a b:Int}:Con (l++[e]) a b↔Con l a b:=
 ⟨fun c=>c.cut fun x hx=>by
  rcases ArI.1 hx with hx|hx
  ·exact .edge x hx
  ·rw[Arx]at hx;subst hx;exact h,fun c=>c.sub fun x hx=>ArI.2 (.inl hx)⟩
theorem APX{N:Nat}{l:List Edge}{e:Edge}(he:InE N e):cc N l=cc N (l++[e])+(if NI l e.1 e.2.1=true then 0 else 1):=by
 by_cases h:Con l e.1 e.2.1
 ·rw[ArQ ((CW _ _ _).2 h),Asd]
  exact AF6 fun a b=>(AVH h).symm
 ·rw[ArM (fun hh=>h ((CW _ _ _).1 hh))]
  obtain⟨⟨a1,a2⟩,b1,b2⟩:=he
  obtain⟨u,hu⟩:=ArR a1
  obtain⟨v,hv⟩:=ArR b1
  have hsn:∀ {a b:Int},Con (l++[e]) a b↔Con l a b∨(Con l a (u:Int)∧Con l (v:Int) b)∨(Con l a (v:Int)∧Con l (u:Int) b):=by
   intro a b
   rw[Con.snoc,hu,hv]
  rw[hu,hv]at h
  obtain⟨p,p1,p2,p3⟩:=Ak0 l u
  obtain⟨q,q1,q2,q3⟩:=Ak0 l v
  have hpq:p≠q:=fun e=>h (p2.symm.trans (e▸q2))
  have hlow:∀ k:Nat,Low (l++[e]) k↔Low l k∧k≠max p q:=by
   intro k
   constructor
   ·intro hk
    refine⟨fun j hj hc=>hk j hj (hsn.2 (.inl hc)),fun e => ?_⟩
    refine hk (min p q) (by omega) (hsn.2 ?_)
    by_cases hlt:p<q
    ·rw[e,Ase (by omega),Aue (by omega)]
     exact .inr (.inl ⟨p2,q2.symm⟩)
    ·rw[e,Auf (by omega),Nat.max_eq_left (by omega)]
     exact .inr (.inr ⟨q2,p2.symm⟩)
   ·rintro⟨hk,hne⟩ j hj hc
    rcases hsn.1 hc with hc|⟨c1,c2⟩|⟨c1,c2⟩
    ·exact hk j hj hc
    ·have e1:=q3.uniq hk (q2.trans c2)
     have e2:=p3.le (p2.trans c1.symm)
     omega
    ·have e1:=p3.uniq hk (p2.trans c2)
     have e2:=q3.le (q2.trans c1.symm)
     omega
  have hM:Ak1 l (max p q)=true:=by
   rw[Hs]
   by_cases hlt:p<q
   ·rw[Aue (by omega)];exact q3
   ·rw[Nat.max_eq_left (by omega)];exact p3
  unfold cc
  rw[AFh hM Asq (by rw[Arl];omega)]
  congr 1
  refine Atg fun k _ => ?_
  rw[Hs,hlow,ArL,Hs]
  simp
noncomputable def gfl:List Edge→List Edge→List Bool
 |_,[]=>[]
 |b,x::xs=>(!NI b x.1 x.2.1)::gfl (b++[x]) xs
noncomputable def MJ:List Edge→List Edge→List Edge
 |_,[]=>[]
 |b,x::xs=>if NI b x.1 x.2.1=true then MJ (b++[x]) xs else x::MJ (b++[x]) xs
theorem Aot:∀ (xs b:List Edge),(gfl b xs).length=xs.length:=by
 intro xs
 induction xs with
 |nil=>intro b;rfl
 |cons x xs ih=>intro b;rw[gfl,ArO,ArO,ih]
theorem AUL:∀ (xs b:List Edge),(MJ b xs).Sublist xs:=by
 intro xs
 induction xs with
 |nil=>intro b;exact List.Sublist.refl _
 |cons x xs ih=>
  intro b
  rw[MJ]
  split
  ·exact(ih _).cons x
  ·exact(ih _).cons_cons x
theorem AFp:∀ (xs b:List Edge) {a c:Int},Con (b++xs) a c↔Con (b++MJ b xs) a c:=by
 intro xs
 induction xs with
 |nil=>intro b a c;rfl
 |cons x xs ih=>
  intro b a c
  have e1:b++x::xs=(b++[x])++xs:=by simp
  rw[e1,ih,MJ]
  by_cases h:Con b x.1 x.2.1
  ·rw[ArQ ((CW _ _ _).2 h)]
   constructor
   ·intro q
    refine q.cut fun y hy => ?_
    rcases ArI.1 hy with hy|hy
    ·rcases ArI.1 hy with hy|hy
     ·exact .edge y (ArI.2 (.inl hy))
     ·rw[Arx]at hy;subst hy
      exact h.sub fun z hz=>ArI.2 (.inl hz)
    ·exact .edge y (ArI.2 (.inr hy))
   ·intro q
    refine q.sub fun y hy => ?_
    rcases ArI.1 hy with hy|hy
    ·simp[hy]
    ·simp[hy]
  ·rw[ArM (fun hh=>h ((CW _ _ _).1 hh))]
   exact AO8 fun y=>by simp
theorem OS{N:Nat}:∀ (xs b:List Edge),(∀ e∈xs,InE N e)→cc N b=cc N (b++xs)+(MJ b xs).length:=by
 intro xs
 induction xs with
 |nil=>intro b _;simp[MJ]
 |cons x xs ih=>
  intro b h
  have e1:b++x::xs=(b++[x])++xs:=by simp
  rw[APX (h x (by simp)),ih (b++[x]) (fun e he=>h e (by simp[he])),e1,MJ]
  by_cases hc:NI b x.1 x.2.1=true
  ·rw[ArQ hc,ArQ hc,Asd]
  ·rw[ArM hc,ArM hc,ArO]
   omega
theorem Aph{N:Nat}(xs b:List Edge)(h:∀ e∈xs,InE N e):cc N b≤cc N (b++xs)+xs.length:=by
 have:=OS xs b h
 have:=(AUL xs b).length_le
 omega
def Fo(N:Nat)(l:List Edge):Prop:=cc N l+l.length=N
theorem Fo.perm{N:Nat}{l l':List Edge}(h:Fo N l)(hp:l.Perm l'):Fo N l':=by
 unfold Fo at *
 rw[← ApK hp,← hp.length_eq];exact h
theorem Ame{N:Nat}(l:List Edge)(h:∀ e∈l,InE N e):N≤cc N l+l.length:=by
 have:=Aph l [] h
 rw[Amc,Ary]at this
 exact this
theorem Fo.front{N:Nat}{a b:List Edge}(h:Fo N (a++b))(ha:∀ e∈a,InE N e)(hb:∀ e∈b,InE N e):Fo N a:=by
 unfold Fo at *
 have h1:=Ame a ha
 have h2:=Aph b a hb
 rw[ArJ]at h
 omega
theorem Aj4{α:Type}{a l:List α}(h:a.Sublist l):∃ r,l.Perm (a++r):=by
 induction h with
 |slnil=>exact⟨[],AuU _⟩
 |@cons a l x _ ih=>
  obtain⟨r,hr⟩:=ih
  exact⟨x::r,(hr.cons x).trans (List.perm_middle.symm)⟩
 |@cons_cons a l x _ ih=>
  obtain⟨r,hr⟩:=ih
  exact⟨r,hr.cons x⟩
theorem Fo.sub{N:Nat}{a l:List Edge}(h:Fo N l)(hs:a.Sublist l)(hl:∀ e∈l,InE N e):Fo N a:=by
 obtain⟨r,hr⟩:=Aj4 hs
 exact(h.perm hr).front (fun e he=>hl e (hr.mem_iff.2 (ArI.2 (.inl he)))) (fun e he=>hl e (hr.mem_iff.2 (ArI.2 (.inr he))))
theorem Fo.MJ{N:Nat}{b xs:List Edge}(h:Fo N (b++xs))(hb:∀ e∈b,InE N e)(hx:∀ e∈xs,InE N e):MJ b xs=xs:=by
 have h1:=OS xs b hx
 have h2:=h.front hb hx
 unfold Fo at *
 rw[ArJ]at h
 exact(AUL xs b).eq_of_length (by omega)
end Go.Pev.Pl
end
section
namespace Go.Pev.Pl
abbrev Tie:=Int×Int×Int×Bool×Unit
abbrev zT:Tie:=(0,0,0,false,())
def ahead(p x:Tie):Prop:=p.1<x.1∨(p.1=x.1∧p.2.1<x.2.1)
instance (p x:Tie):Decidable (ahead p x):=inferInstanceAs (Decidable (_∨_))
def ed(t:Tie):Edge:=(t.1,t.2.1,())
def trk(ts:List Tie)(k:Int):List Edge:=(ts.filter fun t=>t.2.2.2.1&&decide (k≤t.2.2.1)).map ed
theorem Dk{ts:List Tie}{k:Int}{e:Edge}:e∈trk ts k↔∃ t∈ts,t.2.2.2.1=true∧k≤t.2.2.1∧ed t=e:=by
 unfold trk
 simp only[ArT,Arr,ArL,ArH]
 constructor
 ·rintro⟨t,⟨h1,h2,h3⟩,h4⟩;exact⟨t,h1,h2,h3,h4⟩
 ·rintro⟨t,h1,h2,h3,h4⟩;exact⟨t,⟨h1,h2,h3⟩,h4⟩
theorem Jf{ts:List Tie}{k k':Int}(h:k≤k'):∀ e∈trk ts k',e∈trk ts k:=by
 intro e he
 obtain⟨t,h1,h2,h3,h4⟩:=Dk.1 he
 exact Dk.2 ⟨t,h1,h2,by omega,h4⟩
noncomputable def csz(N:Nat)(l:List Edge)(v:Int):Nat:=(List.range N).countP fun(w:Nat)=>NI l v (w:Int)
theorem AOz{N:Nat}{l l':List Edge}{v v':Int}(h:∀ w:Nat,w<N→Con l v (w:Int)→Con l' v' (w:Int)):csz N l v≤csz N l' v':=by
 unfold csz
 refine List.countP_mono_left fun w hw hc => ?_
 rw[CW]at hc ⊢
 exact h w (by simpa using hw) hc
theorem Ao9{N:Nat}{l:List Edge}{v:Nat}(hv:v<N):1≤csz N l (v:Int):=by
 unfold csz
 refine List.countP_pos_iff.2 ⟨v,by simpa using hv,(CW _ _ _).2 (.refl _)⟩
theorem Ao8{N:Nat}{l:List Edge}{a b:Nat}(ha:a<N)(hb:b<N)(hab:a≠b)(h:Con l (a:Int) (b:Int)):2≤csz N l (a:Int):=by
 unfold csz
 rw[AFh (P:=fun(w:Nat)=>NI l (a:Int) (w:Int)) (M:=a) ((CW _ _ _).2 (.refl _)) Asq (by simpa using ha)]
 have:0<(List.range N).countP (fun(w:Nat)=>NI l (a:Int) (w:Int) && !decide (w=a)):=by
  refine List.countP_pos_iff.2 ⟨b,by simpa using hb,?_⟩
  rw[ArL,CW]
  exact⟨h,by simp;omega⟩
 omega
theorem AmJ{N:Nat}{l:List Edge}{e:Edge}(h:¬ Con l e.1 e.2.1):csz N (l++[e]) e.1=csz N l e.1+csz N l e.2.1:=by
 unfold csz
 have key:∀ xs:List Nat,xs.countP (fun(w:Nat)=>NI (l++[e]) e.1 (w:Int))=xs.countP (fun(w:Nat)=>NI l e.1 (w:Int))+xs.countP (fun(w:Nat)=>NI l e.2.1 (w:Int)):=by
  intro xs
  induction xs with
  |nil=>rfl
  |cons x xs ih=>
   rw[AtK,AtK,AtK,ih]
   have hs:Con (l++[e]) e.1 (x:Int)↔Con l e.1 (x:Int)∨Con l e.2.1 (x:Int):=by
    rw[Con.snoc]
    constructor
    ·rintro (h|⟨_,h⟩|⟨_,h⟩)
     ·exact .inl h
     ·exact .inr h
     ·exact .inl h
    ·rintro (h|h)
     ·exact .inl h
     ·exact .inr (.inl ⟨.refl _,h⟩)
   by_cases h1:Con l e.1 (x:Int)
   ·have h2:¬ Con l e.2.1 (x:Int):=fun h2=>h (h1.trans h2.symm)
    rw[(CW _ _ _).2 (hs.2 (.inl h1)),(CW _ _ _).2 h1,(GG _ _ _).2 h2]
    simp only[Ar0,ArV,ArY];omega
   ·by_cases h2:Con l e.2.1 (x:Int)
    ·rw[(CW _ _ _).2 (hs.2 (.inr h2)),(GG _ _ _).2 h1,(CW _ _ _).2 h2]
     simp only[Ar0,ArV,ArY];omega
    ·rw[(GG _ _ _).2 (fun h=>(hs.1 h).elim h1 h2),(GG _ _ _).2 h1,(GG _ _ _).2 h2]
     simp only[ArV,ArY,Asd]
 exact key _
end Go.Pev.Pl
end
section
namespace Go.Pev.Pl
def ACV(top:Int)(t:Tie):Tie:=(t.1,t.2.1,min top (t.2.2.1+1),t.2.2.2.1,())
def GJ(t:Tie):Tie:=(t.1,t.2.1,t.2.2.1,true,())
def both(S:Int→Bool)(t:Tie):Bool:=S t.1&&S t.2.1
def AdG(S:Int→Bool)(t:Tie):Prop:=S t.1≠S t.2.1
instance (S:Int→Bool)(t:Tie):Decidable (AdG S t):=inferInstanceAs (Decidable (_≠_))
def rT(S:Int→Bool)(top i:Int)(t:Tie):Tie:=if t.2.2.2.1=true∧t.2.2.1=i∧both S t=true then ACV top t else t
def rO(S:Int→Bool)(top i:Int)(t:Tie):Tie:=if t.2.2.2.1=false∧t.2.2.1=i∧both S t=true then ACV top t else t
def rB(S:Int→Bool)(top i:Int)(t:Tie):Tie:=if t.2.2.1=i∧both S t=true then ACV top t else t
theorem AJO(S:Int→Bool)(top i:Int)(t:Tie):ed (rT S top i t)=ed t:=by unfold rT;split<;>rfl
theorem Ajo(S:Int→Bool)(top i:Int)(t:Tie):ed (rO S top i t)=ed t:=by unfold rO;split<;>rfl
theorem N5(S:Int→Bool)(top i:Int)(t:Tie):(rT S top i t).2.2.2.1=t.2.2.2.1:=by unfold rT;split<;>rfl
theorem AMl(S:Int→Bool)(top i:Int)(t:Tie):(rO S top i t).2.2.2.1=t.2.2.2.1:=by unfold rO;split<;>rfl
theorem AMk{S:Int→Bool}{top i:Int}{t:Tie}(h:t.2.2.1≤top):t.2.2.1≤(rT S top i t).2.2.1∧(rT S top i t).2.2.1≤top:=by
 unfold rT
 split
 ·show t.2.2.1≤min top (t.2.2.1+1)∧min top (t.2.2.1+1)≤top
  omega
 ·omega
theorem AX2{S:Int→Bool}{top i:Int}{t:Tie}(h:t.2.2.1≤top):t.2.2.1≤(rO S top i t).2.2.1∧(rO S top i t).2.2.1≤top:=by
 unfold rO
 split
 ·show t.2.2.1≤min top (t.2.2.1+1)∧min top (t.2.2.1+1)≤top
  omega
 ·omega
theorem AX1{S:Int→Bool}{top i:Int}{t:Tie}(h:t.2.2.2.1=true):rO S top i t=t:=by
 unfold rO
 rw[ArM]
 rintro⟨a,_⟩
 rw[h]at a;cases a
theorem Me{S:Int→Bool}{top i:Int}{t:Tie}(h:t.2.2.2.1=false):rT S top i t=t:=by
 unfold rT
 rw[ArM]
 rintro⟨a,_⟩
 rw[h]at a;cases a
theorem ALR{f:Tie→Tie}(k:Int)(h1:∀ t,ed (f t)=ed t)(h2:∀ t,(f t).2.2.2.1=t.2.2.2.1)(ts:List Tie)(h3:∀ t∈ts,t.2.2.2.1=true→(k≤(f t).2.2.1↔k≤t.2.2.1)):trk (ts.map f) k=trk ts k:=by
 induction ts with
 |nil=>rfl
 |cons t ts ih=>
  have:=ih fun x hx=>h3 x (by simp[hx])
  unfold trk at *
  rw[Aru,AsS,AsS,h2]
  have ht:=h3 t (by simp)
  cases hh:t.2.2.2.1
  ·simp only[Bool.false_and,ArV,ArY];exact this
  ·have hd:decide (k≤(f t).2.2.1)=decide (k≤t.2.2.1):=AsX.2 (ht hh)
   rw[hd]
   simp only[Bool.true_and]
   split
   ·rw[Aru,Aru,h1,this]
   ·exact this
section
variable {N:Nat} {top:Int} {O:List Tie} {S:Int→Bool} {i:Int} {c:Int}
theorem P1{k:Int}{e:Edge}:e∈trk (O.map (rT S top i)) k↔∃ t∈O,t.2.2.2.1=true∧k≤(rT S top i t).2.2.1∧ed t=e:=by
 rw[Dk]
 constructor
 ·rintro⟨t,ht,h1,h2,h3⟩
  obtain⟨x,hx,rfl⟩:=ArT.1 ht
  rw[N5]at h1
  rw[AJO]at h3
  exact⟨x,hx,h1,h2,h3⟩
 ·rintro⟨t,ht,h1,h2,h3⟩
  exact⟨_,ArT.2 ⟨t,ht,rfl⟩,by rw[N5];exact h1,h2,by rw[AJO];exact h3⟩
theorem CY{k:Int}(hk:k≤i)(hit:i≤top):trk (O.map (rT S top i)) k=trk O k:=by
 refine ALR k (AJO S top i) (N5 S top i) O fun t _ _ => ?_
 unfold rT
 split
 ·rename_i h
  show k≤min top (t.2.2.1+1)↔_
  omega
 ·rfl
theorem AQj{k:Int}(hk:i+2≤k):trk (O.map (rT S top i)) k=trk O k:=by
 refine ALR k (AJO S top i) (N5 S top i) O fun t _ _ => ?_
 unfold rT
 split
 ·rename_i h
  show k≤min top (t.2.2.1+1)↔_
  omega
 ·rfl
theorem KY(hl:∀ t∈O,t.2.2.1≤top)(k:Int):∀ e∈trk O k,e∈trk (O.map (rT S top i)) k:=by
 intro e he
 obtain⟨t,h1,h2,h3,h4⟩:=Dk.1 he
 have:=AMk (S:=S) (i:=i) (hl t h1)
 exact P1.2 ⟨t,h1,h2,by omega,h4⟩
variable (hS:∀ a b,Con (trk O i) a b→S a=S b)
include hS
theorem AmM(hl:∀ t∈O,t.2.2.1≤top)(hit:i+1≤top){a b:Int}(h:Con (trk O i) a b)(ha:S a=true):Con (trk (O.map (rT S top i)) (i+1)) a b:=by
 have key:∀ {a b:Int},Con (trk O i) a b→S a=true→Con (trk (O.map (rT S top i)) (i+1)) a b:=by
  intro a b h
  induction h with
  |refl a=>intro _;exact .refl a
  |edge e he=>
   intro ha
   obtain⟨t,h1,h2,h3,rfl⟩:=Dk.1 he
   have hb:S t.2.1=true:=by
    have:=hS _ _ (.edge _ he)
    exact this.symm.trans ha
   have hm:ed t∈trk (O.map (rT S top i)) (i+1):=by
    refine P1.2 ⟨t,h1,h2,?_,rfl⟩
    by_cases hlv:t.2.2.1=i
    ·unfold rT
     rw[ArQ ⟨h2,hlv,by unfold both;rw[show S t.1=true from ha,hb];rfl⟩]
     show i+1≤min top (t.2.2.1+1)
     omega
    ·have:=AMk (S:=S) (i:=i) (hl t h1)
     omega
   exact .edge _ hm
  |symm h ih=>
   intro ha
   exact(ih (by rw[hS _ _ h];exact ha)).symm
  |trans h1 _ ih1 ih2=>
   intro ha
   exact(ih1 ha).trans (ih2 (by rw[← hS _ _ h1];exact ha))
 exact key h ha
theorem AVI(hit:i≤top){a b:Int}(h:Con (trk (O.map (rT S top i)) (i+1)) a b)(ha:S a=false):Con (trk O (i+1)) a b:=by
 have low:∀ {a b:Int},Con (trk (O.map (rT S top i)) (i+1)) a b→S a=S b:=fun h=>hS _ _ (by
  have:=h.sub (Jf (ts:=O.map (rT S top i)) (show i≤i+1 by omega))
  rw[CY (Aub i) hit]at this
  exact this)
 have key:∀ {a b:Int},Con (trk (O.map (rT S top i)) (i+1)) a b→S a=false→Con (trk O (i+1)) a b:=by
  intro a b h
  induction h with
  |refl a=>intro _;exact .refl a
  |edge e he=>
   intro ha
   obtain⟨t,h1,h2,h3,rfl⟩:=P1.1 he
   refine .edge _ (Dk.2 ⟨t,h1,h2,?_,rfl⟩)
   unfold rT at h3
   rw[ArM]at h3
   ·exact h3
   ·rintro⟨_,_,hb⟩
    unfold both at hb
    rw[show S t.1=false from ha]at hb
    cases hb
  |symm h ih=>
   intro ha
   exact(ih (by rw[low h];exact ha)).symm
  |trans h1 _ ih1 ih2=>
   intro ha
   exact(ih1 ha).trans (ih2 (by rw[← low h1];exact ha))
 exact key h ha
end
end Go.Pev.Pl
end
section
namespace Go.Pev.Pl
theorem Fo.Ach{N:Nat}{l:List Edge}{e:Edge}(h:Fo N (l++[e]))(hl:∀ x∈l,InE N x)(he:InE N e):¬ Con l e.1 e.2.1:=by
 intro hc
 have h1:=APX (N:=N) (l:=l) he
 rw[ArQ ((CW _ _ _).2 hc)]at h1
 have h2:=Ame l hl
 unfold Fo at h
 rw[ArJ,List.length_singleton]at h
 omega
theorem Zw{N:Nat}{O:List Tie}(h:∀ x∈O,InE N (ed x))(k:Int):∀ e∈trk O k,InE N e:=by
 intro e he
 obtain⟨t,h1,_,_,rfl⟩:=Dk.1 he
 exact h t h1
theorem EI(A B:List Tie)(k:Int):trk (A++B) k=trk A k++trk B k:=by
 unfold trk;rw[AsY,Ar9]
theorem Tg(S:Int→Bool)(top i:Int)(A:List Tie)(k:Int):trk (A.map (rO S top i)) k=trk A k:=
 ALR k (Ajo S top i) (AMl S top i) A fun t _ h=>by rw[AX1 h]
structure Snd(N:Nat)(top:Int)(O:List Tie):Prop where
 lvl:∀ x∈O,0≤x.2.2.1∧x.2.2.1≤top
 ins:∀ x∈O,InE N (ed x)
 fo:Fo N (trk O 0)
 lie:∀ x∈O,x.2.2.2.1=false→Con (trk O x.2.2.1) x.1 x.2.1
 halv:∀ k:Nat,(k:Int)≤top→∀ v:Nat,v<N→csz N (trk O k) v≤max 1 (N/2 ^ k)
structure PK(N:Nat)(top:Int)(t:Edge)(j:Int)(O:List Tie):Prop where
 lvl:∀ x∈O,0≤x.2.2.1∧x.2.2.1≤top
 ins:∀ x∈O,InE N (ed x)
 it:InE N t
 fo:Fo N (trk O 0++[t])
 lie1:∀ x∈O,x.2.2.2.1=false→j≤x.2.2.1→Con (trk O x.2.2.1) x.1 x.2.1
 lie2:∀ x∈O,x.2.2.2.1=false→x.2.2.1<j→Con (trk O x.2.2.1++[t]) x.1 x.2.1
 halv:∀ k:Nat,(k:Int)≤top→∀ v:Nat,v<N→csz N (trk O k) v≤max 1 (N/2 ^ k)
 halt:∀ k:Nat,(k:Int)<j→(k:Int)≤top→∀ v:Nat,v<N→csz N (trk O k++[t]) v≤max 1 (N/2 ^ k)
structure Qh(N:Nat)(t:Edge)(i:Nat)(O:List Tie)(S:Int→Bool)(c:Nat):Prop where
 cN:c<N
 at_:t.1=(c:Int)∨t.2.1=(c:Int)
 side:∀ w:Nat,w<N→(S (w:Int)=true↔Con (trk O i) (c:Int) (w:Int))
 less:2*csz N (trk O i) (c:Int)≤csz N (trk O i) t.1+csz N (trk O i) t.2.1
section
variable {N:Nat} {top:Int} {t:Edge} {O:List Tie} {S:Int→Bool} {i c:Nat}
theorem Qh.closed(hL:Qh N t i O S c)(hi:∀ x∈O,InE N (ed x)):∀ a b,Con (trk O i) a b→S a=S b:=by
 intro a b h
 rcases Con.within (I:=fun a=>0≤a∧a<(N:Int)) (fun e he=>Zw hi i e he) h with rfl|⟨⟨a1,a2⟩,b1,b2⟩
 ·rfl
 ·obtain⟨u,rfl⟩:=ArR a1
  obtain⟨v,rfl⟩:=ArR b1
  have h1:=hL.side u (by omega)
  have h2:=hL.side v (by omega)
  rw[AsT,h1,h2]
  exact⟨fun q=>q.trans h,fun q=>q.trans h.symm⟩
theorem Qh.Ac5(hL:Qh N t i O S c):S (c:Int)=true:=(hL.side c hL.cN).2 (.refl _)
theorem Qh.con(hL:Qh N t i O S c){a b:Int}(ia:0≤a∧a<(N:Int))(ib:0≤b∧b<(N:Int))(ha:S a=true)(hb:S b=true):Con (trk O i) a b:=by
 obtain⟨u,rfl⟩:=ArR ia.1
 obtain⟨v,rfl⟩:=ArR ib.1
 exact((hL.side u (by omega)).1 ha).symm.trans ((hL.side v (by omega)).1 hb)
variable (hG:PK N top t ((i:Int)+1) O) (hit:(i:Int)≤top) (hL:Qh N t i O S c)
include hG
theorem PK.apart(k:Nat):¬ Con (trk O (k:Int)) t.1 t.2.1:=fun h=>hG.fo.Ach (Zw hG.ins 0) hG.it (h.sub (Jf (by omega)))
include hit hL
theorem PK.half(hi1:(i:Int)+1≤top):csz N (trk O i) (c:Int)≤N/2 ^ (i+1):=by
 obtain⟨⟨a1,a2⟩,b1,b2⟩:=hG.it
 obtain⟨u,hu⟩:=ArR a1
 have hj:=AmJ (N:=N) (hG.apart i)
 have hh:=hG.halt i (by omega) hit u (by omega)
 rw[← hu,hj]at hh
 have hp:=Ao9 (N:=N) (l:=trk O i) hL.cN
 have hl:=hL.less
 have e:N/2 ^ (i+1)=N/2 ^ i/2:=by rw[Nat.pow_succ,Nat.div_div_eq_div_mul]
 rw[e]
 omega
theorem PK.Apg(k:Nat)(hk:(k:Int)≤top)(v:Nat)(hv:v<N):csz N (trk (O.map (rT S top i)) k) v≤max 1 (N/2 ^ k):=by
 have hS:=hL.closed hG.ins
 have hl:∀ x∈O,x.2.2.1≤top:=fun x hx=>(hG.lvl x hx).2
 rcases AuZ k (i+1)with h|rfl|h
 ·rw[CY (by omega) hit];exact hG.halv k hk v hv
 ·cases hsv:S (v:Int)
  ·refine AsD (AOz fun w hw hc => ?_) (hG.halv (i+1) hk v hv)
   have:=AVI hS hit (a:=(v:Int)) (b:=(w:Int)) (by simpa using hc) hsv
   simpa using this
  ·have hle:csz N (trk (O.map (rT S top i)) ((i+1:Nat):Int)) v≤csz N (trk O i) (c:Int):=AOz fun w hw hc=>by
    have h1:=hc.sub (Jf (ts:=O.map (rT S top i)) (show(i:Int)≤((i+1:Nat):Int) by omega))
    rw[CY (Aub _) hit]at h1
    exact((hL.side v hv).1 hsv).trans h1
   have:=hG.half hit hL (by omega)
   omega
 ·rw[AQj (by omega)];exact hG.halv k hk v hv
omit hL
theorem ACW{x:Tie}(hx:x∈O.map (rT S top i))(h:x.2.2.2.1=false):x∈O:=by
 obtain⟨y,hy,rfl⟩:=ArT.1 hx
 rw[N5]at h
 rw[Me h];exact hy
include hL
theorem PK.AEA{x:Tie}(hx:x∈O)(h1:x.2.2.1=(i:Int))(h2:both S x=true):Con (trk (O.map (rT S top i)) (min top (x.2.2.1+1))) x.1 x.2.1:=by
 have hS:=hL.closed hG.ins
 unfold both at h2
 rw[ArL]at h2
 have hc:=hL.con (hG.ins x hx).1 (hG.ins x hx).2 h2.1 h2.2
 by_cases hi1:(i:Int)+1≤top
 ·rw[h1,Atn hi1]
  exact AmM hS (fun x hx=>(hG.lvl x hx).2) hi1 hc h2.1
 ·rw[h1,Atx (by omega),show top=(i:Int) by omega]
  have:=CY (O:=O) (S:=S) (top:=top) (i:=(i:Int)) (k:=(i:Int)) (Aub _) hit
  rw[show top=(i:Int) by omega]at this
  rw[this];exact hc
theorem PK.next(hno:∀ x∈O.map (rT S top i),x.2.2.2.1=false→x.2.2.1=(i:Int)→¬ AdG S x):PK N top t (i:Int) ((O.map (rT S top i)).map (rO S top i)):=by
 have hS:=hL.closed hG.ins
 have hl:∀ x∈O,x.2.2.1≤top:=fun x hx=>(hG.lvl x hx).2
 have hmem:∀ x∈(O.map (rT S top i)).map (rO S top i),∃ y∈O,x=rO S top i (rT S top i y):=fun x hx=>by
  obtain⟨z,hz,rfl⟩:=ArT.1 hx
  obtain⟨y,hy,rfl⟩:=ArT.1 hz
  exact⟨y,hy,rfl⟩
 have hlv:∀ y∈O,y.2.2.1≤(rO S top i (rT S top i y)).2.2.1∧(rO S top i (rT S top i y)).2.2.1≤top:=fun y hy=>by
  have h1:=AMk (S:=S) (i:=(i:Int)) (hl y hy)
  have h2:=AX2 (S:=S) (i:=(i:Int)) h1.2
  omega
 have hoth:∀ x∈(O.map (rT S top i)).map (rO S top i),x.2.2.2.1=false→∃ y∈O,y.2.2.2.1=false∧x=rO S top i y:=fun x hx h=>by
  obtain⟨y,hy,rfl⟩:=hmem x hx
  rw[AMl,N5]at h
  exact⟨y,hy,h,by rw[Me h]⟩
 refine⟨fun x hx => ?_,fun x hx => ?_,hG.it,?_,fun x hx h hj => ?_,fun x hx h hj => ?_,fun k hk v hv => ?_,fun k hk1 hk2 v hv => ?_⟩
 ·obtain⟨y,hy,rfl⟩:=hmem x hx
  have:=hlv y hy
  have:=(hG.lvl y hy).1
  omega
 ·obtain⟨y,hy,rfl⟩:=hmem x hx
  rw[Ajo,AJO];exact hG.ins y hy
 ·rw[Tg,CY (by omega) hit];exact hG.fo
 ·obtain⟨y,hy,hf,rfl⟩:=hoth x hx h
  rw[Tg]
  by_cases hr:y.2.2.1=(i:Int)∧both S y=true
  ·have he:rO S top i y=ACV top y:=by unfold rO;rw[ArQ ⟨hf,hr.1,hr.2⟩]
   rw[he]
   exact hG.AEA hit hL hy hr.1 hr.2
  ·have he:rO S top i y=y:=by unfold rO;rw[ArM (fun q=>hr ⟨q.2.1,q.2.2⟩)]
   rw[he]at hj ⊢
   by_cases hi:y.2.2.1=(i:Int)
   ·have hnb:¬ both S y=true:=fun q=>hr ⟨hi,q⟩
    have hne:=hno y (ArT.2 ⟨y,hy,Me hf⟩) hf hi
    have h2:=hG.lie2 y hy hf (by omega)
    rw[hi,CY (Aub _) hit]
    rw[hi]at h2
    unfold AdG at hne
    have hne:=AtW.1 hne
    have hfalse:S y.1=false∧S y.2.1=false:=by
     unfold both at hnb
     rw[← hne]at hnb ⊢
     cases hsy:S y.1
     ·exact⟨rfl,rfl⟩
     ·rw[hsy]at hnb;exact absurd rfl hnb
    rw[Con.snoc]at h2
    rcases h2 with h2|⟨q1,q2⟩|⟨q1,q2⟩
    ·exact h2
    ·have e1:=hS _ _ q1
     have e2:=hS _ _ q2
     rcases hL.at_ with hc|hc
     ·rw[hc,hL.Ac5,hfalse.1]at e1;cases e1
     ·rw[hc,hL.Ac5,hfalse.2]at e2;cases e2
    ·have e1:=hS _ _ q1
     have e2:=hS _ _ q2
     rcases hL.at_ with hc|hc
     ·rw[hc,hL.Ac5,hfalse.2]at e2;cases e2
     ·rw[hc,hL.Ac5,hfalse.1]at e1;cases e1
   ·exact(hG.lie1 y hy hf (by omega)).sub (KY hl _)
 ·obtain⟨y,hy,hf,rfl⟩:=hoth x hx h
  have h1:=AX2 (S:=S) (i:=(i:Int)) (hl y hy)
  have he:rO S top i y=y:=by unfold rO;rw[ArM (fun q=>by have:=q.2.1;omega)]
  rw[he]at hj ⊢
  rw[Tg,CY (by omega) hit]
  exact hG.lie2 y hy hf (by omega)
 ·rw[Tg];exact hG.Apg hit hL k hk v hv
 ·rw[Tg,CY (by omega) hit];exact hG.halt k (by omega) hk2 v hv
theorem PK.found{A B:List Tie}{x:Tie}(hsp:O.map (rT S top i)=A++x::B)(hf:x.2.2.2.1=false)(hi:x.2.2.1=(i:Int))(hx:AdG S x):
  Snd N top (A.map (rO S top i)++GJ x::B)∧Con (trk (A.map (rO S top i)++GJ x::B) 0) t.1 t.2.1:=by
 have hS:=hL.closed hG.ins
 have hl:∀ x∈O,x.2.2.1≤top:=fun x hx=>(hG.lvl x hx).2
 have hxM:x∈O.map (rT S top i):=by rw[hsp];simp
 have hxO:x∈O:=ACW hG hit hxM hf
 have hAm:∀ y∈A,y∈O.map (rT S top i):=fun y hy=>by rw[hsp];simp[hy]
 have hBm:∀ y∈B,y∈O.map (rT S top i):=fun y hy=>by rw[hsp];simp[hy]
 have hml:∀ y∈O.map (rT S top i),0≤y.2.2.1∧y.2.2.1≤top:=fun y hy=>by
  obtain⟨z,hz,rfl⟩:=ArT.1 hy
  have:=AMk (S:=S) (i:=(i:Int)) (hl z hz)
  have:=(hG.lvl z hz).1
  omega
 have hme:∀ y∈O.map (rT S top i),InE N (ed y):=fun y hy=>by
  obtain⟨z,hz,rfl⟩:=ArT.1 hy
  rw[AJO];exact hG.ins z hz
 have hxt:trk [x]=fun _=>[]:=by
  funext k
  unfold trk
  rw[AsS,hf]
  rfl
 have hat:∀ k,trk [GJ x] k=if k≤(i:Int)then [ed x]else []:=by
  intro k
  unfold trk
  have q1:(GJ x).2.2.1=(i:Int):=hi
  have q2:(GJ x).2.2.2.1=true:=rfl
  rw[AsS,q1,q2]
  by_cases hk:k≤(i:Int)
  ·rw[ArQ hk,ArD hk];rfl
  ·rw[ArM hk,ArC hk];rfl
 have hM:∀ k,trk (O.map (rT S top i)) k=trk A k++trk B k:=by
  intro k
  rw[hsp,show A++x::B=A++([x]++B)from rfl,EI,EI,hxt,Ary]
 have hO':∀ k,trk (A.map (rO S top i)++GJ x::B) k=trk A k++((if k≤(i:Int)then [ed x]else [])++trk B k):=by
  intro k
  rw[show A.map (rO S top i)++GJ x::B=A.map (rO S top i)++([GJ x]++B)from rfl,EI,EI,Tg,hat]
 have hsup:∀ k,∀ e∈trk (O.map (rT S top i)) k,e∈trk (A.map (rO S top i)++GJ x::B) k:=by
  intro k e he
  rw[hM]at he
  rw[hO']
  rcases ArI.1 he with he|he
  ·exact ArI.2 (.inl he)
  ·exact ArI.2 (.inr (ArI.2 (.inr he)))
 have hxin:∀ k,k≤(i:Int)→ed x∈trk (A.map (rO S top i)++GJ x::B) k:=by
  intro k hk
  rw[hO',ArQ hk];simp
 have h2:=hG.lie2 x hxO hf (by omega)
 rw[hi]at h2
 have ht:Con (trk O i++[ed x]) t.1 t.2.1:=by
  have up:∀ {a b:Int},Con (trk O i) a b→Con (trk O i++[ed x]) a b:=fun c=>c.sub fun e he=>ArI.2 (.inl he)
  have hxe:Con (trk O i++[ed x]) x.1 x.2.1:=.edge (l:=trk O i++[ed x]) (ed x) (by simp)
  rw[Con.snoc]at h2
  rcases h2 with h2|⟨q1,q2⟩|⟨q1,q2⟩
  ·exact absurd (hS _ _ h2) hx
  ·exact((up q1).symm.trans hxe).trans (up q2).symm
  ·exact((up q2).trans hxe.symm).trans (up q1)
 have ht':∀ k,k≤(i:Int)→Con (trk (A.map (rO S top i)++GJ x::B) k) t.1 t.2.1:=by
  intro k hk
  refine ht.sub fun e he => ?_
  rcases ArI.1 he with he|he
  ·exact Jf hk _ (hsup _ _ (KY hl _ _ he))
  ·rw[Arx]at he;subst he;exact hxin k hk
 refine⟨⟨fun y hy => ?_,fun y hy => ?_,?_,fun y hy h => ?_,fun k hk v hv => ?_⟩,ht' 0 (by omega)⟩
 ·rcases ArI.1 hy with hy|hy
  ·obtain⟨z,hz,rfl⟩:=ArT.1 hy
   have h1:=hml z (hAm z hz)
   have:=AX2 (S:=S) (i:=(i:Int)) h1.2
   omega
  ·rcases ArK.1 hy with rfl|hy
   ·exact hG.lvl x hxO
   ·exact hml y (hBm y hy)
 ·rcases ArI.1 hy with hy|hy
  ·obtain⟨z,hz,rfl⟩:=ArT.1 hy
   rw[Ajo];exact hme z (hAm z hz)
  ·rcases ArK.1 hy with rfl|hy
   ·exact hG.ins x hxO
   ·exact hme y (hBm y hy)
 ·rw[hO',ArQ (by omega)]
  have hM0:=hM 0
  rw[CY (by omega) hit]at hM0
  have hp:(trk A 0++([ed x]++trk B 0)).Perm (trk O 0++[ed x]):=by
   rw[hM0,Art]
   exact List.Perm.append_left _ AtN
  refine Fo.perm ?_ hp.symm
  have hfo:=hG.fo
  have hcc:cc N (trk O 0++[ed x])=cc N (trk O 0++[t]):=AF6 fun a b=>by
   have m0:=Jf (ts:=O) (show(0:Int)≤(i:Int) by omega)
   constructor
   ·intro c
    refine c.cut fun e he => ?_
    rcases ArI.1 he with he|he
    ·exact .edge _ (ArI.2 (.inl he))
    ·rw[Arx]at he;subst he
     refine h2.sub fun e he => ?_
     rcases ArI.1 he with he|he
     ·exact ArI.2 (.inl (m0 _ he))
     ·exact ArI.2 (.inr he)
   ·intro c
    refine c.cut fun e he => ?_
    rcases ArI.1 he with he|he
    ·exact .edge _ (ArI.2 (.inl he))
    ·rw[Arx]at he;subst he
     refine ht.sub fun e he => ?_
     rcases ArI.1 he with he|he
     ·exact ArI.2 (.inl (m0 _ he))
     ·exact ArI.2 (.inr he)
  unfold Fo at hfo ⊢
  rw[hcc,ArJ]at *
  exact hfo
 ·-- others
  have key:∀ y:Tie,y∈O→y.2.2.2.1=false→Con (trk (A.map (rO S top i)++GJ x::B) y.2.2.1) y.1 y.2.1:=by
   intro y hy h
   by_cases hle:y.2.2.1≤(i:Int)
   ·refine(hG.lie2 y hy h (by omega)).cut fun e he => ?_
    rcases ArI.1 he with he|he
    ·exact .edge _ (hsup _ _ (KY hl _ _ he))
    ·rw[Arx]at he;subst he;exact ht' _ hle
   ·exact(hG.lie1 y hy h (by omega)).sub fun e he=>hsup _ _ (KY hl _ _ he)
  rcases ArI.1 hy with hy|hy
  ·obtain⟨z,hz,rfl⟩:=ArT.1 hy
   rw[AMl]at h
   have hzO:=ACW hG hit (hAm z hz) h
   by_cases hr:z.2.2.1=(i:Int)∧both S z=true
   ·have he:rO S top i z=ACV top z:=by unfold rO;rw[ArQ ⟨h,hr.1,hr.2⟩]
    rw[he]
    exact(hG.AEA hit hL hzO hr.1 hr.2).sub (hsup _)
   ·have he:rO S top i z=z:=by unfold rO;rw[ArM (fun q=>hr ⟨q.2.1,q.2.2⟩)]
    rw[he]
    exact key z hzO h
  ·rcases ArK.1 hy with rfl|hy
   ·cases h
   ·exact key y (ACW hG hit (hBm y hy) h) h
 ·by_cases hki:(k:Int)≤(i:Int)
  ·refine AsD (AOz fun w hw hc => ?_) (hG.halt k (by omega) hk v hv)
   refine hc.cut fun e he => ?_
   rw[hO',ArQ hki]at he
   have hMk:=hM (k:Int)
   rw[CY hki hit]at hMk
   rcases ArI.1 he with he|he
   ·exact .edge _ (ArI.2 (.inl (by rw[hMk];simp[he])))
   ·rcases ArI.1 he with he|he
    ·rw[Arx]at he;subst he
     refine h2.sub fun e he => ?_
     rcases ArI.1 he with he|he
     ·exact ArI.2 (.inl (Jf hki _ he))
     ·exact ArI.2 (.inr he)
    ·exact .edge _ (ArI.2 (.inl (by rw[hMk];simp[he])))
  ·have:trk (A.map (rO S top i)++GJ x::B) (k:Int)=trk (O.map (rT S top i)) (k:Int):=by
    rw[hO',ArM hki,hM];rfl
   rw[this]
   exact hG.Apg hit hL k hk v hv
end
theorem PK.end{N:Nat}{top:Int}{t:Edge}{O:List Tie}(h:PK N top t 0 O):Snd N top O∧¬ Con (trk O 0) t.1 t.2.1:=by
 refine⟨⟨h.lvl,h.ins,h.fo.front (Zw h.ins 0) (fun e he=>by rw[Arx]at he;subst he;exact h.it),fun x hx hf=>h.lie1 x hx hf (h.lvl x hx).1,h.halv⟩,h.fo.Ach (Zw h.ins 0) h.it⟩
theorem Snd.other{N:Nat}{top:Int}{P Q:List Tie}{t:Tie}(h:Snd N top (P++t::Q))(ht:t.2.2.2.1=false):Snd N top (P++Q):=by
 have hm:∀ x∈P++Q,x∈P++t::Q:=fun x hx=>by
  rcases ArI.1 hx with hx|hx
  ·simp[hx]
  ·simp[hx]
 have htk:∀ k,trk (P++t::Q) k=trk (P++Q) k:=by
  intro k
  rw[show P++t::Q=P++([t]++Q)from rfl,EI,EI,EI]
  congr 1
  unfold trk
  rw[AsS,ht]
  rfl
 refine⟨fun x hx=>h.lvl x (hm x hx),fun x hx=>h.ins x (hm x hx),by rw[← htk];exact h.fo,fun x hx hf=>by rw[← htk];exact h.lie x (hm x hx) hf,fun k hk v hv=>by rw[← htk];exact h.halv k hk v hv⟩
end Go.Pev.Pl
end
section
namespace Go.Pev.Pl
theorem Snd.below{N:Nat}{top:Nat}{O:List Tie}(h:Snd N (top:Int) O)(hN:N/2 ^ top≤1){x:Tie}(hx:x∈O)(hne:x.1≠x.2.1):x.2.2.1<(top:Int):=by
 have hl:=h.lvl x hx
 refine AsU fun hn => ?_
 have he:x.2.2.1=(top:Int):=by omega
 obtain⟨⟨a1,a2⟩,b1,b2⟩:=h.ins x hx
 obtain⟨u,hu⟩:=ArR a1
 obtain⟨v,hv⟩:=ArR b1
 have hc:Con (trk O (top:Int)) x.1 x.2.1:=by
  cases hf:x.2.2.2.1
  ·have:=h.lie x hx hf
   rw[he]at this;exact this
  ·exact .edge (l:=trk O (top:Int)) (ed x) (Dk.2 ⟨x,hx,hf,by omega,rfl⟩)
 have hu':x.1=(u:Int):=hu
 have hv':x.2.1=(v:Int):=hv
 rw[hu',hv']at hc hne
 have h2:=Ao8 (N:=N) (a:=u) (b:=v) (by omega) (by omega) (by omega) hc
 have h3:=h.halv top (Aub _) u (by omega)
 omega
theorem Snd.grown{N:Nat}{top:Int}{O O':List Tie}{come:List Edge}{new:List Tie}(h:Snd N top O)(ht:0≤top)(hp:O'.Perm (O++new))(hc:∀ e∈come,InE N e)
  (hn:∀ x∈new,x.2.2.1=0∧ed x∈come) (htr:(trk O' 0).Perm (trk O 0++MJ (trk O 0) come)):Snd N top O':=by
 have hmem:∀ x,x∈O'↔x∈O∨x∈new:=fun x=>by rw[hp.mem_iff,ArI]
 have hk:∀ k:Int,0<k→∀ e,e∈trk O' k↔e∈trk O k:=by
  intro k hk e
  rw[Dk,Dk]
  constructor
  ·rintro⟨t,h1,h2,h3,h4⟩
   rcases(hmem t).1 h1 with h1|h1
   ·exact⟨t,h1,h2,h3,h4⟩
   ·have:=(hn t h1).1;omega
  ·rintro⟨t,h1,h2,h3,h4⟩
   exact⟨t,(hmem t).2 (.inl h1),h2,h3,h4⟩
 have hsup:∀ k:Int,∀ e∈trk O k,e∈trk O' k:=fun k e he=>by
  obtain⟨t,h1,h2,h3,h4⟩:=Dk.1 he
  exact Dk.2 ⟨t,(hmem t).2 (.inl h1),h2,h3,h4⟩
 refine⟨fun x hx => ?_,fun x hx => ?_,?_,fun x hx hf => ?_,fun k hkt v hv => ?_⟩
 ·rcases(hmem x).1 hx with hx|hx
  ·exact h.lvl x hx
  ·have:=(hn x hx).1;omega
 ·rcases(hmem x).1 hx with hx|hx
  ·exact h.ins x hx
  ·exact hc _ (hn x hx).2
 ·refine Fo.perm ?_ htr.symm
  have h1:=OS come (trk O 0) hc
  have h2:cc N (trk O 0++come)=cc N (trk O 0++MJ (trk O 0) come):=AF6 fun a b=>AFp come (trk O 0)
  have h3:=h.fo
  unfold Fo at *
  rw[ArJ]
  omega
 ·rcases(hmem x).1 hx with hx|hx
  ·exact(h.lie x hx hf).sub (hsup _)
  ·obtain⟨h0,he⟩:=hn x hx
   rw[h0,AO8 fun e=>htr.mem_iff,← AFp]
   exact .edge (l:=trk O 0++come) (ed x) (ArI.2 (.inr he))
 ·by_cases hk0:k=0
  ·subst hk0
   have:csz N (trk O' ((0:Nat):Int)) (v:Int)≤N:=by
    unfold csz
    have:=List.countP_le_length (p:=fun(w:Nat)=>NI (trk O' ((0:Nat):Int)) (v:Int) (w:Int)) (l:=List.range N)
    rw[Are]at this
    exact this
   simp only[Nat.pow_zero,Nat.div_one]
   omega
  ·exact AsD (AOz fun w hw c=>c.sub fun e he=>(hk k (by omega) e).1 he) (h.halv k hkt v hv)
end Go.Pev.Pl
end
section
namespace Go.Pev.Pl
end Go.Pev.Pl
end
section
section
namespace Go.Pev.Pl
structure UF(N:Nat)(s:List Int)(c:Int→Int):Prop where
 len:s.length=N
 lo:∀ k,k<N→0≤s.getD k 0∧s.getD k 0≤(k:Int)
 par:∀ k,k<N→c (s.getD k 0)=c (k:Int)
 root:∀ k,k<N→s.getD k 0=(k:Int)→c (k:Int)=(k:Int)
 le:∀ k,k<N→0≤c (k:Int)∧c (k:Int)≤(k:Int)
theorem UF.idem{N:Nat}{s:List Int}{c:Int→Int}(h:UF N s c):∀ (m k:Nat),k≤m→k<N→c (c (k:Int))=c (k:Int):=by
 intro m
 induction m with
 |zero=>
  intro k hk hN
  have:=h.le k hN
  have e:c (k:Int)=(k:Int):=by omega
  rw[e,e]
 |succ m ih=>
  intro k hk hN
  have h1:=h.lo k hN
  by_cases hr:s.getD k 0=(k:Int)
  ·have e:=h.root k hN hr
   rw[e,e]
  ·obtain⟨j,hj⟩:=ArR h1.1
   have hp:=h.par k hN
   rw[hj]at hp
   rw[← hp]
   exact ih j (by omega) (by omega)
theorem UF.top{N:Nat}{s:List Int}{c:Int→Int}(h:UF N s c){k:Nat}(hk:k<N):s.getD (c (k:Int)).toNat 0=c (k:Int):=by
 have h1:=h.le k hk
 obtain⟨j,hj⟩:=ArR h1.1
 have hi:=h.idem k k (ArP _) hk
 rw[hj]at hi ⊢
 have hjN:j<N:=by omega
 have h2:=h.lo j hjN
 have hp:=h.par j hjN
 obtain⟨i,hi'⟩:=ArR h2.1
 rw[hi']at hp
 have h3:=h.le i (by omega)
 show s.getD j 0=_
 omega
theorem Ac1(a b:Int):B6 a b=min a b:=by unfold B6;split<;>omega
theorem Ac2(a b:Int):imax a b=max a b:=by unfold imax;split<;>omega
theorem Fe{N i x:Nat}(h:(List.range N)[i]? = some x):x=i:=by
 rw[ArW]at h
 obtain⟨h1,h2⟩:=h
 simpa using h2.symm
def Apd(c:Int→Int)(u v:Int):Int→Int:=fun x=>if c x=max (c u) (c v)then min (c u) (c v)else c x
def Amw(N:Nat)(c:Int→Int)(l:List Edge):Prop:=∀ a b,In (N:Int) a→In (N:Int) b→(c a=c b↔Con l a b)
theorem Amw.snoc{N:Nat}{c:Int→Int}{l:List Edge}{e:Edge}(h:Amw N c l)(h1:In (N:Int) e.1)(h2:In (N:Int) e.2.1):Amw N (Apd c e.1 e.2.1) (l++[e]):=by
 intro a b ia ib
 rw[Con.snoc,← h a b ia ib,← h a _ ia h1,← h _ b h2 ib,← h a _ ia h2,← h _ b h1 ib]
 unfold Apd
 generalize c a=x
 generalize c b=y
 generalize c e.1=u
 generalize c e.2.1=v
 split<;>split<;>omega
end Go.Pev.Pl
end
section
namespace Go.Pev.Pl
def sh(n:Int):Prop:=0≤n∧n≤65535
instance (n:Int):Decidable (sh n):=inferInstanceAs (Decidable (_∧_))
def tw(n:Int):List Int:=[n/256,n % 256]
theorem Agj{α β:Type}(g:β→α):∀ (xs:List β) (a:List α),xs.foldl (fun a x=>a++[g x]) a=a++xs.map g:=by
 intro xs
 induction xs with
 |nil=>intro a;simp
 |cons x xs ih=>intro a;rw[AsC,ih];simp
end Go.Pev.Pl
end
section
namespace Go.Pev.Pl
abbrev Res:=Int×Int×List Int×Unit
def val(r:Res):Prop:=(0≤r.1∧r.1≤255)∧sh r.2.1∧sh (r.2.2.1.length:Int)∧∀ x∈r.2.2.1,sh x
instance (r:Res):Decidable (val r):=inferInstanceAs (Decidable (_∧_∧_∧_))
def enc(r:Res):List Int:=r.1::(tw r.2.1++(tw (r.2.2.1.length:Int)++r.2.2.1.flatMap tw))
end Go.Pev.Pl
end
section
namespace Go.Pev.Pl
theorem WG(a:Int):ieq a a=true:=by rw[CM];simp
end Go.Pev.Pl
end
section
namespace Go.Pev.Pl
open Go.RowKit Tok
section
variable {n:Int} {rings:List (List Int)}
theorem AUG{l:List Edge}{out:List Int}(h:FC n rings l)(hc:Xo n l out){A:List Int}{u:Int}(hA:A∈rings)(iu:In n u)(hu:u∈A):hd A=cl out u:=by
 have gA:=h.fr.rg A hA
 have ih:=Sn gA
 have hh:=AN7 gA.2.1
 have h1:Con l u (hd A):=(h.sam u (hd A) iu ih).1 ⟨A,hA,hu,hh⟩
 have h2:=hc.least u (hd A) iu ih h1
 have h3:=hc.isin u iu
 obtain⟨K,hK,k1,k2⟩:=(h.sam u _ iu h3).2 (hc.con u iu)
 have:=h.fr.one hA hK iu.2.2.2 hu k1
 subst this
 have h4:=(Fk gA.2.1).2 _ k2
 rw[gA.2.2.1]at h4
 have:hd A=A.headD 0:=rfl
 omega
end
end Go.Pev.Pl
end
section
namespace Go.Pev.Pl
def JG(n:Nat):Int:=((@Ot idI ((n:Int),())).getD (0,())).1
theorem Aq1:((List.range 65).all fun k=>decide (@Ot idI ((k:Int),())=some (JG k,())))=true:=by kernel_rfl
theorem Aql:((List.range 65).all fun k=>decide (@ANi idI ((k:Int),())=some (JG k,())))=true:=by kernel_rfl
theorem Adz(n:Nat)(h:n≤64):Ot ((n:Int),())=some (JG n,()):=by
 rw[show Ot ((n:Int),()) = @Ot idI ((n:Int),())from Asp (fun i=>@Ot i ((n:Int),())) AD9]
 exact AtV (Ark.1 Aq1 n (by simp;omega))
theorem ATl(n:Nat)(h:n≤64):ANi ((n:Int),())=some (JG n,()):=by
 rw[show ANi ((n:Int),()) = @ANi idI ((n:Int),())from Asp (fun i=>@ANi i ((n:Int),())) AD9]
 exact AtV (Ark.1 Aql n (by simp;omega))
def ApD(a b:Int):Int:=if a<b then -1 else if b<a then 1 else 0
theorem AO9(a b:Int):Da (a,b,())=some (ApD a b,()):=by
 rw[Gr,Ec]
 simp only[Km,Ko,WG,ArN]
 unfold ApD
 rw[Ae,Ae]
 by_cases h:a<b
 ·rw[ArD h,ArQ h]
 ·rw[ArC h,ArM h]
  by_cases h':b<a
  ·rw[ArD h',ArQ h']
  ·rw[ArC h',ArM h']
theorem AoA(a b:Int):orI ([a,b],())=some (if a=0 then b else a,()):=by
 rw[ANJ,AJg]
 have e:=Gk (step:=Fj) (fun i=>(0,[a,b],AM [a,b],(i:Int),())) [a,b] (fun x => !decide (x=0)) (fun i=>.inl ([a,b].getD i 0,())) (.inr (.inl (0,()))) (by simp)
  (fun i x hi hx=>by
   rw[Fj,AR,AK,ArD hi]
   simp only[AW hx,Ah]
   have hi2:i<2:=hi
   rw[AN (by omega)]
   have hg:[a,b].getD i 0=x:=by rw[ArF,hx];rfl
   rw[hg]
   by_cases h:x=0
   ·simp[h]
   ·simp[h])
  (by rw[Fj,AR,AK,ArC (by omega)])
 have e':AU Fj many (0,[a,b],AM [a,b],(0:Int),())=_:=e
 rw[e']
 by_cases h:a=0
 ·by_cases h':b=0
  ·simp[h,h']
  ·simp[h,h',At2]
 ·simp[h,At2]
theorem ANp(p x:Tie):∃ y,J0 (p,x,())=some (y,())∧ile 0 y = !decide (ahead p x):=by
 rw[YX,Ku]
 simp only[AO9,AoA]
 refine⟨_,rfl,?_⟩
 rw[An]
 by_cases h:ahead p x
 ·rw[ArD h]
  unfold ahead at h
  unfold ApD
  rw[ArC];· rfl
  split<;>split<;>(try split)<;>omega
 ·rw[ArC h]
  unfold ahead at h
  unfold ApD
  rw[ArD];· rfl
  split<;>split<;>(try split)<;>omega
def MH(N:Nat)(ts:List Tie)(i:Nat):Prop:=
 0≤(ts.getD i zT).1∧(ts.getD i zT).1<(ts.getD i zT).2.1∧(ts.getD i zT).2.1<(N:Int)∧0≤(ts.getD i zT).2.2.1∧(ts.getD i zT).2.2.1≤JG N∧(i=0∨ahead (ts.getD (i-1) zT) (ts.getD i zT))
instance (N:Nat)(ts:List Tie)(i:Nat):Decidable (MH N ts i):=inferInstanceAs (Decidable (_∧_∧_∧_∧_∧_))
def trs(ts:List Tie)(k:Nat):List Edge:=(List.range k).foldl (fun a i=>if(ts.getD i zT).2.2.2.1=true then a++[ed (ts.getD i zT)]else a) []
theorem AQV{α β ρ:Type}(P:β→Prop)[DecidablePred P](g:β→α→α)(fin:α→ρ)(rt:ρ):∀ (xs:List β) (a:α),walk (fun x a=>if P x then .inl (g x a)else .inr rt) fin xs a=if ∀ x∈xs,P x then fin (xs.foldl (fun a x=>g x a) a)else rt:=by
 intro xs
 induction xs with
 |nil=>intro a;simp[walk]
 |cons x xs ih=>
  intro a
  rw[walk]
  by_cases h:P x
  ·rw[ArQ h]
   simp only[]
   rw[ih]
   simp[h]
  ·rw[ArM h]
   simp[h]
theorem AAw(ts:List Tie)(k:Nat):trs ts (k+1)=if(ts.getD k zT).2.2.2.1=true then trs ts k++[ed (ts.getD k zT)]else trs ts k:=by
 unfold trs
 rw[Arz,AtE]
 rfl
theorem ALP(ts:List Tie):∀ k,(trs ts k).length≤k:=by
 intro k
 induction k with
 |zero=>exact ArP _
 |succ k ih=>
  rw[AAw]
  split
  ·rw[ArJ];simp;omega
  ·omega
theorem AnC(ts:List Tie)(e:Edge):∀ k,e∈trs ts k→∃ i,i<k∧e=ed (ts.getD i zT):=by
 intro k
 induction k with
 |zero=>intro h;simp[trs]at h
 |succ k ih=>
  intro h
  rw[AAw]at h
  split at h
  ·rcases ArI.1 h with h|h
   ·obtain⟨i,h1,h2⟩:=ih h;exact⟨i,by omega,h2⟩
   ·simp only[Arx]at h;exact⟨k,by omega,h⟩
  ·obtain⟨i,h1,h2⟩:=ih h;exact⟨i,by omega,h2⟩
def oks(N:Nat)(ts:List Tie):Prop:=∀ i∈List.range ts.length,MH N ts i
instance (N:Nat)(ts:List Tie):Decidable (oks N ts):=inferInstanceAs (Decidable (∀ i∈List.range ts.length,MH N ts i))
theorem ATo(N:Nat)(hN:N≤64)(ts:List Tie)(hs:ts.length≤400):
  AU Dl many ((N:Int),ts,JG N,ts,AM ts,(0:Int),())=some (if oks N ts then .inr (.inl ((N:Int),ts,()))else .inl (false,())):=by
 have e:=DI (step:=Dl) (fun i (_:Unit)=>((N:Int),ts,JG N,ts,AM ts,(i:Int),())) (List.range ts.length) (fun i a=>if MH N ts i then .inl a else .inr (.inl (false,()))) (fun _=>.inr (.inl ((N:Int),ts,()))) (fun _ _=>True) (by simp;omega)
  (fun i x a hi hx _=>by
   have:=Fe hx
   subst this
   rw[Are]at hi
   have step:Dl ((N:Int),ts,JG N,ts,AM ts,(x:Int),())=if MH N ts x then some (.inl ((N:Int),ts,JG N,ts,AM ts,((x+1:Nat):Int),()))else some (.inr (.inl (false,()))):=by
    rw[Dl,AR,AK,ArD hi]
    simp only[L7 zT hi]
    obtain⟨t,ht⟩:∃ t,ts.getD x zT=t:=⟨_,rfl⟩
    have hk:MH N ts x↔(0≤t.1∧t.1<t.2.1∧t.2.1<(N:Int)∧0≤t.2.2.1∧t.2.2.1≤JG N∧(x=0∨ahead (ts.getD (x-1) zT) t)):=by unfold MH;rw[ht]
    rw[ht]
    rw[Ae,An,An,Ae,Ae]
    by_cases h1:t.1<0
    ·rw[ArD h1,ArM (fun h=>by obtain⟨q1,q2,q3,q4,q5,_⟩:=hk.1 h;omega)]
    rw[ArC h1]
    by_cases h2:t.2.1≤t.1
    ·rw[ArD h2,ArM (fun h=>by obtain⟨q1,q2,q3,q4,q5,_⟩:=hk.1 h;omega)]
    rw[ArC h2]
    by_cases h3:(N:Int)≤t.2.1
    ·rw[ArD h3,ArM (fun h=>by obtain⟨q1,q2,q3,q4,q5,_⟩:=hk.1 h;omega)]
    rw[ArC h3]
    by_cases h4:t.2.2.1<0
    ·rw[ArD h4,ArM (fun h=>by obtain⟨q1,q2,q3,q4,q5,_⟩:=hk.1 h;omega)]
    rw[ArC h4]
    by_cases h5:JG N<t.2.2.1
    ·rw[ArD h5,ArM (fun h=>by obtain⟨q1,q2,q3,q4,q5,_⟩:=hk.1 h;omega)]
    rw[ArC h5]
    simp only[]
    rw[AN (by omega),Ae]
    by_cases h6:x=0
    ·subst h6
     rw[ArC (by omega),ArQ (hk.2 ⟨by omega,by omega,by omega,by omega,by omega,.inl rfl⟩)]
    ·rw[ArD (by omega),Ag (by omega),show((x:Int)-1)=((x-1:Nat):Int) by omega]
     simp only[L7 zT (show x-1<ts.length by omega)]
     obtain⟨y,ey,hy⟩:=ANp (ts.getD (x-1) zT) t
     have ey':J0 (((ts.getD (x-1) zT).1,((ts.getD (x-1) zT).2.1,((ts.getD (x-1) zT).2.2.1,((ts.getD (x-1) zT).2.2.2.1,())))),(t.1,(t.2.1,(t.2.2.1,(t.2.2.2.1,())))),())=some (y,()):=ey
     simp only[ey',hy]
     by_cases h7:ahead (ts.getD (x-1) zT) t
     ·rw[ArD h7,ArQ (hk.2 ⟨by omega,by omega,by omega,by omega,by omega,.inr h7⟩)]
      rfl
     ·rw[ArC h7,ArM (fun h=>by rcases(hk.1 h).2.2.2.2.2 with h|h;exact h6 h;exact h7 h)]
      rfl
   by_cases h:MH N ts x
   ·rw[ArQ h]at step ⊢
    refine⟨fun m' h' => ?_,fun r h'=>(by cases h')⟩
    cases h'
    exact⟨step,trivial⟩
   ·rw[ArM h]at step ⊢
    refine⟨fun m' h'=>(by cases h'),fun r h' => ?_⟩
    cases h'
    exact step)
  (fun a _=>by rw[Dl,Are,AR,AK,ArC (by omega)]) () trivial
 have e':AU Dl many ((N:Int),ts,JG N,ts,AM ts,(0:Int),())=_:=e
 rw[e',AQV (MH N ts) (fun _ a=>a)]
 rfl
theorem RQ(N:Nat)(hN:N≤64)(ts:List Tie)(hs:ts.length≤400):
  AU Cs many ((N:Int),ts,[],(0:Int),())=some (if oks N ts then .inr (.inl ((N:Int),ts,trs ts ts.length,()))else .inl (false,())):=by
 have e:=DI (step:=Cs) (fun i (a:List Edge)=>((N:Int),ts,a,(i:Int),())) (List.range ts.length) (fun i a=>if MH N ts i then .inl (if(ts.getD i zT).2.2.2.1=true then a++[ed (ts.getD i zT)]else a)else .inr (.inl (false,()))) (fun a=>.inr (.inl ((N:Int),ts,a,()))) (fun i a=>a.length≤i) (by simp;omega)
  (fun i x a hi hx ha=>by
   have:=Fe hx
   subst this
   rw[Are]at hi
   have step:Cs ((N:Int),ts,a,(x:Int),())=if MH N ts x then some (.inl ((N:Int),ts,if(ts.getD x zT).2.2.2.1=true then a++[ed (ts.getD x zT)]else a,((x+1:Nat):Int),()))else some (.inr (.inl (false,()))):=by
    rw[Cs,AR,AK,ArD hi]
    simp only[L7 zT hi,Adz N hN]
    obtain⟨t,ht⟩:∃ t,ts.getD x zT=t:=⟨_,rfl⟩
    have hk:MH N ts x↔(0≤t.1∧t.1<t.2.1∧t.2.1<(N:Int)∧0≤t.2.2.1∧t.2.2.1≤JG N∧(x=0∨ahead (ts.getD (x-1) zT) t)):=by unfold MH;rw[ht]
    rw[ht]
    rw[Ae,An,An,Ae,Ae]
    by_cases h1:t.1<0
    ·rw[ArD h1,ArM (fun h=>by obtain⟨q1,q2,q3,q4,q5,_⟩:=hk.1 h;omega)]
    rw[ArC h1]
    by_cases h2:t.2.1≤t.1
    ·rw[ArD h2,ArM (fun h=>by obtain⟨q1,q2,q3,q4,q5,_⟩:=hk.1 h;omega)]
    rw[ArC h2]
    by_cases h3:(N:Int)≤t.2.1
    ·rw[ArD h3,ArM (fun h=>by obtain⟨q1,q2,q3,q4,q5,_⟩:=hk.1 h;omega)]
    rw[ArC h3]
    by_cases h4:t.2.2.1<0
    ·rw[ArD h4,ArM (fun h=>by obtain⟨q1,q2,q3,q4,q5,_⟩:=hk.1 h;omega)]
    rw[ArC h4]
    by_cases h5:JG N<t.2.2.1
    ·rw[ArD h5,ArM (fun h=>by obtain⟨q1,q2,q3,q4,q5,_⟩:=hk.1 h;omega)]
    rw[ArC h5]
    simp only[AR]
    have hfit:fits ((a.length:Int)+(([(t.1,t.2.1,())]:List Edge).length:Int))=true:=Bd (by simp;omega)
    rw[AN (by omega),Ae]
    by_cases h6:x=0
    ·subst h6
     rw[ArC (by omega),ArQ (hk.2 ⟨by omega,by omega,by omega,by omega,by omega,.inl rfl⟩)]
     cases ht4:t.2.2.2.1
     ·simp
     ·simp only[hfit]
      simp[ed,BP]
    ·rw[ArD (by omega),Ag (by omega),show((x:Int)-1)=((x-1:Nat):Int) by omega]
     simp only[L7 zT (show x-1<ts.length by omega),Ah]
     generalize ts.getD (x-1) zT=p at hk ⊢
     rw[Ae,An]
     by_cases h7:t.1<p.1
     ·rw[ArD h7,ArM (fun h=>by rcases(hk.1 h).2.2.2.2.2 with h|h|h<;>omega)]
     rw[ArC h7]
     by_cases h8:p.1=t.1
     ·rw[ArD h8]
      by_cases h9:t.2.1≤p.2.1
      ·rw[ArD h9,ArM (fun h=>by rcases(hk.1 h).2.2.2.2.2 with h|h|h<;>omega)]
      rw[ArC h9,ArQ (hk.2 ⟨by omega,by omega,by omega,by omega,by omega,.inr (.inr ⟨h8,by omega⟩)⟩)]
      cases ht4:t.2.2.2.1
      ·simp
      ·simp only[hfit]
       simp[ed,BP]
     ·rw[ArC h8,ArQ (hk.2 ⟨by omega,by omega,by omega,by omega,by omega,.inr (.inl (by omega))⟩)]
      cases ht4:t.2.2.2.1
      ·simp
      ·simp only[hfit]
       simp[ed,BP]
   by_cases h:MH N ts x
   ·rw[ArQ h]at step ⊢
    refine⟨fun m' h' => ?_,fun r h'=>(by cases h')⟩
    cases h'
    refine⟨step,?_⟩
    split
    ·rw[ArJ];simp;omega
    ·omega
   ·rw[ArM h]at step ⊢
    refine⟨fun m' h'=>(by cases h'),fun r h' => ?_⟩
    cases h'
    exact step)
  (fun a _=>by rw[Cs,Are,AR,AK,ArC (by omega)]) [] (ArP _)
 have e':AU Cs many ((N:Int),ts,[],(0:Int),())=_:=e
 rw[e',AQV (MH N ts) (fun i a=>if(ts.getD i zT).2.2.2.1=true then a++[ed (ts.getD i zT)]else a)]
 rfl
end Go.Pev.Pl
end
end
section
section
namespace Go.Pev.Pl
theorem Acf{N:Nat}{ts:List Tie}(hN:N≤64){i:Nat}(h:MH N ts i):In (N:Int) (ed (ts.getD i zT)).1∧In (N:Int) (ed (ts.getD i zT)).2.1:=by
 obtain⟨q1,q2,q3,_⟩:=h
 exact⟨⟨by omega,by omega,q1,by show(ts.getD i zT).1<_;omega⟩,⟨by omega,by omega,by show 0≤(ts.getD i zT).2.1;omega,q3⟩⟩
theorem AWd{N:Nat}{ts:List Tie}(hN:N≤64)(h:oks N ts):∀ e∈trs ts ts.length,In (N:Int) e.1∧In (N:Int) e.2.1:=by
 intro e he
 obtain⟨i,hi,rfl⟩:=AnC ts e _ he
 exact Acf hN (h i (by simp[hi]))
theorem AqY{N:Nat}{ts:List Tie}(hN:N≤64)(h:oks N ts):∀ e∈ts.map ed,In (N:Int) e.1∧In (N:Int) e.2.1:=by
 intro e he
 obtain⟨t,ht,rfl⟩:=ArT.1 he
 obtain⟨i,hi,rfl⟩:=As3 ht
 have:=Acf hN (h i (by simp[hi]))
 simpa [hi]using this
theorem AZM{N:Nat}(ts:List Tie)(hs:ts.length≤400)(h:oks N ts):AD1 (((N:Int),(ts,())),(0:Int),())=some (trs ts ts.length,()):=by
 rw[AJo,Ri]
 have e:=DI (step:=Fl) (fun i (a:List Edge)=>((0:Int),a,ts,AM ts,(i:Int),())) (List.range ts.length) (fun i a=>.inl (if(ts.getD i zT).2.2.2.1=true then a++[ed (ts.getD i zT)]else a)) (fun a=>.inl (a,())) (fun i a=>a.length≤i) (by simp;omega)
  (fun i x a hi hx ha=>by
   refine⟨fun m' h' => ?_,fun r h'=>(by cases h')⟩
   cases h'
   have:=Fe hx
   subst this
   rw[Are]at hi
   have hlv:=(h x (by simp[hi])).2.2.2.1
   constructor
   ·rw[Fl,AR,AK,ArD hi]
    simp only[L7 zT hi,AR]
    have hfit:fits ((a.length:Int)+(([((ts.getD x zT).1,(ts.getD x zT).2.1,())]:List Edge).length:Int))=true:=Bd (by simp;omega)
    rw[AN (by omega),An,ArD hlv]
    cases ht4:(ts.getD x zT).2.2.2.1
    ·simp
    ·simp only[hfit]
     simp[ed,BP]
   ·split
    ·rw[ArJ];simp;omega
    ·omega)
  (fun a _=>by rw[Fl,Are,AR,AK,ArC (by omega)]) [] (ArP _)
 have e':AU Fl many ((0:Int),[],ts,AM ts,(0:Int),())=_:=e
 simp only[e']
 rw[Bi (fun i a=>if(ts.getD i zT).2.2.2.1=true then a++[ed (ts.getD i zT)]else a)]
 rfl
def cnt(out:List Int)(N:Nat):Nat:=((List.range N).filter fun k=>decide (out.getD k 0=(k:Int))).length
theorem ARu{N:Nat}{rings:List (List Int)}{l:List Edge}{out:List Int}(h:FC (N:Int) rings l)(hc:Xo (N:Int) l out):rings.length=cnt out N:=by
 have hsz:=h.fr.sz
 have hp:(rings.map hd).Perm (((List.range N).filter fun k=>decide (out.getD k 0=(k:Int))).map fun(k:Nat)=>(k:Int)):=by
  rw[AuG]
  ·intro a
   simp only[ArT,Arr,Arl,ArH]
   constructor
   ·rintro⟨A,hA,rfl⟩
    have gA:=h.fr.rg A hA
    have ih:In (N:Int) (hd A):=Sn gA
    have hh:=AN7 gA.2.1
    have:=AUG h hc hA ih hh
    obtain⟨_,_,a1,a2⟩:=ih
    refine⟨(hd A).toNat,⟨by omega,?_⟩,by omega⟩
    rw[show out.getD (hd A).toNat 0=cl out (hd A)from rfl,← this]
    omega
   ·rintro⟨k,⟨hk,ho⟩,rfl⟩
    have ik:In (N:Int) (k:Int):=⟨hsz.1,hsz.2,by omega,by omega⟩
    obtain⟨A,hA,hm⟩:=h.fr.cov _ ik
    refine⟨A,hA,?_⟩
    rw[AUG h hc hA ik hm]
    unfold cl
    rw[AsG];exact ho
  ·exact(Asu.2 h.fr.up).imp (fun h=>by omega)
  ·refine List.Pairwise.map _ (S:=fun a b=>a≠b) (R:=fun a b=>a≠b) (fun a b h h'=>h (by omega)) ?_
   exact(Asq).filter _
 have:=hp.length_eq
 rw[Arf,Arf]at this
 exact this
theorem Ox(N:Nat)(hN:N≤64)(p:List Tie)(q:List Edge)(out:List Int)(ho:out.length=N):AU DP many ((N:Int),p,q,out,(0:Int),(0:Int),())=some (.inl ((N:Int),p,q,(cnt out N:Int),())):=by
 have e:=DI (step:=DP) (fun i (a:Nat)=>((N:Int),p,q,out,(a:Int),(i:Int),())) (List.range N) (fun k a=>.inl (if out.getD k 0=(k:Int)then a+1 else a)) (fun a=>.inl ((N:Int),p,q,(a:Int),())) (fun i a=>a≤i) (by simp;omega)
  (fun i x a hi hx ha=>by
   refine⟨fun m' h' => ?_,fun r h'=>(by cases h')⟩
   cases h'
   have:=Fe hx
   subst this
   rw[Are]at hi
   constructor
   ·rw[DP,AK,ArD hi]
    simp only[L7 0 (show x<out.length by omega),QU,Ah]
    rw[AN (by omega),AN (by omega)]
    by_cases h:out.getD x 0=(x:Int)
    ·rw[ArD h,ArQ h]
    ·rw[ArC h,ArM h]
   ·split<;>omega)
  (fun a _=>by rw[DP,Are,AK,ArC (by omega)]) 0 (ArP _)
 have e':AU DP many ((N:Int),p,q,out,(0:Int),(0:Int),())=_:=e
 rw[e',Bi (fun k a=>if out.getD k 0=(k:Int)then a+1 else a)]
 have key:∀ (xs:List Nat) (a:Nat),xs.foldl (fun a k=>if out.getD k 0=(k:Int)then a+1 else a) a=a+(xs.filter fun k=>decide (out.getD k 0=(k:Int))).length:=by
  intro xs
  induction xs with
  |nil=>intro a;rfl
  |cons x xs ih=>
   intro a
   rw[AsC,ih,AsS]
   by_cases h:out.getD x 0=(x:Int)
   ·simp only[h,Ar0,Ara,ArO];omega
   ·simp only[h,ArY,Ar1,ArV]
 rw[key,Asa]
 rfl
theorem AGL(n:Int)(ts:List Tie)(hl:ts.length<4611686018427387904):∃ b:Bool,Dh ((n,(ts,())),())=some (b,())∧Fm ((n,(ts,())),())=some (b,())∧(b=true→∃ N:Nat,n=(N:Int)∧1≤N∧N≤64∧ts.length≤400∧oks N ts):=by
 by_cases hn:¬ (1≤n∧n≤64)
 ·refine⟨false,?_,?_,fun h=>by cases h⟩
  ·rw[Fc,Ej,Ae,Ae]
   by_cases h:n<1
   ·simp only[ArD h]
   ·simp only[ArC h,ArD (show 64<n by omega)]
  ·rw[Jz,Hr]
   simp only[Vw,Mu,An]
   by_cases h:1≤n
   ·simp only[ArD h,ArC (show ¬ n≤64 by omega),Ars]
   ·simp only[ArC h,Ars]
 have hn:=AtW.1 hn
 obtain⟨N,rfl⟩:=ArR (show 0≤n by omega)
 have hsz:Vx ((N:Int),())=some (true,()):=by
  simp only[Vw,Mu,An,ArD hn.1,ArD hn.2]
 by_cases h4:¬ ts.length≤400
 ·refine⟨false,?_,?_,fun h=>by cases h⟩
  ·rw[Fc,Ej]
   simp only[Ae,AR]
   rw[ArC (show ¬ (N:Int)<1 by omega),ArC (show ¬ 64<(N:Int) by omega),ArD (show 400<(ts.length:Int) by omega)]
  ·rw[Jz,Hr]
   simp only[hsz,ArN,Ae,AR]
   rw[ArD (show 400<(ts.length:Int) by omega)]
 have h4:=AtW.1 h4
 have R:=RQ N (by omega) ts h4
 have L:=ATo N (by omega) ts h4
 by_cases ho:¬ oks N ts
 ·rw[ArM ho]at R L
  refine⟨false,?_,?_,fun h=>by cases h⟩
  ·rw[Fc,Ej]
   simp only[Ae,AR]
   rw[ArC (show ¬ (N:Int)<1 by omega),ArC (show ¬ 64<(N:Int) by omega),ArC (show ¬ 400<(ts.length:Int) by omega)]
   simp only[R]
  ·rw[Jz,Hr]
   simp only[hsz,ArN,Ae,AR,ATl N (by omega)]
   rw[ArC (show ¬ 400<(ts.length:Int) by omega)]
   rw[AR]at L
   simp only[L]
 have ho:=AtW.1 ho
 rw[ArQ ho]at R L
 have hin:=AWd (show N≤64 by omega) ho
 have hlen:=ALP ts ts.length
 obtain⟨out,hc,hcl⟩:=Gd (N:Int) (trs ts ts.length) hn (by omega) hin
 rcases(Aou (N:Int) (trs ts ts.length) hn (by omega)).symm with⟨hno,_⟩|⟨_,rings,hf,hfc⟩
 ·exact absurd hin hno
 have hcount:=ARu hfc hcl
 have hol:out.length=N:=by have:=hcl.len;omega
 refine⟨decide ((cnt out N:Int)=(N:Int)-(trs ts ts.length).length),?_,?_,fun _=>⟨N,rfl,by omega,by omega,h4,ho⟩⟩
 ·rw[Fc,Ej]
  simp only[Ae,AR]
  rw[ArC (show ¬ (N:Int)<1 by omega),ArC (show ¬ 64<(N:Int) by omega),ArC (show ¬ 400<(ts.length:Int) by omega)]
  simp only[R,hc,Ox N (by omega) _ _ out hol,Ah]
  rw[Ag (by omega)]
 ·rw[Jz,Hr]
  simp only[hsz,ArN,Ae,AR,ATl N (by omega)]
  rw[ArC (show ¬ 400<(ts.length:Int) by omega)]
  rw[AR]at L
  simp only[L,AZM ts h4 ho,hf,WG,Ah,hcount]
  rw[Ag (by omega)]
end Go.Pev.Pl
end
section
namespace Go.Pev.Pl
theorem Xo.unique{N:Nat}{l:List Edge}{a b:List Int}(h1:1≤N)(h2:N≤64)(ha:Xo (N:Int) l a)(hb:Xo (N:Int) l b):a=b:=by
 have la:=ha.len
 have lb:=hb.len
 refine AOZ (0:Int) (by omega) fun k hk => ?_
 have ik:In (N:Int) (k:Int):=⟨by omega,by omega,by omega,by omega⟩
 have e1:=ha.least _ _ ik (hb.isin _ ik) (hb.con _ ik)
 have e2:=hb.least _ _ ik (ha.isin _ ik) (ha.con _ ik)
 unfold cl at e1 e2
 rw[AsG]at e1 e2
 omega
theorem AJ9(xs:List Tie)(a:List Edge):xs.foldl (fun a x=>a++[ed x]) a=a++xs.map ed:=Agj ed xs a
theorem AEB(n:Int)(ts:List Tie)(hs:ts.length≤400)(h:Fm ((n,(ts,())),())=some (true,())):WB ((n,(ts,())),())=some (ts.map ed,()):=by
 rw[AJt,Rj]
 simp only[h,ArN]
 have e:=DI (step:=Fp) (fun i (a:List Edge)=>(a,ts,AM ts,(i:Int),())) ts (fun x a=>.inl (a++[ed x])) (fun a=>.inl (a,())) (fun i a=>a.length≤i) (by omega)
  (fun i x a hi hx ha=>by
   refine⟨fun m' h' => ?_,fun r h'=>(by cases h')⟩
   cases h'
   constructor
   ·rw[Fp]
    simp only[AR]
    rw[AK,ArD hi]
    simp only[AW hx]
    rw[Bd (by simp;omega),AN (by omega)]
    rfl
   ·rw[ArJ];simp;omega)
  (fun a _=>by rw[Fp,AR,AK,ArC (by omega)]) [] (ArP _)
 have e':AU Fp many ([],ts,AM ts,(0:Int),())=_:=e
 simp only[e']
 rw[Bi (fun x a=>a++[ed x]),AJ9]
 rfl
theorem AUm(n:Int)(ts:List Tie)(hs:ts.length≤400)(h:Dh ((n,(ts,())),())=some (true,())):SB ((n,(ts,())),())=some (ts.map ed,()):=by
 rw[AE9,OJ]
 simp only[h,ArN]
 have e:=DI (step:=EW) (fun i (a:List Edge)=>(n,ts,a,(i:Int),())) ts (fun x a=>.inl (a++[ed x])) (fun a=>.inl (a,())) (fun i a=>a.length≤i) (by omega)
  (fun i x a hi hx ha=>by
   refine⟨fun m' h' => ?_,fun r h'=>(by cases h')⟩
   cases h'
   constructor
   ·rw[EW]
    simp only[AR]
    rw[AK,ArD hi]
    simp only[AW hx]
    rw[Bd (by simp;omega),AN (by omega)]
    rfl
   ·rw[ArJ];simp;omega)
  (fun a _=>by rw[EW,AR,AK,ArC (by omega)]) [] (ArP _)
 have e':AU EW many (n,ts,[],(0:Int),())=_:=e
 simp only[e']
 rw[Bi (fun x a=>a++[ed x]),AJ9]
 rfl
def InV(N:Nat)(x:Int):Prop:=0≤x∧x<(N:Int)
instance (N:Nat)(x:Int):Decidable (InV N x):=inferInstanceAs (Decidable (_∧_))
end Go.Pev.Pl
end
section
namespace Go.Pev.Pl
end Go.Pev.Pl
end
section
namespace Go.Pev.Pl
theorem AJ1(l:List Edge)(u v:Int)(hs:l.length<1073741824):AEX (l,(u,(v,())),())=some (decide (((u,(v,())):Edge)∈l),()):=by
 rw[AUK,AAC]
 have e:=Gk (step:=Hz) (fun i=>(l,u,v,(i:Int),())) l (fun x=>decide (x=(u,v,()))) (fun _=>.inl (true,())) (.inr (.inl ())) (by omega)
  (fun i x hi hx=>by
   rw[Hz,AR,AK,ArD hi]
   simp only[AW hx,Ah]
   rw[AN (by omega)]
   obtain⟨a,b,⟨⟩⟩:=x
   by_cases h1:a=u
   ·by_cases h2:b=v
    ·simp[h1,h2]
    ·simp[h1,h2]
   ·simp[h1])
  (by rw[Hz,AR,AK,ArC (by omega)])
 have e':AU Hz many (l,u,v,(0:Int),())=_:=e
 simp only[e']
 have hany:(l.any fun x=>decide (x=(u,v,())))=decide (((u,(v,())):Edge)∈l):=by
  rw[AsT]
  simp
 rw[hany]
 generalize decide (((u,(v,())):Edge)∈l)=b
 cases b<;>rfl
theorem AVy{N:Nat}(h1:1≤N)(hN:N≤64)(ts:List Tie)(l:List Edge)(hs:l.length<1073741824)(hr:Dh (((N:Int),(ts,())),())=some (true,())):
  Si (((N:Int),(ts,())),l,())=some (if ∀ e∈l,In (N:Int) e.1∧In (N:Int) e.2.1 then 0 else 10,()):=by
 rw[AGP,OU]
 simp only[hr,ArN]
 have e:=Gk (step:=Ef) (fun i=>(l,(N:Int),ts,(i:Int),())) l (fun x => !decide (In (N:Int) x.1∧In (N:Int) x.2.1)) (fun _=>.inl (10,())) (.inr (.inl ())) (by omega)
  (fun i x hi hx=>by
   rw[Ef,AR,AK,ArD hi]
   simp only[AW hx]
   rw[Ae,An,Ae,An,AN (by omega)]
   by_cases q1:x.1<0
   ·rw[ArD q1,ArC (show ¬ (In (N:Int) x.1∧In (N:Int) x.2.1)from fun h=>by have:=h.1.2.2.1;omega)];rfl
   rw[ArC q1]
   by_cases q2:(N:Int)≤x.1
   ·rw[ArD q2,ArC (show ¬ (In (N:Int) x.1∧In (N:Int) x.2.1)from fun h=>by have:=h.1.2.2.2;omega)];rfl
   rw[ArC q2]
   by_cases q3:x.2.1<0
   ·rw[ArD q3,ArC (show ¬ (In (N:Int) x.1∧In (N:Int) x.2.1)from fun h=>by have:=h.2.2.2.1;omega)];rfl
   rw[ArC q3]
   by_cases q4:(N:Int)≤x.2.1
   ·rw[ArD q4,ArC (show ¬ (In (N:Int) x.1∧In (N:Int) x.2.1)from fun h=>by have:=h.2.2.2.2;omega)];rfl
   rw[ArC q4,ArD (show In (N:Int) x.1∧In (N:Int) x.2.1 from⟨⟨by omega,by omega,by omega,by omega⟩,⟨by omega,by omega,by omega,by omega⟩⟩)]
   rfl)
  (by rw[Ef,AR,AK,ArC (by omega)])
 have e':AU Ef many (l,(N:Int),ts,(0:Int),())=_:=e
 rw[e']
 by_cases h:∀ e∈l,In (N:Int) e.1∧In (N:Int) e.2.1
 ·have:(l.any fun x => !decide (In (N:Int) x.1∧In (N:Int) x.2.1))=false:=by
   rw[List.any_eq_false]
   intro x hx
   simp[h x hx]
  rw[this,ArQ h]
  rfl
 ·have:(l.any fun x => !decide (In (N:Int) x.1∧In (N:Int) x.2.1))=true:=by
   rw[AtJ]
   refine AsU fun hn=>h fun e he => ?_
   refine AsU fun hne=>hn ⟨e,he,by rw[ArC hne];rfl⟩
  rw[this,ArM h]
  rfl
def LJ(l:List Edge)(u v:Int):Prop:=((u,(v,())):Edge)∈l∨((v,(u,())):Edge)∈l
instance (l:List Edge)(u v:Int):Decidable (LJ l u v):=inferInstanceAs (Decidable (_∨_))
def UP(N:Nat)(l:List Edge)(u:Nat):List Edge:=((List.range (N-(u+1))).filter fun i=>decide (LJ l (u:Int) ((u+1+i:Nat):Int))).map fun(i:Nat)=>((u:Int),((u+1+i:Nat):Int),())
def ET(N:Nat)(l:List Edge):List Edge:=(List.range N).flatMap fun u=>UP N l u
theorem R4{α β:Type}(P:β→Prop)[DecidablePred P](g:β→α):∀ (xs:List β) (a:List α),xs.foldl (fun a x=>if P x then a++[g x]else a) a=a++(xs.filter fun x=>decide (P x)).map g:=by
 intro xs
 induction xs with
 |nil=>intro a;simp
 |cons x xs ih=>
  intro a
  rw[AsC,ih,AsS]
  by_cases h:P x
  ·simp[h]
  ·simp[h]
theorem ASA(N:Nat)(hN:N≤64)(l:List Edge)(hs:l.length<1073741824)(u:Nat)(hu:u<N)(a:List Edge)(ha:a.length≤64*u):
  AU DQ many ((N:Int),l,a,(u:Int),((u+1:Nat):Int),())=some (.inl ((N:Int),l,a++UP N l u,(u:Int),())):=by
 have e:=DI (step:=DQ) (fun i (a:List Edge)=>((N:Int),l,a,(u:Int),((u+1+i:Nat):Int),())) (List.range (N-(u+1))) (fun i a=>.inl (if LJ l (u:Int) ((u+1+i:Nat):Int)then a++[((u:Int),((u+1+i:Nat):Int),())]else a)) (fun a=>.inl ((N:Int),l,a,(u:Int),())) (fun i a=>a.length≤64*u+i) (by simp;omega)
  (fun i x a hi hx ha=>by
   refine⟨fun m' h' => ?_,fun r h'=>(by cases h')⟩
   cases h'
   have:=Fe hx
   subst this
   rw[Are]at hi
   constructor
   ·rw[DQ,AK,ArD (show u+1+x<N by omega)]
    simp only[AJ1 l _ _ hs,AR]
    have hfit:fits ((a.length:Int)+(([((u:Int),((u+1+x:Nat):Int),())]:List Edge).length:Int))=true:=Bd (by simp;omega)
    rw[hfit,AN (by omega)]
    by_cases q1:(((u:Int),(((u+1+x:Nat):Int),())):Edge)∈l
    ·rw[ArD q1,ArQ (show LJ l (u:Int) ((u+1+x:Nat):Int)from .inl q1)]
     rfl
    ·rw[ArC q1]
     by_cases q2:(((((u+1+x:Nat):Int),((u:Int),()))):Edge)∈l
     ·rw[ArD q2,ArQ (show LJ l (u:Int) ((u+1+x:Nat):Int)from .inr q2)]
      rfl
     ·rw[ArC q2,ArM (show ¬ LJ l (u:Int) ((u+1+x:Nat):Int)from fun h=>by rcases h with h|h;exact q1 h;exact q2 h)]
      rfl
   ·split
    ·rw[ArJ];simp;omega
    ·omega)
  (fun a _=>by rw[DQ,Are,AK,ArC (by omega)]) a (by omega)
 have e':AU DQ many ((N:Int),l,a,(u:Int),((u+1:Nat):Int),())=_:=e
 rw[e',Bi (fun i a=>if LJ l (u:Int) ((u+1+i:Nat):Int)then a++[((u:Int),((u+1+i:Nat):Int),())]else a),R4 (fun i:Nat=>LJ l (u:Int) ((u+1+i:Nat):Int)) (fun i:Nat=>((u:Int),((u+1+i:Nat):Int),()))]
 rfl
theorem ARn(N:Nat)(hN:N≤64)(l:List Edge)(u:Nat):(UP N l u).length≤64:=by
 unfold UP
 rw[Arf]
 have:=Asw (fun i=>decide (LJ l (u:Int) ((u+1+i:Nat):Int))) (List.range (N-(u+1)))
 rw[Are]at this
 omega
theorem AR9(N:Nat)(hN:N≤64)(l:List Edge)(hs:l.length<1073741824):RZ ((N:Int),l,())=some (ET N l,()):=by
 rw[ACs,N7]
 have e:=DI (step:=EU) (fun i (a:List Edge)=>((N:Int),l,a,(i:Int),())) (List.range N) (fun u a=>.inl (a++UP N l u)) (fun a=>.inl (a,())) (fun i a=>a.length≤64*i) (by simp;omega)
  (fun i x a hi hx ha=>by
   refine⟨fun m' h' => ?_,fun r h'=>(by cases h')⟩
   cases h'
   have:=Fe hx
   subst this
   rw[Are]at hi
   have hrow:=ARn N hN l x
   constructor
   ·rw[EU,AK,ArD hi,AN (by omega)]
    simp only[ASA N hN l hs x hi a ha]
    rw[AN (by omega)]
   ·rw[ArJ];omega)
  (fun a _=>by rw[EU,Are,AK,ArC (by omega)]) [] (ArP _)
 have e':AU EU many ((N:Int),l,[],(0:Int),())=_:=e
 simp only[e']
 rw[Bi (fun u a=>a++UP N l u)]
 have key:∀ (xs:List Nat) (a:List Edge),xs.foldl (fun a u=>a++UP N l u) a=a++xs.flatMap fun u=>UP N l u:=by
  intro xs
  induction xs with
  |nil=>intro a;simp
  |cons x xs ih=>intro a;rw[AsC,ih];simp
 rw[key]
 rfl
end Go.Pev.Pl
end
section
namespace Go.Pev.Pl
theorem ACn(N:Nat)(hN:N≤64)(l:List Edge):(ET N l).length≤4096:=by
 have key:∀ M,((List.range M).flatMap fun u=>UP N l u).length≤64*M:=by
  intro M
  induction M with
  |zero=>simp
  |succ M ih=>
   rw[Arz,AsV,ArJ]
   have:=ARn N hN l M
   simp only[Arv,At9,AsH]
   omega
 have:=key N
 unfold ET
 omega
def Cl(N:Nat)(ts:List Tie)(l:List Edge):List Edge:=(ET N l).filter fun x => !decide (x∈ts.map ed)
theorem Afe{N:Nat}(h1:1≤N)(hN:N≤64)(ts:List Tie)(ht:ts.length≤400)(l:List Edge)(hs:l.length<1073741824)(hr:Dh (((N:Int),(ts,())),())=some (true,())):
  ATd (((N:Int),(ts,())),l,())=some (if ∀ e∈l,In (N:Int) e.1∧In (N:Int) e.2.1 then(Cl N ts l,0,())else([],10,())):=by
 rw[ATc,Z6]
 simp only[AVy h1 hN ts l hs hr]
 by_cases h:¬ ∀ e∈l,In (N:Int) e.1∧In (N:Int) e.2.1
 ·rw[ArM h,ArM h,show ieq (10:Int) (0:Int)=false from by rw[Ah];rfl]
  rfl
 have h:=AtW.1 h
 rw[ArQ h,ArQ h,WG]
 simp only[ArN,AUm (N:Int) ts ht hr,AR9 N hN l hs]
 have hpl:=ACn N hN l
 generalize hp:ET N l=p at hpl
 have e:=DI (step:=Hq) (fun i (a:List Edge)=>(ts.map ed,p,a,(i:Int),())) p (fun x a=>.inl (if ¬ x∈ts.map ed then a++[x]else a)) (fun a=>.inl (a,())) (fun i a=>a.length≤i) (by omega)
  (fun i x a hi hx ha=>by
   refine⟨fun m' h' => ?_,fun r h'=>(by cases h')⟩
   cases h'
   constructor
   ·rw[Hq,AR,AK,ArD hi]
    obtain⟨u,v,⟨⟩⟩:=x
    simp only[AW hx,BJ hx,AJ1 (ts.map ed) u v (by rw[Arf];omega),AR]
    have hfit:fits ((a.length:Int)+(([(u,v,())]:List Edge).length:Int))=true:=Bd (by simp;omega)
    rw[hfit,AN (by omega)]
    by_cases q:((u,v,()):Edge)∈ts.map ed
    ·rw[ArD q,ArM (fun h=>h q)]
     rfl
    ·rw[ArC q,ArQ q]
     rfl
   ·split
    ·rw[ArJ];simp;omega
    ·omega)
  (fun a _=>by rw[Hq,AR,AK,ArC (by omega)]) [] (ArP _)
 have e':AU Hq many (ts.map ed,p,[],(0:Int),())=_:=e
 rw[e',Bi (fun x a=>if ¬ x∈ts.map ed then a++[x]else a),R4 (fun x:Edge=>¬ x∈ts.map ed) (fun x=>x)]
 unfold Cl
 rw[hp,Ary,List.map_id']
 have hf:(p.filter fun x=>decide ¬x∈ts.map ed)=p.filter fun x => !decide (x∈ts.map ed):=by
  refine AtD fun x _ => ?_
  simp
 rw[hf]
def ACb(l:List Tie)(t:Tie):List Tie:=l.take (l.findIdx fun x => !decide (ahead x t))++t::l.drop (l.findIdx fun x => !decide (ahead x t))
end Go.Pev.Pl
end
section
namespace Go.Pev.Pl
def valid(N:Nat)(t:Tie):Prop:=0≤t.1∧t.1<t.2.1∧t.2.1<(N:Int)∧0≤t.2.2.1∧t.2.2.1≤JG N
theorem ahead.trans{a b c:Tie}(h:ahead a b)(h':ahead b c):ahead a c:=by
 unfold ahead at *
 omega
theorem Rf(N:Nat)(ts:List Tie):oks N ts↔(∀ t∈ts,valid N t)∧ts.Pairwise ahead:=by
 constructor
 ·intro h
  have hv:∀ i,i<ts.length→MH N ts i:=fun i hi=>h i (by simpa using hi)
  refine⟨fun t ht => ?_,?_⟩
  ·obtain⟨i,hi,rfl⟩:=As3 ht
   obtain⟨q1,q2,q3,q4,q5,_⟩:=hv i hi
   simp only[ArF,ArG hi,AsB]at q1 q2 q3 q4 q5
   exact⟨q1,q2,q3,q4,q5⟩
  ·have key:∀ (d i:Nat),i+d+1<ts.length→ahead (ts.getD i zT) (ts.getD (i+d+1) zT):=by
    intro d
    induction d with
    |zero=>
     intro i hi
     obtain⟨_,_,_,_,_,q⟩:=hv (i+0+1) hi
     rcases q with q|q
     ·omega
     ·simpa using q
    |succ d ih=>
     intro i hi
     have h1:=ih i (by omega)
     obtain⟨_,_,_,_,_,q⟩:=hv (i+(d+1)+1) hi
     rcases q with q|q
     ·omega
     ·rw[show i+(d+1)+1-1=i+d+1 by omega]at q
      exact h1.trans q
   rw[As4]
   intro i j hi hj hij
   have:=key (j-i-1) i (by omega)
   rw[show i+(j-i-1)+1=j by omega]at this
   simpa only[ArF,ArG hi,ArG hj,AsB]using this
 ·rintro⟨h1,h2⟩ i hi
  have hi:i<ts.length:=by simpa using hi
  have e:∀ j (hj:j<ts.length),ts.getD j zT=ts[j]:=fun j hj=>by
   simp only[ArF,ArG hj,AsB]
  obtain⟨q1,q2,q3,q4,q5⟩:=h1 ts[i] (As8 hi)
  unfold MH
  rw[e i hi]
  refine⟨q1,q2,q3,q4,q5,?_⟩
  by_cases h0:i=0
  ·exact .inl h0
  ·right
   rw[e (i-1) (by omega)]
   exact(As4.1 h2) (i-1) i (by omega) hi (by omega)
theorem AJQ(l:List Tie)(t:Tie):(ACb l t).Perm (t::l):=by
 unfold ACb
 refine List.perm_middle.trans ?_
 rw[AsO]
theorem Ae1{l:List Tie}{t:Tie}(h:l.Pairwise ahead)(hn:∀ x∈l,¬ (x.1=t.1∧x.2.1=t.2.1)):(ACb l t).Pairwise ahead:=by
 induction l with
 |nil=>simp[ACb]
 |cons a l ih=>
  rw[AsR]at h
  have hna:=hn a (by simp)
  have hnl:∀ x∈l,¬ (x.1=t.1∧x.2.1=t.2.1):=fun x hx=>hn x (by simp[hx])
  by_cases ha:ahead a t
  ·have e:ACb (a::l) t=a::ACb l t:=by
    unfold ACb
    rw[At2]
    simp[ha]
   rw[e,AsR]
   refine⟨fun x hx => ?_,ih h.2 hnl⟩
   rcases ArK.1 ((AJQ l t).mem_iff.1 hx)with rfl|hx
   ·exact ha
   ·exact h.1 x hx
  ·have e:ACb (a::l) t=t::a::l:=by
    unfold ACb
    rw[At2]
    simp[ha]
   have hta:ahead t a:=by unfold ahead at *;omega
   rw[e,AsR,AsR]
   refine⟨fun x hx => ?_,h.1,h.2⟩
   rcases ArK.1 hx with rfl|hx
   ·exact hta
   ·exact hta.trans (h.1 x hx)
end Go.Pev.Pl
end
section
namespace Go.Pev.Pl
theorem ADv(N:Nat)(l:List Edge)(x:Edge):x∈ET N l↔0≤x.1∧x.1<x.2.1∧x.2.1<(N:Int)∧LJ l x.1 x.2.1:=by
 unfold ET UP
 simp only[Ash,ArT,Arr,Arl,ArH]
 constructor
 ·rintro⟨u,hu,i,⟨hi,he⟩,rfl⟩
  exact⟨by show(0:Int)≤(u:Int);omega,by show(u:Int)<((u+1+i:Nat):Int);omega,by show((u+1+i:Nat):Int)<(N:Int);omega,he⟩
 ·obtain⟨a,b,⟨⟩⟩:=x
  rintro⟨h1,h2,h3,h4⟩
  simp only at h1 h2 h3 h4
  obtain⟨u,rfl⟩:=ArR h1
  obtain⟨v,rfl⟩:=ArR (show 0≤b by omega)
  refine⟨u,by omega,v-(u+1),⟨by omega,?_⟩,?_⟩
  ·rw[show u+1+(v-(u+1))=v by omega];exact h4
  ·rw[show u+1+(v-(u+1))=v by omega]
def Dd(p x:Edge):Prop:=p.1<x.1∨(p.1=x.1∧p.2.1<x.2.1)
theorem X4(N:Nat)(l:List Edge):(ET N l).Pairwise Dd:=by
 unfold ET
 rw[List.pairwise_flatMap]
 refine⟨fun u _ => ?_,?_⟩
 ·unfold UP
  rw[Asu]
  refine AuA _ ?_
  refine List.pairwise_lt_range.imp fun h => ?_
  exact .inr ⟨rfl,by show((u+1+_:Nat):Int)<((u+1+_:Nat):Int);omega⟩
 ·refine List.pairwise_lt_range.imp fun h x hx y hy => ?_
  unfold UP at hx hy
  simp only[ArT]at hx hy
  obtain⟨i,_,rfl⟩:=hx
  obtain⟨j,_,rfl⟩:=hy
  exact .inl (by simp only;omega)
theorem OC(N:Nat)(ts:List Tie)(l:List Edge)(x:Edge):x∈Cl N ts l↔(0≤x.1∧x.1<x.2.1∧x.2.1<(N:Int)∧LJ l x.1 x.2.1)∧¬ x∈ts.map ed:=by
 unfold Cl
 rw[Arr,ADv]
 simp
theorem AFq(N:Nat)(ts:List Tie)(l:List Edge):(Cl N ts l).Pairwise Dd:=(X4 N l).filter _
end Go.Pev.Pl
end
section
namespace Go.Pev.Pl
open Tok
instance (n v:Int):Decidable (In n v):=inferInstanceAs (Decidable (_∧_))
instance (n:Int):Decidable (Sz n):=inferInstanceAs (Decidable (_∧_))
end Go.Pev.Pl
end
section
namespace Go.Pev.Pl
instance (xs:List Int):Decidable (Rt xs):=inferInstanceAs (Decidable (_∧_∧_))
end Go.Pev.Pl
end
section
namespace Go.Pev.Pl
open Tok
noncomputable instance (n:Int) (xs:List Int):Decidable (TI n xs):=Classical.propDecidable _
end Go.Pev.Pl
end
section
namespace Go.Pev.Pl
open Tok
end Go.Pev.Pl
end
section
namespace Go.Pev.Pl
open Tok
end Go.Pev.Pl
end
section
namespace Go.Pev.Pl
open Tok
noncomputable instance (n:Int) (rings:List (List Int)):Decidable (RF n rings):=Classical.propDecidable _
noncomputable instance (n:Int) (xs:List Int):Decidable (RG n xs):=Classical.propDecidable _
end Go.Pev.Pl
end
end
section
section
namespace Go.Pev.Pl
open Tok
end Go.Pev.Pl
end
section
namespace Go.Pev.Pl
open Tok
end Go.Pev.Pl
end
section
namespace Go.Pev.Pl
open Tok
end Go.Pev.Pl
end
section
namespace Go.Pev.Pl
open Tok
end Go.Pev.Pl
end
section
namespace Go.Pev.Pl
open Go.RowKit Tok
end Go.Pev.Pl
end
section
namespace Go.Pev.Pl
open Tok
end Go.Pev.Pl
end
section
namespace Go.Pev.Pl
open Tok
end Go.Pev.Pl
end
section
namespace Go.Pev.Pl
open Tok
def sel(l:List Edge)(bs:List Bool):List Edge:=((l.zip bs).filter fun p=>p.2).map fun p=>p.1
end Go.Pev.Pl
end
section
namespace Go.Pev.Pl
open Tok
instance (n v:Int):Decidable (In n v):=inferInstanceAs (Decidable (_∧_))
instance (n:Int):Decidable (Sz n):=inferInstanceAs (Decidable (_∧_))
end Go.Pev.Pl
end
section
namespace Go.Pev.Pl
instance (xs:List Int):Decidable (Rt xs):=inferInstanceAs (Decidable (_∧_∧_))
end Go.Pev.Pl
end
section
namespace Go.Pev.Pl
open Tok
noncomputable instance (n:Int) (xs:List Int):Decidable (TI n xs):=Classical.propDecidable _
end Go.Pev.Pl
end
section
namespace Go.Pev.Pl
open Tok
noncomputable instance (n:Int) (rings:List (List Int)):Decidable (RF n rings):=Classical.propDecidable _
noncomputable instance (n:Int) (xs:List Int):Decidable (RG n xs):=Classical.propDecidable _
end Go.Pev.Pl
end
section
namespace Go.Pev.Pl
open Tok
end Go.Pev.Pl
end
section
namespace Go.Pev.Pl
open Tok
end Go.Pev.Pl
end
section
namespace Go.Pev.Pl
open Tok
end Go.Pev.Pl
end
section
namespace Go.Pev.Pl
open Tok
end Go.Pev.Pl
end
section
namespace Go.Pev.Pl
open Tok
theorem ARw{N:Nat}(h1:1≤N)(hN:N≤64){ts:List Tie}(hs:ts.length≤400)(ho:oks N ts){out:List Int}(hc:Xo (N:Int) (trs ts ts.length) out):
  Dh (((N:Int),(ts,())),())=some (decide ((cnt out N:Int)=(N:Int)-(trs ts ts.length).length),()):=by
 have R:=RQ N hN ts hs
 rw[ArQ ho]at R
 have hin:=AWd hN ho
 have hlen:=ALP ts ts.length
 obtain⟨o2,e2,c2⟩:=Gd (N:Int) (trs ts ts.length) ⟨by omega,by omega⟩ (by omega) hin
 have:=Xo.unique h1 hN hc c2
 subst this
 have hol:out.length=N:=by have:=hc.len;omega
 rw[Fc,Ej]
 simp only[Ae,AR]
 rw[ArC (show ¬ (N:Int)<1 by omega),ArC (show ¬ 64<(N:Int) by omega),ArC (show ¬ 400<(ts.length:Int) by omega)]
 simp only[R,e2,Ox N hN _ _ out hol,Ah]
 rw[Ag (by omega)]
end Go.Pev.Pl
end
section
namespace Go.Pev.Pl
open Tok
theorem Con.perm{l l':List Edge}(h:∀ e,e∈l↔e∈l'){a b:Int}:Con l a b↔Con l' a b:=
 ⟨fun c=>c.mono fun e he=>⟨e,(h e).1 he,.inl ⟨rfl,rfl⟩⟩,fun c=>c.mono fun e he=>⟨e,(h e).2 he,.inl ⟨rfl,rfl⟩⟩⟩
theorem Xo.congr{n:Int}{l l':List Edge}{out:List Int}(h:∀ a b,Con l a b↔Con l' a b)(hc:Xo n l out):Xo n l' out:=
 ⟨hc.len,fun a b ia ib=>(hc.same a b ia ib).trans (h a b),hc.isin,fun a ia=>(h a _).1 (hc.con a ia),fun a b ia ib c=>hc.least a b ia ib ((h a b).2 c)⟩
end Go.Pev.Pl
end
section
namespace Go.Pev.Pl
open Tok
def AIz(x:Edge)(b:Bool):Tie:=(x.1,x.2.1,0,b,())
def Zs(ts:List Tie)(xs:List Edge)(bs:List Bool)(k:Nat):List Tie:=(List.range k).foldl (fun a i=>ACb a (AIz (xs.getD i (0,0,())) (bs.getD i false))) ts
end Go.Pev.Pl
end
section
namespace Go.Pev.Pl
open Tok
def AY3(xs:List Edge)(bs:List Bool)(k:Nat):List Tie:=(List.range k).map fun i=>AIz (xs.getD i (0,0,())) (bs.getD i false)
theorem AKr(ts:List Tie)(xs:List Edge)(bs:List Bool)(k:Nat):Zs ts xs bs (k+1)=ACb (Zs ts xs bs k) (AIz (xs.getD k (0,0,())) (bs.getD k false)):=by
 unfold Zs
 rw[Arz,AtE]
 rfl
theorem XM(ts:List Tie)(xs:List Edge)(bs:List Bool):∀ k,(Zs ts xs bs k).Perm (ts++AY3 xs bs k):=by
 intro k
 induction k with
 |zero=>simp[Zs,AY3]
 |succ k ih=>
  rw[AKr]
  refine(AJQ _ _).trans ?_
  unfold AY3 at *
  rw[Arz,Ar9,← Art]
  refine(List.Perm.cons _ ih).trans ?_
  exact(List.perm_append_singleton _ _).symm
end Go.Pev.Pl
end
section
namespace Go.Pev.Pl
open Tok
theorem Ams{N:Nat}{ts:List Tie}(h:oks N ts)(hv0:0≤JG N){xs:List Edge}(bs:List Bool)(hp:xs.Pairwise Dd)(hx:∀ e∈xs,0≤e.1∧e.1<e.2.1∧e.2.1<(N:Int))(hn:∀ e∈xs,¬ e∈ts.map ed):oks N (Zs ts xs bs xs.length):=by
 rw[Rf]at h ⊢
 obtain⟨h1,h2⟩:=h
 have hget:∀ i (hi:i<xs.length),xs.getD i (0,0,())=xs[i]:=fun i hi=>by
  simp only[ArF,ArG hi,AsB]
 have hmem:∀ k,k≤xs.length→∀ t∈Zs ts xs bs k,t∈ts∨∃ i,i<k∧t=AIz (xs.getD i (0,0,())) (bs.getD i false):=by
  intro k hk t ht
  rcases ArI.1 ((XM ts xs bs k).mem_iff.1 ht)with h|h
  ·exact .inl h
  ·unfold AY3 at h
   obtain⟨i,hi,rfl⟩:=ArT.1 h
   exact .inr ⟨i,by simpa using hi,rfl⟩
 refine⟨fun t ht => ?_,?_⟩
 ·rcases hmem _ (ArP _) t ht with h|⟨i,hi,rfl⟩
  ·exact h1 t h
  ·rw[hget i hi]
   obtain⟨q1,q2,q3⟩:=hx xs[i] (As8 hi)
   exact⟨q1,q2,q3,by show(0:Int)≤0;omega,hv0⟩
 ·have key:∀ k,k≤xs.length→(Zs ts xs bs k).Pairwise ahead:=by
   intro k
   induction k with
   |zero=>intro _;exact h2
   |succ k ih=>
    intro hk
    rw[AKr]
    refine Ae1 (ih (by omega)) fun t ht => ?_
    rw[hget k (by omega)]
    rintro⟨e1,e2⟩
    rcases hmem k (by omega) t ht with h|⟨i,hi,rfl⟩
    ·refine hn xs[k] (As8 (by omega)) (ArT.2 ⟨t,h,?_⟩)
     unfold ed
     rw[e1,e2]
     rfl
    ·rw[hget i (by omega)]at e1 e2
     have:=(As4.1 hp) i k (by omega) (by omega) hi
     unfold Dd at this
     simp only[AIz]at e1 e2
     omega
  exact key _ (ArP _)
end Go.Pev.Pl
end
section
namespace Go.Pev.Pl
open Tok
theorem AiO(ts:List Tie):∀ k,k≤ts.length→trs ts k=((ts.take k).filter fun t=>t.2.2.2.1).map ed:=by
 intro k
 induction k with
 |zero=>intro _;simp[trs]
 |succ k ih=>
  intro hk
  have hk':k<ts.length:=by omega
  rw[AAw,ih (by omega),Asi hk',AsY,Ar9]
  simp only[ArF,ArG hk',AsB]
  cases h:ts[k].2.2.2.1
  ·simp[h]
  ·simp[h]
theorem ALQ(ts:List Tie):trs ts ts.length=(ts.filter fun t=>t.2.2.2.1).map ed:=by
 rw[AiO ts _ (ArP _),Arw]
end Go.Pev.Pl
end
section
namespace Go.Pev.Pl
open Tok
theorem Ako{xs:List Edge}{bs:List Bool}(h:bs.length=xs.length):AY3 xs bs xs.length=(xs.zip bs).map fun p=>AIz p.1 p.2:=by
 unfold AY3
 apply Atm
 ·simp[h]
 ·intro i h1 h2
  have hi:i<xs.length:=by simpa using h1
  simp[hi,show i<bs.length by omega]
theorem Amr(ts:List Tie){xs:List Edge}{bs:List Bool}(h:bs.length=xs.length):(trs (Zs ts xs bs xs.length) (Zs ts xs bs xs.length).length).Perm (trs ts ts.length++sel xs bs):=by
 rw[ALQ,ALQ]
 refine(((XM ts xs bs xs.length).filter _).map ed).trans ?_
 rw[AsY,Ar9,Ako h,List.filter_map,AuP]
 exact AuU _
theorem Amt(ts:List Tie)(xs:List Edge)(bs:List Bool):∀ k,(Zs ts xs bs k).length=ts.length+k:=by
 intro k
 rw[(XM ts xs bs k).length_eq]
 simp[AY3]
end Go.Pev.Pl
end
end
section
section
namespace Go.Pev.Pl
open Tok
def Apj(N:Nat)(l:List Edge):Prop:=∀ e∈l,In (N:Int) e.1∧In (N:Int) e.2.1
theorem AhU(N:Nat)(hN:N≤64)(ts:List Tie)(l:List Edge):(Cl N ts l).length≤4096:=by
 unfold Cl
 exact AsD (Asw _ _) (ACn N hN l)
theorem AmN{N:Nat}(hN:N≤64)(ts:List Tie)(l:List Edge):∀ e∈Cl N ts l,In (N:Int) e.1∧In (N:Int) e.2.1:=by
 intro e he
 obtain⟨⟨a,b,c,_⟩,_⟩:=(OC N ts l e).1 he
 exact⟨⟨by omega,by omega,a,by omega⟩,⟨by omega,by omega,by omega,c⟩⟩
end Go.Pev.Pl
end
section
namespace Go.Pev.Pl
open Tok
theorem Ac0{N:Nat}(h1:1≤N)(hN:N≤64){a:Int}(h:0≤a∧a<(N:Int)):In (N:Int) a:=⟨by omega,by omega,h.1,h.2⟩
theorem AqR{N:Nat}{e:Edge}(h:In (N:Int) e.1∧In (N:Int) e.2.1):InE N e:=⟨⟨h.1.2.2.1,h.1.2.2.2⟩,⟨h.2.2.2.1,h.2.2.2.2⟩⟩
theorem Aqc{N:Nat}(h1:1≤N)(hN:N≤64){l:List Edge}{out:List Int}(hc:Xo (N:Int) l out):cnt out N=cc N l:=by
 unfold cnt cc
 rw[List.countP_eq_length_filter]
 congr 1
 refine AtD fun k hk => ?_
 have hk:k<N:=by simpa using hk
 have ik:=Ac0 h1 hN (a:=(k:Int)) ⟨by omega,by omega⟩
 have hg:out.getD k 0=cl out (k:Int):=by unfold cl;rw[AsG]
 rw[hg,AsT,AtM,Hs]
 constructor
 ·intro h j hj hcn
  have:=hc.least (k:Int) (j:Int) ik (Ac0 h1 hN ⟨by omega,by omega⟩) hcn.symm
  omega
 ·intro h
  have a1:=hc.isin _ ik
  have a2:=hc.con _ ik
  have a3:=hc.least (k:Int) (k:Int) ik ik (.refl _)
  obtain⟨m,hm⟩:=ArR a1.2.2.1
  rw[hm]at a2 a3 ⊢
  by_cases hlt:m<k
  ·exact absurd a2.symm (h m hlt)
  ·omega
theorem FC.congr{n:Int}{rings:List (List Int)}{l l':List Edge}(h:FC n rings l)(hm:∀ e∈l,e∈l')(hc:∀ e∈l',Con l e.1 e.2.1):FC n rings l':=
 ⟨h.fr,fun a b ia ib=>(h.sam a b ia ib).trans ⟨fun c=>c.sub hm,fun c=>c.cut hc⟩,fun A hA u v ho hu=>by
  obtain⟨e,he,q⟩:=h.arcs A hA u v ho hu
  exact⟨e,hm e he,q⟩⟩
theorem ARv{N:Nat}(h1:1≤N)(hN:N≤64){ts:List Tie}(hs:ts.length≤400)(ho:oks N ts):Dh (((N:Int),(ts,())),())=some (true,())↔Fo N (trs ts ts.length):=by
 have hlen:=ALP ts ts.length
 obtain⟨o,_,c⟩:=Gd (N:Int) (trs ts ts.length) ⟨by omega,by omega⟩ (by omega) (AWd hN ho)
 rw[ARw h1 hN hs ho c,Aqc h1 hN c]
 unfold Fo
 constructor
 ·intro h
  have:decide ((cc N (trs ts ts.length):Int)=(N:Int)-(trs ts ts.length).length)=true:=by injection h with h;injection h
  have:=AtV this
  omega
 ·intro h
  rw[ArD (by omega)]
end Go.Pev.Pl
end
section
namespace Go.Pev.Pl
open Tok
end Go.Pev.Pl
end
section
namespace Go.Pev.Pl.SE
open Go.Sort
def ok(_:Int×Int×Unit):Prop:=True
def okz:Int×Int×Unit:=(0,0,())
theorem VS:ok okz:=trivial
def lt(x y:Int×Int×Unit):Bool:=decide (x.1<y.1∨(x.1=y.1∧x.2.1<y.2.1))
theorem swo:SWO lt:=⟨fun x=>by simp[lt],fun x y z h1 h2=>by simp only[lt,ArH]at *;omega,fun x y z h1 h2=>by simp only[lt,AsI]at *;omega⟩
theorem Yu(a b:Int):Da (a,b,())=some (if a<b then -1 else if b<a then 1 else 0,()):=by
 rw[Gr,Ec,Km,Ko,Km,Ko]
 simp only[CM,Ae]
 by_cases h:a<b
 ·simp[h]
 ·by_cases h2:b<a
  ·simp[h,h2]
  ·simp[h,h2]
theorem or_val(a b:Int):orI ([a,b],())=some (if a=0 then b else a,()):=by
 obtain⟨m,hm⟩:∃ m,many=m+3:=⟨many-3,by simp only[many]⟩
 rw[ANJ,AJg,A3,hm]
 have i0:idx [a,b] (0:Int)=some a:=by rw[idx_eq];rfl
 have i1:idx [a,b] (1:Int)=some b:=by rw[idx_eq];rfl
 have l2:AM [a,b]=(2:Int):=rfl
 have w1:IntKind.wrap .i64 ((0:Int)+1)=1:=by rw[Ag (by omega)];rfl
 have w2:IntKind.wrap .i64 ((1:Int)+1)=2:=by rw[Ag (by omega)];rfl
 have c0:ilt (0:Int) 2=true:=by rw[Ae];rfl
 have c1:ilt (1:Int) 2=true:=by rw[Ae];rfl
 have c2:ilt (2:Int) 2=false:=by rw[Ae];rfl
 by_cases ha:a=0
 ·subst ha
  by_cases hb:b=0
  ·subst hb
   have z:ieq (0:Int) 0=true:=by rw[CM];rfl
   simp only[Aj,Fj,l2,i0,i1,w1,w2,c0,c1,c2,z,ArN,Ar0]
  ·have:ieq b 0=false:=by rw[CM];simpa using hb
   have z:ieq (0:Int) 0=true:=by rw[CM];rfl
   simp only[Aj,Fj,l2,i0,i1,w1,w2,c0,c1,c2,z,this,ArN,Ars,Ar0]
 ·have:ieq a 0=false:=by rw[CM];simpa using ha
  simp only[Aj,Fj,l2,i0,i1,w1,w2,c0,c1,c2,this,ha,Ars,ArY]
end Go.Pev.Pl.SE
end
section
namespace Go.Pev.Pl.ST
open Go.Sort
def ok(_:Int×Int×Int×Bool×Unit):Prop:=True
def okz:Int×Int×Int×Bool×Unit:=(0,0,0,false,())
theorem VS:ok okz:=trivial
def lt(x y:Int×Int×Int×Bool×Unit):Bool:=decide (x.1<y.1∨(x.1=y.1∧x.2.1<y.2.1))
theorem swo:SWO lt:=⟨fun x=>by simp[lt],fun x y z h1 h2=>by simp only[lt,ArH]at *;omega,fun x y z h1 h2=>by simp only[lt,AsI]at *;omega⟩
theorem Yu(a b:Int):Da (a,b,())=some (if a<b then -1 else if b<a then 1 else 0,()):=by
 rw[Gr,Ec,Km,Ko,Km,Ko]
 simp only[CM,Ae]
 by_cases h:a<b
 ·simp[h]
 ·by_cases h2:b<a
  ·simp[h,h2]
  ·simp[h,h2]
theorem or_val(a b:Int):orI ([a,b],())=some (if a=0 then b else a,()):=by
 obtain⟨m,hm⟩:∃ m,many=m+3:=⟨many-3,by simp only[many]⟩
 rw[ANJ,AJg,A3,hm]
 have i0:idx [a,b] (0:Int)=some a:=by rw[idx_eq];rfl
 have i1:idx [a,b] (1:Int)=some b:=by rw[idx_eq];rfl
 have l2:AM [a,b]=(2:Int):=rfl
 have w1:IntKind.wrap .i64 ((0:Int)+1)=1:=by rw[Ag (by omega)];rfl
 have w2:IntKind.wrap .i64 ((1:Int)+1)=2:=by rw[Ag (by omega)];rfl
 have c0:ilt (0:Int) 2=true:=by rw[Ae];rfl
 have c1:ilt (1:Int) 2=true:=by rw[Ae];rfl
 have c2:ilt (2:Int) 2=false:=by rw[Ae];rfl
 by_cases ha:a=0
 ·subst ha
  by_cases hb:b=0
  ·subst hb
   have z:ieq (0:Int) 0=true:=by rw[CM];rfl
   simp only[Aj,Fj,l2,i0,i1,w1,w2,c0,c1,c2,z,ArN,Ar0]
  ·have:ieq b 0=false:=by rw[CM];simpa using hb
   have z:ieq (0:Int) 0=true:=by rw[CM];rfl
   simp only[Aj,Fj,l2,i0,i1,w1,w2,c0,c1,c2,z,this,ArN,Ars,Ar0]
 ·have:ieq a 0=false:=by rw[CM];simpa using ha
  simp only[Aj,Fj,l2,i0,i1,w1,w2,c0,c1,c2,this,ha,Ars,ArY]
end Go.Pev.Pl.ST
end
section
namespace Go.Pev.Pl
open Tok
section
variable {α β:Type} [DecidableEq α]
theorem Oz(es:List (α×β))(k:α)(v:β)(j:α):AS (Ad es k v) j=if j=k then some v else AS es j:=by
 induction es with
 |nil=>
  simp only[Ad,AS]
  by_cases h:k=j
  ·simp[h]
  ·simp[h,AsA h]
 |cons e es ih=>
  obtain⟨a,b⟩:=e
  simp only[Ad]
  by_cases h:a=k
  ·subst h
   simp only[Ar0,AS]
   by_cases h2:a=j
   ·simp[h2]
   ·simp[h2,AsA h2]
  ·simp only[h,ArY,AS,ih]
   by_cases h2:a=j
   ·subst h2;simp[h]
   ·simp[h2]
end
def nrm(x:Edge):Edge:=(min x.1 x.2.1,max x.1 x.2.1,())
def ZU(n:Int)(x:Edge)(a:List (Edge×Int)×List Edge):(List (Edge×Int)×List Edge)⊕((Int×Unit)⊕(List Edge×Unit)⊕Unit):=
 if(nrm x).1<0∨n≤(nrm x).2.1 then .inr (.inl (10,()))else
 if(nrm x).1<(nrm x).2.1∧(AS a.1 (nrm x)).getD 0=0 then .inl (Ad a.1 (nrm x) 1,a.2++[nrm x])else .inl a
theorem Afd(n:Int)(own:List Edge):∀ (l:List Edge) (m:List (Edge×Int)) (come:List Edge),(∀ x∈l,0≤(nrm x).1∧(nrm x).2.1<n)→come.Nodup→(∀ k,(AS m k).getD 0=if k∈own∨k∈come then 1 else 0) →
  ∃ ys,walk (ZU n) (fun a=>(.inr (.inl (a.2,())):(Int×Unit)⊕(List Edge×Unit)⊕Unit)) l (m,come) = .inr (.inl (ys,()))∧ys.Nodup∧(∀ k,k∈ys↔k∈come∨(k∉own∧k.1<k.2.1∧∃ x∈l,nrm x=k))∧ys.length≤come.length+l.length:=by
 intro l
 induction l with
 |nil=>intro m come _ hn _;exact⟨come,rfl,hn,fun k=>by simp,by simp⟩
 |cons x l ih=>
  intro m come hall hn hm
  obtain⟨a1,a2⟩:=hall x (by simp)
  rw[walk]
  have hnf:ZU n x (m,come)=if(nrm x).1<(nrm x).2.1∧(AS m (nrm x)).getD 0=0 then .inl (Ad m (nrm x) 1,come++[nrm x])else .inl (m,come):=by
   unfold ZU
   rw[ArM (by omega)]
  by_cases hc:(nrm x).1<(nrm x).2.1∧(AS m (nrm x)).getD 0=0
  ·rw[hnf,ArQ hc]
   have hk:=hm (nrm x)
   rw[hc.2]at hk
   have hk2:¬ (nrm x∈own∨nrm x∈come):=fun h=>by rw[ArQ h]at hk;omega
   obtain⟨ys,e,h1,h2,h3⟩:=ih (Ad m (nrm x) 1) (come++[nrm x]) (fun y hy=>hall y (by simp[hy]))
    (by
     rw[Ass]
     exact⟨hn,by simp,fun a ha b hb=>by rintro rfl;simp at hb;exact hk2 (.inr (hb▸ha))⟩)
    (fun k=>by
     rw[Oz]
     by_cases hkx:k=nrm x
     ·subst hkx;simp
     ·rw[ArM hkx,hm]
      simp[hkx])
   refine⟨ys,e,h1,fun k => ?_,by rw[ArJ]at h3;simp at h3 ⊢;omega⟩
   rw[h2]
   constructor
   ·rintro (h|h)
    ·rcases ArI.1 h with h|h
     ·exact .inl h
     ·rw[Arx]at h
      subst h
      exact .inr ⟨fun h=>hk2 (.inl h),hc.1,x,by simp,rfl⟩
    ·obtain⟨g1,g2,y,hy,g3⟩:=h
     exact .inr ⟨g1,g2,y,by simp[hy],g3⟩
   ·rintro (h|⟨g1,g2,y,hy,g3⟩)
    ·exact .inl (by simp[h])
    ·rcases ArK.1 hy with rfl|hy
     ·exact .inl (by simp[g3])
     ·exact .inr ⟨g1,g2,y,hy,g3⟩
  ·rw[hnf,ArM hc]
   obtain⟨ys,e,h1,h2,h3⟩:=ih m come (fun y hy=>hall y (by simp[hy])) hn hm
   refine⟨ys,e,h1,fun k => ?_,by simp;omega⟩
   rw[h2]
   constructor
   ·rintro (h|⟨g1,g2,y,hy,g3⟩)
    ·exact .inl h
    ·exact .inr ⟨g1,g2,y,by simp[hy],g3⟩
   ·rintro (h|⟨g1,g2,y,hy,g3⟩)
    ·exact .inl h
    ·rcases ArK.1 hy with rfl|hy
     ·subst g3
      have hk:=hm (nrm y)
      by_cases hin:nrm y∈own∨nrm y∈come
      ·rcases hin with h|h
       ·exact absurd h g1
       ·exact .inl h
      ·rw[ArM hin]at hk
       exact absurd ⟨g2,hk⟩ hc
     ·exact .inr ⟨g1,g2,y,hy,g3⟩
theorem ANQ(n:Int):∀ (l:List Edge) (a:List (Edge×Int)×List Edge),¬ (∀ x∈l,0≤(nrm x).1∧(nrm x).2.1<n) →
  walk (ZU n) (fun a=>(.inr (.inl (a.2,())):(Int×Unit)⊕(List Edge×Unit)⊕Unit)) l a = .inl (10,()):=by
 intro l
 induction l with
 |nil=>intro a h;exact absurd (by simp) h
 |cons x l ih=>
  intro a h
  rw[walk]
  by_cases hx:(nrm x).1<0∨n≤(nrm x).2.1
  ·unfold ZU
   rw[ArQ hx]
  ·have hl:¬ (∀ x∈l,0≤(nrm x).1∧(nrm x).2.1<n):=fun hl=>h fun y hy=>by
    rcases ArK.1 hy with rfl|hy
    ·exact⟨by omega,by omega⟩
    ·exact hl y hy
   have hnf:ZU n x a = .inl (if(nrm x).1<(nrm x).2.1∧(AS a.1 (nrm x)).getD 0=0 then(Ad a.1 (nrm x) 1,a.2++[nrm x])else a):=by
    unfold ZU
    rw[ArM hx]
    split<;>rfl
   rw[hnf]
   exact ih _ hl
theorem AXH{xs ys zs:List Edge}(hp:ys.Perm xs)(hy:ys.Pairwise (fun x y=>SE.lt y x=false))(hz:zs.Pairwise Dd)(hzp:xs.Perm zs):ys=zs:=by
 refine AuS (le:=fun x y=>SE.lt y x=false) ?_ hy ?_ (hp.trans hzp)
 ·intro a b _ _ h1 h2
  simp only[SE.lt,AsI]at h1 h2
  obtain⟨a1,a2,⟨⟩⟩:=a
  obtain⟨b1,b2,⟨⟩⟩:=b
  simp only at h1 h2
  have e1:a1=b1:=by omega
  have e2:a2=b2:=by omega
  rw[e1,e2]
 ·refine hz.imp fun h => ?_
  unfold Dd at h
  simp only[SE.lt,AsI]
  omega
end Go.Pev.Pl
end
section
namespace Go.Pev.Pl
open Tok
theorem Anf:∀ (xs b:List Edge),sel xs (gfl b xs)=MJ b xs:=by
 intro xs
 induction xs with
 |nil=>intro b;rfl
 |cons x xs ih=>
  intro b
  have:=ih (b++[x])
  unfold sel at *
  rw[gfl,MJ,List.zip_cons_cons,AsS]
  by_cases h:NI b x.1 x.2.1=true
  ·simp[h,this]
  ·simp[h,this]
theorem ApY{N:Nat}{b xs:List Edge}(h:Fo N b)(hx:∀ e∈xs,InE N e):Fo N (b++MJ b xs):=by
 have h1:=OS xs b hx
 have h2:cc N (b++xs)=cc N (b++MJ b xs):=AF6 fun a c=>AFp xs b
 unfold Fo at *
 rw[ArJ]
 omega
theorem Xs{N:Nat}(hN:N≤64):0≤JG N:=by
 have:((List.range 65).all fun k=>decide (0≤JG k))=true:=by kernel_rfl
 exact AtV (Ark.1 this N (by simp;omega))
noncomputable def grown(N:Nat)(ts:List Tie)(l:List Edge):List Tie:=Zs ts (Cl N ts l) (gfl (trs ts ts.length) (Cl N ts l)) (Cl N ts l).length
theorem AgU(N:Nat)(ts:List Tie)(l:List Edge):(grown N ts l).length=ts.length+(Cl N ts l).length:=Amt ..
theorem AgS(N:Nat)(ts:List Tie)(l:List Edge):(trs (grown N ts l) (grown N ts l).length).Perm (trs ts ts.length++MJ (trs ts ts.length) (Cl N ts l)):=by
 have:=Amr ts (xs:=Cl N ts l) (bs:=gfl (trs ts ts.length) (Cl N ts l)) (Aot _ _)
 rw[Anf]at this
 exact this
theorem AgT{N:Nat}(hN:N≤64){ts:List Tie}(ho:oks N ts)(l:List Edge):oks N (grown N ts l):=
 Ams ho (Xs hN) _ (AFq N ts l) (fun e he=>by
  obtain⟨⟨a,b,c,_⟩,_⟩:=(OC N ts l e).1 he
  exact⟨a,b,c⟩) (fun e he=>((OC N ts l e).1 he).2)
theorem AhV{N:Nat}(hN:N≤64)(ts:List Tie)(l:List Edge):∀ e∈Cl N ts l,InE N e:=fun e he=>AqR (AmN hN ts l e he)
theorem Ala{N:Nat}(hN:N≤64){ts:List Tie}(h:Fo N (trs ts ts.length))(l:List Edge):Fo N (trs (grown N ts l) (grown N ts l).length):=
 (ApY h (AhV hN ts l)).perm (AgS N ts l).symm
structure RG2(N:Nat)(ts:List Tie):Prop where
 h1:1≤N
 hN:N≤64
 ht:ts.length≤400
 oks:oks N ts
 fo:Fo N (trs ts ts.length)
theorem RG2.r21{N:Nat}{ts:List Tie}(h:RG2 N ts):Dh (((N:Int),(ts,())),())=some (true,()):=(ARv h.h1 h.hN h.ht h.oks).2 h.fo
theorem RG2.lr{N:Nat}{ts:List Tie}(h:RG2 N ts):Fm (((N:Int),(ts,())),())=some (true,()):=by
 obtain⟨b,h1,h2,_⟩:=AGL (N:Int) ts (by have:=h.ht;omega)
 rw[h.r21]at h1
 cases h1
 exact h2
theorem RG2.inE{N:Nat}{ts:List Tie}(h:RG2 N ts):∀ e∈ts.map ed,In (N:Int) e.1∧In (N:Int) e.2.1:=AqY h.hN h.oks
theorem RG2.grown{N:Nat}{ts:List Tie}(h:RG2 N ts){l:List Edge}(hf:ts.length+(Cl N ts l).length≤400):RG2 N (grown N ts l):=
 ⟨h.h1,h.hN,by rw[AgU];exact hf,AgT h.hN h.oks l,Ala h.hN h.fo l⟩
end Go.Pev.Pl
end
section
namespace Go.Pev.Pl
open Tok
end Go.Pev.Pl
end
end
section
namespace Go.Pev.Pl
open Tok
theorem AnE(ts:List Tie)(k:Int):(trk ts k).length≤ts.length:=by
 unfold trk
 rw[Arf]
 exact Asw _ _
theorem AnD(ts:List Tie)(k:Int):∀ e∈trk ts k,e∈ts.map ed:=by
 intro e he
 obtain⟨t,h1,_,_,rfl⟩:=Dk.1 he
 exact ArT.2 ⟨t,h1,rfl⟩
theorem AiQ{N:Nat}{ts:List Tie}(h:oks N ts):trs ts ts.length=trk ts 0:=by
 rw[ALQ]
 unfold trk
 congr 1
 refine AtD fun t ht => ?_
 have:=((Rf N ts).1 h).1 t ht
 rw[ArD this.2.2.2.1,Bool.and_true]
theorem RG2.inK{N:Nat}{ts:List Tie}(h:RG2 N ts)(k:Int):∀ e∈trk ts k,In (N:Int) e.1∧In (N:Int) e.2.1:=fun e he=>h.inE e (AnD ts k e he)
theorem RG2.Aq7{N:Nat}{ts:List Tie}(h:RG2 N ts)(k:Int):(trk ts k).length≤400:=AsD (AnE ts k) h.ht
theorem RG2.Aqy{N:Nat}{ts:List Tie}(h:RG2 N ts)(k:Int):∃ out,HW ((N:Int),trk ts k,())=some (out,())∧Xo (N:Int) (trk ts k) out:=by
 have:=h.Aq7 k
 have h1:=h.h1
 have hN:=h.hN
 exact Gd (N:Int) (trk ts k) ⟨by omega,by omega⟩ (by omega) (h.inK k)
end Go.Pev.Pl
end
section
namespace Go.Pev.Pl
open Tok
theorem RG2.tie{N:Nat}{ts:List Tie}(h:RG2 N ts){t:Tie}(ht:t∈ts):In (N:Int) t.1∧In (N:Int) t.2.1∧t.1<t.2.1∧0≤t.2.2.1∧t.2.2.1≤JG N:=by
 have h1:=((Rf N ts).1 h.oks).1 t ht
 have h2:=h.inE (ed t) (ArT.2 ⟨t,ht,rfl⟩)
 exact⟨h2.1,h2.2,h1.2.1,h1.2.2.2.1,h1.2.2.2.2⟩
end Go.Pev.Pl
end
section
namespace Go.Pev.Pl
open Tok
def AWg(N:Nat):Nat:=(JG N).toNat
theorem AnG{N:Nat}(hN:N≤64):JG N=(AWg N:Int):=by
 have:=Xs hN
 unfold AWg
 omega
end Go.Pev.Pl
end
section
namespace Go.Pev.Pl
open Tok
theorem AnF{N:Nat}(hN:N≤64):N/2 ^ AWg N≤1:=by
 have:((List.range 65).all fun k=>decide (k/2 ^ AWg k≤1))=true:=by kernel_rfl
 exact AtV (Ark.1 this N (by simp;omega))
theorem RG2.below{N:Nat}{ts:List Tie}(h:RG2 N ts)(hs:Snd N (AWg N:Int) ts){t:Tie}(ht:t∈ts):t.2.2.1<(AWg N:Int):=
 hs.below (AnF h.hN) ht (by have:=(h.tie ht).2.2.1;omega)
end Go.Pev.Pl
end
section
namespace Go.Pev.Pl
open Tok
end Go.Pev.Pl
end
section
namespace Go.Pev.Pl
open Tok
end Go.Pev.Pl
end
section
namespace Go.Pev.Pl
open Tok
end Go.Pev.Pl
end
section
namespace Go.Pev.Pl
open Tok
theorem Apw{N:Nat}(h1:1≤N)(hN:N≤64){O:List Tie}(ht:O.length≤400)(hE:(O.map ed).Pairwise Dd)(hlt:∀ e∈O.map ed,e.1<e.2.1)(hin:∀ x∈O,InE N (ed x))(hl:∀ x∈O,0≤x.2.2.1∧x.2.2.1≤(AWg N:Int))(hfo:Fo N (trk O 0)):RG2 N O:=by
 have ho:oks N O:=by
  rw[Rf]
  refine⟨fun t ht => ?_,?_⟩
  ·have a:=hlt (ed t) (ArT.2 ⟨t,ht,rfl⟩)
   obtain⟨⟨b1,b2⟩,c1,c2⟩:=hin t ht
   have d:=hl t ht
   rw[← AnG hN]at d
   exact⟨b1,a,c2,d.1,d.2⟩
  ·rw[Asu]at hE
   exact hE
 exact⟨h1,hN,ht,ho,by rw[AiQ ho];exact hfo⟩
theorem RG2.edP{N:Nat}{ts:List Tie}(h:RG2 N ts):(ts.map ed).Pairwise Dd:=by
 rw[Asu]
 exact((Rf N ts).1 h.oks).2
theorem RG2.Aq8{N:Nat}{ts:List Tie}(h:RG2 N ts):∀ e∈ts.map ed,e.1<e.2.1:=by
 intro e he
 obtain⟨t,ht,rfl⟩:=ArT.1 he
 exact(h.tie ht).2.2.1
noncomputable def R0(N:Nat)(ts:List Tie)(l:List Edge):List Edge:=(ET N l).filter fun x=>decide (x∈ts.map ed)
end Go.Pev.Pl
end
section
namespace Go.Pev.Pl
open Tok
theorem AZv(N:Nat)(ts:List Tie)(l:List Edge):(R0 N ts l).Pairwise Dd:=(X4 N l).filter _
end Go.Pev.Pl
end
section
namespace Go.Pev.Pl
section
variable {N top:Nat} {ts w:List Tie} (hp:w.Perm ts) (hi:∀ x∈ts,InE N (ed x)) (hl:∀ t∈ts,0≤t.2.2.1∧t.2.2.1≤(top:Int)) (hfo:Fo N (trk ts 0)) (hlie:∀ x∈ts,x.2.2.2.1=false→Con (trk ts x.2.2.1) x.1 x.2.1)
include hp hi
include hl hfo hlie
end
end Go.Pev.Pl
end
section
namespace Go.Pev.Pl
open Tok
end Go.Pev.Pl
end
section
namespace Go.Pev.Pl
open Tok
def bef(x y:Tie):Prop:=y.2.2.1<x.2.2.1∨(x.2.2.1=y.2.2.1∧ahead x y)
theorem bef.trans{x y z:Tie}(h:bef x y)(h':bef y z):bef x z:=by
 unfold bef ahead at *
 omega
def Mrg(u v w:List Tie):Prop:=w.Perm (u++v)∧w.Pairwise bef
end Go.Pev.Pl
end
section
namespace Go.Pev.Pl
open Tok
noncomputable section
end
theorem Mrg.append{u1 u2 v1 v2 w1 w2:List Tie}(h1:Mrg u1 v1 w1)(h2:Mrg u2 v2 w2)(hu:(u1++u2).Pairwise bef)(hv:(v1++v2).Pairwise bef)(c1:∀ x∈u1,∀ y∈v2,bef x y)(c2:∀ y∈v1,∀ x∈u2,bef y x):Mrg (u1++u2) (v1++v2) (w1++w2):=by
 rw[AuB]at hu hv
 refine⟨?_,?_⟩
 ·refine(h1.1.append h2.1).trans ?_
  rw[Art,Art]
  refine List.Perm.append_left _ ?_
  rw[← Art,← Art]
  exact List.Perm.append_right _ AtN
 ·rw[AuB]
  refine⟨h1.2,h2.2,fun x hx y hy => ?_⟩
  have hx:=ArI.1 (h1.1.mem_iff.1 hx)
  have hy:=ArI.1 (h2.1.mem_iff.1 hy)
  rcases hx with hx|hx<;>rcases hy with hy|hy
  ·exact hu.2.2 x hx y hy
  ·exact c1 x hx y hy
  ·exact c2 x hx y hy
  ·exact hv.2.2 x hx y hy
end Go.Pev.Pl
end
section
namespace Go.Pev.Pl
open Tok
end Go.Pev.Pl
end
section
namespace Go.Pev.Pl
open Tok
end Go.Pev.Pl
end
section
namespace Go.Pev.Pl
open Tok
theorem ARV(l:List Edge)(hs:l.length<1073741824):UH (l,l,())=some (true,()):=by
 rw[AJD,RI,AR,Ah]
 have e:=Gk (step:=Fa) (fun i=>(l,l,(i:Int),())) l (fun _=>false) (fun _=>.inl (false,())) (.inr (.inl ())) (by omega)
  (fun i x hi hx=>by
   rw[Fa,AR,AK,ArD hi]
   simp only[AW hx,Ah,Ara,AuF,ArN]
   rw[AN (by omega)]
   rfl)
  (by rw[Fa,AR,AK,ArC (by omega)])
 have e':AU Fa many (l,l,(0:Int),())=_:=e
 have hf:(l.any fun _=>false)=false:=by simp
 rw[e',hf]
 simp
def lvl(ts:List Tie)(k:Int):List Tie:=ts.filter fun t=>decide (t.2.2.1=k)
end Go.Pev.Pl
end
section
namespace Go.Pev.Pl
open Tok
section
variable (n:Int) (ts:List Tie)
end
end Go.Pev.Pl
end
section
namespace Go.Pev.Pl
open Tok
def mid(f:Int→Int)(xs:List Int)(i:Nat):List Int:=(xs.take i).map f++xs.drop i
def lb(at0:List Int)(v:Int):Int:=at0.getD v.toNat 0
end Go.Pev.Pl
end
section
namespace Go.Pev.Pl
open Tok
end Go.Pev.Pl
end
section
namespace Go.Pev.Pl
open Tok
end Go.Pev.Pl
end
section
namespace Go.Pev.Pl
open Tok
end Go.Pev.Pl
end
section
namespace Go.Pev.Pl.SI
open Go.Sort
theorem GS(lt:Int→Int→Bool)(a j:Nat)(d:Array Int):(insInner lt a j d).size=d.size:=by
 induction j generalizing d with
 |zero=>rfl
 |succ j ih=>
  rw[insInner]
  split
  ·rw[ih,size_swp]
  ·rfl
end Go.Pev.Pl.SI
end
section
namespace Go.Pev.Pl.SI
open Go.Sort
theorem CZ(lt:Int→Int→Bool)(hi first:Nat):∀ (k root:Nat) (d:Array Int),hi-root=k→(siftDown lt hi first root d).size=d.size:=by
 intro k
 induction k using Nat.strongRecOn with
 |_ k ih=>
 intro root d hk
 rw[siftDown]
 split
 ·rfl
 ·split
  ·split
   ·rfl
   ·split
    ·rw[ih (hi-(2*root+2)) (by omega) _ _ rfl,size_swp]
    ·rfl
  ·split
   ·rfl
   ·rw[ih (hi-(2*root+1)) (by omega) _ _ rfl,size_swp]
theorem Hg(lt:Int→Int→Bool)(hi first:Nat):∀ (k:Nat) (d:Array Int),(heapBuild lt hi first k d).size=d.size:=by
 intro k
 induction k with
 |zero=>intro d;rfl
 |succ k ih=>intro d;rw[heapBuild,ih,CZ _ _ _ _ _ _ rfl]
end Go.Pev.Pl.SI
end
section
namespace Go.Pev.Pl.SI
open Go.Sort
section
variable (d:Array Int) (a i j:Nat) (hs:d.size<4294967296) (ha:a<d.size) (hj:j<d.size)
include hs ha hj
end
theorem IZ(p:Int→Bool)(d:Array Int)(j i:Nat)(hj:j<d.size)(hi:i≤d.size):scanUp p d j i≤d.size:=by
 suffices h:∀ (k i:Nat),j+1-i=k→i≤d.size→scanUp p d j i≤d.size from h _ i rfl hi
 intro k
 induction k using Nat.strongRecOn with
 |_ k ih=>
 intro i hk hi
 rw[scanUp]
 split
 ·rename_i h
  have:i≤j:=by simp at h;exact h.1
  exact ih (j+1-(i+1)) (by omega) (i+1) rfl (by omega)
 ·exact hi
end Go.Pev.Pl.SI
end
section
namespace Go.Pev.Pl.SI
open Go.Sort
theorem Ia(d:Array Int)(b:Nat):∀ (k i:Nat),b-i=k→i≤b→i≤scanSorted ltInt d b i∧scanSorted ltInt d b i≤b:=by
 intro k
 induction k using Nat.strongRecOn with
 |_ k ih=>
 intro i hk hi
 rw[scanSorted]
 split
 ·rename_i h
  have:i<b:=by simp at h;exact h.1
  have:=ih (b-(i+1)) (by omega) (i+1) rfl (by omega)
  omega
 ·omega
theorem MW:∀ (j:Nat) (d:Array Int),(shiftDown ltInt j d).size=d.size:=by
 intro j
 induction j with
 |zero=>intro d;rfl
 |succ j ih=>
  intro d
  rw[shiftDown]
  split
  ·rfl
  ·rw[ih,size_swp]
theorem E0(b:Nat):∀ (k j:Nat) (d:Array Int),b-j=k→(shiftUp ltInt b j d).size=d.size:=by
 intro k
 induction k using Nat.strongRecOn with
 |_ k ih=>
 intro j d hk
 rw[shiftUp]
 split
 ·split
  ·rfl
  ·rw[ih (b-(j+1)) (by omega) (j+1) _ rfl,size_swp]
 ·rfl
end Go.Pev.Pl.SI
end
section
namespace Go.Pev.Pl.SI
open Go.Sort
end Go.Pev.Pl.SI
end
section
namespace Go.Pev.Pl.SI
open Go.Sort
abbrev Amz:=List Int×Int×Int×Int×Bool×Bool×Unit
abbrev AAR:=Amz⊕(List Int×Unit)⊕Unit
noncomputable section
end
def XN(d:Array Int)(a b:Nat):AAR→Prop
 |.inl (xs,x,y,l,_,_,_)=>∃ (e:Array Int) (i j:Nat),xs=e.toList∧x=(i:Int)∧y=(j:Int)∧0≤l∧l≤100∧i≤j∧j≤e.size∧e.size=d.size∧j-i<b-a∧Below ltInt i j e ∧
   ∀ R,PermIn i j e R→SortedIn ltInt i j R→PermIn a b d R∧SortedIn ltInt a b R
 |.inr (.inl (xs,_))=>∃ R:Array Int,xs=R.toList∧PermIn a b d R∧SortedIn ltInt a b R
 |.inr (.inr _)=>False
def EB(self:(List Int×Int×Int×Int×Unit)→Option ((List Int×Unit)))(m:Nat):Prop:=
 ∀ (d:Array Int) (a b:Nat) (l:Int),a≤b→b≤d.size→d.size<4294967296→0≤l→l≤100→Below ltInt a b d→2*(b-a)<m →
  ∃ R:Array Int,self (d.toList,(a:Int),(b:Int),l,())=some (R.toList,())∧PermIn a b d R∧SortedIn ltInt a b R
section
variable {self:(List Int×Int×Int×Int×Unit)→Option ((List Int×Unit))} {d:Array Int} {a b:Nat} {l:Int}
end
def sorted(xs:List Int):List Int:=xs.mergeSort (fun x y=>decide (x≤y))
end Go.Pev.Pl.SI
end
section
namespace Go.Pev.Pl
open Tok
end Go.Pev.Pl
end
section
namespace Go.Pev.Pl
open Tok
section
variable (n:Int) (a2 a3:Bool) (a4 a5 top:Int)
end
end Go.Pev.Pl
end
section
namespace Go.Pev.Pl
open Tok
def FQ(x:Edge):Edge:=(min x.1 x.2.1,max x.1 x.2.1,())
abbrev WM:=List (Edge×Int)
def FP(m:WM)(x:Edge):Int:=(AS m x).getD 0
theorem AmE(o:List Edge)(m:WM)(hs:o.length<4294967296):
  ∃ a:List Edge,H6 (o,m,())=some (a,m,(((o.filter fun x => !ieq (FP m x) 0).length:Nat):Int),())∧a.take (o.filter fun x => !ieq (FP m x) 0).length=o.filter fun x => !ieq (FP m x) 0:=by
 have hp:=AhC (find:=CA) (step:=C7) ((0:Int),(0:Int),()) (fun a (w j:Nat)=>(a,m,(w:Int),(j:Int),())) (fun a (w:Nat)=>.inl (a,m,(w:Int),())) (fun i=>(o,m,(o.length:Int),(i:Int),())) (fun i=>.inl (o,m,(i:Int),())) (.inr (.inl (o,m,()))) (fun x => !ieq (FP m x) 0) o hs
  (fun a w j ha hj hw hg=>by
   unfold C7
   dsimp only
   simp (disch:=omega) only[AR,AK,ha,hj,Ara,L7 ((0:Int),(0:Int),()),QU,DY,hg,AN]
   unfold FP
   cases (!ieq ((AS m (o.getD j ((0:Int),(0:Int),()))).getD 0) 0)<;>rfl)
  (fun a w ha=>by unfold C7;dsimp only;rw[AR,AK,ArC (by omega)])
  (fun i hi=>by
   unfold CA
   dsimp only
   simp (disch:=omega) only[AK,hi,Ara,L7 ((0:Int),(0:Int),()),QU,AN]
   unfold FP
   cases ieq ((AS m (o.getD i ((0:Int),(0:Int),()))).getD 0) 0<;>rfl)
  (by unfold CA;dsimp only;rw[AK,ArC (by omega)])
 rw[PI,HJ,O9,HF]
 generalize (fun x => !ieq (FP m x) 0)=keep at *
 rcases hp with⟨h0,e⟩|⟨k,a',hk,e,e2,hl,hle,e4⟩
 ·have e':AU CA many (o,m,AM o,(0:Int),())=_:=e
  simp only[e',Ah]
  exact⟨o,by rw[h0];rfl,by rw[h0,Arw]⟩
 ·have e':AU CA many (o,m,AM o,(0:Int),())=_:=e
  obtain⟨c1,c2⟩:=AbD ((0:Int),(0:Int),()) (a:=a') (w:=(o.filter keep).length) (by omega)
  have s0:EK (Bs (o.filter keep).length (a'.length-(o.filter keep).length) ((0:Int),(0:Int),()) a') (0:Int) (((o.filter keep).length:Nat):Int)=some _:=ABN (by omega)
  have s1:EK a' (((o.filter keep).length:Nat):Int) (a'.length:Int)=some _:=Q8 (by omega)
  simp only[e',Ah]
  rw[ArC (by omega),AN (by omega)]
  simp only[e2,s1,AR,AsK,AFN,s0]
  refine⟨_,?_,c1.trans e4⟩
  rw[ArU,c2,Ase (by omega)]
theorem AYO{N:Nat}(h1:1≤N)(hN:N≤64)(ts:List Tie)(l:List Edge)(hs:l.length<1073741824)(m:WM)(i:Nat)(x:Edge)(hi:i<l.length)(hx:l[i]? = some x)(hb:0≤FP m (FQ x)∧FP m (FQ x)≤(i:Int)):
  D5 ((N:Int),ts,m,l,(l.length:Int),(i:Int),())=if In (N:Int) x.1∧In (N:Int) x.2.1 then some (.inl ((N:Int),ts,Ad m (FQ x) (FP m (FQ x)+1),l,(l.length:Int),((i+1:Nat):Int),()))else some (.inr (.inl (10,()))):=by
 unfold D5
 dsimp only
 rw[AK,ArD hi]
 simp only[AW hx,Ac1,Ac2]
 have hw:IntKind.wrap .i64 (FP m (FQ x)+1)=FP m (FQ x)+1:=Ag (by omega)
 obtain⟨m1,m2⟩:=AY8 m (FQ x) (FP m (FQ x)) (FP m (FQ x)+1)
 unfold FP FQ at m1 m2 hw
 by_cases c1:min x.1 x.2.1<0
 ·rw[Ae,ArD c1,ArM (fun q=>by have q1:=q.1.2.2.1;have q2:=q.2.2.2.1;omega)]
 ·rw[Ae,ArC c1]
  by_cases c2:(N:Int)≤max x.1 x.2.1
  ·rw[An,ArD c2,ArM (fun q=>by have q1:=q.1.2.2.2;have q2:=q.2.2.2.2;omega)]
  ·rw[An,ArC c2,ArQ ⟨⟨by omega,by omega,by omega,by omega⟩,⟨by omega,by omega,by omega,by omega⟩⟩]
   simp only[m1,hw,m2,AN (show i+1<9223372036854775808 by omega)]
   rfl
theorem AYQ{N:Nat}(h1:1≤N)(hN:N≤64)(ts:List Tie)(l:List Edge)(hs:l.length<1073741824):
  (¬ Apj N l∧AU D5 many ((N:Int),ts,([]:WM),l,(l.length:Int),(0:Int),())=some (.inl (10,()))) ∨
  (Apj N l∧∃ m:WM,(∀ x,FP m x=0↔x∉l.map FQ)∧AU D5 many ((N:Int),ts,([]:WM),l,(l.length:Int),(0:Int),())=some (.inr (.inl ((N:Int),ts,m,())))):=by
 have key:∀ (k i:Nat) (m:WM) (cnt:Nat),i+k=l.length→k<cnt→(∀ x,0≤FP m x∧FP m x≤(i:Int)∧(FP m x=0↔x∉(l.take i).map FQ)) →
   ((∃ x∈l.drop i,¬ (In (N:Int) x.1∧In (N:Int) x.2.1))∧Aj D5 cnt ((N:Int),ts,m,l,(l.length:Int),(i:Int),())=some (.inl (10,()))) ∨
   ((∀ x∈l.drop i,In (N:Int) x.1∧In (N:Int) x.2.1)∧∃ m':WM,(∀ x,FP m' x=0↔x∉l.map FQ)∧Aj D5 cnt ((N:Int),ts,m,l,(l.length:Int),(i:Int),())=some (.inr (.inl ((N:Int),ts,m',())))):=by
  intro k
  induction k with
  |zero=>
   intro i m cnt hi hc hm
   obtain⟨cnt,rfl⟩:∃ c,cnt=c+1:=⟨cnt-1,by omega⟩
   right
   have:i=l.length:=by omega
   subst this
   refine⟨fun x hx=>(by rw[List.drop_length]at hx;cases hx),m,fun x => ?_,?_⟩
   ·have:=(hm x).2.2
    rwa [Arw]at this
   ·unfold D5
    rw[Aj]
    dsimp only
    rw[AK,ArC (by omega)]
  |succ k ih=>
   intro i m cnt hi hc hm
   obtain⟨cnt,rfl⟩:∃ c,cnt=c+1:=⟨cnt-1,by omega⟩
   have hi':i<l.length:=by omega
   have hx:l[i]? = some l[i]:=ArG hi'
   have hdr:l.drop i=l[i]::l.drop (i+1):=Ar8 hi'
   have htk:l.take (i+1)=l.take i++[l[i]]:=Asi hi'
   rw[hdr]
   generalize hxe:l[i]=x at *
   have hb:=hm (FQ x)
   obtain⟨b1,b2,_⟩:=hb
   rw[Aj,AYO h1 hN ts l hs m i x hi' hx ⟨b1,b2⟩]
   by_cases hin:In (N:Int) x.1∧In (N:Int) x.2.1
   ·rw[ArQ hin]
    have hst:∀ y,FP (Ad m (FQ x) (FP m (FQ x)+1)) y=if y=FQ x then FP m (FQ x)+1 else FP m y:=by
     intro y
     unfold FP
     rw[AZU]
     split<;>rfl
    have:=ih (i+1) (Ad m (FQ x) (FP m (FQ x)+1)) cnt (by omega) (by omega) (fun y=>by
     rw[hst]
     obtain⟨d1,d2,d3⟩:=hm y
     rw[htk,Ar9,ArI]
     by_cases e:y=FQ x
     ·rw[ArQ e]
      refine⟨by omega,by omega,⟨fun q=>by omega,fun q=>absurd (.inr (by simp[e])) q⟩⟩
     ·rw[ArM e]
      refine⟨d1,by omega,d3.trans ⟨fun q hh => ?_,fun q hh=>q (.inl hh)⟩⟩
      rcases hh with hh|hh
      ·exact q hh
      ·exact e (by simpa using hh))
    rcases this with⟨⟨y,hy1,hy2⟩,h3⟩|⟨h2,h3⟩
    ·exact .inl ⟨⟨y,by simp[hy1],hy2⟩,h3⟩
    ·refine .inr ⟨fun y hy => ?_,h3⟩
     rcases ArK.1 hy with rfl|hy
     ·exact hin
     ·exact h2 y hy
   ·rw[ArM hin]
    exact .inl ⟨⟨x,by simp,hin⟩,rfl⟩
 have hz:∀ x:Edge,FP ([]:WM) x=0:=fun _=>rfl
 have:=key l.length 0 [] many (by omega) (by simp only[many];omega) (fun x=>by rw[hz];simp)
 rw[At3]at this
 rw[A3]
 rcases this with⟨⟨x,hx,hn⟩,e⟩|⟨h,e⟩
 ·exact .inl ⟨fun q=>hn (q x hx),e⟩
 ·exact .inr ⟨h,e⟩
theorem AfE{N:Nat}{ts:List Tie}(h:RG2 N ts)(l:List Edge)(hs:l.length<1073741824):
  ASM (((N:Int),(ts,())),l,())=some (if ∀ e∈l,In (N:Int) e.1∧In (N:Int) e.2.1 then(R0 N ts l,0,())else([],10,())):=by
 have ht:=h.ht
 rw[ASL,Z4]
 simp only[h.lr,ArN,AR]
 rcases AYQ h.h1 h.hN ts l hs with⟨hn,e⟩|⟨hall,m,hm,e⟩
 ·rw[ArM (show ¬ ∀ e∈l,In (N:Int) e.1∧In (N:Int) e.2.1 from hn)]
  simp only[e]
 ·rw[ArQ (show ∀ e∈l,In (N:Int) e.1∧In (N:Int) e.2.1 from hall)]
  obtain⟨a,e1,e2⟩:=AmE (ts.map ed) m (by rw[Arf];omega)
  simp only[e,AEB (N:Int) ts h.ht h.lr,e1,Bv,AFN,e2]
  congr 2
  have hf:((ts.map ed).filter fun x => !ieq (FP m x) 0)=(ts.map ed).filter fun x=>decide (x∈l.map FQ):=by
   refine AtD fun x _ => ?_
   rw[Ah,AsT,As2,AsI,AtM,hm x]
   exact AtW
  rw[hf]
  have p1:((ts.map ed).filter fun x=>decide (x∈l.map FQ)).Pairwise Dd:=h.edP.filter _
  have p2:=AZv N ts l
  have hmem:∀ x:Edge,x∈((ts.map ed).filter fun x=>decide (x∈l.map FQ))↔x∈R0 N ts l:=by
   intro x
   unfold R0
   rw[Arr,Arr,ADv,AtM,AtM]
   have norm:∀ y:Edge,x=FQ y→x.1<x.2.1→x=y∨x=(y.2.1,y.1,()):=by
    rintro⟨a,b,⟨⟩⟩ rfl hlt
    unfold FQ at hlt ⊢
    simp only at hlt ⊢
    rcases Int.lt_or_le a b with q|q
    ·left;rw[Atx (by omega),AuD (by omega)]
    ·right;rw[Atn (by omega),AuO (by omega)]
   constructor
   ·rintro⟨q1,q2⟩
    have hlt:=h.Aq8 x q1
    obtain⟨i1,i2⟩:=h.inE x q1
    refine⟨⟨i1.2.2.1,hlt,i2.2.2.2,?_⟩,q1⟩
    obtain⟨y,hy,hyx⟩:=ArT.1 q2
    unfold LJ
    rcases norm y hyx.symm hlt with rfl|hh
    ·exact .inl hy
    ·refine .inr ?_
     rw[hh]
     exact hy
   ·rintro⟨⟨q1,q2,q3,q4⟩,q5⟩
    refine⟨q5,ArT.2 ?_⟩
    obtain⟨a,b,⟨⟩⟩:=x
    unfold FQ
    simp only at q2
    rcases q4 with q4|q4
    ·exact⟨_,q4,by simp only;rw[Atx (by omega),AuD (by omega)]⟩
    ·exact⟨_,q4,by simp only;rw[Atn (by omega),AuO (by omega)]⟩
  have asym:∀ a b:Edge,Dd a b→Dd b a→False:=fun a b q1 q2=>by unfold Dd at *;omega
  have nd1:((ts.map ed).filter fun x=>decide (x∈l.map FQ)).Nodup:=p1.imp fun {a b} hh=>by rintro rfl;exact asym _ _ hh hh
  have nd2:(R0 N ts l).Nodup:=p2.imp fun {a b} hh=>by rintro rfl;exact asym _ _ hh hh
  exact AuS (le:=Dd) (fun a b _ _ q1 q2=>(asym a b q1 q2).elim) p1 p2 ((AuG nd1 nd2).2 hmem)
end Go.Pev.Pl
end
section
namespace Go.Pev.Pl
open Tok
end Go.Pev.Pl
end
section
namespace Go.Pev.Pl.SE
open Go.Sort
theorem W4{x y:Int×Int×Unit}(_:ok x)(_:ok y):∃ c,Ak (x,y,())=some (c,())∧ilt c (0:Int)=lt x y:=by
 rw[Yc,LK]
 simp only[Yu,or_val,Ae,lt]
 refine⟨_,rfl,?_⟩
 apply AsX.2
 by_cases h1:x.1<y.1
 ·simp[h1]
 ·by_cases h2:y.1<x.1
  ·have h3:¬ x.1=y.1:=by omega
   simp[h1,h2,h3]
  ·have h3:x.1=y.1:=by omega
   by_cases h4:x.2.1<y.2.1
   ·simp[h3,h4]
   ·by_cases h5:y.2.1<x.2.1
    ·simp[h3,h4,h5]
    ·simp[h3,h4,h5]
noncomputable def S:SG.SP (Int×Int×Unit):=⟨((0:Int),((0:Int),())),Ak,ok,okz,VS,lt,swo,fun h1 h2=>W4 h1 h2⟩
theorem Jj(xs:List (Int×Int×Unit))(h:xs.length<4294967296)(hok:∀ x∈xs,ok x):∃ ys,ARC (xs,())=some (ys,())∧ys.Perm xs∧ys.Pairwise fun x y=>lt y x=false:=SG.Jj S xs h hok
end Go.Pev.Pl.SE
namespace Go.Pev.Pl
open Tok
section
variable {α β:Type} [DecidableEq α]
end
theorem ATp(l:List Edge)(n:Int)(ts:List Tie)(own:List Edge)(hs:own.length<1073741824):
  ∃ m:List (Edge×Int),AU Iq many (l,n,ts,([]:List (Edge×Int)),own,AM own,(0:Int),())=some (.inl (l,n,ts,m,()))∧∀ k,(AS m k).getD 0=if k∈own then 1 else 0:=by
 have e:=DI (step:=Iq) (fun i (a:List (Edge×Int))=>(l,n,ts,a,own,AM own,(i:Int),())) own (fun x a=>.inl (Ad a x (1:Int))) (fun a=>.inl (l,n,ts,a,())) (fun i a=>True) (by omega)
  (fun i x a hi hx _=>by
   refine⟨fun m' h' => ?_,fun r h'=>(by cases h')⟩
   cases h'
   refine⟨?_,trivial⟩
   rw[Iq,AR,AK,ArD hi]
   simp only[AW hx,BJ hx]
   rw[AN (by omega)])
  (fun a _=>by rw[Iq,AR,AK,ArC (by omega)]) [] trivial
 have e':AU Iq many (l,n,ts,([]:List (Edge×Int)),own,AM own,(0:Int),())=_:=e
 rw[Bi (fun(x:Edge) (a:List (Edge×Int))=>Ad a x (1:Int))]at e'
 refine⟨_,e',?_⟩
 have key:∀ (xs:List Edge) (a:List (Edge×Int)) (k:Edge),(AS (xs.foldl (fun a x=>Ad a x (1:Int)) a) k).getD 0=if k∈xs then 1 else(AS a k).getD 0:=by
  intro xs
  induction xs with
  |nil=>intro a k;simp
  |cons x xs ih=>
   intro a k
   rw[AsC,ih,Oz]
   by_cases h:k∈xs
   ·simp[h]
   ·by_cases h2:k=x
    ·subst h2;simp
    ·simp[h,h2]
 intro k
 rw[key]
 rfl
theorem Agd(n:Int)(ts:List Tie)(m:List (Edge×Int))(l:List Edge)(hs:l.length<1073741824):
  AU Ip many (n,ts,m,([]:List Edge),l,AM l,(0:Int),())=some (walk (ZU n) (fun a=>.inr (.inl (a.2,()))) l (m,[])):=by
 have e:=DI (step:=Ip) (fun i (a:List (Edge×Int)×List Edge)=>(n,ts,a.1,a.2,l,AM l,(i:Int),())) l (ZU n) (fun a=>.inr (.inl (a.2,()))) (fun i a=>a.2.length≤i) (by omega)
  (fun i x a hi hx ha=>by
   have step:Ip (n,ts,a.1,a.2,l,AM l,(i:Int),())=match ZU n x a with
     |.inl a'=>some (.inl (n,ts,a'.1,a'.2,l,AM l,((i+1:Nat):Int),()))
     |.inr r=>some (.inr r):=by
    rw[Ip,AR,AK,ArD hi]
    simp only[AW hx,Ac1,Ac2]
    rw[Ae,An,Ae,Ah,AN (by omega),Bd (by simp only[AR,ArO,ArZ];omega)]
    unfold ZU
    have hn1:(nrm x).1=min x.1 x.2.1:=rfl
    have hn2:(nrm x).2.1=max x.1 x.2.1:=rfl
    have hn3:(min x.1 x.2.1,max x.1 x.2.1,())=nrm x:=rfl
    rw[hn3,← hn1,← hn2]
    by_cases q1:(nrm x).1<0
    ·rw[ArD q1,ArQ (.inl q1)]
    rw[ArC q1]
    by_cases q2:n≤(nrm x).2.1
    ·rw[ArD q2,ArQ (.inr q2)]
    rw[ArC q2,ArM (fun h=>by rcases h with h|h;exact q1 h;exact q2 h)]
    by_cases q3:(nrm x).1<(nrm x).2.1
    ·rw[ArD q3]
     by_cases q4:(AS a.1 (nrm x)).getD 0=0
     ·rw[ArD q4,ArQ ⟨q3,q4⟩]
      rfl
     ·rw[ArC q4,ArM (fun h=>q4 h.2)]
    ·rw[ArC q3,ArM (fun h=>q3 h.1)]
   refine⟨fun m' h' => ?_,fun r h' => ?_⟩
   ·rw[h']at step
    refine⟨step,?_⟩
    unfold ZU at h'
    split at h'
    ·cases h'
    ·split at h'
     ·cases h';rw[ArJ];simp;omega
     ·cases h';omega
   ·rw[h']at step;exact step)
  (fun a _=>by rw[Ip,AR,AK,ArC (by omega)]) (m,[]) (ArP _)
 exact e
theorem Alf{N:Nat}(h1:1≤N)(hN:N≤64)(ts:List Tie)(ht:ts.length≤400)(l:List Edge)(hs:l.length<1073741824)(hr:Fm (((N:Int),(ts,())),())=some (true,())):
  Alh (((N:Int),(ts,())),l,())=some (if ∀ e∈l,In (N:Int) e.1∧In (N:Int) e.2.1 then(Cl N ts l,0,())else([],10,())):=by
 obtain⟨m,e0,hm⟩:=ATp l (N:Int) ts (ts.map ed) (by rw[Arf];omega)
 rw[AdE,AOI]
 simp only[hr,ArN,AEB (N:Int) ts ht hr,e0,Agd (N:Int) ts m l hs]
 have hiff:(∀ x∈l,0≤(nrm x).1∧(nrm x).2.1<(N:Int))↔∀ e∈l,In (N:Int) e.1∧In (N:Int) e.2.1:=by
  constructor
  ·intro h e he
   have:=h e he
   simp only[nrm]at this
   exact⟨Ac0 h1 hN (by omega),Ac0 h1 hN (by omega)⟩
  ·intro h e he
   obtain⟨⟨_,_,a1,a2⟩,⟨_,_,b1,b2⟩⟩:=h e he
   simp only[nrm]
   omega
 by_cases hall:∀ e∈l,In (N:Int) e.1∧In (N:Int) e.2.1
 ·rw[ArQ hall]
  obtain⟨ys,e1,y1,y2,y3⟩:=Afd (N:Int) (ts.map ed) l m [] (hiff.2 hall) List.nodup_nil (fun k=>by
   rw[hm]
   by_cases h:k∈ts.map ed
   ·rw[ArQ h,ArQ (.inl h)]
   ·rw[ArM h,ArM (fun hh=>by rcases hh with hh|hh;exact h hh;cases hh)])
  rw[e1]
  have hlen:ys.length<4294967296:=by
   have:([]:List Edge).length=0:=rfl
   omega
  obtain⟨zs,z1,z2,z3⟩:=SE.Jj ys hlen (fun _ _=>trivial)
  have hcp:=AFq N ts l
  have hperm:ys.Perm (Cl N ts l):=by
   rw[AuG y1 (hcp.imp fun {a b} h=>by
    rintro rfl
    unfold Dd at h;omega)]
   intro k
   rw[y2,OC]
   constructor
   ·rintro (h|⟨g1,g2,x,hx,rfl⟩)
    ·cases h
    ·have:=(hiff.2 hall) x hx
     refine⟨⟨this.1,g2,this.2,?_⟩,g1⟩
     obtain⟨a,b,⟨⟩⟩:=x
     unfold LJ nrm
     simp only
     rcases Int.le_total a b with h|h
     ·left;rw[Atx h,AuD h];exact hx
     ·right;rw[Atn h,AuO h];exact hx
   ·rintro⟨⟨g1,g2,g3,g4⟩,g5⟩
    refine .inr ⟨g5,g2,?_⟩
    obtain⟨a,b,⟨⟩⟩:=k
    simp only at g2
    rcases g4 with h|h
    ·exact⟨_,h,by unfold nrm;simp only;rw[Atx (by omega),AuD (by omega)]⟩
    ·exact⟨_,h,by unfold nrm;simp only;rw[Atn (by omega),AuO (by omega)]⟩
  rw[AXH z2 z3 hcp hperm]at z1
  simp only[z1]
 ·rw[ArM hall,ANQ (N:Int) l (m,[]) (fun h=>hall (hiff.1 h))]
end Go.Pev.Pl
end
section
namespace Go.Pev.Pl
def AEI(e:Edge):Nat:=(min e.1 e.2.1).toNat*65536+(max e.1 e.2.1).toNat
def D7(e:Edge):Prop:=0≤e.1∧e.1<65536∧0≤e.2.1∧e.2.1<65536
theorem AoQ{e:Edge}(h:D7 e):AEI e<4294967296:=by
 unfold D7 at h;unfold AEI
 have h1:(min e.1 e.2.1).toNat<65536:=by omega
 have h2:(max e.1 e.2.1).toNat<65536:=by omega
 omega
theorem AKN{n:Int}(h:0≤n∧n<65536):AKO (n,())=some (true,()):=by
 rw[AU0,AAI,An,ArD h.1,Ae,ArD h.2]
theorem Akb{a b:Nat}(ha:a<65536)(hb:b<65536):IntKind.wrap .u32 (BitVec.ofInt (IntKind.bits .u32) ((a*65536:Nat):Int) ||| BitVec.ofInt (IntKind.bits .u32) (b:Int)).toNat=((a*65536+b:Nat):Int):=by
 have e:(BitVec.ofInt (IntKind.bits .u32) ((a*65536:Nat):Int) ||| BitVec.ofInt (IntKind.bits .u32) (b:Int)).toNat=a*65536+b:=by
  rw[BitVec.toNat_or,Atj,Atj,Atw,Atw]
  have hbits:IntKind.bits .u32=32:=rfl
  rw[hbits,As7 (by omega),As7 (by omega)]
  have:=Nat.shiftLeft_add_eq_or_of_lt (i:=16) (b:=b) (by omega) a
  rw[Nat.shiftLeft_eq]at this
  exact this.symm
 rw[e]
 exact IV (by omega)
theorem AmA{e:Edge}(h:D7 e):AmC ((e.1,(e.2.1,())),())=some ((AEI e:Int),true,()):=by
 obtain⟨u,v,⟨⟩⟩:=e
 obtain⟨h1,h2,h3,h4⟩:=h
 simp only at h1 h2 h3 h4
 obtain⟨u,rfl⟩:=ArR h1
 obtain⟨v,rfl⟩:=ArR h3
 rw[AdM,AOm]
 simp only[AKN (show 0≤(u:Int)∧(u:Int)<65536 by omega),AKN (show 0≤(v:Int)∧(v:Int)<65536 by omega),ArN]
 have e1:B6 (u:Int) (v:Int)=((min u v:Nat):Int):=by unfold B6;split<;>omega
 have e2:imax (u:Int) (v:Int)=((max u v:Nat):Int):=by unfold imax;split<;>omega
 have hm:min u v<65536:=by omega
 have hM:max u v<65536:=by omega
 rw[e1,e2,IV (by omega),IV (by omega)]
 have e3:shl? .u32 ((min u v:Nat):Int) (16:Int)=some ((min u v*65536:Nat):Int):=by
  rw[Pb,RE,ArM (by omega)]
  have:min (16:Int).toNat (IntKind.bits .u32)=16:=by decide
  rw[this,show((min u v:Nat):Int)*2 ^ 16=((min u v*65536:Nat):Int) by omega,IV (by omega)]
 simp only[e3]
 rw[Akb hm hM]
 have:AEI ((u:Int),(v:Int),())=min u v*65536+max u v:=by
  unfold AEI
  show(min (u:Int) (v:Int)).toNat*65536+(max (u:Int) (v:Int)).toNat=_
  have a1:(min (u:Int) (v:Int)).toNat=min u v:=by omega
  have a2:(max (u:Int) (v:Int)).toNat=max u v:=by omega
  rw[a1,a2]
 rw[this]
def AAk(k:Int):Edge:=(k/65536,k % 65536,())
theorem AhH{k:Nat}(h:k<4294967296):AU5 ((k:Int),())=some (AAk k,()):=by
 rw[AU4,AAJ]
 have e1:shr? .u32 (k:Int) (16:Int)=some ((k:Int)/65536):=by
  rw[ABb,ZQ,ArM (by omega)]
  have:min (16:Int).toNat (IntKind.bits .u32)=16:=by decide
  rw[this]
  congr 1
  rw[show(2:Int) ^ 16=65536 by decide,Int.fdiv_eq_ediv_of_nonneg _ (by omega)]
 have e2:IntKind.wrap .u16 (k:Int)=(k:Int) % 65536:=by
  simp[IntKind.wrap,IntKind.bits,IntKind.signed]
 simp only[e1,e2]
 rw[Ag (by omega),Ag (by omega)]
 rfl
theorem AIm{e:Edge}(h:D7 e):AAk (AEI e:Int)=(min e.1 e.2.1,max e.1 e.2.1,()):=by
 obtain⟨u,v,⟨⟩⟩:=e
 obtain⟨h1,h2,h3,h4⟩:=h
 simp only at h1 h2 h3 h4
 unfold AAk AEI
 simp only[Ard,Atd]
 omega
def Cn(l:List Edge):List Nat:=(l.filter fun e=>decide (e.1≠e.2.1)).map AEI
theorem ATt{l:List Edge}(h:∀ e∈l,D7 e):∀ k∈Cn l,k<4294967296:=by
 intro k hk
 obtain⟨e,he,rfl⟩:=ArT.1 hk
 exact AoQ (h e (Arr.1 he).1)
theorem WD(l:List Edge):(Cn l).length≤l.length:=by
 unfold Cn;rw[Arf];exact Asw _ _
noncomputable def FX(w:AV9)(n:Nat):Int:=match CN ((nbl n w.2.1.toNat:Int),w.2.2.1,()),CN ((n:Int),w.2.2.1,())with
 |some a,some b=>2*a.2.1*(nps w.1.toNat:Int)+(2*a.2.1+b.2.1)
 |_,_=>0
theorem Ag4{ks:List Nat}{w:AV9}(hw:PJ w)(hk:∀ x∈ks,x<4294967296)(hn:ks.length≤1000):
  0≤FX w ks.length∧(FX w ks.length=0→ks=[])∧(ks=[]→FX w ks.length=0)∧Yp (nI ks,w,())=some (ADo (nI (srt ks w.1.toNat)),FX w ks.length,0,()):=by
 obtain⟨b,c,p,u⟩:=w
 obtain⟨h1,h2,h3,h4,h5⟩:=hw
 simp only at h1 h2 h3 h4 h5
 obtain⟨b,rfl⟩:=ArR (show 0≤b by omega)
 obtain⟨c,rfl⟩:=ArR (show 0≤c by omega)
 have hcb:nbl ks.length c≤1000:=AsD (ADu (by omega)) hn
 obtain⟨U,k,u1,u2,u3,u4⟩:=AEn hcb h5
 obtain⟨V,m,v1,v2,v3,v4⟩:=AEn hn h5
 have hst:FX ((b:Int),(c:Int),p,u) ks.length=((2*k*nps b+(2*k+m):Nat):Int):=by
  unfold FX
  simp only[AsG,u4,v4]
  have:(2:Int)*(k:Int)*(nps b:Int)=((2*k*nps b:Nat):Int):=by
   rw[AtF,AtF];rfl
  rw[this];omega
 obtain⟨T,hT⟩:=AUy (p:=p) (b:=b) (c:=c) (by omega) (by omega) (by omega) (by omega) hk hn u3 v3 u1 u4 v1 v4
 rw[hst]
 refine⟨by omega,fun h0 => ?_,fun h0 => ?_,?_⟩
 ·have hm:m=0:=by omega
  rcases AsF ks.length with hz|hz
  ·exact Ari hz
  ·have:=v2 hz;omega
 ·subst h0
  have z1:k=0:=by
   have hz:nbl ([]:List Nat).length c=0:=by have:=ADu (n:=0) (b:=c) (by omega);simpa using this
   rw[hz]at u4
   have e:=Mz h5
   have u4':CN ((0:Int),p,())=some (nI U,(k:Int),0,()):=u4
   rw[e]at u4'
   simp only[ArE,Ard]at u4'
   omega
  have z2:m=0:=by
   have e:=Mz h5
   have v4':CN ((0:Int),p,())=some (nI V,(m:Int),0,()):=v4
   rw[e]at v4'
   simp only[ArE,Ard]at v4'
   omega
  rw[z1,z2];simp
 ·obtain⟨a,d,q,v⟩:=p
  rw[AFM,SH]
  simp only[hT]
  simp only[AsG]
theorem Ag6{xs:List Int}{w:AV9}(h:¬ (PJ w∧xs.length≤1000)):Yp (xs,w,())=some ([],0,1,()):=by
 have hr:=Aej h
 obtain⟨b,c,⟨a,d,q,v⟩,u⟩:=w
 have e1:ieq (1:Int) 0=false:=by rw[Ah];rfl
 have hr':AB3 (xs,b,c,(a,d,q,()),())=some ([],0,1,()):=hr
 have hd:OM (xs,(b,c,(a,d,q,()),()),())=some ([],[],0,1,()):=by
  rw[QT,KD]
  simp only[hr',e1,Ars]
 rw[AFM,SH]
 simp only[hd]
def It(l:List Edge)(b:Nat):List Edge:=(ADo (nI (srt (Cn l) b))).map AAk
theorem AZE{l:List Nat}{x:Int}:x∈nI l↔∃ k∈l,x=(k:Int):=by
 unfold nI;rw[ArT]
 exact⟨fun ⟨k,h1,h2⟩=>⟨k,h1,h2.symm⟩,fun ⟨k,h1,h2⟩=>⟨k,h1,h2.symm⟩⟩
theorem OB{l:List Edge}{b:Nat}(hf:∀ e∈l,D7 e)(x:Edge):x∈It l b↔0≤x.1∧x.1<x.2.1∧LJ l x.1 x.2.1:=by
 unfold It
 rw[ArT]
 constructor
 ·rintro⟨k,hk,rfl⟩
  rw[ADw,AZE]at hk
  obtain⟨k,hk,rfl⟩:=hk
  rw[(MV _ _).mem_iff]at hk
  obtain⟨e,he,rfl⟩:=ArT.1 hk
  obtain⟨he,hne⟩:=Arr.1 he
  have hne:e.1≠e.2.1:=by simpa using hne
  rw[AIm (hf e he)]
  have hfe:=hf e he
  obtain⟨u,v,⟨⟩⟩:=e
  unfold D7 at hfe
  simp only at hne hfe ⊢
  rcases Int.lt_or_gt_of_ne hne with h|h
  ·rw[Atx (by omega),AuD (by omega)]
   exact⟨by omega,h,.inl he⟩
  ·rw[Atn (by omega),AuO (by omega)]
   exact⟨by omega,h,.inr he⟩
 ·rintro⟨h1,h2,h3⟩
  obtain⟨u,v,⟨⟩⟩:=x
  simp only at h1 h2 h3
  have main:∀ e:Edge,e∈l→e.1≠e.2.1→min e.1 e.2.1=u→max e.1 e.2.1=v→∃ a∈ADo (nI (srt (Cn l) b)),AAk a=(u,v,()):=by
   intro e he hne hu hv
   refine⟨(AEI e:Int),?_,by rw[AIm (hf e he),hu,hv]⟩
   rw[ADw,AZE]
   refine⟨AEI e,(MV _ _).mem_iff.2 (ArT.2 ⟨e,Arr.2 ⟨he,by simpa using hne⟩,rfl⟩),rfl⟩
  rcases h3 with h3|h3
  ·exact main _ h3 (by simp only;omega) (by simp only;omega) (by simp only;omega)
  ·exact main _ h3 (by simp only;omega) (by simp only;omega) (by simp only;omega)
theorem AKH{l:List Edge}{b:Nat}:(It l b).length≤l.length:=by
 unfold It ADo
 rw[Arf,Arf]
 have h1:=AAB (QJ (nI (srt (Cn l) b))) (nI (srt (Cn l) b)).length
 have h2:=(MV (Cn l) b).length_eq
 have h3:=WD l
 rw[Bc]at h1 ⊢
 omega
section
variable {l:List Edge} {w:AV9} (hf:∀ e∈l,D7 e) (hn:l.length≤1000)
include hf hn
theorem Yq(b c a d:Int)(q:List (List Int)):AU GB many (b,c,a,d,q,([]:List Int),l,(l.length:Int),(0:Int),())=some (.inr (.inl (b,c,a,d,q,nI (Cn l),()))):=by
 have Q:=E1 (step:=GB) (fun i=>(b,c,a,d,q,nI (Cn (l.take i)),l,(l.length:Int),(i:Int),())) l.length (.inr (.inl (b,c,a,d,q,nI (Cn l),()))) (by omega)
  (fun i hi=>by
   obtain⟨e,he⟩:=Bb hi
   have hfe:=hf e (ArS he)
   have hkl:=WD (l.take i)
   rw[ArU]at hkl
   have hsn:Cn (l.take (i+1))=Cn (l.take i)++(if e.1=e.2.1 then []else [AEI e]):=by
    rw[Bj he]
    unfold Cn
    rw[AsY,Ar9]
    congr 1
    by_cases h:e.1=e.2.1<;>simp[h]
   rw[GB,AK,ArD hi]
   simp only[AW he,AmA hfe,ArN,Ah]
   rw[AN (by omega),hsn]
   by_cases h:e.1=e.2.1
   ·rw[ArD h,ArQ h,AsH]
    rfl
   ·rw[ArC h,ArM h]
    simp only[Ars,AR,Bc,ArO,ArZ]
    rw[Bd (by omega)]
    simp only[D1]
    unfold nI
    rw[Ar9]
    rfl)
  (by rw[GB,AK,ArC (by omega),Arw])
 exact Q
theorem Aat(hw:PJ w):Wt (l,w,())=some (It l w.1.toNat,FX w (Cn l).length,0,()):=by
 have hkl:=WD l
 obtain⟨_,_,_,hd⟩:=Ag4 hw (ATt hf) (by omega)
 obtain⟨b,c,⟨a,d,q,v⟩,u⟩:=w
 have hd':Yp (nI (Cn l),(b,c,(a,d,q,()),()),())=some (ADo (nI (srt (Cn l) b.toNat)),FX (b,c,(a,d,q,()),()) (Cn l).length,0,()):=hd
 rw[Ws,M8]
 simp only[AR,Yq hf hn,hd']
 generalize hO:ADo (nI (srt (Cn l) b.toNat))=O
 have hOm:∀ k∈O,∃ n:Nat,k=(n:Int)∧n<4294967296:=by
  intro k hk
  rw[← hO,ADw,AZE]at hk
  obtain⟨n,h1,h2⟩:=hk
  exact⟨n,h2,ATt hf n ((MV _ _).mem_iff.1 h1)⟩
 have hOl:O.length≤1000:=by
  have:=AKH (l:=l) (b:=b.toNat)
  unfold It at this
  rw[hO,Arf]at this
  omega
 have Q:=E1 (step:=C8) (fun i=>(FX (b,c,(a,d,q,()),()) (Cn l).length,(0:Int),(O.take i).map AAk,O,(O.length:Int),(i:Int),())) O.length (.inl (FX (b,c,(a,d,q,()),()) (Cn l).length,(0:Int),O.map AAk,())) (by omega)
  (fun i hi=>by
   obtain⟨k,hk⟩:=Bb hi
   obtain⟨n,rfl,hn'⟩:=hOm k (ArS hk)
   rw[C8,AK,ArD hi]
   simp only[AW hk,BJ hk,AhH hn',AR,Arf,ArU,ArO,ArZ]
   rw[Bd (by omega),AN (by omega),Bj hk]
   simp only[D1,Ar9]
   rfl)
  (by rw[C8,AK,ArC (by omega),Arw])
 have Q':AU C8 many (FX (b,c,(a,d,q,()),()) (Cn l).length,(0:Int),([]:List Edge),O,(O.length:Int),(0:Int),())=_:=Q
 simp only[Q']
 unfold It
 rw[hO]
theorem Aav(hw:¬ PJ w):Wt (l,w,())=some ([],0,1,()):=by
 have hd:=Ag6 (xs:=nI (Cn l)) (w:=w) fun h=>hw h.1
 obtain⟨b,c,⟨a,d,q,v⟩,u⟩:=w
 have hd':Yp (nI (Cn l),(b,c,(a,d,q,()),()),())=some ([],0,1,()):=hd
 rw[Ws,M8]
 simp only[AR,Yq hf hn,hd']
 have Q:=E1 (step:=C8) (fun i=>((0:Int),(1:Int),([]:List Edge),([]:List Int),(0:Int),(i:Int),())) 0 (.inl ((0:Int),(1:Int),([]:List Edge),())) (by omega)
  (fun i hi=>absurd hi (by omega))
  (by rw[C8,Ae,ArC (by omega)])
 have Q':AU C8 many ((0:Int),(1:Int),([]:List Edge),([]:List Int),((([]:List Int).length:Nat):Int),(0:Int),())=_:=Q
 simp only[Q']
end
theorem AMo{N:Nat}{l l':List Edge}(h:∀ u v:Int,0≤u→u<v→(LJ l u v↔LJ l' u v)):ET N l=ET N l':=by
 unfold ET
 refine Asp (List.flatMap · (List.range N)) (funext fun u => ?_)
 unfold UP
 congr 1
 refine AtD fun i _ => ?_
 rw[AsX]
 exact h _ _ (by omega) (by omega)
theorem Agz{l:List Edge}{b:Nat}(hf:∀ e∈l,D7 e){u v:Int}(h0:0≤u)(h:u<v):LJ (It l b) u v↔LJ l u v:=by
 unfold LJ
 constructor
 ·rintro (h1|h1)
  ·exact((OB hf _).1 h1).2.2
  ·have:=((OB hf _).1 h1).2.1
   simp only at this
   omega
 ·intro h1
  exact .inl ((OB hf (u,v,())).2 ⟨h0,h,h1⟩)
theorem Yl{l:List Edge}{b N:Nat}(hf:∀ e∈l,D7 e):ET N (It l b)=ET N l:=AMo fun _ _ h0 h=>Agz hf h0 h
end Go.Pev.Pl
end
section
namespace Go.Pev.Pl
abbrev Xp:=Int×Int×Int×Unit
abbrev Aby:=Int×List Edge×List Xp×Unit
instance (e:Edge):Decidable (D7 e):=by unfold D7;exact inferInstance
def FE(n:Int):Prop:=0≤n∧n<65536
instance (n:Int):Decidable (FE n):=by unfold FE;exact inferInstance
def Dc(a:Xp):Prop:=1≤a.1∧a.1≤4∧FE a.2.1∧FE a.2.2.1
instance (a:Xp):Decidable (Dc a):=by unfold Dc;exact inferInstance
def WR(x:Aby):Prop:=((x.1=1∨x.1=2)∧x.2.2.1=[]∧x.2.1.length≤60∧∀ e∈x.2.1,D7 e)∨(x.1=3∧x.2.1=[]∧x.2.2.1.length≤60∧∀ a∈x.2.2.1,Dc a)
instance (x:Aby):Decidable (WR x):=by unfold WR;exact inferInstance
theorem AIl(n:Int):Xq (n,())=some (decide (FE n),()):=by
 rw[AQU,Zu]
 have e:IntKind.wrap .u16 n=n % 65536:=by simp[IntKind.wrap,IntKind.bits,IntKind.signed]
 rw[e,Ag (by omega),Ah]
 congr 2
 rw[AsX]
 unfold FE
 omega
theorem AWS(n:Int):AAi (n,())=some (decide (1≤n∧n≤4),()):=by
 rw[AIk,Qw,An]
 by_cases h:1≤n
 ·rw[ArD h,An];simp[h]
 ·rw[ArC h];simp[h]
theorem X0(n:Int):IY (n,())=some (decide (FE n),()):=by
 rw[ABc,N0,An]
 by_cases h:0≤n
 ·have:decide (n≤65535)=decide (FE n):=by rw[AsX];unfold FE;omega
  rw[ArD h,An]
  simp only[this]
 ·have:decide (FE n)=false:=ArC (by unfold FE;omega)
  rw[ArC h,this]
theorem AAQ{α:Type}(P:α→Prop)[DecidablePred P](l:List α):(l.any fun x => !decide (P x)) = !decide (∀ x∈l,P x):=by
 rw[AsT,AtJ]
 simp
theorem AhR(l:List Edge)(hl:l.length≤60):DZ (l,())=some (!decide (∀ e∈l,D7 e),()):=by
 have e:=Gk (step:=Cc) (fun i=>(l,(l.length:Int),(i:Int),())) l (fun e => !decide (D7 e)) (fun i=>.inl ((i:Int),())) (.inr (.inl ())) (by omega)
  (fun i x hi hx=>by
   rw[Cc,AK,ArD hi]
   simp only[AW hx,AIl]
   rw[AN (by omega)]
   have hsplit:D7 x↔FE x.1∧FE x.2.1:=by unfold D7 FE;omega
   by_cases h1:FE x.1
   ·by_cases h2:FE x.2.1
    ·simp only[ArD h1,ArD h2,ArD (hsplit.2 ⟨h1,h2⟩)];rfl
    ·simp only[ArD h1,ArC h2,ArC (show ¬ D7 x from fun h=>h2 (hsplit.1 h).2)];rfl
   ·simp only[ArC h1,ArC (show ¬ D7 x from fun h=>h1 (hsplit.1 h).1)];rfl)
  (by rw[Cc,AK,ArC (by omega)])
 have e':AU Cc many (l,(l.length:Int),(0:Int),())=_:=e
 rw[NG,Gb,O6,HE]
 simp only[AR,e',AAQ]
 by_cases h:∀ e∈l,D7 e
 ·rw[ArD h]
  simp only[ArN,ArV,ArY]
  rw[An,ArC (by decide)]
 ·rw[ArC h]
  simp only[Ars,Ar0]
  rw[An,ArD (by omega)]
theorem AhS(l:List Xp)(hl:l.length≤60):Gq (l,())=some (!decide (∀ a∈l,Dc a),()):=by
 have e:=Gk (step:=Cd) (fun i=>(l,(l.length:Int),(i:Int),())) l (fun a => !decide (Dc a)) (fun i=>.inl ((i:Int),())) (.inr (.inl ())) (by omega)
  (fun i x hi hx=>by
   rw[Cd,AK,ArD hi]
   simp only[AW hx,AWS,AIl]
   rw[AN (by omega)]
   have hsplit:Dc x↔(1≤x.1∧x.1≤4)∧FE x.2.1∧FE x.2.2.1:=by unfold Dc;exact and_assoc.symm
   by_cases h0:1≤x.1∧x.1≤4
   ·by_cases h1:FE x.2.1
    ·by_cases h2:FE x.2.2.1
     ·simp only[ArD h0,ArD h1,ArD h2,ArD (hsplit.2 ⟨h0,h1,h2⟩)];rfl
     ·simp only[ArD h0,ArD h1,ArC h2,ArC (show ¬ Dc x from fun h=>h2 (hsplit.1 h).2.2)];rfl
    ·simp only[ArD h0,ArC h1,ArC (show ¬ Dc x from fun h=>h1 (hsplit.1 h).2.1)];rfl
   ·simp only[ArC h0,ArC (show ¬ Dc x from fun h=>h0 (hsplit.1 h).1)];rfl)
  (by rw[Cd,AK,ArC (by omega)])
 have e':AU Cd many (l,(l.length:Int),(0:Int),())=_:=e
 rw[NH,Gc,PC,HG]
 simp only[AR,e',AAQ]
 by_cases h:∀ a∈l,Dc a
 ·rw[ArD h]
  simp only[ArN,ArV,ArY]
  rw[An,ArC (by decide)]
 ·rw[ArC h]
  simp only[Ars,Ar0]
  rw[An,ArD (by omega)]
theorem AoM{α:Type}(l:List α):ieq (l.length:Int) 0=decide (l=[]):=by
 rw[Ah,AsX]
 constructor
 ·intro h;exact Ari (by omega)
 ·rintro rfl;rfl
theorem PS(x:Aby):AAe (x,())=some (decide (WR x),()):=by
 obtain⟨k,es,asz,⟨⟩⟩:=x
 rw[AIj,Qv]
 simp only[AR,AoM]
 simp only[Ah]
 have hle:∀ {α:Type} (l:List α),ile (l.length:Int) 60=decide (l.length≤60):=fun l=>by rw[An,AsX];omega
 have edges:k=1∨k=2→(WR (k,es,asz,())↔asz=[]∧es.length≤60∧∀ e∈es,D7 e):=by
  intro hk
  unfold WR
  simp only
  constructor
  ·rintro (h|h)
   ·exact h.2
   ·omega
  ·exact fun h=>.inl ⟨hk,h⟩
 have block:k=1∨k=2→(match decide (asz=[])with
   |true=>match ile (es.length:Int) 60 with
    |true=>match DZ (es,())with
     |none=>none
     |some (y0,_)=>some ((!y0),())
    |false=>some (false,())
   |false=>some (false,()))=some (decide (WR (k,es,asz,())),()):=by
  intro hk
  by_cases h1:asz=[]
  ·rw[ArD h1]
   simp only[hle]
   by_cases h2:es.length≤60
   ·rw[ArD h2]
    simp only[AhR es h2,Bool.not_not]
    congr 2
    rw[AsX,edges hk]
    exact⟨fun h=>⟨h1,h2,h⟩,fun h=>h.2.2⟩
   ·rw[ArC h2,ArC (fun h=>h2 ((edges hk).1 h).2.1)]
  ·rw[ArC h1,ArC (fun h=>h1 ((edges hk).1 h).1)]
 by_cases k1:k=1
 ·rw[ArD k1]
  exact block (.inl k1)
 ·rw[ArC k1]
  by_cases k2:k=2
  ·rw[ArD k2]
   exact block (.inr k2)
  ·rw[ArC k2]
   by_cases k3:k=3
   ·rw[ArD k3]
    have asks:WR (k,es,asz,())↔es=[]∧asz.length≤60∧∀ a∈asz,Dc a:=by
     unfold WR
     simp only
     constructor
     ·rintro (h|h)
      ·omega
      ·exact h.2
     ·exact fun h=>.inr ⟨k3,h⟩
    by_cases h1:es=[]
    ·rw[ArD h1]
     simp only[hle]
     by_cases h2:asz.length≤60
     ·rw[ArD h2]
      simp only[AhS asz h2,Bool.not_not]
      congr 2
      rw[AsX,asks]
      exact⟨fun h=>⟨h1,h2,h⟩,fun h=>h.2.2⟩
     ·rw[ArC h2,ArC (fun h=>h2 (asks.1 h).2.1)]
    ·rw[ArC h1,ArC (fun h=>h1 (asks.1 h).1)]
   ·have hn:¬ WR (k,es,asz,()):=by
     unfold WR
     rintro (⟨h,_⟩|⟨h,_⟩)
     ·simp only at h;omega
     ·exact k3 h
    rw[ArC k3,ArC hn]
def JL(a:Xp):List Int:=if a.1=1 then [a.2.1,a.2.2.1]else if a.1=2∨a.1=3 then [a.2.1]else []
def Dy(x:Aby):List Int:=(x.2.1.flatMap fun e=>[e.1,e.2.1])++x.2.2.1.flatMap JL
theorem OD(a:Xp):(JL a).length≤2:=by
 unfold JL
 by_cases h:a.1=1
 ·simp[h]
 ·by_cases h2:a.1=2∨a.1=3<;>simp[h,h2]
theorem Abg(a:Xp):AGV ((a.1,(a.2.1,(a.2.2.1,()))),())=some (JL a,()):=by
 rw[AKp,Sl]
 simp only[Ah]
 unfold JL
 by_cases h1:a.1=1
 ·simp[h1]
 ·by_cases h2:a.1=2
  ·simp[h2]
  ·by_cases h3:a.1=3
   ·simp[h3]
   ·simp[h1,h2,h3]
theorem HV{α:Type}(f:α→List Int)(hf:∀ a,(f a).length≤2):∀ (l:List α),(l.flatMap f).length≤2*l.length:=by
 intro l
 induction l with
 |nil=>simp
 |cons a l ih=>
  rw[Arv,ArJ,ArO]
  have:=hf a
  omega
theorem AKk{x:Aby}(h1:x.2.1.length≤1000000)(h2:x.2.2.1.length≤1000000):AKl (x,())=some (Dy x,()):=by
 obtain⟨k,es,asz,⟨⟩⟩:=x
 simp only at h1 h2
 rw[AVw,AAO]
 have hl:∀ i,((es.take i).flatMap fun e=>[e.1,e.2.1]).length≤2000000:=fun i=>by
  have:=HV (fun e:Edge=>[e.1,e.2.1]) (fun _=>by simp) (es.take i)
  rw[ArU]at this
  omega
 have Q:=E1 (step:=IC) (fun i=>(k,es,asz,((es.take i).flatMap fun e=>[e.1,e.2.1]),es,(es.length:Int),(i:Int),())) es.length (.inl (k,es,asz,(es.flatMap fun e=>[e.1,e.2.1]),())) (by omega)
  (fun i hi=>by
   obtain⟨e,he⟩:=Bb hi
   have:=hl i
   rw[IC,AK,ArD hi]
   simp only[AW he,AR,ArO,ArZ]
   rw[Bd (by omega),AN (by omega),Bj he,AsV]
   simp only[D1]
   rfl)
  (by rw[IC,AK,ArC (by omega),Arw])
 have Q':AU IC many (k,es,asz,([]:List Int),es,(es.length:Int),(0:Int),())=_:=Q
 simp only[AR,Q']
 have R:=E1 (step:=IB) (fun i=>((es.flatMap fun e=>[e.1,e.2.1])++(asz.take i).flatMap JL,asz,(asz.length:Int),(i:Int),())) asz.length (.inl (Dy (k,es,asz,()),())) (by omega)
  (fun i hi=>by
   obtain⟨a,ha⟩:=Bb hi
   have h3:=hl es.length
   rw[Arw]at h3
   have h4:=HV JL OD (asz.take i)
   rw[ArU]at h4
   have h5:=OD a
   rw[IB,AK,ArD hi]
   simp only[AW ha,Abg,AR,ArJ]
   rw[Bd (by omega),AN (by omega),Bj ha,AsV]
   simp only[D1,Art]
   simp)
  (by rw[IB,AK,ArC (by omega),Arw];rfl)
 have z:(es.flatMap fun e=>[e.1,e.2.1])++(asz.take 0).flatMap JL=es.flatMap fun e=>[e.1,e.2.1]:=by simp
 rw[z]at R
 have R':AU IB many ((es.flatMap fun e=>[e.1,e.2.1]),asz,(asz.length:Int),(0:Int),())=_:=R
 simp only[R']
theorem AKZ(n:Int)(ts:List Tie)(l:List Int)(hl:l.length≤1000000):Gp (l,n,ts,())=some (n,ts,(l.any fun v=>decide (n≤v)),()):=by
 have e:=Gk (step:=Cb) (fun i=>(n,ts,l,(l.length:Int),(i:Int),())) l (fun v=>decide (n≤v)) (fun i=>.inl (n,ts,(i:Int),())) (.inr (.inl (n,ts,()))) (by omega)
  (fun i x hi hx=>by
   rw[Cb,AK,ArD hi]
   simp only[AW hx,An]
   rw[AN (by omega)]
   by_cases h:n≤x
   ·simp only[ArD h];rfl
   ·simp only[ArC h];rfl)
  (by rw[Cb,AK,ArC (by omega)])
 have e':AU Cb many (n,ts,l,(l.length:Int),(0:Int),())=_:=e
 rw[NF,Ga,O3,HD]
 simp only[AR,e']
 cases h:(l.any fun v=>decide (n≤v))with
 |true=>
  simp only[Ar0]
  rw[An,ArD (by omega)]
 |false=>
  simp only[ArV,ArY]
  rw[An,ArC (by decide)]
instance (w:AV9):Decidable (PJ w):=by unfold PJ;exact inferInstance
abbrev Aqk:=Int×List Edge×List Xp×Int×Int×Unit
def AR2(e:Int):Aqk:=(0,[],[],0,e,())
def GR(n:Int)(ts:List Tie):Prop:=∃ N:Nat,n=(N:Int)∧RG2 N ts
theorem AjQ(n:Int)(ts:List Tie)(hl:ts.length<4611686018427387904):∃ b:Bool,Dh ((n,(ts,())),())=some (b,())∧Fm ((n,(ts,())),())=some (b,())∧(b=true↔GR n ts):=by
 obtain⟨b,h1,h2,h3⟩:=AGL n ts hl
 refine⟨b,h1,h2,fun hb => ?_,?_⟩
 ·obtain⟨N,rfl,a1,a2,a3,a4⟩:=h3 hb
  subst hb
  exact⟨N,rfl,⟨a1,a2,a3,a4,(ARv a1 a2 a3 a4).1 h1⟩⟩
 ·rintro⟨N,rfl,h⟩
  have:=h.r21
  rw[h1]at this
  simp only[ArE,Ard,Atd]at this
  exact this
section
variable {n:Int} {ts:List Tie} {x:Aby} {w:AV9}
theorem Ahb(hl:ts.length<4611686018427387904)(h:¬ (GR n ts∧WR x)):IE ((n,(ts,())),x,w,())=some (AR2 1):=by
 obtain⟨b,_,h2,h3⟩:=AjQ n ts hl
 obtain⟨k,es,asz,⟨⟩⟩:=x
 rw[OV,KK]
 simp only[h2]
 cases b with
 |false=>rfl
 |true=>
  have hw:¬ WR (k,es,asz,()):=fun hw=>h ⟨h3.1 rfl,hw⟩
  simp only[ArN,PS,ArC hw]
  rfl
theorem AWR(h:WR x):x.2.1.length≤60∧x.2.2.1.length≤60∧(∀ e∈x.2.1,D7 e):=by
 obtain⟨k,es,asz,⟨⟩⟩:=x
 rcases h with⟨_,h1,h2,h3⟩|⟨_,h1,h2,_⟩
 ·simp only at h1;subst h1;exact⟨h2,by simp,h3⟩
 ·simp only at h1;subst h1;exact⟨by simp,h2,by simp⟩
variable {N:Nat} (h:RG2 N ts) (hw:WR x)
include h hw
theorem AbE(hv:∃ v∈Dy x,(N:Int)≤v):IE (((N:Int),(ts,())),x,w,())=some (AR2 10):=by
 obtain⟨l1,l2,_⟩:=AWR hw
 have ha:=AKk (x:=x) (by omega) (by omega)
 have hvl:(Dy x).length≤1000000:=by
  unfold Dy
  rw[ArJ]
  have:=HV (fun e:Edge=>[e.1,e.2.1]) (fun _=>by simp) x.2.1
  have:=HV JL OD x.2.2.1
  omega
 have hany:((Dy x).any fun v=>decide ((N:Int)≤v))=true:=by
  obtain⟨v,h1,h2⟩:=hv
  exact AtJ.2 ⟨v,h1,ArD h2⟩
 have hc:=AKZ (N:Int) ts (Dy x) hvl
 obtain⟨k,es,asz,⟨⟩⟩:=x
 rw[OV,KK]
 simp only[h.lr,ArN,PS,ArD hw,ha,hc,hany]
 rfl
variable (hv:∀ v∈Dy x,v<(N:Int))
include hv
omit h hw in
theorem AmQ:((Dy x).any fun v=>decide ((N:Int)≤v))=false:=by
 rw[List.any_eq_false]
 intro v hvv
 have:=hv v hvv
 simp;omega
theorem AVM(hk:x.1=1∨x.1=2):IE (((N:Int),(ts,())),x,w,()) =
  if PJ w then
   if x.1=2 then some (2,R0 N ts x.2.1,[],FX w (Cn x.2.1).length,0,())
   else if 400-ts.length<(Cl N ts x.2.1).length then some (AR2 2)else some (1,Cl N ts x.2.1,[],FX w (Cn x.2.1).length,0,())
  else some (AR2 1):=by
 obtain⟨l1,l2,hfit⟩:=AWR hw
 have ha:=AKk (x:=x) (by omega) (by omega)
 have hvl:(Dy x).length≤1000000:=by
  unfold Dy
  rw[ArJ]
  have:=HV (fun e:Edge=>[e.1,e.2.1]) (fun _=>by simp) x.2.1
  have:=HV JL OD x.2.2.1
  omega
 have hany:=AmQ hv
 have hc:=AKZ (N:Int) ts (Dy x) hvl
 have hel:=AKH (l:=x.2.1) (b:=w.1.toNat)
 have hin:∀ e∈It x.2.1 w.1.toNat,In (N:Int) e.1∧In (N:Int) e.2.1:=by
  intro e he
  obtain⟨q1,q2,q3⟩:=(OB hfit e).1 he
  have hlt:e.2.1<(N:Int):=by
   refine hv _ ?_
   unfold Dy
   refine ArI.2 (.inl (Ash.2 ?_))
   rcases q3 with q3|q3
   ·exact⟨_,q3,by simp⟩
   ·exact⟨_,q3,by simp⟩
  have hN:=h.hN
  have h1:=h.h1
  unfold In
  omega
 have hgn:R0 N ts (It x.2.1 w.1.toNat)=R0 N ts x.2.1:=by unfold R0;rw[Yl hfit]
 have hcm:Cl N ts (It x.2.1 w.1.toNat)=Cl N ts x.2.1:=by unfold Cl;rw[Yl hfit]
 have hgone:=AfE h (It x.2.1 w.1.toNat) (by omega)
 rw[ArQ hin,hgn]at hgone
 have hcome:=Alf h.h1 h.hN ts h.ht (It x.2.1 w.1.toNat) (by omega) h.lr
 rw[ArQ hin,hcm]at hcome
 have hwr:=PS x
 rw[ArD hw]at hwr
 have hdv:=fun hW=>Aat (w:=w) hfit (by omega) hW
 have hdb:=fun hW=>Aav (w:=w) hfit (by omega) hW
 have hk3:ieq x.1 3=false:=by rw[Ah];exact ArC (by omega)
 have ht:=h.ht
 have hroom:Yz (((N:Int),(ts,())),())=some (((400-ts.length:Nat):Int),()):=by
  rw[AGQ,Sk]
  simp only[h.lr,ArN,AR]
  rw[Ag (by omega),show(400:Int)-(ts.length:Int)=((400-ts.length:Nat):Int) by omega]
 have e0:ieq (0:Int) 0=true:=by rw[Ah];rfl
 have e1:ieq (1:Int) 0=false:=by rw[Ah];rfl
 obtain⟨k,es,asz,⟨⟩⟩:=x
 obtain⟨b,c,⟨a,d,q,⟨⟩⟩,⟨⟩⟩:=w
 rw[OV,KK]
 simp only[h.lr,ArN,hwr,ha,hc,hany,hk3]
 by_cases hW:PJ (b,c,(a,d,q,()),())
 ·rw[ArQ hW]
  simp only[hdv hW,e0,ArN]
  by_cases k2:k=2
  ·subst k2
   rw[ArQ rfl,Ah,ArD rfl]
   simp only[hgone]
  ·have k1:k=1:=by simp only at hk;omega
   subst k1
   rw[ArM (by decide),Ah,ArC (by decide)]
   simp only[hcome,hroom,AR,AK]
   by_cases hf:400-ts.length<(Cl N ts es).length
   ·rw[ArQ hf,ArD hf];rfl
   ·rw[ArM hf,ArC hf]
 ·rw[ArM hW]
  simp only[hdb hW,e1,Ars]
  rfl
end
end Go.Pev.Pl
end
section
namespace Go.Pev.Pl
end Go.Pev.Pl
end
section
namespace Go.Pev.Pl
theorem Md(k:Int)(es:List Edge)(asz:List Xp)(hl:es.length≤60):AU CG many (k,es,asz,(0:Int),())=some (if ∀ e∈es,D7 e then .inr (.inl (k,es,asz,()))else .inl (false,())):=by
 have e:=Gk (step:=CG) (fun i=>(k,es,asz,(i:Int),())) es (fun e => !decide (D7 e)) (fun _=>.inl (false,())) (.inr (.inl (k,es,asz,()))) (by omega)
  (fun i x hi hx=>by
   rw[CG,AR,AK,ArD hi]
   simp only[AW hx,X0]
   rw[AN (by omega)]
   have hsplit:D7 x↔FE x.1∧FE x.2.1:=by unfold D7 FE;omega
   by_cases h1:FE x.1
   ·by_cases h2:FE x.2.1
    ·simp only[ArD h1,ArD h2,ArD (hsplit.2 ⟨h1,h2⟩)];rfl
    ·simp only[ArD h1,ArC h2,ArC (show ¬ D7 x from fun h=>h2 (hsplit.1 h).2)];rfl
   ·simp only[ArC h1,ArC (show ¬ D7 x from fun h=>h1 (hsplit.1 h).1)];rfl)
  (by rw[CG,AR,AK,ArC (by omega)])
 have e':AU CG many (k,es,asz,(0:Int),())=_:=e
 rw[e',AAQ]
 by_cases h:∀ e∈es,D7 e
 ·rw[ArD h,ArQ h];rfl
 ·rw[ArC h,ArM h];rfl
theorem Mc(k:Int)(es:List Edge)(asz:List Xp)(hl:asz.length≤60):AU CF many (k,es,asz,(0:Int),())=some (if ∀ a∈asz,Dc a then .inr (.inl ())else .inl (false,())):=by
 have e:=Gk (step:=CF) (fun i=>(k,es,asz,(i:Int),())) asz (fun a => !decide (Dc a)) (fun _=>.inl (false,())) (.inr (.inl ())) (by omega)
  (fun i x hi hx=>by
   rw[CF,AR,AK,ArD hi]
   simp only[AW hx,X0,Ae]
   rw[AN (by omega)]
   have hsplit:Dc x↔FE x.2.1∧FE x.2.2.1∧¬ x.1<1∧¬ 4<x.1:=by
    unfold Dc
    constructor
    ·rintro⟨a,b,c,d⟩;exact⟨c,d,by omega,by omega⟩
    ·rintro⟨a,b,c,d⟩;exact⟨by omega,by omega,a,b⟩
   by_cases h1:FE x.2.1
   ·by_cases h2:FE x.2.2.1
    ·by_cases h3:x.1<1
     ·simp only[ArD h1,ArD h2,ArD h3,ArC (show ¬ Dc x from fun h=>(hsplit.1 h).2.2.1 h3)];rfl
     ·by_cases h4:4<x.1
      ·simp only[ArD h1,ArD h2,ArC h3,ArD h4,ArC (show ¬ Dc x from fun h=>(hsplit.1 h).2.2.2 h4)];rfl
      ·simp only[ArD h1,ArD h2,ArC h3,ArC h4,ArD (hsplit.2 ⟨h1,h2,h3,h4⟩)];rfl
    ·simp only[ArD h1,ArC h2,ArC (show ¬ Dc x from fun h=>h2 (hsplit.1 h).2.1)];rfl
   ·simp only[ArC h1,ArC (show ¬ Dc x from fun h=>h1 (hsplit.1 h).1)];rfl)
  (by rw[CF,AR,AK,ArC (by omega)])
 have e':AU CF many (k,es,asz,(0:Int),())=_:=e
 rw[e',AAQ]
 by_cases h:∀ a∈asz,Dc a
 ·rw[ArD h,ArQ h];rfl
 ·rw[ArC h,ArM h];rfl
theorem ARx(x:Aby):RP (x,())=some (decide (WR x),()):=by
 obtain⟨k,es,asz,⟨⟩⟩:=x
 have hlt:∀ {α:Type} (l:List α),ilt (60:Int) (l.length:Int) = !decide (l.length≤60):=fun l=>by
  rw[Ae,AsT];simp;omega
 have hl0:∀ {α:Type} (l:List α),ilt (0:Int) (l.length:Int) = !decide (l=[]):=fun l=>by
  rw[Ae,AsT]
  cases l<;>simp
 rw[ACI,N4]
 simp only[AR,hlt,hl0,Ae,Ah]
 have key:∀ (r:Bool),(WR (k,es,asz,())↔r=true)→some (r,())=some (decide (WR (k,es,asz,())),()):=fun r h=>by
  congr 2
  rw[AsT,ArH];exact h.symm
 by_cases k1:k<1
 ·rw[ArD k1]
  exact key false ⟨fun h=>by unfold WR at h;simp only at h;omega,fun h=>by cases h⟩
 ·rw[ArC k1]
  by_cases k4:3<k
  ·rw[ArD k4]
   exact key false ⟨fun h=>by unfold WR at h;simp only at h;omega,fun h=>by cases h⟩
  ·rw[ArC k4]
   by_cases k3:k=3
   ·rw[ArD k3]
    have asks:WR (k,es,asz,())↔es=[]∧asz.length≤60∧∀ a∈asz,Dc a:=by
     unfold WR
     simp only
     constructor
     ·rintro (h|h)
      ·omega
      ·exact h.2
     ·exact fun h=>.inr ⟨k3,h⟩
    by_cases h1:es=[]
    ·subst h1
     simp only[Ara,ArN,ArZ]
     by_cases h2:asz.length≤60
     ·simp only[ArD h2,ArN,show decide ((0:Nat)≤60)=true from rfl,Md k [] asz (by simp)]
      rw[ArQ (by simp)]
      simp only[Mc k [] asz h2]
      by_cases h3:∀ a∈asz,Dc a
      ·rw[ArQ h3]
       exact key true ⟨fun _=>rfl,fun _=>asks.2 ⟨rfl,h2,h3⟩⟩
      ·rw[ArM h3]
       exact key false ⟨fun h=>absurd (asks.1 h).2.2 h3,fun h=>by cases h⟩
     ·simp only[ArC h2,Ars,show decide ((0:Nat)≤60)=true from rfl,ArN]
      exact key false ⟨fun h=>absurd (asks.1 h).2.1 h2,fun h=>by cases h⟩
    ·simp only[ArC h1,Ars]
     exact key false ⟨fun h=>absurd (asks.1 h).1 h1,fun h=>by cases h⟩
   ·rw[ArC k3]
    have edges:WR (k,es,asz,())↔asz=[]∧es.length≤60∧∀ e∈es,D7 e:=by
     unfold WR
     simp only
     constructor
     ·rintro (h|h)
      ·exact h.2
      ·omega
     ·exact fun h=>.inl ⟨by omega,h⟩
    by_cases h1:asz=[]
    ·subst h1
     simp only[Ara,ArN,Ars,ArZ]
     by_cases h2:es.length≤60
     ·simp only[ArD h2,ArN,show decide ((0:Nat)≤60)=true from rfl,Md k es [] h2]
      by_cases h3:∀ e∈es,D7 e
      ·rw[ArQ h3]
       simp only[Mc k es [] (by simp)]
       rw[ArQ (by simp)]
       exact key true ⟨fun _=>rfl,fun _=>edges.2 ⟨rfl,h2,h3⟩⟩
      ·rw[ArM h3]
       exact key false ⟨fun h=>absurd (edges.1 h).2.2 h3,fun h=>by cases h⟩
     ·simp only[ArC h2,Ars]
      exact key false ⟨fun h=>absurd (edges.1 h).2.1 h2,fun h=>by cases h⟩
    ·simp only[ArC h1,Ars]
     exact key false ⟨fun h=>absurd (edges.1 h).1 h1,fun h=>by cases h⟩
def FV(N u:Nat):List Tie:=(List.range' (u+1) (N-(u+1))).map fun v:Nat=>((u:Int),(v:Int),(0:Int),decide (u=0),())
def DD(N u:Nat):List Tie:=(List.range u).flatMap (FV N)
theorem AZ8(N u:Nat):DD N (u+1)=DD N u++FV N u:=by
 unfold DD;rw[Arz,AsV];simp
theorem AaM{N m u:Nat}(hN:N≤64)(hm:m≤400)(hu:u<N)(acc:List Tie)(ha:acc.length≤m):
  AU DU many ((N:Int),(m:Int),(0:Int),(N:Int),acc,(u:Int),((u+1:Nat):Int),())=some (.inl ((N:Int),(m:Int),(0:Int),(N:Int),acc++(FV N u).take (m-acc.length),(u:Int),())):=by
 have hrl:(FV N u).length=N-(u+1):=by simp[FV]
 have hget:∀ i,i<N-(u+1)→(FV N u)[i]? = some ((u:Int),((u+1+i:Nat):Int),(0:Int),decide (u=0),()):=fun i hi=>by
  unfold FV
  rw[Arq,List.getElem?_range' hi]
  simp
 have Q:=E1 (step:=DU) (fun i=>((N:Int),(m:Int),(0:Int),(N:Int),acc++(FV N u).take i,(u:Int),((u+1+i:Nat):Int),())) (min (N-(u+1)) (m-acc.length)) (.inl ((N:Int),(m:Int),(0:Int),(N:Int),acc++(FV N u).take (m-acc.length),(u:Int),())) (by omega)
  (fun i hi=>by
   rw[DU,AK,ArD (by omega),AR,ArJ,ArU,hrl,AK,ArD (by omega)]
   simp only[AR,ArO,ArZ]
   rw[Bd (by omega),AN (by omega)]
   simp only[D1]
   rw[Bj (hget i (by omega)),ieq_nat' u,Art]
   rfl)
  (by
   rw[DU,AK]
   by_cases h1:u+1+min (N-(u+1)) (m-acc.length)<N
   ·have hmin:min (N-(u+1)) (m-acc.length)=m-acc.length:=by omega
    rw[ArD h1,hmin,AR,ArJ,ArU,hrl,AK,ArC (by omega)]
   ·rw[ArC h1]
    have:(FV N u).take (min (N-(u+1)) (m-acc.length))=(FV N u).take (m-acc.length):=by
     rcases Nat.le_total (N-(u+1)) (m-acc.length)with h|h
     ·rw[Ase h,Ar6 (by omega),Ar6 (by omega)]
     ·rw[Auf h]
    rw[this])
 simp only[AuT,AsH,Asd]at Q
 exact Q
where ieq_nat' (u:Nat):ieq (u:Int) (0:Int)=decide (u=0):=by rw[Ah,AsX];omega
theorem AaL{N m:Nat}(hN:N≤64)(hm:m≤400):M3 ((N:Int),(m:Int),())=some ((N:Int),(DD N N).take m,()):=by
 rw[Yj,LO]
 have Q:=E1 (step:=DV) (fun u=>((N:Int),(m:Int),(0:Int),(N:Int),(DD N u).take m,(u:Int),())) N (.inl ((0:Int),(N:Int),(DD N N).take m,())) (by omega)
  (fun u hu=>by
   have hl:((DD N u).take m).length≤m:=by rw[ArU];omega
   have hr:=AaM hN hm hu ((DD N u).take m) hl
   rw[DV,AK,ArD hu,AN (by omega)]
   simp only[hr]
   rw[AN (by omega),AZ8,As6,ArU]
   have:m-min m (DD N u).length=m-(DD N u).length:=by omega
   rw[this])
  (by rw[DV,AK,ArC (by omega)])
 have z:(DD N 0).take m=[]:=by simp[DD]
 rw[z]at Q
 have Q':AU DV many ((N:Int),(m:Int),(0:Int),(N:Int),([]:List Tie),(0:Int),())=_:=Q
 simp only[Q']
def Q9(k:Nat):List Edge:=(List.range k).map fun i=>((0:Int),((i+1:Nat):Int),())
theorem AnQ{N k:Nat}(h:k+1≤N):∀ e∈Q9 k,InE N e:=by
 intro e he
 obtain⟨i,hi,rfl⟩:=ArT.1 he
 have:=Arl.1 hi
 unfold InE
 simp only
 omega
theorem AnR{N:Nat}:∀ k,k+1≤N→Fo N (Q9 k):=by
 intro k
 induction k with
 |zero=>intro _;unfold Fo;show cc N []+0=N;rw[Amc,Asd]
 |succ k ih=>
  intro h
  have hk:=ih (by omega)
  have e:Q9 (k+1)=Q9 k++[((0:Int),((k+1:Nat):Int),())]:=by unfold Q9;rw[Arz,Ar9];rfl
  unfold Fo at *
  have hc:=APX (N:=N) (l:=Q9 k) (e:=((0:Int),((k+1:Nat):Int),())) (by unfold InE;simp only;omega)
  have hn:NI (Q9 k) 0 ((k+1:Nat):Int)=false:=by
   rw[GG]
   intro c
   rcases c.within (I:=fun z=>z≤(k:Int)) (fun e he=>by
    obtain⟨i,hi,rfl⟩:=ArT.1 he
    have:=Arl.1 hi
    simp only
    omega)with h1|h1
   ·omega
   ·have:=h1.2;omega
  simp only[hn,ArV,ArY]at hc
  rw[e,ArJ]
  simp only[ArO,ArZ]
  omega
theorem Afm{N u:Nat}{t:Tie}(h:t∈DD N u):∃ a b:Nat,a<u∧a<b∧b<N∧t=((a:Int),(b:Int),(0:Int),decide (a=0),()):=by
 obtain⟨a,ha,ht⟩:=Ash.1 h
 obtain⟨b,hb,rfl⟩:=ArT.1 ht
 rw[Atf]at hb
 exact⟨a,b,Arl.1 ha,by omega,by omega,rfl⟩
theorem AZ9(N:Nat):∀ u,((DD N u).map ed).Pairwise Dd:=by
 intro u
 unfold DD
 rw[List.map_flatMap,List.pairwise_flatMap]
 constructor
 ·intro a _
  unfold FV
  rw[AuP,Asu]
  have hr:(List.range' (a+1) (N-(a+1))).Pairwise (fun x y=>x<y):=List.pairwise_lt_range'
  refine hr.imp fun {x y} h => ?_
  show(a:Int)<(a:Int)∨(a:Int)=(a:Int)∧(x:Int)<(y:Int)
  omega
 ·refine List.pairwise_lt_range.imp fun {a b} h x hx y hy => ?_
  obtain⟨t,ht,rfl⟩:=ArT.1 hx
  obtain⟨s,hs,rfl⟩:=ArT.1 hy
  obtain⟨_,_,rfl⟩:=ArT.1 ht
  obtain⟨_,_,rfl⟩:=ArT.1 hs
  unfold Dd ed
  simp only
  omega
theorem AiR{N:Nat}(hN:1≤N):trk (DD N N) 0=Q9 (N-1):=by
 obtain⟨k,rfl⟩:∃ k,N=k+1:=⟨N-1,by omega⟩
 have e:DD (k+1) (k+1)=FV (k+1) 0++(List.range' 1 k).flatMap (FV (k+1)):=by
  unfold DD
  rw[Ati,Aud,Arv]
 unfold trk
 rw[e,AsY,Ar9]
 have e1:((List.range' 1 k).flatMap (FV (k+1))).filter (fun t=>t.2.2.2.1&&decide ((0:Int)≤t.2.2.1))=[]:=by
  rw[List.filter_eq_nil_iff]
  intro t ht
  obtain⟨a,ha,ht⟩:=Ash.1 ht
  obtain⟨b,hb,rfl⟩:=ArT.1 ht
  rw[Atf]at ha
  simp
  omega
 have e2:(FV (k+1) 0).filter (fun t=>t.2.2.2.1&&decide ((0:Int)≤t.2.2.1))=FV (k+1) 0:=by
  rw[AtX]
  intro t ht
  obtain⟨b,hb,rfl⟩:=ArT.1 ht
  simp
 rw[e1,e2,As0,AsH]
 unfold FV Q9
 rw[AuP,AuQ]
 rw[Ati,show List.range' (0+1) k=(List.range' 0 k).map (1 + ·) by rw[List.map_add_range'],AuP]
 refine Asr fun i _ => ?_
 simp only[Function.comp,ed,Ard,Atd]
 omega
theorem Ali{N m:Nat}(h1:1≤N)(hN:N≤64)(hm:m≤400):RG2 N ((DD N N).take m):=by
 have hmem:∀ x∈(DD N N).take m,∃ a b:Nat,a<N∧a<b∧b<N∧x=((a:Int),(b:Int),(0:Int),decide (a=0),()):=fun x hx=>Afm (AtS hx)
 refine Apw h1 hN (by rw[ArU];omega) ?_ (fun e he => ?_) (fun x hx => ?_) (fun x hx => ?_) ?_
 ·rw[List.map_take];exact(AZ9 N N).sublist (List.take_sublist _ _)
 ·obtain⟨x,hx,rfl⟩:=ArT.1 he
  obtain⟨a,b,_,h2,_,rfl⟩:=hmem x hx
  unfold ed;simp only;omega
 ·obtain⟨a,b,_,h2,_,rfl⟩:=hmem x hx
  unfold InE ed;simp only;omega
 ·obtain⟨a,b,_,h2,_,rfl⟩:=hmem x hx
  simp only;omega
 ·have hs:(trk ((DD N N).take m) 0).Sublist (trk (DD N N) 0):=by
   unfold trk
   exact(((List.take_sublist m (DD N N)).filter _).map _)
  have hf:=AnR (N:=N) (N-1) (by omega)
  have hi:=AnQ (N:=N) (k:=N-1) (by omega)
  rw[AiR h1]at hs
  exact hf.sub hs hi
theorem Aqz:PJ ((8:Int),(16:Int),((20:Int),(2:Int),([]:List (List Int)),()),()):=by decide
theorem AGW(two:List Int)(l:List Edge)(h0:wfD (.arr 2 (.int .u16)) two){B:Prop}(_:B):HX (two,l,())=some (true,()):=by
 obtain⟨t1,t2⟩:=h0
 match two,t1 with
 |[p,q],_=>
  have hp0:=t2 p (by simp)
  have hq0:=t2 q (by simp)
  have hmin:(IntKind.u16).min=0:=by decide
  have hmax:(IntKind.u16).max=65535:=by decide
  unfold wfD at hp0 hq0
  rw[hmin,hmax]at hp0 hq0
  have hp:(0:Int)≤(p:Int)∧(p:Int)≤65535:=hp0
  have hq:(0:Int)≤(q:Int)∧(q:Int)≤65535:=hq0
  clear hp0 hq0
  rw[Sm,I1]
  simp only[APs,ArN,AR]
  rw[Ae]
  by_cases hl:l.length≤60
  rotate_left
  ·rw[ArD (by omega)]
  rw[ArC (by omega)]
  obtain⟨p,rfl⟩:=ArR hp.1
  obtain⟨q,rfl⟩:=ArR hq.1
  have d0:AY [(p:Int),(q:Int)] 0 (0:Int)=(p:Int):=rfl
  have d1:AY [(p:Int),(q:Int)] 1 (0:Int)=(q:Int):=rfl
  rw[d0,d1,Ag (by omega),Ag (by omega)]
  have r1:rem? (p:Int) (64:Int)=some ((p % 64:Nat):Int):=by rw[ACQ,ZS,ArM (by decide)];rfl
  have r2:rem? (q:Int) (401:Int)=some ((q % 401:Nat):Int):=by rw[ACQ,ZS,ArM (by decide)];rfl
  have hm1:=Ata p (show 0<64 by decide)
  have hm2:=Ata q (show 0<401 by decide)
  have hw1:IntKind.wrap .i64 ((1:Int)+((p % 64:Nat):Int))=((p % 64+1:Nat):Int):=by rw[Ag (by omega)];omega
  simp only[r1,r2,hw1]
  generalize hNe:p % 64+1=N
  generalize hme:q % 401=m
  have hR:=Ali (N:=N) (m:=m) (by omega) (by omega) (by omega)
  have hfv:=AaL (N:=N) (m:=m) (by omega) (by omega)
  generalize (DD N N).take m=ts at hR hfv
  have ht:=hR.ht
  have e0:∀ z:Int,ieq z z=true:=fun z=>by rw[Ah];exact ArD rfl
  have er:∀ e:Int,(AR2 e).1=0:=fun _=>rfl
  simp only[hfv,ARx]
  by_cases hw:WR ((1:Int),l,([]:List Xp),())
  rotate_left
  ·have hc:=Ahb (n:=(N:Int)) (ts:=ts) (w:=((8:Int),(16:Int),((20:Int),(2:Int),([]:List (List Int)),()),())) (by omega) (fun h=>hw h.2)
   simp only[hc,ArC hw,Ars]
   unfold AR2
   simp only[e0]
  obtain⟨_,_,hfit⟩:=AWR hw
  simp only at hfit
  have hnew:=Afe hR.h1 hR.hN ts hR.ht l (by omega) hR.r21
  by_cases hv:∃ v∈Dy ((1:Int),l,([]:List Xp),()),(N:Int)≤v
  ·have hc:=AbE (w:=((8:Int),(16:Int),((20:Int),(2:Int),([]:List (List Int)),()),())) hR hw hv
   have hout:¬ ∀ e∈l,In (N:Int) e.1∧In (N:Int) e.2.1:=by
    intro hall
    obtain⟨v,hv,hvN⟩:=hv
    unfold Dy at hv
    simp only[At9,AsH,Ash]at hv
    obtain⟨e,he,hv⟩:=hv
    obtain⟨i1,i2⟩:=hall e he
    simp only[ArK,AtZ,AuR]at hv
    unfold In at i1 i2
    omega
   rw[ArM hout]at hnew
   simp only[hc,ArD hw,ArN,hnew]
   rw[Ah,ArC (show ¬ (10:Int)=0 by decide)]
   unfold AR2
   simp only[e0,Ars]
  have hv':∀ v∈Dy ((1:Int),l,([]:List Xp),()),v<(N:Int):=fun v hm=>by
   rcases Int.lt_or_le v (N:Int)with h|h
   ·exact h
   ·exact absurd ⟨v,hm,h⟩ hv
  have hin:∀ e∈l,In (N:Int) e.1∧In (N:Int) e.2.1:=fun e he=>by
   have hf:=hfit e he
   have m1:=hv' e.1 (ArI.2 (.inl (Ash.2 ⟨e,he,by simp⟩)))
   have m2:=hv' e.2.1 (ArI.2 (.inl (Ash.2 ⟨e,he,by simp⟩)))
   have:=hR.h1
   have:=hR.hN
   unfold D7 at hf
   unfold In
   omega
  rw[ArQ hin]at hnew
  have hc:=AVM (w:=((8:Int),(16:Int),((20:Int),(2:Int),([]:List (List Int)),()),())) hR hw hv' (.inl rfl)
  rw[ArQ Aqz,ArM (show ¬ (1:Int)=2 by decide)]at hc
  simp only at hc
  have hw4:IntKind.wrap .i64 ((400:Int)-(ts.length:Int))=((400-ts.length:Nat):Int):=by
   rw[Ag (by omega)];omega
  by_cases hf:400-ts.length<(Cl N ts l).length
  ·rw[ArQ hf]at hc
   simp only[hc,ArD hw,ArN,hnew,e0,AR,hw4,AK,ArD hf]
   unfold AR2
   simp only[e0,ArZ,Int.ofNat_zero,Int.cast_ofNat_Int]
  ·rw[ArM hf]at hc
   have hs:=ARV (Cl N ts l) (by have:=AhU N hR.hN ts l;omega)
   have hroom:Yz (((N:Int),(ts,())),())=some (((400-ts.length:Nat):Int),()):=by
    rw[AGQ,Sk]
    simp only[hR.lr,ArN,AR,hw4]
   simp only[hc,ArD hw,ArN,hnew,e0,AR,hw4,AK,ArC hf,hs,hroom]
end Go.Pev.Pl
end
section
namespace Go.Pev
open Go.RowKit
noncomputable def NL(n:Nat):Spec:=fun R args _ _ _ k=>
 match args with
 |[.data (.slice e) xs]=>match decide (e.size=n)with
  |true=>k (.clip e xs) {}
  |false=>none
 |_=>none
structure AK5(P:Program)(fn:Func)(T e:TypeId)(n:Nat):Prop where
 body:fn.body=some (.seq (.region 0 #[Ba fn 0 0] false) (.seq (.region 1 #[Ba fn 1 0,Ba fn 1 1,Ba fn 1 2,Ba fn 1 3,Ba fn 1 4,Ba fn 1 5,Ba fn 1 6] false) .ret))
 nt:fn.ntmps=9
 res:fn.results = #[.tmp 2]
 d:(Ba fn 0 0).dst=some 2∧(Ba fn 1 0).dst=some 3∧(Ba fn 1 1).dst=some 4∧(Ba fn 1 2).dst=some 5∧(Ba fn 1 3).dst=some 6∧(Ba fn 1 4).dst=some 7∧(Ba fn 1 5).dst=some 8∧(Ba fn 1 6).dst=some 2
 g:(Ba fn 0 0).guard=none∧(Ba fn 1 0).guard=none∧(Ba fn 1 1).guard=none∧(Ba fn 1 2).guard=none∧(Ba fn 1 3).guard=none∧(Ba fn 1 4).guard=none∧(Ba fn 1 5).guard=none∧(Ba fn 1 6).guard=none
 o00:(Ba fn 0 0).op = .assign (.const (.slice none 0 0))
 o10:(Ba fn 1 0).op = .move (.tmp 0)
 o11:(Ba fn 1 1).op = .move (.tmp 0)
 o12:(Ba fn 1 2).op = .call { callee:=.builtin .len,args:=#[.tmp 4],argTypes:=#[T] }
 o13:(Ba fn 1 3).op = .move (.tmp 0)
 o14:(Ba fn 1 4).op = .call { callee:=.builtin .len,args:=#[.tmp 6],argTypes:=#[T] }
 o15:(Ba fn 1 5).op = .slice T (.tmp 3) none (some (.tmp 5)) (some (.tmp 7))
 o16:(Ba fn 1 6).op = .assign (.tmp 8)
 sl:P.underlying T=some (.slice e)
 sz:BI P e=some n
section
variable {P:Program} {g:FuncId} {fn:Func} {T e:TypeId} {n:Nat}
theorem ApF (hs : AK5 P fn T e n) (hf : P.funcs[g]? = some fn) (hn : (fn.name == "runtime.NumGoroutine") = false) : AP P g (NL n) := by
 intro R args H fz slot k r hk
 unfold NL at hk
 split at hk
 ·rename_i t xs
  split at hk
  ·rename_i hsz
   refine⟨_,_,hk,fun R' k'=>by simp only[NL,hsz],Iy hf (by rw[hs.body];rfl) hn,fun w F m vals hi hr => ?_⟩
   simp only[ArH]at hsz
   obtain⟨i,hi0,hsz'⟩:=BL hs.sz
   unfold Af at hr
   obtain⟨v,vs',rfl,hrv,hnil⟩:=hr
   unfold Af at hnil;subst hnil
   have hrv:Dat w F (.slice t) xs [v]:=hrv
   obtain⟨a,cap,e1,e2,e3⟩:=hrv
   simp only[Arh,Atd]at e1
   subst e1
   refine calls_of_wp hf hs.body ?_
   obtain⟨d0,d1,d2,d3,d4,d5,d6,d7⟩:=hs.d
   obtain⟨g0,g1,g2,g3,g4,g5,g6,g7⟩:=hs.g
   have hres:∀ (tm:Array Value) (w0:World),(results fn tm).run P w0 = .ok (tm.getD 2 undef) w0:=fun tm w0=>by simp[results,hs.res]
   refine wp_seq (wp_region ?_)
   simp only[Asc,ArO,ArZ,Arz,Atv,Ary]
   refine B0 (by rfl) g0 (B1 (Gl hs.o00) ?_)
   refine wp_seq (wp_region ?_)
   simp only[Asc,ArO,ArZ,Arz,Atv,Ary,Arj]
   refine B0 (by rfl) g1 (B1 (J9 hs.o10) ?_)
   refine B0 (by rfl) g2 (B1 (J9 hs.o11) ?_)
   refine B0 (by rfl) g3 (B1 (u:=.int .i64 (List.length (α:=t.den) xs)) (w':=w) (by simp[execOp,hs.o12,resolve,invoke,builtin,Act.eval,Act.put,d0,d1,d2,hs.nt,BZ hs.sl]) ?_)
   refine B0 (by rfl) g4 (B1 (J9 hs.o13) ?_)
   refine B0 (by rfl) g5 (B1 (u:=.int .i64 (List.length (α:=t.den) xs)) (w':=w) (by simp[execOp,hs.o14,resolve,invoke,builtin,Act.eval,Act.put,d0,d1,d2,d3,d4,hs.nt,BZ hs.sl]) ?_)
   have hrun:=MZ (P:=P) (w:=w) (kh:=.i64) (km:=.i64) hs.sl hi0 a (List.length (α:=t.den) xs) cap (l:=0) (h:=(List.length (α:=t.den) xs:Int)) (.inl ⟨rfl,rfl⟩) (by omega) (by omega) (by omega)
   refine B0 (by rfl) g6 (B1 (u:=.slice a (List.length (α:=t.den) xs) (List.length (α:=t.den) xs)) (w':=w) (by
    simp[execOp,hs.o15,Act.eval,Act.put,d0,d1,d2,d3,d4,d5,hs.nt,hrun]
    intro _
    cases a<;>rfl) ?_)
   refine B0 (by rfl) g7 (B1 (Gl hs.o16) ?_)
   refine wp_ret ?_
   refine⟨by simp[Act.put,d0,d1,d2,d3,d4,d5,d6,d7],_,hres _ _,?_⟩
   refine⟨_,rfl,F,m,Av.refl hi,?_⟩
   have:Rep w F m H (.clip t xs) (.slice a (List.length (α:=t.den) xs) (List.length (α:=t.den) xs)):=by
    unfold Rep
    exact⟨⟨a,_,rfl,ArP _,e3⟩,a,rfl⟩
   show Rep _ _ _ H _ _
   simpa [Act.put,Act.eval,d0,d1,d2,d3,d4,d5,d6,d7,hs.nt]using this
  ·cases hk
 ·cases hk
theorem NK(n:Nat):GL (NL n):=fun _ _ _ _ _ _ _ _ _=>rfl
end
end Go.Pev
end
section
namespace Go.Pev
open Go.Proofs
noncomputable section
abbrev AiN:Hints:={  }
theorem AWc:∀ v,Q1 v=AL 0 Tryz.prog Env.none AiN Tryz.f85 AAv AAu AAt v:=by
 rintro⟨a0,⟨⟩⟩
 kernel_rfl
theorem AiM:AD (AQ Tryz.f85) 0=[]:=by kernel_rfl
theorem AQh:AP Tryz.prog 85 (AF 0 1 AAv AAu AAt MM):=AH Env.Aci Tryz.func85 (by kernel_rfl) (by kernel_rfl) rfl (fun v=>(AIp v).trans (AWc v)) (AA AiM trivial)
def AGi:Env:=Env.none.ext 85 true true (AF 0 1 AAv AAu AAt MM)
theorem Y3:AX Tryz.prog AGi:=Env.AZ Env.Aci AQh (fun _=>AI rfl rfl) (fun _=>AG rfl rfl)
abbrev Aqn:Hints:={  }
theorem AnO:∀ v,Ab5 v=AL 0 Tryz.prog AGi Aqn Tryz.f126 Aij Aii Aih v:=by
 rintro⟨a0,a1,⟨⟩⟩
 kernel_rfl
theorem Aqm:AD (AQ Tryz.f126) 0=[]:=by kernel_rfl
theorem Aig:AP Tryz.prog 126 (AF 0 2 Aij Aii Aih tin):=AH Y3 Tryz.func126 (by kernel_rfl) (by kernel_rfl) rfl (fun v=>(Aik v).trans (AnO v)) (AA Aqm trivial)
def Am0:Env:=AGi.ext 126 true true (AF 0 2 Aij Aii Aih tin)
theorem AWH:AX Tryz.prog Am0:=Env.AZ Y3 Aig (fun _=>AI rfl rfl) (fun _=>AG rfl rfl)
abbrev Apt:Hints:={  }
theorem Aip:∀ v,ALt v=AL 0 Tryz.prog Am0 Apt Tryz.f108 AWy AWx AWw v:=by
 rintro⟨a0,a1,a2,⟨⟩⟩
 kernel_rfl
theorem Aps:AD (AQ Tryz.f108) 0=[]:=by kernel_rfl
theorem AeE:AP Tryz.prog 108 (AF 0 3 AWy AWx AWw AeF):=AH AWH Tryz.func108 (by kernel_rfl) (by kernel_rfl) rfl (fun v=>(Ab6 v).trans (Aip v)) (AA Aps trivial)
def Abo:Env:=Am0.ext 108 true true (AF 0 3 AWy AWx AWw AeF)
theorem AKv:AX Tryz.prog Abo:=Env.AZ AWH AeE (fun _=>AI rfl rfl) (fun _=>AG rfl rfl)
abbrev AiL:Hints:={ fp:=fun n=>match n with|5=>[[],[],[],[],[],[],[],[],[]]|_=>[] }
theorem AWb:∀ v,Q0 v=AL 0 Tryz.prog Abo AiL Tryz.f163 AAr AAq AAp v:=by
 rintro⟨a0,a1,⟨⟩⟩
 kernel_rfl
theorem AiK:AD (AQ Tryz.f163) 0=[]:=by kernel_rfl
theorem AQg:AP Tryz.prog 163 (AF 0 2 AAr AAq AAp AAs):=AH AKv Tryz.func163 (by kernel_rfl) (by kernel_rfl) rfl (fun v=>(AIo v).trans (AWb v)) (AA AiK trivial)
def Sr:Env:=Abo.ext 163 true true (AF 0 2 AAr AAq AAp AAs)
theorem NY:AX Tryz.prog Sr:=Env.AZ AKv AQg (fun _=>AI rfl rfl) (fun _=>AG rfl rfl)
abbrev ALg:Hints:={ loop:=fun n=>match n with|0=>Ab 0 25 AQs AQr He|_=>fun _ _ _=>none }
theorem AQq:∀ v,He v=roundOf Tryz.prog Sr ALg 1 0 25 (AB Tryz.f74 0) AQs AQr v:=by
 rintro⟨a0,a1,a2,a3,a4,⟨⟩⟩
 kernel_rfl
theorem AiZ:AD (AB Tryz.f74 0) 1=[]:=by kernel_rfl
theorem Aia:Aa Tryz.prog 0 (.loop (AB Tryz.f74 0)) (ALg.loop 0):=AT NY (AQq) (AA AiZ trivial)
theorem Ad2:∀ v,Zx v=AL 0 Tryz.prog Sr ALg Tryz.f74 ALf ALe ALd v:=by
 rintro⟨a0,⟨⟩⟩
 kernel_rfl
theorem AnJ:AD (AQ Tryz.f74) 0=[(0,AB Tryz.f74 0)]:=by kernel_rfl
theorem AWj:AP Tryz.prog 74 (AF 0 1 ALf ALe ALd AQu):=AH NY Tryz.func74 (by kernel_rfl) (by kernel_rfl) rfl (fun v=>(AQt v).trans (Ad2 v)) (AA AnJ ⟨Aia,trivial⟩)
def AAS:Env:=Sr.ext 74 true true (AF 0 1 ALf ALe ALd AQu)
theorem Qi:AX Tryz.prog AAS:=Env.AZ NY AWj (fun _=>AI rfl rfl) (fun _=>AG rfl rfl)
abbrev AEQ:Hints:={ loop:=fun n=>match n with|0=>Ab 0 19 AJx AJw Fs|_=>fun _ _ _=>none }
theorem ANt:∀ v,Fs v=roundOf Tryz.prog AAS AEQ 1 0 19 (AB Tryz.f147 0) AJx AJw v:=by
 rintro⟨a0,a1,a2,a3,⟨⟩⟩
 kernel_rfl
theorem AgG:AD (AB Tryz.f147 0) 1=[]:=by kernel_rfl
theorem AgH:Aa Tryz.prog 0 (.loop (AB Tryz.f147 0)) (AEQ.loop 0):=AT Qi (ANt) (AA AgG trivial)
theorem AZo:∀ v,Rn v=AL 0 Tryz.prog AAS AEQ Tryz.f147 AEP AEO AEN v:=by
 rintro⟨a0,a1,⟨⟩⟩
 kernel_rfl
theorem AlG:AD (AQ Tryz.f147) 0=[(0,AB Tryz.f147 0)]:=by kernel_rfl
theorem ATv:AP Tryz.prog 147 (AF 0 2 AEP AEO AEN QC):=AH Qi Tryz.func147 (by kernel_rfl) (by kernel_rfl) rfl (fun v=>(AJy v).trans (AZo v)) (AA AlG ⟨AgH,trivial⟩)
def AG0:Env:=AAS.ext 147 true true (AF 0 2 AEP AEO AEN QC)
theorem ZD:AX Tryz.prog AG0:=Env.AZ Qi ATv (fun _=>AI rfl rfl) (fun _=>AG rfl rfl)
abbrev AVD:Hints:={  }
theorem AII:∀ v,Iw v=AL 0 Tryz.prog AG0 AVD Tryz.f129 NC NB NA v:=by
 rintro⟨a0,a1,⟨⟩⟩
 kernel_rfl
theorem AVC:AD (AQ Tryz.f129) 0=[]:=by kernel_rfl
theorem AFi:AP Tryz.prog 129 (AF 0 2 NC NB NA GF):=AH ZD Tryz.func129 (by kernel_rfl) (by kernel_rfl) rfl (fun v=>(SQ v).trans (AII v)) (AA AVC trivial)
def JB:Env:=AG0.ext 129 true true (AF 0 2 NC NB NA GF)
theorem IN:AX Tryz.prog JB:=Env.AZ ZD AFi (fun _=>AI rfl rfl) (fun _=>AG rfl rfl)
abbrev AZD:Hints:={ loop:=fun n=>match n with|0=>Ab 0 25 Ack Acj Kq|_=>fun _ _ _=>none }
theorem AY9:∀ v,Kq v=roundOf Tryz.prog JB AZD 1 0 25 (AB Tryz.f145 0) Ack Acj v:=by
 rintro⟨a0,a1,a2,⟨⟩⟩
 kernel_rfl
theorem AoI:AD (AB Tryz.f145 0) 1=[]:=by kernel_rfl
theorem AoJ:Aa Tryz.prog 0 (.loop (AB Tryz.f145 0)) (AZD.loop 0):=AT IN (AY9) (AA AoI trivial)
theorem Akt:∀ v,ANX v=AL 0 Tryz.prog JB AZD Tryz.f145 AZC AZB AZA v:=by
 rintro⟨a0,⟨⟩⟩
 kernel_rfl
theorem AqK:AD (AQ Tryz.f145) 0=[(0,AB Tryz.f145 0)]:=by kernel_rfl
theorem Afk:AP Tryz.prog 145 (AF 0 1 AZC AZB AZA Afl):=AH IN Tryz.func145 (by kernel_rfl) (by kernel_rfl) rfl (fun v=>(Acl v).trans (Akt v)) (AA AqK ⟨AoJ,trivial⟩)
def Abt:Env:=JB.ext 145 true true (AF 0 1 AZC AZB AZA Afl)
theorem AK0:AX Tryz.prog Abt:=Env.AZ IN Afk (fun _=>AI rfl rfl) (fun _=>AG rfl rfl)
abbrev Aoi:Hints:={  }
theorem AgW:∀ v,AAD v=AL 0 Tryz.prog Abt Aoi Tryz.f132 AOG AOF AOE v:=by
 rintro⟨a0,⟨⟩⟩
 kernel_rfl
theorem Aoh:AD (AQ Tryz.f132) 0=[]:=by kernel_rfl
theorem AZu:AP Tryz.prog 132 (AF 0 2 AOG AOF AOE AUN):=AH AK0 Tryz.func132 (by kernel_rfl) (by kernel_rfl) rfl (fun v=>(AUM v).trans (AgW v)) (AA Aoh trivial)
def TM:Env:=Abt.ext 132 false true (AF 0 2 AOG AOF AOE AUN)
theorem Lw:AX Tryz.prog TM:=Env.AZ AK0 AZu ((by simp)) (fun _=>AG rfl rfl)
abbrev KF:Hints:={ loop:=fun n=>match n with|0=>Ab 0 36 AFn AFl Eb|1=>Ab 0 36 AFm AFk Ea|_=>fun _ _ _=>none }
theorem AIQ:∀ v,Ea v=roundOf Tryz.prog TM KF 2 0 36 (AB Tryz.f107 1) AFm AFk v:=by
 rintro⟨a0,a1,a2,a3,⟨⟩⟩
 kernel_rfl
theorem Aa6:AD (AB Tryz.f107 1) 2=[]:=by kernel_rfl
theorem Aa8:Aa Tryz.prog 0 (.loop (AB Tryz.f107 1)) (KF.loop 1):=AT Lw (AIQ) (AA Aa6 trivial)
theorem AIR:∀ v,Eb v=roundOf Tryz.prog TM KF 1 0 36 (AB Tryz.f107 0) AFn AFl v:=by
 rintro⟨a0,a1,a2,a3,a4,⟨⟩⟩
 kernel_rfl
theorem Aa7:AD (AB Tryz.f107 0) 1=[]:=by kernel_rfl
theorem Aa9:Aa Tryz.prog 0 (.loop (AB Tryz.f107 0)) (KF.loop 0):=AT Lw (AIR) (AA Aa7 trivial)
theorem AVG:∀ v,OO v=AL 0 Tryz.prog TM KF Tryz.f107 W0 Wz Wy v:=by
 rintro⟨a0,⟨⟩⟩
 kernel_rfl
theorem AhT:AD (AQ Tryz.f107) 0=[(0,AB Tryz.f107 0),(1,AB Tryz.f107 1)]:=by kernel_rfl
theorem AO7:AP Tryz.prog 107 (AF 0 1 W0 Wz Wy LY):=AH Lw Tryz.func107 (by kernel_rfl) (by kernel_rfl) rfl (fun v=>(AFo v).trans (AVG v)) (AA AhT ⟨Aa9,Aa8,trivial⟩)
def Xl:Env:=TM.ext 107 true true (AF 0 1 W0 Wz Wy LY)
theorem TV:AX Tryz.prog Xl:=Env.AZ Lw AO7 (fun _=>AI rfl rfl) (fun _=>AG rfl rfl)
theorem Aeq:Tryz.f161.body.isSome=true:=by kernel_rfl
theorem Aep : (Tryz.f161.name == "runtime.NumGoroutine") = false := by kernel_rfl
theorem Aeo:loops (AQ Tryz.f161)=0:=by kernel_rfl
def I7:Env:=Xl.ext 161 false false (Cj Tryz.prog Xl {} Tryz.f161)
theorem IK:AX Tryz.prog I7:=Env.AZ TV (CV TV Tryz.func161 Aeq Aep Aeo) (by simp) (by simp)
abbrev Hy:Hints:={ loop:=fun n=>match n with|0=>Ab 0 19 L9 L8 By|_=>fun _ _ _=>none }
theorem QF:∀ v,By v=roundOf Tryz.prog I7 Hy 1 0 19 (AB Tryz.f56 0) L9 L8 v:=by
 rintro⟨a0,a1,a2,⟨⟩⟩
 kernel_rfl
theorem ZW:AD (AB Tryz.f56 0) 1=[]:=by kernel_rfl
theorem ZX:Aa Tryz.prog 0 (.loop (AB Tryz.f56 0)) (Hy.loop 0):=AT IK (QF) (AA ZW trivial)
theorem WJ:∀ v,E9 v=AL 0 Tryz.prog I7 Hy Tryz.f56 Hx Hw Hv v:=by
 rintro⟨a0,⟨⟩⟩
 kernel_rfl
theorem AES:AD (AQ Tryz.f56) 0=[(0,AB Tryz.f56 0)]:=by kernel_rfl
theorem Rv:AP Tryz.prog 56 (AF 0 2 Hx Hw Hv HC):=AH IK Tryz.func56 (by kernel_rfl) (by kernel_rfl) rfl (fun v=>(MA v).trans (WJ v)) (AA AES ⟨ZX,trivial⟩)
def IL:Env:=I7.CD 56 1 161 (AF 0 2 Hx Hw Hv HC)
theorem I9:AX Tryz.prog IL:=Env.Aw IK Rv (AG rfl rfl)
end
end Go.Pev
end
section
namespace Go.Pev
open Go.Proofs
noncomputable section
abbrev Zf:Hints:={  }
theorem SU:∀ v,EG v=AL 0 Tryz.prog IL Zf Tryz.f29 G4 G3 G2 v:=by
 rintro⟨a0,⟨⟩⟩
 kernel_rfl
theorem Ze:AD (AQ Tryz.f29) 0=[]:=by kernel_rfl
theorem QV:AP Tryz.prog 29 (AF 0 2 G4 G3 G2 D9):=AH I9 Tryz.func29 (by kernel_rfl) (by kernel_rfl) rfl (fun v=>(KE v).trans (SU v)) (AA Ze trivial)
def EH:Env:=IL.CD 29 1 161 (AF 0 2 G4 G3 G2 D9)
theorem Eh:AX Tryz.prog EH:=Env.Aw I9 QV (AG rfl rfl)
abbrev AYz:Hints:={ loop:=fun n=>match n with|0=>Ab 0 23 Acb Aca Kj|_=>fun _ _ _=>none }
theorem AYv:∀ v,Kj v=roundOf Tryz.prog EH AYz 1 0 23 (AB Tryz.f162 0) Acb Aca v:=by
 rintro⟨a0,a1,a2,a3,a4,⟨⟩⟩
 kernel_rfl
theorem AoC:AD (AB Tryz.f162 0) 1=[]:=by kernel_rfl
theorem AoD:Aa Tryz.prog 0 (.loop (AB Tryz.f162 0)) (AYz.loop 0):=AT Eh (AYv) (AA AoC trivial)
theorem Akk:∀ v,ANK v=AL 0 Tryz.prog EH AYz Tryz.f162 AYy AYx AYw v:=by
 rintro⟨a0,⟨⟩⟩
 kernel_rfl
theorem AqG:AD (AQ Tryz.f162) 0=[(0,AB Tryz.f162 0)]:=by kernel_rfl
theorem AfX:AP Tryz.prog 162 (AF 0 1 AYy AYx AYw once):=AH Eh Tryz.func162 (by kernel_rfl) (by kernel_rfl) rfl (fun v=>(Acd v).trans (Akk v)) (AA AqG ⟨AoD,trivial⟩)
def Abr:Env:=EH.ext 162 true true (AF 0 1 AYy AYx AYw once)
theorem AKy:AX Tryz.prog Abr:=Env.AZ Eh AfX (fun _=>AI rfl rfl) (fun _=>AG rfl rfl)
abbrev AjL:Hints:={  }
theorem AXW:∀ v,RN v=AL 0 Tryz.prog Abr AjL Tryz.f144 AB6 AB5 AB4 v:=by
 rintro⟨a0,⟨⟩⟩
 kernel_rfl
theorem AjK:AD (AQ Tryz.f144) 0=[]:=by kernel_rfl
theorem ARh:AP Tryz.prog 144 (AF 0 1 AB6 AB5 AB4 Pj):=AH AKy Tryz.func144 (by kernel_rfl) (by kernel_rfl) rfl (fun v=>(AJJ v).trans (AXW v)) (AA AjK trivial)
def AGq:Env:=Abr.ext 144 true true (AF 0 1 AB6 AB5 AB4 Pj)
theorem Y9:AX Tryz.prog AGq:=Env.AZ AKy ARh (fun _=>AI rfl rfl) (fun _=>AG rfl rfl)
abbrev AiJ:Hints:={ fp:=fun n=>match n with|1=>[[],[],[],[],[],[],[],[0],[]]|_=>[] }
theorem AWZ:∀ v,Qz v=AL 0 Tryz.prog AGq AiJ Tryz.f131 AAo AAn AAm v:=by
 rintro⟨a0,a1,⟨⟩⟩
 kernel_rfl
theorem AiI:AD (AQ Tryz.f131) 0=[]:=by kernel_rfl
theorem AQf:AP Tryz.prog 131 (AF 0 2 AAo AAn AAm Tf):=AH Y9 Tryz.func131 (by kernel_rfl) (by kernel_rfl) rfl (fun v=>(AIn v).trans (AWZ v)) (AA AiI trivial)
def Sq:Env:=AGq.ext 131 true true (AF 0 2 AAo AAn AAm Tf)
theorem NX:AX Tryz.prog Sq:=Env.AZ Y9 AQf (fun _=>AI rfl rfl) (fun _=>AG rfl rfl)
abbrev ACw:Hints:={ loop:=fun n=>match n with|0=>Ab 0 29 AJX AJW Ek|_=>fun _ _ _=>none }
theorem AMq:∀ v,Ek v=roundOf Tryz.prog Sq ACw 1 0 29 (AB Tryz.f130 0) AJX AJW v:=by
 rintro⟨a0,a1,a2,a3,a4,⟨⟩⟩
 kernel_rfl
theorem Ae8:AD (AB Tryz.f130 0) 1=[]:=by kernel_rfl
theorem Ae9:Aa Tryz.prog 0 (.loop (AB Tryz.f130 0)) (ACw.loop 0):=AT NX (AMq) (AA Ae8 trivial)
theorem AYG:∀ v,Ra v=AL 0 Tryz.prog Sq ACw Tryz.f130 ACv ACu ACt v:=by
 rintro⟨a0,a1,⟨⟩⟩
 kernel_rfl
theorem Ajx:AD (AQ Tryz.f130) 0=[(0,AB Tryz.f130 0)]:=by kernel_rfl
theorem ASC:AP Tryz.prog 130 (AF 0 2 ACv ACu ACt AMr):=AH NX Tryz.func130 (by kernel_rfl) (by kernel_rfl) rfl (fun v=>(AJY v).trans (AYG v)) (AA Ajx ⟨Ae9,trivial⟩)
def AGt:Env:=Sq.ext 130 true true (AF 0 2 ACv ACu ACt AMr)
theorem ZB:AX Tryz.prog AGt:=Env.AZ NX ASC (fun _=>AI rfl rfl) (fun _=>AG rfl rfl)
abbrev Anj:Hints:={  }
theorem Aeu:∀ v,Z3 v=AL 0 Tryz.prog AGt Anj Tryz.f106 AMf AMe AMd v:=by
 rintro⟨a0,a1,⟨⟩⟩
 kernel_rfl
theorem Ani:AD (AQ Tryz.f106) 0=[]:=by kernel_rfl
theorem AXj:AP Tryz.prog 106 (AF 0 2 AMf AMe AMd AJL):=AH ZB Tryz.func106 (by kernel_rfl) (by kernel_rfl) rfl (fun v=>(AR0 v).trans (Aeu v)) (AA Ani trivial)
def AP6:Env:=AGt.ext 106 true true (AF 0 2 AMf AMe AMd AJL)
theorem AGs:AX Tryz.prog AP6:=Env.AZ ZB AXj (fun _=>AI rfl rfl) (fun _=>AG rfl rfl)
abbrev AjN:Hints:={  }
theorem AXY:∀ v,RO v=AL 0 Tryz.prog AP6 AjN Tryz.f133 AB9 AB8 AB7 v:=by
 rintro⟨a0,⟨⟩⟩
 kernel_rfl
theorem AjM:AD (AQ Tryz.f133) 0=[]:=by kernel_rfl
theorem ARi:AP Tryz.prog 133 (AF 0 1 AB9 AB8 AB7 ACA):=AH AGs Tryz.func133 (by kernel_rfl) (by kernel_rfl) rfl (fun v=>(AJK v).trans (AXY v)) (AA AjM trivial)
def AGr:Env:=AP6.ext 133 true true (AF 0 1 AB9 AB8 AB7 ACA)
theorem ZA:AX Tryz.prog AGr:=Env.AZ AGs ARi (fun _=>AI rfl rfl) (fun _=>AG rfl rfl)
theorem Ady:Tryz.f128.body.isSome=true:=by kernel_rfl
theorem Adx : (Tryz.f128.name == "runtime.NumGoroutine") = false := by kernel_rfl
theorem Adw:loops (AQ Tryz.f128)=0:=by kernel_rfl
def I5:Env:=AGr.ext 128 false false (Cj Tryz.prog AGr {} Tryz.f128)
theorem IH:AX Tryz.prog I5:=Env.AZ ZA (CV ZA Tryz.func128 Ady Adx Adw) (by simp) (by simp)
abbrev Fw:Hints:={ loop:=fun n=>match n with|0=>Ab 1 19 Ii Ih Bf|_=>fun _ _ _=>none }
theorem Mx:∀ v,Bf v=roundOf Tryz.prog I5 Fw 1 1 19 (AB Tryz.f127 0) Ii Ih v:=by
 rintro⟨a0,a1,a2,a3,⟨⟩⟩
 kernel_rfl
theorem Rq:AD (AB Tryz.f127 0) 1=[]:=by kernel_rfl
theorem Rr:Aa Tryz.prog 1 (.loop (AB Tryz.f127 0)) (Fw.loop 0):=AT IH (Mx) (AA Rq trivial)
theorem QD:∀ v,Dq v=AL 1 Tryz.prog I5 Fw Tryz.f127 Fv Fu Ft v:=by
 rintro⟨a0,a1,⟨⟩⟩
 kernel_rfl
theorem WH:AD (AQ Tryz.f127) 0=[(0,AB Tryz.f127 0)]:=by kernel_rfl
theorem Ol:AP Tryz.prog 127 (AF 1 2 Fv Fu Ft E7):=AH IH Tryz.func127 (by kernel_rfl) (by kernel_rfl) rfl (fun v=>(Ij v).trans (QD v)) (AA WH ⟨Rr,trivial⟩)
def GO:Env:=I5.CD 127 1 128 (AF 1 2 Fv Fu Ft E7)
theorem HA:AX Tryz.prog GO:=Env.Aw IH Ol (AG rfl rfl)
abbrev AiU:Hints:={  }
theorem AWf:∀ v,Q3 v=AL 0 Tryz.prog GO AiU Tryz.f105 AA6 AA5 AA4 v:=by
 rintro⟨a0,a1,⟨⟩⟩
 kernel_rfl
theorem AiT:AD (AQ Tryz.f105) 0=[]:=by kernel_rfl
theorem AQl:AP Tryz.prog 105 (AF 0 2 AA6 AA5 AA4 Ti):=AH HA Tryz.func105 (by kernel_rfl) (by kernel_rfl) rfl (fun v=>(AIx v).trans (AWf v)) (AA AiT trivial)
def AGk:Env:=GO.ext 105 true true (AF 0 2 AA6 AA5 AA4 Ti)
theorem Y5:AX Tryz.prog AGk:=Env.AZ HA AQl (fun _=>AI rfl rfl) (fun _=>AG rfl rfl)
theorem ApX:Tryz.f164.body.isSome=true:=by kernel_rfl
theorem ApW : (Tryz.f164.name == "runtime.NumGoroutine") = false := by kernel_rfl
theorem ApV:loops (AQ Tryz.f164)=0:=by kernel_rfl
def Oi:Env:=AGk.ext 164 false false (Cj Tryz.prog AGk {} Tryz.f164)
theorem L4:AX Tryz.prog Oi:=Env.AZ Y5 (CV Y5 Tryz.func164 ApX ApW ApV) (by simp) (by simp)
abbrev AZ0:Hints:={ loop:=fun n=>match n with|0=>Ab 0 107 Ac7 Ac6 Io|_=>fun _ _ _=>none,fp:=fun n=>match n with|8=>[[],[],[],[],[],[],[],[],[1000003],[],[],[],[],[],[],[],[],[0],[0],[0],[],[0],[0],[0],[2,26],[],[2,26],[2,26],[],[],[],[],[]]|13=>[[],[0],[0],[0],[2],[],[],[],[0],[0],[0],[6],[],[0],[0],[0],[4],[],[],[]]|3=>[[],[],[],[],[],[],[],[],[11],[],[],[],[8,10,12],[]]|_=>[] }
theorem AZw:∀ v,Io v=roundOf Tryz.prog Oi AZ0 1 0 107 (AB Tryz.f146 0) Ac7 Ac6 v:=by
 rintro⟨a0,a1,a2,a3,a4,a5,a6,⟨⟩⟩
 kernel_rfl
theorem Aom:AD (AB Tryz.f146 0) 1=[]:=by kernel_rfl
theorem Aon:Aa Tryz.prog 0 (.loop (AB Tryz.f146 0)) (AZ0.loop 0):=AT L4 (AZw) (AA Aom trivial)
theorem Alc:∀ v,AOH v=AL 0 Tryz.prog Oi AZ0 Tryz.f146 AZz AZy AZx v:=by
 rintro⟨a0,a1,⟨⟩⟩
 kernel_rfl
theorem AqT:AD (AQ Tryz.f146) 0=[(0,AB Tryz.f146 0)]:=by kernel_rfl
theorem Aga:AP Tryz.prog 146 (AF 0 2 AZz AZy AZx Ale):=AH L4 Tryz.func146 (by kernel_rfl) (by kernel_rfl) rfl (fun v=>(Ac8 v).trans (Alc v)) (AA AqT ⟨Aon,trivial⟩)
def Xg:Env:=Oi.ext 146 true true (AF 0 2 AZz AZy AZx Ale)
theorem KP:AX Tryz.prog Xg:=Env.AZ L4 Aga (fun _=>AI rfl rfl) (fun _=>AG rfl rfl)
end
end Go.Pev
end
section
namespace Go.Pev
open Go.Proofs
noncomputable section
abbrev Hc:Hints:={ loop:=fun n=>match n with|0=>Ab 0 87 AIv AIs Df|1=>Ab 0 87 AIu AIr De|2=>Ab 0 87 AIt AIq Ei|_=>fun _ _ _=>none,fp:=fun n=>match n with|8=>[[],[],[],[],[],[],[],[],[],[],[],[],[],[],[],[],[],[],[],[],[],[],[],[],[0],[0],[],[],[],[]]|_=>[] }
theorem ALS:∀ v,Ei v=roundOf Tryz.prog Xg Hc 3 0 87 (AB Tryz.f124 2) AIt AIq v:=by
 rintro⟨a0,a1,a2,⟨⟩⟩
 kernel_rfl
theorem Adq:AD (AB Tryz.f124 2) 3=[]:=by kernel_rfl
theorem Adt:Aa Tryz.prog 0 (.loop (AB Tryz.f124 2)) (Hc.loop 2):=AT KP (ALS) (AA Adq trivial)
theorem ALT:∀ v,De v=roundOf Tryz.prog Xg Hc 2 0 87 (AB Tryz.f124 1) AIu AIr v:=by
 rintro⟨a0,a1,a2,a3,a4,a5,a6,a7,a8,a9,a10,a11,a12,a13,a14,a15,a16,a17,a18,a19,a20,a21,a22,a23,a24,a25,⟨⟩⟩
 kernel_rfl
theorem Adr:AD (AB Tryz.f124 1) 2=[]:=by kernel_rfl
theorem Adu:Aa Tryz.prog 0 (.loop (AB Tryz.f124 1)) (Hc.loop 1):=AT KP (ALT) (AA Adr trivial)
theorem ALU:∀ v,Df v=roundOf Tryz.prog Xg Hc 1 0 87 (AB Tryz.f124 0) AIv AIs v:=by
 rintro⟨a0,a1,a2,a3,a4,a5,a6,⟨⟩⟩
 kernel_rfl
theorem Ads:AD (AB Tryz.f124 0) 1=[(1,AB Tryz.f124 1)]:=by kernel_rfl
theorem Adv:Aa Tryz.prog 0 (.loop (AB Tryz.f124 0)) (Hc.loop 0):=AT KP (ALU) (AA Ads ⟨Adu,trivial⟩)
theorem AWe:∀ v,Q2 v=AL 0 Tryz.prog Xg Hc Tryz.f124 AA2 AA1 AA0 v:=by
 rintro⟨a0,⟨⟩⟩
 kernel_rfl
theorem AiS:AD (AQ Tryz.f124) 0=[(0,AB Tryz.f124 0),(2,AB Tryz.f124 2)]:=by kernel_rfl
theorem AQk:AP Tryz.prog 124 (AF 0 1 AA2 AA1 AA0 Th):=AH KP Tryz.func124 (by kernel_rfl) (by kernel_rfl) rfl (fun v=>(AIw v).trans (AWe v)) (AA AiS ⟨Adv,Adt,trivial⟩)
def AGj:Env:=Xg.ext 124 true true (AF 0 1 AA2 AA1 AA0 Th)
theorem Y4:AX Tryz.prog AGj:=Env.AZ KP AQk (fun _=>AI rfl rfl) (fun _=>AG rfl rfl)
abbrev ApN:Hints:={  }
theorem Ahx:∀ v,AAP v=AL 0 Tryz.prog AGj ApN Tryz.f104 APh APg APf v:=by
 rintro⟨a0,a1,a2,⟨⟩⟩
 kernel_rfl
theorem ApM:AD (AQ Tryz.f104) 0=[]:=by kernel_rfl
theorem Abb:AP Tryz.prog 104 (AF 0 3 APh APg APf asked):=AH Y4 Tryz.func104 (by kernel_rfl) (by kernel_rfl) rfl (fun v=>(AVx v).trans (Ahx v)) (AA ApM trivial)
def AQL:Env:=AGj.ext 104 true true (AF 0 3 APh APg APf asked)
theorem AHG:AX Tryz.prog AQL:=Env.AZ Y4 Abb (fun _=>AI rfl rfl) (fun _=>AG rfl rfl)
abbrev AqJ:Hints:={  }
theorem Akr:∀ v,Ko v=AL 0 Tryz.prog AQL AqJ Tryz.f84 AY7 AY6 AY5 v:=by
 rintro⟨a0,⟨⟩⟩
 kernel_rfl
theorem AqI:AD (AQ Tryz.f84) 0=[]:=by kernel_rfl
theorem Afg:AP Tryz.prog 84 (AF 0 1 AY7 AY6 AY5 Aks):=AH AHG Tryz.func84 (by kernel_rfl) (by kernel_rfl) rfl (fun v=>(Km v).trans (Akr v)) (AA AqI trivial)
def Abs:Env:=AQL.ext 84 true true (AF 0 1 AY7 AY6 AY5 Aks)
theorem AKz:AX Tryz.prog Abs:=Env.AZ AHG Afg (fun _=>AI rfl rfl) (fun _=>AG rfl rfl)
abbrev AbB:Hints:={  }
theorem APA:∀ v,Ec v=AL 0 Tryz.prog Abs AbB Tryz.f73 QY QX QW v:=by
 rintro⟨a0,a1,⟨⟩⟩
 kernel_rfl
theorem AbA:AD (AQ Tryz.f73) 0=[]:=by kernel_rfl
theorem AIS:AP Tryz.prog 73 (AF 0 2 QY QX QW Da):=AH AKz Tryz.func73 (by kernel_rfl) (by kernel_rfl) rfl (fun v=>(Gr v).trans (APA v)) (AA AbA trivial)
def Qs:Env:=Abs.ext 73 true true (AF 0 2 QY QX QW Da)
theorem PN:AX Tryz.prog Qs:=Env.AZ AKz AIS (fun _=>AI rfl rfl) (fun _=>AG rfl rfl)
abbrev Am7:Hints:={ fp:=fun n=>match n with|1=>[[],[],[],[],[],[],[],[]]|_=>[] }
theorem Adl:∀ v,Zt v=AL 0 Tryz.prog Qs Am7 Tryz.f135 ALG ALF ALE v:=by
 rintro⟨a0,a1,⟨⟩⟩
 kernel_rfl
theorem Am6:AD (AQ Tryz.f135) 0=[]:=by kernel_rfl
theorem AWU:AP Tryz.prog 135 (AF 0 2 ALG ALF ALE BG):=AH PN Tryz.func135 (by kernel_rfl) (by kernel_rfl) rfl (fun v=>(AQT v).trans (Adl v)) (AA Am6 trivial)
def AP0:Env:=Qs.ext 135 true true (AF 0 2 ALG ALF ALE BG)
theorem AGf:AX Tryz.prog AP0:=Env.AZ PN AWU (fun _=>AI rfl rfl) (fun _=>AG rfl rfl)
abbrev AoO:Hints:={  }
theorem Af9:∀ v,Z9 v=AL 0 Tryz.prog AP0 AoO Tryz.f83 ANn ANm ANl v:=by
 rintro⟨a0,⟨⟩⟩
 kernel_rfl
theorem AoN:AD (AQ Tryz.f83) 0=[]:=by kernel_rfl
theorem AZX:AP Tryz.prog 83 (AF 0 1 ANn ANm ANl ATr):=AH AGf Tryz.func83 (by kernel_rfl) (by kernel_rfl) rfl (fun v=>(ATq v).trans (Af9 v)) (AA AoN trivial)
def AQB:Env:=AP0.ext 83 true true (AF 0 1 ANn ANm ANl ATr)
theorem AGz:AX Tryz.prog AQB:=Env.AZ AGf AZX (fun _=>AI rfl rfl) (fun _=>AG rfl rfl)
abbrev Aht:Hints:={  }
theorem AVp:∀ v,OT v=AL 0 Tryz.prog AQB Aht Tryz.f71 XB XA W8 v:=by
 rintro⟨a0,⟨⟩⟩
 kernel_rfl
theorem Ahs:AD (AQ Tryz.f71) 0=[]:=by kernel_rfl
theorem APb:AP Tryz.prog 71 (AF 0 1 XB XA W8 bitsLen):=AH AGz Tryz.func71 (by kernel_rfl) (by kernel_rfl) rfl (fun v=>(AGM v).trans (AVp v)) (AA Ahs trivial)
def Xn:Env:=AQB.ext 71 true true (AF 0 1 XB XA W8 bitsLen)
theorem TY:AX Tryz.prog Xn:=Env.AZ AGz APb (fun _=>AI rfl rfl) (fun _=>AG rfl rfl)
abbrev AdZ:Hints:={ fp:=fun n=>match n with|3=>[[],[0],[0],[],[0],[0],[],[],[0],[1]]|2=>[[],[0],[0],[],[0],[0],[],[],[0],[1]]|1=>[[],[0],[0],[],[0],[0],[],[],[0],[1]]|_=>[] }
theorem AQP:∀ v,Nq v=AL 1 Tryz.prog Xn AdZ Tryz.f118 Te Td Tc v:=by
 rintro⟨a0,⟨⟩⟩
 kernel_rfl
theorem AdY:AD (AQ Tryz.f118) 0=[]:=by kernel_rfl
theorem AK9:AP Tryz.prog 118 (AF 1 1 Te Td Tc xorNext):=AH TY Tryz.func118 (by kernel_rfl) (by kernel_rfl) rfl (fun v=>(AAa v).trans (AQP v)) (AA AdY trivial)
def XP:Env:=Xn.ext 118 false true (AF 1 1 Te Td Tc xorNext)
theorem So:AX Tryz.prog XP:=Env.AZ TY AK9 ((by simp)) (fun _=>AG rfl rfl)
abbrev Afc:Hints:={  }
theorem ATY:∀ v,OA v=AL 0 Tryz.prog XP Afc Tryz.f117 VV VU VT v:=by
 rintro⟨a0,⟨⟩⟩
 kernel_rfl
theorem Afb:AD (AQ Tryz.f117) 0=[]:=by kernel_rfl
theorem ANP:AP Tryz.prog 117 (AF 0 1 VV VU VT Rg):=AH So Tryz.func117 (by kernel_rfl) (by kernel_rfl) rfl (fun v=>(ADs v).trans (ATY v)) (AA Afb trivial)
def KN:Env:=XP.ext 117 true true (AF 0 1 VV VU VT Rg)
theorem HM:AX Tryz.prog KN:=Env.AZ So ANP (fun _=>AI rfl rfl) (fun _=>AG rfl rfl)
abbrev AEK:Hints:={ loop:=fun n=>match n with|0=>Ab 1 53 Acs Acq Aco|1=>Ab 1 53 Acr Acp Acn|_=>fun _ _ _=>none,fp:=fun n=>match n with|4=>[[],[],[],[],[],[],[],[0],[0],[],[],[],[0],[0],[],[],[]]|6=>[[],[],[],[],[],[],[],[],[0],[0],[],[],[0],[0],[0],[1],[0],[1]]|_=>[] }
theorem AZe:∀ v,Acn v=roundOf Tryz.prog KN AEK 2 1 53 (AB Tryz.f165 1) Acr Acp v:=by
 rintro⟨a0,a1,a2,a3,a4,⟨⟩⟩
 kernel_rfl
theorem AoR:AD (AB Tryz.f165 1) 2=[]:=by kernel_rfl
theorem AoT:Aa Tryz.prog 1 (.loop (AB Tryz.f165 1)) (AEK.loop 1):=AT HM (AZe) (AA AoR trivial)
theorem AZf:∀ v,Aco v=roundOf Tryz.prog KN AEK 1 1 53 (AB Tryz.f165 0) Acs Acq v:=by
 rintro⟨a0,a1,a2,a3,⟨⟩⟩
 kernel_rfl
theorem AoS:AD (AB Tryz.f165 0) 1=[(1,AB Tryz.f165 1)]:=by kernel_rfl
theorem AoU:Aa Tryz.prog 1 (.loop (AB Tryz.f165 0)) (AEK.loop 0):=AT HM (AZf) (AA AoS ⟨AoT,trivial⟩)
theorem Ak9:∀ v,AlA v=AL 1 Tryz.prog KN AEK Tryz.f165 AZi AZh AZg v:=by
 rintro⟨a0,a1,a2,⟨⟩⟩
 kernel_rfl
theorem AqN:AD (AQ Tryz.f165) 0=[(0,AB Tryz.f165 0)]:=by kernel_rfl
theorem AgE:AP Tryz.prog 165 (AF 1 4 AZi AZh AZg AqO):=AH HM Tryz.func165 (by kernel_rfl) (by kernel_rfl) rfl (fun v=>(AoV v).trans (Ak9 v)) (AA AqN ⟨AoU,trivial⟩)
def AQC:Env:=KN.CD 165 3 135 (AF 1 4 AZi AZh AZg AqO)
theorem Xe:AX Tryz.prog AQC:=Env.Aw HM AgE (AG rfl rfl)
abbrev AME:Hints:={ loop:=fun n=>match n with|0=>Ab 1 82 ARI ARH ARG|_=>fun _ _ _=>none,fp:=fun n=>match n with|6=>[[],[],[],[],[],[],[],[],[],[],[],[],[0],[0],[],[],[],[],[0],[0],[0],[1],[0],[1]]|5=>[[],[],[],[],[],[0],[0],[],[],[],[],[0],[0],[],[],[]]|3=>[[],[],[],[],[],[],[],[],[],[],[0],[0],[],[],[],[],[],[0],[0],[],[],[]]|_=>[] }
theorem ARF:∀ v,ARG v=roundOf Tryz.prog AQC AME 1 1 82 (AB Tryz.f186 0) ARI ARH v:=by
 rintro⟨a0,a1,a2,a3,⟨⟩⟩
 kernel_rfl
theorem Ai0:AD (AB Tryz.f186 0) 1=[]:=by kernel_rfl
theorem Ai1:Aa Tryz.prog 1 (.loop (AB Tryz.f186 0)) (AME.loop 0):=AT Xe (ARF) (AA Ai0 trivial)
theorem AeP:∀ v,AcD v=AL 1 Tryz.prog AQC AME Tryz.f186 AMD AMC AMB v:=by
 rintro⟨a0,a1,a2,a3,⟨⟩⟩
 kernel_rfl
theorem Anb:AD (AQ Tryz.f186) 0=[(0,AB Tryz.f186 0)]:=by kernel_rfl
theorem AXI:AP Tryz.prog 186 (AF 1 5 AMD AMC AMB Ai3):=AH Xe Tryz.func186 (by kernel_rfl) (by kernel_rfl) rfl (fun v=>(Ai2 v).trans (AeP v)) (AA Anb ⟨Ai1,trivial⟩)
def S3:Env:=AQC.CD 186 4 135 (AF 1 5 AMD AMC AMB Ai3)
theorem Lm:AX Tryz.prog S3:=Env.Aw Xe AXI (AG rfl rfl)
abbrev Rx:Hints:={ loop:=fun n=>match n with|0=>Ab 1 60 AT5 AT3 AT1|1=>Ab 1 60 AT4 AT2 ATz|_=>fun _ _ _=>none,fp:=fun n=>match n with|10=>[[],[],[],[],[],[],[],[],[],[],[0],[0],[],[],[0],[0],[0],[1],[0],[1]]|_=>[] }
theorem ATy:∀ v,ATz v=roundOf Tryz.prog S3 Rx 2 1 60 (AB Tryz.f166 1) AT4 AT2 v:=by
 rintro⟨a0,a1,a2,a3,⟨⟩⟩
 kernel_rfl
theorem AlL:AD (AB Tryz.f166 1) 2=[]:=by kernel_rfl
theorem AlN:Aa Tryz.prog 1 (.loop (AB Tryz.f166 1)) (Rx.loop 1):=AT Lm (ATy) (AA AlL trivial)
theorem AT0:∀ v,AT1 v=roundOf Tryz.prog S3 Rx 1 1 60 (AB Tryz.f166 0) AT5 AT3 v:=by
 rintro⟨a0,a1,a2,a3,a4,⟨⟩⟩
 kernel_rfl
theorem AlM:AD (AB Tryz.f166 0) 1=[]:=by kernel_rfl
theorem AlO:Aa Tryz.prog 1 (.loop (AB Tryz.f166 0)) (Rx.loop 0):=AT Lm (AT0) (AA AlM trivial)
theorem AgN:∀ v,Ac3 v=AL 1 Tryz.prog S3 Rx Tryz.f166 AN3 AN2 AN1 v:=by
 rintro⟨a0,a1,a2,⟨⟩⟩
 kernel_rfl
theorem Aoe:AD (AQ Tryz.f166) 0=[(0,AB Tryz.f166 0),(1,AB Tryz.f166 1)]:=by kernel_rfl
theorem AZq:AP Tryz.prog 166 (AF 1 4 AN3 AN2 AN1 AlQ):=AH Lm Tryz.func166 (by kernel_rfl) (by kernel_rfl) rfl (fun v=>(AlP v).trans (AgN v)) (AA Aoe ⟨AlO,AlN,trivial⟩)
def AAV:Env:=S3.CD 166 3 135 (AF 1 4 AN3 AN2 AN1 AlQ)
theorem Qn:AX Tryz.prog AAV:=Env.Aw Lm AZq (AG rfl rfl)
end
end Go.Pev
end
section
namespace Go.Pev
open Go.Proofs
noncomputable section
abbrev AGF:Hints:={ loop:=fun n=>match n with|0=>Ab 1 67 AKg AKf AKe|_=>fun _ _ _=>none,fp:=fun n=>match n with|10=>[[],[],[],[],[],[],[],[],[],[],[0],[0],[],[],[0],[0],[0],[1],[0],[1]]|_=>[] }
theorem APZ:∀ v,AKe v=roundOf Tryz.prog AAV AGF 1 1 67 (AB Tryz.f167 0) AKg AKf v:=by
 rintro⟨a0,a1,a2,a3,a4,a5,⟨⟩⟩
 kernel_rfl
theorem Ahl:AD (AB Tryz.f167 0) 1=[]:=by kernel_rfl
theorem Ahm:Aa Tryz.prog 1 (.loop (AB Tryz.f167 0)) (AGF.loop 0):=AT Qn (APZ) (AA Ahl trivial)
theorem AbU:∀ v,AVj v=AL 1 Tryz.prog AAV AGF Tryz.f167 AGE AGD AGC v:=by
 rintro⟨a0,a1,a2,⟨⟩⟩
 kernel_rfl
theorem Amh:AD (AQ Tryz.f167) 0=[(0,AB Tryz.f167 0)]:=by kernel_rfl
theorem AVi:AP Tryz.prog 167 (AF 1 4 AGE AGD AGC AbV):=AH Qn Tryz.func167 (by kernel_rfl) (by kernel_rfl) rfl (fun v=>(Ahn v).trans (AbU v)) (AA Amh ⟨Ahm,trivial⟩)
def AHD:Env:=AAV.CD 167 3 135 (AF 1 4 AGE AGD AGC AbV)
theorem ZK:AX Tryz.prog AHD:=Env.Aw Qn AVi (AG rfl rfl)
abbrev AfS:Hints:={ fp:=fun n=>match n with|1=>[[],[],[],[0],[0],[],[],[0],[0],[],[]]|_=>[] }
theorem ATU:∀ v,AJd v=AL 2 Tryz.prog AHD AfS Tryz.f195 VN VM VL v:=by
 rintro⟨a0,a1,a2,a3,⟨⟩⟩
 kernel_rfl
theorem AfR:AD (AQ Tryz.f195) 0=[]:=by kernel_rfl
theorem ANF:AP Tryz.prog 195 (AF 2 5 VN VM VL ANG):=AH ZK Tryz.func195 (by kernel_rfl) (by kernel_rfl) rfl (fun v=>(AYs v).trans (ATU v)) (AA AfR trivial)
def XY:Env:=AHD.CD 195 4 135 (AF 2 5 VN VM VL ANG)
theorem TD:AX Tryz.prog XY:=Env.Aw ZK ANF (AG rfl rfl)
abbrev Afo:Hints:={  }
theorem ATg:∀ v,AJh v=AL 2 Tryz.prog XY Afo Tryz.f188 VY VX VW v:=by
 rintro⟨a0,a1,a2,a3,a4,⟨⟩⟩
 kernel_rfl
theorem Afn:AD (AQ Tryz.f188) 0=[]:=by kernel_rfl
theorem ANY:AP Tryz.prog 188 (AF 2 6 VY VX VW ANZ):=AH TD Tryz.func188 (by kernel_rfl) (by kernel_rfl) rfl (fun v=>(AZF v).trans (ATg v)) (AA Afn trivial)
def Xa:Env:=XY.CD 188 5 135 (AF 2 6 VY VX VW ANZ)
theorem TF:AX Tryz.prog Xa:=Env.Aw TD ANY (AG rfl rfl)
abbrev Afs:Hints:={  }
theorem ATi:∀ v,AJj v=AL 2 Tryz.prog Xa Afs Tryz.f187 Vs Vr Vq v:=by
 rintro⟨a0,a1,a2,⟨⟩⟩
 kernel_rfl
theorem Afr:AD (AQ Tryz.f187) 0=[]:=by kernel_rfl
theorem ANc:AP Tryz.prog 187 (AF 2 4 Vs Vr Vq ANd):=AH TF Tryz.func187 (by kernel_rfl) (by kernel_rfl) rfl (fun v=>(AZI v).trans (ATi v)) (AA Afr trivial)
def Xc:Env:=Xa.CD 187 3 135 (AF 2 4 Vs Vr Vq ANd)
theorem TH:AX Tryz.prog Xc:=Env.Aw TF ANc (AG rfl rfl)
abbrev Ajz:Hints:={  }
theorem AYJ:∀ v,ASE v=AL 1 Tryz.prog Xc Ajz Tryz.f168 ACz ACy ACx v:=by
 rintro⟨a0,a1,a2,⟨⟩⟩
 kernel_rfl
theorem Ajy:AD (AQ Tryz.f168) 0=[]:=by kernel_rfl
theorem ASD:AP Tryz.prog 168 (AF 1 4 ACz ACy ACx AYK):=AH TH Tryz.func168 (by kernel_rfl) (by kernel_rfl) rfl (fun v=>(AfA v).trans (AYJ v)) (AA Ajy trivial)
def TB:Env:=Xc.CD 168 3 135 (AF 1 4 ACz ACy ACx AYK)
theorem Nf:AX Tryz.prog TB:=Env.Aw TH ASD (AG rfl rfl)
abbrev AXo:Hints:={ loop:=fun n=>match n with|0=>Ab 1 34 AcI AcH AcG|_=>fun _ _ _=>none,fp:=fun n=>match n with|3=>[[],[],[],[],[],[],[0],[0],[],[],[0],[0],[0],[1],[0],[1]]|_=>[] }
theorem AXk:∀ v,AcG v=roundOf Tryz.prog TB AXo 1 1 34 (AB Tryz.f169 0) AcI AcH v:=by
 rintro⟨a0,a1,a2,⟨⟩⟩
 kernel_rfl
theorem Ank:AD (AB Tryz.f169 0) 1=[]:=by kernel_rfl
theorem Anl:Aa Tryz.prog 1 (.loop (AB Tryz.f169 0)) (AXo.loop 0):=AT Nf (AXk) (AA Ank trivial)
theorem AjR:∀ v,AjS v=AL 1 Tryz.prog TB AXo Tryz.f169 AXn AXm AXl v:=by
 rintro⟨a0,a1,a2,⟨⟩⟩
 kernel_rfl
theorem Apx:AD (AQ Tryz.f169) 0=[(0,AB Tryz.f169 0)]:=by kernel_rfl
theorem Aev:AP Tryz.prog 169 (AF 1 4 AXn AXm AXl Apy):=AH Nf Tryz.func169 (by kernel_rfl) (by kernel_rfl) rfl (fun v=>(Anm v).trans (AjR v)) (AA Apx ⟨Anl,trivial⟩)
def Ql:Env:=TB.CD 169 3 135 (AF 1 4 AXn AXm AXl Apy)
theorem HY:AX Tryz.prog Ql:=Env.Aw Nf Aev (AG rfl rfl)
abbrev Ct:Hints:={ loop:=fun n=>match n with|0=>Ab 1 141 YH YD X9|1=>Ab 1 141 YG YC X8|2=>Ab 1 141 YF YB X7|3=>Ab 1 141 YE YA X6|_=>fun _ _ _=>none,fp:=fun n=>match n with|11=>[[],[],[],[],[],[],[],[],[0],[0],[],[],[0],[0],[0],[1],[0],[1]]|5=>[[],[],[],[],[],[],[],[0],[0],[],[],[],[0],[0],[],[],[],[]]|17=>[[],[],[],[],[],[],[],[],[0],[0],[],[],[0],[0],[0],[1],[0],[1]]|16=>[[],[],[],[0],[0],[],[],[],[0],[0],[],[],[]]|23=>[[],[],[],[],[],[],[],[],[0],[0],[],[],[0],[0],[0],[1],[0],[1]]|22=>[[],[],[],[0],[0],[],[],[],[0],[0],[],[],[]]|_=>[] }
theorem ADD:∀ v,X6 v=roundOf Tryz.prog Ql Ct 4 1 141 (AB Tryz.f170 3) YE YA v:=by
 rintro⟨a0,a1,a2,a3,a4,a5,⟨⟩⟩
 kernel_rfl
theorem ASk:AD (AB Tryz.f170 3) 4=[]:=by kernel_rfl
theorem ASo:Aa Tryz.prog 1 (.loop (AB Tryz.f170 3)) (Ct.loop 3):=AT HY (ADD) (AA ASk trivial)
theorem ADE:∀ v,X7 v=roundOf Tryz.prog Ql Ct 3 1 141 (AB Tryz.f170 2) YF YB v:=by
 rintro⟨a0,a1,a2,a3,a4,a5,⟨⟩⟩
 kernel_rfl
theorem ASl:AD (AB Tryz.f170 2) 3=[]:=by kernel_rfl
theorem ASp:Aa Tryz.prog 1 (.loop (AB Tryz.f170 2)) (Ct.loop 2):=AT HY (ADE) (AA ASl trivial)
theorem ADF:∀ v,X8 v=roundOf Tryz.prog Ql Ct 2 1 141 (AB Tryz.f170 1) YG YC v:=by
 rintro⟨a0,a1,a2,a3,a4,⟨⟩⟩
 kernel_rfl
theorem ASm:AD (AB Tryz.f170 1) 2=[]:=by kernel_rfl
theorem ASq:Aa Tryz.prog 1 (.loop (AB Tryz.f170 1)) (Ct.loop 1):=AT HY (ADF) (AA ASm trivial)
theorem ADG:∀ v,X9 v=roundOf Tryz.prog Ql Ct 1 1 141 (AB Tryz.f170 0) YH YD v:=by
 rintro⟨a0,a1,a2,a3,a4,⟨⟩⟩
 kernel_rfl
theorem ASn:AD (AB Tryz.f170 0) 1=[(1,AB Tryz.f170 1),(2,AB Tryz.f170 2),(3,AB Tryz.f170 3)]:=by kernel_rfl
theorem ASr:Aa Tryz.prog 1 (.loop (AB Tryz.f170 0)) (Ct.loop 0):=AT HY (ADG) (AA ASn ⟨ASq,ASp,ASo,trivial⟩)
theorem AM4:∀ v,ADH v=AL 1 Tryz.prog Ql Ct Tryz.f170 Pv Pu Pt v:=by
 rintro⟨a0,a1,a2,⟨⟩⟩
 kernel_rfl
theorem AYZ:AD (AQ Tryz.f170) 0=[(0,AB Tryz.f170 0)]:=by kernel_rfl
theorem AHf:AP Tryz.prog 170 (AF 1 4 Pv Pu Pt ADI):=AH HY Tryz.func170 (by kernel_rfl) (by kernel_rfl) rfl (fun v=>(ASs v).trans (AM4 v)) (AA AYZ ⟨ASr,trivial⟩)
def GM:Env:=Ql.CD 170 3 135 (AF 1 4 Pv Pu Pt ADI)
theorem EC:AX Tryz.prog GM:=Env.Aw HY AHf (AG rfl rfl)
abbrev Fh:Hints:={ loop:=fun n=>match n with|0=>Ab 1 90 ADY ADV ADS|1=>Ab 1 90 ADX ADU ADR|2=>Ab 1 90 ADW ADT ADQ|_=>fun _ _ _=>none,fp:=fun n=>match n with|8=>[[],[],[],[],[],[],[0],[0],[],[],[0],[0],[0],[1],[0],[1]]|3=>[[],[],[],[],[],[],[],[0],[0],[],[],[0],[0],[],[],[],[]]|5=>[[],[],[],[],[],[],[],[0],[0],[],[],[0],[0],[],[],[]]|1=>[[],[],[],[],[],[],[0],[0],[],[],[0],[0],[0],[1],[0],[1]]|_=>[] }
theorem AHk:∀ v,ADQ v=roundOf Tryz.prog GM Fh 3 1 90 (AB Tryz.f171 2) ADW ADT v:=by
 rintro⟨a0,a1,a2,a3,⟨⟩⟩
 kernel_rfl
theorem AYc:AD (AB Tryz.f171 2) 3=[]:=by kernel_rfl
theorem AYf:Aa Tryz.prog 1 (.loop (AB Tryz.f171 2)) (Fh.loop 2):=AT EC (AHk) (AA AYc trivial)
theorem AHl:∀ v,ADR v=roundOf Tryz.prog GM Fh 2 1 90 (AB Tryz.f171 1) ADX ADU v:=by
 rintro⟨a0,a1,a2,a3,⟨⟩⟩
 kernel_rfl
theorem AYd:AD (AB Tryz.f171 1) 2=[]:=by kernel_rfl
theorem AYg:Aa Tryz.prog 1 (.loop (AB Tryz.f171 1)) (Fh.loop 1):=AT EC (AHl) (AA AYd trivial)
theorem AHm:∀ v,ADS v=roundOf Tryz.prog GM Fh 1 1 90 (AB Tryz.f171 0) ADY ADV v:=by
 rintro⟨a0,a1,a2,a3,⟨⟩⟩
 kernel_rfl
theorem AYe:AD (AB Tryz.f171 0) 1=[(1,AB Tryz.f171 1),(2,AB Tryz.f171 2)]:=by kernel_rfl
theorem AYh:Aa Tryz.prog 1 (.loop (AB Tryz.f171 0)) (Fh.loop 0):=AT EC (AHm) (AA AYe ⟨AYg,AYf,trivial⟩)
theorem AS7:∀ v,AJZ v=AL 1 Tryz.prog GM Fh Tryz.f171 VH VG VF v:=by
 rintro⟨a0,a1,a2,a3,⟨⟩⟩
 kernel_rfl
theorem AfN:AD (AQ Tryz.f171) 0=[(0,AB Tryz.f171 0)]:=by kernel_rfl
theorem AM7:AP Tryz.prog 171 (AF 1 5 VH VG VF AM8):=AH EC Tryz.func171 (by kernel_rfl) (by kernel_rfl) rfl (fun v=>(AYi v).trans (AS7 v)) (AA AfN ⟨AYh,trivial⟩)
def Eu:Env:=GM.CD 171 4 135 (AF 1 5 VH VG VF AM8)
theorem C0:AX Tryz.prog Eu:=Env.Aw EC AM7 (AG rfl rfl)
abbrev E3:Hints:={ loop:=fun n=>match n with|0=>Ab 1 178 ASj ASe ASZ|1=>Ab 1 178 ASi ASd ASX|2=>Ab 1 178 ASh ASc ASV|3=>Ab 1 178 ASg ASb AST|4=>Ab 1 178 ASf ASa ASR|_=>fun _ _ _=>none,fp:=fun n=>match n with|3=>[[],[],[],[],[],[],[],[0],[0],[],[],[0],[0],[],[],[]]|5=>[[],[],[],[],[],[],[],[0],[0],[],[],[0],[0],[],[],[],[]]|18=>[[],[],[],[],[],[],[0],[0],[],[],[0],[0],[0],[1],[0],[1]]|13=>[[],[],[],[],[],[],[],[0],[0],[],[],[0],[0],[],[],[]]|15=>[[],[],[],[],[],[],[],[0],[0],[],[],[0],[0],[],[],[],[]]|21=>[[],[],[],[],[],[],[0],[0],[],[],[0],[0],[0],[1],[0],[1]]|10=>[[],[],[],[],[],[],[0],[0],[],[],[0],[0],[0],[1],[0],[1]]|8=>[[],[],[],[],[],[],[0],[0],[],[],[0],[0],[0],[1],[0],[1]]|1=>[[],[],[],[],[],[],[0],[0],[],[],[0],[0],[0],[1],[0],[1]]|_=>[] }
theorem ASQ:∀ v,ASR v=roundOf Tryz.prog Eu E3 5 1 178 (AB Tryz.f172 4) ASf ASa v:=by
 rintro⟨a0,a1,a2,a3,⟨⟩⟩
 kernel_rfl
theorem Aj8:AD (AB Tryz.f172 4) 5=[]:=by kernel_rfl
theorem AkD:Aa Tryz.prog 1 (.loop (AB Tryz.f172 4)) (E3.loop 4):=AT C0 (ASQ) (AA Aj8 trivial)
theorem ASS:∀ v,AST v=roundOf Tryz.prog Eu E3 4 1 178 (AB Tryz.f172 3) ASg ASb v:=by
 rintro⟨a0,a1,a2,a3,⟨⟩⟩
 kernel_rfl
theorem Aj9:AD (AB Tryz.f172 3) 4=[]:=by kernel_rfl
theorem AkE:Aa Tryz.prog 1 (.loop (AB Tryz.f172 3)) (E3.loop 3):=AT C0 (ASS) (AA Aj9 trivial)
theorem ASU:∀ v,ASV v=roundOf Tryz.prog Eu E3 3 1 178 (AB Tryz.f172 2) ASh ASc v:=by
 rintro⟨a0,a1,a2,a3,⟨⟩⟩
 kernel_rfl
theorem AkA:AD (AB Tryz.f172 2) 3=[(3,AB Tryz.f172 3),(4,AB Tryz.f172 4)]:=by kernel_rfl
theorem AkF:Aa Tryz.prog 1 (.loop (AB Tryz.f172 2)) (E3.loop 2):=AT C0 (ASU) (AA AkA ⟨AkE,AkD,trivial⟩)
theorem ASW:∀ v,ASX v=roundOf Tryz.prog Eu E3 2 1 178 (AB Tryz.f172 1) ASi ASd v:=by
 rintro⟨a0,a1,a2,a3,⟨⟩⟩
 kernel_rfl
theorem AkB:AD (AB Tryz.f172 1) 2=[]:=by kernel_rfl
theorem AkG:Aa Tryz.prog 1 (.loop (AB Tryz.f172 1)) (E3.loop 1):=AT C0 (ASW) (AA AkB trivial)
theorem ASY:∀ v,ASZ v=roundOf Tryz.prog Eu E3 1 1 178 (AB Tryz.f172 0) ASj ASe v:=by
 rintro⟨a0,a1,a2,a3,⟨⟩⟩
 kernel_rfl
theorem AkC:AD (AB Tryz.f172 0) 1=[]:=by kernel_rfl
theorem AkH:Aa Tryz.prog 1 (.loop (AB Tryz.f172 0)) (E3.loop 0):=AT C0 (ASY) (AA AkC trivial)
theorem AfL:∀ v,AcX v=AL 1 Tryz.prog Eu E3 Tryz.f172 AM3 AM2 AM1 v:=by
 rintro⟨a0,a1,a2,a3,⟨⟩⟩
 kernel_rfl
theorem An7:AD (AQ Tryz.f172) 0=[(0,AB Tryz.f172 0),(1,AB Tryz.f172 1),(2,AB Tryz.f172 2)]:=by kernel_rfl
theorem AYY:AP Tryz.prog 172 (AF 1 5 AM3 AM2 AM1 AkJ):=AH C0 Tryz.func172 (by kernel_rfl) (by kernel_rfl) rfl (fun v=>(AkI v).trans (AfL v)) (AA An7 ⟨AkH,AkG,AkF,trivial⟩)
def AP8:Env:=Eu.CD 172 4 135 (AF 1 5 AM3 AM2 AM1 AkJ)
theorem AGv:AX Tryz.prog AP8:=Env.Aw C0 AYY (AG rfl rfl)
abbrev AYT(self:(List (List Int)×Int×Int×Int×Unit)→Option ((List (List Int)×Unit))):Hints:={ loop:=fun n=>match n with|0=>Ab 1 148 AcT AcS (AcR self)|_=>fun _ _ _=>none,fp:=fun n=>match n with|17=>[[],[],[],[],[],[],[],[0],[0],[],[],[0],[0],[],[],[],[]]|_=>[] }
abbrev AMx(self:(List (List Int)×Int×Int×Int×Unit)→Option ((List (List Int)×Unit))):Env:=AP8.ext 148 false true (AF 1 5 AC6 AC5 AC4 self)
theorem AYS(self:(List (List Int)×Int×Int×Int×Unit)→Option ((List (List Int)×Unit))):∀ v,AcR self v=roundOf Tryz.prog (AMx self) (AYT self) 1 1 148 (AB Tryz.f148 0) AcT AcS v:=by
 rintro⟨a0,a1,a2,a3,a4,a5,⟨⟩⟩
 kernel_rfl
theorem Anx:AD (AB Tryz.f148 0) 1=[]:=by kernel_rfl
theorem Anz(self:(List (List Int)×Int×Int×Int×Unit)→Option ((List (List Int)×Unit)))(hE:AX Tryz.prog (AMx self)):Aa Tryz.prog 1 (.loop (AB Tryz.f148 0)) ((AYT self).loop 0):=AT hE (AYS self) (AA Anx trivial)
theorem Aj5(self:(List (List Int)×Int×Int×Int×Unit)→Option ((List (List Int)×Unit))):∀ v,AqB self v=AL 1 Tryz.prog (AMx self) (AYT self) Tryz.f148 AC6 AC5 AC4 v:=by
 rintro⟨a0,a1,a2,a3,⟨⟩⟩
 kernel_rfl
theorem AqA:AD (AQ Tryz.f148) 0=[(0,AB Tryz.f148 0)]:=by kernel_rfl
theorem AYU:∀ n,AP Tryz.prog 148 (AF 1 5 AC6 AC5 AC4 (AC7 n)):=by
 intro n
 induction n with
 |zero=>exact YV fun _=>rfl
 |succ n ih=>
  have hE:AX Tryz.prog (AMx (AC7 n)):=Env.AZ AGv ih ((by simp)) (fun _=>AG rfl rfl)
  let self:=AC7 n
  exact AH hE Tryz.func148 (by kernel_rfl) (by kernel_rfl) rfl (Aj5 self) (AA AqA ⟨(Anz self hE),trivial⟩)
theorem AfJ:AP Tryz.prog 148 (AF 1 5 AC6 AC5 AC4 An1):=by
 have e:An1=AC7 100:=funext An0
 rw[e]
 exact AYU _
def Abp:Env:=AP8.CD 148 4 135 (AF 1 5 AC6 AC5 AC4 An1)
theorem AKw:AX Tryz.prog Abp:=Env.Aw AGv AfJ (AG rfl rfl)
abbrev AnX:Hints:={  }
theorem AeM:∀ v,Ab9 v=AL 1 Tryz.prog Abp AnX Tryz.f134 AL5 AL4 AL3 v:=by
 rintro⟨a0,⟨⟩⟩
 kernel_rfl
theorem AnW:AD (AQ Tryz.f134) 0=[]:=by kernel_rfl
theorem AXF:AP Tryz.prog 134 (AF 1 2 AL5 AL4 AL3 ARB):=AH AKw Tryz.func134 (by kernel_rfl) (by kernel_rfl) rfl (fun v=>(Aiw v).trans (AeM v)) (AA AnW trivial)
def S1:Env:=Abp.CD 134 1 135 (AF 1 2 AL5 AL4 AL3 ARB)
theorem Lj:AX Tryz.prog S1:=Env.Aw AKw AXF (AG rfl rfl)
abbrev Qy:Hints:={ loop:=fun n=>match n with|0=>Ab 0 47 AQc AQa Hb|1=>Ab 0 47 AQb AQZ Ha|_=>fun _ _ _=>none }
theorem AQX:∀ v,Ha v=roundOf Tryz.prog S1 Qy 2 0 47 (AB Tryz.f109 1) AQb AQZ v:=by
 rintro⟨a0,a1,a2,a3,a4,a5,a6,⟨⟩⟩
 kernel_rfl
theorem AiE:AD (AB Tryz.f109 1) 2=[]:=by kernel_rfl
theorem AiG:Aa Tryz.prog 0 (.loop (AB Tryz.f109 1)) (Qy.loop 1):=AT Lj (AQX) (AA AiE trivial)
theorem AQY:∀ v,Hb v=roundOf Tryz.prog S1 Qy 1 0 47 (AB Tryz.f109 0) AQc AQa v:=by
 rintro⟨a0,a1,a2,a3,a4,a5,a6,a7,a8,⟨⟩⟩
 kernel_rfl
theorem AiF:AD (AB Tryz.f109 0) 1=[]:=by kernel_rfl
theorem AiH:Aa Tryz.prog 0 (.loop (AB Tryz.f109 0)) (Qy.loop 0):=AT Lj (AQY) (AA AiF trivial)
theorem Adp:∀ v,Zv v=AL 0 Tryz.prog S1 Qy Tryz.f109 ALO ALN ALM v:=by
 rintro⟨a0,a1,a2,⟨⟩⟩
 kernel_rfl
theorem AnB:AD (AQ Tryz.f109) 0=[(0,AB Tryz.f109 0),(1,AB Tryz.f109 1)]:=by kernel_rfl
theorem AWY:AP Tryz.prog 109 (AF 0 3 ALO ALN ALM AQe):=AH Lj Tryz.func109 (by kernel_rfl) (by kernel_rfl) rfl (fun v=>(AQd v).trans (Adp v)) (AA AnB ⟨AiH,AiG,trivial⟩)
def AP2:Env:=S1.ext 109 true true (AF 0 3 ALO ALN ALM AQe)
theorem AGh:AX Tryz.prog AP2:=Env.AZ Lj AWY (fun _=>AI rfl rfl) (fun _=>AG rfl rfl)
end
end Go.Pev
end
section
namespace Go.Pev
open Go.Proofs
noncomputable section
abbrev AnL:Hints:={ fp:=fun n=>match n with|9=>[[],[28],[0],[0],[],[],[],[],[],[0],[0],[],[],[],[],[],[28],[28,52,36,62],[64],[]]|4=>[[0],[],[],[0],[],[],[],[]]|_=>[] }
theorem Ad3:∀ v,Q4 v=AL 0 Tryz.prog AP2 AnL Tryz.f87 ALj ALi ALh v:=by
 rintro⟨a0,a1,a2,⟨⟩⟩
 kernel_rfl
theorem AnK:AD (AQ Tryz.f87) 0=[]:=by kernel_rfl
theorem AWl:AP Tryz.prog 87 (AF 0 3 ALj ALi ALh AA9):=AH AGh Tryz.func87 (by kernel_rfl) (by kernel_rfl) rfl (fun v=>(AA8 v).trans (Ad3 v)) (AA AnK trivial)
def AP3:Env:=AP2.ext 87 true true (AF 0 3 ALj ALi ALh AA9)
theorem AGl:AX Tryz.prog AP3:=Env.AZ AGh AWl (fun _=>AI rfl rfl) (fun _=>AG rfl rfl)
theorem Ain:Tryz.f125.body.isSome=true:=by kernel_rfl
theorem Aim : (Tryz.f125.name == "runtime.NumGoroutine") = false := by kernel_rfl
theorem Ail:loops (AQ Tryz.f125)=0:=by kernel_rfl
def Lh:Env:=AP3.ext 125 false false (Cj Tryz.prog AP3 {} Tryz.f125)
theorem JZ:AX Tryz.prog Lh:=Env.AZ AGl (CV AGl Tryz.func125 Ain Aim Ail) (by simp) (by simp)
abbrev F4:Hints:={ loop:=fun n=>match n with|0=>Ab 1 19 Il Ik Bg|_=>fun _ _ _=>none }
theorem My:∀ v,Bg v=roundOf Tryz.prog Lh F4 1 1 19 (AB Tryz.f56 0) Il Ik v:=by
 rintro⟨a0,a1,a2,a3,a4,⟨⟩⟩
 kernel_rfl
theorem Rs:AD (AB Tryz.f56 0) 1=[]:=by kernel_rfl
theorem Ru:Aa Tryz.prog 1 (.loop (AB Tryz.f56 0)) (F4.loop 0):=AT JZ (My) (AA Rs trivial)
theorem QE:∀ v,Dr v=AL 1 Tryz.prog Lh F4 Tryz.f56 Fz Fy Fx v:=by
 rintro⟨a0,a1,a2,⟨⟩⟩
 kernel_rfl
theorem WI:AD (AQ Tryz.f56) 0=[(0,AB Tryz.f56 0)]:=by kernel_rfl
theorem Om:AP Tryz.prog 56 (AF 1 2 Fz Fy Fx E8):=AH JZ Tryz.func56 (by kernel_rfl) (by kernel_rfl) rfl (fun v=>(Im v).trans (QE v)) (AA WI ⟨Ru,trivial⟩)
def GP:Env:=Lh.CD 56 1 125 (AF 1 2 Fz Fy Fx E8)
theorem HB:AX Tryz.prog GP:=Env.Aw JZ Om (AG rfl rfl)
abbrev SS:Hints:={  }
theorem On:∀ v,DE v=AL 1 Tryz.prog GP SS Tryz.f29 FJ FI FH v:=by
 rintro⟨a0,a1,a2,⟨⟩⟩
 kernel_rfl
theorem SR:AD (AQ Tryz.f29) 0=[]:=by kernel_rfl
theorem ND:AP Tryz.prog 29 (AF 1 2 FJ FI FH C2):=AH HB Tryz.func29 (by kernel_rfl) (by kernel_rfl) rfl (fun v=>(H7 v).trans (On v)) (AA SR trivial)
def FO:Env:=GP.CD 29 1 125 (AF 1 2 FJ FI FH C2)
theorem Gx:AX Tryz.prog FO:=Env.Aw HB ND (AG rfl rfl)
abbrev Alk:Hints:={  }
theorem AaB:∀ v,R2 v=AL 0 Tryz.prog FO Alk Tryz.f102 AEd AEc AEb v:=by
 rintro⟨a0,a1,⟨⟩⟩
 kernel_rfl
theorem Alj:AD (AQ Tryz.f102) 0=[]:=by kernel_rfl
theorem AUP:AP Tryz.prog 102 (AF 0 2 AEd AEc AEb WS):=AH Gx Tryz.func102 (by kernel_rfl) (by kernel_rfl) rfl (fun v=>(AJ3 v).trans (AaB v)) (AA Alj trivial)
def TN:Env:=FO.ext 102 true true (AF 0 2 AEd AEc AEb WS)
theorem Nj:AX Tryz.prog TN:=Env.AZ Gx AUP (fun _=>AI rfl rfl) (fun _=>AG rfl rfl)
abbrev AaV:Hints:={ loop:=fun n=>match n with|0=>Ab 0 21 AdI AdH LP|_=>fun _ _ _=>none }
theorem AaR:∀ v,LP v=roundOf Tryz.prog TN AaV 1 0 21 (AB Tryz.f103 0) AdI AdH v:=by
 rintro⟨a0,a1,a2,a3,⟨⟩⟩
 kernel_rfl
theorem Aoy:AD (AB Tryz.f103 0) 1=[]:=by kernel_rfl
theorem Aoz:Aa Tryz.prog 0 (.loop (AB Tryz.f103 0)) (AaV.loop 0):=AT Nj (AaR) (AA Aoy trivial)
theorem Al4:∀ v,AOa v=AL 0 Tryz.prog TN AaV Tryz.f103 AaU AaT AaS v:=by
 rintro⟨a0,⟨⟩⟩
 kernel_rfl
theorem AqX:AD (AQ Tryz.f103) 0=[(0,AB Tryz.f103 0)]:=by kernel_rfl
theorem Agw:AP Tryz.prog 103 (AF 0 1 AaU AaT AaS ends):=AH Nj Tryz.func103 (by kernel_rfl) (by kernel_rfl) rfl (fun v=>(AdJ v).trans (Al4 v)) (AA AqX ⟨Aoz,trivial⟩)
def AQE:Env:=TN.ext 103 true true (AF 0 1 AaU AaT AaS ends)
theorem Xh:AX Tryz.prog AQE:=Env.AZ Nj Agw (fun _=>AI rfl rfl) (fun _=>AG rfl rfl)
abbrev QS:Hints:={ loop:=fun n=>match n with|0=>Ab 0 48 Yn Ym DX|_=>fun _ _ _=>none,fp:=fun n=>match n with|1=>[[0],[],[],[4],[]]|_=>[] }
theorem AFA:∀ v,DX v=roundOf Tryz.prog AQE QS 1 0 48 (AB Tryz.f86 0) Yn Ym v:=by
 rintro⟨a0,a1,a2,a3,a4,a5,a6,⟨⟩⟩
 kernel_rfl
theorem AUo:AD (AB Tryz.f86 0) 1=[]:=by kernel_rfl
theorem AUp:Aa Tryz.prog 0 (.loop (AB Tryz.f86 0)) (QS.loop 0):=AT Xh (AFA) (AA AUo trivial)
theorem AOc:∀ v,LR v=AL 0 Tryz.prog AQE QS Tryz.f86 QR QQ QP v:=by
 rintro⟨a0,a1,⟨⟩⟩
 kernel_rfl
theorem AaY:AD (AQ Tryz.f86) 0=[(0,AB Tryz.f86 0)]:=by kernel_rfl
theorem AH9:AP Tryz.prog 86 (AF 0 3 QR QQ QP SC):=AH Xh Tryz.func86 (by kernel_rfl) (by kernel_rfl) rfl (fun v=>(Yo v).trans (AOc v)) (AA AaY ⟨AUp,trivial⟩)
def Qq:Env:=AQE.CD 86 2 87 (AF 0 3 QR QQ QP SC)
theorem PM:AX Tryz.prog Qq:=Env.Aw Xh AH9 (AG rfl rfl)
abbrev Alx:Hints:={  }
theorem AaJ:∀ v,R5 v=AL 0 Tryz.prog Qq Alx Tryz.f75 AEq AEp AEo v:=by
 rintro⟨a0,a1,⟨⟩⟩
 kernel_rfl
theorem Alw:AD (AQ Tryz.f75) 0=[]:=by kernel_rfl
theorem AUW:AP Tryz.prog 75 (AF 0 2 AEq AEp AEo AOO):=AH PM Tryz.func75 (by kernel_rfl) (by kernel_rfl) rfl (fun v=>(AKA v).trans (AaJ v)) (AA Alw trivial)
def AG3:Env:=Qq.ext 75 true true (AF 0 2 AEq AEp AEo AOO)
theorem ZF:AX Tryz.prog AG3:=Env.AZ PM AUW (fun _=>AI rfl rfl) (fun _=>AG rfl rfl)
abbrev Aqu:Hints:={  }
theorem Aov:∀ v,AdF v=AL 0 Tryz.prog AG3 Aqu Tryz.f49 Alu Als Alr v:=by
 rintro⟨a0,a1,⟨⟩⟩
 kernel_rfl
theorem Aqt:AD (AQ Tryz.f49) 0=[]:=by kernel_rfl
theorem Alq:AP Tryz.prog 49 (AF 0 2 Alu Als Alr fof):=AH ZF Tryz.func49 (by kernel_rfl) (by kernel_rfl) rfl (fun v=>(Alv v).trans (Aov v)) (AA Aqt trivial)
def AdX:Env:=AG3.ext 49 true true (AF 0 2 Alu Als Alr fof)
theorem AG2:AX Tryz.prog AdX:=Env.AZ ZF Alq (fun _=>AI rfl rfl) (fun _=>AG rfl rfl)
abbrev Aki:Hints:={ loop:=fun n=>match n with|0=>Ab 0 18 Akg Ake Fj|_=>fun _ _ _=>none }
theorem AfV:∀ v,Fj v=roundOf Tryz.prog AdX Aki 1 0 18 (AB Tryz.f72 0) Akg Ake v:=by
 rintro⟨a0,a1,a2,a3,⟨⟩⟩
 kernel_rfl
theorem AqE:AD (AB Tryz.f72 0) 1=[]:=by kernel_rfl
theorem AqF:Aa Tryz.prog 0 (.loop (AB Tryz.f72 0)) (Aki.loop 0):=AT AG2 (AfV) (AA AqE trivial)
theorem AoB:∀ v,AJg v=AL 0 Tryz.prog AdX Aki Tryz.f72 Akh Akf Akd v:=by
 rintro⟨a0,⟨⟩⟩
 kernel_rfl
theorem Aqr:AD (AQ Tryz.f72) 0=[(0,AB Tryz.f72 0)]:=by kernel_rfl
theorem Akc:AP Tryz.prog 72 (AF 0 1 Akh Akf Akd orI):=AH AG2 Tryz.func72 (by kernel_rfl) (by kernel_rfl) rfl (fun v=>(ANJ v).trans (AoB v)) (AA Aqr ⟨AqF,trivial⟩)
def Am2:Env:=AdX.ext 72 true true (AF 0 1 Akh Akf Akd orI)
theorem AWJ:AX Tryz.prog Am2:=Env.AZ AG2 Akc (fun _=>AI rfl rfl) (fun _=>AG rfl rfl)
abbrev Aky:Hints:={  }
theorem AZS:∀ v,Mu v=AL 0 Tryz.prog Am2 Aky Tryz.f45 AD4 AD3 AD2 v:=by
 rintro⟨a0,⟨⟩⟩
 kernel_rfl
theorem Akx:AD (AQ Tryz.f45) 0=[]:=by kernel_rfl
theorem ATm:AP Tryz.prog 45 (AF 0 1 AD4 AD3 AD2 Vx):=AH AWJ Tryz.func45 (by kernel_rfl) (by kernel_rfl) rfl (fun v=>(Vw v).trans (AZS v)) (AA Akx trivial)
def AGy:Env:=Am2.ext 45 true true (AF 0 1 AD4 AD3 AD2 Vx)
theorem ZC:AX Tryz.prog AGy:=Env.AZ AWJ ATm (fun _=>AI rfl rfl) (fun _=>AG rfl rfl)
abbrev AqM:Hints:={  }
theorem Akw:∀ v,AZR v=AL 0 Tryz.prog AGy AqM Tryz.f46 AZQ AZP AZO v:=by
 rintro⟨a0,⟨⟩⟩
 kernel_rfl
theorem AqL:AD (AQ Tryz.f46) 0=[]:=by kernel_rfl
theorem Af0:AP Tryz.prog 46 (AF 0 1 AZQ AZP AZO ANi):=AH ZC Tryz.func46 (by kernel_rfl) (by kernel_rfl) rfl (fun v=>(AoK v).trans (Akw v)) (AA AqL trivial)
def Abu:Env:=AGy.ext 46 true true (AF 0 1 AZQ AZP AZO ANi)
theorem AK1:AX Tryz.prog Abu:=Env.AZ ZC Af0 (fun _=>AI rfl rfl) (fun _=>AG rfl rfl)
end
end Go.Pev
end
section
namespace Go.Pev
open Go.Proofs
noncomputable section
abbrev AZa:Hints:={ fp:=fun n=>match n with|1=>[[0],[0],[2],[2],[],[0],[0],[2],[2],[],[],[20],[]]|_=>[] }
theorem ANq:∀ v,Ku v=AL 0 Tryz.prog Abu AZa Tryz.f47 P7 P6 P5 v:=by
 rintro⟨a0,a1,⟨⟩⟩
 kernel_rfl
theorem AZZ:AD (AQ Tryz.f47) 0=[]:=by kernel_rfl
theorem AHv:AP Tryz.prog 47 (AF 0 2 P7 P6 P5 J0):=AH AK1 Tryz.func47 (by kernel_rfl) (by kernel_rfl) rfl (fun v=>(YX v).trans (ANq v)) (AA AZZ trivial)
def Ls:Env:=Abu.ext 47 true true (AF 0 2 P7 P6 P5 J0)
theorem Jb:AX Tryz.prog Ls:=Env.AZ AK1 AHv (fun _=>AI rfl rfl) (fun _=>AG rfl rfl)
abbrev AD0:Hints:={ loop:=fun n=>match n with|0=>Ab 0 33 AJn AJm Fl|_=>fun _ _ _=>none }
theorem ANh:∀ v,Fl v=roundOf Tryz.prog Ls AD0 1 0 33 (AB Tryz.f48 0) AJn AJm v:=by
 rintro⟨a0,a1,a2,a3,a4,⟨⟩⟩
 kernel_rfl
theorem Afy:AD (AB Tryz.f48 0) 1=[]:=by kernel_rfl
theorem Afz:Aa Tryz.prog 0 (.loop (AB Tryz.f48 0)) (AD0.loop 0):=AT Jb (ANh) (AA Afy trivial)
theorem AZN:∀ v,Ri v=AL 0 Tryz.prog Ls AD0 Tryz.f48 ADz ADy ADx v:=by
 rintro⟨a0,a1,⟨⟩⟩
 kernel_rfl
theorem Akv:AD (AQ Tryz.f48) 0=[(0,AB Tryz.f48 0)]:=by kernel_rfl
theorem ATk:AP Tryz.prog 48 (AF 0 2 ADz ADy ADx AD1):=AH Jb Tryz.func48 (by kernel_rfl) (by kernel_rfl) rfl (fun v=>(AJo v).trans (AZN v)) (AA Akv ⟨Afz,trivial⟩)
def TK:Env:=Ls.ext 48 true true (AF 0 2 ADz ADy ADx AD1)
theorem Nh:AX Tryz.prog TK:=Env.AZ Jb ATk (fun _=>AI rfl rfl) (fun _=>AG rfl rfl)
abbrev AD8:Hints:={ loop:=fun n=>match n with|0=>Ab 0 96 AJq AJp Dl|_=>fun _ _ _=>none,fp:=fun n=>match n with|7=>[[2],[2],[],[],[2],[2],[2],[2],[],[],[],[2],[2],[0],[0],[],[],[],[2],[2],[],[],[],[2],[2],[],[],[],[],[],[],[],[0],[0],[],[],[],[],[2],[],[],[],[]]|_=>[] }
theorem ANj:∀ v,Dl v=roundOf Tryz.prog TK AD8 1 0 96 (AB Tryz.f27 0) AJq AJp v:=by
 rintro⟨a0,a1,a2,a3,a4,a5,⟨⟩⟩
 kernel_rfl
theorem Af1:AD (AB Tryz.f27 0) 1=[]:=by kernel_rfl
theorem Af2:Aa Tryz.prog 0 (.loop (AB Tryz.f27 0)) (AD8.loop 0):=AT Nh (ANj) (AA Af1 trivial)
theorem AZT:∀ v,Hr v=AL 0 Tryz.prog TK AD8 Tryz.f27 AD7 AD6 AD5 v:=by
 rintro⟨a0,⟨⟩⟩
 kernel_rfl
theorem Akz:AD (AQ Tryz.f27) 0=[(0,AB Tryz.f27 0)]:=by kernel_rfl
theorem ATn:AP Tryz.prog 27 (AF 0 1 AD7 AD6 AD5 Fm):=AH Nh Tryz.func27 (by kernel_rfl) (by kernel_rfl) rfl (fun v=>(Jz v).trans (AZT v)) (AA Akz ⟨Af2,trivial⟩)
def TL:Env:=TK.ext 27 true true (AF 0 1 AD7 AD6 AD5 Fm)
theorem Ni:AX Tryz.prog TL:=Env.AZ Nh ATn (fun _=>AI rfl rfl) (fun _=>AG rfl rfl)
abbrev AEF:Hints:={ loop:=fun n=>match n with|0=>Ab 0 26 AJs AJr Fp|_=>fun _ _ _=>none }
theorem ANo:∀ v,Fp v=roundOf Tryz.prog TL AEF 1 0 26 (AB Tryz.f61 0) AJs AJr v:=by
 rintro⟨a0,a1,a2,a3,⟨⟩⟩
 kernel_rfl
theorem AgA:AD (AB Tryz.f61 0) 1=[]:=by kernel_rfl
theorem AgB:Aa Tryz.prog 0 (.loop (AB Tryz.f61 0)) (AEF.loop 0):=AT Ni (ANo) (AA AgA trivial)
theorem AZY:∀ v,Rj v=AL 0 Tryz.prog TL AEF Tryz.f61 AEE AED AEC v:=by
 rintro⟨a0,⟨⟩⟩
 kernel_rfl
theorem Ak2:AD (AQ Tryz.f61) 0=[(0,AB Tryz.f61 0)]:=by kernel_rfl
theorem ATs:AP Tryz.prog 61 (AF 0 1 AEE AED AEC WB):=AH Ni Tryz.func61 (by kernel_rfl) (by kernel_rfl) rfl (fun v=>(AJt v).trans (AZY v)) (AA Ak2 ⟨AgB,trivial⟩)
def KO:Env:=TL.ext 61 true true (AF 0 1 AEE AED AEC WB)
theorem Gw:AX Tryz.prog KO:=Env.AZ Ni ATs (fun _=>AI rfl rfl) (fun _=>AG rfl rfl)
abbrev Db:Hints:={ loop:=fun n=>match n with|0=>Ab 0 83 Sa SX Cz|1=>Ab 0 83 SZ SW Ds|2=>Ab 0 83 SY SV Cy|_=>fun _ _ _=>none,fp:=fun n=>match n with|14=>[[],[],[0],[0],[],[],[0],[0],[],[]]|13=>[[],[],[],[],[],[],[],[],[],[],[],[],[],[],[],[],[],[],[],[0],[0],[],[],[0],[0],[],[]]|12=>[[],[],[],[],[],[],[],[],[],[],[],[]]|_=>[] }
theorem Zj:∀ v,Cy v=roundOf Tryz.prog KO Db 3 0 83 (AB Tryz.f39 2) SY SV v:=by
 rintro⟨a0,a1,a2,a3,a4,⟨⟩⟩
 kernel_rfl
theorem APF:AD (AB Tryz.f39 2) 3=[]:=by kernel_rfl
theorem API:Aa Tryz.prog 0 (.loop (AB Tryz.f39 2)) (Db.loop 2):=AT Gw (Zj) (AA APF trivial)
theorem Zk:∀ v,Ds v=roundOf Tryz.prog KO Db 2 0 83 (AB Tryz.f39 1) SZ SW v:=by
 rintro⟨a0,a1,a2,a3,⟨⟩⟩
 kernel_rfl
theorem APG:AD (AB Tryz.f39 1) 2=[(2,AB Tryz.f39 2)]:=by kernel_rfl
theorem APJ:Aa Tryz.prog 0 (.loop (AB Tryz.f39 1)) (Db.loop 1):=AT Gw (Zk) (AA APG ⟨API,trivial⟩)
theorem Zl:∀ v,Cz v=roundOf Tryz.prog KO Db 1 0 83 (AB Tryz.f39 0) Sa SX v:=by
 rintro⟨a0,a1,a2,a3,⟨⟩⟩
 kernel_rfl
theorem APH:AD (AB Tryz.f39 0) 1=[]:=by kernel_rfl
theorem APK:Aa Tryz.prog 0 (.loop (AB Tryz.f39 0)) (Db.loop 0):=AT Gw (Zl) (AA APH trivial)
theorem AIV:∀ v,Ix v=AL 0 Tryz.prog KO Db Tryz.f39 NO NN NM v:=by
 rintro⟨a0,a1,⟨⟩⟩
 kernel_rfl
theorem AVN:AD (AQ Tryz.f39) 0=[(0,AB Tryz.f39 0),(1,AB Tryz.f39 1)]:=by kernel_rfl
theorem AFu:AP Tryz.prog 39 (AF 0 2 NO NN NM HW):=AH Gw Tryz.func39 (by kernel_rfl) (by kernel_rfl) rfl (fun v=>(Sb v).trans (AIV v)) (AA AVN ⟨APK,APJ,trivial⟩)
def JC:Env:=KO.ext 39 true true (AF 0 2 NO NN NM HW)
theorem IP:AX Tryz.prog JC:=Env.AZ Gw AFu (fun _=>AI rfl rfl) (fun _=>AG rfl rfl)
abbrev ALa:Hints:={ loop:=fun n=>match n with|0=>Ab 0 20 AQp AQo AA7|_=>fun _ _ _=>none }
theorem AQn:∀ v,AA7 v=roundOf Tryz.prog JC ALa 1 0 20 (AB Tryz.f38 0) AQp AQo v:=by
 rintro⟨a0,a1,⟨⟩⟩
 kernel_rfl
theorem AiV:AD (AB Tryz.f38 0) 1=[]:=by kernel_rfl
theorem AiW:Aa Tryz.prog 0 (.loop (AB Tryz.f38 0)) (ALa.loop 0):=AT IP (AQn) (AA AiV trivial)
theorem Ad0:∀ v,ALb v=AL 0 Tryz.prog JC ALa Tryz.f38 ALZ ALY ALX v:=by
 rintro⟨a0,⟨⟩⟩
 kernel_rfl
theorem AnH:AD (AQ Tryz.f38) 0=[(0,AB Tryz.f38 0)]:=by kernel_rfl
theorem AWh:AP Tryz.prog 38 (AF 0 1 ALZ ALY ALX Ot):=AH IP Tryz.func38 (by kernel_rfl) (by kernel_rfl) rfl (fun v=>(AiX v).trans (Ad0 v)) (AA AnH ⟨AiW,trivial⟩)
def Ss:Env:=JC.ext 38 true true (AF 0 1 ALZ ALY ALX Ot)
theorem Lf:AX Tryz.prog Ss:=Env.AZ IP AWh (fun _=>AI rfl rfl) (fun _=>AG rfl rfl)
abbrev Jp:Hints:={ loop:=fun n=>match n with|0=>Ab 0 138 ACN ACK Cs|1=>Ab 0 138 ACL ACJ DP|_=>fun _ _ _=>none,fp:=fun n=>match n with|10=>[[],[],[],[0],[0],[],[],[],[],[],[4],[4],[],[],[0],[0],[],[],[],[],[],[4],[4],[],[],[0],[0],[],[],[],[],[],[4],[4],[],[],[],[]]|8=>[[4],[4],[],[],[4],[4],[4],[4],[],[],[],[4],[4],[0],[0],[],[],[],[4],[4],[],[],[],[4],[4],[0],[0],[],[],[]]|_=>[] }
theorem AHX:∀ v,DP v=roundOf Tryz.prog Ss Jp 2 0 138 (AB Tryz.f21 1) ACL ACJ v:=by
 rintro⟨a0,a1,a2,a3,a4,a5,⟨⟩⟩
 kernel_rfl
theorem AXf:AD (AB Tryz.f21 1) 2=[]:=by kernel_rfl
theorem AXh:Aa Tryz.prog 0 (.loop (AB Tryz.f21 1)) (Jp.loop 1):=AT Lf (AHX) (AA AXf trivial)
theorem AHY:∀ v,Cs v=roundOf Tryz.prog Ss Jp 1 0 138 (AB Tryz.f21 0) ACN ACK v:=by
 rintro⟨a0,a1,a2,a3,⟨⟩⟩
 kernel_rfl
theorem AXg:AD (AB Tryz.f21 0) 1=[]:=by kernel_rfl
theorem AXi:Aa Tryz.prog 0 (.loop (AB Tryz.f21 0)) (Jp.loop 0):=AT Lf (AHY) (AA AXg trivial)
theorem ARz:∀ v,Ej v=AL 0 Tryz.prog Ss Jp Tryz.f21 UW UU UT v:=by
 rintro⟨a0,⟨⟩⟩
 kernel_rfl
theorem Aes:AD (AQ Tryz.f21) 0=[(0,AB Tryz.f21 0),(1,AB Tryz.f21 1)]:=by kernel_rfl
theorem AMc:AP Tryz.prog 21 (AF 0 1 UW UU UT Dh):=AH Lf Tryz.func21 (by kernel_rfl) (by kernel_rfl) rfl (fun v=>(Fc v).trans (ARz v)) (AA Aes ⟨AXi,AXh,trivial⟩)
def Od:Env:=Ss.ext 21 true true (AF 0 1 UW UU UT Dh)
theorem Lq:AX Tryz.prog Od:=Env.AZ Lf AMc (fun _=>AI rfl rfl) (fun _=>AG rfl rfl)
abbrev Wb:Hints:={ loop:=fun n=>match n with|0=>Ab 0 32 AE8 AE7 EW|_=>fun _ _ _=>none,fp:=fun n=>match n with|7=>[[],[0],[0],[],[],[],[],[0],[0],[],[],[],[],[],[],[3,4],[]]|_=>[] }
theorem AH8:∀ v,EW v=roundOf Tryz.prog Od Wb 1 0 32 (AB Tryz.f42 0) AE8 AE7 v:=by
 rintro⟨a0,a1,a2,a3,⟨⟩⟩
 kernel_rfl
theorem AaW:AD (AB Tryz.f42 0) 1=[]:=by kernel_rfl
theorem AaX:Aa Tryz.prog 0 (.loop (AB Tryz.f42 0)) (Wb.loop 0):=AT Lq (AH8) (AA AaW trivial)
theorem AUn:∀ v,OJ v=AL 0 Tryz.prog Od Wb Tryz.f42 Wa WZ WY v:=by
 rintro⟨a0,⟨⟩⟩
 kernel_rfl
theorem Agy:AD (AQ Tryz.f42) 0=[(0,AB Tryz.f42 0)]:=by kernel_rfl
theorem AOb:AP Tryz.prog 42 (AF 0 1 Wa WZ WY SB):=AH Lq Tryz.func42 (by kernel_rfl) (by kernel_rfl) rfl (fun v=>(AE9 v).trans (AUn v)) (AA Agy ⟨AaX,trivial⟩)
def Og:Env:=Od.ext 42 true true (AF 0 1 Wa WZ WY SB)
theorem Ly:AX Tryz.prog Og:=Env.AZ Lq AOb (fun _=>AI rfl rfl) (fun _=>AG rfl rfl)
abbrev ABo:Hints:={ loop:=fun n=>match n with|0=>Ab 0 26 AJC AJB Fa|_=>fun _ _ _=>none,fp:=fun n=>match n with|6=>[[],[],[],[],[],[],[],[],[]]|_=>[] }
theorem AMQ:∀ v,Fa v=roundOf Tryz.prog Og ABo 1 0 26 (AB Tryz.f26 0) AJC AJB v:=by
 rintro⟨a0,a1,a2,⟨⟩⟩
 kernel_rfl
theorem Aec:AD (AB Tryz.f26 0) 1=[]:=by kernel_rfl
theorem Aed:Aa Tryz.prog 0 (.loop (AB Tryz.f26 0)) (ABo.loop 0):=AT Ly (AMQ) (AA Aec trivial)
theorem AXO:∀ v,RI v=AL 0 Tryz.prog Og ABo Tryz.f26 ABn ABm ABl v:=by
 rintro⟨a0,a1,⟨⟩⟩
 kernel_rfl
theorem AjB:AD (AQ Tryz.f26) 0=[(0,AB Tryz.f26 0)]:=by kernel_rfl
theorem ARU:AP Tryz.prog 26 (AF 0 2 ABn ABm ABl UH):=AH Ly Tryz.func26 (by kernel_rfl) (by kernel_rfl) rfl (fun v=>(AJD v).trans (AXO v)) (AA AjB ⟨Aed,trivial⟩)
def S6:Env:=Og.ext 26 true true (AF 0 2 ABn ABm ABl UH)
theorem Na:AX Tryz.prog S6:=Env.AZ Ly ARU (fun _=>AI rfl rfl) (fun _=>AG rfl rfl)
abbrev AOC:Hints:={ loop:=fun n=>match n with|0=>Ab 0 18 AUJ AUI Hz|_=>fun _ _ _=>none,fp:=fun n=>match n with|4=>[[],[],[],[],[0],[]]|_=>[] }
theorem AUH:∀ v,Hz v=roundOf Tryz.prog S6 AOC 1 0 18 (AB Tryz.f44 0) AUJ AUI v:=by
 rintro⟨a0,a1,a2,a3,⟨⟩⟩
 kernel_rfl
theorem AlY:AD (AB Tryz.f44 0) 1=[]:=by kernel_rfl
theorem AlZ:Aa Tryz.prog 0 (.loop (AB Tryz.f44 0)) (AOC.loop 0):=AT Na (AUH) (AA AlY trivial)
theorem AgR:∀ v,AAC v=AL 0 Tryz.prog S6 AOC Tryz.f44 AOB AOA AN9 v:=by
 rintro⟨a0,a1,⟨⟩⟩
 kernel_rfl
theorem Aog:AD (AQ Tryz.f44) 0=[(0,AB Tryz.f44 0)]:=by kernel_rfl
theorem AZs:AP Tryz.prog 44 (AF 0 2 AOB AOA AN9 AEX):=AH Na Tryz.func44 (by kernel_rfl) (by kernel_rfl) rfl (fun v=>(AUK v).trans (AgR v)) (AA Aog ⟨AlZ,trivial⟩)
def AAX:Env:=S6.ext 44 true true (AF 0 2 AOB AOA AN9 AEX)
theorem Qp:AX Tryz.prog AAX:=Env.AZ Na AZs (fun _=>AI rfl rfl) (fun _=>AG rfl rfl)
abbrev XF:Hints:={ loop:=fun n=>match n with|0=>Ab 0 49 AGO AGN Ef|_=>fun _ _ _=>none,fp:=fun n=>match n with|6=>[[],[],[],[],[],[],[],[],[],[],[],[],[0],[0],[],[],[],[],[],[],[],[],[],[],[],[],[],[],[],[],[0],[0],[],[]]|_=>[] }
theorem AIb:∀ v,Ef v=roundOf Tryz.prog AAX XF 1 0 49 (AB Tryz.f41 0) AGO AGN v:=by
 rintro⟨a0,a1,a2,a3,⟨⟩⟩
 kernel_rfl
theorem Abc:AD (AB Tryz.f41 0) 1=[]:=by kernel_rfl
theorem Abd:Aa Tryz.prog 0 (.loop (AB Tryz.f41 0)) (XF.loop 0):=AT Qp (AIb) (AA Abc trivial)
theorem AVz:∀ v,OU v=AL 0 Tryz.prog AAX XF Tryz.f41 XE XD XC v:=by
 rintro⟨a0,a1,⟨⟩⟩
 kernel_rfl
theorem Ahy:AD (AQ Tryz.f41) 0=[(0,AB Tryz.f41 0)]:=by kernel_rfl
theorem APi:AP Tryz.prog 41 (AF 0 2 XE XD XC Si):=AH Qp Tryz.func41 (by kernel_rfl) (by kernel_rfl) rfl (fun v=>(AGP v).trans (AVz v)) (AA Ahy ⟨Abd,trivial⟩)
def KT:Env:=AAX.ext 41 true true (AF 0 2 XE XD XC Si)
theorem HP:AX Tryz.prog KT:=Env.AZ Qp APi (fun _=>AI rfl rfl) (fun _=>AG rfl rfl)
abbrev Jr:Hints:={ loop:=fun n=>match n with|0=>Ab 0 39 ACr ACp EU|1=>Ab 0 39 ACq ACo DQ|_=>fun _ _ _=>none }
theorem AHb:∀ v,DQ v=roundOf Tryz.prog KT Jr 2 0 39 (AB Tryz.f43 1) ACq ACo v:=by
 rintro⟨a0,a1,a2,a3,a4,⟨⟩⟩
 kernel_rfl
theorem AYC:AD (AB Tryz.f43 1) 2=[]:=by kernel_rfl
theorem AYE:Aa Tryz.prog 0 (.loop (AB Tryz.f43 1)) (Jr.loop 1):=AT HP (AHb) (AA AYC trivial)
theorem AHc:∀ v,EU v=roundOf Tryz.prog KT Jr 1 0 39 (AB Tryz.f43 0) ACr ACp v:=by
 rintro⟨a0,a1,a2,a3,⟨⟩⟩
 kernel_rfl
theorem AYD:AD (AB Tryz.f43 0) 1=[(1,AB Tryz.f43 1)]:=by kernel_rfl
theorem AYF:Aa Tryz.prog 0 (.loop (AB Tryz.f43 0)) (Jr.loop 0):=AT HP (AHc) (AA AYD ⟨AYE,trivial⟩)
theorem ASB:∀ v,N7 v=AL 0 Tryz.prog KT Jr Tryz.f43 VD VC VB v:=by
 rintro⟨a0,a1,⟨⟩⟩
 kernel_rfl
theorem Ae7:AD (AQ Tryz.f43) 0=[(0,AB Tryz.f43 0)]:=by kernel_rfl
theorem AMp:AP Tryz.prog 43 (AF 0 2 VD VC VB RZ):=AH HP Tryz.func43 (by kernel_rfl) (by kernel_rfl) rfl (fun v=>(ACs v).trans (ASB v)) (AA Ae7 ⟨AYF,trivial⟩)
def Oe:Env:=KT.ext 43 true true (AF 0 2 VD VC VB RZ)
theorem Lr:AX Tryz.prog Oe:=Env.AZ HP AMp (fun _=>AI rfl rfl) (fun _=>AG rfl rfl)
end
end Go.Pev
end
section
namespace Go.Pev
open Go.Proofs
noncomputable section
abbrev ANU:Hints:={ loop:=fun n=>match n with|0=>Ab 0 44 ATb ATa Hq|_=>fun _ _ _=>none }
theorem ATZ:∀ v,Hq v=roundOf Tryz.prog Oe ANU 1 0 44 (AB Tryz.f25 0) ATb ATa v:=by
 rintro⟨a0,a1,a2,a3,⟨⟩⟩
 kernel_rfl
theorem Akp:AD (AB Tryz.f25 0) 1=[]:=by kernel_rfl
theorem Akq:Aa Tryz.prog 0 (.loop (AB Tryz.f25 0)) (ANU.loop 0):=AT Lr (ATZ) (AA Akp trivial)
theorem Aff:∀ v,Z6 v=AL 0 Tryz.prog Oe ANU Tryz.f25 ANT ANS ANR v:=by
 rintro⟨a0,a1,⟨⟩⟩
 kernel_rfl
theorem AoF:AD (AQ Tryz.f25) 0=[(0,AB Tryz.f25 0)]:=by kernel_rfl
theorem AY4:AP Tryz.prog 25 (AF 0 2 ANT ANS ANR ATd):=AH Lr Tryz.func25 (by kernel_rfl) (by kernel_rfl) rfl (fun v=>(ATc v).trans (Aff v)) (AA AoF ⟨Akq,trivial⟩)
def AQA:Env:=Oe.ext 25 true true (AF 0 2 ANT ANS ANR ATd)
theorem AGx:AX Tryz.prog AQA:=Env.AZ Lr AY4 (fun _=>AI rfl rfl) (fun _=>AG rfl rfl)
theorem Aol:Tryz.f62.body.isSome=true:=by kernel_rfl
theorem Aok : (Tryz.f62.name == "runtime.NumGoroutine") = false := by kernel_rfl
theorem Aoj:loops (AQ Tryz.f62)=0:=by kernel_rfl
def Of:Env:=AQA.ext 62 false false (Cj Tryz.prog AQA {} Tryz.f62)
theorem Lx:AX Tryz.prog Of:=Env.AZ AGx (CV AGx Tryz.func62 Aol Aok Aoj) (by simp) (by simp)
abbrev LA:Hints:={ loop:=fun n=>match n with|0=>Ab 3 19 O8 O7 CA|_=>fun _ _ _=>none }
theorem WN:∀ v,CA v=roundOf Tryz.prog Of LA 1 3 19 (AB Tryz.f76 0) O8 O7 v:=by
 rintro⟨a0,a1,a2,a3,⟨⟩⟩
 kernel_rfl
theorem AH0:AD (AB Tryz.f76 0) 1=[]:=by kernel_rfl
theorem AH1:Aa Tryz.prog 3 (.loop (AB Tryz.f76 0)) (LA.loop 0):=AT Lx (WN) (AA AH0 trivial)
theorem AEV:∀ v,HF v=AL 3 Tryz.prog Of LA Tryz.f76 K9 K8 K7 v:=by
 rintro⟨a0,a1,⟨⟩⟩
 kernel_rfl
theorem ANz:AD (AQ Tryz.f76) 0=[(0,AB Tryz.f76 0)]:=by kernel_rfl
theorem Za:AP Tryz.prog 76 (AF 3 2 K9 K8 K7 LB):=AH Lx Tryz.func76 (by kernel_rfl) (by kernel_rfl) rfl (fun v=>(O9 v).trans (AEV v)) (AA ANz ⟨AH1,trivial⟩)
def HN:Env:=Of.CD 76 1 62 (AF 3 2 K9 K8 K7 LB)
theorem G8:AX Tryz.prog HN:=Env.Aw Lx Za (AG rfl rfl)
abbrev LW:Hints:={ loop:=fun n=>match n with|0=>Ab 3 42 PH PG C7|_=>fun _ _ _=>none }
theorem Wr:∀ v,C7 v=roundOf Tryz.prog HN LW 1 3 42 (AB Tryz.f60 0) PH PG v:=by
 rintro⟨a0,a1,a2,a3,⟨⟩⟩
 kernel_rfl
theorem AIF:AD (AB Tryz.f60 0) 1=[]:=by kernel_rfl
theorem AIH:Aa Tryz.prog 3 (.loop (AB Tryz.f60 0)) (LW.loop 0):=AT G8 (Wr) (AA AIF trivial)
theorem AFW:∀ v,HJ v=AL 3 Tryz.prog HN LW Tryz.f60 LV LU LS v:=by
 rintro⟨a0,a1,⟨⟩⟩
 kernel_rfl
theorem AOt:AD (AQ Tryz.f60) 0=[(0,AB Tryz.f60 0)]:=by kernel_rfl
theorem Zd:AP Tryz.prog 60 (AF 3 2 LV LU LS H6):=AH G8 Tryz.func60 (by kernel_rfl) (by kernel_rfl) rfl (fun v=>(PI v).trans (AFW v)) (AA AOt ⟨AIH,trivial⟩)
def HO:Env:=HN.CD 60 1 62 (MU (AF 3 2 LV LU LS H6))
theorem G9:AX Tryz.prog HO:=Env.Aw G8 (AQ6 Zd) (AnP rfl rfl)
abbrev AMv:Hints:={ loop:=fun n=>match n with|0=>Ab 0 51 ASK ASJ D5|_=>fun _ _ _=>none,fp:=fun n=>match n with|10=>[[2],[6],[4],[],[5],[],[5]]|_=>[] }
theorem ASI:∀ v,D5 v=roundOf Tryz.prog HO AMv 1 0 51 (AB Tryz.f32 0) ASK ASJ v:=by
 rintro⟨a0,a1,a2,a3,a4,a5,⟨⟩⟩
 kernel_rfl
theorem Aj2:AD (AB Tryz.f32 0) 1=[]:=by kernel_rfl
theorem Aj3:Aa Tryz.prog 0 (.loop (AB Tryz.f32 0)) (AMv.loop 0):=AT G9 (ASI) (AA Aj2 trivial)
theorem AfF:∀ v,Z4 v=AL 0 Tryz.prog HO AMv Tryz.f32 AMu AMt AMs v:=by
 rintro⟨a0,a1,⟨⟩⟩
 kernel_rfl
theorem Anw:AD (AQ Tryz.f32) 0=[(0,AB Tryz.f32 0)]:=by kernel_rfl
theorem AYP:AP Tryz.prog 32 (AF 0 2 AMu AMt AMs ASM):=AH G9 Tryz.func32 (by kernel_rfl) (by kernel_rfl) rfl (fun v=>(ASL v).trans (AfF v)) (AA Anw ⟨Aj3,trivial⟩)
def AP7:Env:=HO.ext 32 true true (AF 0 2 AMu AMt AMs ASM)
theorem AGu:AX Tryz.prog AP7:=Env.AZ G9 AYP (fun _=>AI rfl rfl) (fun _=>AG rfl rfl)
abbrev AZ7:Hints:={ fp:=fun n=>match n with|1=>[[0],[0],[2],[2],[],[0],[0],[2],[2],[],[],[20],[]]|_=>[] }
theorem AOJ:∀ v,LK v=AL 0 Tryz.prog AP7 AZ7 Tryz.f64 QI QH QG v:=by
 rintro⟨a0,a1,⟨⟩⟩
 kernel_rfl
theorem AZ6:AD (AQ Tryz.f64) 0=[]:=by kernel_rfl
theorem AH5:AP Tryz.prog 64 (AF 0 2 QI QH QG Ak):=AH AGu Tryz.func64 (by kernel_rfl) (by kernel_rfl) rfl (fun v=>(Yc v).trans (AOJ v)) (AA AZ6 trivial)
def IM:Env:=AP7.ext 64 true true (AF 0 2 QI QH QG Ak)
theorem Ge:AX Tryz.prog IM:=Env.AZ AGu AH5 (fun _=>AI rfl rfl) (fun _=>AG rfl rfl)
abbrev AEM:Hints:={ loop:=fun n=>match n with|0=>Ab 1 53 Acz Acx Acv|1=>Ab 1 53 Acy Acw Acu|_=>fun _ _ _=>none,fp:=fun n=>match n with|4=>[[],[],[],[],[],[],[],[0],[0],[],[],[],[0],[0],[],[],[]]|6=>[[],[],[],[],[],[],[],[],[0],[0],[],[],[0],[0],[0],[1],[0],[1]]|_=>[] }
theorem AZj:∀ v,Acu v=roundOf Tryz.prog IM AEM 2 1 53 (AB Tryz.f92 1) Acy Acw v:=by
 rintro⟨a0,a1,a2,a3,a4,⟨⟩⟩
 kernel_rfl
theorem AoY:AD (AB Tryz.f92 1) 2=[]:=by kernel_rfl
theorem Aoa:Aa Tryz.prog 1 (.loop (AB Tryz.f92 1)) (AEM.loop 1):=AT Ge (AZj) (AA AoY trivial)
theorem AZk:∀ v,Acv v=roundOf Tryz.prog IM AEM 1 1 53 (AB Tryz.f92 0) Acz Acx v:=by
 rintro⟨a0,a1,a2,a3,⟨⟩⟩
 kernel_rfl
theorem AoZ:AD (AB Tryz.f92 0) 1=[(1,AB Tryz.f92 1)]:=by kernel_rfl
theorem Aob:Aa Tryz.prog 1 (.loop (AB Tryz.f92 0)) (AEM.loop 0):=AT Ge (AZk) (AA AoZ ⟨Aoa,trivial⟩)
theorem AlE:∀ v,AlF v=AL 1 Tryz.prog IM AEM Tryz.f92 AZn AZm AZl v:=by
 rintro⟨a0,a1,a2,⟨⟩⟩
 kernel_rfl
theorem AqP:AD (AQ Tryz.f92) 0=[(0,AB Tryz.f92 0)]:=by kernel_rfl
theorem AgF:AP Tryz.prog 92 (AF 1 4 AZn AZm AZl AqQ):=AH Ge Tryz.func92 (by kernel_rfl) (by kernel_rfl) rfl (fun v=>(Aoc v).trans (AlE v)) (AA AqP ⟨Aob,trivial⟩)
def AQD:Env:=IM.CD 92 3 64 (AF 1 4 AZn AZm AZl AqQ)
theorem Xf:AX Tryz.prog AQD:=Env.Aw Ge AgF (AG rfl rfl)
abbrev AMI:Hints:={ loop:=fun n=>match n with|0=>Ab 1 82 ARM ARL ARK|_=>fun _ _ _=>none,fp:=fun n=>match n with|6=>[[],[],[],[],[],[],[],[],[],[],[],[],[0],[0],[],[],[],[],[0],[0],[0],[1],[0],[1]]|5=>[[],[],[],[],[],[0],[0],[],[],[],[],[0],[0],[],[],[]]|3=>[[],[],[],[],[],[],[],[],[],[],[0],[0],[],[],[],[],[],[0],[0],[],[],[]]|_=>[] }
theorem ARJ:∀ v,ARK v=roundOf Tryz.prog AQD AMI 1 1 82 (AB Tryz.f116 0) ARM ARL v:=by
 rintro⟨a0,a1,a2,a3,⟨⟩⟩
 kernel_rfl
theorem Ai5:AD (AB Tryz.f116 0) 1=[]:=by kernel_rfl
theorem Ai6:Aa Tryz.prog 1 (.loop (AB Tryz.f116 0)) (AMI.loop 0):=AT Xf (ARJ) (AA Ai5 trivial)
theorem AeQ:∀ v,AcE v=AL 1 Tryz.prog AQD AMI Tryz.f116 AMH AMG AMF v:=by
 rintro⟨a0,a1,a2,a3,⟨⟩⟩
 kernel_rfl
theorem Anc:AD (AQ Tryz.f116) 0=[(0,AB Tryz.f116 0)]:=by kernel_rfl
theorem AXK:AP Tryz.prog 116 (AF 1 5 AMH AMG AMF Ai8):=AH Xf Tryz.func116 (by kernel_rfl) (by kernel_rfl) rfl (fun v=>(Ai7 v).trans (AeQ v)) (AA Anc ⟨Ai6,trivial⟩)
def S4:Env:=AQD.CD 116 4 64 (AF 1 5 AMH AMG AMF Ai8)
theorem Ln:AX Tryz.prog S4:=Env.Aw Xf AXK (AG rfl rfl)
abbrev Rz:Hints:={ loop:=fun n=>match n with|0=>Ab 1 60 AUF AUD AUB|1=>Ab 1 60 AUE AUC AT9|_=>fun _ _ _=>none,fp:=fun n=>match n with|10=>[[],[],[],[],[],[],[],[],[],[],[0],[0],[],[],[0],[0],[0],[1],[0],[1]]|_=>[] }
theorem AT8:∀ v,AT9 v=roundOf Tryz.prog S4 Rz 2 1 60 (AB Tryz.f93 1) AUE AUC v:=by
 rintro⟨a0,a1,a2,a3,⟨⟩⟩
 kernel_rfl
theorem AlS:AD (AB Tryz.f93 1) 2=[]:=by kernel_rfl
theorem AlU:Aa Tryz.prog 1 (.loop (AB Tryz.f93 1)) (Rz.loop 1):=AT Ln (AT8) (AA AlS trivial)
theorem AUA:∀ v,AUB v=roundOf Tryz.prog S4 Rz 1 1 60 (AB Tryz.f93 0) AUF AUD v:=by
 rintro⟨a0,a1,a2,a3,a4,⟨⟩⟩
 kernel_rfl
theorem AlT:AD (AB Tryz.f93 0) 1=[]:=by kernel_rfl
theorem AlV:Aa Tryz.prog 1 (.loop (AB Tryz.f93 0)) (Rz.loop 0):=AT Ln (AUA) (AA AlT trivial)
theorem AgQ:∀ v,Ac4 v=AL 1 Tryz.prog S4 Rz Tryz.f93 AN6 AN5 AN4 v:=by
 rintro⟨a0,a1,a2,⟨⟩⟩
 kernel_rfl
theorem Aof:AD (AQ Tryz.f93) 0=[(0,AB Tryz.f93 0),(1,AB Tryz.f93 1)]:=by kernel_rfl
theorem AZr:AP Tryz.prog 93 (AF 1 4 AN6 AN5 AN4 AlX):=AH Ln Tryz.func93 (by kernel_rfl) (by kernel_rfl) rfl (fun v=>(AlW v).trans (AgQ v)) (AA Aof ⟨AlV,AlU,trivial⟩)
def AAW:Env:=S4.CD 93 3 64 (AF 1 4 AN6 AN5 AN4 AlX)
theorem Qo:AX Tryz.prog AAW:=Env.Aw Ln AZr (AG rfl rfl)
abbrev AGK:Hints:={ loop:=fun n=>match n with|0=>Ab 1 67 AKj AKi AKh|_=>fun _ _ _=>none,fp:=fun n=>match n with|10=>[[],[],[],[],[],[],[],[],[],[],[0],[0],[],[],[0],[0],[0],[1],[0],[1]]|_=>[] }
theorem APa:∀ v,AKh v=roundOf Tryz.prog AAW AGK 1 1 67 (AB Tryz.f94 0) AKj AKi v:=by
 rintro⟨a0,a1,a2,a3,a4,a5,⟨⟩⟩
 kernel_rfl
theorem Ahp:AD (AB Tryz.f94 0) 1=[]:=by kernel_rfl
theorem Ahq:Aa Tryz.prog 1 (.loop (AB Tryz.f94 0)) (AGK.loop 0):=AT Qo (APa) (AA Ahp trivial)
theorem AbX:∀ v,AVm v=AL 1 Tryz.prog AAW AGK Tryz.f94 AGJ AGI AGH v:=by
 rintro⟨a0,a1,a2,⟨⟩⟩
 kernel_rfl
theorem Ami:AD (AQ Tryz.f94) 0=[(0,AB Tryz.f94 0)]:=by kernel_rfl
theorem AVl:AP Tryz.prog 94 (AF 1 4 AGJ AGI AGH AbY):=AH Qo Tryz.func94 (by kernel_rfl) (by kernel_rfl) rfl (fun v=>(Ahr v).trans (AbX v)) (AA Ami ⟨Ahq,trivial⟩)
def AHE:Env:=AAW.CD 94 3 64 (AF 1 4 AGJ AGI AGH AbY)
theorem ZL:AX Tryz.prog AHE:=Env.Aw Qo AVl (AG rfl rfl)
abbrev AfU:Hints:={ fp:=fun n=>match n with|1=>[[],[],[],[0],[0],[],[],[0],[0],[],[]]|_=>[] }
theorem ATV:∀ v,AJe v=AL 2 Tryz.prog AHE AfU Tryz.f140 VQ VP VO v:=by
 rintro⟨a0,a1,a2,a3,⟨⟩⟩
 kernel_rfl
theorem AfT:AD (AQ Tryz.f140) 0=[]:=by kernel_rfl
theorem ANH:AP Tryz.prog 140 (AF 2 5 VQ VP VO ANI):=AH ZL Tryz.func140 (by kernel_rfl) (by kernel_rfl) rfl (fun v=>(AYu v).trans (ATV v)) (AA AfT trivial)
def XZ:Env:=AHE.CD 140 4 64 (AF 2 5 VQ VP VO ANI)
theorem TE:AX Tryz.prog XZ:=Env.Aw ZL ANH (AG rfl rfl)
abbrev Afq:Hints:={  }
theorem ATh:∀ v,AJi v=AL 2 Tryz.prog XZ Afq Tryz.f120 Vp Vo VZ v:=by
 rintro⟨a0,a1,a2,a3,a4,⟨⟩⟩
 kernel_rfl
theorem Afp:AD (AQ Tryz.f120) 0=[]:=by kernel_rfl
theorem ANa:AP Tryz.prog 120 (AF 2 6 Vp Vo VZ ANb):=AH TE Tryz.func120 (by kernel_rfl) (by kernel_rfl) rfl (fun v=>(AZH v).trans (ATh v)) (AA Afp trivial)
def Xb:Env:=XZ.CD 120 5 64 (AF 2 6 Vp Vo VZ ANb)
theorem TG:AX Tryz.prog Xb:=Env.Aw TE ANa (AG rfl rfl)
end
end Go.Pev
end
section
namespace Go.Pev
open Go.Proofs
noncomputable section
abbrev Afu:Hints:={  }
theorem ATj:∀ v,AJk v=AL 2 Tryz.prog Xb Afu Tryz.f119 Vv Vu Vt v:=by
 rintro⟨a0,a1,a2,⟨⟩⟩
 kernel_rfl
theorem Aft:AD (AQ Tryz.f119) 0=[]:=by kernel_rfl
theorem ANe:AP Tryz.prog 119 (AF 2 4 Vv Vu Vt ANf):=AH TG Tryz.func119 (by kernel_rfl) (by kernel_rfl) rfl (fun v=>(AZK v).trans (ATj v)) (AA Aft trivial)
def Xd:Env:=Xb.CD 119 3 64 (AF 2 4 Vv Vu Vt ANf)
theorem TJ:AX Tryz.prog Xd:=Env.Aw TG ANe (AG rfl rfl)
abbrev Aj1:Hints:={  }
theorem AYM:∀ v,ASG v=AL 1 Tryz.prog Xd Aj1 Tryz.f95 AC3 AC2 AC1 v:=by
 rintro⟨a0,a1,a2,⟨⟩⟩
 kernel_rfl
theorem Aj0:AD (AQ Tryz.f95) 0=[]:=by kernel_rfl
theorem ASF:AP Tryz.prog 95 (AF 1 4 AC3 AC2 AC1 AYN):=AH TJ Tryz.func95 (by kernel_rfl) (by kernel_rfl) rfl (fun v=>(AfC v).trans (AYM v)) (AA Aj0 trivial)
def TC:Env:=Xd.CD 95 3 64 (AF 1 4 AC3 AC2 AC1 AYN)
theorem Ng:AX Tryz.prog TC:=Env.Aw TJ ASF (AG rfl rfl)
abbrev AXt:Hints:={ loop:=fun n=>match n with|0=>Ab 1 34 AcL AcK AcJ|_=>fun _ _ _=>none,fp:=fun n=>match n with|3=>[[],[],[],[],[],[],[0],[0],[],[],[0],[0],[0],[1],[0],[1]]|_=>[] }
theorem AXp:∀ v,AcJ v=roundOf Tryz.prog TC AXt 1 1 34 (AB Tryz.f96 0) AcL AcK v:=by
 rintro⟨a0,a1,a2,⟨⟩⟩
 kernel_rfl
theorem Ano:AD (AB Tryz.f96 0) 1=[]:=by kernel_rfl
theorem Anp:Aa Tryz.prog 1 (.loop (AB Tryz.f96 0)) (AXt.loop 0):=AT Ng (AXp) (AA Ano trivial)
theorem AjV:∀ v,AjW v=AL 1 Tryz.prog TC AXt Tryz.f96 AXs AXr AXq v:=by
 rintro⟨a0,a1,a2,⟨⟩⟩
 kernel_rfl
theorem Apz:AD (AQ Tryz.f96) 0=[(0,AB Tryz.f96 0)]:=by kernel_rfl
theorem Aex:AP Tryz.prog 96 (AF 1 4 AXs AXr AXq Ap0):=AH Ng Tryz.func96 (by kernel_rfl) (by kernel_rfl) rfl (fun v=>(Anq v).trans (AjV v)) (AA Apz ⟨Anp,trivial⟩)
def Qm:Env:=TC.CD 96 3 64 (AF 1 4 AXs AXr AXq Ap0)
theorem HZ:AX Tryz.prog Qm:=Env.Aw Ng Aex (AG rfl rfl)
abbrev Cu:Hints:={ loop:=fun n=>match n with|0=>Ab 1 141 YU YQ YM|1=>Ab 1 141 YT YP YL|2=>Ab 1 141 YS YO YK|3=>Ab 1 141 YR YN YJ|_=>fun _ _ _=>none,fp:=fun n=>match n with|11=>[[],[],[],[],[],[],[],[],[0],[0],[],[],[0],[0],[0],[1],[0],[1]]|5=>[[],[],[],[],[],[],[],[0],[0],[],[],[],[0],[0],[],[],[],[]]|17=>[[],[],[],[],[],[],[],[],[0],[0],[],[],[0],[0],[0],[1],[0],[1]]|16=>[[],[],[],[0],[0],[],[],[],[0],[0],[],[],[]]|23=>[[],[],[],[],[],[],[],[],[0],[0],[],[],[0],[0],[0],[1],[0],[1]]|22=>[[],[],[],[0],[0],[],[],[],[0],[0],[],[],[]]|_=>[] }
theorem ADJ:∀ v,YJ v=roundOf Tryz.prog Qm Cu 4 1 141 (AB Tryz.f97 3) YR YN v:=by
 rintro⟨a0,a1,a2,a3,a4,a5,⟨⟩⟩
 kernel_rfl
theorem ASu:AD (AB Tryz.f97 3) 4=[]:=by kernel_rfl
theorem ASy:Aa Tryz.prog 1 (.loop (AB Tryz.f97 3)) (Cu.loop 3):=AT HZ (ADJ) (AA ASu trivial)
theorem ADK:∀ v,YK v=roundOf Tryz.prog Qm Cu 3 1 141 (AB Tryz.f97 2) YS YO v:=by
 rintro⟨a0,a1,a2,a3,a4,a5,⟨⟩⟩
 kernel_rfl
theorem ASv:AD (AB Tryz.f97 2) 3=[]:=by kernel_rfl
theorem ASz:Aa Tryz.prog 1 (.loop (AB Tryz.f97 2)) (Cu.loop 2):=AT HZ (ADK) (AA ASv trivial)
theorem ADL:∀ v,YL v=roundOf Tryz.prog Qm Cu 2 1 141 (AB Tryz.f97 1) YT YP v:=by
 rintro⟨a0,a1,a2,a3,a4,⟨⟩⟩
 kernel_rfl
theorem ASw:AD (AB Tryz.f97 1) 2=[]:=by kernel_rfl
theorem AS0:Aa Tryz.prog 1 (.loop (AB Tryz.f97 1)) (Cu.loop 1):=AT HZ (ADL) (AA ASw trivial)
theorem ADM:∀ v,YM v=roundOf Tryz.prog Qm Cu 1 1 141 (AB Tryz.f97 0) YU YQ v:=by
 rintro⟨a0,a1,a2,a3,a4,⟨⟩⟩
 kernel_rfl
theorem ASx:AD (AB Tryz.f97 0) 1=[(1,AB Tryz.f97 1),(2,AB Tryz.f97 2),(3,AB Tryz.f97 3)]:=by kernel_rfl
theorem AS1:Aa Tryz.prog 1 (.loop (AB Tryz.f97 0)) (Cu.loop 0):=AT HZ (ADM) (AA ASx ⟨AS0,ASz,ASy,trivial⟩)
theorem AM6:∀ v,ADN v=AL 1 Tryz.prog Qm Cu Tryz.f97 Py Px Pw v:=by
 rintro⟨a0,a1,a2,⟨⟩⟩
 kernel_rfl
theorem AYa:AD (AQ Tryz.f97) 0=[(0,AB Tryz.f97 0)]:=by kernel_rfl
theorem AHj:AP Tryz.prog 97 (AF 1 4 Py Px Pw ADO):=AH HZ Tryz.func97 (by kernel_rfl) (by kernel_rfl) rfl (fun v=>(AS2 v).trans (AM6 v)) (AA AYa ⟨AS1,trivial⟩)
def GN:Env:=Qm.CD 97 3 64 (AF 1 4 Py Px Pw ADO)
theorem ED:AX Tryz.prog GN:=Env.Aw HZ AHj (AG rfl rfl)
abbrev Fi:Hints:={ loop:=fun n=>match n with|0=>Ab 1 90 ADh ADe ADb|1=>Ab 1 90 ADg ADd ADa|2=>Ab 1 90 ADf ADc ADZ|_=>fun _ _ _=>none,fp:=fun n=>match n with|8=>[[],[],[],[],[],[],[0],[0],[],[],[0],[0],[0],[1],[0],[1]]|3=>[[],[],[],[],[],[],[],[0],[0],[],[],[0],[0],[],[],[],[]]|5=>[[],[],[],[],[],[],[],[0],[0],[],[],[0],[0],[],[],[]]|1=>[[],[],[],[],[],[],[0],[0],[],[],[0],[0],[0],[1],[0],[1]]|_=>[] }
theorem AHp:∀ v,ADZ v=roundOf Tryz.prog GN Fi 3 1 90 (AB Tryz.f98 2) ADf ADc v:=by
 rintro⟨a0,a1,a2,a3,⟨⟩⟩
 kernel_rfl
theorem AYk:AD (AB Tryz.f98 2) 3=[]:=by kernel_rfl
theorem AYn:Aa Tryz.prog 1 (.loop (AB Tryz.f98 2)) (Fi.loop 2):=AT ED (AHp) (AA AYk trivial)
theorem AHq:∀ v,ADa v=roundOf Tryz.prog GN Fi 2 1 90 (AB Tryz.f98 1) ADg ADd v:=by
 rintro⟨a0,a1,a2,a3,⟨⟩⟩
 kernel_rfl
theorem AYl:AD (AB Tryz.f98 1) 2=[]:=by kernel_rfl
theorem AYo:Aa Tryz.prog 1 (.loop (AB Tryz.f98 1)) (Fi.loop 1):=AT ED (AHq) (AA AYl trivial)
theorem AHr:∀ v,ADb v=roundOf Tryz.prog GN Fi 1 1 90 (AB Tryz.f98 0) ADh ADe v:=by
 rintro⟨a0,a1,a2,a3,⟨⟩⟩
 kernel_rfl
theorem AYm:AD (AB Tryz.f98 0) 1=[(1,AB Tryz.f98 1),(2,AB Tryz.f98 2)]:=by kernel_rfl
theorem AYp:Aa Tryz.prog 1 (.loop (AB Tryz.f98 0)) (Fi.loop 0):=AT ED (AHr) (AA AYm ⟨AYo,AYn,trivial⟩)
theorem AS9:∀ v,AJa v=AL 1 Tryz.prog GN Fi Tryz.f98 VK VJ VI v:=by
 rintro⟨a0,a1,a2,a3,⟨⟩⟩
 kernel_rfl
theorem AfO:AD (AQ Tryz.f98) 0=[(0,AB Tryz.f98 0)]:=by kernel_rfl
theorem ANA:AP Tryz.prog 98 (AF 1 5 VK VJ VI ANB):=AH ED Tryz.func98 (by kernel_rfl) (by kernel_rfl) rfl (fun v=>(AYq v).trans (AS9 v)) (AA AfO ⟨AYp,trivial⟩)
def Ev:Env:=GN.CD 98 4 64 (AF 1 5 VK VJ VI ANB)
theorem C1:AX Tryz.prog Ev:=Env.Aw ED ANA (AG rfl rfl)
abbrev E4:Hints:={ loop:=fun n=>match n with|0=>Ab 1 178 ATT ATO ATJ|1=>Ab 1 178 ATS ATN ATH|2=>Ab 1 178 ATR ATM ATF|3=>Ab 1 178 ATQ ATL ATD|4=>Ab 1 178 ATP ATK ATB|_=>fun _ _ _=>none,fp:=fun n=>match n with|3=>[[],[],[],[],[],[],[],[0],[0],[],[],[0],[0],[],[],[]]|5=>[[],[],[],[],[],[],[],[0],[0],[],[],[0],[0],[],[],[],[]]|18=>[[],[],[],[],[],[],[0],[0],[],[],[0],[0],[0],[1],[0],[1]]|13=>[[],[],[],[],[],[],[],[0],[0],[],[],[0],[0],[],[],[]]|15=>[[],[],[],[],[],[],[],[0],[0],[],[],[0],[0],[],[],[],[]]|21=>[[],[],[],[],[],[],[0],[0],[],[],[0],[0],[0],[1],[0],[1]]|10=>[[],[],[],[],[],[],[0],[0],[],[],[0],[0],[0],[1],[0],[1]]|8=>[[],[],[],[],[],[],[0],[0],[],[],[0],[0],[0],[1],[0],[1]]|1=>[[],[],[],[],[],[],[0],[0],[],[],[0],[0],[0],[1],[0],[1]]|_=>[] }
theorem ATA:∀ v,ATB v=roundOf Tryz.prog Ev E4 5 1 178 (AB Tryz.f99 4) ATP ATK v:=by
 rintro⟨a0,a1,a2,a3,⟨⟩⟩
 kernel_rfl
theorem AkL:AD (AB Tryz.f99 4) 5=[]:=by kernel_rfl
theorem AkQ:Aa Tryz.prog 1 (.loop (AB Tryz.f99 4)) (E4.loop 4):=AT C1 (ATA) (AA AkL trivial)
theorem ATC:∀ v,ATD v=roundOf Tryz.prog Ev E4 4 1 178 (AB Tryz.f99 3) ATQ ATL v:=by
 rintro⟨a0,a1,a2,a3,⟨⟩⟩
 kernel_rfl
theorem AkM:AD (AB Tryz.f99 3) 4=[]:=by kernel_rfl
theorem AkR:Aa Tryz.prog 1 (.loop (AB Tryz.f99 3)) (E4.loop 3):=AT C1 (ATC) (AA AkM trivial)
theorem ATE:∀ v,ATF v=roundOf Tryz.prog Ev E4 3 1 178 (AB Tryz.f99 2) ATR ATM v:=by
 rintro⟨a0,a1,a2,a3,⟨⟩⟩
 kernel_rfl
theorem AkN:AD (AB Tryz.f99 2) 3=[(3,AB Tryz.f99 3),(4,AB Tryz.f99 4)]:=by kernel_rfl
theorem AkS:Aa Tryz.prog 1 (.loop (AB Tryz.f99 2)) (E4.loop 2):=AT C1 (ATE) (AA AkN ⟨AkR,AkQ,trivial⟩)
theorem ATG:∀ v,ATH v=roundOf Tryz.prog Ev E4 2 1 178 (AB Tryz.f99 1) ATS ATN v:=by
 rintro⟨a0,a1,a2,a3,⟨⟩⟩
 kernel_rfl
theorem AkO:AD (AB Tryz.f99 1) 2=[]:=by kernel_rfl
theorem AkT:Aa Tryz.prog 1 (.loop (AB Tryz.f99 1)) (E4.loop 1):=AT C1 (ATG) (AA AkO trivial)
theorem ATI:∀ v,ATJ v=roundOf Tryz.prog Ev E4 1 1 178 (AB Tryz.f99 0) ATT ATO v:=by
 rintro⟨a0,a1,a2,a3,⟨⟩⟩
 kernel_rfl
theorem AkP:AD (AB Tryz.f99 0) 1=[]:=by kernel_rfl
theorem AkU:Aa Tryz.prog 1 (.loop (AB Tryz.f99 0)) (E4.loop 0):=AT C1 (ATI) (AA AkP trivial)
theorem AfP:∀ v,AcY v=AL 1 Tryz.prog Ev E4 Tryz.f99 ANE AND ANC v:=by
 rintro⟨a0,a1,a2,a3,⟨⟩⟩
 kernel_rfl
theorem An8:AD (AQ Tryz.f99) 0=[(0,AB Tryz.f99 0),(1,AB Tryz.f99 1),(2,AB Tryz.f99 2)]:=by kernel_rfl
theorem AYr:AP Tryz.prog 99 (AF 1 5 ANE AND ANC AkW):=AH C1 Tryz.func99 (by kernel_rfl) (by kernel_rfl) rfl (fun v=>(AkV v).trans (AfP v)) (AA An8 ⟨AkU,AkT,AkS,trivial⟩)
def AP9:Env:=Ev.CD 99 4 64 (AF 1 5 ANE AND ANC AkW)
theorem AGw:AX Tryz.prog AP9:=Env.Aw C1 AYr (AG rfl rfl)
abbrev AYW(self:(List (Int×Int×Unit)×Int×Int×Int×Unit)→Option ((List (Int×Int×Unit)×Unit))):Hints:={ loop:=fun n=>match n with|0=>Ab 1 148 AcW AcV (AcU self)|_=>fun _ _ _=>none,fp:=fun n=>match n with|17=>[[],[],[],[],[],[],[],[0],[0],[],[],[0],[0],[],[],[],[]]|_=>[] }
abbrev AM0(self:(List (Int×Int×Unit)×Int×Int×Int×Unit)→Option ((List (Int×Int×Unit)×Unit))):Env:=AP9.ext 80 false true (AF 1 5 ADB ADA AC9 self)
theorem AYV(self:(List (Int×Int×Unit)×Int×Int×Int×Unit)→Option ((List (Int×Int×Unit)×Unit))):∀ v,AcU self v=roundOf Tryz.prog (AM0 self) (AYW self) 1 1 148 (AB Tryz.f80 0) AcW AcV v:=by
 rintro⟨a0,a1,a2,a3,a4,a5,⟨⟩⟩
 kernel_rfl
theorem An3:AD (AB Tryz.f80 0) 1=[]:=by kernel_rfl
theorem An4(self:(List (Int×Int×Unit)×Int×Int×Int×Unit)→Option ((List (Int×Int×Unit)×Unit)))(hE:AX Tryz.prog (AM0 self)):Aa Tryz.prog 1 (.loop (AB Tryz.f80 0)) ((AYW self).loop 0):=AT hE (AYV self) (AA An3 trivial)
theorem Aj7(self:(List (Int×Int×Unit)×Int×Int×Int×Unit)→Option ((List (Int×Int×Unit)×Unit))):∀ v,AqD self v=AL 1 Tryz.prog (AM0 self) (AYW self) Tryz.f80 ADB ADA AC9 v:=by
 rintro⟨a0,a1,a2,a3,⟨⟩⟩
 kernel_rfl
theorem AqC:AD (AQ Tryz.f80) 0=[(0,AB Tryz.f80 0)]:=by kernel_rfl
theorem AYX:∀ n,AP Tryz.prog 80 (AF 1 5 ADB ADA AC9 (ADC n)):=by
 intro n
 induction n with
 |zero=>exact YV fun _=>rfl
 |succ n ih=>
  have hE:AX Tryz.prog (AM0 (ADC n)):=Env.AZ AGw ih ((by simp)) (fun _=>AG rfl rfl)
  let self:=ADC n
  exact AH hE Tryz.func80 (by kernel_rfl) (by kernel_rfl) rfl (Aj7 self) (AA AqC ⟨(An4 self hE),trivial⟩)
theorem AfK:AP Tryz.prog 80 (AF 1 5 ADB ADA AC9 An6):=by
 have e:An6=ADC 100:=funext An5
 rw[e]
 exact AYX _
def Abq:Env:=AP9.CD 80 4 64 (AF 1 5 ADB ADA AC9 An6)
theorem AKx:AX Tryz.prog Abq:=Env.Aw AGw AfK (AG rfl rfl)
abbrev AnZ:Hints:={  }
theorem AeN:∀ v,AcB v=AL 1 Tryz.prog Abq AnZ Tryz.f63 AL8 AL7 AL6 v:=by
 rintro⟨a0,⟨⟩⟩
 kernel_rfl
theorem AnY:AD (AQ Tryz.f63) 0=[]:=by kernel_rfl
theorem AXG:AP Tryz.prog 63 (AF 1 2 AL8 AL7 AL6 ARC):=AH AKx Tryz.func63 (by kernel_rfl) (by kernel_rfl) rfl (fun v=>(Aiy v).trans (AeN v)) (AA AnY trivial)
def S2:Env:=Abq.CD 63 1 64 (AF 1 2 AL8 AL7 AL6 ARC)
theorem Ll:AX Tryz.prog S2:=Env.Aw AKx AXG (AG rfl rfl)
abbrev AEY:Hints:={ loop:=fun n=>match n with|0=>Ab 0 74 AdD AdB Iq|1=>Ab 0 74 AdC AdA Ip|_=>fun _ _ _=>none }
theorem AZ1:∀ v,Ip v=roundOf Tryz.prog S2 AEY 2 0 74 (AB Tryz.f33 1) AdC AdA v:=by
 rintro⟨a0,a1,a2,a3,a4,a5,a6,⟨⟩⟩
 kernel_rfl
theorem Aop:AD (AB Tryz.f33 1) 2=[]:=by kernel_rfl
theorem Aor:Aa Tryz.prog 0 (.loop (AB Tryz.f33 1)) (AEY.loop 1):=AT Ll (AZ1) (AA Aop trivial)
theorem AZ2:∀ v,Iq v=roundOf Tryz.prog S2 AEY 1 0 74 (AB Tryz.f33 0) AdD AdB v:=by
 rintro⟨a0,a1,a2,a3,a4,a5,a6,⟨⟩⟩
 kernel_rfl
theorem Aoq:AD (AB Tryz.f33 0) 1=[]:=by kernel_rfl
theorem Aos:Aa Tryz.prog 0 (.loop (AB Tryz.f33 0)) (AEY.loop 0):=AT Ll (AZ2) (AA Aoq trivial)
theorem Alg:∀ v,AOI v=AL 0 Tryz.prog S2 AEY Tryz.f33 AZ5 AZ4 AZ3 v:=by
 rintro⟨a0,a1,⟨⟩⟩
 kernel_rfl
theorem AqU:AD (AQ Tryz.f33) 0=[(0,AB Tryz.f33 0),(1,AB Tryz.f33 1)]:=by kernel_rfl
theorem Agc:AP Tryz.prog 33 (AF 0 2 AZ5 AZ4 AZ3 Alh):=AH Ll Tryz.func33 (by kernel_rfl) (by kernel_rfl) rfl (fun v=>(AdE v).trans (Alg v)) (AA AqU ⟨Aos,Aor,trivial⟩)
def Abv:Env:=S2.ext 33 true true (AF 0 2 AZ5 AZ4 AZ3 Alh)
theorem AK2:AX Tryz.prog Abv:=Env.AZ Ll Agc (fun _=>AI rfl rfl) (fun _=>AG rfl rfl)
abbrev Am9:Hints:={  }
theorem Adm:∀ v,Zu v=AL 0 Tryz.prog Abv Am9 Tryz.f51 ALJ ALI ALH v:=by
 rintro⟨a0,⟨⟩⟩
 kernel_rfl
theorem Am8:AD (AQ Tryz.f51) 0=[]:=by kernel_rfl
theorem AWW:AP Tryz.prog 51 (AF 0 1 ALJ ALI ALH Xq):=AH AK2 Tryz.func51 (by kernel_rfl) (by kernel_rfl) rfl (fun v=>(AQU v).trans (Adm v)) (AA Am8 trivial)
def AP1:Env:=Abv.ext 51 true true (AF 0 1 ALJ ALI ALH Xq)
theorem AGg:AX Tryz.prog AP1:=Env.AZ AK2 AWW (fun _=>AI rfl rfl) (fun _=>AG rfl rfl)
abbrev AiD:Hints:={  }
theorem AWT:∀ v,Qw v=AL 0 Tryz.prog AP1 AiD Tryz.f54 AAh AAg AAf v:=by
 rintro⟨a0,⟨⟩⟩
 kernel_rfl
theorem AiC:AD (AQ Tryz.f54) 0=[]:=by kernel_rfl
theorem AQR:AP Tryz.prog 54 (AF 0 1 AAh AAg AAf AAi):=AH AGg Tryz.func54 (by kernel_rfl) (by kernel_rfl) rfl (fun v=>(AIk v).trans (AWT v)) (AA AiC trivial)
def AGe:Env:=AP1.ext 54 true true (AF 0 1 AAh AAg AAf AAi)
theorem Y2:AX Tryz.prog AGe:=Env.AZ AGg AQR (fun _=>AI rfl rfl) (fun _=>AG rfl rfl)
theorem Adh:Tryz.f50.body.isSome=true:=by kernel_rfl
theorem Adg : (Tryz.f50.name == "runtime.NumGoroutine") = false := by kernel_rfl
theorem Adf:loops (AQ Tryz.f50)=0:=by kernel_rfl
end
end Go.Pev
end
