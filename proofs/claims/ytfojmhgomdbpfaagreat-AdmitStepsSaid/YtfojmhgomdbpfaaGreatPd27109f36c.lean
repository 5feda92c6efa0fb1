/- A part of the proofs of this seat: AKD T22a T21a T23a T23b T24a PlnC AKE AKF AKG AKH AU24a AU24b AU24c AU24d AU23a AU23b AU23c AU23d AU23e T24b AU24f AU24g AU24h AU24i AU24j AU24k AU24l AU24m AU24n AU21a AU21b ASIa ASIb ASIc ASId ASIe ASIf AU23f AU23g AU23h AU21c BW22v U26i U26j U26k U26l U26m PevClip G26cP1 G26cP2 G26cP3 G26cP4 G26cP5 G26cP6 G26cP7 G26cP8 G26cP9 G26cP10. -/
import Derived.Test.YtfojmhgomdbpfaaGreatPee11b1f795
import Derived.KernelRfl
import Derived.Test.YtfojmhgomdbpfaaGreatProg
set_option linter.unusedVariables false
set_option linter.unusedSimpArgs false
set_option linter.unusedSectionVars false
set_option maxRecDepth 100000
section
section
namespace Go.Pev.Pl
open Tok
def Cw{α:Type}(P:Nat→Bool):Nat→List α→List α
 |_,[]=>[]
 |i,x::xs=>if P i then Cw P (i+1) xs else x::Cw P (i+1) xs
theorem ASE{α:Type}(P:Nat→Bool):∀ (xs:List α) (s:Nat),(∀ k,s≤k→P k=false)→Cw P s xs=xs:=by
 intro xs
 induction xs with
 |nil=>intro s _;rfl
 |cons x xs ih=>
  intro s h
  rw[Cw,h s (An3 _),ih (s+1) fun k hk=>h k (by omega)]
  rfl
theorem AXc{α:Type}(P:Nat→Bool)(i:Nat):∀ (xs:List α) (s:Nat),s≤i→(∀ k,s≤k→P k=decide (k=i))→Cw P s xs=xs.eraseIdx (i-s):=by
 intro xs
 induction xs with
 |nil=>intro s _ _;rfl
 |cons x xs ih=>
  intro s hs h
  rw[Cw,h s (An3 _)]
  by_cases e:s=i
  ·subst e
   rw[ASE P xs (s+1) fun k hk=>by rw[h k (by omega)];simp;omega]
   simp
  ·rw[ih (s+1) (by omega) fun k hk=>h k (by omega)]
   rw[Anp e,An1 (by simp),show i-s=(i-(s+1))+1 by omega,AqT]
theorem ADg{α:Type}(P:Nat→Bool)(i j:Nat)(hij:i<j):∀ (xs:List α) (s:Nat),s≤i→(∀ k,s≤k→P k=decide (k=i∨k=j))→Cw P s xs=(xs.eraseIdx (j-s)).eraseIdx (i-s):=by
 intro xs
 induction xs with
 |nil=>intro s _ _;rfl
 |cons x xs ih=>
  intro s hs h
  rw[Cw,h s (An3 _)]
  by_cases e:s=i
  ·subst e
   rw[AXc P j xs (s+1) (by omega) fun k hk=>by rw[h k (by omega)];exact ApA.2 ⟨fun q=>by omega,fun q=>.inr q⟩]
   rw[Anq (.inl rfl),An5 rfl,show j-s=(j-(s+1))+1 by omega,AqT,Apq,List.eraseIdx_zero]
   rfl
  ·rw[ih (s+1) (by omega) fun k hk=>h k (by omega)]
   rw[Anp (by omega),An1 (by simp),show j-s=(j-(s+1))+1 by omega,AqT,show i-s=(i-(s+1))+1 by omega,AqT]
theorem ASF{α:Type}(P:Nat→Bool):∀ (xs:List α) (acc:List α) (k:Nat),(xs.foldl (fun(a:List α×Nat) x=>(if P a.2 then a.1 else a.1++[x],a.2+1)) (acc,k)).1=acc++Cw P k xs:=by
 intro xs
 induction xs with
 |nil=>intro acc k;simp[Cw]
 |cons x xs ih=>
  intro acc k
  rw[Aow,ih,Cw]
  cases P k<;>simp
theorem AXd{α:Type}(P:Nat→Bool):∀ (xs:List α) (k:Nat),(Cw P k xs).length≤xs.length∧∀ x∈Cw P k xs,x∈xs:=by
 intro xs
 induction xs with
 |nil=>intro k;simp[Cw]
 |cons x xs ih=>
  intro k
  obtain⟨h1,h2⟩:=ih (k+1)
  rw[Cw]
  split
  ·exact⟨by simp only[An0];omega,fun y hy=>AoO _ (h2 y hy)⟩
  ·refine⟨by simp only[An0];omega,fun y hy => ?_⟩
   rcases Anx.1 hy with rfl|hy
   ·simp
   ·exact AoO _ (h2 y hy)
theorem Aai(n:Int)(rings:List (List Int))(away:List Int)(come:List (List Int))(hlen:rings.length<1073741824)(ha:away.length<1073741824)(hc:come.length<1073741824)
  (hne:∀ l∈rings,l≠[]) (hce:∀ r∈come,plain r≠[]) :
  ∃ ys,AOM ((n,(rings,())),away,come,())=some (n,ys,())∧ys.Perm (Cw (fun k=>decide ((k:Int)∈away)) 0 rings++come.map plain)∧ys.Pairwise (fun a b=>¬ hd b<hd a):=by
 rw[AOL,Yg]
 have e:=Ef (step:=HK) (fun i (a:List (List Int)×Nat)=>(away,come,n,rings,(0:Int),a.1,rings,AN rings,(i:Int),())) rings
  (fun x a=>.inl (if decide ((a.2:Int)∈away)then a.1 else a.1++[x],a.2+1)) (fun a=>.inl (come,n,rings,(0:Int),a.1,())) (fun i a=>a.2=i∧a.1.length≤i) (by omega)
  (fun i x a hi hx ⟨h1,h2⟩=>by
   refine⟨fun m' h' => ?_,fun r h'=>by cases h'⟩
   cases h'
   subst h1
   rw[HK,AS,AL,Anq hi]
   simp only[AT hx,I0 away _ (show away.length<9223372036854775808 by omega)]
   rw[AP (by omega),Bh (by simp only[AS,An0,AoB];omega)]
   by_cases h:(a.2:Int)∈away
   ·simp only[h,AoI,An2,Aoa]
    exact⟨by trivial,by trivial,by omega⟩
   ·simp only[h,Aob,Aog]
    exact⟨by trivial,by trivial,by simp;omega⟩)
  (fun a _=>by rw[HK,AS,AL,Anp (by omega)]) ([],0) ⟨rfl,by simp⟩
 have e':AX HK many (away,come,n,rings,(0:Int),[],rings,AN rings,(0:Int),())=_:=e
 rw[e',CN]
 have hdf:(rings.foldl (fun(a:List (List Int)×Nat) x=>(if decide ((a.2:Int)∈away)then a.1 else a.1++[x],a.2+1)) ([],0)).1=Cw (fun k=>decide ((k:Int)∈away)) 0 rings:=by
  have:=ASF (fun k=>decide ((k:Int)∈away)) rings [] 0
  rw[Aoc]at this
  exact this
 simp only[hdf]
 obtain⟨g1,g2⟩:=AXd (fun k=>decide ((k:Int)∈away)) rings 0
 generalize Cw (fun k=>decide ((k:Int)∈away)) 0 rings=rest at *
 have f:=Ef (step:=HJ) (fun i (a:List (List Int))=>(n,rings,(0:Int),a,come,AN come,(i:Int),())) come
  (fun x a=>.inl (a++[plain x])) (fun a=>.inl (n,rings,(0:Int),a,())) (fun i a=>a.length=rest.length+i) (by omega)
  (fun i x a hi hx h1=>by
   refine⟨fun m' h' => ?_,fun r h'=>by cases h'⟩
   cases h'
   rw[HJ,AS,AL,Anq hi]
   simp only[AT hx,AUl]
   rw[AP (by omega),Bh (by simp only[AS,An0,AoB];omega)]
   exact⟨rfl,by simp;omega⟩)
  (fun a _=>by rw[HJ,AS,AL,Anp (by omega)]) rest rfl
 have f':AX HJ many (n,rings,(0:Int),rest,come,AN come,(0:Int),())=_:=f
 rw[f',CN]
 have hfold:∀ (l acc:List (List Int)),l.foldl (fun a x=>a++[plain x]) acc=acc++l.map plain:=by
  intro l
  induction l with
  |nil=>intro acc;simp
  |cons x l ih=>intro acc;rw[Aow,ih];simp
 simp only[hfold]
 obtain⟨ys,y1,y2,y3⟩:=SL.JM (rest++come.map plain) (by simp;omega) (fun x hx=>by
  rcases Anv.1 hx with h|h
  ·exact hne x (g2 x h)
  ·obtain⟨r,hr,rfl⟩:=AoA.1 h
   exact hce r hr)
 refine⟨ys,by simp only[y1],y2,y3.imp fun {a b} h => ?_⟩
 simp only[SL.lt,Go.Sort.ltInt,Aou]at h
 exact h
def Abt(rest:List (List Int))(p:List Int):List (List Int):=rest.take (rest.findIdx fun x => !decide (hd x<hd p))++p::rest.drop (rest.findIdx fun x => !decide (hd x<hd p))
theorem Abs(rest:List (List Int))(p:List Int):(Abt rest p).Perm (p::rest):=by
 rw[Abt]
 refine List.perm_middle.trans ?_
 rw[Ao1]
theorem AkY{rest:List (List Int)}{p:List Int}(h:rest.Pairwise (fun a b=>hd a<hd b))(hne:∀ x∈rest,hd x≠hd p):(Abt rest p).Pairwise (fun a b=>hd a<hd b):=by
 rw[Abt]
 have hlt:∀ x∈rest.take (rest.findIdx fun x => !decide (hd x<hd p)),hd x<hd p:=by
  intro x hx
  obtain⟨j,hj,e⟩:=Aqu.1 hx
  have:=List.not_of_lt_findIdx (p:=fun x => !decide (hd x<hd p)) (xs:=rest) (i:=j) (by omega)
  rw[e]at this
  simpa using this
 have hgt:∀ x∈rest.drop (rest.findIdx fun x => !decide (hd x<hd p)),hd p<hd x:=by
  intro x hx
  by_cases hk:(rest.findIdx fun x => !decide (hd x<hd p))<rest.length
  ·have h0:=List.findIdx_getElem (p:=fun x => !decide (hd x<hd p)) (xs:=rest) (w:=hk)
   rw[Aod hk]at hx
   have h1:¬ hd rest[rest.findIdx fun x => !decide (hd x<hd p)]<hd p:=by simpa using h0
   have h2:=hne _ (Apg hk)
   rcases Anx.1 hx with rfl|hx
   ·omega
   ·have hpw:(rest.drop (rest.findIdx fun x => !decide (hd x<hd p))).Pairwise (fun a b=>hd a<hd b):=h.sublist (List.drop_sublist _ _)
    rw[Aod hk,Ao3]at hpw
    have:=hpw.1 x hx
    omega
  ·rw[ApP (by omega)]at hx
   cases hx
 rw[Aql,Ao3]
 refine⟨h.sublist (List.take_sublist _ _),⟨hgt,h.sublist (List.drop_sublist _ _)⟩,fun a ha b hb => ?_⟩
 rcases Anx.1 hb with rfl|hb
 ·exact hlt a ha
 ·have:=hlt a ha
  have:=hgt b hb
  omega
end Go.Pev.Pl
end
section
namespace Go.Pev.Pl
open Tok
theorem ANZ{n u v:Int}(h:okT n (.arc u v)):n≤OA n u v:=by rw[Hu h];exact(Yz h.1 h.2.1).1
def Bs(n:Int)(A B:List Int)(u v:Int):List Int:=u::OA n u v::(By B v++OA n v u::(By A u).tail)
theorem T9{n u v:Int}{A B:List Int}(hA:TI n A)(hB:TI n B)(hu:u∈A)(hv:v∈B)(iu:In n u)(iv:In n v)(hd:Dis n A B):
  TI n (Bs n A B u v)∧By A u=u::(By A u).tail∧(∀ t,t<n→(t∈Bs n A B u v↔t∈A∨t∈B))∧u≠v∧okT n (.arc u v):=by
 obtain⟨a,a1,a2,a3⟩:=ATO hA (t:=.ver u) iu hu
 obtain⟨b,b1,b2,b3⟩:=ATO hB (t:=.ver v) iv hv
 have a1':By A u=(Tok.ver u::a).map (Fs n):=a1
 have b1':By B v=(Tok.ver v::b).map (Fs n):=b1
 have huv:u≠v:=by rintro rfl;exact hd u hu iu.2.2.2 hv
 have ho:okT n (.arc u v):=⟨iu,iv,huv⟩
 have pA:=(DK hu).perm
 have pB:=(DK hv).perm
 have ht:By A u=u::(By A u).tail:=by rw[a1'];rfl
 have hall:Bs n A B u v=(Tok.ver u :: .arc u v::(.ver v::b ++ .arc v u::a)).map (Fs n):=by
  rw[Bs,a1',b1',Hu ho,Hu (MK ho)]
  simp[Fs]
 refine⟨⟨_,hall,fun t ht => ?_,T.join a2 b2 fun x hx hx2 => ?_⟩,ht,fun t ht2 => ?_,huv,ho⟩
 ·rcases Anx.1 ht with rfl|ht
  ·exact iu
  ·rcases Anx.1 ht with rfl|ht
   ·exact ho
   ·rcases Anv.1 ht with ht|ht
    ·exact b3 t ht
    ·rcases Anx.1 ht with rfl|ht
     ·exact MK ho
     ·exact a3 t (AoO _ ht)
 ·have ix:=a3 _ hx
  have x1:x∈A:=pA.mem_iff.2 (by rw[a1'];exact AoA.2 ⟨_,hx,rfl⟩)
  have x2:x∈B:=pB.mem_iff.2 (by rw[b1'];exact AoA.2 ⟨_,hx2,rfl⟩)
  exact hd x x1 ix.2.2.2 x2
 ·have g1:=ANZ ho
  have g2:=ANZ (MK ho)
  have e1:t∈A↔t=u∨t∈(By A u).tail:=by rw[pA.mem_iff,ht,Anx,Apx]
  rw[Bs,Anx,Anx,Anv,Anx,e1,← pB.mem_iff]
  constructor
  ·rintro (h|h|h|h|h)
   ·exact .inl (.inl h)
   ·omega
   ·exact .inr h
   ·omega
   ·exact .inl (.inr h)
  ·rintro ((h|h)|h)
   ·exact .inl h
   ·exact .inr (.inr (.inr (.inr h)))
   ·exact .inr (.inr (.inl h))
theorem Rb{n:Int}{a b:List (List Int)}(h:a.Perm b)(ha:a.Pairwise (Dis n)):b.Pairwise (Dis n):=(h.pairwise_iff fun {_ _} hh=>hh.symm).1 ha
theorem AmC{n:Int}{rings rest zs:List (List Int)}{A B p:List Int}(h:FR n rings)(hp:rings.Perm (A::B::rest))(hg:RG n p)(hm:∀ t,t<n→(t∈p↔t∈A∨t∈B))(hz:zs.Perm (p::rest))(hu:zs.Pairwise (fun a b=>hd a<hd b)):FR n zs:=by
 have hd0:=Rb hp h.dis
 rw[Ao3,Ao3]at hd0
 obtain⟨h1,h2,h3⟩:=hd0
 refine⟨h.sz,fun l hl => ?_,hu,Rb hz.symm ?_,fun v hv => ?_⟩
 ·rcases Anx.1 (hz.mem_iff.1 hl)with rfl|hl
  ·exact hg
  ·exact h.rg l (hp.mem_iff.2 (by simp[hl]))
 ·rw[Ao3]
  refine⟨fun r hr t ht htn => ?_,h3⟩
  rcases(hm t htn).1 ht with g|g
  ·exact h1 r (by simp[hr]) t g htn
  ·exact h2 r hr t g htn
 ·obtain⟨l,hl,hvl⟩:=h.cov v hv
  have:=hp.mem_iff.1 hl
  simp only[Anx]at this
  rcases this with rfl|rfl|g
  ·exact⟨p,hz.mem_iff.2 (by simp),(hm v hv.2.2.2).2 (.inl hvl)⟩
  ·exact⟨p,hz.mem_iff.2 (by simp),(hm v hv.2.2.2).2 (.inr hvl)⟩
  ·exact⟨l,hz.mem_iff.2 (by simp[g]),hvl⟩
theorem AIt(n:Int)(rings:List (List Int))(u v:Int)(hD:Dom rings):asked ((n,(rings,())),u,v,())=some (if RF n rings then if In n u∧In n v then 0 else 10 else 1,()):=by
 rw[ATF,Y8]
 simp only[Zh n rings hD.1 hD.2,AJu]
 by_cases h:RF n rings
 ·by_cases h1:In n u
  ·by_cases h2:In n v<;>simp[h,h1,h2]
  ·simp[h,h1]
 ·simp[h]
theorem Akx{n:Int}{rings:List (List Int)}{u v:Int}{i j:Nat}{A B:List Int}(h:FR n rings)(iu:In n u)(iv:In n v)(hi:rings[i]? = some A)(hj:rings[j]? = some B)(hu:u∈A)(hv:v∈B)(hij:i≠j):
  ∃ zs rest,Zs ((n,(rings,())),u,v,())=some (n,zs,0,())∧FR n zs∧rings.Perm (A::B::rest)∧zs.Perm (plain (Bs n A B u v)::rest)∧Dis n A B:=by
 have hD:=h.dom
 have hRF:=ANd.2 h
 have rA:=h.rg A (An6 hi)
 have rB:=h.rg B (An6 hj)
 have hil:=(An7.1 hi).1
 have hjl:=(An7.1 hj).1
 have pu:plc rings u=(i:Int):=h.Agk hi iu.2.2.2 hu
 have pv:plc rings v=(j:Int):=h.Agk hj iv.2.2.2 hv
 have hperm:rings.Perm (A::B::(rings.eraseIdx (max i j)).eraseIdx (min i j)):=by
  rcases Nat.lt_or_gt_of_ne hij with g|g
  ·rw[ArC (by omega),ApG (by omega)]
   exact XY g hi hj
  ·rw[Nat.max_eq_left (by omega),Nat.min_eq_right (by omega)]
   exact(XY g hj hi).trans (List.Perm.swap _ _ _)
 have hdis:Dis n A B:=by
  have:=Rb hperm h.dis
  rw[Ao3]at this
  exact this.1 B (by simp)
 obtain⟨l1,l2,l3,huv,ho⟩:=T9 rA.2.2.2 rB.2.2.2 hu hv iu iv hdis
 obtain⟨hRG,hrot⟩:=ATQ l1
 have hall:Bs n A B u v=u::OA n u v::(By B v++OA n v u::(By A u).tail):=rfl
 have lA:(By A u).length≤1000:=by rw[← (DK hu).perm.length_eq];exact rA.1.1
 have lB:(By B v).length≤1000:=by rw[← (DK hv).perm.length_eq];exact rB.1.1
 have hsub:((rings.eraseIdx (max i j)).eraseIdx (min i j)).Sublist rings:=(List.eraseIdx_sublist _ _).trans (List.eraseIdx_sublist _ _)
 have hdrop:Cw (fun k=>decide ((k:Int)∈[(i:Int),(j:Int)])) 0 rings=(rings.eraseIdx (max i j)).eraseIdx (min i j):=by
  rcases Nat.lt_or_gt_of_ne hij with g|g
  ·rw[ArC (by omega),ApG (by omega)]
   exact ADg _ i j g rings 0 (by omega) fun k _=>ApA.2 (by simp only[Anx,Ap9,Aqz];omega)
  ·rw[Nat.max_eq_left (by omega),Nat.min_eq_right (by omega)]
   exact ADg _ j i g rings 0 (by omega) fun k _=>ApA.2 (by simp only[Anx,Ap9,Aqz];omega)
 have hrl:((rings.eraseIdx (max i j)).eraseIdx (min i j)).length≤rings.length:=hsub.length_le
 generalize (rings.eraseIdx (max i j)).eraseIdx (min i j)=rest at *
 have hupr:rest.Pairwise (fun a b=>hd a<hd b):=h.up.sublist hsub
 have hner:∀ l∈rest,l≠[]:=fun l hl=>(h.rg l (hsub.subset hl)).2.1
 have hdd:=Rb hperm h.dis
 rw[Ao3,Ao3]at hdd
 have hheads:∀ x∈rest,hd x≠hd (plain (Bs n A B u v)):=by
  intro x hx e
  have g1:=Rs hRG
  have g2:=(l3 _ g1.2.2.2).1 (hrot.perm.mem_iff.2 (AL1 hRG.2.1))
  have g3:hd (plain (Bs n A B u v))∈x:=e▸AL1 (hner x hx)
  rcases g2 with g|g
  ·exact hdd.1 x (by simp[hx]) _ g g1.2.2.2 g3
  ·exact hdd.2.1 x hx _ g g1.2.2.2 g3
 have hup:=AkY hupr hheads
 have hpz:=Abs rest (plain (Bs n A B u v))
 refine⟨Abt rest (plain (Bs n A B u v)),rest,?_,AmC h hperm hRG (fun t ht=>by rw[← hrot.perm.mem_iff];exact l3 t ht) hpz hup,hperm,hpz,hdis⟩
 ·obtain⟨ys,y1,y2,y3⟩:=Aai n rings [(i:Int),(j:Int)] [Bs n A B u v] hD.1 (by simp) (by simp) (fun l hl=>(h.rg l hl).2.1) (by simp;exact hRG.2.1)
  have hys:ys=Abt rest (plain (Bs n A B u v)):=by
   refine AOp hup (y2.trans ?_) y3
   rw[hdrop]
   exact(Ap0 (l₁:=rest) (l₂:=[plain (Bs n A B u v)])).trans hpz.symm
  rw[hys]at y1
  rw[Zr,QU]
  have s1:D6 (By A u) (0:Int) (1:Int)=some [u]:=by
   have:=AJw (xs:=By A u) (l:=0) (h:=1) (by omega) (by rw[l2];simp)
   rw[l2]at this ⊢
   exact this
  have s2:D6 (By A u) (1:Int) (AN (By A u))=some (By A u).tail:=by
   have:=QY (xs:=By A u) (l:=1) (by rw[l2];simp)
   rw[Aqo]at this
   exact this
  have d1:Fv 0 (AM (AN [u])) (By A u)=[u]:=by rw[l2];rfl
  have d2:Fv 1 (AM (AN (By A u).tail)) (By A u)=(By A u).tail:=by
   rw[Fv,AS,ADi,Aqo,AoX]
  have hcat:K1 ([[u],[OA n u v],By B v,[OA n v u],(By A u).tail],())=some (Bs n A B u v,()):=by
   rw[Xh _ (by simp) (by simp;omega)]
   simp[Bs]
  have ne:((i:Int))≠(j:Int):=by omega
  simp only[AIt n rings u v hD,hRF,iu,iv,and_self,Aoa,Ag,Zm n rings _ hD.1 (fun l hl=>(hD.2 l hl).1),pu,pv,ne,AoI,Aob,An2,AT hi,AT hj,Abj,AMB,rA.1,rB.1,hu,hv,s1,s2,Afb,d1,d2,hcat,y1]
theorem AWZ{n:Int}{rings:List (List Int)}{u v:Int}(h:FR n rings)(iu:In n u)(iv:In n v)(hp:plc rings u=plc rings v):
  Zs ((n,(rings,())),u,v,())=some (n,rings,5,()):=by
 have hD:=h.dom
 have hRF:=ANd.2 h
 rw[Zr,QU]
 simp only[AIt n rings u v hD,hRF,iu,iv,and_self,Aoa,Ag,Zm n rings _ hD.1 (fun l hl=>(hD.2 l hl).1),hp,AoI,An2]
end Go.Pev.Pl
end
section
namespace Go.Pev.Pl
open Tok
def P6(rings:List (List Int))(a b:Int):Prop:=∃ A∈rings,a∈A∧b∈A
structure FC(n:Int)(rings:List (List Int))(l:List Edge):Prop where
 fr:FR n rings
 sam:∀ a b,In n a→In n b→(P6 rings a b↔Con l a b)
 arcs:∀ A∈rings,∀ u v,okT n (.arc u v)→OA n u v∈A→∃ e∈l,(e.1=u∧e.2.1=v)∨(e.1=v∧e.2.1=u)
theorem FR.Afw{n:Int}{rings:List (List Int)}(h:FR n rings){a b:Int}(ia:In n a)(ib:In n b):plc rings a=plc rings b↔P6 rings a b:=by
 obtain⟨i,A,pa,hi,ha,_⟩:=ABI (h.cov a ia)
 obtain⟨j,B,pb,hj,hb,_⟩:=ABI (h.cov b ib)
 rw[pa,pb]
 constructor
 ·intro e
  have:i=j:=by omega
  subst this
  rw[hi]at hj
  cases hj
  exact⟨A,An6 hi,ha,hb⟩
 ·rintro⟨K,hK,h1,h2⟩
  obtain⟨k,hk⟩:∃ k:Nat,rings[k]? = some K:=by
   obtain⟨k,hk,rfl⟩:=Apb hK
   exact⟨k,Ant hk⟩
  rw[h.uniq hi hk ia.2.2.2 ha h1,h.uniq hj hk ib.2.2.2 hb h2]
theorem FR.one{n:Int}{rings:List (List Int)}(h:FR n rings){A B:List Int}(hA:A∈rings)(hB:B∈rings){v:Int}(iv:v<n)(h1:v∈A)(h2:v∈B):A=B:=by
 obtain⟨i,hi,rfl⟩:=Apb hA
 obtain⟨j,hj,rfl⟩:=Apb hB
 have:=h.uniq (Ant hi) (Ant hj) iv h1 h2
 subst this
 rfl
theorem P6.perm{a b:List (List Int)}(h:a.Perm b)(x y:Int):P6 a x y↔P6 b x y:=by
 constructor
 ·rintro⟨A,hA,h1⟩;exact⟨A,h.mem_iff.1 hA,h1⟩
 ·rintro⟨A,hA,h1⟩;exact⟨A,h.mem_iff.2 hA,h1⟩
theorem Acu{n u v x y:Int}{A B:List Int}(hA:TI n A)(hB:TI n B)(hu:u∈A)(hv:v∈B)(iu:In n u)(iv:In n v)(hd:Dis n A B)(ho:okT n (.arc x y))(h:OA n x y∈Bs n A B u v):OA n x y∈A∨OA n x y∈B∨(x=u∧y=v)∨(x=v∧y=u):=by
 obtain⟨_,l2,_,huv,ho2⟩:=T9 hA hB hu hv iu iv hd
 have pA:=(DK hu).perm
 have pB:=(DK hv).perm
 have g:=ANZ ho
 rw[Bs,Anx,Anx,Anv,Anx]at h
 rcases h with h|h|h|h|h
 ·have:=iu.2.2.2;omega
 ·rw[Hu ho,Hu ho2]at h
  have:=RV ho ho2 h
  cases this
  exact .inr (.inr (.inl ⟨rfl,rfl⟩))
 ·exact .inr (.inl (pB.mem_iff.2 h))
 ·rw[Hu ho,Hu (MK ho2)]at h
  have:=RV ho (MK ho2) h
  cases this
  exact .inr (.inr (.inr ⟨rfl,rfl⟩))
 ·refine .inl (pA.mem_iff.2 ?_)
  rw[l2]
  exact AoO _ h
theorem AmD{n:Int}{rings:List (List Int)}{l:List Edge}{e:Edge}(h:FC n rings l)(iu:In n e.1)(iv:In n e.2.1):
  ∃ zs q,Zs ((n,(rings,())),e.1,e.2.1,())=some (n,zs,q,())∧FC n zs (l++[e])∧(q=0∧zs.length+1=rings.length∨q=5∧zs=rings):=by
 have hF:=h.fr
 obtain⟨i,A,pu,hi,hu,_⟩:=ABI (hF.cov _ iu)
 obtain⟨j,B,pv,hj,hv,_⟩:=ABI (hF.cov _ iv)
 have mA:=An6 hi
 have mB:=An6 hj
 by_cases hij:i=j
 ·have hpe:plc rings e.1=plc rings e.2.1:=by rw[pu,pv,hij]
  refine⟨rings,5,AWZ hF iu iv hpe,⟨hF,fun a b ia ib => ?_,fun A hA u v ho hm => ?_⟩,.inr ⟨rfl,rfl⟩⟩
  ·rw[h.sam a b ia ib,Con.snoc]
   have hc:Con l e.1 e.2.1:=(h.sam _ _ iu iv).1 ((hF.Afw iu iv).1 hpe)
   constructor
   ·exact .inl
   ·rintro (g|⟨g1,g2⟩|⟨g1,g2⟩)
    ·exact g
    ·exact g1.trans (hc.trans g2)
    ·exact g1.trans (hc.symm.trans g2)
  ·obtain⟨e',h1,h2⟩:=h.arcs A hA u v ho hm
   exact⟨e',by simp[h1],h2⟩
 ·obtain⟨zs,rest,q1,q3,q4,q5,q6⟩:=Akx hF iu iv hi hj hu hv hij
  have gA:=hF.rg A mA
  have gB:=hF.rg B mB
  obtain⟨l1,l2,l3,huv,ho⟩:=T9 gA.2.2.2 gB.2.2.2 hu hv iu iv q6
  obtain⟨hRG,hrot⟩:=ATQ l1
  have len1:=q4.length_eq
  have len2:=q5.length_eq
  simp only[An0]at len1 len2
  refine⟨zs,0,q1,⟨q3,fun a b ia ib => ?_,fun K hK x y hxy hm => ?_⟩,.inl ⟨rfl,by omega⟩⟩
  ·rw[P6.perm q5,Con.snoc,← h.sam a b ia ib,← h.sam a _ ia iu,← h.sam _ b iv ib,← h.sam a _ ia iv,← h.sam _ b iu ib]
   have pmem:∀ x,In n x→(x∈plain (Bs n A B e.1 e.2.1)↔x∈A∨x∈B):=fun x ix=>by rw[← hrot.perm.mem_iff];exact l3 x ix.2.2.2
   have sA:∀ x,In n x→(P6 rings x e.1↔x∈A):=fun x ix=>by
    constructor
    ·rintro⟨K,hK,h1,h2⟩
     rw[hF.one mA hK iu.2.2.2 hu h2];exact h1
    ·intro hx;exact⟨A,mA,hx,hu⟩
   have sB:∀ x,In n x→(P6 rings x e.2.1↔x∈B):=fun x ix=>by
    constructor
    ·rintro⟨K,hK,h1,h2⟩
     rw[hF.one mB hK iv.2.2.2 hv h2];exact h1
    ·intro hx;exact⟨B,mB,hx,hv⟩
   have sy:∀ x y,P6 rings x y↔P6 rings y x:=fun x y=>⟨fun ⟨K,a,b,c⟩=>⟨K,a,c,b⟩,fun ⟨K,a,b,c⟩=>⟨K,a,c,b⟩⟩
   rw[sA a ia,sB a ia,sy e.2.1 b,sB b ib,sy e.1 b,sA b ib]
   have hs:P6 rings a b↔(a∈A∧b∈A)∨(a∈B∧b∈B)∨∃ K∈rest,a∈K∧b∈K:=by
    rw[P6.perm q4]
    simp only[P6,Anx,exists_eq_or_imp]
   have hz:P6 (plain (Bs n A B e.1 e.2.1)::rest) a b↔((a∈A∨a∈B)∧(b∈A∨b∈B))∨∃ K∈rest,a∈K∧b∈K:=by
    simp only[P6,Anx,exists_eq_or_imp,pmem a ia,pmem b ib]
   rw[hs,hz]
   constructor
   ·rintro (⟨h1|h1,h2|h2⟩|h)
    ·exact .inl (.inl ⟨h1,h2⟩)
    ·exact .inr (.inl ⟨h1,h2⟩)
    ·exact .inr (.inr ⟨h1,h2⟩)
    ·exact .inl (.inr (.inl ⟨h1,h2⟩))
    ·exact .inl (.inr (.inr h))
   ·rintro ((⟨h1,h2⟩|⟨h1,h2⟩|h)|⟨h1,h2⟩|⟨h1,h2⟩)
    ·exact .inl ⟨.inl h1,.inl h2⟩
    ·exact .inl ⟨.inr h1,.inr h2⟩
    ·exact .inr h
    ·exact .inl ⟨.inl h1,.inr h2⟩
    ·exact .inl ⟨.inr h1,.inl h2⟩
  ·have old:∀ K∈rings,OA n x y∈K→∃ e'∈l++[e],(e'.1=x∧e'.2.1=y)∨(e'.1=y∧e'.2.1=x):=fun K hK hm=>by
    obtain⟨e',h1,h2⟩:=h.arcs K hK x y hxy hm
    exact⟨e',by simp[h1],h2⟩
   rcases Anx.1 (q5.mem_iff.1 hK)with rfl|hK
   ·rcases Acu gA.2.2.2 gB.2.2.2 hu hv iu iv q6 hxy (hrot.perm.mem_iff.2 hm)with g|g|⟨g1,g2⟩|⟨g1,g2⟩
    ·exact old A mA g
    ·exact old B mB g
    ·exact⟨e,by simp,.inl ⟨g1.symm,g2.symm⟩⟩
    ·exact⟨e,by simp,.inr ⟨g2.symm,g1.symm⟩⟩
   ·exact old K (q4.mem_iff.2 (by simp[hK])) hm
theorem AYf{N:Nat}(h1:1≤N)(h2:N≤64):FC (N:Int) (B4 N) []:=by
 have hS:∀ A∈B4 N,∃ k:Nat,k<N∧A=[(k:Int)]:=fun A hA=>by
  simp only[B4,AoA,AoT]at hA
  obtain⟨k,hk,rfl⟩:=hA
  exact⟨k,hk,rfl⟩
 have key:∀ k,k<N→In (N:Int) (k:Int):=fun k hk=>⟨by omega,by omega,by omega,by omega⟩
 refine⟨⟨⟨by omega,by omega⟩,fun l hl => ?_,?_,?_,fun v hv => ?_⟩,fun a b ia ib => ?_,fun A hA u v ho hm => ?_⟩
 ·obtain⟨k,hk,rfl⟩:=hS l hl
  refine⟨⟨by simp,fun x hx => ?_,by simp⟩,by simp,rfl,(AnJ (N:Int) k).2 (key k hk)⟩
  simp only[AoY]at hx
  omega
 ·rw[B4,Apm]
  exact List.pairwise_lt_range.imp fun h=>by simp only[hd,List.headD_cons];omega
 ·rw[B4,Apm]
  exact List.pairwise_lt_range.imp fun {a b} h t ht _ ht2=>by
   simp only[AoY]at ht ht2
   omega
 ·obtain⟨k,rfl⟩:=An4 hv.2.2.1
  have:=hv.2.2.2
  exact⟨[(k:Int)],by simp only[B4,AoA,AoT];exact⟨k,by omega,rfl⟩,by simp⟩
 ·constructor
  ·rintro⟨A,hA,h1,h2⟩
   obtain⟨k,_,rfl⟩:=hS A hA
   simp only[AoY]at h1 h2
   rw[h1,h2]
   exact .refl _
  ·intro hc
   have:=hc.nil
   subst this
   obtain⟨k,rfl⟩:=An4 ia.2.2.1
   have:=ia.2.2.2
   exact⟨[(k:Int)],by simp only[B4,AoA,AoT];exact⟨k,by omega,rfl⟩,by simp,by simp⟩
 ·obtain⟨k,hk,rfl⟩:=hS A hA
  simp only[AoY]at hm
  have:=ANZ ho
  omega
theorem AR5(l:List Edge)(hs:l.length<1073741824):ends (l,())=some (l.flatMap fun e=>[e.1,e.2.1],()):=by
 rw[AaC,AMQ]
 have e:=Ef (step:=Kt) (fun i (a:List Int)=>(a,l,AN l,(i:Int),())) l (fun x a=>.inl (a++[x.1,x.2.1])) (fun a=>.inl (a,())) (fun i a=>a.length=2*i) (by omega)
  (fun i x a hi hx h1=>by
   refine⟨fun m' h' => ?_,fun r h'=>by cases h'⟩
   cases h'
   rw[Kt,AS,AL,Anq hi]
   simp only[AT hx]
   rw[AP (by omega),Bh (by simp only[AS,An0,AoB];omega)]
   exact⟨rfl,by simp;omega⟩)
  (fun a _=>by rw[Kt,AS,AL,Anp (by omega)]) [] rfl
 have e':AX Kt many ([],l,AN l,(0:Int),())=_:=e
 rw[e',CN]
 have hf:∀ (xs:List Edge) (acc:List Int),xs.foldl (fun a x=>a++[x.1,x.2.1]) acc=acc++xs.flatMap fun e=>[e.1,e.2.1]:=by
  intro xs
  induction xs with
  |nil=>intro acc;simp
  |cons x xs ih=>intro acc;rw[Aow,ih,AoZ];simp
 rw[hf]
 rfl
theorem Aio(n:Int)(l:List Edge):((l.flatMap fun e=>[e.1,e.2.1]).all fun v=>decide (In n v))=l.all fun e=>decide (In n e.1∧In n e.2.1):=by
 induction l with
 |nil=>rfl
 |cons e l ih=>
  rw[AoZ,List.all_append,List.all_cons,ih]
  simp
theorem Ain(l:List Edge):(l.flatMap fun e=>[e.1,e.2.1]).length=2*l.length:=by
 induction l with
 |nil=>rfl
 |cons e l ih=>rw[AoZ,Anw,ih];simp;omega
theorem AWY{n:Int}(l:List Edge)(hs:l.length<1073741824)(ha:∀ e∈l,In n e.1∧In n e.2.1):
  ∀ (m i cnt:Nat) (rings:List (List Int)) (taken:List Bool),i+m=l.length→taken.length=i→FC n rings (l.take i)→m<cnt →
  ∃ zs taken',Aj DP cnt (n,rings,(0:Int),taken,l,(l.length:Int),(i:Int),())=some (.inl (n,zs,(0:Int),taken',()))∧FC n zs l∧taken'.length=l.length:=by
 intro m
 induction m with
 |zero=>
  intro i cnt rings taken hi ht h hc
  obtain⟨cnt,rfl⟩:∃ c,cnt=c+1:=⟨cnt-1,by omega⟩
  rw[Aoo (by omega)]at h
  refine⟨rings,taken,?_,h,by omega⟩
  rw[Aj,DP,AL,Anp (by omega)]
 |succ m ih=>
  intro i cnt rings taken hi ht h hc
  obtain⟨cnt,rfl⟩:∃ c,cnt=c+1:=⟨cnt-1,by omega⟩
  have hi':i<l.length:=by omega
  have hx:l[i]? = some l[i]:=Ant hi'
  obtain⟨iu,iv⟩:=ha _ (Apg hi')
  obtain⟨zs,q,e1,e2,_⟩:=AmD h iu iv
  rw[Aj,DP,AL,Anq hi']
  simp only[AT hx,e1]
  rw[AP (by omega),Bh (by simp only[AS,An0,AoB];omega)]
  rw[← ApK hi']at e2
  exact ih (i+1) cnt zs _ (by omega) (by simp[Dm,ht]) e2 (by omega)
theorem AlV(k:Int)(l:List Edge)(hk:Sz k)(hs:l.length<1073741824):
  ((∀ e∈l,In k e.1∧In k e.2.1)∧∃ rings,fof (k,l,())=some ((k,(rings,())),0,())∧FC k rings l) ∨
  (¬ (∀ e∈l,In k e.1∧In k e.2.1)∧fof (k,l,())=some ((0,([],())),10,())):=by
 have hmany:9223372036854775808<many:=by simp only[many];omega
 rw[Aid,AZ8]
 have hm:Ys k=(k,B4 k.toNat,0,()):=by rw[Ys,An5 hk]
 obtain⟨s1,s2⟩:=hk
 obtain⟨N,rfl⟩:=An4 (show 0≤k by omega)
 have h0:=AYf (N:=N) (by omega) (by omega)
 have hD:=h0.fr.dom
 have hRF:=ANd.2 h0.fr
 have hfl:=Ain l
 have hth:UQ (((N:Int),(B4 N,())),l.flatMap fun e=>[e.1,e.2.1],())=some (if ∀ e∈l,In (N:Int) e.1∧In (N:Int) e.2.1 then 0 else 10,()):=by
  rw[AXB _ _ _ hD (by omega),Aio,AnH,An5 hRF]
  by_cases ha:∀ e∈l,In (N:Int) e.1∧In (N:Int) e.2.1
  ·rw[An5 ha,An5 (AoM.2 fun e he=>Anq (ha e he))]
  ·rw[An1 ha,An1]
   intro hc
   exact ha fun e he=>Ap5 (AoM.1 hc e he)
 simp only[Aaw,hm,Aor,ARP,An2]
 rw[AIH,RP,Xc,Kv]
 by_cases ha:∀ e∈l,In (N:Int) e.1∧In (N:Int) e.2.1
 ·refine .inl ⟨ha,?_⟩
  rw[An5 ha]at hth
  obtain⟨zs,taken,e1,e2,_⟩:=AWY l hs ha l.length 0 many (B4 N) [] (by omega) rfl (by rw[List.take_zero];exact h0) (by omega)
  have e1':Aj DP many ((N:Int),B4 N,(0:Int),[],l,(l.length:Int),(0:Int),())=_:=e1
  simp only[AR5 l hs,hth,ARP,An2,A3,AS,e1']
  exact⟨zs,rfl,e2⟩
 ·refine .inr ⟨ha,?_⟩
  rw[An1 ha]at hth
  simp only[AR5 l hs,hth,Ag]
  rfl
end Go.Pev.Pl
end
section
namespace Go.Pev.Pl
open Tok
def cl(out:List Int)(v:Int):Int:=out.getD v.toNat 0
def CI(N:Nat)(l:List Edge)(out:List Int):Prop:=out.length=N∧∀ k,k<N→0≤out.getD k 0∧out.getD k 0≤(k:Int)∧Con l (k:Int) (out.getD k 0)
theorem AY2:∀ (l:List Int) (k:Nat) (x:Int),k<l.length→(l.set k x).sum=l.sum-l.getD k 0+x:=by
 intro l
 induction l with
 |nil=>intro k x h;simp at h
 |cons y l ih=>
  intro k x h
  cases k with
  |zero=>simp;omega
  |succ k=>
   have:=ih k x (by simpa using h)
   simp only[List.set_cons_succ,AqU,List.getD_cons_succ,this]
   omega
theorem Ox{N:Nat}{l:List Edge}{out:List Int}(h:CI N l out)(hN:N≤64):0≤out.sum∧out.sum≤4096:=by
 obtain⟨h1,h2⟩:=h
 have key:∀ (xs:List Int),(∀ x∈xs,0≤x∧x≤64)→0≤xs.sum∧xs.sum≤64*(xs.length:Int):=by
  intro xs
  induction xs with
  |nil=>intro _;simp
  |cons x xs ih=>
   intro h
   have h3:=ih fun y hy=>h y (AoO _ hy)
   have h4:=h x (by simp)
   simp only[AqU,An0]
   omega
 have:=key out fun x hx=>by
  obtain⟨k,hk,rfl⟩:=Apb hx
  have h5:=h2 k (by omega)
  rw[Ans,Ant hk,Aom]at h5
  omega
 omega
theorem AnR(N:Nat)(l:List Edge)(hs:l.length<1073741824)(ha:∀ e∈l,In (N:Int) e.1∧In (N:Int) e.2.1):
  ∀ (m i cnt:Nat) (out:List Int) (more:Bool),i+m=l.length→CI N l out→m<cnt →
  ∃ out' more',Aj E0 cnt ((N:Int),l,out,more,(i:Int),())=some (.inl ((N:Int),l,out',more',()))∧CI N l out' ∧
   ((more'=more∧out'=out∧∀ e∈l.drop i,cl out e.1=cl out e.2.1)∨(more'=true∧out'.sum<out.sum)):=by
 intro m
 induction m with
 |zero=>
  intro i cnt out more hi h hc
  obtain⟨cnt,rfl⟩:∃ c,cnt=c+1:=⟨cnt-1,by omega⟩
  refine⟨out,more,?_,h,.inl ⟨rfl,rfl,?_⟩⟩
  ·rw[Aj,E0,AS,AL,Anp (by omega)]
  ·rw[ApP (by omega)]
   intro e he;cases he
 |succ m ih=>
  intro i cnt out more hi h hc
  obtain⟨cnt,rfl⟩:∃ c,cnt=c+1:=⟨cnt-1,by omega⟩
  have hi':i<l.length:=by omega
  have hx:l[i]? = some l[i]:=Ant hi'
  have hm:=Apg hi'
  have hdr:l.drop i=l[i]::l.drop (i+1):=Aod hi'
  rw[Aj,E0,AS,AL,Anq hi']
  simp only[AT hx]
  rw[hdr,AP (by omega)]
  generalize l[i]=e at *
  obtain⟨iu,iv⟩:=ha e hm
  have hcon:=Con.edge e hm
  obtain⟨eu,ev,eu'⟩:=e
  simp only at iu iv hcon ⊢
  obtain⟨u,rfl⟩:=An4 iu.2.2.1
  obtain⟨v,rfl⟩:=An4 iv.2.2.1
  have hu:u<N:=by have:=iu.2.2.2;omega
  have hv:v<N:=by have:=iv.2.2.2;omega
  have hul:u<out.length:=by rw[h.1];exact hu
  have hvl:v<out.length:=by rw[h.1];exact hv
  rw[Ah,Anp (by omega)]
  simp only[]
  rw[Ah,Anp (by omega)]
  simp only[]
  rw[An,Anp (by omega)]
  simp only[]
  rw[An,Anp (by omega)]
  simp only[LZ (0:Int) hul,LZ (0:Int) hvl,Pr,DQ,Ag]
  by_cases hq:out.getD u 0=out.getD v 0
  ·rw[Anq hq]
   obtain⟨out',more',e1,e2,e3⟩:=ih (i+1) cnt out more (by omega) h (by omega)
   refine⟨out',more',e1,e2,?_⟩
   rcases e3 with⟨g1,g2,g3⟩|g
   ·refine .inl ⟨g1,g2,fun e' he' => ?_⟩
    rcases Anx.1 he' with rfl|he'
    ·simpa [cl]using hq
    ·exact g3 e' he'
   ·exact .inr g
  ·rw[Anp hq]
   have hne:u≠v:=by rintro rfl;exact hq rfl
   have hlow:B5 (out.getD u 0) (out.getD v 0)=if out.getD v 0<out.getD u 0 then out.getD v 0 else out.getD u 0:=rfl
   generalize hlw:B5 (out.getD u 0) (out.getD v 0)=low at *
   have hvl2:v<(out.set u low).length:=by simp;exact hvl
   simp only[LZ (0:Int) hvl2]
   have cu:=h.2 u hu
   have cv:=h.2 v hv
   have hset:∀ k,k<N→((out.set u low).set v low).getD k 0=if k=u∨k=v then low else out.getD k 0:=by
    intro k hk
    have hkl:k<out.length:=by rw[h.1];exact hk
    by_cases k2:k=v
    ·subst k2
     simp[Ans,hkl]
    ·by_cases k1:k=u
     ·subst k1
      rw[An5 (.inl rfl),Ans,Aoy (Aol k2)]
      simp[hkl]
     ·rw[An1 (by omega),Ans,Aoy (Aol k2),Aoy (Aol k1),Ans]
   have hlc:0≤low∧low≤(u:Int)∧low≤(v:Int)∧Con l (u:Int) low:=by
    rw[hlow]
    split
    ·exact⟨cv.1,by omega,cv.2.1,hcon.trans cv.2.2⟩
    ·exact⟨cu.1,cu.2.1,by omega,cu.2.2⟩
   have hI:CI N l ((out.set u low).set v low):=by
    refine⟨by simp[h.1],fun k hk => ?_⟩
    rw[hset k hk]
    split
    ·rename_i hkk
     rcases hkk with rfl|rfl
     ·exact⟨hlc.1,hlc.2.1,hlc.2.2.2⟩
     ·exact⟨hlc.1,hlc.2.2.1,hcon.symm.trans hlc.2.2.2⟩
    ·exact h.2 k hk
   have hsum:((out.set u low).set v low).sum<out.sum:=by
    rw[AY2 _ _ _ hvl2,AY2 _ _ _ hul]
    have:(out.set u low).getD v 0=out.getD v 0:=by
     rw[Ans,Aoy hne,← Ans]
    rw[this,hlow]
    split<;>omega
   obtain⟨out',more',e1,e2,e3⟩:=ih (i+1) cnt _ true (by omega) hI (by omega)
   refine⟨out',more',e1,e2,.inr ?_⟩
   rcases e3 with⟨g1,g2,_⟩|⟨g1,g2⟩
   ·exact⟨g1,by rw[g2];exact hsum⟩
   ·exact⟨g1,by omega⟩
theorem AmW(N:Nat)(hN:N≤64)(l:List Edge)(hs:l.length<1073741824)(ha:∀ e∈l,In (N:Int) e.1∧In (N:Int) e.2.1):
  ∀ (m cnt:Nat) (out:List Int),out.sum.toNat=m→CI N l out→m+1<cnt →
  ∃ out',Aj G5 cnt ((N:Int),l,out,true,())=some (.inl (out',()))∧CI N l out'∧∀ e∈l,cl out' e.1=cl out' e.2.1:=by
 have hmany:9223372036854775808<many:=by simp only[many];omega
 intro m
 induction m using Nat.strongRecOn with
 |_ m ih=>
 intro cnt out hm h hc
 obtain⟨cnt,rfl⟩:∃ c,cnt=c+1:=⟨cnt-1,by omega⟩
 rw[Aj,G5]
 obtain⟨out',more',e1,e2,e3⟩:=AnR N l hs ha l.length 0 many out false (by omega) h (by omega)
 have e1':Aj E0 many ((N:Int),l,out,false,(0:Int),())=_:=e1
 simp only[A3,e1']
 rcases e3 with⟨g1,g2,g3⟩|⟨g1,g2⟩
 ·subst g1 g2
  obtain⟨cnt,rfl⟩:∃ c,cnt=c+1:=⟨cnt-1,by omega⟩
  rw[Aj,G5]
  exact⟨_,rfl,e2,by simpa using g3⟩
 ·subst g1
  have b1:=Ox h hN
  have b2:=Ox e2 hN
  exact ih out'.sum.toNat (by omega) cnt out' rfl e2 (by omega)
structure Wj(n:Int)(l:List Edge)(out:List Int):Prop where
 len:(out.length:Int)=n
 same:∀ a b,In n a→In n b→(cl out a=cl out b↔Con l a b)
 isin:∀ a,In n a→In n (cl out a)
 con:∀ a,In n a→Con l a (cl out a)
 least:∀ a b,In n a→In n b→Con l a b→cl out a≤b
theorem GP(n:Int)(l:List Edge)(hn:Sz n)(hs:l.length<1073741824)(ha:∀ e∈l,In n e.1∧In n e.2.1):∃ out,Nr (n,l,())=some (out,())∧Wj n l out:=by
 have hmany:9223372036854775808<many:=by simp only[many];omega
 obtain⟨s1,s2⟩:=hn
 obtain⟨N,rfl⟩:=An4 (show 0≤n by omega)
 rw[AM4,Mm]
 have key:∀ (m k cnt:Nat),k+m=N→m<cnt→Aj E1 cnt ((N:Int),l,(List.range k).map (fun(k:Nat)=>(k:Int)),(k:Int),())=some (.inl ((N:Int),l,(List.range N).map (fun(k:Nat)=>(k:Int)),())):=by
  intro m
  induction m with
  |zero=>
   intro k cnt hk hc
   obtain⟨cnt,rfl⟩:∃ c,cnt=c+1:=⟨cnt-1,by omega⟩
   have:k=N:=by omega
   subst this
   rw[Aj,E1,AL,Anp (by omega)]
  |succ m ih=>
   intro k cnt hk hc
   obtain⟨cnt,rfl⟩:∃ c,cnt=c+1:=⟨cnt-1,by omega⟩
   have hih:=ih (k+1) cnt (by omega) (by omega)
   rw[Aok,Aon]at hih
   rw[Aj,E1,AL,Anq (by omega)]
   simp only[]
   rw[AP (by omega),Bh (by simp only[AS,An0,AoB,AoE,AoR];omega)]
   exact hih
 have e0:=key N 0 many (by omega) (by omega)
 have e0':Aj E1 many ((N:Int),l,[],(0:Int),())=_:=e0
 have h0:CI N l ((List.range N).map (fun(k:Nat)=>(k:Int))):=by
  refine⟨by simp,fun k hk => ?_⟩
  have:((List.range N).map (fun(k:Nat)=>(k:Int))).getD k 0=(k:Int):=by simp[Ans,hk]
  rw[this]
  exact⟨by omega,by omega,.refl _⟩
 have hb:=Ox h0 (by omega)
 obtain⟨out,e1,e2,e3⟩:=AmW N (by omega) l hs ha _ many _ rfl h0 (by omega)
 simp only[A3,e0',e1]
 have fact:∀ a,In (N:Int) a→0≤cl out a∧cl out a≤a∧Con l a (cl out a):=by
  intro a hia
  obtain⟨k,rfl⟩:=An4 hia.2.2.1
  have:=e2.2 k (by have:=hia.2.2.2;omega)
  simpa [cl]using this
 refine⟨out,rfl,by rw[e2.1],fun a b ia ib=>⟨fun h => ?_,fun h=>h.const e3⟩,fun a ia => ?_,fun a ia=>(fact a ia).2.2,fun a b ia ib h => ?_⟩
 ·have h1:=(fact a ia).2.2
  have h2:=(fact b ib).2.2
  rw[← h]at h2
  exact h1.trans h2.symm
 ·have:=fact a ia
  have h3:=ia.2.2.2
  exact⟨s1,s2,by omega,by omega⟩
 ·have h1:cl out a=cl out b:=h.const e3
  have:=(fact b ib).2.1
  omega
end Go.Pev.Pl
end
end
section
namespace Go.Pev.Pl
def Low(l:List Edge)(k:Nat):Prop:=∀ j:Nat,j<k→¬ Con l (j:Int) (k:Int)
noncomputable def Ahn(l:List Edge)(k:Nat):Bool:=@decide (Low l k) (Classical.propDecidable _)
theorem Hb(l:List Edge)(k:Nat):Ahn l k=true↔Low l k:=by
 unfold Ahn
 exact @decide_eq_true_iff _ (Classical.propDecidable _)
noncomputable def cc(N:Nat)(l:List Edge):Nat:=(List.range N).countP (Ahn l)
noncomputable def N8(l:List Edge)(a b:Int):Bool:=@decide (Con l a b) (Classical.propDecidable _)
theorem CX(l:List Edge)(a b:Int):N8 l a b=true↔Con l a b:=by
 unfold N8
 exact @decide_eq_true_iff _ (Classical.propDecidable _)
theorem Ho(l:List Edge)(a b:Int):N8 l a b=false↔¬ Con l a b:=by
 rw[← CX];cases N8 l a b<;>simp
theorem Con.sub{l l':List Edge}(h:∀ e∈l,e∈l'){a b:Int}(c:Con l a b):Con l' a b:=c.mono fun e he=>⟨e,h e he,.inl ⟨rfl,rfl⟩⟩
theorem Con.cut{l l':List Edge}(h:∀ e∈l,Con l' e.1 e.2.1){a b:Int}(c:Con l a b):Con l' a b:=by
 induction c with
 |refl a=>exact .refl a
 |edge e he=>exact h e he
 |symm _ ih=>exact ih.symm
 |trans _ _ ih1 ih2=>exact ih1.trans ih2
theorem Ahm(l:List Edge):∀ v:Nat,∃ m:Nat,m≤v∧Con l (m:Int) (v:Int)∧Low l m:=by
 intro v
 induction v using Nat.strongRecOn with
 |ind v ih=>
  by_cases h:Low l v
  ·exact⟨v,An3 _,.refl _,h⟩
  ·have:∃ j:Nat,j<v∧Con l (j:Int) (v:Int):=ApF fun hn=>h fun j hj hc=>hn ⟨j,hj,hc⟩
   obtain⟨j,hj,hc⟩:=this
   obtain⟨m,h1,h2,h3⟩:=ih j hj
   exact⟨m,by omega,h2.trans hc,h3⟩
theorem Low.le{l:List Edge}{m j:Nat}(h:Low l m)(hc:Con l (m:Int) (j:Int)):m≤j:=by
 refine Nat.le_of_not_lt fun hj=>h j hj hc.symm
theorem Low.uniq{l:List Edge}{a b:Nat}(ha:Low l a)(hb:Low l b)(h:Con l (a:Int) (b:Int)):a=b:=by
 have:=ha.le h
 have:=hb.le h.symm
 omega
theorem AjK{N:Nat}{l l':List Edge}(h:∀ j k:Nat,j<N→k<N→(Con l (j:Int) (k:Int)↔Con l' (j:Int) (k:Int))):cc N l=cc N l':=by
 unfold cc
 refine AqD fun k hk => ?_
 have hk:k<N:=by simpa using hk
 rw[Hb,Hb]
 constructor
 ·intro q j hj hc;exact q j hj ((h j k (by omega) hk).2 hc)
 ·intro q j hj hc;exact q j hj ((h j k (by omega) hk).1 hc)
theorem AEQ{N:Nat}{l l':List Edge}(h:∀ a b,Con l a b↔Con l' a b):cc N l=cc N l':=AjK fun _ _ _ _=>h _ _
theorem AMx{l l':List Edge}(h:∀ e,e∈l↔e∈l'){a b:Int}:Con l a b↔Con l' a b:=⟨fun c=>c.sub fun e he=>(h e).1 he,fun c=>c.sub fun e he=>(h e).2 he⟩
theorem Alw{N:Nat}{l l':List Edge}(h:l.Perm l'):cc N l=cc N l':=AEQ fun _ _=>AMx fun _=>h.mem_iff
theorem AnF(N:Nat):cc N []=N:=by
 unfold cc
 have:(List.range N).countP (Ahn [])=(List.range N).length:=by
  rw[List.countP_eq_length]
  intro k _
  rw[Hb]
  intro j hj hc
  have:=hc.nil
  omega
 rw[this,AoR]
theorem AD2{P:Nat→Bool}{M:Nat}(hM:P M=true):∀ {xs:List Nat},xs.Nodup→M∈xs→xs.countP P=xs.countP (fun k=>P k && !decide (k=M))+1:=by
 intro xs
 induction xs with
 |nil=>intro _ h;cases h
 |cons x xs ih=>
  intro hn h
  rw[AoP]at hn
  rw[Apw,Apw]
  by_cases hx:x=M
  ·subst hx
   have:xs.countP P=xs.countP (fun k=>P k && !decide (k=x)):=by
    refine AqD fun k hk => ?_
    have:k≠x:=fun e=>hn.1 (e▸hk)
    simp[this]
   simp[hM,this]
  ·have:=ih hn.2 (by rcases Anx.1 h with h|h;exact absurd h.symm hx;exact h)
   rw[this]
   simp[hx]
   omega
def InE(N:Nat)(e:Edge):Prop:=(0≤e.1∧e.1<(N:Int))∧(0≤e.2.1∧e.2.1<(N:Int))
theorem ASb{l:List Edge}{e:Edge}(h:Con l e.1 e.2.1){a b:Int}:Con (l++[e]) a b↔Con l a b:=
 ⟨fun c=>c.cut fun x hx=>by
  rcases Anv.1 hx with hx|hx
  ·exact .edge x hx
  ·rw[AoY]at hx;subst hx;exact h,fun c=>c.sub fun x hx=>Anv.2 (.inl hx)⟩
theorem AaK{N:Nat}{l:List Edge}{e:Edge}(he:InE N e):cc N l=cc N (l++[e])+(if N8 l e.1 e.2.1=true then 0 else 1):=by
 by_cases h:Con l e.1 e.2.1
 ·rw[An5 ((CX _ _ _).2 h),ApI]
  exact AEQ fun a b=>(ASb h).symm
 ·rw[An1 (fun hh=>h ((CX _ _ _).1 hh))]
  obtain⟨⟨a1,a2⟩,b1,b2⟩:=he
  obtain⟨u,hu⟩:=An4 a1
  obtain⟨v,hv⟩:=An4 b1
  have hsn:∀ {a b:Int},Con (l++[e]) a b↔Con l a b∨(Con l a (u:Int)∧Con l (v:Int) b)∨(Con l a (v:Int)∧Con l (u:Int) b):=by
   intro a b
   rw[Con.snoc,hu,hv]
  rw[hu,hv]at h
  obtain⟨p,p1,p2,p3⟩:=Ahm l u
  obtain⟨q,q1,q2,q3⟩:=Ahm l v
  have hpq:p≠q:=fun e=>h (p2.symm.trans (e▸q2))
  have hlow:∀ k:Nat,Low (l++[e]) k↔Low l k∧k≠max p q:=by
   intro k
   constructor
   ·intro hk
    refine⟨fun j hj hc=>hk j hj (hsn.2 (.inl hc)),fun e => ?_⟩
    refine hk (min p q) (by omega) (hsn.2 ?_)
    by_cases hlt:p<q
    ·rw[e,ApG (by omega),ArC (by omega)]
     exact .inr (.inl ⟨p2,q2.symm⟩)
    ·rw[e,Nat.min_eq_right (by omega),Nat.max_eq_left (by omega)]
     exact .inr (.inr ⟨q2,p2.symm⟩)
   ·rintro⟨hk,hne⟩ j hj hc
    rcases hsn.1 hc with hc|⟨c1,c2⟩|⟨c1,c2⟩
    ·exact hk j hj hc
    ·have e1:=q3.uniq hk (q2.trans c2)
     have e2:=p3.le (p2.trans c1.symm)
     omega
    ·have e1:=p3.uniq hk (p2.trans c2)
     have e2:=q3.le (q2.trans c1.symm)
     omega
  have hM:Ahn l (max p q)=true:=by
   rw[Hb]
   by_cases hlt:p<q
   ·rw[ArC (by omega)];exact q3
   ·rw[Nat.max_eq_left (by omega)];exact p3
  unfold cc
  rw[AD2 hM ApR (by rw[AoT];omega)]
  congr 1
  refine AqD fun k _ => ?_
  rw[Hb,hlow,Anz,Hb]
  simp
noncomputable def gfl:List Edge→List Edge→List Bool
 |_,[]=>[]
 |b,x::xs=>(!N8 b x.1 x.2.1)::gfl (b++[x]) xs
noncomputable def Lm:List Edge→List Edge→List Edge
 |_,[]=>[]
 |b,x::xs=>if N8 b x.1 x.2.1=true then Lm (b++[x]) xs else x::Lm (b++[x]) xs
theorem AlU:∀ (xs b:List Edge),(gfl b xs).length=xs.length:=by
 intro xs
 induction xs with
 |nil=>intro b;rfl
 |cons x xs ih=>intro b;rw[gfl,An0,An0,ih]
theorem ARj:∀ (xs b:List Edge),(Lm b xs).Sublist xs:=by
 intro xs
 induction xs with
 |nil=>intro b;exact List.Sublist.refl _
 |cons x xs ih=>
  intro b
  rw[Lm]
  split
  ·exact(ih _).cons x
  ·exact(ih _).cons_cons x
theorem AEA:∀ (xs b:List Edge) {a c:Int},Con (b++xs) a c↔Con (b++Lm b xs) a c:=by
 intro xs
 induction xs with
 |nil=>intro b a c;rfl
 |cons x xs ih=>
  intro b a c
  have e1:b++x::xs=(b++[x])++xs:=by simp
  rw[e1,ih,Lm]
  by_cases h:Con b x.1 x.2.1
  ·rw[An5 ((CX _ _ _).2 h)]
   constructor
   ·intro q
    refine q.cut fun y hy => ?_
    rcases Anv.1 hy with hy|hy
    ·rcases Anv.1 hy with hy|hy
     ·exact .edge y (Anv.2 (.inl hy))
     ·rw[AoY]at hy;subst hy
      exact h.sub fun z hz=>Anv.2 (.inl hz)
    ·exact .edge y (Anv.2 (.inr hy))
   ·intro q
    refine q.sub fun y hy => ?_
    rcases Anv.1 hy with hy|hy
    ·simp[hy]
    ·simp[hy]
  ·rw[An1 (fun hh=>h ((CX _ _ _).1 hh))]
   exact AMx fun y=>by simp
theorem Ns{N:Nat}:∀ (xs b:List Edge),(∀ e∈xs,InE N e)→cc N b=cc N (b++xs)+(Lm b xs).length:=by
 intro xs
 induction xs with
 |nil=>intro b _;simp[Lm]
 |cons x xs ih=>
  intro b h
  have e1:b++x::xs=(b++[x])++xs:=by simp
  rw[AaK (h x (by simp)),ih (b++[x]) (fun e he=>h e (by simp[he])),e1,Lm]
  by_cases hc:N8 b x.1 x.2.1=true
  ·rw[An5 hc,An5 hc,ApI]
  ·rw[An1 hc,An1 hc,An0]
   omega
theorem AmK{N:Nat}(xs b:List Edge)(h:∀ e∈xs,InE N e):cc N b≤cc N (b++xs)+xs.length:=by
 have:=Ns xs b h
 have:=(ARj xs b).length_le
 omega
def Fo(N:Nat)(l:List Edge):Prop:=cc N l+l.length=N
theorem Fo.perm{N:Nat}{l l':List Edge}(h:Fo N l)(hp:l.Perm l'):Fo N l':=by
 unfold Fo at *
 rw[← Alw hp,← hp.length_eq];exact h
theorem AjL{N:Nat}(l:List Edge)(h:∀ e∈l,InE N e):N≤cc N l+l.length:=by
 have:=AmK l [] h
 rw[AnF,Aoc]at this
 exact this
theorem Fo.front{N:Nat}{a b:List Edge}(h:Fo N (a++b))(ha:∀ e∈a,InE N e)(hb:∀ e∈b,InE N e):Fo N a:=by
 unfold Fo at *
 have h1:=AjL a ha
 have h2:=AmK b a hb
 rw[Anw]at h
 omega
theorem Ags{α:Type}{a l:List α}(h:a.Sublist l):∃ r,l.Perm (a++r):=by
 induction h with
 |slnil=>exact⟨[],Aq1 _⟩
 |@cons a l x _ ih=>
  obtain⟨r,hr⟩:=ih
  exact⟨x::r,(hr.cons x).trans (List.perm_middle.symm)⟩
 |@cons_cons a l x _ ih=>
  obtain⟨r,hr⟩:=ih
  exact⟨r,hr.cons x⟩
theorem Fo.sub{N:Nat}{a l:List Edge}(h:Fo N l)(hs:a.Sublist l)(hl:∀ e∈l,InE N e):Fo N a:=by
 obtain⟨r,hr⟩:=Ags hs
 exact(h.perm hr).front (fun e he=>hl e (hr.mem_iff.2 (Anv.2 (.inl he)))) (fun e he=>hl e (hr.mem_iff.2 (Anv.2 (.inr he))))
theorem Fo.Lm{N:Nat}{b xs:List Edge}(h:Fo N (b++xs))(hb:∀ e∈b,InE N e)(hx:∀ e∈xs,InE N e):Lm b xs=xs:=by
 have h1:=Ns xs b hx
 have h2:=h.front hb hx
 unfold Fo at *
 rw[Anw]at h
 exact(ARj xs b).eq_of_length (by omega)
end Go.Pev.Pl
end
section
namespace Go.Pev.Pl
abbrev Tie:=Int×Int×Int×Bool×Unit
abbrev zT:Tie:=(0,0,0,false,())
def ahead(p x:Tie):Prop:=p.1<x.1∨(p.1=x.1∧p.2.1<x.2.1)
instance (p x:Tie):Decidable (ahead p x):=inferInstanceAs (Decidable (_∨_))
def ed(t:Tie):Edge:=(t.1,t.2.1,())
def trk(ts:List Tie)(k:Int):List Edge:=(ts.filter fun t=>t.2.2.2.1&&decide (k≤t.2.2.1)).map ed
theorem DY{ts:List Tie}{k:Int}{e:Edge}:e∈trk ts k↔∃ t∈ts,t.2.2.2.1=true∧k≤t.2.2.1∧ed t=e:=by
 unfold trk
 simp only[AoA,AoS,Anz,Anu]
 constructor
 ·rintro⟨t,⟨h1,h2,h3⟩,h4⟩;exact⟨t,h1,h2,h3,h4⟩
 ·rintro⟨t,h1,h2,h3,h4⟩;exact⟨t,⟨h1,h2,h3⟩,h4⟩
theorem JH{ts:List Tie}{k k':Int}(h:k≤k'):∀ e∈trk ts k',e∈trk ts k:=by
 intro e he
 obtain⟨t,h1,h2,h3,h4⟩:=DY.1 he
 exact DY.2 ⟨t,h1,h2,by omega,h4⟩
noncomputable def csz(N:Nat)(l:List Edge)(v:Int):Nat:=(List.range N).countP fun(w:Nat)=>N8 l v (w:Int)
theorem AMo{N:Nat}{l l':List Edge}{v v':Int}(h:∀ w:Nat,w<N→Con l v (w:Int)→Con l' v' (w:Int)):csz N l v≤csz N l' v':=by
 unfold csz
 refine List.countP_mono_left fun w hw hc => ?_
 rw[CX]at hc ⊢
 exact h w (by simpa using hw) hc
theorem Alk{N:Nat}{l:List Edge}{v:Nat}(hv:v<N):1≤csz N l (v:Int):=by
 unfold csz
 refine List.countP_pos_iff.2 ⟨v,by simpa using hv,(CX _ _ _).2 (.refl _)⟩
theorem Alj{N:Nat}{l:List Edge}{a b:Nat}(ha:a<N)(hb:b<N)(hab:a≠b)(h:Con l (a:Int) (b:Int)):2≤csz N l (a:Int):=by
 unfold csz
 rw[AD2 (P:=fun(w:Nat)=>N8 l (a:Int) (w:Int)) (M:=a) ((CX _ _ _).2 (.refl _)) ApR (by simpa using ha)]
 have:0<(List.range N).countP (fun(w:Nat)=>N8 l (a:Int) (w:Int) && !decide (w=a)):=by
  refine List.countP_pos_iff.2 ⟨b,by simpa using hb,?_⟩
  rw[Anz,CX]
  exact⟨h,by simp;omega⟩
 omega
theorem Ai1{N:Nat}{l:List Edge}{e:Edge}(h:¬ Con l e.1 e.2.1):csz N (l++[e]) e.1=csz N l e.1+csz N l e.2.1:=by
 unfold csz
 have key:∀ xs:List Nat,xs.countP (fun(w:Nat)=>N8 (l++[e]) e.1 (w:Int))=xs.countP (fun(w:Nat)=>N8 l e.1 (w:Int))+xs.countP (fun(w:Nat)=>N8 l e.2.1 (w:Int)):=by
  intro xs
  induction xs with
  |nil=>rfl
  |cons x xs ih=>
   rw[Apw,Apw,Apw,ih]
   have hs:Con (l++[e]) e.1 (x:Int)↔Con l e.1 (x:Int)∨Con l e.2.1 (x:Int):=by
    rw[Con.snoc]
    constructor
    ·rintro (h|⟨_,h⟩|⟨_,h⟩)
     ·exact .inl h
     ·exact .inr h
     ·exact .inl h
    ·rintro (h|h)
     ·exact .inl h
     ·exact .inr (.inl ⟨.refl _,h⟩)
   by_cases h1:Con l e.1 (x:Int)
   ·have h2:¬ Con l e.2.1 (x:Int):=fun h2=>h (h1.trans h2.symm)
    rw[(CX _ _ _).2 (hs.2 (.inl h1)),(CX _ _ _).2 h1,(Ho _ _ _).2 h2]
    simp only[Aoa,An8,AoC];omega
   ·by_cases h2:Con l e.2.1 (x:Int)
    ·rw[(CX _ _ _).2 (hs.2 (.inr h2)),(Ho _ _ _).2 h1,(CX _ _ _).2 h2]
     simp only[Aoa,An8,AoC];omega
    ·rw[(Ho _ _ _).2 (fun h=>(hs.1 h).elim h1 h2),(Ho _ _ _).2 h1,(Ho _ _ _).2 h2]
     simp only[An8,AoC,ApI]
 exact key _
end Go.Pev.Pl
end
section
namespace Go.Pev.Pl
def AA1(top:Int)(t:Tie):Tie:=(t.1,t.2.1,min top (t.2.2.1+1),t.2.2.2.1,())
def Fz(t:Tie):Tie:=(t.1,t.2.1,t.2.2.1,true,())
def both(S:Int→Bool)(t:Tie):Bool:=S t.1&&S t.2.1
def AZ9(S:Int→Bool)(t:Tie):Prop:=S t.1≠S t.2.1
instance (S:Int→Bool)(t:Tie):Decidable (AZ9 S t):=inferInstanceAs (Decidable (_≠_))
def rT(S:Int→Bool)(top i:Int)(t:Tie):Tie:=if t.2.2.2.1=true∧t.2.2.1=i∧both S t=true then AA1 top t else t
def rO(S:Int→Bool)(top i:Int)(t:Tie):Tie:=if t.2.2.2.1=false∧t.2.2.1=i∧both S t=true then AA1 top t else t
def rB(S:Int→Bool)(top i:Int)(t:Tie):Tie:=if t.2.2.1=i∧both S t=true then AA1 top t else t
theorem AHU(S:Int→Bool)(top i:Int)(t:Tie):ed (rT S top i t)=ed t:=by unfold rT;split<;>rfl
theorem Agc(S:Int→Bool)(top i:Int)(t:Tie):ed (rO S top i t)=ed t:=by unfold rO;split<;>rfl
theorem NT(S:Int→Bool)(top i:Int)(t:Tie):(rT S top i t).2.2.2.1=t.2.2.2.1:=by unfold rT;split<;>rfl
theorem AKk(S:Int→Bool)(top i:Int)(t:Tie):(rO S top i t).2.2.2.1=t.2.2.2.1:=by unfold rO;split<;>rfl
theorem AKj{S:Int→Bool}{top i:Int}{t:Tie}(h:t.2.2.1≤top):t.2.2.1≤(rT S top i t).2.2.1∧(rT S top i t).2.2.1≤top:=by
 unfold rT
 split
 ·show t.2.2.1≤min top (t.2.2.1+1)∧min top (t.2.2.1+1)≤top
  omega
 ·omega
theorem AVA{S:Int→Bool}{top i:Int}{t:Tie}(h:t.2.2.1≤top):t.2.2.1≤(rO S top i t).2.2.1∧(rO S top i t).2.2.1≤top:=by
 unfold rO
 split
 ·show t.2.2.1≤min top (t.2.2.1+1)∧min top (t.2.2.1+1)≤top
  omega
 ·omega
theorem AU9{S:Int→Bool}{top i:Int}{t:Tie}(h:t.2.2.2.1=true):rO S top i t=t:=by
 unfold rO
 rw[An1]
 rintro⟨a,_⟩
 rw[h]at a;cases a
theorem L7{S:Int→Bool}{top i:Int}{t:Tie}(h:t.2.2.2.1=false):rT S top i t=t:=by
 unfold rT
 rw[An1]
 rintro⟨a,_⟩
 rw[h]at a;cases a
theorem AJY{f:Tie→Tie}(k:Int)(h1:∀ t,ed (f t)=ed t)(h2:∀ t,(f t).2.2.2.1=t.2.2.2.1)(ts:List Tie)(h3:∀ t∈ts,t.2.2.2.1=true→(k≤(f t).2.2.1↔k≤t.2.2.1)):trk (ts.map f) k=trk ts k:=by
 induction ts with
 |nil=>rfl
 |cons t ts ih=>
  have:=ih fun x hx=>h3 x (by simp[hx])
  unfold trk at *
  rw[AoW,Ao6,Ao6,h2]
  have ht:=h3 t (by simp)
  cases hh:t.2.2.2.1
  ·simp only[Bool.false_and,An8,AoC];exact this
  ·have hd:decide (k≤(f t).2.2.1)=decide (k≤t.2.2.1):=ApA.2 (ht hh)
   rw[hd]
   simp only[Bool.true_and]
   split
   ·rw[AoW,AoW,h1,this]
   ·exact this
section
variable {N:Nat} {top:Int} {O:List Tie} {S:Int→Bool} {i:Int} {c:Int}
theorem PO{k:Int}{e:Edge}:e∈trk (O.map (rT S top i)) k↔∃ t∈O,t.2.2.2.1=true∧k≤(rT S top i t).2.2.1∧ed t=e:=by
 rw[DY]
 constructor
 ·rintro⟨t,ht,h1,h2,h3⟩
  obtain⟨x,hx,rfl⟩:=AoA.1 ht
  rw[NT]at h1
  rw[AHU]at h3
  exact⟨x,hx,h1,h2,h3⟩
 ·rintro⟨t,ht,h1,h2,h3⟩
  exact⟨_,AoA.2 ⟨t,ht,rfl⟩,by rw[NT];exact h1,h2,by rw[AHU];exact h3⟩
theorem CZ{k:Int}(hk:k≤i)(hit:i≤top):trk (O.map (rT S top i)) k=trk O k:=by
 refine AJY k (AHU S top i) (NT S top i) O fun t _ _ => ?_
 unfold rT
 split
 ·rename_i h
  show k≤min top (t.2.2.1+1)↔_
  omega
 ·rfl
theorem AOQ{k:Int}(hk:i+2≤k):trk (O.map (rT S top i)) k=trk O k:=by
 refine AJY k (AHU S top i) (NT S top i) O fun t _ _ => ?_
 unfold rT
 split
 ·rename_i h
  show k≤min top (t.2.2.1+1)↔_
  omega
 ·rfl
theorem J4(hl:∀ t∈O,t.2.2.1≤top)(k:Int):∀ e∈trk O k,e∈trk (O.map (rT S top i)) k:=by
 intro e he
 obtain⟨t,h1,h2,h3,h4⟩:=DY.1 he
 have:=AKj (S:=S) (i:=i) (hl t h1)
 exact PO.2 ⟨t,h1,h2,by omega,h4⟩
variable (hS:∀ a b,Con (trk O i) a b→S a=S b)
include hS
theorem Ai4(hl:∀ t∈O,t.2.2.1≤top)(hit:i+1≤top){a b:Int}(h:Con (trk O i) a b)(ha:S a=true):Con (trk (O.map (rT S top i)) (i+1)) a b:=by
 have key:∀ {a b:Int},Con (trk O i) a b→S a=true→Con (trk (O.map (rT S top i)) (i+1)) a b:=by
  intro a b h
  induction h with
  |refl a=>intro _;exact .refl a
  |edge e he=>
   intro ha
   obtain⟨t,h1,h2,h3,rfl⟩:=DY.1 he
   have hb:S t.2.1=true:=by
    have:=hS _ _ (.edge _ he)
    exact this.symm.trans ha
   have hm:ed t∈trk (O.map (rT S top i)) (i+1):=by
    refine PO.2 ⟨t,h1,h2,?_,rfl⟩
    by_cases hlv:t.2.2.1=i
    ·unfold rT
     rw[An5 ⟨h2,hlv,by unfold both;rw[show S t.1=true from ha,hb];rfl⟩]
     show i+1≤min top (t.2.2.1+1)
     omega
    ·have:=AKj (S:=S) (i:=i) (hl t h1)
     omega
   exact .edge _ hm
  |symm h ih=>
   intro ha
   exact(ih (by rw[hS _ _ h];exact ha)).symm
  |trans h1 _ ih1 ih2=>
   intro ha
   exact(ih1 ha).trans (ih2 (by rw[← hS _ _ h1];exact ha))
 exact key h ha
theorem ASc(hit:i≤top){a b:Int}(h:Con (trk (O.map (rT S top i)) (i+1)) a b)(ha:S a=false):Con (trk O (i+1)) a b:=by
 have low:∀ {a b:Int},Con (trk (O.map (rT S top i)) (i+1)) a b→S a=S b:=fun h=>hS _ _ (by
  have:=h.sub (JH (ts:=O.map (rT S top i)) (show i≤i+1 by omega))
  rw[CZ (Aq9 i) hit]at this
  exact this)
 have key:∀ {a b:Int},Con (trk (O.map (rT S top i)) (i+1)) a b→S a=false→Con (trk O (i+1)) a b:=by
  intro a b h
  induction h with
  |refl a=>intro _;exact .refl a
  |edge e he=>
   intro ha
   obtain⟨t,h1,h2,h3,rfl⟩:=PO.1 he
   refine .edge _ (DY.2 ⟨t,h1,h2,?_,rfl⟩)
   unfold rT at h3
   rw[An1]at h3
   ·exact h3
   ·rintro⟨_,_,hb⟩
    unfold both at hb
    rw[show S t.1=false from ha]at hb
    cases hb
  |symm h ih=>
   intro ha
   exact(ih (by rw[low h];exact ha)).symm
  |trans h1 _ ih1 ih2=>
   intro ha
   exact(ih1 ha).trans (ih2 (by rw[← low h1];exact ha))
 exact key h ha
end
end Go.Pev.Pl
end
section
namespace Go.Pev.Pl
theorem Fo.AZb{N:Nat}{l:List Edge}{e:Edge}(h:Fo N (l++[e]))(hl:∀ x∈l,InE N x)(he:InE N e):¬ Con l e.1 e.2.1:=by
 intro hc
 have h1:=AaK (N:=N) (l:=l) he
 rw[An5 ((CX _ _ _).2 hc)]at h1
 have h2:=AjL l hl
 unfold Fo at h
 rw[Anw,List.length_singleton]at h
 omega
theorem Yh{N:Nat}{O:List Tie}(h:∀ x∈O,InE N (ed x))(k:Int):∀ e∈trk O k,InE N e:=by
 intro e he
 obtain⟨t,h1,_,_,rfl⟩:=DY.1 he
 exact h t h1
theorem D4(A B:List Tie)(k:Int):trk (A++B) k=trk A k++trk B k:=by
 unfold trk;rw[ApC,Aon]
theorem Sr(S:Int→Bool)(top i:Int)(A:List Tie)(k:Int):trk (A.map (rO S top i)) k=trk A k:=
 AJY k (Agc S top i) (AKk S top i) A fun t _ h=>by rw[AU9 h]
structure Snd(N:Nat)(top:Int)(O:List Tie):Prop where
 lvl:∀ x∈O,0≤x.2.2.1∧x.2.2.1≤top
 ins:∀ x∈O,InE N (ed x)
 fo:Fo N (trk O 0)
 lie:∀ x∈O,x.2.2.2.1=false→Con (trk O x.2.2.1) x.1 x.2.1
 halv:∀ k:Nat,(k:Int)≤top→∀ v:Nat,v<N→csz N (trk O k) v≤max 1 (N/2 ^ k)
structure Of(N:Nat)(top:Int)(t:Edge)(j:Int)(O:List Tie):Prop where
 lvl:∀ x∈O,0≤x.2.2.1∧x.2.2.1≤top
 ins:∀ x∈O,InE N (ed x)
 it:InE N t
 fo:Fo N (trk O 0++[t])
 lie1:∀ x∈O,x.2.2.2.1=false→j≤x.2.2.1→Con (trk O x.2.2.1) x.1 x.2.1
 lie2:∀ x∈O,x.2.2.2.1=false→x.2.2.1<j→Con (trk O x.2.2.1++[t]) x.1 x.2.1
 halv:∀ k:Nat,(k:Int)≤top→∀ v:Nat,v<N→csz N (trk O k) v≤max 1 (N/2 ^ k)
 halt:∀ k:Nat,(k:Int)<j→(k:Int)≤top→∀ v:Nat,v<N→csz N (trk O k++[t]) v≤max 1 (N/2 ^ k)
structure P8(N:Nat)(t:Edge)(i:Nat)(O:List Tie)(S:Int→Bool)(c:Nat):Prop where
 cN:c<N
 at_:t.1=(c:Int)∨t.2.1=(c:Int)
 side:∀ w:Nat,w<N→(S (w:Int)=true↔Con (trk O i) (c:Int) (w:Int))
 less:2*csz N (trk O i) (c:Int)≤csz N (trk O i) t.1+csz N (trk O i) t.2.1
section
variable {N:Nat} {top:Int} {t:Edge} {O:List Tie} {S:Int→Bool} {i c:Nat}
theorem P8.closed(hL:P8 N t i O S c)(hi:∀ x∈O,InE N (ed x)):∀ a b,Con (trk O i) a b→S a=S b:=by
 intro a b h
 rcases Con.within (I:=fun a=>0≤a∧a<(N:Int)) (fun e he=>Yh hi i e he) h with rfl|⟨⟨a1,a2⟩,b1,b2⟩
 ·rfl
 ·obtain⟨u,rfl⟩:=An4 a1
  obtain⟨v,rfl⟩:=An4 b1
  have h1:=hL.side u (by omega)
  have h2:=hL.side v (by omega)
  rw[ApH,h1,h2]
  exact⟨fun q=>q.trans h,fun q=>q.trans h.symm⟩
theorem P8.AZy(hL:P8 N t i O S c):S (c:Int)=true:=(hL.side c hL.cN).2 (.refl _)
theorem P8.con(hL:P8 N t i O S c){a b:Int}(ia:0≤a∧a<(N:Int))(ib:0≤b∧b<(N:Int))(ha:S a=true)(hb:S b=true):Con (trk O i) a b:=by
 obtain⟨u,rfl⟩:=An4 ia.1
 obtain⟨v,rfl⟩:=An4 ib.1
 exact((hL.side u (by omega)).1 ha).symm.trans ((hL.side v (by omega)).1 hb)
variable (hG:Of N top t ((i:Int)+1) O) (hit:(i:Int)≤top) (hL:P8 N t i O S c)
include hG
theorem Of.apart(k:Nat):¬ Con (trk O (k:Int)) t.1 t.2.1:=fun h=>hG.fo.AZb (Yh hG.ins 0) hG.it (h.sub (JH (by omega)))
include hit hL
theorem Of.half(hi1:(i:Int)+1≤top):csz N (trk O i) (c:Int)≤N/2 ^ (i+1):=by
 obtain⟨⟨a1,a2⟩,b1,b2⟩:=hG.it
 obtain⟨u,hu⟩:=An4 a1
 have hj:=Ai1 (N:=N) (hG.apart i)
 have hh:=hG.halt i (by omega) hit u (by omega)
 rw[← hu,hj]at hh
 have hp:=Alk (N:=N) (l:=trk O i) hL.cN
 have hl:=hL.less
 have e:N/2 ^ (i+1)=N/2 ^ i/2:=by rw[Nat.pow_succ,Nat.div_div_eq_div_mul]
 rw[e]
 omega
theorem Of.AmJ(k:Nat)(hk:(k:Int)≤top)(v:Nat)(hv:v<N):csz N (trk (O.map (rT S top i)) k) v≤max 1 (N/2 ^ k):=by
 have hS:=hL.closed hG.ins
 have hl:∀ x∈O,x.2.2.1≤top:=fun x hx=>(hG.lvl x hx).2
 rcases Aq6 k (i+1)with h|rfl|h
 ·rw[CZ (by omega) hit];exact hG.halv k hk v hv
 ·cases hsv:S (v:Int)
  ·refine Aot (AMo fun w hw hc => ?_) (hG.halv (i+1) hk v hv)
   have:=ASc hS hit (a:=(v:Int)) (b:=(w:Int)) (by simpa using hc) hsv
   simpa using this
  ·have hle:csz N (trk (O.map (rT S top i)) ((i+1:Nat):Int)) v≤csz N (trk O i) (c:Int):=AMo fun w hw hc=>by
    have h1:=hc.sub (JH (ts:=O.map (rT S top i)) (show(i:Int)≤((i+1:Nat):Int) by omega))
    rw[CZ (Aq9 _) hit]at h1
    exact((hL.side v hv).1 hsv).trans h1
   have:=hG.half hit hL (by omega)
   omega
 ·rw[AOQ (by omega)];exact hG.halv k hk v hv
omit hL
theorem AA2{x:Tie}(hx:x∈O.map (rT S top i))(h:x.2.2.2.1=false):x∈O:=by
 obtain⟨y,hy,rfl⟩:=AoA.1 hx
 rw[NT]at h
 rw[L7 h];exact hy
include hL
theorem Of.ACa{x:Tie}(hx:x∈O)(h1:x.2.2.1=(i:Int))(h2:both S x=true):Con (trk (O.map (rT S top i)) (min top (x.2.2.1+1))) x.1 x.2.1:=by
 have hS:=hL.closed hG.ins
 unfold both at h2
 rw[Anz]at h2
 have hc:=hL.con (hG.ins x hx).1 (hG.ins x hx).2 h2.1 h2.2
 by_cases hi1:(i:Int)+1≤top
 ·rw[h1,AqM hi1]
  exact Ai4 hS (fun x hx=>(hG.lvl x hx).2) hi1 hc h2.1
 ·rw[h1,AqZ (by omega),show top=(i:Int) by omega]
  have:=CZ (O:=O) (S:=S) (top:=top) (i:=(i:Int)) (k:=(i:Int)) (Aq9 _) hit
  rw[show top=(i:Int) by omega]at this
  rw[this];exact hc
theorem Of.next(hno:∀ x∈O.map (rT S top i),x.2.2.2.1=false→x.2.2.1=(i:Int)→¬ AZ9 S x):Of N top t (i:Int) ((O.map (rT S top i)).map (rO S top i)):=by
 have hS:=hL.closed hG.ins
 have hl:∀ x∈O,x.2.2.1≤top:=fun x hx=>(hG.lvl x hx).2
 have hmem:∀ x∈(O.map (rT S top i)).map (rO S top i),∃ y∈O,x=rO S top i (rT S top i y):=fun x hx=>by
  obtain⟨z,hz,rfl⟩:=AoA.1 hx
  obtain⟨y,hy,rfl⟩:=AoA.1 hz
  exact⟨y,hy,rfl⟩
 have hlv:∀ y∈O,y.2.2.1≤(rO S top i (rT S top i y)).2.2.1∧(rO S top i (rT S top i y)).2.2.1≤top:=fun y hy=>by
  have h1:=AKj (S:=S) (i:=(i:Int)) (hl y hy)
  have h2:=AVA (S:=S) (i:=(i:Int)) h1.2
  omega
 have hoth:∀ x∈(O.map (rT S top i)).map (rO S top i),x.2.2.2.1=false→∃ y∈O,y.2.2.2.1=false∧x=rO S top i y:=fun x hx h=>by
  obtain⟨y,hy,rfl⟩:=hmem x hx
  rw[AKk,NT]at h
  exact⟨y,hy,h,by rw[L7 h]⟩
 refine⟨fun x hx => ?_,fun x hx => ?_,hG.it,?_,fun x hx h hj => ?_,fun x hx h hj => ?_,fun k hk v hv => ?_,fun k hk1 hk2 v hv => ?_⟩
 ·obtain⟨y,hy,rfl⟩:=hmem x hx
  have:=hlv y hy
  have:=(hG.lvl y hy).1
  omega
 ·obtain⟨y,hy,rfl⟩:=hmem x hx
  rw[Agc,AHU];exact hG.ins y hy
 ·rw[Sr,CZ (by omega) hit];exact hG.fo
 ·obtain⟨y,hy,hf,rfl⟩:=hoth x hx h
  rw[Sr]
  by_cases hr:y.2.2.1=(i:Int)∧both S y=true
  ·have he:rO S top i y=AA1 top y:=by unfold rO;rw[An5 ⟨hf,hr.1,hr.2⟩]
   rw[he]
   exact hG.ACa hit hL hy hr.1 hr.2
  ·have he:rO S top i y=y:=by unfold rO;rw[An1 (fun q=>hr ⟨q.2.1,q.2.2⟩)]
   rw[he]at hj ⊢
   by_cases hi:y.2.2.1=(i:Int)
   ·have hnb:¬ both S y=true:=fun q=>hr ⟨hi,q⟩
    have hne:=hno y (AoA.2 ⟨y,hy,L7 hf⟩) hf hi
    have h2:=hG.lie2 y hy hf (by omega)
    rw[hi,CZ (Aq9 _) hit]
    rw[hi]at h2
    unfold AZ9 at hne
    have hne:=AqF.1 hne
    have hfalse:S y.1=false∧S y.2.1=false:=by
     unfold both at hnb
     rw[← hne]at hnb ⊢
     cases hsy:S y.1
     ·exact⟨rfl,rfl⟩
     ·rw[hsy]at hnb;exact absurd rfl hnb
    rw[Con.snoc]at h2
    rcases h2 with h2|⟨q1,q2⟩|⟨q1,q2⟩
    ·exact h2
    ·have e1:=hS _ _ q1
     have e2:=hS _ _ q2
     rcases hL.at_ with hc|hc
     ·rw[hc,hL.AZy,hfalse.1]at e1;cases e1
     ·rw[hc,hL.AZy,hfalse.2]at e2;cases e2
    ·have e1:=hS _ _ q1
     have e2:=hS _ _ q2
     rcases hL.at_ with hc|hc
     ·rw[hc,hL.AZy,hfalse.2]at e2;cases e2
     ·rw[hc,hL.AZy,hfalse.1]at e1;cases e1
   ·exact(hG.lie1 y hy hf (by omega)).sub (J4 hl _)
 ·obtain⟨y,hy,hf,rfl⟩:=hoth x hx h
  have h1:=AVA (S:=S) (i:=(i:Int)) (hl y hy)
  have he:rO S top i y=y:=by unfold rO;rw[An1 (fun q=>by have:=q.2.1;omega)]
  rw[he]at hj ⊢
  rw[Sr,CZ (by omega) hit]
  exact hG.lie2 y hy hf (by omega)
 ·rw[Sr];exact hG.AmJ hit hL k hk v hv
 ·rw[Sr,CZ (by omega) hit];exact hG.halt k (by omega) hk2 v hv
theorem Of.found{A B:List Tie}{x:Tie}(hsp:O.map (rT S top i)=A++x::B)(hf:x.2.2.2.1=false)(hi:x.2.2.1=(i:Int))(hx:AZ9 S x):
  Snd N top (A.map (rO S top i)++Fz x::B)∧Con (trk (A.map (rO S top i)++Fz x::B) 0) t.1 t.2.1:=by
 have hS:=hL.closed hG.ins
 have hl:∀ x∈O,x.2.2.1≤top:=fun x hx=>(hG.lvl x hx).2
 have hxM:x∈O.map (rT S top i):=by rw[hsp];simp
 have hxO:x∈O:=AA2 hG hit hxM hf
 have hAm:∀ y∈A,y∈O.map (rT S top i):=fun y hy=>by rw[hsp];simp[hy]
 have hBm:∀ y∈B,y∈O.map (rT S top i):=fun y hy=>by rw[hsp];simp[hy]
 have hml:∀ y∈O.map (rT S top i),0≤y.2.2.1∧y.2.2.1≤top:=fun y hy=>by
  obtain⟨z,hz,rfl⟩:=AoA.1 hy
  have:=AKj (S:=S) (i:=(i:Int)) (hl z hz)
  have:=(hG.lvl z hz).1
  omega
 have hme:∀ y∈O.map (rT S top i),InE N (ed y):=fun y hy=>by
  obtain⟨z,hz,rfl⟩:=AoA.1 hy
  rw[AHU];exact hG.ins z hz
 have hxt:trk [x]=fun _=>[]:=by
  funext k
  unfold trk
  rw[Ao6,hf]
  rfl
 have hat:∀ k,trk [Fz x] k=if k≤(i:Int)then [ed x]else []:=by
  intro k
  unfold trk
  have q1:(Fz x).2.2.1=(i:Int):=hi
  have q2:(Fz x).2.2.2.1=true:=rfl
  rw[Ao6,q1,q2]
  by_cases hk:k≤(i:Int)
  ·rw[An5 hk,Anq hk];rfl
  ·rw[An1 hk,Anp hk];rfl
 have hM:∀ k,trk (O.map (rT S top i)) k=trk A k++trk B k:=by
  intro k
  rw[hsp,show A++x::B=A++([x]++B)from rfl,D4,D4,hxt,Aoc]
 have hO':∀ k,trk (A.map (rO S top i)++Fz x::B) k=trk A k++((if k≤(i:Int)then [ed x]else [])++trk B k):=by
  intro k
  rw[show A.map (rO S top i)++Fz x::B=A.map (rO S top i)++([Fz x]++B)from rfl,D4,D4,Sr,hat]
 have hsup:∀ k,∀ e∈trk (O.map (rT S top i)) k,e∈trk (A.map (rO S top i)++Fz x::B) k:=by
  intro k e he
  rw[hM]at he
  rw[hO']
  rcases Anv.1 he with he|he
  ·exact Anv.2 (.inl he)
  ·exact Anv.2 (.inr (Anv.2 (.inr he)))
 have hxin:∀ k,k≤(i:Int)→ed x∈trk (A.map (rO S top i)++Fz x::B) k:=by
  intro k hk
  rw[hO',An5 hk];simp
 have h2:=hG.lie2 x hxO hf (by omega)
 rw[hi]at h2
 have ht:Con (trk O i++[ed x]) t.1 t.2.1:=by
  have up:∀ {a b:Int},Con (trk O i) a b→Con (trk O i++[ed x]) a b:=fun c=>c.sub fun e he=>Anv.2 (.inl he)
  have hxe:Con (trk O i++[ed x]) x.1 x.2.1:=.edge (l:=trk O i++[ed x]) (ed x) (by simp)
  rw[Con.snoc]at h2
  rcases h2 with h2|⟨q1,q2⟩|⟨q1,q2⟩
  ·exact absurd (hS _ _ h2) hx
  ·exact((up q1).symm.trans hxe).trans (up q2).symm
  ·exact((up q2).trans hxe.symm).trans (up q1)
 have ht':∀ k,k≤(i:Int)→Con (trk (A.map (rO S top i)++Fz x::B) k) t.1 t.2.1:=by
  intro k hk
  refine ht.sub fun e he => ?_
  rcases Anv.1 he with he|he
  ·exact JH hk _ (hsup _ _ (J4 hl _ _ he))
  ·rw[AoY]at he;subst he;exact hxin k hk
 refine⟨⟨fun y hy => ?_,fun y hy => ?_,?_,fun y hy h => ?_,fun k hk v hv => ?_⟩,ht' 0 (by omega)⟩
 ·rcases Anv.1 hy with hy|hy
  ·obtain⟨z,hz,rfl⟩:=AoA.1 hy
   have h1:=hml z (hAm z hz)
   have:=AVA (S:=S) (i:=(i:Int)) h1.2
   omega
  ·rcases Anx.1 hy with rfl|hy
   ·exact hG.lvl x hxO
   ·exact hml y (hBm y hy)
 ·rcases Anv.1 hy with hy|hy
  ·obtain⟨z,hz,rfl⟩:=AoA.1 hy
   rw[Agc];exact hme z (hAm z hz)
  ·rcases Anx.1 hy with rfl|hy
   ·exact hG.ins x hxO
   ·exact hme y (hBm y hy)
 ·rw[hO',An5 (by omega)]
  have hM0:=hM 0
  rw[CZ (by omega) hit]at hM0
  have hp:(trk A 0++([ed x]++trk B 0)).Perm (trk O 0++[ed x]):=by
   rw[hM0,AoV]
   exact List.Perm.append_left _ Ap0
  refine Fo.perm ?_ hp.symm
  have hfo:=hG.fo
  have hcc:cc N (trk O 0++[ed x])=cc N (trk O 0++[t]):=AEQ fun a b=>by
   have m0:=JH (ts:=O) (show(0:Int)≤(i:Int) by omega)
   constructor
   ·intro c
    refine c.cut fun e he => ?_
    rcases Anv.1 he with he|he
    ·exact .edge _ (Anv.2 (.inl he))
    ·rw[AoY]at he;subst he
     refine h2.sub fun e he => ?_
     rcases Anv.1 he with he|he
     ·exact Anv.2 (.inl (m0 _ he))
     ·exact Anv.2 (.inr he)
   ·intro c
    refine c.cut fun e he => ?_
    rcases Anv.1 he with he|he
    ·exact .edge _ (Anv.2 (.inl he))
    ·rw[AoY]at he;subst he
     refine ht.sub fun e he => ?_
     rcases Anv.1 he with he|he
     ·exact Anv.2 (.inl (m0 _ he))
     ·exact Anv.2 (.inr he)
  unfold Fo at hfo ⊢
  rw[hcc,Anw]at *
  exact hfo
 ·-- others
  have key:∀ y:Tie,y∈O→y.2.2.2.1=false→Con (trk (A.map (rO S top i)++Fz x::B) y.2.2.1) y.1 y.2.1:=by
   intro y hy h
   by_cases hle:y.2.2.1≤(i:Int)
   ·refine(hG.lie2 y hy h (by omega)).cut fun e he => ?_
    rcases Anv.1 he with he|he
    ·exact .edge _ (hsup _ _ (J4 hl _ _ he))
    ·rw[AoY]at he;subst he;exact ht' _ hle
   ·exact(hG.lie1 y hy h (by omega)).sub fun e he=>hsup _ _ (J4 hl _ _ he)
  rcases Anv.1 hy with hy|hy
  ·obtain⟨z,hz,rfl⟩:=AoA.1 hy
   rw[AKk]at h
   have hzO:=AA2 hG hit (hAm z hz) h
   by_cases hr:z.2.2.1=(i:Int)∧both S z=true
   ·have he:rO S top i z=AA1 top z:=by unfold rO;rw[An5 ⟨h,hr.1,hr.2⟩]
    rw[he]
    exact(hG.ACa hit hL hzO hr.1 hr.2).sub (hsup _)
   ·have he:rO S top i z=z:=by unfold rO;rw[An1 (fun q=>hr ⟨q.2.1,q.2.2⟩)]
    rw[he]
    exact key z hzO h
  ·rcases Anx.1 hy with rfl|hy
   ·cases h
   ·exact key y (AA2 hG hit (hBm y hy) h) h
 ·by_cases hki:(k:Int)≤(i:Int)
  ·refine Aot (AMo fun w hw hc => ?_) (hG.halt k (by omega) hk v hv)
   refine hc.cut fun e he => ?_
   rw[hO',An5 hki]at he
   have hMk:=hM (k:Int)
   rw[CZ hki hit]at hMk
   rcases Anv.1 he with he|he
   ·exact .edge _ (Anv.2 (.inl (by rw[hMk];simp[he])))
   ·rcases Anv.1 he with he|he
    ·rw[AoY]at he;subst he
     refine h2.sub fun e he => ?_
     rcases Anv.1 he with he|he
     ·exact Anv.2 (.inl (JH hki _ he))
     ·exact Anv.2 (.inr he)
    ·exact .edge _ (Anv.2 (.inl (by rw[hMk];simp[he])))
  ·have:trk (A.map (rO S top i)++Fz x::B) (k:Int)=trk (O.map (rT S top i)) (k:Int):=by
    rw[hO',An1 hki,hM];rfl
   rw[this]
   exact hG.AmJ hit hL k hk v hv
end
theorem Of.end{N:Nat}{top:Int}{t:Edge}{O:List Tie}(h:Of N top t 0 O):Snd N top O∧¬ Con (trk O 0) t.1 t.2.1:=by
 refine⟨⟨h.lvl,h.ins,h.fo.front (Yh h.ins 0) (fun e he=>by rw[AoY]at he;subst he;exact h.it),fun x hx hf=>h.lie1 x hx hf (h.lvl x hx).1,h.halv⟩,h.fo.AZb (Yh h.ins 0) h.it⟩
theorem Snd.other{N:Nat}{top:Int}{P Q:List Tie}{t:Tie}(h:Snd N top (P++t::Q))(ht:t.2.2.2.1=false):Snd N top (P++Q):=by
 have hm:∀ x∈P++Q,x∈P++t::Q:=fun x hx=>by
  rcases Anv.1 hx with hx|hx
  ·simp[hx]
  ·simp[hx]
 have htk:∀ k,trk (P++t::Q) k=trk (P++Q) k:=by
  intro k
  rw[show P++t::Q=P++([t]++Q)from rfl,D4,D4,D4]
  congr 1
  unfold trk
  rw[Ao6,ht]
  rfl
 refine⟨fun x hx=>h.lvl x (hm x hx),fun x hx=>h.ins x (hm x hx),by rw[← htk];exact h.fo,fun x hx hf=>by rw[← htk];exact h.lie x (hm x hx) hf,fun k hk v hv=>by rw[← htk];exact h.halv k hk v hv⟩
end Go.Pev.Pl
end
section
namespace Go.Pev.Pl
theorem Snd.below{N:Nat}{top:Nat}{O:List Tie}(h:Snd N (top:Int) O)(hN:N/2 ^ top≤1){x:Tie}(hx:x∈O)(hne:x.1≠x.2.1):x.2.2.1<(top:Int):=by
 have hl:=h.lvl x hx
 refine ApF fun hn => ?_
 have he:x.2.2.1=(top:Int):=by omega
 obtain⟨⟨a1,a2⟩,b1,b2⟩:=h.ins x hx
 obtain⟨u,hu⟩:=An4 a1
 obtain⟨v,hv⟩:=An4 b1
 have hc:Con (trk O (top:Int)) x.1 x.2.1:=by
  cases hf:x.2.2.2.1
  ·have:=h.lie x hx hf
   rw[he]at this;exact this
  ·exact .edge (l:=trk O (top:Int)) (ed x) (DY.2 ⟨x,hx,hf,by omega,rfl⟩)
 have hu':x.1=(u:Int):=hu
 have hv':x.2.1=(v:Int):=hv
 rw[hu',hv']at hc hne
 have h2:=Alj (N:=N) (a:=u) (b:=v) (by omega) (by omega) (by omega) hc
 have h3:=h.halv top (Aq9 _) u (by omega)
 omega
theorem Snd.grown{N:Nat}{top:Int}{O O':List Tie}{come:List Edge}{new:List Tie}(h:Snd N top O)(ht:0≤top)(hp:O'.Perm (O++new))(hc:∀ e∈come,InE N e)
  (hn:∀ x∈new,x.2.2.1=0∧ed x∈come) (htr:(trk O' 0).Perm (trk O 0++Lm (trk O 0) come)):Snd N top O':=by
 have hmem:∀ x,x∈O'↔x∈O∨x∈new:=fun x=>by rw[hp.mem_iff,Anv]
 have hk:∀ k:Int,0<k→∀ e,e∈trk O' k↔e∈trk O k:=by
  intro k hk e
  rw[DY,DY]
  constructor
  ·rintro⟨t,h1,h2,h3,h4⟩
   rcases(hmem t).1 h1 with h1|h1
   ·exact⟨t,h1,h2,h3,h4⟩
   ·have:=(hn t h1).1;omega
  ·rintro⟨t,h1,h2,h3,h4⟩
   exact⟨t,(hmem t).2 (.inl h1),h2,h3,h4⟩
 have hsup:∀ k:Int,∀ e∈trk O k,e∈trk O' k:=fun k e he=>by
  obtain⟨t,h1,h2,h3,h4⟩:=DY.1 he
  exact DY.2 ⟨t,(hmem t).2 (.inl h1),h2,h3,h4⟩
 refine⟨fun x hx => ?_,fun x hx => ?_,?_,fun x hx hf => ?_,fun k hkt v hv => ?_⟩
 ·rcases(hmem x).1 hx with hx|hx
  ·exact h.lvl x hx
  ·have:=(hn x hx).1;omega
 ·rcases(hmem x).1 hx with hx|hx
  ·exact h.ins x hx
  ·exact hc _ (hn x hx).2
 ·refine Fo.perm ?_ htr.symm
  have h1:=Ns come (trk O 0) hc
  have h2:cc N (trk O 0++come)=cc N (trk O 0++Lm (trk O 0) come):=AEQ fun a b=>AEA come (trk O 0)
  have h3:=h.fo
  unfold Fo at *
  rw[Anw]
  omega
 ·rcases(hmem x).1 hx with hx|hx
  ·exact(h.lie x hx hf).sub (hsup _)
  ·obtain⟨h0,he⟩:=hn x hx
   rw[h0,AMx fun e=>htr.mem_iff,← AEA]
   exact .edge (l:=trk O 0++come) (ed x) (Anv.2 (.inr he))
 ·by_cases hk0:k=0
  ·subst hk0
   have:csz N (trk O' ((0:Nat):Int)) (v:Int)≤N:=by
    unfold csz
    have:=List.countP_le_length (p:=fun(w:Nat)=>N8 (trk O' ((0:Nat):Int)) (v:Int) (w:Int)) (l:=List.range N)
    rw[AoR]at this
    exact this
   simp only[Nat.pow_zero,Nat.div_one]
   omega
  ·exact Aot (AMo fun w hw c=>c.sub fun e he=>(hk k (by omega) e).1 he) (h.halv k hkt v hv)
end Go.Pev.Pl
end
section
namespace Go.Pev.Pl
end Go.Pev.Pl
end
section
section
namespace Go.Pev.Pl
structure UF(N:Nat)(s:List Int)(c:Int→Int):Prop where
 len:s.length=N
 lo:∀ k,k<N→0≤s.getD k 0∧s.getD k 0≤(k:Int)
 par:∀ k,k<N→c (s.getD k 0)=c (k:Int)
 root:∀ k,k<N→s.getD k 0=(k:Int)→c (k:Int)=(k:Int)
 le:∀ k,k<N→0≤c (k:Int)∧c (k:Int)≤(k:Int)
theorem UF.idem{N:Nat}{s:List Int}{c:Int→Int}(h:UF N s c):∀ (m k:Nat),k≤m→k<N→c (c (k:Int))=c (k:Int):=by
 intro m
 induction m with
 |zero=>
  intro k hk hN
  have:=h.le k hN
  have e:c (k:Int)=(k:Int):=by omega
  rw[e,e]
 |succ m ih=>
  intro k hk hN
  have h1:=h.lo k hN
  by_cases hr:s.getD k 0=(k:Int)
  ·have e:=h.root k hN hr
   rw[e,e]
  ·obtain⟨j,hj⟩:=An4 h1.1
   have hp:=h.par k hN
   rw[hj]at hp
   rw[← hp]
   exact ih j (by omega) (by omega)
theorem UF.top{N:Nat}{s:List Int}{c:Int→Int}(h:UF N s c){k:Nat}(hk:k<N):s.getD (c (k:Int)).toNat 0=c (k:Int):=by
 have h1:=h.le k hk
 obtain⟨j,hj⟩:=An4 h1.1
 have hi:=h.idem k k (An3 _) hk
 rw[hj]at hi ⊢
 have hjN:j<N:=by omega
 have h2:=h.lo j hjN
 have hp:=h.par j hjN
 obtain⟨i,hi'⟩:=An4 h2.1
 rw[hi']at hp
 have h3:=h.le i (by omega)
 show s.getD j 0=_
 omega
theorem AZu(a b:Int):B5 a b=min a b:=by unfold B5;split<;>omega
theorem AZv(a b:Int):imax a b=max a b:=by unfold imax;split<;>omega
theorem KC{N i x:Nat}(h:(List.range N)[i]? = some x):x=i:=by
 rw[An7]at h
 obtain⟨h1,h2⟩:=h
 simpa using h2.symm
def AmG(c:Int→Int)(u v:Int):Int→Int:=fun x=>if c x=max (c u) (c v)then min (c u) (c v)else c x
def Ajd(N:Nat)(c:Int→Int)(l:List Edge):Prop:=∀ a b,In (N:Int) a→In (N:Int) b→(c a=c b↔Con l a b)
theorem Ajd.snoc{N:Nat}{c:Int→Int}{l:List Edge}{e:Edge}(h:Ajd N c l)(h1:In (N:Int) e.1)(h2:In (N:Int) e.2.1):Ajd N (AmG c e.1 e.2.1) (l++[e]):=by
 intro a b ia ib
 rw[Con.snoc,← h a b ia ib,← h a _ ia h1,← h _ b h2 ib,← h a _ ia h2,← h _ b h1 ib]
 unfold AmG
 generalize c a=x
 generalize c b=y
 generalize c e.1=u
 generalize c e.2.1=v
 split<;>split<;>omega
end Go.Pev.Pl
end
section
namespace Go.Pev.Pl
def sh(n:Int):Prop:=0≤n∧n≤65535
instance (n:Int):Decidable (sh n):=inferInstanceAs (Decidable (_∧_))
def tw(n:Int):List Int:=[n/256,n % 256]
theorem Ada{α β:Type}(g:β→α):∀ (xs:List β) (a:List α),xs.foldl (fun a x=>a++[g x]) a=a++xs.map g:=by
 intro xs
 induction xs with
 |nil=>intro a;simp
 |cons x xs ih=>intro a;rw[Aow,ih];simp
end Go.Pev.Pl
end
section
namespace Go.Pev.Pl
abbrev Res:=Int×Int×List Int×Unit
def val(r:Res):Prop:=(0≤r.1∧r.1≤255)∧sh r.2.1∧sh (r.2.2.1.length:Int)∧∀ x∈r.2.2.1,sh x
instance (r:Res):Decidable (val r):=inferInstanceAs (Decidable (_∧_∧_∧_))
def enc(r:Res):List Int:=r.1::(tw r.2.1++(tw (r.2.2.1.length:Int)++r.2.2.1.flatMap tw))
end Go.Pev.Pl
end
section
namespace Go.Pev.Pl
theorem AH6(a:Int):ieq a a=true:=by rw[CL];simp
end Go.Pev.Pl
end
section
namespace Go.Pev.Pl
open Go.RowKit Tok
section
variable {n:Int} {rings:List (List Int)}
theorem ARi{l:List Edge}{out:List Int}(h:FC n rings l)(hc:Wj n l out){A:List Int}{u:Int}(hA:A∈rings)(iu:In n u)(hu:u∈A):hd A=cl out u:=by
 have gA:=h.fr.rg A hA
 have ih:=Rs gA
 have hh:=AL1 gA.2.1
 have h1:Con l u (hd A):=(h.sam u (hd A) iu ih).1 ⟨A,hA,hu,hh⟩
 have h2:=hc.least u (hd A) iu ih h1
 have h3:=hc.isin u iu
 obtain⟨K,hK,k1,k2⟩:=(h.sam u _ iu h3).2 (hc.con u iu)
 have:=h.fr.one hA hK iu.2.2.2 hu k1
 subst this
 have h4:=(FW gA.2.1).2 _ k2
 rw[gA.2.2.1]at h4
 have:hd A=A.headD 0:=rfl
 omega
end
end Go.Pev.Pl
end
section
namespace Go.Pev.Pl
def JI(n:Nat):Int:=((@Zq idI ((n:Int),())).getD (0,())).1
theorem Ane:((List.range 65).all fun k=>decide (@Zq idI ((k:Int),())=some (JI k,())))=true:=by kernel_rfl
theorem AnO:((List.range 65).all fun k=>decide (@ALc idI ((k:Int),())=some (JI k,())))=true:=by kernel_rfl
theorem Aav(n:Nat)(h:n≤64):Zq ((n:Int),())=some (JI n,()):=by
 rw[show Zq ((n:Int),()) = @Zq idI ((n:Int),())from ApQ (fun i=>@Zq i ((n:Int),())) ACZ]
 exact Ap5 (AoM.1 Ane n (by simp;omega))
theorem ARD(n:Nat)(h:n≤64):ALc ((n:Int),())=some (JI n,()):=by
 rw[show ALc ((n:Int),()) = @ALc idI ((n:Int),())from ApQ (fun i=>@ALc i ((n:Int),())) ACZ]
 exact Ap5 (AoM.1 AnO n (by simp;omega))
def Alo(a b:Int):Int:=if a<b then -1 else if b<a then 1 else 0
theorem AMy(a b:Int):DS (a,b,())=some (Alo a b,()):=by
 rw[Gd,EK]
 simp only[KJ,KK,AH6,An2]
 unfold Alo
 rw[Ah,Ah]
 by_cases h:a<b
 ·rw[Anq h,An5 h]
 ·rw[Anp h,An1 h]
  by_cases h':b<a
  ·rw[Anq h',An5 h']
  ·rw[Anp h',An1 h']
theorem Akn(a b:Int):orI ([a,b],())=some (if a=0 then b else a,()):=by
 rw[ALG,AHm]
 have e:=IW (step:=FV) (fun i=>(0,[a,b],AN [a,b],(i:Int),())) [a,b] (fun x => !decide (x=0)) (fun i=>.inl ([a,b].getD i 0,())) (.inr (.inl (0,()))) (by simp)
  (fun i x hi hx=>by
   rw[FV,AS,AL,Anq hi]
   simp only[AT hx,Ag]
   have hi2:i<2:=hi
   rw[AP (by omega)]
   have hg:[a,b].getD i 0=x:=by rw[Ans,hx];rfl
   rw[hg]
   by_cases h:x=0
   ·simp[h]
   ·simp[h])
  (by rw[FV,AS,AL,Anp (by omega)])
 have e':AX FV many (0,[a,b],AN [a,b],(0:Int),())=_:=e
 rw[e']
 by_cases h:a=0
 ·by_cases h':b=0
  ·simp[h,h']
  ·simp[h,h',Aqe]
 ·simp[h,Aqe]
theorem ALj(p x:Tie):∃ y,Ja (p,x,())=some (y,())∧ile 0 y = !decide (ahead p x):=by
 rw[XQ,KQ]
 simp only[AMy,Akn]
 refine⟨_,rfl,?_⟩
 rw[An]
 by_cases h:ahead p x
 ·rw[Anq h]
  unfold ahead at h
  unfold Alo
  rw[Anp];· rfl
  split<;>split<;>(try split)<;>omega
 ·rw[Anp h]
  unfold ahead at h
  unfold Alo
  rw[Anq];· rfl
  split<;>split<;>(try split)<;>omega
def Ll(N:Nat)(ts:List Tie)(i:Nat):Prop:=
 0≤(ts.getD i zT).1∧(ts.getD i zT).1<(ts.getD i zT).2.1∧(ts.getD i zT).2.1<(N:Int)∧0≤(ts.getD i zT).2.2.1∧(ts.getD i zT).2.2.1≤JI N∧(i=0∨ahead (ts.getD (i-1) zT) (ts.getD i zT))
instance (N:Nat)(ts:List Tie)(i:Nat):Decidable (Ll N ts i):=inferInstanceAs (Decidable (_∧_∧_∧_∧_∧_))
def trs(ts:List Tie)(k:Nat):List Edge:=(List.range k).foldl (fun a i=>if(ts.getD i zT).2.2.2.1=true then a++[ed (ts.getD i zT)]else a) []
theorem AOD{α β ρ:Type}(P:β→Prop)[DecidablePred P](g:β→α→α)(fin:α→ρ)(rt:ρ):∀ (xs:List β) (a:α),walk (fun x a=>if P x then .inl (g x a)else .inr rt) fin xs a=if ∀ x∈xs,P x then fin (xs.foldl (fun a x=>g x a) a)else rt:=by
 intro xs
 induction xs with
 |nil=>intro a;simp[walk]
 |cons x xs ih=>
  intro a
  rw[walk]
  by_cases h:P x
  ·rw[An5 h]
   simp only[]
   rw[ih]
   simp[h]
  ·rw[An1 h]
   simp[h]
theorem Zf(ts:List Tie)(k:Nat):trs ts (k+1)=if(ts.getD k zT).2.2.2.1=true then trs ts k++[ed (ts.getD k zT)]else trs ts k:=by
 unfold trs
 rw[Aok,Apl]
 rfl
theorem AJX(ts:List Tie):∀ k,(trs ts k).length≤k:=by
 intro k
 induction k with
 |zero=>exact An3 _
 |succ k ih=>
  rw[Zf]
  split
  ·rw[Anw];simp;omega
  ·omega
theorem Ajt(ts:List Tie)(e:Edge):∀ k,e∈trs ts k→∃ i,i<k∧e=ed (ts.getD i zT):=by
 intro k
 induction k with
 |zero=>intro h;simp[trs]at h
 |succ k ih=>
  intro h
  rw[Zf]at h
  split at h
  ·rcases Anv.1 h with h|h
   ·obtain⟨i,h1,h2⟩:=ih h;exact⟨i,by omega,h2⟩
   ·simp only[AoY]at h;exact⟨k,by omega,h⟩
  ·obtain⟨i,h1,h2⟩:=ih h;exact⟨i,by omega,h2⟩
def oks(N:Nat)(ts:List Tie):Prop:=∀ i∈List.range ts.length,Ll N ts i
instance (N:Nat)(ts:List Tie):Decidable (oks N ts):=inferInstanceAs (Decidable (∀ i∈List.range ts.length,Ll N ts i))
theorem ARG(N:Nat)(hN:N≤64)(ts:List Tie)(hs:ts.length≤400):
  AX DZ many ((N:Int),ts,JI N,ts,AN ts,(0:Int),())=some (if oks N ts then .inr (.inl ((N:Int),ts,()))else .inl (false,())):=by
 have e:=Ef (step:=DZ) (fun i (_:Unit)=>((N:Int),ts,JI N,ts,AN ts,(i:Int),())) (List.range ts.length) (fun i a=>if Ll N ts i then .inl a else .inr (.inl (false,()))) (fun _=>.inr (.inl ((N:Int),ts,()))) (fun _ _=>True) (by simp;omega)
  (fun i x a hi hx _=>by
   have:=KC hx
   subst this
   rw[AoR]at hi
   have step:DZ ((N:Int),ts,JI N,ts,AN ts,(x:Int),())=if Ll N ts x then some (.inl ((N:Int),ts,JI N,ts,AN ts,((x+1:Nat):Int),()))else some (.inr (.inl (false,()))):=by
    rw[DZ,AS,AL,Anq hi]
    simp only[LZ zT hi]
    obtain⟨t,ht⟩:∃ t,ts.getD x zT=t:=⟨_,rfl⟩
    have hk:Ll N ts x↔(0≤t.1∧t.1<t.2.1∧t.2.1<(N:Int)∧0≤t.2.2.1∧t.2.2.1≤JI N∧(x=0∨ahead (ts.getD (x-1) zT) t)):=by unfold Ll;rw[ht]
    rw[ht]
    rw[Ah,An,An,Ah,Ah]
    by_cases h1:t.1<0
    ·rw[Anq h1,An1 (fun h=>by obtain⟨q1,q2,q3,q4,q5,_⟩:=hk.1 h;omega)]
    rw[Anp h1]
    by_cases h2:t.2.1≤t.1
    ·rw[Anq h2,An1 (fun h=>by obtain⟨q1,q2,q3,q4,q5,_⟩:=hk.1 h;omega)]
    rw[Anp h2]
    by_cases h3:(N:Int)≤t.2.1
    ·rw[Anq h3,An1 (fun h=>by obtain⟨q1,q2,q3,q4,q5,_⟩:=hk.1 h;omega)]
    rw[Anp h3]
    by_cases h4:t.2.2.1<0
    ·rw[Anq h4,An1 (fun h=>by obtain⟨q1,q2,q3,q4,q5,_⟩:=hk.1 h;omega)]
    rw[Anp h4]
    by_cases h5:JI N<t.2.2.1
    ·rw[Anq h5,An1 (fun h=>by obtain⟨q1,q2,q3,q4,q5,_⟩:=hk.1 h;omega)]
    rw[Anp h5]
    simp only[]
    rw[AP (by omega),Ah]
    by_cases h6:x=0
    ·subst h6
     rw[Anp (by omega),An5 (hk.2 ⟨by omega,by omega,by omega,by omega,by omega,.inl rfl⟩)]
    ·rw[Anq (by omega),Ae (by omega),show((x:Int)-1)=((x-1:Nat):Int) by omega]
     simp only[LZ zT (show x-1<ts.length by omega)]
     obtain⟨y,ey,hy⟩:=ALj (ts.getD (x-1) zT) t
     have ey':Ja (((ts.getD (x-1) zT).1,((ts.getD (x-1) zT).2.1,((ts.getD (x-1) zT).2.2.1,((ts.getD (x-1) zT).2.2.2.1,())))),(t.1,(t.2.1,(t.2.2.1,(t.2.2.2.1,())))),())=some (y,()):=ey
     simp only[ey',hy]
     by_cases h7:ahead (ts.getD (x-1) zT) t
     ·rw[Anq h7,An5 (hk.2 ⟨by omega,by omega,by omega,by omega,by omega,.inr h7⟩)]
      rfl
     ·rw[Anp h7,An1 (fun h=>by rcases(hk.1 h).2.2.2.2.2 with h|h;exact h6 h;exact h7 h)]
      rfl
   by_cases h:Ll N ts x
   ·rw[An5 h]at step ⊢
    refine⟨fun m' h' => ?_,fun r h'=>(by cases h')⟩
    cases h'
    exact⟨step,trivial⟩
   ·rw[An1 h]at step ⊢
    refine⟨fun m' h'=>(by cases h'),fun r h' => ?_⟩
    cases h'
    exact step)
  (fun a _=>by rw[DZ,AoR,AS,AL,Anp (by omega)]) () trivial
 have e':AX DZ many ((N:Int),ts,JI N,ts,AN ts,(0:Int),())=_:=e
 rw[e',AOD (Ll N ts) (fun _ a=>a)]
 rfl
theorem Qn(N:Nat)(hN:N≤64)(ts:List Tie)(hs:ts.length≤400):
  AX EC many ((N:Int),ts,[],(0:Int),())=some (if oks N ts then .inr (.inl ((N:Int),ts,trs ts ts.length,()))else .inl (false,())):=by
 have e:=Ef (step:=EC) (fun i (a:List Edge)=>((N:Int),ts,a,(i:Int),())) (List.range ts.length) (fun i a=>if Ll N ts i then .inl (if(ts.getD i zT).2.2.2.1=true then a++[ed (ts.getD i zT)]else a)else .inr (.inl (false,()))) (fun a=>.inr (.inl ((N:Int),ts,a,()))) (fun i a=>a.length≤i) (by simp;omega)
  (fun i x a hi hx ha=>by
   have:=KC hx
   subst this
   rw[AoR]at hi
   have step:EC ((N:Int),ts,a,(x:Int),())=if Ll N ts x then some (.inl ((N:Int),ts,if(ts.getD x zT).2.2.2.1=true then a++[ed (ts.getD x zT)]else a,((x+1:Nat):Int),()))else some (.inr (.inl (false,()))):=by
    rw[EC,AS,AL,Anq hi]
    simp only[LZ zT hi,Aav N hN]
    obtain⟨t,ht⟩:∃ t,ts.getD x zT=t:=⟨_,rfl⟩
    have hk:Ll N ts x↔(0≤t.1∧t.1<t.2.1∧t.2.1<(N:Int)∧0≤t.2.2.1∧t.2.2.1≤JI N∧(x=0∨ahead (ts.getD (x-1) zT) t)):=by unfold Ll;rw[ht]
    rw[ht]
    rw[Ah,An,An,Ah,Ah]
    by_cases h1:t.1<0
    ·rw[Anq h1,An1 (fun h=>by obtain⟨q1,q2,q3,q4,q5,_⟩:=hk.1 h;omega)]
    rw[Anp h1]
    by_cases h2:t.2.1≤t.1
    ·rw[Anq h2,An1 (fun h=>by obtain⟨q1,q2,q3,q4,q5,_⟩:=hk.1 h;omega)]
    rw[Anp h2]
    by_cases h3:(N:Int)≤t.2.1
    ·rw[Anq h3,An1 (fun h=>by obtain⟨q1,q2,q3,q4,q5,_⟩:=hk.1 h;omega)]
    rw[Anp h3]
    by_cases h4:t.2.2.1<0
    ·rw[Anq h4,An1 (fun h=>by obtain⟨q1,q2,q3,q4,q5,_⟩:=hk.1 h;omega)]
    rw[Anp h4]
    by_cases h5:JI N<t.2.2.1
    ·rw[Anq h5,An1 (fun h=>by obtain⟨q1,q2,q3,q4,q5,_⟩:=hk.1 h;omega)]
    rw[Anp h5]
    simp only[AS]
    have hfit:fits ((a.length:Int)+(([(t.1,t.2.1,())]:List Edge).length:Int))=true:=Bh (by simp;omega)
    rw[AP (by omega),Ah]
    by_cases h6:x=0
    ·subst h6
     rw[Anp (by omega),An5 (hk.2 ⟨by omega,by omega,by omega,by omega,by omega,.inl rfl⟩)]
     cases ht4:t.2.2.2.1
     ·simp
     ·simp only[hfit]
      simp[ed,BV]
    ·rw[Anq (by omega),Ae (by omega),show((x:Int)-1)=((x-1:Nat):Int) by omega]
     simp only[LZ zT (show x-1<ts.length by omega),Ag]
     generalize ts.getD (x-1) zT=p at hk ⊢
     rw[Ah,An]
     by_cases h7:t.1<p.1
     ·rw[Anq h7,An1 (fun h=>by rcases(hk.1 h).2.2.2.2.2 with h|h|h<;>omega)]
     rw[Anp h7]
     by_cases h8:p.1=t.1
     ·rw[Anq h8]
      by_cases h9:t.2.1≤p.2.1
      ·rw[Anq h9,An1 (fun h=>by rcases(hk.1 h).2.2.2.2.2 with h|h|h<;>omega)]
      rw[Anp h9,An5 (hk.2 ⟨by omega,by omega,by omega,by omega,by omega,.inr (.inr ⟨h8,by omega⟩)⟩)]
      cases ht4:t.2.2.2.1
      ·simp
      ·simp only[hfit]
       simp[ed,BV]
     ·rw[Anp h8,An5 (hk.2 ⟨by omega,by omega,by omega,by omega,by omega,.inr (.inl (by omega))⟩)]
      cases ht4:t.2.2.2.1
      ·simp
      ·simp only[hfit]
       simp[ed,BV]
   by_cases h:Ll N ts x
   ·rw[An5 h]at step ⊢
    refine⟨fun m' h' => ?_,fun r h'=>(by cases h')⟩
    cases h'
    refine⟨step,?_⟩
    split
    ·rw[Anw];simp;omega
    ·omega
   ·rw[An1 h]at step ⊢
    refine⟨fun m' h'=>(by cases h'),fun r h' => ?_⟩
    cases h'
    exact step)
  (fun a _=>by rw[EC,AoR,AS,AL,Anp (by omega)]) [] (An3 _)
 have e':AX EC many ((N:Int),ts,[],(0:Int),())=_:=e
 rw[e',AOD (Ll N ts) (fun i a=>if(ts.getD i zT).2.2.2.1=true then a++[ed (ts.getD i zT)]else a)]
 rfl
end Go.Pev.Pl
end
end
section
section
namespace Go.Pev.Pl
theorem AZZ{N:Nat}{ts:List Tie}(hN:N≤64){i:Nat}(h:Ll N ts i):In (N:Int) (ed (ts.getD i zT)).1∧In (N:Int) (ed (ts.getD i zT)).2.1:=by
 obtain⟨q1,q2,q3,_⟩:=h
 exact⟨⟨by omega,by omega,q1,by show(ts.getD i zT).1<_;omega⟩,⟨by omega,by omega,by show 0≤(ts.getD i zT).2.1;omega,q3⟩⟩
theorem ATs{N:Nat}{ts:List Tie}(hN:N≤64)(h:oks N ts):∀ e∈trs ts ts.length,In (N:Int) e.1∧In (N:Int) e.2.1:=by
 intro e he
 obtain⟨i,hi,rfl⟩:=Ajt ts e _ he
 exact AZZ hN (h i (by simp[hi]))
theorem AnA{N:Nat}{ts:List Tie}(hN:N≤64)(h:oks N ts):∀ e∈ts.map ed,In (N:Int) e.1∧In (N:Int) e.2.1:=by
 intro e he
 obtain⟨t,ht,rfl⟩:=AoA.1 he
 obtain⟨i,hi,rfl⟩:=Apb ht
 have:=AZZ hN (h i (by simp[hi]))
 simpa [hi]using this
theorem AWP{N:Nat}(ts:List Tie)(hs:ts.length≤400)(h:oks N ts):ACR (((N:Int),(ts,())),(0:Int),())=some (trs ts ts.length,()):=by
 rw[AHv,Q3]
 have e:=Ef (step:=FX) (fun i (a:List Edge)=>((0:Int),a,ts,AN ts,(i:Int),())) (List.range ts.length) (fun i a=>.inl (if(ts.getD i zT).2.2.2.1=true then a++[ed (ts.getD i zT)]else a)) (fun a=>.inl (a,())) (fun i a=>a.length≤i) (by simp;omega)
  (fun i x a hi hx ha=>by
   refine⟨fun m' h' => ?_,fun r h'=>(by cases h')⟩
   cases h'
   have:=KC hx
   subst this
   rw[AoR]at hi
   have hlv:=(h x (by simp[hi])).2.2.2.1
   constructor
   ·rw[FX,AS,AL,Anq hi]
    simp only[LZ zT hi,AS]
    have hfit:fits ((a.length:Int)+(([((ts.getD x zT).1,(ts.getD x zT).2.1,())]:List Edge).length:Int))=true:=Bh (by simp;omega)
    rw[AP (by omega),An,Anq hlv]
    cases ht4:(ts.getD x zT).2.2.2.1
    ·simp
    ·simp only[hfit]
     simp[ed,BV]
   ·split
    ·rw[Anw];simp;omega
    ·omega)
  (fun a _=>by rw[FX,AoR,AS,AL,Anp (by omega)]) [] (An3 _)
 have e':AX FX many ((0:Int),[],ts,AN ts,(0:Int),())=_:=e
 simp only[e']
 rw[CN (fun i a=>if(ts.getD i zT).2.2.2.1=true then a++[ed (ts.getD i zT)]else a)]
 rfl
def cnt(out:List Int)(N:Nat):Nat:=((List.range N).filter fun k=>decide (out.getD k 0=(k:Int))).length
theorem APX{N:Nat}{rings:List (List Int)}{l:List Edge}{out:List Int}(h:FC (N:Int) rings l)(hc:Wj (N:Int) l out):rings.length=cnt out N:=by
 have hsz:=h.fr.sz
 have hp:(rings.map hd).Perm (((List.range N).filter fun k=>decide (out.getD k 0=(k:Int))).map fun(k:Nat)=>(k:Int)):=by
  rw[Aqq]
  ·intro a
   simp only[AoA,AoS,AoT,Anu]
   constructor
   ·rintro⟨A,hA,rfl⟩
    have gA:=h.fr.rg A hA
    have ih:In (N:Int) (hd A):=Rs gA
    have hh:=AL1 gA.2.1
    have:=ARi h hc hA ih hh
    obtain⟨_,_,a1,a2⟩:=ih
    refine⟨(hd A).toNat,⟨by omega,?_⟩,by omega⟩
    rw[show out.getD (hd A).toNat 0=cl out (hd A)from rfl,← this]
    omega
   ·rintro⟨k,⟨hk,ho⟩,rfl⟩
    have ik:In (N:Int) (k:Int):=⟨hsz.1,hsz.2,by omega,by omega⟩
    obtain⟨A,hA,hm⟩:=h.fr.cov _ ik
    refine⟨A,hA,?_⟩
    rw[ARi h hc hA ik hm]
    unfold cl
    rw[Aor];exact ho
  ·exact(Apm.2 h.fr.up).imp (fun h=>by omega)
  ·refine List.Pairwise.map _ (S:=fun a b=>a≠b) (R:=fun a b=>a≠b) (fun a b h h'=>h (by omega)) ?_
   exact(ApR).filter _
 have:=hp.length_eq
 rw[AoE,AoE]at this
 exact this
theorem OE(N:Nat)(hN:N≤64)(p:List Tie)(q:List Edge)(out:List Int)(ho:out.length=N):AX FL many ((N:Int),p,q,out,(0:Int),(0:Int),())=some (.inl ((N:Int),p,q,(cnt out N:Int),())):=by
 have e:=Ef (step:=FL) (fun i (a:Nat)=>((N:Int),p,q,out,(a:Int),(i:Int),())) (List.range N) (fun k a=>.inl (if out.getD k 0=(k:Int)then a+1 else a)) (fun a=>.inl ((N:Int),p,q,(a:Int),())) (fun i a=>a≤i) (by simp;omega)
  (fun i x a hi hx ha=>by
   refine⟨fun m' h' => ?_,fun r h'=>(by cases h')⟩
   cases h'
   have:=KC hx
   subst this
   rw[AoR]at hi
   constructor
   ·rw[FL,AL,Anq hi]
    simp only[LZ 0 (show x<out.length by omega),Pr,Ag]
    rw[AP (by omega),AP (by omega)]
    by_cases h:out.getD x 0=(x:Int)
    ·rw[Anq h,An5 h]
    ·rw[Anp h,An1 h]
   ·split<;>omega)
  (fun a _=>by rw[FL,AoR,AL,Anp (by omega)]) 0 (An3 _)
 have e':AX FL many ((N:Int),p,q,out,(0:Int),(0:Int),())=_:=e
 rw[e',CN (fun k a=>if out.getD k 0=(k:Int)then a+1 else a)]
 have key:∀ (xs:List Nat) (a:Nat),xs.foldl (fun a k=>if out.getD k 0=(k:Int)then a+1 else a) a=a+(xs.filter fun k=>decide (out.getD k 0=(k:Int))).length:=by
  intro xs
  induction xs with
  |nil=>intro a;rfl
  |cons x xs ih=>
   intro a
   rw[Aow,ih,Ao6]
   by_cases h:out.getD x 0=(x:Int)
   ·simp only[h,Aoa,AoI,An0];omega
   ·simp only[h,AoC,Aob,An8]
 rw[key,Ao8]
 rfl
theorem AEf(n:Int)(ts:List Tie)(hl:ts.length<4611686018427387904):∃ b:Bool,NS ((n,(ts,())),())=some (b,())∧FY ((n,(ts,())),())=some (b,())∧(b=true→∃ N:Nat,n=(N:Int)∧1≤N∧N≤64∧ts.length≤400∧oks N ts):=by
 by_cases hn:¬ (1≤n∧n≤64)
 ·refine⟨false,?_,?_,fun h=>by cases h⟩
  ·rw[HV,FM,Ah,Ah]
   by_cases h:n<1
   ·simp only[Anq h]
   ·simp only[Anp h,Anq (show 64<n by omega)]
  ·rw[JZ,Ha]
   simp only[T5,MO,An]
   by_cases h:1≤n
   ·simp only[Anq h,Anp (show ¬ n≤64 by omega),Aog]
   ·simp only[Anp h,Aog]
 have hn:=AqF.1 hn
 obtain⟨N,rfl⟩:=An4 (show 0≤n by omega)
 have hsz:T6 ((N:Int),())=some (true,()):=by
  simp only[T5,MO,An,Anq hn.1,Anq hn.2]
 by_cases h4:¬ ts.length≤400
 ·refine⟨false,?_,?_,fun h=>by cases h⟩
  ·rw[HV,FM]
   simp only[Ah,AS]
   rw[Anp (show ¬ (N:Int)<1 by omega),Anp (show ¬ 64<(N:Int) by omega),Anq (show 400<(ts.length:Int) by omega)]
  ·rw[JZ,Ha]
   simp only[hsz,An2,Ah,AS]
   rw[Anq (show 400<(ts.length:Int) by omega)]
 have h4:=AqF.1 h4
 have R:=Qn N (by omega) ts h4
 have L:=ARG N (by omega) ts h4
 by_cases ho:¬ oks N ts
 ·rw[An1 ho]at R L
  refine⟨false,?_,?_,fun h=>by cases h⟩
  ·rw[HV,FM]
   simp only[Ah,AS]
   rw[Anp (show ¬ (N:Int)<1 by omega),Anp (show ¬ 64<(N:Int) by omega),Anp (show ¬ 400<(ts.length:Int) by omega)]
   simp only[R]
  ·rw[JZ,Ha]
   simp only[hsz,An2,Ah,AS,ARD N (by omega)]
   rw[Anp (show ¬ 400<(ts.length:Int) by omega)]
   rw[AS]at L
   simp only[L]
 have ho:=AqF.1 ho
 rw[An5 ho]at R L
 have hin:=ATs (show N≤64 by omega) ho
 have hlen:=AJX ts ts.length
 obtain⟨out,hc,hcl⟩:=GP (N:Int) (trs ts ts.length) hn (by omega) hin
 rcases(AlV (N:Int) (trs ts ts.length) hn (by omega)).symm with⟨hno,_⟩|⟨_,rings,hf,hfc⟩
 ·exact absurd hin hno
 have hcount:=APX hfc hcl
 have hol:out.length=N:=by have:=hcl.len;omega
 refine⟨decide ((cnt out N:Int)=(N:Int)-(trs ts ts.length).length),?_,?_,fun _=>⟨N,rfl,by omega,by omega,h4,ho⟩⟩
 ·rw[HV,FM]
  simp only[Ah,AS]
  rw[Anp (show ¬ (N:Int)<1 by omega),Anp (show ¬ 64<(N:Int) by omega),Anp (show ¬ 400<(ts.length:Int) by omega)]
  simp only[R,hc,OE N (by omega) _ _ out hol,Ag]
  rw[Ae (by omega)]
 ·rw[JZ,Ha]
  simp only[hsz,An2,Ah,AS,ARD N (by omega)]
  rw[Anp (show ¬ 400<(ts.length:Int) by omega)]
  rw[AS]at L
  simp only[L,AWP ts h4 ho,hf,AH6,Ag,hcount]
  rw[Ae (by omega)]
end Go.Pev.Pl
end
section
namespace Go.Pev.Pl
theorem Wj.unique{N:Nat}{l:List Edge}{a b:List Int}(h1:1≤N)(h2:N≤64)(ha:Wj (N:Int) l a)(hb:Wj (N:Int) l b):a=b:=by
 have la:=ha.len
 have lb:=hb.len
 refine AMP (0:Int) (by omega) fun k hk => ?_
 have ik:In (N:Int) (k:Int):=⟨by omega,by omega,by omega,by omega⟩
 have e1:=ha.least _ _ ik (hb.isin _ ik) (hb.con _ ik)
 have e2:=hb.least _ _ ik (ha.isin _ ik) (ha.con _ ik)
 unfold cl at e1 e2
 rw[Aor]at e1 e2
 omega
theorem AdZ(xs:List Tie)(a:List Edge):xs.foldl (fun a x=>a++[ed x]) a=a++xs.map ed:=Ada ed xs a
theorem ACb(n:Int)(ts:List Tie)(hs:ts.length≤400)(h:FY ((n,(ts,())),())=some (true,())):UA ((n,(ts,())),())=some (ts.map ed,()):=by
 rw[AH0,Q4]
 simp only[h,An2]
 have e:=Ef (step:=FZ) (fun i (a:List Edge)=>(a,ts,AN ts,(i:Int),())) ts (fun x a=>.inl (a++[ed x])) (fun a=>.inl (a,())) (fun i a=>a.length≤i) (by omega)
  (fun i x a hi hx ha=>by
   refine⟨fun m' h' => ?_,fun r h'=>(by cases h')⟩
   cases h'
   constructor
   ·rw[FZ]
    simp only[AS]
    rw[AL,Anq hi]
    simp only[AT hx]
    rw[Bh (by simp;omega),AP (by omega)]
    rfl
   ·rw[Anw];simp;omega)
  (fun a _=>by rw[FZ,AS,AL,Anp (by omega)]) [] (An3 _)
 have e':AX FZ many ([],ts,AN ts,(0:Int),())=_:=e
 simp only[e']
 rw[CN (fun x a=>a++[ed x]),AdZ]
 rfl
def InV(N:Nat)(x:Int):Prop:=0≤x∧x<(N:Int)
instance (N:Nat)(x:Int):Decidable (InV N x):=inferInstanceAs (Decidable (_∧_))
end Go.Pev.Pl
end
section
namespace Go.Pev.Pl
end Go.Pev.Pl
end
section
namespace Go.Pev.Pl
def N6(l:List Edge)(u v:Int):Prop:=((u,(v,())):Edge)∈l∨((v,(u,())):Edge)∈l
instance (l:List Edge)(u v:Int):Decidable (N6 l u v):=inferInstanceAs (Decidable (_∨_))
def AgB(N:Nat)(l:List Edge)(u:Nat):List Edge:=((List.range (N-(u+1))).filter fun i=>decide (N6 l (u:Int) ((u+1+i:Nat):Int))).map fun(i:Nat)=>((u:Int),((u+1+i:Nat):Int),())
def FQ(N:Nat)(l:List Edge):List Edge:=(List.range N).flatMap fun u=>AgB N l u
end Go.Pev.Pl
end
section
namespace Go.Pev.Pl
def DB(N:Nat)(ts:List Tie)(l:List Edge):List Edge:=(FQ N l).filter fun x => !decide (x∈ts.map ed)
def AA7(l:List Tie)(t:Tie):List Tie:=l.take (l.findIdx fun x => !decide (ahead x t))++t::l.drop (l.findIdx fun x => !decide (ahead x t))
end Go.Pev.Pl
end
section
namespace Go.Pev.Pl
def valid(N:Nat)(t:Tie):Prop:=0≤t.1∧t.1<t.2.1∧t.2.1<(N:Int)∧0≤t.2.2.1∧t.2.2.1≤JI N
theorem ahead.trans{a b c:Tie}(h:ahead a b)(h':ahead b c):ahead a c:=by
 unfold ahead at *
 omega
theorem ALI(N:Nat)(ts:List Tie):oks N ts↔(∀ t∈ts,valid N t)∧ts.Pairwise ahead:=by
 constructor
 ·intro h
  have hv:∀ i,i<ts.length→Ll N ts i:=fun i hi=>h i (by simpa using hi)
  refine⟨fun t ht => ?_,?_⟩
  ·obtain⟨i,hi,rfl⟩:=Apb ht
   obtain⟨q1,q2,q3,q4,q5,_⟩:=hv i hi
   simp only[Ans,Ant hi,Aom]at q1 q2 q3 q4 q5
   exact⟨q1,q2,q3,q4,q5⟩
  ·have key:∀ (d i:Nat),i+d+1<ts.length→ahead (ts.getD i zT) (ts.getD (i+d+1) zT):=by
    intro d
    induction d with
    |zero=>
     intro i hi
     obtain⟨_,_,_,_,_,q⟩:=hv (i+0+1) hi
     rcases q with q|q
     ·omega
     ·simpa using q
    |succ d ih=>
     intro i hi
     have h1:=ih i (by omega)
     obtain⟨_,_,_,_,_,q⟩:=hv (i+(d+1)+1) hi
     rcases q with q|q
     ·omega
     ·rw[show i+(d+1)+1-1=i+d+1 by omega]at q
      exact h1.trans q
   rw[Apc]
   intro i j hi hj hij
   have:=key (j-i-1) i (by omega)
   rw[show i+(j-i-1)+1=j by omega]at this
   simpa only[Ans,Ant hi,Ant hj,Aom]using this
 ·rintro⟨h1,h2⟩ i hi
  have hi:i<ts.length:=by simpa using hi
  have e:∀ j (hj:j<ts.length),ts.getD j zT=ts[j]:=fun j hj=>by
   simp only[Ans,Ant hj,Aom]
  obtain⟨q1,q2,q3,q4,q5⟩:=h1 ts[i] (Apg hi)
  unfold Ll
  rw[e i hi]
  refine⟨q1,q2,q3,q4,q5,?_⟩
  by_cases h0:i=0
  ·exact .inl h0
  ·right
   rw[e (i-1) (by omega)]
   exact(Apc.1 h2) (i-1) i (by omega) hi (by omega)
theorem AHW(l:List Tie)(t:Tie):(AA7 l t).Perm (t::l):=by
 unfold AA7
 refine List.perm_middle.trans ?_
 rw[Ao1]
theorem Abr{l:List Tie}{t:Tie}(h:l.Pairwise ahead)(hn:∀ x∈l,¬ (x.1=t.1∧x.2.1=t.2.1)):(AA7 l t).Pairwise ahead:=by
 induction l with
 |nil=>simp[AA7]
 |cons a l ih=>
  rw[Ao3]at h
  have hna:=hn a (by simp)
  have hnl:∀ x∈l,¬ (x.1=t.1∧x.2.1=t.2.1):=fun x hx=>hn x (by simp[hx])
  by_cases ha:ahead a t
  ·have e:AA7 (a::l) t=a::AA7 l t:=by
    unfold AA7
    rw[Aqe]
    simp[ha]
   rw[e,Ao3]
   refine⟨fun x hx => ?_,ih h.2 hnl⟩
   rcases Anx.1 ((AHW l t).mem_iff.1 hx)with rfl|hx
   ·exact ha
   ·exact h.1 x hx
  ·have e:AA7 (a::l) t=t::a::l:=by
    unfold AA7
    rw[Aqe]
    simp[ha]
   have hta:ahead t a:=by unfold ahead at *;omega
   rw[e,Ao3,Ao3]
   refine⟨fun x hx => ?_,h.1,h.2⟩
   rcases Anx.1 hx with rfl|hx
   ·exact hta
   ·exact hta.trans (h.1 x hx)
end Go.Pev.Pl
end
section
namespace Go.Pev.Pl
theorem PQ(N:Nat)(l:List Edge)(x:Edge):x∈FQ N l↔0≤x.1∧x.1<x.2.1∧x.2.1<(N:Int)∧N6 l x.1 x.2.1:=by
 unfold FQ AgB
 simp only[Apv,AoA,AoS,AoT,Anu]
 constructor
 ·rintro⟨u,hu,i,⟨hi,he⟩,rfl⟩
  exact⟨by show(0:Int)≤(u:Int);omega,by show(u:Int)<((u+1+i:Nat):Int);omega,by show((u+1+i:Nat):Int)<(N:Int);omega,he⟩
 ·obtain⟨a,b,⟨⟩⟩:=x
  rintro⟨h1,h2,h3,h4⟩
  simp only at h1 h2 h3 h4
  obtain⟨u,rfl⟩:=An4 h1
  obtain⟨v,rfl⟩:=An4 (show 0≤b by omega)
  refine⟨u,by omega,v-(u+1),⟨by omega,?_⟩,?_⟩
  ·rw[show u+1+(v-(u+1))=v by omega];exact h4
  ·rw[show u+1+(v-(u+1))=v by omega]
def Dq(p x:Edge):Prop:=p.1<x.1∨(p.1=x.1∧p.2.1<x.2.1)
theorem L9(N:Nat)(l:List Edge):(FQ N l).Pairwise Dq:=by
 unfold FQ
 rw[List.pairwise_flatMap]
 refine⟨fun u _ => ?_,?_⟩
 ·unfold AgB
  rw[Apm]
  refine Aqk _ ?_
  refine List.pairwise_lt_range.imp fun h => ?_
  exact .inr ⟨rfl,by show((u+1+_:Nat):Int)<((u+1+_:Nat):Int);omega⟩
 ·refine List.pairwise_lt_range.imp fun h x hx y hy => ?_
  unfold AgB at hx hy
  simp only[AoA]at hx hy
  obtain⟨i,_,rfl⟩:=hx
  obtain⟨j,_,rfl⟩:=hy
  exact .inl (by simp only;omega)
theorem NZ(N:Nat)(ts:List Tie)(l:List Edge)(x:Edge):x∈DB N ts l↔(0≤x.1∧x.1<x.2.1∧x.2.1<(N:Int)∧N6 l x.1 x.2.1)∧¬ x∈ts.map ed:=by
 unfold DB
 rw[AoS,PQ]
 simp
theorem AEB(N:Nat)(ts:List Tie)(l:List Edge):(DB N ts l).Pairwise Dq:=(L9 N l).filter _
end Go.Pev.Pl
end
section
namespace Go.Pev.Pl
open Tok
instance (n v:Int):Decidable (In n v):=inferInstanceAs (Decidable (_∧_))
instance (n:Int):Decidable (Sz n):=inferInstanceAs (Decidable (_∧_))
end Go.Pev.Pl
end
section
namespace Go.Pev.Pl
instance (xs:List Int):Decidable (Rt xs):=inferInstanceAs (Decidable (_∧_∧_))
end Go.Pev.Pl
end
section
namespace Go.Pev.Pl
open Tok
noncomputable instance (n:Int) (xs:List Int):Decidable (TI n xs):=Classical.propDecidable _
end Go.Pev.Pl
end
section
namespace Go.Pev.Pl
open Tok
end Go.Pev.Pl
end
section
namespace Go.Pev.Pl
open Tok
end Go.Pev.Pl
end
section
namespace Go.Pev.Pl
open Tok
noncomputable instance (n:Int) (rings:List (List Int)):Decidable (RF n rings):=Classical.propDecidable _
noncomputable instance (n:Int) (xs:List Int):Decidable (RG n xs):=Classical.propDecidable _
end Go.Pev.Pl
end
end
section
section
namespace Go.Pev.Pl
open Tok
end Go.Pev.Pl
end
section
namespace Go.Pev.Pl
open Tok
end Go.Pev.Pl
end
section
namespace Go.Pev.Pl
open Tok
end Go.Pev.Pl
end
section
namespace Go.Pev.Pl
open Tok
end Go.Pev.Pl
end
section
namespace Go.Pev.Pl
open Go.RowKit Tok
end Go.Pev.Pl
end
section
namespace Go.Pev.Pl
open Tok
end Go.Pev.Pl
end
section
namespace Go.Pev.Pl
open Tok
end Go.Pev.Pl
end
section
namespace Go.Pev.Pl
open Tok
def sel(l:List Edge)(bs:List Bool):List Edge:=((l.zip bs).filter fun p=>p.2).map fun p=>p.1
end Go.Pev.Pl
end
section
namespace Go.Pev.Pl
open Tok
instance (n v:Int):Decidable (In n v):=inferInstanceAs (Decidable (_∧_))
instance (n:Int):Decidable (Sz n):=inferInstanceAs (Decidable (_∧_))
end Go.Pev.Pl
end
section
namespace Go.Pev.Pl
instance (xs:List Int):Decidable (Rt xs):=inferInstanceAs (Decidable (_∧_∧_))
end Go.Pev.Pl
end
section
namespace Go.Pev.Pl
open Tok
noncomputable instance (n:Int) (xs:List Int):Decidable (TI n xs):=Classical.propDecidable _
end Go.Pev.Pl
end
section
namespace Go.Pev.Pl
open Tok
noncomputable instance (n:Int) (rings:List (List Int)):Decidable (RF n rings):=Classical.propDecidable _
noncomputable instance (n:Int) (xs:List Int):Decidable (RG n xs):=Classical.propDecidable _
end Go.Pev.Pl
end
section
namespace Go.Pev.Pl
open Tok
end Go.Pev.Pl
end
section
namespace Go.Pev.Pl
open Tok
end Go.Pev.Pl
end
section
namespace Go.Pev.Pl
open Tok
end Go.Pev.Pl
end
section
namespace Go.Pev.Pl
open Tok
end Go.Pev.Pl
end
section
namespace Go.Pev.Pl
open Tok
theorem APZ{N:Nat}(h1:1≤N)(hN:N≤64){ts:List Tie}(hs:ts.length≤400)(ho:oks N ts){out:List Int}(hc:Wj (N:Int) (trs ts ts.length) out):
  NS (((N:Int),(ts,())),())=some (decide ((cnt out N:Int)=(N:Int)-(trs ts ts.length).length),()):=by
 have R:=Qn N hN ts hs
 rw[An5 ho]at R
 have hin:=ATs hN ho
 have hlen:=AJX ts ts.length
 obtain⟨o2,e2,c2⟩:=GP (N:Int) (trs ts ts.length) ⟨by omega,by omega⟩ (by omega) hin
 have:=Wj.unique h1 hN hc c2
 subst this
 have hol:out.length=N:=by have:=hc.len;omega
 rw[HV,FM]
 simp only[Ah,AS]
 rw[Anp (show ¬ (N:Int)<1 by omega),Anp (show ¬ 64<(N:Int) by omega),Anp (show ¬ 400<(ts.length:Int) by omega)]
 simp only[R,e2,OE N hN _ _ out hol,Ag]
 rw[Ae (by omega)]
end Go.Pev.Pl
end
section
namespace Go.Pev.Pl
open Tok
theorem Con.perm{l l':List Edge}(h:∀ e,e∈l↔e∈l'){a b:Int}:Con l a b↔Con l' a b:=
 ⟨fun c=>c.mono fun e he=>⟨e,(h e).1 he,.inl ⟨rfl,rfl⟩⟩,fun c=>c.mono fun e he=>⟨e,(h e).2 he,.inl ⟨rfl,rfl⟩⟩⟩
theorem Wj.congr{n:Int}{l l':List Edge}{out:List Int}(h:∀ a b,Con l a b↔Con l' a b)(hc:Wj n l out):Wj n l' out:=
 ⟨hc.len,fun a b ia ib=>(hc.same a b ia ib).trans (h a b),hc.isin,fun a ia=>(h a _).1 (hc.con a ia),fun a b ia ib c=>hc.least a b ia ib ((h a b).2 c)⟩
end Go.Pev.Pl
end
section
namespace Go.Pev.Pl
open Tok
def AG4(x:Edge)(b:Bool):Tie:=(x.1,x.2.1,0,b,())
def Yd(ts:List Tie)(xs:List Edge)(bs:List Bool)(k:Nat):List Tie:=(List.range k).foldl (fun a i=>AA7 a (AG4 (xs.getD i (0,0,())) (bs.getD i false))) ts
end Go.Pev.Pl
end
section
namespace Go.Pev.Pl
open Tok
def AV7(xs:List Edge)(bs:List Bool)(k:Nat):List Tie:=(List.range k).map fun i=>AG4 (xs.getD i (0,0,())) (bs.getD i false)
theorem AIz(ts:List Tie)(xs:List Edge)(bs:List Bool)(k:Nat):Yd ts xs bs (k+1)=AA7 (Yd ts xs bs k) (AG4 (xs.getD k (0,0,())) (bs.getD k false)):=by
 unfold Yd
 rw[Aok,Apl]
 rfl
theorem WB(ts:List Tie)(xs:List Edge)(bs:List Bool):∀ k,(Yd ts xs bs k).Perm (ts++AV7 xs bs k):=by
 intro k
 induction k with
 |zero=>simp[Yd,AV7]
 |succ k ih=>
  rw[AIz]
  refine(AHW _ _).trans ?_
  unfold AV7 at *
  rw[Aok,Aon,← AoV]
  refine(List.Perm.cons _ ih).trans ?_
  exact(List.perm_append_singleton _ _).symm
end Go.Pev.Pl
end
section
namespace Go.Pev.Pl
open Tok
theorem AjZ{N:Nat}{ts:List Tie}(h:oks N ts)(hv0:0≤JI N){xs:List Edge}(bs:List Bool)(hp:xs.Pairwise Dq)(hx:∀ e∈xs,0≤e.1∧e.1<e.2.1∧e.2.1<(N:Int))(hn:∀ e∈xs,¬ e∈ts.map ed):oks N (Yd ts xs bs xs.length):=by
 rw[ALI]at h ⊢
 obtain⟨h1,h2⟩:=h
 have hget:∀ i (hi:i<xs.length),xs.getD i (0,0,())=xs[i]:=fun i hi=>by
  simp only[Ans,Ant hi,Aom]
 have hmem:∀ k,k≤xs.length→∀ t∈Yd ts xs bs k,t∈ts∨∃ i,i<k∧t=AG4 (xs.getD i (0,0,())) (bs.getD i false):=by
  intro k hk t ht
  rcases Anv.1 ((WB ts xs bs k).mem_iff.1 ht)with h|h
  ·exact .inl h
  ·unfold AV7 at h
   obtain⟨i,hi,rfl⟩:=AoA.1 h
   exact .inr ⟨i,by simpa using hi,rfl⟩
 refine⟨fun t ht => ?_,?_⟩
 ·rcases hmem _ (An3 _) t ht with h|⟨i,hi,rfl⟩
  ·exact h1 t h
  ·rw[hget i hi]
   obtain⟨q1,q2,q3⟩:=hx xs[i] (Apg hi)
   exact⟨q1,q2,q3,by show(0:Int)≤0;omega,hv0⟩
 ·have key:∀ k,k≤xs.length→(Yd ts xs bs k).Pairwise ahead:=by
   intro k
   induction k with
   |zero=>intro _;exact h2
   |succ k ih=>
    intro hk
    rw[AIz]
    refine Abr (ih (by omega)) fun t ht => ?_
    rw[hget k (by omega)]
    rintro⟨e1,e2⟩
    rcases hmem k (by omega) t ht with h|⟨i,hi,rfl⟩
    ·refine hn xs[k] (Apg (by omega)) (AoA.2 ⟨t,h,?_⟩)
     unfold ed
     rw[e1,e2]
     rfl
    ·rw[hget i (by omega)]at e1 e2
     have:=(Apc.1 hp) i k (by omega) (by omega) hi
     unfold Dq at this
     simp only[AG4]at e1 e2
     omega
  exact key _ (An3 _)
end Go.Pev.Pl
end
section
namespace Go.Pev.Pl
open Tok
theorem AfF(ts:List Tie):∀ k,k≤ts.length→trs ts k=((ts.take k).filter fun t=>t.2.2.2.1).map ed:=by
 intro k
 induction k with
 |zero=>intro _;simp[trs]
 |succ k ih=>
  intro hk
  have hk':k<ts.length:=by omega
  rw[Zf,ih (by omega),ApK hk',ApC,Aon]
  simp only[Ans,Ant hk',Aom]
  cases h:ts[k].2.2.2.1
  ·simp[h]
  ·simp[h]
theorem AYv(ts:List Tie):trs ts ts.length=(ts.filter fun t=>t.2.2.2.1).map ed:=by
 rw[AfF ts _ (An3 _),AoX]
end Go.Pev.Pl
end
section
namespace Go.Pev.Pl
open Tok
theorem Ahc{xs:List Edge}{bs:List Bool}(h:bs.length=xs.length):AV7 xs bs xs.length=(xs.zip bs).map fun p=>AG4 p.1 p.2:=by
 unfold AV7
 apply AqL
 ·simp[h]
 ·intro i h1 h2
  have hi:i<xs.length:=by simpa using h1
  simp[hi,show i<bs.length by omega]
theorem AjY(ts:List Tie){xs:List Edge}{bs:List Bool}(h:bs.length=xs.length):(trs (Yd ts xs bs xs.length) (Yd ts xs bs xs.length).length).Perm (trs ts ts.length++sel xs bs):=by
 rw[AYv,AYv]
 refine(((WB ts xs bs xs.length).filter _).map ed).trans ?_
 rw[ApC,Aon,Ahc h,List.filter_map,List.map_map]
 exact Aq1 _
theorem Aja(ts:List Tie)(xs:List Edge)(bs:List Bool):∀ k,(Yd ts xs bs k).length=ts.length+k:=by
 intro k
 rw[(WB ts xs bs k).length_eq]
 simp[AV7]
end Go.Pev.Pl
end
end
section
section
namespace Go.Pev.Pl
open Tok
def AmM(N:Nat)(l:List Edge):Prop:=∀ e∈l,In (N:Int) e.1∧In (N:Int) e.2.1
theorem Ai5{N:Nat}(hN:N≤64)(ts:List Tie)(l:List Edge):∀ e∈DB N ts l,In (N:Int) e.1∧In (N:Int) e.2.1:=by
 intro e he
 obtain⟨⟨a,b,c,_⟩,_⟩:=(NZ N ts l e).1 he
 exact⟨⟨by omega,by omega,a,by omega⟩,⟨by omega,by omega,by omega,c⟩⟩
end Go.Pev.Pl
end
section
namespace Go.Pev.Pl
open Tok
theorem AZt{N:Nat}(h1:1≤N)(hN:N≤64){a:Int}(h:0≤a∧a<(N:Int)):In (N:Int) a:=⟨by omega,by omega,h.1,h.2⟩
theorem Am3{N:Nat}{e:Edge}(h:In (N:Int) e.1∧In (N:Int) e.2.1):InE N e:=⟨⟨h.1.2.2.1,h.1.2.2.2⟩,⟨h.2.2.2.1,h.2.2.2.2⟩⟩
theorem AnE{N:Nat}(h1:1≤N)(hN:N≤64){l:List Edge}{out:List Int}(hc:Wj (N:Int) l out):cnt out N=cc N l:=by
 unfold cnt cc
 rw[List.countP_eq_length_filter]
 congr 1
 refine Ap6 fun k hk => ?_
 have hk:k<N:=by simpa using hk
 have ik:=AZt h1 hN (a:=(k:Int)) ⟨by omega,by omega⟩
 have hg:out.getD k 0=cl out (k:Int):=by unfold cl;rw[Aor]
 rw[hg,ApH,Apy,Hb]
 constructor
 ·intro h j hj hcn
  have:=hc.least (k:Int) (j:Int) ik (AZt h1 hN ⟨by omega,by omega⟩) hcn.symm
  omega
 ·intro h
  have a1:=hc.isin _ ik
  have a2:=hc.con _ ik
  have a3:=hc.least (k:Int) (k:Int) ik ik (.refl _)
  obtain⟨m,hm⟩:=An4 a1.2.2.1
  rw[hm]at a2 a3 ⊢
  by_cases hlt:m<k
  ·exact absurd a2.symm (h m hlt)
  ·omega
theorem FC.congr{n:Int}{rings:List (List Int)}{l l':List Edge}(h:FC n rings l)(hm:∀ e∈l,e∈l')(hc:∀ e∈l',Con l e.1 e.2.1):FC n rings l':=
 ⟨h.fr,fun a b ia ib=>(h.sam a b ia ib).trans ⟨fun c=>c.sub hm,fun c=>c.cut hc⟩,fun A hA u v ho hu=>by
  obtain⟨e,he,q⟩:=h.arcs A hA u v ho hu
  exact⟨e,hm e he,q⟩⟩
theorem APY{N:Nat}(h1:1≤N)(hN:N≤64){ts:List Tie}(hs:ts.length≤400)(ho:oks N ts):NS (((N:Int),(ts,())),())=some (true,())↔Fo N (trs ts ts.length):=by
 have hlen:=AJX ts ts.length
 obtain⟨o,_,c⟩:=GP (N:Int) (trs ts ts.length) ⟨by omega,by omega⟩ (by omega) (ATs hN ho)
 rw[APZ h1 hN hs ho c,AnE h1 hN c]
 unfold Fo
 constructor
 ·intro h
  have:decide ((cc N (trs ts ts.length):Int)=(N:Int)-(trs ts ts.length).length)=true:=by injection h with h;injection h
  have:=Ap5 this
  omega
 ·intro h
  rw[Anq (by omega)]
end Go.Pev.Pl
end
section
namespace Go.Pev.Pl
open Tok
end Go.Pev.Pl
end
section
namespace Go.Pev.Pl.SE
open Go.Sort
def ok(_:Int×Int×Unit):Prop:=True
def okz:Int×Int×Unit:=(0,0,())
theorem Tm:ok okz:=trivial
def lt(x y:Int×Int×Unit):Bool:=decide (x.1<y.1∨(x.1=y.1∧x.2.1<y.2.1))
theorem swo:SWO lt:=⟨fun x=>by simp[lt],fun x y z h1 h2=>by simp only[lt,Anu]at *;omega,fun x y z h1 h2=>by simp only[lt,Aou]at *;omega⟩
theorem Xi(a b:Int):DS (a,b,())=some (if a<b then -1 else if b<a then 1 else 0,()):=by
 rw[Gd,EK,KJ,KK,KJ,KK]
 simp only[CL,Ah]
 by_cases h:a<b
 ·simp[h]
 ·by_cases h2:b<a
  ·simp[h,h2]
  ·simp[h,h2]
theorem or_val(a b:Int):orI ([a,b],())=some (if a=0 then b else a,()):=by
 obtain⟨m,hm⟩:∃ m,many=m+3:=⟨many-3,by simp only[many]⟩
 rw[ALG,AHm,A3,hm]
 have i0:idx [a,b] (0:Int)=some a:=by rw[idx_eq];rfl
 have i1:idx [a,b] (1:Int)=some b:=by rw[idx_eq];rfl
 have l2:AN [a,b]=(2:Int):=rfl
 have w1:IntKind.wrap .i64 ((0:Int)+1)=1:=by rw[Ae (by omega)];rfl
 have w2:IntKind.wrap .i64 ((1:Int)+1)=2:=by rw[Ae (by omega)];rfl
 have c0:ilt (0:Int) 2=true:=by rw[Ah];rfl
 have c1:ilt (1:Int) 2=true:=by rw[Ah];rfl
 have c2:ilt (2:Int) 2=false:=by rw[Ah];rfl
 by_cases ha:a=0
 ·subst ha
  by_cases hb:b=0
  ·subst hb
   have z:ieq (0:Int) 0=true:=by rw[CL];rfl
   simp only[Aj,FV,l2,i0,i1,w1,w2,c0,c1,c2,z,An2,Aoa]
  ·have:ieq b 0=false:=by rw[CL];simpa using hb
   have z:ieq (0:Int) 0=true:=by rw[CL];rfl
   simp only[Aj,FV,l2,i0,i1,w1,w2,c0,c1,c2,z,this,An2,Aog,Aoa]
 ·have:ieq a 0=false:=by rw[CL];simpa using ha
  simp only[Aj,FV,l2,i0,i1,w1,w2,c0,c1,c2,this,ha,Aog,AoC]
end Go.Pev.Pl.SE
end
section
namespace Go.Pev.Pl.ST
open Go.Sort
def ok(_:Int×Int×Int×Bool×Unit):Prop:=True
def okz:Int×Int×Int×Bool×Unit:=(0,0,0,false,())
theorem Tm:ok okz:=trivial
def lt(x y:Int×Int×Int×Bool×Unit):Bool:=decide (x.1<y.1∨(x.1=y.1∧x.2.1<y.2.1))
theorem swo:SWO lt:=⟨fun x=>by simp[lt],fun x y z h1 h2=>by simp only[lt,Anu]at *;omega,fun x y z h1 h2=>by simp only[lt,Aou]at *;omega⟩
theorem Xi(a b:Int):DS (a,b,())=some (if a<b then -1 else if b<a then 1 else 0,()):=by
 rw[Gd,EK,KJ,KK,KJ,KK]
 simp only[CL,Ah]
 by_cases h:a<b
 ·simp[h]
 ·by_cases h2:b<a
  ·simp[h,h2]
  ·simp[h,h2]
theorem or_val(a b:Int):orI ([a,b],())=some (if a=0 then b else a,()):=by
 obtain⟨m,hm⟩:∃ m,many=m+3:=⟨many-3,by simp only[many]⟩
 rw[ALG,AHm,A3,hm]
 have i0:idx [a,b] (0:Int)=some a:=by rw[idx_eq];rfl
 have i1:idx [a,b] (1:Int)=some b:=by rw[idx_eq];rfl
 have l2:AN [a,b]=(2:Int):=rfl
 have w1:IntKind.wrap .i64 ((0:Int)+1)=1:=by rw[Ae (by omega)];rfl
 have w2:IntKind.wrap .i64 ((1:Int)+1)=2:=by rw[Ae (by omega)];rfl
 have c0:ilt (0:Int) 2=true:=by rw[Ah];rfl
 have c1:ilt (1:Int) 2=true:=by rw[Ah];rfl
 have c2:ilt (2:Int) 2=false:=by rw[Ah];rfl
 by_cases ha:a=0
 ·subst ha
  by_cases hb:b=0
  ·subst hb
   have z:ieq (0:Int) 0=true:=by rw[CL];rfl
   simp only[Aj,FV,l2,i0,i1,w1,w2,c0,c1,c2,z,An2,Aoa]
  ·have:ieq b 0=false:=by rw[CL];simpa using hb
   have z:ieq (0:Int) 0=true:=by rw[CL];rfl
   simp only[Aj,FV,l2,i0,i1,w1,w2,c0,c1,c2,z,this,An2,Aog,Aoa]
 ·have:ieq a 0=false:=by rw[CL];simpa using ha
  simp only[Aj,FV,l2,i0,i1,w1,w2,c0,c1,c2,this,ha,Aog,AoC]
end Go.Pev.Pl.ST
end
section
namespace Go.Pev.Pl
open Tok
section
variable {α β:Type} [DecidableEq α]
theorem OG(es:List (α×β))(k:α)(v:β)(j:α):AR (Ad es k v) j=if j=k then some v else AR es j:=by
 induction es with
 |nil=>
  simp only[Ad,AR]
  by_cases h:k=j
  ·simp[h]
  ·simp[h,Aol h]
 |cons e es ih=>
  obtain⟨a,b⟩:=e
  simp only[Ad]
  by_cases h:a=k
  ·subst h
   simp only[Aoa,AR]
   by_cases h2:a=j
   ·simp[h2]
   ·simp[h2,Aol h2]
  ·simp only[h,AoC,AR,ih]
   by_cases h2:a=j
   ·subst h2;simp[h]
   ·simp[h2]
end
def nrm(x:Edge):Edge:=(min x.1 x.2.1,max x.1 x.2.1,())
def YG(n:Int)(x:Edge)(a:List (Edge×Int)×List Edge):(List (Edge×Int)×List Edge)⊕((Int×Unit)⊕(List Edge×Unit)⊕Unit):=
 if(nrm x).1<0∨n≤(nrm x).2.1 then .inr (.inl (10,()))else
 if(nrm x).1<(nrm x).2.1∧(AR a.1 (nrm x)).getD 0=0 then .inl (Ad a.1 (nrm x) 1,a.2++[nrm x])else .inl a
theorem AcT(n:Int)(own:List Edge):∀ (l:List Edge) (m:List (Edge×Int)) (come:List Edge),(∀ x∈l,0≤(nrm x).1∧(nrm x).2.1<n)→come.Nodup→(∀ k,(AR m k).getD 0=if k∈own∨k∈come then 1 else 0) →
  ∃ ys,walk (YG n) (fun a=>(.inr (.inl (a.2,())):(Int×Unit)⊕(List Edge×Unit)⊕Unit)) l (m,come) = .inr (.inl (ys,()))∧ys.Nodup∧(∀ k,k∈ys↔k∈come∨(k∉own∧k.1<k.2.1∧∃ x∈l,nrm x=k))∧ys.length≤come.length+l.length:=by
 intro l
 induction l with
 |nil=>intro m come _ hn _;exact⟨come,rfl,hn,fun k=>by simp,by simp⟩
 |cons x l ih=>
  intro m come hall hn hm
  obtain⟨a1,a2⟩:=hall x (by simp)
  rw[walk]
  have hnf:YG n x (m,come)=if(nrm x).1<(nrm x).2.1∧(AR m (nrm x)).getD 0=0 then .inl (Ad m (nrm x) 1,come++[nrm x])else .inl (m,come):=by
   unfold YG
   rw[An1 (by omega)]
  by_cases hc:(nrm x).1<(nrm x).2.1∧(AR m (nrm x)).getD 0=0
  ·rw[hnf,An5 hc]
   have hk:=hm (nrm x)
   rw[hc.2]at hk
   have hk2:¬ (nrm x∈own∨nrm x∈come):=fun h=>by rw[An5 h]at hk;omega
   obtain⟨ys,e,h1,h2,h3⟩:=ih (Ad m (nrm x) 1) (come++[nrm x]) (fun y hy=>hall y (by simp[hy]))
    (by
     rw[ApS]
     exact⟨hn,by simp,fun a ha b hb=>by rintro rfl;simp at hb;exact hk2 (.inr (hb▸ha))⟩)
    (fun k=>by
     rw[OG]
     by_cases hkx:k=nrm x
     ·subst hkx;simp
     ·rw[An1 hkx,hm]
      simp[hkx])
   refine⟨ys,e,h1,fun k => ?_,by rw[Anw]at h3;simp at h3 ⊢;omega⟩
   rw[h2]
   constructor
   ·rintro (h|h)
    ·rcases Anv.1 h with h|h
     ·exact .inl h
     ·rw[AoY]at h
      subst h
      exact .inr ⟨fun h=>hk2 (.inl h),hc.1,x,by simp,rfl⟩
    ·obtain⟨g1,g2,y,hy,g3⟩:=h
     exact .inr ⟨g1,g2,y,by simp[hy],g3⟩
   ·rintro (h|⟨g1,g2,y,hy,g3⟩)
    ·exact .inl (by simp[h])
    ·rcases Anx.1 hy with rfl|hy
     ·exact .inl (by simp[g3])
     ·exact .inr ⟨g1,g2,y,hy,g3⟩
  ·rw[hnf,An1 hc]
   obtain⟨ys,e,h1,h2,h3⟩:=ih m come (fun y hy=>hall y (by simp[hy])) hn hm
   refine⟨ys,e,h1,fun k => ?_,by simp;omega⟩
   rw[h2]
   constructor
   ·rintro (h|⟨g1,g2,y,hy,g3⟩)
    ·exact .inl h
    ·exact .inr ⟨g1,g2,y,by simp[hy],g3⟩
   ·rintro (h|⟨g1,g2,y,hy,g3⟩)
    ·exact .inl h
    ·rcases Anx.1 hy with rfl|hy
     ·subst g3
      have hk:=hm (nrm y)
      by_cases hin:nrm y∈own∨nrm y∈come
      ·rcases hin with h|h
       ·exact absurd h g1
       ·exact .inl h
      ·rw[An1 hin]at hk
       exact absurd ⟨g2,hk⟩ hc
     ·exact .inr ⟨g1,g2,y,hy,g3⟩
theorem ALO(n:Int):∀ (l:List Edge) (a:List (Edge×Int)×List Edge),¬ (∀ x∈l,0≤(nrm x).1∧(nrm x).2.1<n) →
  walk (YG n) (fun a=>(.inr (.inl (a.2,())):(Int×Unit)⊕(List Edge×Unit)⊕Unit)) l a = .inl (10,()):=by
 intro l
 induction l with
 |nil=>intro a h;exact absurd (by simp) h
 |cons x l ih=>
  intro a h
  rw[walk]
  by_cases hx:(nrm x).1<0∨n≤(nrm x).2.1
  ·unfold YG
   rw[An5 hx]
  ·have hl:¬ (∀ x∈l,0≤(nrm x).1∧(nrm x).2.1<n):=fun hl=>h fun y hy=>by
    rcases Anx.1 hy with rfl|hy
    ·exact⟨by omega,by omega⟩
    ·exact hl y hy
   have hnf:YG n x a = .inl (if(nrm x).1<(nrm x).2.1∧(AR a.1 (nrm x)).getD 0=0 then(Ad a.1 (nrm x) 1,a.2++[nrm x])else a):=by
    unfold YG
    rw[An1 hx]
    split<;>rfl
   rw[hnf]
   exact ih _ hl
theorem AUV{xs ys zs:List Edge}(hp:ys.Perm xs)(hy:ys.Pairwise (fun x y=>SE.lt y x=false))(hz:zs.Pairwise Dq)(hzp:xs.Perm zs):ys=zs:=by
 refine Aq0 (le:=fun x y=>SE.lt y x=false) ?_ hy ?_ (hp.trans hzp)
 ·intro a b _ _ h1 h2
  simp only[SE.lt,Aou]at h1 h2
  obtain⟨a1,a2,⟨⟩⟩:=a
  obtain⟨b1,b2,⟨⟩⟩:=b
  simp only at h1 h2
  have e1:a1=b1:=by omega
  have e2:a2=b2:=by omega
  rw[e1,e2]
 ·refine hz.imp fun h => ?_
  unfold Dq at h
  simp only[SE.lt,Aou]
  omega
end Go.Pev.Pl
end
section
namespace Go.Pev.Pl
open Tok
theorem AkJ:∀ (xs b:List Edge),sel xs (gfl b xs)=Lm b xs:=by
 intro xs
 induction xs with
 |nil=>intro b;rfl
 |cons x xs ih=>
  intro b
  have:=ih (b++[x])
  unfold sel at *
  rw[gfl,Lm,List.zip_cons_cons,Ao6]
  by_cases h:N8 b x.1 x.2.1=true
  ·simp[h,this]
  ·simp[h,this]
theorem AmB{N:Nat}{b xs:List Edge}(h:Fo N b)(hx:∀ e∈xs,InE N e):Fo N (b++Lm b xs):=by
 have h1:=Ns xs b hx
 have h2:cc N (b++xs)=cc N (b++Lm b xs):=AEQ fun a c=>AEA xs b
 unfold Fo at *
 rw[Anw]
 omega
theorem AOU{N:Nat}(hN:N≤64):0≤JI N:=by
 have:((List.range 65).all fun k=>decide (0≤JI k))=true:=by kernel_rfl
 exact Ap5 (AoM.1 this N (by simp;omega))
noncomputable def grown(N:Nat)(ts:List Tie)(l:List Edge):List Tie:=Yd ts (DB N ts l) (gfl (trs ts ts.length) (DB N ts l)) (DB N ts l).length
theorem AdI(N:Nat)(ts:List Tie)(l:List Edge):(grown N ts l).length=ts.length+(DB N ts l).length:=Aja ..
theorem AdG(N:Nat)(ts:List Tie)(l:List Edge):(trs (grown N ts l) (grown N ts l).length).Perm (trs ts ts.length++Lm (trs ts ts.length) (DB N ts l)):=by
 have:=AjY ts (xs:=DB N ts l) (bs:=gfl (trs ts ts.length) (DB N ts l)) (AlU _ _)
 rw[AkJ]at this
 exact this
theorem AdH{N:Nat}(hN:N≤64){ts:List Tie}(ho:oks N ts)(l:List Edge):oks N (grown N ts l):=
 AjZ ho (AOU hN) _ (AEB N ts l) (fun e he=>by
  obtain⟨⟨a,b,c,_⟩,_⟩:=(NZ N ts l e).1 he
  exact⟨a,b,c⟩) (fun e he=>((NZ N ts l e).1 he).2)
theorem AeL{N:Nat}(hN:N≤64)(ts:List Tie)(l:List Edge):∀ e∈DB N ts l,InE N e:=fun e he=>Am3 (Ai5 hN ts l e he)
theorem AiK{N:Nat}(hN:N≤64){ts:List Tie}(h:Fo N (trs ts ts.length))(l:List Edge):Fo N (trs (grown N ts l) (grown N ts l).length):=
 (AmB h (AeL hN ts l)).perm (AdG N ts l).symm
structure RG2(N:Nat)(ts:List Tie):Prop where
 h1:1≤N
 hN:N≤64
 ht:ts.length≤400
 oks:oks N ts
 fo:Fo N (trs ts ts.length)
theorem RG2.r21{N:Nat}{ts:List Tie}(h:RG2 N ts):NS (((N:Int),(ts,())),())=some (true,()):=(APY h.h1 h.hN h.ht h.oks).2 h.fo
theorem RG2.lr{N:Nat}{ts:List Tie}(h:RG2 N ts):FY (((N:Int),(ts,())),())=some (true,()):=by
 obtain⟨b,h1,h2,_⟩:=AEf (N:Int) ts (by have:=h.ht;omega)
 rw[h.r21]at h1
 cases h1
 exact h2
theorem RG2.inE{N:Nat}{ts:List Tie}(h:RG2 N ts):∀ e∈ts.map ed,In (N:Int) e.1∧In (N:Int) e.2.1:=AnA h.hN h.oks
theorem RG2.grown{N:Nat}{ts:List Tie}(h:RG2 N ts){l:List Edge}(hf:ts.length+(DB N ts l).length≤400):RG2 N (grown N ts l):=
 ⟨h.h1,h.hN,by rw[AdI];exact hf,AdH h.hN h.oks l,AiK h.hN h.fo l⟩
end Go.Pev.Pl
end
section
namespace Go.Pev.Pl
open Tok
end Go.Pev.Pl
end
end
section
namespace Go.Pev.Pl
open Tok
theorem Ajv(ts:List Tie)(k:Int):(trk ts k).length≤ts.length:=by
 unfold trk
 rw[AoE]
 exact Apz _ _
theorem Aju(ts:List Tie)(k:Int):∀ e∈trk ts k,e∈ts.map ed:=by
 intro e he
 obtain⟨t,h1,_,_,rfl⟩:=DY.1 he
 exact AoA.2 ⟨t,h1,rfl⟩
theorem RG2.inK{N:Nat}{ts:List Tie}(h:RG2 N ts)(k:Int):∀ e∈trk ts k,In (N:Int) e.1∧In (N:Int) e.2.1:=fun e he=>h.inE e (Aju ts k e he)
theorem RG2.Ank{N:Nat}{ts:List Tie}(h:RG2 N ts)(k:Int):(trk ts k).length≤400:=Aot (Ajv ts k) h.ht
theorem RG2.Anb{N:Nat}{ts:List Tie}(h:RG2 N ts)(k:Int):∃ out,Nr ((N:Int),trk ts k,())=some (out,())∧Wj (N:Int) (trk ts k) out:=by
 have:=h.Ank k
 have h1:=h.h1
 have hN:=h.hN
 exact GP (N:Int) (trk ts k) ⟨by omega,by omega⟩ (by omega) (h.inK k)
end Go.Pev.Pl
end
section
namespace Go.Pev.Pl
open Tok
theorem RG2.tie{N:Nat}{ts:List Tie}(h:RG2 N ts){t:Tie}(ht:t∈ts):In (N:Int) t.1∧In (N:Int) t.2.1∧t.1<t.2.1∧0≤t.2.2.1∧t.2.2.1≤JI N:=by
 have h1:=((ALI N ts).1 h.oks).1 t ht
 have h2:=h.inE (ed t) (AoA.2 ⟨t,ht,rfl⟩)
 exact⟨h2.1,h2.2,h1.2.1,h1.2.2.2.1,h1.2.2.2.2⟩
end Go.Pev.Pl
end
section
namespace Go.Pev.Pl
open Tok
def Ajx(N:Nat):Nat:=(JI N).toNat
end Go.Pev.Pl
end
section
namespace Go.Pev.Pl
open Tok
theorem Ajw{N:Nat}(hN:N≤64):N/2 ^ Ajx N≤1:=by
 have:((List.range 65).all fun k=>decide (k/2 ^ Ajx k≤1))=true:=by kernel_rfl
 exact Ap5 (AoM.1 this N (by simp;omega))
theorem RG2.below{N:Nat}{ts:List Tie}(h:RG2 N ts)(hs:Snd N (Ajx N:Int) ts){t:Tie}(ht:t∈ts):t.2.2.1<(Ajx N:Int):=
 hs.below (Ajw h.hN) ht (by have:=(h.tie ht).2.2.1;omega)
end Go.Pev.Pl
end
section
namespace Go.Pev.Pl
open Tok
end Go.Pev.Pl
end
section
namespace Go.Pev.Pl
open Tok
end Go.Pev.Pl
end
section
namespace Go.Pev.Pl
open Tok
end Go.Pev.Pl
end
section
namespace Go.Pev.Pl
open Tok
theorem RG2.edP{N:Nat}{ts:List Tie}(h:RG2 N ts):(ts.map ed).Pairwise Dq:=by
 rw[Apm]
 exact((ALI N ts).1 h.oks).2
theorem RG2.Anl{N:Nat}{ts:List Tie}(h:RG2 N ts):∀ e∈ts.map ed,e.1<e.2.1:=by
 intro e he
 obtain⟨t,ht,rfl⟩:=AoA.1 he
 exact(h.tie ht).2.2.1
noncomputable def Hi(N:Nat)(ts:List Tie)(l:List Edge):List Edge:=(FQ N l).filter fun x=>decide (x∈ts.map ed)
end Go.Pev.Pl
end
section
namespace Go.Pev.Pl
open Tok
theorem AWy(N:Nat)(ts:List Tie)(l:List Edge):(Hi N ts l).Pairwise Dq:=(L9 N l).filter _
end Go.Pev.Pl
end
section
namespace Go.Pev.Pl
section
variable {N top:Nat} {ts w:List Tie} (hp:w.Perm ts) (hi:∀ x∈ts,InE N (ed x)) (hl:∀ t∈ts,0≤t.2.2.1∧t.2.2.1≤(top:Int)) (hfo:Fo N (trk ts 0)) (hlie:∀ x∈ts,x.2.2.2.1=false→Con (trk ts x.2.2.1) x.1 x.2.1)
include hp hi
include hl hfo hlie
end
end Go.Pev.Pl
end
section
namespace Go.Pev.Pl
open Tok
end Go.Pev.Pl
end
section
namespace Go.Pev.Pl
open Tok
def bef(x y:Tie):Prop:=y.2.2.1<x.2.2.1∨(x.2.2.1=y.2.2.1∧ahead x y)
theorem bef.trans{x y z:Tie}(h:bef x y)(h':bef y z):bef x z:=by
 unfold bef ahead at *
 omega
def Mrg(u v w:List Tie):Prop:=w.Perm (u++v)∧w.Pairwise bef
end Go.Pev.Pl
end
section
namespace Go.Pev.Pl
open Tok
noncomputable section
end
theorem Mrg.append{u1 u2 v1 v2 w1 w2:List Tie}(h1:Mrg u1 v1 w1)(h2:Mrg u2 v2 w2)(hu:(u1++u2).Pairwise bef)(hv:(v1++v2).Pairwise bef)(c1:∀ x∈u1,∀ y∈v2,bef x y)(c2:∀ y∈v1,∀ x∈u2,bef y x):Mrg (u1++u2) (v1++v2) (w1++w2):=by
 rw[Aql]at hu hv
 refine⟨?_,?_⟩
 ·refine(h1.1.append h2.1).trans ?_
  rw[AoV,AoV]
  refine List.Perm.append_left _ ?_
  rw[← AoV,← AoV]
  exact List.Perm.append_right _ Ap0
 ·rw[Aql]
  refine⟨h1.2,h2.2,fun x hx y hy => ?_⟩
  have hx:=Anv.1 (h1.1.mem_iff.1 hx)
  have hy:=Anv.1 (h2.1.mem_iff.1 hy)
  rcases hx with hx|hx<;>rcases hy with hy|hy
  ·exact hu.2.2 x hx y hy
  ·exact c1 x hx y hy
  ·exact c2 x hx y hy
  ·exact hv.2.2 x hx y hy
end Go.Pev.Pl
end
section
namespace Go.Pev.Pl
open Tok
end Go.Pev.Pl
end
section
namespace Go.Pev.Pl
open Tok
end Go.Pev.Pl
end
section
namespace Go.Pev.Pl
open Tok
theorem AO9(l:List Edge)(hs:l.length<1073741824):AAV (l,l,())=some (true,()):=by
 rw[AHJ,Qg,AS,Ag]
 have e:=IW (step:=FJ) (fun i=>(l,l,(i:Int),())) l (fun _=>false) (fun _=>.inl (false,())) (.inr (.inl ())) (by omega)
  (fun i x hi hx=>by
   rw[FJ,AS,AL,Anq hi]
   simp only[AT hx,Ag,AoI,Aqp,An2]
   rw[AP (by omega)]
   rfl)
  (by rw[FJ,AS,AL,Anp (by omega)])
 have e':AX FJ many (l,l,(0:Int),())=_:=e
 have hf:(l.any fun _=>false)=false:=by simp
 rw[e',hf]
 simp
def lvl(ts:List Tie)(k:Int):List Tie:=ts.filter fun t=>decide (t.2.2.1=k)
end Go.Pev.Pl
end
section
namespace Go.Pev.Pl
open Tok
section
variable (n:Int) (ts:List Tie)
end
end Go.Pev.Pl
end
section
namespace Go.Pev.Pl
open Tok
def mid(f:Int→Int)(xs:List Int)(i:Nat):List Int:=(xs.take i).map f++xs.drop i
def lb(at0:List Int)(v:Int):Int:=at0.getD v.toNat 0
end Go.Pev.Pl
end
section
namespace Go.Pev.Pl
open Tok
end Go.Pev.Pl
end
section
namespace Go.Pev.Pl
open Tok
end Go.Pev.Pl
end
section
namespace Go.Pev.Pl
open Tok
end Go.Pev.Pl
end
section
namespace Go.Pev.Pl.SI
open Go.Sort
theorem GD(lt:Int→Int→Bool)(a j:Nat)(d:Array Int):(insInner lt a j d).size=d.size:=by
 induction j generalizing d with
 |zero=>rfl
 |succ j ih=>
  rw[insInner]
  split
  ·rw[ih,size_swp]
  ·rfl
end Go.Pev.Pl.SI
end
section
namespace Go.Pev.Pl.SI
open Go.Sort
theorem Ca(lt:Int→Int→Bool)(hi first:Nat):∀ (k root:Nat) (d:Array Int),hi-root=k→(siftDown lt hi first root d).size=d.size:=by
 intro k
 induction k using Nat.strongRecOn with
 |_ k ih=>
 intro root d hk
 rw[siftDown]
 split
 ·rfl
 ·split
  ·split
   ·rfl
   ·split
    ·rw[ih (hi-(2*root+2)) (by omega) _ _ rfl,size_swp]
    ·rfl
  ·split
   ·rfl
   ·rw[ih (hi-(2*root+1)) (by omega) _ _ rfl,size_swp]
theorem HP(lt:Int→Int→Bool)(hi first:Nat):∀ (k:Nat) (d:Array Int),(heapBuild lt hi first k d).size=d.size:=by
 intro k
 induction k with
 |zero=>intro d;rfl
 |succ k ih=>intro d;rw[heapBuild,ih,Ca _ _ _ _ _ _ rfl]
end Go.Pev.Pl.SI
end
section
namespace Go.Pev.Pl.SI
open Go.Sort
section
variable (d:Array Int) (a i j:Nat) (hs:d.size<4294967296) (ha:a<d.size) (hj:j<d.size)
include hs ha hj
end
theorem ID(p:Int→Bool)(d:Array Int)(j i:Nat)(hj:j<d.size)(hi:i≤d.size):scanUp p d j i≤d.size:=by
 suffices h:∀ (k i:Nat),j+1-i=k→i≤d.size→scanUp p d j i≤d.size from h _ i rfl hi
 intro k
 induction k using Nat.strongRecOn with
 |_ k ih=>
 intro i hk hi
 rw[scanUp]
 split
 ·rename_i h
  have:i≤j:=by simp at h;exact h.1
  exact ih (j+1-(i+1)) (by omega) (i+1) rfl (by omega)
 ·exact hi
end Go.Pev.Pl.SI
end
section
namespace Go.Pev.Pl.SI
open Go.Sort
theorem IE(d:Array Int)(b:Nat):∀ (k i:Nat),b-i=k→i≤b→i≤scanSorted ltInt d b i∧scanSorted ltInt d b i≤b:=by
 intro k
 induction k using Nat.strongRecOn with
 |_ k ih=>
 intro i hk hi
 rw[scanSorted]
 split
 ·rename_i h
  have:i<b:=by simp at h;exact h.1
  have:=ih (b-(i+1)) (by omega) (i+1) rfl (by omega)
  omega
 ·omega
theorem Lz:∀ (j:Nat) (d:Array Int),(shiftDown ltInt j d).size=d.size:=by
 intro j
 induction j with
 |zero=>intro d;rfl
 |succ j ih=>
  intro d
  rw[shiftDown]
  split
  ·rfl
  ·rw[ih,size_swp]
theorem Ej(b:Nat):∀ (k j:Nat) (d:Array Int),b-j=k→(shiftUp ltInt b j d).size=d.size:=by
 intro k
 induction k using Nat.strongRecOn with
 |_ k ih=>
 intro j d hk
 rw[shiftUp]
 split
 ·split
  ·rfl
  ·rw[ih (b-(j+1)) (by omega) (j+1) _ rfl,size_swp]
 ·rfl
end Go.Pev.Pl.SI
end
section
namespace Go.Pev.Pl.SI
open Go.Sort
end Go.Pev.Pl.SI
end
section
namespace Go.Pev.Pl.SI
open Go.Sort
abbrev Ajg:=List Int×Int×Int×Int×Bool×Bool×Unit
abbrev ZA:=Ajg⊕(List Int×Unit)⊕Unit
noncomputable section
end
def WC(d:Array Int)(a b:Nat):ZA→Prop
 |.inl (xs,x,y,l,_,_,_)=>∃ (e:Array Int) (i j:Nat),xs=e.toList∧x=(i:Int)∧y=(j:Int)∧0≤l∧l≤100∧i≤j∧j≤e.size∧e.size=d.size∧j-i<b-a∧Below ltInt i j e ∧
   ∀ R,PermIn i j e R→SortedIn ltInt i j R→PermIn a b d R∧SortedIn ltInt a b R
 |.inr (.inl (xs,_))=>∃ R:Array Int,xs=R.toList∧PermIn a b d R∧SortedIn ltInt a b R
 |.inr (.inr _)=>False
def Dx(self:(List Int×Int×Int×Int×Unit)→Option ((List Int×Unit)))(m:Nat):Prop:=
 ∀ (d:Array Int) (a b:Nat) (l:Int),a≤b→b≤d.size→d.size<4294967296→0≤l→l≤100→Below ltInt a b d→2*(b-a)<m →
  ∃ R:Array Int,self (d.toList,(a:Int),(b:Int),l,())=some (R.toList,())∧PermIn a b d R∧SortedIn ltInt a b R
section
variable {self:(List Int×Int×Int×Int×Unit)→Option ((List Int×Unit))} {d:Array Int} {a b:Nat} {l:Int}
end
def sorted(xs:List Int):List Int:=xs.mergeSort (fun x y=>decide (x≤y))
end Go.Pev.Pl.SI
end
section
namespace Go.Pev.Pl
open Tok
end Go.Pev.Pl
end
section
namespace Go.Pev.Pl
open Tok
section
variable (n:Int) (a2 a3:Bool) (a4 a5 top:Int)
end
end Go.Pev.Pl
end
section
namespace Go.Pev.Pl
open Tok
def E9(x:Edge):Edge:=(min x.1 x.2.1,max x.1 x.2.1,())
abbrev WM:=List (Edge×Int)
def E7(m:WM)(x:Edge):Int:=(AR m x).getD 0
theorem Aiw(o:List Edge)(m:WM)(hs:o.length<4294967296):
  ∃ a:List Edge,Hm (o,m,())=some (a,m,(((o.filter fun x => !ieq (E7 m x) 0).length:Nat):Int),())∧a.take (o.filter fun x => !ieq (E7 m x) 0).length=o.filter fun x => !ieq (E7 m x) 0:=by
 have hp:=Ad3 (find:=B9) (step:=C4) ((0:Int),(0:Int),()) (fun a (w j:Nat)=>(a,m,(w:Int),(j:Int),())) (fun a (w:Nat)=>.inl (a,m,(w:Int),())) (fun i=>(o,m,(o.length:Int),(i:Int),())) (fun i=>.inl (o,m,(i:Int),())) (.inr (.inl (o,m,()))) (fun x => !ieq (E7 m x) 0) o hs
  (fun a w j ha hj hw hg=>by
   unfold C4
   dsimp only
   simp (disch:=omega) only[AS,AL,ha,hj,AoI,LZ ((0:Int),(0:Int),()),Pr,DQ,hg,AP]
   unfold E7
   cases (!ieq ((AR m (o.getD j ((0:Int),(0:Int),()))).getD 0) 0)<;>rfl)
  (fun a w ha=>by unfold C4;dsimp only;rw[AS,AL,Anp (by omega)])
  (fun i hi=>by
   unfold B9
   dsimp only
   simp (disch:=omega) only[AL,hi,AoI,LZ ((0:Int),(0:Int),()),Pr,AP]
   unfold E7
   cases ieq ((AR m (o.getD i ((0:Int),(0:Int),()))).getD 0) 0<;>rfl)
  (by unfold B9;dsimp only;rw[AL,Anp (by omega)])
 rw[OZ,G4,OQ,G1]
 generalize (fun x => !ieq (E7 m x) 0)=keep at *
 rcases hp with⟨h0,e⟩|⟨k,a',hk,e,e2,hl,hle,e4⟩
 ·have e':AX B9 many (o,m,AN o,(0:Int),())=_:=e
  simp only[e',Ag]
  exact⟨o,by rw[h0];rfl,by rw[h0,AoX]⟩
 ·have e':AX B9 many (o,m,AN o,(0:Int),())=_:=e
  obtain⟨c1,c2⟩:=AX9 ((0:Int),(0:Int),()) (a:=a') (w:=(o.filter keep).length) (by omega)
  have s0:D6 (Br (o.filter keep).length (a'.length-(o.filter keep).length) ((0:Int),(0:Int),()) a') (0:Int) (((o.filter keep).length:Nat):Int)=some _:=Z6 (by omega)
  have s1:D6 a' (((o.filter keep).length:Nat):Int) (a'.length:Int)=some _:=QY (by omega)
  simp only[e',Ag]
  rw[Anp (by omega),AP (by omega)]
  simp only[e2,s1,AS,Aos,ADi,s0]
  refine⟨_,?_,c1.trans e4⟩
  rw[AoD,c2,ApG (by omega)]
theorem AVS{N:Nat}(h1:1≤N)(hN:N≤64)(ts:List Tie)(l:List Edge)(hs:l.length<1073741824)(m:WM)(i:Nat)(x:Edge)(hi:i<l.length)(hx:l[i]? = some x)(hb:0≤E7 m (E9 x)∧E7 m (E9 x)≤(i:Int)):
  Ds ((N:Int),ts,m,l,(l.length:Int),(i:Int),())=if In (N:Int) x.1∧In (N:Int) x.2.1 then some (.inl ((N:Int),ts,Ad m (E9 x) (E7 m (E9 x)+1),l,(l.length:Int),((i+1:Nat):Int),()))else some (.inr (.inl (10,()))):=by
 unfold Ds
 dsimp only
 rw[AL,Anq hi]
 simp only[AT hx,AZu,AZv]
 have hw:IntKind.wrap .i64 (E7 m (E9 x)+1)=E7 m (E9 x)+1:=Ae (by omega)
 obtain⟨m1,m2⟩:=AWB m (E9 x) (E7 m (E9 x)) (E7 m (E9 x)+1)
 unfold E7 E9 at m1 m2 hw
 by_cases c1:min x.1 x.2.1<0
 ·rw[Ah,Anq c1,An1 (fun q=>by have q1:=q.1.2.2.1;have q2:=q.2.2.2.1;omega)]
 ·rw[Ah,Anp c1]
  by_cases c2:(N:Int)≤max x.1 x.2.1
  ·rw[An,Anq c2,An1 (fun q=>by have q1:=q.1.2.2.2;have q2:=q.2.2.2.2;omega)]
  ·rw[An,Anp c2,An5 ⟨⟨by omega,by omega,by omega,by omega⟩,⟨by omega,by omega,by omega,by omega⟩⟩]
   simp only[m1,hw,m2,AP (show i+1<9223372036854775808 by omega)]
   rfl
theorem AVU{N:Nat}(h1:1≤N)(hN:N≤64)(ts:List Tie)(l:List Edge)(hs:l.length<1073741824):
  (¬ AmM N l∧AX Ds many ((N:Int),ts,([]:WM),l,(l.length:Int),(0:Int),())=some (.inl (10,()))) ∨
  (AmM N l∧∃ m:WM,(∀ x,E7 m x=0↔x∉l.map E9)∧AX Ds many ((N:Int),ts,([]:WM),l,(l.length:Int),(0:Int),())=some (.inr (.inl ((N:Int),ts,m,())))):=by
 have key:∀ (k i:Nat) (m:WM) (cnt:Nat),i+k=l.length→k<cnt→(∀ x,0≤E7 m x∧E7 m x≤(i:Int)∧(E7 m x=0↔x∉(l.take i).map E9)) →
   ((∃ x∈l.drop i,¬ (In (N:Int) x.1∧In (N:Int) x.2.1))∧Aj Ds cnt ((N:Int),ts,m,l,(l.length:Int),(i:Int),())=some (.inl (10,()))) ∨
   ((∀ x∈l.drop i,In (N:Int) x.1∧In (N:Int) x.2.1)∧∃ m':WM,(∀ x,E7 m' x=0↔x∉l.map E9)∧Aj Ds cnt ((N:Int),ts,m,l,(l.length:Int),(i:Int),())=some (.inr (.inl ((N:Int),ts,m',())))):=by
  intro k
  induction k with
  |zero=>
   intro i m cnt hi hc hm
   obtain⟨cnt,rfl⟩:∃ c,cnt=c+1:=⟨cnt-1,by omega⟩
   right
   have:i=l.length:=by omega
   subst this
   refine⟨fun x hx=>(by rw[List.drop_length]at hx;cases hx),m,fun x => ?_,?_⟩
   ·have:=(hm x).2.2
    rwa [AoX]at this
   ·unfold Ds
    rw[Aj]
    dsimp only
    rw[AL,Anp (by omega)]
  |succ k ih=>
   intro i m cnt hi hc hm
   obtain⟨cnt,rfl⟩:∃ c,cnt=c+1:=⟨cnt-1,by omega⟩
   have hi':i<l.length:=by omega
   have hx:l[i]? = some l[i]:=Ant hi'
   have hdr:l.drop i=l[i]::l.drop (i+1):=Aod hi'
   have htk:l.take (i+1)=l.take i++[l[i]]:=ApK hi'
   rw[hdr]
   generalize hxe:l[i]=x at *
   have hb:=hm (E9 x)
   obtain⟨b1,b2,_⟩:=hb
   rw[Aj,AVS h1 hN ts l hs m i x hi' hx ⟨b1,b2⟩]
   by_cases hin:In (N:Int) x.1∧In (N:Int) x.2.1
   ·rw[An5 hin]
    have hst:∀ y,E7 (Ad m (E9 x) (E7 m (E9 x)+1)) y=if y=E9 x then E7 m (E9 x)+1 else E7 m y:=by
     intro y
     unfold E7
     rw[AWX]
     split<;>rfl
    have:=ih (i+1) (Ad m (E9 x) (E7 m (E9 x)+1)) cnt (by omega) (by omega) (fun y=>by
     rw[hst]
     obtain⟨d1,d2,d3⟩:=hm y
     rw[htk,Aon,Anv]
     by_cases e:y=E9 x
     ·rw[An5 e]
      refine⟨by omega,by omega,⟨fun q=>by omega,fun q=>absurd (.inr (by simp[e])) q⟩⟩
     ·rw[An1 e]
      refine⟨d1,by omega,d3.trans ⟨fun q hh => ?_,fun q hh=>q (.inl hh)⟩⟩
      rcases hh with hh|hh
      ·exact q hh
      ·exact e (by simpa using hh))
    rcases this with⟨⟨y,hy1,hy2⟩,h3⟩|⟨h2,h3⟩
    ·exact .inl ⟨⟨y,by simp[hy1],hy2⟩,h3⟩
    ·refine .inr ⟨fun y hy => ?_,h3⟩
     rcases Anx.1 hy with rfl|hy
     ·exact hin
     ·exact h2 y hy
   ·rw[An1 hin]
    exact .inl ⟨⟨x,by simp,hin⟩,rfl⟩
 have hz:∀ x:Edge,E7 ([]:WM) x=0:=fun _=>rfl
 have:=key l.length 0 [] many (by omega) (by simp only[many];omega) (fun x=>by rw[hz];simp)
 rw[AqJ]at this
 rw[A3]
 rcases this with⟨⟨x,hx,hn⟩,e⟩|⟨h,e⟩
 ·exact .inl ⟨fun q=>hn (q x hx),e⟩
 ·exact .inr ⟨h,e⟩
theorem Ab4{N:Nat}{ts:List Tie}(h:RG2 N ts)(l:List Edge)(hs:l.length<1073741824):
  APs (((N:Int),(ts,())),l,())=some (if ∀ e∈l,In (N:Int) e.1∧In (N:Int) e.2.1 then(Hi N ts l,0,())else([],10,())):=by
 have ht:=h.ht
 rw[APr,Yp]
 simp only[h.lr,An2,AS]
 rcases AVU h.h1 h.hN ts l hs with⟨hn,e⟩|⟨hall,m,hm,e⟩
 ·rw[An1 (show ¬ ∀ e∈l,In (N:Int) e.1∧In (N:Int) e.2.1 from hn)]
  simp only[e]
 ·rw[An5 (show ∀ e∈l,In (N:Int) e.1∧In (N:Int) e.2.1 from hall)]
  obtain⟨a,e1,e2⟩:=Aiw (ts.map ed) m (by rw[AoE];omega)
  simp only[e,ACb (N:Int) ts h.ht h.lr,e1,Bu,ADi,e2]
  congr 2
  have hf:((ts.map ed).filter fun x => !ieq (E7 m x) 0)=(ts.map ed).filter fun x=>decide (x∈l.map E9):=by
   refine Ap6 fun x _ => ?_
   rw[Ag,ApH,ApZ,Aou,Apy,hm x]
   exact AqF
  rw[hf]
  have p1:((ts.map ed).filter fun x=>decide (x∈l.map E9)).Pairwise Dq:=h.edP.filter _
  have p2:=AWy N ts l
  have hmem:∀ x:Edge,x∈((ts.map ed).filter fun x=>decide (x∈l.map E9))↔x∈Hi N ts l:=by
   intro x
   unfold Hi
   rw[AoS,AoS,PQ,Apy,Apy]
   have norm:∀ y:Edge,x=E9 y→x.1<x.2.1→x=y∨x=(y.2.1,y.1,()):=by
    rintro⟨a,b,⟨⟩⟩ rfl hlt
    unfold E9 at hlt ⊢
    simp only at hlt ⊢
    rcases Int.lt_or_le a b with q|q
    ·left;rw[AqZ (by omega),Aqn (by omega)]
    ·right;rw[AqM (by omega),Aqy (by omega)]
   constructor
   ·rintro⟨q1,q2⟩
    have hlt:=h.Anl x q1
    obtain⟨i1,i2⟩:=h.inE x q1
    refine⟨⟨i1.2.2.1,hlt,i2.2.2.2,?_⟩,q1⟩
    obtain⟨y,hy,hyx⟩:=AoA.1 q2
    unfold N6
    rcases norm y hyx.symm hlt with rfl|hh
    ·exact .inl hy
    ·refine .inr ?_
     rw[hh]
     exact hy
   ·rintro⟨⟨q1,q2,q3,q4⟩,q5⟩
    refine⟨q5,AoA.2 ?_⟩
    obtain⟨a,b,⟨⟩⟩:=x
    unfold E9
    simp only at q2
    rcases q4 with q4|q4
    ·exact⟨_,q4,by simp only;rw[AqZ (by omega),Aqn (by omega)]⟩
    ·exact⟨_,q4,by simp only;rw[AqM (by omega),Aqy (by omega)]⟩
  have asym:∀ a b:Edge,Dq a b→Dq b a→False:=fun a b q1 q2=>by unfold Dq at *;omega
  have nd1:((ts.map ed).filter fun x=>decide (x∈l.map E9)).Nodup:=p1.imp fun {a b} hh=>by rintro rfl;exact asym _ _ hh hh
  have nd2:(Hi N ts l).Nodup:=p2.imp fun {a b} hh=>by rintro rfl;exact asym _ _ hh hh
  exact Aq0 (le:=Dq) (fun a b _ _ q1 q2=>(asym a b q1 q2).elim) p1 p2 ((Aqq nd1 nd2).2 hmem)
end Go.Pev.Pl
end
section
namespace Go.Pev.Pl
open Tok
end Go.Pev.Pl
end
section
namespace Go.Pev.Pl.SE
open Go.Sort
theorem VZ{x y:Int×Int×Unit}(_:ok x)(_:ok y):∃ c,Ak (x,y,())=some (c,())∧ilt c (0:Int)=lt x y:=by
 rw[XV,Kp]
 simp only[Xi,or_val,Ah,lt]
 refine⟨_,rfl,?_⟩
 apply ApA.2
 by_cases h1:x.1<y.1
 ·simp[h1]
 ·by_cases h2:y.1<x.1
  ·have h3:¬ x.1=y.1:=by omega
   simp[h1,h2,h3]
  ·have h3:x.1=y.1:=by omega
   by_cases h4:x.2.1<y.2.1
   ·simp[h3,h4]
   ·by_cases h5:y.2.1<x.2.1
    ·simp[h3,h4,h5]
    ·simp[h3,h4,h5]
noncomputable def S:SG.SP (Int×Int×Unit):=⟨((0:Int),((0:Int),())),Ak,ok,okz,Tm,lt,swo,fun h1 h2=>VZ h1 h2⟩
theorem JM(xs:List (Int×Int×Unit))(h:xs.length<4294967296)(hok:∀ x∈xs,ok x):∃ ys,AOr (xs,())=some (ys,())∧ys.Perm xs∧ys.Pairwise fun x y=>lt y x=false:=SG.JM S xs h hok
end Go.Pev.Pl.SE
namespace Go.Pev.Pl
open Tok
section
variable {α β:Type} [DecidableEq α]
end
theorem ARH(l:List Edge)(n:Int)(ts:List Tie)(own:List Edge)(hs:own.length<1073741824):
  ∃ m:List (Edge×Int),AX IT many (l,n,ts,([]:List (Edge×Int)),own,AN own,(0:Int),())=some (.inl (l,n,ts,m,()))∧∀ k,(AR m k).getD 0=if k∈own then 1 else 0:=by
 have e:=Ef (step:=IT) (fun i (a:List (Edge×Int))=>(l,n,ts,a,own,AN own,(i:Int),())) own (fun x a=>.inl (Ad a x (1:Int))) (fun a=>.inl (l,n,ts,a,())) (fun i a=>True) (by omega)
  (fun i x a hi hx _=>by
   refine⟨fun m' h' => ?_,fun r h'=>(by cases h')⟩
   cases h'
   refine⟨?_,trivial⟩
   rw[IT,AS,AL,Anq hi]
   simp only[AT hx,BO hx]
   rw[AP (by omega)])
  (fun a _=>by rw[IT,AS,AL,Anp (by omega)]) [] trivial
 have e':AX IT many (l,n,ts,([]:List (Edge×Int)),own,AN own,(0:Int),())=_:=e
 rw[CN (fun(x:Edge) (a:List (Edge×Int))=>Ad a x (1:Int))]at e'
 refine⟨_,e',?_⟩
 have key:∀ (xs:List Edge) (a:List (Edge×Int)) (k:Edge),(AR (xs.foldl (fun a x=>Ad a x (1:Int)) a) k).getD 0=if k∈xs then 1 else(AR a k).getD 0:=by
  intro xs
  induction xs with
  |nil=>intro a k;simp
  |cons x xs ih=>
   intro a k
   rw[Aow,ih,OG]
   by_cases h:k∈xs
   ·simp[h]
   ·by_cases h2:k=x
    ·subst h2;simp
    ·simp[h,h2]
 intro k
 rw[key]
 rfl
theorem AdT(n:Int)(ts:List Tie)(m:List (Edge×Int))(l:List Edge)(hs:l.length<1073741824):
  AX IS many (n,ts,m,([]:List Edge),l,AN l,(0:Int),())=some (walk (YG n) (fun a=>.inr (.inl (a.2,()))) l (m,[])):=by
 have e:=Ef (step:=IS) (fun i (a:List (Edge×Int)×List Edge)=>(n,ts,a.1,a.2,l,AN l,(i:Int),())) l (YG n) (fun a=>.inr (.inl (a.2,()))) (fun i a=>a.2.length≤i) (by omega)
  (fun i x a hi hx ha=>by
   have step:IS (n,ts,a.1,a.2,l,AN l,(i:Int),())=match YG n x a with
     |.inl a'=>some (.inl (n,ts,a'.1,a'.2,l,AN l,((i+1:Nat):Int),()))
     |.inr r=>some (.inr r):=by
    rw[IS,AS,AL,Anq hi]
    simp only[AT hx,AZu,AZv]
    rw[Ah,An,Ah,Ag,AP (by omega),Bh (by simp only[AS,An0,AoB];omega)]
    unfold YG
    have hn1:(nrm x).1=min x.1 x.2.1:=rfl
    have hn2:(nrm x).2.1=max x.1 x.2.1:=rfl
    have hn3:(min x.1 x.2.1,max x.1 x.2.1,())=nrm x:=rfl
    rw[hn3,← hn1,← hn2]
    by_cases q1:(nrm x).1<0
    ·rw[Anq q1,An5 (.inl q1)]
    rw[Anp q1]
    by_cases q2:n≤(nrm x).2.1
    ·rw[Anq q2,An5 (.inr q2)]
    rw[Anp q2,An1 (fun h=>by rcases h with h|h;exact q1 h;exact q2 h)]
    by_cases q3:(nrm x).1<(nrm x).2.1
    ·rw[Anq q3]
     by_cases q4:(AR a.1 (nrm x)).getD 0=0
     ·rw[Anq q4,An5 ⟨q3,q4⟩]
      rfl
     ·rw[Anp q4,An1 (fun h=>q4 h.2)]
    ·rw[Anp q3,An1 (fun h=>q3 h.1)]
   refine⟨fun m' h' => ?_,fun r h' => ?_⟩
   ·rw[h']at step
    refine⟨step,?_⟩
    unfold YG at h'
    split at h'
    ·cases h'
    ·split at h'
     ·cases h';rw[Anw];simp;omega
     ·cases h';omega
   ·rw[h']at step;exact step)
  (fun a _=>by rw[IS,AS,AL,Anp (by omega)]) (m,[]) (An3 _)
 exact e
theorem AiP{N:Nat}(h1:1≤N)(hN:N≤64)(ts:List Tie)(ht:ts.length≤400)(l:List Edge)(hs:l.length<1073741824)(hr:FY (((N:Int),(ts,())),())=some (true,())):
  AiR (((N:Int),(ts,())),l,())=some (if ∀ e∈l,In (N:Int) e.1∧In (N:Int) e.2.1 then(DB N ts l,0,())else([],10,())):=by
 obtain⟨m,e0,hm⟩:=ARH l (N:Int) ts (ts.map ed) (by rw[AoE];omega)
 rw[AZ7,AL9]
 simp only[hr,An2,ACb (N:Int) ts ht hr,e0,AdT (N:Int) ts m l hs]
 have hiff:(∀ x∈l,0≤(nrm x).1∧(nrm x).2.1<(N:Int))↔∀ e∈l,In (N:Int) e.1∧In (N:Int) e.2.1:=by
  constructor
  ·intro h e he
   have:=h e he
   simp only[nrm]at this
   exact⟨AZt h1 hN (by omega),AZt h1 hN (by omega)⟩
  ·intro h e he
   obtain⟨⟨_,_,a1,a2⟩,⟨_,_,b1,b2⟩⟩:=h e he
   simp only[nrm]
   omega
 by_cases hall:∀ e∈l,In (N:Int) e.1∧In (N:Int) e.2.1
 ·rw[An5 hall]
  obtain⟨ys,e1,y1,y2,y3⟩:=AcT (N:Int) (ts.map ed) l m [] (hiff.2 hall) List.nodup_nil (fun k=>by
   rw[hm]
   by_cases h:k∈ts.map ed
   ·rw[An5 h,An5 (.inl h)]
   ·rw[An1 h,An1 (fun hh=>by rcases hh with hh|hh;exact h hh;cases hh)])
  rw[e1]
  have hlen:ys.length<4294967296:=by
   have:([]:List Edge).length=0:=rfl
   omega
  obtain⟨zs,z1,z2,z3⟩:=SE.JM ys hlen (fun _ _=>trivial)
  have hcp:=AEB N ts l
  have hperm:ys.Perm (DB N ts l):=by
   rw[Aqq y1 (hcp.imp fun {a b} h=>by
    rintro rfl
    unfold Dq at h;omega)]
   intro k
   rw[y2,NZ]
   constructor
   ·rintro (h|⟨g1,g2,x,hx,rfl⟩)
    ·cases h
    ·have:=(hiff.2 hall) x hx
     refine⟨⟨this.1,g2,this.2,?_⟩,g1⟩
     obtain⟨a,b,⟨⟩⟩:=x
     unfold N6 nrm
     simp only
     rcases Int.le_total a b with h|h
     ·left;rw[AqZ h,Aqn h];exact hx
     ·right;rw[AqM h,Aqy h];exact hx
   ·rintro⟨⟨g1,g2,g3,g4⟩,g5⟩
    refine .inr ⟨g5,g2,?_⟩
    obtain⟨a,b,⟨⟩⟩:=k
    simp only at g2
    rcases g4 with h|h
    ·exact⟨_,h,by unfold nrm;simp only;rw[AqZ (by omega),Aqn (by omega)]⟩
    ·exact⟨_,h,by unfold nrm;simp only;rw[AqM (by omega),Aqy (by omega)]⟩
  rw[AUV z2 z3 hcp hperm]at z1
  simp only[z1]
 ·rw[An1 hall,ALO (N:Int) l (m,[]) (fun h=>hall (hiff.1 h))]
end Go.Pev.Pl
end
section
namespace Go.Pev.Pl
def ACi(e:Edge):Nat:=(min e.1 e.2.1).toNat*65536+(max e.1 e.2.1).toNat
def Gm(e:Edge):Prop:=0≤e.1∧e.1<65536∧0≤e.2.1∧e.2.1<65536
theorem Ak2{e:Edge}(h:Gm e):ACi e<4294967296:=by
 unfold Gm at h;unfold ACi
 have h1:(min e.1 e.2.1).toNat<65536:=by omega
 have h2:(max e.1 e.2.1).toNat<65536:=by omega
 omega
theorem AIU{n:Int}(h:0≤n∧n<65536):AIV (n,())=some (true,()):=by
 rw[ASK,Y1,An,Anq h.1,Ah,Anq h.2]
theorem AhP{a b:Nat}(ha:a<65536)(hb:b<65536):IntKind.wrap .u32 (BitVec.ofInt (IntKind.bits .u32) ((a*65536:Nat):Int) ||| BitVec.ofInt (IntKind.bits .u32) (b:Int)).toNat=((a*65536+b:Nat):Int):=by
 have e:(BitVec.ofInt (IntKind.bits .u32) ((a*65536:Nat):Int) ||| BitVec.ofInt (IntKind.bits .u32) (b:Int)).toNat=a*65536+b:=by
  rw[BitVec.toNat_or,AqH,AqH,AqY,AqY]
  have hbits:IntKind.bits .u32=32:=rfl
  rw[hbits,Apf (by omega),Apf (by omega)]
  have:=Nat.shiftLeft_add_eq_or_of_lt (i:=16) (b:=b) (by omega) a
  rw[Nat.shiftLeft_eq]at this
  exact this.symm
 rw[e]
 exact IA (by omega)
theorem Ais{e:Edge}(h:Gm e):Aiu ((e.1,(e.2.1,())),())=some ((ACi e:Int),true,()):=by
 obtain⟨u,v,⟨⟩⟩:=e
 obtain⟨h1,h2,h3,h4⟩:=h
 simp only at h1 h2 h3 h4
 obtain⟨u,rfl⟩:=An4 h1
 obtain⟨v,rfl⟩:=An4 h3
 rw[AaF,AMb]
 simp only[AIU (show 0≤(u:Int)∧(u:Int)<65536 by omega),AIU (show 0≤(v:Int)∧(v:Int)<65536 by omega),An2]
 have e1:B5 (u:Int) (v:Int)=((min u v:Nat):Int):=by unfold B5;split<;>omega
 have e2:imax (u:Int) (v:Int)=((max u v:Nat):Int):=by unfold imax;split<;>omega
 have hm:min u v<65536:=by omega
 have hM:max u v<65536:=by omega
 rw[e1,e2,IA (by omega),IA (by omega)]
 have e3:shl? .u32 ((min u v:Nat):Int) (16:Int)=some ((min u v*65536:Nat):Int):=by
  rw[O0,Qd,An1 (by omega)]
  have:min (16:Int).toNat (IntKind.bits .u32)=16:=by decide
  rw[this,show((min u v:Nat):Int)*2 ^ 16=((min u v*65536:Nat):Int) by omega,IA (by omega)]
 simp only[e3]
 rw[AhP hm hM]
 have:ACi ((u:Int),(v:Int),())=min u v*65536+max u v:=by
  unfold ACi
  show(min (u:Int) (v:Int)).toNat*65536+(max (u:Int) (v:Int)).toNat=_
  have a1:(min (u:Int) (v:Int)).toNat=min u v:=by omega
  have a2:(max (u:Int) (v:Int)).toNat=max u v:=by omega
  rw[a1,a2]
 rw[this]
def ZS(k:Int):Edge:=(k/65536,k % 65536,())
theorem Ad8{k:Nat}(h:k<4294967296):ASP ((k:Int),())=some (ZS k,()):=by
 rw[ASO,Y2]
 have e1:shr? .u32 (k:Int) (16:Int)=some ((k:Int)/65536):=by
  rw[AAK,YD,An1 (by omega)]
  have:min (16:Int).toNat (IntKind.bits .u32)=16:=by decide
  rw[this]
  congr 1
  rw[show(2:Int) ^ 16=65536 by decide,Int.fdiv_eq_ediv_of_nonneg _ (by omega)]
 have e2:IntKind.wrap .u16 (k:Int)=(k:Int) % 65536:=by
  simp[IntKind.wrap,IntKind.bits,IntKind.signed]
 simp only[e1,e2]
 rw[Ae (by omega),Ae (by omega)]
 rfl
theorem AGr{e:Edge}(h:Gm e):ZS (ACi e:Int)=(min e.1 e.2.1,max e.1 e.2.1,()):=by
 obtain⟨u,v,⟨⟩⟩:=e
 obtain⟨h1,h2,h3,h4⟩:=h
 simp only at h1 h2 h3 h4
 unfold ZS ACi
 simp only[AoF,Ap3]
 omega
def CV(l:List Edge):List Nat:=(l.filter fun e=>decide (e.1≠e.2.1)).map ACi
theorem ARL{l:List Edge}(h:∀ e∈l,Gm e):∀ k∈CV l,k<4294967296:=by
 intro k hk
 obtain⟨e,he,rfl⟩:=AoA.1 hk
 exact Ak2 (h e (AoS.1 he).1)
theorem UC(l:List Edge):(CV l).length≤l.length:=by
 unfold CV;rw[AoE];exact Apz _ _
noncomputable def FF(w:AGm)(n:Nat):Int:=match CM ((nbl n w.2.1.toNat:Int),w.2.2.1,()),CM ((n:Int),w.2.2.1,())with
 |some a,some b=>2*a.2.1*(nps w.1.toNat:Int)+(2*a.2.1+b.2.1)
 |_,_=>0
theorem Adv{ks:List Nat}{w:AGm}(hw:Oe w)(hk:∀ x∈ks,x<4294967296)(hn:ks.length≤1000):
  0≤FF w ks.length∧(FF w ks.length=0→ks=[])∧(ks=[]→FF w ks.length=0)∧Xd (nI ks,w,())=some (ACE (nI (srt ks w.1.toNat)),FF w ks.length,0,()):=by
 obtain⟨b,c,p,u⟩:=w
 obtain⟨h1,h2,h3,h4,h5⟩:=hw
 simp only at h1 h2 h3 h4 h5
 obtain⟨b,rfl⟩:=An4 (show 0≤b by omega)
 obtain⟨c,rfl⟩:=An4 (show 0≤c by omega)
 have hcb:nbl ks.length c≤1000:=Aot (ACK (by omega)) hn
 obtain⟨U,k,u1,u2,u3,u4⟩:=ADD hcb h5
 obtain⟨V,m,v1,v2,v3,v4⟩:=ADD hn h5
 have hst:FF ((b:Int),(c:Int),p,u) ks.length=((2*k*nps b+(2*k+m):Nat):Int):=by
  unfold FF
  simp only[Aor,u4,v4]
  have:(2:Int)*(k:Int)*(nps b:Int)=((2*k*nps b:Nat):Int):=by
   rw[Apn,Apn];rfl
  rw[this];omega
 obtain⟨T,hT⟩:=ASI (p:=p) (b:=b) (c:=c) (by omega) (by omega) (by omega) (by omega) hk hn u3 v3 u1 u4 v1 v4
 rw[hst]
 refine⟨by omega,fun h0 => ?_,fun h0 => ?_,?_⟩
 ·have hm:m=0:=by omega
  rcases Aoq ks.length with hz|hz
  ·exact AoK hz
  ·have:=v2 hz;omega
 ·subst h0
  have z1:k=0:=by
   have hz:nbl ([]:List Nat).length c=0:=by have:=ACK (n:=0) (b:=c) (by omega);simpa using this
   rw[hz]at u4
   have e:=MT h5
   have u4':CM ((0:Int),p,())=some (nI U,(k:Int),0,()):=u4
   rw[e]at u4'
   simp only[Anr,AoF]at u4'
   omega
  have z2:m=0:=by
   have e:=MT h5
   have v4':CM ((0:Int),p,())=some (nI V,(m:Int),0,()):=v4
   rw[e]at v4'
   simp only[Anr,AoF]at v4'
   omega
  rw[z1,z2];simp
 ·obtain⟨a,d,q,v⟩:=p
  rw[ADh,RZ]
  simp only[hT]
  simp only[Aor]
theorem Adx{xs:List Int}{w:AGm}(h:¬ (Oe w∧xs.length≤1000)):Xd (xs,w,())=some ([],0,1,()):=by
 have hr:=Abb h
 obtain⟨b,c,⟨a,d,q,v⟩,u⟩:=w
 have e1:ieq (1:Int) 0=false:=by rw[Ag];rfl
 have hr':AAk (xs,b,c,(a,d,q,()),())=some ([],0,1,()):=hr
 have hd:Nl (xs,(b,c,(a,d,q,()),()),())=some ([],[],0,1,()):=by
  rw[Pq,Jn]
  simp only[hr',e1,Aog]
 rw[ADh,RZ]
 simp only[hd]
def IX(l:List Edge)(b:Nat):List Edge:=(ACE (nI (srt (CV l) b))).map ZS
theorem AWH{l:List Nat}{x:Int}:x∈nI l↔∃ k∈l,x=(k:Int):=by
 unfold nI;rw[AoA]
 exact⟨fun ⟨k,h1,h2⟩=>⟨k,h1,h2.symm⟩,fun ⟨k,h1,h2⟩=>⟨k,h1,h2.symm⟩⟩
theorem NY{l:List Edge}{b:Nat}(hf:∀ e∈l,Gm e)(x:Edge):x∈IX l b↔0≤x.1∧x.1<x.2.1∧N6 l x.1 x.2.1:=by
 unfold IX
 rw[AoA]
 constructor
 ·rintro⟨k,hk,rfl⟩
  rw[ACL,AWH]at hk
  obtain⟨k,hk,rfl⟩:=hk
  rw[(Ly _ _).mem_iff]at hk
  obtain⟨e,he,rfl⟩:=AoA.1 hk
  obtain⟨he,hne⟩:=AoS.1 he
  have hne:e.1≠e.2.1:=by simpa using hne
  rw[AGr (hf e he)]
  have hfe:=hf e he
  obtain⟨u,v,⟨⟩⟩:=e
  unfold Gm at hfe
  simp only at hne hfe ⊢
  rcases Int.lt_or_gt_of_ne hne with h|h
  ·rw[AqZ (by omega),Aqn (by omega)]
   exact⟨by omega,h,.inl he⟩
  ·rw[AqM (by omega),Aqy (by omega)]
   exact⟨by omega,h,.inr he⟩
 ·rintro⟨h1,h2,h3⟩
  obtain⟨u,v,⟨⟩⟩:=x
  simp only at h1 h2 h3
  have main:∀ e:Edge,e∈l→e.1≠e.2.1→min e.1 e.2.1=u→max e.1 e.2.1=v→∃ a∈ACE (nI (srt (CV l) b)),ZS a=(u,v,()):=by
   intro e he hne hu hv
   refine⟨(ACi e:Int),?_,by rw[AGr (hf e he),hu,hv]⟩
   rw[ACL,AWH]
   refine⟨ACi e,(Ly _ _).mem_iff.2 (AoA.2 ⟨e,AoS.2 ⟨he,by simpa using hne⟩,rfl⟩),rfl⟩
  rcases h3 with h3|h3
  ·exact main _ h3 (by simp only;omega) (by simp only;omega) (by simp only;omega)
  ·exact main _ h3 (by simp only;omega) (by simp only;omega) (by simp only;omega)
theorem AIO{l:List Edge}{b:Nat}:(IX l b).length≤l.length:=by
 unfold IX ACE
 rw[AoE,AoE]
 have h1:=Yv (Pg (nI (srt (CV l) b))) (nI (srt (CV l) b)).length
 have h2:=(Ly (CV l) b).length_eq
 have h3:=UC l
 rw[Bc]at h1 ⊢
 omega
section
variable {l:List Edge} {w:AGm} (hf:∀ e∈l,Gm e) (hn:l.length≤1000)
include hf hn
theorem Xe(b c a d:Int)(q:List (List Int)):AX Fu many (b,c,a,d,q,([]:List Int),l,(l.length:Int),(0:Int),())=some (.inr (.inl (b,c,a,d,q,nI (CV l),()))):=by
 have Q:=E8 (step:=Fu) (fun i=>(b,c,a,d,q,nI (CV (l.take i)),l,(l.length:Int),(i:Int),())) l.length (.inr (.inl (b,c,a,d,q,nI (CV l),()))) (by omega)
  (fun i hi=>by
   obtain⟨e,he⟩:=BX hi
   have hfe:=hf e (An6 he)
   have hkl:=UC (l.take i)
   rw[AoD]at hkl
   have hsn:CV (l.take (i+1))=CV (l.take i)++(if e.1=e.2.1 then []else [ACi e]):=by
    rw[Bl he]
    unfold CV
    rw[ApC,Aon]
    congr 1
    by_cases h:e.1=e.2.1<;>simp[h]
   rw[Fu,AL,Anq hi]
   simp only[AT he,Ais hfe,An2,Ag]
   rw[AP (by omega),hsn]
   by_cases h:e.1=e.2.1
   ·rw[Anq h,An5 h,Ao4]
    rfl
   ·rw[Anp h,An1 h]
    simp only[Aog,AS,Bc,An0,AoB]
    rw[Bh (by omega)]
    simp only[Dm]
    unfold nI
    rw[Aon]
    rfl)
  (by rw[Fu,AL,Anp (by omega),AoX])
 exact Q
theorem AXp(hw:Oe w):VO (l,w,())=some (IX l w.1.toNat,FF w (CV l).length,0,()):=by
 have hkl:=UC l
 obtain⟨_,_,_,hd⟩:=Adv hw (ARL hf) (by omega)
 obtain⟨b,c,⟨a,d,q,v⟩,u⟩:=w
 have hd':Xd (nI (CV l),(b,c,(a,d,q,()),()),())=some (ACE (nI (srt (CV l) b.toNat)),FF (b,c,(a,d,q,()),()) (CV l).length,0,()):=hd
 rw[VN,MZ]
 simp only[AS,Xe hf hn,hd']
 generalize hO:ACE (nI (srt (CV l) b.toNat))=O
 have hOm:∀ k∈O,∃ n:Nat,k=(n:Int)∧n<4294967296:=by
  intro k hk
  rw[← hO,ACL,AWH]at hk
  obtain⟨n,h1,h2⟩:=hk
  exact⟨n,h2,ARL hf n ((Ly _ _).mem_iff.1 h1)⟩
 have hOl:O.length≤1000:=by
  have:=AIO (l:=l) (b:=b.toNat)
  unfold IX at this
  rw[hO,AoE]at this
  omega
 have Q:=E8 (step:=C5) (fun i=>(FF (b,c,(a,d,q,()),()) (CV l).length,(0:Int),(O.take i).map ZS,O,(O.length:Int),(i:Int),())) O.length (.inl (FF (b,c,(a,d,q,()),()) (CV l).length,(0:Int),O.map ZS,())) (by omega)
  (fun i hi=>by
   obtain⟨k,hk⟩:=BX hi
   obtain⟨n,rfl,hn'⟩:=hOm k (An6 hk)
   rw[C5,AL,Anq hi]
   simp only[AT hk,BO hk,Ad8 hn',AS,AoE,AoD,An0,AoB]
   rw[Bh (by omega),AP (by omega),Bl hk]
   simp only[Dm,Aon]
   rfl)
  (by rw[C5,AL,Anp (by omega),AoX])
 have Q':AX C5 many (FF (b,c,(a,d,q,()),()) (CV l).length,(0:Int),([]:List Edge),O,(O.length:Int),(0:Int),())=_:=Q
 simp only[Q']
 unfold IX
 rw[hO]
theorem AXr(hw:¬ Oe w):VO (l,w,())=some ([],0,1,()):=by
 have hd:=Adx (xs:=nI (CV l)) (w:=w) fun h=>hw h.1
 obtain⟨b,c,⟨a,d,q,v⟩,u⟩:=w
 have hd':Xd (nI (CV l),(b,c,(a,d,q,()),()),())=some ([],0,1,()):=hd
 rw[VN,MZ]
 simp only[AS,Xe hf hn,hd']
 have Q:=E8 (step:=C5) (fun i=>((0:Int),(1:Int),([]:List Edge),([]:List Int),(0:Int),(i:Int),())) 0 (.inl ((0:Int),(1:Int),([]:List Edge),())) (by omega)
  (fun i hi=>absurd hi (by omega))
  (by rw[C5,Ah,Anp (by omega)])
 have Q':AX C5 many ((0:Int),(1:Int),([]:List Edge),([]:List Int),((([]:List Int).length:Nat):Int),(0:Int),())=_:=Q
 simp only[Q']
end
theorem Qv{N:Nat}{l l':List Edge}(h:∀ u v:Int,0≤u→u<v→(N6 l u v↔N6 l' u v)):FQ N l=FQ N l':=by
 unfold FQ
 refine ApQ (List.flatMap · (List.range N)) (funext fun u => ?_)
 unfold AgB
 congr 1
 refine Ap6 fun i _ => ?_
 rw[ApA]
 exact h _ _ (by omega) (by omega)
theorem Adq{l:List Edge}{b:Nat}(hf:∀ e∈l,Gm e){u v:Int}(h0:0≤u)(h:u<v):N6 (IX l b) u v↔N6 l u v:=by
 unfold N6
 constructor
 ·rintro (h1|h1)
  ·exact((NY hf _).1 h1).2.2
  ·have:=((NY hf _).1 h1).2.1
   simp only at this
   omega
 ·intro h1
  exact .inl ((NY hf (u,v,())).2 ⟨h0,h,h1⟩)
theorem XZ{l:List Edge}{b N:Nat}(hf:∀ e∈l,Gm e):FQ N (IX l b)=FQ N l:=Qv fun _ _ h0 h=>Adq hf h0 h
end Go.Pev.Pl
end
section
namespace Go.Pev.Pl
abbrev LX:=Int×Int×Int×Unit
abbrev ATd:=Int×List Edge×List LX×Unit
instance (e:Edge):Decidable (Gm e):=by unfold Gm;exact inferInstance
def Pk(n:Int):Prop:=0≤n∧n<65536
instance (n:Int):Decidable (Pk n):=by unfold Pk;exact inferInstance
def Le(a:LX):Prop:=1≤a.1∧a.1≤4∧Pk a.2.1∧Pk a.2.2.1
instance (a:LX):Decidable (Le a):=by unfold Le;exact inferInstance
def WR(x:ATd):Prop:=((x.1=1∨x.1=2)∧x.2.2.1=[]∧x.2.1.length≤60∧∀ e∈x.2.1,Gm e)∨(x.1=3∧x.2.1=[]∧x.2.2.1.length≤60∧∀ a∈x.2.2.1,Le a)
instance (x:ATd):Decidable (WR x):=by unfold WR;exact inferInstance
theorem AGq(n:Int):Wk (n,())=some (decide (Pk n),()):=by
 rw[AOC,Yf]
 have e:IntKind.wrap .u16 n=n % 65536:=by simp[IntKind.wrap,IntKind.bits,IntKind.signed]
 rw[e,Ae (by omega),Ag]
 congr 2
 rw[ApA]
 unfold Pk
 omega
theorem ATg(n:Int):ZQ (n,())=some (decide (1≤n∧n≤4),()):=by
 rw[AGp,QM,An]
 by_cases h:1≤n
 ·rw[Anq h,An];simp[h]
 ·rw[Anp h];simp[h]
theorem AaN{α:Type}(P:α→Prop)[DecidablePred P](l:List α):(l.any fun x => !decide (P x)) = !decide (∀ x∈l,P x):=by
 rw[ApH,Ap8]
 simp
theorem AeI(l:List Edge)(hl:l.length≤60):DR (l,())=some (!decide (∀ e∈l,Gm e),()):=by
 have e:=IW (step:=Cd) (fun i=>(l,(l.length:Int),(i:Int),())) l (fun e => !decide (Gm e)) (fun i=>.inl ((i:Int),())) (.inr (.inl ())) (by omega)
  (fun i x hi hx=>by
   rw[Cd,AL,Anq hi]
   simp only[AT hx,AGq]
   rw[AP (by omega)]
   have hsplit:Gm x↔Pk x.1∧Pk x.2.1:=by unfold Gm Pk;omega
   by_cases h1:Pk x.1
   ·by_cases h2:Pk x.2.1
    ·simp only[Anq h1,Anq h2,Anq (hsplit.2 ⟨h1,h2⟩)];rfl
    ·simp only[Anq h1,Anp h2,Anp (show ¬ Gm x from fun h=>h2 (hsplit.1 h).2)];rfl
   ·simp only[Anp h1,Anp (show ¬ Gm x from fun h=>h1 (hsplit.1 h).1)];rfl)
  (by rw[Cd,AL,Anp (by omega)])
 have e':AX Cd many (l,(l.length:Int),(0:Int),())=_:=e
 rw[Mg,GN,ON,G0]
 simp only[AS,e',AaN]
 by_cases h:∀ e∈l,Gm e
 ·rw[Anq h]
  simp only[An2,An8,AoC]
  rw[An,Anp (by decide)]
 ·rw[Anp h]
  simp only[Aog,Aoa]
  rw[An,Anq (by omega)]
theorem AeJ(l:List LX)(hl:l.length≤60):Gc (l,())=some (!decide (∀ a∈l,Le a),()):=by
 have e:=IW (step:=Ce) (fun i=>(l,(l.length:Int),(i:Int),())) l (fun a => !decide (Le a)) (fun i=>.inl ((i:Int),())) (.inr (.inl ())) (by omega)
  (fun i x hi hx=>by
   rw[Ce,AL,Anq hi]
   simp only[AT hx,ATg,AGq]
   rw[AP (by omega)]
   have hsplit:Le x↔(1≤x.1∧x.1≤4)∧Pk x.2.1∧Pk x.2.2.1:=by unfold Le;exact and_assoc.symm
   by_cases h0:1≤x.1∧x.1≤4
   ·by_cases h1:Pk x.2.1
    ·by_cases h2:Pk x.2.2.1
     ·simp only[Anq h0,Anq h1,Anq h2,Anq (hsplit.2 ⟨h0,h1,h2⟩)];rfl
     ·simp only[Anq h0,Anq h1,Anp h2,Anp (show ¬ Le x from fun h=>h2 (hsplit.1 h).2.2)];rfl
    ·simp only[Anq h0,Anp h1,Anp (show ¬ Le x from fun h=>h1 (hsplit.1 h).2.1)];rfl
   ·simp only[Anp h0,Anp (show ¬ Le x from fun h=>h0 (hsplit.1 h).1)];rfl)
  (by rw[Ce,AL,Anp (by omega)])
 have e':AX Ce many (l,(l.length:Int),(0:Int),())=_:=e
 rw[Mh,GO,OT,G2]
 simp only[AS,e',AaN]
 by_cases h:∀ a∈l,Le a
 ·rw[Anq h]
  simp only[An2,An8,AoC]
  rw[An,Anp (by decide)]
 ·rw[Anp h]
  simp only[Aog,Aoa]
  rw[An,Anq (by omega)]
theorem Aky{α:Type}(l:List α):ieq (l.length:Int) 0=decide (l=[]):=by
 rw[Ag,ApA]
 constructor
 ·intro h;exact AoK (by omega)
 ·rintro rfl;rfl
theorem On(x:ATd):ZM (x,())=some (decide (WR x),()):=by
 obtain⟨k,es,asz,⟨⟩⟩:=x
 rw[AGo,QL]
 simp only[AS,Aky]
 simp only[Ag]
 have hle:∀ {α:Type} (l:List α),ile (l.length:Int) 60=decide (l.length≤60):=fun l=>by rw[An,ApA];omega
 have edges:k=1∨k=2→(WR (k,es,asz,())↔asz=[]∧es.length≤60∧∀ e∈es,Gm e):=by
  intro hk
  unfold WR
  simp only
  constructor
  ·rintro (h|h)
   ·exact h.2
   ·omega
  ·exact fun h=>.inl ⟨hk,h⟩
 have block:k=1∨k=2→(match decide (asz=[])with
   |true=>match ile (es.length:Int) 60 with
    |true=>match DR (es,())with
     |none=>none
     |some (y0,_)=>some ((!y0),())
    |false=>some (false,())
   |false=>some (false,()))=some (decide (WR (k,es,asz,())),()):=by
  intro hk
  by_cases h1:asz=[]
  ·rw[Anq h1]
   simp only[hle]
   by_cases h2:es.length≤60
   ·rw[Anq h2]
    simp only[AeI es h2,Bool.not_not]
    congr 2
    rw[ApA,edges hk]
    exact⟨fun h=>⟨h1,h2,h⟩,fun h=>h.2.2⟩
   ·rw[Anp h2,Anp (fun h=>h2 ((edges hk).1 h).2.1)]
  ·rw[Anp h1,Anp (fun h=>h1 ((edges hk).1 h).1)]
 by_cases k1:k=1
 ·rw[Anq k1]
  exact block (.inl k1)
 ·rw[Anp k1]
  by_cases k2:k=2
  ·rw[Anq k2]
   exact block (.inr k2)
  ·rw[Anp k2]
   by_cases k3:k=3
   ·rw[Anq k3]
    have asks:WR (k,es,asz,())↔es=[]∧asz.length≤60∧∀ a∈asz,Le a:=by
     unfold WR
     simp only
     constructor
     ·rintro (h|h)
      ·omega
      ·exact h.2
     ·exact fun h=>.inr ⟨k3,h⟩
    by_cases h1:es=[]
    ·rw[Anq h1]
     simp only[hle]
     by_cases h2:asz.length≤60
     ·rw[Anq h2]
      simp only[AeJ asz h2,Bool.not_not]
      congr 2
      rw[ApA,asks]
      exact⟨fun h=>⟨h1,h2,h⟩,fun h=>h.2.2⟩
     ·rw[Anp h2,Anp (fun h=>h2 (asks.1 h).2.1)]
    ·rw[Anp h1,Anp (fun h=>h1 (asks.1 h).1)]
   ·have hn:¬ WR (k,es,asz,()):=by
     unfold WR
     rintro (⟨h,_⟩|⟨h,_⟩)
     ·simp only at h;omega
     ·exact k3 h
    rw[Anp k3,Anp hn]
def Ix(a:LX):List Int:=if a.1=1 then [a.2.1,a.2.2.1]else if a.1=2∨a.1=3 then [a.2.1]else []
def CF(x:ATd):List Int:=(x.2.1.flatMap fun e=>[e.1,e.2.1])++x.2.2.1.flatMap Ix
theorem Na(a:LX):(Ix a).length≤2:=by
 unfold Ix
 by_cases h:a.1=1
 ·simp[h]
 ·by_cases h2:a.1=2∨a.1=3<;>simp[h,h2]
theorem AYZ(a:LX):AEl ((a.1,(a.2.1,(a.2.2.1,()))),())=some (Ix a,()):=by
 rw[AIx,Rq]
 simp only[Ag]
 unfold Ix
 by_cases h1:a.1=1
 ·simp[h1]
 ·by_cases h2:a.1=2
  ·simp[h2]
  ·by_cases h3:a.1=3
   ·simp[h3]
   ·simp[h1,h2,h3]
theorem HF{α:Type}(f:α→List Int)(hf:∀ a,(f a).length≤2):∀ (l:List α),(l.flatMap f).length≤2*l.length:=by
 intro l
 induction l with
 |nil=>simp
 |cons a l ih=>
  rw[AoZ,Anw,An0]
  have:=hf a
  omega
theorem AIr{x:ATd}(h1:x.2.1.length≤1000000)(h2:x.2.2.1.length≤1000000):AIs (x,())=some (CF x,()):=by
 obtain⟨k,es,asz,⟨⟩⟩:=x
 simp only at h1 h2
 rw[ATE,Y7]
 have hl:∀ i,((es.take i).flatMap fun e=>[e.1,e.2.1]).length≤2000000:=fun i=>by
  have:=HF (fun e:Edge=>[e.1,e.2.1]) (fun _=>by simp) (es.take i)
  rw[AoD]at this
  omega
 have Q:=E8 (step:=Ht) (fun i=>(k,es,asz,((es.take i).flatMap fun e=>[e.1,e.2.1]),es,(es.length:Int),(i:Int),())) es.length (.inl (k,es,asz,(es.flatMap fun e=>[e.1,e.2.1]),())) (by omega)
  (fun i hi=>by
   obtain⟨e,he⟩:=BX hi
   have:=hl i
   rw[Ht,AL,Anq hi]
   simp only[AT he,AS,An0,AoB]
   rw[Bh (by omega),AP (by omega),Bl he,ApE]
   simp only[Dm]
   rfl)
  (by rw[Ht,AL,Anp (by omega),AoX])
 have Q':AX Ht many (k,es,asz,([]:List Int),es,(es.length:Int),(0:Int),())=_:=Q
 simp only[AS,Q']
 have R:=E8 (step:=Hs) (fun i=>((es.flatMap fun e=>[e.1,e.2.1])++(asz.take i).flatMap Ix,asz,(asz.length:Int),(i:Int),())) asz.length (.inl (CF (k,es,asz,()),())) (by omega)
  (fun i hi=>by
   obtain⟨a,ha⟩:=BX hi
   have h3:=hl es.length
   rw[AoX]at h3
   have h4:=HF Ix Na (asz.take i)
   rw[AoD]at h4
   have h5:=Na a
   rw[Hs,AL,Anq hi]
   simp only[AT ha,AYZ,AS,Anw]
   rw[Bh (by omega),AP (by omega),Bl ha,ApE]
   simp only[Dm,AoV]
   simp)
  (by rw[Hs,AL,Anp (by omega),AoX];rfl)
 have z:(es.flatMap fun e=>[e.1,e.2.1])++(asz.take 0).flatMap Ix=es.flatMap fun e=>[e.1,e.2.1]:=by simp
 rw[z]at R
 have R':AX Hs many ((es.flatMap fun e=>[e.1,e.2.1]),asz,(asz.length:Int),(0:Int),())=_:=R
 simp only[R']
theorem AIg(n:Int)(ts:List Tie)(l:List Int)(hl:l.length≤1000000):Gb (l,n,ts,())=some (n,ts,(l.any fun v=>decide (n≤v)),()):=by
 have e:=IW (step:=Cc) (fun i=>(n,ts,l,(l.length:Int),(i:Int),())) l (fun v=>decide (n≤v)) (fun i=>.inl (n,ts,(i:Int),())) (.inr (.inl (n,ts,()))) (by omega)
  (fun i x hi hx=>by
   rw[Cc,AL,Anq hi]
   simp only[AT hx,An]
   rw[AP (by omega)]
   by_cases h:n≤x
   ·simp only[Anq h];rfl
   ·simp only[Anp h];rfl)
  (by rw[Cc,AL,Anp (by omega)])
 have e':AX Cc many (n,ts,l,(l.length:Int),(0:Int),())=_:=e
 rw[Mf,GM,OK,Gz]
 simp only[AS,e']
 cases h:(l.any fun v=>decide (n≤v))with
 |true=>
  simp only[Aoa]
  rw[An,Anq (by omega)]
 |false=>
  simp only[An8,AoC]
  rw[An,Anp (by decide)]
instance (w:AGm):Decidable (Oe w):=by unfold Oe;exact inferInstance
abbrev AnN:=Int×List Edge×List LX×Int×Int×Unit
def AU4(e:Int):AnN:=(0,[],[],0,e,())
def GR(n:Int)(ts:List Tie):Prop:=∃ N:Nat,n=(N:Int)∧RG2 N ts
theorem AgE(n:Int)(ts:List Tie)(hl:ts.length<4611686018427387904):∃ b:Bool,NS ((n,(ts,())),())=some (b,())∧FY ((n,(ts,())),())=some (b,())∧(b=true↔GR n ts):=by
 obtain⟨b,h1,h2,h3⟩:=AEf n ts hl
 refine⟨b,h1,h2,fun hb => ?_,?_⟩
 ·obtain⟨N,rfl,a1,a2,a3,a4⟩:=h3 hb
  subst hb
  exact⟨N,rfl,⟨a1,a2,a3,a4,(APY a1 a2 a3 a4).1 h1⟩⟩
 ·rintro⟨N,rfl,h⟩
  have:=h.r21
  rw[h1]at this
  simp only[Anr,AoF,Ap3]at this
  exact this
section
variable {n:Int} {ts:List Tie} {x:ATd} {w:AGm}
theorem Vo(hl:ts.length<4611686018427387904)(h:¬ (GR n ts∧WR x)):F6 ((n,(ts,())),x,w,())=some (AU4 1):=by
 obtain⟨b,_,h2,h3⟩:=AgE n ts hl
 obtain⟨k,es,asz,⟨⟩⟩:=x
 rw[Nu,Ju]
 simp only[h2]
 cases b with
 |false=>rfl
 |true=>
  have hw:¬ WR (k,es,asz,()):=fun hw=>h ⟨h3.1 rfl,hw⟩
  simp only[An2,On,Anp hw]
  rfl
theorem Ae0(h:WR x):x.2.1.length≤60∧x.2.2.1.length≤60∧(∀ e∈x.2.1,Gm e):=by
 obtain⟨k,es,asz,⟨⟩⟩:=x
 rcases h with⟨_,h1,h2,h3⟩|⟨_,h1,h2,_⟩
 ·simp only at h1;subst h1;exact⟨h2,by simp,h3⟩
 ·simp only at h1;subst h1;exact⟨by simp,h2,by simp⟩
variable {N:Nat} (h:RG2 N ts) (hw:WR x)
include h hw
theorem Py(hv:∃ v∈CF x,(N:Int)≤v):F6 (((N:Int),(ts,())),x,w,())=some (AU4 10):=by
 obtain⟨l1,l2,_⟩:=Ae0 hw
 have ha:=AIr (x:=x) (by omega) (by omega)
 have hvl:(CF x).length≤1000000:=by
  unfold CF
  rw[Anw]
  have:=HF (fun e:Edge=>[e.1,e.2.1]) (fun _=>by simp) x.2.1
  have:=HF Ix Na x.2.2.1
  omega
 have hany:((CF x).any fun v=>decide ((N:Int)≤v))=true:=by
  obtain⟨v,h1,h2⟩:=hv
  exact Ap8.2 ⟨v,h1,Anq h2⟩
 have hc:=AIg (N:Int) ts (CF x) hvl
 obtain⟨k,es,asz,⟨⟩⟩:=x
 rw[Nu,Ju]
 simp only[h.lr,An2,On,Anq hw,ha,hc,hany]
 rfl
variable (hv:∀ v∈CF x,v<(N:Int))
include hv
omit h hw in
theorem Ai8:((CF x).any fun v=>decide ((N:Int)≤v))=false:=by
 rw[List.any_eq_false]
 intro v hvv
 have:=hv v hvv
 simp;omega
theorem Ml(hk:x.1=1∨x.1=2):F6 (((N:Int),(ts,())),x,w,()) =
  if Oe w then
   if x.1=2 then some (2,Hi N ts x.2.1,[],FF w (CV x.2.1).length,0,())
   else if 400-ts.length<(DB N ts x.2.1).length then some (AU4 2)else some (1,DB N ts x.2.1,[],FF w (CV x.2.1).length,0,())
  else some (AU4 1):=by
 obtain⟨l1,l2,hfit⟩:=Ae0 hw
 have ha:=AIr (x:=x) (by omega) (by omega)
 have hvl:(CF x).length≤1000000:=by
  unfold CF
  rw[Anw]
  have:=HF (fun e:Edge=>[e.1,e.2.1]) (fun _=>by simp) x.2.1
  have:=HF Ix Na x.2.2.1
  omega
 have hany:=Ai8 hv
 have hc:=AIg (N:Int) ts (CF x) hvl
 have hel:=AIO (l:=x.2.1) (b:=w.1.toNat)
 have hin:∀ e∈IX x.2.1 w.1.toNat,In (N:Int) e.1∧In (N:Int) e.2.1:=by
  intro e he
  obtain⟨q1,q2,q3⟩:=(NY hfit e).1 he
  have hlt:e.2.1<(N:Int):=by
   refine hv _ ?_
   unfold CF
   refine Anv.2 (.inl (Apv.2 ?_))
   rcases q3 with q3|q3
   ·exact⟨_,q3,by simp⟩
   ·exact⟨_,q3,by simp⟩
  have hN:=h.hN
  have h1:=h.h1
  unfold In
  omega
 have hgn:Hi N ts (IX x.2.1 w.1.toNat)=Hi N ts x.2.1:=by unfold Hi;rw[XZ hfit]
 have hcm:DB N ts (IX x.2.1 w.1.toNat)=DB N ts x.2.1:=by unfold DB;rw[XZ hfit]
 have hgone:=Ab4 h (IX x.2.1 w.1.toNat) (by omega)
 rw[An5 hin,hgn]at hgone
 have hcome:=AiP h.h1 h.hN ts h.ht (IX x.2.1 w.1.toNat) (by omega) h.lr
 rw[An5 hin,hcm]at hcome
 have hwr:=On x
 rw[Anq hw]at hwr
 have hdv:=fun hW=>AXp (w:=w) hfit (by omega) hW
 have hdb:=fun hW=>AXr (w:=w) hfit (by omega) hW
 have hk3:ieq x.1 3=false:=by rw[Ag];exact Anp (by omega)
 have ht:=h.ht
 have hroom:AIw (((N:Int),(ts,())),())=some (((400-ts.length:Nat):Int),()):=by
  rw[ATG,Y9]
  simp only[h.lr,An2,AS]
  rw[Ae (by omega),show(400:Int)-(ts.length:Int)=((400-ts.length:Nat):Int) by omega]
 have e0:ieq (0:Int) 0=true:=by rw[Ag];rfl
 have e1:ieq (1:Int) 0=false:=by rw[Ag];rfl
 obtain⟨k,es,asz,⟨⟩⟩:=x
 obtain⟨b,c,⟨a,d,q,⟨⟩⟩,⟨⟩⟩:=w
 rw[Nu,Ju]
 simp only[h.lr,An2,hwr,ha,hc,hany,hk3]
 by_cases hW:Oe (b,c,(a,d,q,()),())
 ·rw[An5 hW]
  simp only[hdv hW,e0,An2]
  by_cases k2:k=2
  ·subst k2
   rw[An5 rfl,Ag,Anq rfl]
   simp only[hgone]
  ·have k1:k=1:=by simp only at hk;omega
   subst k1
   rw[An1 (by decide),Ag,Anp (by decide)]
   simp only[hcome,hroom,AS,AL]
   by_cases hf:400-ts.length<(DB N ts es).length
   ·rw[An5 hf,Anq hf];rfl
   ·rw[An1 hf,Anp hf]
 ·rw[An1 hW]
  simp only[hdb hW,e1,Aog]
  rfl
end
end Go.Pev.Pl
end
section
namespace Go.Pev.Pl
theorem AWv{l:List Edge}{u v:Int}(h:N6 l u v)(hlt:u<v):∃ e∈l,(min e.1 e.2.1,max e.1 e.2.1,())=((u,v,()):Edge):=by
 rcases h with h|h
 ·exact⟨_,h,by simp only[AoF,Ap3];omega⟩
 ·exact⟨_,h,by simp only[AoF,Ap3];omega⟩
theorem AUC{α:Type}[DecidableEq α]:∀ {l m:List α},l.Nodup→(∀ x∈l,x∈m)→l.length≤m.length:=by
 intro l
 induction l with
 |nil=>intro m _ _;exact Apr _
 |cons a l ih=>
  intro m hn hs
  rw[AoP]at hn
  have ha:=hs a (by simp)
  have:=ih (m:=m.erase a) hn.2 fun x hx=>by
   rw[List.mem_erase_of_ne (by rintro rfl;exact hn.1 hx)]
   exact hs x (by simp[hx])
  rw[List.length_erase_of_mem ha]at this
  have:=List.length_pos_of_mem ha
  rw[An0];omega
theorem Amt{xs:List Edge}(h:xs.Pairwise Dq):xs.Nodup:=h.imp fun {a b} hh=>by
 rintro rfl
 unfold Dq at hh
 omega
theorem Abx(N:Nat)(l:List Edge):(FQ N l).length≤l.length:=by
 have:=AUC (Amt (L9 N l)) (m:=l.map fun e=>((min e.1 e.2.1,max e.1 e.2.1,()):Edge)) fun x hx=>by
  obtain⟨h1,h2,h3,h4⟩:=(PQ N l x).1 hx
  obtain⟨e,he,hee⟩:=AWv h4 h2
  exact AoA.2 ⟨e,he,hee⟩
 rwa [AoE]at this
theorem Alx(N:Nat)(ts:List Tie)(l:List Edge):(DB N ts l).length+(Hi N ts l).length≤l.length:=by
 have h:=(List.filter_append_perm (fun x=>decide (x∈ts.map ed)) (FQ N l)).length_eq
 rw[Anw]at h
 have:=Abx N l
 unfold DB Hi
 omega
theorem Ww(x:ATd)(h1:x.2.1.length<1073741824)(h2:x.2.2.1.length<1073741824):O4 (x,x,())=some (true,()):=by
 obtain⟨k,es,asz,⟨⟩⟩:=x
 simp only at h1 h2
 have e0:∀ n:Int,ieq n n=true:=fun n=>by rw[Ag];exact Anq rfl
 have e:=IW (step:=FI) (fun i=>(k,es,asz,k,es,asz,(i:Int),())) asz (fun _=>false) (fun _=>.inl (false,())) (.inr (.inl ())) (by omega)
  (fun i a hi ha=>by
   rw[FI,AS,AL,Anq hi]
   simp only[AT ha,e0,Bool.and_true,An2]
   rw[AP (by omega)]
   rfl)
  (by rw[FI,AS,AL,Anp (by omega)])
 have e':AX FI many (k,es,asz,k,es,asz,(0:Int),())=_:=e
 rw[AHG,Qf]
 simp only[e0,An2,AS,AO9 es h1,e']
 simp
theorem ARm(g:Int×List Tie×Unit)(x:ATd)(w:AGm):Nf (g,x,w,())=some (true,()) ∨
  (Nf (g,x,w,())=some (false,())∧g.2.1.length≤30∧g.1≤12∧IntKind.wrap .i64 ((x.2.1.length:Int)+(x.2.2.1.length:Int))≤30∧w.2.2.1.2.2.1.length≤60):=by
 rw[ACx,Nd]
 simp only[AS,Ah]
 by_cases h1:(30:Int)<(g.2.1.length:Int)
 ·rw[Anq h1];exact .inl rfl
 ·rw[Anp h1]
  by_cases h2:12<g.1
  ·rw[Anq h2];exact .inl rfl
  ·rw[Anp h2]
   by_cases h3:30<IntKind.wrap .i64 ((x.2.1.length:Int)+(x.2.2.1.length:Int))
   ·rw[Anq h3];exact .inl rfl
   ·rw[Anp h3]
    by_cases h4:(60:Int)<(w.2.2.1.2.2.1.length:Int)
    ·rw[Anq h4];exact .inl rfl
    ·rw[Anp h4]
     exact .inr ⟨rfl,by omega,by omega,by omega,by omega⟩
end Go.Pev.Pl
end
section
namespace Go.Pev.Pl
end Go.Pev.Pl
end
section
namespace Go.Pev.Pl
def swE(e:Edge):Edge:=(e.2.1,e.1,())
def Cn(l:List Edge):List Edge:=l.reverse.map swE
theorem AQ7{l:List Edge}{u v:Int}:((u,v,()):Edge)∈Cn l↔((v,u,()):Edge)∈l:=by
 unfold Cn
 rw[AoA]
 constructor
 ·rintro⟨⟨a,b,⟨⟩⟩,h1,h2⟩
  unfold swE at h2
  simp only[AoF,Ap3]at h2
  obtain⟨rfl,rfl⟩:=h2
  exact AqN.1 h1
 ·intro h
  exact⟨(v,u,()),AqN.2 h,rfl⟩
theorem Ae9{l:List Edge}{u v:Int}:N6 (Cn l) u v↔N6 l u v:=by
 unfold N6
 rw[AQ7,AQ7]
 exact Or.comm
theorem AfA{l:List Edge}{P:Edge→Prop}(hP:∀ e,P (swE e)↔P e):(∀ e∈Cn l,P e)↔∀ e∈l,P e:=by
 unfold Cn
 constructor
 ·intro h e he
  exact(hP e).1 (h (swE e) (AoA.2 ⟨e,AqN.2 he,rfl⟩))
 ·intro h e he
  obtain⟨f,hf,rfl⟩:=AoA.1 he
  exact(hP f).2 (h f (AqN.1 hf))
theorem AYu{l:List Edge}{k k':Int}(hk:k=1∨k=2)(hk':k'=1∨k'=2):WR (k,Cn l,[],())↔WR (k',l,[],()):=by
 have hl:(Cn l).length=l.length:=by unfold Cn;simp
 have hf:(∀ e∈Cn l,Gm e)↔∀ e∈l,Gm e:=AfA fun e=>by unfold Gm swE;simp only;omega
 unfold WR
 simp only[hl,hf]
 constructor
 ·rintro (⟨_,h⟩|⟨h,_⟩)
  ·exact .inl ⟨hk',h⟩
  ·omega
 ·rintro (⟨_,h⟩|⟨h,_⟩)
  ·exact .inl ⟨hk,h⟩
  ·omega
theorem AYs{l:List Edge}{k k':Int}(hk:k=1∨k=2)(hk':k'=1∨k'=2):WR (k,l,[],())↔WR (k',l,[],()):=by
 unfold WR
 simp only
 constructor
 ·rintro (⟨_,h⟩|⟨h,_⟩)
  ·exact .inl ⟨hk',h⟩
  ·omega
 ·rintro (⟨_,h⟩|⟨h,_⟩)
  ·exact .inl ⟨hk,h⟩
  ·omega
theorem AHn{l:List Edge}{k v:Int}:v∈CF (k,l,[],())↔∃ e∈l,v=e.1∨v=e.2.1:=by
 unfold CF
 simp only[ArB,Ao4,Apv,Anx,Ap9,Aqz]
theorem ZX{l:List Edge}{k k' v:Int}:v∈CF (k,Cn l,[],())↔v∈CF (k',l,[],()):=by
 rw[AHn,AHn]
 unfold Cn
 constructor
 ·rintro⟨e,he,h⟩
  obtain⟨f,hf,rfl⟩:=AoA.1 he
  exact⟨f,AqN.1 hf,h.symm⟩
 ·rintro⟨e,he,h⟩
  exact⟨swE e,AoA.2 ⟨e,AqN.2 he,rfl⟩,h.symm⟩
theorem Aak(l:List Edge):(CV (Cn l)).length=(CV l).length:=by
 unfold CV Cn
 rw[AoE,AoE,List.filter_map,AoE,List.filter_reverse,List.length_reverse]
 congr 1
 refine Ap6 fun e _ => ?_
 show decide (e.2.1≠e.1)=decide (e.1≠e.2.1)
 rw[ApA]
 exact⟨fun h h2=>h h2.symm,fun h h2=>h h2.symm⟩
theorem Aal(N:Nat)(ts:List Tie)(l:List Edge):Hi N ts (Cn l)=Hi N ts l:=by
 unfold Hi
 rw[Qv fun u v _ _=>Ae9]
theorem ATo(l:List Edge)(hl:l.length≤1000)(n:Int)(ts:List Tie)(b c a d:Int)(q:List (List Int)):
  AX CB many (l,n,ts,b,c,a,d,q,([]:List Edge),(l.length:Int)-1,())=some (.inl (l,n,ts,b,c,a,d,q,Cn l,())):=by
 have Q:=E8 (step:=CB) (fun j=>(l,n,ts,b,c,a,d,q,Cn (l.drop (l.length-j)),(l.length:Int)-1-(j:Int),())) l.length (.inl (l,n,ts,b,c,a,d,q,Cn l,())) (by omega)
  (fun j hj=>by
   obtain⟨e,he⟩:=BX (xs:=l) (i:=l.length-1-j) (by omega)
   have hcast:(l.length:Int)-1-(j:Int)=((l.length-1-j:Nat):Int):=by omega
   have hd:l.drop (l.length-(j+1))=e::l.drop (l.length-j):=by
    have hlt:=Bd he
    rw[show l.length-(j+1)=l.length-1-j by omega,Aod hlt,show l.length-1-j+1=l.length-j by omega]
    rw[Ant hlt]at he
    rw[Aox he]
   have hlen:(Cn (l.drop (l.length-j))).length=j:=by
    unfold Cn
    rw[AoE,List.length_reverse,Aos];omega
   rw[CB,hcast,An,Anq (by omega)]
   simp only[AT he,AS,hlen,An0,AoB]
   rw[Bh (by omega),Ae (by omega),hd]
   simp only[Dm]
   have:Cn (e::l.drop (l.length-j))=Cn (l.drop (l.length-j))++[(e.2.1,e.1,())]:=by
    unfold Cn
    rw[List.reverse_cons,Aon]
    rfl
   rw[this,show(l.length:Int)-1-((j+1:Nat):Int)=((l.length-1-j:Nat):Int)-1 by omega])
  (by
   rw[CB,An,Anp (by omega),Apq,AqJ])
 have z:Cn (l.drop (l.length-0))=[]:=by rw[Nat.sub_zero,List.drop_length];rfl
 rw[z]at Q
 have Q':AX CB many (l,n,ts,b,c,a,d,q,([]:List Edge),(l.length:Int)-1-((0:Nat):Int),())=_:=Q
 rw[show(l.length:Int)-1-((0:Nat):Int)=(l.length:Int)-1 by omega]at Q'
 exact Q'
theorem Yb(g:Int×List Tie×Unit)(l:List Edge)(w:AGm){A C:Prop}(_:A)(hl:wfD (.slice (.prod (.int .i64) (.prod (.int .i64) .unit))) l)(_:C):F5 (g,l,w,())=some (true,()):=by
 have hgr:=ARm g (0,l,[],()) w
 have hlm:l.length≤9223372036854775807:=hl.1
 obtain⟨n,ts,⟨⟩⟩:=g
 obtain⟨b,c,⟨a,d,q,⟨⟩⟩,⟨⟩⟩:=w
 rw[Od,G7]
 simp only[ANa,An2]
 have e0:∀ z:Int,ieq z z=true:=fun z=>by rw[Ag];exact Anq rfl
 rcases hgr with hgr|⟨hgr,h1,h2,h3,h4⟩
 ·simp only[hgr]
 simp only at h1 h2 h3 h4
 rw[Ae (by simp only[AoB];omega)]at h3
 simp only[AoB]at h3
 have hlen:l.length≤30:=by omega
 simp only[hgr,AS]
 rw[Ae (by omega)]
 simp only[ATo l (by omega)]
 have hsame:=Ww ((0:Int),([]:List Edge),([]:List LX),()) (by simp) (by simp)
 have z0:ile (IntKind.wrap .i64 (((([]:List Edge).length:Nat):Int)+((([]:List Edge).length:Nat):Int))) (l.length:Int)=true:=by
  rw[AoB,Ae (by decide),An];exact Anq (by omega)
 have z1:ieq ((([]:List Edge).length:Nat):Int) 0=true:=by rw[AoB];exact e0 0
 by_cases hg:GR n ts∧WR ((1:Int),l,([]:List LX),())
 rotate_left
 ·have n2:¬ (GR n ts∧WR ((2:Int),l,([]:List LX),())):=fun h=>hg ⟨h.1,(AYs (.inr rfl) (.inl rfl)).1 h.2⟩
  have n3:¬ (GR n ts∧WR ((2:Int),Cn l,([]:List LX),())):=fun h=>hg ⟨h.1,(AYu (.inr rfl) (.inl rfl)).1 h.2⟩
  have c1:=Vo (w:=(b,c,(a,d,q,()),())) (show ts.length<4611686018427387904 by omega) hg
  have c2:=Vo (w:=(b,c,(a,d,q,()),())) (show ts.length<4611686018427387904 by omega) n2
  have c3:=Vo (w:=(b,c,(a,d,q,()),())) (show ts.length<4611686018427387904 by omega) n3
  simp only[c1,c2,c3]
  unfold AU4
  have e1:ieq (1:Int) 0=false:=by rw[Ag];rfl
  simp only[e0,An2,hsame,z0,e1,z1]
 obtain⟨⟨N,rfl,hN⟩,w1⟩:=hg
 have w2:=(AYs (k:=1) (k':=2) (.inl rfl) (.inr rfl)).1 w1
 have w3:=(AYu (k:=2) (k':=1) (.inr rfl) (.inl rfl)).2 w1
 by_cases hv:∃ v∈CF ((1:Int),l,([]:List LX),()),(N:Int)≤v
 ·have v2:∃ v∈CF ((2:Int),l,([]:List LX),()),(N:Int)≤v:=hv
  have v3:∃ v∈CF ((2:Int),Cn l,([]:List LX),()),(N:Int)≤v:=by
   obtain⟨v,h1,h2⟩:=hv
   exact⟨v,ZX.2 h1,h2⟩
  have c1:=Py (w:=(b,c,(a,d,q,()),())) hN w1 hv
  have c2:=Py (w:=(b,c,(a,d,q,()),())) hN w2 v2
  have c3:=Py (w:=(b,c,(a,d,q,()),())) hN w3 v3
  simp only[c1,c2,c3]
  unfold AU4
  have e1:ieq (10:Int) 0=false:=by rw[Ag];rfl
  simp only[e0,An2,hsame,z0,e1,z1]
 have v1:∀ v∈CF ((1:Int),l,([]:List LX),()),v<(N:Int):=fun v hm=>by
  rcases Int.lt_or_le v (N:Int)with h|h
  ·exact h
  ·exact absurd ⟨v,hm,h⟩ hv
 have v2:∀ v∈CF ((2:Int),l,([]:List LX),()),v<(N:Int):=v1
 have v3:∀ v∈CF ((2:Int),Cn l,([]:List LX),()),v<(N:Int):=fun v hm=>v1 v (ZX.1 hm)
 have c1:=Ml (w:=(b,c,(a,d,q,()),())) hN w1 v1 (.inl rfl)
 have c2:=Ml (w:=(b,c,(a,d,q,()),())) hN w2 v2 (.inr rfl)
 have c3:=Ml (w:=(b,c,(a,d,q,()),())) hN w3 v3 (.inr rfl)
 by_cases hW:Oe (b,c,(a,d,q,()),())
 rotate_left
 ·rw[An1 hW]at c1 c2 c3
  simp only[c1,c2,c3]
  unfold AU4
  have e1:ieq (1:Int) 0=false:=by rw[Ag];rfl
  simp only[e0,An2,hsame,z0,e1,z1]
 have hbl:=Alx N ts l
 have hfull:¬ 400-ts.length<(DB N ts l).length:=by omega
 rw[An5 hW,An1 (show ¬ (1:Int)=2 by decide)]at c1
 simp only at c1
 rw[An1 hfull]at c1
 rw[An5 hW,An5 rfl]at c2 c3
 simp only[Aal,Aak]at c2 c3
 have hs2:=Ww ((2:Int),Hi N ts l,([]:List LX),()) (by simp only;omega) (by simp)
 simp only[c1,c2,c3,e0,An2,hs2]
 rw[Ae (by omega),An,Anq (by omega)]
end Go.Pev.Pl
end
section
namespace Go.Pev
open Go.RowKit
noncomputable def Mk(n:Nat):Spec:=fun R args _ _ _ k=>
 match args with
 |[.data (.slice e) xs]=>match decide (e.size=n)with
  |true=>k (.clip e xs) {}
  |false=>none
 |_=>none
structure AJD(P:Program)(fn:Func)(T e:TypeId)(n:Nat):Prop where
 body:fn.body=some (.seq (.region 0 #[Bb fn 0 0] false) (.seq (.region 1 #[Bb fn 1 0,Bb fn 1 1,Bb fn 1 2,Bb fn 1 3,Bb fn 1 4,Bb fn 1 5,Bb fn 1 6] false) .ret))
 nt:fn.ntmps=9
 res:fn.results = #[.tmp 2]
 d:(Bb fn 0 0).dst=some 2∧(Bb fn 1 0).dst=some 3∧(Bb fn 1 1).dst=some 4∧(Bb fn 1 2).dst=some 5∧(Bb fn 1 3).dst=some 6∧(Bb fn 1 4).dst=some 7∧(Bb fn 1 5).dst=some 8∧(Bb fn 1 6).dst=some 2
 g:(Bb fn 0 0).guard=none∧(Bb fn 1 0).guard=none∧(Bb fn 1 1).guard=none∧(Bb fn 1 2).guard=none∧(Bb fn 1 3).guard=none∧(Bb fn 1 4).guard=none∧(Bb fn 1 5).guard=none∧(Bb fn 1 6).guard=none
 o00:(Bb fn 0 0).op = .assign (.const (.slice none 0 0))
 o10:(Bb fn 1 0).op = .move (.tmp 0)
 o11:(Bb fn 1 1).op = .move (.tmp 0)
 o12:(Bb fn 1 2).op = .call { callee:=.builtin .len,args:=#[.tmp 4],argTypes:=#[T] }
 o13:(Bb fn 1 3).op = .move (.tmp 0)
 o14:(Bb fn 1 4).op = .call { callee:=.builtin .len,args:=#[.tmp 6],argTypes:=#[T] }
 o15:(Bb fn 1 5).op = .slice T (.tmp 3) none (some (.tmp 5)) (some (.tmp 7))
 o16:(Bb fn 1 6).op = .assign (.tmp 8)
 sl:P.underlying T=some (.slice e)
 sz:BI P e=some n
section
variable {P:Program} {g:FuncId} {fn:Func} {T e:TypeId} {n:Nat}
theorem Alq (hs : AJD P fn T e n) (hf : P.funcs[g]? = some fn) (hn : (fn.name == "runtime.NumGoroutine") = false) : AO P g (Mk n) := by
 intro R args H fz slot k r hk
 unfold Mk at hk
 split at hk
 ·rename_i t xs
  split at hk
  ·rename_i hsz
   refine⟨_,_,hk,fun R' k'=>by simp only[Mk,hsz],Ia hf (by rw[hs.body];rfl) hn,fun w F m vals hi hr => ?_⟩
   simp only[Anu]at hsz
   obtain⟨i,hi0,hsz'⟩:=BK hs.sz
   unfold Af at hr
   obtain⟨v,vs',rfl,hrv,hnil⟩:=hr
   unfold Af at hnil;subst hnil
   have hrv:Dat w F (.slice t) xs [v]:=hrv
   obtain⟨a,cap,e1,e2,e3⟩:=hrv
   simp only[AoJ,Ap3]at e1
   subst e1
   refine calls_of_wp hf hs.body ?_
   obtain⟨d0,d1,d2,d3,d4,d5,d6,d7⟩:=hs.d
   obtain⟨g0,g1,g2,g3,g4,g5,g6,g7⟩:=hs.g
   have hres:∀ (tm:Array Value) (w0:World),(results fn tm).run P w0 = .ok (tm.getD 2 undef) w0:=fun tm w0=>by simp[results,hs.res]
   refine wp_seq (wp_region ?_)
   simp only[ApB,An0,AoB,Aok,AqW,Aoc]
   refine Bz (by rfl) g0 (B0 (GY hs.o00) ?_)
   refine wp_seq (wp_region ?_)
   simp only[ApB,An0,AoB,Aok,AqW,Aoc,AoL]
   refine Bz (by rfl) g1 (B0 (Jj hs.o10) ?_)
   refine Bz (by rfl) g2 (B0 (Jj hs.o11) ?_)
   refine Bz (by rfl) g3 (B0 (u:=.int .i64 (List.length (α:=t.den) xs)) (w':=w) (by simp[execOp,hs.o12,resolve,invoke,builtin,Act.eval,Act.put,d0,d1,d2,hs.nt,Ba hs.sl]) ?_)
   refine Bz (by rfl) g4 (B0 (Jj hs.o13) ?_)
   refine Bz (by rfl) g5 (B0 (u:=.int .i64 (List.length (α:=t.den) xs)) (w':=w) (by simp[execOp,hs.o14,resolve,invoke,builtin,Act.eval,Act.put,d0,d1,d2,d3,d4,hs.nt,Ba hs.sl]) ?_)
   have hrun:=L4 (P:=P) (w:=w) (kh:=.i64) (km:=.i64) hs.sl hi0 a (List.length (α:=t.den) xs) cap (l:=0) (h:=(List.length (α:=t.den) xs:Int)) (.inl ⟨rfl,rfl⟩) (by omega) (by omega) (by omega)
   refine Bz (by rfl) g6 (B0 (u:=.slice a (List.length (α:=t.den) xs) (List.length (α:=t.den) xs)) (w':=w) (by
    simp[execOp,hs.o15,Act.eval,Act.put,d0,d1,d2,d3,d4,d5,hs.nt,hrun]
    intro _
    cases a<;>rfl) ?_)
   refine Bz (by rfl) g7 (B0 (GY hs.o16) ?_)
   refine wp_ret ?_
   refine⟨by simp[Act.put,d0,d1,d2,d3,d4,d5,d6,d7],_,hres _ _,?_⟩
   refine⟨_,rfl,F,m,Av.refl hi,?_⟩
   have:Rep w F m H (.clip t xs) (.slice a (List.length (α:=t.den) xs) (List.length (α:=t.den) xs)):=by
    unfold Rep
    exact⟨⟨a,_,rfl,An3 _,e3⟩,a,rfl⟩
   show Rep _ _ _ H _ _
   simpa [Act.put,Act.eval,d0,d1,d2,d3,d4,d5,d6,d7,hs.nt]using this
  ·cases hk
 ·cases hk
theorem Mj(n:Nat):F7 (Mk n):=fun _ _ _ _ _ _ _ _ _=>rfl
end
end Go.Pev
end
section
namespace Go.Pev
open Go.Proofs
noncomputable section
abbrev AfE:Hints:={  }
theorem ATr:∀ v,QR v=AK 0 Tryz.prog Env.none AfE Tryz.f85 Ze Zd Zc v:=by
 rintro⟨a0,⟨⟩⟩
 kernel_rfl
theorem AfD:AD (AQ Tryz.f85) 0=[]:=by kernel_rfl
theorem AOP:AO Tryz.prog 85 (AF 0 1 Ze Zd Zc Lp):=AH Env.AZc Tryz.func85 (by kernel_rfl) (by kernel_rfl) rfl (fun v=>(AGu v).trans (ATr v)) (AA AfD trivial)
def AE2:Env:=Env.none.ext 85 true true (AF 0 1 Ze Zd Zc Lp)
theorem Xq:AY Tryz.prog AE2:=Env.AZ Env.AZc AOP (fun _=>AI rfl rfl) (fun _=>AG rfl rfl)
abbrev AnQ:Hints:={  }
theorem Aj5:∀ v,AY0 v=AK 0 Tryz.prog AE2 AnQ Tryz.f126 AfW AfV AfU v:=by
 rintro⟨a0,a1,⟨⟩⟩
 kernel_rfl
theorem AnP:AD (AQ Tryz.f126) 0=[]:=by kernel_rfl
theorem AfT:AO Tryz.prog 126 (AF 0 2 AfW AfV AfU tin):=AH Xq Tryz.func126 (by kernel_rfl) (by kernel_rfl) rfl (fun v=>(AfX v).trans (Aj5 v)) (AA AnP trivial)
def Ajh:Env:=AE2.ext 126 true true (AF 0 2 AfW AfV AfU tin)
theorem ATV:AY Tryz.prog Ajh:=Env.AZ Xq AfT (fun _=>AI rfl rfl) (fun _=>AG rfl rfl)
abbrev AmV:Hints:={  }
theorem Afc:∀ v,AJv v=AK 0 Tryz.prog Ajh AmV Tryz.f108 AUB AUA AT9 v:=by
 rintro⟨a0,a1,a2,⟨⟩⟩
 kernel_rfl
theorem AmU:AD (AQ Tryz.f108) 0=[]:=by kernel_rfl
theorem Aa9:AO Tryz.prog 108 (AF 0 3 AUB AUA AT9 AbA):=AH ATV Tryz.func108 (by kernel_rfl) (by kernel_rfl) rfl (fun v=>(AY1 v).trans (Afc v)) (AA AmU trivial)
def AYh:Env:=Ajh.ext 108 true true (AF 0 3 AUB AUA AT9 AbA)
theorem AI3:AY Tryz.prog AYh:=Env.AZ ATV Aa9 (fun _=>AI rfl rfl) (fun _=>AG rfl rfl)
abbrev AfC:Hints:={ fp:=fun n=>match n with|5=>[[],[],[],[],[],[],[],[],[]]|_=>[] }
theorem ATq:∀ v,QQ v=AK 0 Tryz.prog AYh AfC Tryz.f163 Za ZZ ZY v:=by
 rintro⟨a0,a1,⟨⟩⟩
 kernel_rfl
theorem AfB:AD (AQ Tryz.f163) 0=[]:=by kernel_rfl
theorem AOO:AO Tryz.prog 163 (AF 0 2 Za ZZ ZY Zb):=AH AI3 Tryz.func163 (by kernel_rfl) (by kernel_rfl) rfl (fun v=>(AGt v).trans (ATq v)) (AA AfB trivial)
def Rx:Env:=AYh.ext 163 true true (AF 0 2 Za ZZ ZY Zb)
theorem Mu:AY Tryz.prog Rx:=Env.AZ AI3 AOO (fun _=>AI rfl rfl) (fun _=>AG rfl rfl)
abbrev AJi:Hints:={ loop:=fun n=>match n with|0=>Ac 0 25 AOX AOW HN|_=>fun _ _ _=>none }
theorem AOV:∀ v,HN v=roundOf Tryz.prog Rx AJi 1 0 25 (AB Tryz.f74 0) AOX AOW v:=by
 rintro⟨a0,a1,a2,a3,a4,⟨⟩⟩
 kernel_rfl
theorem AfM:AD (AB Tryz.f74 0) 1=[]:=by kernel_rfl
theorem AfN:Ab Tryz.prog 0 (.loop (AB Tryz.f74 0)) (AJi.loop 0):=AU Mu (AOV) (AA AfM trivial)
theorem Aax:∀ v,Yi v=AK 0 Tryz.prog Rx AJi Tryz.f74 AJh AJg AJf v:=by
 rintro⟨a0,⟨⟩⟩
 kernel_rfl
theorem Aj0:AD (AQ Tryz.f74) 0=[(0,AB Tryz.f74 0)]:=by kernel_rfl
theorem ATw:AO Tryz.prog 74 (AF 0 1 AJh AJg AJf AOZ):=AH Mu Tryz.func74 (by kernel_rfl) (by kernel_rfl) rfl (fun v=>(AOY v).trans (Aax v)) (AA Aj0 ⟨AfN,trivial⟩)
def ZB:Env:=Rx.ext 74 true true (AF 0 1 AJh AJg AJf AOZ)
theorem P9:AY Tryz.prog ZB:=Env.AZ Mu ATw (fun _=>AI rfl rfl) (fun _=>AG rfl rfl)
abbrev ACq:Hints:={ loop:=fun n=>match n with|0=>Ac 0 19 AH4 AH3 Fb|_=>fun _ _ _=>none }
theorem ALn:∀ v,Fb v=roundOf Tryz.prog ZB ACq 1 0 19 (AB Tryz.f147 0) AH4 AH3 v:=by
 rintro⟨a0,a1,a2,a3,⟨⟩⟩
 kernel_rfl
theorem Ac5:AD (AB Tryz.f147 0) 1=[]:=by kernel_rfl
theorem Ac6:Ab Tryz.prog 0 (.loop (AB Tryz.f147 0)) (ACq.loop 0):=AU P9 (ALn) (AA Ac5 trivial)
theorem AWr:∀ v,Q8 v=AK 0 Tryz.prog ZB ACq Tryz.f147 ACp ACo ACn v:=by
 rintro⟨a0,a1,⟨⟩⟩
 kernel_rfl
theorem Ah2:AD (AQ Tryz.f147) 0=[(0,AB Tryz.f147 0)]:=by kernel_rfl
theorem ARN:AO Tryz.prog 147 (AF 0 2 ACp ACo ACn PZ):=AH P9 Tryz.func147 (by kernel_rfl) (by kernel_rfl) rfl (fun v=>(AH5 v).trans (AWr v)) (AA Ah2 ⟨Ac6,trivial⟩)
def AFK:Env:=ZB.ext 147 true true (AF 0 2 ACp ACo ACn PZ)
theorem X1:AY Tryz.prog AFK:=Env.AZ P9 ARN (fun _=>AI rfl rfl) (fun _=>AG rfl rfl)
abbrev ASX:Hints:={  }
theorem AGS:∀ v,IZ v=AK 0 Tryz.prog AFK ASX Tryz.f129 Md Mc Mb v:=by
 rintro⟨a0,a1,⟨⟩⟩
 kernel_rfl
theorem ASW:AD (AQ Tryz.f129) 0=[]:=by kernel_rfl
theorem AD3:AO Tryz.prog 129 (AF 0 2 Md Mc Mb Fx):=AH X1 Tryz.func129 (by kernel_rfl) (by kernel_rfl) rfl (fun v=>(Rf v).trans (AGS v)) (AA ASW trivial)
def Io:Env:=AFK.ext 129 true true (AF 0 2 Md Mc Mb Fx)
theorem H5:AY Tryz.prog Io:=Env.AZ X1 AD3 (fun _=>AI rfl rfl) (fun _=>AG rfl rfl)
abbrev AWG:Hints:={ loop:=fun n=>match n with|0=>Ac 0 25 AZe AZd KM|_=>fun _ _ _=>none }
theorem AWC:∀ v,KM v=roundOf Tryz.prog Io AWG 1 0 25 (AB Tryz.f145 0) AZe AZd v:=by
 rintro⟨a0,a1,a2,⟨⟩⟩
 kernel_rfl
theorem Aku:AD (AB Tryz.f145 0) 1=[]:=by kernel_rfl
theorem Akv:Ab Tryz.prog 0 (.loop (AB Tryz.f145 0)) (AWG.loop 0):=AU H5 (AWC) (AA Aku trivial)
theorem Ahf:∀ v,ALR v=AK 0 Tryz.prog Io AWG Tryz.f145 AWF AWE AWD v:=by
 rintro⟨a0,⟨⟩⟩
 kernel_rfl
theorem Amw:AD (AQ Tryz.f145) 0=[(0,AB Tryz.f145 0)]:=by kernel_rfl
theorem AcY:AO Tryz.prog 145 (AF 0 1 AWF AWE AWD AcZ):=AH H5 Tryz.func145 (by kernel_rfl) (by kernel_rfl) rfl (fun v=>(AZf v).trans (Ahf v)) (AA Amw ⟨Akv,trivial⟩)
def AYm:Env:=Io.ext 145 true true (AF 0 1 AWF AWE AWD AcZ)
theorem AI8:AY Tryz.prog AYm:=Env.AZ H5 AcY (fun _=>AI rfl rfl) (fun _=>AG rfl rfl)
abbrev AlJ:Hints:={  }
theorem AdK:∀ v,Yw v=AK 0 Tryz.prog AYm AlJ Tryz.f132 AL6 AL5 AL4 v:=by
 rintro⟨a0,⟨⟩⟩
 kernel_rfl
theorem AlI:AD (AQ Tryz.f132) 0=[]:=by kernel_rfl
theorem AWx:AO Tryz.prog 132 (AF 0 2 AL6 AL5 AL4 ARl):=AH AI8 Tryz.func132 (by kernel_rfl) (by kernel_rfl) rfl (fun v=>(ARk v).trans (AdK v)) (AA AlI trivial)
def SU:Env:=AYm.ext 132 false true (AF 0 2 AL6 AL5 AL4 ARl)
theorem LP:AY Tryz.prog SU:=Env.AZ AI8 AWx ((by simp)) (fun _=>AG rfl rfl)
abbrev Jp:Hints:={ loop:=fun n=>match n with|0=>Ac 0 36 AD8 AD6 EJ|1=>Ac 0 36 AD7 AD5 EI|_=>fun _ _ _=>none }
theorem AGa:∀ v,EI v=roundOf Tryz.prog SU Jp 2 0 36 (AB Tryz.f107 1) AD7 AD5 v:=by
 rintro⟨a0,a1,a2,a3,⟨⟩⟩
 kernel_rfl
theorem AX2:AD (AB Tryz.f107 1) 2=[]:=by kernel_rfl
theorem AX4:Ab Tryz.prog 0 (.loop (AB Tryz.f107 1)) (Jp.loop 1):=AU LP (AGa) (AA AX2 trivial)
theorem AGb:∀ v,EJ v=roundOf Tryz.prog SU Jp 1 0 36 (AB Tryz.f107 0) AD8 AD6 v:=by
 rintro⟨a0,a1,a2,a3,a4,⟨⟩⟩
 kernel_rfl
theorem AX3:AD (AB Tryz.f107 0) 1=[]:=by kernel_rfl
theorem AX5:Ab Tryz.prog 0 (.loop (AB Tryz.f107 0)) (Jp.loop 0):=AU LP (AGb) (AA AX3 trivial)
theorem ASa:∀ v,Nn v=AK 0 Tryz.prog SU Jp Tryz.f107 VV VU VT v:=by
 rintro⟨a0,⟨⟩⟩
 kernel_rfl
theorem AeK:AD (AQ Tryz.f107) 0=[(0,AB Tryz.f107 0),(1,AB Tryz.f107 1)]:=by kernel_rfl
theorem AMw:AO Tryz.prog 107 (AF 0 1 VV VU VT K1):=AH LP Tryz.func107 (by kernel_rfl) (by kernel_rfl) rfl (fun v=>(AD9 v).trans (ASa v)) (AA AeK ⟨AX5,AX4,trivial⟩)
def Wf:Env:=SU.ext 107 true true (AF 0 1 VV VU VT K1)
theorem Se:AY Tryz.prog Wf:=Env.AZ LP AMw (fun _=>AI rfl rfl) (fun _=>AG rfl rfl)
theorem Abi:Tryz.f161.body.isSome=true:=by kernel_rfl
theorem Abh : (Tryz.f161.name == "runtime.NumGoroutine") = false := by kernel_rfl
theorem Abg:loops (AQ Tryz.f161)=0:=by kernel_rfl
def Ij:Env:=Wf.ext 161 false false (Ck Tryz.prog Wf {} Tryz.f161)
theorem H0:AY Tryz.prog Ij:=Env.AZ Se (CW Se Tryz.func161 Abi Abh Abg) (by simp) (by simp)
abbrev Hh:Hints:={ loop:=fun n=>match n with|0=>Ac 0 19 Lb La Bx|_=>fun _ _ _=>none }
theorem Pc:∀ v,Bx v=roundOf Tryz.prog Ij Hh 1 0 19 (AB Tryz.f56 0) Lb La v:=by
 rintro⟨a0,a1,a2,⟨⟩⟩
 kernel_rfl
theorem YI:AD (AB Tryz.f56 0) 1=[]:=by kernel_rfl
theorem YJ:Ab Tryz.prog 0 (.loop (AB Tryz.f56 0)) (Hh.loop 0):=AU H0 (Pc) (AA YI trivial)
theorem UH:∀ v,Es v=AK 0 Tryz.prog Ij Hh Tryz.f56 Hg Hf He v:=by
 rintro⟨a0,⟨⟩⟩
 kernel_rfl
theorem ACs:AD (AQ Tryz.f56) 0=[(0,AB Tryz.f56 0)]:=by kernel_rfl
theorem RH:AO Tryz.prog 56 (AF 0 2 Hg Hf He Gy):=AH H0 Tryz.func56 (by kernel_rfl) (by kernel_rfl) rfl (fun v=>(Lc v).trans (UH v)) (AA ACs ⟨YJ,trivial⟩)
def H3:Env:=Ij.CD 56 1 161 (AF 0 2 Hg Hf He Gy)
theorem Il:AY Tryz.prog H3:=Env.Aw H0 RH (AG rfl rfl)
end
end Go.Pev
end
section
namespace Go.Pev
open Go.Proofs
noncomputable section
abbrev YR:Hints:={  }
theorem Ri:∀ v,D2 v=AK 0 Tryz.prog H3 YR Tryz.f29 Gq Gp Gn v:=by
 rintro⟨a0,⟨⟩⟩
 kernel_rfl
theorem YQ:AD (AQ Tryz.f29) 0=[]:=by kernel_rfl
theorem Ps:AO Tryz.prog 29 (AF 0 2 Gq Gp Gn Dv):=AH Il Tryz.func29 (by kernel_rfl) (by kernel_rfl) rfl (fun v=>(Jo v).trans (Ri v)) (AA YQ trivial)
def D3:Env:=H3.CD 29 1 161 (AF 0 2 Gq Gp Gn Dv)
theorem ER:AY Tryz.prog D3:=Env.Aw Il Ps (AG rfl rfl)
abbrev AV3:Hints:={ loop:=fun n=>match n with|0=>Ac 0 23 AZW AZV KG|_=>fun _ _ _=>none }
theorem AVz:∀ v,KG v=roundOf Tryz.prog D3 AV3 1 0 23 (AB Tryz.f162 0) AZW AZV v:=by
 rintro⟨a0,a1,a2,a3,a4,⟨⟩⟩
 kernel_rfl
theorem Akp:AD (AB Tryz.f162 0) 1=[]:=by kernel_rfl
theorem Akq:Ab Tryz.prog 0 (.loop (AB Tryz.f162 0)) (AV3.loop 0):=AU ER (AVz) (AA Akp trivial)
theorem AhY:∀ v,ALH v=AK 0 Tryz.prog D3 AV3 Tryz.f162 AV2 AV1 AV0 v:=by
 rintro⟨a0,⟨⟩⟩
 kernel_rfl
theorem Amr:AD (AQ Tryz.f162) 0=[(0,AB Tryz.f162 0)]:=by kernel_rfl
theorem AcN:AO Tryz.prog 162 (AF 0 1 AV2 AV1 AV0 once):=AH ER Tryz.func162 (by kernel_rfl) (by kernel_rfl) rfl (fun v=>(AZX v).trans (AhY v)) (AA Amr ⟨Akq,trivial⟩)
def AYk:Env:=D3.ext 162 true true (AF 0 1 AV2 AV1 AV0 once)
theorem AI6:AY Tryz.prog AYk:=Env.AZ ER AcN (fun _=>AI rfl rfl) (fun _=>AG rfl rfl)
abbrev Af8:Hints:={  }
theorem AUk:∀ v,Ql v=AK 0 Tryz.prog AYk Af8 Tryz.f144 AAn AAm AAl v:=by
 rintro⟨a0,⟨⟩⟩
 kernel_rfl
theorem Af7:AD (AQ Tryz.f144) 0=[]:=by kernel_rfl
theorem APL:AO Tryz.prog 144 (AF 0 1 AAn AAm AAl O8):=AH AI6 Tryz.func144 (by kernel_rfl) (by kernel_rfl) rfl (fun v=>(AHP v).trans (AUk v)) (AA Af7 trivial)
def AFB:Env:=AYk.ext 144 true true (AF 0 1 AAn AAm AAl O8)
theorem Xx:AY Tryz.prog AFB:=Env.AZ AI6 APL (fun _=>AI rfl rfl) (fun _=>AG rfl rfl)
abbrev Ae8:Hints:={ fp:=fun n=>match n with|1=>[[],[],[],[],[],[],[],[0],[]]|_=>[] }
theorem ATn:∀ v,QP v=AK 0 Tryz.prog AFB Ae8 Tryz.f131 ZW ZV ZU v:=by
 rintro⟨a0,a1,⟨⟩⟩
 kernel_rfl
theorem Ae7:AD (AQ Tryz.f131) 0=[]:=by kernel_rfl
theorem AON:AO Tryz.prog 131 (AF 0 2 ZW ZV ZU Sq):=AH Xx Tryz.func131 (by kernel_rfl) (by kernel_rfl) rfl (fun v=>(AGs v).trans (ATn v)) (AA Ae7 trivial)
def Rw:Env:=AFB.ext 131 true true (AF 0 2 ZW ZV ZU Sq)
theorem Mt:AY Tryz.prog Rw:=Env.AZ Xx AON (fun _=>AI rfl rfl) (fun _=>AG rfl rfl)
abbrev ABM:Hints:={ loop:=fun n=>match n with|0=>Ac 0 29 AHd AHc ET|_=>fun _ _ _=>none }
theorem AKn:∀ v,ET v=roundOf Tryz.prog Rw ABM 1 0 29 (AB Tryz.f130 0) AHd AHc v:=by
 rintro⟨a0,a1,a2,a3,a4,⟨⟩⟩
 kernel_rfl
theorem Aby:AD (AB Tryz.f130 0) 1=[]:=by kernel_rfl
theorem Abz:Ab Tryz.prog 0 (.loop (AB Tryz.f130 0)) (ABM.loop 0):=AU Mt (AKn) (AA Aby trivial)
theorem AVK:∀ v,Qw v=AK 0 Tryz.prog Rw ABM Tryz.f130 ABL ABK ABJ v:=by
 rintro⟨a0,a1,⟨⟩⟩
 kernel_rfl
theorem Agl:AD (AQ Tryz.f130) 0=[(0,AB Tryz.f130 0)]:=by kernel_rfl
theorem APi:AO Tryz.prog 130 (AF 0 2 ABL ABK ABJ AKo):=AH Mt Tryz.func130 (by kernel_rfl) (by kernel_rfl) rfl (fun v=>(AHe v).trans (AVK v)) (AA Agl ⟨Abz,trivial⟩)
def AFE:Env:=Rw.ext 130 true true (AF 0 2 ABL ABK ABJ AKo)
theorem Xz:AY Tryz.prog AFE:=Env.AZ Mt APi (fun _=>AI rfl rfl) (fun _=>AG rfl rfl)
abbrev AkN:Hints:={  }
theorem Abk:∀ v,Yo v=AK 0 Tryz.prog AFE AkN Tryz.f106 AKe AKd AKc v:=by
 rintro⟨a0,a1,⟨⟩⟩
 kernel_rfl
theorem AkM:AD (AQ Tryz.f106) 0=[]:=by kernel_rfl
theorem AUp:AO Tryz.prog 106 (AF 0 2 AKe AKd AKc AHR):=AH Xz Tryz.func106 (by kernel_rfl) (by kernel_rfl) rfl (fun v=>(APa v).trans (Abk v)) (AA AkM trivial)
def ANp:Env:=AFE.ext 106 true true (AF 0 2 AKe AKd AKc AHR)
theorem AFD:AY Tryz.prog ANp:=Env.AZ Xz AUp (fun _=>AI rfl rfl) (fun _=>AG rfl rfl)
abbrev AgA:Hints:={  }
theorem AUm:∀ v,Qm v=AK 0 Tryz.prog ANp AgA Tryz.f133 AAq AAp AAo v:=by
 rintro⟨a0,⟨⟩⟩
 kernel_rfl
theorem Af9:AD (AQ Tryz.f133) 0=[]:=by kernel_rfl
theorem APM:AO Tryz.prog 133 (AF 0 1 AAq AAp AAo AAr):=AH AFD Tryz.func133 (by kernel_rfl) (by kernel_rfl) rfl (fun v=>(AHQ v).trans (AUm v)) (AA Af9 trivial)
def AFC:Env:=ANp.ext 133 true true (AF 0 1 AAq AAp AAo AAr)
theorem Xy:AY Tryz.prog AFC:=Env.AZ AFD APM (fun _=>AI rfl rfl) (fun _=>AG rfl rfl)
theorem Aau:Tryz.f128.body.isSome=true:=by kernel_rfl
theorem Aat : (Tryz.f128.name == "runtime.NumGoroutine") = false := by kernel_rfl
theorem Aas:loops (AQ Tryz.f128)=0:=by kernel_rfl
def Ih:Env:=AFC.ext 128 false false (Ck Tryz.prog AFC {} Tryz.f128)
theorem Hx:AY Tryz.prog Ih:=Env.AZ Xy (CW Xy Tryz.func128 Aau Aat Aas) (by simp) (by simp)
abbrev Fg:Hints:={ loop:=fun n=>match n with|0=>Ac 1 19 IK IJ Be|_=>fun _ _ _=>none }
theorem MR:∀ v,Be v=roundOf Tryz.prog Ih Fg 1 1 19 (AB Tryz.f127 0) IK IJ v:=by
 rintro⟨a0,a1,a2,a3,⟨⟩⟩
 kernel_rfl
theorem RB:AD (AB Tryz.f127 0) 1=[]:=by kernel_rfl
theorem RC:Ab Tryz.prog 1 (.loop (AB Tryz.f127 0)) (Fg.loop 0):=AU Hx (MR) (AA RB trivial)
theorem Pa:∀ v,Dd v=AK 1 Tryz.prog Ih Fg Tryz.f127 Ff Fe Fc v:=by
 rintro⟨a0,a1,⟨⟩⟩
 kernel_rfl
theorem UE:AD (AQ Tryz.f127) 0=[(0,AB Tryz.f127 0)]:=by kernel_rfl
theorem N4:AO Tryz.prog 127 (AF 1 2 Ff Fe Fc Ep):=AH Hx Tryz.func127 (by kernel_rfl) (by kernel_rfl) rfl (fun v=>(IL v).trans (Pa v)) (AA UE ⟨RC,trivial⟩)
def GA:Env:=Ih.CD 127 1 128 (AF 1 2 Ff Fe Fc Ep)
theorem Gw:AY Tryz.prog GA:=Env.Aw Hx N4 (AG rfl rfl)
abbrev AfJ:Hints:={  }
theorem ATu:∀ v,QT v=AK 0 Tryz.prog GA AfJ Tryz.f105 Zp Zo Zn v:=by
 rintro⟨a0,a1,⟨⟩⟩
 kernel_rfl
theorem AfI:AD (AQ Tryz.f105) 0=[]:=by kernel_rfl
theorem AOS:AO Tryz.prog 105 (AF 0 2 Zp Zo Zn Su):=AH Gw Tryz.func105 (by kernel_rfl) (by kernel_rfl) rfl (fun v=>(AG2 v).trans (ATu v)) (AA AfI trivial)
def AE4:Env:=GA.ext 105 true true (AF 0 2 Zp Zo Zn Su)
theorem Xs:AY Tryz.prog AE4:=Env.AZ Gw AOS (fun _=>AI rfl rfl) (fun _=>AG rfl rfl)
theorem AmA:Tryz.f164.body.isSome=true:=by kernel_rfl
theorem Al9 : (Tryz.f164.name == "runtime.NumGoroutine") = false := by kernel_rfl
theorem Al8:loops (AQ Tryz.f164)=0:=by kernel_rfl
def N2:Env:=AE4.ext 164 false false (Ck Tryz.prog AE4 {} Tryz.f164)
theorem LV:AY Tryz.prog N2:=Env.AZ Xs (CW Xs Tryz.func164 AmA Al9 Al8) (by simp) (by simp)
abbrev AW3:Hints:={ loop:=fun n=>match n with|0=>Ac 0 107 AZ0 AZz IQ|_=>fun _ _ _=>none,fp:=fun n=>match n with|8=>[[],[],[],[],[],[],[],[],[1000003],[],[],[],[],[],[],[],[],[0],[0],[0],[],[0],[0],[0],[2,26],[],[2,26],[2,26],[],[],[],[],[]]|13=>[[],[0],[0],[0],[2],[],[],[],[0],[0],[0],[6],[],[0],[0],[0],[4],[],[],[]]|3=>[[],[],[],[],[],[],[],[],[11],[],[],[],[8,10,12],[]]|_=>[] }
theorem AWz:∀ v,IQ v=roundOf Tryz.prog N2 AW3 1 0 107 (AB Tryz.f146 0) AZ0 AZz v:=by
 rintro⟨a0,a1,a2,a3,a4,a5,a6,⟨⟩⟩
 kernel_rfl
theorem AlN:AD (AB Tryz.f146 0) 1=[]:=by kernel_rfl
theorem AlO:Ab Tryz.prog 0 (.loop (AB Tryz.f146 0)) (AW3.loop 0):=AU LV (AWz) (AA AlN trivial)
theorem AiM:∀ v,AL8 v=AK 0 Tryz.prog N2 AW3 Tryz.f146 AW2 AW1 AW0 v:=by
 rintro⟨a0,a1,⟨⟩⟩
 kernel_rfl
theorem Am5:AD (AQ Tryz.f146) 0=[(0,AB Tryz.f146 0)]:=by kernel_rfl
theorem AdQ:AO Tryz.prog 146 (AF 0 2 AW2 AW1 AW0 AiO):=AH LV Tryz.func146 (by kernel_rfl) (by kernel_rfl) rfl (fun v=>(AZ1 v).trans (AiM v)) (AA Am5 ⟨AlO,trivial⟩)
def Wa:Env:=N2.ext 146 true true (AF 0 2 AW2 AW1 AW0 AiO)
theorem Jx:AY Tryz.prog Wa:=Env.AZ LV AdQ (fun _=>AI rfl rfl) (fun _=>AG rfl rfl)
end
end Go.Pev
end
section
namespace Go.Pev
open Go.Proofs
noncomputable section
abbrev HL:Hints:={ loop:=fun n=>match n with|0=>Ac 0 87 AG0 AGx DU|1=>Ac 0 87 AGz AGw DT|2=>Ac 0 87 AGy AGv ES|_=>fun _ _ _=>none,fp:=fun n=>match n with|8=>[[],[],[],[],[],[],[],[],[],[],[],[],[],[],[],[],[],[],[],[],[],[],[],[],[0],[0],[],[],[],[]]|_=>[] }
theorem AJZ:∀ v,ES v=roundOf Tryz.prog Wa HL 3 0 87 (AB Tryz.f124 2) AGy AGv v:=by
 rintro⟨a0,a1,a2,⟨⟩⟩
 kernel_rfl
theorem Aam:AD (AB Tryz.f124 2) 3=[]:=by kernel_rfl
theorem Aap:Ab Tryz.prog 0 (.loop (AB Tryz.f124 2)) (HL.loop 2):=AU Jx (AJZ) (AA Aam trivial)
theorem AJa:∀ v,DT v=roundOf Tryz.prog Wa HL 2 0 87 (AB Tryz.f124 1) AGz AGw v:=by
 rintro⟨a0,a1,a2,a3,a4,a5,a6,a7,a8,a9,a10,a11,a12,a13,a14,a15,a16,a17,a18,a19,a20,a21,a22,a23,a24,a25,⟨⟩⟩
 kernel_rfl
theorem Aan:AD (AB Tryz.f124 1) 2=[]:=by kernel_rfl
theorem Aaq:Ab Tryz.prog 0 (.loop (AB Tryz.f124 1)) (HL.loop 1):=AU Jx (AJa) (AA Aan trivial)
theorem AJb:∀ v,DU v=roundOf Tryz.prog Wa HL 1 0 87 (AB Tryz.f124 0) AG0 AGx v:=by
 rintro⟨a0,a1,a2,a3,a4,a5,a6,⟨⟩⟩
 kernel_rfl
theorem Aao:AD (AB Tryz.f124 0) 1=[(1,AB Tryz.f124 1)]:=by kernel_rfl
theorem Aar:Ab Tryz.prog 0 (.loop (AB Tryz.f124 0)) (HL.loop 0):=AU Jx (AJb) (AA Aao ⟨Aaq,trivial⟩)
theorem ATt:∀ v,QS v=AK 0 Tryz.prog Wa HL Tryz.f124 Zl Zk Zj v:=by
 rintro⟨a0,⟨⟩⟩
 kernel_rfl
theorem AfH:AD (AQ Tryz.f124) 0=[(0,AB Tryz.f124 0),(2,AB Tryz.f124 2)]:=by kernel_rfl
theorem AOR:AO Tryz.prog 124 (AF 0 1 Zl Zk Zj Ss):=AH Jx Tryz.func124 (by kernel_rfl) (by kernel_rfl) rfl (fun v=>(AG1 v).trans (ATt v)) (AA AfH ⟨Aar,Aap,trivial⟩)
def AE3:Env:=Wa.ext 124 true true (AF 0 1 Zl Zk Zj Ss)
theorem Xr:AY Tryz.prog AE3:=Env.AZ Jx AOR (fun _=>AI rfl rfl) (fun _=>AG rfl rfl)
abbrev Al0:Hints:={  }
theorem Aem:∀ v,Y8 v=AK 0 Tryz.prog AE3 Al0 Tryz.f104 ANQ ANP ANO v:=by
 rintro⟨a0,a1,a2,⟨⟩⟩
 kernel_rfl
theorem Alz:AD (AQ Tryz.f104) 0=[]:=by kernel_rfl
theorem AYW:AO Tryz.prog 104 (AF 0 3 ANQ ANP ANO asked):=AH Xr Tryz.func104 (by kernel_rfl) (by kernel_rfl) rfl (fun v=>(ATF v).trans (Aem v)) (AA Alz trivial)
def AN3:Env:=AE3.ext 104 true true (AF 0 3 ANQ ANP ANO asked)
theorem AFZ:AY Tryz.prog AN3:=Env.AZ Xr AYW (fun _=>AI rfl rfl) (fun _=>AG rfl rfl)
abbrev Amv:Hints:={  }
theorem Ahd:∀ v,KK v=AK 0 Tryz.prog AN3 Amv Tryz.f84 AWA AV9 AV8 v:=by
 rintro⟨a0,⟨⟩⟩
 kernel_rfl
theorem Amu:AD (AQ Tryz.f84) 0=[]:=by kernel_rfl
theorem AcU:AO Tryz.prog 84 (AF 0 1 AWA AV9 AV8 Ahe):=AH AFZ Tryz.func84 (by kernel_rfl) (by kernel_rfl) rfl (fun v=>(KJ v).trans (Ahd v)) (AA Amu trivial)
def AYl:Env:=AN3.ext 84 true true (AF 0 1 AWA AV9 AV8 Ahe)
theorem AI7:AY Tryz.prog AYl:=Env.AZ AFZ AcU (fun _=>AI rfl rfl) (fun _=>AG rfl rfl)
abbrev AX7:Hints:={  }
theorem AMz:∀ v,EK v=AK 0 Tryz.prog AYl AX7 Tryz.f73 Pv Pu Pt v:=by
 rintro⟨a0,a1,⟨⟩⟩
 kernel_rfl
theorem AX6:AD (AQ Tryz.f73) 0=[]:=by kernel_rfl
theorem AGc:AO Tryz.prog 73 (AF 0 2 Pv Pu Pt DS):=AH AI7 Tryz.func73 (by kernel_rfl) (by kernel_rfl) rfl (fun v=>(Gd v).trans (AMz v)) (AA AX6 trivial)
def QI:Env:=AYl.ext 73 true true (AF 0 2 Pv Pu Pt DS)
theorem Oi:AY Tryz.prog QI:=Env.AZ AI7 AGc (fun _=>AI rfl rfl) (fun _=>AG rfl rfl)
abbrev Ajo:Hints:={ fp:=fun n=>match n with|1=>[[],[],[],[],[],[],[],[]]|_=>[] }
theorem Aaf:∀ v,Ye v=AK 0 Tryz.prog QI Ajo Tryz.f135 AJO AJN AJM v:=by
 rintro⟨a0,a1,⟨⟩⟩
 kernel_rfl
theorem Ajn:AD (AQ Tryz.f135) 0=[]:=by kernel_rfl
theorem ATi:AO Tryz.prog 135 (AF 0 2 AJO AJN AJM BG):=AH Oi Tryz.func135 (by kernel_rfl) (by kernel_rfl) rfl (fun v=>(AOB v).trans (Aaf v)) (AA Ajn trivial)
def ANj:Env:=QI.ext 135 true true (AF 0 2 AJO AJN AJM BG)
theorem AEz:AY Tryz.prog ANj:=Env.AZ Oi ATi (fun _=>AI rfl rfl) (fun _=>AG rfl rfl)
abbrev Ak0:Hints:={  }
theorem Acy:∀ v,Yt v=AK 0 Tryz.prog ANj Ak0 Tryz.f83 ALh ALg ALf v:=by
 rintro⟨a0,⟨⟩⟩
 kernel_rfl
theorem Akz:AD (AQ Tryz.f83) 0=[]:=by kernel_rfl
theorem AWa:AO Tryz.prog 83 (AF 0 1 ALh ALg ALf ARJ):=AH AEz Tryz.func83 (by kernel_rfl) (by kernel_rfl) rfl (fun v=>(ARI v).trans (Acy v)) (AA Akz trivial)
def ANt:Env:=ANj.ext 83 true true (AF 0 1 ALh ALg ALf ARJ)
theorem AFJ:AY Tryz.prog ANt:=Env.AZ AEz AWa (fun _=>AI rfl rfl) (fun _=>AG rfl rfl)
abbrev Aei:Hints:={  }
theorem AS7:∀ v,Nt v=AK 0 Tryz.prog ANt Aei Tryz.f71 Vu Vt Vs v:=by
 rintro⟨a0,⟨⟩⟩
 kernel_rfl
theorem Aeh:AD (AQ Tryz.f71) 0=[]:=by kernel_rfl
theorem ANK:AO Tryz.prog 71 (AF 0 1 Vu Vt Vs bitsLen):=AH AFJ Tryz.func71 (by kernel_rfl) (by kernel_rfl) rfl (fun v=>(AEg v).trans (AS7 v)) (AA Aeh trivial)
def Wh:Env:=ANt.ext 71 true true (AF 0 1 Vu Vt Vs bitsLen)
theorem Sh:AY Tryz.prog Wh:=Env.AZ AFJ ANK (fun _=>AI rfl rfl) (fun _=>AG rfl rfl)
abbrev AaU:Hints:={ fp:=fun n=>match n with|3=>[[],[0],[0],[],[0],[0],[],[],[0],[1]]|2=>[[],[0],[0],[],[0],[0],[],[],[0],[1]]|1=>[[],[0],[0],[],[0],[0],[],[],[0],[1]]|_=>[] }
theorem AN7:∀ v,NF v=AK 1 Tryz.prog Wh AaU Tryz.f118 Sp So Sn v:=by
 rintro⟨a0,⟨⟩⟩
 kernel_rfl
theorem AaT:AD (AQ Tryz.f118) 0=[]:=by kernel_rfl
theorem AJH:AO Tryz.prog 118 (AF 1 1 Sp So Sn xorNext):=AH Sh Tryz.func118 (by kernel_rfl) (by kernel_rfl) rfl (fun v=>(ZI v).trans (AN7 v)) (AA AaT trivial)
def WE:Env:=Wh.ext 118 false true (AF 1 1 Sp So Sn xorNext)
theorem Ru:AY Tryz.prog WE:=Env.AZ Sh AJH ((by simp)) (fun _=>AG rfl rfl)
abbrev AcS:Hints:={  }
theorem AQ4:∀ v,NX v=AK 0 Tryz.prog WE AcS Tryz.f117 Tp To Tn v:=by
 rintro⟨a0,⟨⟩⟩
 kernel_rfl
theorem AcR:AD (AQ Tryz.f117) 0=[]:=by kernel_rfl
theorem ALN:AO Tryz.prog 117 (AF 0 1 Tp To Tn Q1):=AH Ru Tryz.func117 (by kernel_rfl) (by kernel_rfl) rfl (fun v=>(ACI v).trans (AQ4 v)) (AA AcR trivial)
def Jw:Env:=WE.ext 117 true true (AF 0 1 Tp To Tn Q1)
theorem G8:AY Tryz.prog Jw:=Env.AZ Ru ALN (fun _=>AI rfl rfl) (fun _=>AG rfl rfl)
abbrev ACk:Hints:={ loop:=fun n=>match n with|0=>Ac 1 53 AZm AZk AZi|1=>Ac 1 53 AZl AZj AZh|_=>fun _ _ _=>none,fp:=fun n=>match n with|4=>[[],[],[],[],[],[],[],[0],[0],[],[],[],[0],[0],[],[],[]]|6=>[[],[],[],[],[],[],[],[],[0],[0],[],[],[0],[0],[0],[1],[0],[1]]|_=>[] }
theorem AWh:∀ v,AZh v=roundOf Tryz.prog Jw ACk 2 1 53 (AB Tryz.f165 1) AZl AZj v:=by
 rintro⟨a0,a1,a2,a3,a4,⟨⟩⟩
 kernel_rfl
theorem Ak3:AD (AB Tryz.f165 1) 2=[]:=by kernel_rfl
theorem Ak5:Ab Tryz.prog 1 (.loop (AB Tryz.f165 1)) (ACk.loop 1):=AU G8 (AWh) (AA Ak3 trivial)
theorem AWi:∀ v,AZi v=roundOf Tryz.prog Jw ACk 1 1 53 (AB Tryz.f165 0) AZm AZk v:=by
 rintro⟨a0,a1,a2,a3,⟨⟩⟩
 kernel_rfl
theorem Ak4:AD (AB Tryz.f165 0) 1=[(1,AB Tryz.f165 1)]:=by kernel_rfl
theorem Ak6:Ab Tryz.prog 1 (.loop (AB Tryz.f165 0)) (ACk.loop 0):=AU G8 (AWi) (AA Ak4 ⟨Ak5,trivial⟩)
theorem Ahv:∀ v,Ahw v=AK 1 Tryz.prog Jw ACk Tryz.f165 AWl AWk AWj v:=by
 rintro⟨a0,a1,a2,⟨⟩⟩
 kernel_rfl
theorem Amz:AD (AQ Tryz.f165) 0=[(0,AB Tryz.f165 0)]:=by kernel_rfl
theorem Ac3:AO Tryz.prog 165 (AF 1 4 AWl AWk AWj Am0):=AH G8 Tryz.func165 (by kernel_rfl) (by kernel_rfl) rfl (fun v=>(Ak7 v).trans (Ahv v)) (AA Amz ⟨Ak6,trivial⟩)
def ANu:Env:=Jw.CD 165 3 135 (AF 1 4 AWl AWk AWj Am0)
theorem WX:AY Tryz.prog ANu:=Env.Aw G8 Ac3 (AG rfl rfl)
abbrev AKG:Hints:={ loop:=fun n=>match n with|0=>Ac 1 82 AOx AOw AOv|_=>fun _ _ _=>none,fp:=fun n=>match n with|6=>[[],[],[],[],[],[],[],[],[],[],[],[],[0],[0],[],[],[],[],[0],[0],[0],[1],[0],[1]]|5=>[[],[],[],[],[],[0],[0],[],[],[],[],[0],[0],[],[],[]]|3=>[[],[],[],[],[],[],[],[],[],[],[0],[0],[],[],[],[],[],[0],[0],[],[],[]]|_=>[] }
theorem AOu:∀ v,AOv v=roundOf Tryz.prog ANu AKG 1 1 82 (AB Tryz.f186 0) AOx AOw v:=by
 rintro⟨a0,a1,a2,a3,⟨⟩⟩
 kernel_rfl
theorem Afn:AD (AB Tryz.f186 0) 1=[]:=by kernel_rfl
theorem Afo:Ab Tryz.prog 1 (.loop (AB Tryz.f186 0)) (AKG.loop 0):=AU WX (AOu) (AA Afn trivial)
theorem AbK:∀ v,AY8 v=AK 1 Tryz.prog ANu AKG Tryz.f186 AKF AKE AKD v:=by
 rintro⟨a0,a1,a2,a3,⟨⟩⟩
 kernel_rfl
theorem AkG:AD (AQ Tryz.f186) 0=[(0,AB Tryz.f186 0)]:=by kernel_rfl
theorem AUW:AO Tryz.prog 186 (AF 1 5 AKF AKE AKD Afq):=AH WX Tryz.func186 (by kernel_rfl) (by kernel_rfl) rfl (fun v=>(Afp v).trans (AbK v)) (AA AkG ⟨Afo,trivial⟩)
def R6:Env:=ANu.CD 186 4 135 (AF 1 5 AKF AKE AKD Afq)
theorem LI:AY Tryz.prog R6:=Env.Aw WX AUW (AG rfl rfl)
abbrev RJ:Hints:={ loop:=fun n=>match n with|0=>Ac 1 60 ARX ARV ART|1=>Ac 1 60 ARW ARU ARR|_=>fun _ _ _=>none,fp:=fun n=>match n with|10=>[[],[],[],[],[],[],[],[],[],[],[0],[0],[],[],[0],[0],[0],[1],[0],[1]]|_=>[] }
theorem ARQ:∀ v,ARR v=roundOf Tryz.prog R6 RJ 2 1 60 (AB Tryz.f166 1) ARW ARU v:=by
 rintro⟨a0,a1,a2,a3,⟨⟩⟩
 kernel_rfl
theorem Ah7:AD (AB Tryz.f166 1) 2=[]:=by kernel_rfl
theorem Ah9:Ab Tryz.prog 1 (.loop (AB Tryz.f166 1)) (RJ.loop 1):=AU LI (ARQ) (AA Ah7 trivial)
theorem ARS:∀ v,ART v=roundOf Tryz.prog R6 RJ 1 1 60 (AB Tryz.f166 0) ARX ARV v:=by
 rintro⟨a0,a1,a2,a3,a4,⟨⟩⟩
 kernel_rfl
theorem Ah8:AD (AB Tryz.f166 0) 1=[]:=by kernel_rfl
theorem AiA:Ab Tryz.prog 1 (.loop (AB Tryz.f166 0)) (RJ.loop 0):=AU LI (ARS) (AA Ah8 trivial)
theorem AdC:∀ v,AZw v=AK 1 Tryz.prog R6 RJ Tryz.f166 ALx ALw ALv v:=by
 rintro⟨a0,a1,a2,⟨⟩⟩
 kernel_rfl
theorem AlG:AD (AQ Tryz.f166) 0=[(0,AB Tryz.f166 0),(1,AB Tryz.f166 1)]:=by kernel_rfl
theorem AWt:AO Tryz.prog 166 (AF 1 4 ALx ALw ALv AiC):=AH LI Tryz.func166 (by kernel_rfl) (by kernel_rfl) rfl (fun v=>(AiB v).trans (AdC v)) (AA AlG ⟨AiA,Ah9,trivial⟩)
def ZE:Env:=R6.CD 166 3 135 (AF 1 4 ALx ALw ALv AiC)
theorem QE:AY Tryz.prog ZE:=Env.Aw LI AWt (AG rfl rfl)
end
end Go.Pev
end
section
namespace Go.Pev
open Go.Proofs
noncomputable section
abbrev AEZ:Hints:={ loop:=fun n=>match n with|0=>Ac 1 67 AIn AIm AIl|_=>fun _ _ _=>none,fp:=fun n=>match n with|10=>[[],[],[],[],[],[],[],[],[],[],[0],[0],[],[],[0],[0],[0],[1],[0],[1]]|_=>[] }
theorem ANI:∀ v,AIl v=roundOf Tryz.prog ZE AEZ 1 1 67 (AB Tryz.f167 0) AIn AIm v:=by
 rintro⟨a0,a1,a2,a3,a4,a5,⟨⟩⟩
 kernel_rfl
theorem Aea:AD (AB Tryz.f167 0) 1=[]:=by kernel_rfl
theorem Aeb:Ab Tryz.prog 1 (.loop (AB Tryz.f167 0)) (AEZ.loop 0):=AU QE (ANI) (AA Aea trivial)
theorem AYP:∀ v,AS1 v=AK 1 Tryz.prog ZE AEZ Tryz.f167 AEY AEX AEW v:=by
 rintro⟨a0,a1,a2,⟨⟩⟩
 kernel_rfl
theorem AjO:AD (AQ Tryz.f167) 0=[(0,AB Tryz.f167 0)]:=by kernel_rfl
theorem AS0:AO Tryz.prog 167 (AF 1 4 AEY AEX AEW AYQ):=AH QE Tryz.func167 (by kernel_rfl) (by kernel_rfl) rfl (fun v=>(Aec v).trans (AYP v)) (AA AjO ⟨Aeb,trivial⟩)
def AFW:Env:=ZE.CD 167 3 135 (AF 1 4 AEY AEX AEW AYQ)
theorem X8:AY Tryz.prog AFW:=Env.Aw QE AS0 (AG rfl rfl)
abbrev AcI:Hints:={ fp:=fun n=>match n with|1=>[[],[],[],[0],[0],[],[],[0],[0],[],[]]|_=>[] }
theorem AQ0:∀ v,AHj v=AK 2 Tryz.prog AFW AcI Tryz.f195 Th Tg Tf v:=by
 rintro⟨a0,a1,a2,a3,⟨⟩⟩
 kernel_rfl
theorem AcH:AD (AQ Tryz.f195) 0=[]:=by kernel_rfl
theorem ALC:AO Tryz.prog 195 (AF 2 5 Th Tg Tf ALD):=AH X8 Tryz.func195 (by kernel_rfl) (by kernel_rfl) rfl (fun v=>(AVw v).trans (AQ0 v)) (AA AcH trivial)
def WQ:Env:=AFW.CD 195 4 135 (AF 2 5 Th Tg Tf ALD)
theorem SH:AY Tryz.prog WQ:=Env.Aw X8 ALC (AG rfl rfl)
abbrev Acb:Hints:={  }
theorem AQ8:∀ v,AHo v=AK 2 Tryz.prog WQ Acb Tryz.f188 Tt Ts Tq v:=by
 rintro⟨a0,a1,a2,a3,a4,⟨⟩⟩
 kernel_rfl
theorem Aca:AD (AQ Tryz.f188) 0=[]:=by kernel_rfl
theorem ALS:AO Tryz.prog 188 (AF 2 6 Tt Ts Tq ALT):=AH SH Tryz.func188 (by kernel_rfl) (by kernel_rfl) rfl (fun v=>(AWI v).trans (AQ8 v)) (AA Aca trivial)
def WT:Env:=WQ.CD 188 5 135 (AF 2 6 Tt Ts Tq ALT)
theorem SK:AY Tryz.prog WT:=Env.Aw SH ALS (AG rfl rfl)
abbrev Acg:Hints:={  }
theorem ARA:∀ v,AHq v=AK 2 Tryz.prog WT Acg Tryz.f187 T1 Tz Tx v:=by
 rintro⟨a0,a1,a2,⟨⟩⟩
 kernel_rfl
theorem Acf:AD (AQ Tryz.f187) 0=[]:=by kernel_rfl
theorem ALW:AO Tryz.prog 187 (AF 2 4 T1 Tz Tx ALX):=AH SK Tryz.func187 (by kernel_rfl) (by kernel_rfl) rfl (fun v=>(AWL v).trans (ARA v)) (AA Acf trivial)
def WV:Env:=WT.CD 187 3 135 (AF 2 4 T1 Tz Tx ALX)
theorem SN:AY Tryz.prog WV:=Env.Aw SK ALW (AG rfl rfl)
abbrev Agn:Hints:={  }
theorem AVN:∀ v,APk v=AK 1 Tryz.prog WV Agn Tryz.f168 ABP ABO ABN v:=by
 rintro⟨a0,a1,a2,⟨⟩⟩
 kernel_rfl
theorem Agm:AD (AQ Tryz.f168) 0=[]:=by kernel_rfl
theorem APj:AO Tryz.prog 168 (AF 1 4 ABP ABO ABN AVO):=AH SN Tryz.func168 (by kernel_rfl) (by kernel_rfl) rfl (fun v=>(Ab0 v).trans (AVN v)) (AA Agm trivial)
def SD:Env:=WV.CD 168 3 135 (AF 1 4 ABP ABO ABN AVO)
theorem Mz:AY Tryz.prog SD:=Env.Aw SN APj (AG rfl rfl)
abbrev AUu:Hints:={ loop:=fun n=>match n with|0=>Ac 1 34 AZD AZC AZB|_=>fun _ _ _=>none,fp:=fun n=>match n with|3=>[[],[],[],[],[],[],[0],[0],[],[],[0],[0],[0],[1],[0],[1]]|_=>[] }
theorem AUq:∀ v,AZB v=roundOf Tryz.prog SD AUu 1 1 34 (AB Tryz.f169 0) AZD AZC v:=by
 rintro⟨a0,a1,a2,⟨⟩⟩
 kernel_rfl
theorem AkO:AD (AB Tryz.f169 0) 1=[]:=by kernel_rfl
theorem AkP:Ab Tryz.prog 1 (.loop (AB Tryz.f169 0)) (AUu.loop 0):=AU Mz (AUq) (AA AkO trivial)
theorem AgF:∀ v,AgG v=AK 1 Tryz.prog SD AUu Tryz.f169 AUt AUs AUr v:=by
 rintro⟨a0,a1,a2,⟨⟩⟩
 kernel_rfl
theorem AmY:AD (AQ Tryz.f169) 0=[(0,AB Tryz.f169 0)]:=by kernel_rfl
theorem Abl:AO Tryz.prog 169 (AF 1 4 AUt AUs AUr AmZ):=AH Mz Tryz.func169 (by kernel_rfl) (by kernel_rfl) rfl (fun v=>(AkQ v).trans (AgF v)) (AA AmY ⟨AkP,trivial⟩)
def QC:Env:=SD.CD 169 3 135 (AF 1 4 AUt AUs AUr AmZ)
theorem HG:AY Tryz.prog QC:=Env.Aw Mz Abl (AG rfl rfl)
abbrev Cs:Hints:={ loop:=fun n=>match n with|0=>Ac 1 141 XA W5 W1|1=>Ac 1 141 W8 W4 W0|2=>Ac 1 141 W7 W3 Wz|3=>Ac 1 141 W6 W2 Wy|_=>fun _ _ _=>none,fp:=fun n=>match n with|11=>[[],[],[],[],[],[],[],[],[0],[0],[],[],[0],[0],[0],[1],[0],[1]]|5=>[[],[],[],[],[],[],[],[0],[0],[],[],[],[0],[0],[],[],[],[]]|17=>[[],[],[],[],[],[],[],[],[0],[0],[],[],[0],[0],[0],[1],[0],[1]]|16=>[[],[],[],[0],[0],[],[],[],[0],[0],[],[],[]]|23=>[[],[],[],[],[],[],[],[],[0],[0],[],[],[0],[0],[0],[1],[0],[1]]|22=>[[],[],[],[0],[0],[],[],[],[0],[0],[],[],[]]|_=>[] }
theorem ABd:∀ v,Wy v=roundOf Tryz.prog QC Cs 4 1 141 (AB Tryz.f170 3) W6 W2 v:=by
 rintro⟨a0,a1,a2,a3,a4,a5,⟨⟩⟩
 kernel_rfl
theorem AQG:AD (AB Tryz.f170 3) 4=[]:=by kernel_rfl
theorem AQK:Ab Tryz.prog 1 (.loop (AB Tryz.f170 3)) (Cs.loop 3):=AU HG (ABd) (AA AQG trivial)
theorem ABe:∀ v,Wz v=roundOf Tryz.prog QC Cs 3 1 141 (AB Tryz.f170 2) W7 W3 v:=by
 rintro⟨a0,a1,a2,a3,a4,a5,⟨⟩⟩
 kernel_rfl
theorem AQH:AD (AB Tryz.f170 2) 3=[]:=by kernel_rfl
theorem AQL:Ab Tryz.prog 1 (.loop (AB Tryz.f170 2)) (Cs.loop 2):=AU HG (ABe) (AA AQH trivial)
theorem ABf:∀ v,W0 v=roundOf Tryz.prog QC Cs 2 1 141 (AB Tryz.f170 1) W8 W4 v:=by
 rintro⟨a0,a1,a2,a3,a4,⟨⟩⟩
 kernel_rfl
theorem AQI:AD (AB Tryz.f170 1) 2=[]:=by kernel_rfl
theorem AQM:Ab Tryz.prog 1 (.loop (AB Tryz.f170 1)) (Cs.loop 1):=AU HG (ABf) (AA AQI trivial)
theorem ABg:∀ v,W1 v=roundOf Tryz.prog QC Cs 1 1 141 (AB Tryz.f170 0) XA W5 v:=by
 rintro⟨a0,a1,a2,a3,a4,⟨⟩⟩
 kernel_rfl
theorem AQJ:AD (AB Tryz.f170 0) 1=[(1,AB Tryz.f170 1),(2,AB Tryz.f170 2),(3,AB Tryz.f170 3)]:=by kernel_rfl
theorem AQN:Ab Tryz.prog 1 (.loop (AB Tryz.f170 0)) (Cs.loop 0):=AU HG (ABg) (AA AQJ ⟨AQM,AQL,AQK,trivial⟩)
theorem AK1:∀ v,ABh v=AK 1 Tryz.prog QC Cs Tryz.f170 PJ PI PH v:=by
 rintro⟨a0,a1,a2,⟨⟩⟩
 kernel_rfl
theorem AVd:AD (AQ Tryz.f170) 0=[(0,AB Tryz.f170 0)]:=by kernel_rfl
theorem AFs:AO Tryz.prog 170 (AF 1 4 PJ PI PH ABi):=AH HG Tryz.func170 (by kernel_rfl) (by kernel_rfl) rfl (fun v=>(AQO v).trans (AK1 v)) (AA AVd ⟨AQN,trivial⟩)
def F8:Env:=QC.CD 170 3 135 (AF 1 4 PJ PI PH ABi)
theorem Dy:AY Tryz.prog F8:=Env.Aw HG AFs (AG rfl rfl)
abbrev FT:Hints:={ loop:=fun n=>match n with|0=>Ac 1 90 ABy ABv ABs|1=>Ac 1 90 ABx ABu ABr|2=>Ac 1 90 ABw ABt ABq|_=>fun _ _ _=>none,fp:=fun n=>match n with|8=>[[],[],[],[],[],[],[0],[0],[],[],[0],[0],[0],[1],[0],[1]]|3=>[[],[],[],[],[],[],[],[0],[0],[],[],[0],[0],[],[],[],[]]|5=>[[],[],[],[],[],[],[],[0],[0],[],[],[0],[0],[],[],[]]|1=>[[],[],[],[],[],[],[0],[0],[],[],[0],[0],[0],[1],[0],[1]]|_=>[] }
theorem AFx:∀ v,ABq v=roundOf Tryz.prog F8 FT 3 1 90 (AB Tryz.f171 2) ABw ABt v:=by
 rintro⟨a0,a1,a2,a3,⟨⟩⟩
 kernel_rfl
theorem AVg:AD (AB Tryz.f171 2) 3=[]:=by kernel_rfl
theorem AVj:Ab Tryz.prog 1 (.loop (AB Tryz.f171 2)) (FT.loop 2):=AU Dy (AFx) (AA AVg trivial)
theorem AFy:∀ v,ABr v=roundOf Tryz.prog F8 FT 2 1 90 (AB Tryz.f171 1) ABx ABu v:=by
 rintro⟨a0,a1,a2,a3,⟨⟩⟩
 kernel_rfl
theorem AVh:AD (AB Tryz.f171 1) 2=[]:=by kernel_rfl
theorem AVk:Ab Tryz.prog 1 (.loop (AB Tryz.f171 1)) (FT.loop 1):=AU Dy (AFy) (AA AVh trivial)
theorem AFz:∀ v,ABs v=roundOf Tryz.prog F8 FT 1 1 90 (AB Tryz.f171 0) ABy ABv v:=by
 rintro⟨a0,a1,a2,a3,⟨⟩⟩
 kernel_rfl
theorem AVi:AD (AB Tryz.f171 0) 1=[(1,AB Tryz.f171 1),(2,AB Tryz.f171 2)]:=by kernel_rfl
theorem AVl:Ab Tryz.prog 1 (.loop (AB Tryz.f171 0)) (FT.loop 0):=AU Dy (AFz) (AA AVi ⟨AVk,AVj,trivial⟩)
theorem AQd:∀ v,AHf v=AK 1 Tryz.prog F8 FT Tryz.f171 Tb Ta TZ v:=by
 rintro⟨a0,a1,a2,a3,⟨⟩⟩
 kernel_rfl
theorem AcD:AD (AQ Tryz.f171) 0=[(0,AB Tryz.f171 0)]:=by kernel_rfl
theorem AK4:AO Tryz.prog 171 (AF 1 5 Tb Ta TZ AK5):=AH Dy Tryz.func171 (by kernel_rfl) (by kernel_rfl) rfl (fun v=>(AVm v).trans (AQd v)) (AA AcD ⟨AVl,trivial⟩)
def Ec:Env:=F8.CD 171 4 135 (AF 1 5 Tb Ta TZ AK5)
theorem Cx:AY Tryz.prog Ec:=Env.Aw Dy AK4 (AG rfl rfl)
abbrev El:Hints:={ loop:=fun n=>match n with|0=>Ac 1 178 AQF AQA AP5|1=>Ac 1 178 AQE AP9 AP3|2=>Ac 1 178 AQD AP8 AP1|3=>Ac 1 178 AQC AP7 APz|4=>Ac 1 178 AQB AP6 APx|_=>fun _ _ _=>none,fp:=fun n=>match n with|3=>[[],[],[],[],[],[],[],[0],[0],[],[],[0],[0],[],[],[]]|5=>[[],[],[],[],[],[],[],[0],[0],[],[],[0],[0],[],[],[],[]]|18=>[[],[],[],[],[],[],[0],[0],[],[],[0],[0],[0],[1],[0],[1]]|13=>[[],[],[],[],[],[],[],[0],[0],[],[],[0],[0],[],[],[]]|15=>[[],[],[],[],[],[],[],[0],[0],[],[],[0],[0],[],[],[],[]]|21=>[[],[],[],[],[],[],[0],[0],[],[],[0],[0],[0],[1],[0],[1]]|10=>[[],[],[],[],[],[],[0],[0],[],[],[0],[0],[0],[1],[0],[1]]|8=>[[],[],[],[],[],[],[0],[0],[],[],[0],[0],[0],[1],[0],[1]]|1=>[[],[],[],[],[],[],[0],[0],[],[],[0],[0],[0],[1],[0],[1]]|_=>[] }
theorem APw:∀ v,APx v=roundOf Tryz.prog Ec El 5 1 178 (AB Tryz.f172 4) AQB AP6 v:=by
 rintro⟨a0,a1,a2,a3,⟨⟩⟩
 kernel_rfl
theorem Agw:AD (AB Tryz.f172 4) 5=[]:=by kernel_rfl
theorem Ag1:Ab Tryz.prog 1 (.loop (AB Tryz.f172 4)) (El.loop 4):=AU Cx (APw) (AA Agw trivial)
theorem APy:∀ v,APz v=roundOf Tryz.prog Ec El 4 1 178 (AB Tryz.f172 3) AQC AP7 v:=by
 rintro⟨a0,a1,a2,a3,⟨⟩⟩
 kernel_rfl
theorem Agx:AD (AB Tryz.f172 3) 4=[]:=by kernel_rfl
theorem Ag2:Ab Tryz.prog 1 (.loop (AB Tryz.f172 3)) (El.loop 3):=AU Cx (APy) (AA Agx trivial)
theorem AP0:∀ v,AP1 v=roundOf Tryz.prog Ec El 3 1 178 (AB Tryz.f172 2) AQD AP8 v:=by
 rintro⟨a0,a1,a2,a3,⟨⟩⟩
 kernel_rfl
theorem Agy:AD (AB Tryz.f172 2) 3=[(3,AB Tryz.f172 3),(4,AB Tryz.f172 4)]:=by kernel_rfl
theorem Ag3:Ab Tryz.prog 1 (.loop (AB Tryz.f172 2)) (El.loop 2):=AU Cx (AP0) (AA Agy ⟨Ag2,Ag1,trivial⟩)
theorem AP2:∀ v,AP3 v=roundOf Tryz.prog Ec El 2 1 178 (AB Tryz.f172 1) AQE AP9 v:=by
 rintro⟨a0,a1,a2,a3,⟨⟩⟩
 kernel_rfl
theorem Agz:AD (AB Tryz.f172 1) 2=[]:=by kernel_rfl
theorem Ag4:Ab Tryz.prog 1 (.loop (AB Tryz.f172 1)) (El.loop 1):=AU Cx (AP2) (AA Agz trivial)
theorem AP4:∀ v,AP5 v=roundOf Tryz.prog Ec El 1 1 178 (AB Tryz.f172 0) AQF AQA v:=by
 rintro⟨a0,a1,a2,a3,⟨⟩⟩
 kernel_rfl
theorem Ag0:AD (AB Tryz.f172 0) 1=[]:=by kernel_rfl
theorem Ag5:Ab Tryz.prog 1 (.loop (AB Tryz.f172 0)) (El.loop 0):=AU Cx (AP4) (AA Ag0 trivial)
theorem AcB:∀ v,AZS v=AK 1 Tryz.prog Ec El Tryz.f172 AK0 AKz AKy v:=by
 rintro⟨a0,a1,a2,a3,⟨⟩⟩
 kernel_rfl
theorem Akk:AD (AQ Tryz.f172) 0=[(0,AB Tryz.f172 0),(1,AB Tryz.f172 1),(2,AB Tryz.f172 2)]:=by kernel_rfl
theorem AVc:AO Tryz.prog 172 (AF 1 5 AK0 AKz AKy Ag7):=AH Cx Tryz.func172 (by kernel_rfl) (by kernel_rfl) rfl (fun v=>(Ag6 v).trans (AcB v)) (AA Akk ⟨Ag5,Ag4,Ag3,trivial⟩)
def ANr:Env:=Ec.CD 172 4 135 (AF 1 5 AK0 AKz AKy Ag7)
theorem AFG:AY Tryz.prog ANr:=Env.Aw Cx AVc (AG rfl rfl)
abbrev AVX(self:(List (List Int)×Int×Int×Int×Unit)→Option ((List (List Int)×Unit))):Hints:={ loop:=fun n=>match n with|0=>Ac 1 148 AZO AZN (AZM self)|_=>fun _ _ _=>none,fp:=fun n=>match n with|17=>[[],[],[],[],[],[],[],[0],[0],[],[],[0],[0],[],[],[],[]]|_=>[] }
abbrev AKu(self:(List (List Int)×Int×Int×Int×Unit)→Option ((List (List Int)×Unit))):Env:=ANr.ext 148 false true (AF 1 5 ABW ABV ABU self)
theorem AVW(self:(List (List Int)×Int×Int×Int×Unit)→Option ((List (List Int)×Unit))):∀ v,AZM self v=roundOf Tryz.prog (AKu self) (AVX self) 1 1 148 (AB Tryz.f148 0) AZO AZN v:=by
 rintro⟨a0,a1,a2,a3,a4,a5,⟨⟩⟩
 kernel_rfl
theorem Akb:AD (AB Tryz.f148 0) 1=[]:=by kernel_rfl
theorem Akc(self:(List (List Int)×Int×Int×Int×Unit)→Option ((List (List Int)×Unit)))(hE:AY Tryz.prog (AKu self)):Ab Tryz.prog 1 (.loop (AB Tryz.f148 0)) ((AVX self).loop 0):=AU hE (AVW self) (AA Akb trivial)
theorem Agt(self:(List (List Int)×Int×Int×Int×Unit)→Option ((List (List Int)×Unit))):∀ v,Amm self v=AK 1 Tryz.prog (AKu self) (AVX self) Tryz.f148 ABW ABV ABU v:=by
 rintro⟨a0,a1,a2,a3,⟨⟩⟩
 kernel_rfl
theorem Aml:AD (AQ Tryz.f148) 0=[(0,AB Tryz.f148 0)]:=by kernel_rfl
theorem AVY:∀ n,AO Tryz.prog 148 (AF 1 5 ABW ABV ABU (ABX n)):=by
 intro n
 induction n with
 |zero=>exact XO fun _=>rfl
 |succ n ih=>
  have hE:AY Tryz.prog (AKu (ABX n)):=Env.AZ AFG ih ((by simp)) (fun _=>AG rfl rfl)
  let self:=ABX n
  exact AH hE Tryz.func148 (by kernel_rfl) (by kernel_rfl) rfl (Agt self) (AA Aml ⟨(Akc self hE),trivial⟩)
theorem Ab9:AO Tryz.prog 148 (AF 1 5 ABW ABV ABU Ake):=by
 have e:Ake=ABX 100:=funext Akd
 rw[e]
 exact AVY _
def AYi:Env:=ANr.CD 148 4 135 (AF 1 5 ABW ABV ABU Ake)
theorem AI4:AY Tryz.prog AYi:=Env.Aw AFG Ab9 (AG rfl rfl)
abbrev AkC:Hints:={  }
theorem AbH:∀ v,AY4 v=AK 1 Tryz.prog AYi AkC Tryz.f134 AJ7 AJ6 AJ5 v:=by
 rintro⟨a0,⟨⟩⟩
 kernel_rfl
theorem AkB:AD (AQ Tryz.f134) 0=[]:=by kernel_rfl
theorem AUT:AO Tryz.prog 134 (AF 1 2 AJ7 AJ6 AJ5 AOq):=AH AI4 Tryz.func134 (by kernel_rfl) (by kernel_rfl) rfl (fun v=>(Afj v).trans (AbH v)) (AA AkB trivial)
def R4:Env:=AYi.CD 134 1 135 (AF 1 2 AJ7 AJ6 AJ5 AOq)
theorem LG:AY Tryz.prog R4:=Env.Aw AI4 AUT (AG rfl rfl)
abbrev QO:Hints:={ loop:=fun n=>match n with|0=>Ac 0 47 AOK AOI HK|1=>Ac 0 47 AOJ AOH HJ|_=>fun _ _ _=>none }
theorem AOF:∀ v,HJ v=roundOf Tryz.prog R4 QO 2 0 47 (AB Tryz.f109 1) AOJ AOH v:=by
 rintro⟨a0,a1,a2,a3,a4,a5,a6,⟨⟩⟩
 kernel_rfl
theorem Ae3:AD (AB Tryz.f109 1) 2=[]:=by kernel_rfl
theorem Ae5:Ab Tryz.prog 0 (.loop (AB Tryz.f109 1)) (QO.loop 1):=AU LG (AOF) (AA Ae3 trivial)
theorem AOG:∀ v,HK v=roundOf Tryz.prog R4 QO 1 0 47 (AB Tryz.f109 0) AOK AOI v:=by
 rintro⟨a0,a1,a2,a3,a4,a5,a6,a7,a8,⟨⟩⟩
 kernel_rfl
theorem Ae4:AD (AB Tryz.f109 0) 1=[]:=by kernel_rfl
theorem Ae6:Ab Tryz.prog 0 (.loop (AB Tryz.f109 0)) (QO.loop 0):=AU LG (AOG) (AA Ae4 trivial)
theorem Aaj:∀ v,Yg v=AK 0 Tryz.prog R4 QO Tryz.f109 AJW AJV AJU v:=by
 rintro⟨a0,a1,a2,⟨⟩⟩
 kernel_rfl
theorem Ajs:AD (AQ Tryz.f109) 0=[(0,AB Tryz.f109 0),(1,AB Tryz.f109 1)]:=by kernel_rfl
theorem ATm:AO Tryz.prog 109 (AF 0 3 AJW AJV AJU AOM):=AH LG Tryz.func109 (by kernel_rfl) (by kernel_rfl) rfl (fun v=>(AOL v).trans (Aaj v)) (AA Ajs ⟨Ae6,Ae5,trivial⟩)
def ANl:Env:=R4.ext 109 true true (AF 0 3 AJW AJV AJU AOM)
theorem AE1:AY Tryz.prog ANl:=Env.AZ LG ATm (fun _=>AI rfl rfl) (fun _=>AG rfl rfl)
end
end Go.Pev
end
section
namespace Go.Pev
open Go.Proofs
noncomputable section
abbrev Aj2:Hints:={ fp:=fun n=>match n with|9=>[[],[28],[0],[0],[],[],[],[],[],[0],[0],[],[],[],[],[],[28],[28,52,36,62],[64],[]]|4=>[[0],[],[],[0],[],[],[],[]]|_=>[] }
theorem Aay:∀ v,QU v=AK 0 Tryz.prog ANl Aj2 Tryz.f87 AJl AJk AJj v:=by
 rintro⟨a0,a1,a2,⟨⟩⟩
 kernel_rfl
theorem Aj1:AD (AQ Tryz.f87) 0=[]:=by kernel_rfl
theorem ATy:AO Tryz.prog 87 (AF 0 3 AJl AJk AJj Zs):=AH AE1 Tryz.func87 (by kernel_rfl) (by kernel_rfl) rfl (fun v=>(Zr v).trans (Aay v)) (AA Aj1 trivial)
def ANm:Env:=ANl.ext 87 true true (AF 0 3 AJl AJk AJj Zs)
theorem AE5:AY Tryz.prog ANm:=Env.AZ AE1 ATy (fun _=>AI rfl rfl) (fun _=>AG rfl rfl)
theorem Afa:Tryz.f125.body.isSome=true:=by kernel_rfl
theorem AfZ : (Tryz.f125.name == "runtime.NumGoroutine") = false := by kernel_rfl
theorem AfY:loops (AQ Tryz.f125)=0:=by kernel_rfl
def LD:Env:=ANm.ext 125 false false (Ck Tryz.prog ANm {} Tryz.f125)
theorem JB:AY Tryz.prog LD:=Env.AZ AE5 (CW AE5 Tryz.func125 Afa AfZ AfY) (by simp) (by simp)
abbrev Fk:Hints:={ loop:=fun n=>match n with|0=>Ac 1 19 IN IM Bf|_=>fun _ _ _=>none }
theorem MS:∀ v,Bf v=roundOf Tryz.prog LD Fk 1 1 19 (AB Tryz.f56 0) IN IM v:=by
 rintro⟨a0,a1,a2,a3,a4,⟨⟩⟩
 kernel_rfl
theorem RD:AD (AB Tryz.f56 0) 1=[]:=by kernel_rfl
theorem RE:Ab Tryz.prog 1 (.loop (AB Tryz.f56 0)) (Fk.loop 0):=AU JB (MS) (AA RD trivial)
theorem Pb:∀ v,De v=AK 1 Tryz.prog LD Fk Tryz.f56 Fj Fi Fh v:=by
 rintro⟨a0,a1,a2,⟨⟩⟩
 kernel_rfl
theorem UG:AD (AQ Tryz.f56) 0=[(0,AB Tryz.f56 0)]:=by kernel_rfl
theorem N5:AO Tryz.prog 56 (AF 1 2 Fj Fi Fh Er):=AH JB Tryz.func56 (by kernel_rfl) (by kernel_rfl) rfl (fun v=>(IP v).trans (Pb v)) (AA UG ⟨RE,trivial⟩)
def GB:Env:=LD.CD 56 1 125 (AF 1 2 Fj Fi Fh Er)
theorem Gx:AY Tryz.prog GB:=Env.Aw JB N5 (AG rfl rfl)
abbrev Rh:Hints:={  }
theorem N7:∀ v,DA v=AK 1 Tryz.prog GB Rh Tryz.f29 Ez Ey Ex v:=by
 rintro⟨a0,a1,a2,⟨⟩⟩
 kernel_rfl
theorem Rg:AD (AQ Tryz.f29) 0=[]:=by kernel_rfl
theorem Me:AO Tryz.prog 29 (AF 1 2 Ez Ey Ex Cz):=AH Gx Tryz.func29 (by kernel_rfl) (by kernel_rfl) rfl (fun v=>(Hn v).trans (N7 v)) (AA Rg trivial)
def E6:Env:=GB.CD 29 1 125 (AF 1 2 Ez Ey Ex Cz)
theorem Gi:AY Tryz.prog E6:=Env.Aw Gx Me (AG rfl rfl)
abbrev AiT:Hints:={  }
theorem AXC:∀ v,RN v=AK 0 Tryz.prog E6 AiT Tryz.f102 AC3 AC2 AC1 v:=by
 rintro⟨a0,a1,⟨⟩⟩
 kernel_rfl
theorem AiS:AD (AQ Tryz.f102) 0=[]:=by kernel_rfl
theorem ARp:AO Tryz.prog 102 (AF 0 2 AC3 AC2 AC1 UQ):=AH Gi Tryz.func102 (by kernel_rfl) (by kernel_rfl) rfl (fun v=>(AIA v).trans (AXC v)) (AA AiS trivial)
def SW:Env:=E6.ext 102 true true (AF 0 2 AC3 AC2 AC1 UQ)
theorem M6:AY Tryz.prog SW:=Env.AZ Gi ARp (fun _=>AI rfl rfl) (fun _=>AG rfl rfl)
abbrev AXT:Hints:={ loop:=fun n=>match n with|0=>Ac 0 21 AaB AaA Kt|_=>fun _ _ _=>none }
theorem AXP:∀ v,Kt v=roundOf Tryz.prog SW AXT 1 0 21 (AB Tryz.f103 0) AaB AaA v:=by
 rintro⟨a0,a1,a2,a3,⟨⟩⟩
 kernel_rfl
theorem AlZ:AD (AB Tryz.f103 0) 1=[]:=by kernel_rfl
theorem Ala:Ab Tryz.prog 0 (.loop (AB Tryz.f103 0)) (AXT.loop 0):=AU M6 (AXP) (AA AlZ trivial)
theorem Aim:∀ v,AMQ v=AK 0 Tryz.prog SW AXT Tryz.f103 AXS AXR AXQ v:=by
 rintro⟨a0,⟨⟩⟩
 kernel_rfl
theorem Am9:AD (AQ Tryz.f103) 0=[(0,AB Tryz.f103 0)]:=by kernel_rfl
theorem Ado:AO Tryz.prog 103 (AF 0 1 AXS AXR AXQ ends):=AH M6 Tryz.func103 (by kernel_rfl) (by kernel_rfl) rfl (fun v=>(AaC v).trans (Aim v)) (AA Am9 ⟨Ala,trivial⟩)
def ANw:Env:=SW.ext 103 true true (AF 0 1 AXS AXR AXQ ends)
theorem Wb:AY Tryz.prog ANw:=Env.AZ M6 Ado (fun _=>AI rfl rfl) (fun _=>AG rfl rfl)
abbrev Pp:Hints:={ loop:=fun n=>match n with|0=>Ac 0 48 Xb Xa DP|_=>fun _ _ _=>none,fp:=fun n=>match n with|1=>[[0],[],[],[4],[]]|_=>[] }
theorem ADV:∀ v,DP v=roundOf Tryz.prog ANw Pp 1 0 48 (AB Tryz.f86 0) Xb Xa v:=by
 rintro⟨a0,a1,a2,a3,a4,a5,a6,⟨⟩⟩
 kernel_rfl
theorem AR8:AD (AB Tryz.f86 0) 1=[]:=by kernel_rfl
theorem AR9:Ab Tryz.prog 0 (.loop (AB Tryz.f86 0)) (Pp.loop 0):=AU Wb (ADV) (AA AR8 trivial)
theorem AMR:∀ v,Kv v=AK 0 Tryz.prog ANw Pp Tryz.f86 Po Pn Pm v:=by
 rintro⟨a0,a1,⟨⟩⟩
 kernel_rfl
theorem AXU:AD (AQ Tryz.f86) 0=[(0,AB Tryz.f86 0)]:=by kernel_rfl
theorem AGK:AO Tryz.prog 86 (AF 0 3 Po Pn Pm RW):=AH Wb Tryz.func86 (by kernel_rfl) (by kernel_rfl) rfl (fun v=>(Xc v).trans (AMR v)) (AA AXU ⟨AR9,trivial⟩)
def QG:Env:=ANw.CD 86 2 87 (AF 0 3 Po Pn Pm RW)
theorem Oh:AY Tryz.prog QG:=Env.Aw Wb AGK (AG rfl rfl)
abbrev Aif:Hints:={  }
theorem AXK:∀ v,RP v=AK 0 Tryz.prog QG Aif Tryz.f75 ADG ADF ADE v:=by
 rintro⟨a0,a1,⟨⟩⟩
 kernel_rfl
theorem Aie:AD (AQ Tryz.f75) 0=[]:=by kernel_rfl
theorem ARw:AO Tryz.prog 75 (AF 0 2 ADG ADF ADE AMF):=AH Oh Tryz.func75 (by kernel_rfl) (by kernel_rfl) rfl (fun v=>(AIH v).trans (AXK v)) (AA Aie trivial)
def AFN:Env:=QG.ext 75 true true (AF 0 2 ADG ADF ADE AMF)
theorem X3:AY Tryz.prog AFN:=Env.AZ Oh ARw (fun _=>AI rfl rfl) (fun _=>AG rfl rfl)
abbrev AnX:Hints:={  }
theorem AlW:∀ v,AZ8 v=AK 0 Tryz.prog AFN AnX Tryz.f49 Aic Aib Aia v:=by
 rintro⟨a0,a1,⟨⟩⟩
 kernel_rfl
theorem AnW:AD (AQ Tryz.f49) 0=[]:=by kernel_rfl
theorem AiZ:AO Tryz.prog 49 (AF 0 2 Aic Aib Aia fof):=AH X3 Tryz.func49 (by kernel_rfl) (by kernel_rfl) rfl (fun v=>(Aid v).trans (AlW v)) (AA AnW trivial)
def AaS:Env:=AFN.ext 49 true true (AF 0 2 Aic Aib Aia fof)
theorem AFM:AY Tryz.prog AaS:=Env.AZ X3 AiZ (fun _=>AI rfl rfl) (fun _=>AG rfl rfl)
abbrev AhW:Hints:={ loop:=fun n=>match n with|0=>Ac 0 18 AhU AhS FV|_=>fun _ _ _=>none }
theorem AcL:∀ v,FV v=roundOf Tryz.prog AaS AhW 1 0 18 (AB Tryz.f72 0) AhU AhS v:=by
 rintro⟨a0,a1,a2,a3,⟨⟩⟩
 kernel_rfl
theorem Amp:AD (AB Tryz.f72 0) 1=[]:=by kernel_rfl
theorem Amq:Ab Tryz.prog 0 (.loop (AB Tryz.f72 0)) (AhW.loop 0):=AU AFM (AcL) (AA Amp trivial)
theorem Ako:∀ v,AHm v=AK 0 Tryz.prog AaS AhW Tryz.f72 AhV AhT AhR v:=by
 rintro⟨a0,⟨⟩⟩
 kernel_rfl
theorem AnU:AD (AQ Tryz.f72) 0=[(0,AB Tryz.f72 0)]:=by kernel_rfl
theorem AhQ:AO Tryz.prog 72 (AF 0 1 AhV AhT AhR orI):=AH AFM Tryz.func72 (by kernel_rfl) (by kernel_rfl) rfl (fun v=>(ALG v).trans (Ako v)) (AA AnU ⟨Amq,trivial⟩)
def Ajj:Env:=AaS.ext 72 true true (AF 0 1 AhV AhT AhR orI)
theorem ATX:AY Tryz.prog Ajj:=Env.AZ AFM AhQ (fun _=>AI rfl rfl) (fun _=>AG rfl rfl)
abbrev Ahk:Hints:={  }
theorem AWV:∀ v,MO v=AK 0 Tryz.prog Ajj Ahk Tryz.f45 ACU ACT ACS v:=by
 rintro⟨a0,⟨⟩⟩
 kernel_rfl
theorem Ahj:AD (AQ Tryz.f45) 0=[]:=by kernel_rfl
theorem ARE:AO Tryz.prog 45 (AF 0 1 ACU ACT ACS T6):=AH ATX Tryz.func45 (by kernel_rfl) (by kernel_rfl) rfl (fun v=>(T5 v).trans (AWV v)) (AA Ahj trivial)
def AFI:Env:=Ajj.ext 45 true true (AF 0 1 ACU ACT ACS T6)
theorem X0:AY Tryz.prog AFI:=Env.AZ ATX ARE (fun _=>AI rfl rfl) (fun _=>AG rfl rfl)
abbrev Amy:Hints:={  }
theorem Ahi:∀ v,AWU v=AK 0 Tryz.prog AFI Amy Tryz.f46 AWT AWS AWR v:=by
 rintro⟨a0,⟨⟩⟩
 kernel_rfl
theorem Amx:AD (AQ Tryz.f46) 0=[]:=by kernel_rfl
theorem Aco:AO Tryz.prog 46 (AF 0 1 AWT AWS AWR ALc):=AH X0 Tryz.func46 (by kernel_rfl) (by kernel_rfl) rfl (fun v=>(Akw v).trans (Ahi v)) (AA Amx trivial)
def AYn:Env:=AFI.ext 46 true true (AF 0 1 AWT AWS AWR ALc)
theorem AI9:AY Tryz.prog AYn:=Env.AZ X0 Aco (fun _=>AI rfl rfl) (fun _=>AG rfl rfl)
end
end Go.Pev
end
section
namespace Go.Pev
open Go.Proofs
noncomputable section
abbrev AWd:Hints:={ fp:=fun n=>match n with|1=>[[0],[0],[2],[2],[],[0],[0],[2],[2],[],[],[20],[]]|_=>[] }
theorem ALk:∀ v,KQ v=AK 0 Tryz.prog AYn AWd Tryz.f47 PU PT PS v:=by
 rintro⟨a0,a1,⟨⟩⟩
 kernel_rfl
theorem AWc:AD (AQ Tryz.f47) 0=[]:=by kernel_rfl
theorem AF8:AO Tryz.prog 47 (AF 0 2 PU PT PS Ja):=AH AI9 Tryz.func47 (by kernel_rfl) (by kernel_rfl) rfl (fun v=>(XQ v).trans (ALk v)) (AA AWc trivial)
def LL:Env:=AYn.ext 47 true true (AF 0 2 PU PT PS Ja)
theorem JD:AY Tryz.prog LL:=Env.AZ AI9 AF8 (fun _=>AI rfl rfl) (fun _=>AG rfl rfl)
abbrev ACQ:Hints:={ loop:=fun n=>match n with|0=>Ac 0 33 AHu AHt FX|_=>fun _ _ _=>none }
theorem ALb:∀ v,FX v=roundOf Tryz.prog LL ACQ 1 0 33 (AB Tryz.f48 0) AHu AHt v:=by
 rintro⟨a0,a1,a2,a3,a4,⟨⟩⟩
 kernel_rfl
theorem Acm:AD (AB Tryz.f48 0) 1=[]:=by kernel_rfl
theorem Acn:Ab Tryz.prog 0 (.loop (AB Tryz.f48 0)) (ACQ.loop 0):=AU JD (ALb) (AA Acm trivial)
theorem AWQ:∀ v,Q3 v=AK 0 Tryz.prog LL ACQ Tryz.f48 ACP ACO ACN v:=by
 rintro⟨a0,a1,⟨⟩⟩
 kernel_rfl
theorem Ahh:AD (AQ Tryz.f48) 0=[(0,AB Tryz.f48 0)]:=by kernel_rfl
theorem ARC:AO Tryz.prog 48 (AF 0 2 ACP ACO ACN ACR):=AH JD Tryz.func48 (by kernel_rfl) (by kernel_rfl) rfl (fun v=>(AHv v).trans (AWQ v)) (AA Ahh ⟨Acn,trivial⟩)
def SQ:Env:=LL.ext 48 true true (AF 0 2 ACP ACO ACN ACR)
theorem M3:AY Tryz.prog SQ:=Env.AZ JD ARC (fun _=>AI rfl rfl) (fun _=>AG rfl rfl)
abbrev ACY:Hints:={ loop:=fun n=>match n with|0=>Ac 0 96 AHx AHw DZ|_=>fun _ _ _=>none,fp:=fun n=>match n with|7=>[[2],[2],[],[],[2],[2],[2],[2],[],[],[],[2],[2],[0],[0],[],[],[],[2],[2],[],[],[],[2],[2],[],[],[],[],[],[],[],[0],[0],[],[],[],[],[2],[],[],[],[]]|_=>[] }
theorem ALd:∀ v,DZ v=roundOf Tryz.prog SQ ACY 1 0 96 (AB Tryz.f27 0) AHx AHw v:=by
 rintro⟨a0,a1,a2,a3,a4,a5,⟨⟩⟩
 kernel_rfl
theorem Acp:AD (AB Tryz.f27 0) 1=[]:=by kernel_rfl
theorem Acq:Ab Tryz.prog 0 (.loop (AB Tryz.f27 0)) (ACY.loop 0):=AU M3 (ALd) (AA Acp trivial)
theorem AWW:∀ v,Ha v=AK 0 Tryz.prog SQ ACY Tryz.f27 ACX ACW ACV v:=by
 rintro⟨a0,⟨⟩⟩
 kernel_rfl
theorem Ahl:AD (AQ Tryz.f27) 0=[(0,AB Tryz.f27 0)]:=by kernel_rfl
theorem ARF:AO Tryz.prog 27 (AF 0 1 ACX ACW ACV FY):=AH M3 Tryz.func27 (by kernel_rfl) (by kernel_rfl) rfl (fun v=>(JZ v).trans (AWW v)) (AA Ahl ⟨Acq,trivial⟩)
def SR:Env:=SQ.ext 27 true true (AF 0 1 ACX ACW ACV FY)
theorem M4:AY Tryz.prog SR:=Env.AZ M3 ARF (fun _=>AI rfl rfl) (fun _=>AG rfl rfl)
abbrev ACf:Hints:={ loop:=fun n=>match n with|0=>Ac 0 26 AHz AHy FZ|_=>fun _ _ _=>none }
theorem ALi:∀ v,FZ v=roundOf Tryz.prog SR ACf 1 0 26 (AB Tryz.f61 0) AHz AHy v:=by
 rintro⟨a0,a1,a2,a3,⟨⟩⟩
 kernel_rfl
theorem Acz:AD (AB Tryz.f61 0) 1=[]:=by kernel_rfl
theorem Ac0:Ab Tryz.prog 0 (.loop (AB Tryz.f61 0)) (ACf.loop 0):=AU M4 (ALi) (AA Acz trivial)
theorem AWb:∀ v,Q4 v=AK 0 Tryz.prog SR ACf Tryz.f61 ACe ACd ACc v:=by
 rintro⟨a0,⟨⟩⟩
 kernel_rfl
theorem Aho:AD (AQ Tryz.f61) 0=[(0,AB Tryz.f61 0)]:=by kernel_rfl
theorem ARK:AO Tryz.prog 61 (AF 0 1 ACe ACd ACc UA):=AH M4 Tryz.func61 (by kernel_rfl) (by kernel_rfl) rfl (fun v=>(AH0 v).trans (AWb v)) (AA Aho ⟨Ac0,trivial⟩)
def SS:Env:=SR.ext 61 true true (AF 0 1 ACe ACd ACc UA)
theorem M5:AY Tryz.prog SS:=Env.AZ M4 ARK (fun _=>AI rfl rfl) (fun _=>AG rfl rfl)
abbrev AAU:Hints:={ loop:=fun n=>match n with|0=>Ac 0 26 AHI AHH FJ|_=>fun _ _ _=>none,fp:=fun n=>match n with|6=>[[],[],[],[],[],[],[],[],[]]|_=>[] }
theorem AKR:∀ v,FJ v=roundOf Tryz.prog SS AAU 1 0 26 (AB Tryz.f26 0) AHI AHH v:=by
 rintro⟨a0,a1,a2,⟨⟩⟩
 kernel_rfl
theorem AbU:AD (AB Tryz.f26 0) 1=[]:=by kernel_rfl
theorem AbV:Ab Tryz.prog 0 (.loop (AB Tryz.f26 0)) (AAU.loop 0):=AU M5 (AKR) (AA AbU trivial)
theorem AUc:∀ v,Qg v=AK 0 Tryz.prog SS AAU Tryz.f26 AAT AAS AAR v:=by
 rintro⟨a0,a1,⟨⟩⟩
 kernel_rfl
theorem Afy:AD (AQ Tryz.f26) 0=[(0,AB Tryz.f26 0)]:=by kernel_rfl
theorem AO8:AO Tryz.prog 26 (AF 0 2 AAT AAS AAR AAV):=AH M5 Tryz.func26 (by kernel_rfl) (by kernel_rfl) rfl (fun v=>(AHJ v).trans (AUc v)) (AA Afy ⟨AbV,trivial⟩)
def AE9:Env:=SS.ext 26 true true (AF 0 2 AAT AAS AAR AAV)
theorem Xv:AY Tryz.prog AE9:=Env.AZ M5 AO8 (fun _=>AI rfl rfl) (fun _=>AG rfl rfl)
theorem AlM:Tryz.f62.body.isSome=true:=by kernel_rfl
theorem AlL : (Tryz.f62.name == "runtime.NumGoroutine") = false := by kernel_rfl
theorem AlK:loops (AQ Tryz.f62)=0:=by kernel_rfl
def N0:Env:=AE9.ext 62 false false (Ck Tryz.prog AE9 {} Tryz.f62)
theorem LQ:AY Tryz.prog N0:=Env.AZ Xv (CW Xv Tryz.func62 AlM AlL AlK) (by simp) (by simp)
abbrev Kg:Hints:={ loop:=fun n=>match n with|0=>Ac 3 19 OP OO B9|_=>fun _ _ _=>none }
theorem UK:∀ v,B9 v=roundOf Tryz.prog N0 Kg 1 3 19 (AB Tryz.f76 0) OP OO v:=by
 rintro⟨a0,a1,a2,a3,⟨⟩⟩
 kernel_rfl
theorem AGD:AD (AB Tryz.f76 0) 1=[]:=by kernel_rfl
theorem AGE:Ab Tryz.prog 3 (.loop (AB Tryz.f76 0)) (Kg.loop 0):=AU LQ (UK) (AA AGD trivial)
theorem ACv:∀ v,G1 v=AK 3 Tryz.prog N0 Kg Tryz.f76 Kf Ke Kd v:=by
 rintro⟨a0,a1,⟨⟩⟩
 kernel_rfl
theorem ALt:AD (AQ Tryz.f76) 0=[(0,AB Tryz.f76 0)]:=by kernel_rfl
theorem YM:AO Tryz.prog 76 (AF 3 2 Kf Ke Kd Kh):=AH LQ Tryz.func76 (by kernel_rfl) (by kernel_rfl) rfl (fun v=>(OQ v).trans (ACv v)) (AA ALt ⟨AGE,trivial⟩)
def G9:Env:=N0.CD 76 1 62 (AF 3 2 Kf Ke Kd Kh)
theorem Gu:AY Tryz.prog G9:=Env.Aw LQ YM (AG rfl rfl)
abbrev Kz:Hints:={ loop:=fun n=>match n with|0=>Ac 3 42 OY OX C4|_=>fun _ _ _=>none }
theorem VM:∀ v,C4 v=roundOf Tryz.prog G9 Kz 1 3 42 (AB Tryz.f60 0) OY OX v:=by
 rintro⟨a0,a1,a2,a3,⟨⟩⟩
 kernel_rfl
theorem AGQ:AD (AB Tryz.f60 0) 1=[]:=by kernel_rfl
theorem AGR:Ab Tryz.prog 3 (.loop (AB Tryz.f60 0)) (Kz.loop 0):=AU Gu (VM) (AA AGQ trivial)
theorem ADr:∀ v,G4 v=AK 3 Tryz.prog G9 Kz Tryz.f60 Ky Kx Kw v:=by
 rintro⟨a0,a1,⟨⟩⟩
 kernel_rfl
theorem AMi:AD (AQ Tryz.f60) 0=[(0,AB Tryz.f60 0)]:=by kernel_rfl
theorem YP:AO Tryz.prog 60 (AF 3 2 Ky Kx Kw Hm):=AH Gu Tryz.func60 (by kernel_rfl) (by kernel_rfl) rfl (fun v=>(OZ v).trans (ADr v)) (AA AMi ⟨AGR,trivial⟩)
def HA:Env:=G9.CD 60 1 62 (Lx (AF 3 2 Ky Kx Kw Hm))
theorem Gv:AY Tryz.prog HA:=Env.Aw Gu (AOl YP) (Aj6 rfl rfl)
abbrev AKs:Hints:={ loop:=fun n=>match n with|0=>Ac 0 51 APq APp Ds|_=>fun _ _ _=>none,fp:=fun n=>match n with|10=>[[2],[6],[4],[],[5],[],[5]]|_=>[] }
theorem APo:∀ v,Ds v=roundOf Tryz.prog HA AKs 1 0 51 (AB Tryz.f32 0) APq APp v:=by
 rintro⟨a0,a1,a2,a3,a4,a5,⟨⟩⟩
 kernel_rfl
theorem Agq:AD (AB Tryz.f32 0) 1=[]:=by kernel_rfl
theorem Agr:Ab Tryz.prog 0 (.loop (AB Tryz.f32 0)) (AKs.loop 0):=AU Gv (APo) (AA Agq trivial)
theorem Ab5:∀ v,Yp v=AK 0 Tryz.prog HA AKs Tryz.f32 AKr AKq AKp v:=by
 rintro⟨a0,a1,⟨⟩⟩
 kernel_rfl
theorem Aka:AD (AQ Tryz.f32) 0=[(0,AB Tryz.f32 0)]:=by kernel_rfl
theorem AVT:AO Tryz.prog 32 (AF 0 2 AKr AKq AKp APs):=AH Gv Tryz.func32 (by kernel_rfl) (by kernel_rfl) rfl (fun v=>(APr v).trans (Ab5 v)) (AA Aka ⟨Agr,trivial⟩)
def ANq:Env:=HA.ext 32 true true (AF 0 2 AKr AKq AKp APs)
theorem AFF:AY Tryz.prog ANq:=Env.AZ Gv AVT (fun _=>AI rfl rfl) (fun _=>AG rfl rfl)
abbrev AXA:Hints:={ fp:=fun n=>match n with|1=>[[0],[0],[2],[2],[],[0],[0],[2],[2],[],[],[20],[]]|_=>[] }
theorem AMA:∀ v,Kp v=AK 0 Tryz.prog ANq AXA Tryz.f64 Pf Pe Pd v:=by
 rintro⟨a0,a1,⟨⟩⟩
 kernel_rfl
theorem AW9:AD (AQ Tryz.f64) 0=[]:=by kernel_rfl
theorem AGI:AO Tryz.prog 64 (AF 0 2 Pf Pe Pd Ak):=AH AFF Tryz.func64 (by kernel_rfl) (by kernel_rfl) rfl (fun v=>(XV v).trans (AMA v)) (AA AW9 trivial)
def H4:Env:=ANq.ext 64 true true (AF 0 2 Pf Pe Pd Ak)
theorem GQ:AY Tryz.prog H4:=Env.AZ AFF AGI (fun _=>AI rfl rfl) (fun _=>AG rfl rfl)
abbrev ACm:Hints:={ loop:=fun n=>match n with|0=>Ac 1 53 AZs AZq AZo|1=>Ac 1 53 AZr AZp AZn|_=>fun _ _ _=>none,fp:=fun n=>match n with|4=>[[],[],[],[],[],[],[],[0],[0],[],[],[],[0],[0],[],[],[]]|6=>[[],[],[],[],[],[],[],[],[0],[0],[],[],[0],[0],[0],[1],[0],[1]]|_=>[] }
theorem AWm:∀ v,AZn v=roundOf Tryz.prog H4 ACm 2 1 53 (AB Tryz.f92 1) AZr AZp v:=by
 rintro⟨a0,a1,a2,a3,a4,⟨⟩⟩
 kernel_rfl
theorem AlA:AD (AB Tryz.f92 1) 2=[]:=by kernel_rfl
theorem AlC:Ab Tryz.prog 1 (.loop (AB Tryz.f92 1)) (ACm.loop 1):=AU GQ (AWm) (AA AlA trivial)
theorem AWn:∀ v,AZo v=roundOf Tryz.prog H4 ACm 1 1 53 (AB Tryz.f92 0) AZs AZq v:=by
 rintro⟨a0,a1,a2,a3,⟨⟩⟩
 kernel_rfl
theorem AlB:AD (AB Tryz.f92 0) 1=[(1,AB Tryz.f92 1)]:=by kernel_rfl
theorem AlD:Ab Tryz.prog 1 (.loop (AB Tryz.f92 0)) (ACm.loop 0):=AU GQ (AWn) (AA AlB ⟨AlC,trivial⟩)
theorem Ah0:∀ v,Ah1 v=AK 1 Tryz.prog H4 ACm Tryz.f92 AWq AWp AWo v:=by
 rintro⟨a0,a1,a2,⟨⟩⟩
 kernel_rfl
theorem Am1:AD (AQ Tryz.f92) 0=[(0,AB Tryz.f92 0)]:=by kernel_rfl
theorem Ac4:AO Tryz.prog 92 (AF 1 4 AWq AWp AWo Am2):=AH GQ Tryz.func92 (by kernel_rfl) (by kernel_rfl) rfl (fun v=>(AlE v).trans (Ah0 v)) (AA Am1 ⟨AlD,trivial⟩)
def ANv:Env:=H4.CD 92 3 64 (AF 1 4 AWq AWp AWo Am2)
theorem WY:AY Tryz.prog ANv:=Env.Aw GQ Ac4 (AG rfl rfl)
abbrev AKK:Hints:={ loop:=fun n=>match n with|0=>Ac 1 82 AO1 AO0 AOz|_=>fun _ _ _=>none,fp:=fun n=>match n with|6=>[[],[],[],[],[],[],[],[],[],[],[],[],[0],[0],[],[],[],[],[0],[0],[0],[1],[0],[1]]|5=>[[],[],[],[],[],[0],[0],[],[],[],[],[0],[0],[],[],[]]|3=>[[],[],[],[],[],[],[],[],[],[],[0],[0],[],[],[],[],[],[0],[0],[],[],[]]|_=>[] }
theorem AOy:∀ v,AOz v=roundOf Tryz.prog ANv AKK 1 1 82 (AB Tryz.f116 0) AO1 AO0 v:=by
 rintro⟨a0,a1,a2,a3,⟨⟩⟩
 kernel_rfl
theorem Afs:AD (AB Tryz.f116 0) 1=[]:=by kernel_rfl
theorem Aft:Ab Tryz.prog 1 (.loop (AB Tryz.f116 0)) (AKK.loop 0):=AU WY (AOy) (AA Afs trivial)
theorem AbL:∀ v,AY9 v=AK 1 Tryz.prog ANv AKK Tryz.f116 AKJ AKI AKH v:=by
 rintro⟨a0,a1,a2,a3,⟨⟩⟩
 kernel_rfl
theorem AkH:AD (AQ Tryz.f116) 0=[(0,AB Tryz.f116 0)]:=by kernel_rfl
theorem AUY:AO Tryz.prog 116 (AF 1 5 AKJ AKI AKH Afv):=AH WY Tryz.func116 (by kernel_rfl) (by kernel_rfl) rfl (fun v=>(Afu v).trans (AbL v)) (AA AkH ⟨Aft,trivial⟩)
def R7:Env:=ANv.CD 116 4 64 (AF 1 5 AKJ AKI AKH Afv)
theorem LJ:AY Tryz.prog R7:=Env.Aw WY AUY (AG rfl rfl)
end
end Go.Pev
end
section
namespace Go.Pev
open Go.Proofs
noncomputable section
abbrev RL:Hints:={ loop:=fun n=>match n with|0=>Ac 1 60 ARh ARf ARd|1=>Ac 1 60 ARg ARe ARb|_=>fun _ _ _=>none,fp:=fun n=>match n with|10=>[[],[],[],[],[],[],[],[],[],[],[0],[0],[],[],[0],[0],[0],[1],[0],[1]]|_=>[] }
theorem ARa:∀ v,ARb v=roundOf Tryz.prog R7 RL 2 1 60 (AB Tryz.f93 1) ARg ARe v:=by
 rintro⟨a0,a1,a2,a3,⟨⟩⟩
 kernel_rfl
theorem AiE:AD (AB Tryz.f93 1) 2=[]:=by kernel_rfl
theorem AiG:Ab Tryz.prog 1 (.loop (AB Tryz.f93 1)) (RL.loop 1):=AU LJ (ARa) (AA AiE trivial)
theorem ARc:∀ v,ARd v=roundOf Tryz.prog R7 RL 1 1 60 (AB Tryz.f93 0) ARh ARf v:=by
 rintro⟨a0,a1,a2,a3,a4,⟨⟩⟩
 kernel_rfl
theorem AiF:AD (AB Tryz.f93 0) 1=[]:=by kernel_rfl
theorem AiH:Ab Tryz.prog 1 (.loop (AB Tryz.f93 0)) (RL.loop 0):=AU LJ (ARc) (AA AiF trivial)
theorem AdF:∀ v,AZx v=AK 1 Tryz.prog R7 RL Tryz.f93 AL0 ALz ALy v:=by
 rintro⟨a0,a1,a2,⟨⟩⟩
 kernel_rfl
theorem AlH:AD (AQ Tryz.f93) 0=[(0,AB Tryz.f93 0),(1,AB Tryz.f93 1)]:=by kernel_rfl
theorem AWu:AO Tryz.prog 93 (AF 1 4 AL0 ALz ALy AiJ):=AH LJ Tryz.func93 (by kernel_rfl) (by kernel_rfl) rfl (fun v=>(AiI v).trans (AdF v)) (AA AlH ⟨AiH,AiG,trivial⟩)
def ZF:Env:=R7.CD 93 3 64 (AF 1 4 AL0 ALz ALy AiJ)
theorem QF:AY Tryz.prog ZF:=Env.Aw LJ AWu (AG rfl rfl)
abbrev AEe:Hints:={ loop:=fun n=>match n with|0=>Ac 1 67 AIq AIp AIo|_=>fun _ _ _=>none,fp:=fun n=>match n with|10=>[[],[],[],[],[],[],[],[],[],[],[0],[0],[],[],[0],[0],[0],[1],[0],[1]]|_=>[] }
theorem ANJ:∀ v,AIo v=roundOf Tryz.prog ZF AEe 1 1 67 (AB Tryz.f94 0) AIq AIp v:=by
 rintro⟨a0,a1,a2,a3,a4,a5,⟨⟩⟩
 kernel_rfl
theorem Aee:AD (AB Tryz.f94 0) 1=[]:=by kernel_rfl
theorem Aef:Ab Tryz.prog 1 (.loop (AB Tryz.f94 0)) (AEe.loop 0):=AU QF (ANJ) (AA Aee trivial)
theorem AYS:∀ v,AS4 v=AK 1 Tryz.prog ZF AEe Tryz.f94 AEd AEc AEb v:=by
 rintro⟨a0,a1,a2,⟨⟩⟩
 kernel_rfl
theorem AjP:AD (AQ Tryz.f94) 0=[(0,AB Tryz.f94 0)]:=by kernel_rfl
theorem AS3:AO Tryz.prog 94 (AF 1 4 AEd AEc AEb AYT):=AH QF Tryz.func94 (by kernel_rfl) (by kernel_rfl) rfl (fun v=>(Aeg v).trans (AYS v)) (AA AjP ⟨Aef,trivial⟩)
def AFX:Env:=ZF.CD 94 3 64 (AF 1 4 AEd AEc AEb AYT)
theorem X9:AY Tryz.prog AFX:=Env.Aw QF AS3 (AG rfl rfl)
abbrev AcK:Hints:={ fp:=fun n=>match n with|1=>[[],[],[],[0],[0],[],[],[0],[0],[],[]]|_=>[] }
theorem AQ1:∀ v,AHk v=AK 2 Tryz.prog AFX AcK Tryz.f140 Tk Tj Ti v:=by
 rintro⟨a0,a1,a2,a3,⟨⟩⟩
 kernel_rfl
theorem AcJ:AD (AQ Tryz.f140) 0=[]:=by kernel_rfl
theorem ALE:AO Tryz.prog 140 (AF 2 5 Tk Tj Ti ALF):=AH X9 Tryz.func140 (by kernel_rfl) (by kernel_rfl) rfl (fun v=>(AVy v).trans (AQ1 v)) (AA AcJ trivial)
def WS:Env:=AFX.CD 140 4 64 (AF 2 5 Tk Tj Ti ALF)
theorem SJ:AY Tryz.prog WS:=Env.Aw X9 ALE (AG rfl rfl)
abbrev Ace:Hints:={  }
theorem AQ9:∀ v,AHp v=AK 2 Tryz.prog WS Ace Tryz.f120 Tw Tv Tu v:=by
 rintro⟨a0,a1,a2,a3,a4,⟨⟩⟩
 kernel_rfl
theorem Acd:AD (AQ Tryz.f120) 0=[]:=by kernel_rfl
theorem ALU:AO Tryz.prog 120 (AF 2 6 Tw Tv Tu ALV):=AH SJ Tryz.func120 (by kernel_rfl) (by kernel_rfl) rfl (fun v=>(AWK v).trans (AQ9 v)) (AA Acd trivial)
def WU:Env:=WS.CD 120 5 64 (AF 2 6 Tw Tv Tu ALV)
theorem SM:AY Tryz.prog WU:=Env.Aw SJ ALU (AG rfl rfl)
abbrev Aci:Hints:={  }
theorem ARB:∀ v,AHr v=AK 2 Tryz.prog WU Aci Tryz.f119 T4 T3 T2 v:=by
 rintro⟨a0,a1,a2,⟨⟩⟩
 kernel_rfl
theorem Ach:AD (AQ Tryz.f119) 0=[]:=by kernel_rfl
theorem ALY:AO Tryz.prog 119 (AF 2 4 T4 T3 T2 ALZ):=AH SM Tryz.func119 (by kernel_rfl) (by kernel_rfl) rfl (fun v=>(AWN v).trans (ARB v)) (AA Ach trivial)
def WW:Env:=WU.CD 119 3 64 (AF 2 4 T4 T3 T2 ALZ)
theorem SO:AY Tryz.prog WW:=Env.Aw SM ALY (AG rfl rfl)
abbrev Agp:Hints:={  }
theorem AVQ:∀ v,APm v=AK 1 Tryz.prog WW Agp Tryz.f95 ABT ABS ABR v:=by
 rintro⟨a0,a1,a2,⟨⟩⟩
 kernel_rfl
theorem Ago:AD (AQ Tryz.f95) 0=[]:=by kernel_rfl
theorem APl:AO Tryz.prog 95 (AF 1 4 ABT ABS ABR AVR):=AH SO Tryz.func95 (by kernel_rfl) (by kernel_rfl) rfl (fun v=>(Ab2 v).trans (AVQ v)) (AA Ago trivial)
def SF:Env:=WW.CD 95 3 64 (AF 1 4 ABT ABS ABR AVR)
theorem M0:AY Tryz.prog SF:=Env.Aw SO APl (AG rfl rfl)
abbrev AUz:Hints:={ loop:=fun n=>match n with|0=>Ac 1 34 AZG AZF AZE|_=>fun _ _ _=>none,fp:=fun n=>match n with|3=>[[],[],[],[],[],[],[0],[0],[],[],[0],[0],[0],[1],[0],[1]]|_=>[] }
theorem AUv:∀ v,AZE v=roundOf Tryz.prog SF AUz 1 1 34 (AB Tryz.f96 0) AZG AZF v:=by
 rintro⟨a0,a1,a2,⟨⟩⟩
 kernel_rfl
theorem AkS:AD (AB Tryz.f96 0) 1=[]:=by kernel_rfl
theorem AkT:Ab Tryz.prog 1 (.loop (AB Tryz.f96 0)) (AUz.loop 0):=AU M0 (AUv) (AA AkS trivial)
theorem AgJ:∀ v,AgK v=AK 1 Tryz.prog SF AUz Tryz.f96 AUy AUx AUw v:=by
 rintro⟨a0,a1,a2,⟨⟩⟩
 kernel_rfl
theorem Ama:AD (AQ Tryz.f96) 0=[(0,AB Tryz.f96 0)]:=by kernel_rfl
theorem Abn:AO Tryz.prog 96 (AF 1 4 AUy AUx AUw Amb):=AH M0 Tryz.func96 (by kernel_rfl) (by kernel_rfl) rfl (fun v=>(AkU v).trans (AgJ v)) (AA Ama ⟨AkT,trivial⟩)
def QD:Env:=SF.CD 96 3 64 (AF 1 4 AUy AUx AUw Amb)
theorem HH:AY Tryz.prog QD:=Env.Aw M0 Abn (AG rfl rfl)
abbrev Ct:Hints:={ loop:=fun n=>match n with|0=>Ac 1 141 XN XJ XF|1=>Ac 1 141 XM XI XE|2=>Ac 1 141 XL XH XD|3=>Ac 1 141 XK XG XC|_=>fun _ _ _=>none,fp:=fun n=>match n with|11=>[[],[],[],[],[],[],[],[],[0],[0],[],[],[0],[0],[0],[1],[0],[1]]|5=>[[],[],[],[],[],[],[],[0],[0],[],[],[],[0],[0],[],[],[],[]]|17=>[[],[],[],[],[],[],[],[],[0],[0],[],[],[0],[0],[0],[1],[0],[1]]|16=>[[],[],[],[0],[0],[],[],[],[0],[0],[],[],[]]|23=>[[],[],[],[],[],[],[],[],[0],[0],[],[],[0],[0],[0],[1],[0],[1]]|22=>[[],[],[],[0],[0],[],[],[],[0],[0],[],[],[]]|_=>[] }
theorem ABj:∀ v,XC v=roundOf Tryz.prog QD Ct 4 1 141 (AB Tryz.f97 3) XK XG v:=by
 rintro⟨a0,a1,a2,a3,a4,a5,⟨⟩⟩
 kernel_rfl
theorem AQQ:AD (AB Tryz.f97 3) 4=[]:=by kernel_rfl
theorem AQU:Ab Tryz.prog 1 (.loop (AB Tryz.f97 3)) (Ct.loop 3):=AU HH (ABj) (AA AQQ trivial)
theorem ABk:∀ v,XD v=roundOf Tryz.prog QD Ct 3 1 141 (AB Tryz.f97 2) XL XH v:=by
 rintro⟨a0,a1,a2,a3,a4,a5,⟨⟩⟩
 kernel_rfl
theorem AQR:AD (AB Tryz.f97 2) 3=[]:=by kernel_rfl
theorem AQV:Ab Tryz.prog 1 (.loop (AB Tryz.f97 2)) (Ct.loop 2):=AU HH (ABk) (AA AQR trivial)
theorem ABl:∀ v,XE v=roundOf Tryz.prog QD Ct 2 1 141 (AB Tryz.f97 1) XM XI v:=by
 rintro⟨a0,a1,a2,a3,a4,⟨⟩⟩
 kernel_rfl
theorem AQS:AD (AB Tryz.f97 1) 2=[]:=by kernel_rfl
theorem AQW:Ab Tryz.prog 1 (.loop (AB Tryz.f97 1)) (Ct.loop 1):=AU HH (ABl) (AA AQS trivial)
theorem ABm:∀ v,XF v=roundOf Tryz.prog QD Ct 1 1 141 (AB Tryz.f97 0) XN XJ v:=by
 rintro⟨a0,a1,a2,a3,a4,⟨⟩⟩
 kernel_rfl
theorem AQT:AD (AB Tryz.f97 0) 1=[(1,AB Tryz.f97 1),(2,AB Tryz.f97 2),(3,AB Tryz.f97 3)]:=by kernel_rfl
theorem AQX:Ab Tryz.prog 1 (.loop (AB Tryz.f97 0)) (Ct.loop 0):=AU HH (ABm) (AA AQT ⟨AQW,AQV,AQU,trivial⟩)
theorem AK3:∀ v,ABn v=AK 1 Tryz.prog QD Ct Tryz.f97 PM PL PK v:=by
 rintro⟨a0,a1,a2,⟨⟩⟩
 kernel_rfl
theorem AVe:AD (AQ Tryz.f97) 0=[(0,AB Tryz.f97 0)]:=by kernel_rfl
theorem AFw:AO Tryz.prog 97 (AF 1 4 PM PL PK ABo):=AH HH Tryz.func97 (by kernel_rfl) (by kernel_rfl) rfl (fun v=>(AQY v).trans (AK3 v)) (AA AVe ⟨AQX,trivial⟩)
def F9:Env:=QD.CD 97 3 64 (AF 1 4 PM PL PK ABo)
theorem Dz:AY Tryz.prog F9:=Env.Aw HH AFw (AG rfl rfl)
abbrev FU:Hints:={ loop:=fun n=>match n with|0=>Ac 1 90 AB7 AB4 AB1|1=>Ac 1 90 AB6 AB3 AB0|2=>Ac 1 90 AB5 AB2 ABz|_=>fun _ _ _=>none,fp:=fun n=>match n with|8=>[[],[],[],[],[],[],[0],[0],[],[],[0],[0],[0],[1],[0],[1]]|3=>[[],[],[],[],[],[],[],[0],[0],[],[],[0],[0],[],[],[],[]]|5=>[[],[],[],[],[],[],[],[0],[0],[],[],[0],[0],[],[],[]]|1=>[[],[],[],[],[],[],[0],[0],[],[],[0],[0],[0],[1],[0],[1]]|_=>[] }
theorem AF2:∀ v,ABz v=roundOf Tryz.prog F9 FU 3 1 90 (AB Tryz.f98 2) AB5 AB2 v:=by
 rintro⟨a0,a1,a2,a3,⟨⟩⟩
 kernel_rfl
theorem AVo:AD (AB Tryz.f98 2) 3=[]:=by kernel_rfl
theorem AVr:Ab Tryz.prog 1 (.loop (AB Tryz.f98 2)) (FU.loop 2):=AU Dz (AF2) (AA AVo trivial)
theorem AF3:∀ v,AB0 v=roundOf Tryz.prog F9 FU 2 1 90 (AB Tryz.f98 1) AB6 AB3 v:=by
 rintro⟨a0,a1,a2,a3,⟨⟩⟩
 kernel_rfl
theorem AVp:AD (AB Tryz.f98 1) 2=[]:=by kernel_rfl
theorem AVs:Ab Tryz.prog 1 (.loop (AB Tryz.f98 1)) (FU.loop 1):=AU Dz (AF3) (AA AVp trivial)
theorem AF4:∀ v,AB1 v=roundOf Tryz.prog F9 FU 1 1 90 (AB Tryz.f98 0) AB7 AB4 v:=by
 rintro⟨a0,a1,a2,a3,⟨⟩⟩
 kernel_rfl
theorem AVq:AD (AB Tryz.f98 0) 1=[(1,AB Tryz.f98 1),(2,AB Tryz.f98 2)]:=by kernel_rfl
theorem AVt:Ab Tryz.prog 1 (.loop (AB Tryz.f98 0)) (FU.loop 0):=AU Dz (AF4) (AA AVq ⟨AVs,AVr,trivial⟩)
theorem AQf:∀ v,AHg v=AK 1 Tryz.prog F9 FU Tryz.f98 Te Td Tc v:=by
 rintro⟨a0,a1,a2,a3,⟨⟩⟩
 kernel_rfl
theorem AcE:AD (AQ Tryz.f98) 0=[(0,AB Tryz.f98 0)]:=by kernel_rfl
theorem AK7:AO Tryz.prog 98 (AF 1 5 Te Td Tc AK8):=AH Dz Tryz.func98 (by kernel_rfl) (by kernel_rfl) rfl (fun v=>(AVu v).trans (AQf v)) (AA AcE ⟨AVt,trivial⟩)
def Ed:Env:=F9.CD 98 4 64 (AF 1 5 Te Td Tc AK8)
theorem Cy:AY Tryz.prog Ed:=Env.Aw Dz AK7 (AG rfl rfl)
abbrev Em:Hints:={ loop:=fun n=>match n with|0=>Ac 1 178 AQz AQu AQp|1=>Ac 1 178 AQy AQt AQn|2=>Ac 1 178 AQx AQs AQl|3=>Ac 1 178 AQw AQr AQj|4=>Ac 1 178 AQv AQq AQh|_=>fun _ _ _=>none,fp:=fun n=>match n with|3=>[[],[],[],[],[],[],[],[0],[0],[],[],[0],[0],[],[],[]]|5=>[[],[],[],[],[],[],[],[0],[0],[],[],[0],[0],[],[],[],[]]|18=>[[],[],[],[],[],[],[0],[0],[],[],[0],[0],[0],[1],[0],[1]]|13=>[[],[],[],[],[],[],[],[0],[0],[],[],[0],[0],[],[],[]]|15=>[[],[],[],[],[],[],[],[0],[0],[],[],[0],[0],[],[],[],[]]|21=>[[],[],[],[],[],[],[0],[0],[],[],[0],[0],[0],[1],[0],[1]]|10=>[[],[],[],[],[],[],[0],[0],[],[],[0],[0],[0],[1],[0],[1]]|8=>[[],[],[],[],[],[],[0],[0],[],[],[0],[0],[0],[1],[0],[1]]|1=>[[],[],[],[],[],[],[0],[0],[],[],[0],[0],[0],[1],[0],[1]]|_=>[] }
theorem AQg:∀ v,AQh v=roundOf Tryz.prog Ed Em 5 1 178 (AB Tryz.f99 4) AQv AQq v:=by
 rintro⟨a0,a1,a2,a3,⟨⟩⟩
 kernel_rfl
theorem Ag9:AD (AB Tryz.f99 4) 5=[]:=by kernel_rfl
theorem AhE:Ab Tryz.prog 1 (.loop (AB Tryz.f99 4)) (Em.loop 4):=AU Cy (AQg) (AA Ag9 trivial)
theorem AQi:∀ v,AQj v=roundOf Tryz.prog Ed Em 4 1 178 (AB Tryz.f99 3) AQw AQr v:=by
 rintro⟨a0,a1,a2,a3,⟨⟩⟩
 kernel_rfl
theorem AhA:AD (AB Tryz.f99 3) 4=[]:=by kernel_rfl
theorem AhF:Ab Tryz.prog 1 (.loop (AB Tryz.f99 3)) (Em.loop 3):=AU Cy (AQi) (AA AhA trivial)
theorem AQk:∀ v,AQl v=roundOf Tryz.prog Ed Em 3 1 178 (AB Tryz.f99 2) AQx AQs v:=by
 rintro⟨a0,a1,a2,a3,⟨⟩⟩
 kernel_rfl
theorem AhB:AD (AB Tryz.f99 2) 3=[(3,AB Tryz.f99 3),(4,AB Tryz.f99 4)]:=by kernel_rfl
theorem AhG:Ab Tryz.prog 1 (.loop (AB Tryz.f99 2)) (Em.loop 2):=AU Cy (AQk) (AA AhB ⟨AhF,AhE,trivial⟩)
theorem AQm:∀ v,AQn v=roundOf Tryz.prog Ed Em 2 1 178 (AB Tryz.f99 1) AQy AQt v:=by
 rintro⟨a0,a1,a2,a3,⟨⟩⟩
 kernel_rfl
theorem AhC:AD (AB Tryz.f99 1) 2=[]:=by kernel_rfl
theorem AhH:Ab Tryz.prog 1 (.loop (AB Tryz.f99 1)) (Em.loop 1):=AU Cy (AQm) (AA AhC trivial)
theorem AQo:∀ v,AQp v=roundOf Tryz.prog Ed Em 1 1 178 (AB Tryz.f99 0) AQz AQu v:=by
 rintro⟨a0,a1,a2,a3,⟨⟩⟩
 kernel_rfl
theorem AhD:AD (AB Tryz.f99 0) 1=[]:=by kernel_rfl
theorem AhI:Ab Tryz.prog 1 (.loop (AB Tryz.f99 0)) (Em.loop 0):=AU Cy (AQo) (AA AhD trivial)
theorem AcF:∀ v,AZT v=AK 1 Tryz.prog Ed Em Tryz.f99 ALB ALA AK9 v:=by
 rintro⟨a0,a1,a2,a3,⟨⟩⟩
 kernel_rfl
theorem Akl:AD (AQ Tryz.f99) 0=[(0,AB Tryz.f99 0),(1,AB Tryz.f99 1),(2,AB Tryz.f99 2)]:=by kernel_rfl
theorem AVv:AO Tryz.prog 99 (AF 1 5 ALB ALA AK9 AhK):=AH Cy Tryz.func99 (by kernel_rfl) (by kernel_rfl) rfl (fun v=>(AhJ v).trans (AcF v)) (AA Akl ⟨AhI,AhH,AhG,trivial⟩)
def ANs:Env:=Ed.CD 99 4 64 (AF 1 5 ALB ALA AK9 AhK)
theorem AFH:AY Tryz.prog ANs:=Env.Aw Cy AVv (AG rfl rfl)
abbrev AVa(self:(List (Int×Int×Unit)×Int×Int×Int×Unit)→Option ((List (Int×Int×Unit)×Unit))):Hints:={ loop:=fun n=>match n with|0=>Ac 1 148 AZR AZQ (AZP self)|_=>fun _ _ _=>none,fp:=fun n=>match n with|17=>[[],[],[],[],[],[],[],[0],[0],[],[],[0],[0],[],[],[],[]]|_=>[] }
abbrev AKx(self:(List (Int×Int×Unit)×Int×Int×Int×Unit)→Option ((List (Int×Int×Unit)×Unit))):Env:=ANs.ext 80 false true (AF 1 5 ABb ABa ABZ self)
theorem AVZ(self:(List (Int×Int×Unit)×Int×Int×Int×Unit)→Option ((List (Int×Int×Unit)×Unit))):∀ v,AZP self v=roundOf Tryz.prog (AKx self) (AVa self) 1 1 148 (AB Tryz.f80 0) AZR AZQ v:=by
 rintro⟨a0,a1,a2,a3,a4,a5,⟨⟩⟩
 kernel_rfl
theorem Akg:AD (AB Tryz.f80 0) 1=[]:=by kernel_rfl
theorem Akh(self:(List (Int×Int×Unit)×Int×Int×Int×Unit)→Option ((List (Int×Int×Unit)×Unit)))(hE:AY Tryz.prog (AKx self)):Ab Tryz.prog 1 (.loop (AB Tryz.f80 0)) ((AVa self).loop 0):=AU hE (AVZ self) (AA Akg trivial)
theorem Agv(self:(List (Int×Int×Unit)×Int×Int×Int×Unit)→Option ((List (Int×Int×Unit)×Unit))):∀ v,Amo self v=AK 1 Tryz.prog (AKx self) (AVa self) Tryz.f80 ABb ABa ABZ v:=by
 rintro⟨a0,a1,a2,a3,⟨⟩⟩
 kernel_rfl
theorem Amn:AD (AQ Tryz.f80) 0=[(0,AB Tryz.f80 0)]:=by kernel_rfl
theorem AVb:∀ n,AO Tryz.prog 80 (AF 1 5 ABb ABa ABZ (ABc n)):=by
 intro n
 induction n with
 |zero=>exact XO fun _=>rfl
 |succ n ih=>
  have hE:AY Tryz.prog (AKx (ABc n)):=Env.AZ AFH ih ((by simp)) (fun _=>AG rfl rfl)
  let self:=ABc n
  exact AH hE Tryz.func80 (by kernel_rfl) (by kernel_rfl) rfl (Agv self) (AA Amn ⟨(Akh self hE),trivial⟩)
theorem AcA:AO Tryz.prog 80 (AF 1 5 ABb ABa ABZ Akj):=by
 have e:Akj=ABc 100:=funext Aki
 rw[e]
 exact AVb _
def AYj:Env:=ANs.CD 80 4 64 (AF 1 5 ABb ABa ABZ Akj)
theorem AI5:AY Tryz.prog AYj:=Env.Aw AFH AcA (AG rfl rfl)
abbrev AkE:Hints:={  }
theorem AbI:∀ v,AY6 v=AK 1 Tryz.prog AYj AkE Tryz.f63 AKA AJ9 AJ8 v:=by
 rintro⟨a0,⟨⟩⟩
 kernel_rfl
theorem AkD:AD (AQ Tryz.f63) 0=[]:=by kernel_rfl
theorem AUU:AO Tryz.prog 63 (AF 1 2 AKA AJ9 AJ8 AOr):=AH AI5 Tryz.func63 (by kernel_rfl) (by kernel_rfl) rfl (fun v=>(Afl v).trans (AbI v)) (AA AkD trivial)
def R5:Env:=AYj.CD 63 1 64 (AF 1 2 AKA AJ9 AJ8 AOr)
theorem LH:AY Tryz.prog R5:=Env.Aw AI5 AUU (AG rfl rfl)
end
end Go.Pev
end
section
namespace Go.Pev
open Go.Proofs
noncomputable section
abbrev ACy:Hints:={ loop:=fun n=>match n with|0=>Ac 0 74 AZ6 AZ4 IT|1=>Ac 0 74 AZ5 AZ3 IS|_=>fun _ _ _=>none }
theorem AW4:∀ v,IS v=roundOf Tryz.prog R5 ACy 2 0 74 (AB Tryz.f33 1) AZ5 AZ3 v:=by
 rintro⟨a0,a1,a2,a3,a4,a5,a6,⟨⟩⟩
 kernel_rfl
theorem AlQ:AD (AB Tryz.f33 1) 2=[]:=by kernel_rfl
theorem AlS:Ab Tryz.prog 0 (.loop (AB Tryz.f33 1)) (ACy.loop 1):=AU LH (AW4) (AA AlQ trivial)
theorem AW5:∀ v,IT v=roundOf Tryz.prog R5 ACy 1 0 74 (AB Tryz.f33 0) AZ6 AZ4 v:=by
 rintro⟨a0,a1,a2,a3,a4,a5,a6,⟨⟩⟩
 kernel_rfl
theorem AlR:AD (AB Tryz.f33 0) 1=[]:=by kernel_rfl
theorem AlT:Ab Tryz.prog 0 (.loop (AB Tryz.f33 0)) (ACy.loop 0):=AU LH (AW5) (AA AlR trivial)
theorem AiQ:∀ v,AL9 v=AK 0 Tryz.prog R5 ACy Tryz.f33 AW8 AW7 AW6 v:=by
 rintro⟨a0,a1,⟨⟩⟩
 kernel_rfl
theorem Am6:AD (AQ Tryz.f33) 0=[(0,AB Tryz.f33 0),(1,AB Tryz.f33 1)]:=by kernel_rfl
theorem AdS:AO Tryz.prog 33 (AF 0 2 AW8 AW7 AW6 AiR):=AH LH Tryz.func33 (by kernel_rfl) (by kernel_rfl) rfl (fun v=>(AZ7 v).trans (AiQ v)) (AA Am6 ⟨AlT,AlS,trivial⟩)
def AYo:Env:=R5.ext 33 true true (AF 0 2 AW8 AW7 AW6 AiR)
theorem AJA:AY Tryz.prog AYo:=Env.AZ LH AdS (fun _=>AI rfl rfl) (fun _=>AG rfl rfl)
abbrev Ajq:Hints:={  }
theorem Aag:∀ v,Yf v=AK 0 Tryz.prog AYo Ajq Tryz.f51 AJR AJQ AJP v:=by
 rintro⟨a0,⟨⟩⟩
 kernel_rfl
theorem Ajp:AD (AQ Tryz.f51) 0=[]:=by kernel_rfl
theorem ATk:AO Tryz.prog 51 (AF 0 1 AJR AJQ AJP Wk):=AH AJA Tryz.func51 (by kernel_rfl) (by kernel_rfl) rfl (fun v=>(AOC v).trans (Aag v)) (AA Ajp trivial)
def ANk:Env:=AYo.ext 51 true true (AF 0 1 AJR AJQ AJP Wk)
theorem AE0:AY Tryz.prog ANk:=Env.AZ AJA ATk (fun _=>AI rfl rfl) (fun _=>AG rfl rfl)
abbrev Ae2:Hints:={  }
theorem ATh:∀ v,QM v=AK 0 Tryz.prog ANk Ae2 Tryz.f54 ZP ZO ZN v:=by
 rintro⟨a0,⟨⟩⟩
 kernel_rfl
theorem Ae1:AD (AQ Tryz.f54) 0=[]:=by kernel_rfl
theorem AN9:AO Tryz.prog 54 (AF 0 1 ZP ZO ZN ZQ):=AH AE0 Tryz.func54 (by kernel_rfl) (by kernel_rfl) rfl (fun v=>(AGp v).trans (ATh v)) (AA Ae1 trivial)
def AEy:Env:=ANk.ext 54 true true (AF 0 1 ZP ZO ZN ZQ)
theorem Xp:AY Tryz.prog AEy:=Env.AZ AE0 AN9 (fun _=>AI rfl rfl) (fun _=>AG rfl rfl)
theorem Aab:Tryz.f50.body.isSome=true:=by kernel_rfl
theorem Aaa : (Tryz.f50.name == "runtime.NumGoroutine") = false := by kernel_rfl
theorem AaZ:loops (AQ Tryz.f50)=0:=by kernel_rfl
theorem AaY:Tryz.f53.body.isSome=true:=by kernel_rfl
theorem AaX : (Tryz.f53.name == "runtime.NumGoroutine") = false := by kernel_rfl
theorem AaW:loops (AQ Tryz.f53)=0:=by kernel_rfl
def Ig:Env:=AEy.ext 50 false false (Ck Tryz.prog AEy {} Tryz.f50)
theorem Hw:AY Tryz.prog Ig:=Env.AZ Xp (CW Xp Tryz.func50 Aab Aaa AaZ) (by simp) (by simp)
abbrev Kb:Hints:={ loop:=fun n=>match n with|0=>Ac 0 19 OM OL Cd|_=>fun _ _ _=>none }
theorem UJ:∀ v,Cd v=roundOf Tryz.prog Ig Kb 1 0 19 (AB Tryz.f76 0) OM OL v:=by
 rintro⟨a0,a1,a2,⟨⟩⟩
 kernel_rfl
theorem AGB:AD (AB Tryz.f76 0) 1=[]:=by kernel_rfl
theorem AGC:Ab Tryz.prog 0 (.loop (AB Tryz.f76 0)) (Kb.loop 0):=AU Hw (UJ) (AA AGB trivial)
theorem ACu:∀ v,G0 v=AK 0 Tryz.prog Ig Kb Tryz.f76 Ka KZ KY v:=by
 rintro⟨a0,⟨⟩⟩
 kernel_rfl
theorem ALs:AD (AQ Tryz.f76) 0=[(0,AB Tryz.f76 0)]:=by kernel_rfl
theorem YL:AO Tryz.prog 76 (AF 0 2 Ka KZ KY Kc):=AH Hw Tryz.func76 (by kernel_rfl) (by kernel_rfl) rfl (fun v=>(ON v).trans (ACu v)) (AA ALs ⟨AGC,trivial⟩)
def LN:Env:=Ig.CD 76 1 50 (AF 0 2 Ka KZ KY Kc)
theorem Lg:AY Tryz.prog LN:=Env.Aw Hw YL (AG rfl rfl)
abbrev AGW:Hints:={  }
theorem YT:∀ v,GN v=AK 0 Tryz.prog LN AGW Tryz.f52 I6 I5 I4 v:=by
 rintro⟨a0,⟨⟩⟩
 kernel_rfl
theorem AGV:AD (AQ Tryz.f52) 0=[]:=by kernel_rfl
theorem VR:AO Tryz.prog 52 (AF 0 2 I6 I5 I4 DR):=AH Lg Tryz.func52 (by kernel_rfl) (by kernel_rfl) rfl (fun v=>(Mg v).trans (YT v)) (AA AGV trivial)
def JF:Env:=LN.CD 52 1 50 (AF 0 2 I6 I5 I4 DR)
theorem Jz:AY Tryz.prog JF:=Env.Aw Lg VR (AG rfl rfl)
def Ie:Env:=JF.ext 53 false false (Ck Tryz.prog JF {} Tryz.f53)
theorem Hv:AY Tryz.prog Ie:=Env.AZ Jz (CW Jz Tryz.func53 AaY AaX AaW) (by simp) (by simp)
abbrev Kl:Hints:={ loop:=fun n=>match n with|0=>Ac 0 19 OS OR Ce|_=>fun _ _ _=>none }
theorem UL:∀ v,Ce v=roundOf Tryz.prog Ie Kl 1 0 19 (AB Tryz.f77 0) OS OR v:=by
 rintro⟨a0,a1,a2,⟨⟩⟩
 kernel_rfl
theorem AGF:AD (AB Tryz.f77 0) 1=[]:=by kernel_rfl
theorem AGG:Ab Tryz.prog 0 (.loop (AB Tryz.f77 0)) (Kl.loop 0):=AU Hv (UL) (AA AGF trivial)
theorem ACw:∀ v,G2 v=AK 0 Tryz.prog Ie Kl Tryz.f77 Kk Kj Ki v:=by
 rintro⟨a0,⟨⟩⟩
 kernel_rfl
theorem ALu:AD (AQ Tryz.f77) 0=[(0,AB Tryz.f77 0)]:=by kernel_rfl
theorem YN:AO Tryz.prog 77 (AF 0 2 Kk Kj Ki Km):=AH Hv Tryz.func77 (by kernel_rfl) (by kernel_rfl) rfl (fun v=>(OT v).trans (ACw v)) (AA ALu ⟨AGG,trivial⟩)
def LO:Env:=Ie.CD 77 1 53 (AF 0 2 Kk Kj Ki Km)
theorem Lh:AY Tryz.prog LO:=Env.Aw Hv YN (AG rfl rfl)
abbrev AGY:Hints:={  }
theorem YU:∀ v,GO v=AK 0 Tryz.prog LO AGY Tryz.f55 I9 I8 I7 v:=by
 rintro⟨a0,⟨⟩⟩
 kernel_rfl
theorem AGX:AD (AQ Tryz.f55) 0=[]:=by kernel_rfl
theorem VS:AO Tryz.prog 55 (AF 0 2 I9 I8 I7 Gc):=AH Lh Tryz.func55 (by kernel_rfl) (by kernel_rfl) rfl (fun v=>(Mh v).trans (YU v)) (AA AGX trivial)
def JG:Env:=LO.CD 55 1 53 (AF 0 2 I9 I8 I7 Gc)
theorem J0:AY Tryz.prog JG:=Env.Aw Lh VS (AG rfl rfl)
abbrev Aez:Hints:={  }
theorem ATf:∀ v,QL v=AK 0 Tryz.prog JG Aez Tryz.f28 ZL ZK ZJ v:=by
 rintro⟨a0,⟨⟩⟩
 kernel_rfl
theorem Aey:AD (AQ Tryz.f28) 0=[]:=by kernel_rfl
theorem AN8:AO Tryz.prog 28 (AF 0 1 ZL ZK ZJ ZM):=AH J0 Tryz.func28 (by kernel_rfl) (by kernel_rfl) rfl (fun v=>(AGo v).trans (ATf v)) (AA Aey trivial)
def Rv:Env:=JG.ext 28 true true (AF 0 1 ZL ZK ZJ ZM)
theorem Ms:AY Tryz.prog Rv:=Env.AZ J0 AN8 (fun _=>AI rfl rfl) (fun _=>AG rfl rfl)
abbrev ADL:Hints:={ loop:=fun n=>match n with|0=>Ac 0 26 AIK AIJ US|_=>fun _ _ _=>none,fp:=fun n=>match n with|6=>[[],[],[],[],[],[],[],[],[]]|_=>[] }
theorem AMM:∀ v,US v=roundOf Tryz.prog Rv ADL 1 0 26 (AB Tryz.f69 0) AIK AIJ v:=by
 rintro⟨a0,a1,a2,a3,⟨⟩⟩
 kernel_rfl
theorem Adh:AD (AB Tryz.f69 0) 1=[]:=by kernel_rfl
theorem Adi:Ab Tryz.prog 0 (.loop (AB Tryz.f69 0)) (ADL.loop 0):=AU Ms (AMM) (AA Adh trivial)
theorem AXM:∀ v,ADM v=AK 0 Tryz.prog Rv ADL Tryz.f69 ADK ADJ ADI v:=by
 rintro⟨a0,a1,⟨⟩⟩
 kernel_rfl
theorem Aij:AD (AQ Tryz.f69) 0=[(0,AB Tryz.f69 0)]:=by kernel_rfl
theorem AR2:AO Tryz.prog 69 (AF 0 2 ADK ADJ ADI AMN):=AH Ms Tryz.func69 (by kernel_rfl) (by kernel_rfl) rfl (fun v=>(Adj v).trans (AXM v)) (AA Aij ⟨Adi,trivial⟩)
def SX:Env:=Rv.ext 69 true true (AF 0 2 ADK ADJ ADI AMN)
theorem M8:AY Tryz.prog SX:=Env.AZ Ms AR2 (fun _=>AI rfl rfl) (fun _=>AG rfl rfl)
abbrev ADQ:Hints:={ loop:=fun n=>match n with|0=>Ac 0 26 AIM AIL UT|_=>fun _ _ _=>none,fp:=fun n=>match n with|6=>[[],[],[],[],[],[],[],[],[]]|_=>[] }
theorem AMO:∀ v,UT v=roundOf Tryz.prog SX ADQ 1 0 26 (AB Tryz.f70 0) AIM AIL v:=by
 rintro⟨a0,a1,a2,a3,⟨⟩⟩
 kernel_rfl
theorem Adk:AD (AB Tryz.f70 0) 1=[]:=by kernel_rfl
theorem Adl:Ab Tryz.prog 0 (.loop (AB Tryz.f70 0)) (ADQ.loop 0):=AU M8 (AMO) (AA Adk trivial)
theorem AXN:∀ v,ADR v=AK 0 Tryz.prog SX ADQ Tryz.f70 ADP ADO ADN v:=by
 rintro⟨a0,a1,⟨⟩⟩
 kernel_rfl
theorem Aik:AD (AQ Tryz.f70) 0=[(0,AB Tryz.f70 0)]:=by kernel_rfl
theorem AR3:AO Tryz.prog 70 (AF 0 2 ADP ADO ADN equalA):=AH M8 Tryz.func70 (by kernel_rfl) (by kernel_rfl) rfl (fun v=>(Adm v).trans (AXN v)) (AA Aik ⟨Adl,trivial⟩)
def AFO:Env:=SX.ext 70 true true (AF 0 2 ADP ADO ADN equalA)
theorem X4:AY Tryz.prog AFO:=Env.AZ M8 AR3 (fun _=>AI rfl rfl) (fun _=>AG rfl rfl)
end
end Go.Pev
end
section
namespace Go.Pev
open Go.Proofs
noncomputable section
abbrev Ajm:Hints:={  }
theorem AaV:∀ v,AJL v=AK 0 Tryz.prog AFO Ajm Tryz.f37 AJK AJJ AJI v:=by
 rintro⟨a0,a1,⟨⟩⟩
 kernel_rfl
theorem Ajl:AD (AQ Tryz.f37) 0=[]:=by kernel_rfl
theorem ATe:AO Tryz.prog 37 (AF 0 2 AJK AJJ AJI AYr):=AH X4 Tryz.func37 (by kernel_rfl) (by kernel_rfl) rfl (fun v=>(Aex v).trans (AaV v)) (AA Ajl trivial)
def ANi:Env:=AFO.ext 37 true true (AF 0 2 AJK AJJ AJI AYr)
theorem AEx:AY Tryz.prog ANi:=Env.AZ X4 ATe (fun _=>AI rfl rfl) (fun _=>AG rfl rfl)
abbrev AjW:Hints:={  }
theorem AYa:∀ v,Rq v=AK 0 Tryz.prog ANi AjW Tryz.f36 AEk AEj AEi v:=by
 rintro⟨a0,⟨⟩⟩
 kernel_rfl
theorem AjV:AD (AQ Tryz.f36) 0=[]:=by kernel_rfl
theorem ATK:AO Tryz.prog 36 (AF 0 1 AEk AEj AEi AEl):=AH AEx Tryz.func36 (by kernel_rfl) (by kernel_rfl) rfl (fun v=>(AIx v).trans (AYa v)) (AA AjV trivial)
def NC:Env:=ANi.ext 36 true true (AF 0 1 AEk AEj AEi AEl)
theorem Iq:AY Tryz.prog NC:=Env.AZ AEx ATK (fun _=>AI rfl rfl) (fun _=>AG rfl rfl)
abbrev Ro:Hints:={ loop:=fun n=>match n with|0=>Ac 0 36 ATD ATB Ht|1=>Ac 0 36 ATC ATA Hs|_=>fun _ _ _=>none }
theorem AS8:∀ v,Hs v=roundOf Tryz.prog NC Ro 2 0 36 (AB Tryz.f14 1) ATC ATA v:=by
 rintro⟨a0,a1,a2,a3,⟨⟩⟩
 kernel_rfl
theorem AjQ:AD (AB Tryz.f14 1) 2=[]:=by kernel_rfl
theorem AjS:Ab Tryz.prog 0 (.loop (AB Tryz.f14 1)) (Ro.loop 1):=AU Iq (AS8) (AA AjQ trivial)
theorem AS9:∀ v,Ht v=roundOf Tryz.prog NC Ro 1 0 36 (AB Tryz.f14 0) ATD ATB v:=by
 rintro⟨a0,a1,a2,a3,a4,a5,a6,⟨⟩⟩
 kernel_rfl
theorem AjR:AD (AB Tryz.f14 0) 1=[]:=by kernel_rfl
theorem AjT:Ab Tryz.prog 0 (.loop (AB Tryz.f14 0)) (Ro.loop 0):=AU Iq (AS9) (AA AjR trivial)
theorem Ael:∀ v,Y7 v=AK 0 Tryz.prog NC Ro Tryz.f14 ANN ANM ANL v:=by
 rintro⟨a0,⟨⟩⟩
 kernel_rfl
theorem Aly:AD (AQ Tryz.f14) 0=[(0,AB Tryz.f14 0),(1,AB Tryz.f14 1)]:=by kernel_rfl
theorem AYV:AO Tryz.prog 14 (AF 0 1 ANN ANM ANL AIs):=AH Iq Tryz.func14 (by kernel_rfl) (by kernel_rfl) rfl (fun v=>(ATE v).trans (Ael v)) (AA Aly ⟨AjT,AjS,trivial⟩)
def AN2:Env:=NC.ext 14 true true (AF 0 1 ANN ANM ANL AIs)
theorem AFY:AY Tryz.prog AN2:=Env.AZ Iq AYV (fun _=>AI rfl rfl) (fun _=>AG rfl rfl)
abbrev Al6:Hints:={  }
theorem Aeq:∀ v,Y9 v=AK 0 Tryz.prog AN2 Al6 Tryz.f16 ANY ANX ANW v:=by
 rintro⟨a0,⟨⟩⟩
 kernel_rfl
theorem Al5:AD (AQ Tryz.f16) 0=[]:=by kernel_rfl
theorem AYY:AO Tryz.prog 16 (AF 0 1 ANY ANX ANW AIw):=AH AFY Tryz.func16 (by kernel_rfl) (by kernel_rfl) rfl (fun v=>(ATG v).trans (Aeq v)) (AA Al5 trivial)
def AN5:Env:=AN2.ext 16 true true (AF 0 1 ANY ANX ANW AIw)
theorem AFb:AY Tryz.prog AN5:=Env.AZ AFY AYY (fun _=>AI rfl rfl) (fun _=>AG rfl rfl)
abbrev Al2:Hints:={  }
theorem Aen:∀ v,ANU v=AK 0 Tryz.prog AN5 Al2 Tryz.f18 ANT ANS ANR v:=by
 rintro⟨a0,a1,⟨⟩⟩
 kernel_rfl
theorem Al1:AD (AQ Tryz.f18) 0=[]:=by kernel_rfl
theorem AYX:AO Tryz.prog 18 (AF 0 2 ANT ANS ANR AaM):=AH AFb Tryz.func18 (by kernel_rfl) (by kernel_rfl) rfl (fun v=>(AjU v).trans (Aen v)) (AA Al1 trivial)
def AN4:Env:=AN5.ext 18 true true (AF 0 2 ANT ANS ANR AaM)
theorem AFa:AY Tryz.prog AN4:=Env.AZ AFb AYX (fun _=>AI rfl rfl) (fun _=>AG rfl rfl)
abbrev Alg:Hints:={  }
theorem Ad1:∀ v,Y1 v=AK 0 Tryz.prog AN4 Alg Tryz.f78 AMg AMf AMe v:=by
 rintro⟨a0,⟨⟩⟩
 kernel_rfl
theorem Alf:AD (AQ Tryz.f78) 0=[]:=by kernel_rfl
theorem AXm:AO Tryz.prog 78 (AF 0 1 AMg AMf AMe AIV):=AH AFa Tryz.func78 (by kernel_rfl) (by kernel_rfl) rfl (fun v=>(ASK v).trans (Ad1 v)) (AA Alf trivial)
def ANx:Env:=AN4.ext 78 true true (AF 0 1 AMg AMf AMe AIV)
theorem AFP:AY Tryz.prog ANx:=Env.AZ AFa AXm (fun _=>AI rfl rfl) (fun _=>AG rfl rfl)
abbrev AnC:Hints:={  }
theorem Ait:∀ v,AMb v=AK 0 Tryz.prog ANx AnC Tryz.f57 AXj AXi AXh v:=by
 rintro⟨a0,⟨⟩⟩
 kernel_rfl
theorem AnB:AD (AQ Tryz.f57) 0=[]:=by kernel_rfl
theorem Adz:AO Tryz.prog 57 (AF 0 1 AXj AXi AXh Aiu):=AH AFP Tryz.func57 (by kernel_rfl) (by kernel_rfl) rfl (fun v=>(AaF v).trans (Ait v)) (AA AnB trivial)
def AYp:Env:=ANx.ext 57 true true (AF 0 1 AXj AXi AXh Aiu)
theorem AJB:AY Tryz.prog AYp:=Env.AZ AFP Adz (fun _=>AI rfl rfl) (fun _=>AG rfl rfl)
abbrev Ali:Hints:={  }
theorem Ad9:∀ v,Y2 v=AK 0 Tryz.prog AYp Ali Tryz.f59 AMn AMm AMl v:=by
 rintro⟨a0,⟨⟩⟩
 kernel_rfl
theorem Alh:AD (AQ Tryz.f59) 0=[]:=by kernel_rfl
theorem AXs:AO Tryz.prog 59 (AF 0 1 AMn AMm AMl ASP):=AH AJB Tryz.func59 (by kernel_rfl) (by kernel_rfl) rfl (fun v=>(ASO v).trans (Ad9 v)) (AA Alh trivial)
def ZG:Env:=AYp.ext 59 true true (AF 0 1 AMn AMm AMl ASP)
theorem QH:AY Tryz.prog ZG:=Env.AZ AJB AXs (fun _=>AI rfl rfl) (fun _=>AG rfl rfl)
abbrev VL:Hints:={ loop:=fun n=>match n with|0=>Ac 0 32 ADp ADo EH|_=>fun _ _ _=>none }
theorem AGP:∀ v,EH v=roundOf Tryz.prog ZG VL 1 0 32 (AB Tryz.f91 0) ADp ADo v:=by
 rintro⟨a0,a1,a2,a3,a4,⟨⟩⟩
 kernel_rfl
theorem AXn:AD (AB Tryz.f91 0) 1=[]:=by kernel_rfl
theorem AXo:Ab Tryz.prog 0 (.loop (AB Tryz.f91 0)) (VL.loop 0):=AU QH (AGP) (AA AXn trivial)
theorem ASM:∀ v,Nm v=AK 0 Tryz.prog ZG VL Tryz.f91 VK VJ VI v:=by
 rintro⟨a0,⟨⟩⟩
 kernel_rfl
theorem Ad2:AD (AQ Tryz.f91) 0=[(0,AB Tryz.f91 0)]:=by kernel_rfl
theorem AMh:AO Tryz.prog 91 (AF 0 1 VK VJ VI Rc):=AH QH Tryz.func91 (by kernel_rfl) (by kernel_rfl) rfl (fun v=>(ADq v).trans (ASM v)) (AA Ad2 ⟨AXo,trivial⟩)
def We:Env:=ZG.ext 91 true true (AF 0 1 VK VJ VI Rc)
theorem Sd:AY Tryz.prog We:=Env.AZ QH AMh (fun _=>AI rfl rfl) (fun _=>AG rfl rfl)
abbrev Abd:Hints:={  }
theorem APN:∀ v,JO v=AK 0 Tryz.prog We Abd Tryz.f110 TT TS TR v:=by
 rintro⟨a0,⟨⟩⟩
 kernel_rfl
theorem Abc:AD (AQ Tryz.f110) 0=[]:=by kernel_rfl
theorem AKX:AO Tryz.prog 110 (AF 0 1 TT TS TR KA):=AH Sd Tryz.func110 (by kernel_rfl) (by kernel_rfl) rfl (fun v=>(O9 v).trans (APN v)) (AA Abc trivial)
def WN:Env:=We.ext 110 true true (AF 0 1 TT TS TR KA)
theorem R9:AY Tryz.prog WN:=Env.AZ Sd AKX (fun _=>AI rfl rfl) (fun _=>AG rfl rfl)
abbrev Af2:Hints:={  }
theorem AUg:∀ v,Qi v=AK 0 Tryz.prog WN Af2 Tryz.f153 AAd AAc AAb v:=by
 rintro⟨a0,a1,⟨⟩⟩
 kernel_rfl
theorem Af1:AD (AQ Tryz.f153) 0=[]:=by kernel_rfl
theorem APC:AO Tryz.prog 153 (AF 0 2 AAd AAc AAb AAe):=AH R9 Tryz.func153 (by kernel_rfl) (by kernel_rfl) rfl (fun v=>(AHN v).trans (AUg v)) (AA Af1 trivial)
def AFA:Env:=WN.ext 153 true true (AF 0 2 AAd AAc AAb AAe)
theorem Xw:AY Tryz.prog AFA:=Env.AZ R9 APC (fun _=>AI rfl rfl) (fun _=>AG rfl rfl)
abbrev AgO:Hints:={  }
theorem AU7:∀ v,Qq v=AK 0 Tryz.prog AFA AgO Tryz.f138 AAz AAy AAx v:=by
 rintro⟨a0,a1,a2,⟨⟩⟩
 kernel_rfl
theorem AgN:AD (AQ Tryz.f138) 0=[]:=by kernel_rfl
theorem APc:AO Tryz.prog 138 (AF 0 3 AAz AAy AAx PB):=AH Xw Tryz.func138 (by kernel_rfl) (by kernel_rfl) rfl (fun v=>(AHT v).trans (AU7 v)) (AA AgN trivial)
def SA:Env:=AFA.ext 138 true true (AF 0 3 AAz AAy AAx PB)
theorem Mw:AY Tryz.prog SA:=Env.AZ Xw APc (fun _=>AI rfl rfl) (fun _=>AG rfl rfl)
end
end Go.Pev
end
section
namespace Go.Pev
open Go.Proofs
noncomputable section
abbrev AKb:Hints:={ loop:=fun n=>match n with|0=>Ac 0 37 APU APT HU|_=>fun _ _ _=>none }
theorem APS:∀ v,HU v=roundOf Tryz.prog SA AKb 1 0 37 (AB Tryz.f113 0) APU APT v:=by
 rintro⟨a0,a1,a2,a3,a4,a5,⟨⟩⟩
 kernel_rfl
theorem AgC:AD (AB Tryz.f113 0) 1=[]:=by kernel_rfl
theorem AgD:Ab Tryz.prog 0 (.loop (AB Tryz.f113 0)) (AKb.loop 0):=AU Mw (APS) (AA AgC trivial)
theorem Abf:∀ v,Yn v=AK 0 Tryz.prog SA AKb Tryz.f113 AKa AKZ AKY v:=by
 rintro⟨a0,a1,⟨⟩⟩
 kernel_rfl
theorem AkL:AD (AQ Tryz.f113) 0=[(0,AB Tryz.f113 0)]:=by kernel_rfl
theorem AUo:AO Tryz.prog 113 (AF 0 2 AKa AKZ AKY APW):=AH Mw Tryz.func113 (by kernel_rfl) (by kernel_rfl) rfl (fun v=>(APV v).trans (Abf v)) (AA AkL ⟨AgD,trivial⟩)
def Nz:Env:=SA.ext 113 true true (AF 0 2 AKa AKZ AKY APW)
theorem Hz:AY Tryz.prog Nz:=Env.AZ Mw AUo (fun _=>AI rfl rfl) (fun _=>AG rfl rfl)
abbrev AA0:Hints:={ loop:=fun n=>match n with|0=>Ac 0 91 AgY AgU PE|1=>Ac 0 91 AgX AgT PD|2=>Ac 0 91 AgW AgS PC|_=>fun _ _ _=>none,fp:=fun n=>match n with|10=>[[],[],[],[0],[0],[],[],[0],[0],[],[0],[1]]|_=>[] }
theorem Abo:∀ v,PC v=roundOf Tryz.prog Nz AA0 3 0 91 (AB Tryz.f112 2) AgW AgS v:=by
 rintro⟨a0,a1,a2,a3,a4,a5,a6,a7,⟨⟩⟩
 kernel_rfl
theorem Amd:AD (AB Tryz.f112 2) 3=[]:=by kernel_rfl
theorem Amg:Ab Tryz.prog 0 (.loop (AB Tryz.f112 2)) (AA0.loop 2):=AU Hz (Abo) (AA Amd trivial)
theorem Abp:∀ v,PD v=roundOf Tryz.prog Nz AA0 2 0 91 (AB Tryz.f112 1) AgX AgT v:=by
 rintro⟨a0,a1,a2,a3,a4,a5,a6,⟨⟩⟩
 kernel_rfl
theorem Ame:AD (AB Tryz.f112 1) 2=[]:=by kernel_rfl
theorem Amh:Ab Tryz.prog 0 (.loop (AB Tryz.f112 1)) (AA0.loop 1):=AU Hz (Abp) (AA Ame trivial)
theorem Abq:∀ v,PE v=roundOf Tryz.prog Nz AA0 1 0 91 (AB Tryz.f112 0) AgY AgU v:=by
 rintro⟨a0,a1,a2,a3,a4,a5,a6,a7,⟨⟩⟩
 kernel_rfl
theorem Amf:AD (AB Tryz.f112 0) 1=[]:=by kernel_rfl
theorem Ami:Ab Tryz.prog 0 (.loop (AB Tryz.f112 0)) (AA0.loop 0):=AU Hz (Abq) (AA Amf trivial)
theorem AkX:∀ v,AZH v=AK 0 Tryz.prog Nz AA0 Tryz.f112 AgZ AgV AgR v:=by
 rintro⟨a0,a1,a2,a3,⟨⟩⟩
 kernel_rfl
theorem AnS:AD (AQ Tryz.f112) 0=[(0,AB Tryz.f112 0),(1,AB Tryz.f112 1),(2,AB Tryz.f112 2)]:=by kernel_rfl
theorem AgQ:AO Tryz.prog 112 (AF 0 4 AgZ AgV AgR rby):=AH Hz Tryz.func112 (by kernel_rfl) (by kernel_rfl) rfl (fun v=>(Aga v).trans (AkX v)) (AA AnS ⟨Ami,Amh,Amg,trivial⟩)
def Aji:Env:=Nz.ext 112 true true (AF 0 4 AgZ AgV AgR rby)
theorem ATW:AY Tryz.prog Aji:=Env.AZ Hz AgQ (fun _=>AI rfl rfl) (fun _=>AG rfl rfl)
abbrev AOi:Hints:={  }
theorem AFf:∀ v,IC v=AK 0 Tryz.prog Aji AOi Tryz.f196 Lw Lv Lu v:=by
 rintro⟨a0,a1,⟨⟩⟩
 kernel_rfl
theorem AOh:AD (AQ Tryz.f196) 0=[]:=by kernel_rfl
theorem Z4:AO Tryz.prog 196 (AF 0 2 Lw Lv Lu HB):=AH ATW Tryz.func196 (by kernel_rfl) (by kernel_rfl) rfl (fun v=>(QW v).trans (AFf v)) (AA AOh trivial)
def Ii:Env:=Aji.ext 196 true true (AF 0 2 Lw Lv Lu HB)
theorem Hy:AY Tryz.prog Ii:=Env.AZ ATW Z4 (fun _=>AI rfl rfl) (fun _=>AG rfl rfl)
abbrev S5:Hints:={ loop:=fun n=>match n with|0=>Ac 0 72 Zw Zv D5|_=>fun _ _ _=>none }
theorem AFd:∀ v,D5 v=roundOf Tryz.prog Ii S5 1 0 72 (AB Tryz.f202 0) Zw Zv v:=by
 rintro⟨a0,a1,a2,a3,a4,a5,⟨⟩⟩
 kernel_rfl
theorem ATz:AD (AB Tryz.f202 0) 1=[]:=by kernel_rfl
theorem AT0:Ab Tryz.prog 0 (.loop (AB Tryz.f202 0)) (S5.loop 0):=AU Hy (AFd) (AA ATz trivial)
theorem AOc:∀ v,NJ v=AK 0 Tryz.prog Ii S5 Tryz.f202 S4 S3 S2 v:=by
 rintro⟨a0,⟨⟩⟩
 kernel_rfl
theorem Aa3:AD (AQ Tryz.f202) 0=[(0,AB Tryz.f202 0)]:=by kernel_rfl
theorem AJo:AO Tryz.prog 202 (AF 0 1 S4 S3 S2 NK):=AH Hy Tryz.func202 (by kernel_rfl) (by kernel_rfl) rfl (fun v=>(Zx v).trans (AOc v)) (AA Aa3 ⟨AT0,trivial⟩)
def WI:Env:=Ii.ext 202 true true (AF 0 1 S4 S3 S2 NK)
theorem R0:AY Tryz.prog WI:=Env.AZ Hy AJo (fun _=>AI rfl rfl) (fun _=>AG rfl rfl)
abbrev Aa2:Hints:={  }
theorem AOb:∀ v,NI v=AK 0 Tryz.prog WI Aa2 Tryz.f209 S1 S0 Sy v:=by
 rintro⟨a0,a1,⟨⟩⟩
 kernel_rfl
theorem Aa1:AD (AQ Tryz.f209) 0=[]:=by kernel_rfl
theorem AJn:AO Tryz.prog 209 (AF 0 2 S1 S0 Sy J6):=AH R0 Tryz.func209 (by kernel_rfl) (by kernel_rfl) rfl (fun v=>(Zu v).trans (AOb v)) (AA Aa1 trivial)
def WH:Env:=WI.ext 209 true true (AF 0 2 S1 S0 Sy J6)
theorem Rz:AY Tryz.prog WH:=Env.AZ R0 AJn (fun _=>AI rfl rfl) (fun _=>AG rfl rfl)
abbrev Aa0:Hints:={  }
theorem AOa:∀ v,NH v=AK 0 Tryz.prog WH Aa0 Tryz.f210 Sx Sw Sv v:=by
 rintro⟨a0,⟨⟩⟩
 kernel_rfl
theorem Aaz:AD (AQ Tryz.f210) 0=[]:=by kernel_rfl
theorem AJm:AO Tryz.prog 210 (AF 0 1 Sx Sw Sv IB):=AH Rz Tryz.func210 (by kernel_rfl) (by kernel_rfl) rfl (fun v=>(Zt v).trans (AOa v)) (AA Aaz trivial)
def WG:Env:=WH.ext 210 true true (AF 0 1 Sx Sw Sv IB)
theorem Ry:AY Tryz.prog WG:=Env.AZ Rz AJm (fun _=>AI rfl rfl) (fun _=>AG rfl rfl)
abbrev Aa5:Hints:={ fp:=fun n=>match n with|1=>[[0],[],[],[],[],[0],[0],[],[],[],[],[0],[0],[],[],[]]|_=>[] }
theorem AOe:∀ v,NL v=AK 0 Tryz.prog WG Aa5 Tryz.f205 S8 S7 S6 v:=by
 rintro⟨a0,a1,⟨⟩⟩
 kernel_rfl
theorem Aa4:AD (AQ Tryz.f205) 0=[]:=by kernel_rfl
theorem AJp:AO Tryz.prog 205 (AF 0 2 S8 S7 S6 NM):=AH Ry Tryz.func205 (by kernel_rfl) (by kernel_rfl) rfl (fun v=>(Z2 v).trans (AOe v)) (AA Aa4 trivial)
def WJ:Env:=WG.ext 205 true true (AF 0 2 S8 S7 S6 NM)
theorem R2:AY Tryz.prog WJ:=Env.AZ Ry AJp (fun _=>AI rfl rfl) (fun _=>AG rfl rfl)
abbrev Aa8:Hints:={  }
theorem AOk:∀ v,NN v=AK 0 Tryz.prog WJ Aa8 Tryz.f189 TB TA S9 v:=by
 rintro⟨a0,a1,⟨⟩⟩
 kernel_rfl
theorem Aa7:AD (AQ Tryz.f189) 0=[]:=by kernel_rfl
theorem AJt:AO Tryz.prog 189 (AF 0 2 TB TA S9 QX):=AH R2 Tryz.func189 (by kernel_rfl) (by kernel_rfl) rfl (fun v=>(Z5 v).trans (AOk v)) (AA Aa7 trivial)
def AI2:Env:=WJ.ext 189 true true (AF 0 2 TB TA S9 QX)
theorem ANn:AY Tryz.prog AI2:=Env.AZ R2 AJt (fun _=>AI rfl rfl) (fun _=>AG rfl rfl)
theorem AeQ : (Tryz.f211.name == "runtime.NumGoroutine") = false := by kernel_rfl
theorem AGe:LW Tryz.prog Tryz.f211 171 199 (.prod (.int .i64) (.prod (.int .i64) (.prod (.int .i64) (.prod (.int .i64) .unit)))) where
 body:=by kernel_rfl
 nt:=by kernel_rfl
 res:=by kernel_rfl
 d:=⟨by kernel_rfl,by kernel_rfl,by kernel_rfl,by kernel_rfl,by kernel_rfl,by kernel_rfl,by kernel_rfl,by kernel_rfl⟩
 g:=⟨by kernel_rfl,by kernel_rfl,by kernel_rfl,by kernel_rfl,by kernel_rfl,by kernel_rfl,by kernel_rfl,by kernel_rfl⟩
 o00:=by kernel_rfl
 o10:=by kernel_rfl
 o11:=by kernel_rfl
 o20:=by kernel_rfl
 o30:=by kernel_rfl
 o31:=by kernel_rfl
 o32:=by kernel_rfl
 o33:=by kernel_rfl
 sl:=by kernel_rfl
 z:=by kernel_rfl
 by1:=by kernel_rfl
def AJC:Env:=AI2.ext 211 true true (Ea 199 (.prod (.int .i64) (.prod (.int .i64) (.prod (.int .i64) (.prod (.int .i64) .unit)))))
theorem ANz:AY Tryz.prog AJC:=Env.AZ ANn (AEE AGe Tryz.func211 AeQ) (fun _=>CP _ _) (fun _=>(CP _ _).Ajz)
theorem Ai7 : (Tryz.f212.name == "runtime.NumGoroutine") = false := by kernel_rfl
theorem AM3:LW Tryz.prog Tryz.f212 104 4 .bool where
 body:=by kernel_rfl
 nt:=by kernel_rfl
 res:=by kernel_rfl
 d:=⟨by kernel_rfl,by kernel_rfl,by kernel_rfl,by kernel_rfl,by kernel_rfl,by kernel_rfl,by kernel_rfl,by kernel_rfl⟩
 g:=⟨by kernel_rfl,by kernel_rfl,by kernel_rfl,by kernel_rfl,by kernel_rfl,by kernel_rfl,by kernel_rfl,by kernel_rfl⟩
 o00:=by kernel_rfl
 o10:=by kernel_rfl
 o11:=by kernel_rfl
 o20:=by kernel_rfl
 o30:=by kernel_rfl
 o31:=by kernel_rfl
 o32:=by kernel_rfl
 o33:=by kernel_rfl
 sl:=by kernel_rfl
 z:=by kernel_rfl
 by1:=by kernel_rfl
def ATb:Env:=AJC.ext 212 true true (Ea 4 .bool)
theorem ATa:AY Tryz.prog ATb:=Env.AZ ANz (AEE AM3 Tryz.func212 Ai7) (fun _=>CP _ _) (fun _=>(CP _ _).Ajz)
theorem Ai6 : (Tryz.f198.name == "runtime.NumGoroutine") = false := by kernel_rfl
theorem AM2:LW Tryz.prog Tryz.f198 76 41 (.slice (.int .i64)) where
 body:=by kernel_rfl
 nt:=by kernel_rfl
 res:=by kernel_rfl
 d:=⟨by kernel_rfl,by kernel_rfl,by kernel_rfl,by kernel_rfl,by kernel_rfl,by kernel_rfl,by kernel_rfl,by kernel_rfl⟩
 g:=⟨by kernel_rfl,by kernel_rfl,by kernel_rfl,by kernel_rfl,by kernel_rfl,by kernel_rfl,by kernel_rfl,by kernel_rfl⟩
 o00:=by kernel_rfl
 o10:=by kernel_rfl
 o11:=by kernel_rfl
 o20:=by kernel_rfl
 o30:=by kernel_rfl
 o31:=by kernel_rfl
 o32:=by kernel_rfl
 o33:=by kernel_rfl
 sl:=by kernel_rfl
 z:=by kernel_rfl
 by1:=by kernel_rfl
def ATZ:Env:=ATb.ext 198 true true (Ea 41 (.slice (.int .i64)))
theorem ATY:AY Tryz.prog ATZ:=Env.AZ ATa (AEE AM2 Tryz.func198 Ai6) (fun _=>CP _ _) (fun _=>(CP _ _).Ajz)
theorem Alr : (Tryz.f207.name == "runtime.NumGoroutine") = false := by kernel_rfl
theorem ASf:AJD Tryz.prog Tryz.f207 41 3 1 where
 body:=by kernel_rfl
 nt:=by kernel_rfl
 res:=by kernel_rfl
 d:=⟨by kernel_rfl,by kernel_rfl,by kernel_rfl,by kernel_rfl,by kernel_rfl,by kernel_rfl,by kernel_rfl,by kernel_rfl⟩
 g:=⟨by kernel_rfl,by kernel_rfl,by kernel_rfl,by kernel_rfl,by kernel_rfl,by kernel_rfl,by kernel_rfl,by kernel_rfl⟩
 o00:=by kernel_rfl
 o10:=by kernel_rfl
 o11:=by kernel_rfl
 o12:=by kernel_rfl
 o13:=by kernel_rfl
 o14:=by kernel_rfl
 o15:=by kernel_rfl
 o16:=by kernel_rfl
 sl:=by kernel_rfl
 sz:=by kernel_rfl
def AN0:Env:=ATZ.ext 207 true true (Mk 1)
theorem AFT:AY Tryz.prog AN0:=Env.AZ ATY (Alq ASf Tryz.func207 Alr) (fun _=>Mj _) (fun _=>(Mj _).Ajz)
end
end Go.Pev
end
