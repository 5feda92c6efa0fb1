/- A part of the proofs of this seat: ALIAS T19a T22a T21a T23a T23b T24a T24b PevDefs PevEval PevLoop PevSem PevStep PevConv PevRun PevOps PevPrs0 PevOps2 PevOps3 PevOps4 PevOps5 PevOps6 PevOps7 PevOps8 PevOps9. -/
import Derived.Calls
import Derived.Laws.Sem
import Derived.Orders
import Derived.Below
import Derived.Laws.AppendOwn
import Derived.Laws.Entries
import Derived.Maps.AppendAt
import Derived.Laws.Small
import Derived.Laws.StructEq
set_option linter.unusedVariables false
set_option linter.unusedSimpArgs false
set_option linter.unusedSectionVars false
set_option maxRecDepth 100000
section
namespace Go.Pev
abbrev AUM:=@Option.some.injEq
abbrev AUN:=@decide_eq_false
abbrev AUO:=@decide_eq_true
abbrev AUP:=@decide_eq_true_eq
abbrev AUQ:=@List.mem_append
abbrev AUR:=@Bool.and_eq_true
abbrev AUS:=@List.getD_eq_getElem?_getD
abbrev AUT:=@List.mem_cons
abbrev AUU:=@List.getElem?_eq_getElem
abbrev AUV:=@Nat.le_refl
abbrev AUW:=@Int.eq_ofNat_of_zero_le
abbrev AUX:=@decide_true
abbrev AUY:=@List.length_cons
abbrev AUZ:=@if_neg
abbrev AUa:=@if_false
abbrev AUb:=@List.length_append
abbrev AUc:=@Bool.false_eq_true
abbrev AUd:=@Option.map_eq_some_iff
abbrev AUe:=@List.mem_of_getElem?
abbrev AUf:=@if_pos
abbrev AUg:=@decide_false
abbrev AUh:=@Bool.not_true
abbrev AUi:=@Array.length_toList
abbrev AUj:=@List.all_eq_true
abbrev AUk:=@List.mem_cons_of_mem
abbrev AUl:=@List.cons.injEq
abbrev AUm:=@List.mem_map
abbrev AUn:=@List.getElem?_eq_some_iff
abbrev AUo:=@List.cons_append
abbrev AUp:=@Prod.mk.injEq
abbrev AUq:=@List.length_take
abbrev AUr:=@List.eq_nil_of_length_eq_zero
abbrev AUs:=@List.map_cons
abbrev AUt:=@List.mem_singleton
abbrev AUu:=@List.nodup_cons
abbrev AUv:=@if_true
abbrev AUw:=@List.getElem?_append_left
abbrev AUx:=@Option.bind_eq_some_iff
abbrev AUy:=@Option.bind_some
abbrev AUz:=@Array.getD_eq_getD_getElem?
abbrev AU0:=@List.getElem?_eq_none
abbrev AU1:=@Ne.symm
abbrev AU2:=@List.getElem?_append_right
abbrev AU3:=@List.length_nil
abbrev AU4:=@List.pairwise_iff_getElem
abbrev AU5:=@Option.getD_some
abbrev AU6:=@List.pairwise_cons
abbrev AU7:=@List.getElem?_set_ne
abbrev AU8:=@Nat.mul_le_mul_right
abbrev AU9:=@List.length_range
abbrev AVA:=@List.nil_append
abbrev AVB:=@Bool.not_false
abbrev AVC:=@List.drop_eq_getElem_cons
abbrev AVD:=@List.length_drop
abbrev AVE:=@decide_eq_false_iff_not
abbrev AVF:=@Nat.lt_or_ge
abbrev AVG:=@Classical.byContradiction
abbrev AVH:=@Array.getElem?_eq_getElem
abbrev AVI:=@Int.toNat_natCast
abbrev AVJ:=@Nat.add_mul
abbrev AVK:=@List.take_of_length_le
abbrev AVL:=@Nat.zero_add
abbrev AVM:=@List.mem_filter
abbrev AVN:=@List.foldl_cons
abbrev AVO:=@List.getElem_of_mem
abbrev AVP:=@List.getElem?_cons_zero
abbrev AVQ:=@List.getElem?_map
abbrev AVR:=@List.getElem?_drop
abbrev AVS:=@decide_eq_true_iff
abbrev AVT:=@Nat.le_trans
abbrev AVU:=@Array.toList_map
abbrev AVV:=@List.take_append_drop
abbrev AVW:=@Nat.eq_of_beq_eq_true
abbrev AVX:=@not_true_eq_false
abbrev AVY:=@List.getElem?_take
abbrev AVZ:=@Nat.eq_zero_or_pos
abbrev AVa:=@Option.some.inj
abbrev AVb:=@List.drop_of_length_le
abbrev AVc:=@List.append_assoc
abbrev AVd:=@List.flatMap_cons
abbrev AVe:=@Nat.min_eq_left
abbrev AVf:=@List.filter_cons
abbrev AVg:=@List.mem_of_mem_drop
abbrev AVh:=@List.contains_eq_mem
abbrev AVi:=@Nat.add_zero
abbrev AVj:=@Bool.or_eq_true
abbrev AVk:=@List.append_nil
abbrev AVl:=@List.range_succ
abbrev AVm:=@List.length_replicate
abbrev AVn:=@Nat.lt_of_lt_of_le
abbrev AVo:=@Nat.one_mul
abbrev AVp:=@Array.toArray_toList
abbrev AVq:=@List.getLast?_concat
abbrev AVr:=@Bool.not_eq_true'
abbrev AVs:=@of_decide_eq_true
abbrev AVt:=@true_and
abbrev AVu:=@List.length_map
abbrev AVv:=@false_and
abbrev AVw:=@List.findIdx_lt_length
abbrev AVx:=@List.take_append
abbrev AVy:=@List.take_succ_eq_append_getElem
abbrev AVz:=@List.mem_range
abbrev AV0:=@List.drop_drop
abbrev AV1:=@List.tail_cons
abbrev AV2:=@gt_iff_lt
abbrev AV3:=@List.map_append
abbrev AV4:=@beq_iff_eq
abbrev AV5:=@congrArg
abbrev AV6:=@List.eq_of_mem_replicate
abbrev AV7:=@Option.isSome_iff_exists
abbrev AV8:=@Nat.lt_trichotomy
abbrev AV9:=@List.pairwise_map
abbrev AWA:=@List.perm_append_comm
abbrev AWB:=@Array.getElem?_toList
abbrev AWC:=@Int.tdiv_eq_ediv_of_nonneg
abbrev AWD:=@List.ext_getElem?
abbrev AWE:=@List.nodup_append
abbrev AWF:=@List.getLast?_append
abbrev AWG:=@Bool.false_and
abbrev AWH:=@List.countP_cons
abbrev AWI:=@Nat.sub_self
abbrev AWJ:=@List.map_nil
abbrev AWK:=@List.take_length
abbrev AWL:=@List.any_eq_true
abbrev AWM:=@List.not_mem_nil
abbrev AWN:=@List.getElem_mem
abbrev AWO:=@Array.toList_append
abbrev AWP:=@List.eraseIdx_cons_succ
abbrev AWQ:=@Nat.add_assoc
abbrev AWR:=@Bool.eq_iff_iff
abbrev AWS:=@Option.map_some
abbrev AWT:=@Nat.zero_le
abbrev AWU:=@List.getElem?_set_self
abbrev AWV:=@List.getLast?_eq_some_getLast
abbrev AWW:=@Classical.not_not
abbrev AWX:=@List.flatten_cons
abbrev AWY:=@List.size_toArray
abbrev AWZ:=@List.findIdx_cons
abbrev AWa:=@List.take_take
abbrev AWb:=@Nat.mul_le_mul
abbrev AWc:=@List.singleton_append
abbrev AWd:=@decide_eq_decide
abbrev AWe:=@List.mem_of_mem_take
abbrev AWf:=@List.Pairwise.filter
abbrev AWg:=@List.pairwise_append
abbrev AWh:=@List.findIdx_getElem
abbrev AWi:=@List.drop_one
abbrev AWj:=@Bool.and_true
abbrev AWk:=@List.sum_cons
abbrev AWl:=@Array.toList_modify
abbrev AWm:=@List.flatMap_append
abbrev AWn:=@Array.mapM_eq_mapM_toList
abbrev AWo:=@List.extract_eq_take_drop
abbrev AWp:=@List.filter_append
abbrev AWq:=@Nat.zero_mul
abbrev AWr:=@List.append_of_mem
abbrev AWs:=@List.drop_zero
abbrev AWt:=@List.take_left
abbrev AWu:=@List.getElem?_cons_succ
abbrev AWv:=@List.getLast?_cons_cons
abbrev AWw:=@List.filter_congr
abbrev AWx:=@Option.map_eq_none_iff
abbrev AWy:=@Bool.true_and
abbrev AWz:=@Bool.and_self
abbrev AW0:=@Nat.max_eq_right
abbrev AW1:=@List.nodup_range
abbrev AW2:=@List.drop_append
abbrev AW3:=@List.range'_succ
abbrev AW4:=@List.mem_flatMap
end Go.Pev
end
section
namespace Go.Pev.Pl
abbrev Edge:=Int×Int×Unit
inductive Con(l:List Edge):Int→Int→Prop
 |refl (a:Int):Con l a a
 |edge (e:Edge):e∈l→Con l e.1 e.2.1
 |symm {a b:Int}:Con l a b→Con l b a
 |trans {a b c:Int}:Con l a b→Con l b c→Con l a c
theorem Con.mono{l l':List Edge}(h:∀ e∈l,∃ e'∈l',(e'.1=e.1∧e'.2.1=e.2.1)∨(e'.1=e.2.1∧e'.2.1=e.1)){a b:Int}(c:Con l a b):Con l' a b:=by
 induction c with
 |refl a=>exact .refl a
 |edge e he=>
  obtain⟨e',h1,h2|h2⟩:=h e he
  ·have:=Con.edge e' h1
   rw[h2.1,h2.2]at this
   exact this
  ·have:=Con.edge e' h1
   rw[h2.1,h2.2]at this
   exact this.symm
 |symm _ ih=>exact ih.symm
 |trans _ _ ih1 ih2=>exact ih1.trans ih2
theorem Con.snoc{l:List Edge}{e:Edge}{a b:Int}:Con (l++[e]) a b↔Con l a b∨(Con l a e.1∧Con l e.2.1 b)∨(Con l a e.2.1∧Con l e.1 b):=by
 constructor
 ·intro h
  induction h with
  |refl a=>exact .inl (.refl a)
  |edge e' he=>
   rcases AUQ.1 he with h|h
   ·exact .inl (.edge e' h)
   ·simp only[AUt]at h
    subst h
    exact .inr (.inl ⟨.refl _,.refl _⟩)
  |symm _ ih=>
   rcases ih with h|⟨h1,h2⟩|⟨h1,h2⟩
   ·exact .inl h.symm
   ·exact .inr (.inr ⟨h2.symm,h1.symm⟩)
   ·exact .inr (.inl ⟨h2.symm,h1.symm⟩)
  |trans _ _ ih1 ih2=>
   rcases ih1 with h|⟨h1,h2⟩|⟨h1,h2⟩
   ·rcases ih2 with g|⟨g1,g2⟩|⟨g1,g2⟩
    ·exact .inl (h.trans g)
    ·exact .inr (.inl ⟨h.trans g1,g2⟩)
    ·exact .inr (.inr ⟨h.trans g1,g2⟩)
   ·rcases ih2 with g|⟨g1,g2⟩|⟨g1,g2⟩
    ·exact .inr (.inl ⟨h1,h2.trans g⟩)
    ·exact .inr (.inl ⟨h1,g2⟩)
    ·exact .inl (h1.trans g2)
   ·rcases ih2 with g|⟨g1,g2⟩|⟨g1,g2⟩
    ·exact .inr (.inr ⟨h1,h2.trans g⟩)
    ·exact .inl (h1.trans g2)
    ·exact .inr (.inr ⟨h1,g2⟩)
 ·have up:∀ {x y},Con l x y→Con (l++[e]) x y:=fun h=>h.mono fun e' he=>⟨e',by simp[he],.inl ⟨rfl,rfl⟩⟩
  have he:Con (l++[e]) e.1 e.2.1:=.edge e (by simp)
  rintro (h|⟨h1,h2⟩|⟨h1,h2⟩)
  ·exact up h
  ·exact(up h1).trans (he.trans (up h2))
  ·exact(up h1).trans (he.symm.trans (up h2))
theorem Con.nil{a b:Int}(h:Con [] a b):a=b:=by
 induction h with
 |refl a=>rfl
 |edge e he=>cases he
 |symm _ ih=>exact ih.symm
 |trans _ _ ih1 ih2=>exact ih1.trans ih2
theorem Con.within{l:List Edge}{I:Int→Prop}(h:∀ e∈l,I e.1∧I e.2.1){a b:Int}(c:Con l a b):a=b∨(I a∧I b):=by
 induction c with
 |refl a=>exact .inl rfl
 |edge e he=>exact .inr (h e he)
 |symm _ ih=>
  rcases ih with h|h
  ·exact .inl h.symm
  ·exact .inr ⟨h.2,h.1⟩
 |trans _ _ ih1 ih2=>
  rcases ih1 with rfl|h1
  ·exact ih2
  ·rcases ih2 with rfl|h2
   ·exact .inr h1
   ·exact .inr ⟨h1.1,h2.2⟩
theorem Con.const{l:List Edge}{f:Int→Int}(h:∀ e∈l,f e.1=f e.2.1){a b:Int}(c:Con l a b):f a=f b:=by
 induction c with
 |refl a=>rfl
 |edge e he=>exact h e he
 |symm _ ih=>exact ih.symm
 |trans _ _ ih1 ih2=>exact ih1.trans ih2
end Go.Pev.Pl
end
section
namespace Go.Pev.Pl
def Low(l:List Edge)(k:Nat):Prop:=∀ j:Nat,j<k→¬ Con l (j:Int) (k:Int)
noncomputable def AP0(l:List Edge)(k:Nat):Bool:=@decide (Low l k) (Classical.propDecidable _)
theorem GB(l:List Edge)(k:Nat):AP0 l k=true↔Low l k:=by
 unfold AP0
 exact @decide_eq_true_iff _ (Classical.propDecidable _)
noncomputable def cc(N:Nat)(l:List Edge):Nat:=(List.range N).countP (AP0 l)
noncomputable def KB(l:List Edge)(a b:Int):Bool:=@decide (Con l a b) (Classical.propDecidable _)
theorem B7(l:List Edge)(a b:Int):KB l a b=true↔Con l a b:=by
 unfold KB
 exact @decide_eq_true_iff _ (Classical.propDecidable _)
theorem GQ(l:List Edge)(a b:Int):KB l a b=false↔¬ Con l a b:=by
 rw[← B7];cases KB l a b<;>simp
theorem Con.sub{l l':List Edge}(h:∀ e∈l,e∈l'){a b:Int}(c:Con l a b):Con l' a b:=c.mono fun e he=>⟨e,h e he,.inl ⟨rfl,rfl⟩⟩
theorem Con.cut{l l':List Edge}(h:∀ e∈l,Con l' e.1 e.2.1){a b:Int}(c:Con l a b):Con l' a b:=by
 induction c with
 |refl a=>exact .refl a
 |edge e he=>exact h e he
 |symm _ ih=>exact ih.symm
 |trans _ _ ih1 ih2=>exact ih1.trans ih2
theorem APz(l:List Edge):∀ v:Nat,∃ m:Nat,m≤v∧Con l (m:Int) (v:Int)∧Low l m:=by
 intro v
 induction v using Nat.strongRecOn with
 |ind v ih=>
  by_cases h:Low l v
  ·exact⟨v,AUV _,.refl _,h⟩
  ·have:∃ j:Nat,j<v∧Con l (j:Int) (v:Int):=AVG fun hn=>h fun j hj hc=>hn ⟨j,hj,hc⟩
   obtain⟨j,hj,hc⟩:=this
   obtain⟨m,h1,h2,h3⟩:=ih j hj
   exact⟨m,by omega,h2.trans hc,h3⟩
theorem Low.le{l:List Edge}{m j:Nat}(h:Low l m)(hc:Con l (m:Int) (j:Int)):m≤j:=by
 refine Nat.le_of_not_lt fun hj=>h j hj hc.symm
theorem Low.uniq{l:List Edge}{a b:Nat}(ha:Low l a)(hb:Low l b)(h:Con l (a:Int) (b:Int)):a=b:=by
 have:=ha.le h
 have:=hb.le h.symm
 omega
theorem AQ2{N:Nat}{l l':List Edge}(h:∀ j k:Nat,j<N→k<N→(Con l (j:Int) (k:Int)↔Con l' (j:Int) (k:Int))):cc N l=cc N l':=by
 unfold cc
 refine List.countP_congr fun k hk => ?_
 have hk:k<N:=by simpa using hk
 rw[GB,GB]
 constructor
 ·intro q j hj hc;exact q j hj ((h j k (by omega) hk).2 hc)
 ·intro q j hj hc;exact q j hj ((h j k (by omega) hk).1 hc)
theorem VB{N:Nat}{l l':List Edge}(h:∀ a b,Con l a b↔Con l' a b):cc N l=cc N l':=AQ2 fun _ _ _ _=>h _ _
theorem AA6{l l':List Edge}(h:∀ e,e∈l↔e∈l'){a b:Int}:Con l a b↔Con l' a b:=⟨fun c=>c.sub fun e he=>(h e).1 he,fun c=>c.sub fun e he=>(h e).2 he⟩
theorem ASt{N:Nat}{l l':List Edge}(h:l.Perm l'):cc N l=cc N l':=VB fun _ _=>AA6 fun _=>h.mem_iff
theorem ATs(N:Nat):cc N []=N:=by
 unfold cc
 have:(List.range N).countP (AP0 [])=(List.range N).length:=by
  rw[List.countP_eq_length]
  intro k _
  rw[GB]
  intro j hj hc
  have:=hc.nil
  omega
 rw[this,AU9]
theorem UM{P:Nat→Bool}{M:Nat}(hM:P M=true):∀ {xs:List Nat},xs.Nodup→M∈xs→xs.countP P=xs.countP (fun k=>P k && !decide (k=M))+1:=by
 intro xs
 induction xs with
 |nil=>intro _ h;cases h
 |cons x xs ih=>
  intro hn h
  rw[AUu]at hn
  rw[AWH,AWH]
  by_cases hx:x=M
  ·subst hx
   have:xs.countP P=xs.countP (fun k=>P k && !decide (k=x)):=by
    refine List.countP_congr fun k hk => ?_
    have:k≠x:=fun e=>hn.1 (e▸hk)
    simp[this]
   simp[hM,this]
  ·have:=ih hn.2 (by rcases AUT.1 h with h|h;exact absurd h.symm hx;exact h)
   rw[this]
   simp[hx]
   omega
def InE(N:Nat)(e:Edge):Prop:=(0≤e.1∧e.1<(N:Int))∧(0≤e.2.1∧e.2.1<(N:Int))
theorem AFL{l:List Edge}{e:Edge}(h:Con l e.1 e.2.1){a b:Int}:Con (l++[e]) a b↔Con l a b:=
 ⟨fun c=>c.cut fun x hx=>by
  rcases AUQ.1 hx with hx|hx
  ·exact .edge x hx
  ·rw[AUt]at hx;subst hx;exact h,fun c=>c.sub fun x hx=>AUQ.2 (.inl hx)⟩
theorem AKn{N:Nat}{l:List Edge}{e:Edge}(he:InE N e):cc N l=cc N (l++[e])+(if KB l e.1 e.2.1=true then 0 else 1):=by
 by_cases h:Con l e.1 e.2.1
 ·rw[AUf ((B7 _ _ _).2 h),AVi]
  exact VB fun a b=>(AFL h).symm
 ·rw[AUZ (fun hh=>h ((B7 _ _ _).1 hh))]
  obtain⟨⟨a1,a2⟩,b1,b2⟩:=he
  obtain⟨u,hu⟩:=AUW a1
  obtain⟨v,hv⟩:=AUW b1
  have hsn:∀ {a b:Int},Con (l++[e]) a b↔Con l a b∨(Con l a (u:Int)∧Con l (v:Int) b)∨(Con l a (v:Int)∧Con l (u:Int) b):=by
   intro a b
   rw[Con.snoc,hu,hv]
  rw[hu,hv]at h
  obtain⟨p,p1,p2,p3⟩:=APz l u
  obtain⟨q,q1,q2,q3⟩:=APz l v
  have hpq:p≠q:=fun e=>h (p2.symm.trans (e▸q2))
  have hlow:∀ k:Nat,Low (l++[e]) k↔Low l k∧k≠max p q:=by
   intro k
   constructor
   ·intro hk
    refine⟨fun j hj hc=>hk j hj (hsn.2 (.inl hc)),fun e => ?_⟩
    refine hk (min p q) (by omega) (hsn.2 ?_)
    by_cases hlt:p<q
    ·rw[e,AVe (by omega),AW0 (by omega)]
     exact .inr (.inl ⟨p2,q2.symm⟩)
    ·rw[e,Nat.min_eq_right (by omega),Nat.max_eq_left (by omega)]
     exact .inr (.inr ⟨q2,p2.symm⟩)
   ·rintro⟨hk,hne⟩ j hj hc
    rcases hsn.1 hc with hc|⟨c1,c2⟩|⟨c1,c2⟩
    ·exact hk j hj hc
    ·have e1:=q3.uniq hk (q2.trans c2)
     have e2:=p3.le (p2.trans c1.symm)
     omega
    ·have e1:=p3.uniq hk (p2.trans c2)
     have e2:=q3.le (q2.trans c1.symm)
     omega
  have hM:AP0 l (max p q)=true:=by
   rw[GB]
   by_cases hlt:p<q
   ·rw[AW0 (by omega)];exact q3
   ·rw[Nat.max_eq_left (by omega)];exact p3
  unfold cc
  rw[UM hM AW1 (by rw[AVz];omega)]
  congr 1
  refine List.countP_congr fun k _ => ?_
  rw[GB,hlow,AUR,GB]
  simp
noncomputable def gfl:List Edge→List Edge→List Bool
 |_,[]=>[]
 |b,x::xs=>(!KB b x.1 x.2.1)::gfl (b++[x]) xs
noncomputable def IY:List Edge→List Edge→List Edge
 |_,[]=>[]
 |b,x::xs=>if KB b x.1 x.2.1=true then IY (b++[x]) xs else x::IY (b++[x]) xs
theorem ASj:∀ (xs b:List Edge),(gfl b xs).length=xs.length:=by
 intro xs
 induction xs with
 |nil=>intro b;rfl
 |cons x xs ih=>intro b;rw[gfl,AUY,AUY,ih]
theorem AEs:∀ (xs b:List Edge),(IY b xs).Sublist xs:=by
 intro xs
 induction xs with
 |nil=>intro b;exact List.Sublist.refl _
 |cons x xs ih=>
  intro b
  rw[IY]
  split
  ·exact(ih _).cons x
  ·exact(ih _).cons_cons x
theorem UU:∀ (xs b:List Edge) {a c:Int},Con (b++xs) a c↔Con (b++IY b xs) a c:=by
 intro xs
 induction xs with
 |nil=>intro b a c;rfl
 |cons x xs ih=>
  intro b a c
  have e1:b++x::xs=(b++[x])++xs:=by simp
  rw[e1,ih,IY]
  by_cases h:Con b x.1 x.2.1
  ·rw[AUf ((B7 _ _ _).2 h)]
   constructor
   ·intro q
    refine q.cut fun y hy => ?_
    rcases AUQ.1 hy with hy|hy
    ·rcases AUQ.1 hy with hy|hy
     ·exact .edge y (AUQ.2 (.inl hy))
     ·rw[AUt]at hy;subst hy
      exact h.sub fun z hz=>AUQ.2 (.inl hz)
    ·exact .edge y (AUQ.2 (.inr hy))
   ·intro q
    refine q.sub fun y hy => ?_
    rcases AUQ.1 hy with hy|hy
    ·simp[hy]
    ·simp[hy]
  ·rw[AUZ (fun hh=>h ((B7 _ _ _).1 hh))]
   exact AA6 fun y=>by simp
theorem J0{N:Nat}:∀ (xs b:List Edge),(∀ e∈xs,InE N e)→cc N b=cc N (b++xs)+(IY b xs).length:=by
 intro xs
 induction xs with
 |nil=>intro b _;simp[IY]
 |cons x xs ih=>
  intro b h
  have e1:b++x::xs=(b++[x])++xs:=by simp
  rw[AKn (h x (by simp)),ih (b++[x]) (fun e he=>h e (by simp[he])),e1,IY]
  by_cases hc:KB b x.1 x.2.1=true
  ·rw[AUf hc,AUf hc,AVi]
  ·rw[AUZ hc,AUZ hc,AUY]
   omega
theorem ATD{N:Nat}(xs b:List Edge)(h:∀ e∈xs,InE N e):cc N b≤cc N (b++xs)+xs.length:=by
 have:=J0 xs b h
 have:=(AEs xs b).length_le
 omega
def Fo(N:Nat)(l:List Edge):Prop:=cc N l+l.length=N
theorem Fo.perm{N:Nat}{l l':List Edge}(h:Fo N l)(hp:l.Perm l'):Fo N l':=by
 unfold Fo at *
 rw[← ASt hp,← hp.length_eq];exact h
theorem AQ3{N:Nat}(l:List Edge)(h:∀ e∈l,InE N e):N≤cc N l+l.length:=by
 have:=ATD l [] h
 rw[ATs,AVA]at this
 exact this
theorem Fo.front{N:Nat}{a b:List Edge}(h:Fo N (a++b))(ha:∀ e∈a,InE N e)(hb:∀ e∈b,InE N e):Fo N a:=by
 unfold Fo at *
 have h1:=AQ3 a ha
 have h2:=ATD b a hb
 rw[AUb]at h
 omega
theorem AO7{α:Type}{a l:List α}(h:a.Sublist l):∃ r,l.Perm (a++r):=by
 induction h with
 |slnil=>exact⟨[],List.Perm.refl _⟩
 |@cons a l x _ ih=>
  obtain⟨r,hr⟩:=ih
  exact⟨x::r,(hr.cons x).trans (List.perm_middle.symm)⟩
 |@cons_cons a l x _ ih=>
  obtain⟨r,hr⟩:=ih
  exact⟨r,hr.cons x⟩
theorem Fo.sub{N:Nat}{a l:List Edge}(h:Fo N l)(hs:a.Sublist l)(hl:∀ e∈l,InE N e):Fo N a:=by
 obtain⟨r,hr⟩:=AO7 hs
 exact(h.perm hr).front (fun e he=>hl e (hr.mem_iff.2 (AUQ.2 (.inl he)))) (fun e he=>hl e (hr.mem_iff.2 (AUQ.2 (.inr he))))
theorem Fo.IY{N:Nat}{b xs:List Edge}(h:Fo N (b++xs))(hb:∀ e∈b,InE N e)(hx:∀ e∈xs,InE N e):IY b xs=xs:=by
 have h1:=J0 xs b hx
 have h2:=h.front hb hx
 unfold Fo at *
 rw[AUb]at h
 exact(AEs xs b).eq_of_length (by omega)
end Go.Pev.Pl
end
section
namespace Go.Pev.Pl
abbrev Tie:=Int×Int×Int×Bool×Unit
abbrev zT:Tie:=(0,0,0,false,())
def ahead(p x:Tie):Prop:=p.1<x.1∨(p.1=x.1∧p.2.1<x.2.1)
instance (p x:Tie):Decidable (ahead p x):=inferInstanceAs (Decidable (_∨_))
def ed(t:Tie):Edge:=(t.1,t.2.1,())
def trk(ts:List Tie)(k:Int):List Edge:=(ts.filter fun t=>t.2.2.2.1&&decide (k≤t.2.2.1)).map ed
theorem CS{ts:List Tie}{k:Int}{e:Edge}:e∈trk ts k↔∃ t∈ts,t.2.2.2.1=true∧k≤t.2.2.1∧ed t=e:=by
 unfold trk
 simp only[AUm,AVM,AUR,AUP]
 constructor
 ·rintro⟨t,⟨h1,h2,h3⟩,h4⟩;exact⟨t,h1,h2,h3,h4⟩
 ·rintro⟨t,h1,h2,h3,h4⟩;exact⟨t,⟨h1,h2,h3⟩,h4⟩
theorem Fu{ts:List Tie}{k k':Int}(h:k≤k'):∀ e∈trk ts k',e∈trk ts k:=by
 intro e he
 obtain⟨t,h1,h2,h3,h4⟩:=CS.1 he
 exact CS.2 ⟨t,h1,h2,by omega,h4⟩
noncomputable def csz(N:Nat)(l:List Edge)(v:Int):Nat:=(List.range N).countP fun(w:Nat)=>KB l v (w:Int)
theorem AA3{N:Nat}{l l':List Edge}{v v':Int}(h:∀ w:Nat,w<N→Con l v (w:Int)→Con l' v' (w:Int)):csz N l v≤csz N l' v':=by
 unfold csz
 refine List.countP_mono_left fun w hw hc => ?_
 rw[B7]at hc ⊢
 exact h w (by simpa using hw) hc
theorem ASq{N:Nat}{l:List Edge}{v:Nat}(hv:v<N):1≤csz N l (v:Int):=by
 unfold csz
 refine List.countP_pos_iff.2 ⟨v,by simpa using hv,(B7 _ _ _).2 (.refl _)⟩
theorem ASp{N:Nat}{l:List Edge}{a b:Nat}(ha:a<N)(hb:b<N)(hab:a≠b)(h:Con l (a:Int) (b:Int)):2≤csz N l (a:Int):=by
 unfold csz
 rw[UM (P:=fun(w:Nat)=>KB l (a:Int) (w:Int)) (M:=a) ((B7 _ _ _).2 (.refl _)) AW1 (by simpa using ha)]
 have:0<(List.range N).countP (fun(w:Nat)=>KB l (a:Int) (w:Int) && !decide (w=a)):=by
  refine List.countP_pos_iff.2 ⟨b,by simpa using hb,?_⟩
  rw[AUR,B7]
  exact⟨h,by simp;omega⟩
 omega
theorem AQw{N:Nat}{l:List Edge}{e:Edge}(h:¬ Con l e.1 e.2.1):csz N (l++[e]) e.1=csz N l e.1+csz N l e.2.1:=by
 unfold csz
 have key:∀ xs:List Nat,xs.countP (fun(w:Nat)=>KB (l++[e]) e.1 (w:Int))=xs.countP (fun(w:Nat)=>KB l e.1 (w:Int))+xs.countP (fun(w:Nat)=>KB l e.2.1 (w:Int)):=by
  intro xs
  induction xs with
  |nil=>rfl
  |cons x xs ih=>
   rw[AWH,AWH,AWH,ih]
   have hs:Con (l++[e]) e.1 (x:Int)↔Con l e.1 (x:Int)∨Con l e.2.1 (x:Int):=by
    rw[Con.snoc]
    constructor
    ·rintro (h|⟨_,h⟩|⟨_,h⟩)
     ·exact .inl h
     ·exact .inr h
     ·exact .inl h
    ·rintro (h|h)
     ·exact .inl h
     ·exact .inr (.inl ⟨.refl _,h⟩)
   by_cases h1:Con l e.1 (x:Int)
   ·have h2:¬ Con l e.2.1 (x:Int):=fun h2=>h (h1.trans h2.symm)
    rw[(B7 _ _ _).2 (hs.2 (.inl h1)),(B7 _ _ _).2 h1,(GQ _ _ _).2 h2]
    simp only[AUv,AUc,AUa];omega
   ·by_cases h2:Con l e.2.1 (x:Int)
    ·rw[(B7 _ _ _).2 (hs.2 (.inr h2)),(GQ _ _ _).2 h1,(B7 _ _ _).2 h2]
     simp only[AUv,AUc,AUa];omega
    ·rw[(GQ _ _ _).2 (fun h=>(hs.1 h).elim h1 h2),(GQ _ _ _).2 h1,(GQ _ _ _).2 h2]
     simp only[AUc,AUa,AVi]
 exact key _
end Go.Pev.Pl
end
section
namespace Go.Pev.Pl
def R7(top:Int)(t:Tie):Tie:=(t.1,t.2.1,min top (t.2.2.1+1),t.2.2.2.1,())
def Ek(t:Tie):Tie:=(t.1,t.2.1,t.2.2.1,true,())
def both(S:Int→Bool)(t:Tie):Bool:=S t.1&&S t.2.1
def AKe(S:Int→Bool)(t:Tie):Prop:=S t.1≠S t.2.1
instance (S:Int→Bool)(t:Tie):Decidable (AKe S t):=inferInstanceAs (Decidable (_≠_))
def rT(S:Int→Bool)(top i:Int)(t:Tie):Tie:=if t.2.2.2.1=true∧t.2.2.1=i∧both S t=true then R7 top t else t
def rO(S:Int→Bool)(top i:Int)(t:Tie):Tie:=if t.2.2.2.1=false∧t.2.2.1=i∧both S t=true then R7 top t else t
def rB(S:Int→Bool)(top i:Int)(t:Tie):Tie:=if t.2.2.1=i∧both S t=true then R7 top t else t
theorem XC(S:Int→Bool)(top i:Int)(t:Tie):ed (rT S top i t)=ed t:=by unfold rT;split<;>rfl
theorem AOx(S:Int→Bool)(top i:Int)(t:Tie):ed (rO S top i t)=ed t:=by unfold rO;split<;>rfl
theorem JY(S:Int→Bool)(top i:Int)(t:Tie):(rT S top i t).2.2.2.1=t.2.2.2.1:=by unfold rT;split<;>rfl
theorem ZH(S:Int→Bool)(top i:Int)(t:Tie):(rO S top i t).2.2.2.1=t.2.2.2.1:=by unfold rO;split<;>rfl
theorem ZG{S:Int→Bool}{top i:Int}{t:Tie}(h:t.2.2.1≤top):t.2.2.1≤(rT S top i t).2.2.1∧(rT S top i t).2.2.1≤top:=by
 unfold rT
 split
 ·show t.2.2.1≤min top (t.2.2.1+1)∧min top (t.2.2.1+1)≤top
  omega
 ·omega
theorem AGr{S:Int→Bool}{top i:Int}{t:Tie}(h:t.2.2.1≤top):t.2.2.1≤(rO S top i t).2.2.1∧(rO S top i t).2.2.1≤top:=by
 unfold rO
 split
 ·show t.2.2.1≤min top (t.2.2.1+1)∧min top (t.2.2.1+1)≤top
  omega
 ·omega
theorem AGq{S:Int→Bool}{top i:Int}{t:Tie}(h:t.2.2.2.1=true):rO S top i t=t:=by
 unfold rO
 rw[AUZ]
 rintro⟨a,_⟩
 rw[h]at a;cases a
theorem Il{S:Int→Bool}{top i:Int}{t:Tie}(h:t.2.2.2.1=false):rT S top i t=t:=by
 unfold rT
 rw[AUZ]
 rintro⟨a,_⟩
 rw[h]at a;cases a
theorem YO{f:Tie→Tie}(k:Int)(h1:∀ t,ed (f t)=ed t)(h2:∀ t,(f t).2.2.2.1=t.2.2.2.1)(ts:List Tie)(h3:∀ t∈ts,t.2.2.2.1=true→(k≤(f t).2.2.1↔k≤t.2.2.1)):trk (ts.map f) k=trk ts k:=by
 induction ts with
 |nil=>rfl
 |cons t ts ih=>
  have:=ih fun x hx=>h3 x (by simp[hx])
  unfold trk at *
  rw[AUs,AVf,AVf,h2]
  have ht:=h3 t (by simp)
  cases hh:t.2.2.2.1
  ·simp only[AWG,AUc,AUa];exact this
  ·have hd:decide (k≤(f t).2.2.1)=decide (k≤t.2.2.1):=AWd.2 (ht hh)
   rw[hd]
   simp only[AWy]
   split
   ·rw[AUs,AUs,h1,this]
   ·exact this
section
variable {N:Nat} {top:Int} {O:List Tie} {S:Int→Bool} {i:Int} {c:Int}
theorem Kl{k:Int}{e:Edge}:e∈trk (O.map (rT S top i)) k↔∃ t∈O,t.2.2.2.1=true∧k≤(rT S top i t).2.2.1∧ed t=e:=by
 rw[CS]
 constructor
 ·rintro⟨t,ht,h1,h2,h3⟩
  obtain⟨x,hx,rfl⟩:=AUm.1 ht
  rw[JY]at h1
  rw[XC]at h3
  exact⟨x,hx,h1,h2,h3⟩
 ·rintro⟨t,ht,h1,h2,h3⟩
  exact⟨_,AUm.2 ⟨t,ht,rfl⟩,by rw[JY];exact h1,h2,by rw[XC];exact h3⟩
theorem CA{k:Int}(hk:k≤i)(hit:i≤top):trk (O.map (rT S top i)) k=trk O k:=by
 refine YO k (XC S top i) (JY S top i) O fun t _ _ => ?_
 unfold rT
 split
 ·rename_i h
  show k≤min top (t.2.2.1+1)↔_
  omega
 ·rfl
theorem AB6{k:Int}(hk:i+2≤k):trk (O.map (rT S top i)) k=trk O k:=by
 refine YO k (XC S top i) (JY S top i) O fun t _ _ => ?_
 unfold rT
 split
 ·rename_i h
  show k≤min top (t.2.2.1+1)↔_
  omega
 ·rfl
theorem Hi(hl:∀ t∈O,t.2.2.1≤top)(k:Int):∀ e∈trk O k,e∈trk (O.map (rT S top i)) k:=by
 intro e he
 obtain⟨t,h1,h2,h3,h4⟩:=CS.1 he
 have:=ZG (S:=S) (i:=i) (hl t h1)
 exact Kl.2 ⟨t,h1,h2,by omega,h4⟩
variable (hS:∀ a b,Con (trk O i) a b→S a=S b)
include hS
theorem AQy(hl:∀ t∈O,t.2.2.1≤top)(hit:i+1≤top){a b:Int}(h:Con (trk O i) a b)(ha:S a=true):Con (trk (O.map (rT S top i)) (i+1)) a b:=by
 have key:∀ {a b:Int},Con (trk O i) a b→S a=true→Con (trk (O.map (rT S top i)) (i+1)) a b:=by
  intro a b h
  induction h with
  |refl a=>intro _;exact .refl a
  |edge e he=>
   intro ha
   obtain⟨t,h1,h2,h3,rfl⟩:=CS.1 he
   have hb:S t.2.1=true:=by
    have:=hS _ _ (.edge _ he)
    exact this.symm.trans ha
   have hm:ed t∈trk (O.map (rT S top i)) (i+1):=by
    refine Kl.2 ⟨t,h1,h2,?_,rfl⟩
    by_cases hlv:t.2.2.1=i
    ·unfold rT
     rw[AUf ⟨h2,hlv,by unfold both;rw[show S t.1=true from ha,hb];rfl⟩]
     show i+1≤min top (t.2.2.1+1)
     omega
    ·have:=ZG (S:=S) (i:=i) (hl t h1)
     omega
   exact .edge _ hm
  |symm h ih=>
   intro ha
   exact(ih (by rw[hS _ _ h];exact ha)).symm
  |trans h1 _ ih1 ih2=>
   intro ha
   exact(ih1 ha).trans (ih2 (by rw[← hS _ _ h1];exact ha))
 exact key h ha
theorem AFM(hit:i≤top){a b:Int}(h:Con (trk (O.map (rT S top i)) (i+1)) a b)(ha:S a=false):Con (trk O (i+1)) a b:=by
 have low:∀ {a b:Int},Con (trk (O.map (rT S top i)) (i+1)) a b→S a=S b:=fun h=>hS _ _ (by
  have:=h.sub (Fu (ts:=O.map (rT S top i)) (show i≤i+1 by omega))
  rw[CA (Int.le_refl i) hit]at this
  exact this)
 have key:∀ {a b:Int},Con (trk (O.map (rT S top i)) (i+1)) a b→S a=false→Con (trk O (i+1)) a b:=by
  intro a b h
  induction h with
  |refl a=>intro _;exact .refl a
  |edge e he=>
   intro ha
   obtain⟨t,h1,h2,h3,rfl⟩:=Kl.1 he
   refine .edge _ (CS.2 ⟨t,h1,h2,?_,rfl⟩)
   unfold rT at h3
   rw[AUZ]at h3
   ·exact h3
   ·rintro⟨_,_,hb⟩
    unfold both at hb
    rw[show S t.1=false from ha]at hb
    cases hb
  |symm h ih=>
   intro ha
   exact(ih (by rw[low h];exact ha)).symm
  |trans h1 _ ih1 ih2=>
   intro ha
   exact(ih1 ha).trans (ih2 (by rw[← low h1];exact ha))
 exact key h ha
end
end Go.Pev.Pl
end
section
namespace Go.Pev.Pl
theorem Fo.AKC{N:Nat}{l:List Edge}{e:Edge}(h:Fo N (l++[e]))(hl:∀ x∈l,InE N x)(he:InE N e):¬ Con l e.1 e.2.1:=by
 intro hc
 have h1:=AKn (N:=N) (l:=l) he
 rw[AUf ((B7 _ _ _).2 hc)]at h1
 have h2:=AQ3 l hl
 unfold Fo at h
 rw[AUb,List.length_singleton]at h
 omega
theorem Qk{N:Nat}{O:List Tie}(h:∀ x∈O,InE N (ed x))(k:Int):∀ e∈trk O k,InE N e:=by
 intro e he
 obtain⟨t,h1,_,_,rfl⟩:=CS.1 he
 exact h t h1
theorem Cn(A B:List Tie)(k:Int):trk (A++B) k=trk A k++trk B k:=by
 unfold trk;rw[AWp,AV3]
theorem NM(S:Int→Bool)(top i:Int)(A:List Tie)(k:Int):trk (A.map (rO S top i)) k=trk A k:=
 YO k (AOx S top i) (ZH S top i) A fun t _ h=>by rw[AGq h]
structure Snd(N:Nat)(top:Int)(O:List Tie):Prop where
 lvl:∀ x∈O,0≤x.2.2.1∧x.2.2.1≤top
 ins:∀ x∈O,InE N (ed x)
 fo:Fo N (trk O 0)
 lie:∀ x∈O,x.2.2.2.1=false→Con (trk O x.2.2.1) x.1 x.2.1
 halv:∀ k:Nat,(k:Int)≤top→∀ v:Nat,v<N→csz N (trk O k) v≤max 1 (N/2 ^ k)
structure KO(N:Nat)(top:Int)(t:Edge)(j:Int)(O:List Tie):Prop where
 lvl:∀ x∈O,0≤x.2.2.1∧x.2.2.1≤top
 ins:∀ x∈O,InE N (ed x)
 it:InE N t
 fo:Fo N (trk O 0++[t])
 lie1:∀ x∈O,x.2.2.2.1=false→j≤x.2.2.1→Con (trk O x.2.2.1) x.1 x.2.1
 lie2:∀ x∈O,x.2.2.2.1=false→x.2.2.1<j→Con (trk O x.2.2.1++[t]) x.1 x.2.1
 halv:∀ k:Nat,(k:Int)≤top→∀ v:Nat,v<N→csz N (trk O k) v≤max 1 (N/2 ^ k)
 halt:∀ k:Nat,(k:Int)<j→(k:Int)≤top→∀ v:Nat,v<N→csz N (trk O k++[t]) v≤max 1 (N/2 ^ k)
structure LF(N:Nat)(t:Edge)(i:Nat)(O:List Tie)(S:Int→Bool)(c:Nat):Prop where
 cN:c<N
 at_:t.1=(c:Int)∨t.2.1=(c:Int)
 side:∀ w:Nat,w<N→(S (w:Int)=true↔Con (trk O i) (c:Int) (w:Int))
 less:2*csz N (trk O i) (c:Int)≤csz N (trk O i) t.1+csz N (trk O i) t.2.1
section
variable {N:Nat} {top:Int} {t:Edge} {O:List Tie} {S:Int→Bool} {i c:Nat}
theorem LF.closed(hL:LF N t i O S c)(hi:∀ x∈O,InE N (ed x)):∀ a b,Con (trk O i) a b→S a=S b:=by
 intro a b h
 rcases Con.within (I:=fun a=>0≤a∧a<(N:Int)) (fun e he=>Qk hi i e he) h with rfl|⟨⟨a1,a2⟩,b1,b2⟩
 ·rfl
 ·obtain⟨u,rfl⟩:=AUW a1
  obtain⟨v,rfl⟩:=AUW b1
  have h1:=hL.side u (by omega)
  have h2:=hL.side v (by omega)
  rw[AWR,h1,h2]
  exact⟨fun q=>q.trans h,fun q=>q.trans h.symm⟩
theorem LF.AKW(hL:LF N t i O S c):S (c:Int)=true:=(hL.side c hL.cN).2 (.refl _)
theorem LF.con(hL:LF N t i O S c){a b:Int}(ia:0≤a∧a<(N:Int))(ib:0≤b∧b<(N:Int))(ha:S a=true)(hb:S b=true):Con (trk O i) a b:=by
 obtain⟨u,rfl⟩:=AUW ia.1
 obtain⟨v,rfl⟩:=AUW ib.1
 exact((hL.side u (by omega)).1 ha).symm.trans ((hL.side v (by omega)).1 hb)
variable (hG:KO N top t ((i:Int)+1) O) (hit:(i:Int)≤top) (hL:LF N t i O S c)
include hG
theorem KO.apart(k:Nat):¬ Con (trk O (k:Int)) t.1 t.2.1:=fun h=>hG.fo.AKC (Qk hG.ins 0) hG.it (h.sub (Fu (by omega)))
include hit hL
theorem KO.half(hi1:(i:Int)+1≤top):csz N (trk O i) (c:Int)≤N/2 ^ (i+1):=by
 obtain⟨⟨a1,a2⟩,b1,b2⟩:=hG.it
 obtain⟨u,hu⟩:=AUW a1
 have hj:=AQw (N:=N) (hG.apart i)
 have hh:=hG.halt i (by omega) hit u (by omega)
 rw[← hu,hj]at hh
 have hp:=ASq (N:=N) (l:=trk O i) hL.cN
 have hl:=hL.less
 have e:N/2 ^ (i+1)=N/2 ^ i/2:=by rw[Nat.pow_succ,Nat.div_div_eq_div_mul]
 rw[e]
 omega
theorem KO.ATC(k:Nat)(hk:(k:Int)≤top)(v:Nat)(hv:v<N):csz N (trk (O.map (rT S top i)) k) v≤max 1 (N/2 ^ k):=by
 have hS:=hL.closed hG.ins
 have hl:∀ x∈O,x.2.2.1≤top:=fun x hx=>(hG.lvl x hx).2
 rcases AV8 k (i+1)with h|rfl|h
 ·rw[CA (by omega) hit];exact hG.halv k hk v hv
 ·cases hsv:S (v:Int)
  ·refine AVT (AA3 fun w hw hc => ?_) (hG.halv (i+1) hk v hv)
   have:=AFM hS hit (a:=(v:Int)) (b:=(w:Int)) (by simpa using hc) hsv
   simpa using this
  ·have hle:csz N (trk (O.map (rT S top i)) ((i+1:Nat):Int)) v≤csz N (trk O i) (c:Int):=AA3 fun w hw hc=>by
    have h1:=hc.sub (Fu (ts:=O.map (rT S top i)) (show(i:Int)≤((i+1:Nat):Int) by omega))
    rw[CA (Int.le_refl _) hit]at h1
    exact((hL.side v hv).1 hsv).trans h1
   have:=hG.half hit hL (by omega)
   omega
 ·rw[AB6 (by omega)];exact hG.halv k hk v hv
omit hL
theorem R8{x:Tie}(hx:x∈O.map (rT S top i))(h:x.2.2.2.1=false):x∈O:=by
 obtain⟨y,hy,rfl⟩:=AUm.1 hx
 rw[JY]at h
 rw[Il h];exact hy
include hL
theorem KO.TT{x:Tie}(hx:x∈O)(h1:x.2.2.1=(i:Int))(h2:both S x=true):Con (trk (O.map (rT S top i)) (min top (x.2.2.1+1))) x.1 x.2.1:=by
 have hS:=hL.closed hG.ins
 unfold both at h2
 rw[AUR]at h2
 have hc:=hL.con (hG.ins x hx).1 (hG.ins x hx).2 h2.1 h2.2
 by_cases hi1:(i:Int)+1≤top
 ·rw[h1,Int.min_eq_right hi1]
  exact AQy hS (fun x hx=>(hG.lvl x hx).2) hi1 hc h2.1
 ·rw[h1,Int.min_eq_left (by omega),show top=(i:Int) by omega]
  have:=CA (O:=O) (S:=S) (top:=top) (i:=(i:Int)) (k:=(i:Int)) (Int.le_refl _) hit
  rw[show top=(i:Int) by omega]at this
  rw[this];exact hc
theorem KO.next(hno:∀ x∈O.map (rT S top i),x.2.2.2.1=false→x.2.2.1=(i:Int)→¬ AKe S x):KO N top t (i:Int) ((O.map (rT S top i)).map (rO S top i)):=by
 have hS:=hL.closed hG.ins
 have hl:∀ x∈O,x.2.2.1≤top:=fun x hx=>(hG.lvl x hx).2
 have hmem:∀ x∈(O.map (rT S top i)).map (rO S top i),∃ y∈O,x=rO S top i (rT S top i y):=fun x hx=>by
  obtain⟨z,hz,rfl⟩:=AUm.1 hx
  obtain⟨y,hy,rfl⟩:=AUm.1 hz
  exact⟨y,hy,rfl⟩
 have hlv:∀ y∈O,y.2.2.1≤(rO S top i (rT S top i y)).2.2.1∧(rO S top i (rT S top i y)).2.2.1≤top:=fun y hy=>by
  have h1:=ZG (S:=S) (i:=(i:Int)) (hl y hy)
  have h2:=AGr (S:=S) (i:=(i:Int)) h1.2
  omega
 have hoth:∀ x∈(O.map (rT S top i)).map (rO S top i),x.2.2.2.1=false→∃ y∈O,y.2.2.2.1=false∧x=rO S top i y:=fun x hx h=>by
  obtain⟨y,hy,rfl⟩:=hmem x hx
  rw[ZH,JY]at h
  exact⟨y,hy,h,by rw[Il h]⟩
 refine⟨fun x hx => ?_,fun x hx => ?_,hG.it,?_,fun x hx h hj => ?_,fun x hx h hj => ?_,fun k hk v hv => ?_,fun k hk1 hk2 v hv => ?_⟩
 ·obtain⟨y,hy,rfl⟩:=hmem x hx
  have:=hlv y hy
  have:=(hG.lvl y hy).1
  omega
 ·obtain⟨y,hy,rfl⟩:=hmem x hx
  rw[AOx,XC];exact hG.ins y hy
 ·rw[NM,CA (by omega) hit];exact hG.fo
 ·obtain⟨y,hy,hf,rfl⟩:=hoth x hx h
  rw[NM]
  by_cases hr:y.2.2.1=(i:Int)∧both S y=true
  ·have he:rO S top i y=R7 top y:=by unfold rO;rw[AUf ⟨hf,hr.1,hr.2⟩]
   rw[he]
   exact hG.TT hit hL hy hr.1 hr.2
  ·have he:rO S top i y=y:=by unfold rO;rw[AUZ (fun q=>hr ⟨q.2.1,q.2.2⟩)]
   rw[he]at hj ⊢
   by_cases hi:y.2.2.1=(i:Int)
   ·have hnb:¬ both S y=true:=fun q=>hr ⟨hi,q⟩
    have hne:=hno y (AUm.2 ⟨y,hy,Il hf⟩) hf hi
    have h2:=hG.lie2 y hy hf (by omega)
    rw[hi,CA (Int.le_refl _) hit]
    rw[hi]at h2
    unfold AKe at hne
    have hne:=AWW.1 hne
    have hfalse:S y.1=false∧S y.2.1=false:=by
     unfold both at hnb
     rw[← hne]at hnb ⊢
     cases hsy:S y.1
     ·exact⟨rfl,rfl⟩
     ·rw[hsy]at hnb;exact absurd rfl hnb
    rw[Con.snoc]at h2
    rcases h2 with h2|⟨q1,q2⟩|⟨q1,q2⟩
    ·exact h2
    ·have e1:=hS _ _ q1
     have e2:=hS _ _ q2
     rcases hL.at_ with hc|hc
     ·rw[hc,hL.AKW,hfalse.1]at e1;cases e1
     ·rw[hc,hL.AKW,hfalse.2]at e2;cases e2
    ·have e1:=hS _ _ q1
     have e2:=hS _ _ q2
     rcases hL.at_ with hc|hc
     ·rw[hc,hL.AKW,hfalse.2]at e2;cases e2
     ·rw[hc,hL.AKW,hfalse.1]at e1;cases e1
   ·exact(hG.lie1 y hy hf (by omega)).sub (Hi hl _)
 ·obtain⟨y,hy,hf,rfl⟩:=hoth x hx h
  have h1:=AGr (S:=S) (i:=(i:Int)) (hl y hy)
  have he:rO S top i y=y:=by unfold rO;rw[AUZ (fun q=>by have:=q.2.1;omega)]
  rw[he]at hj ⊢
  rw[NM,CA (by omega) hit]
  exact hG.lie2 y hy hf (by omega)
 ·rw[NM];exact hG.ATC hit hL k hk v hv
 ·rw[NM,CA (by omega) hit];exact hG.halt k (by omega) hk2 v hv
theorem KO.found{A B:List Tie}{x:Tie}(hsp:O.map (rT S top i)=A++x::B)(hf:x.2.2.2.1=false)(hi:x.2.2.1=(i:Int))(hx:AKe S x):
  Snd N top (A.map (rO S top i)++Ek x::B)∧Con (trk (A.map (rO S top i)++Ek x::B) 0) t.1 t.2.1:=by
 have hS:=hL.closed hG.ins
 have hl:∀ x∈O,x.2.2.1≤top:=fun x hx=>(hG.lvl x hx).2
 have hxM:x∈O.map (rT S top i):=by rw[hsp];simp
 have hxO:x∈O:=R8 hG hit hxM hf
 have hAm:∀ y∈A,y∈O.map (rT S top i):=fun y hy=>by rw[hsp];simp[hy]
 have hBm:∀ y∈B,y∈O.map (rT S top i):=fun y hy=>by rw[hsp];simp[hy]
 have hml:∀ y∈O.map (rT S top i),0≤y.2.2.1∧y.2.2.1≤top:=fun y hy=>by
  obtain⟨z,hz,rfl⟩:=AUm.1 hy
  have:=ZG (S:=S) (i:=(i:Int)) (hl z hz)
  have:=(hG.lvl z hz).1
  omega
 have hme:∀ y∈O.map (rT S top i),InE N (ed y):=fun y hy=>by
  obtain⟨z,hz,rfl⟩:=AUm.1 hy
  rw[XC];exact hG.ins z hz
 have hxt:trk [x]=fun _=>[]:=by
  funext k
  unfold trk
  rw[AVf,hf]
  rfl
 have hat:∀ k,trk [Ek x] k=if k≤(i:Int)then [ed x]else []:=by
  intro k
  unfold trk
  have q1:(Ek x).2.2.1=(i:Int):=hi
  have q2:(Ek x).2.2.2.1=true:=rfl
  rw[AVf,q1,q2]
  by_cases hk:k≤(i:Int)
  ·rw[AUf hk,AUO hk];rfl
  ·rw[AUZ hk,AUN hk];rfl
 have hM:∀ k,trk (O.map (rT S top i)) k=trk A k++trk B k:=by
  intro k
  rw[hsp,show A++x::B=A++([x]++B)from rfl,Cn,Cn,hxt,AVA]
 have hO':∀ k,trk (A.map (rO S top i)++Ek x::B) k=trk A k++((if k≤(i:Int)then [ed x]else [])++trk B k):=by
  intro k
  rw[show A.map (rO S top i)++Ek x::B=A.map (rO S top i)++([Ek x]++B)from rfl,Cn,Cn,NM,hat]
 have hsup:∀ k,∀ e∈trk (O.map (rT S top i)) k,e∈trk (A.map (rO S top i)++Ek x::B) k:=by
  intro k e he
  rw[hM]at he
  rw[hO']
  rcases AUQ.1 he with he|he
  ·exact AUQ.2 (.inl he)
  ·exact AUQ.2 (.inr (AUQ.2 (.inr he)))
 have hxin:∀ k,k≤(i:Int)→ed x∈trk (A.map (rO S top i)++Ek x::B) k:=by
  intro k hk
  rw[hO',AUf hk];simp
 have h2:=hG.lie2 x hxO hf (by omega)
 rw[hi]at h2
 have ht:Con (trk O i++[ed x]) t.1 t.2.1:=by
  have up:∀ {a b:Int},Con (trk O i) a b→Con (trk O i++[ed x]) a b:=fun c=>c.sub fun e he=>AUQ.2 (.inl he)
  have hxe:Con (trk O i++[ed x]) x.1 x.2.1:=.edge (l:=trk O i++[ed x]) (ed x) (by simp)
  rw[Con.snoc]at h2
  rcases h2 with h2|⟨q1,q2⟩|⟨q1,q2⟩
  ·exact absurd (hS _ _ h2) hx
  ·exact((up q1).symm.trans hxe).trans (up q2).symm
  ·exact((up q2).trans hxe.symm).trans (up q1)
 have ht':∀ k,k≤(i:Int)→Con (trk (A.map (rO S top i)++Ek x::B) k) t.1 t.2.1:=by
  intro k hk
  refine ht.sub fun e he => ?_
  rcases AUQ.1 he with he|he
  ·exact Fu hk _ (hsup _ _ (Hi hl _ _ he))
  ·rw[AUt]at he;subst he;exact hxin k hk
 refine⟨⟨fun y hy => ?_,fun y hy => ?_,?_,fun y hy h => ?_,fun k hk v hv => ?_⟩,ht' 0 (by omega)⟩
 ·rcases AUQ.1 hy with hy|hy
  ·obtain⟨z,hz,rfl⟩:=AUm.1 hy
   have h1:=hml z (hAm z hz)
   have:=AGr (S:=S) (i:=(i:Int)) h1.2
   omega
  ·rcases AUT.1 hy with rfl|hy
   ·exact hG.lvl x hxO
   ·exact hml y (hBm y hy)
 ·rcases AUQ.1 hy with hy|hy
  ·obtain⟨z,hz,rfl⟩:=AUm.1 hy
   rw[AOx];exact hme z (hAm z hz)
  ·rcases AUT.1 hy with rfl|hy
   ·exact hG.ins x hxO
   ·exact hme y (hBm y hy)
 ·rw[hO',AUf (by omega)]
  have hM0:=hM 0
  rw[CA (by omega) hit]at hM0
  have hp:(trk A 0++([ed x]++trk B 0)).Perm (trk O 0++[ed x]):=by
   rw[hM0,AVc]
   exact List.Perm.append_left _ AWA
  refine Fo.perm ?_ hp.symm
  have hfo:=hG.fo
  have hcc:cc N (trk O 0++[ed x])=cc N (trk O 0++[t]):=VB fun a b=>by
   have m0:=Fu (ts:=O) (show(0:Int)≤(i:Int) by omega)
   constructor
   ·intro c
    refine c.cut fun e he => ?_
    rcases AUQ.1 he with he|he
    ·exact .edge _ (AUQ.2 (.inl he))
    ·rw[AUt]at he;subst he
     refine h2.sub fun e he => ?_
     rcases AUQ.1 he with he|he
     ·exact AUQ.2 (.inl (m0 _ he))
     ·exact AUQ.2 (.inr he)
   ·intro c
    refine c.cut fun e he => ?_
    rcases AUQ.1 he with he|he
    ·exact .edge _ (AUQ.2 (.inl he))
    ·rw[AUt]at he;subst he
     refine ht.sub fun e he => ?_
     rcases AUQ.1 he with he|he
     ·exact AUQ.2 (.inl (m0 _ he))
     ·exact AUQ.2 (.inr he)
  unfold Fo at hfo ⊢
  rw[hcc,AUb]at *
  exact hfo
 ·-- others
  have key:∀ y:Tie,y∈O→y.2.2.2.1=false→Con (trk (A.map (rO S top i)++Ek x::B) y.2.2.1) y.1 y.2.1:=by
   intro y hy h
   by_cases hle:y.2.2.1≤(i:Int)
   ·refine(hG.lie2 y hy h (by omega)).cut fun e he => ?_
    rcases AUQ.1 he with he|he
    ·exact .edge _ (hsup _ _ (Hi hl _ _ he))
    ·rw[AUt]at he;subst he;exact ht' _ hle
   ·exact(hG.lie1 y hy h (by omega)).sub fun e he=>hsup _ _ (Hi hl _ _ he)
  rcases AUQ.1 hy with hy|hy
  ·obtain⟨z,hz,rfl⟩:=AUm.1 hy
   rw[ZH]at h
   have hzO:=R8 hG hit (hAm z hz) h
   by_cases hr:z.2.2.1=(i:Int)∧both S z=true
   ·have he:rO S top i z=R7 top z:=by unfold rO;rw[AUf ⟨h,hr.1,hr.2⟩]
    rw[he]
    exact(hG.TT hit hL hzO hr.1 hr.2).sub (hsup _)
   ·have he:rO S top i z=z:=by unfold rO;rw[AUZ (fun q=>hr ⟨q.2.1,q.2.2⟩)]
    rw[he]
    exact key z hzO h
  ·rcases AUT.1 hy with rfl|hy
   ·cases h
   ·exact key y (R8 hG hit (hBm y hy) h) h
 ·by_cases hki:(k:Int)≤(i:Int)
  ·refine AVT (AA3 fun w hw hc => ?_) (hG.halt k (by omega) hk v hv)
   refine hc.cut fun e he => ?_
   rw[hO',AUf hki]at he
   have hMk:=hM (k:Int)
   rw[CA hki hit]at hMk
   rcases AUQ.1 he with he|he
   ·exact .edge _ (AUQ.2 (.inl (by rw[hMk];simp[he])))
   ·rcases AUQ.1 he with he|he
    ·rw[AUt]at he;subst he
     refine h2.sub fun e he => ?_
     rcases AUQ.1 he with he|he
     ·exact AUQ.2 (.inl (Fu hki _ he))
     ·exact AUQ.2 (.inr he)
    ·exact .edge _ (AUQ.2 (.inl (by rw[hMk];simp[he])))
  ·have:trk (A.map (rO S top i)++Ek x::B) (k:Int)=trk (O.map (rT S top i)) (k:Int):=by
    rw[hO',AUZ hki,hM];rfl
   rw[this]
   exact hG.ATC hit hL k hk v hv
end
theorem KO.end{N:Nat}{top:Int}{t:Edge}{O:List Tie}(h:KO N top t 0 O):Snd N top O∧¬ Con (trk O 0) t.1 t.2.1:=by
 refine⟨⟨h.lvl,h.ins,h.fo.front (Qk h.ins 0) (fun e he=>by rw[AUt]at he;subst he;exact h.it),fun x hx hf=>h.lie1 x hx hf (h.lvl x hx).1,h.halv⟩,h.fo.AKC (Qk h.ins 0) h.it⟩
theorem Snd.other{N:Nat}{top:Int}{P Q:List Tie}{t:Tie}(h:Snd N top (P++t::Q))(ht:t.2.2.2.1=false):Snd N top (P++Q):=by
 have hm:∀ x∈P++Q,x∈P++t::Q:=fun x hx=>by
  rcases AUQ.1 hx with hx|hx
  ·simp[hx]
  ·simp[hx]
 have htk:∀ k,trk (P++t::Q) k=trk (P++Q) k:=by
  intro k
  rw[show P++t::Q=P++([t]++Q)from rfl,Cn,Cn,Cn]
  congr 1
  unfold trk
  rw[AVf,ht]
  rfl
 refine⟨fun x hx=>h.lvl x (hm x hx),fun x hx=>h.ins x (hm x hx),by rw[← htk];exact h.fo,fun x hx hf=>by rw[← htk];exact h.lie x (hm x hx) hf,fun k hk v hv=>by rw[← htk];exact h.halv k hk v hv⟩
theorem Snd.span{N:Nat}{top:Int}{O:List Tie}(h:Snd N top O)(a b:Int):Con (O.map ed) a b↔Con (trk O 0) a b:=by
 constructor
 ·intro c
  refine c.cut fun e he => ?_
  obtain⟨x,hx,rfl⟩:=AUm.1 he
  cases hf:x.2.2.2.1
  ·exact(h.lie x hx hf).sub (Fu (h.lvl x hx).1)
  ·exact .edge _ (CS.2 ⟨x,hx,hf,(h.lvl x hx).1,rfl⟩)
 ·intro c
  refine c.sub fun e he => ?_
  obtain⟨x,h1,_,_,rfl⟩:=CS.1 he
  exact AUm.2 ⟨x,h1,rfl⟩
end Go.Pev.Pl
end
section
namespace Go.Pev.Pl
theorem Snd.below{N:Nat}{top:Nat}{O:List Tie}(h:Snd N (top:Int) O)(hN:N/2 ^ top≤1){x:Tie}(hx:x∈O)(hne:x.1≠x.2.1):x.2.2.1<(top:Int):=by
 have hl:=h.lvl x hx
 refine AVG fun hn => ?_
 have he:x.2.2.1=(top:Int):=by omega
 obtain⟨⟨a1,a2⟩,b1,b2⟩:=h.ins x hx
 obtain⟨u,hu⟩:=AUW a1
 obtain⟨v,hv⟩:=AUW b1
 have hc:Con (trk O (top:Int)) x.1 x.2.1:=by
  cases hf:x.2.2.2.1
  ·have:=h.lie x hx hf
   rw[he]at this;exact this
  ·exact .edge (l:=trk O (top:Int)) (ed x) (CS.2 ⟨x,hx,hf,by omega,rfl⟩)
 have hu':x.1=(u:Int):=hu
 have hv':x.2.1=(v:Int):=hv
 rw[hu',hv']at hc hne
 have h2:=ASp (N:=N) (a:=u) (b:=v) (by omega) (by omega) (by omega) hc
 have h3:=h.halv top (Int.le_refl _) u (by omega)
 omega
theorem Snd.grown{N:Nat}{top:Int}{O O':List Tie}{come:List Edge}{new:List Tie}(h:Snd N top O)(ht:0≤top)(hp:O'.Perm (O++new))(hc:∀ e∈come,InE N e)
  (hn:∀ x∈new,x.2.2.1=0∧ed x∈come) (htr:(trk O' 0).Perm (trk O 0++IY (trk O 0) come)):Snd N top O':=by
 have hmem:∀ x,x∈O'↔x∈O∨x∈new:=fun x=>by rw[hp.mem_iff,AUQ]
 have hk:∀ k:Int,0<k→∀ e,e∈trk O' k↔e∈trk O k:=by
  intro k hk e
  rw[CS,CS]
  constructor
  ·rintro⟨t,h1,h2,h3,h4⟩
   rcases(hmem t).1 h1 with h1|h1
   ·exact⟨t,h1,h2,h3,h4⟩
   ·have:=(hn t h1).1;omega
  ·rintro⟨t,h1,h2,h3,h4⟩
   exact⟨t,(hmem t).2 (.inl h1),h2,h3,h4⟩
 have hsup:∀ k:Int,∀ e∈trk O k,e∈trk O' k:=fun k e he=>by
  obtain⟨t,h1,h2,h3,h4⟩:=CS.1 he
  exact CS.2 ⟨t,(hmem t).2 (.inl h1),h2,h3,h4⟩
 refine⟨fun x hx => ?_,fun x hx => ?_,?_,fun x hx hf => ?_,fun k hkt v hv => ?_⟩
 ·rcases(hmem x).1 hx with hx|hx
  ·exact h.lvl x hx
  ·have:=(hn x hx).1;omega
 ·rcases(hmem x).1 hx with hx|hx
  ·exact h.ins x hx
  ·exact hc _ (hn x hx).2
 ·refine Fo.perm ?_ htr.symm
  have h1:=J0 come (trk O 0) hc
  have h2:cc N (trk O 0++come)=cc N (trk O 0++IY (trk O 0) come):=VB fun a b=>UU come (trk O 0)
  have h3:=h.fo
  unfold Fo at *
  rw[AUb]
  omega
 ·rcases(hmem x).1 hx with hx|hx
  ·exact(h.lie x hx hf).sub (hsup _)
  ·obtain⟨h0,he⟩:=hn x hx
   rw[h0,AA6 fun e=>htr.mem_iff,← UU]
   exact .edge (l:=trk O 0++come) (ed x) (AUQ.2 (.inr he))
 ·by_cases hk0:k=0
  ·subst hk0
   have:csz N (trk O' ((0:Nat):Int)) (v:Int)≤N:=by
    unfold csz
    have:=List.countP_le_length (p:=fun(w:Nat)=>KB (trk O' ((0:Nat):Int)) (v:Int) (w:Int)) (l:=List.range N)
    rw[AU9]at this
    exact this
   simp only[Nat.pow_zero,Nat.div_one]
   omega
  ·exact AVT (AA3 fun w hw c=>c.sub fun e he=>(hk k (by omega) e).1 he) (h.halv k hkt v hv)
end Go.Pev.Pl
end
section
namespace Go.Pev.Pl
section
variable {N top:Nat} {ts w:List Tie} (hp:w.Perm ts) (hi:∀ x∈ts,InE N (ed x)) (hl:∀ t∈ts,0≤t.2.2.1∧t.2.2.1≤(top:Int)) (hfo:Fo N (trk ts 0)) (hlie:∀ x∈ts,x.2.2.2.1=false→Con (trk ts x.2.2.1) x.1 x.2.1)
include hp hi
include hl hfo hlie
end
end Go.Pev.Pl
end
section
namespace Go.Pev
inductive Ty where
 |unit|bool
 |int (k:IntKind)
 |slice (e:Ty)
 |prod (a b:Ty)
 |arr (n:Nat) (e:Ty)
 deriving DecidableEq
@[reducible] def Ty.den:Ty→Type
 |.unit=>Unit
 |.bool=>Bool
 |.int _=>Int
 |.slice e=>List e.den
 |.prod a b=>a.den×b.den
 |.arr _ e=>List e.den
def Ty.size:Ty→Nat
 |.unit=>0
 |.bool=>1
 |.int _=>1
 |.slice _=>1
 |.prod a b=>a.size+b.size
 |.arr n e=>n*e.size
def Ty.isAgg:Ty→Bool
 |.unit=>true
 |.prod _ _=>true
 |.arr _ _=>true
 |_=>false
def Ty.zero:(t:Ty)→t.den
 |.unit=>()
 |.bool=>false
 |.int _=>(0:Int)
 |.slice _=>[]
 |.prod a b=>(a.zero,b.zero)
 |.arr n e=>List.replicate n e.zero
def Ty.flat:Ty→Bool
 |.unit=>true
 |.bool=>true
 |.int _=>true
 |.slice _=>false
 |.prod a b=>a.flat&&b.flat
 |.arr _ e=>e.flat
inductive AV where
 |junk
 |data (t:Ty) (d:t.den)
 |nils (e:Ty)
 |agg (cs:List AV)
 |own (id:Nat)
 |win (id off n:Nat)
 |ptr (id off:Nat)
 |eptr (id i sub:Nat)
 |dptr (cs:List AV)
 |clo (f:FuncId) (caps:List AV)
 |bnd (f:FuncId) (fs:List AV)
 |str (xs:List Int)
 |mp (id:Nat)
 |tup (vs:List AV)
inductive Ob where
 |free
 |dead
 |box (cs:List AV)
 |arr (T:TypeId) (t:Ty) (xs:List t.den)
 |map (k v:Ty) (es:List (k.den×v.den))
 |prs (T:TypeId) (tgt:Nat) (is:List Int)
def EH(tgt:Nat)(is:List Int):List AV:=is.map fun i=>.eptr tgt i.toNat 0
structure St where
 tmps:List AV
 heap:List Ob
 frz:List Bool
structure Eff where
 heap:Option (List Ob×List Bool):=none
 objs:List (Nat×Ob):=[]
 frz:List Nat:=[]
def AQ{α:Type}(xs:List α):Int:=(xs.length:Int)
def Aj{α:Type}(xs:List α)(i:Nat)(x:α):List α:=xs.set i x
def AN{α:Type}(xs:List α)(i:Nat)(z:α):α:=xs.getD i z
def Bs{α:Type}(xs ys:List α):List α:=xs++ys
def DN{α:Type}(n:Nat)(xs:List α):List α:=xs.take n
def FL{α:Type}(off n:Nat)(xs:List α):List α:=(xs.drop off).take n
def AFE{α:Type}(n:Nat)(x:α):List α:=List.replicate n x
def AF(n:Int):Nat:=n.toNat
def C1{α:Type}(off n:Nat)(z:α)(xs:List α):List α:=xs.take off++(List.replicate n z++xs.drop (off+n))
def UO:Operand→Option ByteArray
 |.const (.string s)=>some s
 |_=>none
def bytesOf(s:ByteArray):List Int:=s.data.toList.map fun b=>(b.toNat:Int)
def UL(xs:List Int):List Int:=xs.map fun n=>((UInt8.ofNat n.toNat).toNat:Int)
def ES(a b:Int):Int:=if b<a then b else a
def imax(a b:Int):Int:=if b > a then b else a
noncomputable def lock{α:Type}(x:α):α:=Classical.choose (⟨x,rfl⟩:∃ y,y=x)
theorem AJ{α:Type}(x:α):lock x=x:=Classical.choose_spec (⟨x,rfl⟩:∃ y,y=x)
class Lk where
 f:{α:Type}→α→α
noncomputable instance lockI:Lk:=⟨fun x=>lock x⟩
abbrev idI:Lk:=⟨fun x=>x⟩
theorem TR:lockI=idI:=by
 unfold lockI idI
 congr
 funext α x
 exact AJ x
def OJ{α:Type}(xs:List α)(i:Int):Option α:=if i<0 then none else xs[i.toNat]?
def idx[Lk]{α:Type}(xs:List α)(i:Int):Option α:=Lk.f (OJ xs i)
theorem idx_eq{α:Type}(xs:List α)(i:Int):idx xs i=OJ xs i:=AJ _
def PD{α:Type}(xs:List α)(l h:Int):Option (List α):=
 if 0≤l∧l≤h∧h≤xs.length then some ((xs.take h.toNat).drop l.toNat)else none
def G8[Lk]{α:Type}(xs:List α)(l h:Int):Option (List α):=Lk.f (PD xs l h)
theorem Qm{α:Type}(xs:List α)(l h:Int):G8 xs l h=PD xs l h:=AJ _
def ilt[Lk](a b:Int):Bool:=Lk.f (decide (a<b))
def ile[Lk](a b:Int):Bool:=Lk.f (decide (a≤b))
def ieq[Lk](a b:Int):Bool:=Lk.f (a==b)
theorem Aq(a b:Int):ilt a b=decide (a<b):=AJ _
theorem Az(a b:Int):ile a b=decide (a≤b):=AJ _
def ATh(a b:Int):Bool:=decide (a<b)
def ATi(a b:Int):Bool:=decide (a≤b)
def ATj(a b:Int):Bool:=a==b
theorem ET(a b:Int):ieq a b=(a==b):=AJ _
def ARb(a b:List Int):Bool:=a==b
def seq?[Lk](a b:List Int):Bool:=Lk.f (ARb a b)
theorem seq_eq(a b:List Int):seq? a b=ARb a b:=AJ _
def BA:(t:Ty)→t.den→List AV
 |.unit,_=>[]
 |.bool,b=>[.data .bool b]
 |.int k,n=>[.data (.int k) n]
 |.slice e,xs=>[.data (.slice e) xs]
 |.prod a b,d=>BA a d.1++BA b d.2
 |.arr n e,xs=>(List.range n).flatMap fun i=>BA e (AN xs i e.zero)
def zeroCells:Ty→List AV
 |.unit=>[]
 |.bool=>[.data .bool false]
 |.int k=>[.data (.int k) (0:Int)]
 |.slice e=>[.nils e]
 |.prod a b=>zeroCells a++zeroCells b
 |.arr n e=>(List.replicate n (zeroCells e)).flatten
def cast{t t':Ty}(d:t.den):Option t'.den:=if h:t=t' then some (h▸d)else none
def VC{t t':Ty}(d:List t.den):Option (List t'.den):=if h:t=t' then some (h▸d)else none
def Df(H:List Ob)(t:Ty)(v:AV):Option (t.den×List Nat):=
 match v with
 |.data _ d=>(cast d:Option t.den).map fun x=>(x,[])
 |.nils _=>match t with
  |.slice _=>some ([],[])
  |_=>none
 |.own id=>match H[id]? with
  |some (.arr _ e xs)=>(cast (t:=.slice e) xs:Option t.den).map fun x=>(x,[id])
  |_=>none
 |.win id off n=>match H[id]? with
  |some (.arr _ e xs)=>(cast (t:=.slice e) (FL off n xs):Option t.den).map fun x=>(x,[id])
  |_=>none
 |_=>none
def L8{α:Type}(one:List AV→Option (α×List Nat×List AV)):Nat→List AV→Option (List α×List Nat×List AV)
 |0,cs=>some ([],[],cs)
 |n+1,cs=>match one cs with
  |none=>none
  |some (x,f,cs)=>match L8 one n cs with
   |none=>none
   |some (xs,g,cs)=>some (x::xs,f++g,cs)
def As(H:List Ob):(t:Ty)→List AV→Option (t.den×List Nat×List AV)
 |.unit,cs=>some ((),[],cs)
 |.bool,c::cs=>match Df H .bool c with
  |none=>none
  |some (x,f)=>some (x,f,cs)
 |.int k,c::cs=>match Df H (.int k) c with
  |none=>none
  |some (x,f)=>some (x,f,cs)
 |.slice e,c::cs=>match Df H (.slice e) c with
  |none=>none
  |some (x,f)=>some (x,f,cs)
 |.prod a b,cs=>match As H a cs with
  |none=>none
  |some (x,f,cs)=>match As H b cs with
   |none=>none
   |some (y,g,cs)=>some ((x,y),f++g,cs)
 |.arr n e,cs=>L8 (As H e) n cs
 |_,[]=>none
def asAgg(H:List Ob)(t:Ty)(v:AV):Option (t.den×List Nat):=
 match v with
 |.data _ d=>(cast d:Option t.den).map fun x=>(x,[])
 |.agg cs=>match As H t cs with
  |some (x,f,[])=>some (x,f)
  |_=>none
 |_=>none
def Ej(H:List Ob)(t:Ty)(v:AV):Option (t.den×List Nat):=
 match t.isAgg with
 |true=>asAgg H t v
 |false=>Df H t v
@[reducible] def CJ:List Ty→Type
 |[]=>Unit
 |t::ts=>t.den×CJ ts
abbrev Spec:=(R:Type)→List AV→List Ob→List Bool→Nat→(AV→Eff→Option R)→Option R
abbrev AFn:=(R:Type)→St→(Exit→St→Option R)→Option R
def Vo(P:Program):Nat→TypeId→Option Ty
 |0,_=>none
 |n+1,t=>match P.underlying t with
  |some .bool=>some .bool
  |some (.int k)=>some (.int k)
  |some (.slice e)=>(Vo P n e).map .slice
  |some (.array c e)=>(Vo P n e).map (.arr c)
  |some (.struct fs)=>(fs.toList.mapM fun f=>Vo P n f.type).map fun ts=>ts.foldr Ty.prod .unit
  |_=>none
def AFs(P:Program)(t:TypeId):Option Ty:=Vo P 12 t
def sliceAt(P:Program)(t:TypeId):Option (TypeId×Ty):=
 match P.underlying t with
 |some (.slice e)=>match AFs P e with
  |some x=>match decide (0<x.size)with
   |true=>some (e,x)
   |false=>none
  |none=>none
 |_=>none
def DR(P:Program)(t:TypeId):Option Bool:=
 match P.underlying t with
 |some (.struct _)=>some true
 |some (.array _ _)=>some true
 |some _=>some false
 |none=>none
def DX:AV→Value→Bool
 |.data .bool b,.bool c=>b==c
 |.data (.int k) n,.int k' m=>(decide (k=k'))&&(n==m)
 |.nils _,.slice none 0 0=>true
 |_,_=>false
def Bc:List AV→List Value→Bool
 |[],[]=>true
 |a::as,v::vs=>DX a v&&Bc as vs
 |_,_=>false
def Tj:Value→Bool
 |.agg _=>true
 |_=>false
def zeroAt(P:Program)(T:TypeId):Option (Ty×List AV):=
 match AFs P T,P.info? T with
 |some t,some i=>match i.zero with
  |some z=>if Bc (zeroCells t) z.cells.toList&&(i.size==t.size)&&(t.isAgg==Tj z)then some (t,zeroCells t)else none
  |none=>none
 |_,_=>none
def AA4:Value→AV
 |.bool b=>.data .bool b
 |.int k n=>.data (.int k) n
 |.slice none 0 0=>.nils .unit
 |.string s=>.str (bytesOf s)
 |_=>.junk
def BC(tmps:List AV):Operand→AV
 |.tmp t=>tmps.getD t .junk
 |.const v=>AA4 v
 |.func f=>.clo f []
 |.global _=>.junk
def cells? : AV→Option (List AV)
 |.junk=>none
 |.tup _=>none
 |.data .unit _=>some []
 |.data (.prod a b) d=>some (BA (.prod a b) d)
 |.data (.arr n e) d=>some (BA (.arr n e) d)
 |.agg cs=>some cs
 |v=>some [v]
noncomputable def AJT(op:BinOp)(k:IntKind)(a b:Int):Option AV:=
 match op with
 |.add=>some (.data (.int k) (k.wrap (a+b)))
 |.sub=>some (.data (.int k) (k.wrap (a-b)))
 |.mul=>some (.data (.int k) (k.wrap (a*b)))
 |.and=>some (.data (.int k) (k.wrap (BitVec.ofInt k.bits a &&& BitVec.ofInt k.bits b).toNat))
 |.or=>some (.data (.int k) (k.wrap (BitVec.ofInt k.bits a ||| BitVec.ofInt k.bits b).toNat))
 |.xor=>some (.data (.int k) (k.wrap (BitVec.ofInt k.bits a ^^^ BitVec.ofInt k.bits b).toNat))
 |.andNot=>some (.data (.int k) (k.wrap (BitVec.ofInt k.bits a &&& ~~~(BitVec.ofInt k.bits b)).toNat))
 |.eql=>some (.data .bool (ieq a b))
 |.neq=>some (.data .bool (!(ieq a b)))
 |.lss=>some (.data .bool (ilt a b))
 |.leq=>some (.data .bool (ile a b))
 |.gtr=>some (.data .bool (ilt b a))
 |.geq=>some (.data .bool (ile b a))
 |_=>none
def Vu(k:IntKind)(a b:Int):Option Int:=if b=0 then none else some (k.wrap (a.tdiv b))
def quo?[Lk](k:IntKind)(a b:Int):Option Int:=Lk.f (Vu k a b)
theorem R9(k:IntKind)(a b:Int):quo? k a b=Vu k a b:=AJ _
def ACo(a b:Int):Option Int:=if b=0 then none else some (a.tmod b)
def rem?[Lk](a b:Int):Option Int:=Lk.f (ACo a b)
theorem AGj(a b:Int):rem? a b=ACo a b:=AJ _
def Y1(k:IntKind)(a b:Int):Option Int:=if b<0 then none else some (k.wrap (a*2 ^ min b.toNat k.bits))
def shl?[Lk](k:IntKind)(a b:Int):Option Int:=Lk.f (Y1 k a b)
theorem Y0(k:IntKind)(a b:Int):shl? k a b=Y1 k a b:=AJ _
def ACY(k:IntKind)(a b:Int):Option Int:=if b<0 then none else some (a.fdiv (2 ^ min b.toNat k.bits))
def shr?[Lk](k:IntKind)(a b:Int):Option Int:=Lk.f (ACY k a b)
theorem AGM(k:IntKind)(a b:Int):shr? k a b=ACY k a b:=AJ _
def Pr(n:Int):Bool:=Nat.ble n.toNat 4294967296
theorem ANE(n:Int):Pr n=true↔n≤4294967296:=by
 unfold Pr
 rw[Nat.ble_eq]
 omega
def fits[Lk](n:Int):Bool:=Lk.f (Pr n)
theorem ASl(n:Int):fits n=Pr n:=AJ _
theorem GM(n:Int):fits n=true↔n≤4294967296:=by rw[ASl,ANE]
def K2(n:Int):Bool:=decide (0≤n)&&Nat.ble n.toNat 4294967296
theorem AIn(n:Int):K2 n=true↔0≤n∧n≤4294967296:=by
 unfold K2
 rw[AUR,Nat.ble_eq,AUP]
 omega
def T8[Lk](n:Int):Bool:=Lk.f (K2 n)
theorem AQk(n:Int):T8 n=K2 n:=AJ _
theorem OR(n:Int):T8 n=true↔0≤n∧n≤4294967296:=by rw[AQk,AIn]
def AAU(P:Program)(t:TypeId):Option IntKind:=
 match P.underlying t with
 |some (.int k)=>some k
 |_=>none
def Cv(cs new:List AV)(off:Nat):Option (List AV):=
 if off+new.length≤cs.length then some (cs.take off++new++cs.drop (off+new.length))else none
def De(place:Nat→Option (Nat×Nat)):List (Nat×AV)→List AV→Option (List AV)
 |[],cs=>some cs
 |(i,v)::rest,cs=>match place i with
  |none=>none
  |some (off,size)=>match cells? v with
   |none=>none
   |some vs=>match decide (vs.length=size)with
    |false=>none
    |true=>match Cv cs vs off with
     |none=>none
     |some cs=>De place rest cs
def fieldAt(P:Program)(T:TypeId)(f:Nat):Option (Nat×Nat×Bool):=
 match P.underlying T with
 |some (.struct fs)=>match fs[f]? with
  |some f=>match P.info? f.type,DR P f.type with
   |some i,some ag=>some (f.offset,i.size,ag)
   |_,_=>none
  |none=>none
 |_=>none
def elemAt(P:Program)(T:TypeId):Option (Nat×Bool):=
 match P.underlying T with
 |some (.array _ e)=>match P.info? e,DR P e with
  |some i,some ag=>some (i.size,ag)
  |_,_=>none
 |_=>none
def BD(P:Program)(T:TypeId):Option Nat:=(P.info? T).map (·.size)
def cellAt(P:Program)(T:TypeId):Option TypeId:=
 match P.underlying T with
 |some (.slice e)=>match P.info? e with
  |some i=>match i.zero with
   |some z=>match decide (i.size=1)&&(decide (z.cells.size=1)&&decide (i.bytes≤1024))with
    |true=>some e
    |false=>none
   |none=>none
  |none=>none
 |_=>none
def loadCells(agg:Bool)(size:Nat)(cs:List AV):Option AV:=
 match agg with
 |true=>if size≤cs.length then some (.agg (cs.take size))else none
 |false=>cs.head?
def AK{α β:Type}[DecidableEq α](es:List (α×β))(k:α):Option β:=
 match es with
 |[]=>none
 |(a,b)::es=>if a=k then some b else AK es k
def Ab{α β:Type}[DecidableEq α](es:List (α×β))(k:α)(v:β):List (α×β):=
 match es with
 |[]=>[(k,v)]
 |(a,b)::es=>if a=k then(a,v)::es else(a,b)::Ab es k v
def DJ{α β:Type}[DecidableEq α](es:List (α×β))(k:α):Option Nat:=
 match es with
 |[]=>none
 |(a,_)::es=>if a=k then some 0 else(DJ es k).map (· + 1)
def Kb{α β:Type}[DecidableEq α](es:List (α×β))(k:α):Int:=((DJ es k).getD es.length:Nat)
def AHj{α β:Type}(es:List (α×β))(i:Int)(v:β):List (α×β):=es.modify i.toNat fun e=>(e.1,v)
instance decDen:(t:Ty)→DecidableEq t.den
 |.unit=>inferInstanceAs (DecidableEq Unit)
 |.bool=>inferInstanceAs (DecidableEq Bool)
 |.int _=>inferInstanceAs (DecidableEq Int)
 |.slice e=>haveI:=decDen e;inferInstanceAs (DecidableEq (List e.den))
 |.prod a b=>@instDecidableEqProd _ _ (decDen a) (decDen b)
 |.arr _ e=>haveI:=decDen e;inferInstanceAs (DecidableEq (List e.den))
def Gl(H:List Ob)(id:Nat):Bool:=
 match H[id]? with
 |some (.box _)=>true
 |_=>false
def CE(H:List Ob)(id:Nat):Bool:=
 match H[id]? with
 |some (.arr _ _ _)=>true
 |_=>false
def EP(H:List Ob):AV→Bool
 |.data (.slice _) _=>true
 |.nils _=>true
 |.own id=>CE H id
 |.win id _ _=>CE H id
 |_=>false
def P6:AV→Bool
 |.agg _=>true
 |.data t _=>t.isAgg
 |_=>false
def Ay(H:List Ob)(fz:List Bool)(slot:Nat):Bool:=
 match H[slot]? with
 |some .free => !(fz.getD slot false)
 |_=>false
def Au(fz:List Bool)(id:Nat):Bool := !(fz.getD id false)
noncomputable def Er(H:List Ob)(sz:Option Nat)(x:AV)(lo hi:Option Int):(R:Type)→(AV→Option R)→Option R:=fun _ k=>
 match x with
 |.data (.slice e) xs=>match decide (sz=some e.size)with
  |true=>match G8 xs (lo.getD 0) (hi.getD (AQ xs))with
   |none=>none
   |some ys=>k (.data (.slice e) ys)
  |false=>none
 |.nils e=>match sz.isSome with
  |true=>match G8 ([]:List Unit) (lo.getD 0) (hi.getD 0)with
   |some _=>k (.nils e)
   |none=>none
  |false=>none
 |.own id=>match H[id]? with
  |some (.arr _ e xs)=>match decide (sz=some e.size)with
   |true=>match G8 xs (lo.getD 0) (hi.getD (AQ xs))with
    |none=>none
    |some ys=>k (.win id (AF (lo.getD 0)) (AF (AQ ys)))
   |false=>none
  |_=>none
 |.win id off n=>match H[id]? with
  |some (.arr _ e xs)=>match decide (sz=some e.size)with
   |true=>match G8 (FL off n xs) (lo.getD 0) (hi.getD (n:Int))with
    |none=>none
    |some ys=>k (.win id (off+AF (lo.getD 0)) (AF (AQ ys)))
   |false=>none
  |_=>none
 |_=>none
def AKI:AV→Option Int
 |.data (.int _) n=>some n
 |_=>none
def HD(ρ:Operand→AV):Option Operand→Option (Option Int)
 |none=>some none
 |some x=>(AKI (ρ x)).map some
end Go.Pev
end
section
namespace Go.Pev
noncomputable section
structure Env where
 spec:FuncId→Spec
 loc:FuncId→Bool
 loc2:FuncId→Bool
 keep:Bool:=false
def BE:List (Nat×Ob)→List Ob→List Ob
 |[],H=>H
 |(i,o)::rest,H=>BE rest (H.set i o)
def Ag:List Nat→List Bool→List Bool
 |[],F=>F
 |i::rest,F=>Ag rest (F.set i true)
structure Hints where
 fp:Nat→List (List Nat):=fun _=>[]
 loop:Nat→AFn:=fun _ _ _ _=>none
def slotsOf:Op→Nat
 |.alloc _=>1
 |.box ..=>1
 |.buildSlice ..=>1
 |.makeSlice ..=>1
 |.makeMap ..=>1
 |.slice _ _ _ _ (some _)=>1
 |.call { callee:=.builtin .append,.. }=>1
 |.call { callee:=.value _,.. }=>4
 |_=>0
def Cg(H:List Ob)(t:Ty):List (Nat×AV)→List t.den→List Nat→Option (List t.den×List Nat)
 |[],xs,fr=>some (xs,fr)
 |(i,v)::rest,xs,fr=>match Ej H t v,decide (i<xs.length)with
  |some (x,f),true=>Cg H t rest (xs.set i x) (fr++f)
  |_,_=>none
def Q8(P:Program)(T:TypeId):Bool:=
 match P.underlying T with
 |some (.slice e)=>match P.underlying e with
  |some (.int .u8)=>true
  |_=>false
 |_=>false
def AJm(P:Program)(T:TypeId):Bool:=
 match P.underlying T with
 |some .string=>true
 |_=>false
def AP8(P:Program)(T:TypeId):Option Ty:=
 match P.underlying T with
 |some (.int k)=>some (.int k)
 |_=>none
def APm(P:Program)(T:TypeId):AV:=
 match sliceAt P T with
 |some (_,t)=>.nils t
 |none=>.nils .unit
def Ih(P:Program)(t:TypeId):Bool:=
 match P.underlying t with
 |some (.int _)=>true
 |some .bool=>true
 |_=>false
def Cz(P:Program):List Field→Nat→Bool
 |[],_=>true
 | f :: fs, i => (f.name != "_") && (decide (f.offset = i) && (Ih P f.type && Cz P fs (i + 1)))
def GF(P:Program)(t:TypeId):Bool:=
 match P.underlying t with
 |some (.int _)=>true
 |_=>false
def structEq(P:Program)(T:TypeId):Option (List Bool):=
 match P.underlying T with
 |some (.struct fs)=>match !(P.eqGuardType P.depth T)&&(!(P.stoodInHeld T)&&Cz P fs.toList 0)with
  |true=>some (fs.toList.map fun f=>GF P f.type)
  |false=>none
 |_=>none
def Kk(P:Program):List Field→Nat→Option (List Bool)
 |[],_=>some []
 | f :: fs, i => match (f.name != "_") && decide (f.offset = i) with
  |false=>none
  |true=>match Ih P f.type with
   |true=>(Kk P fs (i+1)).map (GF P f.type :: ·)
   |false=>match P.underlying f.type with
    |some (.struct gs)=>match !(P.stoodInHeld f.type)&&(Cz P gs.toList 0&&decide (BD P f.type=some gs.size))with
     |true=>(Kk P fs (i+gs.size)).map ((gs.toList.map fun g=>GF P g.type) ++ ·)
     |false=>none
    |_=>none
def NP(P:Program)(T:TypeId):Option (List Bool):=
 match P.underlying T with
 |some (.struct fs)=>match !(P.eqGuardType P.depth T) && !(P.stoodInHeld T)with
  |true=>Kk P fs.toList 0
  |false=>none
 |_=>none
def AIL(P:Program)(T:TypeId):Option Nat:=
 match P.info? T with
 |some i=>match i.zero with
  |some z=>match z.cells.toList.all fun u=>u.oneCell' with
   |true=>some z.cells.size
   |false=>none
  |none=>none
 |none=>none
def kinds? : Ty→Option (List Bool)
 |.unit=>some []
 |.prod (.int _) r=>(kinds? r).map (true :: ·)
 |.prod .bool r=>(kinds? r).map (false :: ·)
 |_=>none
def Lu(P:Program)(T:TypeId):Option Ty:=
 match P.underlying T with
 |some (.array n e)=>match decide (n=2),P.underlying e,decide (BD P e=some 1)with
  |true,some (.int k),true=>some (.prod (.int k) (.prod (.int k) .unit))
  |_,_,_=>none
 |_=>none
def Pn(P:Program)(T:TypeId):Option Ty:=
 match AP8 P T with
 |some t=>some t
 |none=>match structEq P T,AFs P T with
  |some n,some t=>match decide (kinds? t=some n)with
   |true=>some t
   |false=>none
  |_,_=>Lu P T
noncomputable def A6:List Bool→List AV→List AV→Option Bool
 |[],[],[]=>some true
 |true::ks,.data (.int j) a::cs,.data (.int j') b::ds=>match decide (j=j'),A6 ks cs ds with
  |true,some r=>some (ieq a b&&r)
  |_,_=>none
 |false::ks,.data .bool a::cs,.data .bool b::ds=>match A6 ks cs ds with
  |some r=>some ((a==b)&&r)
  |none=>none
 |_,_,_=>none
def AOw(P:Program)(T:TypeId):Option (List AV):=
 match P.info? T,P.underlying T with
 |some i,some (.struct fs)=>match i.zero with
  |some z=>match(z.cells.toList.all fun u=>u.oneCell')&&fs.toList.all fun f=>(P.info? f.type).isSome with
   |true=>some (List.replicate z.cells.size .junk)
   |false=>none
  |none=>none
 |_,_=>none
def evalOp(P:Program)(E:Env)(R:Type)(o:Op)(ty:TypeId)(ρ:Operand→AV)(H:List Ob)(fz:List Bool)(slot:Nat)(k:AV→Eff→Option R):Option R:=
 match o with
 |.move x|.assign x=>match ρ x with
  |.nils .unit=>k (APm P ty) {}
  |v=>k v {}
 |.pick c a b=>match ρ c with
  |.data .bool true=>k (ρ a) {}
  |.data .bool false=>k (ρ b) {}
  |_=>none
 |.alloc T=>match zeroAt P T with
  |some (_,cs)=>(match Ay H fz slot with|true=>k (.ptr slot 0) { objs:=[(slot,.box cs)] }|false=>none)
  |none=>match AIL P T with
   |some n=>(match Ay H fz slot with|true=>k (.ptr slot 0) { objs:=[(slot,.box (List.replicate n .junk))] }|false=>none)
   |none=>none
 |.box T x=>match BD P T with
  |some n=>match cells? (ρ x)with
   |some vs=>match decide (vs.length=n)with
    |true=>(match Ay H fz slot with|true=>k (.ptr slot 0) { objs:=[(slot,.box vs)] }|false=>none)
    |false=>none
   |none=>none
  |none=>none
 |.build T parts=>match zeroAt P T with
  |some (_,cs)=>match P.underlying T with
   |some (.struct fs)=>match De (fun i=>match fs[i]? with
     |some f=>(BD P f.type).map fun n=>(f.offset,n)
     |none=>none) (parts.toList.map fun p=>(p.1,ρ p.2)) cs with
    |some cs=>k (.agg cs) {}
    |none=>none
   |some (.array _ e)=>match BD P e with
    |some n=>match De (fun i=>some (i*n,n)) (parts.toList.map fun p=>(p.1,ρ p.2)) cs with
     |some cs=>k (.agg cs) {}
     |none=>none
    |none=>none
   |_=>none
  |none=>match AOw P T,P.underlying T with
   |some cs,some (.struct fs)=>match De (fun i=>match fs[i]? with
     |some f=>(BD P f.type).map fun n=>(f.offset,n)
     |none=>none) (parts.toList.map fun p=>(p.1,ρ p.2)) cs with
    |some cs=>k (.agg cs) {}
    |none=>none
   |_,_=>none
 |.buildSlice T len parts=>match sliceAt P T with
  |some (e,t)=>match zeroAt P e with
   |some _=>match decide (len*t.size≤16777216)with
    |true=>match Cg H t (parts.toList.map fun p=>(p.1,ρ p.2)) (List.replicate len t.zero) []with
     |some (xs,fr)=>(match Ay H (Ag fr fz) slot with|true=>k (.own slot) { objs:=[(slot,.arr e t xs)],frz:=fr }|false=>none)
     |none=>none
    |false=>none
   |none=>none
  |none=>match cellAt P T,decide (len=1),parts.toList.map (fun p=>(p.1,ρ p.2))with
   |some e,true,[p]=>match p.2 with
    |.eptr tgt i sub=>match decide (p.1=0)&&(decide (sub=0)&&CE H tgt)with
     |true=>(match Ay H fz slot with|true=>k (.own slot) { objs:=[(slot,.prs e tgt [Int.ofNat i])] }|false=>none)
     |false=>none
    |_=>none
   |_,_,_=>none
 |.load T a=>match BD P T,DR P T with
  |some n,some ag=>match ρ a with
   |.ptr id off=>match H[id]? with
    |some (.box cs)=>match loadCells ag n (cs.drop off)with
     |some v=>k v {}
     |none=>none
    |_=>none
   |.dptr cs=>match loadCells ag n cs with
    |some v=>k v {}
    |none=>none
   |.eptr id i sub=>match H[id]? with
    |some (.arr _ t xs)=>match loadCells ag n ((BA t (AN xs i t.zero)).drop sub)with
     |some v=>k v {}
     |none=>none
    |some (.prs _ tgt is)=>match(n==1)&&((sub==0) && !ag)with
     |true=>k (.eptr tgt (AF (AN is i 0)) 0) {}
     |false=>none
    |_=>none
   |_=>none
  |_,_=>none
 |.store T a x=>match BD P T,cells? (ρ x)with
  |some n,some vs=>match decide (vs.length=n)with
   |false=>none
   |true=>match ρ a with
    |.ptr id off=>match H[id]? with
     |some (.box cs)=>match Cv cs vs off with
      |some cs=>k .junk { objs:=[(id,.box cs)] }
      |none=>none
     |_=>none
    |.eptr id i sub=>match H[id]? with
     |some (.arr T' t xs)=>match(sub==0)&&(n==t.size)with
      |true=>match Ej H t (ρ x)with
       |some (y,fr)=>match Au (Ag fr fz) id with
        |true=>k .junk { objs:=[(id,.arr T' t (Aj xs i y))],frz:=fr }
        |false=>none
       |none=>none
      |false=>match Cv (BA t (AN xs i t.zero)) vs sub with
       |none=>none
       |some cs=>match As H t cs with
        |some (y,fr,[])=>match Au (Ag fr fz) id with
         |true=>k .junk { objs:=[(id,.arr T' t (Aj xs i y))],frz:=fr }
         |false=>none
        |_=>none
     |_=>none
    |_=>none
  |_,_=>none
 |.nilCheck x=>match ρ x with
  |.ptr id off=>match Gl H id with
   |true=>k (.ptr id off) {}
   |false=>none
  |.eptr id i s=>match CE H id with
   |true=>k (.eptr id i s) {}
   |false=>none
  |.dptr cs=>k (.dptr cs) {}
  |.clo f cs=>k (.clo f cs) {}
  |.bnd f cs=>k (.bnd f cs) {}
  |_=>none
 |.binOp op T x y _=>match NP P T with
  |some n=>match cells? (ρ x),cells? (ρ y),P6 (ρ x)&&P6 (ρ y)with
   |some cs,some ds,true=>match A6 n cs ds,op with
    |some b,.eql=>k (.data .bool b) {}
    |some b,.neq=>k (.data .bool (!b)) {}
    |_,_=>none
   |_,_,_=>none
  |none=>match ρ x,ρ y with
   |.data (.int j) a,.data (.int j') b=>match op with
    |.shl=>match shl? j a b with
     |some n=>k (.data (.int j) n) {}
     |none=>none
    |.shr=>match shr? j a b with
     |some n=>k (.data (.int j) n) {}
     |none=>none
    |.quo=>match decide (j=j')with
     |true=>match quo? j a b with
      |some n=>k (.data (.int j) n) {}
      |none=>none
     |false=>none
    |.rem=>match decide (j=j')with
     |true=>match rem? a b with
      |some n=>k (.data (.int j) n) {}
      |none=>none
     |false=>none
    |op=>match decide (j=j'),AJT op j a b with
     |true,some v=>k v {}
     |_,_=>none
   |.data .bool a,.data .bool b=>match op,P.underlying T with
    |.eql,some .bool=>k (.data .bool (a==b)) {}
    |.neq,some .bool=>k (.data .bool (!(a==b))) {}
    |_,_=>none
   |.str a,.str b=>match op with
    |.eql=>k (.data .bool (seq? a b)) {}
    |.neq=>k (.data .bool (!(seq? a b))) {}
    |_=>none
   |_,_=>none
 |.unOp op _ x=>match op,ρ x with
  |.not,.data .bool b=>k (.data .bool (!b)) {}
  |.neg,.data (.int j) n=>k (.data (.int j) (j.wrap (0-n))) {}
  |_,_=>none
 |.convert src dst x=>match ρ x,(P.underlying src).isSome,AAU P dst with
  |.data (.int _) n,true,some j=>k (.data (.int j) (j.wrap n)) {}
  |x,_,_=>match Q8 P src,AJm P dst with
   |true,true=>match Ej H (.slice (.int .u8)) x with
    |some (xs,_)=>k (.str (UL xs)) {}
    |none=>none
   |_,_=>none
 |.makeFunc (.func f) first cs=>match first.toList with
  |[]=>k (.clo f (cs.toList.map ρ)) {}
  |x::xs=>match cs.toList with
   |[]=>k (.bnd f ((x::xs).map ρ)) {}
   |_::_=>none
 |.makeMap T none=>match P.underlying T with
  |some (.map a b)=>match Pn P a,AFs P b with
   |some a,some b=>(match Ay H fz slot with|true=>k (.mp slot) { objs:=[(slot,.map a b [])] }|false=>none)
   |_,_=>none
  |_=>none
 |.makeSlice T l c=>match sliceAt P T with
  |some (e,t)=>match zeroAt P e,ρ l,ρ c with
   |some _,.data (.int _) l,.data (.int _) c=>match T8 l&&T8 c&&ile l c&&decide (((P.info? e).map (·.bytes)).getD 65537≤65536)with
    |true=>(match Ay H fz slot with|true=>k (.own slot) { objs:=[(slot,.arr e t (AFE (AF l) t.zero))] }|false=>none)
    |false=>none
   |_,_,_=>none
  |none=>none
 |.slice T x lo hi mx=>match P.underlying T with
  |some (.slice e)=>match mx with
   |none=>match HD ρ lo,HD ρ hi with
    |some lo,some hi=>Er H (BD P e) (ρ x) lo hi R fun v=>k v {}
    |_,_=>none
   |some m=>match HD ρ lo,HD ρ hi,AKI (ρ m),sliceAt P T with
    |some none,some (some 0),some 0,some (_,t)=>match EP H (ρ x),BD P e with
     |true,some _=>(match Ay H fz slot with|true=>k (.own slot) { objs:=[(slot,.arr e t [])] }|false=>none)
     |_,_=>none
    |_,_,_,_=>none
  |_=>none
 |.fieldAddr T x f=>match fieldAt P T f with
  |none=>none
  |some (off,size,_)=>match decide (size=0)with
   |true=>none
   |false=>match ρ x with
    |.ptr id o=>match Gl H id with
     |true=>k (.ptr id (o+off)) {}
     |false=>none
    |.eptr id i s=>match CE H id with
     |true=>k (.eptr id i (s+off)) {}
     |false=>none
    |.dptr cs=>k (.dptr (cs.drop off)) {}
    |_=>none
 |.field T x f=>match fieldAt P T f with
  |none=>none
  |some (off,size,ag)=>match cells? (ρ x),P6 (ρ x)with
   |some vs,true=>match loadCells ag size (vs.drop off)with
    |some v=>k v {}
    |none=>none
   |_,_=>none
 |.indexAddr T x i=>match P.underlying T,ρ i with
  |some (.slice e),.data (.int _) i=>match ρ x with
   |.data (.slice t) xs=>match decide (BD P e=some t.size)with
    |true=>match idx xs i with
     |some d=>k (.dptr (BA t d)) {}
     |none=>none
    |false=>none
   |.own id=>match H[id]? with
    |some (.arr _ t xs)=>match decide (BD P e=some t.size)with
     |true=>match idx xs i with
      |some _=>k (.eptr id (AF i) 0) {}
      |none=>none
     |false=>none
    |some (.prs _ _ is)=>match decide (BD P e=some 1)with
     |true=>match idx is i with
      |some _=>k (.eptr id (AF i) 0) {}
      |none=>none
     |false=>none
    |_=>none
   |.win id off n=>match H[id]? with
    |some (.arr _ t xs)=>match decide (BD P e=some t.size)with
     |true=>match idx (FL off n xs) i with
      |some _=>k (.eptr id (off+AF i) 0) {}
      |none=>none
     |false=>none
    |_=>none
   |_=>none
  |some (.array n e),.data (.int _) i=>match BD P e,decide (0≤i∧i<(n:Int))with
   |some s,true=>match ρ x with
    |.ptr id o=>match Gl H id with
     |true=>k (.ptr id (o+i.toNat*s)) {}
     |false=>none
    |.eptr id j o=>match CE H id with
     |true=>k (.eptr id j (o+i.toNat*s)) {}
     |false=>none
    |.dptr cs=>k (.dptr (cs.drop (i.toNat*s))) {}
    |_=>none
   |_,_=>none
  |_,_=>none
 |.index T x i=>match UO x with
  |some s=>match P.underlying T,ρ i with
   |some .string,.data (.int _) i=>match idx (bytesOf s) i with
    |some b=>k (.data (.int .u8) b) {}
    |none=>none
   |_,_=>none
  |none=>match elemAt P T,P.underlying T,ρ i with
   |some (size,ag),some (.array n _),.data (.int _) i=>match decide (0≤i∧i<(n:Int))with
    |true=>match cells? (ρ x),P6 (ρ x)with
     |some vs,true=>match loadCells ag size (vs.drop (i.toNat*size))with
      |some v=>k v {}
      |none=>none
     |_,_=>none
    |false=>none
   |_,_,_=>none
 |.lookup T m x ok=>match P.underlying T,ρ m with
  |some (.map kt vt),.mp id=>match H[id]? with
   |some (.map a b es)=>match decide (Pn P kt=some a),zeroAt P vt with
    |true,some (b',_)=>match decide (b'=b),Ej H a (ρ x)with
     |true,some (key,_)=>match ok with
      |true=>k (.tup [.data b ((AK (α:=a.den) es key).getD b.zero),.data .bool (AK (α:=a.den) es key).isSome]) {}
      |false=>k (.data b ((AK (α:=a.den) es key).getD b.zero)) {}
     |_,_=>none
    |_,_=>none
   |_=>none
  |_,_=>none
 |.mapUpdate T m x v=>match P.underlying T,ρ m with
  |some (.map kt _),.mp id=>match H[id]? with
   |some (.map a b es)=>match decide (Pn P kt=some a),Ej H a (ρ x),Ej H b (ρ v)with
    |true,some (key,_),some (val,fr)=>k .junk { objs:=[(id,.map a b (Ab (α:=a.den) es key val))],frz:=fr }
    |_,_,_=>none
   |_=>none
  |_,_=>none
 |.insert T m x v=>match P.underlying T,ρ m with
  |some (.map kt _),.mp id=>match H[id]? with
   |some (.map a b es)=>match decide (Pn P kt=some a),Ej H a (ρ x),Ej H b (ρ v)with
    |true,some (key,_),some (val,fr)=>k .junk { objs:=[(id,.map a b (Ab (α:=a.den) es key val))],frz:=fr }
    |_,_,_=>none
   |_=>none
  |_,_=>none
 |.mapEntry T m x=>match P.underlying T,ρ m with
  |some (.map kt vt),.mp id=>match H[id]? with
   |some (.map a b es)=>match decide (Pn P kt=some a),zeroAt P vt,Ej H a (ρ x)with
    |true,some (b',_),some (key,_)=>match decide (b'=b)with
     |true=>k (.tup [.data b ((AK (α:=a.den) es key).getD b.zero),.data (.int .i64) (Kb (α:=a.den) es key)]) { objs:=[(id,.map a b (Ab (α:=a.den) es key ((AK (α:=a.den) es key).getD b.zero)))] }
     |false=>none
    |_,_,_=>none
   |_=>none
  |_,_=>none
 |.entryStore _ m s v=>match ρ m,ρ s with
  |.mp id,.data (.int .i64) i=>match H[id]? with
   |some (.map a b es)=>match Ej H b (ρ v)with
    |some (val,fr)=>match(ile (0:Int) i&&ilt i (AQ es))with
     |true=>k .junk { objs:=[(id,.map a b (AHj es i val))],frz:=fr }
     |false=>none
    |none=>none
   |_=>none
  |_,_=>none
 |.extract x i=>match ρ x with
  |.tup vs=>match vs[i]? with
   |some v=>k v {}
   |none=>none
  |_=>none
 |.call { callee:=.builtin .len,args,argTypes }=>match args.toList,argTypes.toList with
  |[x],[T]=>match P.underlying T with
   |some (.slice _)=>match ρ x with
    |.data (.slice _) xs=>k (.data (.int .i64) (AQ xs)) {}
    |.nils _=>k (.data (.int .i64) (0:Int)) {}
    |.own id=>match H[id]? with
     |some (.arr _ _ xs)=>k (.data (.int .i64) (AQ xs)) {}
     |some (.prs _ _ is)=>k (.data (.int .i64) (AQ is)) {}
     |_=>none
    |.win id _ n=>match CE H id with
     |true=>k (.data (.int .i64) (n:Int)) {}
     |false=>none
    |_=>none
   |some (.map _ _)=>match ρ x with
    |.mp id=>match H[id]? with
     |some (.map _ _ es)=>k (.data (.int .i64) (AQ es)) {}
     |_=>none
    |_=>none
   |_=>none
  |_,_=>none
 |.call { callee:=.builtin .append,args,argTypes }=>match args.toList,argTypes.toList with
  |[s,x],[T,T']=>match sliceAt P T,decide (T=T')with
   |some (e,t),true=>match Ej H (.slice t) (ρ x),zeroAt P e,(P.info? e).map (fun i=>decide (i.bytes≤1024))with
    |some (ys,_),some _,some true=>match ρ s with
     |.nils _=>match fits (AQ ys)with
      |true=>(match Ay H fz slot with|true=>k (.own slot) { objs:=[(slot,.arr e t ys)] }|false=>none)
      |false=>none
     |.own id=>match H[id]? with
      |some (.arr e' _ xs)=>match Au fz id&&decide (e=e')with
       |true=>match(VC xs:Option (List t.den))with
        |some xs=>match fits (AQ xs+AQ ys)with
         |true=>match E.keep with
          |true=>k (.data (.slice t) (Bs xs ys)) { frz:=[id] }
          |false=>(match Ay H fz slot with|true=>k (.own slot) { objs:=[(id,.dead),(slot,.arr e t (Bs xs ys))] }|false=>none)
         |false=>none
        |none=>none
       |false=>none
      |_=>none
     |.win id 0 n=>match H[id]? with
      |some (.arr e' _ xs)=>match Au fz id&&decide (e=e')with
       |true=>match(VC xs:Option (List t.den))with
        |some xs=>match fits ((n:Int)+AQ ys)with
         |true=>(match Ay H fz slot with|true=>k (.own slot) { objs:=[(id,.dead),(slot,.arr e t (Bs (DN n xs) ys))] }|false=>none)
         |false=>none
        |none=>none
       |false=>none
      |_=>none
     |_=>none
    |_,_,_=>none
   |some (e,t),false=>match ρ s,ρ x,zeroAt P e,AAU P T',(P.info? e).map (fun i=>decide (i.bytes≤1024))with
    |.nils _,.data (.int _) n,some _,some _,some true=>match T8 n with
     |true=>(match Ay H fz slot with|true=>k (.own slot) { objs:=[(slot,.arr e t (AFE (AF n) t.zero))] }|false=>none)
     |false=>none
    |_,_,_,_,_=>none
   |none,true=>match cellAt P T,ρ x with
    |some e,.own ix=>match H[ix]? with
     |some (.prs e1 tgt ys)=>match decide (e1=e)with
      |true=>match ρ s with
       |.nils _=>match fits (AQ ys)with
        |true=>(match Ay H fz slot with|true=>k (.own slot) { objs:=[(slot,.prs e tgt ys)] }|false=>none)
        |false=>none
       |.own id=>match H[id]? with
        |some (.prs e2 tgt2 xs)=>match decide (e2=e)&&decide (tgt2=tgt)with
         |true=>match fits (AQ xs+AQ ys)with
          |true=>(match Ay H fz slot with|true=>k (.own slot) { objs:=[(id,.dead),(slot,.prs e tgt (Bs xs ys))] }|false=>none)
          |false=>none
         |false=>none
        |_=>none
       |_=>none
      |false=>none
     |_=>none
    |_,_=>none
   |_,_=>none
  |_,_=>none
 |.call { callee:=.builtin .cap,args,argTypes }=>match args.toList,argTypes.toList with
  |[x],[T]=>match P.underlying T,ρ x with
   |some (.slice _),.nils _=>k (.data (.int .i64) (0:Int)) {}
   |_,_=>none
  |_,_=>none
 |.call { callee:=.builtin .min,args,.. }=>match args.toList with
  |[x,y]=>match ρ x,ρ y with
   |.data (.int j) a,.data (.int _) b=>k (.data (.int j) (ES a b)) {}
   |_,_=>none
  |_=>none
 |.call { callee:=.builtin .max,args,.. }=>match args.toList with
  |[x,y]=>match ρ x,ρ y with
   |.data (.int j) a,.data (.int _) b=>k (.data (.int j) (imax a b)) {}
   |_,_=>none
  |_=>none
 |.call { callee:=.builtin .clear,args,argTypes }=>match args.toList,argTypes.toList with
  |[x],[T]=>match sliceAt P T with
   |some (e,t)=>match zeroAt P e with
    |some _=>match ρ x with
     |.nils _=>k .junk {}
     |.own id=>match H[id]? with
      |some (.arr e' t' xs)=>match Au fz id&&decide (t=t')with
       |true=>k .junk { objs:=[(id,.arr e' t' (C1 0 xs.length t'.zero xs))] }
       |false=>none
      |_=>none
     |.win id off n=>match H[id]? with
      |some (.arr e' t' xs)=>match Au fz id&&decide (t=t')with
       |true=>k .junk { objs:=[(id,.arr e' t' (C1 off n t'.zero xs))] }
       |false=>none
      |_=>none
     |_=>none
    |none=>none
   |none=>none
  |_,_=>none
 |.call { callee:=.value f,args,.. }=>match ρ f with
  |.clo g caps=>E.spec g R (args.toList.map ρ++caps) H fz slot k
  |.bnd g fs=>E.spec g R (fs++args.toList.map ρ) H fz slot k
  |_=>none
 |_=>none
def St.put(s:St)(d:Option Tmp)(v:AV):St:=
 match d with
 |some d=>{ s with tmps:=s.tmps.set d v }
 |none=>s
def DQ(e:Eff)(H:List Ob):List Ob:=BE e.objs (match e.heap with
 |none=>H
 |some p=>p.1)
def IE(e:Eff)(fz:List Bool):List Bool:=Ag e.frz (match e.heap with
 |none=>fz
 |some p=>p.2)
def St.app(s:St)(e:Eff):St:={ s with heap:=DQ e s.heap,frz:=IE e s.frz }
def BB:AV:=.tup []
def guarded(R:Type)(all:List Oper)(g:Option (Nat×Bool))(st:St)(yes no:St→Option R):Option R:=
 match g with
 |none=>yes st
 |some (j,want)=>match(all[j]?).bind (·.dst)with
  |none=>none
  |some d=>match st.tmps[d]? with
   |some (.data .bool b)=>match b with
    |true=>match want with
     |true=>yes { st with tmps:=st.tmps.set d (.data .bool true) }
     |false=>no { st with tmps:=st.tmps.set d (.data .bool true) }
    |false=>match want with
     |true=>no { st with tmps:=st.tmps.set d (.data .bool false) }
     |false=>yes { st with tmps:=st.tmps.set d (.data .bool false) }
   |some (.tup [])=>no st
   |_=>none
def HB(P:Program)(E:Env)(R:Type)(all:List Oper):List Oper→Nat→St→(St→Option R)→Option R
 |[],_,st,k=>k st
 |o::rest,slot,st,k=>
  guarded R all o.guard st
   (fun st=>evalOp P E R o.op o.type (BC st.tmps) st.heap st.frz slot fun v e=>HB P E R all rest (slot+slotsOf o.op) ((st.app e).put o.dst v) k)
   (fun st=>HB P E R all rest (slot+slotsOf o.op) (st.put o.dst BB) k)
def D0(ops:List Oper):Nat:=(ops.map fun o=>slotsOf o.op).foldr (· + ·) 0
def St.pad(s:St)(n:Nat):St:={ s with heap:=s.heap++List.replicate n .free,frz:=s.frz++List.replicate n false }
def Fh(P:Program)(E:Env)(R:Type)(ops:List Oper)(st:St)(k:St→Option R):Option R:=
 HB P E R ops ops st.heap.length (st.pad (D0 ops)) k
mutual
def Av:AV→List Nat
 |.agg cs=>A9 cs
 |.own id=>[id]
 |.win id _ _=>[id]
 |.ptr id _=>[id]
 |.eptr id _ _=>[id]
 |.dptr cs=>A9 cs
 |.clo _ cs=>A9 cs
 |.bnd _ cs=>A9 cs
 |.mp id=>[id]
 |.tup vs=>A9 vs
 |_=>[]
def A9:List AV→List Nat
 |[]=>[]
 |v::vs=>Av v++A9 vs
end
def FF(ρ:Operand→AV)(o:Op):List Nat:=o.operands.toList.flatMap fun x=>Av (ρ x)
def Ic(ρ:Operand→AV)(o:Op):List Nat:=
 match o with
 |.move _=>[]
 |.assign _=>[]
 |.pick _ _ _=>[]
 |.extract _ _=>[]
 |.build _ _=>[]
 |.makeFunc _ _ _=>[]
 |.store T a x=>match ρ a with
  |.ptr id _=>[id]
  |_=>FF ρ (.store T a x)
 |o=>FF ρ o
def writer:Op→Bool
 |.store ..=>true
 |.mapUpdate ..=>true
 |.insert ..=>true
 |.mapEntry ..=>true
 |.entryStore ..=>true
 |.call { callee:=.builtin .append,.. }=>true
 |.call { callee:=.builtin .clear,.. }=>true
 |_=>false
def Ev(E:Env)(ρ:Operand→AV):Op→Bool
 |.call { callee:=.value f,.. }=>match ρ f with
  |.clo g _=>E.loc g
  |.bnd g _=>E.loc g
  |_=>false
 |_=>true
def rd(φ:List Nat)(i:Nat):Bool:=φ.contains (2*i)||φ.contains (2*i+1)
def wt(φ:List Nat)(i:Nat):Bool:=φ.contains (2*i+1)
def Dt(ρ:Operand→AV)(o:Op):List Nat:=
 match o with
 |.store _ a _=>Av (ρ a)
 |.mapUpdate _ m _ _=>Av (ρ m)
 |.insert _ m _ _=>Av (ρ m)
 |.mapEntry _ m _=>Av (ρ m)
 |.entryStore _ m _ _=>Av (ρ m)
 |.call { callee:=.builtin .append,args,.. }=>match args.toList with
  |s::_=>Av (ρ s)
  |[]=>[]
 |.call { callee:=.builtin .clear,args,.. }=>match args.toList with
  |s::_=>Av (ρ s)
  |[]=>[]
 |_=>[]
def within(l φ:List Nat):Bool:=l.all (rd φ)
def LR(l φ:List Nat):Bool:=l.all (wt φ)
def Xo(wr:Bool)(φ:List Nat)(slot n:Nat)(e:Eff):Bool:=
 e.heap.isNone&&(e.objs.all fun p=>(decide (slot≤p.1)&&decide (p.1<slot+n))||(wr&&wt φ p.1))&&within e.frz φ
def BV:Op→Bool
 |.move _=>true
 |.assign _=>true
 |.pick _ _ _=>true
 |.binOp _ _ _ _ _=>true
 |.unOp _ _ _=>true
 |.extract _ _=>true
 |_=>false
def KW(φ:List Nat):Bool:=φ.contains 1000003
def Ee:Op→Bool
 |.load _ _=>true
 |.convert _ _ _=>true
 |.fieldAddr _ _ _=>true
 |.field _ _ _=>true
 |.indexAddr _ _ _=>true
 |.index _ _ _=>true
 |.nilCheck _=>true
 |.lookup _ _ _ _=>true
 |.slice _ _ _ _ none=>true
 |.build _ _=>true
 |.makeFunc (.func _) _ _=>true
 |.call { callee:=.builtin .len,.. }=>true
 |o=>BV o
def QL(φ:List Nat):Bool:=φ.contains 1000005
def N5(E:Env)(ρ:Operand→AV):Op→Bool
 |.call { callee:=.value f,.. }=>match ρ f with
  |.clo g _=>E.loc2 g
  |.bnd g _=>E.loc2 g
  |_=>false
 |_=>false
def Jz(φ:List Nat)(H:List Ob):Bool:=φ.all fun c=>match H[c/2]? with
 |some (.box cs)=>(A9 cs).all (wt φ)
 |_=>true
def IZ(E:Env)(ρ:Operand→AV)(o:Op)(φ:List Nat)(H:List Ob):Bool:=
 (FF ρ o).all (wt φ)&&Jz φ H&&(φ.all fun c=>c % 2==1)&&N5 E ρ o
def PE(P:Program)(E:Env)(R:Type)(all:List Oper)(o:Oper)(φ:List Nat)(slot:Nat)(st:St)(k:St→Option R):Option R:=
 guarded R all o.guard st
  (fun st=>match KW φ||((QL φ&&IZ E (BC st.tmps) o.op φ st.heap)||(!(QL φ)&&(within (Ic (BC st.tmps) o.op) φ&&LR (Dt (BC st.tmps) o.op) φ&&Ev E (BC st.tmps) o.op)))with
   |true=>evalOp P E R o.op o.type (BC st.tmps) st.heap st.frz slot fun v e=>match KW φ||Xo (writer o.op||QL φ) φ slot (slotsOf o.op) e with
    |true=>k ((st.app e).put o.dst v)
    |false=>none
   |false=>none)
  (fun st=>k (st.put o.dst BB))
def Gi(P:Program)(E:Env)(R:Type)(all:List Oper):List Oper→List (List Nat)→Nat→St→(St→Option R)→Option R
 |[],_,_,st,k=>k st
 |o::rest,fp,slot,st,k=>PE P E R all o (fp.headD []) slot st fun st=>Gi P E R all rest fp.tail (slot+slotsOf o.op) st k
def apart?(ops:List Oper)(x y:Oper):Bool:=Oper.apart ops.toArray x y
def Qy:Op→Op→Bool
 |.lookup _ _ _ ok,.mapEntry _ _ _ => !ok
 |_,_=>false
def indep(all:List Oper)(x y:Oper)(φx φy:List Nat)(sx sy:Nat):Bool:=
 apart? all x y&&((KW φx&&BV y.op)||(KW φy&&BV x.op)||(!(KW φx) && !(KW φy)&&(φy.all fun c => !(decide (sx≤c/2)&&decide (c/2<sx+slotsOf x.op)))&&(φx.all fun c => !(decide (sy≤c/2)&&decide (c/2<sy+slotsOf y.op))) &&
  (φx.all fun c=>decide (c % 2=0) || !(rd φy (c/2)))&&(φy.all fun c=>decide (c % 2=0) || !(rd φx (c/2))))||(!(QL φx)&&(!(QL φy)&&Qy x.op y.op)))
def AAk(y:Oper)(i:Nat):Bool:=y.after.toList.any fun e=>Region.binds .any e&&decide (e.on=i)
def reach(all:List Oper):Nat→Oper→Nat→Bool
 |0,_,_=>false
 |n+1,y,i=>AAk y i||y.after.toList.any fun e=>Region.binds .any e&&match all[e.on]? with
  |some z=>reach all n z i
  |none=>false
def Qw(all:List Oper)(y:Oper)(φy:List Nat)(sy:Nat):List (Nat×Oper×List Nat×Nat)→Bool
 |[]=>true
 |(i,x,φx,sx)::r=>(AAk y i||(indep all x y φx φy sx sy||reach all 8 y i))&&Qw all y φy sy r
def Zp(all:List Oper):List Oper→List (List Nat)→Nat→Nat→List (Nat×Oper×List Nat×Nat)→Bool
 |[],_,_,_,_=>true
 |o::rest,fp,i,slot,acc=>Qw all o (fp.headD []) slot acc&&(o.after.toList.all fun e => !Region.binds .any e||decide (e.on<i)) &&
  Zp all rest fp.tail (i+1) (slot+slotsOf o.op) ((i,o,fp.headD [],slot)::acc)
def DZ(P:Program)(E:Env)(R:Type)(fp:List (List Nat))(ops:List Oper)(st:St)(k:St→Option R):Option R:=
 match P.follows .mixedOrders&&Zp ops ops fp 0 st.heap.length []with
 |true=>Gi P E R ops ops fp st.heap.length (st.pad (D0 ops)) k
 |false=>none
def loops:Code→Nat
 |.seq a b=>loops a+loops b
 |.cond _ a b=>loops a+loops b
 |.block _ c=>loops c
 |.scope c=>loops c
 |.loop c=>loops c+1
 |_=>0
def KX(tmps:List AV)(c:Operand)(b:Bool):List AV:=
 match c with
 |.tmp t=>tmps.set t (.data .bool b)
 |_=>tmps
def A2(P:Program)(E:Env)(h:Hints)(R:Type):Code→Nat→St→(Exit→St→Option R)→Option R
 |.skip,_,st,k=>k .normal st
 |.region id ops draw,_,st,k=>match draw with
  |false=>Fh P E R ops.toList st (k .normal)
  |true=>DZ P E R (h.fp id) ops.toList st (k .normal)
 |.seq a b,n,st,k=>A2 P E h R a n st fun e st=>match e with
  |.normal=>A2 P E h R b (n+loops a) st k
  |e=>k e st
 |.cond c a b,n,st,k=>match BC st.tmps c with
  |.data .bool x=>match x with
   |true=>A2 P E h R a n { st with tmps:=KX st.tmps c true } k
   |false=>A2 P E h R b (n+loops a) { st with tmps:=KX st.tmps c false } k
  |_=>none
 |.block id c,n,st,k=>A2 P E h R c n st fun e st=>match e with
  |.exit id'=>match decide (id'=id)with
   |true=>k .normal st
   |false=>k (.exit id') st
  |e=>k e st
 |.loop _,n,st,k=>h.loop n R st k
 |.exit id,_,st,k=>k (.exit id) st
 |.ret,_,st,k=>k .ret st
 |_,_,_,_=>none
def Lf(P:Program)(st:St):ResultVar→Option AV
 |.tmp t=>some (st.tmps.getD t .junk)
 |.cell t T=>match BC st.tmps (.tmp t),BD P T,DR P T with
  |.ptr id off,some n,some ag=>match st.heap[id]? with
   |some (.box cs)=>loadCells ag n (cs.drop off)
   |_=>none
  |_,_,_=>none
def Ce(P:Program)(st:St):List ResultVar→Option (List AV)
 |[]=>some []
 |r::rs=>match Lf P st r with
  |none=>none
  |some v=>match Ce P st rs with
   |none=>none
   |some vs=>some (v::vs)
end
end Go.Pev
end
section
namespace Go.Pev
noncomputable section
inductive Loc where
 |tmp (t:Nat)
 |cell (j c:Nat)
 |cap (t i:Nat)
 |obj (j:Nat)
inductive Con where
 |dat (t:Ty)
 |own (T:TypeId) (e:Ty)
 |box (n:Nat)
 |map (k v:Ty)
 |own' (j:Nat)
 |ptr' (j off:Nat)
 |map' (j:Nat)
 |win' (j:Nat)
 |sub' (j:Nat)
 |clo (f:FuncId) (ps:List (Nat×Nat))
 |bnd (f:FuncId) (j:Nat)
 |prs (T:TypeId) (j:Nat)
 |nil (e:Ty)
abbrev Con.di:Con:=.dat (.int .i64)
abbrev AE:=List (Loc×Con)
def leaves:AE→List Ty
 |[]=>[]
 |(_,.dat t)::r=>t::leaves r
 |(_,.own _ e)::r=>.slice e::leaves r
 |(_,.map k v)::r=>.slice (.prod k v)::leaves r
 |(_,.win' _)::r=>.int .i64::leaves r
 |(_,.prs _ _)::r=>.slice (.int .i64)::leaves r
 |(_,.sub' _)::r=>.int .i64 :: .int .i64::leaves r
 |(_,_)::r=>leaves r
inductive Bnd where
 |none
 |whole (id:Nat)
 |cut (id:Nat)
 deriving DecidableEq
def Bnd.id? : Bnd→Option Nat
 |.none=>Option.none
 |.whole id=>some id
 |.cut id=>some id
def AS8(H:List Ob)(j:Nat):Option AV:=
 match H[j]? with
 |some (.arr _ _ _)=>some (.own j)
 |some (.box _)=>some (.ptr j 0)
 |some (.map _ _ _)=>some (.mp j)
 |some (.prs _ _ _)=>some (.own j)
 |_=>none
def look(tm:List AV)(H:List Ob)(bs:List Bnd):Loc→Option AV
 |.tmp t=>tm[t]?
 |.cell j c=>match bs[j]? with
  |some (.whole id)=>match H[id]? with
   |some (.box cs)=>cs[c]?
   |_=>none
  |_=>none
 |.cap t i=>match tm[t]? with
  |some (.clo _ cs)=>cs[i]?
  |some (.bnd _ cs)=>cs[i]?
  |_=>none
 |.obj j=>AS8 H j
def ANT(bs:List Bnd):List AV→List (Nat×Nat)→Bool
 |[],[]=>true
 |.ptr id o::vs,(j,o')::ps=>(match bs[j]? with
  |some (.whole id')=>decide (id=id')&&decide (o=o')
  |_=>false)&&ANT bs vs ps
 |_,_=>false
def fresh?(bs:List Bnd)(id:Nat):Bool:=bs.all fun b=>match b with
 |.none=>true
 |.whole i => !(decide (i=id))
 |.cut i => !(decide (i=id))
abbrev AUL(α:Type):=Option (α×List Bnd×List Nat)
def dec(tm:List AV)(H:List Ob):(its:AE)→List Bool→List Bnd→AUL (CJ (leaves its))
 |[],_,bs=>some ((),bs,[])
 |(l,.dat t)::r,fz,bs=>match look tm H bs l with
  |some v=>match Ej H t v with
   |some (x,f)=>match f.all (fresh? bs)with
    |true=>match dec tm H r (Ag f fz) bs with
     |some (xs,bs',g)=>some ((x,xs),bs',f++g)
     |none=>none
    |false=>none
   |none=>none
  |none=>none
 |(l,.own T e)::r,fz,bs=>match look tm H bs l with
  |some (.nils e')=>match decide (e'=e)&&decide (0<e.size)with
   |true=>match dec tm H r fz (bs++[.none])with
    |some (xs,bs',g)=>some (([],xs),bs',g)
    |none=>none
   |false=>none
  |some (.own id)=>match H[id]?,Au fz id&&fresh? bs id with
   |some (.arr T' e' ys),true=>match decide (T=T'),(VC ys:Option (List e.den))with
    |true,some ys=>match dec tm H r fz (bs++[.whole id])with
     |some (xs,bs',g)=>some ((ys,xs),bs',g)
     |none=>none
    |_,_=>none
   |_,_=>none
  |some (.win id 0 n)=>match H[id]?,Au fz id&&fresh? bs id with
   |some (.arr T' e' ys),true=>match decide (T=T'),(VC ys:Option (List e.den))with
    |true,some ys=>match dec tm H r fz (bs++[.cut id])with
     |some (xs,bs',g)=>some ((DN n ys,xs),bs',g)
     |none=>none
    |_,_=>none
   |_,_=>none
  |_=>none
 |(l,.box n)::r,fz,bs=>match look tm H bs l with
  |some (.ptr id 0)=>match H[id]?,fresh? bs id with
   |some (.box cs),true=>match decide (cs.length=n)with
    |true=>dec tm H r fz (bs++[.whole id])
    |false=>none
   |_,_=>none
  |_=>none
 |(l,.map k v)::r,fz,bs=>match look tm H bs l with
  |some (.mp id)=>match H[id]?,fresh? bs id with
   |some (.map k' v' es),true=>match(VC (t:=.prod k' v') es:Option (List (Ty.prod k v).den))with
    |some es=>match dec tm H r fz (bs++[.whole id])with
     |some (xs,bs',g)=>some ((es,xs),bs',g)
     |none=>none
    |_=>none
   |_,_=>none
  |_=>none
 |(l,.own' j)::r,fz,bs=>match look tm H bs l,bs[j]? with
  |some (.own id),some (.whole id')=>match decide (id=id')with
   |true=>dec tm H r fz bs
   |false=>none
  |_,_=>none
 |(l,.ptr' j off)::r,fz,bs=>match look tm H bs l,bs[j]? with
  |some (.ptr id o),some (.whole id')=>match decide (id=id')&&decide (o=off)with
   |true=>dec tm H r fz bs
   |false=>none
  |_,_=>none
 |(l,.map' j)::r,fz,bs=>match look tm H bs l,bs[j]? with
  |some (.mp id),some (.whole id')=>match decide (id=id')with
   |true=>dec tm H r fz bs
   |false=>none
  |_,_=>none
 |(l,.win' j)::r,fz,bs=>match look tm H bs l,bs[j]? with
  |some (.win id 0 n),some (.whole id')=>match decide (id=id')with
   |true=>match dec tm H r fz bs with
    |some (xs,bs',g)=>some (((n:Int),xs),bs',g)
    |none=>none
   |false=>none
  |some (.own id),some (.whole id')=>match decide (id=id'),H[id]? with
   |true,some (.arr _ _ ys)=>match dec tm H r fz bs with
    |some (xs,bs',g)=>some ((AQ ys,xs),bs',g)
    |none=>none
   |_,_=>none
  |_,_=>none
 |(l,.sub' j)::r,fz,bs=>match look tm H bs l,bs[j]? with
  |some (.win id off n),some (.whole id')=>match decide (id=id')with
   |true=>match dec tm H r fz bs with
    |some (xs,bs',g)=>some (((off:Int),(n:Int),xs),bs',g)
    |none=>none
   |false=>none
  |_,_=>none
 |(l,.clo f ps)::r,fz,bs=>match look tm H bs l with
  |some (.clo f' vs)=>match decide (f=f')&&ANT bs vs ps with
   |true=>dec tm H r fz bs
   |false=>none
  |_=>none
 |(l,.bnd f j)::r,fz,bs=>match look tm H bs l,bs[j]? with
  |some (.bnd f' [.own id]),some (.whole id')=>match decide (f=f')&&decide (id=id')with
   |true=>dec tm H r fz bs
   |false=>none
  |_,_=>none
 |(l,.prs T j)::r,fz,bs=>match look tm H bs l with
  |some (.nils _)=>match dec tm H r fz (bs++[.none])with
   |some (xs,bs',g)=>some ((([]:List Int),xs),bs',g)
   |none=>none
  |some (.own id)=>match H[id]?,fresh? bs id,bs[j]? with
   |some (.prs T' tgt is),true,some (.whole tgt')=>match decide (T=T')&&decide (tgt=tgt')with
    |true=>match dec tm H r fz (bs++[.whole id])with
     |some (xs,bs',g)=>some ((is,xs),bs',g)
     |none=>none
    |false=>none
   |_,_,_=>none
  |_=>none
 |(l,.nil _)::r,fz,bs=>match look tm H bs l with
  |some (.nils _)=>dec tm H r fz bs
  |_=>none
def place(st:St)(v:AV):Loc→St
 |.tmp t=>{ st with tmps:=st.tmps.set t v }
 |.cell j c=>match st.heap[j]? with
  |some (.box cs)=>{ st with heap:=st.heap.set j (.box (cs.set c v)) }
  |_=>st
 |_=>st
def Hc(st:St)(o:Ob):St:={ st with heap:=st.heap++[o],frz:=st.frz++[false] }
def enc:(its:AE)→CJ (leaves its)→St→St
 |[],_,st=>st
 |(l,.dat t)::r,d,st=>enc r d.2 (place st (.data t d.1) l)
 |(l,.own T e)::r,d,st=>enc r d.2 (place (Hc st (.arr T e d.1)) (.own st.heap.length) l)
 |(l,.box n)::r,d,st=>enc r d (place (Hc st (.box (List.replicate n .junk))) (.ptr st.heap.length 0) l)
 |(l,.map k v)::r,d,st=>enc r d.2 (place (Hc st (.map k v d.1)) (.mp st.heap.length) l)
 |(l,.own' j)::r,d,st=>enc r d (place st (.own j) l)
 |(l,.ptr' j off)::r,d,st=>enc r d (place st (.ptr j off) l)
 |(l,.map' j)::r,d,st=>enc r d (place st (.mp j) l)
 |(l,.win' j)::r,d,st=>enc r d.2 (place st (.win j 0 (AF d.1)) l)
 |(l,.sub' j)::r,d,st=>enc r d.2.2 (place st (.win j (AF d.1) (AF d.2.1)) l)
 |(l,.clo f ps)::r,d,st=>enc r d (place st (.clo f (ps.map fun p=>.ptr p.1 p.2)) l)
 |(l,.bnd f j)::r,d,st=>enc r d (place st (.bnd f [.own j]) l)
 |(l,.prs T j)::r,d,st=>enc r d.2 (place (Hc st (.prs T j d.1)) (.own st.heap.length) l)
 |(l,.nil e)::r,d,st=>enc r d (place st (.nils e) l)
def blank(n:Nat):St:={ tmps:=List.replicate n .junk,heap:=[],frz:=[] }
def encode(n:Nat)(its:AE)(d:CJ (leaves its)):St:=enc its d (blank n)
def pins:Nat→Nat→List Bnd→Bool
 |0,_,_=>true
 |n+1,i,b::bs=>decide (b = .whole i)&&pins n (i+1) bs
 |_+1,_,[]=>false
def decode(np nt:Nat)(st:St)(its:AE):Option (CJ (leaves its)):=
 match decide (st.tmps.length=nt)with
 |true=>match dec st.tmps st.heap its st.frz []with
  |some (v,bs,_)=>match pins np 0 bs with
   |true=>some v
   |false=>none
  |none=>none
 |false=>none
abbrev A4:=List (Exit×AE)
@[reducible] def Wn:A4→Type
 |[]=>Unit
 |o::r=>CJ (leaves o.2)⊕Wn r
def Rp:Exit→Exit→Bool
 |.normal,.normal=>true
 |.ret,.ret=>true
 |.exit a,.exit b=>decide (a=b)
 |_,_=>false
def XO(np nt:Nat)(e:Exit)(st:St):(os:A4)→Option (Wn os)
 |[]=>none
 |o::r=>match Rp e o.1 with
  |true=>match decode np nt st o.2 with
   |some d=>some (.inl d)
   |none=>none
  |false=>match XO np nt e st r with
   |some x=>some (.inr x)
   |none=>none
def Xj(n:Nat){R:Type}(k:Exit→St→Option R):(os:A4)→Wn os→Option R
 |[],_=>none
 |o::r,x=>match x with
  |.inl d=>k o.1 (encode n o.2 d)
  |.inr x=>Xj n k r x
def AT{σ ρ:Type}(step:σ→Option (σ⊕ρ)):Nat→σ→Option ρ
 |0,_=>none
 |n+1,v=>match step v with
  |none=>none
  |some (.inl v')=>AT step n v'
  |some (.inr r)=>some r
def many:Nat:=18446744073709551616
def Aa[Lk]{σ ρ:Type}(step:σ→Option (σ⊕ρ))(n:Nat)(v:σ):Option ρ:=Lk.f (AT step n v)
theorem Ak{σ ρ:Type}(step:σ→Option (σ⊕ρ))(n:Nat)(v:σ):Aa step n v=AT step n v:=AJ _
def ACi(np nt:Nat)(its:AE)(os:A4)(e:Exit)(st:St):Option (CJ (leaves its)⊕Wn os):=
 match e with
 |.normal=>match decode np nt st its with
  |some d=>some (.inl d)
  |none=>none
 |e=>match XO np nt e st os with
  |some x=>some (.inr x)
  |none=>none
def Ad(np nt:Nat)(its:AE)(os:A4)(step:CJ (leaves its)→Option (CJ (leaves its)⊕Wn os)):AFn:=fun R st k=>
 match decode np nt st its with
 |none=>none
 |some v=>match Aa step many v with
  |none=>none
  |some r=>Xj nt k os r
def roundOf(P:Program)(E:Env)(h:Hints)(n np nt:Nat)(body:Code)(its:AE)(os:A4)(v:CJ (leaves its)):Option (CJ (leaves its)⊕Wn os):=
 A2 P E h _ body n (encode nt its v) (ACi np nt its os)
inductive RS where
 |one
 |agg (n:Nat)
def Ew:List RS→List AV→Option (List AV)
 |[],[]=>some []
 |.one::r,v::vs=>match Ew r vs with
  |some l=>some (v::l)
  |none=>none
 |.agg n::r,v::vs=>match P6 v,cells? v with
  |true,some cs=>match decide (cs.length=n)with
   |true=>match Ew r vs with
    |some l=>some (cs++l)
    |none=>none
   |false=>none
  |_,_=>none
 |_,_=>none
def Es:List RS→List AV→List AV
 |[],_=>[]
 |.one::r,vs=>vs.headD .junk::Es r vs.tail
 |.agg n::r,vs=>.agg (vs.take n)::Es r (vs.drop n)
def RS.cells:RS→Nat
 |.one=>1
 |.agg n=>n
def cellsOf:List RS→Nat
 |[]=>0
 |r::rs=>r.cells+cellsOf rs
def CR:AE→Nat
 |[]=>0
 |(_,.own _ _)::r=>CR r+1
 |(_,.box _)::r=>CR r+1
 |(_,.map _ _)::r=>CR r+1
 |(_,.prs _ _)::r=>CR r+1
 |_::r=>CR r
def finish(np:Nat)(P:Program)(fn:Func)(outs:AE)(rs:List RS)(st:St):Option (CJ (leaves outs)):=
 match Ce P st fn.results.toList with
 |some vs=>match Ew rs vs with
  |some tm=>match dec tm st.heap outs st.frz []with
   |some (y,bs,_)=>match pins np 0 bs with
    |true=>some y
    |false=>none
   |none=>none
  |none=>none
 |none=>none
def AO(P:Program)(E:Env)(h:Hints)(fn:Func)(its outs:AE)(rs:List RS)(x:CJ (leaves its)):Option (CJ (leaves outs)):=
 match fn.body with
 |none=>none
 |some c=>A2 P E h _ c 0 (encode fn.ntmps its x) fun e st=>
  match e with
  |.normal=>finish (CR its) P fn outs rs st
  |.ret=>finish (CR its) P fn outs rs st
  |_=>none
def Bv:Nat→List Bnd→Nat→List Nat
 |0,_,_=>[]
 |n+1,.whole id::bs,slot=>id::Bv n bs slot
 |n+1,_::bs,slot=>slot::Bv n bs (slot+1)
 |n+1,[],slot=>slot::Bv n [] (slot+1)
mutual
def E1(ids:List Nat):AV→AV
 |.agg cs=>.agg (Hk ids cs)
 |.own id=>.own (ids.getD id 0)
 |.win id off n=>.win (ids.getD id 0) off n
 |.ptr id off=>.ptr (ids.getD id 0) off
 |.eptr id i s=>.eptr (ids.getD id 0) i s
 |.dptr cs=>.dptr (Hk ids cs)
 |.clo f cs=>.clo f (Hk ids cs)
 |.bnd f cs=>.bnd f (Hk ids cs)
 |.mp id=>.mp (ids.getD id 0)
 |.tup vs=>.tup (Hk ids vs)
 |v=>v
def Hk(ids:List Nat):List AV→List AV
 |[]=>[]
 |v::vs=>E1 ids v::Hk ids vs
end
def E0(ids:List Nat):Ob→Ob
 |.box cs=>.box (Hk ids cs)
 |.prs T tgt is=>.prs T (ids.getD tgt 0) is
 |o=>o
mutual
def H6:AV→Bool
 |.data t _=>t.flat
 |.agg cs=>HV cs
 |.dptr _=>false
 |.clo _ cs=>HV cs
 |.bnd _ cs=>HV cs
 |.tup vs=>HV vs
 |_=>true
def HV:List AV→Bool
 |[]=>true
 |v::vs=>H6 v&&HV vs
end
def K1:Ob→Bool
 |.box cs=>HV cs
 |.arr _ t _=>t.flat
 |.map k v _=>k.flat&&v.flat
 |_=>true
def EC(H:List Ob)(fz:List Bool):List Nat→List Bnd→Bool
 |[],_=>true
 |i::ids,bs=>(match bs with
  |.whole id::_=>decide (i=id)
  |_=>Ay H fz i)&&EC H fz ids bs.tail
def HC:List Nat→Bool
 |[]=>true
 |i::ids => !(ids.contains i)&&HC ids
def single:List AV→AV
 |[v]=>v
 |vs=>.tup vs
def Bnd.AS6:Bnd→Bool
 |.cut _=>false
 |_=>true
def LC(R:Type)(bs:List Bnd)(fr:List Nat)(rs:List RS)(E:St)(ids:List Nat)(H:List Ob)(fz:List Bool)(k:AV→Eff→Option R):Option R:=
 match HV E.tmps&&E.heap.all K1 with
 |true=>match EC H fz ids bs&&HC ids with
  |true=>k (single (Es rs (Hk ids E.tmps))) { objs:=ids.zip (E.heap.map (E0 ids)) }
  |false=>none
 |false=>match EC H (Ag fr fz) ids bs&&HC ids with
  |true=>k (single (Es rs (Hk ids E.tmps))) { objs:=ids.zip (E.heap.map (E0 ids)),frz:=fr }
  |false=>none
def AG(na:Nat)(its outs:AE)(rs:List RS)(f:CJ (leaves its)→Option (CJ (leaves outs))):Spec:=fun R args H fz slot k=>
 match dec args H its fz []with
 |none=>none
 |some (x,bs,fr)=>match bs.all Bnd.AS6&&decide (bs.length=CR its)&&decide (args.length=na)with
  |false=>none
  |true=>match f x with
   |none=>none
   |some y=>LC R bs fr rs (encode (cellsOf rs) outs y) (Bv (CR outs) bs slot) H fz k
def E6(P:Program)(E:Env)(h:Hints)(fn:Func):Spec:=fun R args H fz _ k=>
 match fn.body with
 |none=>none
 |some c=>match decide (args.length≤fn.ntmps)with
  |false=>none
  |true=>A2 P E h R c 0 { tmps:=args++List.replicate (fn.ntmps-args.length) .junk,heap:=H,frz:=fz } fun e st=>
   match e with
   |.normal=>match Ce P st fn.results.toList with
    |some vs=>k (single vs) { heap:=some (st.heap,st.frz) }
    |none=>none
   |.ret=>match Ce P st fn.results.toList with
    |some vs=>k (single vs) { heap:=some (st.heap,st.frz) }
    |none=>none
   |_=>none
end
end Go.Pev
end
section
namespace Go.Pev
open Go.RowKit
def rows{α:Type}(R:α→List Value→Prop):List α→List Value→Prop
 |[],cs=>cs=[]
 |x::xs,cs=>∃ c1 c2,cs=c1++c2∧R x c1∧rows R xs c2
def Dat(w:World)(F:Nat→Prop):(t:Ty)→t.den→List Value→Prop
 |.unit,_,cs=>cs=[]
 |.bool,b,cs=>cs=[.bool b]
 |.int k,n,cs=>cs=[.int k n]
 |.slice e,xs,cs=>∃ a cap,cs=[.slice a (List.length (α:=e.den) xs) cap]∧List.length (α:=e.den) xs≤cap∧(xs≠[]→∃ ad row,a=some ad∧F ad.block∧rows (Dat w F e) xs row ∧
   ∀ j u,row[j]? = some u→w.cell? (ad.add j)=some u)
 |.prod a b,d,cs=>∃ c1 c2,cs=c1++c2∧Dat w F a d.1 c1∧Dat w F b d.2 c2
 |.arr n e,xs,cs=>List.length (α:=e.den) xs=n∧rows (Dat w F e) xs cs
def BW(w:World)(F:Nat→Prop)(t:Ty)(d:t.den)(v:Value):Prop:=
 if t.isAgg then ∃ vs,v = .agg vs∧Dat w F t d vs.toList else Dat w F t d [v]
abbrev Mp:=Nat→Option (Nat×Nat)
def BU(o:Option Ob)(l:Option (Nat×Nat))(v:Value):Prop:=
 match o with
 |some (.arr _ t xs)=>match l with
  |none=>∃ a,v = .slice a 0 0
  |some (b,cap)=>v = .slice (some ⟨b,0,none⟩) (List.length (α:=t.den) xs) cap
 |some (.prs _ _ is)=>match l with
  |none=>∃ a,v = .slice a 0 0
  |some (b,cap)=>v = .slice (some ⟨b,0,none⟩) is.length cap
 |some .dead=>v.oneCell'=true
 |_=>False
def FP(o:Option Ob)(l:Option (Nat×Nat))(off n:Nat)(v:Value):Prop:=
 match o with
 |some (.arr _ t xs)=>off+n≤List.length (α:=t.den) xs∧match l with
  |none=>∃ a,v = .slice a n 0
  |some (b,cap)=>∃ a,v = .slice a n (cap-off)∧(off<cap→a=some ⟨b,off*t.size,none⟩)
 |some .dead=>v.oneCell'=true
 |_=>False
def FQ(o:Option Ob)(l:Option (Nat×Nat))(off:Nat)(v:Value):Prop:=
 match o with
 |some (.box _)=>∃ b c,l=some (b,c)∧v = .pointer (some ⟨b,off,none⟩)
 |some .dead=>v.oneCell'=true
 |_=>False
def DF(o:Option Ob)(l:Option (Nat×Nat))(i sub:Nat)(v:Value):Prop:=
 match o with
 |some (.arr _ t xs)=>i<List.length (α:=t.den) xs∧∃ b c,l=some (b,c)∧v = .pointer (some ⟨b,i*t.size+sub,none⟩)
 |some (.prs _ _ is)=>i<is.length∧∃ b c,l=some (b,c)∧v = .pointer (some ⟨b,i+sub,none⟩)
 |some .dead=>v.oneCell'=true
 |_=>False
def KP(o:Option Ob)(l:Option (Nat×Nat))(v:Value):Prop:=
 match o with
 |some (.map _ _ _)=>∃ b c,l=some (b,c)∧v = .map (some b)
 |some .dead=>v.oneCell'=true
 |_=>False
theorem BU.one{o:Ob}{l:Option (Nat×Nat)}{v:Value}(h:BU (some o) l v):v.oneCell'=true:=by
 unfold BU at h
 cases o<;>simp only at h<;>first|exact h.elim|exact h|skip
 all_goals
  cases l with
  |none=>obtain⟨a,rfl⟩:=h;rfl
  |some p=>obtain⟨b,c⟩:=p;simp only at h;subst h;rfl
theorem FP.one{o:Ob}{l:Option (Nat×Nat)}{off n:Nat}{v:Value}(h:FP (some o) l off n v):v.oneCell'=true:=by
 unfold FP at h
 cases o<;>simp only at h<;>first|exact h.elim|exact h|skip
 obtain⟨_,h⟩:=h
 cases l with
 |none=>obtain⟨a,rfl⟩:=h;rfl
 |some p=>obtain⟨b,c⟩:=p;obtain⟨a,rfl,_⟩:=h;rfl
theorem FQ.one{o:Ob}{l:Option (Nat×Nat)}{off:Nat}{v:Value}(h:FQ (some o) l off v):v.oneCell'=true:=by
 unfold FQ at h
 cases o<;>simp only at h<;>first|exact h.elim|exact h|skip
 obtain⟨b,c,_,rfl⟩:=h;rfl
theorem DF.one{o:Ob}{l:Option (Nat×Nat)}{i sub:Nat}{v:Value}(h:DF (some o) l i sub v):v.oneCell'=true:=by
 unfold DF at h
 cases o<;>simp only at h<;>first|exact h.elim|exact h|skip
 all_goals obtain⟨_,b,c,_,rfl⟩:=h;rfl
theorem KP.one{o:Ob}{l:Option (Nat×Nat)}{v:Value}(h:KP (some o) l v):v.oneCell'=true:=by
 unfold KP at h
 cases o<;>simp only at h<;>first|exact h.elim|exact h|skip
 obtain⟨b,c,_,rfl⟩:=h;rfl
section
variable (w:World) (F:Nat→Prop) (m:Mp) (H:List Ob)
mutual
def Rep:AV→Value→Prop
 |.junk,_=>True
 |.data t d,v=>BW w F t d v
 |.nils _,v=>v = .slice none 0 0
 |.agg cs,v=>∃ vs,v = .agg vs∧AW cs vs.toList∧∀ u∈vs.toList,u.oneCell'=true
 |.own id,v=>BU H[id]? (m id) v
 |.win id off n,v=>FP H[id]? (m id) off n v
 |.ptr id off,v=>FQ H[id]? (m id) off v
 |.eptr id i sub,v=>DF H[id]? (m id) i sub v
 |.dptr cs,v=>∃ ad us,v = .pointer (some ad)∧(cs≠[]→F ad.block)∧AW cs us∧(∀ u∈us,u.oneCell'=true)∧∀ j u,us[j]? = some u→w.cell? (ad.add j)=some u
 |.clo f caps,v=>∃ cs,v = .func (.func f) #[] cs∧AW caps cs.toList
 |.bnd f fs,v=>∃ cs,v = .func (.func f) cs #[]∧AW fs cs.toList
 |.str xs,v=>∃ s,v = .string s∧bytesOf s=xs
 |.mp id,v=>KP H[id]? (m id) v
 |.tup vs,v=>∃ us,v = .tuple us∧AW vs us.toList
def AW:List AV→List Value→Prop
 |[],vs=>vs=[]
 |c::cs,vs=>∃ v vs',vs=v::vs'∧Rep c v∧AW cs vs'
end
end
def ATm(w:World)(F:Nat→Prop)(k v:Ty)(e:k.den×v.den)(me:MapEntry):Prop:=BW w F k e.1 me.key∧BW w F v e.2 me.val
def Gg(w:World)(F:Nat→Prop)(k v:Ty):List (k.den×v.den)→List MapEntry→Prop
 |[],ms=>ms=[]
 |e::es,ms=>∃ me ms',ms=me::ms'∧ATm w F k v e me∧Gg w F k v es ms'
def GV(ms:Array MapEntry)(clock:Nat):Prop:=clock=ms.size∧∀ (i:Nat) (e:MapEntry),ms[i]? = some e→e.born=i
def ObI(w:World)(F:Nat→Prop)(m:Mp)(H:List Ob)(o:Ob)(l:Option (Nat×Nat)):Prop:=
 match o with
 |.free=>True
 |.dead=>True
 |.box cs=>∃ b c vs T,l=some (b,c)∧w.heap[b]? = some (.cells vs T (0,0))∧AW w F m H cs vs.toList∧∀ u∈vs.toList,u.oneCell'=true
 |.arr T t xs=>0<t.size∧match l with
  |none=>xs=[]
  |some (b,cap)=>∃ vs row,w.heap[b]? = some (.cells vs T (0,0))∧List.length (α:=t.den) xs≤cap∧cap≤maxLen∧vs.size=cap*t.size∧rows (Dat w F t) xs row∧vs.toList.take row.length=row
 |.map k v es=>∃ b c ms clock,l=some (b,c)∧w.heap[b]? = some (.map ms clock)∧Gg w F k v es ms.toList∧GV ms clock
 |.prs T tgt is=>match l with
  |none=>is=[]
  |some (b,cap)=>∃ vs us,w.heap[b]? = some (.cells vs T (0,0))∧is.length≤cap∧cap≤maxLen∧vs.size=cap∧AW w F m H (EH tgt is) us∧(∀ u∈us,u.oneCell'=true)∧vs.toList.take us.length=us
def owned(H:List Ob)(fz:List Bool)(i:Nat):Prop:=
 match H[i]? with
 |some (.box _)=>True
 |some (.map _ _ _)=>True
 |some (.prs _ _ _)=>True
 |some (.arr _ _ _)=>fz.getD i false=false
 |_=>False
structure HI(w:World)(F:Nat→Prop)(m:Mp)(H:List Ob)(fz:List Bool):Prop where
 obj:∀ id o,H[id]? = some o→ObI w F m H o (m id)
 sep:∀ i j b c b' c',owned H fz i→owned H fz j→i≠j→m i=some (b,c)→m j=some (b',c')→b≠b'
 off:∀ i b c,owned H fz i→m i=some (b,c)→¬ F b
 froz:∀ i T t xs b c,H[i]? = some (.arr T t xs)→fz.getD i false=true→m i=some (b,c)→F b
 lt:∀ b,F b→b<w.heap.size
 len:H.length=fz.length
def sameShape:Ob→Ob→Prop
 |.box _,.box _=>True
 |.map _ _ _,.map _ _ _=>True
 |.prs _ _ is,.prs _ _ is'=>is.length=is'.length
 |.arr _ t xs,.arr _ t' xs'=>t=t'∧List.length (α:=t.den) xs=List.length (α:=t'.den) xs'
 |_,_=>False
def Cc(H H':List Ob)(m m':Mp):Prop:=
 ∀ i o,H[i]? = some o→o≠.free→H'[i]? = some .dead∨(o≠.dead∧∃ o',H'[i]? = some o'∧sameShape o o'∧m' i=m i)
structure Ext(w:World)(F:Nat→Prop)(m:Mp)(H:List Ob)(fz:List Bool)(w':World)(F':Nat→Prop)(m':Mp)(H':List Ob)(fz':List Bool):Prop where
 os:w'.os=w.os
 tape:w'.tape=w.tape
 output:w'.output=w.output
 size:w.heap.size≤w'.heap.size
 keep:∀ b,b<w.heap.size→(∀ i c,owned H fz i→m i≠some (b,c))→w'.heap[b]? = w.heap[b]?
 sub:∀ b,F b→F' b
 bnd:∀ b,F' b→F b∨(∃ i c,owned H fz i∧m i=some (b,c))∨w.heap.size≤b
 own:∀ i b c,owned H' fz' i→m' i=some (b,c)→(∃ i c,owned H fz i∧m i=some (b,c))∨w.heap.size≤b
 comp:Cc H H' m m'
theorem BJ{α:Type}{R R':α→List Value→Prop}{xs:List α}(h:∀ x∈xs,∀ cs,R x cs→R' x cs):∀ {cs},rows R xs cs→rows R' xs cs:=by
 induction xs with
 |nil=>exact fun h=>h
 |cons x xs ih=>
  rintro cs ⟨c1,c2,rfl,h1,h2⟩
  exact⟨c1,c2,rfl,h x (by simp) _ h1,ih (fun y hy=>h y (by simp[hy])) h2⟩
theorem Dat.mono{w w':World}{F F':Nat→Prop}(hc:∀ a:Addr,F a.block→w'.cell? a=w.cell? a)(hF:∀ b,F b→F' b):
  ∀ (t:Ty) {d:t.den} {cs:List Value},Dat w F t d cs→Dat w' F' t d cs:=by
 have hadd:∀ (a:Addr) (n:Nat),(a.add n).block=a.block:=fun a n=>by unfold Addr.add;split<;>rfl
 intro t
 induction t with
 |unit=>exact fun h=>h
 |bool=>exact fun h=>h
 |int k=>exact fun h=>h
 |slice e ih=>
  rintro d cs ⟨a,cap,h1,h2,h3⟩
  refine⟨a,cap,h1,h2,fun hne => ?_⟩
  obtain⟨ad,row,e1,e2,e3,e4⟩:=h3 hne
  exact⟨ad,row,e1,hF _ e2,BJ (fun x _ cs hx=>ih hx) e3,fun j u hu=>(hc _ (by rw[hadd];exact e2)).trans (e4 j u hu)⟩
 |prod a b iha ihb=>
  rintro d cs ⟨c1,c2,h1,h2,h3⟩
  exact⟨c1,c2,h1,iha h2,ihb h3⟩
 |arr n e ih=>
  rintro d cs ⟨h1,h2⟩
  exact⟨h1,BJ (fun x _ cs hx=>ih hx) h2⟩
theorem BW.mono{w w':World}{F F':Nat→Prop}(hc:∀ a:Addr,F a.block→w'.cell? a=w.cell? a)(hF:∀ b,F b→F' b)
  {t:Ty} {d:t.den} {v:Value} (h:BW w F t d v):BW w' F' t d v:=by
 unfold BW at *
 split
 ·rename_i hg
  simp only[hg,AUv]at h
  obtain⟨vs,e,hd⟩:=h
  exact⟨vs,e,hd.mono hc hF t⟩
 ·rename_i hg
  simp only[hg]at h
  exact Dat.mono hc hF t h
theorem BF{α:Type}{R:α→List Value→Prop}{n:Nat}(h:∀ x cs,R x cs→cs.length=n):∀ {xs:List α} {cs},rows R xs cs→cs.length=xs.length*n:=by
 intro xs
 induction xs with
 |nil=>rintro cs rfl;simp
 |cons x xs ih=>
  rintro cs ⟨c1,c2,rfl,h1,h2⟩
  rw[AUb,h _ _ h1,ih h2,AUY,AVJ,AVo,Nat.add_comm]
theorem Dat.length{w:World}{F:Nat→Prop}:∀ (t:Ty) {d:t.den} {cs:List Value},Dat w F t d cs→cs.length=t.size:=by
 intro t
 induction t with
 |unit=>rintro d cs rfl;rfl
 |bool=>rintro d cs rfl;rfl
 |int k=>rintro d cs rfl;rfl
 |slice e ih=>rintro d cs ⟨a,cap,rfl,_,_⟩;rfl
 |prod a b iha ihb=>
  rintro d cs ⟨c1,c2,rfl,h2,h3⟩
  rw[AUb,iha h2,ihb h3];rfl
 |arr n e ih=>
  rintro d cs ⟨h1,h2⟩
  rw[BF (fun x cs hx=>ih hx) h2,h1];rfl
theorem R0{α:Type}{R:α→List Value→Prop}{p:Value→Prop}(h:∀ x cs,R x cs→∀ u∈cs,p u):∀ {xs:List α} {cs},rows R xs cs→∀ u∈cs,p u:=by
 intro xs
 induction xs with
 |nil=>rintro cs rfl u hu;cases hu
 |cons x xs ih=>
  rintro cs ⟨c1,c2,rfl,h1,h2⟩ u hu
  rcases AUQ.1 hu with hu|hu
  ·exact h _ _ h1 u hu
  ·exact ih h2 u hu
theorem Dat.Gk{w:World}{F:Nat→Prop}:∀ (t:Ty) {d:t.den} {cs:List Value},Dat w F t d cs→∀ u∈cs,u.oneCell'=true:=by
 intro t
 induction t with
 |unit=>rintro d cs rfl u hu;cases hu
 |bool=>rintro d cs rfl u hu;simp at hu;subst hu;rfl
 |int k=>rintro d cs rfl u hu;simp at hu;subst hu;rfl
 |slice e ih=>rintro d cs ⟨a,cap,rfl,_,_⟩ u hu;simp at hu;subst hu;rfl
 |prod a b iha ihb=>
  rintro d cs ⟨c1,c2,rfl,h2,h3⟩ u hu
  rcases AUQ.1 hu with hu|hu
  ·exact iha h2 u hu
  ·exact ihb h3 u hu
 |arr n e ih=>
  rintro d cs ⟨h1,h2⟩
  exact R0 (fun x cs hx=>ih hx) h2
theorem Am{w:World}{F:Nat→Prop}{m:Mp}{H:List Ob}:∀ {cs:List AV} {vs:List Value},AW w F m H cs vs→vs.length=cs.length:=by
 intro cs
 induction cs with
 |nil=>intro vs h;unfold AW at h;subst h;rfl
 |cons c cs ih=>
  intro vs h;unfold AW at h
  obtain⟨v,vs',rfl,_,h⟩:=h
  simp[ih h]
theorem Bx{w:World}{F:Nat→Prop}{m:Mp}{H:List Ob}:∀ {cs:List AV} {vs:List Value},AW w F m H cs vs→∀ {i:Nat} {c:AV},cs[i]? = some c→∃ v,vs[i]? = some v∧Rep w F m H c v:=by
 intro cs
 induction cs with
 |nil=>intro vs _ i c hc;simp at hc
 |cons c cs ih=>
  intro vs h i c' hc;unfold AW at h
  obtain⟨v,vs',rfl,hv,h⟩:=h
  cases i with
  |zero=>simp at hc;subst hc;exact⟨v,rfl,hv⟩
  |succ i=>simpa using ih h (by simpa using hc)
theorem Cl{w:World}{F:Nat→Prop}{m:Mp}{H:List Ob}:∀ {cs:List AV} {vs:List Value},vs.length=cs.length→(∀ (i:Nat) (c:AV) (v:Value),cs[i]? = some c→vs[i]? = some v→Rep w F m H c v)→AW w F m H cs vs:=by
 intro cs
 induction cs with
 |nil=>intro vs h _;unfold AW;exact AUr h
 |cons c cs ih=>
  intro vs hl h;unfold AW
  match vs,hl with
  |v::vs',hl=>exact⟨v,vs',rfl,h 0 c v rfl rfl,ih (by simpa using hl) fun i c v hc hv=>h (i+1) c v (by simpa using hc) (by simpa using hv)⟩
theorem E9{w:World}{F:Nat→Prop}{m:Mp}{H:List Ob}{cs cs':List AV}{vs vs':List Value}(h:AW w F m H cs vs)(h':AW w F m H cs' vs'):AW w F m H (cs++cs') (vs++vs'):=by
 induction cs generalizing vs with
 |nil=>unfold AW at h;subst h;simpa using h'
 |cons c cs ih=>
  unfold AW at h
  obtain⟨v,vs1,rfl,hv,h⟩:=h
  simp only[AUo]
  unfold AW
  exact⟨v,_,rfl,hv,ih h⟩
theorem J4{w:World}{F:Nat→Prop}{m:Mp}{H:List Ob}{cs:List AV}{vs:List Value}(h:AW w F m H cs vs)(n:Nat):AW w F m H (cs.take n) (vs.take n):=by
 refine Cl (by simp[Am h]) fun i c v hc hv => ?_
 rw[AVY]at hc hv
 split at hc
 ·rename_i hi
  simp only[hi,AUv]at hv
  obtain⟨v',hv',hr⟩:=Bx h hc
  rw[hv]at hv';cases hv';exact hr
 ·cases hc
theorem Dp{w:World}{F:Nat→Prop}{m:Mp}{H:List Ob}{cs:List AV}{vs:List Value}(h:AW w F m H cs vs)(n:Nat):AW w F m H (cs.drop n) (vs.drop n):=by
 refine Cl (by simp[Am h]) fun i c v hc hv => ?_
 rw[AVR]at hc hv
 obtain⟨v',hv',hr⟩:=Bx h hc
 rw[hv]at hv';cases hv';exact hr
section
variable {w w':World} {F F':Nat→Prop} {m m':Mp} {H H':List Ob}
theorem GU(hcomp:Cc H H' m m')(P:Option Ob→Option (Nat×Nat)→Prop)(hdead:∀ o l l',P (some o) l→P (some .dead) l')(hnone:∀ l,¬ P none l)(hfree:∀ l,¬ P (some .free) l)
  (hsame:∀ o o' l,sameShape o o'→P (some o) l→P (some o') l) (i:Nat) (h:P H[i]? (m i)):P H'[i]? (m' i):=by
 cases ho:H[i]? with
 |none=>rw[ho]at h;exact absurd h (hnone _)
 |some o=>
  rw[ho]at h
  by_cases hf:o = .free
  ·subst hf;exact absurd h (hfree _)
  ·rcases hcomp i o ho hf with h1|⟨_,o',h1,h2,h3⟩
   ·rw[h1];exact hdead _ _ _ h
   ·rw[h1,h3];exact hsame o o' _ h2 h
mutual
theorem Rep.mono(hc:∀ a:Addr,F a.block→w'.cell? a=w.cell? a)(hF:∀ b,F b→F' b)(hcomp:Cc H H' m m'):∀ (a:AV) {v:Value},Rep w F m H a v→Rep w' F' m' H' a v
 |.junk,_,_=>by unfold Rep;trivial
 |.data t d,v,h=>by unfold Rep at *;exact h.mono hc hF
 |.nils _,v,h=>by unfold Rep at *;exact h
 |.agg cs,v,h=>by
  unfold Rep at *
  obtain⟨vs,e,h,h1⟩:=h
  exact⟨vs,e,AW.mono hc hF hcomp cs h,h1⟩
 |.own id,v,h=>by
  unfold Rep at *
  refine GU hcomp (fun o l=>BU o l v) (fun o l l'=>BU.one) (fun l h=>h) (fun l h=>h) ?_ id h
  intro o o' l hs h
  cases o<;>cases o'<;>simp only[sameShape]at hs<;>try exact hs.elim
  ·exact h.elim
  ·obtain⟨rfl,hl⟩:=hs
   unfold BU at *
   simp only at *
   rw[← hl];exact h
  ·exact h.elim
  ·unfold BU at *
   simp only at *
   rw[← hs];exact h
 |.win id off n,v,h=>by
  unfold Rep at *
  refine GU hcomp (fun o l=>FP o l off n v) (fun o l l'=>FP.one) (fun l h=>h) (fun l h=>h) ?_ id h
  intro o o' l hs h
  cases o<;>cases o'<;>simp only[sameShape]at hs<;>try exact hs.elim
  ·exact h.elim
  ·obtain⟨rfl,hl⟩:=hs
   unfold FP at *
   simp only at *
   rw[← hl];exact h
  ·exact h.elim
  ·exact h.elim
 |.ptr id off,v,h=>by
  unfold Rep at *
  refine GU hcomp (fun o l=>FQ o l off v) (fun o l l'=>FQ.one) (fun l h=>h) (fun l h=>h) ?_ id h
  intro o o' l hs h
  cases o<;>cases o'<;>simp only[sameShape]at hs<;>try exact hs.elim
  ·exact h
  ·exact h.elim
  ·exact h.elim
  ·exact h.elim
 |.eptr id i sub,v,h=>by
  unfold Rep at *
  refine GU hcomp (fun o l=>DF o l i sub v) (fun o l l'=>DF.one) (fun l h=>h) (fun l h=>h) ?_ id h
  intro o o' l hs h
  cases o<;>cases o'<;>simp only[sameShape]at hs<;>try exact hs.elim
  ·exact h.elim
  ·obtain⟨rfl,hl⟩:=hs
   unfold DF at *
   simp only at *
   rw[← hl];exact h
  ·exact h.elim
  ·unfold DF at *
   simp only at *
   rw[← hs];exact h
 |.dptr cs,v,h=>by
  unfold Rep at *
  obtain⟨ad,us,e,h1,h2,h4,h3⟩:=h
  refine⟨ad,us,e,fun hne=>hF _ (h1 hne),AW.mono hc hF hcomp cs h2,h4,fun j u hu => ?_⟩
  have hadd:(ad.add j).block=ad.block:=by unfold Addr.add;split<;>rfl
  have hne:cs≠[]:=by
   rintro rfl
   unfold AW at h2;subst h2;simp at hu
  rw[hc _ (by rw[hadd];exact h1 hne)]
  exact h3 j u hu
 |.clo f caps,v,h=>by
  unfold Rep at *
  obtain⟨cs,e,h⟩:=h
  exact⟨cs,e,AW.mono hc hF hcomp caps h⟩
 |.bnd f caps,v,h=>by
  unfold Rep at *
  obtain⟨cs,e,h⟩:=h
  exact⟨cs,e,AW.mono hc hF hcomp caps h⟩
 |.str _,v,h=>by unfold Rep at *;exact h
 |.mp id,v,h=>by
  unfold Rep at *
  refine GU hcomp (fun o l=>KP o l v) (fun o l l'=>KP.one) (fun l h=>h) (fun l h=>h) ?_ id h
  intro o o' l hs h
  cases o<;>cases o'<;>simp only[sameShape]at hs<;>try exact hs.elim
  ·exact h.elim
  ·exact h.elim
  ·exact h
  ·exact h.elim
 |.tup vs,v,h=>by
  unfold Rep at *
  obtain⟨us,e,h⟩:=h
  exact⟨us,e,AW.mono hc hF hcomp vs h⟩
theorem AW.mono(hc:∀ a:Addr,F a.block→w'.cell? a=w.cell? a)(hF:∀ b,F b→F' b)(hcomp:Cc H H' m m'):∀ (cs:List AV) {vs:List Value},AW w F m H cs vs→AW w' F' m' H' cs vs
 |[],vs,h=>by unfold AW at *;exact h
 |c::cs,vs,h=>by
  unfold AW at *
  obtain⟨v,vs',e,h1,h2⟩:=h
  exact⟨v,vs',e,Rep.mono hc hF hcomp c h1,AW.mono hc hF hcomp cs h2⟩
end
theorem Cc.refl(H:List Ob)(m:Mp):Cc H H m m:=by
 intro i o ho _
 by_cases hd:o = .dead
 ·subst hd;exact .inl ho
 ·refine .inr ⟨hd,o,ho,?_,rfl⟩
  cases o<;>simp_all [sameShape]
theorem sameShape.trans{a b c:Ob}(h:sameShape a b)(h':sameShape b c):sameShape a c:=by
 cases a<;>cases b<;>simp only[sameShape]at h<;>(try exact h.elim)<;>cases c<;>simp only[sameShape]at h'<;>(try exact h'.elim)<;>simp only[sameShape]
 ·obtain⟨rfl,h⟩:=h
  obtain⟨rfl,h'⟩:=h'
  exact⟨rfl,h.trans h'⟩
 ·exact h.trans h'
theorem Cc.trans{a b c:List Ob}{m m' m'':Mp}(h:Cc a b m m')(h':Cc b c m' m''):Cc a c m m'':=by
 intro i o ho hf
 rcases h i o ho hf with h1|⟨hd,o',h1,h2,h3⟩
 ·rcases h' i _ h1 (by simp)with h4|⟨h5,_⟩
  ·exact .inl h4
  ·exact absurd rfl h5
 ·have hf':o'≠.free:=by rintro rfl;cases o<;>simp[sameShape]at h2
  rcases h' i o' h1 hf' with h4|⟨_,o'',h4,h5,h6⟩
  ·exact .inl h4
  ·exact .inr ⟨hd,o'',h4,h2.trans h5,h6.trans h3⟩
theorem Ext.refl(w:World)(F:Nat→Prop)(m:Mp)(H:List Ob)(fz:List Bool):Ext w F m H fz w F m H fz:=
 ⟨rfl,rfl,rfl,AUV _,fun _ _ _=>rfl,fun _ h=>h,fun _ h=>.inl h,fun i b c h1 h2=>.inl ⟨i,c,h1,h2⟩,Cc.refl H m⟩
theorem Ext.trans{w w1 w2:World}{F F1 F2:Nat→Prop}{m m1 m2:Mp}{H H1 H2:List Ob}{fz fz1 fz2:List Bool}
  (h:Ext w F m H fz w1 F1 m1 H1 fz1) (k:Ext w1 F1 m1 H1 fz1 w2 F2 m2 H2 fz2):Ext w F m H fz w2 F2 m2 H2 fz2 where
 os:=k.os.trans h.os
 tape:=k.tape.trans h.tape
 output:=k.output.trans h.output
 size:=AVT h.size k.size
 keep b hb hn:=by
  rw[k.keep b (AVn hb h.size) ?_,h.keep b hb hn]
  intro i c ho he
  rcases h.own i b c ho he with⟨i',c',h1,h2⟩|h1
  ·exact hn i' c' h1 h2
  ·omega
 sub b hb:=k.sub b (h.sub b hb)
 bnd b hb:=by
  rcases k.bnd b hb with h1|⟨i,c,h1,h2⟩|h1
  ·exact h.bnd b h1
  ·rcases h.own i b c h1 h2 with h3|h3
   ·exact .inr (.inl h3)
   ·exact .inr (.inr h3)
  ·exact .inr (.inr (AVT h.size h1))
 own i b c h1 h2:=by
  rcases k.own i b c h1 h2 with⟨i',c',h3,h4⟩|h3
  ·exact h.own i' b c' h3 h4
  ·exact .inr (AVT h.size h3)
 comp:=h.comp.trans k.comp
theorem Ext.frozen{fz fz':List Bool}(hi:HI w F m H fz)(h:Ext w F m H fz w' F' m' H' fz'){b:Nat}(hb:F b):w'.heap[b]? = w.heap[b]? :=
 h.keep b (hi.lt b hb) fun i c ho he=>hi.off i b c ho he hb
theorem Ext.cell{fz fz':List Bool}(hi:HI w F m H fz)(h:Ext w F m H fz w' F' m' H' fz')(a:Addr)(ha:F a.block):w'.cell? a=w.cell? a:=by
 simp[World.cell?,h.frozen hi ha]
theorem Ext.rep{fz fz':List Bool}(hi:HI w F m H fz)(h:Ext w F m H fz w' F' m' H' fz'){a:AV}{v:Value}(hr:Rep w F m H a v):Rep w' F' m' H' a v:=
 Rep.mono (h.cell hi) h.sub h.comp a hr
theorem Ext.AUG{fz fz':List Bool}(hi:HI w F m H fz)(h:Ext w F m H fz w' F' m' H' fz'){a:List AV}{v:List Value}(hr:AW w F m H a v):AW w' F' m' H' a v:=
 AW.mono (h.cell hi) h.sub h.comp a hr
theorem Ext.dat{fz fz':List Bool}(hi:HI w F m H fz)(h:Ext w F m H fz w' F' m' H' fz'){t:Ty}{d:t.den}{v:List Value}(hr:Dat w F t d v):Dat w' F' t d v:=
 hr.mono (h.cell hi) h.sub t
theorem Gg.mono{k v:Ty}(hc:∀ a:Addr,F a.block→w'.cell? a=w.cell? a)(hF:∀ b,F b→F' b):
  ∀ {es:List (k.den×v.den)} {ms:List MapEntry},Gg w F k v es ms→Gg w' F' k v es ms:=by
 intro es
 induction es with
 |nil=>exact fun h=>h
 |cons e es ih=>
  rintro ms ⟨me,ms',e1,⟨h1,h2⟩,h3⟩
  exact⟨me,ms',e1,⟨h1.mono hc hF,h2.mono hc hF⟩,ih h3⟩
end
end Go.Pev
end
section
namespace Go.Pev
open Go.RowKit
theorem BG{w:World}{b:Nat}{o:Obj}(h:w.heap[b]? = some o):b<w.heap.size:=by
 rcases AVF b w.heap.size with h'|h'
 ·exact h'
 ·simp[Array.getElem?_eq_none h']at h
theorem ObI.mono{w w':World}{F F':Nat→Prop}{m m':Mp}{H H':List Ob}{o:Ob}{l:Option (Nat×Nat)}
  (hc:∀ a:Addr,F a.block→w'.cell? a=w.cell? a) (hF:∀ b,F b→F' b) (hcomp:Cc H H' m m')
  (hb:o≠.free→o≠.dead→∀ b c,l=some (b,c)→b<w.heap.size→w'.heap[b]? = w.heap[b]?) (h:ObI w F m H o l):ObI w' F' m' H' o l:=by
 cases o with
 |free=>trivial
 |dead=>trivial
 |box cs=>
  obtain⟨b,c,vs,T,e1,e2,e3,e4⟩:=h
  exact⟨b,c,vs,T,e1,(hb (by simp) (by simp) b c e1 (BG e2)).trans e2,AW.mono hc hF hcomp cs e3,e4⟩
 |arr T t xs=>
  obtain⟨h0,h⟩:=h
  refine⟨h0,?_⟩
  cases l with
  |none=>exact h
  |some p=>
   obtain⟨b,cap⟩:=p
   obtain⟨vs,row,e1,e2,e3,e4,e5,e6⟩:=h
   exact⟨vs,row,(hb (by simp) (by simp) b cap rfl (BG e1)).trans e1,e2,e3,e4,BJ (fun x _ cs hx=>hx.mono hc hF t) e5,e6⟩
 |map k v es=>
  obtain⟨b,c,ms,clock,e1,e2,e3,e4⟩:=h
  exact⟨b,c,ms,clock,e1,(hb (by simp) (by simp) b c e1 (BG e2)).trans e2,Gg.mono hc hF e3,e4⟩
 |prs T tgt is=>
  cases l with
  |none=>exact h
  |some p=>
   obtain⟨b,cap⟩:=p
   obtain⟨vs,us,e1,e2,e3,e4,e5,e6,e7⟩:=h
   exact⟨vs,us,(hb (by simp) (by simp) b cap rfl (BG e1)).trans e1,e2,e3,e4,AW.mono hc hF hcomp _ e5,e6,e7⟩
theorem HI.ne{w:World}{F:Nat→Prop}{m:Mp}{H:List Ob}{fz:List Bool}(hi:HI w F m H fz){i j:Nat}{b c b' c':Nat}(ho:owned H fz j)
  (hj:m j=some (b',c')) {o:Ob} (hio:H[i]? = some o) (hal:o≠.free) (hal':o≠.dead) (hi':m i=some (b,c)) (hne:i≠j):b≠b':=by
 by_cases hoi:owned H fz i
 ·exact hi.sep i j b c b' c' hoi ho hne hi' hj
 ·cases o with
  |free=>exact absurd rfl hal
  |dead=>exact absurd rfl hal'
  |box cs=>exact absurd (by simp[owned,hio]) hoi
  |map k v es=>exact absurd (by simp[owned,hio]) hoi
  |prs T tgt is=>exact absurd (by simp[owned,hio]) hoi
  |arr T t xs=>
   have hf:fz.getD i false=true:=by
    cases hx:fz.getD i false with
    |true=>rfl
    |false=>exact absurd (by simp only[owned,hio];exact hx) hoi
   have h1:=hi.froz i T t xs b c hio hf hi'
   rintro rfl
   exact hi.off j b c' ho hj h1
theorem Cw{H:List Ob}{fz:List Bool}{i:Nat}(h:owned H fz i):∃ o,H[i]? = some o∧o≠.free∧o≠.dead:=by
 unfold owned at h
 split at h
 ·rename_i h1;exact⟨_,h1,by simp,by simp⟩
 ·rename_i h1;exact⟨_,h1,by simp,by simp⟩
 ·rename_i h1;exact⟨_,h1,by simp,by simp⟩
 ·rename_i h1;exact⟨_,h1,by simp,by simp⟩
 ·exact h.elim
theorem HI.I4{w:World}{F:Nat→Prop}{m:Mp}{H:List Ob}{fz:List Bool}(hi:HI w F m H fz){i b c:Nat}(h:owned H fz i)(hm:m i=some (b,c)):b<w.heap.size:=by
 obtain⟨o,ho,h1,h2⟩:=Cw h
 have:=hi.obj i o ho
 rw[hm]at this
 cases o with
 |free=>exact absurd rfl h1
 |dead=>exact absurd rfl h2
 |box cs=>obtain⟨b,c,vs,T,e1,e2,_⟩:=this;cases e1;exact BG e2
 |map k v es=>obtain⟨b,c,vs,T,e1,e2,_⟩:=this;cases e1;exact BG e2
 |arr T t xs=>obtain⟨_,vs,row,e1,_⟩:=this;exact BG e1
 |prs T tgt is=>obtain⟨vs,us,e1,_⟩:=this;exact BG e1
def At(w:World)(F:Nat→Prop)(m:Mp)(H:List Ob)(fz:List Bool)(w':World)(F':Nat→Prop)(m':Mp)(H':List Ob)(fz':List Bool):Prop:=
 Ext w F m H fz w' F' m' H' fz'∧HI w' F' m' H' fz'
theorem At.trans{w w1 w2:World}{F F1 F2:Nat→Prop}{m m1 m2:Mp}{H H1 H2:List Ob}{fz fz1 fz2:List Bool}
  (h:At w F m H fz w1 F1 m1 H1 fz1) (k:At w1 F1 m1 H1 fz1 w2 F2 m2 H2 fz2):At w F m H fz w2 F2 m2 H2 fz2:=⟨h.1.trans k.1,k.2⟩
section
variable {w w':World} {F:Nat→Prop} {m:Mp} {H:List Ob} {fz:List Bool}
theorem At.refl(hi:HI w F m H fz):At w F m H fz w F m H fz:=⟨Ext.refl ..,hi⟩
theorem At.grow(hi:HI w F m H fz)(h1:w'.os=w.os)(h2:w'.tape=w.tape)(h3:w'.output=w.output)(hsz:w.heap.size≤w'.heap.size)(hb:∀ b,b<w.heap.size→w'.heap[b]? = w.heap[b]?):
  At w F m H fz w' F m H fz:=by
 refine⟨⟨h1,h2,h3,hsz,fun b h _=>hb b h,fun _ h=>h,fun _ h=>.inl h,fun i b c h1 h2=>.inl ⟨i,c,h1,h2⟩,Cc.refl H m⟩,?_,hi.sep,hi.off,hi.froz,fun b h=>AVn (hi.lt b h) hsz,hi.len⟩
 exact fun id o ho=>ObI.mono (fun a ha=>by simp[World.cell?,hb _ (hi.lt _ ha)]) (fun _ h=>h) (Cc.refl H m) (fun _ _ b c _ hlt=>hb b hlt) (hi.obj id o ho)
theorem At.drew(hi:HI w F m H fz):At w F m H fz w.drew F m H fz:=At.grow hi rfl rfl rfl (AUV _) fun _ _=>rfl
def upd(m:Mp)(i:Nat)(l:Option (Nat×Nat)):Mp:=fun j=>if j=i then l else m j
theorem An(m:Mp)(i:Nat)(l:Option (Nat×Nat)):upd m i l i=l:=by simp[upd]
theorem BI{m:Mp}{i j:Nat}{l:Option (Nat×Nat)}(h:j≠i):upd m i l j=m j:=by simp[upd,h]
theorem Aw{H:List Ob}{i j:Nat}{o:Ob}(h:j≠i):(H.set i o)[j]? = H[j]? := by rw[AU7 (AU1 h)]
theorem BP{slot:Nat}(h:Ay H fz slot=true):H[slot]? = some .free∧fz.getD slot false=false:=by
 unfold Ay at h
 split at h
 ·rename_i h1;exact⟨h1,by simpa using h⟩
 ·cases h
theorem Ap{H:List Ob}{i:Nat}{o:Ob}(h:H[i]? = some o):i<H.length:=by
 rcases AVF i H.length with h'|h'
 ·exact h'
 ·rw[AU0 h']at h;cases h
theorem BK{H:List Ob}{i:Nat}{o:Ob}(h:i<H.length):(H.set i o)[i]? = some o:=by simp[h]
def alive:Ob→Prop
 |.free=>False
 |.dead=>False
 |_=>True
theorem At.new(hi:HI w F m H fz){slot:Nat}(hs:Ay H fz slot=true){ob:Ob}(hal:alive ob)(l:Option (Nat×Nat))
  (h1:w'.os=w.os) (h2:w'.tape=w.tape) (h3:w'.output=w.output) (hsz:w.heap.size≤w'.heap.size) (hb:∀ b,b<w.heap.size→w'.heap[b]? = w.heap[b]?)
  (hl:∀ b c,l=some (b,c)→w.heap.size≤b)
  (ho:(∀ {a:AV} {v:Value},Rep w F m H a v→Rep w' F (upd m slot l) (H.set slot ob) a v)→ObI w' F (upd m slot l) (H.set slot ob) ob l) :
  At w F m H fz w' F (upd m slot l) (H.set slot ob) fz:=by
 obtain⟨hs1,hs2⟩:=BP hs
 have hlt:=Ap hs1
 have hcell:∀ a:Addr,F a.block→w'.cell? a=w.cell? a:=fun a ha=>by simp[World.cell?,hb _ (hi.lt _ ha)]
 have hcomp:Cc H (H.set slot ob) m (upd m slot l):=by
  intro i o hio hf
  have hne:i≠slot:=by rintro rfl;rw[hs1]at hio;cases hio;exact hf rfl
  rcases Cc.refl H m i o hio hf with h|⟨hd,o',h4,h5,_⟩
  ·exact .inl (by rw[Aw hne];exact h)
  ·exact .inr ⟨hd,o',by rw[Aw hne];exact h4,h5,BI hne⟩
 have hown:∀ i,i≠slot→(owned (H.set slot ob) fz i↔owned H fz i):=fun i hne=>by unfold owned;rw[Aw hne]
 refine⟨⟨h1,h2,h3,hsz,fun b h _=>hb b h,fun _ h=>h,fun _ h=>.inl h,?_,hcomp⟩,⟨?_,?_,?_,?_,fun b h=>AVn (hi.lt b h) hsz,by simpa using hi.len⟩⟩
 ·intro i b c ho' hm
  by_cases hne:i=slot
  ·subst hne;rw[An]at hm;exact .inr (hl b c hm)
  ·rw[BI hne]at hm;exact .inl ⟨i,c,(hown i hne).1 ho',hm⟩
 ·intro id o hio
  by_cases hne:id=slot
  ·subst hne
   rw[BK hlt]at hio;cases hio
   rw[An]
   exact ho fun h=>Rep.mono hcell (fun _ h=>h) hcomp _ h
  ·rw[Aw hne]at hio
   rw[BI hne]
   exact ObI.mono hcell (fun _ h=>h) hcomp (fun _ _ b c _ hlt=>hb b hlt) (hi.obj id o hio)
 ·intro i j b c b' c' hoi hoj hij hmi hmj
  by_cases hi1:i=slot
  ·subst hi1
   have hj1:j≠i:=AU1 hij
   rw[An]at hmi
   rw[BI hj1]at hmj
   have:=hi.I4 ((hown j hj1).1 hoj) hmj
   have:=hl b c hmi
   omega
  ·rw[BI hi1]at hmi
   by_cases hj1:j=slot
   ·subst hj1
    rw[An]at hmj
    have:=hi.I4 ((hown i hi1).1 hoi) hmi
    have:=hl b' c' hmj
    omega
   ·rw[BI hj1]at hmj
    exact hi.sep i j b c b' c' ((hown i hi1).1 hoi) ((hown j hj1).1 hoj) hij hmi hmj
 ·intro i b c hoi hmi hF
  by_cases hi1:i=slot
  ·subst hi1;rw[An]at hmi
   have:=hl b c hmi
   have:=hi.lt b hF
   omega
  ·rw[BI hi1]at hmi
   exact hi.off i b c ((hown i hi1).1 hoi) hmi hF
 ·intro i T t xs b c hio hf hmi
  by_cases hi1:i=slot
  ·subst hi1;rw[hs2]at hf;cases hf
  ·rw[BI hi1]at hmi;rw[Aw hi1]at hio
   exact hi.froz i T t xs b c hio hf hmi
theorem At.set(hi:HI w F m H fz){j b c:Nat}(hoj:owned H fz j)(hmj:m j=some (b,c)){o o':Ob}(hj:H[j]? = some o)(hss:sameShape o o')
  (h1:w'.os=w.os) (h2:w'.tape=w.tape) (h3:w'.output=w.output) (hsz:w'.heap.size=w.heap.size) (hb:∀ k,k≠b→w'.heap[k]? = w.heap[k]?)
  (ho:(∀ {a:AV} {v:Value},Rep w F m H a v→Rep w' F m (H.set j o') a v)→ObI w' F m (H.set j o') o' (m j)) :
  At w F m H fz w' F m (H.set j o') fz:=by
 have hlt:=Ap hj
 have hcell:∀ a:Addr,F a.block→w'.cell? a=w.cell? a:=fun a ha=>by
  have:a.block≠b:=by rintro e;exact hi.off j b c hoj hmj (e▸ha)
  simp[World.cell?,hb _ this]
 have hcomp:Cc H (H.set j o') m m:=by
  intro i x hix hf
  by_cases hne:i=j
  ·subst hne
   rw[hj]at hix;cases hix
   exact .inr ⟨by rintro rfl;simp[sameShape]at hss,o',BK hlt,hss,rfl⟩
  ·rcases Cc.refl H m i x hix hf with h|⟨hd,x',h4,h5,_⟩
   ·exact .inl (by rw[Aw hne];exact h)
   ·exact .inr ⟨hd,x',by rw[Aw hne];exact h4,h5,rfl⟩
 have hown:∀ i,owned (H.set j o') fz i→owned H fz i:=fun i hoi=>by
  by_cases hne:i=j
  ·subst hne;exact hoj
  ·unfold owned at *;rw[Aw hne]at hoi;exact hoi
 refine⟨⟨h1,h2,h3,Nat.le_of_eq hsz.symm,fun k _ hk=>hb k ?_,fun _ h=>h,fun _ h=>.inl h,fun i b c ho' hm=>.inl ⟨i,c,hown i ho',hm⟩,hcomp⟩,⟨?_,?_,?_,?_,fun b h=>by rw[hsz];exact hi.lt b h,by simpa using hi.len⟩⟩
 ·rintro rfl
  exact hk j c hoj hmj
 ·intro id x hix
  by_cases hne:id=j
  ·subst hne
   rw[BK hlt]at hix;cases hix
   exact ho fun h=>Rep.mono hcell (fun _ h=>h) hcomp _ h
  ·rw[Aw hne]at hix
   exact ObI.mono hcell (fun _ h=>h) hcomp (fun n1 n2 b' c' hm _=>hb b' (hi.ne hoj hmj hix n1 n2 hm hne)) (hi.obj id x hix)
 ·exact fun i k b c b' c' hoi hok=>hi.sep i k b c b' c' (hown i hoi) (hown k hok)
 ·exact fun i b c hoi=>hi.off i b c (hown i hoi)
 ·intro i T t xs b' c' hio hf hmi
  by_cases hne:i=j
  ·subst hne
   rw[BK hlt]at hio;cases hio
   cases o<;>simp only[sameShape]at hss
   unfold owned at hoj;rw[hj]at hoj
   simp only at hoj
   rw[hoj]at hf;cases hf
  ·rw[Aw hne]at hio
   exact hi.froz i T t xs b' c' hio hf hmi
theorem At.move(hi:HI w F m H fz){j b c slot:Nat}(hoj:owned H fz j)(hmj:m j=some (b,c))(hs:Ay H fz slot=true){ob:Ob}(hal:alive ob){b' c':Nat}
  (hb':b'=b∨w.heap.size≤b')
  (h1:w'.os=w.os) (h2:w'.tape=w.tape) (h3:w'.output=w.output) (hsz:w.heap.size≤w'.heap.size) (hb:∀ k,k<w.heap.size→k≠b→w'.heap[k]? = w.heap[k]?)
  (ho:(∀ {a:AV} {v:Value},Rep w F m H a v→Rep w' F (upd m slot (some (b',c'))) ((H.set j .dead).set slot ob) a v)→ObI w' F (upd m slot (some (b',c'))) ((H.set j .dead).set slot ob) ob (some (b',c'))) :
  At w F m H fz w' F (upd m slot (some (b',c'))) ((H.set j .dead).set slot ob) fz:=by
 obtain⟨hs1,hs2⟩:=BP hs
 obtain⟨oj,hj,hjf,hjd⟩:=Cw hoj
 have hjs:j≠slot:=by rintro rfl;rw[hs1]at hj;cases hj;exact hjf rfl
 have hltj:=Ap hj
 have hlts:=Ap hs1
 have hgs:((H.set j .dead).set slot ob)[slot]? = some ob:=BK (by simpa using hlts)
 have hgj:((H.set j .dead).set slot ob)[j]? = some .dead:=by rw[Aw hjs,BK hltj]
 have hgo:∀ i,i≠j→i≠slot→((H.set j .dead).set slot ob)[i]? = H[i]? := fun i h4 h5=>by rw[Aw h5,Aw h4]
 have hbF:¬ F b:=hi.off j b c hoj hmj
 have hcell:∀ a:Addr,F a.block→w'.cell? a=w.cell? a:=fun a ha=>by
  have:a.block≠b:=by rintro e;exact hbF (e▸ha)
  simp[World.cell?,hb _ (hi.lt _ ha) this]
 have hcomp:Cc H ((H.set j .dead).set slot ob) m (upd m slot (some (b',c'))):=by
  intro i x hix hf
  have hne:i≠slot:=by rintro rfl;rw[hs1]at hix;cases hix;exact hf rfl
  by_cases hij:i=j
  ·subst hij;exact .inl hgj
  ·rcases Cc.refl H m i x hix hf with h|⟨hd,x',h4,h5,_⟩
   ·exact .inl (by rw[hgo i hij hne];exact h)
   ·exact .inr ⟨hd,x',by rw[hgo i hij hne];exact h4,h5,BI hne⟩
 have hown:∀ i,i≠slot→owned ((H.set j .dead).set slot ob) fz i→owned H fz i∧i≠j:=fun i hne hoi=>by
  by_cases hij:i=j
  ·subst hij;unfold owned at hoi;rw[hgj]at hoi;exact hoi.elim
  ·unfold owned at *;rw[hgo i hij hne]at hoi;exact⟨hoi,hij⟩
 refine⟨⟨h1,h2,h3,hsz,fun k hk hn=>hb k hk ?_,fun _ h=>h,fun _ h=>.inl h,?_,hcomp⟩,⟨?_,?_,?_,?_,fun b h=>AVn (hi.lt b h) hsz,by simpa using hi.len⟩⟩
 ·rintro rfl;exact hn j c hoj hmj
 ·intro i b2 c2 ho' hm
  by_cases hne:i=slot
  ·subst hne;rw[An]at hm;cases hm
   rcases hb' with h|h
   ·exact .inl ⟨j,c,hoj,by rw[h];exact hmj⟩
   ·exact .inr h
  ·rw[BI hne]at hm;exact .inl ⟨i,c2,(hown i hne ho').1,hm⟩
 ·intro id x hix
  by_cases hne:id=slot
  ·subst hne
   rw[hgs]at hix;cases hix
   rw[An]
   exact ho fun h=>Rep.mono hcell (fun _ h=>h) hcomp _ h
  ·rw[BI hne]
   by_cases hij:id=j
   ·subst hij;rw[hgj]at hix;cases hix;trivial
   ·rw[hgo id hij hne]at hix
    exact ObI.mono hcell (fun _ h=>h) hcomp (fun n1 n2 b2 c2 hm hlt=>hb b2 hlt (hi.ne hoj hmj hix n1 n2 hm hij)) (hi.obj id x hix)
 ·intro i k b1 c1 b2 c2 hoi hok hik hmi hmk
  by_cases hi1:i=slot
  ·subst hi1
   have hk1:k≠i:=AU1 hik
   rw[An]at hmi;cases hmi
   rw[BI hk1]at hmk
   obtain⟨hok,hkj⟩:=hown k hk1 hok
   rcases hb' with rfl|h
   ·exact(hi.sep k j b2 c2 b' c hok hoj hkj hmk hmj).symm
   ·have:=hi.I4 hok hmk;omega
  ·rw[BI hi1]at hmi
   obtain⟨hoi',hij⟩:=hown i hi1 hoi
   by_cases hk1:k=slot
   ·subst hk1
    rw[An]at hmk;cases hmk
    rcases hb' with rfl|h
    ·exact hi.sep i j b1 c1 b' c hoi' hoj hij hmi hmj
    ·have:=hi.I4 hoi' hmi;omega
   ·rw[BI hk1]at hmk
    exact hi.sep i k b1 c1 b2 c2 hoi' (hown k hk1 hok).1 hik hmi hmk
 ·intro i b1 c1 hoi hmi hF
  by_cases hi1:i=slot
  ·subst hi1;rw[An]at hmi;cases hmi
   rcases hb' with rfl|h
   ·exact hbF hF
   ·have:=hi.lt _ hF;omega
  ·rw[BI hi1]at hmi
   exact hi.off i b1 c1 (hown i hi1 hoi).1 hmi hF
 ·intro i T t xs b1 c1 hio hf hmi
  by_cases hi1:i=slot
  ·subst hi1;rw[hs2]at hf;cases hf
  ·rw[BI hi1]at hmi
   by_cases hij:i=j
   ·subst hij;rw[hgj]at hio;cases hio
   ·rw[hgo i hij hi1]at hio
    exact hi.froz i T t xs b1 c1 hio hf hmi
def DK(F:Nat→Prop)(m:Mp)(H:List Ob)(ids:List Nat)(b:Nat):Prop:=
 F b∨∃ i,i∈ids∧∃ c T t xs,H[i]? = some (.arr T t xs)∧m i=some (b,c)
theorem CL(ids:List Nat):∀ (fz:List Bool),(Ag ids fz).length=fz.length:=by
 induction ids with
 |nil=>intro fz;rfl
 |cons a ids ih=>intro fz;rw[Ag,ih,List.length_set]
theorem Ax(ids:List Nat):∀ (fz:List Bool) (i:Nat),(Ag ids fz).getD i false=(fz.getD i false||(decide (i∈ids)&&decide (i<fz.length))):=by
 induction ids with
 |nil=>intro fz i;simp[Ag]
 |cons a ids ih=>
  intro fz i
  rw[Ag,ih,List.length_set]
  simp only[AUS]
  by_cases hia:i=a
  ·subst hia
   by_cases hl:i<fz.length
   ·simp[hl]
   ·simp[hl]
  ·rw[AU7 (AU1 hia)]
   simp[hia]
theorem At.freeze(hi:HI w F m H fz)(ids:List Nat):At w F m H fz w (DK F m H ids) m H (Ag ids fz):=by
 have hown:∀ i,owned H (Ag ids fz) i→owned H fz i∧(i∉ids∨∀ T t xs,H[i]?≠some (.arr T t xs)):=by
  intro i ho
  unfold owned at *
  cases hio:H[i]? with
  |none=>rw[hio]at ho;exact ho.elim
  |some o=>
   rw[hio]at ho
   cases o with
   |free=>exact ho.elim
   |dead=>exact ho.elim
   |box cs=>exact⟨trivial,.inr (by simp)⟩
   |map k v es=>exact⟨trivial,.inr (by simp)⟩
   |prs T tgt is=>exact⟨trivial,.inr (by simp)⟩
   |arr T t xs=>
    simp only at ho ⊢
    rw[Ax]at ho
    simp only[Bool.or_eq_false_iff,Bool.and_eq_false_iff,AVE]at ho
    refine⟨ho.1,.inl ?_⟩
    rcases ho.2 with h|h
    ·exact h
    ·exact absurd (AVn (Ap hio) (Nat.le_of_eq hi.len)) h
 have hsub:∀ b,F b→DK F m H ids b:=fun b h=>.inl h
 have hownS:∀ i,(∃ T t xs,H[i]? = some (.arr T t xs))→owned H fz i∨fz.getD i false=true:=by
  rintro i ⟨T,t,xs,h⟩
  cases hx:fz.getD i false with
  |true=>exact .inr rfl
  |false=>exact .inl (by unfold owned;rw[h];exact hx)
 refine⟨⟨rfl,rfl,rfl,AUV _,fun _ _ _=>rfl,hsub,?_,fun i b c h1 h2=>.inl ⟨i,c,(hown i h1).1,h2⟩,Cc.refl H m⟩,⟨?_,?_,?_,?_,?_,by rw[CL];exact hi.len⟩⟩
 ·rintro b (h|⟨i,hi1,c,T,t,xs,h4,h5⟩)
  ·exact .inl h
  ·rcases hownS i ⟨T,t,xs,h4⟩with h|h
   ·exact .inr (.inl ⟨i,c,h,h5⟩)
   ·exact .inl (hi.froz i T t xs b c h4 h h5)
 ·exact fun id o ho=>ObI.mono (fun _ _=>rfl) hsub (Cc.refl H m) (fun _ _ _ _ _ _=>rfl) (hi.obj id o ho)
 ·exact fun i j b c b' c' h1 h2=>hi.sep i j b c b' c' (hown i h1).1 (hown j h2).1
 ·rintro i b c h1 h2 (hF|⟨k,hk,c',T,t,xs,h4,h5⟩)
  ·exact hi.off i b c (hown i h1).1 h2 hF
  ·obtain⟨h6,h7⟩:=hown i h1
   have hki:k≠i:=by
    rintro rfl
    rcases h7 with h7|h7
    ·exact h7 hk
    ·exact h7 T t xs h4
   exact hi.ne h6 h2 h4 (by simp) (by simp) h5 hki rfl
 ·intro i T t xs b c hio hf hmi
  rw[Ax]at hf
  simp only[AVj,AUR,AUP]at hf
  rcases hf with hf|⟨hf,_⟩
  ·exact .inl (hi.froz i T t xs b c hio hf hmi)
  ·exact .inr ⟨i,hf,c,T,t,xs,hio,hmi⟩
 ·rintro b (h|⟨i,_,c,T,t,xs,h4,h5⟩)
  ·exact hi.lt b h
  ·rcases hownS i ⟨T,t,xs,h4⟩with h|h
   ·exact hi.I4 h h5
   ·exact hi.lt b (hi.froz i T t xs b c h4 h h5)
end
end Go.Pev
end
section
namespace Go.Pev
open Go.RowKit
theorem J3(a:Addr)(n:Nat):(a.add n).block=a.block:=by unfold Addr.add;split<;>rfl
theorem add_add(a:Addr)(i j:Nat):(a.add i).add j=a.add (i+j):=by
 unfold Addr.add
 by_cases hi:i=0<;>by_cases hj:j=0<;>simp[hi,hj,AWQ]
theorem Ch(b o n:Nat):(⟨b,o,none⟩:Addr).add n=⟨b,o+n,none⟩:=by unfold Addr.add;split<;>simp_all
theorem Eg{t t':Ty}{d:t.den}{x:t'.den}(h:cast d=some x):∃ e:t=t',e▸d=x:=by
 unfold cast at h
 split at h
 ·rename_i e;exact⟨e,by simpa using h⟩
 ·cases h
theorem Eh{t t':Ty}{d:List t.den}{x:List t'.den}(h:VC d=some x):∃ e:t=t',e▸d=x:=by
 unfold VC at h
 split at h
 ·rename_i e;exact⟨e,by simpa using h⟩
 ·cases h
theorem EF{α:Type}{R:α→List Value→Prop}{k:Nat}(hk:∀ x cs,R x cs→cs.length=k):∀ {xs:List α} {cs:List Value} (n:Nat),rows R xs cs→rows R (xs.take n) (cs.take (n*k)):=by
 intro xs
 induction xs with
 |nil=>rintro cs n rfl;simp[rows]
 |cons x xs ih=>
  rintro cs n ⟨c1,c2,rfl,h1,h2⟩
  cases n with
  |zero=>simp[rows]
  |succ n=>
   have hl:=hk _ _ h1
   refine⟨c1,c2.take (n*k),?_,h1,ih n h2⟩
   rw[AVx,AVJ,AVo,AVK (by omega)]
   congr 2
   omega
theorem HK{α:Type}{R:α→List Value→Prop}{k:Nat}(hk:∀ x cs,R x cs→cs.length=k):∀ {xs:List α} {cs:List Value} (n:Nat),rows R xs cs→rows R (xs.drop n) (cs.drop (n*k)):=by
 intro xs
 induction xs with
 |nil=>rintro cs n rfl;simp[rows]
 |cons x xs ih=>
  rintro cs n ⟨c1,c2,rfl,h1,h2⟩
  cases n with
  |zero=>simp only[AWs,AWq];exact⟨c1,c2,rfl,h1,h2⟩
  |succ n=>
   have hl:=hk _ _ h1
   have e:(c1++c2).drop ((n+1)*k)=c2.drop (n*k):=by
    rw[AVJ,AVo,AW2,AVb (show c1.length≤n*k+k by omega),AVA]
    congr 1;omega
   rw[e,List.drop_succ_cons]
   exact ih n h2
theorem Rz{α:Type}{R:α→List Value→Prop}{k:Nat}(hk:∀ x cs,R x cs→cs.length=k){xs:List α}{cs:List Value}(h:rows R xs cs){i:Nat}{x:α}(hx:xs[i]? = some x):
  R x ((cs.drop (i*k)).take k):=by
 have h1:=EF hk 1 (HK hk i h)
 rw[AVo]at h1
 have h2:(xs.drop i).take 1=[x]:=by
  have hlt:i<xs.length:=by
   rcases AVF i xs.length with h'|h'
   ·exact h'
   ·rw[AU0 h']at hx;cases hx
  rw[AVC hlt]
  rw[AUU hlt]at hx
  injection hx with hx
  simp[hx]
 rw[h2]at h1
 obtain⟨c1,c2,e,h3,rfl⟩:=h1
 rw[AVk]at e
 rw[e];exact h3
theorem Ik{α:Type}{R:α→List Value→Prop}{xs ys:List α}{cs ds:List Value}(h:rows R xs cs)(h':rows R ys ds):rows R (xs++ys) (cs++ds):=by
 induction xs generalizing cs with
 |nil=>cases h;simpa using h'
 |cons x xs ih=>
  obtain⟨c1,c2,rfl,h1,h2⟩:=h
  exact⟨c1,c2++ds,by simp,h1,ih h2⟩
theorem ACh{α:Type}{R:α→List Value→Prop}{k:Nat}(hk:∀ x cs,R x cs→cs.length=k):∀ {xs:List α} {cs:List Value} {i:Nat} {y:α} {ds:List Value},rows R xs cs→i<xs.length→R y ds →
  rows R (xs.set i y) (cs.take (i*k)++ds++cs.drop (i*k+k)):=by
 intro xs
 induction xs with
 |nil=>intro cs i y ds _ hi;simp at hi
 |cons x xs ih=>
  rintro cs i y ds ⟨c1,c2,rfl,h1,h2⟩ hi hy
  have hl:=hk _ _ h1
  cases i with
  |zero=>
   simp only[List.set_cons_zero,AWq,List.take_zero,AVA,AVL]
   refine⟨ds,c2,?_,hy,h2⟩
   rw[AW2,AVb (by omega),← hl,AWI];simp
  |succ i=>
   simp only[List.set_cons_succ]
   refine⟨c1,_,?_,h1,ih h2 (by simpa using hi) hy⟩
   rw[AVJ,AVo,AVx,AVK (show c1.length≤i*k+k by omega),AW2,AVb (show c1.length≤i*k+k+k by omega)]
   simp only[AVc,AVA]
   rw[show i*k+k-c1.length=i*k from by omega,show i*k+k+k-c1.length=i*k+k from by omega]
section
variable {w:World} {F:Nat→Prop} {m:Mp} {H:List Ob} {fz:List Bool}
theorem ANA{ids ids':List Nat}(h:∀ i∈ids,i∈ids'){b:Nat}(hb:DK F m H ids b):DK F m H ids' b:=by
 rcases hb with hb|⟨i,hi,r⟩
 ·exact .inl hb
 ·exact .inr ⟨i,h i hi,r⟩
theorem Dat.frz{t:Ty}{d:t.den}{cs:List Value}{ids:List Nat}(h:Dat w F t d cs):Dat w (DK F m H ids) t d cs:=h.mono (fun _ _=>rfl) (fun _=>.inl) t
theorem Dat.AQb{t:Ty}{d:t.den}{cs:List Value}{ids ids':List Nat}(hh:∀ i∈ids,i∈ids')(h:Dat w (DK F m H ids) t d cs):Dat w (DK F m H ids') t d cs:=h.mono (fun _ _=>rfl) (fun _=>ANA hh) t
theorem CD{vs:Array Value}{row:List Value}(h:vs.toList.take row.length=row){j:Nat}{u:Value}(hu:row[j]? = some u):vs[j]? = some u:=by
 rw[← h,AVY]at hu
 split at hu
 ·simpa using hu
 ·cases hu
theorem AI1(hi:HI w F m H fz){id:Nat}{T:TypeId}{e:Ty}{xs:List e.den}(ho:H[id]? = some (.arr T e xs)){v:Value}(hr:BU (some (.arr T e xs)) (m id) v):
  Dat w (DK F m H [id]) (.slice e) xs [v]:=by
 have h:=hi.obj id _ ho
 obtain⟨_,h⟩:=h
 cases hm:m id with
 |none=>
  rw[hm]at h hr
  obtain⟨a,rfl⟩:=hr
  simp only at h;subst h
  exact⟨a,0,rfl,AUV _,fun h=>absurd rfl h⟩
 |some p=>
  obtain⟨b,cap⟩:=p
  rw[hm]at h hr
  obtain⟨vs,row,e1,e2,e3,e4,e5,e6⟩:=h
  simp only[BU]at hr;subst hr
  refine⟨_,cap,rfl,e2,fun _=>⟨_,row,rfl,.inr ⟨id,by simp,cap,T,e,xs,ho,hm⟩,BJ (fun x _ cs hx=>hx.frz) e5,fun j u hu => ?_⟩⟩
  rw[Ch]
  simp only[World.cell?,e1,AVL]
  exact CD e6 hu
theorem AI0(hi:HI w F m H fz){id:Nat}{T:TypeId}{e:Ty}{xs:List e.den}(ho:H[id]? = some (.arr T e xs)){off n:Nat}{v:Value}(hr:FP (some (.arr T e xs)) (m id) off n v):
  Dat w (DK F m H [id]) (.slice e) (FL off n xs) [v]:=by
 have h:=hi.obj id _ ho
 obtain⟨_,h⟩:=h
 obtain⟨hle,hr⟩:=hr
 have hlen:(FL off n xs).length=n:=by unfold FL;rw[AUq,AVD];omega
 cases hm:m id with
 |none=>
  rw[hm]at h hr
  obtain⟨a,rfl⟩:=hr
  simp only at h;subst h
  have hn:n=0:=by have:=hle;simp at this;exact this.2
  refine⟨a,0,by rw[hlen],by rw[hlen];omega,fun h=>absurd ?_ h⟩
  simp[FL]
 |some p=>
  obtain⟨b,cap⟩:=p
  rw[hm]at h hr
  obtain⟨vs,row,e1,e2,e3,e4,e5,e6⟩:=h
  obtain⟨a,rfl,ha⟩:=hr
  have hk:=fun(x:e.den) cs (h:Dat w F e x cs)=>Dat.length e h
  refine⟨a,cap-off,by rw[hlen],by rw[hlen];omega,fun hne => ?_⟩
  have hn:0<n:=by
   rcases AVZ n with h0|h0
   ·exact absurd (AUr (hlen.trans h0)) hne
   ·exact h0
  refine⟨_,(row.drop (off*e.size)).take (n*e.size),ha (by omega),.inr ⟨id,by simp,cap,T,e,xs,ho,hm⟩,BJ (fun x _ cs hx=>hx.frz) (EF hk n (HK hk off e5)),fun j u hu => ?_⟩
  rw[Ch]
  simp only[World.cell?,e1]
  rw[AVY]at hu
  split at hu
  ·rw[AVR]at hu
   exact CD e6 hu
  ·cases hu
theorem Xy(hi:HI w F m H fz){t:Ty}{v:AV}{x:t.den}{fr:List Nat}(h:Df H t v=some (x,fr))(ht:t.isAgg=false){u:Value}(hr:Rep w F m H v u):Dat w (DK F m H fr) t x [u]:=by
 unfold Df at h
 split at h
 ·rename_i t' d
  simp only[AUd,AUp]at h
  obtain⟨y,h1,rfl,rfl⟩:=h
  obtain⟨e,h2⟩:=Eg h1
  subst e;simp only at h2;subst h2
  unfold Rep BW at hr
  rw[ht]at hr
  exact Dat.frz (by simpa using hr)
 ·split at h
  ·simp only[AUM,AUp]at h
   obtain⟨rfl,rfl⟩:=h
   unfold Rep at hr;subst hr
   exact⟨none,0,rfl,AUV _,fun h=>absurd rfl h⟩
  ·cases h
 ·rename_i id
  split at h
  ·rename_i T e xs ho
   simp only[AUd,AUp]at h
   obtain⟨y,h1,rfl,rfl⟩:=h
   obtain⟨e',h2⟩:=Eg h1
   subst e';simp only at h2;subst h2
   unfold Rep at hr
   rw[ho]at hr
   exact AI1 hi ho hr
  ·cases h
 ·rename_i id off n
  split at h
  ·rename_i T e xs ho
   simp only[AUd,AUp]at h
   obtain⟨y,h1,rfl,rfl⟩:=h
   obtain⟨e',h2⟩:=Eg h1
   subst e';simp only at h2;subst h2
   unfold Rep at hr
   rw[ho]at hr
   exact AI0 hi ho hr
  ·cases h
 ·cases h
theorem ASY{α:Type}{one:List AV→Option (α×List Nat×List AV)}{R:List Nat→α→List Value→Prop}
  (hR:∀ fr fr' x cs,(∀ i∈fr,i∈fr')→R fr x cs→R fr' x cs)
  (h1:∀ cs x fr rest us,one cs=some (x,fr,rest)→AW w F m H cs us→∃ us1 us2,us=us1++us2∧R fr x us1∧AW w F m H rest us2) :
  ∀ (n:Nat) {cs:List AV} {xs:List α} {fr:List Nat} {rest:List AV} {us:List Value},L8 one n cs=some (xs,fr,rest)→AW w F m H cs us →
   ∃ us1 us2,us=us1++us2∧xs.length=n∧rows (R fr) xs us1∧AW w F m H rest us2:=by
 intro n
 induction n with
 |zero=>
  intro cs xs fr rest us h hr
  simp only[L8,AUM,AUp]at h
  obtain⟨rfl,rfl,rfl⟩:=h
  exact⟨[],us,rfl,rfl,rfl,hr⟩
 |succ n ih=>
  intro cs xs fr rest us h hr
  simp only[L8]at h
  split at h
  ·cases h
  ·rename_i x f cs1 ho
   split at h
   ·cases h
   ·rename_i ys g cs2 hi
    simp only[AUM,AUp]at h
    obtain⟨rfl,rfl,rfl⟩:=h
    obtain⟨u1,u2,rfl,r1,r2⟩:=h1 _ _ _ _ _ ho hr
    obtain⟨u3,u4,rfl,hl,r3,r4⟩:=ih hi r2
    exact⟨u1++u3,u4,by simp,by simp[hl],⟨u1,u3,rfl,hR _ _ _ _ (fun i hi=>by simp[hi]) r1,BJ (fun x _ cs hx=>hR _ _ _ _ (fun i hi=>by simp[hi]) hx) r3⟩,r4⟩
theorem Tw(hi:HI w F m H fz):∀ (t:Ty) {cs:List AV} {x:t.den} {fr:List Nat} {rest:List AV} {us:List Value},As H t cs=some (x,fr,rest)→AW w F m H cs us →
  ∃ us1 us2,us=us1++us2∧Dat w (DK F m H fr) t x us1∧AW w F m H rest us2:=by
 have cell:∀ (t:Ty),t.isAgg=false→∀ {c:AV} {cs:List AV} {x:t.den} {fr:List Nat} {rest:List AV} {us:List Value} {p:Option (t.den×List Nat)},Df H t c=p →
   p=some (x,fr)→cs=rest→AW w F m H (c::cs) us →
   ∃ us1 us2,us=us1++us2∧Dat w (DK F m H fr) t x us1∧AW w F m H rest us2:=by
  rintro t ht c cs x fr rest us p hy rfl rfl hr
  unfold AW at hr
  obtain⟨v,vs',rfl,h1,h2⟩:=hr
  exact⟨[v],vs',rfl,Xy hi hy ht h1,h2⟩
 intro t
 induction t with
 |unit=>
  intro cs x fr rest us h hr
  simp only[As,AUM,AUp]at h
  obtain⟨_,rfl,rfl⟩:=h
  exact⟨[],us,rfl,rfl,hr⟩
 |bool=>
  intro cs x fr rest us h hr
  cases cs with
  |nil=>simp[As]at h
  |cons c cs=>
   unfold As at h
   split at h
   ·cases h
   ·rename_i y f hy
    simp only[AUM,AUp]at h
    obtain⟨h1,h2,h3⟩:=h
    exact cell .bool rfl hy (by rw[h1,h2]) h3 hr
 |int k=>
  intro cs x fr rest us h hr
  cases cs with
  |nil=>simp[As]at h
  |cons c cs=>
   unfold As at h
   split at h
   ·cases h
   ·rename_i y f hy
    simp only[AUM,AUp]at h
    obtain⟨h1,h2,h3⟩:=h
    exact cell (.int k) rfl hy (by rw[h1,h2]) h3 hr
 |slice e _=>
  intro cs x fr rest us h hr
  cases cs with
  |nil=>simp[As]at h
  |cons c cs=>
   unfold As at h
   split at h
   ·cases h
   ·rename_i y f hy
    simp only[AUM,AUp]at h
    obtain⟨h1,h2,h3⟩:=h
    exact cell (.slice e) rfl hy (by rw[h1,h2]) h3 hr
 |prod a b iha ihb=>
  intro cs x fr rest us h hr
  simp only[As]at h
  split at h
  ·cases h
  ·rename_i y f cs1 hy
   split at h
   ·cases h
   ·rename_i z g cs2 hz
    simp only[AUM,AUp]at h
    obtain⟨rfl,rfl,rfl⟩:=h
    obtain⟨u1,u2,rfl,r1,r2⟩:=iha hy hr
    obtain⟨u3,u4,rfl,r3,r4⟩:=ihb hz r2
    exact⟨u1++u3,u4,by simp,⟨u1,u3,rfl,r1.AQb (fun i hi=>by simp[hi]),r3.AQb (fun i hi=>by simp[hi])⟩,r4⟩
 |arr n e ih=>
  intro cs x fr rest us h hr
  simp only[As]at h
  obtain⟨u1,u2,e1,e2,e3,e4⟩:=ASY (R:=fun fr=>Dat w (DK F m H fr) e) (fun fr fr' x cs h1 h2=>h2.AQb h1) (fun cs x fr rest us h1 h2=>ih h1 h2) n h hr
  exact⟨u1,u2,e1,⟨e2,e3⟩,e4⟩
theorem Ex(hi:HI w F m H fz){t:Ty}{v:AV}{x:t.den}{fr:List Nat}(h:Ej H t v=some (x,fr)){u:Value}(hr:Rep w F m H v u):BW w (DK F m H fr) t x u:=by
 unfold Ej at h
 split at h
 ·rename_i ht
  unfold BW
  rw[AUf ht]
  unfold asAgg at h
  split at h
  ·rename_i t' d
   simp only[AUd,AUp]at h
   obtain⟨y,h1,rfl,rfl⟩:=h
   obtain⟨e,h2⟩:=Eg h1
   subst e;simp only at h2;subst h2
   unfold Rep BW at hr
   rw[AUf ht]at hr
   obtain⟨vs,e1,e2⟩:=hr
   exact⟨vs,e1,e2.frz⟩
  ·rename_i cs
   split at h
   ·rename_i y f hy
    simp only[AUM,AUp]at h
    obtain⟨rfl,rfl⟩:=h
    unfold Rep at hr
    obtain⟨vs,rfl,hr,_⟩:=hr
    obtain⟨u1,u2,e1,e2,e3⟩:=Tw hi t hy hr
    unfold AW at e3;subst e3
    rw[AVk]at e1
    exact⟨vs,rfl,by rw[e1];exact e2⟩
   ·cases h
  ·cases h
 ·rename_i ht
  unfold BW
  rw[AUZ (by simp[ht])]
  exact Xy hi h ht hr
theorem AE4{n:Nat}(e:Ty)(d:List e.den)(h:d.length=n):BA (.arr n e) d=d.flatMap (BA e):=by
 have gen:∀ (xs:List e.den) (f:Nat→e.den),(∀ i,i<xs.length→f i=xs.getD i e.zero)→((List.range xs.length).flatMap fun i=>BA e (f i))=xs.flatMap (BA e):=by
  intro xs
  induction xs with
  |nil=>intro f _;rfl
  |cons x xs ih=>
   intro f hf
   rw[AUY,List.range_succ_eq_map,AVd,AVd,List.flatMap_map]
   have h0:=hf 0 (by simp)
   simp only[List.getD_cons_zero]at h0
   rw[h0]
   congr 1
   exact ih (fun i=>f (i+1)) fun i hi=>by
    have:=hf (i+1) (by simp;exact hi)
    simpa using this
 subst h
 exact gen d (fun i=>AN d i e.zero) fun i _=>rfl
theorem GN:∀ (t:Ty) {d:t.den} {cs:List Value},Dat w F t d cs→AW w F m H (BA t d) cs:=by
 have one:∀ (t:Ty) (d:t.den) (u:Value),t.isAgg=false→Dat w F t d [u]→AW w F m H [.data t d] [u]:=by
  intro t d u ht h
  unfold AW
  refine⟨u,[],rfl,?_,?_⟩
  ·unfold Rep BW;rw[ht];simpa using h
  ·unfold AW;rfl
 intro t
 induction t with
 |unit=>rintro d cs rfl;simp only[BA];unfold AW;rfl
 |bool=>rintro d cs h;obtain rfl:=h;exact one .bool d _ rfl rfl
 |int k=>rintro d cs h;obtain rfl:=h;exact one (.int k) d _ rfl rfl
 |slice e _=>rintro d cs h;obtain⟨a,cap,rfl,h1,h2⟩:=h;exact one (.slice e) d _ rfl ⟨a,cap,rfl,h1,h2⟩
 |prod a b iha ihb=>
  rintro d cs ⟨c1,c2,rfl,h1,h2⟩
  exact E9 (iha h1) (ihb h2)
 |arr n e ih=>
  rintro d cs ⟨hlen,h⟩
  rw[AE4 e d hlen]
  have key:∀ (xs:List e.den) (cs:List Value),rows (Dat w F e) xs cs→AW w F m H (xs.flatMap (BA e)) cs:=by
   intro xs
   induction xs with
   |nil=>rintro cs rfl;simp only[List.flatMap_nil];unfold AW;rfl
   |cons x xs ih'=>
    rintro cs ⟨c1,c2,rfl,h1,h2⟩
    rw[AVd]
    exact E9 (ih h1) (ih' _ h2)
  exact key d cs h
theorem VP{v:AV}{u:Value}(hr:Rep w F m H v u):AW w F m H [v] [u]:=by
 unfold AW
 exact⟨u,[],rfl,hr,by unfold AW;rfl⟩
theorem JO:AW w F m H [] []:=by unfold AW;rfl
theorem Fb{u:Value}(h:u.oneCell'=true):u.cells.toList=[u]:=by
 cases u<;>first|rfl|(simp[Value.oneCell']at h)
def AJ6:AV→Prop
 |.junk=>False
 |.tup _=>False
 |.agg _=>False
 |.data t _=>t.isAgg=false
 |_=>True
theorem S6{v:AV}{u:Value}(hr:Rep w F m H v u)(hv:AJ6 v):u.oneCell'=true:=by
 cases v with
 |junk=>exact hv.elim
 |tup vs=>exact hv.elim
 |agg cs=>exact hv.elim
 |data t d=>
  unfold AJ6 at hv
  unfold Rep BW at hr
  rw[hv]at hr
  exact Dat.Gk t (by simpa using hr) u (by simp)
 |nils e=>unfold Rep at hr;subst hr;rfl
 |own id=>
  unfold Rep at hr
  cases ho:H[id]? with
  |none=>rw[ho]at hr;exact hr.elim
  |some o=>rw[ho]at hr;exact hr.one
 |win id off n=>
  unfold Rep at hr
  cases ho:H[id]? with
  |none=>rw[ho]at hr;exact hr.elim
  |some o=>rw[ho]at hr;exact hr.one
 |ptr id off=>
  unfold Rep at hr
  cases ho:H[id]? with
  |none=>rw[ho]at hr;exact hr.elim
  |some o=>rw[ho]at hr;exact hr.one
 |eptr id i sub=>
  unfold Rep at hr
  cases ho:H[id]? with
  |none=>rw[ho]at hr;exact hr.elim
  |some o=>rw[ho]at hr;exact hr.one
 |dptr cs=>unfold Rep at hr;obtain⟨ad,us,rfl,_⟩:=hr;rfl
 |clo f cs=>unfold Rep at hr;obtain⟨us,rfl,_⟩:=hr;rfl
 |bnd f cs=>unfold Rep at hr;obtain⟨us,rfl,_⟩:=hr;rfl
 |str xs=>unfold Rep at hr;obtain⟨us,rfl,_⟩:=hr;rfl
 |mp id=>
  unfold Rep at hr
  cases ho:H[id]? with
  |none=>rw[ho]at hr;exact hr.elim
  |some o=>rw[ho]at hr;exact hr.one
theorem cells?_ok{v:AV}{cs:List AV}(h:cells? v=some cs){u:Value}(hr:Rep w F m H v u):AW w F m H cs u.cells.toList:=by
 have agg:∀ (t:Ty) (d:t.den),t.isAgg=true→Rep w F m H (.data t d) u→AW w F m H (BA t d) u.cells.toList:=by
  intro t d ht hr
  unfold Rep BW at hr
  rw[AUf ht]at hr
  obtain⟨vs,rfl,hd⟩:=hr
  exact GN t hd
 have one:AJ6 v→cs=[v]→AW w F m H cs u.cells.toList:=by
  rintro hv rfl
  rw[Fb (S6 hr hv)]
  exact VP hr
 cases v with
 |junk=>simp[cells?]at h
 |tup vs=>simp[cells?]at h
 |agg cs'=>
  simp only[cells?,AUM]at h;subst h
  unfold Rep at hr
  obtain⟨vs,rfl,hr',_⟩:=hr
  exact hr'
 |data t d=>
  cases t with
  |unit=>
   simp only[cells?,AUM]at h;subst h
   exact agg .unit d rfl hr
  |prod a b=>simp only[cells?,AUM]at h;subst h;exact agg _ d rfl hr
  |arr n e=>simp only[cells?,AUM]at h;subst h;exact agg _ d rfl hr
  |bool=>exact one rfl (by simpa [cells?]using h.symm)
  |int k=>exact one rfl (by simpa [cells?]using h.symm)
  |slice e=>exact one rfl (by simpa [cells?]using h.symm)
 |nils e=>exact one trivial (by simpa [cells?]using h.symm)
 |own id=>exact one trivial (by simpa [cells?]using h.symm)
 |win id off n=>exact one trivial (by simpa [cells?]using h.symm)
 |ptr id off=>exact one trivial (by simpa [cells?]using h.symm)
 |eptr id i sub=>exact one trivial (by simpa [cells?]using h.symm)
 |dptr cs'=>exact one trivial (by simpa [cells?]using h.symm)
 |clo f cs'=>exact one trivial (by simpa [cells?]using h.symm)
 |bnd f cs'=>exact one trivial (by simpa [cells?]using h.symm)
 |str xs=>exact one trivial (by simpa [cells?]using h.symm)
 |mp id=>exact one trivial (by simpa [cells?]using h.symm)
theorem cells?_one{v:AV}{cs:List AV}(h:cells? v=some cs){u:Value}(hr:Rep w F m H v u):∀ x∈u.cells.toList,x.oneCell'=true:=by
 have one:AJ6 v→∀ x∈u.cells.toList,x.oneCell'=true:=by
  intro hv x hx
  have h1:=S6 hr hv
  rw[Fb h1]at hx
  simp at hx;subst hx;exact h1
 have agg:∀ (t:Ty) (d:t.den),t.isAgg=true→Rep w F m H (.data t d) u→∀ x∈u.cells.toList,x.oneCell'=true:=by
  intro t d ht hr
  unfold Rep BW at hr
  rw[AUf ht]at hr
  obtain⟨vs,rfl,hd⟩:=hr
  exact Dat.Gk t hd
 cases v with
 |junk=>simp[cells?]at h
 |tup vs=>simp[cells?]at h
 |agg cs'=>
  unfold Rep at hr
  obtain⟨vs,rfl,_,h1⟩:=hr
  exact h1
 |data t d=>
  cases t with
  |unit=>exact agg .unit d rfl hr
  |prod a b=>exact agg _ d rfl hr
  |arr n e=>exact agg _ d rfl hr
  |bool=>exact one rfl
  |int k=>exact one rfl
  |slice e=>exact one rfl
 |nils e=>exact one trivial
 |own id=>exact one trivial
 |win id off n=>exact one trivial
 |ptr id off=>exact one trivial
 |eptr id i sub=>exact one trivial
 |dptr cs'=>exact one trivial
 |clo f cs'=>exact one trivial
 |bnd f cs'=>exact one trivial
 |str xs=>exact one trivial
 |mp id=>exact one trivial
theorem KS:∀ (cs:List AV) (vs:List Value),Bc cs vs=true→∀ x∈vs,x.oneCell'=true:=by
 intro cs
 induction cs with
 |nil=>
  intro vs h x hx
  cases vs with
  |nil=>cases hx
  |cons v vs=>simp[Bc]at h
 |cons c cs ih=>
  intro vs h x hx
  cases vs with
  |nil=>cases hx
  |cons v vs=>
   simp only[Bc,AUR]at h
   rcases AUT.1 hx with rfl|hx
   ·have h:=h.1
    unfold DX at h
    split at h<;>first|rfl|cases h
   ·exact ih vs h.2 x hx
theorem HA{cs new out:List AV}{off:Nat}(h:Cv cs new off=some out){us vs:List Value}(h1:AW w F m H cs us)(h2:AW w F m H new vs):
  off+new.length≤cs.length∧AW w F m H out (us.take off++vs++us.drop (off+new.length)):=by
 unfold Cv at h
 split at h
 ·rename_i hle
  simp only[AUM]at h;subst h
  exact⟨hle,E9 (E9 (J4 h1 off) h2) (Dp h1 _)⟩
 ·cases h
theorem AI3(v:Value):Rep w F m H (AA4 v) v:=by
 unfold AA4
 split
 ·unfold Rep BW;exact rfl
 ·unfold Rep BW;exact rfl
 ·unfold Rep;rfl
 ·unfold Rep;exact⟨_,rfl,rfl⟩
 ·unfold Rep;trivial
theorem T1{tmps:List AV}{a:Act}(h:∀ t,Rep w F m H (tmps.getD t .junk) (a.tmps.getD t undef))(x:Operand):Rep w F m H (BC tmps x) (a.eval x):=by
 cases x with
 |tmp t=>exact h t
 |const v=>exact AI3 v
 |func f=>unfold BC Rep;exact⟨#[],rfl,JO⟩
 |global g=>unfold BC Rep;trivial
theorem Hg:∀ (cs:List AV) (vs:List Value),Bc cs vs=true→AW w F m H cs vs:=by
 intro cs
 induction cs with
 |nil=>intro vs h;cases vs with
  |nil=>exact JO
  |cons v vs=>simp[Bc]at h
 |cons c cs ih=>
  intro vs h
  cases vs with
  |nil=>simp[Bc]at h
  |cons v vs=>
   simp only[Bc,AUR]at h
   unfold AW
   refine⟨v,vs,rfl,?_,ih vs h.2⟩
   have h:=h.1
   unfold DX at h
   split at h
   ·simp only[AV4]at h;subst h;unfold Rep BW;exact rfl
   ·simp only[AUR,AUP,AV4]at h
    obtain⟨rfl,rfl⟩:=h
    unfold Rep BW;exact rfl
   ·unfold Rep;rfl
   ·cases h
end
end Go.Pev
end
section
namespace Go.Pev
open Go.RowKit
section
variable {P:Program} {w:World}
theorem run_typeInfo{T:TypeId}{i:TypeInfo}(h:P.info? T=some i):(typeInfo T).run P w = .ok i w:=by simp[typeInfo,h]
theorem run_sizeOf{T:TypeId}{i:TypeInfo}(h:P.info? T=some i):(sizeOf T).run P w = .ok i.size w:=by simp[sizeOf,run_typeInfo h]
theorem BL{T:TypeId}{n:Nat}(h:BD P T=some n):∃ i,P.info? T=some i∧i.size=n:=by
 unfold BD at h
 simpa [AUd]using h
theorem Bz{T:TypeId}{b:Bool}(h:DR P T=some b):(isAgg T).run P w = .ok b w:=by
 unfold DR at h
 split at h
 ·rename_i hu;simp only[AUM]at h;subst h;simp[isAgg,run_underlying hu]
 ·rename_i hu;simp only[AUM]at h;subst h;simp[isAgg,run_underlying hu]
 ·rename_i d h1 h2 hu
  simp only[AUM]at h;subst h
  simp only[isAgg,Sem.run_bind,run_underlying hu,Result.andThen_ok]
  rfl
 ·cases h
theorem Cr{F:Nat→Prop}{m:Mp}{H:List Ob}{T:TypeId}{n:Nat}{ag:Bool}(hs:BD P T=some n)(ha:DR P T=some ag){cs:List AV}{us:List Value}{v:AV}{ad:Addr}
  (hl:loadCells ag n cs=some v) (hr:AW w F m H cs us) (h1:∀ u∈us,u.oneCell'=true) (hc:∀ j u,us[j]? = some u→w.cell? (ad.add j)=some u) :
  ∃ u,(loadVar T ad).run P w = .ok u w∧Rep w F m H v u:=by
 obtain⟨i,hi,rfl⟩:=BL hs
 unfold loadCells at hl
 cases ag with
 |true=>
  simp only at hl
  split at hl
  ·rename_i hle
   simp only[AUM]at hl;subst hl
   have hlen:=Am hr
   have hl2:(us.take i.size).length=i.size:=by rw[AUq];omega
   refine⟨.agg (us.take i.size).toArray,?_,?_⟩
   ·have:=run_loadCells_list (P:=P) w ad (us.take i.size) (fun j u hu=>by
     rw[AVY]at hu
     split at hu
     ·exact hc j u hu
     ·cases hu)
    rw[hl2]at this
    simp[loadVar,Bz ha,run_sizeOf hi,this]
   ·unfold Rep
    exact⟨_,rfl,by simpa using J4 hr i.size,fun u hu=>h1 u (by simpa using AWe (by simpa using hu))⟩
  ·cases hl
 |false=>
  simp only at hl
  cases cs with
  |nil=>simp at hl
  |cons c cs=>
   simp only[List.head?_cons,AUM]at hl;subst hl
   unfold AW at hr
   obtain⟨u,us',rfl,h3,_⟩:=hr
   refine⟨u,?_,h3⟩
   have:=hc 0 u rfl
   have h0:ad.add 0=ad:=by simp[Addr.add]
   rw[h0]at this
   simp[loadVar,Bz ha,this]
theorem FG{T T':TypeId}{n:Nat}(hs:BD P T=some n){b off:Nat}{cur:Array Value}(hb:w.heap[b]? = some (.cells cur T' (0,0))){u:Value}(hu:u.cells.size=n)
  (h1:∀ x∈u.cells.toList,x.oneCell'=true) (hfit:off+n≤cur.size) :
  (storeVar T ⟨b,off,none⟩ u).run P w = .ok () (w.setRow b (cur.toList.take off++u.cells.toList++cur.toList.drop (off+n)).toArray):=by
 obtain⟨i,hi,rfl⟩:=BL hs
 have:=run_storeCells_at P b off T' u.cells.toList 0 cur w hb (by simp[hu];omega) h1
 simp only[AVi,AUi]at this
 rw[hu]at this
 simp[storeVar,run_sizeOf hi,hu,this]
theorem B0{T:TypeId}{t:Ty}{cs:List AV}(h:zeroAt P T=some (t,cs)):AFs P T=some t∧cs=zeroCells t∧∃ i z,P.info? T=some i∧i.zero=some z∧Bc cs z.cells.toList=true∧i.size=t.size∧t.isAgg=Tj z:=by
 unfold zeroAt at h
 split at h
 ·rename_i t' i ht hi
  split at h
  ·rename_i z hz
   split at h
   ·rename_i hok
    simp only[AUM,AUp]at h
    obtain⟨rfl,rfl⟩:=h
    simp only[AUR,AV4]at hok
    exact⟨ht,rfl,i,z,hi,hz,hok.1.1,hok.1.2,hok.2⟩
   ·cases h
  ·cases h
 ·cases h
theorem BZ{T:TypeId}{i:TypeInfo}{z:Value}(h:P.info? T=some i)(hz:i.zero=some z):(zeroValue T).run P w = .ok z w:=by simp[zeroValue,run_typeInfo h,hz]
theorem B9{F:Nat→Prop}:∀ (t:Ty) (vs:List Value),Bc (zeroCells t) vs=true→Dat w F t t.zero vs:=by
 have app:∀ (as bs:List AV) (vs:List Value),Bc (as++bs) vs=true→∃ v1 v2,vs=v1++v2∧Bc as v1=true∧Bc bs v2=true:=by
  intro as
  induction as with
  |nil=>intro bs vs h;exact⟨[],vs,rfl,rfl,h⟩
  |cons a as ih=>
   intro bs vs h
   cases vs with
   |nil=>simp[Bc]at h
   |cons v vs=>
    simp only[AUo,Bc,AUR]at h
    obtain⟨v1,v2,rfl,h1,h2⟩:=ih bs vs h.2
    exact⟨v::v1,v2,rfl,by simp[Bc,h.1,h1],h2⟩
 have one:∀ (a:AV) (vs:List Value),Bc [a] vs=true→∃ v,vs=[v]∧DX a v=true:=by
  intro a vs h
  cases vs with
  |nil=>simp[Bc]at h
  |cons v vs=>
   simp only[Bc,AUR]at h
   cases vs with
   |nil=>exact⟨v,rfl,h.1⟩
   |cons x xs=>simp[Bc]at h
 intro t
 induction t with
 |unit=>intro vs h;cases vs with
  |nil=>exact rfl
  |cons v vs=>simp[Bc,zeroCells]at h
 |bool=>
  intro vs h
  obtain⟨v,hv,h'⟩:=one (.data .bool false) _ h
  subst hv;clear h;have h:=h'
  unfold DX at h
  split at h
  ·rename_i h1;simp only[AV.data.injEq]at h1;simp only[AV4]at h;subst h
   obtain⟨_,h1⟩:=h1
   exact AV5 (fun b=>[Value.bool b]) (eq_of_heq h1).symm
  ·rename_i h1;simp at h1
  ·rename_i h1;simp at h1
  ·cases h
 |int k=>
  intro vs h
  obtain⟨v,hv,h'⟩:=one (.data (.int k) (0:Int)) _ h
  subst hv;clear h;have h:=h'
  unfold DX at h
  split at h
  ·rename_i h1;simp at h1
  ·rename_i h1
   simp only[AV.data.injEq,Ty.int.injEq]at h1
   simp only[AUR,AUP,AV4]at h
   obtain⟨rfl,h1⟩:=h1
   obtain⟨rfl,rfl⟩:=h
   exact AV5 (fun n=>[Value.int k n]) (eq_of_heq h1).symm
  ·rename_i h1;simp at h1
  ·cases h
 |slice e _=>
  intro vs h
  obtain⟨v,hv,h'⟩:=one (.nils e) _ h
  subst hv;clear h;have h:=h'
  unfold DX at h
  split at h
  ·rename_i h1;simp at h1
  ·rename_i h1;simp at h1
  ·exact⟨none,0,rfl,AUV _,fun h=>absurd rfl h⟩
  ·cases h
 |prod a b iha ihb=>
  intro vs h
  obtain⟨v1,v2,rfl,h1,h2⟩:=app _ _ _ h
  exact⟨v1,v2,rfl,iha _ h1,ihb _ h2⟩
 |arr n e ih=>
  intro vs h
  refine⟨by simp[Ty.zero],?_⟩
  simp only[zeroCells]at h
  have key:∀ (n:Nat) (vs:List Value),Bc (List.replicate n (zeroCells e)).flatten vs=true→rows (Dat w F e) (List.replicate n e.zero) vs:=by
   intro n
   induction n with
   |zero=>intro vs h;cases vs with
    |nil=>exact rfl
    |cons v vs=>simp[Bc]at h
   |succ n ihn=>
    intro vs h
    rw[List.replicate_succ,AWX]at h
    obtain⟨v1,v2,rfl,h1,h2⟩:=app _ _ _ h
    exact⟨v1,v2,rfl,ih _ h1,ihn _ h2⟩
  exact key n vs h
theorem NH{F:Nat→Prop}{t:Ty}{z:Value}(h:Bc (zeroCells t) z.cells.toList=true)(ha:t.isAgg=Tj z):BW w F t t.zero z:=by
 have hd:=B9 (w:=w) (F:=F) t _ h
 unfold BW
 split
 ·rename_i hg
  rw[hg]at ha
  cases z<;>simp[Tj]at ha
  exact⟨_,rfl,hd⟩
 ·rename_i hg
  have hz:z.cells.toList=[z]:=by
   cases z<;>simp_all [Tj,Value.cells]
  rw[hz]at hd;exact hd
end
end Go.Pev
end
section
namespace Go.Pev
open Go.RowKit
def NF(P:Program)(g:FuncId):Prop:=∀ args w,(callFunc g args).run P w = .ok (.enter g args) w
def AP(P:Program)(g:FuncId)(s:Spec):Prop:=
 ∀ R args H fz slot k r,s R args H fz slot k=some r→∃ v e,k v e=some r∧(∀ R' k',s R' args H fz slot k'=k' v e)∧NF P g ∧
  ∀ w F m vals,HI w F m H fz→AW w F m H args vals→Calls P g vals.toArray w fun en w'=>∃ u,en = .returned u∧∃ F' m',At w F m H fz w' F' m' (DQ e H) (IE e fz)∧Rep w' F' m' (DQ e H) v u
def ABZ(P:Program)(op:Op)(ty:TypeId)(ρ:Operand→AV)(H:List Ob)(fz:List Bool)(v:AV)(e:Eff):Prop:=
 ∀ (w:World) (F:Nat→Prop) (m:Mp) (a:Act) (o:Oper) (next:Act→World→Prop) (Q:Exit→Act→World→Prop),o.op=op→o.type=ty→HI w F m H fz→(∀ x,Rep w F m H (ρ x) (a.eval x)) →
  (∀ u w' F' m',At w F m H fz w' F' m' (DQ e H) (IE e fz)→Rep w' F' m' (DQ e H) v u→next (a.put o.dst u) w')→o.wp P a w next Q
section
variable {P:Program} {op:Op} {ty:TypeId} {ρ:Operand→AV} {H:List Ob} {fz:List Bool} {v:AV} {e:Eff}
theorem A7(h:∀ (w:World) (F:Nat→Prop) (m:Mp) (ρc:Operand→Value) (o:Oper),o.op=op→o.type=ty→HI w F m H fz→(∀ x,Rep w F m H (ρ x) (ρc x)) →
  ∃ u w' F' m',(execOp ρc o).run P w = .ok (.value u) w'∧At w F m H fz w' F' m' (DQ e H) (IE e fz)∧Rep w' F' m' (DQ e H) v u):ABZ P op ty ρ H fz v e:=by
 intro w F m a o next Q ho ht hi hr hn
 obtain⟨u,w',F',m',h1,h2,h3⟩:=h w F m a.eval o ho ht hi hr
 unfold Oper.wp
 rw[h1]
 exact hn u w' F' m' h2 h3
theorem Fi(h:∀ (w:World) (F:Nat→Prop) (m:Mp) (ρc:Operand→Value) (o:Oper),o.op=op→o.type=ty→HI w F m H fz→(∀ x,Rep w F m H (ρ x) (ρc x)) →
  ∃ w' F' m',(execOp ρc o).run P w = .ok .skip w'∧At w F m H fz w' F' m' (DQ e H) (IE e fz)):ABZ P op ty ρ H fz .junk e:=by
 intro w F m a o next Q ho ht hi hr hn
 obtain⟨w',F',m',h1,h2⟩:=h w F m a.eval o ho ht hi hr
 unfold Oper.wp
 rw[h1]
 exact hn undef w' F' m' h2 (by unfold Rep;trivial)
theorem AS(h:∀ (w:World) (F:Nat→Prop) (m:Mp) (ρc:Operand→Value) (o:Oper),o.op=op→o.type=ty→HI w F m H fz→(∀ x,Rep w F m H (ρ x) (ρc x)) →
  ∃ u,(execOp ρc o).run P w = .ok (.value u) w∧Rep w F m H v u):ABZ P op ty ρ H fz v {}:=
 A7 fun w F m ρc o ho ht hi hr=>let ⟨u,h1,h2⟩:=h w F m ρc o ho ht hi hr;⟨u,w,F,m,h1,At.refl hi,h2⟩
end
def Claim(P:Program)(E:Env)(o:Op):Prop:=
 ∀ (R:Type) (ty:TypeId) (ρ:Operand→AV) (H:List Ob) (fz:List Bool) (slot:Nat) (k:AV→Eff→Option R) (r:R),evalOp P E R o ty ρ H fz slot k=some r →
  ∃ v e,k v e=some r∧(∀ R' (k':AV→Eff→Option R'),evalOp P E R' o ty ρ H fz slot k'=k' v e)∧ABZ P o ty ρ H fz v e
section
variable {P:Program} {E:Env}
theorem AJE(x:Operand):Claim P E (.move x):=by
 intro R ty ρ H fz slot k r h
 simp only[evalOp]at h
 split at h
 ·rename_i hx
  refine⟨_,_,h,fun R' k'=>by simp[evalOp,hx],AS fun w F m ρc o ho ht hi hr=>⟨ρc x,by simp[execOp,ho],?_⟩⟩
  have:=hr x
  rw[hx]at this
  unfold Rep at this
  unfold APm
  split<;>(unfold Rep;exact this)
 ·rename_i hx
  refine⟨_,_,h,fun R' k' => ?_,AS fun w F m ρc o ho ht hi hr=>⟨ρc x,by simp[execOp,ho],hr x⟩⟩
  simp only[evalOp]
theorem ABH(x:Operand):Claim P E (.assign x):=by
 intro R ty ρ H fz slot k r h
 simp only[evalOp]at h
 split at h
 ·rename_i hx
  refine⟨_,_,h,fun R' k'=>by simp[evalOp,hx],AS fun w F m ρc o ho ht hi hr=>⟨ρc x,by simp[execOp,ho],?_⟩⟩
  have:=hr x
  rw[hx]at this
  unfold Rep at this
  unfold APm
  split<;>(unfold Rep;exact this)
 ·rename_i hx
  refine⟨_,_,h,fun R' k' => ?_,AS fun w F m ρc o ho ht hi hr=>⟨ρc x,by simp[execOp,ho],hr x⟩⟩
  simp only[evalOp]
theorem CF{w:World}{F:Nat→Prop}{m:Mp}{H:List Ob}{b:Bool}{v:Value}(h:Rep w F m H (.data .bool b) v):v = .bool b:=by
 unfold Rep BW at h
 have h:Dat w F .bool b [v]:=h
 simpa [Dat]using h
theorem A5{w:World}{F:Nat→Prop}{m:Mp}{H:List Ob}{k:IntKind}{n:Int}{v:Value}(h:Rep w F m H (.data (.int k) n) v):v = .int k n:=by
 unfold Rep BW at h
 have h:Dat w F (.int k) n [v]:=h
 simpa [Dat]using h
theorem BM{w:World}{F:Nat→Prop}{m:Mp}{H:List Ob}(b:Bool):Rep w F m H (.data .bool b) (.bool b):=by
 unfold Rep BW;exact rfl
theorem Ao{w:World}{F:Nat→Prop}{m:Mp}{H:List Ob}(k:IntKind)(n:Int):Rep w F m H (.data (.int k) n) (.int k n):=by
 unfold Rep BW;exact rfl
theorem AJD(c a b:Operand):Claim P E (.pick c a b):=by
 intro R ty ρ H fz slot k r h
 simp only[evalOp]at h
 split at h
 ·rename_i hx
  refine⟨_,_,h,fun R' k'=>by simp[evalOp,hx],AS fun w F m ρc o ho ht hi hr=>⟨ρc a,?_,hr a⟩⟩
  have:=CF (hx▸hr c)
  simp[execOp,ho,this,asBool]
 ·rename_i hx
  refine⟨_,_,h,fun R' k'=>by simp[evalOp,hx],AS fun w F m ρc o ho ht hi hr=>⟨ρc b,?_,hr b⟩⟩
  have:=CF (hx▸hr c)
  simp[execOp,ho,this,asBool]
 ·cases h
theorem AEU{T:TypeId}{n:Nat}(h:AIL P T=some n):∃ i z,P.info? T=some i∧i.zero=some z∧(∀ u∈z.cells.toList,u.oneCell'=true)∧n=z.cells.size:=by
 unfold AIL at h
 split at h
 ·rename_i i hi
  split at h
  ·rename_i z hz
   split at h
   ·rename_i ha
    cases h
    exact⟨i,z,hi,hz,AUj.1 ha,rfl⟩
   ·cases h
  ·cases h
 ·cases h
theorem AFU(T:TypeId):Claim P E (.alloc T):=by
 intro R ty ρ H fz slot k r h
 simp only[evalOp]at h
 split at h
 ·rename_i t cs hz
  split at h
  ·rename_i hf
   obtain⟨_,rfl,i,z,hi0,hz0,hok,hsz,_⟩:=B0 hz
   refine⟨_,_,h,fun R' k'=>by simp[evalOp,hz,hf],A7 fun w F m ρc o ho ht hi hr => ?_⟩
   have hrun:(execOp ρc o).run P w = .ok (.value (.pointer (some ⟨w.heap.size,0,none⟩))) (w.alloc (.cells z.cells T)):=by
    simp[execOp,ho,Instr.alloc,BZ hi0 hz0,newVar,newRow]
   have hg:=At.new (w':=w.alloc (.cells z.cells T)) hi hf (ob:=.box (zeroCells t)) trivial (some (w.heap.size,0)) rfl rfl rfl (by simp) (fun b hb=>Below.heap_alloc w _ b hb)
    (fun b c h=>by cases h;exact AUV _)
    (fun _=>⟨w.heap.size,0,z.cells,T,rfl,heap_alloc_new w _,Hg _ _ hok,KS _ _ hok⟩)
   refine⟨_,_,F,_,hrun,hg,?_⟩
   unfold Rep
   have hlt:=Ap (BP hf).1
   rw[show DQ { objs:=[(slot,.box (zeroCells t))] } H=H.set slot (.box (zeroCells t))from rfl,BK hlt,An]
   exact⟨_,_,rfl,rfl⟩
  ·cases h
 ·rename_i hz
  split at h
  ·rename_i n hj
   split at h
   ·rename_i hf
    obtain⟨i,z,hi0,hz0,hone,rfl⟩:=AEU hj
    refine⟨_,_,h,fun R' k'=>by simp[evalOp,hz,hj,hf],A7 fun w F m ρc o ho ht hi hr => ?_⟩
    have hrun:(execOp ρc o).run P w = .ok (.value (.pointer (some ⟨w.heap.size,0,none⟩))) (w.alloc (.cells z.cells T)):=by
     simp[execOp,ho,Instr.alloc,BZ hi0 hz0,newVar,newRow]
    have hg:=At.new (w':=w.alloc (.cells z.cells T)) hi hf (ob:=.box (List.replicate z.cells.size .junk)) trivial (some (w.heap.size,0)) rfl rfl rfl (by simp) (fun b hb=>Below.heap_alloc w _ b hb)
     (fun b c h=>by cases h;exact AUV _)
     (fun _=>⟨w.heap.size,0,z.cells,T,rfl,heap_alloc_new w _,Cl (by simp) (fun i c v hc _=>by
      rw[AV6 (AUe hc)];unfold Rep;trivial),hone⟩)
    refine⟨_,_,F,_,hrun,hg,?_⟩
    unfold Rep
    have hlt:=Ap (BP hf).1
    rw[show DQ { objs:=[(slot,.box (List.replicate z.cells.size .junk))] } H=H.set slot (.box (List.replicate z.cells.size .junk))from rfl,BK hlt,An]
    exact⟨_,_,rfl,rfl⟩
   ·cases h
  ·cases h
theorem ANY(T:TypeId)(x:Operand):Claim P E (.box T x):=by
 intro R ty ρ H fz slot k r h
 simp only[evalOp]at h
 split at h
 ·rename_i n hs
  split at h
  ·rename_i vs hv
   split at h
   ·rename_i hd
    split at h
    ·rename_i hf
     refine⟨_,_,h,fun R' k'=>by simp[evalOp,hs,hv,hd,hf],A7 fun w F m ρc o ho ht hi hr => ?_⟩
     have hrun:(execOp ρc o).run P w = .ok (.value (.pointer (some ⟨w.heap.size,0,none⟩))) (w.alloc (.cells (ρc x).cells T)):=by
      simp[execOp,ho,Instr.box,newVar,newRow]
     have hrx:=cells?_ok hv (hr x)
     have h1:=cells?_one hv (hr x)
     have hg:=At.new (w':=w.alloc (.cells (ρc x).cells T)) hi hf (ob:=.box vs) trivial (some (w.heap.size,0)) rfl rfl rfl (by simp) (fun b hb=>Below.heap_alloc w _ b hb)
      (fun b c h=>by cases h;exact AUV _)
      (fun hmono=>⟨w.heap.size,0,(ρc x).cells,T,rfl,heap_alloc_new w _,Cl (Am hrx) fun i c v hc hv=>by
        obtain⟨v',hv',hr'⟩:=Bx hrx hc
        rw[hv]at hv';cases hv'
        exact hmono hr',h1⟩)
     refine⟨_,_,F,_,hrun,hg,?_⟩
     unfold Rep
     have hlt:=Ap (BP hf).1
     rw[show DQ { objs:=[(slot,.box vs)] } H=H.set slot (.box vs)from rfl,BK hlt,An]
     exact⟨_,_,rfl,rfl⟩
    ·cases h
   ·cases h
  ·cases h
 ·cases h
theorem Pq(off:Nat):∀ (l:List Value) (n:Nat) (us:Array Value),off+n+l.length≤us.size →
  ((l.zipIdx n).foldl (fun cs (p:Value×Nat)=>cs.setIfInBounds (off+p.2) p.1) us).toList=us.toList.take (off+n)++l++us.toList.drop (off+n+l.length):=by
 intro l
 induction l with
 |nil=>intro n us _;simp
 |cons v l ih=>
  intro n us h
  simp only[AUY]at h
  simp only[List.zipIdx_cons,AVN]
  rw[ih (n+1) _ (by simp;omega)]
  have hlt:off+n<us.toList.length:=by simp;omega
  rw[Array.toList_setIfInBounds,List.set_eq_take_append_cons_drop,AUf hlt]
  have ht:(us.toList.take (off+n)).length=off+n:=by rw[AUq];omega
  have e1:(us.toList.take (off+n)++v::us.toList.drop (off+n+1)).take (off+(n+1))=us.toList.take (off+n)++[v]:=by
   rw[AVx,AVK (by omega),ht,show off+(n+1)-(off+n)=1 from by omega];rfl
  have e2:(us.toList.take (off+n)++v::us.toList.drop (off+n+1)).drop (off+(n+1)+l.length)=us.toList.drop (off+n+(l.length+1)):=by
   rw[AW2,AVb (by omega),ht,AVA,show off+(n+1)+l.length-(off+n)=l.length+1 from by omega,List.drop_succ_cons,AV0]
   congr 1;omega
  rw[e1,e2];simp
theorem AAt{w:World}{F:Nat→Prop}{m:Mp}{H:List Ob}{ρ:Operand→AV}{ρc:Operand→Value}(hr:∀ x,Rep w F m H (ρ x) (ρc x)){pl pl':Nat→Option (Nat×Nat)}(hpl:∀ i p,pl i=some p→pl' i=some p):
  ∀ (ps:List (Nat×Operand)) {cs out:List AV} {us:Array Value},De pl (ps.map fun p=>(p.1,ρ p.2)) cs=some out→AW w F m H cs us.toList→(∀ x∈us.toList,x.oneCell'=true) →
   ∃ us':Array Value,Instr.fill pl' us (ps.map fun p=>(p.1,ρc p.2))=some us'∧AW w F m H out us'.toList∧∀ x∈us'.toList,x.oneCell'=true:=by
 intro ps
 induction ps with
 |nil=>
  intro cs out us h h1 h2
  simp only[AWJ,De,AUM]at h;subst h
  exact⟨us,rfl,h1,h2⟩
 |cons p ps ih=>
  intro cs out us h h1 h2
  obtain⟨i,x⟩:=p
  simp only[AUs,De]at h
  split at h
  ·cases h
  ·rename_i off size hp
   split at h
   ·cases h
   ·rename_i vs hv
    split at h
    ·cases h
    ·rename_i hd
     split at h
     ·cases h
     ·rename_i cs1 hc
      simp only[AUP]at hd
      have hrx:=cells?_ok hv (hr x)
      have h1x:=cells?_one hv (hr x)
      obtain⟨hle,hr1⟩:=HA hc h1 hrx
      have hlen:=Am hrx
      have hlen2:=Am h1
      have hsz:(ρc x).cells.size=size:=by rw[← AUi,hlen,hd]
      have hfold:((ρc x).cells.zipIdx.foldl (fun cs (c,j)=>cs.setIfInBounds (off+j) c) us).toList=us.toList.take off++(ρc x).cells.toList++us.toList.drop (off+vs.length):=by
       have:=Pq off (ρc x).cells.toList 0 us (by simp only[AUi]at hlen2 hlen ⊢;omega)
       rw[← Array.foldl_toList,Array.toList_zipIdx,this]
       rw[AVi,hlen]
      obtain⟨us',e1,e2,e3⟩:=ih (us:=(ρc x).cells.zipIdx.foldl (fun cs (c,j)=>cs.setIfInBounds (off+j) c) us) h (by rw[hfold];exact hr1) (by
       rw[hfold]
       intro y hy
       simp only[AUQ]at hy
       rcases hy with(hy|hy)|hy
       ·exact h2 y (AWe hy)
       ·exact h1x y hy
       ·exact h2 y (AVg hy))
      refine⟨us',?_,e2,e3⟩
      simp only[AUs,Instr.fill,hpl _ _ hp]
      rw[AUZ (by
       simp only[AUi]at hlen2
       simp[hsz];omega)]
      exact e1
end
end Go.Pev
end
section
namespace Go.Pev
open Go.RowKit
section
variable {P:Program}
theorem AFj{w w':World}{F F':Nat→Prop}{m m':Mp}{H H':List Ob}(h:∀ {a:AV} {v:Value},Rep w F m H a v→Rep w' F' m' H' a v){cs:List AV}{us:List Value}(hr:AW w F m H cs us):AW w' F' m' H' cs us:=by
 refine Cl (Am hr) fun i c v hc hv => ?_
 obtain⟨v',hv',hr'⟩:=Bx hr hc
 rw[hv]at hv';cases hv'
 exact h hr'
theorem XN{H:List Ob}{fz:List Bool}{id:Nat}{T:TypeId}{tgt:Nat}{is:List Int}(h:H[id]? = some (.prs T tgt is)):owned H fz id:=by unfold owned;rw[h];trivial
theorem AEz{H:List Ob}{fz:List Bool}{slot id:Nat}{T:TypeId}{tgt:Nat}{is:List Int}(hf:Ay H fz slot=true)(ho:H[id]? = some (.prs T tgt is)):slot≠id:=by
 rintro rfl
 rw[(BP hf).1]at ho;cases ho
theorem Pz{T e:TypeId}(h:cellAt P T=some e):P.underlying T=some (.slice e)∧∃ i z,P.info? e=some i∧i.zero=some z∧i.size=1∧z.cells.size=1∧i.bytes≤1024:=by
 unfold cellAt at h
 split at h
 ·rename_i e' hu
  split at h
  ·rename_i i hi
   split at h
   ·rename_i z hz
    split at h
    ·rename_i hd
     simp only[AUM]at h
     subst h
     simp only[AUR,AUP]at hd
     exact⟨hu,i,z,hi,hz,hd.1,hd.2.1,hd.2.2⟩
    ·cases h
   ·cases h
  ·cases h
 ·cases h
theorem WZ{w:World}{F:Nat→Prop}{m:Mp}{H:List Ob}{fz:List Bool}(hi:HI w F m H fz){slot:Nat}(hf:Ay H fz slot=true)(T:TypeId)(tgt:Nat)(a:Option Addr):
  ∃ m',At w F m H fz w F m' (H.set slot (.prs T tgt [])) fz∧Rep w F m' (H.set slot (.prs T tgt [])) (.own slot) (.slice a 0 0):=by
 have hg:=At.new (w':=w) hi hf (ob:=.prs T tgt []) trivial none rfl rfl rfl (AUV _) (fun _ _=>rfl) (fun b c h=>by cases h) (fun _=>(rfl:([]:List Int)=[]))
 refine⟨_,hg,?_⟩
 unfold Rep
 have hlt:=Ap (BP hf).1
 rw[BK hlt,An]
 exact⟨a,rfl⟩
theorem MJ{w:World}{F:Nat→Prop}{m:Mp}{H:List Ob}{fz:List Bool}(hi:HI w F m H fz){slot:Nat}(hf:Ay H fz slot=true){T:TypeId}{tgt:Nat}{is:List Int}{vs:Array Value}{cap:Nat}
  {w':World} (hb:w'.heap[w.heap.size]? = some (.cells vs T (0,0))) (h1:w'.os=w.os) (h2:w'.tape=w.tape) (h3:w'.output=w.output) (hsz:w.heap.size≤w'.heap.size) (hk:∀ b,b<w.heap.size→w'.heap[b]? = w.heap[b]?)
  (hcap:is.length≤cap) (hmax:cap≤maxLen) (hvs:vs.size=cap) {us:List Value} (hr:AW w F m H (EH tgt is) us) (hone:∀ u∈us,u.oneCell'=true) (htake:vs.toList.take us.length=us) :
  ∃ m',At w F m H fz w' F m' (H.set slot (.prs T tgt is)) fz∧Rep w' F m' (H.set slot (.prs T tgt is)) (.own slot) (.slice (some ⟨w.heap.size,0,none⟩) is.length cap):=by
 have hg:=At.new (w':=w') hi hf (ob:=.prs T tgt is) trivial (some (w.heap.size,cap)) h1 h2 h3 hsz hk (fun b c h=>by cases h;exact AUV _)
  (fun hmono=>⟨vs,us,hb,hcap,hmax,hvs,AFj hmono hr,hone,htake⟩)
 refine⟨_,hg,?_⟩
 unfold Rep
 have hlt:=Ap (BP hf).1
 rw[BK hlt,An]
 rfl
theorem SB(tgt:Nat)(is:List Int):(EH tgt is).length=is.length:=by simp[EH]
theorem AOy(tgt:Nat)(is js:List Int):EH tgt (is++js)=EH tgt is++EH tgt js:=by simp[EH]
end
end Go.Pev
end
section
namespace Go.Pev
open Go.RowKit
section
variable {P:Program} {E:Env}
theorem info_of_underlying{T:TypeId}{d:TypeDesc}(h:P.underlying T=some d):∃ i,P.info? T=some i:=by
 unfold Program.underlying at h
 split at h
 ·rename_i h1;exact⟨_,h1⟩
 ·rename_i h1;exact⟨_,h1⟩
 ·cases h
theorem QN{n:Nat}{T:TypeId}{t:Ty}(h:Vo P n T=some t):∃ d,P.underlying T=some d:=by
 cases n with
 |zero=>simp[Vo]at h
 |succ n=>
  simp only[Vo]at h
  split at h<;>first|exact⟨_,by assumption⟩|cases h
theorem mapM_some{α β:Type}{f:α→Option β}:∀ {l:List α} {ys:List β},l.mapM f=some ys→∀ x∈l,∃ y,f x=some y:=by
 intro l
 induction l with
 |nil=>intro ys _ x hx;cases hx
 |cons a l ih=>
  intro ys h x hx
  rw[List.mapM_cons]at h
  simp only[bind,AUx,pure]at h
  obtain⟨y,h1,ys',h2,_⟩:=h
  rcases AUT.1 hx with rfl|hx
  ·exact⟨y,h1⟩
  ·exact ih h2 x hx
theorem AE3{T:TypeId}{t:Ty}{fs:Array Field}(ht:AFs P T=some t)(hu:P.underlying T=some (.struct fs)):∀ f∈fs.toList,∃ i,P.info? f.type=some i:=by
 have gen:∀ n,Vo P (n+1) T=some t→∃ ts,fs.toList.mapM (fun f=>Vo P n f.type)=some ts:=by
  intro n h
  simp only[Vo,hu,AUd]at h
  exact⟨_,h.choose_spec.1⟩
 obtain⟨ts,h1⟩:=gen 11 ht
 intro f hf
 obtain⟨t',h2⟩:=mapM_some h1 f hf
 obtain⟨d,h3⟩:=QN h2
 exact info_of_underlying h3
theorem run_places(w:World):∀ (l:List Field),(∀ f∈l,∃ i,P.info? f.type=some i) →
  (l.mapM (fun f=>do pure (f.offset,← sizeOf f.type):Field→Sem (Nat×Nat))).run P w = .ok (l.map fun f=>(f.offset,(BD P f.type).getD 0)) w:=by
 intro l
 induction l with
 |nil=>intro _;simp[List.mapM_nil]
 |cons f l ih=>
  intro h
  obtain⟨i,hi⟩:=h f (by simp)
  rw[List.mapM_cons]
  have:=ih fun g hg=>h g (by simp[hg])
  simp only[Sem.run_bind,run_sizeOf hi,Result.andThen_ok,Sem.run_pure,this,AUs,BD,hi,AWS,AU5]
theorem AGo{T:TypeId}{cs:List AV}{fs:Array Field}(h:AOw P T=some cs)(hu:P.underlying T=some (.struct fs)):
  ∃ i z,P.info? T=some i∧i.zero=some z∧(∀ u∈z.cells.toList,u.oneCell'=true)∧(∀ f∈fs.toList,∃ i,P.info? f.type=some i)∧cs=List.replicate z.cells.toList.length .junk:=by
 unfold AOw at h
 split at h
 ·rename_i i fs' hi hu'
  rw[hu]at hu'
  cases hu'
  split at h
  ·rename_i z hz
   split at h
   ·rename_i hok
    cases h
    rw[AUR,AUj,AUj]at hok
    refine⟨i,z,hi,hz,hok.1,fun f hf => ?_,by simp⟩
    have:=hok.2 f hf
    rw[AV7]at this
    exact this
   ·cases h
  ·cases h
 ·cases h
theorem X2{w:World}{F:Nat→Prop}{m:Mp}{H:List Ob}:∀ vs:List Value,AW w F m H (List.replicate vs.length .junk) vs
 |[]=>by simp[AW]
 |v::vs=>by
  rw[AUY,List.replicate_succ]
  unfold AW
  exact⟨v,vs,rfl,by unfold Rep;trivial,X2 vs⟩
theorem AFS(T:TypeId)(parts:Array (Nat×Operand)):Claim P E (.build T parts):=by
 intro R ty ρ H fz slot k r h
 simp only[evalOp]at h
 split at h
 ·rename_i t cs hz
  obtain⟨hty,rfl,i,z,hi0,hz0,hok,hsz,hza⟩:=B0 hz
  split at h
  ·rename_i fs hu
   split at h
   ·rename_i cs' hb
    refine⟨_,_,h,fun R' k'=>by simp only[evalOp,hz,hu,hb],AS fun w F m ρc o ho ht hi hr => ?_⟩
    have hpl:∀ (i:Nat) (p:Nat×Nat),(match fs[i]? with
      |some f=>(BD P (Field.type f)).map fun n=>(Field.offset f,n)
      |none=>none)=some p→(fs.map fun f=>(f.offset,(BD P f.type).getD 0))[i]? = some p:=by
     intro i p hp
     split at hp
     ·rename_i f hf
      simp only[AUd]at hp
      obtain⟨n,h1,rfl⟩:=hp
      simp[hf,h1]
     ·cases hp
    obtain⟨us,h1,h2,h3⟩:=AAt hr hpl parts.toList hb (Hg _ _ hok) (KS _ _ hok)
    refine⟨.agg us,?_,?_⟩
    ·have hp:=run_places (P:=P) w fs.toList (AE3 hty hu)
     have h1':Instr.fill ((fs.map fun f=>(f.offset,(BD P f.type).getD 0))[·]?) z.cells (parts.map fun p=>(p.1,ρc p.2)).toList=some us:=by rw[AVU];exact h1
     simp only[execOp,ho,Instr.build,Sem.run_bind,BZ hi0 hz0,Result.andThen_ok,run_underlying hu]
     rw[AWn]
     simp only[Sem.run_map,hp,Result.andThen_ok]
     rw[show(List.map (fun f=>(f.offset,(BD P f.type).getD 0)) fs.toList).toArray=fs.map fun f=>(f.offset,(BD P f.type).getD 0)from by rw[← AVU,AVp]]
     rw[h1']
     rfl
    ·unfold Rep
     exact⟨us,rfl,h2,h3⟩
   ·cases h
  ·rename_i n e hu
   split at h
   ·rename_i sz hs
    split at h
    ·rename_i cs' hb
     obtain⟨ie,hie,rfl⟩:=BL hs
     refine⟨_,_,h,fun R' k'=>by simp only[evalOp,hz,hu,hs,hb],AS fun w F m ρc o ho ht hi hr => ?_⟩
     obtain⟨us,h1,h2,h3⟩:=AAt hr (fun i p h=>h) parts.toList hb (Hg _ _ hok) (KS _ _ hok)
     refine⟨.agg us,?_,?_⟩
     ·have h1':Instr.fill (fun i=>some (i*ie.size,ie.size)) z.cells (parts.map fun p=>(p.1,ρc p.2)).toList=some us:=by rw[AVU];exact h1
      simp only[execOp,ho,Instr.build,Sem.run_bind,BZ hi0 hz0,Result.andThen_ok,run_underlying hu,run_sizeOf hie,h1']
      rfl
     ·unfold Rep
      exact⟨us,rfl,h2,h3⟩
    ·cases h
   ·cases h
  ·cases h
 ·rename_i hz
  split at h
  ·rename_i cs fs hraw hu
   split at h
   ·rename_i cs' hb
    obtain⟨i,z,hi0,hz0,hone,hinf,rfl⟩:=AGo hraw hu
    refine⟨_,_,h,fun R' k'=>by simp only[evalOp,hz,hraw,hu,hb],AS fun w F m ρc o ho ht hi hr => ?_⟩
    have hpl:∀ (i:Nat) (p:Nat×Nat),(match fs[i]? with
      |some f=>(BD P (Field.type f)).map fun n=>(Field.offset f,n)
      |none=>none)=some p→(fs.map fun f=>(f.offset,(BD P f.type).getD 0))[i]? = some p:=by
     intro i p hp
     split at hp
     ·rename_i f hf
      simp only[AUd]at hp
      obtain⟨n,h1,rfl⟩:=hp
      simp[hf,h1]
     ·cases hp
    obtain⟨us,h1,h2,h3⟩:=AAt hr hpl parts.toList hb (X2 (w:=w) (F:=F) (m:=m) (H:=H) z.cells.toList) hone
    refine⟨.agg us,?_,?_⟩
    ·have hp:=run_places (P:=P) w fs.toList hinf
     have h1':Instr.fill ((fs.map fun f=>(f.offset,(BD P f.type).getD 0))[·]?) z.cells (parts.map fun p=>(p.1,ρc p.2)).toList=some us:=by rw[AVU];exact h1
     simp only[execOp,ho,Instr.build,Sem.run_bind,BZ hi0 hz0,Result.andThen_ok,run_underlying hu]
     rw[AWn]
     simp only[Sem.run_map,hp,Result.andThen_ok]
     rw[show(List.map (fun f=>(f.offset,(BD P f.type).getD 0)) fs.toList).toArray=fs.map fun f=>(f.offset,(BD P f.type).getD 0)from by rw[← AVU,AVp]]
     rw[h1']
     rfl
    ·unfold Rep
     exact⟨us,rfl,h2,h3⟩
   ·cases h
  ·cases h
theorem VQ{w:World}{F:Nat→Prop}{t:Ty}{x:t.den}{u:Value}(h:BW w F t x u):Dat w F t x u.cells.toList:=by
 unfold BW at h
 split at h
 ·obtain⟨vs,rfl,h⟩:=h;exact h
 ·have h1:=Dat.Gk t h u (by simp)
  rw[Fb h1];exact h
theorem AAu{w:World}{F:Nat→Prop}{m:Mp}{H:List Ob}{fz:List Bool}(hi:HI w F m H fz){ρ:Operand→AV}{ρc:Operand→Value}(hr:∀ x,Rep w F m H (ρ x) (ρc x)){t:Ty}:
  ∀ (ps:List (Nat×Operand)) {xs xs':List t.den} {fr fr':List Nat} {us:Array Value},Cg H t (ps.map fun p=>(p.1,ρ p.2)) xs fr=some (xs',fr')→rows (Dat w (DK F m H fr) t) xs us.toList →
   ∃ us':Array Value,Instr.fill (fun i=>some (i*t.size,t.size)) us (ps.map fun p=>(p.1,ρc p.2))=some us'∧rows (Dat w (DK F m H fr') t) xs' us'.toList∧xs'.length=xs.length:=by
 intro ps
 induction ps with
 |nil=>
  intro xs xs' fr fr' us h hrw
  simp only[AWJ,Cg,AUM,AUp]at h
  obtain⟨rfl,rfl⟩:=h
  exact⟨us,rfl,hrw,rfl⟩
 |cons p ps ih=>
  intro xs xs' fr fr' us h hrw
  obtain⟨i,o⟩:=p
  simp only[AUs,Cg]at h
  split at h
  ·rename_i x f hx hd
   simp only[AUP]at hd
   have hk:=fun(x:t.den) cs (h:Dat w (DK F m H (fr++f)) t x cs)=>Dat.length t h
   have hdx:Dat w (DK F m H (fr++f)) t x (ρc o).cells.toList:=(VQ (Ex hi hx (hr o))).AQb (fun i hi=>by simp[hi])
   have hrw':rows (Dat w (DK F m H (fr++f)) t) xs us.toList:=BJ (fun x _ cs hx=>hx.AQb (fun i hi=>by simp[hi])) hrw
   have hlen:=BF hk hrw'
   have hl2:=hk _ _ hdx
   have hle:i*t.size+t.size≤us.size:=by
    rw[← AUi,hlen]
    have:(i+1)*t.size≤xs.length*t.size:=AU8 _ hd
    rwa [AVJ,AVo]at this
   have hfold:((ρc o).cells.zipIdx.foldl (fun cs (c,j)=>cs.setIfInBounds (i*t.size+j) c) us).toList=us.toList.take (i*t.size)++(ρc o).cells.toList++us.toList.drop (i*t.size+t.size):=by
    have:=Pq (i*t.size) (ρc o).cells.toList 0 us (by rw[hl2];omega)
    rw[← Array.foldl_toList,Array.toList_zipIdx,this,AVi,hl2]
   obtain⟨us',e1,e2,e3⟩:=ih (us:=(ρc o).cells.zipIdx.foldl (fun cs (c,j)=>cs.setIfInBounds (i*t.size+j) c) us) h (by rw[hfold];exact ACh hk hrw' hd hdx)
   refine⟨us',?_,e2,by rw[e3,List.length_set]⟩
   simp only[AUs,Instr.fill]
   rw[AUZ (by
    simp only[AUi]at hl2
    simp[hl2];omega)]
   exact e1
  ·cases h
theorem Dw{w:World}{F:Nat→Prop}{t:Ty}{z:List Value}(hz:Dat w F t t.zero z)(n:Nat):rows (Dat w F t) (List.replicate n t.zero) (List.replicate n z).flatten:=by
 induction n with
 |zero=>rfl
 |succ n ih=>exact⟨z,_,by simp[List.replicate_succ],hz,ih⟩
theorem C7(z:Array Value):∀ (n:Nat),((Array.range (n*z.size)).map (z[· % z.size]!)).toList=(List.replicate n z.toList).flatten:=by
 intro n
 rw[AVU,Array.toList_range]
 induction n with
 |zero=>simp
 |succ n ih=>
  rw[AVJ,AVo,List.range_add,AV3,ih,List.replicate_succ']
  simp only[List.flatten_append,AWX,List.flatten_nil,AVk,List.append_cancel_left_eq,List.map_map]
  apply List.ext_getElem
  ·simp
  ·intro i h1 h2
   simp only[AVu,AU9]at h1
   simp[Nat.add_mod,Nat.mod_eq_of_lt h1,h1]
theorem C5{T:TypeId}{e:TypeId}{t:Ty}(h:sliceAt P T=some (e,t)):P.underlying T=some (.slice e)∧AFs P e=some t∧0<t.size:=by
 unfold sliceAt at h
 split at h
 ·rename_i e' hu
  split at h
  ·rename_i x hx
   split at h
   ·rename_i hd
    simp only[AUM,AUp]at h
    obtain⟨rfl,rfl⟩:=h
    exact⟨hu,hx,by simpa using hd⟩
   ·cases h
  ·cases h
 ·cases h
theorem Fa{w:World}{F:Nat→Prop}{m:Mp}{H:List Ob}{fz:List Bool}(hi:HI w F m H fz){slot:Nat}(hf:Ay H fz slot=true){T:TypeId}{t:Ty}(ht:0<t.size){xs:List t.den}{vs:Array Value}{cap:Nat}
  {w':World} (hb:w'.heap[w.heap.size]? = some (.cells vs T (0,0))) (h1:w'.os=w.os) (h2:w'.tape=w.tape) (h3:w'.output=w.output) (hsz:w.heap.size≤w'.heap.size) (hk:∀ b,b<w.heap.size→w'.heap[b]? = w.heap[b]?)
  (hcap:xs.length≤cap) (hmax:cap≤maxLen) (hvs:vs.size=cap*t.size) {row:List Value} (hrow:rows (Dat w F t) xs row) (htake:vs.toList.take row.length=row) :
  ∃ m',At w F m H fz w' F m' (H.set slot (.arr T t xs)) fz∧Rep w' F m' (H.set slot (.arr T t xs)) (.own slot) (.slice (some ⟨w.heap.size,0,none⟩) xs.length cap):=by
 have hc:∀ a:Addr,F a.block→w'.cell? a=w.cell? a:=fun a ha=>by simp[World.cell?,hk _ (hi.lt _ ha)]
 have hg:=At.new (w':=w') hi hf (ob:=.arr T t xs) trivial (some (w.heap.size,cap)) h1 h2 h3 hsz hk (fun b c h=>by cases h;exact AUV _)
  (fun _=>⟨ht,vs,row,hb,hcap,hmax,hvs,BJ (fun x _ cs hx=>hx.mono hc (fun _ h=>h) t) hrow,htake⟩)
 refine⟨_,hg,?_⟩
 unfold Rep
 have hlt:=Ap (BP hf).1
 rw[BK hlt,An]
 rfl
theorem Ij{w:World}{T e:TypeId}{len:Nat}{t':Ty}{parts:Array (Nat×Value)}{i:TypeInfo}{z:Value}{us:Array Value}(hu:P.underlying T=some (.slice e))(hi0:P.info? e=some i)(hz0:i.zero=some z)
 (hsz:i.size=t'.size) (hd:len*t'.size≤16777216)
 (e1':Instr.fill (fun i=>some (i*t'.size,t'.size)) ((Array.range (len*t'.size)).map (z.cells[· % z.cells.size]!)) parts.toList=some us):(Instr.buildSlice T len parts).run P w = .ok (.slice (some ⟨w.heap.size,0,none⟩) len len) (w.alloc (.cells us e)):=by
 unfold Instr.buildSlice
 simp only[Sem.run_bind,run_underlying hu,Result.andThen_ok,run_sizeOf hi0,hsz]
 rw[AUZ (by omega)]
 by_cases h0:len*t'.size=0
 ·have e2:Instr.fill (fun i=>some (i*t'.size,t'.size)) #[] parts.toList=some us:=by
   rw[h0,Array.range_zero',Array.map_empty]at e1';exact e1'
  simp only[h0]
  simp[e2,newRow,Array.range]
 ·rw[AUZ h0]
  simp[BZ hi0 hz0,e1',newRow]
theorem Oc(T:TypeId)(len:Nat)(parts:Array (Nat×Operand)):Claim P E (.buildSlice T len parts):=by
 intro R ty ρ H fz slot k r h
 simp only[evalOp]at h
 split at h
 ·rename_i e t hsl
  split at h
  ·rename_i zz hz
   split at h
   ·rename_i hd
    split at h
    ·rename_i xs fr hp
     split at h
     ·rename_i hf
      refine⟨_,_,h,fun R' k'=>by simp only[evalOp,hsl,hz,hd,hp,hf],A7 fun w F m ρc o ho ht hi hr => ?_⟩
      obtain⟨hu,hty,hpos⟩:=C5 hsl
      obtain⟨t',cs'⟩:=zz
      obtain⟨hty',hcs',i,z,hi0,hz0,hok,hsz,hza⟩:=B0 hz
      subst hcs'
      have:t'=t:=by rw[hty]at hty';exact(AVa hty').symm
      subst this
      simp only[AUP]at hd
      have hzd:=B9 (w:=w) (F:=F) t' _ hok
      have hzl:z.cells.size=t'.size:=by rw[← AUi];exact Dat.length t' hzd
      have hr0:rows (Dat w (DK F m H []) t') (List.replicate len t'.zero) ((Array.range (len*t'.size)).map (z.cells[· % z.cells.size]!)).toList:=by
       have:=C7 z.cells len
       rw[hzl]at this
       rw[hzl,this]
       exact Dw hzd.frz len
      obtain⟨us,e1,e2,e3⟩:=AAu hi hr parts.toList hp hr0
      have hgf:=At.freeze hi fr
      have hlen:=BF (fun x cs (h:Dat w (DK F m H fr) t' x cs)=>Dat.length t' h) e2
      have hxl:xs.length=len:=by rw[e3,AVm]
      have hbig:len≤16777216:=AVT (Nat.le_mul_of_pos_right len hpos) hd
      obtain⟨m',hg,hrep⟩:=Fa hgf.2 hf (w':=w.alloc (.cells us e)) hpos (heap_alloc_new w _) rfl rfl rfl (by simp) (fun b hb=>Below.heap_alloc w _ b hb) (cap:=len) (by omega) (by simp only[maxLen];omega)
       (by rw[← AUi,hlen,hxl]) e2 (by rw[hlen,AVK (by omega)])
      refine⟨_,_,_,m',?_,hgf.trans hg,hrep⟩
      have e1':Instr.fill (fun i=>some (i*t'.size,t'.size)) ((Array.range (len*t'.size)).map (z.cells[· % z.cells.size]!)) (parts.map fun p=>(p.1,ρc p.2)).toList=some us:=by rw[AVU];exact e1
      rw[hxl]
      have:=Ij (w:=w) hu hi0 hz0 hsz hd e1'
      simp[execOp,ho,this]
     ·cases h
    ·cases h
   ·cases h
  ·cases h
 ·rename_i hsl
  split at h
  ·rename_i e q hce hlen hps
   have hq:=hps
   rw[List.map_eq_singleton_iff]at hq
   obtain⟨p,hps',hqp⟩:=hq
   subst hqp
   dsimp only at h
   split at h
   ·rename_i tgt i sub hx
    split at h
    ·rename_i hc
     split at h
     ·rename_i hf
      refine⟨_,_,h,fun R' k'=>by simp only[evalOp,hsl,hce,hlen,hps,hx,hc,hf],A7 fun w F m ρc o ho ht hi hr => ?_⟩
      simp only[AUR,AUP]at hc
      obtain⟨hp0,rfl,hlive⟩:=hc
      simp only[AUP]at hlen
      subst hlen
      obtain⟨hu,ii,z,hi0,hz0,hsz,hzs,hby⟩:=Pz hce
      have hrp:=hr p.2
      rw[hx]at hrp
      have hone:(ρc p.2).oneCell'=true:=by
       have h2:=hrp
       unfold Rep at h2
       cases hto:H[tgt]? with
       |none=>rw[hto]at h2;exact h2.elim
       |some o=>rw[hto]at h2;exact DF.one h2
      have hpt:(ρc p.2).cells = #[ρc p.2]:=by rw[← AVp (xs:=(ρc p.2).cells),Fb hone]
      have e1':Instr.fill (fun i=>some (i*Ty.bool.size,Ty.bool.size)) ((Array.range (1*Ty.bool.size)).map (z.cells[· % z.cells.size]!)) (parts.map fun p=>(p.1,ρc p.2)).toList=some #[ρc p.2]:=by
       rw[AVU,hps']
       simp only[AUs,AWJ,hp0]
       have key:∀ (f:Fin 1→Value) (v:Value),(Array.ofFn f).setIfInBounds 0 v = #[v]:=by
        intro f v
        apply Array.ext
        ·simp
        ·intro j h1 h2
         have:j=0:=by simp at h2;omega
         subst this
         simp
       simp[Instr.fill,hpt,Ty.size,Array.range,key]
      have hrl:AW w F m H (EH tgt [Int.ofNat i]) [ρc p.2]:=by
       show AW w F m H [AV.eptr tgt (Int.ofNat i).toNat 0] [ρc p.2]
       unfold AW
       exact⟨_,_,rfl,hrp,by unfold AW;rfl⟩
      obtain⟨m',hg,hrep⟩:=MJ hi hf (w':=w.alloc (.cells #[ρc p.2] e)) (heap_alloc_new w _) rfl rfl rfl (by simp) (fun b hb=>Below.heap_alloc w _ b hb) (cap:=1) (by simp) (by simp only[maxLen];omega) (by simp) hrl (by simpa using hone) (by simp)
      refine⟨_,_,_,m',?_,hg,hrep⟩
      have:=Ij (w:=w) (T:=T) (t':=.bool) hu hi0 hz0 (by rw[hsz];rfl) (by simp[Ty.size]) e1'
      simp[execOp,ho,this]
     ·cases h
    ·cases h
   ·cases h
  ·cases h
end
end Go.Pev
end
section
namespace Go.Pev
open Go.RowKit
section
variable {P:Program} {E:Env}
theorem DE{w:World}{b:Nat}{vs:Array Value}{T:TypeId}{f:Nat×Nat}(h:w.heap[b]? = some (.cells vs T f))(i:Nat):w.cell? ⟨b,i,none⟩=vs[i]? := by
 simp[World.cell?,h]
theorem Mi{w:World}{F:Nat→Prop}{m:Mp}{H:List Ob}{fz:List Bool}(hi:HI w F m H fz){id:Nat}{cs:List AV}(ho:H[id]? = some (.box cs)){off:Nat}{v:Value}(hr:Rep w F m H (.ptr id off) v):
  ∃ b c vs T,m id=some (b,c)∧v = .pointer (some ⟨b,off,none⟩)∧w.heap[b]? = some (.cells vs T (0,0))∧AW w F m H cs vs.toList∧∀ u∈vs.toList,u.oneCell'=true:=by
 obtain⟨b,c,vs,T,e1,e2,e3,e4⟩:=hi.obj id _ ho
 unfold Rep FQ at hr
 rw[ho]at hr
 obtain⟨b',c',e5,e6⟩:=hr
 rw[e1]at e5;cases e5
 exact⟨b,c,vs,T,e1,e6,e2,e3,e4⟩
theorem J2{w:World}{F:Nat→Prop}{m:Mp}{H:List Ob}{fz:List Bool}(hi:HI w F m H fz){id:Nat}{T:TypeId}{t:Ty}{xs:List t.den}(ho:H[id]? = some (.arr T t xs)){i sub:Nat}{v:Value}(hr:Rep w F m H (.eptr id i sub) v):
  ∃ b cap vs row,m id=some (b,cap)∧v = .pointer (some ⟨b,i*t.size+sub,none⟩)∧i<xs.length∧w.heap[b]? = some (.cells vs T (0,0))∧xs.length≤cap∧cap≤maxLen∧vs.size=cap*t.size∧rows (Dat w F t) xs row∧vs.toList.take row.length=row∧0<t.size:=by
 obtain⟨h0,h⟩:=hi.obj id _ ho
 unfold Rep DF at hr
 rw[ho]at hr
 obtain⟨hlt,b,c,e5,e6⟩:=hr
 rw[e5]at h
 obtain⟨vs,row,e1,e2,e3,e4,e7,e8⟩:=h
 exact⟨b,c,vs,row,e5,e6,hlt,e1,e2,e3,e4,e7,e8,h0⟩
theorem AJF(T:TypeId)(x:Operand):Claim P E (.load T x):=by
 intro R ty ρ H fz slot k r h
 simp only[evalOp]at h
 split at h
 ·rename_i n ag hs ha
  split at h
  ·rename_i id off hx
   split at h
   ·rename_i cs ho
    split at h
    ·rename_i v hl
     refine⟨_,_,h,fun R' k'=>by simp only[evalOp,hs,ha,hx,ho,hl],AS fun w F m ρc o hop hty hi hr => ?_⟩
     obtain⟨b,c,vs,T',e1,e2,e3,e4,e5⟩:=Mi hi ho (hx▸hr x)
     obtain⟨u,h1,h2⟩:=Cr (P:=P) hs ha hl (Dp e4 off) (ad:=⟨b,off,none⟩) (fun u hu=>e5 u (AVg hu)) (fun j u hu=>by
      rw[Ch,DE e3]
      rw[AVR]at hu
      simpa using hu)
     exact⟨u,by simp[execOp,hop,Instr.loadAt,e2,Instr.sureAddr,h1],h2⟩
    ·cases h
   ·cases h
  ·rename_i cs hx
   split at h
   ·rename_i v hl
    refine⟨_,_,h,fun R' k'=>by simp only[evalOp,hs,ha,hx,hl],AS fun w F m ρc o hop hty hi hr => ?_⟩
    have hrx:=hr x
    rw[hx]at hrx
    unfold Rep at hrx
    obtain⟨ad,us,e1,e2,e3,e4,e5⟩:=hrx
    obtain⟨u,h1,h2⟩:=Cr (P:=P) hs ha hl e3 (ad:=ad) e4 e5
    exact⟨u,by simp[execOp,hop,Instr.loadAt,e1,Instr.sureAddr,h1],h2⟩
   ·cases h
  ·rename_i id i sub hx
   split at h
   ·rename_i T' t xs ho
    split at h
    ·rename_i v hl
     refine⟨_,_,h,fun R' k'=>by simp only[evalOp,hs,ha,hx,ho,hl],AS fun w F m ρc o hop hty hi hr => ?_⟩
     obtain⟨b,cap,vs,row,e1,e2,e3,e4,e5,e6,e7,e8,e9,e10⟩:=J2 hi ho (hx▸hr x)
     have hk:=fun(x:t.den) cs (h:Dat w F t x cs)=>Dat.length t h
     have hget:xs[i]? = some (AN xs i t.zero):=by
      unfold AN
      rw[AUU e3,AUS,AUU e3];rfl
     have hd:=Rz hk e8 hget
     have hre:=GN (m:=m) (H:=H) t hd
     obtain⟨u,h1,h2⟩:=Cr (P:=P) hs ha hl (Dp hre sub) (ad:=⟨b,i*t.size+sub,none⟩) (fun u hu=>Dat.Gk t hd u (AVg hu)) (fun j u hu=>by
      rw[Ch,DE e4]
      rw[AVR,AVY]at hu
      split at hu
      ·rw[AVR]at hu
       have:=CD e9 hu
       rw[← this];congr 1;omega
      ·cases hu)
     exact⟨u,by simp[execOp,hop,Instr.loadAt,e2,Instr.sureAddr,h1],h2⟩
    ·cases h
   ·rename_i T' tgt is ho
    split at h
    ·rename_i hc
     refine⟨_,_,h,fun R' k'=>by simp only[evalOp,hs,ha,hx,ho,hc],AS fun w F m ρc o hop hty hi hr => ?_⟩
     simp only[AUR,AV4,AVr]at hc
     obtain⟨rfl,rfl,rfl⟩:=hc
     have hrx:=hr x
     rw[hx]at hrx
     unfold Rep DF at hrx
     rw[ho]at hrx
     obtain⟨hlt,b,c,hm,e2⟩:=hrx
     rw[AVi]at e2
     have hob:=hi.obj id _ ho
     rw[hm]at hob
     obtain⟨vs,us,o1,o2,o3,o4,o5,o6,o7⟩:=hob
     have hget:(EH tgt is)[i]? = some (.eptr tgt (AF (AN is i 0)) 0):=by
      unfold AN AF EH
      rw[AVQ,AUU hlt,AUS,AUU hlt];rfl
     obtain⟨u,hu,hru⟩:=Bx o5 hget
     have hv:=CD o7 hu
     obtain⟨u',h1,h2⟩:=Cr (P:=P) (T:=T) (n:=1) (ag:=false) (cs:=[.eptr tgt (AF (AN is i 0)) 0]) (us:=[u]) (v:=.eptr tgt (AF (AN is i 0)) 0) hs ha rfl (by unfold AW;exact⟨_,_,rfl,hru,by unfold AW;rfl⟩) (ad:=⟨b,i,none⟩) (fun x hx=>by
      rw[AUt]at hx;subst hx;exact o6 _ (AUe hu)) (fun j x hj=>by
      cases j with
      |zero=>
       rw[Ch,DE o1]
       simp only[AVP,AUM]at hj
       subst hj
       exact hv
      |succ j=>simp at hj)
     exact⟨u',by simp[execOp,hop,Instr.loadAt,e2,Instr.sureAddr,h1],h2⟩
    ·cases h
   ·cases h
  ·cases h
 ·cases h
theorem Ig{w:World}{b:Nat}{cs:Array Value}:(w.setRow b cs).os=w.os∧(w.setRow b cs).tape=w.tape∧(w.setRow b cs).output=w.output∧(w.setRow b cs).heap.size=w.heap.size∧∀ k,k≠b→(w.setRow b cs).heap[k]? = w.heap[k]? :=
 ⟨rfl,rfl,rfl,setRow_size w b cs,fun k hk=>setRow_other w b k cs hk⟩
theorem ALw{H:List Ob}{fz:List Bool}{id:Nat}{cs:List AV}(h:H[id]? = some (.box cs)):owned H fz id:=by unfold owned;rw[h];trivial
theorem Cf{H:List Ob}{fz:List Bool}{id:Nat}{T:TypeId}{t:Ty}{xs:List t.den}(h:H[id]? = some (.arr T t xs))(hf:Au fz id=true):owned H fz id:=by
 unfold owned;rw[h];simpa [Au]using hf
theorem Dn{H:List Ob}{fz:List Bool}{id:Nat}{a b:Ty}{es:List (a.den×b.den)}(h:H[id]? = some (.map a b es)):owned H fz id:=by unfold owned;rw[h];trivial
theorem AKs{w:World}{F:Nat→Prop}{m:Mp}{H:List Ob}{fz:List Bool}(hi:HI w F m H fz){id:Nat}{T:TypeId}{t:Ty}{xs:List t.den}(ho:H[id]? = some (.arr T t xs))(hf:Au fz id=true)
  {b cap:Nat} (hm:m id=some (b,cap)) {i:Nat} (hlt:i<xs.length) {y:t.den} {ds:List Value} (hy:Dat w F t y ds) {vs:Array Value} {row:List Value}
  (e1:w.heap[b]? = some (.cells vs T (0,0))) (e2:xs.length≤cap) (e3:cap≤maxLen) (e4:vs.size=cap*t.size) (e7:rows (Dat w F t) xs row) (e8:vs.toList.take row.length=row) (h0:0<t.size) :
  At w F m H fz (w.setRow b (vs.toList.take (i*t.size)++ds++vs.toList.drop (i*t.size+t.size)).toArray) F m (H.set id (.arr T t (Aj xs i y))) fz:=by
 obtain⟨r1,r2,r3,r4,r5⟩:=Ig (w:=w) (b:=b) (cs:=(vs.toList.take (i*t.size)++ds++vs.toList.drop (i*t.size+t.size)).toArray)
 have hk:=fun(x:t.den) cs (h:Dat w F t x cs)=>Dat.length t h
 have hlen:=BF hk e7
 have hdl:=hk _ _ hy
 have hle:i*t.size+t.size≤xs.length*t.size:=by
  have:(i+1)*t.size≤xs.length*t.size:=AU8 _ hlt
  rwa [AVJ,AVo]at this
 have hle2:xs.length*t.size≤cap*t.size:=AU8 _ e2
 have hvl:vs.toList.length=cap*t.size:=by rw[AUi,e4]
 refine At.set hi (Cf ho hf) hm ho ⟨rfl,by simp[Aj]⟩ r1 r2 r3 r4 r5 fun hmono => ?_
 refine⟨h0,?_⟩
 rw[hm]
 refine⟨_,row.take (i*t.size)++ds++row.drop (i*t.size+t.size),setRow_heap w b vs _ T _ e1,by simpa [Aj]using e2,e3,?_,?_,?_⟩
 ·simp only[AWY,AUb,AUq,AVD,hvl,hdl];omega
 ·have hcell:∀ a:Addr,F a.block→(w.setRow b (vs.toList.take (i*t.size)++ds++vs.toList.drop (i*t.size+t.size)).toArray).cell? a=w.cell? a:=fun a ha=>
   cell_setRow_other w b _ a (by rintro rfl;exact hi.off id _ cap (Cf ho hf) hm ha)
  exact BJ (fun x _ cs hx=>hx.mono hcell (fun _ h=>h) t) (ACh hk e7 hlt hy)
 ·have hrl:(row.take (i*t.size)++ds++row.drop (i*t.size+t.size)).length=row.length:=by
   simp only[AUb,AUq,AVD,hdl];omega
  rw[hrl]
  show List.take row.length (vs.toList.take (i*t.size)++ds++vs.toList.drop (i*t.size+t.size))=_
  have h1:row.take (i*t.size)=vs.toList.take (i*t.size):=by
   rw[← e8,AWa,AVe (by omega)]
  have h2:row.drop (i*t.size+t.size)=(vs.toList.drop (i*t.size+t.size)).take (row.length-(i*t.size+t.size)):=by
   conv=>lhs;rw[← e8]
   rw[List.drop_take]
  rw[h1,h2,AVx,AVK (by simp only[AUb,AUq,hvl,hdl];omega)]
  congr 2
  simp only[AUb,AUq,hvl,hdl];omega
theorem AFO(T:TypeId)(x y:Operand):Claim P E (.store T x y):=by
 intro R ty ρ H fz slot k r h
 simp only[evalOp]at h
 split at h
 ·rename_i n vs hs hv
  split at h
  ·cases h
  ·rename_i hd
   simp only[AUP]at hd
   split at h
   ·rename_i id off hx
    split at h
    ·rename_i cs ho
     split at h
     ·rename_i cs' hp
      refine⟨_,_,h,fun R' k'=>by simp only[evalOp,hs,hv,hd,AUX,hx,ho,hp],Fi fun w F m ρc o hop hty hi hr => ?_⟩
      obtain⟨b,c,us,T',e1,e2,e3,e4,e5⟩:=Mi hi ho (hx▸hr x)
      have hry:=cells?_ok hv (hr y)
      have h1y:=cells?_one hv (hr y)
      obtain⟨hle,hr'⟩:=HA hp e4 hry
      have hyl:=Am hry
      have hul:=Am e4
      have hsz:(ρc y).cells.size=n:=by rw[← AUi,hyl,hd]
      have hst:=FG (P:=P) hs e3 (off:=off) hsz h1y (by rw[← AUi,hul];omega)
      obtain⟨r1,r2,r3,r4,r5⟩:=Ig (w:=w) (b:=b) (cs:=(us.toList.take off++(ρc y).cells.toList++us.toList.drop (off+n)).toArray)
      have hg:=At.set hi (ALw ho) e1 ho (o':=.box cs') trivial r1 r2 r3 r4 r5 fun hmono=>⟨b,c,_,T',e1,setRow_heap w b us _ T' _ e3,?_,?_⟩
      ·exact⟨_,F,m,by simp[execOp,hop,Instr.storeAt,e2,Instr.sureAddr,hst],hg⟩
      ·rw[hd]at hr'
       exact Cl (Am hr') fun i c v hc hv=>by
        obtain⟨v',hv',hr''⟩:=Bx hr' hc
        have:(us.toList.take off++(ρc y).cells.toList++us.toList.drop (off+n))[i]? = some v:=hv
        rw[this]at hv';cases hv'
        exact hmono hr''
      ·intro u hu
       have hu:u∈us.toList.take off++(ρc y).cells.toList++us.toList.drop (off+n):=hu
       simp only[AUQ]at hu
       rcases hu with(hu|hu)|hu
       ·exact e5 u (AWe hu)
       ·exact h1y u hu
       ·exact e5 u (AVg hu)
     ·cases h
    ·cases h
   ·rename_i id i sub hx
    split at h
    ·rename_i T' t xs ho
     split at h
     ·rename_i hc
      split at h
      ·rename_i z fr hz
       split at h
       ·rename_i hf
        refine⟨_,_,h,fun R' k'=>by simp only[evalOp,hs,hv,hd,AUX,hx,ho,hc,hz,hf],Fi fun w F m ρc o hop hty hi hr => ?_⟩
        simp only[AUR,AV4]at hc
        obtain⟨rfl,rfl⟩:=hc
        have hgf:=At.freeze hi fr
        have hrx:=hgf.1.rep hi (hx▸hr x)
        obtain⟨b,cap,us,row,e1,e2,e3,e4,e5,e6,e7,e8,e9,e10⟩:=J2 hgf.2 ho hrx
        have hyd:=VQ (Ex hi hz (hr y))
        have hyl:=Dat.length t hyd
        have hst:=FG (P:=P) hs e4 (off:=i*t.size) (u:=ρc y) (by rw[← AUi,hyl]) (cells?_one hv (hr y)) (by
         rw[e7]
         have:(i+1)*t.size≤cap*t.size:=AU8 _ (by omega)
         rwa [AVJ,AVo]at this)
        have hg:=AKs hgf.2 ho hf e1 e3 hyd e4 e5 e6 e7 e8 e9 e10
        exact⟨_,_,m,by simp[execOp,hop,Instr.storeAt,e2,Instr.sureAddr,hst],hgf.trans hg⟩
       ·cases h
      ·cases h
     ·rename_i hc
      split at h
      ·cases h
      ·rename_i cs' hp
       split at h
       ·rename_i z fr hz
        split at h
        ·rename_i hf
         refine⟨_,_,h,fun R' k'=>by simp only[evalOp,hs,hv,hd,AUX,hx,ho,hc,hp,hz,hf],Fi fun w F m ρc o hop hty hi hr => ?_⟩
         have hgf:=At.freeze hi fr
         obtain⟨b,cap,us,row,e1,e2,e3,e4,e5,e6,e7,e8,e9,e10⟩:=J2 hi ho (hx▸hr x)
         have hk:=fun(x:t.den) cs (h:Dat w F t x cs)=>Dat.length t h
         have hget:xs[i]? = some (AN xs i t.zero):=by
          unfold AN
          rw[AUU e3,AUS,AUU e3];rfl
         have hdi:=Rz hk e8 hget
         have hre:=GN (m:=m) (H:=H) t hdi
         have hry:=cells?_ok hv (hr y)
         have h1y:=cells?_one hv (hr y)
         obtain⟨hle,hr'⟩:=HA hp hre hry
         have hyl:=Am hry
         have hel:=Am hre
         have hrl:=BF hk e8
         have hcl:=hk _ _ hdi
         have hi1:i*t.size+t.size≤xs.length*t.size:=by
          have:(i+1)*t.size≤xs.length*t.size:=AU8 _ e3
          rwa [AVJ,AVo]at this
         have hi2:xs.length*t.size≤cap*t.size:=AU8 _ e5
         rw[hd]at hle hr'
         have hst:=FG (P:=P) hs e4 (off:=i*t.size+sub) (u:=ρc y) (by rw[← AUi,hyl,hd]) h1y (by omega)
         obtain⟨u1,u2,q1,q2,q3⟩:=Tw hi t hz hr'
         unfold AW at q3;subst q3
         rw[AVk]at q1;subst q1
         have hg:=AKs hgf.2 ho hf e1 e3 q2 e4 e5 e6 e7 (BJ (fun x _ cs hx=>hx.frz) e8) e9 e10
         have hX:(row.drop (i*t.size)).take t.size=(us.toList.drop (i*t.size)).take t.size:=by
          conv=>lhs;rw[← e9]
          rw[List.drop_take,AWa,AVe (by omega)]
         have hEq:us.toList.take (i*t.size)++(((row.drop (i*t.size)).take t.size).take sub++(ρc y).cells.toList++((row.drop (i*t.size)).take t.size).drop (sub+n))++us.toList.drop (i*t.size+t.size) =
           us.toList.take (i*t.size+sub)++(ρc y).cells.toList++us.toList.drop (i*t.size+sub+n):=by
          rw[hX,List.take_add,AWa,AVe (by omega)]
          have:((us.toList.drop (i*t.size)).take t.size).drop (sub+n)++us.toList.drop (i*t.size+t.size)=us.toList.drop (i*t.size+sub+n):=by
           rw[← AV0 (i:=t.size),AWQ,← AV0 (i:=sub+n)]
           conv=>rhs;rw[← AVV t.size (us.toList.drop (i*t.size))]
           rw[List.drop_append_of_le_length (by rw[AUq,AVD,AUi];omega)]
          rw[← this];simp
         rw[hEq]at hg
         exact⟨_,_,m,by simp[execOp,hop,Instr.storeAt,e2,Instr.sureAddr,hst],hgf.trans hg⟩
        ·cases h
       ·cases h
    ·cases h
   ·cases h
 ·cases h
theorem Hy{H:List Ob}{id:Nat}(h:Gl H id=true):∃ cs,H[id]? = some (.box cs):=by
 unfold Gl at h
 split at h
 ·exact⟨_,by assumption⟩
 ·cases h
theorem DA{H:List Ob}{id:Nat}(h:CE H id=true):∃ T t xs,H[id]? = some (.arr T t xs):=by
 unfold CE at h
 split at h
 ·exact⟨_,_,_,by assumption⟩
 ·cases h
theorem UY(x:Operand):Claim P E (.nilCheck x):=by
 intro R ty ρ H fz slot k r h
 simp only[evalOp]at h
 split at h
 ·rename_i id off hx
  split at h
  ·rename_i hl
   obtain⟨cs,ho⟩:=Hy hl
   refine⟨_,_,h,fun R' k'=>by simp only[evalOp,hx,hl],AS fun w F m ρc o hop hty hi hr=>⟨ρc x,?_,hx▸hr x⟩⟩
   obtain⟨b,c,vs,T,_,e2,_⟩:=Mi hi ho (hx▸hr x)
   simp[execOp,hop,e2]
  ·cases h
 ·rename_i id i s hx
  split at h
  ·rename_i hl
   obtain⟨T,t,xs,ho⟩:=DA hl
   refine⟨_,_,h,fun R' k'=>by simp only[evalOp,hx,hl],AS fun w F m ρc o hop hty hi hr=>⟨ρc x,?_,hx▸hr x⟩⟩
   obtain⟨b,c,vs,T,_,e2,_⟩:=J2 hi ho (hx▸hr x)
   simp[execOp,hop,e2]
  ·cases h
 ·rename_i cs hx
  refine⟨_,_,h,fun R' k'=>by simp only[evalOp,hx],AS fun w F m ρc o hop hty hi hr=>⟨ρc x,?_,hx▸hr x⟩⟩
  have hrx:=hr x
  rw[hx]at hrx
  unfold Rep at hrx
  obtain⟨ad,us,e1,_⟩:=hrx
  simp[execOp,hop,e1]
 ·rename_i f cs hx
  refine⟨_,_,h,fun R' k'=>by simp only[evalOp,hx],AS fun w F m ρc o hop hty hi hr=>⟨ρc x,?_,hx▸hr x⟩⟩
  have hrx:=hr x
  rw[hx]at hrx
  unfold Rep at hrx
  obtain⟨us,e1,_⟩:=hrx
  simp[execOp,hop,e1]
 ·rename_i f cs hx
  refine⟨_,_,h,fun R' k'=>by simp only[evalOp,hx],AS fun w F m ρc o hop hty hi hr=>⟨ρc x,?_,hx▸hr x⟩⟩
  have hrx:=hr x
  rw[hx]at hrx
  unfold Rep at hrx
  obtain⟨us,e1,_⟩:=hrx
  simp[execOp,hop,e1]
 ·cases h
end
end Go.Pev
end
section
namespace Go.Pev
open Go.RowKit
section
variable {P:Program} {E:Env}
theorem E8(op:BinOp)(t:TypeId)(x y:Operand)(w:World)(k:IntKind)(n:Int)(v:Value):(eqGuard op t x y (.int k n) v).run P w = .ok () w:=by
 rw[eqGuard_at_int];rfl
theorem MO(op:BinOp)(t:TypeId)(x y:Operand)(w:World)(b:Bool)(v:Value):(eqGuard op t x y (.bool b) v).run P w = .ok () w:=by
 rw[eqGuard_at_bool];rfl
theorem MN(op:BinOp)(t:TypeId)(x y:Operand)(w:World)(b:ByteArray)(v:Value):(eqGuard op t x y (.string b) v).run P w = .ok () w:=by
 rw[eqGuard_at_string];rfl
theorem AFW(s s':ByteArray):ARb (bytesOf s) (bytesOf s')=(s.toList==s'.toList):=by
 rw[AWR]
 unfold ARb
 rw[AV4,AV4,ByteArray.toList_eq,ByteArray.toList_eq]
 unfold bytesOf
 constructor
 ·intro h
  exact(List.map_inj_right (fun a b e=>UInt8.toNat_inj.1 (Int.ofNat.inj e))).1 h
 ·intro h;rw[h]
theorem AGP{op:BinOp}{j:IntKind}{a b:Int}{v:AV}(h:AJT op j a b=some v)(t:TypeId)(w:World):
  ∃ u,(binOp op t (.int j a) (.int j b)).run P w = .ok u w∧∀ F m H,Rep w F m H v u:=by
 unfold AJT at h
 simp only[Aq,Az,ET]at h
 cases op with
 |add=>simp only[AUM]at h;subst h;exact⟨.int j (j.wrap (a+b)),by simp[binOp,Op.intArith],fun _ _ _=>Ao _ _⟩
 |sub=>simp only[AUM]at h;subst h;exact⟨.int j (j.wrap (a-b)),by simp[binOp,Op.intArith],fun _ _ _=>Ao _ _⟩
 |mul=>simp only[AUM]at h;subst h;exact⟨.int j (j.wrap (a*b)),by simp[binOp,Op.intArith],fun _ _ _=>Ao _ _⟩
 |and=>simp only[AUM]at h;subst h;exact⟨.int j (j.wrap (BitVec.ofInt j.bits a &&& BitVec.ofInt j.bits b).toNat),by simp only[binOp,ne_eq,AVX,AUa];rfl,fun _ _ _=>Ao _ _⟩
 |or=>simp only[AUM]at h;subst h;exact⟨.int j (j.wrap (BitVec.ofInt j.bits a ||| BitVec.ofInt j.bits b).toNat),by simp only[binOp,ne_eq,AVX,AUa];rfl,fun _ _ _=>Ao _ _⟩
 |xor=>simp only[AUM]at h;subst h;exact⟨.int j (j.wrap (BitVec.ofInt j.bits a ^^^ BitVec.ofInt j.bits b).toNat),by simp only[binOp,ne_eq,AVX,AUa];rfl,fun _ _ _=>Ao _ _⟩
 |andNot=>simp only[AUM]at h;subst h;exact⟨.int j (j.wrap (BitVec.ofInt j.bits a &&& ~~~(BitVec.ofInt j.bits b)).toNat),by simp only[binOp,ne_eq,AVX,AUa];rfl,fun _ _ _=>Ao _ _⟩
 |eql=>simp only[AUM]at h;subst h;exact⟨.bool (a==b),by simp only[binOp,ne_eq,AVX,AUa];rfl,fun _ _ _=>BM _⟩
 |neq=>simp only[AUM]at h;subst h;exact⟨.bool (a != b),by simp only[binOp,ne_eq,AVX,AUa];rfl,fun _ _ _=>BM _⟩
 |lss=>simp only[AUM]at h;subst h;exact⟨.bool (decide (a<b)),by simp only[binOp,ne_eq,AVX,AUa];rfl,fun _ _ _=>BM _⟩
 |leq=>simp only[AUM]at h;subst h;exact⟨.bool (decide (a≤b)),by simp only[binOp,ne_eq,AVX,AUa];rfl,fun _ _ _=>BM _⟩
 |gtr=>simp only[AUM]at h;subst h;exact⟨.bool (decide (a > b)),by simp only[binOp,ne_eq,AVX,AUa];rfl,fun _ _ _=>BM _⟩
 |geq=>simp only[AUM]at h;subst h;exact⟨.bool (decide (a≥b)),by simp only[binOp,ne_eq,AVX,AUa];rfl,fun _ _ _=>BM _⟩
 |_=>cases h
theorem Mj{w:World}{F:Nat→Prop}{m:Mp}{H:List Ob}{v:AV}(h:P6 v=true){u:Value}(hr:Rep w F m H v u):∃ vs,u = .agg vs:=by
 cases v with
 |agg cs=>unfold Rep at hr;obtain⟨vs,e,_⟩:=hr;exact⟨vs,e⟩
 |data t d=>
  have h:t.isAgg=true:=h
  unfold Rep BW at hr
  rw[AUf h]at hr
  obtain⟨vs,e,_⟩:=hr;exact⟨vs,e⟩
 |_=>simp[P6]at h
theorem Vp{T:TypeId}{n:List Bool}(h:structEq P T=some n):∃ fs:Array Field,P.underlying T=some (.struct fs)∧P.eqGuardType P.depth T=false∧P.stoodInHeld T=false∧Cz P fs.toList 0=true∧n=fs.toList.map fun f=>GF P f.type:=by
 unfold structEq at h
 split at h
 ·rename_i fs hu
  split at h
  ·rename_i hok
   cases h
   simp only[AUR,AVr]at hok
   exact⟨fs,hu,hok.1,hok.2.1,hok.2.2,rfl⟩
  ·cases h
 ·cases h
theorem Bd{t:TypeId}(h:Ih P t=true):(∃ k,P.underlying t=some (.int k)∧GF P t=true)∨(P.underlying t=some .bool∧GF P t=false):=by
 unfold Ih at h
 split at h
 ·rename_i k hk;exact .inl ⟨k,hk,by simp[GF,hk]⟩
 ·rename_i hk;exact .inr ⟨hk,by simp[GF,hk]⟩
 ·cases h
theorem JD{k:Bool}{ks:List Bool}{c e:AV}{cs ds:List AV}{r:Bool}(h:A6 (k::ks) (c::cs) (e::ds)=some r):
  (∃ j a b r',k=true∧c = .data (.int j) a∧e = .data (.int j) b∧A6 ks cs ds=some r'∧r=(ieq a b&&r'))∨(∃ a b r',k=false∧c = .data .bool a∧e = .data .bool b∧A6 ks cs ds=some r'∧r=((a==b)&&r')):=by
 unfold A6 at h
 split at h
 ·rename_i h1;cases h1
 ·rename_i h1 h2 h3
  cases h1;cases h2;cases h3
  split at h
  ·rename_i r' hj h2
   simp only[AUP]at hj
   subst hj
   cases h
   exact .inl ⟨_,_,_,_,rfl,rfl,rfl,h2,rfl⟩
  ·cases h
 ·rename_i h1 h2 h3
  cases h1;cases h2;cases h3
  split at h
  ·rename_i r' h2
   cases h
   exact .inr ⟨_,_,_,rfl,rfl,rfl,h2,rfl⟩
  ·cases h
 ·cases h
theorem MP{w:World}{F:Nat→Prop}{m:Mp}{H:List Ob}(d:Nat)(xs ys:Array Value):∀ (fs:List Field) (i:Nat) (cs ds:List AV) (r:Bool),Cz P fs i=true→AW w F m H cs (xs.toList.drop i)→AW w F m H ds (ys.toList.drop i)→A6 (fs.map fun f=>GF P f.type) cs ds=some r →
  (Op.eqFields (d+1) xs ys fs).run P w = .ok r w:=by
 intro fs
 induction fs with
 |nil=>
  intro i cs ds r hok hc hd he
  cases cs with
  |cons c cs=>simp[A6]at he
  |nil=>
   cases ds with
   |cons c cs=>simp[A6]at he
   |nil=>simp only[AWJ,A6,AUM]at he;subst he;simp[Op.eqFields]
 |cons f fs ih=>
  intro i cs ds r hok hc hd he
  rw[AUs]at he
  cases cs with
  |nil=>cases hf:GF P f.type<;>rw[hf]at he<;>simp[A6]at he
  |cons c cs=>
   cases ds with
   |nil=>cases hf:GF P f.type<;>rw[hf]at he<;>simp[A6]at he
   |cons e ds=>
    simp only[Cz,AUR,bne_iff_ne,AUP]at hok
    obtain⟨hn,ho,hsc,hok⟩:=hok
    unfold AW at hc hd
    obtain⟨v,vs,e1,hv,hvs⟩:=hc
    obtain⟨u,us,e2,hu,hus⟩:=hd
    have g1:xs[i]? = some v:=by
     have:=AV5 (·[0]?) e1
     simpa using this
    have g2:ys[i]? = some u:=by
     have:=AV5 (·[0]?) e2
     simpa using this
    have n1:xs.toList.drop (i+1)=vs:=by
     have:=AV5 (List.drop 1) e1
     simpa only[AV0,AWi,AV1]using this
    have n2:ys.toList.drop (i+1)=us:=by
     have:=AV5 (List.drop 1) e2
     simpa only[AV0,AWi,AV1]using this
    have hag:DR P f.type=some false:=by
     rcases Bd hsc with⟨k,hk,_⟩|⟨hk,_⟩<;>simp[DR,hk]
    have p1:(part f.type xs f.offset).run P w = .ok v w:=by
     rw[ho];simp[part,Bz hag,g1]
    have p2:(part f.type ys f.offset).run P w = .ok u w:=by
     rw[ho];simp[part,Bz hag,g2]
    have step:∀ (q r':Bool),(Op.equalIn (d+1) f.type v u).run P w = .ok q w→A6 (fs.map fun f=>GF P f.type) cs ds=some r'→(Op.eqFields (d+1) xs ys (f::fs)).run P w = .ok (q&&r') w:=by
     intro q r' h1 h2
     have h3:=ih (i+1) cs ds r' hok (by rw[n1];exact hvs) (by rw[n2];exact hus) h2
     simp only[Op.eqFields,hn,ne_eq,not_false_eq_true,AUv,Sem.run_bind,p1,Result.andThen_ok,p2,h1,Sem.run_ite]
     cases q
     ·simp
     ·simpa using h3
    rcases JD he with⟨j,a,b,r',hk,rfl,rfl,h2,rfl⟩|⟨a,b,r',hk,rfl,rfl,h2,rfl⟩
    ·have v1:=A5 hv
     have v2:=A5 hu
     subst v1 v2
     rcases Bd hsc with⟨k,hk1,_⟩|⟨_,hk2⟩
     ·rw[ET]
      exact step _ _ (run_equalIn_int w d f.type j k a b hk1) h2
     ·rw[hk]at hk2;cases hk2
    ·have v1:=CF hv
     have v2:=CF hu
     subst v1 v2
     rcases Bd hsc with⟨k,_,hk2⟩|⟨hk1,_⟩
     ·rw[hk]at hk2;cases hk2
     ·exact step _ _ (run_equalIn_bool' w d f.type a b hk1) h2
theorem AE7:∀ {ks ks':List Bool} {cs ds:List AV} {r:Bool},A6 (ks++ks') cs ds=some r →
  ∃ cs1 cs2 ds1 ds2 r1 r2,cs=cs1++cs2∧ds=ds1++ds2∧cs1.length=ks.length∧ds1.length=ks.length∧A6 ks cs1 ds1=some r1∧A6 ks' cs2 ds2=some r2∧r=(r1&&r2):=by
 intro ks
 induction ks with
 |nil=>intro ks' cs ds r h;exact⟨[],cs,[],ds,true,r,rfl,rfl,rfl,rfl,rfl,h,by simp⟩
 |cons b ks ih=>
  intro ks' cs ds r h
  rw[AUo]at h
  cases cs with
  |nil=>cases b<;>simp[A6]at h
  |cons c cs=>
   cases ds with
   |nil=>cases b<;>simp[A6]at h
   |cons e ds=>
    rcases JD h with⟨j,x,y,r',rfl,rfl,rfl,h2,rfl⟩|⟨x,y,r',rfl,rfl,rfl,h2,rfl⟩
    ·obtain⟨cs1,cs2,ds1,ds2,r1,r2,rfl,rfl,l1,l2,q1,q2,rfl⟩:=ih h2
     exact⟨_::cs1,cs2,_::ds1,ds2,(ieq x y&&r1),r2,rfl,rfl,by simp[l1],by simp[l2],by simp[A6,q1],q2,by rw[Bool.and_assoc]⟩
    ·obtain⟨cs1,cs2,ds1,ds2,r1,r2,rfl,rfl,l1,l2,q1,q2,rfl⟩:=ih h2
     exact⟨_::cs1,cs2,_::ds1,ds2,((x==y)&&r1),r2,rfl,rfl,by simp[l1],by simp[l2],by simp[A6,q1],q2,by rw[Bool.and_assoc]⟩
theorem VO{w:World}{F:Nat→Prop}{m:Mp}{H:List Ob}:∀ {a b:List AV} {vs:List Value},AW w F m H (a++b) vs→∃ v1 v2,vs=v1++v2∧AW w F m H a v1∧AW w F m H b v2:=by
 intro a
 induction a with
 |nil=>intro b vs h;exact⟨[],vs,rfl,by unfold AW;rfl,h⟩
 |cons c a ih=>
  intro b vs h
  rw[AUo]at h
  unfold AW at h
  obtain⟨v,vs',rfl,hv,h⟩:=h
  obtain⟨v1,v2,rfl,h1,h2⟩:=ih h
  exact⟨v::v1,v2,rfl,by unfold AW;exact⟨v,v1,rfl,hv,h1⟩,h2⟩
theorem AIp{w:World}{F:Nat→Prop}{m:Mp}{H:List Ob}(d:Nat)(xs ys:Array Value):∀ (fs:List Field) (i:Nat) (n:List Bool) (cs ds:List AV) (r:Bool),Kk P fs i=some n→AW w F m H cs (xs.toList.drop i)→AW w F m H ds (ys.toList.drop i)→A6 n cs ds=some r →
  (Op.eqFields (d+1+1) xs ys fs).run P w = .ok r w:=by
 intro fs
 induction fs with
 |nil=>
  intro i n cs ds r hok hc hd he
  cases hok
  cases cs with
  |cons c cs=>simp[A6]at he
  |nil=>
   cases ds with
   |cons c cs=>simp[A6]at he
   |nil=>simp only[A6,AUM]at he;subst he;simp[Op.eqFields]
 |cons f fs ih=>
  intro i n cs ds r hok hc hd he
  unfold Kk at hok
  split at hok
  ·cases hok
  rename_i hno
  simp only[AUR,bne_iff_ne,AUP]at hno
  obtain⟨hn,ho⟩:=hno
  have go:∀ (v u:Value) (n1 n2:List Bool) (cs1 cs2 ds1 ds2:List AV) (q r':Bool) (j:Nat),Kk P fs (i+j)=some n2→AW w F m H cs2 (xs.toList.drop (i+j))→AW w F m H ds2 (ys.toList.drop (i+j))→A6 n2 cs2 ds2=some r' →
    (part f.type xs f.offset).run P w = .ok v w→(part f.type ys f.offset).run P w = .ok u w→(Op.equalIn (d+1+1) f.type v u).run P w = .ok q w→(Op.eqFields (d+1+1) xs ys (f::fs)).run P w = .ok (q&&r') w:=by
   intro v u n1 n2 cs1 cs2 ds1 ds2 q r' j h1 h2 h3 h4 p1 p2 h5
   have h6:=ih (i+j) n2 cs2 ds2 r' h1 h2 h3 h4
   simp only[Op.eqFields,hn,ne_eq,not_false_eq_true,AUv,Sem.run_bind,p1,Result.andThen_ok,p2,h5,Sem.run_ite]
   cases q
   ·simp
   ·simpa using h6
  split at hok
  ·rename_i hsc
   obtain⟨n2,h2,rfl⟩:=AUd.1 hok
   cases cs with
   |nil=>cases hf:GF P f.type<;>rw[hf]at he<;>simp[A6]at he
   |cons c cs=>
    cases ds with
    |nil=>cases hf:GF P f.type<;>rw[hf]at he<;>simp[A6]at he
    |cons e ds=>
     unfold AW at hc hd
     obtain⟨v,vs,e1,hv,hvs⟩:=hc
     obtain⟨u,us,e2,hu,hus⟩:=hd
     have g1:xs[i]? = some v:=by
      have:=AV5 (·[0]?) e1
      simpa using this
     have g2:ys[i]? = some u:=by
      have:=AV5 (·[0]?) e2
      simpa using this
     have n1:xs.toList.drop (i+1)=vs:=by
      have:=AV5 (List.drop 1) e1
      simpa only[AV0,AWi,AV1]using this
     have n3:ys.toList.drop (i+1)=us:=by
      have:=AV5 (List.drop 1) e2
      simpa only[AV0,AWi,AV1]using this
     have hag:DR P f.type=some false:=by
      rcases Bd hsc with⟨k,hk,_⟩|⟨hk,_⟩<;>simp[DR,hk]
     have p1:(part f.type xs f.offset).run P w = .ok v w:=by
      rw[ho];simp[part,Bz hag,g1]
     have p2:(part f.type ys f.offset).run P w = .ok u w:=by
      rw[ho];simp[part,Bz hag,g2]
     rcases JD he with⟨j,a,b,r',hk,rfl,rfl,h4,rfl⟩|⟨a,b,r',hk,rfl,rfl,h4,rfl⟩
     ·have v1:=A5 hv
      have v2:=A5 hu
      subst v1 v2
      rcases Bd hsc with⟨k,hk1,_⟩|⟨_,hk2⟩
      ·rw[ET]
       exact go _ _ [] n2 [] cs [] ds _ _ 1 h2 (by rw[n1];exact hvs) (by rw[n3];exact hus) h4 p1 p2 (run_equalIn_int w _ f.type j k a b hk1)
      ·rw[hk]at hk2;cases hk2
     ·have v1:=CF hv
      have v2:=CF hu
      subst v1 v2
      rcases Bd hsc with⟨k,_,hk2⟩|⟨hk1,_⟩
      ·rw[hk]at hk2;cases hk2
      ·exact go _ _ [] n2 [] cs [] ds _ _ 1 h2 (by rw[n1];exact hvs) (by rw[n3];exact hus) h4 p1 p2 (run_equalIn_bool' w _ f.type a b hk1)
  ·split at hok
   ·rename_i gs hu
    split at hok
    ·rename_i hg
     simp only[AUR,AVr,AUP]at hg
     obtain⟨hst,hge,hsz⟩:=hg
     obtain⟨n2,h2,rfl⟩:=AUd.1 hok
     obtain⟨cs1,cs2,ds1,ds2,r1,r2,rfl,rfl,l1,l2,q1,q2,rfl⟩:=AE7 he
     obtain⟨x1,x2,ex,hx1,hx2⟩:=VO hc
     obtain⟨y1,y2,ey,hy1,hy2⟩:=VO hd
     have lx:=Am hx1
     have ly:=Am hy1
     have lg:(gs.toList.map fun g=>GF P g.type).length=gs.size:=by simp
     rw[lg]at l1 l2
     have hag:DR P f.type=some true:=by simp[DR,hu]
     have hfo:P.fieldsOf f.type=gs:=by simp[Program.fieldsOf,hu]
     have tk:∀ (zs:Array Value) (z1 z2:List Value),zs.toList.drop i=z1++z2→z1.length=gs.size→(zs.extract i (i+gs.size)).toList=z1∧zs.toList.drop (i+gs.size)=z2:=by
      intro zs z1 z2 hz hl
      constructor
      ·rw[Array.toList_extract,AWo,hz,Nat.add_sub_cancel_left,← hl,List.take_left']
       rfl
      ·rw[← AV0,hz,← hl,List.drop_left']
       rfl
     obtain⟨t1,t2⟩:=tk xs x1 x2 ex (by omega)
     obtain⟨t3,t4⟩:=tk ys y1 y2 ey (by omega)
     have hso:(sizeOf f.type).run P w = .ok gs.size w:=by
      obtain⟨ii,hi1,hi2⟩:=AUd.1 hsz
      rw[run_sizeOf hi1,hi2]
     have p1:(part f.type xs f.offset).run P w = .ok (.agg (xs.extract i (i+gs.size))) w:=by
      rw[ho];simp[part,Bz hag,hso]
     have p2:(part f.type ys f.offset).run P w = .ok (.agg (ys.extract i (i+gs.size))) w:=by
      rw[ho];simp[part,Bz hag,hso]
     refine go _ _ [] n2 [] cs2 [] ds2 r1 r2 gs.size h2 (by rw[t2];exact hx2) (by rw[t4];exact hy2) q2 p1 p2 ?_
     rw[run_equalIn_agg w (d+1) f.type _ _ (by rw[hfo];exact hu) hst,hfo]
     exact MP d _ _ gs.toList 0 cs1 ds1 r1 hge (by rw[t1];exact hx1) (by rw[t3];exact hy1) q1
    ·cases hok
   ·cases hok
theorem Rl{T:TypeId}{n:List Bool}(h:NP P T=some n):∃ fs:Array Field,P.underlying T=some (.struct fs)∧P.eqGuardType P.depth T=false∧P.stoodInHeld T=false∧Kk P fs.toList 0=some n:=by
 unfold NP at h
 split at h
 ·rename_i fs hu
  split at h
  ·rename_i hok
   simp only[AUR,AVr]at hok
   exact⟨fs,hu,hok.1,hok.2,h⟩
  ·cases h
 ·cases h
theorem AFT(op:BinOp)(T:TypeId)(x y:Operand)(T':TypeId):Claim P E (.binOp op T x y T'):=by
 intro R ty ρ H fz slot k r h
 simp only[evalOp]at h
 split at h
 ·rename_i n hse
  split at h
  ·rename_i cs ds hcx hcy hag
   rw[AUR]at hag
   obtain⟨fs,hu,hgt,hst,hok⟩:=Rl hse
   have hfo:P.fieldsOf T=fs:=by simp[Program.fieldsOf,hu]
   have hrun:∀ (b:Bool),A6 n cs ds=some b→∀ (w:World) (F:Nat→Prop) (m:Mp) (ρc:Operand→Value),(∀ x,Rep w F m H (ρ x) (ρc x)) →
     ∃ vs us,ρc x = .agg vs∧ρc y = .agg us∧(Op.equalIn 10000 T (.agg vs) (.agg us)).run P w = .ok b w:=by
    intro b hb w F m ρc hr
    obtain⟨vs,e1⟩:=Mj hag.1 (hr x)
    obtain⟨us,e2⟩:=Mj hag.2 (hr y)
    have r1:=cells?_ok hcx (hr x)
    have r2:=cells?_ok hcy (hr y)
    rw[e1]at r1
    rw[e2]at r2
    refine⟨vs,us,e1,e2,?_⟩
    rw[run_equalIn_agg w 9999 T vs us (by rw[hfo];exact hu) hst,hfo]
    exact AIp 9997 vs us fs.toList 0 n cs ds b hok (by simpa [Value.cells]using r1) (by simpa [Value.cells]using r2) hb
   split at h
   ·rename_i b hb
    refine⟨_,_,h,fun R' k'=>by simp only[evalOp,hse,hcx,hcy,hag.1,hag.2,AWz,hb],AS fun w F m ρc o hop hty hi hr=>⟨.bool b,?_,BM _⟩⟩
    obtain⟨vs,us,e1,e2,e3⟩:=hrun b hb w F m ρc hr
    simp[execOp,hop,e1,e2,run_eqGuard_agg w _ T x y vs us hgt,run_eql_struct w T vs us,e3]
   ·rename_i b hb
    refine⟨_,_,h,fun R' k'=>by simp only[evalOp,hse,hcx,hcy,hag.1,hag.2,AWz,hb],AS fun w F m ρc o hop hty hi hr=>⟨.bool (!b),?_,BM _⟩⟩
    obtain⟨vs,us,e1,e2,e3⟩:=hrun b hb w F m ρc hr
    simp[execOp,hop,e1,e2,run_eqGuard_agg w _ T x y vs us hgt,run_neq_struct w T vs us,e3]
   ·cases h
  ·cases h
 rename_i hse
 split at h
 ·rename_i j a j' b hx hy
  split at h
  ·split at h
   ·rename_i n hn
    refine⟨_,_,h,fun R' k'=>by simp only[evalOp,hse,hx,hy,hn],AS fun w F m ρc o hop hty hi hr=>⟨.int j n,?_,Ao _ _⟩⟩
    have e1:=A5 (hx▸hr x);have e2:=A5 (hy▸hr y)
    rw[Y0]at hn;unfold Y1 at hn
    split at hn
    ·cases hn
    ·simp only[AUM]at hn;subst hn
     simp[execOp,E8,binOp,Op.shift, *]
   ·cases h
  ·split at h
   ·rename_i n hn
    refine⟨_,_,h,fun R' k'=>by simp only[evalOp,hse,hx,hy,hn],AS fun w F m ρc o hop hty hi hr=>⟨.int j n,?_,Ao _ _⟩⟩
    have e1:=A5 (hx▸hr x);have e2:=A5 (hy▸hr y)
    rw[AGM]at hn;unfold ACY at hn
    split at hn
    ·cases hn
    ·simp only[AUM]at hn;subst hn
     simp[execOp,E8,binOp,Op.shift, *]
   ·cases h
  ·split at h
   ·rename_i hj
    split at h
    ·rename_i n hn
     refine⟨_,_,h,fun R' k'=>by simp only[evalOp,hse,hx,hy,hn,hj],AS fun w F m ρc o hop hty hi hr=>⟨.int j n,?_,Ao _ _⟩⟩
     have e1:=A5 (hx▸hr x);have e2:=A5 (hy▸hr y)
     simp only[AUP]at hj;subst hj
     rw[R9]at hn;unfold Vu at hn
     split at hn
     ·cases hn
     ·simp only[AUM]at hn;subst hn
      simp[execOp,E8,binOp,Op.intDiv, *]
    ·cases h
   ·cases h
  ·split at h
   ·rename_i hj
    split at h
    ·rename_i n hn
     refine⟨_,_,h,fun R' k'=>by simp only[evalOp,hse,hx,hy,hn,hj],AS fun w F m ρc o hop hty hi hr=>⟨.int j n,?_,Ao _ _⟩⟩
     have e1:=A5 (hx▸hr x);have e2:=A5 (hy▸hr y)
     simp only[AUP]at hj;subst hj
     rw[AGj]at hn;unfold ACo at hn
     split at hn
     ·cases hn
     ·simp only[AUM]at hn;subst hn
      simp[execOp,E8,binOp,Op.intDiv, *]
    ·cases h
   ·cases h
  ·rename_i h1 h2 h3 h4
   split at h
   ·rename_i v hj hv
    refine⟨_,_,h,fun R' k' => ?_,AS fun w F m ρc o hop hty hi hr => ?_⟩
    ·simp only[evalOp,hse,hx,hy]
     cases op<;>first|exact absurd rfl h1|exact absurd rfl h2|exact absurd rfl h3|exact absurd rfl h4|simp only[hj,hv]
    ·have e1:=A5 (hx▸hr x);have e2:=A5 (hy▸hr y)
     simp only[AUP]at hj;subst hj
     obtain⟨u,q1,q2⟩:=AGP (P:=P) hv T w
     exact⟨u,by simp[execOp,hop,e1,e2,E8,q1],q2 _ _ _⟩
   ·cases h
 ·rename_i a b hx hy
  split at h
  ·rename_i hu
   refine⟨_,_,h,fun R' k'=>by simp only[evalOp,hse,hx,hy,hu],AS fun w F m ρc o hop hty hi hr=>⟨.bool (a==b),?_,BM _⟩⟩
   have e1:=CF (hx▸hr x);have e2:=CF (hy▸hr y)
   simp[execOp,hop,e1,e2,MO,run_eql_bool w T a b hu]
  ·rename_i hu
   refine⟨_,_,h,fun R' k'=>by simp only[evalOp,hse,hx,hy,hu],AS fun w F m ρc o hop hty hi hr=>⟨.bool (!(a==b)),?_,BM _⟩⟩
   have e1:=CF (hx▸hr x);have e2:=CF (hy▸hr y)
   simp[execOp,hop,e1,e2,MO,run_neq_bool w T a b hu]
  ·cases h
 ·rename_i a b hx hy
  have hstr:∀ {w:World} {F:Nat→Prop} {m:Mp} {ρc:Operand→Value},(∀ x,Rep w F m H (ρ x) (ρc x))→∃ s s',ρc x = .string s∧ρc y = .string s'∧(s.toList==s'.toList)=seq? a b:=by
   intro w F m ρc hr
   have r1:=hx▸hr x
   have r2:=hy▸hr y
   unfold Rep at r1 r2
   obtain⟨s,e1,rfl⟩:=r1
   obtain⟨s',e2,rfl⟩:=r2
   refine⟨s,s',e1,e2,?_⟩
   rw[seq_eq];exact(AFW s s').symm
  split at h
  ·refine⟨_,_,h,fun R' k'=>by simp only[evalOp,hse,hx,hy],AS fun w F m ρc o hop hty hi hr=>⟨.bool (seq? a b),?_,BM _⟩⟩
   obtain⟨s,s',e1,e2,e3⟩:=hstr hr
   simp[execOp,hop,e1,e2,MN,binOp_string_eql,e3]
  ·refine⟨_,_,h,fun R' k'=>by simp only[evalOp,hse,hx,hy],AS fun w F m ρc o hop hty hi hr=>⟨.bool (!(seq? a b)),?_,BM _⟩⟩
   obtain⟨s,s',e1,e2,e3⟩:=hstr hr
   simp[execOp,hop,e1,e2,MN,binOp_string_neq,e3]
  ·cases h
 ·cases h
theorem AJC(op:UnOp)(T:TypeId)(x:Operand):Claim P E (.unOp op T x):=by
 intro R ty ρ H fz slot k r h
 simp only[evalOp]at h
 split at h
 ·rename_i b hx
  refine⟨_,_,h,fun R' k'=>by simp only[evalOp,hx],AS fun w F m ρc o hop hty hi hr=>⟨.bool (!b),?_,BM _⟩⟩
  have e1:=CF (hx▸hr x)
  simp[execOp,hop,e1,Op.unary]
 ·rename_i j n hx
  refine⟨_,_,h,fun R' k'=>by simp only[evalOp,hx],AS fun w F m ρc o hop hty hi hr=>⟨.int j (j.wrap (0-n)),?_,Ao _ _⟩⟩
  have e1:=A5 (hx▸hr x)
  simp[execOp,hop,e1,Op.unary,Op.intArith]
 ·cases h
theorem Pm{T:TypeId}{j:IntKind}(h:AAU P T=some j):P.underlying T=some (.int j):=by
 unfold AAU at h
 split at h
 ·rename_i hu;simp only[AUM]at h;subst h;exact hu
 ·cases h
theorem VA(fn:Fn)(first cs:Array Operand):Claim P E (.makeFunc fn first cs):=by
 intro R ty ρ H fz slot k r h
 cases fn with
 |func f=>
  simp only[evalOp]at h
  split at h
  ·rename_i hf
   refine⟨_,_,h,fun R' k'=>by simp only[evalOp,hf],AS fun w F m ρc o hop hty hi hr=>⟨.func (.func f) #[] (cs.map ρc),?_,?_⟩⟩
   ·have:first = #[]:=by
     rw[← Array.toList_eq_nil_iff];exact hf
    subst this
    simp[execOp,hop,Instr.makeFunc]
   ·unfold Rep
    refine⟨_,rfl,?_⟩
    rw[AVU]
    exact Cl (by simp) fun i c v hc hv=>by
     rw[AVQ]at hc hv
     cases hx:cs.toList[i]? with
     |none=>rw[hx]at hc;cases hc
     |some x=>
      rw[hx]at hc hv
      cases hc;cases hv
      exact hr x
  ·rename_i y ys hf
   split at h
   ·rename_i hcs
    refine⟨_,_,h,fun R' k'=>by simp only[evalOp,hf,hcs],AS fun w F m ρc o hop hty hi hr=>⟨.func (.func f) (first.map ρc) #[],?_,?_⟩⟩
    ·have:cs = #[]:=by
      rw[← Array.toList_eq_nil_iff];exact hcs
     subst this
     simp[execOp,hop,Instr.makeFunc]
    ·unfold Rep
     refine⟨_,rfl,?_⟩
     rw[AVU,← hf]
     exact Cl (by simp) fun i c v hc hv=>by
      rw[AVQ]at hc hv
      cases hx:first.toList[i]? with
      |none=>rw[hx]at hc;cases hc
      |some x=>
       rw[hx]at hc hv
       cases hc;cases hv
       exact hr x
   ·cases h
 |_=>simp[evalOp]at h
theorem Wi(T:TypeId)(o:Option Operand):Claim P E (.makeMap T o):=by
 intro R ty ρ H fz slot k r h
 cases o with
 |some x=>simp[evalOp]at h
 |none=>
  simp only[evalOp]at h
  split at h
  ·rename_i a b hu
   split at h
   ·rename_i ta tb ha hb
    split at h
    ·rename_i hf
     refine⟨_,_,h,fun R' k'=>by simp only[evalOp,hu,ha,hb,hf],A7 fun w F m ρc o hop hty hi hr => ?_⟩
     have hg:=At.new (w':=w.alloc (.map #[] 0)) hi hf (ob:=.map ta tb []) trivial (some (w.heap.size,0)) rfl rfl rfl (by simp) (fun b hb=>Below.heap_alloc w _ b hb)
      (fun b c h=>by cases h;exact AUV _)
      (fun _=>⟨w.heap.size,0,#[],0,rfl,heap_alloc_new w _,rfl,rfl,fun i e h=>by simp at h⟩)
     refine⟨.map (some w.heap.size),_,F,_,by simp[execOp,hop,Instr.makeMap],hg,?_⟩
     unfold Rep
     have hlt:=Ap (BP hf).1
     rw[show DQ { objs:=[(slot,.map ta tb [])] } H=H.set slot (.map ta tb [])from rfl,BK hlt,An]
     exact⟨_,_,rfl,rfl⟩
    ·cases h
   ·cases h
  ·cases h
theorem Qd(T:TypeId)(x y:Operand):Claim P E (.makeSlice T x y):=by
 intro R ty ρ H fz slot k r h
 simp only[evalOp]at h
 split at h
 ·rename_i e t hsl
  split at h
  ·rename_i zz j l j' c hz hx hy
   split at h
   ·rename_i hfit
    split at h
    ·rename_i hf
     refine⟨_,_,h,fun R' k'=>by simp only[evalOp,hsl,hz,hx,hy,hfit,hf],A7 fun w F m ρc o hop hty hi hr => ?_⟩
     obtain⟨hu,hty0,hpos⟩:=C5 hsl
     obtain⟨t',cs'⟩:=zz
     obtain⟨hty',hcs',i,z,hi0,hz0,hok,hsz,hza⟩:=B0 hz
     subst hcs'
     have:t'=t:=by rw[hty0]at hty';exact(AVa hty').symm
     subst this
     simp only[AUR,OR,Az,AUP,hi0,AWS,AU5]at hfit
     obtain⟨⟨⟨⟨a1,a2⟩,a3,a4⟩,a5⟩,a6⟩:=hfit
     have e1:=A5 (hx▸hr x);have e2:=A5 (hy▸hr y)
     obtain⟨l',rfl⟩:=AUW a1
     obtain⟨c',rfl⟩:=AUW a3
     have hbb:(i.bytes:Int)*(c':Int)≤281474976710656:=by
      have:i.bytes*c'≤65536*4294967296:=AWb a6 (by omega)
      have h2:((i.bytes*c':Nat):Int)≤281474976710656:=by omega
      rwa [Int.natCast_mul]at h2
     have hrun:=run_make (P:=P) w T e i z hu hi0 hz0 j j' l' c' a1 a5 hbb (by omega)
     simp only[AVI]at hrun
     have hzd:=B9 (w:=w) (F:=F) t' _ hok
     have hzl:z.cells.size=t'.size:=by rw[← AUi];exact Dat.length t' hzd
     have hmade:(madeCells z.cells (c'*i.size)).toList=(List.replicate c' z.cells.toList).flatten:=by
      have:=C7 z.cells c'
      rw[hzl,← hsz]at this
      exact(by unfold madeCells;rw[hzl,← hsz];exact this)
     have a5':(l':Int)≤(c':Int):=a5
     have a4':(c':Int)≤4294967296:=a4
     have hle:l'≤c':=by omega
     have hrow:=Dw (w:=w) (F:=F) hzd l'
     have hrl:=BF (fun x cs (h:Dat w F t' x cs)=>Dat.length t' h) hrow
     rw[AVm]at hrl
     obtain⟨m',hg,hrep⟩:=Fa hi hf (w':=w.alloc (.cells (madeCells z.cells (c'*i.size)) e)) hpos (xs:=List.replicate l' t'.zero) (heap_alloc_new w _) rfl rfl rfl (by simp) (fun b hb=>Below.heap_alloc w _ b hb)
      (cap:=c') (by simpa using hle) (by simp only[maxLen];omega) (by rw[size_madeCells,hsz]) hrow (by
       rw[hmade,hrl]
       have:c'=l'+(c'-l'):=by omega
       rw[this,← List.replicate_append_replicate,List.flatten_append,AVx,AVK (by rw[hrl];omega),hrl]
       simp)
     rw[AVm]at hrep
     exact⟨_,_,F,m',by simp[execOp,hop,e1,e2,hrun],hg,hrep⟩
    ·cases h
   ·cases h
  ·cases h
 ·cases h
end
end Go.Pev
end
section
namespace Go.Pev
open Go.RowKit
section
variable {P:Program} {E:Env}
theorem JX{α:Type}{xs ys:List α}{l h:Int}(e:G8 xs l h=some ys):0≤l∧l≤h∧h≤xs.length∧ys=(xs.take h.toNat).drop l.toNat:=by
 rw[Qm]at e
 unfold PD at e
 split at e
 ·rename_i hc;simp only[AUM]at e;exact⟨hc.1,hc.2.1,hc.2.2,e.symm⟩
 ·cases e
theorem A0{α:Type}{xs:List α}{i:Int}{x:α}(e:idx xs i=some x):0≤i∧i<xs.length∧xs[i.toNat]? = some x:=by
 rw[idx_eq]at e
 unfold OJ at e
 split at e
 ·cases e
 ·rename_i hc
  have:=(AUn.1 e).1
  exact⟨by omega,by omega,e⟩
theorem Tp{w:World}{F:Nat→Prop}{m:Mp}{H:List Ob}{v:AV}{n:Int}(h:AKI v=some n){u:Value}(hr:Rep w F m H v u):∃ k,u = .int k n:=by
 unfold AKI at h
 split at h
 ·simp only[AUM]at h;subst h;exact⟨_,A5 hr⟩
 ·cases h
theorem I7{w:World}{F:Nat→Prop}{m:Mp}{H:List Ob}{ρ:Operand→AV}{ρc:Operand→Value}(hr:∀ x,Rep w F m H (ρ x) (ρc x)){o:Option Operand}{l:Option Int}(h:HD ρ o=some l):
  (o.map ρc=none∧l=none)∨∃ k n,o.map ρc=some (.int k n)∧l=some n:=by
 unfold HD at h
 split at h
 ·simp only[AUM]at h;exact .inl ⟨rfl,h.symm⟩
 ·rename_i x
  simp only[AUd]at h
  obtain⟨n,h1,rfl⟩:=h
  obtain⟨k,h2⟩:=Tp h1 (hr x)
  exact .inr ⟨k,n,by simp[h2],rfl⟩
theorem Cd{w:World}{T e:TypeId}{i:TypeInfo}(hu:P.underlying T=some (.slice e))(hi:P.info? e=some i)(a:Option Addr)(len cap:Nat){lo hi':Option Value}{l h:Int}
  (hlo:(lo=none∧l=0)∨∃ k,lo=some (.int k l)) (hhi:(hi'=none∧h=len)∨∃ k,hi'=some (.int k h)) (h0:0≤l) (h1:l≤h) (h2:h≤cap) (h3:len≤cap) :
  (Instr.sliceAt T (.slice a len cap) lo hi' none).run P w = .ok (.slice (if cap=l.toNat then a else a.map (·.add (l.toNat*i.size))) (h.toNat-l.toNat) (cap-l.toNat)) w:=by
 have hb:(Instr.sliceBounds true len cap lo hi' none).run P w = .ok (l.toNat,h.toNat,cap) w:=by
  obtain⟨l,rfl⟩:=AUW h0
  obtain⟨h,rfl⟩:=AUW (show 0≤h by omega)
  have h1:l≤h:=by omega
  have h2:h≤cap:=by omega
  rcases hhi with⟨rfl,e1⟩|⟨k,rfl⟩<;>rcases hlo with⟨rfl,e2⟩|⟨k',rfl⟩
  ·have e3:l=0:=by omega
   have e4:h=len:=by omega
   subst e3;subst e4
   simp[Instr.sliceBounds]
  ·have e4:h=len:=by omega
   subst e4
   simp[Instr.sliceBounds,Instr.sliceBound,asIntOf,h1]
  ·have e3:l=0:=by omega
   subst e3
   simp[Instr.sliceBounds,Instr.sliceBound,asIntOf,h2]
  ·simp[Instr.sliceBounds,Instr.sliceBound,asIntOf,h1,h2]
 simp only[Instr.sliceAt,Sem.run_bind,run_underlying hu,Result.andThen_ok,Instr.slice,hb,run_sizeOf hi,Sem.run_pure]
theorem QQ{w:World}{F:Nat→Prop}{m:Mp}{H:List Ob}{ρ:Operand→AV}{ρc:Operand→Value}(hr:∀ x,Rep w F m H (ρ x) (ρc x)){o:Option Operand}{l:Option Int}(h:HD ρ o=some l)(d:Int):
  (o.map ρc=none∧l.getD d=d)∨∃ k,o.map ρc=some (.int k (l.getD d)):=by
 rcases I7 hr h with⟨h1,rfl⟩|⟨k,n,h1,rfl⟩
 ·exact .inl ⟨h1,rfl⟩
 ·exact .inr ⟨k,h1⟩
theorem Ec{w w':World}{ρc:Operand→Value}{o:Oper}{T:TypeId}{x:Operand}{lo up:Option Operand}{v u:Value}(hop:o.op = .slice T x lo up none)(e1:ρc x=v)
  (hrun:(Instr.sliceAt T v (lo.map ρc) (up.map ρc) none).run P w = .ok u w'):(execOp ρc o).run P w = .ok (.value u) w':=by simp[execOp,hop,e1,hrun]
theorem OZ(T:TypeId)(x:Operand)(lo up:Option Operand):Claim P E (.slice T x lo up none):=by
 intro R ty ρ H fz slot k r h
 simp only[evalOp]at h
 split at h
 ·rename_i e hu
  split at h
  ·rename_i l h' hl hh
   unfold Er at h
   split at h
   ·rename_i t xs hx
    split at h
    ·rename_i hsz
     split at h
     ·cases h
     ·rename_i ys hs
      refine⟨_,_,h,fun R' k'=>by simp only[evalOp,hu,hl,hh,Er,hx,hsz,hs],AS fun w F m ρc o hop hty hi hr => ?_⟩
      obtain⟨a1,a2,a3,rfl⟩:=JX hs
      simp only[AUP]at hsz
      obtain⟨i,hi0,hsz'⟩:=BL hsz
      have hrx:=hr x
      rw[hx]at hrx
      have hrx:Dat w F (.slice t) xs [ρc x]:=hrx
      obtain⟨a,cap,e1,e2,e3⟩:=hrx
      simp only[AUl,and_true]at e1
      have hrun:=Cd (P:=P) (w:=w) hu hi0 a (List.length (α:=t.den) xs) cap (QQ hr hl 0) (QQ hr hh (AQ xs)) a1 a2 (by omega) e2
      refine⟨_,Ec hop e1 hrun,?_⟩
      have hlen:((xs.take (h'.getD (AQ xs)).toNat).drop (l.getD 0).toNat).length=(h'.getD (AQ xs)).toNat-(l.getD 0).toNat:=by
       rw[AVD,AUq];omega
      show Dat w F (.slice t) _ [_]
      refine⟨_,_,by rw[hlen],by rw[hlen];omega,fun hne => ?_⟩
      have hpos:(l.getD 0).toNat<(h'.getD (AQ xs)).toNat:=by
       rcases AVF (l.getD 0).toNat (h'.getD (AQ xs)).toNat with hh'|hh'
       ·exact hh'
       ·exact absurd (AUr (by rw[hlen];omega)) hne
      have hxne:xs≠[]:=by rintro rfl;simp at hne
      obtain⟨ad,row,q1,q2,q3,q4⟩:=e3 hxne
      have hk:=fun(x:t.den) cs (h:Dat w F t x cs)=>Dat.length t h
      refine⟨ad.add ((l.getD 0).toNat*t.size),_,?_,by rw[J3];exact q2,HK hk (l.getD 0).toNat (EF hk (h'.getD (AQ xs)).toNat q3),fun j u hu' => ?_⟩
      ·rw[AUZ (by omega),q1,hsz'];rfl
      ·rw[add_add]
       rw[AVR,AVY]at hu'
       split at hu'
       ·exact q4 _ u hu'
       ·cases hu'
    ·cases h
   ·rename_i t hx
    split at h
    ·rename_i hss
     split at h
     ·rename_i ys hs
      refine⟨_,_,h,fun R' k'=>by simp only[evalOp,hu,hl,hh,Er,hx,hss,hs],AS fun w F m ρc o hop hty hi hr => ?_⟩
      obtain⟨a1,a2,a3,_⟩:=JX hs
      obtain⟨sz,hsz⟩:=AV7.1 hss
      obtain⟨i,hi0,hsz'⟩:=BL hsz
      have hrx:=hr x
      rw[hx]at hrx
      unfold Rep at hrx
      simp only[AU3]at a3
      have hrun:=Cd (P:=P) (w:=w) hu hi0 none 0 0 (QQ hr hl 0) (QQ hr hh 0) a1 a2 a3 (AUV _)
      refine⟨_,Ec hop hrx hrun,?_⟩
      unfold Rep
      have h1:(l.getD 0).toNat=0:=by omega
      have h2:(h'.getD 0).toNat=0:=by omega
      rw[h1,h2];rfl
     ·cases h
    ·cases h
   ·rename_i id hx
    split at h
    ·rename_i T' t xs ho
     split at h
     ·rename_i hsz
      split at h
      ·cases h
      ·rename_i ys hs
       refine⟨_,_,h,fun R' k'=>by simp only[evalOp,hu,hl,hh,Er,hx,ho,hsz,hs],AS fun w F m ρc o hop hty hi hr => ?_⟩
       obtain⟨a1,a2,a3,rfl⟩:=JX hs
       simp only[AUP]at hsz
       obtain⟨i,hi0,hsz'⟩:=BL hsz
       have hrx:=hr x
       rw[hx]at hrx
       unfold Rep at hrx
       rw[ho]at hrx
       have hlen:((xs.take (h'.getD (AQ xs)).toNat).drop (l.getD 0).toNat).length=(h'.getD (AQ xs)).toNat-(l.getD 0).toNat:=by
        rw[AVD,AUq];omega
       obtain⟨hpos,hob⟩:=hi.obj id _ ho
       cases hm:m id with
       |none=>
        rw[hm]at hrx hob
        obtain⟨a,e1⟩:=hrx
        simp only at hob;subst hob
        have hrun:=Cd (P:=P) (w:=w) hu hi0 a 0 0 (QQ hr hl 0) (QQ hr hh (AQ ([]:List t.den))) a1 a2 (by simpa using a3) (AUV _)
        refine⟨_,Ec hop e1 hrun,?_⟩
        unfold Rep
        rw[ho,hm]
        simp only[AU3]at a3
        have q1:(l.getD 0).toNat=0:=by omega
        have q2:(h'.getD (AQ ([]:List t.den))).toNat=0:=by omega
        rw[q1,q2]
        exact And.intro (by simp[AF,q1,AQ]) ⟨_,by simp[AF,AQ];rfl⟩
       |some p=>
        obtain⟨b,cap⟩:=p
        rw[hm]at hrx hob
        obtain⟨vs,row,e1,e2,_⟩:=hob
        simp only[BU]at hrx
        have hrun:=Cd (P:=P) (w:=w) hu hi0 (some ⟨b,0,none⟩) (List.length (α:=t.den) xs) cap (QQ hr hl 0) (QQ hr hh (AQ xs)) a1 a2 (by omega) e2
        refine⟨_,Ec hop hrx hrun,?_⟩
        unfold Rep
        rw[ho,hm]
        have q:AF (AQ ((xs.take (h'.getD (AQ xs)).toNat).drop (l.getD 0).toNat))=(h'.getD (AQ xs)).toNat-(l.getD 0).toNat:=by
         unfold AF AQ;rw[AVI];exact hlen
        rw[q]
        refine⟨by unfold AF;omega,_,rfl,fun hlt => ?_⟩
        unfold AF at hlt ⊢
        rw[AUZ (by omega),← hsz']
        simp[Ch]
     ·cases h
    ·cases h
   ·rename_i id off n hx
    split at h
    ·rename_i T' t xs ho
     split at h
     ·rename_i hsz
      split at h
      ·cases h
      ·rename_i ys hs
       refine⟨_,_,h,fun R' k'=>by simp only[evalOp,hu,hl,hh,Er,hx,ho,hsz,hs],AS fun w F m ρc o hop hty hi hr => ?_⟩
       obtain⟨a1,a2,a3,rfl⟩:=JX hs
       simp only[AUP]at hsz
       obtain⟨i,hi0,hsz'⟩:=BL hsz
       have hrx:=hr x
       rw[hx]at hrx
       unfold Rep at hrx
       rw[ho]at hrx
       obtain⟨hle,hrx⟩:=hrx
       have hcl:(FL off n xs).length=n:=by unfold FL;rw[AUq,AVD];omega
       rw[hcl]at a3
       have q:AF (AQ (((FL off n xs).take (h'.getD (n:Int)).toNat).drop (l.getD 0).toNat))=(h'.getD (n:Int)).toNat-(l.getD 0).toNat:=by
        unfold AF AQ;rw[AVI,AVD,AUq,hcl];omega
       obtain⟨hpos,hob⟩:=hi.obj id _ ho
       cases hm:m id with
       |none=>
        rw[hm]at hrx hob
        obtain⟨a,e1⟩:=hrx
        simp only at hob;subst hob
        have hn:n=0:=by have:=hle;simp at this;exact this.2
        subst hn
        have hrun:=Cd (P:=P) (w:=w) hu hi0 a 0 0 (QQ hr hl 0) (QQ hr hh ((0:Nat):Int)) a1 a2 a3 (AUV _)
        refine⟨_,Ec hop e1 hrun,?_⟩
        unfold Rep
        rw[ho,hm,q]
        have q1:(l.getD 0).toNat=0:=by omega
        have q2:(h'.getD ((0:Nat):Int)).toNat=0:=by omega
        have hoff:off=0:=by have:=hle;simpa using this
        rw[q1,q2]
        exact And.intro (by simp[AF,q1,hoff]) ⟨_,by simp;rfl⟩
       |some p=>
        obtain⟨b,cap⟩:=p
        rw[hm]at hrx hob
        obtain⟨vs,row,e1,e2,_⟩:=hob
        obtain⟨a,e3,e4⟩:=hrx
        have hrun:=Cd (P:=P) (w:=w) hu hi0 a n (cap-off) (QQ hr hl 0) (QQ hr hh (n:Int)) a1 a2 (by omega) (by omega)
        refine⟨_,Ec hop e3 hrun,?_⟩
        unfold Rep
        rw[ho,hm,q]
        refine And.intro (by unfold AF;omega) ⟨if cap-off=(l.getD 0).toNat then a else a.map (·.add ((l.getD 0).toNat*i.size)),?_,fun hlt => ?_⟩
        ·unfold AF;congr 1;omega
        ·unfold AF at hlt ⊢
         rw[AUZ (by omega),e4 (by omega),hsz']
         simp[Ch,AVJ]
     ·cases h
    ·cases h
   ·cases h
  ·cases h
 ·cases h
end
end Go.Pev
end
section
namespace Go.Pev
open Go.RowKit
section
variable {P:Program} {E:Env}
theorem GL{w:World}{F:Nat→Prop}{m:Mp}{H:List Ob}{fz:List Bool}(hi:HI w F m H fz){slot:Nat}(hf:Ay H fz slot=true)(T:TypeId){t:Ty}(ht:0<t.size)(a:Option Addr):
  ∃ m',At w F m H fz w F m' (H.set slot (.arr T t [])) fz∧Rep w F m' (H.set slot (.arr T t [])) (.own slot) (.slice a 0 0):=by
 have hg:=At.new (w':=w) hi hf (ob:=.arr T t []) trivial none rfl rfl rfl (AUV _) (fun _ _=>rfl) (fun b c h=>by cases h) (fun _=>⟨ht,rfl⟩)
 refine⟨_,hg,?_⟩
 unfold Rep
 have hlt:=Ap (BP hf).1
 rw[BK hlt,An]
 exact⟨a,rfl⟩
theorem QO{w:World}{T e:TypeId}{i:TypeInfo}(hu:P.underlying T=some (.slice e))(hi:P.info? e=some i)(a:Option Addr)(len cap:Nat)(k k':IntKind):
  (Instr.sliceAt T (.slice a len cap) none (some (.int k 0)) (some (.int k' 0))).run P w = .ok (.slice a 0 0) w:=by
 simp[Instr.sliceAt,run_underlying hu,Instr.slice,Instr.sliceBounds,Instr.sliceBound,asIntOf,run_sizeOf hi]
theorem AAV{w:World}{F:Nat→Prop}{m:Mp}{H:List Ob}{v:AV}(h:EP H v=true){u:Value}(hr:Rep w F m H v u):∃ a len cap,u = .slice a len cap:=by
 cases v with
 |data t d=>
  cases t<;>simp only[EP,AUc]at h
  rename_i t
  have hrx:Dat w F (.slice t) d [u]:=hr
  obtain⟨a,cap,e1,_⟩:=hrx
  simp only[AUl,and_true]at e1
  exact⟨_,_,_,e1⟩
 |nils e=>unfold Rep at hr;exact⟨_,_,_,hr⟩
 |own id=>
  obtain⟨T,t,xs,ho⟩:=DA h
  unfold Rep at hr;rw[ho]at hr
  cases hm:m id with
  |none=>rw[hm]at hr;obtain⟨a,e1⟩:=hr;exact⟨_,_,_,e1⟩
  |some p=>rw[hm]at hr;exact⟨_,_,_,hr⟩
 |win id off n=>
  obtain⟨T,t,xs,ho⟩:=DA h
  unfold Rep at hr;rw[ho]at hr
  obtain⟨_,hr⟩:=hr
  cases hm:m id with
  |none=>rw[hm]at hr;obtain⟨a,e1⟩:=hr;exact⟨_,_,_,e1⟩
  |some p=>rw[hm]at hr;obtain⟨a,e1,_⟩:=hr;exact⟨_,_,_,e1⟩
 |_=>simp[EP]at h
theorem Qb(T:TypeId)(x:Operand)(lo up:Option Operand)(mx:Operand):Claim P E (.slice T x lo up (some mx)):=by
 intro R ty ρ H fz slot k r h
 simp only[evalOp]at h
 split at h
 ·rename_i e hu
  split at h
  ·rename_i e' t hl hh hm hsl
   obtain⟨hu',hty',hpos⟩:=C5 hsl
   split at h
   ·rename_i n hx hs
    split at h
    ·rename_i hf
     refine⟨_,_,h,fun R' k'=>by simp only[evalOp,hu,hl,hh,hm,hsl,hx,hs,hf],A7 fun w F m ρc o hop hty hi hr => ?_⟩
     obtain⟨i,hi0,_⟩:=BL hs
     have hslice:=AAV hx (hr x)
     obtain⟨a,len,cap,e1⟩:=hslice
     have hlo:lo.map ρc=none:=by
      rcases I7 hr hl with⟨h1,_⟩|⟨_,_,_,h2⟩
      ·exact h1
      ·cases h2
     have hup:∃ k,up.map ρc=some (.int k 0):=by
      rcases I7 hr hh with⟨_,h2⟩|⟨k,n,h1,h2⟩
      ·cases h2
      ·cases h2;exact⟨k,h1⟩
     obtain⟨k1,hup⟩:=hup
     obtain⟨k2,hmx⟩:=Tp hm (hr mx)
     have hrun:=QO (P:=P) (w:=w) hu hi0 a len cap k1 k2
     obtain⟨m',hg,hrep⟩:=GL hi hf e hpos a
     exact⟨_,w,F,m',by simp[execOp,hop,e1,hlo,hup,hmx,hrun],hg,hrep⟩
    ·cases h
   ·cases h
  ·cases h
 ·cases h
theorem MM{T:TypeId}{f off size:Nat}{ag:Bool}(h:fieldAt P T f=some (off,size,ag)):∃ fs fd i,P.underlying T=some (.struct fs)∧fs[f]? = some fd∧P.info? fd.type=some i∧fd.offset=off∧i.size=size∧DR P fd.type=some ag:=by
 unfold fieldAt at h
 split at h
 ·rename_i fs hu
  split at h
  ·rename_i fd hf
   split at h
   ·rename_i i ag' hi ha
    simp only[AUM,AUp]at h
    obtain⟨rfl,rfl,rfl⟩:=h
    exact⟨fs,fd,i,hu,hf,hi,rfl,rfl,ha⟩
   ·cases h
  ·cases h
 ·cases h
theorem G9{w:World}{T:TypeId}{f off size:Nat}{ag:Bool}(h:fieldAt P T f=some (off,size,ag))(hs:size≠0)(a:Addr):(Instr.fieldAt T (.pointer (some a)) f).run P w = .ok (.pointer (some (a.add off))) w:=by
 obtain⟨fs,fd,i,hu,hf,hi,rfl,rfl,ha⟩:=MM h
 simp[Instr.fieldAt,run_underlying hu,hf,Instr.sureAddr,fieldPlace,run_sizeOf hi,hs]
theorem Qf(T:TypeId)(x:Operand)(f:Nat):Claim P E (.fieldAddr T x f):=by
 intro R ty ρ H fz slot k r h
 simp only[evalOp]at h
 split at h
 ·cases h
 ·rename_i off size ag hf
  split at h
  ·cases h
  ·rename_i hs
   simp only[AVE]at hs
   split at h
   ·rename_i id o' hx
    split at h
    ·rename_i hl
     obtain⟨cs,ho⟩:=Hy hl
     refine⟨_,_,h,fun R' k'=>by simp only[evalOp,hf,hs,AUg,hx,hl],AS fun w F m ρc o hop hty hi hr => ?_⟩
     obtain⟨b,c,vs,T,e1,e2,_⟩:=Mi hi ho (hx▸hr x)
     refine⟨.pointer (some ⟨b,o'+off,none⟩),by simp[execOp,hop,e2,G9 hf hs,Ch],?_⟩
     unfold Rep;rw[ho];exact⟨b,c,e1,rfl⟩
    ·cases h
   ·rename_i id i s hx
    split at h
    ·rename_i hl
     obtain⟨T',t,xs,ho⟩:=DA hl
     refine⟨_,_,h,fun R' k'=>by simp only[evalOp,hf,hs,AUg,hx,hl],AS fun w F m ρc o hop hty hi hr => ?_⟩
     obtain⟨b,c,vs,row,e1,e2,e3,_⟩:=J2 hi ho (hx▸hr x)
     refine⟨.pointer (some ⟨b,i*t.size+s+off,none⟩),by simp[execOp,hop,e2,G9 hf hs,Ch],?_⟩
     unfold Rep;rw[ho];exact⟨e3,b,c,e1,by rw[AWQ]⟩
    ·cases h
   ·rename_i cs hx
    refine⟨_,_,h,fun R' k'=>by simp only[evalOp,hf,hs,AUg,hx],AS fun w F m ρc o hop hty hi hr => ?_⟩
    have hrx:=hr x
    rw[hx]at hrx
    unfold Rep at hrx
    obtain⟨ad,us,e1,e2,e3,e4,e5⟩:=hrx
    refine⟨.pointer (some (ad.add off)),by simp[execOp,hop,e1,G9 hf hs],?_⟩
    unfold Rep
    exact⟨ad.add off,us.drop off,rfl,fun hne=>by rw[J3];exact e2 (by rintro rfl;simp at hne),Dp e3 off,fun u hu=>e4 u (AVg hu),fun j u hu=>by
     rw[add_add];rw[AVR]at hu;exact e5 _ u hu⟩
   ·cases h
theorem ACe{w:World}{F:Nat→Prop}{m:Mp}{H:List Ob}{T:TypeId}{i:TypeInfo}{ag:Bool}(hi:P.info? T=some i)(ha:DR P T=some ag){cs:List AV}{v:AV}{us:Array Value}{off:Nat}
  (hl:loadCells ag i.size (cs.drop off)=some v) (hr:AW w F m H cs us.toList) (h1:∀ u∈us.toList,u.oneCell'=true):∃ u,(part T us off).run P w = .ok u w∧Rep w F m H v u:=by
 unfold loadCells at hl
 cases ag with
 |true=>
  simp only at hl
  split at hl
  ·rename_i hle
   simp only[AUM]at hl;subst hl
   refine⟨.agg (us.extract off (off+i.size)),by simp[part,Bz ha,run_sizeOf hi],?_⟩
   unfold Rep
   refine⟨_,rfl,?_,?_⟩
   ·rw[Array.toList_extract,AWo,show off+i.size-off=i.size from by omega]
    exact J4 (Dp hr off) _
   ·intro u hu
    rw[Array.toList_extract,AWo]at hu
    exact h1 u (AVg (AWe hu))
  ·cases hl
 |false=>
  simp only at hl
  have hg:cs[off]? = some v:=by
   rw[List.head?_drop]at hl;exact hl
  obtain⟨u,h2,h3⟩:=Bx hr hg
  refine⟨u,?_,h3⟩
  have:us[off]? = some u:=by simpa using h2
  simp[part,Bz ha,this]
theorem AFQ(T:TypeId)(x:Operand)(f:Nat):Claim P E (.field T x f):=by
 intro R ty ρ H fz slot k r h
 simp only[evalOp]at h
 split at h
 ·cases h
 ·rename_i off size ag hf
  split at h
  ·rename_i cs hc hag
   split at h
   ·rename_i v hl
    refine⟨_,_,h,fun R' k'=>by simp only[evalOp,hf,hc,hag,hl],AS fun w F m ρc o hop hty hi hr => ?_⟩
    obtain⟨fs,fd,i,hu,hfd,hi0,rfl,rfl,ha⟩:=MM hf
    obtain⟨vs,e1⟩:=Mj hag (hr x)
    have hrc:=cells?_ok hc (hr x)
    have h1:=cells?_one hc (hr x)
    rw[e1]at hrc h1
    obtain⟨u,q1,q2⟩:=ACe (P:=P) hi0 ha hl hrc h1
    refine⟨u,?_,q2⟩
    simp only[Value.cells]at q1
    simp[execOp,hop,e1,Instr.field,run_underlying hu,hfd,Go.asAgg,q1]
   ·cases h
  ·cases h
theorem Wj(x:Operand)(i:Nat):Claim P E (.extract x i):=by
 intro R ty ρ H fz slot k r h
 simp only[evalOp]at h
 split at h
 ·rename_i vs hx
  split at h
  ·rename_i v hv
   refine⟨_,_,h,fun R' k'=>by simp only[evalOp,hx,hv],AS fun w F m ρc o hop hty hi hr => ?_⟩
   have hrx:=hr x
   rw[hx]at hrx
   unfold Rep at hrx
   obtain⟨us,e1,e2⟩:=hrx
   obtain⟨u,h1,h2⟩:=Bx e2 hv
   exact⟨u,by
    have:us[i]? = some u:=by simpa using h1
    simp[execOp,hop,e1,Instr.extract,this],h2⟩
  ·cases h
 ·cases h
end
end Go.Pev
end
section
namespace Go.Pev
open Go.RowKit
section
variable {P:Program} {E:Env}
theorem AE9{T:TypeId}{size:Nat}{ag:Bool}(h:elemAt P T=some (size,ag)):∃ n e i,P.underlying T=some (.array n e)∧P.info? e=some i∧i.size=size∧DR P e=some ag:=by
 unfold elemAt at h
 split at h
 ·rename_i n e hu
  split at h
  ·rename_i i ag' hi ha
   simp only[AUM,AUp]at h
   obtain⟨rfl,rfl⟩:=h
   exact⟨n,e,i,hu,hi,rfl,ha⟩
  ·cases h
 ·cases h
theorem Wc{x:Operand}{s:ByteArray}(h:UO x=some s):x = .const (.string s):=by
 unfold UO at h
 split at h
 ·simp only[AUM]at h;subst h;rfl
 ·cases h
theorem AFP(T:TypeId)(x y:Operand):Claim P E (.index T x y):=by
 intro R ty ρ H fz slot k r h
 simp only[evalOp]at h
 split at h
 ·rename_i s hcs
  split at h
  ·rename_i j i hu hy
   split at h
   ·rename_i b hb
    refine⟨_,_,h,fun R' k'=>by simp only[evalOp,hcs,hu,hy,hb],fun w F m a o next Q hop hty hi hr hn => ?_⟩
    have e2:=A5 (hy▸hr y)
    have hx:=Wc hcs
    subst hx
    rw[idx_eq]at hb
    unfold OJ at hb
    split at hb
    ·cases hb
    ·rename_i hi0
     have hi1:(0:Int)≤i:=Int.not_lt.1 hi0
     have he:a.eval (.const (.string s)) = .string s:=rfl
     have hrun:(execOp a.eval o).run P w = .ok (.value (.int .u8 b)) w:=by
      have hb':s[i.toNat]? = some (UInt8.ofNat b.toNat)∧((UInt8.ofNat b.toNat).toNat:Int)=b:=by
       unfold bytesOf at hb
       rw[AVQ,AUd]at hb
       obtain⟨c,h1,rfl⟩:=hb
       have e:UInt8.ofNat (c.toNat:Int).toNat=c:=by simp
       rw[e]
       refine⟨?_,rfl⟩
       rw[AWB]at h1
       have hlt:i.toNat<s.data.size:=by
        rcases AVF i.toNat s.data.size with h'|h'
        ·exact h'
        ·rw[Array.getElem?_eq_none h']at h1;cases h1
       rw[AVH hlt]at h1
       simp only[AUM]at h1
       have hlt2:i.toNat<s.size:=hlt
       rw[getElem?_pos s i.toNat hlt2]
       exact AV5 some h1
      have h2:=hb'.2
      generalize UInt8.ofNat b.toNat=c at hb' h2
      subst h2
      simp[execOp,hop,e2,he,Instr.index,asIntOf,run_underlying hu,hi1,hb'.1]
     unfold Oper.wp
     rw[hrun]
     have:=hn (.int .u8 b) w F m (At.refl hi) (Ao _ _)
     exact this
   ·cases h
  ·cases h
 ·rename_i hcs
  split at h
  ·rename_i size ag n e j i he hu hy
   split at h
   ·rename_i hd
    split at h
    ·rename_i cs hc hag
     split at h
     ·rename_i v hl
      refine⟨_,_,h,fun R' k'=>by simp only[evalOp,hcs,he,hu,hy,hd,hc,hag,hl],AS fun w F m ρc o hop hty hi hr => ?_⟩
      obtain⟨n',e',i',hu',hi0,rfl,ha⟩:=AE9 he
      rw[hu]at hu';cases hu'
      simp only[AUP]at hd
      obtain⟨vs,e1⟩:=Mj hag (hr x)
      have e2:=A5 (hy▸hr y)
      have hrc:=cells?_ok hc (hr x)
      have h1:=cells?_one hc (hr x)
      rw[e1]at hrc h1
      obtain⟨u,q1,q2⟩:=ACe (P:=P) hi0 ha hl hrc h1
      refine⟨u,?_,q2⟩
      simp only[Value.cells]at q1
      have hd1:0≤i:=hd.1
      have hd2:i<(n:Int):=hd.2
      simp[execOp,hop,e1,e2,Instr.index,asIntOf,run_underlying hu,hd1,hd2,run_sizeOf hi0,q1]
     ·cases h
    ·cases h
   ·cases h
  ·cases h
theorem DU{w:World}{T e:TypeId}{i:TypeInfo}(hu:P.underlying T=some (.slice e))(hi:P.info? e=some i)(ad:Addr)(len cap:Nat)(k:IntKind){n:Int}(h0:0≤n)(h1:n<len):
  (Instr.indexAt T (.slice (some ad) len cap) (.int k n)).run P w = .ok (.pointer (some (ad.add (n.toNat*i.size)))) w:=by
 simp[Instr.indexAt,asIntOf,run_underlying hu,h0,h1,run_sizeOf hi]
theorem Bw{w w':World}{ρc:Operand→Value}{o:Oper}{T:TypeId}{x y:Operand}{v n u:Value}(hop:o.op = .indexAddr T x y)(e1:ρc x=v)(e2:ρc y=n)
  (hrun:(Instr.indexAt T v n).run P w = .ok u w'):(execOp ρc o).run P w = .ok (.value u) w':=by simp[execOp,hop,e1,e2,hrun]
theorem Qe(T:TypeId)(x y:Operand):Claim P E (.indexAddr T x y):=by
 intro R ty ρ H fz slot k r h
 simp only[evalOp]at h
 split at h
 ·rename_i e j i hu hy
  split at h
  ·rename_i t xs hx
   split at h
   ·rename_i hsz
    split at h
    ·rename_i d hd
     refine⟨_,_,h,fun R' k'=>by simp only[evalOp,hu,hy,hx,hsz,hd],AS fun w F m ρc o hop hty hi hr => ?_⟩
     simp only[AUP]at hsz
     obtain⟨i',hi0,hsz'⟩:=BL hsz
     obtain⟨a1,a2,a3⟩:=A0 hd
     have hrx:=hr x
     rw[hx]at hrx
     have hrx:Dat w F (.slice t) xs [ρc x]:=hrx
     obtain⟨a,cap,e1,e2,e3⟩:=hrx
     simp only[AUl,and_true]at e1
     have hne:xs≠[]:=by rintro rfl;simp at a3
     obtain⟨ad,row,rfl,q2,q3,q4⟩:=e3 hne
     have hk:=fun(x:t.den) cs (h:Dat w F t x cs)=>Dat.length t h
     have hg:=Rz hk q3 a3
     refine⟨_,Bw hop e1 (A5 (hy▸hr y)) (DU hu hi0 ad _ cap j a1 a2),?_⟩
     unfold Rep
     refine⟨_,(row.drop (i.toNat*t.size)).take t.size,rfl,fun _=>by rw[J3];exact q2,GN t hg,Dat.Gk t hg,fun k u hu' => ?_⟩
     rw[add_add,hsz']
     rw[AVY]at hu'
     split at hu'
     ·rw[AVR]at hu'
      exact q4 _ u hu'
     ·cases hu'
    ·cases h
   ·cases h
  ·rename_i id hx
   split at h
   ·rename_i T' t xs ho
    split at h
    ·rename_i hsz
     split at h
     ·rename_i d hd
      refine⟨_,_,h,fun R' k'=>by simp only[evalOp,hu,hy,hx,ho,hsz,hd],AS fun w F m ρc o hop hty hi hr => ?_⟩
      simp only[AUP]at hsz
      obtain⟨i',hi0,hsz'⟩:=BL hsz
      obtain⟨a1,a2,a3⟩:=A0 hd
      have hrx:=hr x
      rw[hx]at hrx
      unfold Rep at hrx
      rw[ho]at hrx
      obtain⟨hpos,hob⟩:=hi.obj id _ ho
      cases hm:m id with
      |none=>rw[hm]at hob;simp only at hob;subst hob;simp at a3
      |some p=>
       obtain⟨b,cap⟩:=p
       rw[hm]at hrx
       simp only[BU]at hrx
       refine⟨_,Bw hop hrx (A5 (hy▸hr y)) (DU hu hi0 ⟨b,0,none⟩ _ cap j a1 a2),?_⟩
       unfold Rep
       rw[ho]
       exact⟨by unfold AF;omega,b,cap,hm,by rw[Ch,hsz'];simp[AF]⟩
     ·cases h
    ·cases h
   ·rename_i T' tgt is ho
    split at h
    ·rename_i hsz
     split at h
     ·rename_i d hd
      refine⟨_,_,h,fun R' k'=>by simp only[evalOp,hu,hy,hx,ho,hsz,hd],AS fun w F m ρc o hop hty hi hr => ?_⟩
      simp only[AUP]at hsz
      obtain⟨i',hi0,hsz'⟩:=BL hsz
      obtain⟨a1,a2,a3⟩:=A0 hd
      have hrx:=hr x
      rw[hx]at hrx
      unfold Rep at hrx
      rw[ho]at hrx
      have hob:=hi.obj id _ ho
      cases hm:m id with
      |none=>rw[hm]at hob;have hob:is=[]:=hob;subst hob;simp at a3
      |some p=>
       obtain⟨b,cap⟩:=p
       rw[hm]at hrx
       simp only[BU]at hrx
       refine⟨_,Bw hop hrx (A5 (hy▸hr y)) (DU hu hi0 ⟨b,0,none⟩ _ cap j a1 a2),?_⟩
       unfold Rep
       rw[ho]
       exact⟨by unfold AF;omega,b,cap,hm,by rw[Ch,hsz'];simp[AF]⟩
     ·cases h
    ·cases h
   ·cases h
  ·rename_i id off n hx
   split at h
   ·rename_i T' t xs ho
    split at h
    ·rename_i hsz
     split at h
     ·rename_i d hd
      refine⟨_,_,h,fun R' k'=>by simp only[evalOp,hu,hy,hx,ho,hsz,hd],AS fun w F m ρc o hop hty hi hr => ?_⟩
      simp only[AUP]at hsz
      obtain⟨i',hi0,hsz'⟩:=BL hsz
      obtain⟨a1,a2,a3⟩:=A0 hd
      have hrx:=hr x
      rw[hx]at hrx
      unfold Rep at hrx
      rw[ho]at hrx
      obtain⟨hle,hrx⟩:=hrx
      have hcl:(FL off n xs).length=n:=by unfold FL;rw[AUq,AVD];omega
      rw[hcl]at a2
      obtain⟨hpos,hob⟩:=hi.obj id _ ho
      cases hm:m id with
      |none=>
       rw[hm]at hob;simp only at hob;subst hob
       have:n=0:=by have:=hle;simp at this;exact this.2
       omega
      |some p=>
       obtain⟨b,cap⟩:=p
       rw[hm]at hrx hob
       obtain⟨vs,row,e1,e2,_⟩:=hob
       obtain⟨a,e3,e4⟩:=hrx
       have e4:=e4 (by omega)
       subst e4
       refine⟨_,Bw hop e3 (A5 (hy▸hr y)) (DU hu hi0 ⟨b,off*t.size,none⟩ _ _ j a1 a2),?_⟩
       unfold Rep
       rw[ho]
       exact⟨by unfold AF;omega,b,cap,hm,by rw[Ch,hsz'];simp[AF,AVJ]⟩
     ·cases h
    ·cases h
   ·cases h
  ·cases h
 ·rename_i n e j i hu hy
  split at h
  ·rename_i s hs hd
   obtain⟨i',hi0,rfl⟩:=BL hs
   have hd':=hd
   simp only[AUP]at hd'
   have hd1:0≤i:=hd'.1
   have hd2:i<(n:Int):=hd'.2
   have hrun:∀ (w:World) (ad:Addr),(Instr.indexAt T (.pointer (some ad)) (.int j i)).run P w = .ok (.pointer (some (ad.add (i.toNat*i'.size)))) w:=by
    intro w ad
    simp[Instr.indexAt,asIntOf,run_underlying hu,Instr.sureAddr,hd1,hd2,run_sizeOf hi0]
   split at h
   ·rename_i id o' hx
    split at h
    ·rename_i hl
     obtain⟨cs,ho⟩:=Hy hl
     refine⟨_,_,h,fun R' k'=>by simp only[evalOp,hu,hy,hs,hd,hx,hl],AS fun w F m ρc o hop hty hi hr => ?_⟩
     obtain⟨b,c,vs,T,e1,e2,_⟩:=Mi hi ho (hx▸hr x)
     refine⟨_,Bw hop e2 (A5 (hy▸hr y)) (hrun w _),?_⟩
     unfold Rep;rw[ho];exact⟨b,c,e1,by rw[Ch]⟩
    ·cases h
   ·rename_i id jj s hx
    split at h
    ·rename_i hl
     obtain⟨T',t,xs,ho⟩:=DA hl
     refine⟨_,_,h,fun R' k'=>by simp only[evalOp,hu,hy,hs,hd,hx,hl],AS fun w F m ρc o hop hty hi hr => ?_⟩
     obtain⟨b,c,vs,row,e1,e2,e3,_⟩:=J2 hi ho (hx▸hr x)
     refine⟨_,Bw hop e2 (A5 (hy▸hr y)) (hrun w _),?_⟩
     unfold Rep;rw[ho];exact⟨e3,b,c,e1,by rw[Ch,AWQ]⟩
    ·cases h
   ·rename_i cs hx
    refine⟨_,_,h,fun R' k'=>by simp only[evalOp,hu,hy,hs,hd,hx],AS fun w F m ρc o hop hty hi hr => ?_⟩
    have hrx:=hr x
    rw[hx]at hrx
    unfold Rep at hrx
    obtain⟨ad,us,e1,e2,e3,e4,e5⟩:=hrx
    refine⟨_,Bw hop e1 (A5 (hy▸hr y)) (hrun w _),?_⟩
    unfold Rep
    exact⟨_,us.drop (i.toNat*i'.size),rfl,fun hne=>by rw[J3];exact e2 (by rintro rfl;simp at hne),Dp e3 _,fun u hu=>e4 u (AVg hu),fun j u hu=>by
     rw[add_add];rw[AVR]at hu;exact e5 _ u hu⟩
   ·cases h
  ·cases h
 ·cases h
end
end Go.Pev
end
section
namespace Go.Pev
open Go.RowKit
section
variable {P:Program} {E:Env}
theorem ANo{α:Type}{a:Array α}{x:α}(h:a.toList=[x]):a = #[x]:=by rw[← AVp (xs:=a),h]
theorem ASy{α:Type}{a:Array α}{x y:α}(h:a.toList=[x,y]):a = #[x,y]:=by rw[← AVp (xs:=a),h]
theorem UG{w:World}{F:Nat→Prop}{a b:Ty}:∀ {es:List (a.den×b.den)} {ms:List MapEntry},Gg w F a b es ms→ms.length=es.length:=by
 intro es
 induction es with
 |nil=>rintro ms rfl;rfl
 |cons e es ih=>rintro ms ⟨me,ms',rfl,_,h⟩;simp[ih h]
theorem D6{w w':World}{ρc:Operand→Value}{o:Oper}{T:TypeId}{x:Operand}{v u:Value}(hop:o.op = .call { callee:=.builtin .len,args:=#[x],argTypes:=#[T] })(e1:ρc x=v)
  (hrun:(Builtin.len_ #[T] o.type #[v]).run P w = .ok u w'):(execOp ρc o).run P w = .ok (.value u) w':=by simp[execOp,hop,resolve,invoke,builtin,e1,hrun]
theorem Be{w:World}{T e ty:TypeId}(hu:P.underlying T=some (.slice e))(a:Option Addr)(n c:Nat):(Builtin.len_ #[T] ty #[.slice a n c]).run P w = .ok (.int .i64 n) w:=by
 simp[Builtin.len_,run_underlying hu,goInt]
theorem ANW(args:Array Operand)(ts:Array TypeId):Claim P E (.call { callee:=.builtin .len,args:=args,argTypes:=ts }):=by
 intro R ty ρ H fz slot k r h
 simp only[evalOp]at h
 split at h
 ·rename_i x T ha hts
  obtain rfl:=ANo ha
  obtain rfl:=ANo hts
  split at h
  ·rename_i e hu
   split at h
   ·rename_i t xs hx
    refine⟨_,_,h,fun R' k'=>by simp only[evalOp,hu,hx],AS fun w F m ρc o hop hty hi hr => ?_⟩
    have hrx:=hr x
    rw[hx]at hrx
    have hrx:Dat w F (.slice t) xs [ρc x]:=hrx
    obtain⟨a,cap,e1,_⟩:=hrx
    simp only[AUl,and_true]at e1
    exact⟨_,D6 hop e1 (Be hu _ _ _),Ao _ _⟩
   ·rename_i hx
    refine⟨_,_,h,fun R' k'=>by simp only[evalOp,hu,hx],AS fun w F m ρc o hop hty hi hr => ?_⟩
    have hrx:=hr x
    rw[hx]at hrx
    unfold Rep at hrx
    exact⟨_,D6 hop hrx (Be hu _ _ _),Ao _ _⟩
   ·rename_i id hx
    split at h
    ·rename_i T' t xs ho
     refine⟨_,_,h,fun R' k'=>by simp only[evalOp,hu,hx,ho],AS fun w F m ρc o hop hty hi hr => ?_⟩
     have hrx:=hr x
     rw[hx]at hrx
     unfold Rep at hrx
     rw[ho]at hrx
     obtain⟨_,hob⟩:=hi.obj id _ ho
     cases hm:m id with
     |none=>
      rw[hm]at hrx hob
      obtain⟨a,e1⟩:=hrx
      simp only at hob;subst hob
      exact⟨_,D6 hop e1 (Be hu _ _ _),Ao _ _⟩
     |some p=>
      rw[hm]at hrx
      exact⟨_,D6 hop hrx (Be hu _ _ _),Ao _ _⟩
    ·rename_i T' tgt is ho
     refine⟨_,_,h,fun R' k'=>by simp only[evalOp,hu,hx,ho],AS fun w F m ρc o hop hty hi hr => ?_⟩
     have hrx:=hr x
     rw[hx]at hrx
     unfold Rep at hrx
     rw[ho]at hrx
     have hob:=hi.obj id _ ho
     cases hm:m id with
     |none=>
      rw[hm]at hrx hob
      obtain⟨a,e1⟩:=hrx
      have hob:is=[]:=hob
      subst hob
      exact⟨_,D6 hop e1 (Be hu _ _ _),Ao _ _⟩
     |some p=>
      rw[hm]at hrx
      exact⟨_,D6 hop hrx (Be hu _ _ _),Ao _ _⟩
    ·cases h
   ·rename_i id off n hx
    split at h
    ·rename_i hl
     obtain⟨T',t,xs,ho⟩:=DA hl
     refine⟨_,_,h,fun R' k'=>by simp only[evalOp,hu,hx,hl],AS fun w F m ρc o hop hty hi hr => ?_⟩
     have hrx:=hr x
     rw[hx]at hrx
     unfold Rep at hrx
     rw[ho]at hrx
     obtain⟨_,hrx⟩:=hrx
     cases hm:m id with
     |none=>
      rw[hm]at hrx
      obtain⟨a,e1⟩:=hrx
      exact⟨_,D6 hop e1 (Be hu _ _ _),Ao _ _⟩
     |some p=>
      rw[hm]at hrx
      obtain⟨a,e1,_⟩:=hrx
      exact⟨_,D6 hop e1 (Be hu _ _ _),Ao _ _⟩
    ·cases h
   ·cases h
  ·rename_i kt vt hu
   split at h
   ·rename_i id hx
    split at h
    ·rename_i a b es ho
     refine⟨_,_,h,fun R' k'=>by simp only[evalOp,hu,hx,ho],AS fun w F m ρc o hop hty hi hr => ?_⟩
     have hrx:=hr x
     rw[hx]at hrx
     unfold Rep at hrx
     rw[ho]at hrx
     obtain⟨bb,c,e1,e2⟩:=hrx
     obtain⟨b',c',ms,clock,e3,e4,e5,_⟩:=hi.obj id _ ho
     rw[e1]at e3;cases e3
     refine⟨_,D6 hop e2 (u:=.int .i64 (ms.size:Int)) ?_,?_⟩
     ·simp[Builtin.len_,run_underlying hu,goInt,getObj,Sem.run,e4]
     ·have:=UG e5
      rw[AUi]at this
      rw[this]
      exact Ao _ _
    ·cases h
   ·cases h
  ·cases h
 ·cases h
theorem GW{w:World}{F:Nat→Prop}{m:Mp}{H:List Ob}{fz:List Bool}(hi:HI w F m H fz){t:Ty}{v:AV}{ys:List t.den}{fr:List Nat}(h:Ej H (.slice t) v=some (ys,fr)){u:Value}(hr:Rep w F m H v u):
  ∃ a cap,u = .slice a ys.length cap∧ys.length≤cap∧(ys≠[]→a.isSome=true)∧∃ news,rows (Dat w F t) ys news∧∀ ad,a=some ad→∀ j u,news[j]? = some u→w.cell? (ad.add j)=some u:=by
 change Df H (.slice t) v=some (ys,fr)at h
 unfold Df at h
 split at h
 ·rename_i t' d
  simp only[AUd,AUp]at h
  obtain⟨y,h1,rfl,rfl⟩:=h
  obtain⟨e,h2⟩:=Eg h1
  subst e;simp only at h2;subst h2
  have hrx:Dat w F (.slice t) d [u]:=hr
  obtain⟨a,cap,e1,e2,e3⟩:=hrx
  simp only[AUl,and_true]at e1
  refine⟨a,cap,e1,e2,fun hne => ?_,?_⟩
  ·obtain⟨ad,row,rfl,_⟩:=e3 hne;rfl
  ·by_cases hne:d=[]
   ·subst hne
    exact⟨[],rfl,fun ad _ j u hu=>by simp at hu⟩
   ·obtain⟨ad,row,rfl,q1,q2,q3⟩:=e3 hne
    exact⟨row,q2,fun ad' h=>by cases h;exact q3⟩
 ·simp only[AUM,AUp]at h
  obtain⟨rfl,rfl⟩:=h
  unfold Rep at hr
  exact⟨none,0,hr,AUV _,fun h=>absurd rfl h,[],rfl,fun ad _ j u hu=>by simp at hu⟩
 ·rename_i id
  split at h
  ·rename_i T e xs ho
   simp only[AUd,AUp]at h
   obtain⟨y,h1,rfl,rfl⟩:=h
   obtain⟨e',h2⟩:=Eg h1
   injection e' with e'
   subst e';simp only at h2;subst h2
   unfold Rep at hr
   rw[ho]at hr
   obtain⟨_,hob⟩:=hi.obj id _ ho
   cases hm:m id with
   |none=>
    rw[hm]at hr hob
    obtain⟨a,rfl⟩:=hr
    simp only at hob;subst hob
    exact⟨a,0,rfl,AUV _,fun h=>absurd rfl h,[],rfl,fun ad _ j u hu=>by simp at hu⟩
   |some p=>
    obtain⟨b,cap⟩:=p
    rw[hm]at hr hob
    obtain⟨vs,row,e1,e2,e3,e4,e5,e6⟩:=hob
    refine⟨_,cap,hr,e2,fun _=>rfl,row,e5,fun ad h j u hu => ?_⟩
    cases h
    rw[Ch,AVL,DE e1]
    exact CD e6 hu
  ·cases h
 ·rename_i id off n
  split at h
  ·rename_i T e xs ho
   simp only[AUd,AUp]at h
   obtain⟨y,h1,rfl,rfl⟩:=h
   obtain⟨e',h2⟩:=Eg h1
   injection e' with e'
   subst e';simp only at h2;subst h2
   unfold Rep at hr
   rw[ho]at hr
   obtain⟨hle,hr⟩:=hr
   have hcl:(FL off n xs).length=n:=by unfold FL;rw[AUq,AVD];omega
   obtain⟨_,hob⟩:=hi.obj id _ ho
   cases hm:m id with
   |none=>
    rw[hm]at hr hob
    obtain⟨a,rfl⟩:=hr
    simp only at hob;subst hob
    have hn:n=0:=by have:=hle;simp at this;exact this.2
    subst hn
    have hd:FL off 0 ([]:List e.den)=[]:=by simp[FL]
    exact⟨a,0,by rw[hcl],by rw[hcl];omega,fun h=>absurd hd h,[],by rw[hd];rfl,fun ad _ j u hu=>by simp at hu⟩
   |some p=>
    obtain⟨b,cap⟩:=p
    rw[hm]at hr hob
    obtain⟨vs,row,e1,e2,e3,e4,e5,e6⟩:=hob
    obtain⟨a,rfl,ha⟩:=hr
    have hk:=fun(x:e.den) cs (h:Dat w F e x cs)=>Dat.length e h
    have hrw:=EF hk n (HK hk off e5)
    refine⟨a,cap-off,by rw[hcl],by rw[hcl];omega,fun hne => ?_,_,hrw,fun ad h j u hu => ?_⟩
    ·have hn:0<n:=by
      rcases AVZ n with h0|h0
      ·exact absurd (AUr (hcl.trans h0)) hne
      ·exact h0
     rw[ha (by omega)];rfl
    ·have hn:0<n:=by
      rcases AVZ n with h0|h0
      ·subst h0;simp at hu
      ·exact h0
     rw[ha (by omega)]at h;cases h
     rw[Ch,DE e1]
     rw[AVY]at hu
     split at hu
     ·rw[AVR]at hu
      exact CD e6 hu
     ·cases hu
  ·cases h
 ·cases h
end
end Go.Pev
end
section
namespace Go.Pev
open Go.RowKit
section
variable {P:Program} {E:Env}
theorem At.kill{w:World}{F:Nat→Prop}{m:Mp}{H:List Ob}{fz:List Bool}(hi:HI w F m H fz){j:Nat}(hoj:owned H fz j):At w F m H fz w F m (H.set j .dead) fz:=by
 obtain⟨oj,hj,hjf,hjd⟩:=Cw hoj
 have hlt:=Ap hj
 have hgj:(H.set j .dead)[j]? = some .dead:=BK hlt
 have hcomp:Cc H (H.set j .dead) m m:=by
  intro i x hix hf
  by_cases hij:i=j
  ·subst hij;exact .inl hgj
  ·rcases Cc.refl H m i x hix hf with h|⟨hd,x',h4,h5,_⟩
   ·exact .inl (by rw[Aw hij];exact h)
   ·exact .inr ⟨hd,x',by rw[Aw hij];exact h4,h5,rfl⟩
 have hown:∀ i,owned (H.set j .dead) fz i→owned H fz i:=fun i hoi=>by
  by_cases hij:i=j
  ·subst hij;unfold owned at hoi;rw[hgj]at hoi;exact hoi.elim
  ·unfold owned at *;rw[Aw hij]at hoi;exact hoi
 refine⟨⟨rfl,rfl,rfl,AUV _,fun _ _ _=>rfl,fun _ h=>h,fun _ h=>.inl h,fun i b c h1 h2=>.inl ⟨i,c,hown i h1,h2⟩,hcomp⟩,⟨?_,?_,?_,?_,hi.lt,by simpa using hi.len⟩⟩
 ·intro id x hix
  by_cases hij:id=j
  ·subst hij;rw[hgj]at hix;cases hix;trivial
  ·rw[Aw hij]at hix
   exact ObI.mono (fun _ _=>rfl) (fun _ h=>h) hcomp (fun _ _ _ _ _ _=>rfl) (hi.obj id x hix)
 ·exact fun i k b c b' c' h1 h2=>hi.sep i k b c b' c' (hown i h1) (hown k h2)
 ·exact fun i b c h1=>hi.off i b c (hown i h1)
 ·intro i T t xs b c hio hf hmi
  by_cases hij:i=j
  ·subst hij;rw[hgj]at hio;cases hio
  ·rw[Aw hij]at hio
   exact hi.froz i T t xs b c hio hf hmi
theorem Kv{H:List Ob}{fz:List Bool}{slot j:Nat}{o:Ob}(h:Ay H fz slot=true)(hne:slot≠j):Ay (H.set j o) fz slot=true:=by
 unfold Ay at *
 rw[Aw hne];exact h
theorem B6{w w':World}{ρc:Operand→Value}{o:Oper}{T:TypeId}{s x:Operand}{v n u:Value}(hop:o.op = .call { callee:=.builtin .append,args:=#[s,x],argTypes:=#[T,T] })(e1:ρc s=v)(e2:ρc x=n)
  (hrun:(Builtin.append_ #[T,T] o.type #[v,n]).run P w = .ok u w'):(execOp ρc o).run P w = .ok (.value u) w':=by simp[execOp,hop,resolve,invoke,builtin,e1,e2,hrun]
theorem FH{w:World}{T e ty:TypeId}{i:TypeInfo}(hu:P.underlying T=some (.slice e))(hi:P.info? e=some i)(a:Option Addr){n cap:Nat}(hn:n≤cap)(A:Option Addr)(c:Nat):
  (Builtin.append_ #[T,T] ty #[.slice a n cap,.slice A 0 c]).run P w = .ok (.slice a n cap) w:=by
 have hf:(Builtin.firstCells i.size 0 (.slice A 0 c)).run P w = .ok #[] w:=by
  cases A with
  |none=>simp[Builtin.firstCells]
  |some ad=>simp[Builtin.firstCells,Go.loadCells,loadCellsFrom]
 cases a with
 |none=>simp[Builtin.append_,run_underlying hu,run_sizeOf hi,Builtin.lenOf,hn,hf]
 |some ad=>simp[Builtin.append_,run_underlying hu,run_sizeOf hi,Builtin.lenOf,hn,hf,storeCells]
structure AUK(w:World)(a:Option Addr)(n cap:Nat)(e:TypeId)(sz:Nat)(m:Nat)(old news:List Value)(v:Value)(w':World):Prop where
 os:w'.os=w.os
 tape:w'.tape=w.tape
 output:w'.output=w.output
 size:w.heap.size≤w'.heap.size
 keep:∀ k,k<w.heap.size→(∀ b,a=some ⟨b,0,none⟩→k≠b)→w'.heap[k]? = w.heap[k]?
 res:(m=0∧v = .slice a n cap∧w'=w)∨(∃ g cap' vs,v = .slice (some ⟨g,0,none⟩) (n+m) cap'∧w'.heap[g]? = some (.cells vs e (0,0))∧n+m≤cap'∧cap'≤maxLen∧vs.size=cap'*sz ∧
   vs.toList.take ((n+m)*sz)=old++news∧(w.heap.size≤g∨a=some ⟨g,0,none⟩))
theorem VN{w:World}{T e ty:TypeId}{i:TypeInfo}{z:Value}(hu:P.underlying T=some (.slice e))(hi:P.info? e=some i)(hz:i.zero=some z)(hzs:z.cells.size=i.size)(hsz:0<i.size)
  {b n cap:Nat} {vs:Array Value} (hb:w.heap[b]? = some (.cells vs e (0,0))) (hn:n≤cap) (hmax:cap≤maxLen) (hvs:vs.size=cap*i.size) {A:Option Addr} {m c:Nat} {news:List Value} (hl:news.length=m*i.size)
  (hA:0<m→A.isSome=true) (hnews:∀ ad,A=some ad→∀ j u,news[j]? = some u→w.cell? (ad.add j)=some u) (h1:∀ u∈news,u.oneCell'=true) (hfit:n+m≤4294967296) (hby:i.bytes≤1024) :
  ∃ v w',(Builtin.append_ #[T,T] ty #[.slice (some ⟨b,0,none⟩) n cap,.slice A m c]).run P w = .ok v w'∧AUK w (some ⟨b,0,none⟩) n cap e i.size m (vs.toList.take (n*i.size)) news v w':=by
 have hbytes:(n+m)*i.bytes≤140737488355328:=AVT (AWb hfit hby) (by omega)
 have hown:w.ownsRow 0 e i.size (.slice (some ⟨b,0,none⟩) n cap) n (vs.toList.take (n*i.size)):=by
  refine⟨?_,.inr ⟨b,cap,vs,rfl,AWT _,hb,hn,hmax,hvs,rfl⟩⟩
  rw[AUq,AUi,hvs]
  exact AVe (AU8 _ hn)
 cases A with
 |none=>
  have hm:m=0:=by
   rcases AVZ m with h0|h0
   ·exact h0
   ·exact absurd (hA h0) (by simp)
  subst hm
  exact⟨_,w,FH hu hi _ hn none c,rfl,rfl,rfl,AUV _,fun _ _ _=>rfl,.inl ⟨rfl,rfl,rfl⟩⟩
 |some ad=>
  obtain⟨v',w',hrun,⟨hl',hres⟩,hg,_,hat⟩:=run_append_own_at (P:=P) w 0 T ty e i z i.size i.bytes hu hi hz rfl rfl hzs hsz _ n _ hown ad m c news hl (hnews ad rfl) h1 (by simp only[maxLen];omega) hbytes (AWT _)
  refine⟨v',w',hrun,hg.os,hg.tape,hg.output,hg.size,fun k hk hne=>hg.block k hk (by simp[Value.ownBlock];exact hne b rfl),.inr ?_⟩
  rcases hres with⟨rfl,h0⟩|⟨g,cap',cur,rfl,_,h2,h3,h4,h5,h6⟩
  ·rcases hat with h|h<;>simp[Value.ownBlock]at h
  ·refine⟨g,cap',cur,rfl,h2,h3,h4,h5,h6,?_⟩
   rcases hat with h|h
   ·simp only[Value.ownBlock,AUM]at h;subst h;exact .inr rfl
   ·simp only[Value.ownBlock,AUM]at h;subst h;exact .inl (AUV _)
theorem JN{w:World}{T e ty:TypeId}{i:TypeInfo}{z:Value}(hu:P.underlying T=some (.slice e))(hi:P.info? e=some i)(hz:i.zero=some z)(hzs:z.cells.size=i.size)
  (a:Option Addr) {A:Option Addr} {m c:Nat} {news:List Value} (hl:news.length=m*i.size)
  (hA:0<m→A.isSome=true) (hnews:∀ ad,A=some ad→∀ j u,news[j]? = some u→w.cell? (ad.add j)=some u) (hfit:m≤4294967296) (hby:i.bytes≤1024) :
  ∃ v w',(Builtin.append_ #[T,T] ty #[.slice a 0 0,.slice A m c]).run P w = .ok v w'∧w'.os=w.os∧w'.tape=w.tape∧w'.output=w.output∧w.heap.size≤w'.heap.size∧(∀ k,k<w.heap.size→w'.heap[k]? = w.heap[k]?) ∧
   ((m=0∧v = .slice a 0 0)∨(∃ cap' vs,v = .slice (some ⟨w.heap.size,0,none⟩) m cap'∧w'.heap[w.heap.size]? = some (.cells vs e (0,0))∧m≤cap'∧cap'≤maxLen∧vs.size=cap'*i.size∧vs.toList.take (m*i.size)=news)):=by
 rcases AVZ m with h0|h0
 ·subst h0
  exact⟨_,w,FH hu hi a (AUV _) A c,rfl,rfl,rfl,AUV _,fun _ _=>rfl,.inl ⟨rfl,rfl⟩⟩
 ·obtain⟨ad,rfl⟩:=AV7.1 (hA h0)
  have hmb:m*i.bytes≤281474976710656:=AVT (AWb hfit hby) (by omega)
  have hge:=grownCap_ge w m 0 e
  have hle:=grownCap_le_maxLen w m 0 e (by simp only[maxLen];omega)
  have fin:∀ vs:Array Value,vs.toList=news++(Builtin.zeroCells z.cells (grownCap w m 0 e-m)).toList→vs.size=grownCap w m 0 e*i.size∧vs.toList.take (m*i.size)=news:=by
   intro vs hvs
   refine⟨?_,?_⟩
   ·rw[← AUi,hvs,AUb,hl,AUi,size_zeroCells,hzs,← AVJ]
    congr 1;omega
   ·rw[hvs,← hl];exact AWt
  cases a with
  |none=>
   have hr:=run_append_nil (P:=P) w T ty e i z hu hi hz ad m c news hl (hnews ad rfl) h0 (by omega) hmb
   obtain⟨f1,f2⟩:=fin (news.toArray++Builtin.zeroCells z.cells (grownCap w m 0 e-m)) (by simp)
   exact⟨_,_,hr,rfl,rfl,rfl,by simp,fun k hk=>heap_alloc_old w.drew _ k hk,.inr ⟨_,_,rfl,heap_alloc_new w.drew _,hge,hle,f1,f2⟩⟩
  |some b=>
   have hr:=run_append_grow (P:=P) w T ty e i z hu hi hz b 0 0 [] (by simp) (fun j v h=>by simp at h) ad m c news hl (hnews ad rfl) (by omega) (by omega) (by
    rw[AVL]
    have:Builtin.nextslicecap m 0=m:=nextslicecap_zero h0
    rw[this];exact hmb)
   simp only[AVL]at hr
   obtain⟨f1,f2⟩:=fin (([]:List Value).toArray++news.toArray++Builtin.zeroCells z.cells (grownCap w m 0 e-m)) (by simp)
   exact⟨_,_,hr,rfl,rfl,rfl,by simp,fun k hk=>heap_alloc_old w.drew _ k hk,.inr ⟨_,_,rfl,heap_alloc_new w.drew _,hge,hle,f1,f2⟩⟩
end
end Go.Pev
end
