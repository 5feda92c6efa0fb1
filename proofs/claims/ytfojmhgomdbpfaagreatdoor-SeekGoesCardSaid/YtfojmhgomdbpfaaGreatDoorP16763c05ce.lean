/- A part of the proofs of this seat: PevDec2 PevFlow PevFlow2 PevCall PevCall2 PevCall3 PevCall4 PevTop PevClone G29M1 G29M2. -/
import Derived.Test.YtfojmhgomdbpfaaGreatDoorP830505f25f
import Derived.LoopN
import Derived.Laws.Sem
import Derived.KernelRfl
import Derived.Lib.SliceRun
set_option linter.unusedVariables false
set_option linter.unusedSimpArgs false
set_option linter.unusedSectionVars false
set_option maxRecDepth 100000
section
namespace Go.Pev
open Go.RowKit
theorem AR3(f g:List Nat):∀ fz,Ak (f++g) fz=Ak g (Ak f fz):=by
 induction f with
 |nil=>intro fz;rfl
 |cons a f ih=>intro fz;simp only[Ajl,Ak];exact ih _
section
variable {w:World} {H:List Ob} {m:Mp} {val:Nat→Value} {tm:List AV}
theorem CO{fz:List Bool}{id:Nat}(h:Aj fz id=true):fz.getD id false=false:=by
 unfold Aj at h;simpa using h
theorem AU9:∀ (its:AE) (fz:List Bool) (bs:List Bnd) (F:Nat→Prop) (m':Mp) (E:St) (d:CB (leaves its)) (bs':List Bnd) (fr:List Nat),
  HI w F m H fz→(∀ t v,tm[t]? = some v→Rep w F m H v (val t))→Inv w F m H fz bs m' E val→dec tm H its fz bs=some (d,bs',fr) →
  ∃ F2 m2,Ap w F m H fz w F2 m H (Ak fr fz)∧Inv w F2 m H (Ak fr fz) bs' m2 (enc its d E) val∧∃ r,bs'=bs++r:=by
 intro its
 induction its with
 |nil=>
  intro fz bs F m' E d bs' fr hi ht hv h
  simp only[dec,AjH]at h
  obtain⟨rfl,rfl,rfl⟩:=h
  exact⟨F,m',Ap.refl hi,hv,[],by simp⟩
 |cons p r ih=>
  intro fz bs F m' E d bs' fr hi ht hv h
  obtain⟨l,c⟩:=p
  have obj:∀ (b:Bnd) (o:Ob) (lc:Option (Nat×Nat)) (ref:AV) (u:Value) (xs:CB (leaves r)) (g:List Nat),AVg w m H bs val l u→(∀ (i:Nat) (c:Bnd) (id:Nat),bs[i]? = some c→c.id? = some id→b.id?≠some id) →
    BP w F m H fz (upd m' E.heap.length lc) (E.heap++[o]) E.heap.length b→Rep w F (upd m' E.heap.length lc) (E.heap++[o]) ref u→dec tm H r fz (bs++[b])=some (xs,bs',g) →
    ∃ F2 m2,Ap w F m H fz w F2 m H (Ak g fz)∧Inv w F2 m H (Ak g fz) bs' m2 (enc r xs (place (Dt E o) ref l)) val∧∃ r,bs'=bs++r:=by
   intro b o lc ref u xs g hat hid hbd hrep hd
   have h1:=hv.add hid hbd
   have h2:=h1.place (hat.app b) hrep
   obtain⟨F2,m2,a1,a2,rr,a3⟩:=ih fz (bs++[b]) F _ _ xs bs' g hi ht h2 hd
   exact⟨F2,m2,a1,a2,b::rr,by rw[a3];simp⟩
  have ref:∀ (v:AV) (u:Value) (xs:CB (leaves r)) (g:List Nat),AVg w m H bs val l u→Rep w F m' E.heap v u→dec tm H r fz bs=some (xs,bs',g) →
    ∃ F2 m2,Ap w F m H fz w F2 m H (Ak g fz)∧Inv w F2 m H (Ak g fz) bs' m2 (enc r xs (place E v l)) val∧∃ r,bs'=bs++r:=by
   intro v u xs g hat hrep hd
   exact ih fz bs F _ _ xs bs' g hi ht (hv.place hat hrep) hd
  cases c with
  |dat t=>
   simp only[dec]at h
   split at h
   ·rename_i v hl
    split at h
    ·rename_i x f hx
     split at h
     ·rename_i hf
      split at h
      ·rename_i xs bs1 g hd
       simp only[AjH]at h
       obtain⟨rfl,rfl,rfl⟩:=h
       obtain⟨u,hu,hat⟩:=Bl hi ht hl
       have hdat:=AfC hi hx hu
       have hg:=Ap.freeze hi f
       have hv1:=hv.freeze hf
       have hv2:=hv1.place (v:=.data t x) hat (by unfold Rep;exact hdat)
       obtain⟨F2,m2,a1,a2,rr,a3⟩:=ih (Ak f fz) bs (DC F m H f) _ _ xs _ _ hg.2 (fun t v h=>hg.1.rep hi (ht t v h)) hv2 hd
       rw[AR3]
       exact⟨F2,m2,hg.trans a1,a2,rr,a3⟩
      ·cases h
     ·cases h
    ·cases h
   ·cases h
  |own T e=>
   simp only[dec]at h
   split at h
   ·rename_i e' hl
    split at h
    ·rename_i hc
     simp only[AjI]at hc
     have hsz:=hc
     split at h
     ·rename_i xs bs1 g hd
      simp only[AjH]at h
      obtain⟨rfl,rfl,rfl⟩:=h
      obtain⟨u,hu,hat⟩:=Bl hi ht hl
      unfold Rep at hu
      refine obj .none (.arr T e []) none (.own E.heap.length) u xs _ hat (fun _ _ _ _ _=>by simp[Bnd.id?]) ?_ ?_ hd
      ·simp only[BP]
       exact⟨As ..,.inl ⟨T,e,by simp,hsz⟩⟩
      ·unfold Rep A9
       simp only[Ajq (AjR _),Akj,Aj1,As]
       exact⟨_,hu⟩
     ·cases h
    ·cases h
   ·rename_i id hl
    split at h
    ·rename_i T' e' ys ho hfr
     simp only[AjJ]at hfr
     obtain⟨hun,hfr⟩:=hfr
     split at h
     ·rename_i ys' hT hc
      simp only[AjI]at hT
      subst hT
      obtain⟨he,hy⟩:=CP hc
      subst he
      simp only at hy
      subst hy
      split at h
      ·rename_i xs bs1 g hd
       simp only[AjH]at h
       obtain⟨rfl,rfl,rfl⟩:=h
       obtain⟨u,hu,hat⟩:=Bl hi ht hl
       refine obj (.whole id) (.arr T e' ys) (m id) (.own E.heap.length) u xs _ hat (fun i c id' hic hcid => ?_) ?_ ?_ hd
       ·rintro h;simp only[Bnd.id?,AjH]at h;subst h;exact FK hfr i c hic hcid
       ·simp only[BP]
        exact⟨As ..,.inl ⟨T,e',ys,ho,by simp,CO hun⟩⟩
       ·unfold Rep at hu ⊢
        rw[ho]at hu
        rw[Ajq (AjR _),Akj,Aj1,As]
        exact hu
      ·cases h
     ·cases h
    ·cases h
   ·rename_i id n hl
    split at h
    ·rename_i T' e' ys ho hfr
     simp only[AjJ]at hfr
     obtain⟨hun,hfr⟩:=hfr
     split at h
     ·rename_i ys' hT hc
      simp only[AjI]at hT
      subst hT
      obtain⟨he,hy⟩:=CP hc
      subst he
      simp only at hy
      subst hy
      split at h
      ·rename_i xs bs1 g hd
       simp only[AjH]at h
       obtain⟨rfl,rfl,rfl⟩:=h
       obtain⟨u,hu,hat⟩:=Bl hi ht hl
       unfold Rep G6 at hu
       rw[ho]at hu
       obtain⟨hle,hu⟩:=hu
       have hid:∀ (i:Nat) (c:Bnd) (id':Nat),bs[i]? = some c→c.id? = some id'→(Bnd.cut id).id?≠some id':=by
        intro i c id' hic hcid h;simp only[Bnd.id?,AjH]at h;subst h;exact FK hfr i c hic hcid
       have hget:(E.heap++[Ob.arr T e' (Bq n ys)])[E.heap.length]? = some (Ob.arr T e' (Bq n ys)):=by simp
       obtain⟨hsz,hob⟩:=hi.obj id _ ho
       have hnil:n=0→List.take (α:=e'.den) n ys=[]:=by rintro rfl;simp
       have hlen:List.length (α:=e'.den) (Bq n ys)=n:=by unfold Bq;rw[AjY];omega
       cases hm:m id with
       |none=>
        rw[hm]at hob hu
        simp only at hob hu
        subst hob
        have h0:n=0:=by simpa using hle
        subst h0
        obtain⟨a,rfl⟩:=hu
        refine obj (.cut id) (.arr T e' (Bq 0 [])) none (.own E.heap.length) _ xs _ hat hid ?_ ?_ hd
        ·simp only[BP]
         exact⟨T,e',[],0,ho,CO hun,hget,.inl (by rw[As,hm])⟩
        ·unfold Rep
         rw[hget,As]
         exact⟨a,rfl⟩
       |some p=>
        obtain⟨b,cap⟩:=p
        rw[hm]at hob hu
        obtain⟨a,rfl,ha⟩:=hu
        obtain⟨vs,row,o1,o2,o3,o4,o5,o6⟩:=hob
        by_cases hcap:cap=0
        ·subst hcap
         have h0:n=0:=by omega
         refine obj (.cut id) (.arr T e' (Bq n ys)) none (.own E.heap.length) _ xs _ hat hid ?_ ?_ hd
         ·simp only[BP]
          exact⟨T,e',ys,n,ho,CO hun,hget,.inr ⟨As ..,hnil h0⟩⟩
         ·unfold Rep
          rw[hget,As]
          exact⟨a,by rw[h0]⟩
        ·refine obj (.cut id) (.arr T e' (Bq n ys)) (m id) (.own E.heap.length) _ xs _ hat hid ?_ ?_ hd
         ·simp only[BP]
          exact⟨T,e',ys,n,ho,CO hun,hget,.inl (As ..)⟩
         ·unfold Rep A9
          rw[hget,As,hm]
          have:=ha (by omega)
          rw[this]
          simp[hlen]
      ·cases h
     ·cases h
    ·cases h
   ·cases h
  |box n=>
   simp only[dec]at h
   split at h
   ·rename_i id hl
    split at h
    ·rename_i cs ho hfr
     split at h
     ·rename_i hn
      simp only[AjI]at hn
      obtain⟨u,hu,hat⟩:=Bl hi ht hl
      obtain⟨b,cc,vs,T,b1,b2,b3,b4⟩:=hi.obj id _ ho
      refine obj (.whole id) (.box (List.replicate n .junk)) (m id) (.ptr E.heap.length 0) u d fr hat (fun i c id' hic hcid => ?_) ?_ ?_ h
      ·rintro h;simp only[Bnd.id?,AjH]at h;subst h;exact FK hfr i c hic hcid
      ·simp only[BP]
       refine⟨As ..,.inr (.inr (.inl ⟨cs,List.replicate n .junk,b,cc,vs,T,ho,by simp,by simp[hn],b1,b2,?_,b4⟩))⟩
       refine DW (by rw[Au b3];simp[hn]) fun i c v hc _ => ?_
       have:=Ak5 (AjW hc)
       subst this
       unfold Rep;trivial
      ·unfold Rep G7 at hu ⊢
       rw[ho]at hu
       rw[Ajq (AjR _),Akj,Aj1,As]
       exact hu
     ·cases h
    ·cases h
   ·cases h
  |map k v=>
   simp only[dec]at h
   split at h
   ·rename_i id hl
    split at h
    ·rename_i k' v' es ho hfr
     split at h
     ·rename_i es' hc
      obtain⟨he,hy⟩:=CP hc
      cases he
      simp only at hy
      subst hy
      split at h
      ·rename_i xs bs1 g hd
       simp only[AjH]at h
       obtain⟨rfl,rfl,rfl⟩:=h
       obtain⟨u,hu,hat⟩:=Bl hi ht hl
       refine obj (.whole id) (.map k v es) (m id) (.mp E.heap.length) u xs _ hat (fun i c id' hic hcid => ?_) ?_ ?_ hd
       ·rintro h;simp only[Bnd.id?,AjH]at h;subst h;exact FK hfr i c hic hcid
       ·simp only[BP]
        exact⟨As ..,.inr (.inl ⟨k,v,es,ho,by simp⟩)⟩
       ·unfold Rep MU at hu ⊢
        rw[ho]at hu
        rw[Ajq (AjR _),Akj,Aj1,As]
        exact hu
      ·cases h
     ·cases h
    ·cases h
   ·cases h
  |own' j=>
   simp only[dec]at h
   split at h
   ·rename_i id id' hl hj
    split at h
    ·rename_i hid
     simp only[AjI]at hid
     subst hid
     obtain⟨u,hu,hat⟩:=Bl hi ht hl
     exact ref (.own j) u d fr hat (AdM (hv.ob j _ hj) hu) h
    ·cases h
   ·cases h
  |ptr' j off=>
   simp only[dec]at h
   split at h
   ·rename_i id o id' hl hj
    split at h
    ·rename_i hid
     simp only[AjJ,AjI]at hid
     obtain⟨rfl,rfl⟩:=hid
     obtain⟨u,hu,hat⟩:=Bl hi ht hl
     exact ref (.ptr j o) u d fr hat (ASj (hv.ob j _ hj) hu) h
    ·cases h
   ·cases h
  |sub' j=>
   simp only[dec]at h
   split at h
   ·rename_i id off n id' hl hj
    split at h
    ·rename_i hid
     simp only[AjI]at hid
     subst hid
     split at h
     ·rename_i xs bs1 g hd
      simp only[AjH]at h
      obtain⟨rfl,rfl,rfl⟩:=h
      obtain⟨u,hu,hat⟩:=Bl hi ht hl
      exact ref (.win j off n) u xs _ hat (AQm (hv.ob j _ hj) hu) hd
     ·cases h
    ·cases h
   ·cases h
  |win' j=>
   simp only[dec]at h
   split at h
   ·rename_i id n id' hl hj
    split at h
    ·rename_i hid
     simp only[AjI]at hid
     subst hid
     split at h
     ·rename_i xs bs1 g hd
      simp only[AjH]at h
      obtain⟨rfl,rfl,rfl⟩:=h
      obtain⟨u,hu,hat⟩:=Bl hi ht hl
      exact ref (.win j 0 n) u xs _ hat (AQm (hv.ob j _ hj) hu) hd
     ·cases h
    ·cases h
   ·rename_i id id' hl hj
    split at h
    ·rename_i T t ys hid ho
     simp only[AjI]at hid
     subst hid
     split at h
     ·rename_i xs bs1 g hd
      simp only[AjH]at h
      obtain⟨rfl,rfl,rfl⟩:=h
      obtain⟨u,hu,hat⟩:=Bl hi ht hl
      exact ref (.win j 0 ys.length) u xs _ hat (AQm (hv.ob j _ hj) (AgV hi ho hu)) hd
     ·cases h
    ·cases h
   ·cases h
  |map' j=>
   simp only[dec]at h
   split at h
   ·rename_i id id' hl hj
    split at h
    ·rename_i hid
     simp only[AjI]at hid
     subst hid
     obtain⟨u,hu,hat⟩:=Bl hi ht hl
     exact ref (.mp j) u d fr hat (Aiw (hv.ob j _ hj) hu) h
    ·cases h
   ·cases h
  |clo f ps=>
   simp only[dec]at h
   split at h
   ·rename_i f' vs hl
    split at h
    ·rename_i hc
     simp only[AjJ,AjI]at hc
     obtain⟨rfl,hc⟩:=hc
     obtain⟨u,hu,hat⟩:=Bl hi ht hl
     unfold Rep at hu
     obtain⟨cs,rfl,hr⟩:=hu
     exact ref (.clo f (ps.map fun p=>.ptr p.1 p.2)) _ d fr hat (by unfold Rep;exact⟨cs,rfl,AhO hv.ob vs ps cs.toList hc hr⟩) h
    ·cases h
   ·cases h
  |bnd f j=>
   simp only[dec]at h
   split at h
   ·rename_i f' id id' hl hj
    split at h
    ·rename_i hc
     simp only[AjJ,AjI]at hc
     obtain⟨rfl,rfl⟩:=hc
     obtain⟨u,hu,hat⟩:=Bl hi ht hl
     unfold Rep at hu
     obtain⟨cs,rfl,hr⟩:=hu
     refine ref (.bnd f [.own j]) _ d fr hat ?_ h
     unfold Rep
     refine⟨cs,rfl,?_⟩
     unfold Ad at hr ⊢
     obtain⟨x,xs,e1,e2,e3⟩:=hr
     refine⟨x,xs,e1,AdM (hv.ob j _ hj) e2,?_⟩
     unfold Ad at e3 ⊢
     exact e3
    ·cases h
   ·cases h
  |prs T j=>
   simp only[dec]at h
   split at h
   ·rename_i e' hl
    split at h
    ·rename_i xs bs1 g hd
     simp only[AjH]at h
     obtain⟨rfl,rfl,rfl⟩:=h
     obtain⟨u,hu,hat⟩:=Bl hi ht hl
     unfold Rep at hu
     refine obj .none (.prs T j []) none (.own E.heap.length) u xs _ hat (fun _ _ _ _ _=>by simp[Bnd.id?]) ?_ ?_ hd
     ·simp only[BP]
      exact⟨As ..,.inr ⟨T,j,by simp⟩⟩
     ·unfold Rep A9
      simp only[Ajq (AjR _),Akj,Aj1,As]
      exact⟨_,hu⟩
    ·cases h
   ·rename_i id hl
    split at h
    ·rename_i T' tgt is tgt' ho hfr hj
     split at h
     ·rename_i hT
      simp only[AjJ,AjI]at hT
      obtain⟨rfl,rfl⟩:=hT
      split at h
      ·rename_i xs bs1 g hd
       simp only[AjH]at h
       obtain⟨rfl,rfl,rfl⟩:=h
       obtain⟨u,hu,hat⟩:=Bl hi ht hl
       have hbj:=hv.ob j _ hj
       have hob:=hi.obj id _ ho
       have hcomp:CM E.heap (E.heap++[.prs T j is]) m' (upd m' E.heap.length (m id)):=by
        intro i x hi hf
        have hlt:=Al hi
        rcases CM.refl E.heap m' i x hi hf with h|⟨hd,o',h4,h5,_⟩
        ·exact .inl (by rw[Ajo hlt];exact h)
        ·exact .inr ⟨hd,o',by rw[Ajo hlt];exact h4,h5,Fc (by omega),fun _ _ _=>EW (by simp)⟩
       have hob':ObI w F (upd m' E.heap.length (m id)) (E.heap++[.prs T j is]) (.prs T j is) (m id):=by
        cases hm:m id with
        |none=>rw[hm]at hob;exact hob
        |some p=>
         obtain⟨b,cap⟩:=p
         rw[hm]at hob hcomp
         obtain⟨vs,us,e1,e2,e3,e4,e5,e6⟩:=hob
         exact⟨vs,us,e1,e2,e3,e4,Ad.mono (fun _ _=>rfl) (fun _ h=>h) hcomp _ (AgJ hbj e5),e6⟩
       refine obj (.whole id) (.prs T j is) (m id) (.own E.heap.length) u xs _ hat (fun i c id' hic hcid => ?_) ?_ ?_ hd
       ·rintro h;simp only[Bnd.id?,AjH]at h;subst h;exact FK hfr i c hic hcid
       ·simp only[BP]
        exact⟨As ..,.inr (.inr (.inr (.inl ⟨T,tgt,j,is,ho,by simp,hob'⟩)))⟩
       ·unfold Rep at hu ⊢
        rw[ho]at hu
        rw[Ajq (AjR _),Akj,Aj1,As]
        exact hu
      ·cases h
     ·cases h
    ·cases h
   ·cases h
  |nil e=>
   simp only[dec]at h
   cases hl:look tm H bs l with
   |none=>rw[hl]at h;cases h
   |some v=>
    rw[hl]at h
    cases v with
    |nils e'=>
     obtain⟨u,hu,hat⟩:=Bl hi ht hl
     exact ref (.nils e) u d fr hat (by unfold Rep at *;exact hu) h
    |_=>cases h
  |rows T e t=>
   simp only[dec]at h
   split at h
   ·rename_i id hl
    split at h
    ·rename_i T' e' t' ys ver ho hfr
     simp only[AjJ]at hfr
     obtain⟨hun,hfr⟩:=hfr
     split at h
     ·rename_i ys' hT hc
      simp only[AjJ,AjI]at hT
      obtain⟨rfl,rfl⟩:=hT
      obtain⟨he,hy⟩:=CP hc
      cases he
      simp only at hy
      subst hy
      split at h
      ·rename_i xs bs1 g hd
       simp only[AjH]at h
       obtain⟨rfl,rfl,rfl⟩:=h
       obtain⟨u,hu,hat⟩:=Bl hi ht hl
       have hrep:Rep w F (Oc m' E.heap.length (m id) fun k=>m (.r id k)) (E.heap++[.rows (.arr T) e t ys 0 none]) (.own E.heap.length) u:=by
        unfold Rep at hu ⊢
        rw[ho]at hu
        rw[Ajq (AjR _),Akj,Aj1,Ku]
        exact hu
       have h1:=hv.Aih (b:=.whole id) (o:=.rows (.arr T) e t ys 0 none) (mn:=Oc m' E.heap.length (m id) fun k=>m (.r id k)) (fun x hx=>HG hx)
        (fun i c id' hic hcid h=>by simp only[Bnd.id?,AjH]at h;subst h;exact FK hfr i c hic hcid)
        (by simp only[BP];exact⟨Ku,.inr (.inr (.inr (.inr ⟨.arr T,e,t,ys,ver,ho,by simp,fun k=>AHR,CO hun⟩)))⟩)
       have h2:=h1.place (hat.app (.whole id)) hrep
       obtain⟨F2,m2,a1,a2,rr,a3⟩:=ih fz (bs++[.whole id]) F _ _ xs _ _ hi ht h2 hd
       exact⟨F2,m2,a1,a2,.whole id::rr,by rw[a3];simp⟩
      ·cases h
     ·cases h
    ·cases h
   ·cases h
  |mrows j e t=>
   simp only[dec]at h
   split at h
   ·rename_i id hl
    split at h
    ·rename_i j' ks e' t' ys ver ho hfr
     simp only[AjJ]at hfr
     obtain⟨hun,hfr⟩:=hfr
     split at h
     ·rename_i ys' hT hc
      simp only[AjJ,AjI]at hT
      obtain⟨rfl,rfl⟩:=hT
      obtain⟨he,hy⟩:=CP hc
      cases he
      simp only at hy
      subst hy
      split at h
      ·rename_i xs bs1 g hd
       simp only[AjH]at h
       obtain⟨rfl,rfl,rfl⟩:=h
       obtain⟨u,hu,hat⟩:=Bl hi ht hl
       have hrep:Rep w F (Oc m' E.heap.length (m id) fun k=>m (.r id k)) (E.heap++[.rows (.map j ks) e t ys 0 none]) (.mp E.heap.length) u:=by
        unfold Rep at hu ⊢
        rw[ho]at hu
        rw[Ajq (AjR _),Akj,Aj1,Ku]
        exact hu
       have h1:=hv.Aih (b:=.whole id) (o:=.rows (.map j ks) e t ys 0 none) (mn:=Oc m' E.heap.length (m id) fun k=>m (.r id k)) (fun x hx=>HG hx)
        (fun i c id' hic hcid h=>by simp only[Bnd.id?,AjH]at h;subst h;exact FK hfr i c hic hcid)
        (by simp only[BP];exact⟨Ku,.inr (.inr (.inr (.inr ⟨.map j ks,e,t,ys,ver,ho,by simp,fun k=>AHR,CO hun⟩)))⟩)
       have h2:=h1.place (hat.app (.whole id)) hrep
       have hzl:ks.length=List.length (α:=List t.den) ys:=by
        obtain⟨_,h4⟩:=hi.obj id _ ho
        cases hm:m id with
        |none=>rw[hm]at h4;cases h4.1
        |some p=>
         obtain⟨b,cap⟩:=p
         rw[hm]at h4
         obtain⟨_,_,_,_,_,h5,_⟩:=h4
         exact(h5.resolve_right fun h=>by cases h.1).symm
       have he:enc ((l,.mrows j e t)::r) ((List.zip (β:=List t.den) ks ys,xs):CB (leaves ((l,.mrows j e t)::r))) E=enc r xs (place (Dt E (.rows (.map j ks) e t ys 0 none)) (.mp E.heap.length) l):=by
        simp only[enc]
        rw[List.map_fst_zip (AlW hzl),List.map_snd_zip (AlW hzl.symm)]
       rw[he]
       obtain⟨F2,m2,a1,a2,rr,a3⟩:=ih fz (bs++[.whole id]) F _ _ xs _ _ hi ht h2 hd
       exact⟨F2,m2,a1,a2,.whole id::rr,by rw[a3];simp⟩
      ·cases h
     ·cases h
    ·cases h
   ·cases h
  |aptr T e n=>
   simp only[dec]at h
   split at h
   ·rename_i id n' hl
    split at h
    ·rename_i T' e' ys ho hfr
     simp only[AjJ]at hfr
     obtain⟨hun,hfr⟩:=hfr
     split at h
     ·rename_i ys' hT hc
      simp only[AjJ,AjI]at hT
      obtain⟨rfl,rfl⟩:=hT
      obtain⟨he,hy⟩:=CP hc
      subst he
      simp only at hy
      subst hy
      split at h
      ·rename_i xs bs1 g hd
       simp only[AjH]at h
       obtain⟨rfl,rfl,rfl⟩:=h
       obtain⟨u,hu,hat⟩:=Bl hi ht hl
       refine obj (.whole id) (.arr T e' ys) (m id) (.aptr E.heap.length n) u xs _ hat (fun i c id' hic hcid => ?_) ?_ ?_ hd
       ·rintro h;simp only[Bnd.id?,AjH]at h;subst h;exact FK hfr i c hic hcid
       ·simp only[BP]
        exact⟨As ..,.inl ⟨T,e',ys,ho,by simp,CO hun⟩⟩
       ·unfold Rep at hu ⊢
        rw[ho]at hu
        rw[Ajq (AjR _),Akj,Aj1,As]
        exact hu
      ·cases h
     ·cases h
    ·cases h
   ·cases h
  |bndp f j=>
   simp only[dec]at h
   split at h
   ·rename_i f' id id' hl hj
    split at h
    ·rename_i hc
     simp only[AjJ,AjI]at hc
     obtain⟨rfl,rfl⟩:=hc
     obtain⟨u,hu,hat⟩:=Bl hi ht hl
     unfold Rep at hu
     obtain⟨cs,rfl,hr⟩:=hu
     refine ref (.bnd f [.ptr j 0]) _ d fr hat ?_ h
     unfold Rep
     refine⟨cs,rfl,?_⟩
     unfold Ad at hr ⊢
     obtain⟨x,xs,e1,e2,e3⟩:=hr
     refine⟨x,xs,e1,ASj (hv.ob j _ hj) e2,?_⟩
     unfold Ad at e3 ⊢
     exact e3
    ·cases h
   ·cases h
  |nilp=>
   simp only[dec]at h
   cases hl:look tm H bs l with
   |none=>rw[hl]at h;cases h
   |some v=>
    rw[hl]at h
    cases v with
    |nilp=>
     obtain⟨u,hu,hat⟩:=Bl hi ht hl
     exact ref .nilp u d fr hat (by unfold Rep at *;exact hu) h
    |_=>cases h
  |aptr' j n=>
   simp only[dec]at h
   split at h
   ·rename_i id n' id' hl hj
    split at h
    ·rename_i hid
     simp only[AjJ,AjI]at hid
     obtain⟨rfl,rfl⟩:=hid
     obtain⟨u,hu,hat⟩:=Bl hi ht hl
     exact ref (.aptr j n) u d fr hat (AhV (hv.ob j _ hj) hu) h
    ·cases h
   ·cases h
end
end Go.Pev
end
section
namespace Go.Pev
open Go.RowKit
structure WD(np:Nat)(w:World)(F:Nat→Prop)(m:Mp)(H:List Ob)(fz:List Bool)(w':World)(F':Nat→Prop)(m':Mp)(H':List Ob)(fz':List Bool):Prop where
 os:w'.os=w.os
 tape:w'.tape=w.tape
 output:w'.output=w.output
 size:w.heap.size≤w'.heap.size
 keep:∀ b,b<w.heap.size→(∀ i c,owned H fz i→m i≠some (b,c))→w'.heap[b]? = w.heap[b]?
 sub:∀ b,F b→F' b
 bnd:∀ b,F' b→F b∨(∃ i c,owned H fz i∧m i=some (b,c))∨w.heap.size≤b
 own:∀ i b c,owned H' fz' i→m' i=some (b,c)→(∃ i c,owned H fz i∧m i=some (b,c))∨w.heap.size≤b
 comp:∀ (i:Nat) o,i<np→H[i]? = some o→o≠.free→H'[i]? = some .dead∨(o≠.dead∧∃ o',H'[i]? = some o'∧sameShape o o'∧m' i=m i∧(BV o=false→QZ o'=QZ o→∀ k,m' (.r i k)=m (.r i k)))
theorem Ext.toN{w w':World}{F F':Nat→Prop}{m m':Mp}{H H':List Ob}{fz fz':List Bool}(h:Ext w F m H fz w' F' m' H' fz')(np:Nat):WD np w F m H fz w' F' m' H' fz':=
 ⟨h.os,h.tape,h.output,h.size,h.keep,h.sub,h.bnd,h.own,fun i o _=>h.comp i o⟩
theorem WD.refl(np:Nat)(w:World)(F:Nat→Prop)(m:Mp)(H:List Ob)(fz:List Bool):WD np w F m H fz w F m H fz:=(Ext.refl ..).toN np
theorem WD.trans{np:Nat}{w w1 w2:World}{F F1 F2:Nat→Prop}{m m1 m2:Mp}{H H1 H2:List Ob}{fz fz1 fz2:List Bool}
  (h:WD np w F m H fz w1 F1 m1 H1 fz1) (k:WD np w1 F1 m1 H1 fz1 w2 F2 m2 H2 fz2):WD np w F m H fz w2 F2 m2 H2 fz2 where
 os:=k.os.trans h.os
 tape:=k.tape.trans h.tape
 output:=k.output.trans h.output
 size:=AkO h.size k.size
 keep b hb hn:=by
  rw[k.keep b (Akf hb h.size) ?_,h.keep b hb hn]
  intro i c ho he
  rcases h.own i b c ho he with⟨i',c',h1,h2⟩|h1
  ·exact hn i' c' h1 h2
  ·omega
 sub b hb:=k.sub b (h.sub b hb)
 bnd b hb:=by
  rcases k.bnd b hb with h1|⟨i,c,h1,h2⟩|h1
  ·exact h.bnd b h1
  ·rcases h.own i b c h1 h2 with h3|h3
   ·exact .inr (.inl h3)
   ·exact .inr (.inr h3)
  ·exact .inr (.inr (AkO h.size h1))
 own i b c h1 h2:=by
  rcases k.own i b c h1 h2 with⟨i',c',h3,h4⟩|h3
  ·exact h.own i' b c' h3 h4
  ·exact .inr (AkO h.size h3)
 comp i o hlt ho hf:=by
  rcases h.comp i o hlt ho hf with h1|⟨hd,o',h1,h2,h3,hp⟩
  ·rcases k.comp i _ hlt h1 (by simp)with h4|⟨h5,_⟩
   ·exact .inl h4
   ·exact absurd rfl h5
  ·have hf':o'≠.free:=by rintro rfl;cases o<;>simp[sameShape]at h2
   rcases k.comp i o' hlt h1 hf' with h4|⟨_,o'',h4,h5,h6,hq⟩
   ·exact .inl h4
   ·refine .inr ⟨hd,o'',h4,h2.trans h5,h6.trans h3,fun a b k => ?_⟩
    have h8:=h2.ver
    have h9:=h5.ver
    exact(hq (h8.2▸a) (by omega) k).trans (hp a (by omega) k)
section
variable {w:World} {F:Nat→Prop} {m:Mp} {H:List Ob} {fz:List Bool} {bs:List Bnd} {m':Mp} {E:St} {val:Nat→Value}
def Ix.at:Ix→Nat→Ix
 |.o _,i=>.o i
 |.r _ k,i=>.r i k
theorem Ix.Ahl(x:Ix)(i:Nat):(x.at i).id=i:=by cases x<;>rfl
theorem Inv.Ai7(h:Inv w F m H fz bs m' E val){i b c:Nat}(ho:owned E.heap E.frz i)(hm:m' i=some (b,c)):∃ x id,bs[i]? = some x∧x.id? = some id∧owned H fz id∧m id=some (b,c):=by
 obtain⟨o,hio,_,_⟩:=Ex ho
 have hlt:=Al hio
 rw[h.lenH]at hlt
 have hx:bs[i]? = some bs[i]:=AjM hlt
 have hb:=h.ob i _ hx
 cases hc:bs[i]with
 |none=>rw[hc]at hb;simp only[BP]at hb;rw[hb.1]at hm;cases hm
 |whole id=>
  rw[hc]at hb hx
  simp only[BP]at hb
  obtain⟨e,hb⟩:=hb
  refine⟨_,id,hx,rfl,?_,by rw[← e];exact hm⟩
  simp only[owned,Bs]
  rcases hb with⟨T,t,xs,a1,_,a3⟩|⟨k,v,es,a1,_⟩|⟨cs,cs',b,c,vs,T,a1,_⟩|⟨_,_,_,_,a1,_⟩|⟨_,_,_,_,_,a1,_,_,a4⟩
  ·rw[a1];exact a3
  ·rw[a1];trivial
  ·rw[a1];trivial
  ·rw[a1];trivial
  ·rw[a1];exact a4
 |cut id=>
  rw[hc]at hb hx
  simp only[BP]at hb
  obtain⟨T,t,xs,n,a1,a2,a3,a4⟩:=hb
  refine⟨_,id,hx,rfl,by simp only[owned,Bs];rw[a1];exact a2,?_⟩
  rcases a4 with a4|⟨a4,_⟩
  ·rw[← a4];exact hm
  ·rw[a4]at hm;cases hm
theorem Inv.rowAt(h:Inv w F m H fz bs m' E val){j:Nat}{T:RK}{e:TypeId}{t:Ty}{xs:List (List t.den)}{ver:Nat}{out:Option Nat}(hj:E.heap[j]? = some (.rows T e t xs ver out)):
  ∃ id ver',bs[j]? = some (.whole id)∧H[id]? = some (.rows T e t xs ver' none)∧out=none∧m' j=m id∧(∀ k,m' (.r j k)=m (.r id k))∧fz.getD id false=false:=by
 have hlt:=Al hj
 rw[h.lenH]at hlt
 have hx:bs[j]? = some bs[j]:=AjM hlt
 have hb:=h.ob j _ hx
 cases hc:bs[j]with
 |none=>
  rw[hc]at hb;simp only[BP]at hb
  rcases hb.2 with⟨T,e,e2,_⟩|⟨T,t,e2⟩<;>(rw[hj]at e2;cases e2)
 |whole id=>
  rw[hc]at hb hx;simp only[BP]at hb
  obtain⟨e0,hb⟩:=hb
  rcases hb with⟨T,t,xs,a1,a2,a3⟩|⟨k,v,es,a1,a2⟩|⟨cs,cs',b,c,vs,T,a1,a2,_⟩|⟨_,_,_,_,a1,a2,_⟩|⟨T,e,t,xs,ver,a1,a2,a3⟩
  ·rw[hj]at a2;cases a2
  ·rw[hj]at a2;cases a2
  ·rw[hj]at a2;cases a2
  ·rw[hj]at a2;cases a2
  ·rw[hj]at a2;cases a2
   exact⟨id,ver,hx,a1,rfl,e0,a3⟩
 |cut id=>
  rw[hc]at hb;simp only[BP]at hb
  obtain⟨T,t,xs,n,_,_,a3,_⟩:=hb
  rw[hj]at a3;cases a3
theorem Inv.src(h:Inv w F m H fz bs m' E val){i:Ix}{b c:Nat}(ho:owned E.heap E.frz i)(hm:m' i=some (b,c)):∃ x id,bs[i.id]? = some x∧x.id? = some id∧owned H fz (i.at id)∧m (i.at id)=some (b,c):=by
 cases i with
 |o i=>exact h.Ai7 ho hm
 |r i k=>
  simp only[owned]at ho
  split at ho
  ·rename_i T e t xs ver out hj
   obtain⟨id,ver',a1,a2,_,_,a5,a6⟩:=h.rowAt hj
   exact⟨_,id,a1,rfl,by simp only[owned,Ix.at];rw[a2];exact⟨ho.1,a6⟩,(a5 k).symm.trans hm⟩
  ·exact ho.elim
theorem Inv.hi(hi:HI w F m H fz)(h:Inv w F m H fz bs m' E val):HI w F m' E.heap E.frz where
 obj j o hj:=by
  have hlt:=Al hj
  rw[h.lenH]at hlt
  have hx:bs[j]? = some bs[j]:=AjM hlt
  have hb:=h.ob j _ hx
  cases hc:bs[j]with
  |none=>
   rw[hc]at hb
   simp only[BP]at hb
   obtain⟨e1,⟨T,e,e2,e3⟩|⟨T,t,e2⟩⟩:=hb
   ·rw[hj]at e2;cases e2
    exact⟨e3,by rw[e1]⟩
   ·rw[hj]at e2;cases e2
    rw[e1]
    exact(rfl:([]:List Int)=[])
  |whole id=>
   rw[hc]at hb
   simp only[BP]at hb
   obtain⟨e,hb⟩:=hb
   rcases hb with⟨T,t,xs,a1,a2,a3⟩|⟨k,v,es,a1,a2⟩|⟨cs,cs',b,c,vs,T,a1,a2,_,a4,a5,a6,a7⟩|⟨T,tgt,j0,is,a1,a2,a3⟩|⟨T,e',t,xs,ver,a1,a2,a3⟩
   ·rw[hj]at a2;cases a2
    rw[e];exact hi.obj id _ a1
   ·rw[hj]at a2;cases a2
    rw[e];exact hi.obj id _ a1
   ·rw[hj]at a2;cases a2
    exact⟨b,c,vs,T,e.trans a4,a5,a6,a7⟩
   ·rw[hj]at a2;cases a2
    rw[e];exact a3
   ·rw[hj]at a2;cases a2
    rw[e];exact hi.obj id _ a1
  |cut id=>
   rw[hc]at hb
   simp only[BP]at hb
   obtain⟨T,t,xs,n,a1,a2,a3,a4⟩:=hb
   rw[hj]at a3;cases a3
   obtain⟨h0,h1⟩:=hi.obj id _ a1
   refine⟨h0,?_⟩
   rcases a4 with a4|⟨a4,a5⟩
   ·rw[a4]
    cases hm:m id with
    |none=>
     rw[hm]at h1
     simp only at h1 ⊢
     rw[h1];simp
    |some p=>
     obtain⟨b,cap⟩:=p
     rw[hm]at h1
     simp only at h1 ⊢
     obtain⟨vs,row,b1,b2,b3,b4,b5,b6⟩:=h1
     refine⟨vs,row.take (n*t.size),b1,?_,b3,b4,Dz (fun x cs hx=>Dat.length t hx) n b5,?_⟩
     ·rw[AjY];omega
     ·rw[AjY,← AlV,b6]
   ·rw[a4];exact a5
 row i:=by
  intro T e t xs ver out hj k ys hk
  obtain⟨id,ver',a1,a2,rfl,a4,a5,_⟩:=h.rowAt hj
  obtain⟨h1,h2⟩:=hi.row id T e t xs ver' none a2 k ys hk
  rw[a5 k]
  refine⟨?_,fun _ => ?_⟩
  ·obtain⟨h0,h1⟩:=h1
   exact⟨h0,h1⟩
  ·obtain⟨b,cap,u,e1,e2⟩:=h2 (by simp)
   exact⟨b,cap,u,a4.trans e1,e2⟩
 rfz i T e t xs ver out hj hf:=by rw[h.frz i]at hf;cases hf
 sep i j b c b' c' h1 h2 hij h3 h4:=by
  obtain⟨x,id,k1,k2,k3,k4⟩:=h.src h1 h3
  obtain⟨y,id',l1,l2,l3,l4⟩:=h.src h2 h4
  refine hi.sep _ _ b c b' c' k3 l3 ?_ k4 l4
  intro he
  have hid:id=id':=by rw[← Ix.Ahl i id,he,Ix.Ahl]
  subst hid
  have:=h.inj _ _ x y id k1 l1 k2 l2
  cases i<;>cases j<;>simp only[Ix.at,Ix.id]at he this<;>(try cases he)<;>subst this<;>exact hij rfl
 off i b c h1 h2:=by
  obtain⟨x,id,k1,k2,k3,k4⟩:=h.src h1 h2
  exact hi.off _ b c k3 k4
 froz i T t xs b c h1 h2:=by rw[h.frz i]at h2;cases h2
 lt:=hi.lt
 glo:=hi.glo
 len:=h.lenF.symm
theorem ANH:∀ (n i:Nat) (bs:List Bnd),pins n i bs=true→∀ k,k<n→bs[k]? = some (.whole (i+k)):=by
 intro n
 induction n with
 |zero=>intro i bs _ k hk;omega
 |succ n ih=>
  intro i bs h k hk
  cases bs with
  |nil=>simp[pins]at h
  |cons b bs=>
   simp only[pins,AjJ,AjI]at h
   cases k with
   |zero=>simp[h.1]
   |succ k=>
    have:=ih (i+1) bs h.2 k (by omega)
    simp only[AlT]
    rw[this];congr 2;omega
theorem Inv.blank{val:Nat→Value}(n:Nat):Inv w F m H fz [] (fun _=>none) (Pev.blank n) val where
 tmps t:=by
  have:(Pev.blank n).tmps.getD t .junk = .junk:=by
   simp only[Pev.blank,AjK,Ali]
   split<;>rfl
  rw[this];unfold Rep;trivial
 lenH:=rfl
 lenF:=rfl
 frz i:=by simp[Pev.blank]
 ob j b h:=by simp at h
 inj i j b c id h:=by simp at h
theorem ASn(st:St)(v:AV)(l:Loc):(place st v l).tmps.length=st.tmps.length:=by
 cases l with
 |tmp t=>simp[place]
 |cell j c=>simp only[place];split<;>rfl
 |cap t i=>rfl
 |obj j=>rfl
theorem Aen:∀ (its:AE) (d:CB (leaves its)) (st:St),(enc its d st).tmps.length=st.tmps.length:=by
 intro its
 induction its with
 |nil=>intro d st;rfl
 |cons p r ih=>
  intro d st
  obtain⟨l,c⟩:=p
  cases c<;>exact(ih _ _).trans (ASn _ _ _)
theorem NT(n:Nat)(its:AE)(d:CB (leaves its)):(encode n its d).tmps.length=n:=by
 unfold encode;rw[Aen];simp[blank]
theorem AY0{F2:Nat→Prop}{fz2:List Bool}{np:Nat}(h:Inv w F2 m H fz2 bs m' E val)(hp:(pins np 0 bs&&(H.take np).all BV)=true):∀ (i:Nat) o,i<np→H[i]? = some o→o≠.free→E.heap[i]? = some .dead∨(o≠.dead∧∃ o',E.heap[i]? = some o'∧sameShape o o'∧m' i=m i∧(BV o=false→QZ o'=QZ o→∀ k,m' (.r i k)=m (.r i k))):=by
 intro i o hlt ho hf
 rw[AjJ]at hp
 obtain⟨hp,hall⟩:=hp
 have hpl:BV o=true:=Ajf.1 hall o (AjW (i:=i) (by rw[Aj8,AjV hlt];exact ho))
 suffices hs:E.heap[i]? = some .dead∨(o≠.dead∧∃ o',E.heap[i]? = some o'∧sameShape o o'∧m' i=m i)from
  hs.imp id fun ⟨a,o',b,c,d⟩=>⟨a,o',b,c,d,fun e=>by rw[hpl]at e;cases e⟩
 have h1:=ANH np 0 bs hp i hlt
 rw[AkK]at h1
 have hb:=h.ob i _ h1
 simp only[BP]at hb
 obtain⟨e,hb⟩:=hb
 right
 rcases hb with⟨T,t,xs,a1,a2,a3⟩|⟨k,v,es,a1,a2⟩|⟨cs,cs',b,c,vs,T,a1,a2,_,a4,a5,a6,a7⟩|⟨_,_,_,_,a1,a2,_⟩|⟨_,_,_,_,_,a1,a2,_⟩
 ·rw[ho]at a1;cases a1;exact⟨by simp,_,a2,⟨rfl,rfl⟩,e⟩
 ·rw[ho]at a1;cases a1;exact⟨by simp,_,a2,trivial,e⟩
 ·rw[ho]at a1;cases a1;exact⟨by simp,_,a2,trivial,e⟩
 ·rw[ho]at a1;cases a1;exact⟨by simp,_,a2,rfl,e⟩
 ·rw[ho]at a1;cases a1;cases hpl
theorem VQ{np nt:Nat}{st:St}{a:Act}{its:AE}{v:CB (leaves its)}(hs:SI w F m st a)(h:decode np nt st its=some v):
  ∃ F' m',SI w F' m' (encode nt its v) a∧WD np w F m st.heap st.frz w F' m' (encode nt its v).heap (encode nt its v).frz:=by
 unfold decode at h
 split at h
 ·rename_i hn
  simp only[AjI]at hn
  split at h
  ·rename_i v' bs fr hd
   split at h
   ·rename_i hp
    simp only[AjH]at h;subst h
    obtain⟨F2,m2,hg,hv,_⟩:=AU9 (val:=fun t=>a.tmps.getD t undef) its st.frz [] F (fun _=>none) (blank nt) v' bs fr hs.heap
     (fun t v ht=>by have:=hs.tmps t;rw[AjK,ht]at this;exact this) (Inv.blank nt) hd
    refine⟨F2,m2,⟨hv.tmps,by rw[NT,← hn];exact hs.size,hv.hi hg.2,hs.defers⟩,?_⟩
    refine⟨rfl,rfl,rfl,AjR _,fun _ _ _=>rfl,hg.1.sub,hg.1.bnd,fun i b c h1 h2 => ?_,AY0 hv hp⟩
    obtain⟨x,id,k1,k2,k3,k4⟩:=hv.src h1 h2
    exact hg.1.own _ b c k3 k4
   ·cases h
  ·cases h
 ·cases h
end
end Go.Pev
end
section
namespace Go.Pev
open Go.RowKit
theorem XN{R:Type}{all:List Oper}{g:Option (Nat×Bool)}{st:St}{yes no:St→Option R}{r:R}(h:guarded R all g st yes no=some r):
  ∃ st',(yes st'=some r∧∀ (R':Type) (yes' no':St→Option R'),guarded R' all g st yes' no'=yes' st')∨(no st'=some r∧∀ (R':Type) (yes' no':St→Option R'),guarded R' all g st yes' no'=no' st'):=by
 unfold guarded at h
 split at h
 ·exact⟨st,.inl ⟨h,fun _ _ _=>by simp[guarded]⟩⟩
 ·rename_i j want
  split at h
  ·cases h
  ·rename_i d hj
   split at h
   ·rename_i b hd
    cases b with
    |true=>
     cases want with
     |true=>exact⟨_,.inl ⟨h,fun _ _ _=>by simp only[guarded,hj,hd]⟩⟩
     |false=>exact⟨_,.inr ⟨h,fun _ _ _=>by simp only[guarded,hj,hd]⟩⟩
    |false=>
     cases want with
     |true=>exact⟨_,.inr ⟨h,fun _ _ _=>by simp only[guarded,hj,hd]⟩⟩
     |false=>exact⟨_,.inl ⟨h,fun _ _ _=>by simp only[guarded,hj,hd]⟩⟩
   ·rename_i hd
    exact⟨_,.inr ⟨h,fun _ _ _=>by simp only[guarded,hj,hd]⟩⟩
   ·cases h
section
variable {P:Program} {E:Env} {h:Hints}
theorem ASx(hE:∀ g,AR P g (E.spec g)){R:Type}{r:R}{all:List Oper}:∀ (ops:List Oper) (slot:Nat) (st:St) (k:St→Option R),Jh P E R all ops slot st k=some r →
  ∃ st',k st'=some r∧∀ (R':Type) (k':St→Option R'),Jh P E R' all ops slot st k'=k' st':=by
 intro ops
 induction ops with
 |nil=>intro slot st k h;exact⟨st,h,fun _ _=>rfl⟩
 |cons o ops ih=>
  intro slot st k h
  simp only[Jh]at h
  obtain⟨st1,h1⟩:=XN h
  rcases h1 with⟨h1,h2⟩|⟨h1,h2⟩
  ·obtain⟨v,e,h3,h4,_⟩:=Kf hE o.op _ _ _ _ _ _ _ r h1
   obtain⟨st2,h5,h6⟩:=ih _ _ _ h3
   exact⟨st2,h5,fun R' k'=>by simp only[Jh];rw[h2,h4];exact h6 R' k'⟩
  ·obtain⟨st2,h5,h6⟩:=ih _ _ _ h1
   exact⟨st2,h5,fun R' k'=>by simp only[Jh];rw[h2];exact h6 R' k'⟩
theorem AYB(hE:∀ g,AR P g (E.spec g)){R:Type}{r:R}{all:List Oper}{o:Oper}{φ:List Nat}{slot:Nat}{st:St}{k:St→Option R}(h:Wf P E R all o φ slot st k=some r):
  ∃ st',k st'=some r∧∀ (R':Type) (k':St→Option R'),Wf P E R' all o φ slot st k'=k' st':=by
 unfold Wf at h
 obtain⟨st1,h1⟩:=XN h
 rcases h1 with⟨h1,h2⟩|⟨h1,h2⟩
 ·split at h1
  ·rename_i hw
   obtain⟨v,e,h3,h4,_⟩:=Kf hE o.op _ _ _ _ _ _ _ r h1
   split at h3
   ·rename_i hok
    exact⟨_,h3,fun R' k'=>by unfold Wf;rw[h2];simp only[hw];rw[h4];simp only[hok]⟩
   ·cases h3
  ·cases h1
 ·exact⟨_,h1,fun R' k'=>by unfold Wf;rw[h2]⟩
theorem ANJ(hE:∀ g,AR P g (E.spec g)){R:Type}{r:R}{all:List Oper}:∀ (ops:List Oper) (fp:List (List Nat)) (slot:Nat) (st:St) (k:St→Option R),I4 P E R all ops fp slot st k=some r →
  ∃ st',k st'=some r∧∀ (R':Type) (k':St→Option R'),I4 P E R' all ops fp slot st k'=k' st':=by
 intro ops
 induction ops with
 |nil=>intro fp slot st k h;exact⟨st,h,fun _ _=>rfl⟩
 |cons o ops ih=>
  intro fp slot st k h
  simp only[I4]at h
  obtain⟨st1,h1,h2⟩:=AYB hE h
  obtain⟨st2,h5,h6⟩:=ih _ _ _ _ h1
  exact⟨st2,h5,fun R' k'=>by simp only[I4];rw[h2];exact h6 R' k'⟩
def AjC(P:Program)(np:Nat)(c:Code)(st:St)(e:Exit)(st':St):Prop:=
 ∀ (w:World) (F:Nat→Prop) (m:Mp) (a:Act) (Q:Exit→Act→World→Prop),SI w F m st a →
  (∀ a' w' F' m',SI w' F' m' st' a'→WD np w F m st.heap st.frz w' F' m' st'.heap st'.frz→Q e a' w')→c.wp P Q a w
def Aa(P:Program)(np:Nat)(c:Code)(go:(R:Type)→St→(Exit→St→Option R)→Option R):Prop:=
 ∀ (R:Type) (st:St) (k:Exit→St→Option R) (r:R),go R st k=some r→∃ e st',k e st'=some r∧(∀ (R':Type) (k':Exit→St→Option R'),go R' st k'=k' e st')∧AjC P np c st e st'
def DX(P:Program)(np:Nat)(h:Hints):Code→Nat→Prop
 |.seq a b,n=>DX P np h a n∧DX P np h b (n+loops a)
 |.cond _ a b,n=>DX P np h a n∧DX P np h b (n+loops a)
 |.block _ c,n=>DX P np h c n
 |.loop c,n=>Aa P np (.loop c) (h.loop n)
 |_,_=>True
theorem AXP{w:World}{F:Nat→Prop}{m:Mp}{st:St}{a:Act}(hs:SI w F m st a){c:Operand}{x:Bool}(hc:BX st.tmps c = .data .bool x):
  a.eval c = .bool x∧SI w F m { st with tmps:=PS st.tmps c x } a:=by
 have h1:Rep w F m st.heap (BX st.tmps c) (a.eval c):=ACc hs.tmps c
 rw[hc]at h1
 refine⟨?_,?_⟩
 ·unfold Rep Bi at h1
  simp only[Ty.isAgg,Aja,Ajb]at h1
  simpa [Dat]using h1
 ·cases c with
  |tmp t=>
   simp only[BX,AjK]at hc
   exact hs.lit (d:=t) (b:=x) (by
    cases ht:st.tmps[t]? with
    |none=>rw[ht]at hc;simp at hc
    |some v=>rw[ht]at hc;simp at hc;rw[hc])
  |const v=>exact hs
  |func f=>exact hs
  |global g=>exact hs
theorem LG(hE:∀ g,AR P g (E.spec g))(hL:JU E){np:Nat}:∀ (c:Code) (n:Nat),DX P np h c n→Aa P np c (fun R=>BF P E h R c n):=by
 intro c
 induction c with
 |skip=>
  intro n _ R st k r hk
  simp only[BF]at hk
  exact⟨_,_,hk,fun _ _=>rfl,fun w F m a Q hs hq=>wp_skip (hq a w F m hs (WD.refl ..))⟩
 |region id ops draw=>
  intro n _ R st k r hk
  cases draw with
  |false=>
   simp only[BF,Hc]at hk
   obtain⟨st',h1,h2⟩:=ASx hE _ _ _ _ hk
   refine⟨.normal,st',h1,fun R' k'=>by simp only[BF,Hc];exact h2 R' _,fun w F m a Q hs hq => ?_⟩
   have h3:Hc P E St ops.toList st some=some st':=by simp only[Hc];exact h2 St some
   refine AI6 hE h3 hs fun a' w' hp => ?_
   obtain⟨st1,F',m',e1,e2,e3⟩:=hp
   cases e1
   exact hq a' w' F' m' e2 (e3.toN np)
  |true=>
   simp only[BF]at hk
   have hk':=hk
   unfold Ec at hk
   split at hk
   ·rename_i hok
    obtain⟨st',h1,h2⟩:=ANJ hE _ _ _ _ _ hk
    refine⟨.normal,st',h1,fun R' k'=>by simp only[BF,Ec,hok];exact h2 R' _,fun w F m a Q hs hq => ?_⟩
    have h3:Ec P E St (h.fp id) ops.toList st some=some st':=by simp only[Ec,hok];exact h2 St some
    refine AEn hE hL h3 hs fun a' w' hp => ?_
    obtain⟨st1,F',m',e1,e2,e3⟩:=hp
    cases e1
    exact hq a' w' F' m' e2 (e3.toN np)
   ·cases hk
 |seq a b iha ihb=>
  intro n hl R st k r hk
  simp only[BF]at hk
  obtain⟨e,st1,h1,h2',h3⟩:=iha n hl.1 R st _ r hk
  have h2:∀ (R':Type) (k':Exit→St→Option R'),BF P E h R' a n st k'=k' e st1:=h2'
  by_cases he:e = .normal
  ·subst he
   simp only at h1
   obtain⟨e2,st2,k1,k2,k3⟩:=ihb _ hl.2 R st1 _ r h1
   refine⟨e2,st2,k1,fun R' k' => ?_,fun w F m act Q hs hq=>wp_seq ?_⟩
   ·simp only[BF];rw[h2];exact k2 R' k'
   ·refine h3 w F m act _ hs fun a' w' F' m' s1 x1 => ?_
    exact k3 w' F' m' a' Q s1 fun a2 w2 F2 m2 s2 x2=>hq a2 w2 F2 m2 s2 (x1.trans x2)
  ·have h1':k e st1=some r:=by cases e<;>first|exact absurd rfl he|exact h1
   refine⟨e,st1,h1',fun R' k' => ?_,fun w F m act Q hs hq=>wp_seq ?_⟩
   ·simp only[BF];rw[h2];cases e<;>first|exact absurd rfl he|rfl
   ·refine h3 w F m act _ hs fun a' w' F' m' s1 x1 => ?_
    have:=hq a' w' F' m' s1 x1
    cases e<;>first|exact absurd rfl he|exact this
 |cond c a b iha ihb=>
  intro n hl R st k r hk
  simp only[BF]at hk
  split at hk
  ·rename_i x hc
   cases x with
   |true=>
    obtain⟨e,st1,h1,h2,h3⟩:=iha _ hl.1 R _ _ r hk
    refine⟨e,st1,h1,fun R' k'=>by simp only[BF,hc];exact h2 R' k',fun w F m act Q hs hq => ?_⟩
    obtain⟨q1,q2⟩:=AXP hs hc
    exact wp_cond_true q1 (h3 w F m act Q q2 hq)
   |false=>
    obtain⟨e,st1,h1,h2,h3⟩:=ihb _ hl.2 R _ _ r hk
    refine⟨e,st1,h1,fun R' k'=>by simp only[BF,hc];exact h2 R' k',fun w F m act Q hs hq => ?_⟩
    obtain⟨q1,q2⟩:=AXP hs hc
    exact wp_cond_false q1 (h3 w F m act Q q2 hq)
  ·cases hk
 |block id c ih=>
  intro n hl R st k r hk
  simp only[BF]at hk
  obtain⟨e,st1,h1,h2',h3⟩:=ih n hl R st _ r hk
  have h2:∀ (R':Type) (k':Exit→St→Option R'),BF P E h R' c n st k'=k' e st1:=h2'
  have key:∃ e',k e' st1=some r∧(∀ (R':Type) (k':Exit→St→Option R'),BF P E h R' (.block id c) n st k'=k' e' st1)∧∀ (Q:Exit→Act→World→Prop) a' w',Q e' a' w'→Exit.inBlock id Q e a' w':=by
   cases e with
   |exit id'=>
    simp only at h1
    by_cases hid:id'=id
    ·subst hid
     simp only[AjU]at h1
     exact⟨.normal,h1,fun R' k'=>by simp only[BF];rw[h2];simp,fun Q a' w' hq=>by simp[Exit.inBlock,hq]⟩
    ·simp only[hid,Aji]at h1
     exact⟨.exit id',h1,fun R' k'=>by simp only[BF];rw[h2];simp[hid],fun Q a' w' hq=>by simp[Exit.inBlock,hid,hq]⟩
   |normal=>exact⟨_,h1,fun R' k'=>by simp only[BF];rw[h2],fun Q a' w' hq=>hq⟩
   |goto l=>exact⟨_,h1,fun R' k'=>by simp only[BF];rw[h2],fun Q a' w' hq=>hq⟩
   |ret=>exact⟨_,h1,fun R' k'=>by simp only[BF];rw[h2],fun Q a' w' hq=>hq⟩
   |panic l=>exact⟨_,h1,fun R' k'=>by simp only[BF];rw[h2],fun Q a' w' hq=>hq⟩
   |outgrown=>exact⟨_,h1,fun R' k'=>by simp only[BF];rw[h2],fun Q a' w' hq=>hq⟩
  obtain⟨e',k1,k2,k3⟩:=key
  exact⟨e',st1,k1,k2,fun w F m act Q hs hq=>wp_block (h3 w F m act _ hs fun a' w' F' m' s1 x1=>k3 Q a' w' (hq a' w' F' m' s1 x1))⟩
 |loop c ih=>
  intro n hl R st k r hk
  exact hl R st k r hk
 |exit id=>
  intro n _ R st k r hk
  simp only[BF]at hk
  exact⟨_,_,hk,fun _ _=>rfl,fun w F m a Q hs hq=>wp_exit (hq a w F m hs (WD.refl ..))⟩
 |ret=>
  intro n _ R st k r hk
  simp only[BF]at hk
  exact⟨_,_,hk,fun _ _=>rfl,fun w F m a Q hs hq=>wp_ret (hq a w F m hs (WD.refl ..))⟩
 |_=>intro n _ R st k r hk;simp[BF]at hk
theorem AaT{R:Type}{r:R}{nt:Nat}{k:Exit→St→Option R}:∀ (os:At) (x:Ol os),AGi nt k os x=some r→∃ e st',k e st'=some r∧∀ (R':Type) (k':Exit→St→Option R'),AGi nt k' os x=k' e st':=by
 intro os
 induction os with
 |nil=>intro x h;simp[AGi]at h
 |cons o os ih=>
  intro x h
  cases x with
  |inl d=>exact⟨_,_,h,fun _ _=>rfl⟩
  |inr x=>
   obtain⟨e,st',h1,h2⟩:=ih x h
   exact⟨e,st',h1,fun R' k'=>h2 R' k'⟩
theorem AMu{e e':Exit}(h:AAH e e'=true):e=e':=by
 cases e<;>cases e'<;>simp_all [AAH]
theorem AdN{np nt:Nat}{e:Exit}{st:St}:∀ (os:At) (x:Ol os),AGK np nt e st os=some x→∃ its d,decode np nt st its=some d∧∀ (R':Type) (k':Exit→St→Option R'),AGi nt k' os x=k' e (encode nt its d):=by
 intro os
 induction os with
 |nil=>intro x h;simp[AGK]at h
 |cons o os ih=>
  intro x h
  simp only[AGK]at h
  split at h
  ·rename_i hs
   split at h
   ·rename_i d hd
    simp only[AjH]at h;subst h
    exact⟨o.2,d,hd,fun R' k'=>by rw[AMu hs];rfl⟩
   ·cases h
  ·split at h
   ·rename_i y hy
    simp only[AjH]at h;subst h
    obtain⟨its,d,h1,h2⟩:=ih y hy
    exact⟨its,d,h1,fun R' k'=>h2 R' k'⟩
   ·cases h
theorem AZq{h':Hints}(hE:∀ g,AR P g (E.spec g))(hL:JU E){np nt n:Nat}{body:Code}{its:AE}{os:At}{stp:CB (leaves its)→Option (CB (leaves its)⊕Ol os)}
  (hstep:∀ v,stp v=roundOf P E h' n np nt body its os v) (hl:DX P np h' body n):Aa P np (.loop body) (Ab np nt its os stp):=by
 intro R st k r hk
 unfold Ab at hk
 split at hk
 ·cases hk
 ·rename_i v hv
  split at hk
  ·cases hk
  ·rename_i x hx
   obtain⟨e,st',h1,h2⟩:=AaT os x hk
   refine⟨e,st',h1,fun R' k'=>by simp only[Ab,hv,hx];exact h2 R' k',?_⟩
   have key:∀ (fuel:Nat) (v:CB (leaves its)),AY stp fuel v=some x→∀ (w:World) (F:Nat→Prop) (m:Mp) (a:Act) (Q:Exit→Act→World→Prop),SI w F m (encode nt its v) a →
     (∀ a' w' F' m',SI w' F' m' st' a'→WD np w F m (encode nt its v).heap (encode nt its v).frz w' F' m' st'.heap st'.frz→Q e a' w')→Code.rounds P body Q fuel a w:=by
    intro fuel
    induction fuel with
    |zero=>intro v h;simp[AY]at h
    |succ fuel ih=>
     intro v h w F m a Q hs hq
     simp only[AY]at h
     rw[hstep v]at h
     cases hr:roundOf P E h' n np nt body its os v with
     |none=>rw[hr]at h;cases h
     |some y=>
      rw[hr]at h
      unfold roundOf at hr
      obtain⟨e1,st1,g1,_,g3⟩:=LG hE hL body n hl _ _ _ _ hr
      show body.wp P (Exit.then (Code.rounds P body Q fuel) Q) a w
      refine g3 w F m a _ hs fun a' w' F' m' s1 x1 => ?_
      by_cases he:e1 = .normal
      ·subst he
       simp only[AM2]at g1
       split at g1
       ·rename_i d hd
        simp only[AjH]at g1;subst g1
        obtain⟨F2,m2,s2,x2⟩:=VQ s1 hd
        show Code.rounds P body Q fuel a' w'
        exact ih d h w' F2 m2 a' Q s2 fun a3 w3 F3 m3 s3 x3=>hq a3 w3 F3 m3 s3 (x1.trans (x2.trans x3))
       ·cases g1
      ·have g1':(match AGK np nt e1 st1 os with
        |some x=>some (Sum.inr x)
        |none=>none)=some y:=by
        cases e1<;>first|exact absurd rfl he|exact g1
       split at g1'
       ·rename_i z hz
        simp only[AjH]at g1';subst g1'
        simp only[AjH]at h;subst h
        obtain⟨its',d,o1,o2⟩:=AdN os _ hz
        obtain⟨F2,m2,s2,x2⟩:=VQ s1 o1
        have e3:=(h2 (Exit×St) fun e st=>some (e,st)).symm.trans (o2 (Exit×St) fun e st=>some (e,st))
        simp only[AjH,Ajk]at e3
        obtain⟨rfl,rfl⟩:=e3
        have:=hq a' w' F2 m2 s2 (x1.trans x2)
        cases e<;>first|exact absurd rfl he|exact this
       ·cases g1'
   intro w F m a Q hs hq
   obtain⟨F2,m2,s2,x2⟩:=VQ hs hv
   exact wp_loop_rounds many (key many v (by rw[← An];exact hx) w F2 m2 a Q s2 fun a3 w3 F3 m3 s3 x3=>hq a3 w3 F3 m3 s3 (x2.trans x3))
end
end Go.Pev
end
section
namespace Go.Pev
open Go.RowKit
section
variable {w:World} {F F0:Nat→Prop} {m m2:Mp} {H H2:List Ob} {ids:List Nat}
theorem Dat.flat:∀ (t:Ty),t.flat=true→∀ {d:t.den} {cs:List Value} {w0:World},Dat w F t d cs→Dat w0 F0 t d cs:=by
 intro t
 induction t with
 |unit=>exact fun _ _ _ _ h=>h
 |bool=>exact fun _ _ _ _ h=>h
 |int k=>exact fun _ _ _ _ h=>h
 |slice e _=>intro h;simp[Ty.flat]at h
 |mapi j e _=>intro h;simp[Ty.flat]at h
 |nul e=>exact fun _ _ _ _ h=>h
 |prod a b iha ihb=>
  intro h d cs w0 hd
  simp only[Ty.flat,AjJ]at h
  obtain⟨c1,c2,h1,h2,h3⟩:=hd
  exact⟨c1,c2,h1,iha h.1 h2,ihb h.2 h3⟩
 |arr n e ih=>
  intro h d cs w0 hd
  obtain⟨h1,h2⟩:=hd
  exact⟨h1,BM (fun x _ cs hx=>ih (by simpa [Ty.flat]using h) hx) h2⟩
theorem Bi.flat{t:Ty}(ht:t.flat=true){d:t.den}{v:Value}{w0:World}(h:Bi w F t d v):Bi w0 F0 t d v:=by
 unfold Bi at *
 split
 ·rename_i hg
  simp only[hg,Ajs]at h
  obtain⟨vs,e,hd⟩:=h
  exact⟨vs,e,hd.flat t ht⟩
 ·rename_i hg
  simp only[hg]at h
  exact Dat.flat t ht h
theorem Aaj{k v:Ty}(hk:k.flat=true)(hv:v.flat=true){w0:World}:∀ {es:List (k.den×v.den)} {ms:List MapEntry},Iu w F k v es ms→Iu w0 F0 k v es ms:=by
 intro es
 induction es with
 |nil=>exact fun h=>h
 |cons e es ih=>
  rintro ms ⟨me,ms',e1,⟨h1,h2⟩,h3⟩
  exact⟨me,ms',e1,⟨h1.flat hk,h2.flat hv⟩,ih h3⟩
mutual
theorem Rep.flat:∀ (a:AV) {v:Value},Jy a=true→Rep w F m H a v→Rep w F0 m H a v
 |.junk,_,_,_=>by unfold Rep;trivial
 |.data t d,v,hf,h=>by unfold Rep at *;exact h.flat (by simpa [Jy]using hf)
 |.nils _,v,_,h=>by unfold Rep at *;exact h
 |.agg cs,v,hf,h=>by
  unfold Rep at *
  obtain⟨vs,e,h,h1⟩:=h
  exact⟨vs,e,Ad.flat cs (by simpa [Jy]using hf) h,h1⟩
 |.own id,v,_,h=>by unfold Rep at *;exact h
 |.win id off n,v,_,h=>by unfold Rep at *;exact h
 |.ptr id off,v,_,h=>by unfold Rep at *;exact h
 |.eptr id i sub,v,_,h=>by unfold Rep at *;exact h
 |.dptr cs,v,hf,h=>by simp[Jy]at hf
 |.clo f caps,v,hf,h=>by
  unfold Rep at *
  obtain⟨cs,e,h⟩:=h
  exact⟨cs,e,Ad.flat caps (by simpa [Jy]using hf) h⟩
 |.bnd f caps,v,hf,h=>by
  unfold Rep at *
  obtain⟨cs,e,h⟩:=h
  exact⟨cs,e,Ad.flat caps (by simpa [Jy]using hf) h⟩
 |.str _,v,_,h=>by unfold Rep at *;exact h
 |.clip _ _,v,hf,h=>by simp[Jy]at hf
 |.mp id,v,_,h=>by unfold Rep at *;exact h
 |.rowp _ _ _,v,_,h=>by unfold Rep at *;exact h
 |.glob _,v,_,h=>by unfold Rep at *;exact h
 |.nilp,v,_,h=>by unfold Rep at *;exact h
 |.aptr _ _,v,_,h=>by unfold Rep at *;exact h
 |.tup vs,v,hf,h=>by
  unfold Rep at *
  obtain⟨us,e,h⟩:=h
  exact⟨us,e,Ad.flat vs (by simpa [Jy]using hf) h⟩
theorem Ad.flat:∀ (cs:List AV) {vs:List Value},Ke cs=true→Ad w F m H cs vs→Ad w F0 m H cs vs
 |[],vs,_,h=>by unfold Ad at *;exact h
 |c::cs,vs,hf,h=>by
  unfold Ad at *
  simp only[Ke,AjJ]at hf
  obtain⟨v,vs',e,h1,h2⟩:=h
  exact⟨v,vs',e,Rep.flat c hf.1 h1,Ad.flat cs hf.2 h2⟩
end
def AQg(ids:List Nat)(H H2:List Ob)(m m2:Mp):Prop:=∀ j o,H[j]? = some o→H2[ids.getD j 0]? = some (Dg ids o)∧m2 (ids.getD j 0)=m j
theorem Ey(hm:AQg ids H H2 m m2)(Q:Option Ob→Option (Nat×Nat)→Prop)(hnone:∀ l,¬ Q none l)(hbox:∀ cs l,Q (some (.box cs)) l→Q (some (.box (LC ids cs))) l)(hprs:∀ T t t' is l,Q (some (.prs T t is)) l→Q (some (.prs T t' is)) l)(j:Nat)(h:Q H[j]? (m j)):Q H2[ids.getD j 0]? (m2 (ids.getD j 0)):=by
 cases ho:H[j]? with
 |none=>rw[ho]at h;exact absurd h (hnone _)
 |some o=>
  rw[ho]at h
  obtain⟨h1,h2⟩:=hm j o ho
  rw[h1,h2]
  cases o<;>first|exact h|exact hbox _ _ h|exact hprs _ _ _ _ _ h
mutual
theorem Rep.ren(hm:AQg ids H H2 m m2):∀ (a:AV) {v:Value},Rep w F m H a v→Rep w F m2 H2 (ED ids a) v
 |.junk,_,_=>by simp only[ED];unfold Rep;trivial
 |.rowp _ _ _,_,_=>by simp only[ED];unfold Rep;trivial
 |.glob g,v,h=>by simp only[ED];unfold Rep at *;exact h
 |.nilp,v,h=>by simp only[ED];unfold Rep at *;exact h
 |.aptr id n,v,h=>by
  simp only[ED];unfold Rep at *
  exact Ey hm (fun o l=>FV o l n v) (fun l h=>h) (fun cs l h=>h) (fun _ _ _ _ l h=>h) id h
 |.data t d,v,h=>by simp only[ED];unfold Rep at *;exact h
 |.nils _,v,h=>by simp only[ED];unfold Rep at *;exact h
 |.agg cs,v,h=>by
  simp only[ED];unfold Rep at *
  obtain⟨vs,e,h,h1⟩:=h
  exact⟨vs,e,Ad.ren hm cs h,h1⟩
 |.own id,v,h=>by
  simp only[ED];unfold Rep at *
  exact Ey hm (fun o l=>A9 o l v) (fun l h=>h) (fun cs l h=>h) (fun _ _ _ _ l h=>h) id h
 |.win id off n,v,h=>by
  simp only[ED];unfold Rep at *
  exact Ey hm (fun o l=>G6 o l off n v) (fun l h=>h) (fun cs l h=>h) (fun _ _ _ _ l h=>h) id h
 |.ptr id off,v,h=>by
  simp only[ED];unfold Rep at *
  exact Ey hm (fun o l=>G7 o l off v) (fun l h=>h) (fun cs l h=>h) (fun _ _ _ _ l h=>h) id h
 |.eptr id i sub,v,h=>by
  simp only[ED];unfold Rep at *
  exact Ey hm (fun o l=>Cn o l i sub v) (fun l h=>h) (fun cs l h=>h) (fun _ _ _ _ l h=>h) id h
 |.dptr cs,v,h=>by
  simp only[ED];unfold Rep at *
  obtain⟨ad,us,e,h1,h2,h4,h3⟩:=h
  refine⟨ad,us,e,fun hne=>h1 (by rintro rfl;exact hne rfl),Ad.ren hm cs h2,h4,h3⟩
 |.clo f caps,v,h=>by
  simp only[ED];unfold Rep at *
  obtain⟨cs,e,h⟩:=h
  exact⟨cs,e,Ad.ren hm caps h⟩
 |.bnd f caps,v,h=>by
  simp only[ED];unfold Rep at *
  obtain⟨cs,e,h⟩:=h
  exact⟨cs,e,Ad.ren hm caps h⟩
 |.str _,v,h=>by simp only[ED];unfold Rep at *;exact h
 |.clip _ _,v,h=>by simp only[ED];unfold Rep at *;exact h
 |.mp id,v,h=>by
  simp only[ED];unfold Rep at *
  exact Ey hm (fun o l=>MU o l v) (fun l h=>h) (fun cs l h=>h) (fun _ _ _ _ l h=>h) id h
 |.tup vs,v,h=>by
  simp only[ED];unfold Rep at *
  obtain⟨us,e,h⟩:=h
  exact⟨us,e,Ad.ren hm vs h⟩
theorem Ad.ren(hm:AQg ids H H2 m m2):∀ (cs:List AV) {vs:List Value},Ad w F m H cs vs→Ad w F m2 H2 (LC ids cs) vs
 |[],vs,h=>by simp only[LC];unfold Ad at *;exact h
 |c::cs,vs,h=>by
  simp only[LC];unfold Ad at *
  obtain⟨v,vs',e,h1,h2⟩:=h
  exact⟨v,vs',e,Rep.ren hm c h1,Ad.ren hm cs h2⟩
end
theorem Ach(tgt:Nat)(is:List Int):LC ids (Fk tgt is)=Fk (ids.getD tgt 0) is:=by
 induction is with
 |nil=>rfl
 |cons x xs ih=>
  have:LC ids (Fk tgt (x::xs))=ED ids (.eptr tgt x.toNat 0)::LC ids (Fk tgt xs):=rfl
  rw[this,ih]
  rfl
theorem AaZ(tgt:Nat)(is:List Int):Ke (Fk tgt is)=true:=by
 induction is with
 |nil=>rfl
 |cons x xs ih=>
  have:Ke (Fk tgt (x::xs))=(Jy (.eptr tgt x.toNat 0)&&Ke (Fk tgt xs)):=rfl
  rw[this,ih]
  rfl
theorem ATf{i j k:Nat}:∀ {ids:List Nat},Ji ids=true→ids[i]? = some k→ids[j]? = some k→i=j:=by
 intro ids h
 have:ids.Nodup:=by
  induction ids with
  |nil=>exact List.nodup_nil
  |cons a ids ih=>
   simp only[Ji,AjJ,AkN,Ak1,AkB]at h
   exact Ajr.2 ⟨h.1,ih h.2⟩
 intro h1 h2
 exact(List.getElem?_inj (Ft h1) this).1 (h1.trans h2.symm)
theorem AMo{i:Nat}{o:Ob}:∀ (ids:List Nat) (os:List Ob) (H:List Ob) (j:Nat),Ji ids=true→ids[j]? = some i→os[j]? = some o→i<H.length→(BA (ids.zip os) H)[i]? = some o:=by
 intro ids
 induction ids with
 |nil=>intro os H j _ h;simp at h
 |cons a ids ih=>
  intro os H j hn h1 h2 hl
  cases os with
  |nil=>simp at h2
  |cons x os=>
   simp only[Ji,AjJ,AkN,Ak1,AkB]at hn
   simp only[All,BA]
   cases j with
   |zero=>
    simp only[Aj1,AjH]at h1 h2
    subst h1;subst h2
    rw[Ba _ _ fun p hp => ?_,Akh hl]
    rintro rfl
    exact hn.1 (List.of_mem_zip hp).1
   |succ j=>
    simp only[AlT]at h1 h2
    exact ih os _ j hn.2 h1 h2 (by simpa using hl)
def Jz:List Nat→Nat→Option Nat
 |[],_=>none
 |x::xs,i=>if x=i then some 0 else(Jz xs i).map (· + 1)
theorem XP{i j:Nat}:∀ {ids:List Nat},Jz ids i=some j→ids[j]? = some i:=by
 intro ids
 induction ids generalizing j with
 |nil=>intro h;simp[Jz]at h
 |cons a ids ih=>
  intro h
  simp only[Jz]at h
  split at h
  ·rename_i e;simp only[AjH]at h;subst h;simp[e]
  ·rw[AjX]at h
   obtain⟨k,h1,rfl⟩:=h
   simpa using ih h1
theorem APo{i:Nat}:∀ {ids:List Nat},Jz ids i=none→i∉ids:=by
 intro ids
 induction ids with
 |nil=>intro _;simp
 |cons a ids ih=>
  intro h
  simp only[Jz]at h
  split at h
  ·cases h
  ·rename_i hne
   rw[AmJ]at h
   simp only[AjN,not_or]
   exact⟨fun e=>hne e.symm,ih h⟩
theorem Aac{i j:Nat}{ids:List Nat}(hn:Ji ids=true)(h:ids[j]? = some i):Jz ids i=some j:=by
 cases hf:Jz ids i with
 |none=>exact absurd (AjW h) (APo hf)
 |some k=>rw[ATf hn h (XP hf)]
def mOf(ids:List Nat)(m3 m:Mp):Mp
 |.o i=>match Jz ids i with
  |some j=>m3 j
  |none=>m i
 |.r i k=>m (.r i k)
theorem AGf{fz:List Bool}:∀ {ids:List Nat} {bs:List Bnd},Fa H fz ids bs=true→∀ {j i:Nat},ids[j]? = some i→bs[j]? = some (.whole i)∨((∀ id,bs[j]?≠some (.whole id))∧Av H fz i=true):=by
 intro ids
 induction ids with
 |nil=>intro bs _ j i h;simp at h
 |cons a ids ih=>
  intro bs h j i hj
  simp only[Fa,AjJ]at h
  obtain⟨h1,h2⟩:=h
  cases j with
  |zero=>
   simp only[Aj1,AjH]at hj;subst hj
   split at h1
   ·rename_i id _
    simp only[AjI]at h1;subst h1
    exact .inl (by simp)
   ·rename_i hne
    refine .inr ⟨fun id he => ?_,h1⟩
    cases bs with
    |nil=>simp at he
    |cons b bs=>simp at he;subst he;exact hne id bs rfl
  |succ j=>
   simp only[AlT]at hj
   have:=ih h2 hj
   cases bs with
   |nil=>simpa using this
   |cons b bs=>simpa using this
theorem AaB:∀ (n:Nat) (bs:List Bnd) (slot:Nat),(Cl n bs slot).length=n:=by
 intro n
 induction n with
 |zero=>intro bs slot;cases bs<;>rfl
 |succ n ih=>
  intro bs slot
  cases bs with
  |nil=>simp[Cl,ih]
  |cons b bs=>cases b<;>simp[Cl,ih]
theorem BS(st:St)(v:AV)(l:Loc):(place st v l).heap.length=st.heap.length:=by
 cases l with
 |tmp t=>rfl
 |cell j c=>simp only[place];split<;>simp
 |cap t i=>rfl
 |obj j=>rfl
theorem Aeo:∀ (its:AE) (d:CB (leaves its)) (st:St),(enc its d st).heap.length=st.heap.length+C8 its:=by
 intro its
 induction its with
 |nil=>intro d st;rfl
 |cons p r ih=>
  intro d st
  obtain⟨l,c⟩:=p
  cases c with
  |dat t=>exact(ih _ _).trans (by rw[BS];rfl)
  |own T e=>exact(ih _ _).trans (by rw[BS];simp[Dt,C8];omega)
  |box n=>exact(ih _ _).trans (by rw[BS];simp[Dt,C8];omega)
  |map k v=>exact(ih _ _).trans (by rw[BS];simp[Dt,C8];omega)
  |prs T j=>exact(ih _ _).trans (by rw[BS];simp[Dt,C8];omega)
  |rows T e t=>exact(ih _ _).trans (by rw[BS];simp[Dt,C8];omega)
  |mrows j e t=>exact(ih _ _).trans (by rw[BS];simp[Dt,C8];omega)
  |aptr T e n=>exact(ih _ _).trans (by rw[BS];simp[Dt,C8];omega)
  |aptr' j n=>exact(ih _ _).trans (by rw[BS];rfl)
  |bndp f j=>exact(ih _ _).trans (by rw[BS];rfl)
  |nilp=>exact(ih _ _).trans (by rw[BS];rfl)
  |own' j=>exact(ih _ _).trans (by rw[BS];rfl)
  |ptr' j o=>exact(ih _ _).trans (by rw[BS];rfl)
  |map' j=>exact(ih _ _).trans (by rw[BS];rfl)
  |win' j=>exact(ih _ _).trans (by rw[BS];rfl)
  |sub' j=>exact(ih _ _).trans (by rw[BS];rfl)
  |clo f ps=>exact(ih _ _).trans (by rw[BS];rfl)
  |bnd f j=>exact(ih _ _).trans (by rw[BS];rfl)
  |nil e=>exact(ih _ _).trans (by rw[BS];rfl)
end
end Go.Pev
end
section
namespace Go.Pev
open Go.RowKit
theorem ABk{H:List Ob}{fz:List Bool}{i:Nat}{o:Ob}(h:H[i]? = some o)(ha:alive o)(hf:fz.getD i false=false):owned H fz i:=by
 simp only[owned,Bs]
 rw[h]
 cases o with
 |free=>exact ha.elim
 |dead=>exact ha.elim
 |box cs=>trivial
 |arr T t xs=>exact hf
 |map k v es=>trivial
 |prs T t is=>trivial
 |rows T e t xs ver out=>exact hf
theorem AQb{o:Ob}(h:alive o):o≠.free∧o≠.dead:=by
 constructor<;>rintro rfl<;>exact h
theorem C6{H:List Ob}{fz:List Bool}{ids:List Nat}{i:Ix}(h:owned H (Ak ids fz) i):owned H fz i:=Oq h
theorem AEh{o o1:Ob}{ids:List Nat}(h:sameShape o o1):sameShape o (Dg ids o1):=by
 cases o<;>cases o1<;>simp only[sameShape,Dg]at *<;>exact h
theorem UW{i:Nat}:∀ {bs:List Bnd},i∈given bs↔∃ j:Nat,bs[j]? = some (.whole i):=by
 intro bs
 induction bs with
 |nil=>simp[given]
 |cons b bs ih=>
  have step:(∃ j:Nat,(b::bs)[j]? = some (.whole i))↔b = .whole i∨∃ j:Nat,bs[j]? = some (.whole i):=by
   constructor
   ·rintro⟨j,hj⟩
    cases j with
    |zero=>simp only[Aj1,AjH]at hj;exact .inl hj
    |succ j=>simp only[AlT]at hj;exact .inr ⟨j,hj⟩
   ·rintro (h|⟨j,hj⟩)
    ·exact⟨0,by rw[h];rfl⟩
    ·exact⟨j+1,by simpa using hj⟩
  rw[step]
  cases b with
  |whole id=>simp only[given,AjN,ih,Bnd.whole.injEq];exact⟨fun h=>h.imp Eq.symm (fun x=>x),fun h=>h.imp Eq.symm (fun x=>x)⟩
  |none=>simp[given,ih]
  |cut id=>simp[given,ih]
theorem Wm(a b:List (Nat×Ob)):∀ H,BA (a++b) H=BA b (BA a H):=by
 induction a with
 |nil=>intro H;rfl
 |cons p a ih=>intro H;obtain⟨i,o⟩:=p;simp only[Ajl,BA];exact ih _
def DB(gv:List Nat)(H:List Ob):List Ob:=BA (gv.map fun i=>(i,.dead)) H
theorem AB9{gv:List Nat}{i:Nat}{H:List Ob}(h:i∉gv):(DB gv H)[i]? = H[i]? :=
 Ba _ _ fun p hp=>by
  rintro rfl
  obtain⟨x,hx,rfl⟩:=Ajc.1 hp
  exact h hx
theorem AZz:∀ {gv:List Nat} {i:Nat} {H:List Ob},i∈gv→i<H.length→(DB gv H)[i]? = some .dead:=by
 intro gv
 induction gv with
 |nil=>intro i H h;cases h
 |cons a gv ih=>
  intro i H h hl
  by_cases hg:i∈gv
  ·exact ih (H:=H.set a .dead) hg (by simpa using hl)
  ·have:(DB gv (H.set a .dead))[i]? = (H.set a .dead)[i]? := AB9 hg
   rcases AjN.1 h with rfl|h
   ·show(DB gv (H.set i .dead))[i]? = _
    rw[this,Akh hl]
   ·exact absurd h hg
theorem ACA(gv:List Nat)(H:List Ob):(DB gv H).length=H.length:=Wl ..
section
variable {w w':World} {F F2 F3 FR:Nat→Prop} {m m3:Mp} {H H1:List Ob} {fz fz1 fzR:List Bool} {bs:List Bnd} {ids fr:List Nat} {np:Nat}
theorem Aa2(hiC:HI w F m H fz)(gA:Ap w F m H fz w F2 m H (Ak fr fz))
  (giv:∀ (j id:Nat),bs[j]? = some (.whole id)→owned H (Ak fr fz) id)
  (inj:∀ (i j id:Nat),bs[i]? = some (.whole id)→bs[j]? = some (.whole id)→i=j)
  (pin:∀ (j id:Nat),(bs.take np)[j]? = some (.whole id)→∃ o o1,H[id]? = some o∧alive o∧H1[j]? = some o1∧sameShape o o1∧m3 j=m id)
  (blk:∀ (j b c:Nat),owned H1 fz1 j→m3 j=some (b,c)→(∃ id c':Nat,(bs.take np)[j]? = some (.whole id)∧m id=some (b,c'))∨(∃ k id c':Nat,np≤k∧bs[k]? = some (.whole id)∧m id=some (b,c'))∨w.heap.size≤b)
  (os:w'.os=w.os) (tape:w'.tape=w.tape) (output:w'.output=w.output) (size:w.heap.size≤w'.heap.size)
  (keep:∀ b,b<w.heap.size→(∀ (j id:Nat) (c:Nat),bs[j]? = some (.whole id)→m id≠some (b,c))→w'.heap[b]? = w.heap[b]?)
  (sub:∀ b,F2 b→F3 b) (bnd:∀ b,F3 b→F2 b∨(∃ (j id c:Nat),bs[j]? = some (.whole id)∧m id=some (b,c))∨w.heap.size≤b)
  (hi1:HI w' F3 m3 H1 fz1) (al1:∀ (j:Nat) (o:Ob),H1[j]? = some o→alive o) (pl1:∀ (j:Nat) (o:Ob),H1[j]? = some o→BV o=true) (fr1:∀ j,fz1.getD j false=false)
  (hlen:ids.length=H1.length) (hok:Fa H fzR ids (bs.take np)=true) (hnd:Ji ids=true)
  (hR:(FR=F∧fzR=fz∧H1.all P9=true)∨(FR=F3∧fzR=Ak fr fz)) :
  Ap w F m H fz w' FR (mOf ids m3 m) (BA (ids.zip (H1.map (Dg ids))) (DB (given (bs.drop np)) H)) fzR∧AQg ids H1 (BA (ids.zip (H1.map (Dg ids))) (DB (given (bs.drop np)) H)) m3 (mOf ids m3 m):=by
 have hiR:∃ FB,HI w FB m H fzR∧(∀ b,F b→FB b)∧(∀ b,FB b→FR b)∧(∀ b,FB b→F2 b):=by
  rcases hR with⟨e1,e2,_⟩|⟨e1,e2⟩
  ·exact⟨F,by rw[e2];exact hiC,fun _ h=>h,fun _ h=>by rw[e1];exact h,gA.1.sub⟩
  ·exact⟨F2,by rw[e2];exact gA.2,gA.1.sub,fun b h=>by rw[e1];exact sub b h,fun _ h=>h⟩
 obtain⟨FB,hiB,hFB,hBR,hB2⟩:=hiR
 have ownR:∀ {i},owned H fzR i→owned H fz i:=by
  intro i h
  rcases hR with⟨_,e2,_⟩|⟨_,e2⟩
  ·rw[e2]at h;exact h
  ·rw[e2]at h;exact C6 h
 have pinR:∀ {id},owned H (Ak fr fz) id→owned H fzR id:=by
  intro id h
  rcases hR with⟨_,e2,_⟩|⟨_,e2⟩
  ·rw[e2];exact C6 h
  ·rw[e2];exact h
 have FR3:∀ b,FR b→F3 b:=by
  rcases hR with⟨e1,_,_⟩|⟨e1,_⟩
  ·rw[e1];exact fun b h=>sub b (gA.1.sub b h)
  ·rw[e1];exact fun _ h=>h
 have tk:∀ {j id:Nat},(bs.take np)[j]? = some (.whole id)→j<np∧bs[j]? = some (.whole id):=by
  intro j id h
  rw[Aj8]at h
  split at h
  ·rename_i hj;exact⟨hj,h⟩
  ·cases h
 have tk':∀ {j id:Nat},j<np→bs[j]? = some (.whole id)→(bs.take np)[j]? = some (.whole id):=by
  intro j id hj h
  rw[Aj8,AjV hj];exact h
 have gvI:∀ {i:Nat},i∈given (bs.drop np)→∃ k,np≤k∧bs[k]? = some (.whole i):=by
  intro i h
  obtain⟨j,hj⟩:=UW.1 h
  rw[AkI]at hj
  exact⟨np+j,by omega,hj⟩
 have gvO:∀ {i k:Nat},np≤k→bs[k]? = some (.whole i)→i∈given (bs.drop np):=by
  intro i k hk h
  refine UW.2 ⟨k-np,?_⟩
  rw[AkI,show np+(k-np)=k by omega];exact h
 have hids:∀ {j i:Nat},ids[j]? = some i→(∃ o,H[i]? = some o)∧((bs.take np)[j]? = some (.whole i)∨((∀ (id:Nat),(bs.take np)[j]?≠some (.whole id))∧H[i]? = some .free∧fzR.getD i false=false)):=by
  intro j i hj
  rcases AGf hok hj with h|⟨h1,h2⟩
  ·obtain⟨o,o1,ho,_⟩:=pin j i h
   exact⟨⟨o,ho⟩,.inl h⟩
  ·obtain⟨h3,h4⟩:=BO h2
   exact⟨⟨_,h3⟩,.inr ⟨h1,h3,h4⟩⟩
 have gvN:∀ {i:Nat},i∈ids→i∉given (bs.drop np):=by
  intro i hi hg
  obtain⟨j,hj⟩:=Al3 hi
  obtain⟨k,hk,hb⟩:=gvI hg
  rcases(hids hj).2 with h|⟨_,h,_⟩
  ·obtain⟨h1,h2⟩:=tk h
   have:=inj _ _ _ h2 hb
   omega
  ·obtain⟨o,h1,h2,_⟩:=Ex (giv k i hb)
   rw[h]at h1;cases h1;exact h2 rfl
 have hunf:∀ {j i:Nat},ids[j]? = some i→∀ {o1:Ob},H1[j]? = some o1→∀ {T:TypeId} {t:Ty} {xs:List t.den},o1 = .arr T t xs→fzR.getD i false=false:=by
  intro j i hj o1 ho1 T t xs he
  rcases(hids hj).2 with h|⟨_,_,h⟩
  ·obtain⟨o,o2,ho,_,ho2,hs,_⟩:=pin j i h
   rw[ho1]at ho2;cases ho2
   subst he
   have h2:=pinR (giv j i (tk h).2)
   simp only[owned,Bs]at h2
   rw[ho]at h2
   cases o<;>simp only[sameShape]at hs
   exact h2
  ·exact h
 have hwhole:∀ {j id:Nat},(bs.take np)[j]? = some (.whole id)→ids[j]? = some id:=by
  intro j id hb
  obtain⟨o,o1,_,_,ho1,_⟩:=pin j id hb
  have hl:=Al ho1
  rw[← hlen]at hl
  have hg:ids[j]? = some ids[j]:=AjM hl
  rcases AGf hok hg with h|⟨h,_⟩
  ·rw[hb]at h;cases h;exact hg
  ·exact absurd hb (h id)
 have hgv:∀ {i:Nat},i∈given (bs.drop np)→(DB (given (bs.drop np)) H)[i]? = some .dead:=by
  intro i hi
  obtain⟨k,_,hb⟩:=gvI hi
  obtain⟨o,ho,_⟩:=Ex (giv k i hb)
  exact AZz hi (Al ho)
 have getIn:∀ {j i:Nat} {o1:Ob},ids[j]? = some i→H1[j]? = some o1→(BA (ids.zip (H1.map (Dg ids))) (DB (given (bs.drop np)) H))[i]? = some (Dg ids o1):=by
  intro j i o1 hj ho1
  obtain⟨⟨o,ho⟩,_⟩:=hids hj
  exact AMo ids _ _ j hnd hj (by rw[Akd,ho1];rfl) (by rw[ACA];exact Al ho)
 have getOut0:∀ {i:Nat},i∉ids→(BA (ids.zip (H1.map (Dg ids))) (DB (given (bs.drop np)) H))[i]? = (DB (given (bs.drop np)) H)[i]? := by
  intro i hi
  exact Ba _ _ fun p hp=>by rintro rfl;exact hi (List.of_mem_zip hp).1
 have getOut:∀ {i:Nat},i∉ids→i∉given (bs.drop np)→(BA (ids.zip (H1.map (Dg ids))) (DB (given (bs.drop np)) H))[i]? = H[i]? := by
  intro i hi hg
  rw[getOut0 hi,AB9 hg]
 have getGv:∀ {i:Nat},i∈given (bs.drop np)→(BA (ids.zip (H1.map (Dg ids))) (DB (given (bs.drop np)) H))[i]? = some .dead:=by
  intro i hg
  rw[getOut0 fun h=>gvN h hg,hgv hg]
 have mIn:∀ {j i:Nat},ids[j]? = some i→mOf ids m3 m i=m3 j:=by
  intro j i hj;simp only[mOf];rw[Aac hnd hj]
 have mOut:∀ {x:Ix},x.id∉ids→mOf ids m3 m x=m x:=by
  intro x hi
  cases x with
  |r i k=>rfl
  |o i=>
   simp only[mOf]
   cases hf:Jz ids i with
   |none=>rfl
   |some j=>exact absurd (AjW (XP hf)) hi
 have inOut:∀ i:Nat,(∃ j:Nat,ids[j]? = some i)∨i∈given (bs.drop np)∨(i∉ids∧i∉given (bs.drop np)):=by
  intro i
  by_cases h:i∈ids
  ·obtain⟨j,hj⟩:=Al3 h;exact .inl ⟨j,hj⟩
  ·by_cases h2:i∈given (bs.drop np)
   ·exact .inr (.inl h2)
   ·exact .inr (.inr ⟨h,h2⟩)
 have notGv:∀ {i:Ix},i.id∈given (bs.drop np)→¬ owned (BA (ids.zip (H1.map (Dg ids))) (DB (given (bs.drop np)) H)) fzR i:=by
  intro i hg ho
  obtain⟨o,h1,_,h3⟩:=C7 ho
  rw[getGv hg]at h1;cases h1;exact h3 rfl
 have has1:∀ {j i:Nat},ids[j]? = some i→∃ o1,H1[j]? = some o1:=by
  intro j i hj
  have hl:=Ft hj
  rw[hlen]at hl
  exact⟨_,AjM hl⟩
 have plR:∀ {o1:Ob},BV o1=true→BV (Dg ids o1)=true:=by
  intro o1 h;cases o1<;>first|exact h|rfl
 have cls:∀ x:Ix,owned (BA (ids.zip (H1.map (Dg ids))) (DB (given (bs.drop np)) H)) fzR x→(∃ i j:Nat,∃ o1,x = .o i∧ids[j]? = some i∧H1[j]? = some o1)∨(x.id∉ids∧x.id∉given (bs.drop np)):=by
  intro x hx
  rcases inOut x.id with⟨j,hj⟩|hg|h
  ·obtain⟨o1,ho1⟩:=has1 hj
   cases x with
   |o i=>exact .inl ⟨i,j,o1,rfl,hj,ho1⟩
   |r i k=>exact absurd hx (Ev (getIn hj ho1) (plR (pl1 j o1 ho1)))
  ·exact absurd hx (notGv hg)
  ·exact .inr h
 have own1:∀ {j:Nat} {o1:Ob},H1[j]? = some o1→owned H1 fz1 j:=fun h=>ABk h (al1 _ _ h) (fr1 _)
 have blkNe:∀ {i b c:Nat},i∉ids→i∉given (bs.drop np)→(∃ o,H[i]? = some o∧o≠.free∧o≠.dead)→m i=some (b,c)→∀ {j id c':Nat},bs[j]? = some (.whole id)→m id≠some (b,c'):=by
  intro i b c hi hg ⟨o,ho,h1,h2⟩ hm j id c' hb he
  have hp:=giv j id hb
  have hne:i≠id:=by
   rintro rfl
   rcases Aj3 j np with hj|hj
   ·exact hi (AjW (hwhole (tk' hj hb)))
   ·exact hg (gvO hj hb)
  exact gA.2.ne hp he ho h1 h2 hm hne rfl
 have hcomp:CM H (BA (ids.zip (H1.map (Dg ids))) (DB (given (bs.drop np)) H)) m (mOf ids m3 m):=by
  intro i o ho hf
  rcases inOut i with⟨j,hj⟩|hg|⟨hi,hg⟩
  ·rcases(hids hj).2 with h|⟨_,h,_⟩
   ·obtain⟨o',o1,ho',ha,ho1,hs,hm⟩:=pin j i h
    rw[ho]at ho';cases ho'
    exact .inr ⟨(AQb ha).2,_,getIn hj ho1,AEh hs,by rw[mIn hj];exact hm,fun _ _ _=>rfl⟩
   ·rw[ho]at h;cases h;exact absurd rfl hf
  ·exact .inl (getGv hg)
  ·rcases CM.refl H m i o ho hf with h|⟨hd,o',h1,h2,_⟩
   ·exact .inl (by rw[getOut hi hg];exact h)
   ·exact .inr ⟨hd,o',by rw[getOut hi hg];exact h1,h2,mOut (x:=.o i) hi,fun _ _ _=>rfl⟩
 have hmoved:AQg ids H1 (BA (ids.zip (H1.map (Dg ids))) (DB (given (bs.drop np)) H)) m3 (mOf ids m3 m):=by
  intro j o ho
  have hl:=Al ho
  rw[← hlen]at hl
  have hg:ids[j]? = some ids[j]:=AjM hl
  have hd:ids.getD j 0=ids[j]:=by rw[AjK,hg];rfl
  rw[hd]
  exact⟨getIn hg ho,mIn hg⟩
 have hkeepF:∀ b,FB b→w'.heap[b]? = w.heap[b]? := by
  intro b hb
  refine keep b (hiB.lt b hb) fun j id c hj he => ?_
  exact gA.2.off id b c (giv j id hj) he (hB2 b hb)
 have hcell:∀ k,F k→w'.heap[k]? = w.heap[k]? := fun k ha=>hkeepF _ (hFB _ ha)
 have ownOut:∀ {i:Ix},i.id∉ids→i.id∉given (bs.drop np)→owned (BA (ids.zip (H1.map (Dg ids))) (DB (given (bs.drop np)) H)) fzR i→owned H fzR i:=by
  intro i hi hg h
  exact(Ca (getOut hi hg)).1 h
 have blkNe':∀ {x:Ix} {b c:Nat},x.id∉ids→x.id∉given (bs.drop np)→owned H fzR x→m x=some (b,c)→∀ {j id c':Nat},bs[j]? = some (.whole id)→m id≠some (b,c'):=by
  intro x b c hi hg ho hm j id c' hb he
  cases x with
  |o i=>exact blkNe hi hg (Ex ho) hm hb he
  |r i k=>exact gA.2.neX (giv j id hb) he ho.there hm (by simp) rfl
 have bOut:∀ {x:Ix} {b c:Nat},x.id∉ids→x.id∉given (bs.drop np)→owned H fzR x→m x=some (b,c)→∀ {j:Nat} {o1:Ob} {c':Nat},H1[j]? = some o1→m3 j≠some (b,c'):=by
  intro x b c hi hg ho hm j o1 c' ho1 he
  rcases blk j b c' (own1 ho1) he with⟨id,c2,hb,hm2⟩|⟨k,id,c2,_,hb,hm2⟩|hge
  ·exact blkNe' hi hg ho hm (tk hb).2 hm2
  ·exact blkNe' hi hg ho hm hb hm2
  ·have:=hiB.IC ho hm;omega
 refine⟨⟨⟨os,tape,output,size,fun b hb hn=>keep b hb fun j id c hj he => ?_,fun b h=>hBR b (hFB b h),?_,?_,hcomp⟩,⟨?_,?_,?_,?_,?_,?_,?_,hiC.glo.mono hcell (fun b h=>hBR b (hFB b h)),?_⟩⟩,hmoved⟩
 ·exact hn id c (C6 (giv j id hj)) he
 ·-- what is frozen
  intro b hb
  rcases hR with⟨e1,_,_⟩|⟨e1,_⟩
  ·rw[e1]at hb;exact .inl hb
  ·rw[e1]at hb
   rcases bnd b hb with h|⟨j,id,c,h1,h2⟩|h
   ·exact gA.1.bnd b h
   ·exact .inr (.inl ⟨id,c,C6 (giv j id h1),h2⟩)
   ·exact .inr (.inr h)
 ·intro i b c ho hm
  rcases cls i ho with⟨i,j,o1,rfl,hj,ho1⟩|⟨hi,hg⟩
  ·rw[mIn hj]at hm
   rcases blk j b c (own1 ho1) hm with⟨id,c',h1,h2⟩|⟨k,id,c',_,h1,h2⟩|h
   ·exact .inl ⟨id,c',C6 (giv j id (tk h1).2),h2⟩
   ·exact .inl ⟨id,c',C6 (giv k id h1),h2⟩
   ·exact .inr h
  ·rw[mOut hi]at hm
   exact .inl ⟨i,c,ownR (ownOut hi hg ho),hm⟩
 ·-- objects
  intro i o ho
  rcases inOut i with⟨j,hj⟩|hg|⟨hi,hg⟩
  ·obtain⟨o1,ho1⟩:=has1 hj
   rw[getIn hj ho1]at ho;cases ho
   rw[mIn hj]
   have hob:=hi1.obj j o1 ho1
   cases o1 with
   |free=>trivial
   |dead=>trivial
   |box cs=>
    obtain⟨b,c,vs,T,a1,a2,a3,a4⟩:=hob
    refine⟨b,c,vs,T,a1,a2,Ad.ren hmoved cs ?_,a4⟩
    rcases hR with⟨e1,_,hfl⟩|⟨e1,_⟩
    ·rw[Ajf]at hfl
     exact Ad.flat cs (by simpa [P9]using hfl _ (AjW ho1)) a3
    ·rw[e1];exact a3
   |arr T t xs=>
    rcases hR with⟨e1,_,hfl⟩|⟨e1,_⟩
    ·rw[Ajf]at hfl
     have hft:t.flat=true:=by simpa [P9]using hfl _ (AjW ho1)
     obtain⟨h0,h1⟩:=hob
     refine⟨h0,?_⟩
     cases hm3:m3 j with
     |none=>rw[hm3]at h1;exact h1
     |some p=>
      obtain⟨b,cap⟩:=p
      rw[hm3]at h1
      obtain⟨vs,row,a1,a2,a3,a4,a5,a6⟩:=h1
      exact⟨vs,row,a1,a2,a3,a4,BM (fun x _ cs hx=>hx.flat t hft) a5,a6⟩
    ·rw[e1];exact hob
   |map k v es=>
    obtain⟨b,c,ms,clock,a1,a2,a3,a4⟩:=hob
    refine⟨b,c,ms,clock,a1,a2,?_,a4⟩
    rcases hR with⟨e1,_,hfl⟩|⟨e1,_⟩
    ·rw[Ajf]at hfl
     have hft:k.flat=true∧v.flat=true:=by simpa [P9]using hfl _ (AjW ho1)
     exact Aaj hft.1 hft.2 a3
    ·rw[e1];exact a3
   |prs T tgt is=>
    simp only[Dg]
    cases hm3:m3 j with
    |none=>rw[hm3]at hob;exact hob
    |some p=>
     obtain⟨b,cap⟩:=p
     rw[hm3]at hob
     obtain⟨vs,us,a1,a2,a3,a4,a5,a6,a7⟩:=hob
     refine⟨vs,us,a1,a2,a3,a4,?_,a6,a7⟩
     rw[← Ach]
     refine Ad.ren hmoved _ ?_
     rcases hR with⟨e1,_,hfl⟩|⟨e1,_⟩
     ·exact Ad.flat _ (AaZ tgt is) a5
     ·rw[e1];exact a5
   |rows T e t xs ver out=>exact absurd (pl1 j _ ho1) (by simp[BV])
  ·rw[getGv hg]at ho;cases ho;trivial
  ·rw[getOut hi hg]at ho
   rw[mOut (x:=.o i) hi]
   refine ObI.mono hcell (fun b h=>hBR b (hFB b h)) hcomp (fun h1 h2 b c hm hlt=>keep b hlt fun j id c' hj=>blkNe hi hg ⟨o,ho,h1,h2⟩ hm hj) (hiC.obj i o ho)
 ·-- rows
  intro i
  rcases inOut i with⟨j,hj⟩|hg|⟨hi,hg⟩
  ·obtain⟨o1,ho1⟩:=has1 hj
   exact B5.plain (getIn hj ho1) (plR (pl1 j o1 ho1))
  ·exact B5.plain (getGv hg) rfl
  ·refine B5.mono hcell (fun b h=>hBR b (hFB b h)) hcomp (getOut hi hg) (fun x hx=>mOut (by rw[hx];exact hi))
    (fun x hx hox b c hm hlt=>keep b hlt fun j id c' hj he => ?_) (hiC.row i)
   refine gA.2.neX (giv j id hj) he hox hm ?_ rfl
   rintro rfl
   have hx:id=i:=hx
   subst hx
   rcases Aj3 j np with hj'|hj'
   ·exact hi (AjW (hwhole (tk' hj' hj)))
   ·exact hg (gvO hj' hj)
 ·intro i T e t xs ver out hio hf x hx ht b c hm
  rcases inOut i with⟨j,hj⟩|hg|⟨hi,hg⟩
  ·obtain⟨o1,ho1⟩:=has1 hj
   rw[getIn hj ho1]at hio
   have:=plR (pl1 j o1 ho1)
   rw[AkR hio]at this;cases this
  ·rw[getGv hg]at hio;cases hio
  ·rw[mOut (x:=x) (by rw[hx];exact hi)]at hm
   have h1:=getOut hi hg
   exact hBR b (hiB.rfz i T e t xs ver out (h1▸hio) hf x hx ((CX (by rw[hx];exact h1)).1 ht) b c hm)
 ·-- apart
  intro i j b c b' c' hoi hoj hij hmi hmj
  rcases cls i hoi with⟨i,k,o1,rfl,hk,ho1⟩|⟨hi,hgi⟩
  ·rw[mIn hk]at hmi
   rcases cls j hoj with⟨j,l,o2,rfl,hl,ho2⟩|⟨hj,hgj⟩
   ·rw[mIn hl]at hmj
    have hkl:k≠l:=by rintro rfl;rw[hk]at hl;cases hl;exact hij rfl
    exact hi1.sep k l b c b' c' (own1 ho1) (own1 ho2) (Agg hkl) hmi hmj
   ·rw[mOut hj]at hmj
    rintro rfl
    exact bOut hj hgj (ownOut hj hgj hoj) hmj ho1 hmi
  ·rw[mOut hi]at hmi
   rcases cls j hoj with⟨j,l,o2,rfl,hl,ho2⟩|⟨hj,hgj⟩
   ·rw[mIn hl]at hmj
    rintro rfl
    exact bOut hi hgi (ownOut hi hgi hoi) hmi ho2 hmj
   ·rw[mOut hj]at hmj
    exact hiB.sep i j b c b' c' (ownOut hi hgi hoi) (ownOut hj hgj hoj) hij hmi hmj
 ·-- none of them frozen
  intro i b c hoi hmi hb
  rcases cls i hoi with⟨i,k,o1,rfl,hk,ho1⟩|⟨hi,hg⟩
  ·rw[mIn hk]at hmi
   exact hi1.off k b c (own1 ho1) hmi (FR3 b hb)
  ·rw[mOut hi]at hmi
   have ho:=ownOut hi hg hoi
   rcases hR with⟨e1,e2,_⟩|⟨e1,e2⟩
   ·rw[e1]at hb;exact hiC.off i b c (ownR ho) hmi hb
   ·rw[e1]at hb
    rcases bnd b hb with h|⟨j,id,c',h1,h2⟩|h
    ·rw[e2]at ho;exact gA.2.off i b c ho hmi h
    ·exact blkNe' hi hg ho hmi h1 h2
    ·have:=hiB.IC ho hmi;omega
 ·intro i T t xs b c hio hf hmi
  rcases inOut i with⟨k,hk⟩|hg|⟨hi,hg⟩
  ·obtain⟨o1,ho1⟩:=has1 hk
   rw[getIn hk ho1]at hio
   have:o1 = .arr T t xs:=by
    cases o1<;>simp only[Dg,AjH]at hio<;>first|exact hio|cases hio
   rw[hunf hk ho1 this]at hf;cases hf
  ·rw[getGv hg]at hio;cases hio
  ·rw[getOut hi hg]at hio
   rw[mOut (x:=.o i) hi]at hmi
   exact hBR b (hiB.froz i T t xs b c hio hf hmi)
 ·intro b hb
  exact hi1.lt b (FR3 b hb)
 ·rw[Wl,ACA]
  exact hiB.len
end
end Go.Pev
end
section
namespace Go.Pev
open Go.RowKit
section
variable {P:Program} {w:World} {F:Nat→Prop} {m:Mp} {st:St} {a:Act}
def AIw(tmps:Array Value):ResultVar→Sem Value
 |.tmp t=>pure (tmps.getD t undef)
 |.cell x t=>do loadVar t (← asAddr (tmps.getD x undef))
theorem AM8(hs:SI w F m st a){rv:ResultVar}{v:AV}(h:Qv P st rv=some v):
  ∃ u,(AIw a.tmps rv).run P w = .ok u w∧Rep w F m st.heap v u:=by
 cases rv with
 |tmp t=>
  simp only[Qv,AjH]at h;subst h
  exact⟨_,rfl,hs.tmps t⟩
 |cell x T=>
  simp only[Qv]at h
  split at h
  ·rename_i id off n ag h1 h2 h3
   split at h
   ·rename_i cs ho
    have hr:=hs.tmps x
    have e1:st.tmps.getD x .junk = .ptr id off:=h1
    rw[e1]at hr
    unfold Rep G7 at hr
    rw[ho]at hr
    obtain⟨b,c,e2,e3⟩:=hr
    obtain⟨b',c',vs,T',e4,e5,e6,e7⟩:=hs.heap.obj id _ ho
    rw[e2]at e4;cases e4
    obtain⟨u,k1,k2⟩:=Co (P:=P) h2 h3 h (E2 e6 off) (ad:=⟨b,off,none⟩) (fun u hu=>e7 u (Akr hu)) (fun j u hu=>by
     rw[AkI]at hu
     rw[CC]
     simp only[World.cell?,e5]
     simpa using hu)
    refine⟨u,?_,k2⟩
    simp[AIw,e3,asAddr,k1]
   ·cases h
  ·cases h
theorem AIv(hs:SI w F m st a):∀ {rvs:List ResultVar} {vs:List AV},DP P st rvs=some vs →
  ∃ us,(rvs.mapM (AIw a.tmps)).run P w = .ok us w∧Ad w F m st.heap vs us:=by
 intro rvs
 induction rvs with
 |nil=>
  intro vs h
  simp only[DP,AjH]at h;subst h
  exact⟨[],by simp[List.mapM_nil],Nk⟩
 |cons rv rvs ih=>
  intro vs h
  simp only[DP]at h
  split at h
  ·cases h
  ·rename_i v hv
   split at h
   ·cases h
   ·rename_i vs' hvs
    simp only[AjH]at h;subst h
    obtain⟨u,h1,h2⟩:=AM8 hs hv
    obtain⟨us,h3,h4⟩:=ih hvs
    refine⟨u::us,?_,by unfold Ad;exact⟨u,us,rfl,h2,h4⟩⟩
    rw[List.mapM_cons]
    simp only[Sem.run_bind]
    rw[h1]
    simp only[Result.andThen_ok]
    rw[h3]
    simp
def AUI(us:List Value):Value:=if h:us.toArray.size=1 then us.toArray[0]else .tuple us.toArray
theorem AAg(hs:SI w F m st a){fn:Func}{vs:List AV}(h:DP P st fn.results.toList=some vs):
  ∃ us,(results fn a.tmps).run P w = .ok (AUI us) w∧Ad w F m st.heap vs us:=by
 obtain⟨us,h1,h2⟩:=AIv hs h
 refine⟨us,?_,h2⟩
 have e:results fn a.tmps=(do
   let vs ← fn.results.mapM (AIw a.tmps)
   pure (if h:vs.size=1 then vs[0]else .tuple vs)):=by
  unfold results
  congr 2
 rw[e,Al8]
 simp only[Sem.run_bind,map_eq_pure_bind]
 rw[h1]
 rfl
theorem AFp{H:List Ob}{vs:List AV}{us:List Value}(h:Ad w F m H vs us):Rep w F m H (single vs) (AUI us):=by
 have hl:=Au h
 unfold AUI
 match vs,us,hl with
 |[],[],_=>
  simp only[single]
  unfold Rep
  exact⟨_,rfl,h⟩
 |[v],[u],_=>
  simp only[single]
  unfold Ad at h
  obtain⟨_,_,e,h1,_⟩:=h
  cases e
  exact h1
 |v::v'::vs,u::u'::us,_=>
  simp only[single]
  unfold Rep
  exact⟨_,rfl,h⟩
def JK:List RS→List Value→List Value
 |.one::r,u::us=>u::JK r us
 |.agg _::r,u::us=>u.cells.toList++JK r us
 |_,_=>[]
theorem ASb{H:List Ob}:∀ {rs:List RS} {vs:List AV} {us:List Value} {tm:List AV},GY rs vs=some tm→Ad w F m H vs us →
  Ad w F m H tm (JK rs us)∧(JK rs us).length=cellsOf rs∧∀ (w2:World) (F2:Nat→Prop) (m2:Mp) (H2:List Ob) (ws:List AV),Ad w2 F2 m2 H2 ws (JK rs us)→Ad w2 F2 m2 H2 (GU rs ws) us:=by
 intro rs
 induction rs with
 |nil=>
  intro vs us tm h hr
  cases vs with
  |nil=>
   simp only[GY,AjH]at h;subst h
   unfold Ad at hr;subst hr
   exact⟨Nk,rfl,fun _ _ _ _ _ _=>Nk⟩
  |cons v vs=>simp[GY]at h
 |cons r rs ih=>
  intro vs us tm h hr
  cases vs with
  |nil=>cases r<;>simp[GY]at h
  |cons v vs=>
   unfold Ad at hr
   obtain⟨u,us',rfl,hv,hr⟩:=hr
   cases r with
   |one=>
    simp only[GY]at h
    split at h
    ·rename_i l hl
     simp only[AjH]at h;subst h
     obtain⟨h1,h2,h3⟩:=ih hl hr
     refine⟨by simp only[JK];unfold Ad;exact⟨u,_,rfl,hv,h1⟩,by simp[JK,cellsOf,RS.cells,h2];omega,fun w2 F2 m2 H2 ws hw => ?_⟩
     simp only[JK]at hw
     cases ws with
     |nil=>unfold Ad at hw;cases hw
     |cons x ws=>
      unfold Ad at hw
      obtain⟨y,ys,e,q1,q2⟩:=hw
      cases e
      simp only[GU,AmB,AlO]
      unfold Ad
      exact⟨u,us',rfl,q1,h3 w2 F2 m2 H2 ws q2⟩
    ·cases h
   |agg n=>
    simp only[GY]at h
    split at h
    ·rename_i cs hag hcs
     split at h
     ·rename_i hn
      simp only[AjI]at hn
      split at h
      ·rename_i l hl
       simp only[AjH]at h;subst h
       obtain⟨h1,h2,h3⟩:=ih hl hr
       have hc:=cells?_ok hcs hv
       have ho:=cells?_one hcs hv
       have hcl:=Au hc
       have hu:u = .agg u.cells:=by
        cases v<;>simp only[R2]at hag<;>try (cases hag;done)
        ·rename_i t d
         unfold Rep Bi at hv
         rw[AjV hag]at hv
         obtain⟨x,rfl,_⟩:=hv
         rfl
        ·unfold Rep at hv
         obtain⟨x,rfl,_⟩:=hv
         rfl
       refine⟨by simp only[JK];exact Gu hc h1,by simp[JK,cellsOf,RS.cells,h2]at hcl ⊢;omega,fun w2 F2 m2 H2 ws hw => ?_⟩
       simp only[JK]at hw
       have ht:=OS hw n
       have hd:=E2 hw n
       have hn':u.cells.toList.length=n:=by rw[hcl,hn]
       rw[AmA hn']at ht
       rw[List.drop_left' hn']at hd
       simp only[GU]
       unfold Ad
       refine⟨u,us',rfl,?_,h3 w2 F2 m2 H2 _ hd⟩
       unfold Rep
       exact⟨u.cells,hu,ht,ho⟩
      ·cases h
     ·cases h
    ·cases h
end
end Go.Pev
end
section
namespace Go.Pev
open Go.RowKit
theorem Nh {P : Program} {g : FuncId} {fn : Func} (hf : P.funcs[g]? = some fn) (hb : fn.body.isSome = true) (hn : (fn.name == "runtime.NumGoroutine") = false) : Sj P g := by
 intro args w
 obtain⟨c,hc⟩:=Akl.1 hb
 have hn' : ¬ fn.name = "runtime.NumGoroutine" := by simpa using hn
 simp[callFunc,hf,hn',hc]
theorem ALN{P:Program}{np:Nat}{h:Hints}:∀ (c:Code) (n:Nat),loops c=0→DX P np h c n:=by
 intro c
 induction c with
 |seq a b iha ihb=>intro n hl;simp only[loops]at hl;exact⟨iha n (by omega),ihb _ (by omega)⟩
 |cond c a b iha ihb=>intro n hl;simp only[loops]at hl;exact⟨iha n (by omega),ihb _ (by omega)⟩
 |block id c ih=>intro n hl;simp only[loops]at hl;exact ih n hl
 |loop c ih=>intro n hl;simp only[loops]at hl;omega
 |_=>intro n _;trivial
section
variable {P:Program} {E:Env} {h:Hints} {g:FuncId} {fn:Func} {c:Code}
theorem AVy{w:World}{F:Nat→Prop}{m:Mp}{H:List Ob}{args:List AV}{vals:List Value}(hr:Ad w F m H args vals)(n:Nat)(t:Nat):
  Rep w F m H ((args++List.replicate n AV.junk).getD t .junk) ((vals.toArray++Array.replicate n undef).getD t undef):=by
 have hl:=Au hr
 have e:(vals.toArray++Array.replicate n undef).getD t undef=(vals++List.replicate n undef).getD t undef:=by
  rw[Aj5,AjK,← AlZ]
  simp
 rw[e,AjK,AjK]
 rcases Aj3 t args.length with ht|ht
 ·rw[Ajo ht,Ajo (by omega)]
  obtain⟨v,hv,hrv⟩:=CQ hr (i:=t) (c:=args[t]) (AjM ht)
  rw[hv,AjM ht]
  exact hrv
 ·rw[Ajq ht,Ali]
  split<;>(unfold Rep;trivial)
theorem AOj(hE:∀ g,AR P g (E.spec g))(hL:JU E)(hf:P.funcs[g]? = some fn)(hb:fn.body=some c)(hc:Sj P g)(hl:loops c=0):
  AR P g (DM P E h fn):=by
 intro R args H fz slot k r hk
 simp only[DM,hb]at hk
 split at hk
 ·cases hk
 ·rename_i hle
  simp only[AjI]at hle
  obtain⟨e,st',h1,h2,h3⟩:=LG hE hL (np:=H.length) c 0 (ALN c 0 hl) R _ _ r hk
  have key:∃ vs,DP P st' fn.results.toList=some vs∧k (single vs) { heap:=some (st'.heap,st'.frz) }=some r∧(e = .normal∨e = .ret):=by
   cases e with
   |normal=>
    simp only at h1
    split at h1
    ·rename_i vs hvs;exact⟨vs,hvs,h1,.inl rfl⟩
    ·cases h1
   |ret=>
    simp only at h1
    split at h1
    ·rename_i vs hvs;exact⟨vs,hvs,h1,.inr rfl⟩
    ·cases h1
   |_=>simp at h1
  obtain⟨vs,hvs,h4,he⟩:=key
  refine⟨_,_,h4,fun R' k' => ?_,hc,fun w F m vals hi hr => ?_⟩
  ·simp only[DM,hb,hle,AjU]
   refine(h2 R' _).trans ?_
   rcases he with rfl|rfl<;>simp only[hvs]
  ·have hlv:=Au hr
   refine calls_of_wp hf hb ?_
   have hsi:SI w F m { tmps:=args++List.replicate (fn.ntmps-args.length) .junk,heap:=H,frz:=fz } { tmps:=vals.toArray++Array.replicate (fn.ntmps-vals.toArray.size) undef,defers:=[] }:=by
    refine⟨fun t => ?_,?_,hi,rfl⟩
    ·have:=AVy hr (fn.ntmps-args.length) t
     simp only[Ako,hlv]
     exact this
    ·simp[hlv]
   refine h3 w F m _ _ hsi fun a' w' F' m' s1 x1 => ?_
   obtain⟨us,r1,r2⟩:=AAg s1 hvs
   have hgo:Ap w F m H fz w' F' m' st'.heap st'.frz:=⟨⟨x1.os,x1.tape,x1.output,x1.size,x1.keep,x1.sub,x1.bnd,x1.own,fun i o ho hf=>x1.comp i o (Al ho) ho hf⟩,s1.heap⟩
   have hpost:a'.defers=[]∧∃ v,(results fn a'.tmps).run P w' = .ok v w'∧(fun(en:Ending) (w':World)=>∃ u,en = .returned u∧∃ F' m',Ap w F m H fz w' F' m' (CT { heap:=some (st'.heap,st'.frz) } H) (GG { heap:=some (st'.heap,st'.frz) } fz)∧Rep w' F' m' (CT { heap:=some (st'.heap,st'.frz) } H) (single vs) u) (.returned v) w':=
    ⟨s1.defers,_,r1,_,rfl,F',m',hgo,AFp r2⟩
   rcases he with rfl|rfl<;>exact hpost
theorem AG4{w:World}{F:Nat→Prop}{m:Mp}{H:List Ob}{fz:List Bool}{bs:List Bnd}{m':Mp}{E:St}{val:Nat→Value}(h:Inv w F m H fz bs m' E val){j:Nat}{o:Ob}(hj:E.heap[j]? = some o):alive o:=by
 have hlt:=Al hj
 rw[h.lenH]at hlt
 have hx:bs[j]? = some bs[j]:=AjM hlt
 have hb:=h.ob j _ hx
 cases hc:bs[j]with
 |none=>rw[hc]at hb;simp only[BP]at hb;obtain⟨_,⟨T,e,e2,_⟩|⟨T,e,e2⟩⟩:=hb<;>(rw[hj]at e2;cases e2;trivial)
 |whole id=>
  rw[hc]at hb;simp only[BP]at hb
  rcases hb.2 with⟨T,t,xs,_,a2,_⟩|⟨k,v,es,_,a2⟩|⟨cs,cs',b,c,vs,T,_,a2,_⟩|⟨_,_,_,_,_,a2,_⟩|⟨_,_,_,_,_,_,a2,_⟩<;>(rw[hj]at a2;cases a2;trivial)
 |cut id=>rw[hc]at hb;simp only[BP]at hb;obtain⟨T,t,xs,n,_,_,a3,_⟩:=hb;rw[hj]at a3;cases a3;trivial
theorem Er{st:St}(h:st.heap.all BV=true)(v:AV)(l:Loc):(place st v l).heap.all BV=true:=by
 cases l with
 |cell j c=>
  simp only[place]
  split
  ·rw[Ajf]at h ⊢
   intro o ho
   rcases List.mem_or_eq_of_mem_set ho with h1|rfl
   ·exact h o h1
   ·rfl
  ·exact h
 |_=>exact h
theorem KN{st:St}(h:st.heap.all BV=true){o:Ob}(ho:BV o=true):(Dt st o).heap.all BV=true:=by simp[Dt,h,ho]
theorem AYu:∀ (its:AE) (d:CB (leaves its)) (st:St),IB its=true→st.heap.all BV=true→(enc its d st).heap.all BV=true:=by
 intro its
 induction its with
 |nil=>intro d st _ h;exact h
 |cons p r ih=>
  intro d st hn h
  obtain⟨l,c⟩:=p
  cases c with
  |rows T e t=>simp[IB]at hn
  |mrows j e t=>simp[IB]at hn
  |aptr T e n=>exact ih _ _ hn (Er (KN h rfl) _ _)
  |own T e=>exact ih _ _ hn (Er (KN h rfl) _ _)
  |box n=>exact ih _ _ hn (Er (KN h rfl) _ _)
  |map k v=>exact ih _ _ hn (Er (KN h rfl) _ _)
  |prs T j=>exact ih _ _ hn (Er (KN h rfl) _ _)
  |_=>exact ih _ _ hn (Er h _ _)
theorem OA{its:AE}{d:CB (leaves its)}{n:Nat}(hn:IB its=true){j:Nat}{o:Ob}(h:(encode n its d).heap[j]? = some o):BV o=true:=
 Ajf.1 (AYu its d (blank n) hn rfl) o (AjW h)
theorem ANA{its:AE}{d:CB (leaves its)}{n:Nat}(hn:IB its=true){fz:List Bool}{x:Ix}(h:owned (encode n its d).heap fz x):x = .o x.id:=by
 cases x with
 |o i=>rfl
 |r i k=>
  obtain⟨o,ho,_⟩:=C7 h
  exact absurd h (Ev ho (OA hn ho))
theorem APl{np:Nat}{outs:AE}{rs:List RS}{st:St}{y:CB (leaves outs)}(h:finish np P fn outs rs st=some y):
  ∃ vs tm bs fr,DP P st fn.results.toList=some vs∧GY rs vs=some tm∧dec tm st.heap outs st.frz []=some (y,bs,fr)∧(pins np 0 bs&&(st.heap.take np).all BV)=true:=by
 unfold finish at h
 split at h
 ·rename_i vs hvs
  split at h
  ·rename_i tm htm
   split at h
   ·rename_i y' bs fr hd
    split at h
    ·rename_i hp
     simp only[AjH]at h;subst h
     exact⟨vs,tm,bs,fr,hvs,htm,hd,hp⟩
    ·cases h
   ·cases h
  ·cases h
 ·cases h
theorem AZW(hE:∀ g,AR P g (E.spec g))(hL:JU E)(hf:P.funcs[g]? = some fn)(hb:fn.body=some c)(hc:Sj P g)
  {np na:Nat} (hna:na≤fn.ntmps) {its outs:AE} {rs:List RS} {f:CB (leaves its)→Option (CB (leaves outs))} (hfun:∀ x,f x=AQ np P E h fn its outs rs x) (hl:DX P np h c 0) :
  AR P g (AF np na its outs rs f):=by
 intro R args H fz slot k r hk
 simp only[AF]at hk
 split at hk
 ·cases hk
 ·rename_i x bs fr hdec
  split at hk
  ·cases hk
  ·rename_i hchk
   simp only[AjJ,AjI]at hchk
   obtain⟨⟨⟨huncut,hbl⟩,hal⟩,hri,hro⟩:=hchk
   split at hk
   ·cases hk
   ·rename_i y hy
    generalize hids:Cl (C8 outs) (bs.take np) slot=ids at hk
    generalize hgv:given (bs.drop np)=gv at hk
    have key:∃ e,k (single (GU rs (LC ids (encode (cellsOf rs) outs y).tmps))) e=some r∧e.heap=none∧e.objs=gv.map (fun i=>(i,.dead))++ids.zip ((encode (cellsOf rs) outs y).heap.map (Dg ids)) ∧
      (∀ R' (k':AV→Eff→Option R'),J6 R' gv (bs.take np) fr rs (encode (cellsOf rs) outs y) ids H fz k'=k' (single (GU rs (LC ids (encode (cellsOf rs) outs y).tmps))) e) ∧
      Fa H (Ak e.frz fz) ids (bs.take np)=true∧Ji ids=true ∧
      ((e.frz=[]∧Ke (encode (cellsOf rs) outs y).tmps=true∧(encode (cellsOf rs) outs y).heap.all P9=true)∨e.frz=fr):=by
     unfold J6 at hk
     split at hk
     ·rename_i hflat
      split at hk
      ·rename_i hok
       simp only[AjJ]at hok hflat
       refine⟨_,hk,rfl,rfl,fun R' k'=>by simp only[J6,hflat.1,hflat.2,hok.1,hok.2,Akx],hok.1,hok.2,.inl ⟨rfl,hflat.1,hflat.2⟩⟩
      ·cases hk
     ·rename_i hflat
      split at hk
      ·rename_i hok
       simp only[AjJ]at hok
       refine⟨_,hk,rfl,rfl,fun R' k'=>by simp only[J6,hflat,hok.1,hok.2,Akx],hok.1,hok.2,.inr rfl⟩
      ·cases hk
    obtain⟨e,h4,he1,he2,h5,hok,hnd,hfl⟩:=key
    refine⟨_,e,h4,fun R' k' => ?_,hc,fun w F m vals hi hr => ?_⟩
    ·simp only[AF,hdec,huncut,hbl,hal,hri,hro,hy,AjU,Akx,hids,hgv]
     exact h5 R' k'
    ·have hlv:=Au hr
     rw[hfun x]at hy
     unfold AQ at hy
     rw[hb]at hy
     simp only at hy
     obtain⟨ex,st',g1,_,g3⟩:=LG hE hL c 0 hl _ _ _ _ hy
     have hfin:finish np P fn outs rs st'=some y∧(ex = .normal∨ex = .ret):=by
      cases ex with
      |normal=>exact⟨g1,.inl rfl⟩
      |ret=>exact⟨g1,.inr rfl⟩
      |_=>simp at g1
     obtain⟨hfin,hex⟩:=hfin
     obtain⟨vs,tm,bs',fr',hvs,htm,hd',hp⟩:=APl hfin
     rw[AjJ]at hp
     replace hp:=hp.1
     refine calls_of_wp hf hb ?_
     obtain⟨F2,m2,gA,invA,_⟩:=AU9 (val:=fun t=>(vals.toArray++Array.replicate (fn.ntmps-vals.toArray.size) undef).getD t undef) its fz [] F (fun _=>none) (blank fn.ntmps) x bs fr hi
      (fun t v ht=>by
       have:=AVy hr (fn.ntmps-vals.toArray.size) t
       rw[AjK,Ajo (Ft ht),ht]at this
       exact this) (Inv.blank fn.ntmps) hdec
     have hsi:SI w F2 m2 (encode fn.ntmps its x) { tmps:=vals.toArray++Array.replicate (fn.ntmps-vals.toArray.size) undef,defers:=[] }:=by
      refine⟨invA.tmps,?_,invA.hi gA.2,rfl⟩
      rw[NT]
      simp[hlv]
      omega
     refine g3 w F2 m2 _ _ hsi fun a' w' F' m' s1 x1 => ?_
     obtain⟨us,r1,r2⟩:=AAg s1 hvs
     obtain⟨q1,q2,q3⟩:=ASb htm r2
     obtain⟨F3,m3,gC,invC,_⟩:=AU9 (val:=fun t=>(JK rs us).getD t undef) outs st'.frz [] F' (fun _=>none) (blank (cellsOf rs)) y bs' fr' s1.heap
      (fun t v ht=>by
       obtain⟨u,hu,hru⟩:=CQ q1 ht
       rw[AjK,hu]
       exact hru) (Inv.blank (cellsOf rs)) hd'
     have srcA:∀ {j:Ix} {b c},owned (encode fn.ntmps its x).heap (encode fn.ntmps its x).frz j→m2 j=some (b,c)→∃ id:Nat,bs[j.id]? = some (.whole id)∧owned H (Ak fr fz) id∧m id=some (b,c):=by
      intro j b c ho hm
      have hj:=ANA hri ho
      obtain⟨y,id,k1,k2,k3,k4⟩:=invA.src ho hm
      rw[hj]at k3 k4
      rw[Ajf]at huncut
      have:=huncut y (AjW k1)
      cases y with
      |none=>simp[Bnd.id?]at k2
      |whole i=>simp only[Bnd.id?,AjH]at k2;subst k2;exact⟨_,k1,k3,k4⟩
      |cut i=>simp[Bnd.AbK]at this
     have hinj:∀ (i j id:Nat),bs[i]? = some (.whole id)→bs[j]? = some (.whole id)→i=j:=fun i j id h1 h2=>invA.inj i j _ _ id h1 h2 rfl rfl
     have start:∀ (j id:Nat),bs[j]? = some (.whole id)→m2 j=m id∧∃ o o0,H[id]? = some o∧alive o∧(encode fn.ntmps its x).heap[j]? = some o0∧sameShape o o0∧alive o0∧owned H (Ak fr fz) id:=by
      intro j id hj
      have hA:=invA.ob j _ hj
      simp only[BP]at hA
      obtain⟨eA,hA⟩:=hA
      refine⟨eA,?_⟩
      rcases hA with⟨T,t,xs,a1,a2,a3⟩|⟨k,v,es,a1,a2⟩|⟨cs,cs',b,cc,vs,T,a1,a2,_⟩|⟨_,_,_,_,a1,a2,_⟩|⟨_,_,_,_,_,_,a2,_⟩
      ·exact⟨_,_,a1,trivial,a2,⟨rfl,rfl⟩,trivial,ABk a1 trivial a3⟩
      ·exact⟨_,_,a1,trivial,a2,trivial,trivial,by simp only[owned,Bs];rw[a1];trivial⟩
      rotate_left
      ·exact⟨_,_,a1,trivial,a2,rfl,trivial,by simp only[owned,Bs];rw[a1];trivial⟩
      ·exact absurd (OA hri a2) (by simp[BV])
      ·exact⟨_,_,a1,trivial,a2,trivial,trivial,by simp only[owned,Bs];rw[a1];trivial⟩
     have hpin:∀ (j id:Nat),(bs.take np)[j]? = some (.whole id)→∃ o o1,H[id]? = some o∧alive o∧(encode (cellsOf rs) outs y).heap[j]? = some o1∧sameShape o o1∧m3 j=m id:=by
      intro j id hj0
      rw[Aj8]at hj0
      split at hj0
      case isFalse=>cases hj0
      rename_i hjn
      obtain⟨eA,o,o0,s1,s2,s3,s4,s5,s6⟩:=start j id hj0
      have hC:=invC.ob j _ (by have:=ANH _ 0 bs' hp j hjn;rw[AkK]at this;exact this)
      simp only[BP]at hC
      obtain⟨eC,hC⟩:=hC
      have mid:=x1.comp j o0 hjn s3 (AQb s5).1
      have fin:∃ o2 o1,st'.heap[j]? = some o2∧alive o2∧(encode (cellsOf rs) outs y).heap[j]? = some o1∧sameShape o2 o1:=by
       rcases hC with⟨T,t,xs,a1,a2,a3⟩|⟨k,v,es,a1,a2⟩|⟨cs,cs',b,cc,vs,T,a1,a2,_⟩|⟨_,_,_,_,a1,a2,_⟩|⟨_,_,_,_,_,_,a2,_⟩
       ·exact⟨_,_,a1,trivial,a2,⟨rfl,rfl⟩⟩
       ·exact⟨_,_,a1,trivial,a2,trivial⟩
       rotate_left
       ·exact⟨_,_,a1,trivial,a2,rfl⟩
       ·exact absurd (OA hro a2) (by simp[BV])
       ·exact⟨_,_,a1,trivial,a2,trivial⟩
      obtain⟨o2,o1,t1,t2,t3,t4⟩:=fin
      rcases mid with md|⟨_,o2',md1,md2,md3,_⟩
      ·rw[t1]at md;cases md;exact t2.elim
      ·rw[t1]at md1;cases md1
       exact⟨o,o1,s1,s2,t3,(s4.trans md2).trans t4,by rw[eC,md3,eA]⟩
     have hiC1:=invC.hi gC.2
     have hblk:∀ j b cc:Nat,owned (encode (cellsOf rs) outs y).heap (encode (cellsOf rs) outs y).frz j→m3 j=some (b,cc)→(∃ id c':Nat,(bs.take np)[j]? = some (.whole id)∧m id=some (b,c'))∨(∃ k id c':Nat,np≤k∧bs[k]? = some (.whole id)∧m id=some (b,c'))∨w.heap.size≤b:=by
      intro j b cc ho hm
      obtain⟨_,i',k1,k2,k3,k4⟩:=invC.src ho hm
      rcases x1.own i' b cc (C6 k3) k4 with⟨i,c0,l1,l2⟩|h
      ·obtain⟨id,n1,n2,n3⟩:=srcA l1 l2
       have hio:=ANA hri l1
       generalize i.id=i0 at n1 hio
       subst hio
       rcases Aj3 i0 np with hin|hin
       ·left
        have n1':(bs.take np)[i0]? = some (.whole id):=by rw[Aj8,AjV hin];exact n1
        obtain⟨o,o1,p1,p2,p3,p4,p5⟩:=hpin i0 id n1'
        have hoi:owned (encode (cellsOf rs) outs y).heap (encode (cellsOf rs) outs y).frz i0:=ABk p3 (AG4 invC p3) (invC.frz i0)
        by_cases hij:j=i0
        ·subst hij;exact⟨id,c0,n1',n3⟩
        ·exact absurd rfl (hiC1.sep j i0 b cc b c0 ho hoi (Agg hij) hm (by rw[p5];exact n3))
       ·exact .inr (.inl ⟨i0,id,c0,hin,n1,n3⟩)
      ·exact .inr (.inr h)
     have hkeep:∀ b,b<w.heap.size→(∀ (j id:Nat) (c:Nat),bs[j]? = some (.whole id)→m id≠some (b,c))→w'.heap[b]? = w.heap[b]? := by
      intro b hb hn
      refine x1.keep b hb fun i cc ho hm => ?_
      obtain⟨id,n1,_,n3⟩:=srcA ho hm
      exact hn i.id id cc n1 n3
     have hbnd:∀ b,F3 b→F2 b∨(∃ (j id c:Nat),bs[j]? = some (.whole id)∧m id=some (b,c))∨w.heap.size≤b:=by
      have hx:∀ {i:Ix} {b cc:Nat},owned (encode fn.ntmps its x).heap (encode fn.ntmps its x).frz i→m2 i=some (b,cc)→∃ (j id c:Nat),bs[j]? = some (.whole id)∧m id=some (b,c):=by
       intro i b cc ho hm
       obtain⟨id,n1,_,n3⟩:=srcA ho hm
       exact⟨i.id,id,cc,n1,n3⟩
      intro b hb
      rcases gC.1.bnd b hb with h|⟨i,cc,ho,hm⟩|h
      ·rcases x1.bnd b h with h|⟨i,cc,ho,hm⟩|h
       ·exact .inl h
       ·exact .inr (.inl (hx ho hm))
       ·exact .inr (.inr h)
      ·rcases x1.own i b cc ho hm with⟨i',c0,ho,hm⟩|h
       ·exact .inr (.inl (hx ho hm))
       ·exact .inr (.inr h)
      ·exact .inr (.inr (AkO x1.size h))
     have hidl:ids.length=(encode (cellsOf rs) outs y).heap.length:=by
      rw[← hids,AaB];unfold encode;rw[Aeo];simp[blank]
     obtain⟨FR,hFR,hRR⟩:∃ FR,((FR=F∧Ak e.frz fz=fz∧(encode (cellsOf rs) outs y).heap.all P9=true)∨(FR=F3∧Ak e.frz fz=Ak fr fz))∧Ad w' FR m3 (encode (cellsOf rs) outs y).heap (encode (cellsOf rs) outs y).tmps (JK rs us):=by
      have hrt:Ad w' F3 m3 (encode (cellsOf rs) outs y).heap (encode (cellsOf rs) outs y).tmps (JK rs us):=by
       refine DW (by rw[NT,q2]) fun i a u ha hu => ?_
       have:=invC.tmps i
       rw[AjK]at this
       have ha':(enc outs y (blank (cellsOf rs))).tmps[i]? = some a:=ha
       rw[ha',AjK,hu]at this
       exact this
      rcases hfl with⟨f1,f2,f3⟩|f1
      ·exact⟨F,.inl ⟨rfl,by rw[f1];rfl,f3⟩,Ad.flat _ f2 hrt⟩
      ·exact⟨F3,.inr ⟨rfl,by rw[f1]⟩,hrt⟩
     obtain⟨hgo,hmv⟩:=Aa2 (ids:=ids) (np:=np) hi gA (fun j id hj=>(start j id hj).2.elim fun _ h=>h.elim fun _ h=>h.2.2.2.2.2) hinj hpin hblk x1.os x1.tape x1.output x1.size hkeep (fun b h=>gC.1.sub b (x1.sub b h)) hbnd hiC1 (fun j o hj=>AG4 invC hj) (fun j o hj=>OA hro hj) invC.frz hidl hok hnd hFR
     rw[hgv]at hgo hmv
     have hH:CT e H=BA (ids.zip ((encode (cellsOf rs) outs y).heap.map (Dg ids))) (DB gv H):=by rw[CL he1,he2,Wm];rfl
     have hZ:GG e fz=Ak e.frz fz:=CW he1 fz
     have hpost:a'.defers=[]∧∃ v,(results fn a'.tmps).run P w' = .ok v w'∧(fun(en:Ending) (w':World)=>∃ u,en = .returned u∧∃ F' m',Ap w F m H fz w' F' m' (CT e H) (GG e fz)∧Rep w' F' m' (CT e H) (single (GU rs (LC ids (encode (cellsOf rs) outs y).tmps))) u) (.returned v) w':=by
      refine⟨s1.defers,_,r1,_,rfl,FR,mOf ids m3 m,?_,?_⟩
      ·rw[hH,hZ];exact hgo
      ·rw[hH]
       exact AFp (q3 _ _ _ _ _ (Ad.ren hmv _ hRR))
     rcases hex with rfl|rfl<;>exact hpost
end
end Go.Pev
end
section
namespace Go.Pev
open Go.RowKit
def LL:Code→Nat→Option Code
 |.seq a b,n=>match LL a n with
  |some c=>some c
  |none=>LL b (n-loops a)
 |.cond _ a b,n=>match LL a n with
  |some c=>some c
  |none=>LL b (n-loops a)
 |.block _ c,n=>LL c n
 |.loop c,n=>match n with
  |0=>some c
  |n+1=>LL c n
 |_,_=>none
def AS(f:Func):Code:=match f.body with
 |some c=>c
 |none=>.skip
def AB(f:Func)(n:Nat):Code:=(LL (AS f) n).getD .skip
def AD:Code→Nat→List (Nat×Code)
 |.seq a b,n=>AD a n++AD b (n+loops a)
 |.cond _ a b,n=>AD a n++AD b (n+loops a)
 |.block _ c,n=>AD c n
 |.loop c,n=>[(n,c)]
 |_,_=>[]
def AHL(P:Program)(np:Nat)(h:Hints):List (Nat×Code)→Prop
 |[]=>True
 |p::l=>Aa P np (.loop p.2) (h.loop p.1)∧AHL P np h l
theorem AHK{P:Program}{np:Nat}{h:Hints}:∀ {a b:List (Nat×Code)},AHL P np h (a++b)→AHL P np h a∧AHL P np h b:=by
 intro a
 induction a with
 |nil=>exact fun h=>⟨trivial,h⟩
 |cons p a ih=>intro b h;exact⟨⟨h.1,(ih h.2).1⟩,(ih h.2).2⟩
theorem AQh{P:Program}{np:Nat}{h:Hints}:∀ (c:Code) (n:Nat),AHL P np h (AD c n)→DX P np h c n:=by
 intro c
 induction c with
 |seq a b iha ihb=>intro n hl;have:=AHK hl;exact⟨iha n this.1,ihb _ this.2⟩
 |cond c a b iha ihb=>intro n hl;have:=AHK hl;exact⟨iha n this.1,ihb _ this.2⟩
 |block id c ih=>intro n hl;exact ih n hl
 |loop c ih=>intro n hl;exact hl.1
 |_=>intro n _;trivial
theorem AA{P:Program}{np:Nat}{h:Hints}{c:Code}{n:Nat}{l:List (Nat×Code)}(e:AD c n=l)(a:AHL P np h l):DX P np h c n:=AQh c n (by rw[e];exact a)
def AZ(P:Program)(E:Env):Prop:=(∀ g,AR P g (E.spec g))∧JU E
def Env.none:Env:={ spec:=fun _ _ _ _ _ _ _=>Option.none,loc:=fun _=>false,loc2:=fun _=>true }
theorem Env.AJc{P:Program}:AZ P Env.none:=⟨fun g R args H fz slot k r h=>by simp[Env.none]at h,fun g h=>by simp[Env.none]at h,fun g _ R args H H' fz fz' slot k S _ _ _=>rfl⟩
def Env.ext(E:Env)(g:FuncId)(loc loc2:Bool)(s:Spec):Env where
 spec x:=match Nat.beq x g with
  |true=>s
  |false=>E.spec x
 loc x:=match Nat.beq x g with
  |true=>loc
  |false=>E.loc x
 loc2 x:=match Nat.beq x g with
  |true=>loc2
  |false=>E.loc2 x
theorem Env.Af{P:Program}{E:Env}{g:FuncId}{loc loc2:Bool}{s:Spec}(h:AZ P E)(hs:AR P g s)(hl:loc=true→Hh s)(hl2:loc2=true→OU s):AZ P (E.ext g loc loc2 s):=by
 refine⟨?_,?_,?_⟩
 ·intro x
  simp only[Env.ext]
  cases hx:Nat.beq x g with
  |true=>have:=Aka hx;subst this;exact hs
  |false=>exact h.1 x
 ·intro x hx
  simp only[Env.ext]at hx ⊢
  cases hb:Nat.beq x g with
  |true=>rw[hb]at hx;exact hl hx
  |false=>rw[hb]at hx;exact h.2.1 x hx
 ·intro x hx
  simp only[Env.ext]at hx ⊢
  cases hb:Nat.beq x g with
  |true=>rw[hb]at hx;exact hl2 hx
  |false=>rw[hb]at hx;exact h.2.2 x hx
section
variable {P:Program} {E:Env} {h:Hints} {g:FuncId} {fn:Func}
theorem ALA(hb:fn.body.isSome=true):fn.body=some (AS fn):=by
 unfold AS
 cases h:fn.body with
 |none=>rw[h]at hb;cases hb
 |some c=>rfl
theorem AH (hE : AZ P E) (hf : P.funcs[g]? = some fn) (hb : fn.body.isSome = true) (hn : (fn.name == "runtime.NumGoroutine") = false)
  {np na:Nat} (hna:(Nat.ble na fn.ntmps)=true) {its outs:AE} {rs:List RS} {f:CB (leaves its)→Option (CB (leaves outs))} (hfun:∀ x,f x=AQ np P E h fn its outs rs x) (hl:DX P np h (AS fn) 0) :
  AR P g (AF np na its outs rs f):=
 AZW hE.1 hE.2 hf (ALA hb) (Nh hf hb hn) (Alx hna) hfun hl
theorem AfE (hE : AZ P E) (hf : P.funcs[g]? = some fn) (hb : fn.body.isSome = true) (hn : (fn.name == "runtime.NumGoroutine") = false)
  {np na:Nat} (hna:(Nat.ble na fn.ntmps)=true) {its:AE} {os:At} {rs:List RS} {f:CB (leaves its)→Option (Ol os)} (hfun:∀ x,f x=ASy np P E h fn its os rs x) (hl:DX P np h (AS fn) 0) :
  AR P g (AOk np na its os rs f):=by
 intro R args H fz slot k r hk
 simp only[AOk]at hk
 split at hk
 ·cases hk
 ·rename_i x bs fr hdec
  split at hk
  ·cases hk
  ·rename_i hchk
   split at hk
   ·cases hk
   ·rename_i y hy
    have pick:∀ (os':At) (y':Ol os') (R:Type) (k:AV→Eff→Option R) (r:R),Gb R np bs fr rs slot H fz k os' y'=some r→∃ (o:Exit×AE) (d:CB (leaves o.2)),IB o.2=true ∧
      (∀ R' (k':AV→Eff→Option R'),Gb R' np bs fr rs slot H fz k' os' y'=J6 R' (given (bs.drop np)) (bs.take np) fr rs (encode (cellsOf rs) o.2 d) (Cl (C8 o.2) (bs.take np) slot) H fz k') ∧
      ∀ st,Hd np P fn rs st os'=some y'→finish np P fn o.2 rs st=some d:=by
     intro os'
     induction os' with
     |nil=>intro y' R k r h;simp[Gb]at h
     |cons o os' ih=>
      intro y' R k r h
      cases y' with
      |inl d=>
       simp only[Gb]at h
       split at h
       ·rename_i hno
        refine⟨o,d,hno,fun R' k'=>by simp only[Gb,hno],fun st hst => ?_⟩
        simp only[Hd]at hst
        split at hst
        ·rename_i d' hd'
         simp only[AjH,Sum.inl.injEq]at hst
         rw[hd',hst]
        ·split at hst<;>simp at hst
       ·cases h
      |inr y'=>
       simp only[Gb]at h
       obtain⟨o',d,q1,q2,q3⟩:=ih y' R k r h
       refine⟨o',d,q1,fun R' k'=>by simp only[Gb];exact q2 R' k',fun st hst => ?_⟩
       simp only[Hd]at hst
       split at hst
       ·simp at hst
       ·split at hst
        ·rename_i x' hx'
         simp only[AjH,Sum.inr.injEq]at hst
         exact q3 st (by rw[hx',hst])
        ·cases hst
    obtain⟨o,d,hno,hback,hfin⟩:=pick os y R k r hk
    have hcall:AQ np P E h fn its o.2 rs x=some d:=by
     rw[hfun x]at hy
     unfold ASy at hy
     unfold AQ
     rw[ALA hb]at hy ⊢
     simp only at hy ⊢
     obtain⟨ex,st',g1,g2,_⟩:=LG hE.1 hE.2 (AS fn) 0 hl _ _ _ _ hy
     refine(g2 _ _).trans ?_
     cases ex with
     |normal=>exact hfin st' g1
     |ret=>exact hfin st' g1
     |_=>simp at g1
    have hs:=AH hE hf hb hn hna (its:=its) (outs:=o.2) (rs:=rs) (f:=AQ np P E h fn its o.2 rs) (fun _=>rfl) hl
    simp only[AjJ]at hchk
    have hsame:∀ R' (k':AV→Eff→Option R'),AF np na its o.2 rs (AQ np P E h fn its o.2 rs) R' args H fz slot k'=Gb R' np bs fr rs slot H fz k' os y:=by
     intro R' k'
     rw[hback R' k']
     simp only[AF,hdec,hchk.1.1.1,hchk.1.1.2,hchk.1.2,hchk.2,hno,Akx,hcall]
    obtain⟨v,e,h1,h2,h3,h4⟩:=hs R args H fz slot k r (by rw[hsame];exact hk)
    refine⟨v,e,h1,fun R' k' => ?_,h3,h4⟩
    simp only[AOk,hdec,hchk.1.1.1,hchk.1.1.2,hchk.1.2,hchk.2,Akx,hy]
    rw[← hsame R' k']
    exact h2 R' k'
theorem Cx (hE : AZ P E) (hf : P.funcs[g]? = some fn) (hb : fn.body.isSome = true) (hn : (fn.name == "runtime.NumGoroutine") = false) (hl : loops (AS fn) = 0) : AR P g (DM P E h fn) :=
 AOj hE.1 hE.2 hf (ALA hb) (Nh hf hb hn) hl
theorem AT{h':Hints}(hE:AZ P E){np nt n:Nat}{body:Code}{its:AE}{os:At}{stp:CB (leaves its)→Option (CB (leaves its)⊕Ol os)}
  (hstep:∀ v,stp v=roundOf P E h' n np nt body its os v) (hl:DX P np h' body n):Aa P np (.loop body) (Ab np nt its os stp):=AZq hE.1 hE.2 hstep hl
def AGt:AE→Bool
 |[]=>true
 |(.tmp _,.dat _)::r=>AGt r
 |_::_=>false
theorem Aan{H H':List Ob}{tm:List AV}(ha:∀ id∈BH tm,H[id]? = H'[id]?):∀ (its:AE) (fz fz':List Bool),AGt its=true→dec tm H its fz []=dec tm H' its fz' []:=by
 intro its
 induction its with
 |nil=>intro fz fz' _;rfl
 |cons p r ih=>
  intro fz fz' hd
  obtain⟨l,c⟩:=p
  cases l<;>cases c<;>simp only[AGt]at hd<;>try (cases hd;done)
  rename_i t ty
  simp only[dec,look]
  cases hv:tm[t]? with
  |none=>rfl
  |some v=>
   have hsub:∀ id∈Am v,H[id]? = H'[id]? := fun id hid=>ha id (by
    clear ih hd ha
    induction tm generalizing t with
    |nil=>simp at hv
    |cons a tm iht=>
     cases t with
     |zero=>simp at hv;subst hv;simp[BH,hid]
     |succ t=>simp only[BH,AjL];exact .inr (iht t (by simpa using hv)))
   simp only
   rw[XW ty v hsub]
   cases XX H' ty v with
   |none=>rfl
   |some q=>
    obtain⟨x,f⟩:=q
    simp only
    have hfr:f.all (fresh? [])=true:=by simp[fresh?]
    rw[hfr]
    simp only
    rw[ih (Ak f fz) (Ak f fz') hd]
theorem AZ9:∀ (n slot:Nat),Cl n [] slot=List.range' slot n:=by
 intro n
 induction n with
 |zero=>intro slot;rfl
 |succ n ih=>intro slot;simp only[Cl,AmU];rw[ih]
theorem XM{H H':List Ob}{fz fz':List Bool}:∀ (ids:List Nat),(∀ i∈ids,Av H fz i=Av H' fz' i)→Fa H fz ids []=Fa H' fz' ids []:=by
 intro ids
 induction ids with
 |nil=>intro _;rfl
 |cons a ids ih=>
  intro h
  simp only[Fa,List.tail_nil]
  rw[h a (by simp),ih fun i hi=>h i (by simp[hi])]
theorem AVA{H:List Ob}{tm:List AV}:∀ (its:AE) (fz:List Bool) (bs:List Bnd) (x:CB (leaves its)) (bs':List Bnd) (fr:List Nat),AGt its=true→dec tm H its fz bs=some (x,bs',fr)→bs'=bs:=by
 intro its
 induction its with
 |nil=>intro fz bs x bs' fr _ h;simp only[dec,AjH]at h;cases h;rfl
 |cons p r ih=>
  intro fz bs x bs' fr hd h
  obtain⟨l,c⟩:=p
  cases l<;>cases c<;>simp only[AGt]at hd<;>try (cases hd;done)
  simp only[dec]at h
  split at h
  ·split at h
   ·split at h
    ·split at h
     ·rename_i xs bs1 g hdd
      simp only[AjH]at h
      cases h
      exact ih _ _ _ _ _ hd hdd
     ·cases h
    ·cases h
   ·cases h
  ·cases h
theorem AM{np na:Nat}{its outs:AE}{rs:List RS}{f:CB (leaves its)→Option (CB (leaves outs))}(hd:AGt its=true)(hn:Nat.ble (C8 outs) 4=true):Hh (AF np na its outs rs f):=by
 intro R args H H' fz fz' slot k ha
 unfold AF
 rw[Aan ha.heap its fz fz' hd]
 split
 ·rfl
 ·rename_i x bs fr hdec
  have hbs:=AVA its fz' [] x bs fr hd hdec
  subst hbs
  split
  ·rfl
  ·split
   ·rfl
   ·rename_i y hy
    simp only[List.take_nil,List.drop_nil]
    have hfree:∀ (g:List Nat) (i:Nat),i∈Cl (C8 outs) [] slot→Av H (Ak g fz) i=Av H' (Ak g fz') i:=by
     intro g i hi
     rw[AZ9,List.mem_range'_1]at hi
     have:=Alx hn
     exact D5 ha hi.1 (by omega) g
    unfold J6
    rw[show Fa H fz (Cl (C8 outs) [] slot) []=Fa H' fz' (Cl (C8 outs) [] slot) []from XM _ (hfree []),XM _ (hfree fr)]
end
end Go.Pev
end
section
namespace Go.Pev
open Go.RowKit
def Lw{α:Type}(xs:List α):Option (List α):=match O1 (AI xs)with
 |true=>some xs
 |false=>none
def QK[Lk]{α:Type}(xs:List α):Option (List α):=Lk.f (Lw xs)
theorem AGu{α:Type}(xs:List α):QK xs=Lw xs:=AG _
noncomputable def He(e:TypeId)(t:Ty):Spec:=fun R args H fz slot k=>
 match args with
 |[x]=>match El H (.slice t) x with
  |some (xs,_)=>match(QK xs:Option (List t.den))with
   |none=>none
   |some y=>(match Av H fz slot with|true=>k (.own slot) { objs:=[(slot,.arr e t y)] }|false=>none)
  |none=>none
 |_=>none
def ABm:Code→Nat→List Oper
 |.region id ops _,n=>if id=n then ops.toList else []
 |.seq a b,n=>ABm a n++ABm b n
 |.cond _ a b,n=>ABm a n++ABm b n
 |.block _ c,n=>ABm c n
 |.loop c,n=>ABm c n
 |_,_=>[]
def Bf(fn:Func)(n i:Nat):Oper:=((ABm (AS fn) n)[i]?).getD default
structure AER(P:Program)(fn:Func)(T e:TypeId)(t:Ty):Prop where
 body:fn.body=some (.seq (.region 0 #[Bf fn 0 0] false) (.seq (.seq (.region 1 #[Bf fn 1 0,Bf fn 1 1] false) (.cond (.tmp 4) (.seq (.region 2 #[Bf fn 2 0] false) .ret) .skip)) (.seq (.region 3 #[Bf fn 3 0,Bf fn 3 1,Bf fn 3 2,Bf fn 3 3] false) .ret)))
 nt:fn.ntmps=8
 res:fn.results = #[.tmp 2]
 d:(Bf fn 0 0).dst=some 2∧(Bf fn 1 0).dst=some 3∧(Bf fn 1 1).dst=some 4∧(Bf fn 2 0).dst=some 2∧(Bf fn 3 0).dst=some 5∧(Bf fn 3 1).dst=some 6∧(Bf fn 3 2).dst=some 7∧(Bf fn 3 3).dst=some 2
 g:(Bf fn 0 0).guard=none∧(Bf fn 1 0).guard=none∧(Bf fn 1 1).guard=none∧(Bf fn 2 0).guard=none∧(Bf fn 3 0).guard=none∧(Bf fn 3 1).guard=none∧(Bf fn 3 2).guard=none∧(Bf fn 3 3).guard=none
 o00:(Bf fn 0 0).op = .assign (.const (.slice none 0 0))
 o10:(Bf fn 1 0).op = .move (.tmp 0)
 o11:(Bf fn 1 1).op = .binOp .eql T (.tmp 3) (.const (.slice none 0 0)) T
 o20:(Bf fn 2 0).op = .assign (.const (.slice none 0 0))
 o30:(Bf fn 3 0).op = .buildSlice T 0 #[]
 o31:(Bf fn 3 1).op = .move (.tmp 0)
 o32:(Bf fn 3 2).op = .call { callee:=.builtin .append,args:=#[.tmp 5,.tmp 6],argTypes:=#[T,T] }
 o33:(Bf fn 3 3).op = .assign (.tmp 7)
 sl:sliceAt P T=some (e,t)
 z:(zeroAt P e).isSome=true
 by1:(P.info? e).map (fun i=>decide (i.bytes≤1024))=some true
section
variable {P:Program} {g:FuncId}
theorem Gk{ops:Array Oper}{Q:Exit→Act→World→Prop}{i:Nat}{rest:List Nat}{a:Act}{w:World}{o:Oper}(ho:ops[i]? = some o)(hg:o.guard=none)(h:o.wp P a w (wpOps P ops Q rest) Q):wpOps P ops Q (i::rest) a w:=by
 simp only[wpOps,ho]
 rw[AjV (by simp[Region.wanted,hg])]
 exact .inl h
theorem Gl{o:Oper}{a:Act}{w w':World}{next:Act→World→Prop}{Q:Exit→Act→World→Prop}{u:Value}(h:(execOp a.eval o).run P w = .ok (.value u) w')(hn:next (a.put o.dst u) w'):o.wp P a w next Q:=by
 unfold Oper.wp;rw[h];exact hn
variable {fn:Func} {T e:TypeId} {t:Ty}
theorem AGo{P:Program}{w:World}{ρ:Operand→Value}{o:Oper}{x:Operand}(h:o.op = .move x):(execOp ρ o).run P w = .ok (.value (ρ x)) w:=by simp[execOp,h]
theorem NR{P:Program}{w:World}{ρ:Operand→Value}{o:Oper}{x:Operand}(h:o.op = .assign x):(execOp ρ o).run P w = .ok (.value (ρ x)) w:=by simp[execOp,h]
theorem Ae1 (hs : AER P fn T e t) (hf : P.funcs[g]? = some fn) (hn : (fn.name == "runtime.NumGoroutine") = false) : AR P g (He e t) := by
 intro R args H fz slot k r hk
 unfold He at hk
 split at hk
 ·rename_i x
  split at hk
  ·rename_i xs fr hx
   split at hk
   ·cases hk
   ·rename_i y hy
    split at hk
    ·rename_i hfree
     refine⟨_,_,hk,fun R' k'=>by simp only[He,hx,hy,hfree],Nh hf (by rw[hs.body];rfl) hn,fun w F m vals hi hr => ?_⟩
     rw[AGu]at hy
     unfold Lw at hy
     split at hy
     ·rename_i hfit
      simp only[AjH]at hy;subst hy
      have hr0:=hr
      unfold Ad at hr
      obtain⟨v,vs',rfl,hrv,hnil⟩:=hr
      unfold Ad at hnil;subst hnil
      obtain⟨hu,hty0,hpos⟩:=Bv hs.sl
      obtain⟨zz,hzz⟩:=Akl.1 hs.z
      obtain⟨t',cs'⟩:=zz
      obtain⟨hty',hcs',i,z,hi0,hz0,hok,hsz,hza⟩:=Bp hzz
      subst hcs'
      have:t'=t:=by rw[hty0]at hty';exact(AkR hty').symm
      subst this
      have hzs:z.cells.size=i.size:=by
       have hzd:=Be (w:=default) (F:=fun _=>False) t' _ hok
       rw[hsz,← AjZ];exact Dat.length t' hzd
      have hby':i.bytes≤1024:=by simpa [hi0]using hs.by1
      obtain⟨A,c,rfl,q2,q3,news,q4,q5⟩:=Dr hi hx hrv
      have hfit':xs.length≤4294967296:=by
       have:(xs.length:Int)≤4294967296:=(UY _).1 hfit
       omega
      refine calls_of_wp hf hs.body ?_
      obtain⟨d0,d1,d2,d3,d4,d5,d6,d7⟩:=hs.d
      obtain⟨g0,g1,g2,g3,g4,g5,g6,g7⟩:=hs.g
      have hres:∀ (tm:Array Value) (w0:World),(results fn tm).run P w0 = .ok (tm.getD 2 undef) w0:=fun tm w0=>by simp[results,hs.res]
      refine wp_seq (wp_region ?_)
      simp only[Ako,AjP,Ajh,Aki,List.range_zero,Ajv]
      refine Gk (by rfl) g0 (Gl (NR hs.o00) ?_)
      refine wp_seq (wp_seq (wp_region ?_))
      simp only[Ako,AjP,Ajh,Aki,List.range_zero,Ajv,Ajl]
      refine Gk (by rfl) g1 (Gl (AGo hs.o10) ?_)
      refine Gk (by rfl) g2 (Gl (u:=.bool A.isNone) (w':=w) (by simp[execOp,hs.o11,Act.eval,Act.put,d0,d1,hs.nt,eqGuard,Lib.run_eql_slice_nil _ _ _ _ _ _ _ _ hu]) ?_)
      cases A with
      |none=>
       have hxs:xs=[]:=by
        cases xs with
        |nil=>rfl
        |cons a b=>exact absurd (q3 (by simp)) (by simp)
       subst hxs
       refine wp_cond_true (by simp[Act.eval,Act.put,d0,d1,d2,hs.nt]) ?_
       refine wp_seq (wp_region ?_)
       simp only[Ako,AjP,Ajh,Aki,List.range_zero,Ajv]
       refine Gk (by rfl) g3 (Gl (NR hs.o20) ?_)
       refine wp_ret ?_
       refine⟨by simp[Act.put,d0,d1,d2,d3],_,hres _ _,?_⟩
       obtain⟨m',hg,hrep⟩:=Dk (w:=w) hi hfree e hpos none
       refine⟨_,rfl,F,m',hg,?_⟩
       show Rep _ _ _ (H.set slot _) _ _
       simpa [Act.put,Act.eval,d0,d1,d2,d3,hs.nt]using hrep
      |some ad=>
       refine wp_cond_false (by simp[Act.eval,Act.put,d0,d1,d2,hs.nt]) ?_
       refine wp_skip ?_
       refine wp_seq (wp_region ?_)
       simp only[Ako,AjP,Ajh,Aki,List.range_zero,Ajv,Ajl]
       refine Gk (by rfl) g4 (Gl (u:=.slice (some ⟨w.heap.size,0,none⟩) 0 0) (w':=w.alloc (.cells #[] e)) (by
        have:=Hz (P:=P) (w:=w) (len:=0) (parts:=#[]) (us:=#[]) hu hi0 hz0 hsz (by omega) (by simp[Instr.fill])
        simp[execOp,hs.o30,this]) ?_)
       refine Gk (by rfl) g5 (Gl (AGo hs.o31) ?_)
       have hga:=Ap.grow (w':=w.alloc (.cells #[] e)) hi rfl rfl rfl (by simp) (fun b hb=>Below.heap_alloc w _ b hb)
       obtain⟨v,w',m',hrun,hg,hrep⟩:=FU (P:=P) (T:=T) (ty:=(Bf fn 3 2).type) hga.2 hfree hu hi0 hz0 hzs hsz hpos hby' hfit' (some ⟨w.heap.size,0,none⟩) (A:=some ad) (c:=c) (ys:=xs) (news:=news) (fun _=>rfl)
        (BM (fun x _ cs hx=>hx.mono (fun a ha=>by simp[World.cell?,Below.heap_alloc w _ _ (hi.lt _ ha)]) (fun _ h=>h) t') q4) (fun ad' h j u hu'=>by
         have:=q5 ad' h j u hu'
         exact Lib.cell?_alloc_some _ this)
       refine Gk (by rfl) g6 (Gl (u:=v) (w':=w') (by
        simp[execOp,hs.o32,resolve,invoke,builtin,Act.eval,Act.put,d0,d1,d2,d4,d5,hs.nt,hrun]) ?_)
       refine Gk (by rfl) g7 (Gl (NR hs.o33) ?_)
       refine wp_ret ?_
       refine⟨by simp[Act.put,d0,d1,d2,d4,d5,d6,d7],_,hres _ _,?_⟩
       refine⟨_,rfl,F,m',hga.trans hg,?_⟩
       show Rep _ _ _ (H.set slot _) _ _
       simpa [Act.put,Act.eval,d0,d1,d2,d4,d5,d6,d7,hs.nt]using hrep
     ·cases hy
    ·cases hk
  ·cases hk
 ·cases hk
theorem MR(e:TypeId)(t:Ty):Hh (He e t):=by
 intro R args H H' fz fz' slot k ha
 unfold He
 cases args with
 |nil=>rfl
 |cons x r=>cases r with
  |cons y r=>rfl
  |nil=>
   simp only
   rw[Bu (.slice t) x fun id hid=>ha.heap id (by simpa [BH]using hid)]
   have:=D5 ha (s:=slot) (AjR _) (by omega) []
   simp only[Ak]at this
   rw[this]
end
end Go.Pev
end
section
namespace Go.Pev
noncomputable section
attribute [local irreducible] O1 Ln Pz On AeA AeB AeC TS AAh Xy AEe Lw AY many IntKind.wrap AI A4 AU A2 Bq DY EN AK Bo CR imax AP Ae
abbrev U0:Ty:=(.int .i64)
abbrev U1:=(Int×Int×Unit)
abbrev U2:Ty:=(.prod U0 (.prod U0 .unit))
abbrev U3:=(List Int)
abbrev U4:=(Int×Int×Int×Bool×Unit)
abbrev U5:Ty:=(.prod U0 (.prod U0 (.prod U0 (.prod .bool .unit))))
abbrev U6:Ty:=(.slice U0)
abbrev U7:=(List U3×Int×Int×Int×Unit)
abbrev U8:=(List U1×Int×Int×Int×Unit)
abbrev U9:=(Int×Unit)
abbrev Ua:=(Int×(List U1))
abbrev Ub:=(Int×Int)
abbrev Uc:=(List U3×Int×Int×Unit)
abbrev Ud:=(List U1×Int×Int×Unit)
abbrev Ue:=(Bool×Unit)
abbrev Uf:Ty:=(.prod U0 (.prod (.slice U5) .unit))
abbrev Ug:Ty:=(.slice U6)
abbrev Uh:=(Int×Bool×Bool×Int×Int×Int×Int×Int×Int×Bool×Int×List U4×Bool×Bool×Int×Int×Int×Int×Int×List Int×Int×Bool×Unit)
abbrev Ui:=(List U3×Int×Int×Int×Int×Unit)
abbrev Uj:=(List U1×Int×Int×Int×Int×Unit)
abbrev Uk:=(Int×(List U3)×Unit)
abbrev Ul:=(Int×(List U4)×Unit)
abbrev Um:Ty:=(.slice U2)
abbrev Un:=(List U1×Unit)
abbrev Uo:=(List U3×Unit)
abbrev Up:=(List Int×Unit)
abbrev Uq:=(List Int×Int×Int×Unit)
abbrev Ur:Ty:=(.prod U0 (.prod Ug .unit))
abbrev Us:=(List Int×Int×Unit)
abbrev Ut:=(List U3×Int×Int×Int×Int×Int×Unit)
abbrev Uu:=(List U1×Int×Int×Int×Int×Int×Unit)
abbrev Uv:=(Int×List U3×List Bool×Int×Int×Int×List Int×Int×List Int×Int×Bool×Int×List Int×Bool×Bool×List Int×List Int×List U3×List Int×List U3×Bool×Bool×List Int×Int×Int×Bool×Unit)
abbrev Uw:=(Int×List U3×List Ub×Int×List U3×Int×Int×List Int×Int×Int×Bool×List Int×Bool×Bool×List Int×Int×List Int×Int×Bool×Int×List Int×Bool×Bool×List Int×Int×Int×Unit)
abbrev Ux:=(Int×List Int×Int×List Int×Int×Bool×Bool×Bool×Bool×Int×Int×Bool×Int×Int×Int×Int×Int×Bool×Int×Int×Int×Int×Int×Int×Int×Int×Int×Bool×Unit)
abbrev Uy:=(List Int×Int×List Int×List Ub×List Ua×Int×Int×Unit)
abbrev Uz:Ty:=(.slice U5)
abbrev V0:=(List U1×Int×List Int×List Ub×List Ua×Int×Int×Unit)
abbrev V1:=(Int×List Int×List Ub×List Ua×Int×Unit)
abbrev V2:=(Int×List Int×List Ub×List Ua×List (U1×Int)×List U1×List Int×Int×Int×Unit)
abbrev V3:=(Ul×Int×Int×Unit)
abbrev V4:=(List Int×Int×List Int×List Ub×List Ua×Int×Unit)
abbrev V5:=(List U1×Int×List Int×List Ub×List Ua×Int×Unit)
abbrev V6:Ty:=(.prod U6 (.prod U6 (.prod Ug .unit)))
abbrev V7:=(Int×List U3×Int×Unit)
abbrev V8:=(List Int×Int×List Int×List Int×List U3×List Int×Int×Int×Unit)
abbrev V9:=(List U1×Int×List Int×List Ub×List Ua×Unit)
abbrev Va:=(List Int×List Int×List Int×Int×Int×Unit)
abbrev Vb:=(Int×List U4×List U1×Int×Unit)
abbrev Vc:=(List U3×Int×Unit)
abbrev Vd:=(Int×Int×List Int×List Ub×List Ua×Int×Int×Int×Bool×List U4×Int×Int×Int×Int×Bool×List Int×Int×Unit)
abbrev Ve:=(Int×Bool×Bool×Int×Int×Int×Int×Int×Int×Bool×Int×List U4×Bool×Bool×Int×Int×Int×Int×Int×Unit)
abbrev Vf:=(U3×U3×(List U3)×Unit)
abbrev Vg:=(List Int×List Int×Unit)
abbrev Vh:=(Int×List Int×List Ub×List Ua×List (U1×Int)×List U1×List Int×Int×Int×List U1×Int×Int×Unit)
abbrev Vi:=(Uk×Int×Unit)
abbrev Vj:=(List Int×List Int×List U3×Int×List Int×List Ub×List Ua×List Bool×List Int×Int×Int×Unit)
abbrev Vk:=(Int×List Int×List U3×List U3×Int×Int×Unit)
abbrev Vl:=(List Int×Int×List Int×List Ub×List Ua×Unit)
abbrev Vm:=(Int×List U4×Int×Int×Unit)
abbrev Vn:=(List Int×Int×List Int×List Int×List U3×List Int×Int×Int×Int×Int×Int×Unit)
abbrev ACD:AE:=[(.tmp 0,.dat U6),(.tmp 1,.dat U6)]
abbrev ACC:AE:=[(.tmp 0,.dat .bool)]
abbrev ACB:List RS:=[.one]
abbrev AGZ:AE:=[(.tmp 0,.dat U6),(.tmp 1,.dat U6),(.tmp 5,.di)]
abbrev AGY:At:=[(.ret,[(.tmp 4,.dat .bool)]),(.exit 0,[])]
def E0[Lk]:(List Int×List Int×Int×Unit)→Option ((List Int×List Int×Int×Unit)⊕Ue⊕(Unit)⊕Unit):=fun(a0,a1,a2,_)=>
 match(ilt a2 (AI a0))with
 |true=>match idx a0 a2 with|none=>none|some x0=>match idx a1 a2 with|none=>none|some x1=>match(!(ieq x0 x1))with
  |true=>some (.inr (.inl (false,())))
  |false=>some (.inl (a0,a1,(IntKind.wrap .i64 (a2+1)),()))
 |false=>some (.inr (.inr (.inl ())))
def RI[Lk]:Vg→Option (Ue):=fun(a0,a1,_)=>
 match(!(ieq (AI a0) (AI a1)))with
 |true=>some (false,())
 |false=>match AW E0 many (a0,a1,0,())with|none=>none|some r=>match r with
 |.inl (o0,_)=>some (o0,())
 |.inr r=>match r with
 |.inl _=>some (true,())
 |.inr _=>none
def La[Lk]:=fun v=>Lk.f (RI v)
theorem AGa v:La v=RI v:=AG _
abbrev ZR:AE:=[(.tmp 0,.di)]
abbrev ZQ:AE:=[(.tmp 0,.dat .bool)]
abbrev ZP:List RS:=[.one]
def Qg[Lk]:U9→Option (Ue):=fun(a0,_)=>
 match(ile 1 a0)with
 |true=>some ((ile a0 64),())
 |false=>some (false,())
def Mh[Lk]:=fun v=>Lk.f (Qg v)
theorem AFZ v:Mh v=Qg v:=AG _
abbrev Abv:AE:=[(.tmp 0,.di),(.tmp 1,.di)]
abbrev Abu:AE:=[(.tmp 0,.dat .bool)]
abbrev Abt:List RS:=[.one]
def AVz[Lk]:U1→Option (Ue):=fun(a0,a1,_)=>
 match Mh (a0,())with|none=>none|some (y0,_)=>match y0 with
 |true=>match(ile 0 a1)with
  |true=>some ((ilt a1 a0),())
  |false=>some (false,())
 |false=>some (false,())
def tin[Lk]:=fun v=>Lk.f (AVz v)
theorem Abw v:tin v=AVz v:=AG _
abbrev ARO:AE:=[(.tmp 0,.di),(.tmp 1,.di),(.tmp 2,.di)]
abbrev ARN:AE:=[(.tmp 0,.di)]
abbrev ARM:List RS:=[.one]
def AH1[Lk]:(Int×Int×Int×Unit)→Option (U9):=fun(a0,a1,a2,_)=>
 match(ieq a1 a2)with
 |true=>some ((-1:Int),())
 |false=>match tin (a0,a1,())with|none=>none|some (y0,_)=>match(!y0)with
 |true=>some ((-1:Int),())
 |false=>match tin (a0,a2,())with|none=>none|some (y1,_)=>match(!y1)with
 |true=>some ((-1:Int),())
 |false=>some ((IntKind.wrap .i64 ((IntKind.wrap .i64 (a0*(IntKind.wrap .i64 (a1+1))))+a2)),())
def AX6[Lk]:=fun v=>Lk.f (AH1 v)
theorem AV0 v:AX6 v=AH1 v:=AG _
abbrev ZN:AE:=[(.tmp 0,.di),(.tmp 1,.di)]
abbrev ZM:AE:=[(.tmp 0,.di),(.tmp 1,.di),(.tmp 2,.dat .bool),(.tmp 3,.dat .bool)]
abbrev ZL:List RS:=[.one,.one,.one,.one]
def Qf[Lk]:U1→Option ((Int×Int×Bool×Bool×Unit)):=fun(a0,a1,_)=>
 match Mh (a0,())with|none=>none|some (y0,_)=>match(!y0)with
 |true=>some (0,0,false,false,())
 |false=>match(ilt a1 0)with
 |true=>some (0,0,false,false,())
 |false=>match(ile (IntKind.wrap .i64 (a0*(IntKind.wrap .i64 (a0+1)))) a1)with
 |true=>some (0,0,false,false,())
 |false=>match(ilt a1 a0)with
 |true=>some (a1,0,false,true,())
 |false=>match quo? .i64 a1 a0 with|none=>none|some x1=>match rem? a1 a0 with|none=>none|some x2=>match(ieq (IntKind.wrap .i64 (x1-1)) x2)with
 |true=>some (0,0,false,false,())
 |false=>some ((IntKind.wrap .i64 (x1-1)),x2,true,true,())
def ZO[Lk]:=fun v=>Lk.f (Qf v)
theorem AFY v:ZO v=Qf v:=AG _
abbrev AHv:AE:=[(.tmp 0,.di)]
abbrev AHu:AE:=[(.tmp 0,.di),(.tmp 1,.own 43 U6),(.tmp 2,.di)]
abbrev AHt:List RS:=[.agg 2,.one]
abbrev AMF:AE:=[(.tmp 2,.box 2),(.cell 0 0,.di),(.cell 0 1,.nil U6),(.tmp 4,.box 2),(.cell 1 0,.di),(.cell 1 1,.own 43 U6),(.tmp 12,.di),(.tmp 13,.di)]
abbrev AME:At:=[(.exit 0,[(.tmp 2,.box 2),(.cell 0 0,.di),(.cell 0 1,.nil U6),(.tmp 4,.box 2),(.cell 1 0,.di),(.cell 1 1,.own 43 U6)])]
def Hr[Lk]:(Int×Int×List U3×Int×Int×Unit)→Option ((Int×Int×List U3×Int×Int×Unit)⊕(Int×Int×List U3×Unit)⊕Unit):=fun(a0,a1,a2,a3,a4,_)=>
 match(ilt a4 a3)with
 |true=>match(fits ((AI a2)+(AI ([([a4]:List (Int))]:List U3))))with
  |true=>some (.inl (a0,a1,(A2 a2 ([([a4]:List (Int))]:List U3)),a3,(IntKind.wrap .i64 (a4+1)),()))
  |false=>none
 |false=>some (.inr (.inl (a0,a1,a2,())))
def YZ[Lk]:U9→Option (V7):=fun(a0,_)=>
 match Mh (a0,())with|none=>none|some (y0,_)=>match(!y0)with
 |true=>some (0,([]:List U3),1,())
 |false=>match AW Hr many (0,a0,([]:List U3),a0,0,())with|none=>none|some r=>match r with
 |.inl (o1,o2,o3,_)=>some (o2,o3,0,())
 |.inr _=>none
def AMH[Lk]:=fun v=>Lk.f (YZ v)
theorem AMG v:AMH v=YZ v:=AG _
abbrev ACK:AE:=[(.tmp 0,.dat U6),(.tmp 1,.di)]
abbrev ACJ:AE:=[(.tmp 0,.di)]
abbrev ACI:List RS:=[.one]
abbrev AGd:AE:=[(.tmp 0,.dat U6),(.tmp 1,.di),(.tmp 7,.di),(.tmp 8,.di)]
abbrev AGc:At:=[(.ret,[(.tmp 4,.di)]),(.exit 0,[])]
def Fw[Lk]:(List Int×Int×Int×Int×Unit)→Option ((List Int×Int×Int×Int×Unit)⊕U9⊕(Unit)⊕Unit):=fun(a0,a1,a2,a3,_)=>
 match(ilt a3 a2)with
 |true=>match idx a0 a3 with|none=>none|some x0=>match(ieq a1 x0)with
  |true=>some (.inr (.inl (a3,())))
  |false=>some (.inl (a0,a1,a2,(IntKind.wrap .i64 (a3+1)),()))
 |false=>some (.inr (.inr (.inl ())))
def RL[Lk]:Us→Option (U9):=fun(a0,a1,_)=>
 match AW Fw many (a0,a1,(AI a0),0,())with|none=>none|some r=>match r with
 |.inl (o0,_)=>some (o0,())
 |.inr r=>match r with
 |.inl _=>some ((-1:Int),())
 |.inr _=>none
def Py[Lk]:=fun v=>Lk.f (RL v)
theorem AGe v:Py v=RL v:=AG _
abbrev Na:AE:=[(.tmp 0,.dat U6),(.tmp 1,.di)]
abbrev NZ:AE:=[(.tmp 0,.dat .bool)]
abbrev NY:List RS:=[.one]
def JP[Lk]:Us→Option (Ue):=fun(a0,a1,_)=>
 match Py (a0,a1,())with|none=>none|some (y0,_)=>some ((ile 0 y0),())
def GB[Lk]:=fun v=>Lk.f (JP v)
theorem Rn v:GB v=JP v:=AG _
abbrev ATo:AE:=[(.tmp 0,.dat U6)]
abbrev ATn:AE:=[(.tmp 0,.di)]
abbrev ATm:List RS:=[.one]
abbrev AWr:AE:=[(.tmp 0,.dat U6),(.tmp 3,.di),(.tmp 4,.di)]
abbrev AWq:At:=[(.exit 0,[(.tmp 3,.di)])]
def LQ[Lk]:Uq→Option (Uq⊕U9⊕Unit):=fun(a0,a1,a2,_)=>
 match(ilt a2 (AI a0))with
 |true=>match idx a0 a2 with|none=>none|some x0=>some (.inl (a0,(CR a1 x0),(IntKind.wrap .i64 (a2+1)),()))
 |false=>some (.inr (.inl (a1,())))
def AJf[Lk]:Up→Option (U9):=fun(a0,_)=>
 match(ilt (AI a0) 1)with
 |true=>none
 |false=>match idx a0 0 with|none=>none|some x0=>match AW LQ many (a0,x0,1,())with|none=>none|some r=>match r with
 |.inl (o1,_)=>some (o1,())
 |.inr _=>none
def AZZ[Lk]:=fun v=>Lk.f (AJf v)
theorem AWs v:AZZ v=AJf v:=AG _
abbrev AKT:AE:=[(.tmp 0,.nil U0),(.tmp 1,.di)]
abbrev AKS:AE:=[(.tmp 0,.own 3 U0)]
abbrev AKR:List RS:=[.one]
def Yn[Lk]:U9→Option (Up):=fun(a0,_)=>
 match(ilt a0 0)with
 |true=>none
 |false=>match(ilt 0 (IntKind.wrap .i64 (a0-(IntKind.wrap .i64 (0-0)))))with
 |true=>match By ([]:List Unit) 0 0 with|none=>none|some _u0=>match(Fb (IntKind.wrap .i64 (a0-(IntKind.wrap .i64 (0-0)))))with
  |true=>match By (EN (AK (IntKind.wrap .i64 (a0-(IntKind.wrap .i64 ((0:Int)-(0:Int)))))) (0:Int)) (0:Int) (0:Int)with|none=>none|some x1=>some ((Bq (AK (AI x1)) (EN (AK (IntKind.wrap .i64 (a0-(IntKind.wrap .i64 ((0:Int)-(0:Int)))))) (0:Int))),())
  |false=>none
 |false=>some (([]:List (Int)),())
def APa[Lk]:=fun v=>Lk.f (Yn v)
theorem APZ v:APa v=Yn v:=AG _
abbrev VX:AE:=[(.tmp 0,.dat Ug)]
abbrev VW:AE:=[(.tmp 0,.own 3 U0)]
abbrev VV:List RS:=[.one]
abbrev ADP:AE:=[(.tmp 6,.own 3 U0),(.tmp 25,.dat Ug),(.tmp 26,.di),(.tmp 27,.di)]
abbrev ADN:At:=[(.exit 2,[(.tmp 6,.own 3 U0)])]
def Eh[Lk]:(List Int×List U3×Int×Int×Unit)→Option ((List Int×List U3×Int×Int×Unit)⊕Up⊕Unit):=fun(a0,a1,a2,a3,_)=>
 match(ilt a3 a2)with
 |true=>match idx a1 a3 with|none=>none|some x0=>match(fits ((AI a0)+(AI x0)))with
  |true=>some (.inl ((A2 a0 x0),a1,a2,(IntKind.wrap .i64 (a3+1)),()))
  |false=>none
 |false=>some (.inr (.inl (a0,())))
abbrev ADQ:AE:=[(.tmp 0,.dat Ug),(.tmp 3,.di),(.tmp 9,.dat Ug),(.tmp 10,.di),(.tmp 11,.di)]
abbrev ADO:At:=[(.exit 0,[(.tmp 0,.dat Ug),(.tmp 3,.di)])]
def Ei[Lk]:(List U3×Int×List U3×Int×Int×Unit)→Option ((List U3×Int×List U3×Int×Int×Unit)⊕Vc⊕Unit):=fun(a0,a1,a2,a3,a4,_)=>
 match(ilt a4 a3)with
 |true=>match idx a2 a4 with|none=>none|some x0=>match(ilt (IntKind.wrap .i64 (a1+(AI x0))) 0)with
  |true=>none
  |false=>some (.inl (a0,(IntKind.wrap .i64 (a1+(AI x0))),a2,a3,(IntKind.wrap .i64 (a4+1)),()))
 |false=>some (.inr (.inl (a0,a1,())))
def OO[Lk]:Uo→Option (Up):=fun(a0,_)=>
 match AW Ei many (a0,0,a0,(AI a0),0,())with|none=>none|some r=>match r with
 |.inl (o0,o1,_)=>match APa (o1,())with|none=>none|some (y2,_)=>match AW Eh many (y2,o0,(AI o0),0,())with|none=>none|some r=>match r with
  |.inl (o3,_)=>some (o3,())
  |.inr _=>none
 |.inr _=>none
def JQ[Lk]:=fun v=>Lk.f (OO v)
theorem ADR v:JQ v=OO v:=AG _
abbrev IM:AE:=[(.tmp 0,.dat U6),(.tmp 1,.clo 96 [])]
abbrev IL:AE:=[(.tmp 0,.di)]
abbrev IK:List RS:=[.one]
abbrev MO:AE:=[(.tmp 0,.dat U6),(.tmp 1,.clo 96 []),(.tmp 7,.di),(.tmp 8,.di)]
abbrev MN:At:=[(.ret,[(.tmp 4,.di)]),(.exit 0,[])]
def CA[Lk]:Uq→Option (Uq⊕U9⊕(Unit)⊕Unit):=fun(a0,a1,a2,_)=>
 match(ilt a2 a1)with
 |true=>match idx a0 a2 with|none=>none|some x0=>match(ilt x0 0)with
  |true=>some (.inr (.inl (a2,())))
  |false=>match(ilt 10000 x0)with
  |true=>some (.inr (.inl (a2,())))
  |false=>some (.inl (a0,a1,(IntKind.wrap .i64 (a2+1)),()))
 |false=>some (.inr (.inr (.inl ())))
def FI[Lk]:Up→Option (U9):=fun(a0,_)=>
 match AW CA many (a0,(AI a0),0,())with|none=>none|some r=>match r with
 |.inl (o0,_)=>some (o0,())
 |.inr r=>match r with
 |.inl _=>some ((-1:Int),())
 |.inr _=>none
def HM[Lk]:=fun v=>Lk.f (FI v)
theorem MP v:HM v=FI v:=AG _
abbrev G4:AE:=[(.tmp 0,.dat U6),(.tmp 1,.clo 96 [])]
abbrev G3:AE:=[(.tmp 0,.dat .bool)]
abbrev G2:List RS:=[.one]
def EU[Lk]:Up→Option (Ue):=fun(a0,_)=>
 match HM (a0,())with|none=>none|some (y0,_)=>some ((ile 0 y0),())
def EO[Lk]:=fun v=>Lk.f (EU v)
theorem Kh v:EO v=EU v:=AG _
abbrev ATY:AE:=[(.tmp 0,.dat U6)]
abbrev ATX:AE:=[(.tmp 0,.dat .bool)]
abbrev ATW:List RS:=[.one]
abbrev AWk:AE:=[(.tmp 0,.dat U6),(.tmp 3,.map U0 U0),(.tmp 7,.dat U6),(.tmp 8,.di),(.tmp 9,.di)]
abbrev AWj:At:=[(.exit 0,[(.tmp 0,.dat U6),(.tmp 3,.map U0 U0)])]
def LK[Lk]:(List Int×List Ub×List Int×Int×Int×Unit)→Option ((List Int×List Ub×List Int×Int×Int×Unit)⊕(List Int×List Ub×Unit)⊕Unit):=fun(a0,a1,a2,a3,a4,_)=>
 match(ilt a4 a3)with
 |true=>match idx a2 a4 with|none=>none|some x0=>some (.inl (a0,(Ae a1 x0 (IntKind.wrap .i64 (((AP a1 x0).getD 0)+1))),a2,a3,(IntKind.wrap .i64 (a4+1)),()))
 |false=>some (.inr (.inl (a0,a1,())))
def AJZ[Lk]:Up→Option (Ue):=fun(a0,_)=>
 match AW LK many (a0,([]:List Ub),a0,(AI a0),0,())with|none=>none|some r=>match r with
 |.inl (o0,o1,_)=>some ((ieq (AI o1) (AI o0)),())
 |.inr _=>none
def once[Lk]:=fun v=>Lk.f (AJZ v)
theorem AWl v:once v=AJZ v:=AG _
abbrev AAU:AE:=[(.tmp 0,.dat U6)]
abbrev AAT:AE:=[(.tmp 0,.dat .bool)]
abbrev AAS:List RS:=[.one]
def Qo[Lk]:Up→Option (Ue):=fun(a0,_)=>
 match(ilt 1000 (AI a0))with
 |true=>some (false,())
 |false=>match EO (a0,())with|none=>none|some (y0,_)=>match(!y0)with
 |true=>match once (a0,())with|none=>none|some (y1,_)=>some (y1,())
 |false=>some (false,())
def Mq[Lk]:=fun v=>Lk.f (Qo v)
theorem AF1 v:Mq v=Qo v:=AG _
abbrev ZK:AE:=[(.tmp 0,.dat U6),(.tmp 1,.di)]
abbrev ZJ:AE:=[(.tmp 0,.own 3 U0)]
abbrev ZI:List RS:=[.one]
def Qe[Lk]:Us→Option (Up):=fun(a0,a1,_)=>
 match By a0 a1 (AI a0)with|none=>none|some x0=>match By a0 0 a1 with|none=>none|some x1=>match JQ (([x0,x1]:List U3),())with|none=>none|some (y2,_)=>some (y2,())
def Sx[Lk]:=fun v=>Lk.f (Qe v)
theorem AFX v:Sx v=Qe v:=AG _
abbrev AAr:AE:=[(.tmp 0,.dat U6),(.tmp 1,.dat U6)]
abbrev AAq:AE:=[(.tmp 0,.own 3 U0),(.tmp 1,.dat .bool)]
abbrev AAp:List RS:=[.one,.one]
abbrev AGC:AE:=[(.tmp 0,.dat U6),(.tmp 6,.own 3 U0),(.tmp 12,.dat U6),(.tmp 13,.di),(.tmp 14,.di)]
abbrev AGB:At:=[(.exit 0,[(.tmp 6,.own 3 U0)])]
def Es[Lk]:Va→Option (Va⊕Up⊕Unit):=fun(a0,a1,a2,a3,a4,_)=>
 match(ilt a4 a3)with
 |true=>match idx a2 a4 with|none=>none|some x0=>match Py (a0,x0,())with|none=>none|some (y1,_)=>match(fits ((AI a1)+(AI ([y1]:List (Int)))))with
  |true=>some (.inl (a0,(A2 a1 ([y1]:List (Int))),a2,a3,(IntKind.wrap .i64 (a4+1)),()))
  |false=>none
 |false=>some (.inr (.inl (a1,())))
def Q1[Lk]:Vg→Option ((List Int×Bool×Unit)):=fun(a0,a1,_)=>
 match Mq (a0,())with|none=>none|some (y0,_)=>match(!y0)with
 |true=>some (([]:List (Int)),false,())
 |false=>match AW Es many (a0,([]:List (Int)),a1,(AI a1),0,())with|none=>none|some r=>match r with
 |.inl (o1,_)=>match GB (o1,(-1:Int),())with|none=>none|some (y2,_)=>some (o1,(!y2),())
 |.inr _=>none
def places[Lk]:=fun v=>Lk.f (Q1 v)
theorem AGD v:places v=Q1 v:=AG _
abbrev AIu:AE:=[(.tmp 0,.dat U6),(.tmp 1,.di)]
abbrev AIt:AE:=[(.tmp 0,.own 3 U0),(.tmp 1,.dat .bool)]
abbrev AIs:List RS:=[.one,.one]
def Ye[Lk]:Us→Option ((List Int×Bool×Unit)):=fun(a0,a1,_)=>
 match places (a0,([a1]:List (Int)),())with|none=>none|some (y0,y1,_)=>match(!y1)with
 |true=>some (([]:List (Int)),false,())
 |false=>match idx y0 0 with|none=>none|some x2=>match Sx (a0,(AU y0 0 0),())with|none=>none|some (y3,_)=>some (y3,true,())
def AF5[Lk]:=fun v=>Lk.f (Ye v)
theorem AM7 v:AF5 v=Ye v:=AG _
abbrev AAX:AE:=[(.tmp 0,.dat U6)]
abbrev AAW:AE:=[(.tmp 0,.own 3 U0)]
abbrev AAV:List RS:=[.one]
def Qp[Lk]:Up→Option (Up):=fun(a0,_)=>
 match Mq (a0,())with|none=>none|some (y0,_)=>match(!y0)with
 |true=>some (([]:List (Int)),())
 |false=>match(ieq (AI a0) 0)with
 |true=>some (([]:List (Int)),())
 |false=>match AZZ (a0,())with|none=>none|some (y1,_)=>match Py (a0,y1,())with|none=>none|some (y2,_)=>match Sx (a0,y2,())with|none=>none|some (y3,_)=>some (y3,())
def AAY[Lk]:=fun v=>Lk.f (Qp v)
theorem AF2 v:AAY v=Qp v:=AG _
abbrev Fz:AE:=[(.tmp 0,.dat Ug),(.cap 1 0,.box 1),(.cell 0 0,.di),(.tmp 1,.clo 113 [(0,0)])]
abbrev Fy:AE:=[(.obj 0,.box 1),(.cell 0 0,.di),(.tmp 0,.di)]
abbrev Fx:List RS:=[.one]
abbrev I9:AE:=[(.obj 0,.box 1),(.cell 0 0,.di),(.tmp 0,.dat Ug),(.tmp 1,.clo 113 [(0,0)]),(.tmp 7,.di),(.tmp 8,.di)]
abbrev I8:At:=[(.ret,[(.obj 0,.box 1),(.cell 0 0,.di),(.tmp 4,.di)]),(.exit 0,[(.obj 0,.box 1),(.cell 0 0,.di)])]
def Bm[Lk]:(Int×List U3×Int×Int×Unit)→Option ((Int×List U3×Int×Int×Unit)⊕U1⊕U9⊕Unit):=fun(a0,a1,a2,a3,_)=>
 match(ilt a3 a2)with
 |true=>match idx a1 a3 with|none=>none|some x0=>match GB (x0,a0,())with|none=>none|some (y1,_)=>match y1 with
  |true=>some (.inr (.inl (a0,a3,())))
  |false=>some (.inl (a0,a1,a2,(IntKind.wrap .i64 (a3+1)),()))
 |false=>some (.inr (.inr (.inl (a0,()))))
def D6[Lk]:Vc→Option (U1):=fun(a0,a1,_)=>
 match AW Bm many (a1,a0,(AI a0),0,())with|none=>none|some r=>match r with
 |.inl (o0,o1,_)=>some (o0,o1,())
 |.inr r=>match r with
 |.inl (o2,_)=>some (o2,(-1:Int),())
 |.inr _=>none
def FG[Lk]:=fun v=>Lk.f (D6 v)
theorem JA v:FG v=D6 v:=AG _
abbrev Ze:AE:=[(.tmp 0,.dat Ur),(.tmp 1,.di)]
abbrev Zd:AE:=[(.tmp 0,.di)]
abbrev Zc:List RS:=[.one]
def Qi[Lk]:Vi→Option (U9):=fun(a0,a1,_)=>
 match FG (a0.2.1,a1,())with|none=>none|some (y0,y1,_)=>some (y1,())
def PG[Lk]:=fun v=>Lk.f (Qi v)
theorem AFh v:PG v=Qi v:=AG _
abbrev AUk:AE:=[(.tmp 0,.di),(.tmp 1,.dat U6)]
abbrev AUj:AE:=[(.tmp 0,.dat .bool)]
abbrev AUi:List RS:=[.one]
abbrev AXE:AE:=[(.tmp 0,.di),(.tmp 5,.box 3),(.cell 0 0,.own 3 U0),(.cell 0 1,.map U0 U0),(.cell 0 2,.map U0 U0),(.tmp 30,.dat U6),(.tmp 31,.di),(.tmp 32,.di)]
abbrev AXD:At:=[(.ret,[(.tmp 4,.dat .bool)]),(.exit 0,[(.tmp 5,.box 3),(.cell 0 0,.own 3 U0),(.cell 0 1,.map U0 U0),(.cell 0 2,.map U0 U0)])]
def JH[Lk]:(Int×List Int×List Ub×List Ub×List Int×Int×Int×Unit)→Option ((Int×List Int×List Ub×List Ub×List Int×Int×Int×Unit)⊕Ue⊕(List Int×List Ub×List Ub×Unit)⊕Unit):=fun(a0,a1,a2,a3,a4,a5,a6,_)=>
 match(ilt a6 a5)with
 |true=>match idx a4 a6 with|none=>none|some x0=>match ZO (a0,x0,())with|none=>none|some (y1,y2,y3,y4,_)=>match(!y4)with
  |true=>some (.inr (.inl (false,())))
  |false=>match y3 with
  |true=>match idx a1 (IntKind.wrap .i64 ((AI a1)-1))with|none=>none|some x5=>match(!(ieq (AU a1 (AK (IntKind.wrap .i64 ((AI a1)-1))) 0) y1))with
   |true=>some (.inr (.inl (false,())))
   |false=>match(ilt 0 (IntKind.wrap .i64 ((AI a1)-1)))with
   |true=>match idx a1 (IntKind.wrap .i64 ((IntKind.wrap .i64 ((AI a1)-1))-1))with|none=>none|some x6=>match(ieq (AU a1 (AK (IntKind.wrap .i64 ((IntKind.wrap .i64 ((AI a1)-1))-1))) 0) y2)with
    |true=>match By a1 0 (IntKind.wrap .i64 ((AI a1)-1))with|none=>none|some x7=>match(!y3)with
     |true=>match idx (DY 0 (AK (AI x7)) a1) (IntKind.wrap .i64 ((((AK (AI x7)):Nat):Int)-1))with|none=>none|some x8=>match(!(ieq (AU a1 (0+(AK (IntKind.wrap .i64 ((((AK (AI x7)):Nat):Int)-1)))) 0) y1))with
      |true=>some (.inr (.inl (false,())))
      |false=>match(!y3)with
      |true=>some (.inl (a0,(Bq (AK (AI x7)) a1),a2,(Ae a3 y1 (IntKind.wrap .i64 (((AP a3 y1).getD 0)+1))),a4,a5,(IntKind.wrap .i64 (a6+1)),()))
      |false=>some (.inl (a0,(Bq (AK (AI x7)) a1),a2,a3,a4,a5,(IntKind.wrap .i64 (a6+1)),()))
     |false=>match(!y3)with
     |true=>some (.inl (a0,(Bq (AK (AI x7)) a1),a2,(Ae a3 y1 (IntKind.wrap .i64 (((AP a3 y1).getD 0)+1))),a4,a5,(IntKind.wrap .i64 (a6+1)),()))
     |false=>some (.inl (a0,(Bq (AK (AI x7)) a1),a2,a3,a4,a5,(IntKind.wrap .i64 (a6+1)),()))
    |false=>match(ilt 0 ((AP a2 y2).getD 0))with
    |true=>some (.inr (.inl (false,())))
    |false=>match(fits ((AI a1)+(AI ([y2]:List (Int)))))with
    |true=>match(!y3)with
     |true=>match idx (A2 a1 ([y2]:List (Int))) (IntKind.wrap .i64 ((AI (A2 a1 ([y2]:List (Int))))-1))with|none=>none|some x9=>match(!(ieq (AU (A2 a1 ([y2]:List (Int))) (AK (IntKind.wrap .i64 ((AI (A2 a1 ([y2]:List (Int))))-1))) 0) y1))with
      |true=>some (.inr (.inl (false,())))
      |false=>match(!y3)with
      |true=>some (.inl (a0,(A2 a1 ([y2]:List (Int))),(Ae a2 y2 (IntKind.wrap .i64 (((AP a2 y2).getD 0)+1))),(Ae a3 y1 (IntKind.wrap .i64 (((AP a3 y1).getD 0)+1))),a4,a5,(IntKind.wrap .i64 (a6+1)),()))
      |false=>some (.inl (a0,(A2 a1 ([y2]:List (Int))),(Ae a2 y2 (IntKind.wrap .i64 (((AP a2 y2).getD 0)+1))),a3,a4,a5,(IntKind.wrap .i64 (a6+1)),()))
     |false=>match(!y3)with
     |true=>some (.inl (a0,(A2 a1 ([y2]:List (Int))),(Ae a2 y2 (IntKind.wrap .i64 (((AP a2 y2).getD 0)+1))),(Ae a3 y1 (IntKind.wrap .i64 (((AP a3 y1).getD 0)+1))),a4,a5,(IntKind.wrap .i64 (a6+1)),()))
     |false=>some (.inl (a0,(A2 a1 ([y2]:List (Int))),(Ae a2 y2 (IntKind.wrap .i64 (((AP a2 y2).getD 0)+1))),a3,a4,a5,(IntKind.wrap .i64 (a6+1)),()))
    |false=>none
   |false=>match(ilt 0 ((AP a2 y2).getD 0))with
   |true=>some (.inr (.inl (false,())))
   |false=>match(fits ((AI a1)+(AI ([y2]:List (Int)))))with
   |true=>match(!y3)with
    |true=>match idx (A2 a1 ([y2]:List (Int))) (IntKind.wrap .i64 ((AI (A2 a1 ([y2]:List (Int))))-1))with|none=>none|some x10=>match(!(ieq (AU (A2 a1 ([y2]:List (Int))) (AK (IntKind.wrap .i64 ((AI (A2 a1 ([y2]:List (Int))))-1))) 0) y1))with
     |true=>some (.inr (.inl (false,())))
     |false=>match(!y3)with
     |true=>some (.inl (a0,(A2 a1 ([y2]:List (Int))),(Ae a2 y2 (IntKind.wrap .i64 (((AP a2 y2).getD 0)+1))),(Ae a3 y1 (IntKind.wrap .i64 (((AP a3 y1).getD 0)+1))),a4,a5,(IntKind.wrap .i64 (a6+1)),()))
     |false=>some (.inl (a0,(A2 a1 ([y2]:List (Int))),(Ae a2 y2 (IntKind.wrap .i64 (((AP a2 y2).getD 0)+1))),a3,a4,a5,(IntKind.wrap .i64 (a6+1)),()))
    |false=>match(!y3)with
    |true=>some (.inl (a0,(A2 a1 ([y2]:List (Int))),(Ae a2 y2 (IntKind.wrap .i64 (((AP a2 y2).getD 0)+1))),(Ae a3 y1 (IntKind.wrap .i64 (((AP a3 y1).getD 0)+1))),a4,a5,(IntKind.wrap .i64 (a6+1)),()))
    |false=>some (.inl (a0,(A2 a1 ([y2]:List (Int))),(Ae a2 y2 (IntKind.wrap .i64 (((AP a2 y2).getD 0)+1))),a3,a4,a5,(IntKind.wrap .i64 (a6+1)),()))
   |false=>none
  |false=>match(!y3)with
  |true=>match idx a1 (IntKind.wrap .i64 ((AI a1)-1))with|none=>none|some x11=>match(!(ieq (AU a1 (AK (IntKind.wrap .i64 ((AI a1)-1))) 0) y1))with
   |true=>some (.inr (.inl (false,())))
   |false=>match(!y3)with
   |true=>some (.inl (a0,a1,a2,(Ae a3 y1 (IntKind.wrap .i64 (((AP a3 y1).getD 0)+1))),a4,a5,(IntKind.wrap .i64 (a6+1)),()))
   |false=>some (.inl (a0,a1,a2,a3,a4,a5,(IntKind.wrap .i64 (a6+1)),()))
  |false=>match(!y3)with
  |true=>some (.inl (a0,a1,a2,(Ae a3 y1 (IntKind.wrap .i64 (((AP a3 y1).getD 0)+1))),a4,a5,(IntKind.wrap .i64 (a6+1)),()))
  |false=>some (.inl (a0,a1,a2,a3,a4,a5,(IntKind.wrap .i64 (a6+1)),()))
 |false=>some (.inr (.inr (.inl (a1,a2,a3,()))))
def AKV[Lk]:(Int×List Int×Unit)→Option (Ue):=fun(a0,a1,_)=>
 match idx a1 0 with|none=>none|some x0=>match tin (a0,x0,())with|none=>none|some (y1,_)=>match(!y1)with
 |true=>some (false,())
 |false=>match idx a1 0 with|none=>none|some x2=>match idx a1 0 with|none=>none|some x3=>match AW JH many (a0,([x2]:List (Int)),(Ae ([]:List Ub) x3 1),([]:List Ub),a1,(AI a1),0,())with|none=>none|some r=>match r with
 |.inl (o4,_)=>some (o4,())
 |.inr r=>match r with
 |.inl (o5,o6,o7,_)=>match(ieq (AI o5) 1)with
  |true=>some ((ieq (AI o7) (AI o6)),())
  |false=>some (false,())
 |.inr _=>none
def goes[Lk]:=fun v=>Lk.f (AKV v)
theorem AXF v:goes v=AKV v:=AG _
abbrev ZX:AE:=[(.tmp 0,.dat Ur)]
abbrev ZW:AE:=[(.tmp 0,.dat .bool)]
abbrev ZV:List RS:=[.one]
abbrev AFd:AE:=[(.tmp 3,.map U0 U0),(.tmp 78,.di),(.tmp 79,.di)]
abbrev AFa:At:=[(.ret,[(.tmp 2,.dat .bool)]),(.exit 4,[])]
def En[Lk]:(List Ub×Int×Int×Unit)→Option ((List Ub×Int×Int×Unit)⊕Ue⊕(Unit)⊕Unit):=fun(a0,a1,a2,_)=>
 match(ilt a2 a1)with
 |true=>match(ieq ((AP a0 a2).getD 0) 0)with
  |true=>some (.inr (.inl (false,())))
  |false=>some (.inl (a0,a1,(IntKind.wrap .i64 (a2+1)),()))
 |false=>some (.inr (.inr (.inl ())))
abbrev AFe:AE:=[(.tmp 1,.box 2),(.cell 0 0,.di),(.cell 0 1,.dat Ug),(.tmp 3,.map U0 U0),(.tmp 4,.di),(.tmp 16,.dat Ug),(.tmp 17,.di),(.tmp 18,.di),(.tmp 26,.dat U6),(.tmp 28,.di),(.tmp 29,.di),(.tmp 30,.dat .bool),(.tmp 33,.dat U6),(.tmp 34,.dat .bool),(.tmp 35,.dat .bool),(.tmp 38,.dat U6),(.tmp 39,.di),(.tmp 40,.dat U6),(.tmp 42,.di),(.tmp 43,.dat .bool),(.tmp 46,.ptr' 0 0),(.tmp 47,.di),(.tmp 48,.dat U6),(.tmp 49,.dat .bool),(.tmp 50,.dat .bool),(.tmp 55,.dat U6),(.tmp 56,.di),(.tmp 57,.di)]
abbrev AFb:At:=[(.ret,[(.tmp 2,.dat .bool)]),(.exit 2,[(.tmp 1,.box 2),(.cell 0 0,.di),(.cell 0 1,.dat Ug),(.tmp 3,.map U0 U0),(.tmp 4,.di),(.tmp 16,.dat Ug),(.tmp 17,.di),(.tmp 18,.di),(.tmp 26,.dat U6),(.tmp 28,.di),(.tmp 29,.di),(.tmp 30,.dat .bool),(.tmp 33,.dat U6),(.tmp 34,.dat .bool),(.tmp 35,.dat .bool),(.tmp 38,.dat U6),(.tmp 39,.di),(.tmp 40,.dat U6),(.tmp 42,.di),(.tmp 43,.dat .bool),(.tmp 46,.ptr' 0 0),(.tmp 47,.di),(.tmp 48,.dat U6),(.tmp 49,.dat .bool),(.tmp 50,.dat .bool)])]
def Du[Lk]:Uw→Option (Uw⊕Ue⊕(Int×List U3×List Ub×Int×List U3×Int×Int×List Int×Int×Int×Bool×List Int×Bool×Bool×List Int×Int×List Int×Int×Bool×Int×List Int×Bool×Bool×Unit)⊕Unit):=fun(a0,a1,a2,a3,a4,a5,a6,a7,a8,a9,a10,a11,a12,a13,a14,a15,a16,a17,a18,a19,a20,a21,a22,a23,a24,a25,_)=>
 match(ilt a25 a24)with
 |true=>match idx a23 a25 with|none=>none|some x0=>match(ilt x0 a0)with
  |true=>match(ilt 0 ((AP a2 x0).getD 0))with
   |true=>some (.inr (.inl (false,())))
   |false=>some (.inl (a0,a1,(Ae a2 x0 (IntKind.wrap .i64 (((AP a2 x0).getD 0)+1))),a3,a4,a5,a6,a7,a8,a9,a10,a11,a12,a13,a14,a15,a16,a17,a18,a19,a20,a21,a22,a23,a24,(IntKind.wrap .i64 (a25+1)),()))
  |false=>some (.inl (a0,a1,(Ae a2 x0 (IntKind.wrap .i64 (((AP a2 x0).getD 0)+1))),a3,a4,a5,a6,a7,a8,a9,a10,a11,a12,a13,a14,a15,a16,a17,a18,a19,a20,a21,a22,a23,a24,(IntKind.wrap .i64 (a25+1)),()))
 |false=>some (.inr (.inr (.inl (a0,a1,a2,a3,a4,a5,a6,a7,a8,a9,a10,a11,a12,a13,a14,a15,a16,a17,a18,a19,a20,a21,a22,()))))
abbrev AFf:AE:=[(.tmp 1,.box 2),(.cell 0 0,.di),(.cell 0 1,.dat Ug),(.tmp 3,.map U0 U0),(.tmp 4,.di),(.tmp 16,.dat Ug),(.tmp 17,.di),(.tmp 18,.di)]
abbrev AFc:At:=[(.ret,[(.tmp 2,.dat .bool)]),(.exit 0,[(.tmp 1,.box 2),(.cell 0 0,.di),(.cell 0 1,.dat Ug),(.tmp 3,.map U0 U0)])]
def Dv[Lk]:(Int×List U3×List Ub×Int×List U3×Int×Int×Unit)→Option ((Int×List U3×List Ub×Int×List U3×Int×Int×Unit)⊕Ue⊕(Int×List U3×List Ub×Unit)⊕Unit):=fun(a0,a1,a2,a3,a4,a5,a6,_)=>
 match(ilt a6 a5)with
 |true=>match idx a4 a6 with|none=>none|some x0=>match(ieq (AI x0) 0)with
  |true=>some (.inr (.inl (false,())))
  |false=>match idx x0 0 with|none=>none|some x1=>match(ile x1 a3)with
  |true=>some (.inr (.inl (false,())))
  |false=>match Mq (x0,())with|none=>none|some (y2,_)=>match(!y2)with
  |true=>some (.inr (.inl (false,())))
  |false=>match AZZ (x0,())with|none=>none|some (y3,_)=>match idx x0 0 with|none=>none|some x4=>match(!(ieq y3 x4))with
  |true=>some (.inr (.inl (false,())))
  |false=>match goes (a0,x0,())with|none=>none|some (y5,_)=>match(!y5)with
  |true=>some (.inr (.inl (false,())))
  |false=>match idx x0 0 with|none=>none|some x6=>match AW Du many (a0,a1,a2,x6,a4,a5,a6,x0,x1,a3,(ile x1 a3),x0,y2,(!y2),x0,y3,x0,x4,(!(ieq y3 x4)),a0,x0,y5,(!y5),x0,(AI x0),0,())with|none=>none|some r=>match r with
  |.inl (o7,_)=>some (.inr (.inl (o7,())))
  |.inr r=>match r with
  |.inl (o8,o9,o10,o11,o12,o13,o14,o15,o16,o17,o18,o19,o20,o21,o22,o23,o24,o25,o26,o27,o28,o29,o30,_)=>some (.inl (o8,o9,o10,o11,o12,o13,(IntKind.wrap .i64 (o14+1)),()))
  |.inr _=>none
 |false=>some (.inr (.inr (.inl (a0,a1,a2,()))))
def Qh[Lk]:(Uk×Unit)→Option (Ue):=fun(a0,_)=>
 match Mh (a0.1,())with|none=>none|some (y0,_)=>match(!y0)with
 |true=>some (false,())
 |false=>match AW Dv many (a0.1,a0.2.1,([]:List Ub),(-1:Int),a0.2.1,(AI a0.2.1),0,())with|none=>none|some r=>match r with
 |.inl (o1,_)=>some (o1,())
 |.inr r=>match r with
 |.inl (o2,o3,o4,_)=>match AW En many (o4,o2,0,())with|none=>none|some r=>match r with
  |.inl (o5,_)=>some (o5,())
  |.inr r=>match r with
  |.inl _=>some (true,())
  |.inr _=>none
 |.inr _=>none
def PF[Lk]:=fun v=>Lk.f (Qh v)
theorem AFg v:PF v=Qh v:=AG _
abbrev ALF:AE:=[(.tmp 0,.dat Ur),(.tmp 1,.di),(.tmp 2,.di)]
abbrev ALE:AE:=[(.tmp 0,.di)]
abbrev ALD:List RS:=[.one]
def Yu[Lk]:(Uk×Int×Int×Unit)→Option (U9):=fun(a0,a1,a2,_)=>
 match PF ((a0.1,(a0.2.1,())),())with|none=>none|some (y0,_)=>match(!y0)with
 |true=>some (1,())
 |false=>match tin (a0.1,a1,())with|none=>none|some (y1,_)=>match(!y1)with
 |true=>some (10,())
 |false=>match tin (a0.1,a2,())with|none=>none|some (y2,_)=>match(!y2)with
 |true=>some (10,())
 |false=>some (0,())
def asked[Lk]:=fun v=>Lk.f (Yu v)
theorem AQV v:asked v=Yu v:=AG _
abbrev ATj:AE:=[(.tmp 0,.di)]
abbrev ATi:AE:=[(.tmp 0,.dat .bool)]
abbrev ATh:List RS:=[.one]
def LO[Lk]:U9→Option (Ue):=fun(a0,_)=>
 some ((!(ieq a0 a0)),())
def Adj[Lk]:=fun v=>Lk.f (LO v)
theorem LN v:Adj v=LO v:=AG _
abbrev QI:AE:=[(.tmp 0,.di),(.tmp 1,.di)]
abbrev QH:AE:=[(.tmp 0,.di)]
abbrev QG:List RS:=[.one]
def Ej[Lk]:U1→Option (U9):=fun(a0,a1,_)=>
 match Adj (a0,())with|none=>none|some (y0,_)=>match Adj (a1,())with|none=>none|some (y1,_)=>match y0 with
 |true=>match y1 with
  |true=>some (0,())
  |false=>some ((-1:Int),())
 |false=>match y1 with
 |true=>some (1,())
 |false=>match(ilt a0 a1)with
 |true=>some ((-1:Int),())
 |false=>match(ilt a1 a0)with
 |true=>some (1,())
 |false=>some (0,())
def Dn[Lk]:=fun v=>Lk.f (Ej v)
theorem Gt v:Dn v=Ej v:=AG _
abbrev AHQ:AE:=[(.tmp 0,.dat U6),(.tmp 1,.dat U6)]
abbrev AHP:AE:=[(.tmp 0,.di)]
abbrev AHO:List RS:=[.one]
def YS[Lk]:Vg→Option (U9):=fun(a0,a1,_)=>
 match idx a0 0 with|none=>none|some x0=>match idx a1 0 with|none=>none|some x1=>match Dn (x0,x1,())with|none=>none|some (y2,_)=>some (y2,())
def BQ[Lk]:=fun v=>Lk.f (YS v)
theorem ALj v:BQ v=YS v:=AG _
def G1:List Int:=[0,1,2,2,3,3,3,3,4,4,4,4,4,4,4,4,5,5,5,5,5,5,5,5,5,5,5,5,5,5,5,5,6,6,6,6,6,6,6,6,6,6,6,6,6,6,6,6,6,6,6,6,6,6,6,6,6,6,6,6,6,6,6,6,7,7,7,7,7,7,7,7,7,7,7,7,7,7,7,7,7,7,7,7,7,7,7,7,7,7,7,7,7,7,7,7,7,7,7,7,7,7,7,7,7,7,7,7,7,7,7,7,7,7,7,7,7,7,7,7,7,7,7,7,7,7,7,7,8,8,8,8,8,8,8,8,8,8,8,8,8,8,8,8,8,8,8,8,8,8,8,8,8,8,8,8,8,8,8,8,8,8,8,8,8,8,8,8,8,8,8,8,8,8,8,8,8,8,8,8,8,8,8,8,8,8,8,8,8,8,8,8,8,8,8,8,8,8,8,8,8,8,8,8,8,8,8,8,8,8,8,8,8,8,8,8,8,8,8,8,8,8,8,8,8,8,8,8,8,8,8,8,8,8,8,8,8,8,8,8,8,8,8,8,8,8,8,8,8,8,8,8,8,8,8,8]
abbrev AJ1:AE:=[(.tmp 0,.dat (.int .u64))]
abbrev AJ0:AE:=[(.tmp 0,.di)]
abbrev AJz:List RS:=[.one]
def Yl[Lk]:U9→Option (U9):=fun(a0,_)=>
 match(ile 4294967296 a0)with
 |true=>match shr? .u64 a0 32 with|none=>none|some x0=>match(ile 65536 x0)with
  |true=>match shr? .u64 x0 16 with|none=>none|some x1=>match(ile 256 x1)with
   |true=>match shr? .u64 x1 8 with|none=>none|some x2=>match idx G1 (IntKind.wrap .u8 x2)with|none=>none|some x3=>some ((IntKind.wrap .i64 ((IntKind.wrap .i64 ((IntKind.wrap .i64 (32+16))+8))+(IntKind.wrap .i64 x3))),())
   |false=>match idx G1 (IntKind.wrap .u8 x1)with|none=>none|some x4=>some ((IntKind.wrap .i64 ((IntKind.wrap .i64 (32+16))+(IntKind.wrap .i64 x4))),())
  |false=>match(ile 256 x0)with
  |true=>match shr? .u64 x0 8 with|none=>none|some x5=>match idx G1 (IntKind.wrap .u8 x5)with|none=>none|some x6=>some ((IntKind.wrap .i64 ((IntKind.wrap .i64 (32+8))+(IntKind.wrap .i64 x6))),())
  |false=>match idx G1 (IntKind.wrap .u8 x0)with|none=>none|some x7=>some ((IntKind.wrap .i64 (32+(IntKind.wrap .i64 x7))),())
 |false=>match(ile 65536 a0)with
 |true=>match shr? .u64 a0 16 with|none=>none|some x8=>match(ile 256 x8)with
  |true=>match shr? .u64 x8 8 with|none=>none|some x9=>match idx G1 (IntKind.wrap .u8 x9)with|none=>none|some x10=>some ((IntKind.wrap .i64 ((IntKind.wrap .i64 ((IntKind.wrap .i64 (0+16))+8))+(IntKind.wrap .i64 x10))),())
  |false=>match idx G1 (IntKind.wrap .u8 x8)with|none=>none|some x11=>some ((IntKind.wrap .i64 ((IntKind.wrap .i64 (0+16))+(IntKind.wrap .i64 x11))),())
 |false=>match(ile 256 a0)with
 |true=>match shr? .u64 a0 8 with|none=>none|some x12=>match idx G1 (IntKind.wrap .u8 x12)with|none=>none|some x13=>some ((IntKind.wrap .i64 ((IntKind.wrap .i64 (0+8))+(IntKind.wrap .i64 x13))),())
 |false=>match idx G1 (IntKind.wrap .u8 a0)with|none=>none|some x14=>some ((IntKind.wrap .i64 (0+(IntKind.wrap .i64 x14))),())
def AO3[Lk]:=fun v=>Lk.f (Yl v)
theorem AO2 v:AO3 v=Yl v:=AG _
abbrev Vx:AE:=[(.tmp 0,.dat (.int .u64))]
abbrev Vw:AE:=[(.tmp 0,.di)]
abbrev Vv:List RS:=[.one]
def OR[Lk]:U9→Option (U9):=fun(a0,_)=>
 match AO3 (a0,())with|none=>none|some (y0,_)=>some (y0,())
def bitsLen[Lk]:=fun v=>Lk.f (OR v)
theorem ADp v:bitsLen v=OR v:=AG _
abbrev Sn:AE:=[(.tmp 0,.box 1),(.cell 0 0,.dat (.int .u64))]
abbrev Sm:AE:=[(.obj 0,.box 1),(.cell 0 0,.dat (.int .u64)),(.tmp 0,.dat (.int .u64))]
abbrev Sl:List RS:=[.one]
def Nx[Lk]:U9→Option (U1):=fun(a0,_)=>
 match shl? .u64 a0 13 with|none=>none|some x0=>match shr? .u64 (IntKind.wrap .u64 ((BitVec.ofInt (IntKind.bits .u64) a0 ^^^ BitVec.ofInt (IntKind.bits .u64) x0).toNat)) 7 with|none=>none|some x1=>match shl? .u64 (IntKind.wrap .u64 ((BitVec.ofInt (IntKind.bits .u64) (IntKind.wrap .u64 ((BitVec.ofInt (IntKind.bits .u64) a0 ^^^ BitVec.ofInt (IntKind.bits .u64) x0).toNat)) ^^^ BitVec.ofInt (IntKind.bits .u64) x1).toNat)) 17 with|none=>none|some x2=>some ((IntKind.wrap .u64 ((BitVec.ofInt (IntKind.bits .u64) (IntKind.wrap .u64 ((BitVec.ofInt (IntKind.bits .u64) (IntKind.wrap .u64 ((BitVec.ofInt (IntKind.bits .u64) a0 ^^^ BitVec.ofInt (IntKind.bits .u64) x0).toNat)) ^^^ BitVec.ofInt (IntKind.bits .u64) x1).toNat)) ^^^ BitVec.ofInt (IntKind.bits .u64) x2).toNat)),(IntKind.wrap .u64 ((BitVec.ofInt (IntKind.bits .u64) (IntKind.wrap .u64 ((BitVec.ofInt (IntKind.bits .u64) (IntKind.wrap .u64 ((BitVec.ofInt (IntKind.bits .u64) a0 ^^^ BitVec.ofInt (IntKind.bits .u64) x0).toNat)) ^^^ BitVec.ofInt (IntKind.bits .u64) x1).toNat)) ^^^ BitVec.ofInt (IntKind.bits .u64) x2).toNat)),())
def xorNext[Lk]:=fun v=>Lk.f (Nx v)
theorem Y1 v:xorNext v=Nx v:=AG _
abbrev Tn:AE:=[(.tmp 0,.di)]
abbrev Tm:AE:=[(.tmp 0,.dat (.int .u64))]
abbrev Tl:List RS:=[.one]
def OD[Lk]:U9→Option (U9):=fun(a0,_)=>
 match bitsLen ((IntKind.wrap .u64 a0),())with|none=>none|some (y0,_)=>match shl? .u64 1 y0 with|none=>none|some x1=>some (x1,())
def Q9[Lk]:=fun v=>Lk.f (OD v)
theorem ABq v:Q9 v=OD v:=AG _
def OH[Lk]{α:Type}(z:α)(c:α×α×Unit→Option U9):(List α×Int×Int×Int×Int×Unit)→Option ((List α×Int×Int×Int×Int×Unit)⊕(List α×Int×Int×Int×Unit)⊕Unit):=fun(a0,a1,a2,a3,a4,_)=>
 match(ilt a1 a4)with
 |true=>match idx a0 a4 with|none=>none|some x0=>match idx a0 (IntKind.wrap .i64 (a4-1))with|none=>none|some x1=>match c ((AU a0 (AK a4) z),(AU a0 (AK (IntKind.wrap .i64 (a4-1))) z),())with|none=>none|some (y2,_)=>match(ilt y2 0)with
  |true=>match idx a0 (IntKind.wrap .i64 (a4-1))with|none=>none|some x3=>match idx a0 a4 with|none=>none|some x4=>match idx a0 a4 with|none=>none|some x5=>match idx (A4 a0 (AK a4) (AU a0 (AK (IntKind.wrap .i64 (a4-1))) z)) (IntKind.wrap .i64 (a4-1))with|none=>none|some x6=>some (.inl ((A4 (A4 a0 (AK a4) (AU a0 (AK (IntKind.wrap .i64 (a4-1))) z)) (AK (IntKind.wrap .i64 (a4-1))) (AU a0 (AK a4) z)),a1,a2,a3,(IntKind.wrap .i64 (a4-1)),()))
  |false=>some (.inr (.inl (a0,a1,a2,a3,())))
 |false=>some (.inr (.inl (a0,a1,a2,a3,())))
def OI[Lk]{α:Type}(z:α)(c:α×α×Unit→Option U9):(List α×Int×Int×Int×Unit)→Option ((List α×Int×Int×Int×Unit)⊕(List α×Unit)⊕Unit):=fun(a0,a1,a2,a3,_)=>
 match(ilt a3 a2)with
 |true=>match AW (OH z c) many (a0,a1,a2,a3,a3,())with|none=>none|some r=>match r with
  |.inl (o0,o1,o2,o3,_)=>some (.inl (o0,o1,o2,(IntKind.wrap .i64 (o3+1)),()))
  |.inr _=>none
 |false=>some (.inr (.inl (a0,())))
def ACG[Lk]{α:Type}(z:α)(c:α×α×Unit→Option U9):(List α×Int×Int×Unit)→Option ((List α×Unit)):=fun(a0,a1,a2,_)=>
 match AW (OI z c) many (a0,a1,a2,(IntKind.wrap .i64 (a1+1)),())with|none=>none|some r=>match r with
 |.inl (o0,_)=>some (o0,())
 |.inr _=>none
def Ad2[Lk]{α:Type}(z:α)(c:α×α×Unit→Option U9)(v:(List α×Int×Int×Unit)):Option ((List α×Unit)):=Lk.f ((ACG z c) v)
theorem Agv{α:Type}(z:α)(c:α×α×Unit→Option U9)(v:(List α×Int×Int×Unit)):(Ad2 z c) v=(ACG z c) v:=AG _
def KI[Lk]{α:Type}(z:α)(c:α×α×Unit→Option U9):(List α×Int×Int×Int×Unit)→Option ((List α×Int×Int×Int×Unit)⊕(List α×Unit)⊕(List α×Unit)⊕Unit):=fun(a0,a1,a2,a3,_)=>
 match(ile a1 (IntKind.wrap .i64 ((IntKind.wrap .i64 (2*a3))+1)))with
 |true=>some (.inr (.inl (a0,())))
 |false=>match(ilt (IntKind.wrap .i64 ((IntKind.wrap .i64 ((IntKind.wrap .i64 (2*a3))+1))+1)) a1)with
 |true=>match idx a0 (IntKind.wrap .i64 (a2+(IntKind.wrap .i64 ((IntKind.wrap .i64 (2*a3))+1))))with|none=>none|some x0=>match idx a0 (IntKind.wrap .i64 ((IntKind.wrap .i64 (a2+(IntKind.wrap .i64 ((IntKind.wrap .i64 (2*a3))+1))))+1))with|none=>none|some x1=>match c ((AU a0 (AK (IntKind.wrap .i64 (a2+(IntKind.wrap .i64 ((IntKind.wrap .i64 (2*a3))+1))))) z),(AU a0 (AK (IntKind.wrap .i64 ((IntKind.wrap .i64 (a2+(IntKind.wrap .i64 ((IntKind.wrap .i64 (2*a3))+1))))+1))) z),())with|none=>none|some (y2,_)=>match(ilt y2 0)with
  |true=>match idx a0 (IntKind.wrap .i64 (a2+a3))with|none=>none|some x3=>match idx a0 (IntKind.wrap .i64 (a2+(IntKind.wrap .i64 ((IntKind.wrap .i64 ((IntKind.wrap .i64 (2*a3))+1))+1))))with|none=>none|some x4=>match c ((AU a0 (AK (IntKind.wrap .i64 (a2+a3))) z),(AU a0 (AK (IntKind.wrap .i64 (a2+(IntKind.wrap .i64 ((IntKind.wrap .i64 ((IntKind.wrap .i64 (2*a3))+1))+1))))) z),())with|none=>none|some (y5,_)=>match(!(ilt y5 0))with
   |true=>some (.inr (.inr (.inl (a0,()))))
   |false=>match idx a0 (IntKind.wrap .i64 (a2+(IntKind.wrap .i64 ((IntKind.wrap .i64 ((IntKind.wrap .i64 (2*a3))+1))+1))))with|none=>none|some x6=>match idx a0 (IntKind.wrap .i64 (a2+a3))with|none=>none|some x7=>match idx a0 (IntKind.wrap .i64 (a2+a3))with|none=>none|some x8=>match idx (A4 a0 (AK (IntKind.wrap .i64 (a2+a3))) (AU a0 (AK (IntKind.wrap .i64 (a2+(IntKind.wrap .i64 ((IntKind.wrap .i64 ((IntKind.wrap .i64 (2*a3))+1))+1))))) z)) (IntKind.wrap .i64 (a2+(IntKind.wrap .i64 ((IntKind.wrap .i64 ((IntKind.wrap .i64 (2*a3))+1))+1))))with|none=>none|some x9=>some (.inl ((A4 (A4 a0 (AK (IntKind.wrap .i64 (a2+a3))) (AU a0 (AK (IntKind.wrap .i64 (a2+(IntKind.wrap .i64 ((IntKind.wrap .i64 ((IntKind.wrap .i64 (2*a3))+1))+1))))) z)) (AK (IntKind.wrap .i64 (a2+(IntKind.wrap .i64 ((IntKind.wrap .i64 ((IntKind.wrap .i64 (2*a3))+1))+1))))) (AU a0 (AK (IntKind.wrap .i64 (a2+a3))) z)),a1,a2,(IntKind.wrap .i64 ((IntKind.wrap .i64 ((IntKind.wrap .i64 (2*a3))+1))+1)),()))
  |false=>match idx a0 (IntKind.wrap .i64 (a2+a3))with|none=>none|some x10=>match idx a0 (IntKind.wrap .i64 (a2+(IntKind.wrap .i64 ((IntKind.wrap .i64 (2*a3))+1))))with|none=>none|some x11=>match c ((AU a0 (AK (IntKind.wrap .i64 (a2+a3))) z),(AU a0 (AK (IntKind.wrap .i64 (a2+(IntKind.wrap .i64 ((IntKind.wrap .i64 (2*a3))+1))))) z),())with|none=>none|some (y12,_)=>match(!(ilt y12 0))with
  |true=>some (.inr (.inr (.inl (a0,()))))
  |false=>match idx a0 (IntKind.wrap .i64 (a2+(IntKind.wrap .i64 ((IntKind.wrap .i64 (2*a3))+1))))with|none=>none|some x13=>match idx a0 (IntKind.wrap .i64 (a2+a3))with|none=>none|some x14=>match idx a0 (IntKind.wrap .i64 (a2+a3))with|none=>none|some x15=>match idx (A4 a0 (AK (IntKind.wrap .i64 (a2+a3))) (AU a0 (AK (IntKind.wrap .i64 (a2+(IntKind.wrap .i64 ((IntKind.wrap .i64 (2*a3))+1))))) z)) (IntKind.wrap .i64 (a2+(IntKind.wrap .i64 ((IntKind.wrap .i64 (2*a3))+1))))with|none=>none|some x16=>some (.inl ((A4 (A4 a0 (AK (IntKind.wrap .i64 (a2+a3))) (AU a0 (AK (IntKind.wrap .i64 (a2+(IntKind.wrap .i64 ((IntKind.wrap .i64 (2*a3))+1))))) z)) (AK (IntKind.wrap .i64 (a2+(IntKind.wrap .i64 ((IntKind.wrap .i64 (2*a3))+1))))) (AU a0 (AK (IntKind.wrap .i64 (a2+a3))) z)),a1,a2,(IntKind.wrap .i64 ((IntKind.wrap .i64 (2*a3))+1)),()))
 |false=>match idx a0 (IntKind.wrap .i64 (a2+a3))with|none=>none|some x17=>match idx a0 (IntKind.wrap .i64 (a2+(IntKind.wrap .i64 ((IntKind.wrap .i64 (2*a3))+1))))with|none=>none|some x18=>match c ((AU a0 (AK (IntKind.wrap .i64 (a2+a3))) z),(AU a0 (AK (IntKind.wrap .i64 (a2+(IntKind.wrap .i64 ((IntKind.wrap .i64 (2*a3))+1))))) z),())with|none=>none|some (y19,_)=>match(!(ilt y19 0))with
 |true=>some (.inr (.inr (.inl (a0,()))))
 |false=>match idx a0 (IntKind.wrap .i64 (a2+(IntKind.wrap .i64 ((IntKind.wrap .i64 (2*a3))+1))))with|none=>none|some x20=>match idx a0 (IntKind.wrap .i64 (a2+a3))with|none=>none|some x21=>match idx a0 (IntKind.wrap .i64 (a2+a3))with|none=>none|some x22=>match idx (A4 a0 (AK (IntKind.wrap .i64 (a2+a3))) (AU a0 (AK (IntKind.wrap .i64 (a2+(IntKind.wrap .i64 ((IntKind.wrap .i64 (2*a3))+1))))) z)) (IntKind.wrap .i64 (a2+(IntKind.wrap .i64 ((IntKind.wrap .i64 (2*a3))+1))))with|none=>none|some x23=>some (.inl ((A4 (A4 a0 (AK (IntKind.wrap .i64 (a2+a3))) (AU a0 (AK (IntKind.wrap .i64 (a2+(IntKind.wrap .i64 ((IntKind.wrap .i64 (2*a3))+1))))) z)) (AK (IntKind.wrap .i64 (a2+(IntKind.wrap .i64 ((IntKind.wrap .i64 (2*a3))+1))))) (AU a0 (AK (IntKind.wrap .i64 (a2+a3))) z)),a1,a2,(IntKind.wrap .i64 ((IntKind.wrap .i64 (2*a3))+1)),()))
def Ql[Lk]{α:Type}(z:α)(c:α×α×Unit→Option U9):(List α×Int×Int×Int×Unit)→Option ((List α×Unit)):=fun(a0,a1,a2,a3,_)=>
 match AW (KI z c) many (a0,a2,a3,a1,())with|none=>none|some r=>match r with
 |.inl (o0,_)=>some (o0,())
 |.inr r=>match r with
 |.inl (o1,_)=>some (o1,())
 |.inr _=>none
def AFr[Lk]{α:Type}(z:α)(c:α×α×Unit→Option U9)(v:(List α×Int×Int×Int×Unit)):Option ((List α×Unit)):=Lk.f ((Ql z c) v)
theorem AcH{α:Type}(z:α)(c:α×α×Unit→Option U9)(v:(List α×Int×Int×Int×Unit)):(AFr z c) v=(Ql z c) v:=AG _
def Kb[Lk]{α:Type}(z:α)(c:α×α×Unit→Option U9):(List α×Int×Int×Int×Unit)→Option ((List α×Int×Int×Int×Unit)⊕(List α×Unit)⊕Unit):=fun(a0,a1,a2,a3,_)=>
 match(ile 0 a3)with
 |true=>match idx a0 (IntKind.wrap .i64 (a1+a3))with|none=>none|some x0=>match idx a0 a1 with|none=>none|some x1=>match idx a0 a1 with|none=>none|some x2=>match idx (A4 a0 (AK a1) (AU a0 (AK (IntKind.wrap .i64 (a1+a3))) z)) (IntKind.wrap .i64 (a1+a3))with|none=>none|some x3=>match(AFr z c) ((A4 (A4 a0 (AK a1) (AU a0 (AK (IntKind.wrap .i64 (a1+a3))) z)) (AK (IntKind.wrap .i64 (a1+a3))) (AU a0 (AK a1) z)),a2,a3,a1,())with|none=>none|some (y4,_)=>some (.inl (y4,a1,a2,(IntKind.wrap .i64 (a3-1)),()))
 |false=>some (.inr (.inl (a0,())))
def Kc[Lk]{α:Type}(z:α)(c:α×α×Unit→Option U9):(List α×Int×Int×Int×Int×Unit)→Option ((List α×Int×Int×Int×Int×Unit)⊕(List α×Int×Int×Int×Unit)⊕Unit):=fun(a0,a1,a2,a3,a4,_)=>
 match(ile 0 a4)with
 |true=>match(AFr z c) (a0,a4,a3,a1,())with|none=>none|some (y0,_)=>some (.inl (y0,a1,a2,a3,(IntKind.wrap .i64 (a4-1)),()))
 |false=>some (.inr (.inl (a0,a1,a2,a3,())))
def Ra[Lk]{α:Type}(z:α)(c:α×α×Unit→Option U9):(List α×Int×Int×Unit)→Option ((List α×Unit)):=fun(a0,a1,a2,_)=>
 match quo? .i64 (IntKind.wrap .i64 ((IntKind.wrap .i64 (a2-a1))-1)) 2 with|none=>none|some x0=>match AW (Kc z c) many (a0,a1,0,(IntKind.wrap .i64 (a2-a1)),x0,())with|none=>none|some r=>match r with
 |.inl (o1,o2,o3,o4,_)=>match AW (Kb z c) many (o1,o2,o3,(IntKind.wrap .i64 (o4-1)),())with|none=>none|some r=>match r with
  |.inl (o5,_)=>some (o5,())
  |.inr _=>none
 |.inr _=>none
def APK[Lk]{α:Type}(z:α)(c:α×α×Unit→Option U9)(v:(List α×Int×Int×Unit)):Option ((List α×Unit)):=Lk.f ((Ra z c) v)
theorem AeJ{α:Type}(z:α)(c:α×α×Unit→Option U9)(v:(List α×Int×Int×Unit)):(APK z c) v=(Ra z c) v:=AG _
def GD[Lk]{α:Type}(z:α)(c:α×α×Unit→Option U9):(List α×Int×Int×Int×Int×Int×Unit)→Option ((List α×Int×Int×Int×Int×Int×Unit)⊕(List α×Unit)⊕Unit):=fun(a0,a1,a2,a3,a4,a5,_)=>
 match quo? .i64 a2 4 with|none=>none|some x0=>match(ile a5 (IntKind.wrap .i64 ((IntKind.wrap .i64 (a1+(IntKind.wrap .i64 (x0*2))))+1)))with
 |true=>match xorNext (a3,())with|none=>none|some (y1,y2,_)=>match(ile a2 (IntKind.wrap .i64 (IntKind.wrap .u64 ((BitVec.ofInt (IntKind.bits .u64) y2 &&& BitVec.ofInt (IntKind.bits .u64) (IntKind.wrap .u64 (a4-1))).toNat))))with
  |true=>match idx a0 (IntKind.wrap .i64 (a1+(IntKind.wrap .i64 ((IntKind.wrap .i64 (IntKind.wrap .u64 ((BitVec.ofInt (IntKind.bits .u64) y2 &&& BitVec.ofInt (IntKind.bits .u64) (IntKind.wrap .u64 (a4-1))).toNat)))-a2))))with|none=>none|some x3=>match idx a0 a5 with|none=>none|some x4=>match idx a0 a5 with|none=>none|some x5=>match idx (A4 a0 (AK a5) (AU a0 (AK (IntKind.wrap .i64 (a1+(IntKind.wrap .i64 ((IntKind.wrap .i64 (IntKind.wrap .u64 ((BitVec.ofInt (IntKind.bits .u64) y2 &&& BitVec.ofInt (IntKind.bits .u64) (IntKind.wrap .u64 (a4-1))).toNat)))-a2))))) z)) (IntKind.wrap .i64 (a1+(IntKind.wrap .i64 ((IntKind.wrap .i64 (IntKind.wrap .u64 ((BitVec.ofInt (IntKind.bits .u64) y2 &&& BitVec.ofInt (IntKind.bits .u64) (IntKind.wrap .u64 (a4-1))).toNat)))-a2))))with|none=>none|some x6=>some (.inl ((A4 (A4 a0 (AK a5) (AU a0 (AK (IntKind.wrap .i64 (a1+(IntKind.wrap .i64 ((IntKind.wrap .i64 (IntKind.wrap .u64 ((BitVec.ofInt (IntKind.bits .u64) y2 &&& BitVec.ofInt (IntKind.bits .u64) (IntKind.wrap .u64 (a4-1))).toNat)))-a2))))) z)) (AK (IntKind.wrap .i64 (a1+(IntKind.wrap .i64 ((IntKind.wrap .i64 (IntKind.wrap .u64 ((BitVec.ofInt (IntKind.bits .u64) y2 &&& BitVec.ofInt (IntKind.bits .u64) (IntKind.wrap .u64 (a4-1))).toNat)))-a2))))) (AU a0 (AK a5) z)),a1,a2,y1,a4,(IntKind.wrap .i64 (a5+1)),()))
  |false=>match idx a0 (IntKind.wrap .i64 (a1+(IntKind.wrap .i64 (IntKind.wrap .u64 ((BitVec.ofInt (IntKind.bits .u64) y2 &&& BitVec.ofInt (IntKind.bits .u64) (IntKind.wrap .u64 (a4-1))).toNat)))))with|none=>none|some x7=>match idx a0 a5 with|none=>none|some x8=>match idx a0 a5 with|none=>none|some x9=>match idx (A4 a0 (AK a5) (AU a0 (AK (IntKind.wrap .i64 (a1+(IntKind.wrap .i64 (IntKind.wrap .u64 ((BitVec.ofInt (IntKind.bits .u64) y2 &&& BitVec.ofInt (IntKind.bits .u64) (IntKind.wrap .u64 (a4-1))).toNat)))))) z)) (IntKind.wrap .i64 (a1+(IntKind.wrap .i64 (IntKind.wrap .u64 ((BitVec.ofInt (IntKind.bits .u64) y2 &&& BitVec.ofInt (IntKind.bits .u64) (IntKind.wrap .u64 (a4-1))).toNat)))))with|none=>none|some x10=>some (.inl ((A4 (A4 a0 (AK a5) (AU a0 (AK (IntKind.wrap .i64 (a1+(IntKind.wrap .i64 (IntKind.wrap .u64 ((BitVec.ofInt (IntKind.bits .u64) y2 &&& BitVec.ofInt (IntKind.bits .u64) (IntKind.wrap .u64 (a4-1))).toNat)))))) z)) (AK (IntKind.wrap .i64 (a1+(IntKind.wrap .i64 (IntKind.wrap .u64 ((BitVec.ofInt (IntKind.bits .u64) y2 &&& BitVec.ofInt (IntKind.bits .u64) (IntKind.wrap .u64 (a4-1))).toNat)))))) (AU a0 (AK a5) z)),a1,a2,y1,a4,(IntKind.wrap .i64 (a5+1)),()))
 |false=>some (.inr (.inl (a0,())))
def Ni[Lk]{α:Type}(z:α)(c:α×α×Unit→Option U9):(List α×Int×Int×Unit)→Option ((List α×Unit)):=fun(a0,a1,a2,_)=>
 match(ile 8 (IntKind.wrap .i64 (a2-a1)))with
 |true=>match Q9 ((IntKind.wrap .i64 (a2-a1)),())with|none=>none|some (y0,_)=>match quo? .i64 (IntKind.wrap .i64 (a2-a1)) 4 with|none=>none|some x1=>match AW (GD z c) many (a0,a1,(IntKind.wrap .i64 (a2-a1)),(IntKind.wrap .u64 (IntKind.wrap .i64 (a2-a1))),y0,(IntKind.wrap .i64 ((IntKind.wrap .i64 (a1+(IntKind.wrap .i64 (x1*2))))-1)),())with|none=>none|some r=>match r with
  |.inl (o2,_)=>some (o2,())
  |.inr _=>none
 |false=>some (a0,())
def ADi[Lk]{α:Type}(z:α)(c:α×α×Unit→Option U9)(v:(List α×Int×Int×Unit)):Option ((List α×Unit)):=Lk.f ((Ni z c) v)
theorem Aa6{α:Type}(z:α)(c:α×α×Unit→Option U9)(v:(List α×Int×Int×Unit)):(ADi z c) v=(Ni z c) v:=AG _
def KQ[Lk]{α:Type}(z:α)(c:α×α×Unit→Option U9):(List α×Int×Int×Int×Unit)→Option ((List α×Int×Int×Int×Unit)):=fun(a0,a1,a2,a3,_)=>
 match idx a0 a2 with|none=>none|some x0=>match idx a0 a1 with|none=>none|some x1=>match c ((AU a0 (AK a2) z),(AU a0 (AK a1) z),())with|none=>none|some (y2,_)=>match(ilt y2 0)with
 |true=>some (a0,(IntKind.wrap .i64 (a3+1)),a2,a1,())
 |false=>some (a0,a3,a1,a2,())
def LI[Lk]{α:Type}(z:α)(c:α×α×Unit→Option U9)(v:(List α×Int×Int×Int×Unit)):Option ((List α×Int×Int×Int×Unit)):=Lk.f ((KQ z c) v)
theorem ATS{α:Type}(z:α)(c:α×α×Unit→Option U9)(v:(List α×Int×Int×Int×Unit)):(LI z c) v=(KQ z c) v:=AG _
def KT[Lk]{α:Type}(z:α)(c:α×α×Unit→Option U9):(List α×Int×Int×Int×Int×Unit)→Option ((List α×Int×Int×Unit)):=fun(a0,a1,a2,a3,a4,_)=>
 match(LI z c) (a0,a1,a2,a4,())with|none=>none|some (y0,y1,y2,y3,_)=>match(LI z c) (y0,y3,a3,y1,())with|none=>none|some (y4,y5,y6,y7,_)=>match(LI z c) (y4,y2,y6,y5,())with|none=>none|some (y8,y9,y10,y11,_)=>some (y8,y9,y11,())
def LS[Lk]{α:Type}(z:α)(c:α×α×Unit→Option U9)(v:(List α×Int×Int×Int×Int×Unit)):Option ((List α×Int×Int×Unit)):=Lk.f ((KT z c) v)
theorem ATs{α:Type}(z:α)(c:α×α×Unit→Option U9)(v:(List α×Int×Int×Int×Int×Unit)):(LS z c) v=(KT z c) v:=AG _
def KU[Lk]{α:Type}(z:α)(c:α×α×Unit→Option U9):(List α×Int×Int×Unit)→Option ((List α×Int×Int×Unit)):=fun(a0,a1,a2,_)=>
 match(LS z c) (a0,(IntKind.wrap .i64 (a1-1)),a1,(IntKind.wrap .i64 (a1+1)),a2,())with|none=>none|some (y0,y1,y2,_)=>some (y0,y1,y2,())
def LU[Lk]{α:Type}(z:α)(c:α×α×Unit→Option U9)(v:(List α×Int×Int×Unit)):Option ((List α×Int×Int×Unit)):=Lk.f ((KU z c) v)
theorem ATv{α:Type}(z:α)(c:α×α×Unit→Option U9)(v:(List α×Int×Int×Unit)):(LU z c) v=(KU z c) v:=AG _
def Mw[Lk]{α:Type}(z:α)(c:α×α×Unit→Option U9):(List α×Int×Int×Unit)→Option ((List α×Int×Int×Unit)):=fun(a0,a1,a2,_)=>
 match quo? .i64 (IntKind.wrap .i64 (a2-a1)) 4 with|none=>none|some x0=>match quo? .i64 (IntKind.wrap .i64 (a2-a1)) 4 with|none=>none|some x1=>match quo? .i64 (IntKind.wrap .i64 (a2-a1)) 4 with|none=>none|some x2=>match(ile 8 (IntKind.wrap .i64 (a2-a1)))with
 |true=>match(ile 50 (IntKind.wrap .i64 (a2-a1)))with
  |true=>match(LU z c) (a0,(IntKind.wrap .i64 (a1+(IntKind.wrap .i64 (x0*1)))),0,())with|none=>none|some (y3,y4,y5,_)=>match(LU z c) (y3,(IntKind.wrap .i64 (a1+(IntKind.wrap .i64 (x1*2)))),y4,())with|none=>none|some (y6,y7,y8,_)=>match(LU z c) (y6,(IntKind.wrap .i64 (a1+(IntKind.wrap .i64 (x2*3)))),y7,())with|none=>none|some (y9,y10,y11,_)=>match(LS z c) (y9,y5,y8,y11,y10,())with|none=>none|some (y12,y13,y14,_)=>match(ieq y13 0)with
   |true=>some (y12,y14,1,())
   |false=>match(ieq y13 12)with
   |true=>some (y12,y14,2,())
   |false=>some (y12,y14,0,())
  |false=>match(LS z c) (a0,(IntKind.wrap .i64 (a1+(IntKind.wrap .i64 (x0*1)))),(IntKind.wrap .i64 (a1+(IntKind.wrap .i64 (x1*2)))),(IntKind.wrap .i64 (a1+(IntKind.wrap .i64 (x2*3)))),0,())with|none=>none|some (y15,y16,y17,_)=>match(ieq y16 0)with
  |true=>some (y15,y17,1,())
  |false=>match(ieq y16 12)with
  |true=>some (y15,y17,2,())
  |false=>some (y15,y17,0,())
 |false=>match(ieq 0 0)with
 |true=>some (a0,(IntKind.wrap .i64 (a1+(IntKind.wrap .i64 (x1*2)))),1,())
 |false=>match(ieq 0 12)with
 |true=>some (a0,(IntKind.wrap .i64 (a1+(IntKind.wrap .i64 (x1*2)))),2,())
 |false=>some (a0,(IntKind.wrap .i64 (a1+(IntKind.wrap .i64 (x1*2)))),0,())
def AAw[Lk]{α:Type}(z:α)(c:α×α×Unit→Option U9)(v:(List α×Int×Int×Unit)):Option ((List α×Int×Int×Unit)):=Lk.f ((Mw z c) v)
theorem AYy{α:Type}(z:α)(c:α×α×Unit→Option U9)(v:(List α×Int×Int×Unit)):(AAw z c) v=(Mw z c) v:=AG _
def Qu[Lk]{α:Type}(z:α)(c:α×α×Unit→Option U9):(List α×Int×Int×Unit)→Option ((List α×Int×Int×Unit)⊕(List α×Unit)⊕Unit):=fun(a0,a1,a2,_)=>
 match(ilt a1 a2)with
 |true=>match idx a0 a2 with|none=>none|some x0=>match idx a0 a1 with|none=>none|some x1=>match idx a0 a1 with|none=>none|some x2=>match idx (A4 a0 (AK a1) (AU a0 (AK a2) z)) a2 with|none=>none|some x3=>some (.inl ((A4 (A4 a0 (AK a1) (AU a0 (AK a2) z)) (AK a2) (AU a0 (AK a1) z)),(IntKind.wrap .i64 (a1+1)),(IntKind.wrap .i64 (a2-1)),()))
 |false=>some (.inr (.inl (a0,())))
def AAf[Lk]{α:Type}(z:α)(c:α×α×Unit→Option U9):(List α×Int×Int×Unit)→Option ((List α×Unit)):=fun(a0,a1,a2,_)=>
 match AW (Qu z c) many (a0,a1,(IntKind.wrap .i64 (a2-1)),())with|none=>none|some r=>match r with
 |.inl (o0,_)=>some (o0,())
 |.inr _=>none
def Ace[Lk]{α:Type}(z:α)(c:α×α×Unit→Option U9)(v:(List α×Int×Int×Unit)):Option ((List α×Unit)):=Lk.f ((AAf z c) v)
theorem AgF{α:Type}(z:α)(c:α×α×Unit→Option U9)(v:(List α×Int×Int×Unit)):(Ace z c) v=(AAf z c) v:=AG _
def Et[Lk]{α:Type}(z:α)(c:α×α×Unit→Option U9):(List α×Int×Int×Int×Int×Int×Unit)→Option ((List α×Int×Int×Int×Int×Int×Unit)⊕(List α×Int×Int×Int×Int×Unit)⊕Unit):=fun(a0,a1,a2,a3,a4,a5,_)=>
 match(ilt a5 a2)with
 |true=>match idx a0 a5 with|none=>none|some x0=>match idx a0 (IntKind.wrap .i64 (a5-1))with|none=>none|some x1=>match c ((AU a0 (AK a5) z),(AU a0 (AK (IntKind.wrap .i64 (a5-1))) z),())with|none=>none|some (y2,_)=>match(!(ilt y2 0))with
  |true=>some (.inr (.inl (a0,a1,a2,a3,a4,())))
  |false=>match idx a0 (IntKind.wrap .i64 (a5-1))with|none=>none|some x3=>match idx a0 a5 with|none=>none|some x4=>match idx a0 a5 with|none=>none|some x5=>match idx (A4 a0 (AK a5) (AU a0 (AK (IntKind.wrap .i64 (a5-1))) z)) (IntKind.wrap .i64 (a5-1))with|none=>none|some x6=>some (.inl ((A4 (A4 a0 (AK a5) (AU a0 (AK (IntKind.wrap .i64 (a5-1))) z)) (AK (IntKind.wrap .i64 (a5-1))) (AU a0 (AK a5) z)),a1,a2,a3,a4,(IntKind.wrap .i64 (a5+1)),()))
 |false=>some (.inr (.inl (a0,a1,a2,a3,a4,())))
def Eu[Lk]{α:Type}(z:α)(c:α×α×Unit→Option U9):(List α×Int×Int×Int×Int×Int×Unit)→Option ((List α×Int×Int×Int×Int×Int×Unit)⊕(List α×Int×Int×Int×Int×Unit)⊕Unit):=fun(a0,a1,a2,a3,a4,a5,_)=>
 match(ile 1 a5)with
 |true=>match idx a0 a5 with|none=>none|some x0=>match idx a0 (IntKind.wrap .i64 (a5-1))with|none=>none|some x1=>match c ((AU a0 (AK a5) z),(AU a0 (AK (IntKind.wrap .i64 (a5-1))) z),())with|none=>none|some (y2,_)=>match(!(ilt y2 0))with
  |true=>some (.inr (.inl (a0,a1,a2,a3,a4,())))
  |false=>match idx a0 (IntKind.wrap .i64 (a5-1))with|none=>none|some x3=>match idx a0 a5 with|none=>none|some x4=>match idx a0 a5 with|none=>none|some x5=>match idx (A4 a0 (AK a5) (AU a0 (AK (IntKind.wrap .i64 (a5-1))) z)) (IntKind.wrap .i64 (a5-1))with|none=>none|some x6=>some (.inl ((A4 (A4 a0 (AK a5) (AU a0 (AK (IntKind.wrap .i64 (a5-1))) z)) (AK (IntKind.wrap .i64 (a5-1))) (AU a0 (AK a5) z)),a1,a2,a3,a4,(IntKind.wrap .i64 (a5-1)),()))
 |false=>some (.inr (.inl (a0,a1,a2,a3,a4,())))
def Gj[Lk]{α:Type}(z:α)(c:α×α×Unit→Option U9):(List α×Int×Int×Int×Int×Unit)→Option ((List α×Int×Int×Int×Int×Unit)⊕(List α×Int×Int×Int×Int×Unit)⊕Unit):=fun(a0,a1,a2,a3,a4,_)=>
 match(ilt a3 a2)with
 |true=>match idx a0 a3 with|none=>none|some x0=>match idx a0 (IntKind.wrap .i64 (a3-1))with|none=>none|some x1=>match c ((AU a0 (AK a3) z),(AU a0 (AK (IntKind.wrap .i64 (a3-1))) z),())with|none=>none|some (y2,_)=>match(!(ilt y2 0))with
  |true=>some (.inl (a0,a1,a2,(IntKind.wrap .i64 (a3+1)),a4,()))
  |false=>some (.inr (.inl (a0,a1,a2,a3,a4,())))
 |false=>some (.inr (.inl (a0,a1,a2,a3,a4,())))
def CZ[Lk]{α:Type}(z:α)(c:α×α×Unit→Option U9):(List α×Int×Int×Int×Int×Unit)→Option ((List α×Int×Int×Int×Int×Unit)⊕(List α×Bool×Unit)⊕(List α×Unit)⊕Unit):=fun(a0,a1,a2,a3,a4,_)=>
 match(ilt a4 5)with
 |true=>match AW (Gj z c) many (a0,a1,a2,a3,a4,())with|none=>none|some r=>match r with
  |.inl (o0,o1,o2,o3,o4,_)=>match(ieq o3 o2)with
   |true=>some (.inr (.inl (o0,true,())))
   |false=>match(ilt (IntKind.wrap .i64 (o2-o1)) 50)with
   |true=>some (.inr (.inl (o0,false,())))
   |false=>match idx o0 (IntKind.wrap .i64 (o3-1))with|none=>none|some x5=>match idx o0 o3 with|none=>none|some x6=>match idx o0 o3 with|none=>none|some x7=>match idx (A4 o0 (AK o3) (AU o0 (AK (IntKind.wrap .i64 (o3-1))) z)) (IntKind.wrap .i64 (o3-1))with|none=>none|some x8=>match(ile 2 (IntKind.wrap .i64 (o3-o1)))with
   |true=>match AW (Eu z c) many ((A4 (A4 o0 (AK o3) (AU o0 (AK (IntKind.wrap .i64 (o3-1))) z)) (AK (IntKind.wrap .i64 (o3-1))) (AU o0 (AK o3) z)),o1,o2,o3,o4,(IntKind.wrap .i64 (o3-1)),())with|none=>none|some r=>match r with
    |.inl (o9,o10,o11,o12,o13,_)=>match(ile 2 (IntKind.wrap .i64 (o11-o12)))with
     |true=>match AW (Et z c) many (o9,o10,o11,o12,o13,(IntKind.wrap .i64 (o12+1)),())with|none=>none|some r=>match r with
      |.inl (o14,o15,o16,o17,o18,_)=>some (.inl (o14,o15,o16,o17,(IntKind.wrap .i64 (o18+1)),()))
      |.inr _=>none
     |false=>some (.inl (o9,o10,o11,o12,(IntKind.wrap .i64 (o13+1)),()))
    |.inr _=>none
   |false=>match(ile 2 (IntKind.wrap .i64 (o2-o3)))with
   |true=>match AW (Et z c) many ((A4 (A4 o0 (AK o3) (AU o0 (AK (IntKind.wrap .i64 (o3-1))) z)) (AK (IntKind.wrap .i64 (o3-1))) (AU o0 (AK o3) z)),o1,o2,o3,o4,(IntKind.wrap .i64 (o3+1)),())with|none=>none|some r=>match r with
    |.inl (o19,o20,o21,o22,o23,_)=>some (.inl (o19,o20,o21,o22,(IntKind.wrap .i64 (o23+1)),()))
    |.inr _=>none
   |false=>some (.inl ((A4 (A4 o0 (AK o3) (AU o0 (AK (IntKind.wrap .i64 (o3-1))) z)) (AK (IntKind.wrap .i64 (o3-1))) (AU o0 (AK o3) z)),o1,o2,o3,(IntKind.wrap .i64 (o4+1)),()))
  |.inr _=>none
 |false=>some (.inr (.inr (.inl (a0,()))))
def H7[Lk]{α:Type}(z:α)(c:α×α×Unit→Option U9):(List α×Int×Int×Unit)→Option ((List α×Bool×Unit)):=fun(a0,a1,a2,_)=>
 match AW (CZ z c) many (a0,a1,a2,(IntKind.wrap .i64 (a1+1)),0,())with|none=>none|some r=>match r with
 |.inl (o0,o1,_)=>some (o0,o1,())
 |.inr r=>match r with
 |.inl (o2,_)=>some (o2,false,())
 |.inr _=>none
def Mx[Lk]{α:Type}(z:α)(c:α×α×Unit→Option U9)(v:(List α×Int×Int×Unit)):Option ((List α×Bool×Unit)):=Lk.f ((H7 z c) v)
theorem ANp{α:Type}(z:α)(c:α×α×Unit→Option U9)(v:(List α×Int×Int×Unit)):(Mx z c) v=(H7 z c) v:=AG _
def H8[Lk]{α:Type}(z:α)(c:α×α×Unit→Option U9):(List α×Int×Int×Int×Unit)→Option ((List α×Int×Int×Int×Unit)⊕(List α×Int×Int×Int×Unit)⊕Unit):=fun(a0,a1,a2,a3,_)=>
 match(ile a2 a3)with
 |true=>match idx a0 a1 with|none=>none|some x0=>match idx a0 a3 with|none=>none|some x1=>match c ((AU a0 (AK a1) z),(AU a0 (AK a3) z),())with|none=>none|some (y2,_)=>match(ilt y2 0)with
  |true=>some (.inl (a0,a1,a2,(IntKind.wrap .i64 (a3-1)),()))
  |false=>some (.inr (.inl (a0,a1,a2,a3,())))
 |false=>some (.inr (.inl (a0,a1,a2,a3,())))
def H9[Lk]{α:Type}(z:α)(c:α×α×Unit→Option U9):(List α×Int×Int×Int×Unit)→Option ((List α×Int×Int×Int×Unit)⊕(List α×Int×Int×Int×Unit)⊕Unit):=fun(a0,a1,a2,a3,_)=>
 match(ile a2 a3)with
 |true=>match idx a0 a1 with|none=>none|some x0=>match idx a0 a2 with|none=>none|some x1=>match c ((AU a0 (AK a1) z),(AU a0 (AK a2) z),())with|none=>none|some (y2,_)=>match(!(ilt y2 0))with
  |true=>some (.inl (a0,a1,(IntKind.wrap .i64 (a2+1)),a3,()))
  |false=>some (.inr (.inl (a0,a1,a2,a3,())))
 |false=>some (.inr (.inl (a0,a1,a2,a3,())))
def IA[Lk]{α:Type}(z:α)(c:α×α×Unit→Option U9):(List α×Int×Int×Int×Unit)→Option ((List α×Int×Int×Int×Unit)⊕(List α×Int×Unit)⊕Unit):=fun(a0,a1,a2,a3,_)=>
 match AW (H9 z c) many (a0,a1,a2,a3,())with|none=>none|some r=>match r with
 |.inl (o0,o1,o2,o3,_)=>match AW (H8 z c) many (o0,o1,o2,o3,())with|none=>none|some r=>match r with
  |.inl (o4,o5,o6,o7,_)=>match(ilt o7 o6)with
   |true=>some (.inr (.inl (o4,o6,())))
   |false=>match idx o4 o7 with|none=>none|some x8=>match idx o4 o6 with|none=>none|some x9=>match idx o4 o6 with|none=>none|some x10=>match idx (A4 o4 (AK o6) (AU o4 (AK o7) z)) o7 with|none=>none|some x11=>some (.inl ((A4 (A4 o4 (AK o6) (AU o4 (AK o7) z)) (AK o7) (AU o4 (AK o6) z)),o5,(IntKind.wrap .i64 (o6+1)),(IntKind.wrap .i64 (o7-1)),()))
  |.inr _=>none
 |.inr _=>none
def KO[Lk]{α:Type}(z:α)(c:α×α×Unit→Option U9):(List α×Int×Int×Int×Unit)→Option ((List α×Int×Unit)):=fun(a0,a1,a2,a3,_)=>
 match idx a0 a3 with|none=>none|some x0=>match idx a0 a1 with|none=>none|some x1=>match idx a0 a1 with|none=>none|some x2=>match idx (A4 a0 (AK a1) (AU a0 (AK a3) z)) a3 with|none=>none|some x3=>match AW (IA z c) many ((A4 (A4 a0 (AK a1) (AU a0 (AK a3) z)) (AK a3) (AU a0 (AK a1) z)),a1,(IntKind.wrap .i64 (a1+1)),(IntKind.wrap .i64 (a2-1)),())with|none=>none|some r=>match r with
 |.inl (o4,o5,_)=>some (o4,o5,())
 |.inr _=>none
def Q4[Lk]{α:Type}(z:α)(c:α×α×Unit→Option U9)(v:(List α×Int×Int×Int×Unit)):Option ((List α×Int×Unit)):=Lk.f ((KO z c) v)
theorem ATI{α:Type}(z:α)(c:α×α×Unit→Option U9)(v:(List α×Int×Int×Int×Unit)):(Q4 z c) v=(KO z c) v:=AG _
def My[Lk]{α:Type}(z:α)(c:α×α×Unit→Option U9):(List α×Int×Int×Int×Unit)→Option ((List α×Int×Int×Int×Unit)⊕(List α×Int×Int×Int×Unit)⊕Unit):=fun(a0,a1,a2,a3,_)=>
 match(ile a2 a3)with
 |true=>match idx a0 a3 with|none=>none|some x0=>match idx a0 a1 with|none=>none|some x1=>match c ((AU a0 (AK a3) z),(AU a0 (AK a1) z),())with|none=>none|some (y2,_)=>match(!(ilt y2 0))with
  |true=>some (.inl (a0,a1,a2,(IntKind.wrap .i64 (a3-1)),()))
  |false=>some (.inr (.inl (a0,a1,a2,a3,())))
 |false=>some (.inr (.inl (a0,a1,a2,a3,())))
def Mz[Lk]{α:Type}(z:α)(c:α×α×Unit→Option U9):(List α×Int×Int×Int×Unit)→Option ((List α×Int×Int×Int×Unit)⊕(List α×Int×Int×Int×Unit)⊕Unit):=fun(a0,a1,a2,a3,_)=>
 match(ile a2 a3)with
 |true=>match idx a0 a2 with|none=>none|some x0=>match idx a0 a1 with|none=>none|some x1=>match c ((AU a0 (AK a2) z),(AU a0 (AK a1) z),())with|none=>none|some (y2,_)=>match(ilt y2 0)with
  |true=>some (.inl (a0,a1,(IntKind.wrap .i64 (a2+1)),a3,()))
  |false=>some (.inr (.inl (a0,a1,a2,a3,())))
 |false=>some (.inr (.inl (a0,a1,a2,a3,())))
def M0[Lk]{α:Type}(z:α)(c:α×α×Unit→Option U9):(List α×Int×Int×Int×Unit)→Option ((List α×Int×Int×Int×Unit)⊕(List α×Int×Int×Unit)⊕Unit):=fun(a0,a1,a2,a3,_)=>
 match AW (Mz z c) many (a0,a1,a2,a3,())with|none=>none|some r=>match r with
 |.inl (o0,o1,o2,o3,_)=>match AW (My z c) many (o0,o1,o2,o3,())with|none=>none|some r=>match r with
  |.inl (o4,o5,o6,o7,_)=>match(ilt o7 o6)with
   |true=>some (.inr (.inl (o4,o5,o7,())))
   |false=>match idx o4 o7 with|none=>none|some x8=>match idx o4 o6 with|none=>none|some x9=>match idx o4 o6 with|none=>none|some x10=>match idx (A4 o4 (AK o6) (AU o4 (AK o7) z)) o7 with|none=>none|some x11=>some (.inl ((A4 (A4 o4 (AK o6) (AU o4 (AK o7) z)) (AK o7) (AU o4 (AK o6) z)),o5,(IntKind.wrap .i64 (o6+1)),(IntKind.wrap .i64 (o7-1)),()))
  |.inr _=>none
 |.inr _=>none
def M3[Lk]{α:Type}(z:α)(c:α×α×Unit→Option U9):(List α×Int×Int×Int×Unit)→Option ((List α×Int×Int×Int×Unit)⊕(List α×Int×Int×Int×Unit)⊕Unit):=fun(a0,a1,a2,a3,_)=>
 match(ile a2 a3)with
 |true=>match idx a0 a3 with|none=>none|some x0=>match idx a0 a1 with|none=>none|some x1=>match c ((AU a0 (AK a3) z),(AU a0 (AK a1) z),())with|none=>none|some (y2,_)=>match(!(ilt y2 0))with
  |true=>some (.inl (a0,a1,a2,(IntKind.wrap .i64 (a3-1)),()))
  |false=>some (.inr (.inl (a0,a1,a2,a3,())))
 |false=>some (.inr (.inl (a0,a1,a2,a3,())))
def M4[Lk]{α:Type}(z:α)(c:α×α×Unit→Option U9):(List α×Int×Int×Int×Unit)→Option ((List α×Int×Int×Int×Unit)⊕(List α×Int×Int×Int×Unit)⊕Unit):=fun(a0,a1,a2,a3,_)=>
 match(ile a2 a3)with
 |true=>match idx a0 a2 with|none=>none|some x0=>match idx a0 a1 with|none=>none|some x1=>match c ((AU a0 (AK a2) z),(AU a0 (AK a1) z),())with|none=>none|some (y2,_)=>match(ilt y2 0)with
  |true=>some (.inl (a0,a1,(IntKind.wrap .i64 (a2+1)),a3,()))
  |false=>some (.inr (.inl (a0,a1,a2,a3,())))
 |false=>some (.inr (.inl (a0,a1,a2,a3,())))
def Q3[Lk]{α:Type}(z:α)(c:α×α×Unit→Option U9):(List α×Int×Int×Int×Unit)→Option ((List α×Int×Bool×Unit)):=fun(a0,a1,a2,a3,_)=>
 match idx a0 a3 with|none=>none|some x0=>match idx a0 a1 with|none=>none|some x1=>match idx a0 a1 with|none=>none|some x2=>match idx (A4 a0 (AK a1) (AU a0 (AK a3) z)) a3 with|none=>none|some x3=>match AW (M4 z c) many ((A4 (A4 a0 (AK a1) (AU a0 (AK a3) z)) (AK a3) (AU a0 (AK a1) z)),a1,(IntKind.wrap .i64 (a1+1)),(IntKind.wrap .i64 (a2-1)),())with|none=>none|some r=>match r with
 |.inl (o4,o5,o6,o7,_)=>match AW (M3 z c) many (o4,o5,o6,o7,())with|none=>none|some r=>match r with
  |.inl (o8,o9,o10,o11,_)=>match(ilt o11 o10)with
   |true=>match idx o8 o9 with|none=>none|some x12=>match idx o8 o11 with|none=>none|some x13=>match idx o8 o11 with|none=>none|some x14=>match idx (A4 o8 (AK o11) (AU o8 (AK o9) z)) o9 with|none=>none|some x15=>some ((A4 (A4 o8 (AK o11) (AU o8 (AK o9) z)) (AK o9) (AU o8 (AK o11) z)),o11,true,())
   |false=>match idx o8 o11 with|none=>none|some x16=>match idx o8 o10 with|none=>none|some x17=>match idx o8 o10 with|none=>none|some x18=>match idx (A4 o8 (AK o10) (AU o8 (AK o11) z)) o11 with|none=>none|some x19=>match AW (M0 z c) many ((A4 (A4 o8 (AK o10) (AU o8 (AK o11) z)) (AK o11) (AU o8 (AK o10) z)),o9,(IntKind.wrap .i64 (o10+1)),(IntKind.wrap .i64 (o11-1)),())with|none=>none|some r=>match r with
   |.inl (o20,o21,o22,_)=>match idx o20 o21 with|none=>none|some x23=>match idx o20 o22 with|none=>none|some x24=>match idx o20 o22 with|none=>none|some x25=>match idx (A4 o20 (AK o22) (AU o20 (AK o21) z)) o21 with|none=>none|some x26=>some ((A4 (A4 o20 (AK o22) (AU o20 (AK o21) z)) (AK o21) (AU o20 (AK o22) z)),o22,false,())
   |.inr _=>none
  |.inr _=>none
 |.inr _=>none
def ABQ[Lk]{α:Type}(z:α)(c:α×α×Unit→Option U9)(v:(List α×Int×Int×Int×Unit)):Option ((List α×Int×Bool×Unit)):=Lk.f ((Q3 z c) v)
theorem Ac9{α:Type}(z:α)(c:α×α×Unit→Option U9)(v:(List α×Int×Int×Int×Unit)):(ABQ z c) v=(Q3 z c) v:=AG _
def TX[Lk]{α:Type}(z:α)(c:α×α×Unit→Option U9)(self:(List α×Int×Int×Int×Unit)→Option ((List α×Unit)))(y7:List α)(a1 a2 p l:Int)(a4 a5:Bool):Option ((List α×Int×Int×Int×Bool×Bool×Unit)⊕(List α×Unit)⊕Unit):=
 match(ilt 0 a1)with
 |true=>match idx y7 (IntKind.wrap .i64 (a1-1))with|none=>none|some x9=>match idx y7 p with|none=>none|some x10=>match c ((AU y7 (AK (IntKind.wrap .i64 (a1-1))) z),(AU y7 (AK p) z),())with|none=>none|some (y11,_)=>match(!(ilt y11 0))with
  |true=>match(Q4 z c) (y7,a1,a2,p,())with|none=>none|some (y12,y13,_)=>some (.inl (y12,y13,a2,l,a4,a5,()))
  |false=>match(ABQ z c) (y7,a1,a2,p,())with|none=>none|some (y14,y15,y16,_)=>match quo? .i64 (IntKind.wrap .i64 (a2-a1)) 8 with|none=>none|some x17=>match(ilt (IntKind.wrap .i64 (y15-a1)) (IntKind.wrap .i64 (a2-y15)))with
  |true=>match self (y14,a1,y15,l,())with|none=>none|some (y18,_)=>some (.inl (y18,(IntKind.wrap .i64 (y15+1)),a2,l,(ile x17 (IntKind.wrap .i64 (y15-a1))),y16,()))
  |false=>match self (y14,(IntKind.wrap .i64 (y15+1)),a2,l,())with|none=>none|some (y19,_)=>some (.inl (y19,a1,y15,l,(ile x17 (IntKind.wrap .i64 (a2-y15))),y16,()))
 |false=>match(ABQ z c) (y7,a1,a2,p,())with|none=>none|some (y20,y21,y22,_)=>match quo? .i64 (IntKind.wrap .i64 (a2-a1)) 8 with|none=>none|some x23=>match(ilt (IntKind.wrap .i64 (y21-a1)) (IntKind.wrap .i64 (a2-y21)))with
 |true=>match self (y20,a1,y21,l,())with|none=>none|some (y24,_)=>some (.inl (y24,(IntKind.wrap .i64 (y21+1)),a2,l,(ile x23 (IntKind.wrap .i64 (y21-a1))),y22,()))
 |false=>match self (y20,(IntKind.wrap .i64 (y21+1)),a2,l,())with|none=>none|some (y25,_)=>some (.inl (y25,a1,y21,l,(ile x23 (IntKind.wrap .i64 (a2-y21))),y22,()))
def AI9[Lk]{α:Type}(z:α)(c:α×α×Unit→Option U9)(self:(List α×Int×Int×Int×Unit)→Option ((List α×Unit)))(y6:List α)(a1 a2 p h l:Int)(a4 a5:Bool):Option ((List α×Int×Int×Int×Bool×Bool×Unit)⊕(List α×Unit)⊕Unit):=
 match a4 with
 |true=>match a5 with
  |true=>match(ieq h 1)with
   |true=>match(Mx z c) (y6,a1,a2,())with|none=>none|some (y7,y8,_)=>match y8 with
    |true=>some (.inr (.inl (y7,())))
    |false=>(TX z c) self y7 a1 a2 p l a4 a5
   |false=>(TX z c) self y6 a1 a2 p l a4 a5
  |false=>(TX z c) self y6 a1 a2 p l a4 a5
 |false=>(TX z c) self y6 a1 a2 p l a4 a5
def AI8[Lk]{α:Type}(z:α)(c:α×α×Unit→Option U9)(self:(List α×Int×Int×Int×Unit)→Option ((List α×Unit)))(y2:List α)(a1 a2 l:Int)(a4 a5:Bool):Option ((List α×Int×Int×Int×Bool×Bool×Unit)⊕(List α×Unit)⊕Unit):=
 match(AAw z c) (y2,a1,a2,())with|none=>none|some (y3,y4,y5,_)=>match(ieq y5 2)with
 |true=>match(Ace z c) (y3,a1,a2,())with|none=>none|some (y6,_)=>(AI9 z c) self y6 a1 a2 (IntKind.wrap .i64 ((IntKind.wrap .i64 (a2-1))-(IntKind.wrap .i64 (y4-a1)))) 1 l a4 a5
 |false=>(AI9 z c) self y3 a1 a2 y4 y5 l a4 a5
def OC[Lk]{α:Type}(z:α)(c:α×α×Unit→Option U9)(self:(List α×Int×Int×Int×Unit)→Option ((List α×Unit))):(List α×Int×Int×Int×Bool×Bool×Unit)→Option ((List α×Int×Int×Int×Bool×Bool×Unit)⊕(List α×Unit)⊕Unit):=fun(a0,a1,a2,a3,a4,a5,_)=>
 match(ile (IntKind.wrap .i64 (a2-a1)) 12)with
 |true=>match(Ad2 z c) (a0,a1,a2,())with|none=>none|some (y0,_)=>some (.inr (.inl (y0,())))
 |false=>match(ieq a3 0)with
 |true=>match(APK z c) (a0,a1,a2,())with|none=>none|some (y1,_)=>some (.inr (.inl (y1,())))
 |false=>match(!a4)with
 |true=>match(ADi z c) (a0,a1,a2,())with|none=>none|some (y2,_)=>(AI8 z c) self y2 a1 a2 (IntKind.wrap .i64 (a3-1)) a4 a5
 |false=>(AI8 z c) self a0 a1 a2 a3 a4 a5
def AA9[Lk]{α:Type}(z:α)(c:α×α×Unit→Option U9)(self:(List α×Int×Int×Int×Unit)→Option ((List α×Unit))):(List α×Int×Int×Int×Unit)→Option ((List α×Unit)):=fun(a0,a1,a2,a3,_)=>
 match AW ((OC z c) self) many (a0,a1,a2,a3,true,true,())with|none=>none|some r=>match r with
 |.inl (o0,_)=>some (o0,())
 |.inr _=>none
def LH[Lk]{α:Type}(z:α)(c:α×α×Unit→Option U9):Nat→(List α×Int×Int×Int×Unit)→Option ((List α×Unit))
 |0,_=>none
 |n+1,v=>(AA9 z c) ((LH z c) n) v
def Acv[Lk]{α:Type}(z:α)(c:α×α×Unit→Option U9)(v:(List α×Int×Int×Int×Unit)):Option ((List α×Unit)):=Lk.f ((LH z c) 100 v)
theorem AgO{α:Type}(z:α)(c:α×α×Unit→Option U9)(v:(List α×Int×Int×Int×Unit)):(Acv z c) v=(LH z c) 100 v:=AG _
def Qj[Lk]{α:Type}(z:α)(c:α×α×Unit→Option U9):(List α×Unit)→Option ((List α×Unit)):=fun(a0,_)=>
 match bitsLen ((IntKind.wrap .u64 (AI a0)),())with|none=>none|some (y0,_)=>match(Acv z c) (a0,0,(AI a0),y0,())with|none=>none|some (y1,_)=>some (y1,())
def AV6[Lk]{α:Type}(z:α)(c:α×α×Unit→Option U9)(v:(List α×Unit)):Option ((List α×Unit)):=Lk.f ((Qj z c) v)
theorem AcA{α:Type}(z:α)(c:α×α×Unit→Option U9)(v:(List α×Unit)):(AV6 z c) v=(Qj z c) v:=AG _
abbrev AUQ:AE:=[(.tmp 0,.own 43 U6),(.tmp 1,.di),(.tmp 2,.di),(.tmp 3,.clo 164 [])]
abbrev AUP:AE:=[(.obj 0,.own 43 U6)]
abbrev AUO:List RS:=[]
abbrev AWy:AE:=[(.obj 0,.own 43 U6),(.tmp 0,.own' 0),(.tmp 1,.di),(.tmp 2,.di),(.tmp 3,.clo 164 []),(.tmp 8,.di),(.tmp 9,.di)]
abbrev AWw:At:=[(.exit 2,[(.obj 0,.own 43 U6),(.tmp 0,.own' 0),(.tmp 1,.di),(.tmp 2,.di),(.tmp 3,.clo 164 []),(.tmp 8,.di)])]
def AWu[Lk]:Ui→Option (Ui⊕U7⊕Unit):=OH (([]:List (Int)):U3) BQ
abbrev AWz:AE:=[(.obj 0,.own 43 U6),(.tmp 0,.own' 0),(.tmp 1,.di),(.tmp 2,.di),(.tmp 3,.clo 164 []),(.tmp 8,.di)]
abbrev AWx:At:=[(.exit 0,[(.obj 0,.own 43 U6)])]
def AWv[Lk]:U7→Option (U7⊕Uo⊕Unit):=OI (([]:List (Int)):U3) BQ
def Adz[Lk]:Uc→Option (Uo):=ACG (([]:List (Int)):U3) BQ
def AiU[Lk](v:Uc):Option (Uo):=Ad2 (([]:List (Int)):U3) BQ v
theorem Agt v:AiU v=Adz v:=AG _
abbrev AIT:AE:=[(.tmp 0,.own 43 U6),(.tmp 1,.di),(.tmp 2,.di),(.tmp 3,.di),(.tmp 4,.clo 164 [])]
abbrev AIS:AE:=[(.obj 0,.own 43 U6)]
abbrev AIR:List RS:=[]
abbrev AMh:AE:=[(.obj 0,.own 43 U6),(.tmp 0,.own' 0),(.tmp 2,.di),(.tmp 3,.di),(.tmp 4,.clo 164 []),(.tmp 10,.di)]
abbrev AMg:At:=[(.exit 0,[(.obj 0,.own 43 U6)]),(.ret,[(.obj 0,.own 43 U6)])]
def AMf[Lk]:U7→Option (U7⊕Uo⊕Uo⊕Unit):=KI (([]:List (Int)):U3) BQ
def AWD[Lk]:U7→Option (Uo):=Ql (([]:List (Int)):U3) BQ
def AcG[Lk](v:U7):Option (Uo):=AFr (([]:List (Int)):U3) BQ v
theorem AcF v:AcG v=AWD v:=AG _
abbrev AKH:AE:=[(.tmp 0,.own 43 U6),(.tmp 1,.di),(.tmp 2,.di),(.tmp 3,.clo 164 [])]
abbrev AKG:AE:=[(.obj 0,.own 43 U6)]
abbrev AKF:List RS:=[]
abbrev APH:AE:=[(.obj 0,.own 43 U6),(.tmp 0,.own' 0),(.tmp 3,.clo 164 []),(.tmp 8,.di),(.tmp 9,.di),(.tmp 12,.di)]
abbrev APF:At:=[(.exit 2,[(.obj 0,.own 43 U6)])]
def APC[Lk]:U7→Option (U7⊕Uo⊕Unit):=Kb (([]:List (Int)):U3) BQ
abbrev API:AE:=[(.obj 0,.own 43 U6),(.tmp 0,.own' 0),(.tmp 3,.clo 164 []),(.tmp 8,.di),(.tmp 9,.di),(.tmp 10,.di),(.tmp 11,.di)]
abbrev APG:At:=[(.exit 0,[(.obj 0,.own 43 U6),(.tmp 0,.own' 0),(.tmp 3,.clo 164 []),(.tmp 8,.di),(.tmp 9,.di),(.tmp 10,.di)])]
def APE[Lk]:Ui→Option (Ui⊕U7⊕Unit):=Kc (([]:List (Int)):U3) BQ
def AXA[Lk]:Uc→Option (Uo):=Ra (([]:List (Int)):U3) BQ
def AeI[Lk](v:Uc):Option (Uo):=APK (([]:List (Int)):U3) BQ v
theorem AeH v:AeI v=AXA v:=AG _
abbrev ADg:AE:=[(.tmp 0,.own 43 U6),(.tmp 1,.di),(.tmp 2,.di),(.tmp 3,.clo 164 [])]
abbrev ADf:AE:=[(.obj 0,.own 43 U6)]
abbrev ADe:List RS:=[]
abbrev AGx:AE:=[(.obj 0,.own 43 U6),(.tmp 0,.own' 0),(.tmp 1,.di),(.tmp 8,.di),(.tmp 9,.box 1),(.cell 1 0,.dat (.int .u64)),(.tmp 10,.dat (.int .u64)),(.tmp 11,.di)]
abbrev AGw:At:=[(.exit 0,[(.obj 0,.own 43 U6)])]
def AGv[Lk]:Ut→Option (Ut⊕Uo⊕Unit):=GD (([]:List (Int)):U3) BQ
def AQQ[Lk]:Uc→Option (Uo):=Ni (([]:List (Int)):U3) BQ
def AVW[Lk](v:Uc):Option (Uo):=ADi (([]:List (Int)):U3) BQ v
theorem Aa5 v:AVW v=AQQ v:=AG _
abbrev Tg:AE:=[(.tmp 0,.own 43 U6),(.tmp 1,.di),(.tmp 2,.di),(.tmp 3,.box 1),(.cell 1 0,.di),(.tmp 4,.clo 164 [])]
abbrev Tf:AE:=[(.obj 0,.own 43 U6),(.obj 1,.box 1),(.cell 1 0,.di),(.tmp 0,.di),(.tmp 1,.di)]
abbrev Te:List RS:=[.one,.one]
def AGL[Lk]:U7→Option (U7):=KQ (([]:List (Int)):U3) BQ
def AJQ[Lk](v:U7):Option (U7):=LI (([]:List (Int)):U3) BQ v
theorem ATR v:AJQ v=AGL v:=AG _
abbrev Tr:AE:=[(.tmp 0,.own 43 U6),(.tmp 1,.di),(.tmp 2,.di),(.tmp 3,.di),(.tmp 4,.box 1),(.cell 1 0,.di),(.tmp 5,.clo 164 [])]
abbrev Tq:AE:=[(.obj 0,.own 43 U6),(.obj 1,.box 1),(.cell 1 0,.di),(.tmp 0,.di)]
abbrev Tp:List RS:=[.one]
def AGP[Lk]:Ui→Option (Uc):=KT (([]:List (Int)):U3) BQ
def AJj[Lk](v:Ui):Option (Uc):=LS (([]:List (Int)):U3) BQ v
theorem ATr v:AJj v=AGP v:=AG _
abbrev Tx:AE:=[(.tmp 0,.own 43 U6),(.tmp 1,.di),(.tmp 2,.box 1),(.cell 1 0,.di),(.tmp 3,.clo 164 [])]
abbrev Tw:AE:=[(.obj 0,.own 43 U6),(.obj 1,.box 1),(.cell 1 0,.di),(.tmp 0,.di)]
abbrev Tv:List RS:=[.one]
def AGR[Lk]:Uc→Option (Uc):=KU (([]:List (Int)):U3) BQ
def AJn[Lk](v:Uc):Option (Uc):=LU (([]:List (Int)):U3) BQ v
theorem ATu v:AJn v=AGR v:=AG _
abbrev AAv:AE:=[(.tmp 0,.own 43 U6),(.tmp 1,.di),(.tmp 2,.di),(.tmp 3,.clo 164 [])]
abbrev AAu:AE:=[(.obj 0,.own 43 U6),(.tmp 0,.di),(.tmp 1,.di)]
abbrev AAt:List RS:=[.one,.one]
def ANE[Lk]:Uc→Option (Uc):=Mw (([]:List (Int)):U3) BQ
def ASs[Lk](v:Uc):Option (Uc):=AAw (([]:List (Int)):U3) BQ v
theorem AYx v:ASs v=ANE v:=AG _
abbrev AST:AE:=[(.tmp 0,.own 43 U6),(.tmp 1,.di),(.tmp 2,.di),(.tmp 3,.clo 164 [])]
abbrev ASS:AE:=[(.obj 0,.own 43 U6)]
abbrev ASR:List RS:=[]
abbrev AWP:AE:=[(.obj 0,.own 43 U6),(.tmp 0,.own' 0),(.tmp 8,.di),(.tmp 9,.di)]
abbrev AWO:At:=[(.exit 0,[(.obj 0,.own 43 U6)])]
def AWN[Lk]:Uc→Option (Uc⊕Uo⊕Unit):=Qu (([]:List (Int)):U3) BQ
def Acb[Lk]:Uc→Option (Uo):=AAf (([]:List (Int)):U3) BQ
def Ah7[Lk](v:Uc):Option (Uo):=Ace (([]:List (Int)):U3) BQ v
theorem AgE v:Ah7 v=Acb v:=AG _
abbrev Pc:AE:=[(.tmp 0,.own 43 U6),(.tmp 1,.di),(.tmp 2,.di),(.tmp 3,.clo 164 [])]
abbrev Pb:AE:=[(.obj 0,.own 43 U6),(.tmp 0,.dat .bool)]
abbrev Pa:List RS:=[.one]
abbrev W0:AE:=[(.obj 0,.own 43 U6),(.tmp 0,.own' 0),(.tmp 1,.di),(.tmp 2,.di),(.tmp 3,.clo 164 []),(.tmp 9,.di),(.tmp 10,.di),(.tmp 12,.di)]
abbrev Ww:At:=[(.exit 6,[(.obj 0,.own 43 U6),(.tmp 0,.own' 0),(.tmp 1,.di),(.tmp 2,.di),(.tmp 3,.clo 164 []),(.tmp 9,.di),(.tmp 10,.di)])]
def Ws[Lk]:Ut→Option (Ut⊕Ui⊕Unit):=Et (([]:List (Int)):U3) BQ
abbrev W1:AE:=[(.obj 0,.own 43 U6),(.tmp 0,.own' 0),(.tmp 1,.di),(.tmp 2,.di),(.tmp 3,.clo 164 []),(.tmp 9,.di),(.tmp 10,.di),(.tmp 11,.di)]
abbrev Wx:At:=[(.exit 4,[(.obj 0,.own 43 U6),(.tmp 0,.own' 0),(.tmp 1,.di),(.tmp 2,.di),(.tmp 3,.clo 164 []),(.tmp 9,.di),(.tmp 10,.di)])]
def Wt[Lk]:Ut→Option (Ut⊕Ui⊕Unit):=Eu (([]:List (Int)):U3) BQ
abbrev W2:AE:=[(.obj 0,.own 43 U6),(.tmp 0,.own' 0),(.tmp 1,.di),(.tmp 2,.di),(.tmp 3,.clo 164 []),(.tmp 9,.di),(.tmp 10,.di)]
abbrev Wy:At:=[(.exit 2,[(.obj 0,.own 43 U6),(.tmp 0,.own' 0),(.tmp 1,.di),(.tmp 2,.di),(.tmp 3,.clo 164 []),(.tmp 9,.di),(.tmp 10,.di)])]
def Wu[Lk]:Ui→Option (Ui⊕Ui⊕Unit):=Gj (([]:List (Int)):U3) BQ
abbrev W3:AE:=[(.obj 0,.own 43 U6),(.tmp 0,.own' 0),(.tmp 1,.di),(.tmp 2,.di),(.tmp 3,.clo 164 []),(.tmp 9,.di),(.tmp 10,.di)]
abbrev Wz:At:=[(.ret,[(.obj 0,.own 43 U6),(.tmp 8,.dat .bool)]),(.exit 0,[(.obj 0,.own 43 U6)])]
def Wv[Lk]:Ui→Option (Ui⊕(List U3×Bool×Unit)⊕Uo⊕Unit):=CZ (([]:List (Int)):U3) BQ
def ABI[Lk]:Uc→Option ((List U3×Bool×Unit)):=H7 (([]:List (Int)):U3) BQ
def ABJ[Lk](v:Uc):Option ((List U3×Bool×Unit)):=Mx (([]:List (Int)):U3) BQ v
theorem ANo v:ABJ v=ABI v:=AG _
abbrev Ta:AE:=[(.tmp 0,.own 43 U6),(.tmp 1,.di),(.tmp 2,.di),(.tmp 3,.di),(.tmp 4,.clo 164 [])]
abbrev TZ:AE:=[(.obj 0,.own 43 U6),(.tmp 0,.di)]
abbrev TY:List RS:=[.one]
abbrev ABX:AE:=[(.obj 0,.own 43 U6),(.tmp 0,.own' 0),(.tmp 1,.di),(.tmp 4,.clo 164 []),(.tmp 11,.di),(.tmp 12,.di)]
abbrev ABU:At:=[(.exit 4,[(.obj 0,.own 43 U6),(.tmp 0,.own' 0),(.tmp 1,.di),(.tmp 4,.clo 164 []),(.tmp 11,.di),(.tmp 12,.di)])]
def ABR[Lk]:U7→Option (U7⊕U7⊕Unit):=H8 (([]:List (Int)):U3) BQ
abbrev ABY:AE:=[(.obj 0,.own 43 U6),(.tmp 0,.own' 0),(.tmp 1,.di),(.tmp 4,.clo 164 []),(.tmp 11,.di),(.tmp 12,.di)]
abbrev ABV:At:=[(.exit 2,[(.obj 0,.own 43 U6),(.tmp 0,.own' 0),(.tmp 1,.di),(.tmp 4,.clo 164 []),(.tmp 11,.di),(.tmp 12,.di)])]
def ABS[Lk]:U7→Option (U7⊕U7⊕Unit):=H9 (([]:List (Int)):U3) BQ
abbrev ABZ:AE:=[(.obj 0,.own 43 U6),(.tmp 0,.own' 0),(.tmp 1,.di),(.tmp 4,.clo 164 []),(.tmp 11,.di),(.tmp 12,.di)]
abbrev ABW:At:=[(.exit 0,[(.obj 0,.own 43 U6),(.tmp 11,.di)])]
def ABT[Lk]:U7→Option (U7⊕Vc⊕Unit):=IA (([]:List (Int)):U3) BQ
def AGG[Lk]:U7→Option (Vc):=KO (([]:List (Int)):U3) BQ
def AJI[Lk](v:U7):Option (Vc):=Q4 (([]:List (Int)):U3) BQ v
theorem ATH v:AJI v=AGG v:=AG _
end
end Go.Pev
end
section
namespace Go.Pev
noncomputable section
attribute [local irreducible] O1 Ln Pz On AeA AeB AeC TS AAh Xy AEe Lw AY many IntKind.wrap AI A4 AU A2 Bq DY EN AK Bo CR imax AP Ae
abbrev AJD:AE:=[(.tmp 0,.own 43 U6),(.tmp 1,.di),(.tmp 2,.di),(.tmp 3,.di),(.tmp 4,.clo 164 [])]
abbrev AJC:AE:=[(.obj 0,.own 43 U6),(.tmp 0,.di),(.tmp 1,.dat .bool)]
abbrev AJB:List RS:=[.one,.one]
abbrev ANb:AE:=[(.obj 0,.own 43 U6),(.tmp 0,.own' 0),(.tmp 1,.di),(.tmp 4,.clo 164 []),(.tmp 12,.di),(.tmp 13,.di)]
abbrev ANW:At:=[(.exit 8,[(.obj 0,.own 43 U6),(.tmp 0,.own' 0),(.tmp 1,.di),(.tmp 4,.clo 164 []),(.tmp 12,.di),(.tmp 13,.di)])]
def ANN[Lk]:U7→Option (U7⊕U7⊕Unit):=My (([]:List (Int)):U3) BQ
abbrev ANc:AE:=[(.obj 0,.own 43 U6),(.tmp 0,.own' 0),(.tmp 1,.di),(.tmp 4,.clo 164 []),(.tmp 12,.di),(.tmp 13,.di)]
abbrev ANX:At:=[(.exit 6,[(.obj 0,.own 43 U6),(.tmp 0,.own' 0),(.tmp 1,.di),(.tmp 4,.clo 164 []),(.tmp 12,.di),(.tmp 13,.di)])]
def ANP[Lk]:U7→Option (U7⊕U7⊕Unit):=Mz (([]:List (Int)):U3) BQ
abbrev ANd:AE:=[(.obj 0,.own 43 U6),(.tmp 0,.own' 0),(.tmp 1,.di),(.tmp 4,.clo 164 []),(.tmp 12,.di),(.tmp 13,.di)]
abbrev ANY:At:=[(.exit 4,[(.obj 0,.own 43 U6),(.tmp 0,.own' 0),(.tmp 1,.di),(.tmp 13,.di)])]
def ANR[Lk]:U7→Option (U7⊕Uc⊕Unit):=M0 (([]:List (Int)):U3) BQ
abbrev ANe:AE:=[(.obj 0,.own 43 U6),(.tmp 0,.own' 0),(.tmp 1,.di),(.tmp 4,.clo 164 []),(.tmp 12,.di),(.tmp 13,.di)]
abbrev ANZ:At:=[(.exit 2,[(.obj 0,.own 43 U6),(.tmp 0,.own' 0),(.tmp 1,.di),(.tmp 4,.clo 164 []),(.tmp 12,.di),(.tmp 13,.di)])]
def ANT[Lk]:U7→Option (U7⊕U7⊕Unit):=M3 (([]:List (Int)):U3) BQ
abbrev ANf:AE:=[(.obj 0,.own 43 U6),(.tmp 0,.own' 0),(.tmp 1,.di),(.tmp 4,.clo 164 []),(.tmp 12,.di),(.tmp 13,.di)]
abbrev ANa:At:=[(.exit 0,[(.obj 0,.own 43 U6),(.tmp 0,.own' 0),(.tmp 1,.di),(.tmp 4,.clo 164 []),(.tmp 12,.di),(.tmp 13,.di)])]
def ANV[Lk]:U7→Option (U7⊕U7⊕Unit):=M4 (([]:List (Int)):U3) BQ
def AWf[Lk]:U7→Option ((List U3×Int×Bool×Unit)):=Q3 (([]:List (Int)):U3) BQ
def Ac8[Lk](v:U7):Option ((List U3×Int×Bool×Unit)):=ABQ (([]:List (Int)):U3) BQ v
theorem Ac7 v:Ac8 v=AWf v:=AG _
abbrev AA7:AE:=[(.tmp 0,.own 43 U6),(.tmp 1,.di),(.tmp 2,.di),(.tmp 3,.di),(.tmp 4,.clo 164 [])]
abbrev AA6:AE:=[(.obj 0,.own 43 U6)]
abbrev AA5:List RS:=[]
abbrev AWb:AE:=[(.obj 0,.own 43 U6),(.tmp 0,.own' 0),(.tmp 1,.di),(.tmp 2,.di),(.tmp 3,.di),(.tmp 4,.clo 164 []),(.tmp 10,.dat .bool),(.tmp 11,.dat .bool)]
abbrev AWa:At:=[(.ret,[(.obj 0,.own 43 U6)])]
def AWZ[Lk](self:U7→Option (Uo)):(List U3×Int×Int×Int×Bool×Bool×Unit)→Option ((List U3×Int×Int×Int×Bool×Bool×Unit)⊕Uo⊕Unit):=OC (([]:List (Int)):U3) BQ self
def AiD[Lk](self:U7→Option (Uo)):U7→Option (Uo):=AA9 (([]:List (Int)):U3) BQ self
def AA8[Lk]:Nat→U7→Option (Uo):=LH (([]:List (Int)):U3) BQ
def AgN[Lk](v:U7):Option (Uo):=Acv (([]:List (Int)):U3) BQ v
theorem AgM v:AgN v=AA8 100 v:=AG _
abbrev AIF:AE:=[(.tmp 0,.own 43 U6),(.tmp 1,.clo 164 [])]
abbrev AIE:AE:=[(.obj 0,.own 43 U6)]
abbrev AID:List RS:=[]
def AV5[Lk]:Uo→Option (Uo):=Qj (([]:List (Int)):U3) BQ
def AMW[Lk](v:Uo):Option (Uo):=AV6 (([]:List (Int)):U3) BQ v
theorem Ab9 v:AMW v=AV5 v:=AG _
abbrev AHY:AE:=[(.tmp 0,.dat Ur),(.tmp 1,.dat U6),(.tmp 2,.dat Ug)]
abbrev AHX:AE:=[(.tmp 0,.di),(.tmp 1,.own 43 U6)]
abbrev AHW:List RS:=[.agg 2]
abbrev ALs:AE:=[(.tmp 3,.box 2),(.cell 0 0,.di),(.cell 0 1,.dat Ug),(.tmp 6,.box 2),(.cell 1 0,.di),(.cell 1 1,.nil U6),(.tmp 7,.own 43 U6),(.tmp 29,.dat Ug),(.tmp 30,.di),(.tmp 31,.di)]
abbrev ALq:At:=[(.exit 2,[(.tmp 3,.box 2),(.cell 0 0,.di),(.cell 0 1,.dat Ug),(.tmp 6,.box 2),(.cell 1 0,.di),(.cell 1 1,.nil U6),(.tmp 7,.own 43 U6)])]
def Hk[Lk]:(Int×List U3×Int×List U3×List U3×Int×Int×Unit)→Option ((Int×List U3×Int×List U3×List U3×Int×Int×Unit)⊕(Int×List U3×Int×List U3×Unit)⊕Unit):=fun(a0,a1,a2,a3,a4,a5,a6,_)=>
 match(ilt a6 a5)with
 |true=>match idx a4 a6 with|none=>none|some x0=>match AAY (x0,())with|none=>none|some (y1,_)=>match(fits ((AI a3)+(AI ([y1]:List U3))))with
  |true=>some (.inl (a0,a1,a2,(A2 a3 ([y1]:List U3)),a4,a5,(IntKind.wrap .i64 (a6+1)),()))
  |false=>none
 |false=>some (.inr (.inl (a0,a1,a2,a3,())))
abbrev ALt:AE:=[(.tmp 1,.dat U6),(.tmp 2,.dat Ug),(.tmp 3,.box 2),(.cell 0 0,.di),(.cell 0 1,.dat Ug),(.tmp 6,.box 2),(.cell 1 0,.di),(.cell 1 1,.nil U6),(.tmp 7,.own 43 U6),(.tmp 13,.dat Ug),(.tmp 14,.di),(.tmp 15,.di)]
abbrev ALr:At:=[(.exit 0,[(.tmp 2,.dat Ug),(.tmp 3,.box 2),(.cell 0 0,.di),(.cell 0 1,.dat Ug),(.tmp 6,.box 2),(.cell 1 0,.di),(.cell 1 1,.nil U6),(.tmp 7,.own 43 U6)])]
def Hl[Lk]:(List Int×List U3×Int×List U3×Int×List U3×List U3×Int×Int×Unit)→Option ((List Int×List U3×Int×List U3×Int×List U3×List U3×Int×Int×Unit)⊕(List U3×Int×List U3×Int×List U3×Unit)⊕Unit):=fun(a0,a1,a2,a3,a4,a5,a6,a7,a8,_)=>
 match(ilt a8 a7)with
 |true=>match idx a6 a8 with|none=>none|some x0=>match GB (a0,a8,())with|none=>none|some (y1,_)=>match(!y1)with
  |true=>match(fits ((AI a5)+(AI ([x0]:List U3))))with
   |true=>some (.inl (a0,a1,a2,a3,a4,(A2 a5 ([x0]:List U3)),a6,a7,(IntKind.wrap .i64 (a8+1)),()))
   |false=>none
  |false=>some (.inl (a0,a1,a2,a3,a4,a5,a6,a7,(IntKind.wrap .i64 (a8+1)),()))
 |false=>some (.inr (.inl (a1,a2,a3,a4,a5,())))
def YV[Lk]:(Uk×List Int×List U3×Unit)→Option ((Int×List U3×Unit)):=fun(a0,a1,a2,_)=>
 match AW Hl many (a1,a2,a0.1,a0.2.1,0,([]:List U3),a0.2.1,(AI a0.2.1),0,())with|none=>none|some r=>match r with
 |.inl (o0,o1,o2,o3,o4,_)=>match AW Hk many (o1,o2,o3,o4,o0,(AI o0),0,())with|none=>none|some r=>match r with
  |.inl (o5,o6,o7,o8,_)=>match AMW (o8,())with|none=>none|some (y9,_)=>some (o5,y9,())
  |.inr _=>none
 |.inr _=>none
def ALv[Lk]:=fun v=>Lk.f (YV v)
theorem ALu v:ALv v=YV v:=AG _
abbrev AHz:AE:=[(.tmp 0,.dat Ur),(.tmp 1,.di),(.tmp 2,.di)]
abbrev AHy:AE:=[(.tmp 0,.di),(.tmp 1,.dat Ug),(.tmp 2,.di)]
abbrev AHx:List RS:=[.agg 2,.one]
def HH[Lk]:(Uk×Int×Int×Unit)→Option (V7):=fun(a0,a1,a2,_)=>
 match asked ((a0.1,(a0.2.1,())),a1,a2,())with|none=>none|some (y0,_)=>match(!(ieq y0 0))with
 |true=>some (a0.1,a0.2.1,y0,())
 |false=>match PG ((a0.1,(a0.2.1,())),a1,())with|none=>none|some (y1,_)=>match PG ((a0.1,(a0.2.1,())),a2,())with|none=>none|some (y2,_)=>match(ieq y1 y2)with
 |true=>some (a0.1,a0.2.1,5,())
 |false=>match idx a0.2.1 y1 with|none=>none|some x3=>match AF5 (x3,a1,())with|none=>none|some (y4,y5,_)=>match idx a0.2.1 y2 with|none=>none|some x6=>match AF5 (x6,a2,())with|none=>none|some (y7,y8,_)=>match By y4 0 1 with|none=>none|some x9=>match AX6 (a0.1,a1,a2,())with|none=>none|some (y10,_)=>match AX6 (a0.1,a2,a1,())with|none=>none|some (y11,_)=>match By y4 1 (AI y4)with|none=>none|some x12=>match JQ (([(DY 0 (AK (AI x9)) y4),([y10]:List (Int)),y7,([y11]:List (Int)),(DY 1 (AK (AI x12)) y4)]:List U3),())with|none=>none|some (y13,_)=>match ALv ((a0.1,(a0.2.1,())),([y1,y2]:List (Int)),([y13]:List U3),())with|none=>none|some (y14,y15,_)=>some (y14,y15,0,())
def Mi[Lk]:=fun v=>Lk.f (HH v)
theorem Hs v:Mi v=HH v:=AG _
abbrev F7:AE:=[(.tmp 0,.dat U6),(.cap 1 0,.box 2),(.cell 0 0,.di),(.cell 0 1,.dat Ug),(.tmp 1,.clo 158 [(0,0)])]
abbrev F6:AE:=[(.obj 0,.box 2),(.cell 0 0,.di),(.cell 0 1,.dat Ug),(.tmp 0,.di)]
abbrev F5:List RS:=[.one]
abbrev JD:AE:=[(.obj 0,.box 2),(.cell 0 0,.di),(.cell 0 1,.dat Ug),(.tmp 0,.dat U6),(.tmp 1,.clo 158 [(0,0)]),(.tmp 7,.di),(.tmp 8,.di)]
abbrev JC:At:=[(.ret,[(.obj 0,.box 2),(.cell 0 0,.di),(.cell 0 1,.dat Ug),(.tmp 4,.di)]),(.exit 0,[(.obj 0,.box 2),(.cell 0 0,.di),(.cell 0 1,.dat Ug)])]
def Bn[Lk]:(Int×List U3×List Int×Int×Int×Unit)→Option ((Int×List U3×List Int×Int×Int×Unit)⊕V7⊕(Int×List U3×Unit)⊕Unit):=fun(a0,a1,a2,a3,a4,_)=>
 match(ilt a4 a3)with
 |true=>match idx a2 a4 with|none=>none|some x0=>match(ilt x0 0)with
  |true=>some (.inr (.inl (a0,a1,a4,())))
  |false=>match(ile a0 x0)with
  |true=>some (.inr (.inl (a0,a1,a4,())))
  |false=>some (.inl (a0,a1,a2,a3,(IntKind.wrap .i64 (a4+1)),()))
 |false=>some (.inr (.inr (.inl (a0,a1,()))))
def D7[Lk]:(List Int×Int×List U3×Unit)→Option (V7):=fun(a0,a1,a2,_)=>
 match AW Bn many (a1,a2,a0,(AI a0),0,())with|none=>none|some r=>match r with
 |.inl (o0,o1,o2,_)=>some (o0,o1,o2,())
 |.inr r=>match r with
 |.inl (o3,o4,_)=>some (o3,o4,(-1:Int),())
 |.inr _=>none
def FH[Lk]:=fun v=>Lk.f (D7 v)
theorem JE v:FH v=D7 v:=AG _
abbrev FP:AE:=[(.tmp 0,.dat U6),(.cap 1 0,.box 2),(.cell 0 0,.di),(.cell 0 1,.dat Ug),(.tmp 1,.clo 158 [(0,0)])]
abbrev FO:AE:=[(.obj 0,.box 2),(.cell 0 0,.di),(.cell 0 1,.dat Ug),(.tmp 0,.dat .bool)]
abbrev FN:List RS:=[.one]
def DV[Lk]:(List Int×Int×List U3×Unit)→Option ((Int×List U3×Bool×Unit)):=fun(a0,a1,a2,_)=>
 match FH (a0,a1,a2,())with|none=>none|some (y0,y1,y2,_)=>some (y0,y1,(ile 0 y2),())
def DN[Lk]:=fun v=>Lk.f (DV v)
theorem IW v:DN v=DV v:=AG _
abbrev ACg:AE:=[(.tmp 0,.dat Ur),(.tmp 1,.dat U6)]
abbrev ACf:AE:=[(.tmp 0,.di)]
abbrev ACe:List RS:=[.one]
def Rd[Lk]:(Uk×List Int×Unit)→Option (U9):=fun(a0,a1,_)=>
 match PF ((a0.1,(a0.2.1,())),())with|none=>none|some (y0,_)=>match(!y0)with
 |true=>some (1,())
 |false=>match DN (a1,a0.1,a0.2.1,())with|none=>none|some (y1,y2,y3,_)=>match y3 with
 |true=>some (10,())
 |false=>some (0,())
def P6[Lk]:=fun v=>Lk.f (Rd v)
theorem AGj v:P6 v=Rd v:=AG _
abbrev AU1:AE:=[(.tmp 0,.dat Um)]
abbrev AU0:AE:=[(.tmp 0,.own 3 U0)]
abbrev AUz:List RS:=[.one]
abbrev AXL:AE:=[(.tmp 3,.own 3 U0),(.tmp 6,.dat Um),(.tmp 7,.di),(.tmp 8,.di)]
abbrev AXK:At:=[(.exit 0,[(.tmp 3,.own 3 U0)])]
def Lo[Lk]:(List Int×List U1×Int×Int×Unit)→Option ((List Int×List U1×Int×Int×Unit)⊕Up⊕Unit):=fun(a0,a1,a2,a3,_)=>
 match(ilt a3 a2)with
 |true=>match idx a1 a3 with|none=>none|some x0=>match(fits ((AI a0)+(AI ([x0.1,x0.2.1]:List (Int)))))with
  |true=>some (.inl ((A2 a0 ([x0.1,x0.2.1]:List (Int))),a1,a2,(IntKind.wrap .i64 (a3+1)),()))
  |false=>none
 |false=>some (.inr (.inl (a0,())))
def AKh[Lk]:Un→Option (Up):=fun(a0,_)=>
 match AW Lo many (([]:List (Int)),a0,(AI a0),0,())with|none=>none|some r=>match r with
 |.inl (o0,_)=>some (o0,())
 |.inr _=>none
def ends[Lk]:=fun v=>Lk.f (AKh v)
theorem AXM v:ends v=AKh v:=AG _
abbrev QD:AE:=[(.tmp 0,.dat Ur),(.tmp 1,.dat Um),(.tmp 2,.clo 131 [])]
abbrev QC:AE:=[(.tmp 0,.dat Ur),(.tmp 1,.own 4 .bool),(.tmp 2,.di)]
abbrev QB:List RS:=[.one,.one,.one]
abbrev XS:AE:=[(.tmp 2,.clo 131 []),(.tmp 3,.box 2),(.cell 0 0,.di),(.cell 0 1,.dat Ug),(.tmp 6,.box 2),(.cell 1 0,.di),(.cell 1 1,.nil U6),(.tmp 10,.own 4 .bool),(.tmp 23,.dat Um),(.tmp 24,.di),(.tmp 25,.di)]
abbrev XR:At:=[(.exit 0,[(.tmp 3,.box 2),(.cell 0 0,.di),(.cell 0 1,.dat Ug),(.tmp 6,.box 2),(.cell 1 0,.di),(.cell 1 1,.nil U6),(.tmp 10,.own 4 .bool)])]
def B4[Lk]:(Int×List U3×Int×List Bool×List U1×Int×Int×Unit)→Option ((Int×List U3×Int×List Bool×List U1×Int×Int×Unit)⊕(Int×List U3×Int×List Bool×Unit)⊕Unit):=fun(a0,a1,a2,a3,a4,a5,a6,_)=>
 match(ilt a6 a5)with
 |true=>match idx a4 a6 with|none=>none|some x0=>match Mi ((a0,(a1,())),x0.1,x0.2.1,())with|none=>none|some (y1,y2,y3,_)=>match(fits ((AI a3)+(AI ([(ieq y3 0)]:List (Bool)))))with
  |true=>some (.inl (y1,y2,a2,(A2 a3 ([(ieq y3 0)]:List (Bool))),a4,a5,(IntKind.wrap .i64 (a6+1)),()))
  |false=>none
 |false=>some (.inr (.inl (a0,a1,a2,a3,())))
def IU[Lk]:(Uk×List U1×Unit)→Option ((Uk×List Bool×Int×Unit)):=fun(a0,a1,_)=>
 match ends (a1,())with|none=>none|some (y0,_)=>match P6 ((a0.1,(a0.2.1,())),y0,())with|none=>none|some (y1,_)=>match(!(ieq y1 0))with
 |true=>some ((a0.1,(a0.2.1,())),([]:List (Bool)),y1,())
 |false=>match AW B4 many (a0.1,a0.2.1,0,([]:List (Bool)),a1,(AI a1),0,())with|none=>none|some r=>match r with
 |.inl (o2,o3,o4,o5,_)=>some ((o2,(o3,())),o5,0,())
 |.inr _=>none
def Rk[Lk]:=fun v=>Lk.f (IU v)
theorem NU v:Rk v=IU v:=AG _
abbrev ACn:AE:=[(.tmp 0,.dat Ur),(.tmp 1,.dat Um)]
abbrev ACm:AE:=[(.tmp 0,.dat Ur),(.tmp 1,.own 4 .bool),(.tmp 2,.di)]
abbrev ACl:List RS:=[.one,.one,.one]
def NQ[Lk]:(Uk×List U1×Unit)→Option ((Uk×List Bool×Int×Unit)):=fun(a0,a1,_)=>
 match Rk ((a0.1,(a0.2.1,())),a1,())with|none=>none|some (y0,y1,y2,_)=>some ((y0.1,(y0.2.1,())),y1,y2,())
def AKZ[Lk]:=fun v=>Lk.f (NQ v)
theorem UX v:AKZ v=NQ v:=AG _
abbrev Aed:AE:=[(.tmp 0,.di),(.tmp 1,.dat Um)]
abbrev Aec:AE:=[(.tmp 0,.dat Ur),(.tmp 1,.di)]
abbrev Aeb:List RS:=[.one,.one]
def APj[Lk]:(Int×List U1×Unit)→Option (Vi):=fun(a0,a1,_)=>
 match AMH (a0,())with|none=>none|some (y0,y1,y2,_)=>match(!(ieq y2 0))with
 |true=>some ((0,(([]:List U3),())),y2,())
 |false=>match AKZ ((y0,(y1,())),a1,())with|none=>none|some (y3,y4,y5,_)=>match(!(ieq y5 0))with
 |true=>some ((0,(([]:List U3),())),y5,())
 |false=>some ((y3.1,(y3.2.1,())),0,())
def fof[Lk]:=fun v=>Lk.f (APj v)
theorem AUo v:fof v=APj v:=AG _
abbrev AdU:AE:=[(.tmp 0,.dat U6)]
abbrev AdS:AE:=[(.tmp 0,.di)]
abbrev AdQ:List RS:=[.one]
abbrev AdT:AE:=[(.tmp 3,.di),(.tmp 6,.dat U6),(.tmp 7,.di),(.tmp 8,.di)]
abbrev AdR:At:=[(.ret,[(.tmp 2,.di)]),(.exit 0,[(.tmp 3,.di)])]
def Fp[Lk]:(Int×List Int×Int×Int×Unit)→Option ((Int×List Int×Int×Int×Unit)⊕U9⊕U9⊕Unit):=fun(a0,a1,a2,a3,_)=>
 match(ilt a3 a2)with
 |true=>match idx a1 a3 with|none=>none|some x0=>match(!(ieq x0 a0))with
  |true=>some (.inr (.inl (x0,())))
  |false=>some (.inl (a0,a1,a2,(IntKind.wrap .i64 (a3+1)),()))
 |false=>some (.inr (.inr (.inl (a0,()))))
def AGN[Lk]:Up→Option (U9):=fun(a0,_)=>
 match AW Fp many (0,a0,(AI a0),0,())with|none=>none|some r=>match r with
 |.inl (o0,_)=>some (o0,())
 |.inr r=>match r with
 |.inl (o1,_)=>some (o1,())
 |.inr _=>none
def orI[Lk]:=fun v=>Lk.f (AGN v)
theorem AJT v:orI v=AGN v:=AG _
abbrev AB1:AE:=[(.tmp 0,.di)]
abbrev AB0:AE:=[(.tmp 0,.dat .bool)]
abbrev ABz:List RS:=[.one]
def NF[Lk]:U9→Option (Ue):=fun(a0,_)=>
 match(ile 1 a0)with
 |true=>some ((ile a0 64),())
 |false=>some (false,())
def T6[Lk]:=fun v=>Lk.f (NF v)
theorem T5 v:T6 v=NF v:=AG _
abbrev AT3:AE:=[(.tmp 0,.di)]
abbrev AT2:AE:=[(.tmp 0,.di)]
abbrev AT1:List RS:=[.one]
def AT4[Lk]:U9→Option (U9):=fun(a0,_)=>
 match T6 (a0,())with|none=>none|some (y0,_)=>match(!y0)with
 |true=>some (0,())
 |false=>match bitsLen ((IntKind.wrap .u64 (IntKind.wrap .i64 (a0-1))),())with|none=>none|some (y1,_)=>some (y1,())
def AJt[Lk]:=fun v=>Lk.f (AT4 v)
theorem Agl v:AJt v=AT4 v:=AG _
abbrev Ps:AE:=[(.tmp 0,.dat U5),(.tmp 1,.dat U5)]
abbrev Pr:AE:=[(.tmp 0,.di)]
abbrev Pq:List RS:=[.one]
def LX[Lk]:(U4×U4×Unit)→Option (U9):=fun(a0,a1,_)=>
 match Dn (a0.1,a1.1,())with|none=>none|some (y0,_)=>match Dn (a0.2.1,a1.2.1,())with|none=>none|some (y1,_)=>match orI (([y0,y1]:List (Int)),())with|none=>none|some (y2,_)=>some (y2,())
def KZ[Lk]:=fun v=>Lk.f (LX v)
theorem XK v:KZ v=LX v:=AG _
abbrev ABx:AE:=[(.tmp 0,.dat Uf),(.tmp 1,.di)]
abbrev ABw:AE:=[(.tmp 0,.own 34 U2)]
abbrev ABv:List RS:=[.one]
abbrev AGU:AE:=[(.tmp 1,.di),(.tmp 5,.own 34 U2),(.tmp 9,.dat Uz),(.tmp 10,.di),(.tmp 11,.di)]
abbrev AGT:At:=[(.exit 0,[(.tmp 5,.own 34 U2)])]
def Cr[Lk]:(Int×List U1×List U4×Int×Int×Unit)→Option ((Int×List U1×List U4×Int×Int×Unit)⊕Un⊕Unit):=fun(a0,a1,a2,a3,a4,_)=>
 match(ilt a4 a3)with
 |true=>match idx a2 a4 with|none=>none|some x0=>match x0.2.2.2.1 with
  |true=>match(ile a0 x0.2.2.1)with
   |true=>match(fits ((AI a1)+(AI ([(x0.1,(x0.2.1,()))]:List U1))))with
    |true=>some (.inl (a0,(A2 a1 ([(x0.1,(x0.2.1,()))]:List U1)),a2,a3,(IntKind.wrap .i64 (a4+1)),()))
    |false=>none
   |false=>some (.inl (a0,a1,a2,a3,(IntKind.wrap .i64 (a4+1)),()))
  |false=>some (.inl (a0,a1,a2,a3,(IntKind.wrap .i64 (a4+1)),()))
 |false=>some (.inr (.inl (a1,())))
def ND[Lk]:(Ul×Int×Unit)→Option (Un):=fun(a0,a1,_)=>
 match AW Cr many (a1,([]:List U1),a0.2.1,(AI a0.2.1),0,())with|none=>none|some r=>match r with
 |.inl (o0,_)=>some (o0,())
 |.inr _=>none
def Pm[Lk]:=fun v=>Lk.f (ND v)
theorem T4 v:Pm v=ND v:=AG _
abbrev AB4:AE:=[(.tmp 0,.dat Uf)]
abbrev AB3:AE:=[(.tmp 0,.dat .bool)]
abbrev AB2:List RS:=[.one]
abbrev AGW:AE:=[(.tmp 1,.box 2),(.cell 0 0,.di),(.cell 0 1,.dat Uz),(.tmp 3,.di),(.tmp 23,.dat Uz),(.tmp 24,.di),(.tmp 25,.di)]
abbrev AGV:At:=[(.ret,[(.tmp 2,.dat .bool)]),(.exit 0,[(.tmp 1,.box 2),(.cell 0 0,.di),(.cell 0 1,.dat Uz)])]
def D2[Lk]:(Int×List U4×Int×List U4×Int×Int×Unit)→Option ((Int×List U4×Int×List U4×Int×Int×Unit)⊕Ue⊕(Int×List U4×Unit)⊕Unit):=fun(a0,a1,a2,a3,a4,a5,_)=>
 match(ilt a5 a4)with
 |true=>match idx a3 a5 with|none=>none|some x0=>match(ilt x0.1 0)with
  |true=>some (.inr (.inl (false,())))
  |false=>match(ile x0.2.1 x0.1)with
  |true=>some (.inr (.inl (false,())))
  |false=>match(ile a0 x0.2.1)with
  |true=>some (.inr (.inl (false,())))
  |false=>match(ilt x0.2.2.1 0)with
  |true=>some (.inr (.inl (false,())))
  |false=>match(ilt a2 x0.2.2.1)with
  |true=>some (.inr (.inl (false,())))
  |false=>match(ilt 0 a5)with
  |true=>match idx a1 (IntKind.wrap .i64 (a5-1))with|none=>none|some x1=>match KZ ((x1.1,(x1.2.1,(x1.2.2.1,(x1.2.2.2.1,())))),(x0.1,(x0.2.1,(x0.2.2.1,(x0.2.2.2.1,())))),())with|none=>none|some (y2,_)=>match(ile 0 y2)with
   |true=>some (.inr (.inl (false,())))
   |false=>some (.inl (a0,a1,a2,a3,a4,(IntKind.wrap .i64 (a5+1)),()))
  |false=>some (.inl (a0,a1,a2,a3,a4,(IntKind.wrap .i64 (a5+1)),()))
 |false=>some (.inr (.inr (.inl (a0,a1,()))))
def ID[Lk]:(Ul×Unit)→Option (Ue):=fun(a0,_)=>
 match T6 (a0.1,())with|none=>none|some (y0,_)=>match(!y0)with
 |true=>some (false,())
 |false=>match(ilt 400 (AI a0.2.1))with
 |true=>some (false,())
 |false=>match AJt (a0.1,())with|none=>none|some (y1,_)=>match AW D2 many (a0.1,a0.2.1,y1,a0.2.1,(AI a0.2.1),0,())with|none=>none|some r=>match r with
 |.inl (o2,_)=>some (o2,())
 |.inr r=>match r with
 |.inl (o3,o4,_)=>match Pm ((o3,(o4,())),0,())with|none=>none|some (y5,_)=>match fof (o3,y5,())with|none=>none|some (y6,y7,_)=>match(ieq y7 0)with
  |true=>some ((ieq (AI y6.2.1) (IntKind.wrap .i64 (o3-(AI y5)))),())
  |false=>some (false,())
 |.inr _=>none
def Pn[Lk]:=fun v=>Lk.f (ID v)
theorem KW v:Pn v=ID v:=AG _
abbrev Ng:AE:=[(.tmp 0,.di),(.tmp 1,.dat Um)]
abbrev Nf:AE:=[(.tmp 0,.own 3 U0)]
abbrev Nd:List RS:=[.one]
abbrev Rx:AE:=[(.tmp 0,.di),(.tmp 1,.dat Um),(.tmp 5,.own 3 U0),(.tmp 7,.dat .bool),(.tmp 8,.di)]
abbrev Ru:At:=[(.exit 4,[(.tmp 0,.di),(.tmp 1,.dat Um),(.tmp 5,.own 3 U0),(.tmp 7,.dat .bool)])]
def DE[Lk]:(Int×List U1×List Int×Bool×Int×Unit)→Option ((Int×List U1×List Int×Bool×Int×Unit)⊕(Int×List U1×List Int×Bool×Unit)⊕Unit):=fun(a0,a1,a2,a3,a4,_)=>
 match(ilt a4 (AI a1))with
 |true=>match idx a1 a4 with|none=>none|some x0=>match idx a1 a4 with|none=>none|some x1=>match(ilt x0.1 0)with
  |true=>some (.inl (a0,a1,a2,a3,(IntKind.wrap .i64 (a4+1)),()))
  |false=>match(ilt x1.2.1 0)with
  |true=>some (.inl (a0,a1,a2,a3,(IntKind.wrap .i64 (a4+1)),()))
  |false=>match(ile a0 x0.1)with
  |true=>some (.inl (a0,a1,a2,a3,(IntKind.wrap .i64 (a4+1)),()))
  |false=>match(ile a0 x1.2.1)with
  |true=>some (.inl (a0,a1,a2,a3,(IntKind.wrap .i64 (a4+1)),()))
  |false=>match idx a2 x0.1 with|none=>none|some x2=>match idx a2 x1.2.1 with|none=>none|some x3=>match(ieq (AU a2 (AK x0.1) 0) (AU a2 (AK x1.2.1) 0))with
  |true=>some (.inl (a0,a1,a2,a3,(IntKind.wrap .i64 (a4+1)),()))
  |false=>match idx a2 x0.1 with|none=>none|some x4=>match idx a2 x1.2.1 with|none=>none|some x5=>match idx a2 x0.1 with|none=>none|some x6=>match idx (A4 a2 (AK x0.1) (CR (AU a2 (AK x0.1) 0) (AU a2 (AK x1.2.1) 0))) x1.2.1 with|none=>none|some x7=>some (.inl (a0,a1,(A4 (A4 a2 (AK x0.1) (CR (AU a2 (AK x0.1) 0) (AU a2 (AK x1.2.1) 0))) (AK x1.2.1) (CR (AU a2 (AK x0.1) 0) (AU a2 (AK x1.2.1) 0))),true,(IntKind.wrap .i64 (a4+1)),()))
 |false=>some (.inr (.inl (a0,a1,a2,a3,())))
abbrev Ry:AE:=[(.tmp 0,.di),(.tmp 1,.dat Um),(.tmp 5,.own 3 U0),(.tmp 7,.dat .bool)]
abbrev Rv:At:=[(.exit 2,[(.tmp 5,.own 3 U0)])]
def D9[Lk]:(Int×List U1×List Int×Bool×Unit)→Option ((Int×List U1×List Int×Bool×Unit)⊕Up⊕Unit):=fun(a0,a1,a2,a3,_)=>
 match a3 with
 |true=>match AW DE many (a0,a1,a2,false,0,())with|none=>none|some r=>match r with
  |.inl (o0,o1,o2,o3,_)=>some (.inl (o0,o1,o2,o3,()))
  |.inr _=>none
 |false=>some (.inr (.inl (a2,())))
abbrev Rz:AE:=[(.tmp 0,.di),(.tmp 1,.dat Um),(.tmp 5,.own 3 U0),(.tmp 6,.di)]
abbrev Rw:At:=[(.exit 0,[(.tmp 0,.di),(.tmp 1,.dat Um),(.tmp 5,.own 3 U0)])]
def DF[Lk]:(Int×List U1×List Int×Int×Unit)→Option ((Int×List U1×List Int×Int×Unit)⊕(Int×List U1×List Int×Unit)⊕Unit):=fun(a0,a1,a2,a3,_)=>
 match(ilt a3 a0)with
 |true=>match(fits ((AI a2)+(AI ([a3]:List (Int)))))with
  |true=>some (.inl (a0,a1,(A2 a2 ([a3]:List (Int))),(IntKind.wrap .i64 (a3+1)),()))
  |false=>none
 |false=>some (.inr (.inl (a0,a1,a2,())))
def JR[Lk]:(Int×List U1×Unit)→Option (Up):=fun(a0,a1,_)=>
 match AW DF many (a0,a1,([]:List (Int)),0,())with|none=>none|some r=>match r with
 |.inl (o0,o1,o2,_)=>match AW D9 many (o0,o1,o2,true,())with|none=>none|some r=>match r with
  |.inl (o3,_)=>some (o3,())
  |.inr _=>none
 |.inr _=>none
def DT[Lk]:=fun v=>Lk.f (JR v)
theorem R0 v:DT v=JR v:=AG _
abbrev AHp:AE:=[(.tmp 0,.di)]
abbrev AHo:AE:=[(.tmp 0,.di)]
abbrev AHn:List RS:=[.one]
abbrev AMB:AE:=[(.tmp 3,.di),(.tmp 4,.di)]
abbrev AMA:At:=[(.exit 0,[(.tmp 3,.di)])]
def Zg[Lk]:U1→Option (U1⊕U9⊕Unit):=fun(a0,a1,_)=>
 match(ilt 0 a1)with
 |true=>match quo? .i64 a1 2 with|none=>none|some x0=>some (.inl ((IntKind.wrap .i64 (a0+1)),x0,()))
 |false=>some (.inr (.inl (a0,())))
def AHr[Lk]:U9→Option (U9):=fun(a0,_)=>
 match(ilt a0 1)with
 |true=>some (0,())
 |false=>match(ilt 64 a0)with
 |true=>some (0,())
 |false=>match AW Zg many (0,(IntKind.wrap .i64 (a0-1)),())with|none=>none|some r=>match r with
 |.inl (o0,_)=>some (o0,())
 |.inr _=>none
def ML[Lk]:=fun v=>Lk.f (AHr v)
theorem Abj v:ML v=AHr v:=AG _
abbrev TN:AE:=[(.tmp 0,.dat Uf)]
abbrev TM:AE:=[(.tmp 0,.dat .bool)]
abbrev TL:List RS:=[.one]
abbrev AAd:AE:=[(.tmp 1,.box 2),(.cell 0 0,.di),(.cell 0 1,.dat Uz),(.tmp 3,.own 34 U2),(.tmp 6,.own 3 U0),(.tmp 7,.di),(.tmp 8,.di)]
abbrev AAb:At:=[(.exit 2,[(.tmp 1,.box 2),(.cell 0 0,.di),(.cell 0 1,.dat Uz),(.tmp 3,.own 34 U2),(.tmp 7,.di)])]
def Df[Lk]:(Int×List U4×List U1×List Int×Int×Int×Unit)→Option ((Int×List U4×List U1×List Int×Int×Int×Unit)⊕Vb⊕Unit):=fun(a0,a1,a2,a3,a4,a5,_)=>
 match(ilt a5 a0)with
 |true=>match idx a3 a5 with|none=>none|some x0=>match(ieq (AU a3 (AK a5) 0) a5)with
  |true=>some (.inl (a0,a1,a2,a3,(IntKind.wrap .i64 (a4+1)),(IntKind.wrap .i64 (a5+1)),()))
  |false=>some (.inl (a0,a1,a2,a3,a4,(IntKind.wrap .i64 (a5+1)),()))
 |false=>some (.inr (.inl (a0,a1,a2,a4,())))
abbrev AAe:AE:=[(.tmp 1,.box 2),(.cell 0 0,.di),(.cell 0 1,.dat Uz),(.tmp 3,.own 34 U2),(.tmp 4,.di)]
abbrev AAc:At:=[(.ret,[(.tmp 2,.dat .bool)]),(.exit 0,[(.tmp 1,.box 2),(.cell 0 0,.di),(.cell 0 1,.dat Uz),(.tmp 3,.own 34 U2)])]
def C1[Lk]:Vb→Option (Vb⊕Ue⊕(Int×List U4×List U1×Unit)⊕Unit):=fun(a0,a1,a2,a3,_)=>
 match(ilt a3 (AI a1))with
 |true=>match idx a1 a3 with|none=>none|some x0=>match(ilt x0.1 0)with
  |true=>some (.inr (.inl (false,())))
  |false=>match(ile x0.2.1 x0.1)with
  |true=>some (.inr (.inl (false,())))
  |false=>match(ile a0 x0.2.1)with
  |true=>some (.inr (.inl (false,())))
  |false=>match(ilt x0.2.2.1 0)with
  |true=>some (.inr (.inl (false,())))
  |false=>match ML (a0,())with|none=>none|some (y1,_)=>match(ilt y1 x0.2.2.1)with
  |true=>some (.inr (.inl (false,())))
  |false=>match(ilt 0 a3)with
  |true=>match idx a1 (IntKind.wrap .i64 (a3-1))with|none=>none|some x2=>match(ilt x0.1 x2.1)with
   |true=>some (.inr (.inl (false,())))
   |false=>match idx a1 (IntKind.wrap .i64 (a3-1))with|none=>none|some x3=>match(ieq x3.1 x0.1)with
   |true=>match idx a1 (IntKind.wrap .i64 (a3-1))with|none=>none|some x4=>match(ile x0.2.1 x4.2.1)with
    |true=>some (.inr (.inl (false,())))
    |false=>match x0.2.2.2.1 with
    |true=>match(fits ((AI a2)+(AI ([(x0.1,(x0.2.1,()))]:List U1))))with
     |true=>some (.inl (a0,a1,(A2 a2 ([(x0.1,(x0.2.1,()))]:List U1)),(IntKind.wrap .i64 (a3+1)),()))
     |false=>none
    |false=>some (.inl (a0,a1,a2,(IntKind.wrap .i64 (a3+1)),()))
   |false=>match x0.2.2.2.1 with
   |true=>match(fits ((AI a2)+(AI ([(x0.1,(x0.2.1,()))]:List U1))))with
    |true=>some (.inl (a0,a1,(A2 a2 ([(x0.1,(x0.2.1,()))]:List U1)),(IntKind.wrap .i64 (a3+1)),()))
    |false=>none
   |false=>some (.inl (a0,a1,a2,(IntKind.wrap .i64 (a3+1)),()))
  |false=>match x0.2.2.2.1 with
  |true=>match(fits ((AI a2)+(AI ([(x0.1,(x0.2.1,()))]:List U1))))with
   |true=>some (.inl (a0,a1,(A2 a2 ([(x0.1,(x0.2.1,()))]:List U1)),(IntKind.wrap .i64 (a3+1)),()))
   |false=>none
  |false=>some (.inl (a0,a1,a2,(IntKind.wrap .i64 (a3+1)),()))
 |false=>some (.inr (.inr (.inl (a0,a1,a2,()))))
def Eo[Lk]:(Ul×Unit)→Option (Ue):=fun(a0,_)=>
 match(ilt a0.1 1)with
 |true=>some (false,())
 |false=>match(ilt 64 a0.1)with
 |true=>some (false,())
 |false=>match(ilt 400 (AI a0.2.1))with
 |true=>some (false,())
 |false=>match AW C1 many (a0.1,a0.2.1,([]:List U1),0,())with|none=>none|some r=>match r with
 |.inl (o0,_)=>some (o0,())
 |.inr r=>match r with
 |.inl (o1,o2,o3,_)=>match DT (o1,o3,())with|none=>none|some (y4,_)=>match AW Df many (o1,o2,o3,y4,0,0,())with|none=>none|some r=>match r with
  |.inl (o5,o6,o7,o8,_)=>some ((ieq o8 (IntKind.wrap .i64 (o5-(AI o7)))),())
  |.inr _=>none
 |.inr _=>none
def C2[Lk]:=fun v=>Lk.f (Eo v)
theorem Fg v:C2 v=Eo v:=AG _
abbrev VL:AE:=[(.tmp 0,.dat Uf)]
abbrev VK:AE:=[(.tmp 0,.own 34 U2)]
abbrev VJ:List RS:=[.one]
abbrev AC7:AE:=[(.tmp 1,.box 2),(.cell 0 0,.di),(.cell 0 1,.dat Uz),(.tmp 3,.own 34 U2),(.tmp 4,.di)]
abbrev AC6:At:=[(.exit 0,[(.tmp 3,.own 34 U2)])]
def Ef[Lk]:Vb→Option (Vb⊕Un⊕Unit):=fun(a0,a1,a2,a3,_)=>
 match(ilt a3 (AI a1))with
 |true=>match idx a1 a3 with|none=>none|some x0=>match idx a1 a3 with|none=>none|some x1=>match(fits ((AI a2)+(AI ([(x0.1,(x1.2.1,()))]:List U1))))with
  |true=>some (.inl (a0,a1,(A2 a2 ([(x0.1,(x1.2.1,()))]:List U1)),(IntKind.wrap .i64 (a3+1)),()))
  |false=>none
 |false=>some (.inr (.inl (a2,())))
def ON[Lk]:(Ul×Unit)→Option (Un):=fun(a0,_)=>
 match C2 ((a0.1,(a0.2.1,())),())with|none=>none|some (y0,_)=>match(!y0)with
 |true=>some (([]:List U1),())
 |false=>match AW Ef many (a0.1,a0.2.1,([]:List U1),0,())with|none=>none|some r=>match r with
 |.inl (o1,_)=>some (o1,())
 |.inr _=>none
def Rj[Lk]:=fun v=>Lk.f (ON v)
theorem AC8 v:Rj v=ON v:=AG _
def AUa[Lk]:U1→Option (Ue):=fun(a0,a1,_)=>
 match(ile 1 a0)with
 |true=>match(ile a0 64)with
  |true=>match(ile 0 a1)with
   |true=>some ((ilt a1 a0),())
   |false=>some (false,())
  |false=>some (false,())
 |false=>some (false,())
def AJ8[Lk]:=fun v=>Lk.f (AUa v)
theorem Ag1 v:AJ8 v=AUa v:=AG _
def S4[Lk]:U1→Option ((Int×Int×Bool×Bool×Unit)):=fun(a0,a1,_)=>
 match AJ8 (a0,a1,())with|none=>none|some (y0,_)=>match y0 with
 |true=>some (a1,0,false,true,())
 |false=>match(ilt a0 1)with
 |true=>some (0,0,false,false,())
 |false=>match(ilt 64 a0)with
 |true=>some (0,0,false,false,())
 |false=>match(ilt a1 a0)with
 |true=>some (0,0,false,false,())
 |false=>match(ile (IntKind.wrap .i64 (a0+(IntKind.wrap .i64 (a0*a0)))) a1)with
 |true=>some (0,0,false,false,())
 |false=>match quo? .i64 (IntKind.wrap .i64 (a1-a0)) a0 with|none=>none|some x1=>match rem? (IntKind.wrap .i64 (a1-a0)) a0 with|none=>none|some x2=>match(ieq x1 x2)with
 |true=>some (0,0,false,false,())
 |false=>some (x1,x2,true,true,())
def YY[Lk]:=fun v=>Lk.f (S4 v)
theorem ARH v:YY v=S4 v:=AG _
def ALI[Lk]:(Int×Int×Int×Unit)→Option (U9):=fun(a0,a1,a2,_)=>
 match AJ8 (a0,a1,())with|none=>none|some (y0,_)=>match(!y0)with
 |true=>some ((-1:Int),())
 |false=>match AJ8 (a0,a2,())with|none=>none|some (y1,_)=>match(!y1)with
 |true=>some ((-1:Int),())
 |false=>match(ieq a1 a2)with
 |true=>some ((-1:Int),())
 |false=>some ((IntKind.wrap .i64 ((IntKind.wrap .i64 (a0+(IntKind.wrap .i64 (a1*a0))))+a2)),())
def AQX[Lk]:=fun v=>Lk.f (ALI v)
theorem AfD v:AQX v=ALI v:=AG _
def KV[Lk]:(Int×Int×Int×List U3×Int×Unit)→Option ((Int×Int×Int×List U3×Int×Unit)⊕(Int×Int×List U3×Unit)⊕Unit):=fun(a0,a1,a2,a3,a4,_)=>
 match(ilt a4 a0)with
 |true=>match(fits ((AI a3)+(AI ([([a4]:List (Int))]:List U3))))with
  |true=>some (.inl (a0,a1,a2,(A2 a3 ([([a4]:List (Int))]:List U3)),(IntKind.wrap .i64 (a4+1)),()))
  |false=>none
 |false=>some (.inr (.inl (a1,a2,a3,())))
def ABu[Lk]:U9→Option (V7):=fun(a0,_)=>
 match(ilt a0 1)with
 |true=>some (0,([]:List U3),1,())
 |false=>match(ilt 64 a0)with
 |true=>some (0,([]:List U3),1,())
 |false=>match AW KV many (a0,0,a0,([]:List U3),0,())with|none=>none|some r=>match r with
 |.inl (o0,o1,o2,_)=>some (o1,o2,0,())
 |.inr _=>none
def AJr[Lk]:=fun v=>Lk.f (ABu v)
theorem AZj v:AJr v=ABu v:=AG _
def PI[Lk]:(Int×Int×Int×Unit)→Option (Ue):=fun(a0,a1,a2,_)=>
 match YY (a0,a1,())with|none=>none|some (y0,y1,y2,y3,_)=>match y3 with
 |true=>match(!y2)with
  |true=>match(ieq y0 a2)with
   |true=>some (true,())
   |false=>match y2 with
   |true=>some ((ieq y1 a2),())
   |false=>some (false,())
  |false=>match y2 with
  |true=>some ((ieq y1 a2),())
  |false=>some (false,())
 |false=>some (false,())
def Zq[Lk]:=fun v=>Lk.f (PI v)
theorem AMM v:Zq v=PI v:=AG _
def KD[Lk]:Ux→Option (Ux⊕(Int×Int×List Int×Bool×Bool×Bool×Bool×Int×Int×Bool×Int×Int×Int×Int×Int×Bool×Int×List Int×Int×Int×Int×Int×Int×Int×Int×Int×Bool×Unit)⊕Unit):=fun(a0,a1,a2,a3,a4,a5,a6,a7,a8,a9,a10,a11,a12,a13,a14,a15,a16,a17,a18,a19,a20,a21,a22,a23,a24,a25,a26,a27,_)=>
 match(ilt a4 (AI a1))with
 |true=>match rem? (IntKind.wrap .i64 (a2+a4)) (AI a1)with|none=>none|some x0=>match idx a1 x0 with|none=>none|some x1=>match(fits ((AI a3)+(AI ([(AU a1 (AK x0) 0)]:List (Int)))))with
  |true=>some (.inl (a0,a1,a2,(A2 a3 ([(AU a1 (AK x0) 0)]:List (Int))),(IntKind.wrap .i64 (a4+1)),a5,a6,a7,a8,a9,a10,a11,a12,a13,a14,a15,a16,a17,a18,a19,a20,a21,a22,a23,a24,a25,a26,a27,()))
  |false=>none
 |false=>some (.inr (.inl (a0,a2,a3,a5,a6,a7,a8,a9,a10,a11,a12,a13,a14,a15,a16,a17,a18,a1,a19,a20,a21,a22,a23,a24,a25,a26,a27,())))
def Dw[Lk]:(Int×List Int×Bool×Int×Unit)→Option ((Int×List Int×Bool×Int×Unit)⊕(Int×List Int×Bool×Unit)⊕Unit):=fun(a0,a1,a2,a3,_)=>
 match(ilt a3 (AI a1))with
 |true=>match(!a2)with
  |true=>match idx a1 a3 with|none=>none|some x0=>match rem? (IntKind.wrap .i64 (a3+1)) (AI a1)with|none=>none|some x1=>match idx a1 x1 with|none=>none|some x2=>match rem? (IntKind.wrap .i64 (a3+2)) (AI a1)with|none=>none|some x3=>match idx a1 x3 with|none=>none|some x4=>match YY (a0,(AU a1 (AK a3) 0),())with|none=>none|some (y5,y6,y7,y8,_)=>match(ile 4 (AI a1))with
   |true=>match y8 with
    |true=>match y7 with
     |true=>match(ieq (AU a1 (AK x1) 0) y6)with
      |true=>match AQX (a0,y6,y5,())with|none=>none|some (y9,_)=>match(ieq (AU a1 (AK x3) 0) y9)with
       |true=>match rem? (IntKind.wrap .i64 ((IntKind.wrap .i64 (a3+(AI a1)))-1)) (AI a1)with|none=>none|some x10=>match idx a1 x10 with|none=>none|some x11=>match Zq (a0,(AU a1 (AK x10) 0),y5,())with|none=>none|some (y12,_)=>match y12 with
        |true=>match AW KD many (a0,a1,a3,([]:List (Int)),3,a2,(!a2),y8,y7,(AU a1 (AK x1) 0),y6,(ieq (AU a1 (AK x1) 0) y6),(AU a1 (AK x3) 0),a0,y6,y5,y9,(ieq (AU a1 (AK x3) 0) y9),a0,a3,(AI a1),(IntKind.wrap .i64 (a3+(AI a1))),(IntKind.wrap .i64 ((IntKind.wrap .i64 (a3+(AI a1)))-1)),(AI a1),x10,(AU a1 (AK x10) 0),y5,y12,())with|none=>none|some r=>match r with
         |.inl (o13,o14,o15,o16,o17,o18,o19,o20,o21,o22,o23,o24,o25,o26,o27,o28,o29,o30,o31,o32,o33,o34,o35,o36,o37,o38,o39,_)=>some (.inl (o13,o15,true,(IntKind.wrap .i64 (o14+1)),()))
         |.inr _=>none
        |false=>some (.inl (a0,a1,a2,(IntKind.wrap .i64 (a3+1)),()))
       |false=>some (.inl (a0,a1,a2,(IntKind.wrap .i64 (a3+1)),()))
      |false=>some (.inl (a0,a1,a2,(IntKind.wrap .i64 (a3+1)),()))
     |false=>some (.inl (a0,a1,a2,(IntKind.wrap .i64 (a3+1)),()))
    |false=>some (.inl (a0,a1,a2,(IntKind.wrap .i64 (a3+1)),()))
   |false=>some (.inl (a0,a1,a2,(IntKind.wrap .i64 (a3+1)),()))
  |false=>some (.inr (.inl (a0,a1,a2,())))
 |false=>some (.inr (.inl (a0,a1,a2,())))
def N4[Lk]:(Int×List Int×Unit)→Option ((Int×List Int×Unit)⊕Ue⊕(Int×List Int×Unit)⊕Unit):=fun(a0,a1,_)=>
 match(ilt 1 (AI a1))with
 |true=>match AW Dw many (a0,a1,false,0,())with|none=>none|some r=>match r with
  |.inl (o0,o1,o2,_)=>match(!o2)with
   |true=>some (.inr (.inl (false,())))
   |false=>some (.inl (o0,o1,()))
  |.inr _=>none
 |false=>some (.inr (.inr (.inl (a0,a1,()))))
def Zb[Lk]:(Int×List Int×Unit)→Option (Ue):=fun(a0,a1,_)=>
 match(fits ((AI ([]:List (Int)))+(AI a1)))with
 |true=>match AW N4 many (a0,(A2 ([]:List (Int)) a1),())with|none=>none|some r=>match r with
  |.inl (o0,_)=>some (o0,())
  |.inr r=>match r with
  |.inl (o1,o2,_)=>match(ieq (AI o2) 1)with
   |true=>match idx o2 0 with|none=>none|some x3=>match AJ8 (o1,(AU o2 0 0),())with|none=>none|some (y4,_)=>some (y4,())
   |false=>some (false,())
  |.inr _=>none
 |false=>none
def ARE[Lk]:=fun v=>Lk.f (Zb v)
theorem AXx v:ARE v=Zb v:=AG _
def H6[Lk]:Uq→Option (Uq⊕U9⊕(Unit)⊕Unit):=fun(a0,a1,a2,_)=>
 match(ilt a2 (AI a0))with
 |true=>match idx a0 a2 with|none=>none|some x0=>match(ieq x0 a1)with
  |true=>some (.inr (.inl (a2,())))
  |false=>some (.inl (a0,a1,(IntKind.wrap .i64 (a2+1)),()))
 |false=>some (.inr (.inr (.inl ())))
def TV[Lk]:Us→Option (U9):=fun(a0,a1,_)=>
 match AW H6 many (a0,a1,0,())with|none=>none|some r=>match r with
 |.inl (o0,_)=>some (o0,())
 |.inr r=>match r with
 |.inl _=>some ((-1:Int),())
 |.inr _=>none
def OB[Lk]:=fun v=>Lk.f (TV v)
theorem ASq v:OB v=TV v:=AG _
def Fh[Lk]:Us→Option (Us⊕Ue⊕(Unit)⊕Unit):=fun(a0,a1,_)=>
 match(ilt a1 (AI a0))with
 |true=>match idx a0 a1 with|none=>none|some x0=>match(ilt x0 0)with
  |true=>some (.inr (.inl (false,())))
  |false=>match idx a0 a1 with|none=>none|some x1=>match(ilt 10000 x1)with
  |true=>some (.inr (.inl (false,())))
  |false=>match By a0 0 a1 with|none=>none|some x2=>match idx a0 a1 with|none=>none|some x3=>match OB (x2,x3,())with|none=>none|some (y4,_)=>match(ile 0 y4)with
  |true=>some (.inr (.inl (false,())))
  |false=>some (.inl (a0,(IntKind.wrap .i64 (a1+1)),()))
 |false=>some (.inr (.inr (.inl ())))
def TP[Lk]:Up→Option (Ue):=fun(a0,_)=>
 match(ilt 1000 (AI a0))with
 |true=>some (false,())
 |false=>match AW Fh many (a0,0,())with|none=>none|some r=>match r with
 |.inl (o0,_)=>some (o0,())
 |.inr r=>match r with
 |.inl _=>some (true,())
 |.inr _=>none
def Qt[Lk]:=fun v=>Lk.f (TP v)
theorem ASO v:Qt v=TP v:=AG _
def ACh[Lk]:Us→Option ((List Int×Bool×Unit)):=fun(a0,a1,_)=>
 match OB (a0,a1,())with|none=>none|some (y0,_)=>match Qt (a0,())with|none=>none|some (y1,_)=>match(!y1)with
 |true=>some (([]:List (Int)),false,())
 |false=>match(ilt y0 0)with
 |true=>some (([]:List (Int)),false,())
 |false=>match By a0 y0 (AI a0)with|none=>none|some x2=>match(fits ((AI ([]:List (Int)))+(AI x2)))with
 |true=>match By a0 0 y0 with|none=>none|some x3=>match(fits ((AI (A2 ([]:List (Int)) x2))+(AI x3)))with
  |true=>some ((A2 (A2 ([]:List (Int)) x2) x3),true,())
  |false=>none
 |false=>none
def ACi[Lk]:=fun v=>Lk.f (ACh v)
theorem AaW v:ACi v=ACh v:=AG _
def H4[Lk]:Uq→Option (Uq⊕Us⊕Unit):=fun(a0,a1,a2,_)=>
 match(ilt a2 (AI a0))with
 |true=>match idx a0 a2 with|none=>none|some x0=>some (.inl (a0,(CR a1 x0),(IntKind.wrap .i64 (a2+1)),()))
 |false=>some (.inr (.inl (a0,a1,())))
def TT[Lk]:Up→Option (Up):=fun(a0,_)=>
 match Qt (a0,())with|none=>none|some (y0,_)=>match(!y0)with
 |true=>some (([]:List (Int)),())
 |false=>match(ieq (AI a0) 0)with
 |true=>some (([]:List (Int)),())
 |false=>match idx a0 0 with|none=>none|some x1=>match AW H4 many (a0,x1,0,())with|none=>none|some r=>match r with
 |.inl (o2,o3,_)=>match ACi (o2,o3,())with|none=>none|some (y4,y5,_)=>some (y4,())
 |.inr _=>none
def Yh[Lk]:=fun v=>Lk.f (TT v)
theorem ASl v:Yh v=TT v:=AG _
def Fu[Lk]:(List U3×List U3×Int×Unit)→Option ((List U3×List U3×Int×Unit)⊕Ue⊕(Unit)⊕Unit):=fun(a0,a1,a2,_)=>
 match(ilt a2 (AI a0))with
 |true=>match idx a0 a2 with|none=>none|some x0=>match idx a1 a2 with|none=>none|some x1=>match La (x0,x1,())with|none=>none|some (y2,_)=>match(!y2)with
  |true=>some (.inr (.inl (false,())))
  |false=>some (.inl (a0,a1,(IntKind.wrap .i64 (a2+1)),()))
 |false=>some (.inr (.inr (.inl ())))
def T8[Lk]:(List U3×List U3×Unit)→Option (Ue):=fun(a0,a1,_)=>
 match(!(ieq (AI a0) (AI a1)))with
 |true=>some (false,())
 |false=>match AW Fu many (a0,a1,0,())with|none=>none|some r=>match r with
 |.inl (o0,_)=>some (o0,())
 |.inr r=>match r with
 |.inl _=>some (true,())
 |.inr _=>none
def AJw[Lk]:=fun v=>Lk.f (T8 v)
theorem AT8 v:AJw v=T8 v:=AG _
def Ea[Lk]:Uv→Option (Uv⊕Ue⊕(Int×List U3×List Bool×Int×Int×Int×List Int×Int×Bool×Int×List Int×Bool×Bool×List Int×List Int×List U3×List Int×List U3×Bool×Bool×List Int×Int×Int×Bool×Unit)⊕Unit):=fun(a0,a1,a2,a3,a4,a5,a6,a7,a8,a9,a10,a11,a12,a13,a14,a15,a16,a17,a18,a19,a20,a21,a22,a23,a24,a25,_)=>
 match(ilt a7 (AI a6))with
 |true=>match idx a6 a7 with|none=>none|some x0=>match(ilt x0 a0)with
  |true=>match idx a6 a7 with|none=>none|some x1=>match idx a2 x1 with|none=>none|some x2=>match(AU a2 (AK x1) false)with
   |true=>some (.inr (.inl (false,())))
   |false=>match idx a6 a7 with|none=>none|some x3=>match idx a2 x3 with|none=>none|some x4=>some (.inl (a0,a1,(A4 a2 (AK x3) true),a3,(IntKind.wrap .i64 (a4+1)),a5,a6,(IntKind.wrap .i64 (a7+1)),a8,a9,a10,a11,a12,a13,a14,a15,a16,a17,a18,a19,a20,a21,a22,a23,a24,a25,()))
  |false=>some (.inl (a0,a1,a2,a3,a4,a5,a6,(IntKind.wrap .i64 (a7+1)),a8,a9,a10,a11,a12,a13,a14,a15,a16,a17,a18,a19,a20,a21,a22,a23,a24,a25,()))
 |false=>some (.inr (.inr (.inl (a0,a1,a2,a3,a4,a5,a8,a9,a10,a11,a12,a13,a14,a15,a16,a17,a18,a19,a20,a21,a22,a23,a24,a25,()))))
def Eb[Lk]:(Int×List U3×List Bool×Int×Int×Int×Unit)→Option ((Int×List U3×List Bool×Int×Int×Int×Unit)⊕Ue⊕V7⊕Unit):=fun(a0,a1,a2,a3,a4,a5,_)=>
 match(ilt a5 (AI a1))with
 |true=>match idx a1 a5 with|none=>none|some x0=>match Qt (x0,())with|none=>none|some (y1,_)=>match(!y1)with
  |true=>some (.inr (.inl (false,())))
  |false=>match(ieq (AI x0) 0)with
  |true=>some (.inr (.inl (false,())))
  |false=>match ARE (a0,x0,())with|none=>none|some (y2,_)=>match(!y2)with
  |true=>some (.inr (.inl (false,())))
  |false=>match Yh (x0,())with|none=>none|some (y3,_)=>match AJw (([y3]:List U3),([x0]:List U3),())with|none=>none|some (y4,_)=>match(!y4)with
  |true=>some (.inr (.inl (false,())))
  |false=>match idx x0 0 with|none=>none|some x5=>match(ile x5 a3)with
  |true=>some (.inr (.inl (false,())))
  |false=>match idx x0 0 with|none=>none|some x6=>match AW Ea many (a0,a1,a2,x6,a4,a5,x0,0,x0,(AI x0),(ieq (AI x0) 0),a0,x0,y2,(!y2),x0,y3,([y3]:List U3),x0,([x0]:List U3),y4,(!y4),x0,x5,a3,(ile x5 a3),())with|none=>none|some r=>match r with
  |.inl (o7,_)=>some (.inr (.inl (o7,())))
  |.inr r=>match r with
  |.inl (o8,o9,o10,o11,o12,o13,o14,o15,o16,o17,o18,o19,o20,o21,o22,o23,o24,o25,o26,o27,o28,o29,o30,o31,_)=>some (.inl (o8,o9,o10,o11,o12,(IntKind.wrap .i64 (o13+1)),()))
  |.inr _=>none
 |false=>some (.inr (.inr (.inl (a0,a1,a4,()))))
def TO[Lk]:(Uk×Unit)→Option (Ue):=fun(a0,_)=>
 match(ilt a0.1 1)with
 |true=>some (false,())
 |false=>match(ilt 64 a0.1)with
 |true=>some (false,())
 |false=>match(ilt a0.1 (AI a0.2.1))with
 |true=>some (false,())
 |false=>match(Fb a0.1&&Fb a0.1&&ile a0.1 a0.1&&true)with
 |true=>match AW Eb many (a0.1,a0.2.1,(EN (AK a0.1) false),(-1:Int),(0:Int),(0:Int),())with|none=>none|some r=>match r with
  |.inl (o0,_)=>some (o0,())
  |.inr r=>match r with
  |.inl (o1,o2,o3,_)=>some ((ieq o3 o1),())
  |.inr _=>none
 |false=>none
def Qs[Lk]:=fun v=>Lk.f (TO v)
theorem ASN v:Qs v=TO v:=AG _
def H5[Lk]:(Int×Int×List U3×Int×Unit)→Option ((Int×Int×List U3×Int×Unit)⊕U9⊕(Unit)⊕Unit):=fun(a0,a1,a2,a3,_)=>
 match(ilt a3 (AI a2))with
 |true=>match idx a2 a3 with|none=>none|some x0=>match OB (x0,a0,())with|none=>none|some (y1,_)=>match(ile 0 y1)with
  |true=>some (.inr (.inl (a3,())))
  |false=>some (.inl (a0,a1,a2,(IntKind.wrap .i64 (a3+1)),()))
 |false=>some (.inr (.inr (.inl ())))
def TU[Lk]:Vi→Option (U9):=fun(a0,a1,_)=>
 match AW H5 many (a1,a0.1,a0.2.1,0,())with|none=>none|some r=>match r with
 |.inl (o0,_)=>some (o0,())
 |.inr r=>match r with
 |.inl _=>some ((-1:Int),())
 |.inr _=>none
def LF[Lk]:=fun v=>Lk.f (TU v)
theorem ASp v:LF v=TU v:=AG _
def Ms[Lk]:(List U3×List Int×Int×Unit)→Option ((List U3×List Int×Int×Unit)⊕(List U3×List Int×Int×Unit)⊕Unit):=fun(a0,a1,a2,_)=>
 match(ilt a2 (AI a0))with
 |true=>match idx a0 a2 with|none=>none|some x0=>match idx x0 0 with|none=>none|some x1=>match idx a1 0 with|none=>none|some x2=>match(ilt x1 (AU a1 0 0))with
  |true=>some (.inl (a0,a1,(IntKind.wrap .i64 (a2+1)),()))
  |false=>some (.inr (.inl (a0,a1,a2,())))
 |false=>some (.inr (.inl (a0,a1,a2,())))
def AI0[Lk]:(List U3×List Int×Unit)→Option (Uo):=fun(a0,a1,_)=>
 match Yh (a1,())with|none=>none|some (y0,_)=>match AW Ms many (a0,y0,0,())with|none=>none|some r=>match r with
 |.inl (o1,o2,o3,_)=>match By o1 0 o3 with|none=>none|some x4=>match(fits ((AI ([]:List U3))+(AI x4)))with
  |true=>match(fits ((AI (A2 ([]:List U3) x4))+(AI ([o2]:List U3))))with
   |true=>match By o1 o3 (AI o1)with|none=>none|some x5=>match(fits ((AI (A2 (A2 ([]:List U3) x4) ([o2]:List U3)))+(AI x5)))with
    |true=>some ((A2 (A2 (A2 ([]:List U3) x4) ([o2]:List U3)) x5),())
    |false=>none
   |false=>none
  |false=>none
 |.inr _=>none
def AWW[Lk]:=fun v=>Lk.f (AI0 v)
theorem Ack v:AWW v=AI0 v:=AG _
def MZ[Lk]:Vc→Option (Uo):=fun(a0,a1,_)=>
 match By a0 0 a1 with|none=>none|some x0=>match(fits ((AI ([]:List U3))+(AI x0)))with
 |true=>match By a0 (IntKind.wrap .i64 (a1+1)) (AI a0)with|none=>none|some x1=>match(fits ((AI (A2 ([]:List U3) x0))+(AI x1)))with
  |true=>some ((A2 (A2 ([]:List U3) x0) x1),())
  |false=>none
 |false=>none
def HX[Lk]:=fun v=>Lk.f (MZ v)
theorem AHN v:HX v=MZ v:=AG _
def KX[Lk]:(Uk×Int×Int×Unit)→Option (V7):=fun(a0,a1,a2,_)=>
 match Qs ((a0.1,(a0.2.1,())),())with|none=>none|some (y0,_)=>match(!y0)with
 |true=>some (a0.1,a0.2.1,1,())
 |false=>match AJ8 (a0.1,a1,())with|none=>none|some (y1,_)=>match(!y1)with
 |true=>some (a0.1,a0.2.1,10,())
 |false=>match AJ8 (a0.1,a2,())with|none=>none|some (y2,_)=>match(!y2)with
 |true=>some (a0.1,a0.2.1,10,())
 |false=>match LF ((a0.1,(a0.2.1,())),a1,())with|none=>none|some (y3,_)=>match LF ((a0.1,(a0.2.1,())),a2,())with|none=>none|some (y4,_)=>match(ieq y3 y4)with
 |true=>some (a0.1,a0.2.1,5,())
 |false=>match LF ((a0.1,(a0.2.1,())),a1,())with|none=>none|some (y5,_)=>match LF ((a0.1,(a0.2.1,())),a2,())with|none=>none|some (y6,_)=>match idx a0.2.1 y5 with|none=>none|some x7=>match ACi (x7,a1,())with|none=>none|some (y8,y9,_)=>match idx a0.2.1 y6 with|none=>none|some x10=>match ACi (x10,a2,())with|none=>none|some (y11,y12,_)=>match AQX (a0.1,a1,a2,())with|none=>none|some (y13,_)=>match(fits ((AI ([a1,y13]:List (Int)))+(AI y11)))with
 |true=>match AQX (a0.1,a2,a1,())with|none=>none|some (y14,_)=>match(fits ((AI (A2 ([a1,y13]:List (Int)) y11))+(AI ([y14]:List (Int)))))with
  |true=>match By y8 1 (AI y8)with|none=>none|some x15=>match(fits ((AI (A2 (A2 ([a1,y13]:List (Int)) y11) ([y14]:List (Int))))+(AI (DY 1 (AK (AI x15)) y8))))with
   |true=>match HX (a0.2.1,(imax y5 y6),())with|none=>none|some (y16,_)=>match HX (y16,(CR y5 y6),())with|none=>none|some (y17,_)=>match AWW (y17,(A2 (A2 (A2 ([a1,y13]:List (Int)) y11) ([y14]:List (Int))) (DY 1 (AK (AI x15)) y8)),())with|none=>none|some (y18,_)=>some (a0.1,y18,0,())
   |false=>none
  |false=>none
 |false=>none
def UA[Lk]:=fun v=>Lk.f (KX v)
theorem OF v:UA v=KX v:=AG _
abbrev AAK:AE:=[(.tmp 0,.dat Um),(.tmp 1,.dat Um)]
abbrev AAJ:AE:=[(.tmp 0,.dat .bool)]
abbrev AAI:List RS:=[.one]
abbrev AF0:AE:=[(.tmp 0,.dat Um),(.tmp 1,.dat Um),(.tmp 5,.di)]
abbrev AFz:At:=[(.ret,[(.tmp 4,.dat .bool)]),(.exit 0,[])]
def TK[Lk]:(List U1×List U1×Int×Unit)→Option ((List U1×List U1×Int×Unit)⊕Ue⊕(Unit)⊕Unit):=fun(a0,a1,a2,_)=>
 match(ilt a2 (AI a0))with
 |true=>match idx a0 a2 with|none=>none|some x0=>match idx a1 a2 with|none=>none|some x1=>match(!(ieq x0.1 x1.1&&(ieq x0.2.1 x1.2.1&&true)))with
  |true=>some (.inr (.inl (false,())))
  |false=>some (.inl (a0,a1,(IntKind.wrap .i64 (a2+1)),()))
 |false=>some (.inr (.inr (.inl ())))
def AAM[Lk]:(List U1×List U1×Unit)→Option (Ue):=fun(a0,a1,_)=>
 match(!(ieq (AI a0) (AI a1)))with
 |true=>some (false,())
 |false=>match AW TK many (a0,a1,0,())with|none=>none|some r=>match r with
 |.inl (o0,_)=>some (o0,())
 |.inr r=>match r with
 |.inl _=>some (true,())
 |.inr _=>none
def AAN[Lk]:=fun v=>Lk.f (AAM v)
theorem AYf v:AAN v=AAM v:=AG _
abbrev Abn:AE:=[(.tmp 0,.dat Ur),(.tmp 1,.di)]
abbrev Abm:AE:=[(.tmp 0,.di)]
abbrev Abl:List RS:=[.one]
def AVx[Lk]:Vi→Option (U9):=fun(a0,a1,_)=>
 match tin (a0.1,a1,())with|none=>none|some (y0,_)=>match(!y0)with
 |true=>some ((-1:Int),())
 |false=>match PF ((a0.1,(a0.2.1,())),())with|none=>none|some (y1,_)=>match(!y1)with
 |true=>some ((-1:Int),())
 |false=>match PG ((a0.1,(a0.2.1,())),a1,())with|none=>none|some (y2,_)=>some (y2,())
def tof[Lk]:=fun v=>Lk.f (AVx v)
theorem Abo v:tof v=AVx v:=AG _
def Ht[Lk]:(List U1×Int×List U3×Int×Unit)→Option ((List U1×Int×List U3×Int×Unit)⊕U9⊕(Unit)⊕Unit):=fun(a0,a1,a2,a3,_)=>
 match(ilt a3 (AI a0))with
 |true=>match idx a0 a3 with|none=>none|some x0=>match(ilt x0.1 0)with
  |true=>some (.inr (.inl (10,())))
  |false=>match idx a0 a3 with|none=>none|some x1=>match(ile a1 x1.1)with
  |true=>some (.inr (.inl (10,())))
  |false=>match idx a0 a3 with|none=>none|some x2=>match(ilt x2.2.1 0)with
  |true=>some (.inr (.inl (10,())))
  |false=>match idx a0 a3 with|none=>none|some x3=>match(ile a1 x3.2.1)with
  |true=>some (.inr (.inl (10,())))
  |false=>some (.inl (a0,a1,a2,(IntKind.wrap .i64 (a3+1)),()))
 |false=>some (.inr (.inr (.inl ())))
def S5[Lk]:(Uk×List U1×Unit)→Option (U9):=fun(a0,a1,_)=>
 match Qs ((a0.1,(a0.2.1,())),())with|none=>none|some (y0,_)=>match(!y0)with
 |true=>some (1,())
 |false=>match AW Ht many (a1,a0.1,a0.2.1,0,())with|none=>none|some r=>match r with
 |.inl (o1,_)=>some (o1,())
 |.inr r=>match r with
 |.inl _=>some (0,())
 |.inr _=>none
def AH0[Lk]:=fun v=>Lk.f (S5 v)
theorem ARL v:AH0 v=S5 v:=AG _
def IF[Lk]:(List U1×Int×List U3×Int×List Bool×Int×Unit)→Option ((List U1×Int×List U3×Int×List Bool×Int×Unit)⊕(Int×List U3×Int×List Bool×Unit)⊕Unit):=fun(a0,a1,a2,a3,a4,a5,_)=>
 match(ilt a5 (AI a0))with
 |true=>match idx a0 a5 with|none=>none|some x0=>match idx a0 a5 with|none=>none|some x1=>match UA ((a1,(a2,())),x0.1,x1.2.1,())with|none=>none|some (y2,y3,y4,_)=>match(fits ((AI a4)+(AI ([(ieq y4 0)]:List (Bool)))))with
  |true=>some (.inl (a0,y2,y3,a3,(A2 a4 ([(ieq y4 0)]:List (Bool))),(IntKind.wrap .i64 (a5+1)),()))
  |false=>none
 |false=>some (.inr (.inl (a1,a2,a3,a4,())))
def T9[Lk]:(Uk×List U1×Unit)→Option ((Uk×List Bool×Int×Unit)):=fun(a0,a1,_)=>
 match AH0 ((a0.1,(a0.2.1,())),a1,())with|none=>none|some (y0,_)=>match(!(ieq y0 0))with
 |true=>some ((a0.1,(a0.2.1,())),([]:List (Bool)),y0,())
 |false=>match AW IF many (a1,a0.1,a0.2.1,0,([]:List (Bool)),0,())with|none=>none|some r=>match r with
 |.inl (o1,o2,o3,o4,_)=>some ((o1,(o2,())),o4,0,())
 |.inr _=>none
def AJx[Lk]:=fun v=>Lk.f (T9 v)
theorem AUA v:AJx v=T9 v:=AG _
def ATd[Lk]:(Int×List U1×Unit)→Option (Vi):=fun(a0,a1,_)=>
 match AJr (a0,())with|none=>none|some (y0,y1,y2,_)=>match(!(ieq y2 0))with
 |true=>some ((0,(([]:List U3),())),y2,())
 |false=>match AJx ((y0,(y1,())),a1,())with|none=>none|some (y3,y4,y5,_)=>match(!(ieq y5 0))with
 |true=>some ((0,(([]:List U3),())),y5,())
 |false=>some ((y3.1,(y3.2.1,())),0,())
def AiK[Lk]:=fun v=>Lk.f (ATd v)
theorem Age v:AiK v=ATd v:=AG _
abbrev ACr:AE:=[(.tmp 0,.dat Uf),(.tmp 1,.di),(.tmp 2,.di)]
abbrev ACq:AE:=[(.tmp 0,.di)]
abbrev ACp:List RS:=[.one]
abbrev AGm:AE:=[(.tmp 1,.di),(.tmp 2,.di),(.tmp 3,.box 2),(.cell 0 0,.di),(.cell 0 1,.dat Uz),(.tmp 7,.di)]
abbrev AGl:At:=[(.ret,[(.tmp 6,.di)]),(.exit 0,[])]
def F9[Lk]:(Int×Int×Int×List U4×Int×Unit)→Option ((Int×Int×Int×List U4×Int×Unit)⊕U9⊕(Unit)⊕Unit):=fun(a0,a1,a2,a3,a4,_)=>
 match(ilt a4 (AI a3))with
 |true=>match idx a3 a4 with|none=>none|some x0=>match(ieq x0.1 (CR a0 a1))with
  |true=>match idx a3 a4 with|none=>none|some x1=>match(ieq x1.2.1 (imax a0 a1))with
   |true=>some (.inr (.inl (a4,())))
   |false=>some (.inl (a0,a1,a2,a3,(IntKind.wrap .i64 (a4+1)),()))
  |false=>some (.inl (a0,a1,a2,a3,(IntKind.wrap .i64 (a4+1)),()))
 |false=>some (.inr (.inr (.inl ())))
def Re[Lk]:V3→Option (U9):=fun(a0,a1,a2,_)=>
 match C2 ((a0.1,(a0.2.1,())),())with|none=>none|some (y0,_)=>match(!y0)with
 |true=>some ((-1:Int),())
 |false=>match AW F9 many (a1,a2,a0.1,a0.2.1,0,())with|none=>none|some r=>match r with
 |.inl (o1,_)=>some (o1,())
 |.inr r=>match r with
 |.inl _=>some ((-1:Int),())
 |.inr _=>none
def UZ[Lk]:=fun v=>Lk.f (Re v)
theorem AGn v:UZ v=Re v:=AG _
abbrev S2:AE:=[(.tmp 0,.dat Uf),(.tmp 1,.di)]
abbrev S1:AE:=[(.tmp 0,.own 34 U2)]
abbrev S0:List RS:=[.one]
abbrev ZZ:AE:=[(.tmp 1,.di),(.tmp 2,.box 2),(.cell 0 0,.di),(.cell 0 1,.dat Uz),(.tmp 5,.own 34 U2),(.tmp 6,.di)]
abbrev ZY:At:=[(.exit 0,[(.tmp 5,.own 34 U2)])]
def EX[Lk]:(Int×Int×List U4×List U1×Int×Unit)→Option ((Int×Int×List U4×List U1×Int×Unit)⊕Un⊕Unit):=fun(a0,a1,a2,a3,a4,_)=>
 match(ilt a4 (AI a2))with
 |true=>match idx a2 a4 with|none=>none|some x0=>match x0.2.2.2.1 with
  |true=>match idx a2 a4 with|none=>none|some x1=>match(ile a0 x1.2.2.1)with
   |true=>match idx a2 a4 with|none=>none|some x2=>match idx a2 a4 with|none=>none|some x3=>match(fits ((AI a3)+(AI ([(x2.1,(x3.2.1,()))]:List U1))))with
    |true=>some (.inl (a0,a1,a2,(A2 a3 ([(x2.1,(x3.2.1,()))]:List U1)),(IntKind.wrap .i64 (a4+1)),()))
    |false=>none
   |false=>some (.inl (a0,a1,a2,a3,(IntKind.wrap .i64 (a4+1)),()))
  |false=>some (.inl (a0,a1,a2,a3,(IntKind.wrap .i64 (a4+1)),()))
 |false=>some (.inr (.inl (a3,())))
def N3[Lk]:(Ul×Int×Unit)→Option (Un):=fun(a0,a1,_)=>
 match AW EX many (a1,a0.1,a0.2.1,([]:List U1),0,())with|none=>none|some r=>match r with
 |.inl (o0,_)=>some (o0,())
 |.inr _=>none
def Iv[Lk]:=fun v=>Lk.f (N3 v)
theorem Za v:Iv v=N3 v:=AG _
def P8[Lk]:(Ul×Int×Unit)→Option (Vi):=fun(a0,a1,_)=>
 match C2 ((a0.1,(a0.2.1,())),())with|none=>none|some (y0,_)=>match(!y0)with
 |true=>some ((0,(([]:List U3),())),1,())
 |false=>match Iv ((a0.1,(a0.2.1,())),a1,())with|none=>none|some (y1,_)=>match AiK (a0.1,y1,())with|none=>none|some (y2,y3,_)=>some ((y2.1,(y2.2.1,())),y3,())
def ACj[Lk]:=fun v=>Lk.f (P8 v)
theorem APh v:ACj v=P8 v:=AG _
abbrev UD:AE:=[(.tmp 0,.dat Uf),(.tmp 1,.di)]
abbrev UC:AE:=[(.tmp 0,.dat Ur),(.tmp 1,.di)]
abbrev UB:List RS:=[.one,.one]
def KY[Lk]:(Ul×Int×Unit)→Option (Vi):=fun(a0,a1,_)=>
 match Pn ((a0.1,(a0.2.1,())),())with|none=>none|some (y0,_)=>match(!y0)with
 |true=>some ((0,(([]:List U3),())),1,())
 |false=>match Pm ((a0.1,(a0.2.1,())),a1,())with|none=>none|some (y1,_)=>match fof (a0.1,y1,())with|none=>none|some (y2,y3,_)=>some ((y2.1,(y2.2.1,())),y3,())
def OG[Lk]:=fun v=>Lk.f (KY v)
theorem Pp v:OG v=KY v:=AG _
def ATe[Lk]:Vi→Option (U9):=fun(a0,a1,_)=>
 match Qs ((a0.1,(a0.2.1,())),())with|none=>none|some (y0,_)=>match(!y0)with
 |true=>some ((-1:Int),())
 |false=>match AJ8 (a0.1,a1,())with|none=>none|some (y1,_)=>match(!y1)with
 |true=>some ((-1:Int),())
 |false=>match LF ((a0.1,(a0.2.1,())),a1,())with|none=>none|some (y2,_)=>some (y2,())
def AiL[Lk]:=fun v=>Lk.f (ATe v)
theorem Agf v:AiL v=ATe v:=AG _
abbrev AUZ:AE:=[(.tmp 0,.dat Uf),(.tmp 1,.di)]
abbrev AUY:AE:=[(.tmp 0,.dat .bool)]
abbrev AUX:List RS:=[.one]
def AJ7[Lk]:(Ul×Int×Unit)→Option (Ue):=fun(a0,a1,_)=>
 match(ile 0 a1)with
 |true=>some ((ilt a1 a0.1),())
 |false=>some (false,())
def APA[Lk]:=fun v=>Lk.f (AJ7 v)
theorem AW7 v:APA v=AJ7 v:=AG _
abbrev M8:AE:=[(.tmp 0,.dat Uf),(.tmp 1,.di),(.tmp 2,.di)]
abbrev M7:AE:=[(.tmp 0,.own 3 U0)]
abbrev M6:List RS:=[.one]
abbrev RB:AE:=[(.tmp 1,.di),(.tmp 3,.box 2),(.cell 0 0,.di),(.cell 0 1,.dat Uz),(.tmp 7,.own 3 U0),(.tmp 8,.own 3 U0),(.tmp 9,.di)]
abbrev RA:At:=[(.exit 0,[(.tmp 8,.own 3 U0)])]
def C9[Lk]:(Int×Int×List U4×List Int×List Int×Int×Unit)→Option ((Int×Int×List U4×List Int×List Int×Int×Unit)⊕Up⊕Unit):=fun(a0,a1,a2,a3,a4,a5,_)=>
 match(ilt a5 a1)with
 |true=>match idx a3 a5 with|none=>none|some x0=>match idx a3 a0 with|none=>none|some x1=>match(ieq (AU a3 (AK a5) 0) (AU a3 (AK a0) 0))with
  |true=>match(fits ((AI a4)+(AI ([a5]:List (Int)))))with
   |true=>some (.inl (a0,a1,a2,a3,(A2 a4 ([a5]:List (Int))),(IntKind.wrap .i64 (a5+1)),()))
   |false=>none
  |false=>some (.inl (a0,a1,a2,a3,a4,(IntKind.wrap .i64 (a5+1)),()))
 |false=>some (.inr (.inl (a4,())))
def I5[Lk]:V3→Option (Up):=fun(a0,a1,a2,_)=>
 match Iv ((a0.1,(a0.2.1,())),a2,())with|none=>none|some (y0,_)=>match DT (a0.1,y0,())with|none=>none|some (y1,_)=>match AW C9 many (a1,a0.1,a0.2.1,y1,([]:List (Int)),0,())with|none=>none|some r=>match r with
 |.inl (o2,_)=>some (o2,())
 |.inr _=>none
def Fs[Lk]:=fun v=>Lk.f (I5 v)
theorem RC v:Fs v=I5 v:=AG _
abbrev AKO:AE:=[(.tmp 0,.dat U6),(.tmp 1,.di)]
abbrev AKN:AE:=[(.tmp 0,.dat .bool)]
abbrev AKM:List RS:=[.one]
abbrev APW:AE:=[(.tmp 0,.dat U6),(.tmp 1,.di),(.tmp 5,.di)]
abbrev APV:At:=[(.ret,[(.tmp 4,.dat .bool)]),(.exit 0,[])]
def IQ[Lk]:Uq→Option (Uq⊕Ue⊕(Unit)⊕Unit):=fun(a0,a1,a2,_)=>
 match(ilt a2 (AI a0))with
 |true=>match idx a0 a2 with|none=>none|some x0=>match(ieq x0 a1)with
  |true=>some (.inr (.inl (true,())))
  |false=>some (.inl (a0,a1,(IntKind.wrap .i64 (a2+1)),()))
 |false=>some (.inr (.inr (.inl ())))
def Ym[Lk]:Us→Option (Ue):=fun(a0,a1,_)=>
 match AW IQ many (a0,a1,0,())with|none=>none|some r=>match r with
 |.inl (o0,_)=>some (o0,())
 |.inr r=>match r with
 |.inl _=>some (false,())
 |.inr _=>none
def Kd[Lk]:=fun v=>Lk.f (Ym v)
theorem APX v:Kd v=Ym v:=AG _
abbrev Z8:AE:=[(.tmp 0,.dat Uf),(.tmp 1,.di),(.tmp 2,.di),(.tmp 3,.di)]
abbrev Z7:AE:=[(.tmp 0,.own 3 U0),(.tmp 1,.di)]
abbrev Z6:List RS:=[.one,.one]
def Qm[Lk]:(Ul×Int×Int×Int×Unit)→Option (Us):=fun(a0,a1,a2,a3,_)=>
 match C2 ((a0.1,(a0.2.1,())),())with|none=>none|some (y0,_)=>match(!y0)with
 |true=>some (([]:List (Int)),1,())
 |false=>match APA ((a0.1,(a0.2.1,())),a1,())with|none=>none|some (y1,_)=>match(!y1)with
 |true=>some (([]:List (Int)),10,())
 |false=>match APA ((a0.1,(a0.2.1,())),a2,())with|none=>none|some (y2,_)=>match(!y2)with
 |true=>some (([]:List (Int)),10,())
 |false=>match Fs ((a0.1,(a0.2.1,())),a1,a3,())with|none=>none|some (y3,_)=>match Fs ((a0.1,(a0.2.1,())),a2,a3,())with|none=>none|some (y4,_)=>match Kd (y3,a2,())with|none=>none|some (y5,_)=>match y5 with
 |true=>some (([]:List (Int)),5,())
 |false=>match(ilt (AI y3) (AI y4))with
 |true=>some (y3,0,())
 |false=>match(ieq (AI y3) (AI y4))with
 |true=>match idx y3 0 with|none=>none|some x6=>match idx y4 0 with|none=>none|some x7=>match(ilt (AU y3 0 0) (AU y4 0 0))with
  |true=>some (y3,0,())
  |false=>some (y4,0,())
 |false=>some (y4,0,())
def Z9[Lk]:=fun v=>Lk.f (Qm v)
theorem AFs v:Z9 v=Qm v:=AG _
end
end Go.Pev
end
