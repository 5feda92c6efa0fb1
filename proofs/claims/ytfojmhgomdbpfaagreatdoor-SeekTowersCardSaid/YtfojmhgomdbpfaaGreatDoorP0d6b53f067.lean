/- A part of the proofs of this seat: PevDec2 PevFlow PevFlow2 PevCall PevCall2 PevCall3 PevCall4 PevTop PevClone G29M1 G29M2. -/
import Derived.Test.YtfojmhgomdbpfaaGreatDoorP784a3055a3
import Derived.LoopN
import Derived.Laws.Sem
import Derived.KernelRfl
import Derived.Lib.SliceRun
set_option linter.unusedVariables false
set_option linter.unusedSimpArgs false
set_option linter.unusedSectionVars false
set_option maxRecDepth 100000
section
namespace Go.Pev
open Go.RowKit
theorem AWC(f g:List Nat):∀ fz,Ak (f++g) fz=Ak g (Ak f fz):=by
 induction f with
 |nil=>intro fz;rfl
 |cons a f ih=>intro fz;simp only[ApE,Ak];exact ih _
section
variable {w:World} {H:List Ob} {m:Mp} {val:Nat→Value} {tm:List AV}
theorem CH{fz:List Bool}{id:Nat}(h:Aj fz id=true):fz.getD id false=false:=by
 unfold Aj at h;simpa using h
theorem AZY:∀ (its:AE) (fz:List Bool) (bs:List Bnd) (F:Nat→Prop) (m':Mp) (E:St) (d:B6 (leaves its)) (bs':List Bnd) (fr:List Nat),
  HI w F m H fz→(∀ t v,tm[t]? = some v→Rep w F m H v (val t))→Inv w F m H fz bs m' E val→dec tm H its fz bs=some (d,bs',fr) →
  ∃ F2 m2,Ap w F m H fz w F2 m H (Ak fr fz)∧Inv w F2 m H (Ak fr fz) bs' m2 (enc its d E) val∧∃ r,bs'=bs++r:=by
 intro its
 induction its with
 |nil=>
  intro fz bs F m' E d bs' fr hi ht hv h
  simp only[dec,Aoh]at h
  obtain⟨rfl,rfl,rfl⟩:=h
  exact⟨F,m',Ap.refl hi,hv,[],by simp⟩
 |cons p r ih=>
  intro fz bs F m' E d bs' fr hi ht hv h
  obtain⟨l,c⟩:=p
  have obj:∀ (b:Bnd) (o:Ob) (lc:Option (Nat×Nat)) (ref:AV) (u:Value) (xs:B6 (leaves r)) (g:List Nat),AaO w m H bs val l u→(∀ (i:Nat) (c:Bnd) (id:Nat),bs[i]? = some c→c.id? = some id→b.id?≠some id) →
    BO w F m H fz (upd m' E.heap.length lc) (E.heap++[o]) E.heap.length b→Rep w F (upd m' E.heap.length lc) (E.heap++[o]) ref u→dec tm H r fz (bs++[b])=some (xs,bs',g) →
    ∃ F2 m2,Ap w F m H fz w F2 m H (Ak g fz)∧Inv w F2 m H (Ak g fz) bs' m2 (enc r xs (place (Dr E o) ref l)) val∧∃ r,bs'=bs++r:=by
   intro b o lc ref u xs g hat hid hbd hrep hd
   have h1:=hv.add hid hbd
   have h2:=h1.place (hat.app b) hrep
   obtain⟨F2,m2,a1,a2,rr,a3⟩:=ih fz (bs++[b]) F _ _ xs bs' g hi ht h2 hd
   exact⟨F2,m2,a1,a2,b::rr,by rw[a3];simp⟩
  have ref:∀ (v:AV) (u:Value) (xs:B6 (leaves r)) (g:List Nat),AaO w m H bs val l u→Rep w F m' E.heap v u→dec tm H r fz bs=some (xs,bs',g) →
    ∃ F2 m2,Ap w F m H fz w F2 m H (Ak g fz)∧Inv w F2 m H (Ak g fz) bs' m2 (enc r xs (place E v l)) val∧∃ r,bs'=bs++r:=by
   intro v u xs g hat hrep hd
   exact ih fz bs F _ _ xs bs' g hi ht (hv.place hat hrep) hd
  cases c with
  |dat t=>
   simp only[dec]at h
   split at h
   ·rename_i v hl
    split at h
    ·rename_i x f hx
     split at h
     ·rename_i hf
      split at h
      ·rename_i xs bs1 g hd
       simp only[Aoh]at h
       obtain⟨rfl,rfl,rfl⟩:=h
       obtain⟨u,hu,hat⟩:=Bi hi ht hl
       have hdat:=AkR hi hx hu
       have hg:=Ap.freeze hi f
       have hv1:=hv.freeze hf
       have hv2:=hv1.place (v:=.data t x) hat (by unfold Rep;exact hdat)
       obtain⟨F2,m2,a1,a2,rr,a3⟩:=ih (Ak f fz) bs (DB F m H f) _ _ xs _ _ hg.2 (fun t v h=>hg.1.rep hi (ht t v h)) hv2 hd
       rw[AWC]
       exact⟨F2,m2,hg.trans a1,a2,rr,a3⟩
      ·cases h
     ·cases h
    ·cases h
   ·cases h
  |own T e=>
   simp only[dec]at h
   split at h
   ·rename_i e' hl
    split at h
    ·rename_i hc
     simp only[Aok]at hc
     have hsz:=hc
     split at h
     ·rename_i xs bs1 g hd
      simp only[Aoh]at h
      obtain⟨rfl,rfl,rfl⟩:=h
      obtain⟨u,hu,hat⟩:=Bi hi ht hl
      unfold Rep at hu
      refine obj .none (.arr T e []) none (.own E.heap.length) u xs _ hat (fun _ _ _ _ _=>by simp[Bnd.id?]) ?_ ?_ hd
      ·simp only[BO]
       exact⟨Aq ..,.inl ⟨T,e,by simp,hsz⟩⟩
      ·unfold Rep A8
       simp only[ApK (Aop _),AqP,ApP,Aq]
       exact⟨_,hu⟩
     ·cases h
    ·cases h
   ·rename_i id hl
    split at h
    ·rename_i T' e' ys ho hfr
     simp only[Aol]at hfr
     obtain⟨hun,hfr⟩:=hfr
     split at h
     ·rename_i ys' hT hc
      simp only[Aok]at hT
      subst hT
      obtain⟨he,hy⟩:=CM hc
      subst he
      simp only at hy
      subst hy
      split at h
      ·rename_i xs bs1 g hd
       simp only[Aoh]at h
       obtain⟨rfl,rfl,rfl⟩:=h
       obtain⟨u,hu,hat⟩:=Bi hi ht hl
       refine obj (.whole id) (.arr T e' ys) (m id) (.own E.heap.length) u xs _ hat (fun i c id' hic hcid => ?_) ?_ ?_ hd
       ·rintro h;simp only[Bnd.id?,Aoh]at h;subst h;exact FQ hfr i c hic hcid
       ·simp only[BO]
        exact⟨Aq ..,.inl ⟨T,e',ys,ho,by simp,CH hun⟩⟩
       ·unfold Rep at hu ⊢
        rw[ho]at hu
        rw[ApK (Aop _),AqP,ApP,Aq]
        exact hu
      ·cases h
     ·cases h
    ·cases h
   ·rename_i id n hl
    split at h
    ·rename_i T' e' ys ho hfr
     simp only[Aol]at hfr
     obtain⟨hun,hfr⟩:=hfr
     split at h
     ·rename_i ys' hT hc
      simp only[Aok]at hT
      subst hT
      obtain⟨he,hy⟩:=CM hc
      subst he
      simp only at hy
      subst hy
      split at h
      ·rename_i xs bs1 g hd
       simp only[Aoh]at h
       obtain⟨rfl,rfl,rfl⟩:=h
       obtain⟨u,hu,hat⟩:=Bi hi ht hl
       unfold Rep HE at hu
       rw[ho]at hu
       obtain⟨hle,hu⟩:=hu
       have hid:∀ (i:Nat) (c:Bnd) (id':Nat),bs[i]? = some c→c.id? = some id'→(Bnd.cut id).id?≠some id':=by
        intro i c id' hic hcid h;simp only[Bnd.id?,Aoh]at h;subst h;exact FQ hfr i c hic hcid
       have hget:(E.heap++[Ob.arr T e' (B0 n ys)])[E.heap.length]? = some (Ob.arr T e' (B0 n ys)):=by simp
       obtain⟨hsz,hob⟩:=hi.obj id _ ho
       have hnil:n=0→List.take (α:=e'.den) n ys=[]:=by rintro rfl;simp
       have hlen:List.length (α:=e'.den) (B0 n ys)=n:=by unfold B0;rw[Ao8];omega
       cases hm:m id with
       |none=>
        rw[hm]at hob hu
        simp only at hob hu
        subst hob
        have h0:n=0:=by simpa using hle
        subst h0
        obtain⟨a,rfl⟩:=hu
        refine obj (.cut id) (.arr T e' (B0 0 [])) none (.own E.heap.length) _ xs _ hat hid ?_ ?_ hd
        ·simp only[BO]
         exact⟨T,e',[],0,ho,CH hun,hget,.inl (by rw[Aq,hm])⟩
        ·unfold Rep
         rw[hget,Aq]
         exact⟨a,rfl⟩
       |some p=>
        obtain⟨b,cap⟩:=p
        rw[hm]at hob hu
        obtain⟨a,rfl,ha⟩:=hu
        obtain⟨vs,row,o1,o2,o3,o4,o5,o6⟩:=hob
        by_cases hcap:cap=0
        ·subst hcap
         have h0:n=0:=by omega
         refine obj (.cut id) (.arr T e' (B0 n ys)) none (.own E.heap.length) _ xs _ hat hid ?_ ?_ hd
         ·simp only[BO]
          exact⟨T,e',ys,n,ho,CH hun,hget,.inr ⟨Aq ..,hnil h0⟩⟩
         ·unfold Rep
          rw[hget,Aq]
          exact⟨a,by rw[h0]⟩
        ·refine obj (.cut id) (.arr T e' (B0 n ys)) (m id) (.own E.heap.length) _ xs _ hat hid ?_ ?_ hd
         ·simp only[BO]
          exact⟨T,e',ys,n,ho,CH hun,hget,.inl (Aq ..)⟩
         ·unfold Rep A8
          rw[hget,Aq,hm]
          have:=ha (by omega)
          rw[this]
          simp[hlen]
      ·cases h
     ·cases h
    ·cases h
   ·cases h
  |box n=>
   simp only[dec]at h
   split at h
   ·rename_i id hl
    split at h
    ·rename_i cs ho hfr
     split at h
     ·rename_i hn
      simp only[Aok]at hn
      obtain⟨u,hu,hat⟩:=Bi hi ht hl
      obtain⟨b,cc,vs,T,b1,b2,b3,b4⟩:=hi.obj id _ ho
      refine obj (.whole id) (.box (List.replicate n .junk)) (m id) (.ptr E.heap.length 0) u d fr hat (fun i c id' hic hcid => ?_) ?_ ?_ h
      ·rintro h;simp only[Bnd.id?,Aoh]at h;subst h;exact FQ hfr i c hic hcid
      ·simp only[BO]
       refine⟨Aq ..,.inr (.inr (.inl ⟨cs,List.replicate n .junk,b,cc,vs,T,ho,by simp,by simp[hn],b1,b2,?_,b4⟩))⟩
       refine DV (by rw[As b3];simp[hn]) fun i c v hc _ => ?_
       have:=AqT (Aox hc)
       subst this
       unfold Rep;trivial
      ·unfold Rep HF at hu ⊢
       rw[ho]at hu
       rw[ApK (Aop _),AqP,ApP,Aq]
       exact hu
     ·cases h
    ·cases h
   ·cases h
  |map k v=>
   simp only[dec]at h
   split at h
   ·rename_i id hl
    split at h
    ·rename_i k' v' es ho hfr
     split at h
     ·rename_i es' hc
      obtain⟨he,hy⟩:=CM hc
      cases he
      simp only at hy
      subst hy
      split at h
      ·rename_i xs bs1 g hd
       simp only[Aoh]at h
       obtain⟨rfl,rfl,rfl⟩:=h
       obtain⟨u,hu,hat⟩:=Bi hi ht hl
       refine obj (.whole id) (.map k v es) (m id) (.mp E.heap.length) u xs _ hat (fun i c id' hic hcid => ?_) ?_ ?_ hd
       ·rintro h;simp only[Bnd.id?,Aoh]at h;subst h;exact FQ hfr i c hic hcid
       ·simp only[BO]
        exact⟨Aq ..,.inr (.inl ⟨k,v,es,ho,by simp⟩)⟩
       ·unfold Rep Mu at hu ⊢
        rw[ho]at hu
        rw[ApK (Aop _),AqP,ApP,Aq]
        exact hu
      ·cases h
     ·cases h
    ·cases h
   ·cases h
  |own' j=>
   simp only[dec]at h
   split at h
   ·rename_i id id' hl hj
    split at h
    ·rename_i hid
     simp only[Aok]at hid
     subst hid
     obtain⟨u,hu,hat⟩:=Bi hi ht hl
     exact ref (.own j) u d fr hat (Aia (hv.ob j _ hj) hu) h
    ·cases h
   ·cases h
  |ptr' j off=>
   simp only[dec]at h
   split at h
   ·rename_i id o id' hl hj
    split at h
    ·rename_i hid
     simp only[Aol,Aok]at hid
     obtain⟨rfl,rfl⟩:=hid
     obtain⟨u,hu,hat⟩:=Bi hi ht hl
     exact ref (.ptr j o) u d fr hat (AW0 (hv.ob j _ hj) hu) h
    ·cases h
   ·cases h
  |sub' j=>
   simp only[dec]at h
   split at h
   ·rename_i id off n id' hl hj
    split at h
    ·rename_i hid
     simp only[Aok]at hid
     subst hid
     split at h
     ·rename_i xs bs1 g hd
      simp only[Aoh]at h
      obtain⟨rfl,rfl,rfl⟩:=h
      obtain⟨u,hu,hat⟩:=Bi hi ht hl
      exact ref (.win j off n) u xs _ hat (AUy (hv.ob j _ hj) hu) hd
     ·cases h
    ·cases h
   ·cases h
  |win' j=>
   simp only[dec]at h
   split at h
   ·rename_i id n id' hl hj
    split at h
    ·rename_i hid
     simp only[Aok]at hid
     subst hid
     split at h
     ·rename_i xs bs1 g hd
      simp only[Aoh]at h
      obtain⟨rfl,rfl,rfl⟩:=h
      obtain⟨u,hu,hat⟩:=Bi hi ht hl
      exact ref (.win j 0 n) u xs _ hat (AUy (hv.ob j _ hj) hu) hd
     ·cases h
    ·cases h
   ·rename_i id id' hl hj
    split at h
    ·rename_i T t ys hid ho
     simp only[Aok]at hid
     subst hid
     split at h
     ·rename_i xs bs1 g hd
      simp only[Aoh]at h
      obtain⟨rfl,rfl,rfl⟩:=h
      obtain⟨u,hu,hat⟩:=Bi hi ht hl
      exact ref (.win j 0 ys.length) u xs _ hat (AUy (hv.ob j _ hj) (All hi ho hu)) hd
     ·cases h
    ·cases h
   ·cases h
  |map' j=>
   simp only[dec]at h
   split at h
   ·rename_i id id' hl hj
    split at h
    ·rename_i hid
     simp only[Aok]at hid
     subst hid
     obtain⟨u,hu,hat⟩:=Bi hi ht hl
     exact ref (.mp j) u d fr hat (AoM (hv.ob j _ hj) hu) h
    ·cases h
   ·cases h
  |clo f ps=>
   simp only[dec]at h
   split at h
   ·rename_i f' vs hl
    split at h
    ·rename_i hc
     simp only[Aol,Aok]at hc
     obtain⟨rfl,hc⟩:=hc
     obtain⟨u,hu,hat⟩:=Bi hi ht hl
     unfold Rep at hu
     obtain⟨cs,rfl,hr⟩:=hu
     exact ref (.clo f (ps.map fun p=>.ptr p.1 p.2)) _ d fr hat (by unfold Rep;exact⟨cs,rfl,Ama hv.ob vs ps cs.toList hc hr⟩) h
    ·cases h
   ·cases h
  |bnd f j=>
   simp only[dec]at h
   split at h
   ·rename_i f' id id' hl hj
    split at h
    ·rename_i hc
     simp only[Aol,Aok]at hc
     obtain⟨rfl,rfl⟩:=hc
     obtain⟨u,hu,hat⟩:=Bi hi ht hl
     unfold Rep at hu
     obtain⟨cs,rfl,hr⟩:=hu
     refine ref (.bnd f [.own j]) _ d fr hat ?_ h
     unfold Rep
     refine⟨cs,rfl,?_⟩
     unfold Ae at hr ⊢
     obtain⟨x,xs,e1,e2,e3⟩:=hr
     refine⟨x,xs,e1,Aia (hv.ob j _ hj) e2,?_⟩
     unfold Ae at e3 ⊢
     exact e3
    ·cases h
   ·cases h
  |prs T j=>
   simp only[dec]at h
   split at h
   ·rename_i e' hl
    split at h
    ·rename_i xs bs1 g hd
     simp only[Aoh]at h
     obtain⟨rfl,rfl,rfl⟩:=h
     obtain⟨u,hu,hat⟩:=Bi hi ht hl
     unfold Rep at hu
     refine obj .none (.prs T j []) none (.own E.heap.length) u xs _ hat (fun _ _ _ _ _=>by simp[Bnd.id?]) ?_ ?_ hd
     ·simp only[BO]
      exact⟨Aq ..,.inr ⟨T,j,by simp⟩⟩
     ·unfold Rep A8
      simp only[ApK (Aop _),AqP,ApP,Aq]
      exact⟨_,hu⟩
    ·cases h
   ·rename_i id hl
    split at h
    ·rename_i T' tgt is tgt' ho hfr hj
     split at h
     ·rename_i hT
      simp only[Aol,Aok]at hT
      obtain⟨rfl,rfl⟩:=hT
      split at h
      ·rename_i xs bs1 g hd
       simp only[Aoh]at h
       obtain⟨rfl,rfl,rfl⟩:=h
       obtain⟨u,hu,hat⟩:=Bi hi ht hl
       have hbj:=hv.ob j _ hj
       have hob:=hi.obj id _ ho
       have hcomp:CF E.heap (E.heap++[.prs T j is]) m' (upd m' E.heap.length (m id)):=by
        intro i x hi hf
        have hlt:=Al hi
        rcases CF.refl E.heap m' i x hi hf with h|⟨hd,o',h4,h5,_⟩
        ·exact .inl (by rw[ApG hlt];exact h)
        ·exact .inr ⟨hd,o',by rw[ApG hlt];exact h4,h5,Fk (by omega),fun _ _ _=>EP (by simp)⟩
       have hob':ObI w F (upd m' E.heap.length (m id)) (E.heap++[.prs T j is]) (.prs T j is) (m id):=by
        cases hm:m id with
        |none=>rw[hm]at hob;exact hob
        |some p=>
         obtain⟨b,cap⟩:=p
         rw[hm]at hob hcomp
         obtain⟨vs,us,e1,e2,e3,e4,e5,e6⟩:=hob
         exact⟨vs,us,e1,e2,e3,e4,Ae.mono (fun _ _=>rfl) (fun _ h=>h) hcomp _ (AlZ hbj e5),e6⟩
       refine obj (.whole id) (.prs T j is) (m id) (.own E.heap.length) u xs _ hat (fun i c id' hic hcid => ?_) ?_ ?_ hd
       ·rintro h;simp only[Bnd.id?,Aoh]at h;subst h;exact FQ hfr i c hic hcid
       ·simp only[BO]
        exact⟨Aq ..,.inr (.inr (.inr (.inl ⟨T,tgt,j,is,ho,by simp,hob'⟩)))⟩
       ·unfold Rep at hu ⊢
        rw[ho]at hu
        rw[ApK (Aop _),AqP,ApP,Aq]
        exact hu
      ·cases h
     ·cases h
    ·cases h
   ·cases h
  |nil e=>
   simp only[dec]at h
   cases hl:look tm H bs l with
   |none=>rw[hl]at h;cases h
   |some v=>
    rw[hl]at h
    cases v with
    |nils e'=>
     obtain⟨u,hu,hat⟩:=Bi hi ht hl
     exact ref (.nils e) u d fr hat (by unfold Rep at *;exact hu) h
    |_=>cases h
  |rows T e t=>
   simp only[dec]at h
   split at h
   ·rename_i id hl
    split at h
    ·rename_i T' e' t' ys ver ho hfr
     simp only[Aol]at hfr
     obtain⟨hun,hfr⟩:=hfr
     split at h
     ·rename_i ys' hT hc
      simp only[Aol,Aok]at hT
      obtain⟨rfl,rfl⟩:=hT
      obtain⟨he,hy⟩:=CM hc
      cases he
      simp only at hy
      subst hy
      split at h
      ·rename_i xs bs1 g hd
       simp only[Aoh]at h
       obtain⟨rfl,rfl,rfl⟩:=h
       obtain⟨u,hu,hat⟩:=Bi hi ht hl
       have hrep:Rep w F (Pc m' E.heap.length (m id) fun k=>m (.r id k)) (E.heap++[.rows (.arr T) e t ys 0 none]) (.own E.heap.length) u:=by
        unfold Rep at hu ⊢
        rw[ho]at hu
        rw[ApK (Aop _),AqP,ApP,K7]
        exact hu
       have h1:=hv.An2 (b:=.whole id) (o:=.rows (.arr T) e t ys 0 none) (mn:=Pc m' E.heap.length (m id) fun k=>m (.r id k)) (fun x hx=>HM hx)
        (fun i c id' hic hcid h=>by simp only[Bnd.id?,Aoh]at h;subst h;exact FQ hfr i c hic hcid)
        (by simp only[BO];exact⟨K7,.inr (.inr (.inr (.inr ⟨.arr T,e,t,ys,ver,ho,by simp,fun k=>ALF,CH hun⟩)))⟩)
       have h2:=h1.place (hat.app (.whole id)) hrep
       obtain⟨F2,m2,a1,a2,rr,a3⟩:=ih fz (bs++[.whole id]) F _ _ xs _ _ hi ht h2 hd
       exact⟨F2,m2,a1,a2,.whole id::rr,by rw[a3];simp⟩
      ·cases h
     ·cases h
    ·cases h
   ·cases h
  |mrows j e t=>
   simp only[dec]at h
   split at h
   ·rename_i id hl
    split at h
    ·rename_i j' ks e' t' ys ver ho hfr
     simp only[Aol]at hfr
     obtain⟨hun,hfr⟩:=hfr
     split at h
     ·rename_i ys' hT hc
      simp only[Aol,Aok]at hT
      obtain⟨rfl,rfl⟩:=hT
      obtain⟨he,hy⟩:=CM hc
      cases he
      simp only at hy
      subst hy
      split at h
      ·rename_i xs bs1 g hd
       simp only[Aoh]at h
       obtain⟨rfl,rfl,rfl⟩:=h
       obtain⟨u,hu,hat⟩:=Bi hi ht hl
       have hrep:Rep w F (Pc m' E.heap.length (m id) fun k=>m (.r id k)) (E.heap++[.rows (.map j ks) e t ys 0 none]) (.mp E.heap.length) u:=by
        unfold Rep at hu ⊢
        rw[ho]at hu
        rw[ApK (Aop _),AqP,ApP,K7]
        exact hu
       have h1:=hv.An2 (b:=.whole id) (o:=.rows (.map j ks) e t ys 0 none) (mn:=Pc m' E.heap.length (m id) fun k=>m (.r id k)) (fun x hx=>HM hx)
        (fun i c id' hic hcid h=>by simp only[Bnd.id?,Aoh]at h;subst h;exact FQ hfr i c hic hcid)
        (by simp only[BO];exact⟨K7,.inr (.inr (.inr (.inr ⟨.map j ks,e,t,ys,ver,ho,by simp,fun k=>ALF,CH hun⟩)))⟩)
       have h2:=h1.place (hat.app (.whole id)) hrep
       have hzl:ks.length=List.length (α:=List t.den) ys:=by
        obtain⟨_,h4⟩:=hi.obj id _ ho
        cases hm:m id with
        |none=>rw[hm]at h4;cases h4.1
        |some p=>
         obtain⟨b,cap⟩:=p
         rw[hm]at h4
         obtain⟨_,_,_,_,_,h5,_⟩:=h4
         exact(h5.resolve_right fun h=>by cases h.1).symm
       have he:enc ((l,.mrows j e t)::r) ((List.zip (β:=List t.den) ks ys,xs):B6 (leaves ((l,.mrows j e t)::r))) E=enc r xs (place (Dr E (.rows (.map j ks) e t ys 0 none)) (.mp E.heap.length) l):=by
        simp only[enc]
        rw[List.map_fst_zip (Aqw hzl),List.map_snd_zip (Aqw hzl.symm)]
       rw[he]
       obtain⟨F2,m2,a1,a2,rr,a3⟩:=ih fz (bs++[.whole id]) F _ _ xs _ _ hi ht h2 hd
       exact⟨F2,m2,a1,a2,.whole id::rr,by rw[a3];simp⟩
      ·cases h
     ·cases h
    ·cases h
   ·cases h
  |aptr T e n=>
   simp only[dec]at h
   split at h
   ·rename_i id n' hl
    split at h
    ·rename_i T' e' ys ho hfr
     simp only[Aol]at hfr
     obtain⟨hun,hfr⟩:=hfr
     split at h
     ·rename_i ys' hT hc
      simp only[Aol,Aok]at hT
      obtain⟨rfl,rfl⟩:=hT
      obtain⟨he,hy⟩:=CM hc
      subst he
      simp only at hy
      subst hy
      split at h
      ·rename_i xs bs1 g hd
       simp only[Aoh]at h
       obtain⟨rfl,rfl,rfl⟩:=h
       obtain⟨u,hu,hat⟩:=Bi hi ht hl
       refine obj (.whole id) (.arr T e' ys) (m id) (.aptr E.heap.length n) u xs _ hat (fun i c id' hic hcid => ?_) ?_ ?_ hd
       ·rintro h;simp only[Bnd.id?,Aoh]at h;subst h;exact FQ hfr i c hic hcid
       ·simp only[BO]
        exact⟨Aq ..,.inl ⟨T,e',ys,ho,by simp,CH hun⟩⟩
       ·unfold Rep at hu ⊢
        rw[ho]at hu
        rw[ApK (Aop _),AqP,ApP,Aq]
        exact hu
      ·cases h
     ·cases h
    ·cases h
   ·cases h
  |bndp f j=>
   simp only[dec]at h
   split at h
   ·rename_i f' id id' hl hj
    split at h
    ·rename_i hc
     simp only[Aol,Aok]at hc
     obtain⟨rfl,rfl⟩:=hc
     obtain⟨u,hu,hat⟩:=Bi hi ht hl
     unfold Rep at hu
     obtain⟨cs,rfl,hr⟩:=hu
     refine ref (.bnd f [.ptr j 0]) _ d fr hat ?_ h
     unfold Rep
     refine⟨cs,rfl,?_⟩
     unfold Ae at hr ⊢
     obtain⟨x,xs,e1,e2,e3⟩:=hr
     refine⟨x,xs,e1,AW0 (hv.ob j _ hj) e2,?_⟩
     unfold Ae at e3 ⊢
     exact e3
    ·cases h
   ·cases h
  |nilp=>
   simp only[dec]at h
   cases hl:look tm H bs l with
   |none=>rw[hl]at h;cases h
   |some v=>
    rw[hl]at h
    cases v with
    |nilp=>
     obtain⟨u,hu,hat⟩:=Bi hi ht hl
     exact ref .nilp u d fr hat (by unfold Rep at *;exact hu) h
    |_=>cases h
  |aptr' j n=>
   simp only[dec]at h
   split at h
   ·rename_i id n' id' hl hj
    split at h
    ·rename_i hid
     simp only[Aol,Aok]at hid
     obtain⟨rfl,rfl⟩:=hid
     obtain⟨u,hu,hat⟩:=Bi hi ht hl
     exact ref (.aptr j n) u d fr hat (Aml (hv.ob j _ hj) hu) h
    ·cases h
   ·cases h
end
end Go.Pev
end
section
namespace Go.Pev
open Go.RowKit
structure YF(np:Nat)(w:World)(F:Nat→Prop)(m:Mp)(H:List Ob)(fz:List Bool)(w':World)(F':Nat→Prop)(m':Mp)(H':List Ob)(fz':List Bool):Prop where
 os:w'.os=w.os
 tape:w'.tape=w.tape
 output:w'.output=w.output
 size:w.heap.size≤w'.heap.size
 keep:∀ b,b<w.heap.size→(∀ i c,owned H fz i→m i≠some (b,c))→w'.heap[b]? = w.heap[b]?
 sub:∀ b,F b→F' b
 bnd:∀ b,F' b→F b∨(∃ i c,owned H fz i∧m i=some (b,c))∨w.heap.size≤b
 own:∀ i b c,owned H' fz' i→m' i=some (b,c)→(∃ i c,owned H fz i∧m i=some (b,c))∨w.heap.size≤b
 comp:∀ (i:Nat) o,i<np→H[i]? = some o→o≠.free→H'[i]? = some .dead∨(o≠.dead∧∃ o',H'[i]? = some o'∧sameShape o o'∧m' i=m i∧(BU o=false→Rr o'=Rr o→∀ k,m' (.r i k)=m (.r i k)))
theorem Ext.toN{w w':World}{F F':Nat→Prop}{m m':Mp}{H H':List Ob}{fz fz':List Bool}(h:Ext w F m H fz w' F' m' H' fz')(np:Nat):YF np w F m H fz w' F' m' H' fz':=
 ⟨h.os,h.tape,h.output,h.size,h.keep,h.sub,h.bnd,h.own,fun i o _=>h.comp i o⟩
theorem YF.refl(np:Nat)(w:World)(F:Nat→Prop)(m:Mp)(H:List Ob)(fz:List Bool):YF np w F m H fz w F m H fz:=(Ext.refl ..).toN np
theorem YF.trans{np:Nat}{w w1 w2:World}{F F1 F2:Nat→Prop}{m m1 m2:Mp}{H H1 H2:List Ob}{fz fz1 fz2:List Bool}
  (h:YF np w F m H fz w1 F1 m1 H1 fz1) (k:YF np w1 F1 m1 H1 fz1 w2 F2 m2 H2 fz2):YF np w F m H fz w2 F2 m2 H2 fz2 where
 os:=k.os.trans h.os
 tape:=k.tape.trans h.tape
 output:=k.output.trans h.output
 size:=Ap0 h.size k.size
 keep b hb hn:=by
  rw[k.keep b (Ap6 hb h.size) ?_,h.keep b hb hn]
  intro i c ho he
  rcases h.own i b c ho he with⟨i',c',h1,h2⟩|h1
  ·exact hn i' c' h1 h2
  ·omega
 sub b hb:=k.sub b (h.sub b hb)
 bnd b hb:=by
  rcases k.bnd b hb with h1|⟨i,c,h1,h2⟩|h1
  ·exact h.bnd b h1
  ·rcases h.own i b c h1 h2 with h3|h3
   ·exact .inr (.inl h3)
   ·exact .inr (.inr h3)
  ·exact .inr (.inr (Ap0 h.size h1))
 own i b c h1 h2:=by
  rcases k.own i b c h1 h2 with⟨i',c',h3,h4⟩|h3
  ·exact h.own i' b c' h3 h4
  ·exact .inr (Ap0 h.size h3)
 comp i o hlt ho hf:=by
  rcases h.comp i o hlt ho hf with h1|⟨hd,o',h1,h2,h3,hp⟩
  ·rcases k.comp i _ hlt h1 (by simp)with h4|⟨h5,_⟩
   ·exact .inl h4
   ·exact absurd rfl h5
  ·have hf':o'≠.free:=by rintro rfl;cases o<;>simp[sameShape]at h2
   rcases k.comp i o' hlt h1 hf' with h4|⟨_,o'',h4,h5,h6,hq⟩
   ·exact .inl h4
   ·refine .inr ⟨hd,o'',h4,h2.trans h5,h6.trans h3,fun a b k => ?_⟩
    have h8:=h2.ver
    have h9:=h5.ver
    exact(hq (h8.2▸a) (by omega) k).trans (hp a (by omega) k)
section
variable {w:World} {F:Nat→Prop} {m:Mp} {H:List Ob} {fz:List Bool} {bs:List Bnd} {m':Mp} {E:St} {val:Nat→Value}
def Ix.at:Ix→Nat→Ix
 |.o _,i=>.o i
 |.r _ k,i=>.r i k
theorem Ix.Amw(x:Ix)(i:Nat):(x.at i).id=i:=by cases x<;>rfl
theorem Inv.AoY(h:Inv w F m H fz bs m' E val){i b c:Nat}(ho:owned E.heap E.frz i)(hm:m' i=some (b,c)):∃ x id,bs[i]? = some x∧x.id? = some id∧owned H fz id∧m id=some (b,c):=by
 obtain⟨o,hio,_,_⟩:=E4 ho
 have hlt:=Al hio
 rw[h.lenH]at hlt
 have hx:bs[i]? = some bs[i]:=Aon hlt
 have hb:=h.ob i _ hx
 cases hc:bs[i]with
 |none=>rw[hc]at hb;simp only[BO]at hb;rw[hb.1]at hm;cases hm
 |whole id=>
  rw[hc]at hb hx
  simp only[BO]at hb
  obtain⟨e,hb⟩:=hb
  refine⟨_,id,hx,rfl,?_,by rw[← e];exact hm⟩
  simp only[owned,Bn]
  rcases hb with⟨T,t,xs,a1,_,a3⟩|⟨k,v,es,a1,_⟩|⟨cs,cs',b,c,vs,T,a1,_⟩|⟨_,_,_,_,a1,_⟩|⟨_,_,_,_,_,a1,_,_,a4⟩
  ·rw[a1];exact a3
  ·rw[a1];trivial
  ·rw[a1];trivial
  ·rw[a1];trivial
  ·rw[a1];exact a4
 |cut id=>
  rw[hc]at hb hx
  simp only[BO]at hb
  obtain⟨T,t,xs,n,a1,a2,a3,a4⟩:=hb
  refine⟨_,id,hx,rfl,by simp only[owned,Bn];rw[a1];exact a2,?_⟩
  rcases a4 with a4|⟨a4,_⟩
  ·rw[← a4];exact hm
  ·rw[a4]at hm;cases hm
theorem Inv.rowAt(h:Inv w F m H fz bs m' E val){j:Nat}{T:RK}{e:TypeId}{t:Ty}{xs:List (List t.den)}{ver:Nat}{out:Option Nat}(hj:E.heap[j]? = some (.rows T e t xs ver out)):
  ∃ id ver',bs[j]? = some (.whole id)∧H[id]? = some (.rows T e t xs ver' none)∧out=none∧m' j=m id∧(∀ k,m' (.r j k)=m (.r id k))∧fz.getD id false=false:=by
 have hlt:=Al hj
 rw[h.lenH]at hlt
 have hx:bs[j]? = some bs[j]:=Aon hlt
 have hb:=h.ob j _ hx
 cases hc:bs[j]with
 |none=>
  rw[hc]at hb;simp only[BO]at hb
  rcases hb.2 with⟨T,e,e2,_⟩|⟨T,t,e2⟩<;>(rw[hj]at e2;cases e2)
 |whole id=>
  rw[hc]at hb hx;simp only[BO]at hb
  obtain⟨e0,hb⟩:=hb
  rcases hb with⟨T,t,xs,a1,a2,a3⟩|⟨k,v,es,a1,a2⟩|⟨cs,cs',b,c,vs,T,a1,a2,_⟩|⟨_,_,_,_,a1,a2,_⟩|⟨T,e,t,xs,ver,a1,a2,a3⟩
  ·rw[hj]at a2;cases a2
  ·rw[hj]at a2;cases a2
  ·rw[hj]at a2;cases a2
  ·rw[hj]at a2;cases a2
  ·rw[hj]at a2;cases a2
   exact⟨id,ver,hx,a1,rfl,e0,a3⟩
 |cut id=>
  rw[hc]at hb;simp only[BO]at hb
  obtain⟨T,t,xs,n,_,_,a3,_⟩:=hb
  rw[hj]at a3;cases a3
theorem Inv.src(h:Inv w F m H fz bs m' E val){i:Ix}{b c:Nat}(ho:owned E.heap E.frz i)(hm:m' i=some (b,c)):∃ x id,bs[i.id]? = some x∧x.id? = some id∧owned H fz (i.at id)∧m (i.at id)=some (b,c):=by
 cases i with
 |o i=>exact h.AoY ho hm
 |r i k=>
  simp only[owned]at ho
  split at ho
  ·rename_i T e t xs ver out hj
   obtain⟨id,ver',a1,a2,_,_,a5,a6⟩:=h.rowAt hj
   exact⟨_,id,a1,rfl,by simp only[owned,Ix.at];rw[a2];exact⟨ho.1,a6⟩,(a5 k).symm.trans hm⟩
  ·exact ho.elim
theorem Inv.hi(hi:HI w F m H fz)(h:Inv w F m H fz bs m' E val):HI w F m' E.heap E.frz where
 obj j o hj:=by
  have hlt:=Al hj
  rw[h.lenH]at hlt
  have hx:bs[j]? = some bs[j]:=Aon hlt
  have hb:=h.ob j _ hx
  cases hc:bs[j]with
  |none=>
   rw[hc]at hb
   simp only[BO]at hb
   obtain⟨e1,⟨T,e,e2,e3⟩|⟨T,t,e2⟩⟩:=hb
   ·rw[hj]at e2;cases e2
    exact⟨e3,by rw[e1]⟩
   ·rw[hj]at e2;cases e2
    rw[e1]
    exact(rfl:([]:List Int)=[])
  |whole id=>
   rw[hc]at hb
   simp only[BO]at hb
   obtain⟨e,hb⟩:=hb
   rcases hb with⟨T,t,xs,a1,a2,a3⟩|⟨k,v,es,a1,a2⟩|⟨cs,cs',b,c,vs,T,a1,a2,_,a4,a5,a6,a7⟩|⟨T,tgt,j0,is,a1,a2,a3⟩|⟨T,e',t,xs,ver,a1,a2,a3⟩
   ·rw[hj]at a2;cases a2
    rw[e];exact hi.obj id _ a1
   ·rw[hj]at a2;cases a2
    rw[e];exact hi.obj id _ a1
   ·rw[hj]at a2;cases a2
    exact⟨b,c,vs,T,e.trans a4,a5,a6,a7⟩
   ·rw[hj]at a2;cases a2
    rw[e];exact a3
   ·rw[hj]at a2;cases a2
    rw[e];exact hi.obj id _ a1
  |cut id=>
   rw[hc]at hb
   simp only[BO]at hb
   obtain⟨T,t,xs,n,a1,a2,a3,a4⟩:=hb
   rw[hj]at a3;cases a3
   obtain⟨h0,h1⟩:=hi.obj id _ a1
   refine⟨h0,?_⟩
   rcases a4 with a4|⟨a4,a5⟩
   ·rw[a4]
    cases hm:m id with
    |none=>
     rw[hm]at h1
     simp only at h1 ⊢
     rw[h1];simp
    |some p=>
     obtain⟨b,cap⟩:=p
     rw[hm]at h1
     simp only at h1 ⊢
     obtain⟨vs,row,b1,b2,b3,b4,b5,b6⟩:=h1
     refine⟨vs,row.take (n*t.size),b1,?_,b3,b4,Dw (fun x cs hx=>Dat.length t hx) n b5,?_⟩
     ·rw[Ao8];omega
     ·rw[Ao8,← Aq7,b6]
   ·rw[a4];exact a5
 row i:=by
  intro T e t xs ver out hj k ys hk
  obtain⟨id,ver',a1,a2,rfl,a4,a5,_⟩:=h.rowAt hj
  obtain⟨h1,h2⟩:=hi.row id T e t xs ver' none a2 k ys hk
  rw[a5 k]
  refine⟨?_,fun _ => ?_⟩
  ·obtain⟨h0,h1⟩:=h1
   exact⟨h0,h1⟩
  ·obtain⟨b,cap,u,e1,e2⟩:=h2 (by simp)
   exact⟨b,cap,u,a4.trans e1,e2⟩
 rfz i T e t xs ver out hj hf:=by rw[h.frz i]at hf;cases hf
 sep i j b c b' c' h1 h2 hij h3 h4:=by
  obtain⟨x,id,k1,k2,k3,k4⟩:=h.src h1 h3
  obtain⟨y,id',l1,l2,l3,l4⟩:=h.src h2 h4
  refine hi.sep _ _ b c b' c' k3 l3 ?_ k4 l4
  intro he
  have hid:id=id':=by rw[← Ix.Amw i id,he,Ix.Amw]
  subst hid
  have:=h.inj _ _ x y id k1 l1 k2 l2
  cases i<;>cases j<;>simp only[Ix.at,Ix.id]at he this<;>(try cases he)<;>subst this<;>exact hij rfl
 off i b c h1 h2:=by
  obtain⟨x,id,k1,k2,k3,k4⟩:=h.src h1 h2
  exact hi.off _ b c k3 k4
 froz i T t xs b c h1 h2:=by rw[h.frz i]at h2;cases h2
 lt:=hi.lt
 glo:=hi.glo
 len:=h.lenF.symm
theorem ARU:∀ (n i:Nat) (bs:List Bnd),pins n i bs=true→∀ k,k<n→bs[k]? = some (.whole (i+k)):=by
 intro n
 induction n with
 |zero=>intro i bs _ k hk;omega
 |succ n ih=>
  intro i bs h k hk
  cases bs with
  |nil=>simp[pins]at h
  |cons b bs=>
   simp only[pins,Aol,Aok]at h
   cases k with
   |zero=>simp[h.1]
   |succ k=>
    have:=ih (i+1) bs h.2 k (by omega)
    simp only[Aqr]
    rw[this];congr 2;omega
theorem Inv.blank{val:Nat→Value}(n:Nat):Inv w F m H fz [] (fun _=>none) (Pev.blank n) val where
 tmps t:=by
  have:(Pev.blank n).tmps.getD t .junk = .junk:=by
   simp only[Pev.blank,Aoj,AqE]
   split<;>rfl
  rw[this];unfold Rep;trivial
 lenH:=rfl
 lenF:=rfl
 frz i:=by simp[Pev.blank]
 ob j b h:=by simp at h
 inj i j b c id h:=by simp at h
theorem AW5(st:St)(v:AV)(l:Loc):(place st v l).tmps.length=st.tmps.length:=by
 cases l with
 |tmp t=>simp[place]
 |cell j c=>simp only[place];split<;>rfl
 |cap t i=>rfl
 |obj j=>rfl
theorem Aj2:∀ (its:AE) (d:B6 (leaves its)) (st:St),(enc its d st).tmps.length=st.tmps.length:=by
 intro its
 induction its with
 |nil=>intro d st;rfl
 |cons p r ih=>
  intro d st
  obtain⟨l,c⟩:=p
  cases c<;>exact(ih _ _).trans (AW5 _ _ _)
theorem N3(n:Nat)(its:AE)(d:B6 (leaves its)):(encode n its d).tmps.length=n:=by
 unfold encode;rw[Aj2];simp[blank]
theorem Ad0{F2:Nat→Prop}{fz2:List Bool}{np:Nat}(h:Inv w F2 m H fz2 bs m' E val)(hp:(pins np 0 bs&&(H.take np).all BU)=true):∀ (i:Nat) o,i<np→H[i]? = some o→o≠.free→E.heap[i]? = some .dead∨(o≠.dead∧∃ o',E.heap[i]? = some o'∧sameShape o o'∧m' i=m i∧(BU o=false→Rr o'=Rr o→∀ k,m' (.r i k)=m (.r i k))):=by
 intro i o hlt ho hf
 rw[Aol]at hp
 obtain⟨hp,hall⟩:=hp
 have hpl:BU o=true:=Ao2.1 hall o (Aox (i:=i) (by rw[ApU,Aoq hlt];exact ho))
 suffices hs:E.heap[i]? = some .dead∨(o≠.dead∧∃ o',E.heap[i]? = some o'∧sameShape o o'∧m' i=m i)from
  hs.imp id fun ⟨a,o',b,c,d⟩=>⟨a,o',b,c,d,fun e=>by rw[hpl]at e;cases e⟩
 have h1:=ARU np 0 bs hp i hlt
 rw[Aph]at h1
 have hb:=h.ob i _ h1
 simp only[BO]at hb
 obtain⟨e,hb⟩:=hb
 right
 rcases hb with⟨T,t,xs,a1,a2,a3⟩|⟨k,v,es,a1,a2⟩|⟨cs,cs',b,c,vs,T,a1,a2,_,a4,a5,a6,a7⟩|⟨_,_,_,_,a1,a2,_⟩|⟨_,_,_,_,_,a1,a2,_⟩
 ·rw[ho]at a1;cases a1;exact⟨by simp,_,a2,⟨rfl,rfl⟩,e⟩
 ·rw[ho]at a1;cases a1;exact⟨by simp,_,a2,trivial,e⟩
 ·rw[ho]at a1;cases a1;exact⟨by simp,_,a2,trivial,e⟩
 ·rw[ho]at a1;cases a1;exact⟨by simp,_,a2,rfl,e⟩
 ·rw[ho]at a1;cases a1;cases hpl
theorem Xj{np nt:Nat}{st:St}{a:Act}{its:AE}{v:B6 (leaves its)}(hs:SI w F m st a)(h:decode np nt st its=some v):
  ∃ F' m',SI w F' m' (encode nt its v) a∧YF np w F m st.heap st.frz w F' m' (encode nt its v).heap (encode nt its v).frz:=by
 unfold decode at h
 split at h
 ·rename_i hn
  simp only[Aok]at hn
  split at h
  ·rename_i v' bs fr hd
   split at h
   ·rename_i hp
    simp only[Aoh]at h;subst h
    obtain⟨F2,m2,hg,hv,_⟩:=AZY (val:=fun t=>a.tmps.getD t undef) its st.frz [] F (fun _=>none) (blank nt) v' bs fr hs.heap
     (fun t v ht=>by have:=hs.tmps t;rw[Aoj,ht]at this;exact this) (Inv.blank nt) hd
    refine⟨F2,m2,⟨hv.tmps,by rw[N3,← hn];exact hs.size,hv.hi hg.2,hs.defers⟩,?_⟩
    refine⟨rfl,rfl,rfl,Aop _,fun _ _ _=>rfl,hg.1.sub,hg.1.bnd,fun i b c h1 h2 => ?_,Ad0 hv hp⟩
    obtain⟨x,id,k1,k2,k3,k4⟩:=hv.src h1 h2
    exact hg.1.own _ b c k3 k4
   ·cases h
  ·cases h
 ·cases h
end
end Go.Pev
end
section
namespace Go.Pev
open Go.RowKit
theorem Za{R:Type}{all:List Oper}{g:Option (Nat×Bool)}{st:St}{yes no:St→Option R}{r:R}(h:guarded R all g st yes no=some r):
  ∃ st',(yes st'=some r∧∀ (R':Type) (yes' no':St→Option R'),guarded R' all g st yes' no'=yes' st')∨(no st'=some r∧∀ (R':Type) (yes' no':St→Option R'),guarded R' all g st yes' no'=no' st'):=by
 unfold guarded at h
 split at h
 ·exact⟨st,.inl ⟨h,fun _ _ _=>by simp[guarded]⟩⟩
 ·rename_i j want
  split at h
  ·cases h
  ·rename_i d hj
   split at h
   ·rename_i b hd
    cases b with
    |true=>
     cases want with
     |true=>exact⟨_,.inl ⟨h,fun _ _ _=>by simp only[guarded,hj,hd]⟩⟩
     |false=>exact⟨_,.inr ⟨h,fun _ _ _=>by simp only[guarded,hj,hd]⟩⟩
    |false=>
     cases want with
     |true=>exact⟨_,.inr ⟨h,fun _ _ _=>by simp only[guarded,hj,hd]⟩⟩
     |false=>exact⟨_,.inl ⟨h,fun _ _ _=>by simp only[guarded,hj,hd]⟩⟩
   ·rename_i hd
    exact⟨_,.inr ⟨h,fun _ _ _=>by simp only[guarded,hj,hd]⟩⟩
   ·cases h
section
variable {P:Program} {E:Env} {h:Hints}
theorem AXI(hE:∀ g,AN P g (E.spec g)){R:Type}{r:R}{all:List Oper}:∀ (ops:List Oper) (slot:Nat) (st:St) (k:St→Option R),Jq P E R all ops slot st k=some r →
  ∃ st',k st'=some r∧∀ (R':Type) (k':St→Option R'),Jq P E R' all ops slot st k'=k' st':=by
 intro ops
 induction ops with
 |nil=>intro slot st k h;exact⟨st,h,fun _ _=>rfl⟩
 |cons o ops ih=>
  intro slot st k h
  simp only[Jq]at h
  obtain⟨st1,h1⟩:=Za h
  rcases h1 with⟨h1,h2⟩|⟨h1,h2⟩
  ·obtain⟨v,e,h3,h4,_⟩:=Kq hE o.op _ _ _ _ _ _ _ r h1
   obtain⟨st2,h5,h6⟩:=ih _ _ _ h3
   exact⟨st2,h5,fun R' k'=>by simp only[Jq];rw[h2,h4];exact h6 R' k'⟩
  ·obtain⟨st2,h5,h6⟩:=ih _ _ _ h1
   exact⟨st2,h5,fun R' k'=>by simp only[Jq];rw[h2];exact h6 R' k'⟩
theorem Ac1(hE:∀ g,AN P g (E.spec g)){R:Type}{r:R}{all:List Oper}{o:Oper}{φ:List Nat}{slot:Nat}{st:St}{k:St→Option R}(h:Yo P E R all o φ slot st k=some r):
  ∃ st',k st'=some r∧∀ (R':Type) (k':St→Option R'),Yo P E R' all o φ slot st k'=k' st':=by
 unfold Yo at h
 obtain⟨st1,h1⟩:=Za h
 rcases h1 with⟨h1,h2⟩|⟨h1,h2⟩
 ·split at h1
  ·rename_i hw
   obtain⟨v,e,h3,h4,_⟩:=Kq hE o.op _ _ _ _ _ _ _ r h1
   split at h3
   ·rename_i hok
    exact⟨_,h3,fun R' k'=>by unfold Yo;rw[h2];simp only[hw];rw[h4];simp only[hok]⟩
   ·cases h3
  ·cases h1
 ·exact⟨_,h1,fun R' k'=>by unfold Yo;rw[h2]⟩
theorem ARW(hE:∀ g,AN P g (E.spec g)){R:Type}{r:R}{all:List Oper}:∀ (ops:List Oper) (fp:List (List Nat)) (slot:Nat) (st:St) (k:St→Option R),JA P E R all ops fp slot st k=some r →
  ∃ st',k st'=some r∧∀ (R':Type) (k':St→Option R'),JA P E R' all ops fp slot st k'=k' st':=by
 intro ops
 induction ops with
 |nil=>intro fp slot st k h;exact⟨st,h,fun _ _=>rfl⟩
 |cons o ops ih=>
  intro fp slot st k h
  simp only[JA]at h
  obtain⟨st1,h1,h2⟩:=Ac1 hE h
  obtain⟨st2,h5,h6⟩:=ih _ _ _ _ h1
  exact⟨st2,h5,fun R' k'=>by simp only[JA];rw[h2];exact h6 R' k'⟩
def Aod(P:Program)(np:Nat)(c:Code)(st:St)(e:Exit)(st':St):Prop:=
 ∀ (w:World) (F:Nat→Prop) (m:Mp) (a:Act) (Q:Exit→Act→World→Prop),SI w F m st a →
  (∀ a' w' F' m',SI w' F' m' st' a'→YF np w F m st.heap st.frz w' F' m' st'.heap st'.frz→Q e a' w')→c.wp P Q a w
def AY(P:Program)(np:Nat)(c:Code)(go:(R:Type)→St→(Exit→St→Option R)→Option R):Prop:=
 ∀ (R:Type) (st:St) (k:Exit→St→Option R) (r:R),go R st k=some r→∃ e st',k e st'=some r∧(∀ (R':Type) (k':Exit→St→Option R'),go R' st k'=k' e st')∧Aod P np c st e st'
def DW(P:Program)(np:Nat)(h:Hints):Code→Nat→Prop
 |.seq a b,n=>DW P np h a n∧DW P np h b (n+loops a)
 |.cond _ a b,n=>DW P np h a n∧DW P np h b (n+loops a)
 |.block _ c,n=>DW P np h c n
 |.loop c,n=>AY P np (.loop c) (h.loop n)
 |_,_=>True
theorem Ab7{w:World}{F:Nat→Prop}{m:Mp}{st:St}{a:Act}(hs:SI w F m st a){c:Operand}{x:Bool}(hc:BW st.tmps c = .data .bool x):
  a.eval c = .bool x∧SI w F m { st with tmps:=QY st.tmps c x } a:=by
 have h1:Rep w F m st.heap (BW st.tmps c) (a.eval c):=AFY hs.tmps c
 rw[hc]at h1
 refine⟨?_,?_⟩
 ·unfold Rep Bg at h1
  simp only[Ty.isAgg,Ao5,Ao3]at h1
  simpa [Dat]using h1
 ·cases c with
  |tmp t=>
   simp only[BW,Aoj]at hc
   exact hs.lit (d:=t) (b:=x) (by
    cases ht:st.tmps[t]? with
    |none=>rw[ht]at hc;simp at hc
    |some v=>rw[ht]at hc;simp at hc;rw[hc])
  |const v=>exact hs
  |func f=>exact hs
  |global g=>exact hs
theorem LQ(hE:∀ g,AN P g (E.spec g))(hL:Jc E){np:Nat}:∀ (c:Code) (n:Nat),DW P np h c n→AY P np c (fun R=>BF P E h R c n):=by
 intro c
 induction c with
 |skip=>
  intro n _ R st k r hk
  simp only[BF]at hk
  exact⟨_,_,hk,fun _ _=>rfl,fun w F m a Q hs hq=>wp_skip (hq a w F m hs (YF.refl ..))⟩
 |region id ops draw=>
  intro n _ R st k r hk
  cases draw with
  |false=>
   simp only[BF,Hi]at hk
   obtain⟨st',h1,h2⟩:=AXI hE _ _ _ _ hk
   refine⟨.normal,st',h1,fun R' k'=>by simp only[BF,Hi];exact h2 R' _,fun w F m a Q hs hq => ?_⟩
   have h3:Hi P E St ops.toList st some=some st':=by simp only[Hi];exact h2 St some
   refine AMz hE h3 hs fun a' w' hp => ?_
   obtain⟨st1,F',m',e1,e2,e3⟩:=hp
   cases e1
   exact hq a' w' F' m' e2 (e3.toN np)
  |true=>
   simp only[BF]at hk
   have hk':=hk
   unfold EZ at hk
   split at hk
   ·rename_i hok
    obtain⟨st',h1,h2⟩:=ARW hE _ _ _ _ _ hk
    refine⟨.normal,st',h1,fun R' k'=>by simp only[BF,EZ,hok];exact h2 R' _,fun w F m a Q hs hq => ?_⟩
    have h3:EZ P E St (h.fp id) ops.toList st some=some st':=by simp only[EZ,hok];exact h2 St some
    refine AH3 hE hL h3 hs fun a' w' hp => ?_
    obtain⟨st1,F',m',e1,e2,e3⟩:=hp
    cases e1
    exact hq a' w' F' m' e2 (e3.toN np)
   ·cases hk
 |seq a b iha ihb=>
  intro n hl R st k r hk
  simp only[BF]at hk
  obtain⟨e,st1,h1,h2',h3⟩:=iha n hl.1 R st _ r hk
  have h2:∀ (R':Type) (k':Exit→St→Option R'),BF P E h R' a n st k'=k' e st1:=h2'
  by_cases he:e = .normal
  ·subst he
   simp only at h1
   obtain⟨e2,st2,k1,k2,k3⟩:=ihb _ hl.2 R st1 _ r h1
   refine⟨e2,st2,k1,fun R' k' => ?_,fun w F m act Q hs hq=>wp_seq ?_⟩
   ·simp only[BF];rw[h2];exact k2 R' k'
   ·refine h3 w F m act _ hs fun a' w' F' m' s1 x1 => ?_
    exact k3 w' F' m' a' Q s1 fun a2 w2 F2 m2 s2 x2=>hq a2 w2 F2 m2 s2 (x1.trans x2)
  ·have h1':k e st1=some r:=by cases e<;>first|exact absurd rfl he|exact h1
   refine⟨e,st1,h1',fun R' k' => ?_,fun w F m act Q hs hq=>wp_seq ?_⟩
   ·simp only[BF];rw[h2];cases e<;>first|exact absurd rfl he|rfl
   ·refine h3 w F m act _ hs fun a' w' F' m' s1 x1 => ?_
    have:=hq a' w' F' m' s1 x1
    cases e<;>first|exact absurd rfl he|exact this
 |cond c a b iha ihb=>
  intro n hl R st k r hk
  simp only[BF]at hk
  split at hk
  ·rename_i x hc
   cases x with
   |true=>
    obtain⟨e,st1,h1,h2,h3⟩:=iha _ hl.1 R _ _ r hk
    refine⟨e,st1,h1,fun R' k'=>by simp only[BF,hc];exact h2 R' k',fun w F m act Q hs hq => ?_⟩
    obtain⟨q1,q2⟩:=Ab7 hs hc
    exact wp_cond_true q1 (h3 w F m act Q q2 hq)
   |false=>
    obtain⟨e,st1,h1,h2,h3⟩:=ihb _ hl.2 R _ _ r hk
    refine⟨e,st1,h1,fun R' k'=>by simp only[BF,hc];exact h2 R' k',fun w F m act Q hs hq => ?_⟩
    obtain⟨q1,q2⟩:=Ab7 hs hc
    exact wp_cond_false q1 (h3 w F m act Q q2 hq)
  ·cases hk
 |block id c ih=>
  intro n hl R st k r hk
  simp only[BF]at hk
  obtain⟨e,st1,h1,h2',h3⟩:=ih n hl R st _ r hk
  have h2:∀ (R':Type) (k':Exit→St→Option R'),BF P E h R' c n st k'=k' e st1:=h2'
  have key:∃ e',k e' st1=some r∧(∀ (R':Type) (k':Exit→St→Option R'),BF P E h R' (.block id c) n st k'=k' e' st1)∧∀ (Q:Exit→Act→World→Prop) a' w',Q e' a' w'→Exit.inBlock id Q e a' w':=by
   cases e with
   |exit id'=>
    simp only at h1
    by_cases hid:id'=id
    ·subst hid
     simp only[Aow]at h1
     exact⟨.normal,h1,fun R' k'=>by simp only[BF];rw[h2];simp,fun Q a' w' hq=>by simp[Exit.inBlock,hq]⟩
    ·simp only[hid,Ao9]at h1
     exact⟨.exit id',h1,fun R' k'=>by simp only[BF];rw[h2];simp[hid],fun Q a' w' hq=>by simp[Exit.inBlock,hid,hq]⟩
   |normal=>exact⟨_,h1,fun R' k'=>by simp only[BF];rw[h2],fun Q a' w' hq=>hq⟩
   |goto l=>exact⟨_,h1,fun R' k'=>by simp only[BF];rw[h2],fun Q a' w' hq=>hq⟩
   |ret=>exact⟨_,h1,fun R' k'=>by simp only[BF];rw[h2],fun Q a' w' hq=>hq⟩
   |panic l=>exact⟨_,h1,fun R' k'=>by simp only[BF];rw[h2],fun Q a' w' hq=>hq⟩
   |outgrown=>exact⟨_,h1,fun R' k'=>by simp only[BF];rw[h2],fun Q a' w' hq=>hq⟩
  obtain⟨e',k1,k2,k3⟩:=key
  exact⟨e',st1,k1,k2,fun w F m act Q hs hq=>wp_block (h3 w F m act _ hs fun a' w' F' m' s1 x1=>k3 Q a' w' (hq a' w' F' m' s1 x1))⟩
 |loop c ih=>
  intro n hl R st k r hk
  exact hl R st k r hk
 |exit id=>
  intro n _ R st k r hk
  simp only[BF]at hk
  exact⟨_,_,hk,fun _ _=>rfl,fun w F m a Q hs hq=>wp_exit (hq a w F m hs (YF.refl ..))⟩
 |ret=>
  intro n _ R st k r hk
  simp only[BF]at hk
  exact⟨_,_,hk,fun _ _=>rfl,fun w F m a Q hs hq=>wp_ret (hq a w F m hs (YF.refl ..))⟩
 |_=>intro n _ R st k r hk;simp[BF]at hk
theorem AfY{R:Type}{r:R}{nt:Nat}{k:Exit→St→Option R}:∀ (os:An) (x:Pk os),AKW nt k os x=some r→∃ e st',k e st'=some r∧∀ (R':Type) (k':Exit→St→Option R'),AKW nt k' os x=k' e st':=by
 intro os
 induction os with
 |nil=>intro x h;simp[AKW]at h
 |cons o os ih=>
  intro x h
  cases x with
  |inl d=>exact⟨_,_,h,fun _ _=>rfl⟩
  |inr x=>
   obtain⟨e,st',h1,h2⟩:=ih x h
   exact⟨e,st',h1,fun R' k'=>h2 R' k'⟩
theorem AQt{e e':Exit}(h:ACe e e'=true):e=e':=by
 cases e<;>cases e'<;>simp_all [ACe]
theorem Aib{np nt:Nat}{e:Exit}{st:St}:∀ (os:An) (x:Pk os),AJ4 np nt e st os=some x→∃ its d,decode np nt st its=some d∧∀ (R':Type) (k':Exit→St→Option R'),AKW nt k' os x=k' e (encode nt its d):=by
 intro os
 induction os with
 |nil=>intro x h;simp[AJ4]at h
 |cons o os ih=>
  intro x h
  simp only[AJ4]at h
  split at h
  ·rename_i hs
   split at h
   ·rename_i d hd
    simp only[Aoh]at h;subst h
    exact⟨o.2,d,hd,fun R' k'=>by rw[AQt hs];rfl⟩
   ·cases h
  ·split at h
   ·rename_i y hy
    simp only[Aoh]at h;subst h
    obtain⟨its,d,h1,h2⟩:=ih y hy
    exact⟨its,d,h1,fun R' k'=>h2 R' k'⟩
   ·cases h
theorem Aev{h':Hints}(hE:∀ g,AN P g (E.spec g))(hL:Jc E){np nt n:Nat}{body:Code}{its:AE}{os:An}{stp:B6 (leaves its)→Option (B6 (leaves its)⊕Pk os)}
  (hstep:∀ v,stp v=roundOf P E h' n np nt body its os v) (hl:DW P np h' body n):AY P np (.loop body) (AZ np nt its os stp):=by
 intro R st k r hk
 unfold AZ at hk
 split at hk
 ·cases hk
 ·rename_i v hv
  split at hk
  ·cases hk
  ·rename_i x hx
   obtain⟨e,st',h1,h2⟩:=AfY os x hk
   refine⟨e,st',h1,fun R' k'=>by simp only[AZ,hv,hx];exact h2 R' k',?_⟩
   have key:∀ (fuel:Nat) (v:B6 (leaves its)),Ab stp fuel v=some x→∀ (w:World) (F:Nat→Prop) (m:Mp) (a:Act) (Q:Exit→Act→World→Prop),SI w F m (encode nt its v) a →
     (∀ a' w' F' m',SI w' F' m' st' a'→YF np w F m (encode nt its v).heap (encode nt its v).frz w' F' m' st'.heap st'.frz→Q e a' w')→Code.rounds P body Q fuel a w:=by
    intro fuel
    induction fuel with
    |zero=>intro v h;simp[Ab]at h
    |succ fuel ih=>
     intro v h w F m a Q hs hq
     simp only[Ab]at h
     rw[hstep v]at h
     cases hr:roundOf P E h' n np nt body its os v with
     |none=>rw[hr]at h;cases h
     |some y=>
      rw[hr]at h
      unfold roundOf at hr
      obtain⟨e1,st1,g1,_,g3⟩:=LQ hE hL body n hl _ _ _ _ hr
      show body.wp P (Exit.then (Code.rounds P body Q fuel) Q) a w
      refine g3 w F m a _ hs fun a' w' F' m' s1 x1 => ?_
      by_cases he:e1 = .normal
      ·subst he
       simp only[AQ4]at g1
       split at g1
       ·rename_i d hd
        simp only[Aoh]at g1;subst g1
        obtain⟨F2,m2,s2,x2⟩:=Xj s1 hd
        show Code.rounds P body Q fuel a' w'
        exact ih d h w' F2 m2 a' Q s2 fun a3 w3 F3 m3 s3 x3=>hq a3 w3 F3 m3 s3 (x1.trans (x2.trans x3))
       ·cases g1
      ·have g1':(match AJ4 np nt e1 st1 os with
        |some x=>some (Sum.inr x)
        |none=>none)=some y:=by
        cases e1<;>first|exact absurd rfl he|exact g1
       split at g1'
       ·rename_i z hz
        simp only[Aoh]at g1';subst g1'
        simp only[Aoh]at h;subst h
        obtain⟨its',d,o1,o2⟩:=Aib os _ hz
        obtain⟨F2,m2,s2,x2⟩:=Xj s1 o1
        have e3:=(h2 (Exit×St) fun e st=>some (e,st)).symm.trans (o2 (Exit×St) fun e st=>some (e,st))
        simp only[Aoh,ApC]at e3
        obtain⟨rfl,rfl⟩:=e3
        have:=hq a' w' F2 m2 s2 (x1.trans x2)
        cases e<;>first|exact absurd rfl he|exact this
       ·cases g1'
   intro w F m a Q hs hq
   obtain⟨F2,m2,s2,x2⟩:=Xj hs hv
   exact wp_loop_rounds many (key many v (by rw[← Av];exact hx) w F2 m2 a Q s2 fun a3 w3 F3 m3 s3 x3=>hq a3 w3 F3 m3 s3 (x2.trans x3))
end
end Go.Pev
end
section
namespace Go.Pev
open Go.RowKit
section
variable {w:World} {F F0:Nat→Prop} {m m2:Mp} {H H2:List Ob} {ids:List Nat}
theorem Dat.flat:∀ (t:Ty),t.flat=true→∀ {d:t.den} {cs:List Value} {w0:World},Dat w F t d cs→Dat w0 F0 t d cs:=by
 intro t
 induction t with
 |unit=>exact fun _ _ _ _ h=>h
 |bool=>exact fun _ _ _ _ h=>h
 |int k=>exact fun _ _ _ _ h=>h
 |slice e _=>intro h;simp[Ty.flat]at h
 |mapi j e _=>intro h;simp[Ty.flat]at h
 |nul e=>exact fun _ _ _ _ h=>h
 |prod a b iha ihb=>
  intro h d cs w0 hd
  simp only[Ty.flat,Aol]at h
  obtain⟨c1,c2,h1,h2,h3⟩:=hd
  exact⟨c1,c2,h1,iha h.1 h2,ihb h.2 h3⟩
 |arr n e ih=>
  intro h d cs w0 hd
  obtain⟨h1,h2⟩:=hd
  exact⟨h1,BM (fun x _ cs hx=>ih (by simpa [Ty.flat]using h) hx) h2⟩
theorem Bg.flat{t:Ty}(ht:t.flat=true){d:t.den}{v:Value}{w0:World}(h:Bg w F t d v):Bg w0 F0 t d v:=by
 unfold Bg at *
 split
 ·rename_i hg
  simp only[hg,ApL]at h
  obtain⟨vs,e,hd⟩:=h
  exact⟨vs,e,hd.flat t ht⟩
 ·rename_i hg
  simp only[hg]at h
  exact Dat.flat t ht h
theorem Afh{k v:Ty}(hk:k.flat=true)(hv:v.flat=true){w0:World}:∀ {es:List (k.den×v.den)} {ms:List MapEntry},I1 w F k v es ms→I1 w0 F0 k v es ms:=by
 intro es
 induction es with
 |nil=>exact fun h=>h
 |cons e es ih=>
  rintro ms ⟨me,ms',e1,⟨h1,h2⟩,h3⟩
  exact⟨me,ms',e1,⟨h1.flat hk,h2.flat hv⟩,ih h3⟩
mutual
theorem Rep.flat:∀ (a:AV) {v:Value},J7 a=true→Rep w F m H a v→Rep w F0 m H a v
 |.junk,_,_,_=>by unfold Rep;trivial
 |.data t d,v,hf,h=>by unfold Rep at *;exact h.flat (by simpa [J7]using hf)
 |.nils _,v,_,h=>by unfold Rep at *;exact h
 |.agg cs,v,hf,h=>by
  unfold Rep at *
  obtain⟨vs,e,h,h1⟩:=h
  exact⟨vs,e,Ae.flat cs (by simpa [J7]using hf) h,h1⟩
 |.own id,v,_,h=>by unfold Rep at *;exact h
 |.win id off n,v,_,h=>by unfold Rep at *;exact h
 |.ptr id off,v,_,h=>by unfold Rep at *;exact h
 |.eptr id i sub,v,_,h=>by unfold Rep at *;exact h
 |.dptr cs,v,hf,h=>by simp[J7]at hf
 |.clo f caps,v,hf,h=>by
  unfold Rep at *
  obtain⟨cs,e,h⟩:=h
  exact⟨cs,e,Ae.flat caps (by simpa [J7]using hf) h⟩
 |.bnd f caps,v,hf,h=>by
  unfold Rep at *
  obtain⟨cs,e,h⟩:=h
  exact⟨cs,e,Ae.flat caps (by simpa [J7]using hf) h⟩
 |.str _,v,_,h=>by unfold Rep at *;exact h
 |.clip _ _,v,hf,h=>by simp[J7]at hf
 |.mp id,v,_,h=>by unfold Rep at *;exact h
 |.rowp _ _ _,v,_,h=>by unfold Rep at *;exact h
 |.glob _,v,_,h=>by unfold Rep at *;exact h
 |.nilp,v,_,h=>by unfold Rep at *;exact h
 |.aptr _ _,v,_,h=>by unfold Rep at *;exact h
 |.tup vs,v,hf,h=>by
  unfold Rep at *
  obtain⟨us,e,h⟩:=h
  exact⟨us,e,Ae.flat vs (by simpa [J7]using hf) h⟩
theorem Ae.flat:∀ (cs:List AV) {vs:List Value},Kp cs=true→Ae w F m H cs vs→Ae w F0 m H cs vs
 |[],vs,_,h=>by unfold Ae at *;exact h
 |c::cs,vs,hf,h=>by
  unfold Ae at *
  simp only[Kp,Aol]at hf
  obtain⟨v,vs',e,h1,h2⟩:=h
  exact⟨v,vs',e,Rep.flat c hf.1 h1,Ae.flat cs hf.2 h2⟩
end
def AUs(ids:List Nat)(H H2:List Ob)(m m2:Mp):Prop:=∀ j o,H[j]? = some o→H2[ids.getD j 0]? = some (Dd ids o)∧m2 (ids.getD j 0)=m j
theorem E5(hm:AUs ids H H2 m m2)(Q:Option Ob→Option (Nat×Nat)→Prop)(hnone:∀ l,¬ Q none l)(hbox:∀ cs l,Q (some (.box cs)) l→Q (some (.box (LO ids cs))) l)(hprs:∀ T t t' is l,Q (some (.prs T t is)) l→Q (some (.prs T t' is)) l)(j:Nat)(h:Q H[j]? (m j)):Q H2[ids.getD j 0]? (m2 (ids.getD j 0)):=by
 cases ho:H[j]? with
 |none=>rw[ho]at h;exact absurd h (hnone _)
 |some o=>
  rw[ho]at h
  obtain⟨h1,h2⟩:=hm j o ho
  rw[h1,h2]
  cases o<;>first|exact h|exact hbox _ _ h|exact hprs _ _ _ _ _ h
mutual
theorem Rep.ren(hm:AUs ids H H2 m m2):∀ (a:AV) {v:Value},Rep w F m H a v→Rep w F m2 H2 (ED ids a) v
 |.junk,_,_=>by simp only[ED];unfold Rep;trivial
 |.rowp _ _ _,_,_=>by simp only[ED];unfold Rep;trivial
 |.glob g,v,h=>by simp only[ED];unfold Rep at *;exact h
 |.nilp,v,h=>by simp only[ED];unfold Rep at *;exact h
 |.aptr id n,v,h=>by
  simp only[ED];unfold Rep at *
  exact E5 hm (fun o l=>Fg o l n v) (fun l h=>h) (fun cs l h=>h) (fun _ _ _ _ l h=>h) id h
 |.data t d,v,h=>by simp only[ED];unfold Rep at *;exact h
 |.nils _,v,h=>by simp only[ED];unfold Rep at *;exact h
 |.agg cs,v,h=>by
  simp only[ED];unfold Rep at *
  obtain⟨vs,e,h,h1⟩:=h
  exact⟨vs,e,Ae.ren hm cs h,h1⟩
 |.own id,v,h=>by
  simp only[ED];unfold Rep at *
  exact E5 hm (fun o l=>A8 o l v) (fun l h=>h) (fun cs l h=>h) (fun _ _ _ _ l h=>h) id h
 |.win id off n,v,h=>by
  simp only[ED];unfold Rep at *
  exact E5 hm (fun o l=>HE o l off n v) (fun l h=>h) (fun cs l h=>h) (fun _ _ _ _ l h=>h) id h
 |.ptr id off,v,h=>by
  simp only[ED];unfold Rep at *
  exact E5 hm (fun o l=>HF o l off v) (fun l h=>h) (fun cs l h=>h) (fun _ _ _ _ l h=>h) id h
 |.eptr id i sub,v,h=>by
  simp only[ED];unfold Rep at *
  exact E5 hm (fun o l=>Ch o l i sub v) (fun l h=>h) (fun cs l h=>h) (fun _ _ _ _ l h=>h) id h
 |.dptr cs,v,h=>by
  simp only[ED];unfold Rep at *
  obtain⟨ad,us,e,h1,h2,h4,h3⟩:=h
  refine⟨ad,us,e,fun hne=>h1 (by rintro rfl;exact hne rfl),Ae.ren hm cs h2,h4,h3⟩
 |.clo f caps,v,h=>by
  simp only[ED];unfold Rep at *
  obtain⟨cs,e,h⟩:=h
  exact⟨cs,e,Ae.ren hm caps h⟩
 |.bnd f caps,v,h=>by
  simp only[ED];unfold Rep at *
  obtain⟨cs,e,h⟩:=h
  exact⟨cs,e,Ae.ren hm caps h⟩
 |.str _,v,h=>by simp only[ED];unfold Rep at *;exact h
 |.clip _ _,v,h=>by simp only[ED];unfold Rep at *;exact h
 |.mp id,v,h=>by
  simp only[ED];unfold Rep at *
  exact E5 hm (fun o l=>Mu o l v) (fun l h=>h) (fun cs l h=>h) (fun _ _ _ _ l h=>h) id h
 |.tup vs,v,h=>by
  simp only[ED];unfold Rep at *
  obtain⟨us,e,h⟩:=h
  exact⟨us,e,Ae.ren hm vs h⟩
theorem Ae.ren(hm:AUs ids H H2 m m2):∀ (cs:List AV) {vs:List Value},Ae w F m H cs vs→Ae w F m2 H2 (LO ids cs) vs
 |[],vs,h=>by simp only[LO];unfold Ae at *;exact h
 |c::cs,vs,h=>by
  simp only[LO];unfold Ae at *
  obtain⟨v,vs',e,h1,h2⟩:=h
  exact⟨v,vs',e,Rep.ren hm c h1,Ae.ren hm cs h2⟩
end
theorem Ahs(tgt:Nat)(is:List Int):LO ids (Fv tgt is)=Fv (ids.getD tgt 0) is:=by
 induction is with
 |nil=>rfl
 |cons x xs ih=>
  have:LO ids (Fv tgt (x::xs))=ED ids (.eptr tgt x.toNat 0)::LO ids (Fv tgt xs):=rfl
  rw[this,ih]
  rfl
theorem Afa(tgt:Nat)(is:List Int):Kp (Fv tgt is)=true:=by
 induction is with
 |nil=>rfl
 |cons x xs ih=>
  have:Kp (Fv tgt (x::xs))=(J7 (.eptr tgt x.toNat 0)&&Kp (Fv tgt xs)):=rfl
  rw[this,ih]
  rfl
theorem AX0{i j k:Nat}:∀ {ids:List Nat},Jr ids=true→ids[i]? = some k→ids[j]? = some k→i=j:=by
 intro ids h
 have:ids.Nodup:=by
  induction ids with
  |nil=>exact List.nodup_nil
  |cons a ids ih=>
   simp only[Jr,Aol,AqA,AqO,Apg]at h
   exact ApJ.2 ⟨h.1,ih h.2⟩
 intro h1 h2
 exact(List.getElem?_inj (F7 h1) this).1 (h1.trans h2.symm)
theorem AQp{i:Nat}{o:Ob}:∀ (ids:List Nat) (os:List Ob) (H:List Ob) (j:Nat),Jr ids=true→ids[j]? = some i→os[j]? = some o→i<H.length→(A9 (ids.zip os) H)[i]? = some o:=by
 intro ids
 induction ids with
 |nil=>intro os H j _ h;simp at h
 |cons a ids ih=>
  intro os H j hn h1 h2 hl
  cases os with
  |nil=>simp at h2
  |cons x os=>
   simp only[Jr,Aol,AqA,AqO,Apg]at hn
   simp only[ArD,A9]
   cases j with
   |zero=>
    simp only[ApP,Aoh]at h1 h2
    subst h1;subst h2
    rw[BY _ _ fun p hp => ?_,Ap7 hl]
    rintro rfl
    exact hn.1 (List.of_mem_zip hp).1
   |succ j=>
    simp only[Aqr]at h1 h2
    exact ih os _ j hn.2 h1 h2 (by simpa using hl)
def J8:List Nat→Nat→Option Nat
 |[],_=>none
 |x::xs,i=>if x=i then some 0 else(J8 xs i).map (· + 1)
theorem Zd{i j:Nat}:∀ {ids:List Nat},J8 ids i=some j→ids[j]? = some i:=by
 intro ids
 induction ids generalizing j with
 |nil=>intro h;simp[J8]at h
 |cons a ids ih=>
  intro h
  simp only[J8]at h
  split at h
  ·rename_i e;simp only[Aoh]at h;subst h;simp[e]
  ·rw[Aoy]at h
   obtain⟨k,h1,rfl⟩:=h
   simpa using ih h1
theorem ATw{i:Nat}:∀ {ids:List Nat},J8 ids i=none→i∉ids:=by
 intro ids
 induction ids with
 |nil=>intro _;simp
 |cons a ids ih=>
  intro h
  simp only[J8]at h
  split at h
  ·cases h
  ·rename_i hne
   rw[Option.map_eq_none_iff]at h
   simp only[Aoo,not_or]
   exact⟨fun e=>hne e.symm,ih h⟩
theorem Afd{i j:Nat}{ids:List Nat}(hn:Jr ids=true)(h:ids[j]? = some i):J8 ids i=some j:=by
 cases hf:J8 ids i with
 |none=>exact absurd (Aox h) (ATw hf)
 |some k=>rw[AX0 hn h (Zd hf)]
def mOf(ids:List Nat)(m3 m:Mp):Mp
 |.o i=>match J8 ids i with
  |some j=>m3 j
  |none=>m i
 |.r i k=>m (.r i k)
theorem AKU{fz:List Bool}:∀ {ids:List Nat} {bs:List Bnd},Fj H fz ids bs=true→∀ {j i:Nat},ids[j]? = some i→bs[j]? = some (.whole i)∨((∀ id,bs[j]?≠some (.whole id))∧At H fz i=true):=by
 intro ids
 induction ids with
 |nil=>intro bs _ j i h;simp at h
 |cons a ids ih=>
  intro bs h j i hj
  simp only[Fj,Aol]at h
  obtain⟨h1,h2⟩:=h
  cases j with
  |zero=>
   simp only[ApP,Aoh]at hj;subst hj
   split at h1
   ·rename_i id _
    simp only[Aok]at h1;subst h1
    exact .inl (by simp)
   ·rename_i hne
    refine .inr ⟨fun id he => ?_,h1⟩
    cases bs with
    |nil=>simp at he
    |cons b bs=>simp at he;subst he;exact hne id bs rfl
  |succ j=>
   simp only[Aqr]at hj
   have:=ih h2 hj
   cases bs with
   |nil=>simpa using this
   |cons b bs=>simpa using this
theorem AfI:∀ (n:Nat) (bs:List Bnd) (slot:Nat),(Ce n bs slot).length=n:=by
 intro n
 induction n with
 |zero=>intro bs slot;cases bs<;>rfl
 |succ n ih=>
  intro bs slot
  cases bs with
  |nil=>simp[Ce,ih]
  |cons b bs=>cases b<;>simp[Ce,ih]
theorem BR(st:St)(v:AV)(l:Loc):(place st v l).heap.length=st.heap.length:=by
 cases l with
 |tmp t=>rfl
 |cell j c=>simp only[place];split<;>simp
 |cap t i=>rfl
 |obj j=>rfl
theorem Aj3:∀ (its:AE) (d:B6 (leaves its)) (st:St),(enc its d st).heap.length=st.heap.length+C7 its:=by
 intro its
 induction its with
 |nil=>intro d st;rfl
 |cons p r ih=>
  intro d st
  obtain⟨l,c⟩:=p
  cases c with
  |dat t=>exact(ih _ _).trans (by rw[BR];rfl)
  |own T e=>exact(ih _ _).trans (by rw[BR];simp[Dr,C7];omega)
  |box n=>exact(ih _ _).trans (by rw[BR];simp[Dr,C7];omega)
  |map k v=>exact(ih _ _).trans (by rw[BR];simp[Dr,C7];omega)
  |prs T j=>exact(ih _ _).trans (by rw[BR];simp[Dr,C7];omega)
  |rows T e t=>exact(ih _ _).trans (by rw[BR];simp[Dr,C7];omega)
  |mrows j e t=>exact(ih _ _).trans (by rw[BR];simp[Dr,C7];omega)
  |aptr T e n=>exact(ih _ _).trans (by rw[BR];simp[Dr,C7];omega)
  |aptr' j n=>exact(ih _ _).trans (by rw[BR];rfl)
  |bndp f j=>exact(ih _ _).trans (by rw[BR];rfl)
  |nilp=>exact(ih _ _).trans (by rw[BR];rfl)
  |own' j=>exact(ih _ _).trans (by rw[BR];rfl)
  |ptr' j o=>exact(ih _ _).trans (by rw[BR];rfl)
  |map' j=>exact(ih _ _).trans (by rw[BR];rfl)
  |win' j=>exact(ih _ _).trans (by rw[BR];rfl)
  |sub' j=>exact(ih _ _).trans (by rw[BR];rfl)
  |clo f ps=>exact(ih _ _).trans (by rw[BR];rfl)
  |bnd f j=>exact(ih _ _).trans (by rw[BR];rfl)
  |nil e=>exact(ih _ _).trans (by rw[BR];rfl)
end
end Go.Pev
end
section
namespace Go.Pev
open Go.RowKit
theorem AES{H:List Ob}{fz:List Bool}{i:Nat}{o:Ob}(h:H[i]? = some o)(ha:alive o)(hf:fz.getD i false=false):owned H fz i:=by
 simp only[owned,Bn]
 rw[h]
 cases o with
 |free=>exact ha.elim
 |dead=>exact ha.elim
 |box cs=>trivial
 |arr T t xs=>exact hf
 |map k v es=>trivial
 |prs T t is=>trivial
 |rows T e t xs ver out=>exact hf
theorem AUn{o:Ob}(h:alive o):o≠.free∧o≠.dead:=by
 constructor<;>rintro rfl<;>exact h
theorem C5{H:List Ob}{fz:List Bool}{ids:List Nat}{i:Ix}(h:owned H (Ak ids fz) i):owned H fz i:=Pr h
theorem AHq{o o1:Ob}{ids:List Nat}(h:sameShape o o1):sameShape o (Dd ids o1):=by
 cases o<;>cases o1<;>simp only[sameShape,Dd]at *<;>exact h
theorem XY{i:Nat}:∀ {bs:List Bnd},i∈given bs↔∃ j:Nat,bs[j]? = some (.whole i):=by
 intro bs
 induction bs with
 |nil=>simp[given]
 |cons b bs ih=>
  have step:(∃ j:Nat,(b::bs)[j]? = some (.whole i))↔b = .whole i∨∃ j:Nat,bs[j]? = some (.whole i):=by
   constructor
   ·rintro⟨j,hj⟩
    cases j with
    |zero=>simp only[ApP,Aoh]at hj;exact .inl hj
    |succ j=>simp only[Aqr]at hj;exact .inr ⟨j,hj⟩
   ·rintro (h|⟨j,hj⟩)
    ·exact⟨0,by rw[h];rfl⟩
    ·exact⟨j+1,by simpa using hj⟩
  rw[step]
  cases b with
  |whole id=>simp only[given,Aoo,ih,Bnd.whole.injEq];exact⟨fun h=>h.imp Eq.symm (fun x=>x),fun h=>h.imp Eq.symm (fun x=>x)⟩
  |none=>simp[given,ih]
  |cut id=>simp[given,ih]
theorem Yu(a b:List (Nat×Ob)):∀ H,A9 (a++b) H=A9 b (A9 a H):=by
 induction a with
 |nil=>intro H;rfl
 |cons p a ih=>intro H;obtain⟨i,o⟩:=p;simp only[ApE,A9];exact ih _
def C9(gv:List Nat)(H:List Ob):List Ob:=A9 (gv.map fun i=>(i,.dead)) H
theorem AE4{gv:List Nat}{i:Nat}{H:List Ob}(h:i∉gv):(C9 gv H)[i]? = H[i]? :=
 BY _ _ fun p hp=>by
  rintro rfl
  obtain⟨x,hx,rfl⟩:=Ao1.1 hp
  exact h hx
theorem Ae6:∀ {gv:List Nat} {i:Nat} {H:List Ob},i∈gv→i<H.length→(C9 gv H)[i]? = some .dead:=by
 intro gv
 induction gv with
 |nil=>intro i H h;cases h
 |cons a gv ih=>
  intro i H h hl
  by_cases hg:i∈gv
  ·exact ih (H:=H.set a .dead) hg (by simpa using hl)
  ·have:(C9 gv (H.set a .dead))[i]? = (H.set a .dead)[i]? := AE4 hg
   rcases Aoo.1 h with rfl|h
   ·show(C9 gv (H.set i .dead))[i]? = _
    rw[this,Ap7 hl]
   ·exact absurd h hg
theorem AE5(gv:List Nat)(H:List Ob):(C9 gv H).length=H.length:=Yt ..
section
variable {w w':World} {F F2 F3 FR:Nat→Prop} {m m3:Mp} {H H1:List Ob} {fz fz1 fzR:List Bool} {bs:List Bnd} {ids fr:List Nat} {np:Nat}
theorem Afx(hiC:HI w F m H fz)(gA:Ap w F m H fz w F2 m H (Ak fr fz))
  (giv:∀ (j id:Nat),bs[j]? = some (.whole id)→owned H (Ak fr fz) id)
  (inj:∀ (i j id:Nat),bs[i]? = some (.whole id)→bs[j]? = some (.whole id)→i=j)
  (pin:∀ (j id:Nat),(bs.take np)[j]? = some (.whole id)→∃ o o1,H[id]? = some o∧alive o∧H1[j]? = some o1∧sameShape o o1∧m3 j=m id)
  (blk:∀ (j b c:Nat),owned H1 fz1 j→m3 j=some (b,c)→(∃ id c':Nat,(bs.take np)[j]? = some (.whole id)∧m id=some (b,c'))∨(∃ k id c':Nat,np≤k∧bs[k]? = some (.whole id)∧m id=some (b,c'))∨w.heap.size≤b)
  (os:w'.os=w.os) (tape:w'.tape=w.tape) (output:w'.output=w.output) (size:w.heap.size≤w'.heap.size)
  (keep:∀ b,b<w.heap.size→(∀ (j id:Nat) (c:Nat),bs[j]? = some (.whole id)→m id≠some (b,c))→w'.heap[b]? = w.heap[b]?)
  (sub:∀ b,F2 b→F3 b) (bnd:∀ b,F3 b→F2 b∨(∃ (j id c:Nat),bs[j]? = some (.whole id)∧m id=some (b,c))∨w.heap.size≤b)
  (hi1:HI w' F3 m3 H1 fz1) (al1:∀ (j:Nat) (o:Ob),H1[j]? = some o→alive o) (pl1:∀ (j:Nat) (o:Ob),H1[j]? = some o→BU o=true) (fr1:∀ j,fz1.getD j false=false)
  (hlen:ids.length=H1.length) (hok:Fj H fzR ids (bs.take np)=true) (hnd:Jr ids=true)
  (hR:(FR=F∧fzR=fz∧H1.all RH=true)∨(FR=F3∧fzR=Ak fr fz)) :
  Ap w F m H fz w' FR (mOf ids m3 m) (A9 (ids.zip (H1.map (Dd ids))) (C9 (given (bs.drop np)) H)) fzR∧AUs ids H1 (A9 (ids.zip (H1.map (Dd ids))) (C9 (given (bs.drop np)) H)) m3 (mOf ids m3 m):=by
 have hiR:∃ FB,HI w FB m H fzR∧(∀ b,F b→FB b)∧(∀ b,FB b→FR b)∧(∀ b,FB b→F2 b):=by
  rcases hR with⟨e1,e2,_⟩|⟨e1,e2⟩
  ·exact⟨F,by rw[e2];exact hiC,fun _ h=>h,fun _ h=>by rw[e1];exact h,gA.1.sub⟩
  ·exact⟨F2,by rw[e2];exact gA.2,gA.1.sub,fun b h=>by rw[e1];exact sub b h,fun _ h=>h⟩
 obtain⟨FB,hiB,hFB,hBR,hB2⟩:=hiR
 have ownR:∀ {i},owned H fzR i→owned H fz i:=by
  intro i h
  rcases hR with⟨_,e2,_⟩|⟨_,e2⟩
  ·rw[e2]at h;exact h
  ·rw[e2]at h;exact C5 h
 have pinR:∀ {id},owned H (Ak fr fz) id→owned H fzR id:=by
  intro id h
  rcases hR with⟨_,e2,_⟩|⟨_,e2⟩
  ·rw[e2];exact C5 h
  ·rw[e2];exact h
 have FR3:∀ b,FR b→F3 b:=by
  rcases hR with⟨e1,_,_⟩|⟨e1,_⟩
  ·rw[e1];exact fun b h=>sub b (gA.1.sub b h)
  ·rw[e1];exact fun _ h=>h
 have tk:∀ {j id:Nat},(bs.take np)[j]? = some (.whole id)→j<np∧bs[j]? = some (.whole id):=by
  intro j id h
  rw[ApU]at h
  split at h
  ·rename_i hj;exact⟨hj,h⟩
  ·cases h
 have tk':∀ {j id:Nat},j<np→bs[j]? = some (.whole id)→(bs.take np)[j]? = some (.whole id):=by
  intro j id hj h
  rw[ApU,Aoq hj];exact h
 have gvI:∀ {i:Nat},i∈given (bs.drop np)→∃ k,np≤k∧bs[k]? = some (.whole i):=by
  intro i h
  obtain⟨j,hj⟩:=XY.1 h
  rw[Apk]at hj
  exact⟨np+j,by omega,hj⟩
 have gvO:∀ {i k:Nat},np≤k→bs[k]? = some (.whole i)→i∈given (bs.drop np):=by
  intro i k hk h
  refine XY.2 ⟨k-np,?_⟩
  rw[Apk,show np+(k-np)=k by omega];exact h
 have hids:∀ {j i:Nat},ids[j]? = some i→(∃ o,H[i]? = some o)∧((bs.take np)[j]? = some (.whole i)∨((∀ (id:Nat),(bs.take np)[j]?≠some (.whole id))∧H[i]? = some .free∧fzR.getD i false=false)):=by
  intro j i hj
  rcases AKU hok hj with h|⟨h1,h2⟩
  ·obtain⟨o,o1,ho,_⟩:=pin j i h
   exact⟨⟨o,ho⟩,.inl h⟩
  ·obtain⟨h3,h4⟩:=BN h2
   exact⟨⟨_,h3⟩,.inr ⟨h1,h3,h4⟩⟩
 have gvN:∀ {i:Nat},i∈ids→i∉given (bs.drop np):=by
  intro i hi hg
  obtain⟨j,hj⟩:=ArQ hi
  obtain⟨k,hk,hb⟩:=gvI hg
  rcases(hids hj).2 with h|⟨_,h,_⟩
  ·obtain⟨h1,h2⟩:=tk h
   have:=inj _ _ _ h2 hb
   omega
  ·obtain⟨o,h1,h2,_⟩:=E4 (giv k i hb)
   rw[h]at h1;cases h1;exact h2 rfl
 have hunf:∀ {j i:Nat},ids[j]? = some i→∀ {o1:Ob},H1[j]? = some o1→∀ {T:TypeId} {t:Ty} {xs:List t.den},o1 = .arr T t xs→fzR.getD i false=false:=by
  intro j i hj o1 ho1 T t xs he
  rcases(hids hj).2 with h|⟨_,_,h⟩
  ·obtain⟨o,o2,ho,_,ho2,hs,_⟩:=pin j i h
   rw[ho1]at ho2;cases ho2
   subst he
   have h2:=pinR (giv j i (tk h).2)
   simp only[owned,Bn]at h2
   rw[ho]at h2
   cases o<;>simp only[sameShape]at hs
   exact h2
  ·exact h
 have hwhole:∀ {j id:Nat},(bs.take np)[j]? = some (.whole id)→ids[j]? = some id:=by
  intro j id hb
  obtain⟨o,o1,_,_,ho1,_⟩:=pin j id hb
  have hl:=Al ho1
  rw[← hlen]at hl
  have hg:ids[j]? = some ids[j]:=Aon hl
  rcases AKU hok hg with h|⟨h,_⟩
  ·rw[hb]at h;cases h;exact hg
  ·exact absurd hb (h id)
 have hgv:∀ {i:Nat},i∈given (bs.drop np)→(C9 (given (bs.drop np)) H)[i]? = some .dead:=by
  intro i hi
  obtain⟨k,_,hb⟩:=gvI hi
  obtain⟨o,ho,_⟩:=E4 (giv k i hb)
  exact Ae6 hi (Al ho)
 have getIn:∀ {j i:Nat} {o1:Ob},ids[j]? = some i→H1[j]? = some o1→(A9 (ids.zip (H1.map (Dd ids))) (C9 (given (bs.drop np)) H))[i]? = some (Dd ids o1):=by
  intro j i o1 hj ho1
  obtain⟨⟨o,ho⟩,_⟩:=hids hj
  exact AQp ids _ _ j hnd hj (by rw[ApV,ho1];rfl) (by rw[AE5];exact Al ho)
 have getOut0:∀ {i:Nat},i∉ids→(A9 (ids.zip (H1.map (Dd ids))) (C9 (given (bs.drop np)) H))[i]? = (C9 (given (bs.drop np)) H)[i]? := by
  intro i hi
  exact BY _ _ fun p hp=>by rintro rfl;exact hi (List.of_mem_zip hp).1
 have getOut:∀ {i:Nat},i∉ids→i∉given (bs.drop np)→(A9 (ids.zip (H1.map (Dd ids))) (C9 (given (bs.drop np)) H))[i]? = H[i]? := by
  intro i hi hg
  rw[getOut0 hi,AE4 hg]
 have getGv:∀ {i:Nat},i∈given (bs.drop np)→(A9 (ids.zip (H1.map (Dd ids))) (C9 (given (bs.drop np)) H))[i]? = some .dead:=by
  intro i hg
  rw[getOut0 fun h=>gvN h hg,hgv hg]
 have mIn:∀ {j i:Nat},ids[j]? = some i→mOf ids m3 m i=m3 j:=by
  intro j i hj;simp only[mOf];rw[Afd hnd hj]
 have mOut:∀ {x:Ix},x.id∉ids→mOf ids m3 m x=m x:=by
  intro x hi
  cases x with
  |r i k=>rfl
  |o i=>
   simp only[mOf]
   cases hf:J8 ids i with
   |none=>rfl
   |some j=>exact absurd (Aox (Zd hf)) hi
 have inOut:∀ i:Nat,(∃ j:Nat,ids[j]? = some i)∨i∈given (bs.drop np)∨(i∉ids∧i∉given (bs.drop np)):=by
  intro i
  by_cases h:i∈ids
  ·obtain⟨j,hj⟩:=ArQ h;exact .inl ⟨j,hj⟩
  ·by_cases h2:i∈given (bs.drop np)
   ·exact .inr (.inl h2)
   ·exact .inr (.inr ⟨h,h2⟩)
 have notGv:∀ {i:Ix},i.id∈given (bs.drop np)→¬ owned (A9 (ids.zip (H1.map (Dd ids))) (C9 (given (bs.drop np)) H)) fzR i:=by
  intro i hg ho
  obtain⟨o,h1,_,h3⟩:=C6 ho
  rw[getGv hg]at h1;cases h1;exact h3 rfl
 have has1:∀ {j i:Nat},ids[j]? = some i→∃ o1,H1[j]? = some o1:=by
  intro j i hj
  have hl:=F7 hj
  rw[hlen]at hl
  exact⟨_,Aon hl⟩
 have plR:∀ {o1:Ob},BU o1=true→BU (Dd ids o1)=true:=by
  intro o1 h;cases o1<;>first|exact h|rfl
 have cls:∀ x:Ix,owned (A9 (ids.zip (H1.map (Dd ids))) (C9 (given (bs.drop np)) H)) fzR x→(∃ i j:Nat,∃ o1,x = .o i∧ids[j]? = some i∧H1[j]? = some o1)∨(x.id∉ids∧x.id∉given (bs.drop np)):=by
  intro x hx
  rcases inOut x.id with⟨j,hj⟩|hg|h
  ·obtain⟨o1,ho1⟩:=has1 hj
   cases x with
   |o i=>exact .inl ⟨i,j,o1,rfl,hj,ho1⟩
   |r i k=>exact absurd hx (E2 (getIn hj ho1) (plR (pl1 j o1 ho1)))
  ·exact absurd hx (notGv hg)
  ·exact .inr h
 have own1:∀ {j:Nat} {o1:Ob},H1[j]? = some o1→owned H1 fz1 j:=fun h=>AES h (al1 _ _ h) (fr1 _)
 have blkNe:∀ {i b c:Nat},i∉ids→i∉given (bs.drop np)→(∃ o,H[i]? = some o∧o≠.free∧o≠.dead)→m i=some (b,c)→∀ {j id c':Nat},bs[j]? = some (.whole id)→m id≠some (b,c'):=by
  intro i b c hi hg ⟨o,ho,h1,h2⟩ hm j id c' hb he
  have hp:=giv j id hb
  have hne:i≠id:=by
   rintro rfl
   rcases ApT j np with hj|hj
   ·exact hi (Aox (hwhole (tk' hj hb)))
   ·exact hg (gvO hj hb)
  exact gA.2.ne hp he ho h1 h2 hm hne rfl
 have hcomp:CF H (A9 (ids.zip (H1.map (Dd ids))) (C9 (given (bs.drop np)) H)) m (mOf ids m3 m):=by
  intro i o ho hf
  rcases inOut i with⟨j,hj⟩|hg|⟨hi,hg⟩
  ·rcases(hids hj).2 with h|⟨_,h,_⟩
   ·obtain⟨o',o1,ho',ha,ho1,hs,hm⟩:=pin j i h
    rw[ho]at ho';cases ho'
    exact .inr ⟨(AUn ha).2,_,getIn hj ho1,AHq hs,by rw[mIn hj];exact hm,fun _ _ _=>rfl⟩
   ·rw[ho]at h;cases h;exact absurd rfl hf
  ·exact .inl (getGv hg)
  ·rcases CF.refl H m i o ho hf with h|⟨hd,o',h1,h2,_⟩
   ·exact .inl (by rw[getOut hi hg];exact h)
   ·exact .inr ⟨hd,o',by rw[getOut hi hg];exact h1,h2,mOut (x:=.o i) hi,fun _ _ _=>rfl⟩
 have hmoved:AUs ids H1 (A9 (ids.zip (H1.map (Dd ids))) (C9 (given (bs.drop np)) H)) m3 (mOf ids m3 m):=by
  intro j o ho
  have hl:=Al ho
  rw[← hlen]at hl
  have hg:ids[j]? = some ids[j]:=Aon hl
  have hd:ids.getD j 0=ids[j]:=by rw[Aoj,hg];rfl
  rw[hd]
  exact⟨getIn hg ho,mIn hg⟩
 have hkeepF:∀ b,FB b→w'.heap[b]? = w.heap[b]? := by
  intro b hb
  refine keep b (hiB.lt b hb) fun j id c hj he => ?_
  exact gA.2.off id b c (giv j id hj) he (hB2 b hb)
 have hcell:∀ k,F k→w'.heap[k]? = w.heap[k]? := fun k ha=>hkeepF _ (hFB _ ha)
 have ownOut:∀ {i:Ix},i.id∉ids→i.id∉given (bs.drop np)→owned (A9 (ids.zip (H1.map (Dd ids))) (C9 (given (bs.drop np)) H)) fzR i→owned H fzR i:=by
  intro i hi hg h
  exact(CV (getOut hi hg)).1 h
 have blkNe':∀ {x:Ix} {b c:Nat},x.id∉ids→x.id∉given (bs.drop np)→owned H fzR x→m x=some (b,c)→∀ {j id c':Nat},bs[j]? = some (.whole id)→m id≠some (b,c'):=by
  intro x b c hi hg ho hm j id c' hb he
  cases x with
  |o i=>exact blkNe hi hg (E4 ho) hm hb he
  |r i k=>exact gA.2.neX (giv j id hb) he ho.there hm (by simp) rfl
 have bOut:∀ {x:Ix} {b c:Nat},x.id∉ids→x.id∉given (bs.drop np)→owned H fzR x→m x=some (b,c)→∀ {j:Nat} {o1:Ob} {c':Nat},H1[j]? = some o1→m3 j≠some (b,c'):=by
  intro x b c hi hg ho hm j o1 c' ho1 he
  rcases blk j b c' (own1 ho1) he with⟨id,c2,hb,hm2⟩|⟨k,id,c2,_,hb,hm2⟩|hge
  ·exact blkNe' hi hg ho hm (tk hb).2 hm2
  ·exact blkNe' hi hg ho hm hb hm2
  ·have:=hiB.IJ ho hm;omega
 refine⟨⟨⟨os,tape,output,size,fun b hb hn=>keep b hb fun j id c hj he => ?_,fun b h=>hBR b (hFB b h),?_,?_,hcomp⟩,⟨?_,?_,?_,?_,?_,?_,?_,hiC.glo.mono hcell (fun b h=>hBR b (hFB b h)),?_⟩⟩,hmoved⟩
 ·exact hn id c (C5 (giv j id hj)) he
 ·-- what is frozen
  intro b hb
  rcases hR with⟨e1,_,_⟩|⟨e1,_⟩
  ·rw[e1]at hb;exact .inl hb
  ·rw[e1]at hb
   rcases bnd b hb with h|⟨j,id,c,h1,h2⟩|h
   ·exact gA.1.bnd b h
   ·exact .inr (.inl ⟨id,c,C5 (giv j id h1),h2⟩)
   ·exact .inr (.inr h)
 ·intro i b c ho hm
  rcases cls i ho with⟨i,j,o1,rfl,hj,ho1⟩|⟨hi,hg⟩
  ·rw[mIn hj]at hm
   rcases blk j b c (own1 ho1) hm with⟨id,c',h1,h2⟩|⟨k,id,c',_,h1,h2⟩|h
   ·exact .inl ⟨id,c',C5 (giv j id (tk h1).2),h2⟩
   ·exact .inl ⟨id,c',C5 (giv k id h1),h2⟩
   ·exact .inr h
  ·rw[mOut hi]at hm
   exact .inl ⟨i,c,ownR (ownOut hi hg ho),hm⟩
 ·-- objects
  intro i o ho
  rcases inOut i with⟨j,hj⟩|hg|⟨hi,hg⟩
  ·obtain⟨o1,ho1⟩:=has1 hj
   rw[getIn hj ho1]at ho;cases ho
   rw[mIn hj]
   have hob:=hi1.obj j o1 ho1
   cases o1 with
   |free=>trivial
   |dead=>trivial
   |box cs=>
    obtain⟨b,c,vs,T,a1,a2,a3,a4⟩:=hob
    refine⟨b,c,vs,T,a1,a2,Ae.ren hmoved cs ?_,a4⟩
    rcases hR with⟨e1,_,hfl⟩|⟨e1,_⟩
    ·rw[Ao2]at hfl
     exact Ae.flat cs (by simpa [RH]using hfl _ (Aox ho1)) a3
    ·rw[e1];exact a3
   |arr T t xs=>
    rcases hR with⟨e1,_,hfl⟩|⟨e1,_⟩
    ·rw[Ao2]at hfl
     have hft:t.flat=true:=by simpa [RH]using hfl _ (Aox ho1)
     obtain⟨h0,h1⟩:=hob
     refine⟨h0,?_⟩
     cases hm3:m3 j with
     |none=>rw[hm3]at h1;exact h1
     |some p=>
      obtain⟨b,cap⟩:=p
      rw[hm3]at h1
      obtain⟨vs,row,a1,a2,a3,a4,a5,a6⟩:=h1
      exact⟨vs,row,a1,a2,a3,a4,BM (fun x _ cs hx=>hx.flat t hft) a5,a6⟩
    ·rw[e1];exact hob
   |map k v es=>
    obtain⟨b,c,ms,clock,a1,a2,a3,a4⟩:=hob
    refine⟨b,c,ms,clock,a1,a2,?_,a4⟩
    rcases hR with⟨e1,_,hfl⟩|⟨e1,_⟩
    ·rw[Ao2]at hfl
     have hft:k.flat=true∧v.flat=true:=by simpa [RH]using hfl _ (Aox ho1)
     exact Afh hft.1 hft.2 a3
    ·rw[e1];exact a3
   |prs T tgt is=>
    simp only[Dd]
    cases hm3:m3 j with
    |none=>rw[hm3]at hob;exact hob
    |some p=>
     obtain⟨b,cap⟩:=p
     rw[hm3]at hob
     obtain⟨vs,us,a1,a2,a3,a4,a5,a6,a7⟩:=hob
     refine⟨vs,us,a1,a2,a3,a4,?_,a6,a7⟩
     rw[← Ahs]
     refine Ae.ren hmoved _ ?_
     rcases hR with⟨e1,_,hfl⟩|⟨e1,_⟩
     ·exact Ae.flat _ (Afa tgt is) a5
     ·rw[e1];exact a5
   |rows T e t xs ver out=>exact absurd (pl1 j _ ho1) (by simp[BU])
  ·rw[getGv hg]at ho;cases ho;trivial
  ·rw[getOut hi hg]at ho
   rw[mOut (x:=.o i) hi]
   refine ObI.mono hcell (fun b h=>hBR b (hFB b h)) hcomp (fun h1 h2 b c hm hlt=>keep b hlt fun j id c' hj=>blkNe hi hg ⟨o,ho,h1,h2⟩ hm hj) (hiC.obj i o ho)
 ·-- rows
  intro i
  rcases inOut i with⟨j,hj⟩|hg|⟨hi,hg⟩
  ·obtain⟨o1,ho1⟩:=has1 hj
   exact Bw.plain (getIn hj ho1) (plR (pl1 j o1 ho1))
  ·exact Bw.plain (getGv hg) rfl
  ·refine Bw.mono hcell (fun b h=>hBR b (hFB b h)) hcomp (getOut hi hg) (fun x hx=>mOut (by rw[hx];exact hi))
    (fun x hx hox b c hm hlt=>keep b hlt fun j id c' hj he => ?_) (hiC.row i)
   refine gA.2.neX (giv j id hj) he hox hm ?_ rfl
   rintro rfl
   have hx:id=i:=hx
   subst hx
   rcases ApT j np with hj'|hj'
   ·exact hi (Aox (hwhole (tk' hj' hj)))
   ·exact hg (gvO hj' hj)
 ·intro i T e t xs ver out hio hf x hx ht b c hm
  rcases inOut i with⟨j,hj⟩|hg|⟨hi,hg⟩
  ·obtain⟨o1,ho1⟩:=has1 hj
   rw[getIn hj ho1]at hio
   have:=plR (pl1 j o1 ho1)
   rw[Apr hio]at this;cases this
  ·rw[getGv hg]at hio;cases hio
  ·rw[mOut (x:=x) (by rw[hx];exact hi)]at hm
   have h1:=getOut hi hg
   exact hBR b (hiB.rfz i T e t xs ver out (h1▸hio) hf x hx ((CS (by rw[hx];exact h1)).1 ht) b c hm)
 ·-- apart
  intro i j b c b' c' hoi hoj hij hmi hmj
  rcases cls i hoi with⟨i,k,o1,rfl,hk,ho1⟩|⟨hi,hgi⟩
  ·rw[mIn hk]at hmi
   rcases cls j hoj with⟨j,l,o2,rfl,hl,ho2⟩|⟨hj,hgj⟩
   ·rw[mIn hl]at hmj
    have hkl:k≠l:=by rintro rfl;rw[hk]at hl;cases hl;exact hij rfl
    exact hi1.sep k l b c b' c' (own1 ho1) (own1 ho2) (Alr hkl) hmi hmj
   ·rw[mOut hj]at hmj
    rintro rfl
    exact bOut hj hgj (ownOut hj hgj hoj) hmj ho1 hmi
  ·rw[mOut hi]at hmi
   rcases cls j hoj with⟨j,l,o2,rfl,hl,ho2⟩|⟨hj,hgj⟩
   ·rw[mIn hl]at hmj
    rintro rfl
    exact bOut hi hgi (ownOut hi hgi hoi) hmi ho2 hmj
   ·rw[mOut hj]at hmj
    exact hiB.sep i j b c b' c' (ownOut hi hgi hoi) (ownOut hj hgj hoj) hij hmi hmj
 ·-- none of them frozen
  intro i b c hoi hmi hb
  rcases cls i hoi with⟨i,k,o1,rfl,hk,ho1⟩|⟨hi,hg⟩
  ·rw[mIn hk]at hmi
   exact hi1.off k b c (own1 ho1) hmi (FR3 b hb)
  ·rw[mOut hi]at hmi
   have ho:=ownOut hi hg hoi
   rcases hR with⟨e1,e2,_⟩|⟨e1,e2⟩
   ·rw[e1]at hb;exact hiC.off i b c (ownR ho) hmi hb
   ·rw[e1]at hb
    rcases bnd b hb with h|⟨j,id,c',h1,h2⟩|h
    ·rw[e2]at ho;exact gA.2.off i b c ho hmi h
    ·exact blkNe' hi hg ho hmi h1 h2
    ·have:=hiB.IJ ho hmi;omega
 ·intro i T t xs b c hio hf hmi
  rcases inOut i with⟨k,hk⟩|hg|⟨hi,hg⟩
  ·obtain⟨o1,ho1⟩:=has1 hk
   rw[getIn hk ho1]at hio
   have:o1 = .arr T t xs:=by
    cases o1<;>simp only[Dd,Aoh]at hio<;>first|exact hio|cases hio
   rw[hunf hk ho1 this]at hf;cases hf
  ·rw[getGv hg]at hio;cases hio
  ·rw[getOut hi hg]at hio
   rw[mOut (x:=.o i) hi]at hmi
   exact hBR b (hiB.froz i T t xs b c hio hf hmi)
 ·intro b hb
  exact hi1.lt b (FR3 b hb)
 ·rw[Yt,AE5]
  exact hiB.len
end
end Go.Pev
end
section
namespace Go.Pev
open Go.RowKit
section
variable {P:Program} {w:World} {F:Nat→Prop} {m:Mp} {st:St} {a:Act}
def AMj(tmps:Array Value):ResultVar→Sem Value
 |.tmp t=>pure (tmps.getD t undef)
 |.cell x t=>do loadVar t (← asAddr (tmps.getD x undef))
theorem ARD(hs:SI w F m st a){rv:ResultVar}{v:AV}(h:SR P st rv=some v):
  ∃ u,(AMj a.tmps rv).run P w = .ok u w∧Rep w F m st.heap v u:=by
 cases rv with
 |tmp t=>
  simp only[SR,Aoh]at h;subst h
  exact⟨_,rfl,hs.tmps t⟩
 |cell x T=>
  simp only[SR]at h
  split at h
  ·rename_i id off n ag h1 h2 h3
   split at h
   ·rename_i cs ho
    have hr:=hs.tmps x
    have e1:st.tmps.getD x .junk = .ptr id off:=h1
    rw[e1]at hr
    unfold Rep HF at hr
    rw[ho]at hr
    obtain⟨b,c,e2,e3⟩:=hr
    obtain⟨b',c',vs,T',e4,e5,e6,e7⟩:=hs.heap.obj id _ ho
    rw[e2]at e4;cases e4
    obtain⟨u,k1,k2⟩:=Ck (P:=P) h2 h3 h (E9 e6 off) (ad:=⟨b,off,none⟩) (fun u hu=>e7 u (AqG hu)) (fun j u hu=>by
     rw[Apk]at hu
     rw[B7]
     simp only[World.cell?,e5]
     simpa using hu)
    refine⟨u,?_,k2⟩
    simp[AMj,e3,asAddr,k1]
   ·cases h
  ·cases h
theorem AMi(hs:SI w F m st a):∀ {rvs:List ResultVar} {vs:List AV},DP P st rvs=some vs →
  ∃ us,(rvs.mapM (AMj a.tmps)).run P w = .ok us w∧Ae w F m st.heap vs us:=by
 intro rvs
 induction rvs with
 |nil=>
  intro vs h
  simp only[DP,Aoh]at h;subst h
  exact⟨[],by simp[List.mapM_nil],OK⟩
 |cons rv rvs ih=>
  intro vs h
  simp only[DP]at h
  split at h
  ·cases h
  ·rename_i v hv
   split at h
   ·cases h
   ·rename_i vs' hvs
    simp only[Aoh]at h;subst h
    obtain⟨u,h1,h2⟩:=ARD hs hv
    obtain⟨us,h3,h4⟩:=ih hvs
    refine⟨u::us,?_,by unfold Ae;exact⟨u,us,rfl,h2,h4⟩⟩
    rw[List.mapM_cons]
    simp only[Sem.run_bind]
    rw[h1]
    simp only[Result.andThen_ok]
    rw[h3]
    simp
def AYl(us:List Value):Value:=if h:us.toArray.size=1 then us.toArray[0]else .tuple us.toArray
theorem ADF(hs:SI w F m st a){fn:Func}{vs:List AV}(h:DP P st fn.results.toList=some vs):
  ∃ us,(results fn a.tmps).run P w = .ok (AYl us) w∧Ae w F m st.heap vs us:=by
 obtain⟨us,h1,h2⟩:=AMi hs h
 refine⟨us,?_,h2⟩
 have e:results fn a.tmps=(do
   let vs ← fn.results.mapM (AMj a.tmps)
   pure (if h:vs.size=1 then vs[0]else .tuple vs)):=by
  unfold results
  congr 2
 rw[e,ArY]
 simp only[Sem.run_bind,map_eq_pure_bind]
 rw[h1]
 rfl
theorem AJZ{H:List Ob}{vs:List AV}{us:List Value}(h:Ae w F m H vs us):Rep w F m H (single vs) (AYl us):=by
 have hl:=As h
 unfold AYl
 match vs,us,hl with
 |[],[],_=>
  simp only[single]
  unfold Rep
  exact⟨_,rfl,h⟩
 |[v],[u],_=>
  simp only[single]
  unfold Ae at h
  obtain⟨_,_,e,h1,_⟩:=h
  cases e
  exact h1
 |v::v'::vs,u::u'::us,_=>
  simp only[single]
  unfold Rep
  exact⟨_,rfl,h⟩
def JS:List RS→List Value→List Value
 |.one::r,u::us=>u::JS r us
 |.agg _::r,u::us=>u.cells.toList++JS r us
 |_,_=>[]
theorem AWq{H:List Ob}:∀ {rs:List RS} {vs:List AV} {us:List Value} {tm:List AV},Gk rs vs=some tm→Ae w F m H vs us →
  Ae w F m H tm (JS rs us)∧(JS rs us).length=cellsOf rs∧∀ (w2:World) (F2:Nat→Prop) (m2:Mp) (H2:List Ob) (ws:List AV),Ae w2 F2 m2 H2 ws (JS rs us)→Ae w2 F2 m2 H2 (Gf rs ws) us:=by
 intro rs
 induction rs with
 |nil=>
  intro vs us tm h hr
  cases vs with
  |nil=>
   simp only[Gk,Aoh]at h;subst h
   unfold Ae at hr;subst hr
   exact⟨OK,rfl,fun _ _ _ _ _ _=>OK⟩
  |cons v vs=>simp[Gk]at h
 |cons r rs ih=>
  intro vs us tm h hr
  cases vs with
  |nil=>cases r<;>simp[Gk]at h
  |cons v vs=>
   unfold Ae at hr
   obtain⟨u,us',rfl,hv,hr⟩:=hr
   cases r with
   |one=>
    simp only[Gk]at h
    split at h
    ·rename_i l hl
     simp only[Aoh]at h;subst h
     obtain⟨h1,h2,h3⟩:=ih hl hr
     refine⟨by simp only[JS];unfold Ae;exact⟨u,_,rfl,hv,h1⟩,by simp[JS,cellsOf,RS.cells,h2];omega,fun w2 F2 m2 H2 ws hw => ?_⟩
     simp only[JS]at hw
     cases ws with
     |nil=>unfold Ae at hw;cases hw
     |cons x ws=>
      unfold Ae at hw
      obtain⟨y,ys,e,q1,q2⟩:=hw
      cases e
      simp only[Gf,Arb,Aqm]
      unfold Ae
      exact⟨u,us',rfl,q1,h3 w2 F2 m2 H2 ws q2⟩
    ·cases h
   |agg n=>
    simp only[Gk]at h
    split at h
    ·rename_i cs hag hcs
     split at h
     ·rename_i hn
      simp only[Aok]at hn
      split at h
      ·rename_i l hl
       simp only[Aoh]at h;subst h
       obtain⟨h1,h2,h3⟩:=ih hl hr
       have hc:=cells?_ok hcs hv
       have ho:=cells?_one hcs hv
       have hcl:=As hc
       have hu:u = .agg u.cells:=by
        cases v<;>simp only[Tg]at hag<;>try (cases hag;done)
        ·rename_i t d
         unfold Rep Bg at hv
         rw[Aoq hag]at hv
         obtain⟨x,rfl,_⟩:=hv
         rfl
        ·unfold Rep at hv
         obtain⟨x,rfl,_⟩:=hv
         rfl
       refine⟨by simp only[JS];exact G3 hc h1,by simp[JS,cellsOf,RS.cells,h2]at hcl ⊢;omega,fun w2 F2 m2 H2 ws hw => ?_⟩
       simp only[JS]at hw
       have ht:=PO hw n
       have hd:=E9 hw n
       have hn':u.cells.toList.length=n:=by rw[hcl,hn]
       rw[Ara hn']at ht
       rw[List.drop_left' hn']at hd
       simp only[Gf]
       unfold Ae
       refine⟨u,us',rfl,?_,h3 w2 F2 m2 H2 _ hd⟩
       unfold Rep
       exact⟨u.cells,hu,ht,ho⟩
      ·cases h
     ·cases h
    ·cases h
end
end Go.Pev
end
section
namespace Go.Pev
open Go.RowKit
theorem OH {P : Program} {g : FuncId} {fn : Func} (hf : P.funcs[g]? = some fn) (hb : fn.body.isSome = true) (hn : (fn.name == "runtime.NumGoroutine") = false) : UW P g := by
 intro args w
 obtain⟨c,hc⟩:=Ap8.1 hb
 have hn' : ¬ fn.name = "runtime.NumGoroutine" := by simpa using hn
 simp[callFunc,hf,hn',hc]
theorem APL{P:Program}{np:Nat}{h:Hints}:∀ (c:Code) (n:Nat),loops c=0→DW P np h c n:=by
 intro c
 induction c with
 |seq a b iha ihb=>intro n hl;simp only[loops]at hl;exact⟨iha n (by omega),ihb _ (by omega)⟩
 |cond c a b iha ihb=>intro n hl;simp only[loops]at hl;exact⟨iha n (by omega),ihb _ (by omega)⟩
 |block id c ih=>intro n hl;simp only[loops]at hl;exact ih n hl
 |loop c ih=>intro n hl;simp only[loops]at hl;omega
 |_=>intro n _;trivial
section
variable {P:Program} {E:Env} {h:Hints} {g:FuncId} {fn:Func} {c:Code}
theorem Aah{w:World}{F:Nat→Prop}{m:Mp}{H:List Ob}{args:List AV}{vals:List Value}(hr:Ae w F m H args vals)(n:Nat)(t:Nat):
  Rep w F m H ((args++List.replicate n AV.junk).getD t .junk) ((vals.toArray++Array.replicate n undef).getD t undef):=by
 have hl:=As hr
 have e:(vals.toArray++Array.replicate n undef).getD t undef=(vals++List.replicate n undef).getD t undef:=by
  rw[ApS,Aoj,← Aqz]
  simp
 rw[e,Aoj,Aoj]
 rcases ApT t args.length with ht|ht
 ·rw[ApG ht,ApG (by omega)]
  obtain⟨v,hv,hrv⟩:=CN hr (i:=t) (c:=args[t]) (Aon ht)
  rw[hv,Aon ht]
  exact hrv
 ·rw[ApK ht,AqE]
  split<;>(unfold Rep;trivial)
theorem ASm(hE:∀ g,AN P g (E.spec g))(hL:Jc E)(hf:P.funcs[g]? = some fn)(hb:fn.body=some c)(hc:UW P g)(hl:loops c=0):
  AN P g (DL P E h fn):=by
 intro R args H fz slot k r hk
 simp only[DL,hb]at hk
 split at hk
 ·cases hk
 ·rename_i hle
  simp only[Aok]at hle
  obtain⟨e,st',h1,h2,h3⟩:=LQ hE hL (np:=H.length) c 0 (APL c 0 hl) R _ _ r hk
  have key:∃ vs,DP P st' fn.results.toList=some vs∧k (single vs) { heap:=some (st'.heap,st'.frz) }=some r∧(e = .normal∨e = .ret):=by
   cases e with
   |normal=>
    simp only at h1
    split at h1
    ·rename_i vs hvs;exact⟨vs,hvs,h1,.inl rfl⟩
    ·cases h1
   |ret=>
    simp only at h1
    split at h1
    ·rename_i vs hvs;exact⟨vs,hvs,h1,.inr rfl⟩
    ·cases h1
   |_=>simp at h1
  obtain⟨vs,hvs,h4,he⟩:=key
  refine⟨_,_,h4,fun R' k' => ?_,hc,fun w F m vals hi hr => ?_⟩
  ·simp only[DL,hb,hle,Aow]
   refine(h2 R' _).trans ?_
   rcases he with rfl|rfl<;>simp only[hvs]
  ·have hlv:=As hr
   refine calls_of_wp hf hb ?_
   have hsi:SI w F m { tmps:=args++List.replicate (fn.ntmps-args.length) .junk,heap:=H,frz:=fz } { tmps:=vals.toArray++Array.replicate (fn.ntmps-vals.toArray.size) undef,defers:=[] }:=by
    refine⟨fun t => ?_,?_,hi,rfl⟩
    ·have:=Aah hr (fn.ntmps-args.length) t
     simp only[AqB,hlv]
     exact this
    ·simp[hlv]
   refine h3 w F m _ _ hsi fun a' w' F' m' s1 x1 => ?_
   obtain⟨us,r1,r2⟩:=ADF s1 hvs
   have hgo:Ap w F m H fz w' F' m' st'.heap st'.frz:=⟨⟨x1.os,x1.tape,x1.output,x1.size,x1.keep,x1.sub,x1.bnd,x1.own,fun i o ho hf=>x1.comp i o (Al ho) ho hf⟩,s1.heap⟩
   have hpost:a'.defers=[]∧∃ v,(results fn a'.tmps).run P w' = .ok v w'∧(fun(en:Ending) (w':World)=>∃ u,en = .returned u∧∃ F' m',Ap w F m H fz w' F' m' (CO { heap:=some (st'.heap,st'.frz) } H) (GR { heap:=some (st'.heap,st'.frz) } fz)∧Rep w' F' m' (CO { heap:=some (st'.heap,st'.frz) } H) (single vs) u) (.returned v) w':=
    ⟨s1.defers,_,r1,_,rfl,F',m',hgo,AJZ r2⟩
   rcases he with rfl|rfl<;>exact hpost
theorem AKr{w:World}{F:Nat→Prop}{m:Mp}{H:List Ob}{fz:List Bool}{bs:List Bnd}{m':Mp}{E:St}{val:Nat→Value}(h:Inv w F m H fz bs m' E val){j:Nat}{o:Ob}(hj:E.heap[j]? = some o):alive o:=by
 have hlt:=Al hj
 rw[h.lenH]at hlt
 have hx:bs[j]? = some bs[j]:=Aon hlt
 have hb:=h.ob j _ hx
 cases hc:bs[j]with
 |none=>rw[hc]at hb;simp only[BO]at hb;obtain⟨_,⟨T,e,e2,_⟩|⟨T,e,e2⟩⟩:=hb<;>(rw[hj]at e2;cases e2;trivial)
 |whole id=>
  rw[hc]at hb;simp only[BO]at hb
  rcases hb.2 with⟨T,t,xs,_,a2,_⟩|⟨k,v,es,_,a2⟩|⟨cs,cs',b,c,vs,T,_,a2,_⟩|⟨_,_,_,_,_,a2,_⟩|⟨_,_,_,_,_,_,a2,_⟩<;>(rw[hj]at a2;cases a2;trivial)
 |cut id=>rw[hc]at hb;simp only[BO]at hb;obtain⟨T,t,xs,n,_,_,a3,_⟩:=hb;rw[hj]at a3;cases a3;trivial
theorem Ey{st:St}(h:st.heap.all BU=true)(v:AV)(l:Loc):(place st v l).heap.all BU=true:=by
 cases l with
 |cell j c=>
  simp only[place]
  split
  ·rw[Ao2]at h ⊢
   intro o ho
   rcases ArX ho with h1|rfl
   ·exact h o h1
   ·rfl
  ·exact h
 |_=>exact h
theorem KZ{st:St}(h:st.heap.all BU=true){o:Ob}(ho:BU o=true):(Dr st o).heap.all BU=true:=by simp[Dr,h,ho]
theorem Adr:∀ (its:AE) (d:B6 (leaves its)) (st:St),IH its=true→st.heap.all BU=true→(enc its d st).heap.all BU=true:=by
 intro its
 induction its with
 |nil=>intro d st _ h;exact h
 |cons p r ih=>
  intro d st hn h
  obtain⟨l,c⟩:=p
  cases c with
  |rows T e t=>simp[IH]at hn
  |mrows j e t=>simp[IH]at hn
  |aptr T e n=>exact ih _ _ hn (Ey (KZ h rfl) _ _)
  |own T e=>exact ih _ _ hn (Ey (KZ h rfl) _ _)
  |box n=>exact ih _ _ hn (Ey (KZ h rfl) _ _)
  |map k v=>exact ih _ _ hn (Ey (KZ h rfl) _ _)
  |prs T j=>exact ih _ _ hn (Ey (KZ h rfl) _ _)
  |_=>exact ih _ _ hn (Ey h _ _)
theorem Oz{its:AE}{d:B6 (leaves its)}{n:Nat}(hn:IH its=true){j:Nat}{o:Ob}(h:(encode n its d).heap[j]? = some o):BU o=true:=
 Ao2.1 (Adr its d (blank n) hn rfl) o (Aox h)
theorem ARK{its:AE}{d:B6 (leaves its)}{n:Nat}(hn:IH its=true){fz:List Bool}{x:Ix}(h:owned (encode n its d).heap fz x):x = .o x.id:=by
 cases x with
 |o i=>rfl
 |r i k=>
  obtain⟨o,ho,_⟩:=C6 h
  exact absurd h (E2 ho (Oz hn ho))
theorem ATv{np:Nat}{outs:AE}{rs:List RS}{st:St}{y:B6 (leaves outs)}(h:finish np P fn outs rs st=some y):
  ∃ vs tm bs fr,DP P st fn.results.toList=some vs∧Gk rs vs=some tm∧dec tm st.heap outs st.frz []=some (y,bs,fr)∧(pins np 0 bs&&(st.heap.take np).all BU)=true:=by
 unfold finish at h
 split at h
 ·rename_i vs hvs
  split at h
  ·rename_i tm htm
   split at h
   ·rename_i y' bs fr hd
    split at h
    ·rename_i hp
     simp only[Aoh]at h;subst h
     exact⟨vs,tm,bs,fr,hvs,htm,hd,hp⟩
    ·cases h
   ·cases h
  ·cases h
 ·cases h
theorem AeV(hE:∀ g,AN P g (E.spec g))(hL:Jc E)(hf:P.funcs[g]? = some fn)(hb:fn.body=some c)(hc:UW P g)
  {np na:Nat} (hna:na≤fn.ntmps) {its outs:AE} {rs:List RS} {f:B6 (leaves its)→Option (B6 (leaves outs))} (hfun:∀ x,f x=AL np P E h fn its outs rs x) (hl:DW P np h c 0) :
  AN P g (AF np na its outs rs f):=by
 intro R args H fz slot k r hk
 simp only[AF]at hk
 split at hk
 ·cases hk
 ·rename_i x bs fr hdec
  split at hk
  ·cases hk
  ·rename_i hchk
   simp only[Aol,Aok]at hchk
   obtain⟨⟨⟨huncut,hbl⟩,hal⟩,hri,hro⟩:=hchk
   split at hk
   ·cases hk
   ·rename_i y hy
    generalize hids:Ce (C7 outs) (bs.take np) slot=ids at hk
    generalize hgv:given (bs.drop np)=gv at hk
    have key:∃ e,k (single (Gf rs (LO ids (encode (cellsOf rs) outs y).tmps))) e=some r∧e.heap=none∧e.objs=gv.map (fun i=>(i,.dead))++ids.zip ((encode (cellsOf rs) outs y).heap.map (Dd ids)) ∧
      (∀ R' (k':AV→Eff→Option R'),KG R' gv (bs.take np) fr rs (encode (cellsOf rs) outs y) ids H fz k'=k' (single (Gf rs (LO ids (encode (cellsOf rs) outs y).tmps))) e) ∧
      Fj H (Ak e.frz fz) ids (bs.take np)=true∧Jr ids=true ∧
      ((e.frz=[]∧Kp (encode (cellsOf rs) outs y).tmps=true∧(encode (cellsOf rs) outs y).heap.all RH=true)∨e.frz=fr):=by
     unfold KG at hk
     split at hk
     ·rename_i hflat
      split at hk
      ·rename_i hok
       simp only[Aol]at hok hflat
       refine⟨_,hk,rfl,rfl,fun R' k'=>by simp only[KG,hflat.1,hflat.2,hok.1,hok.2,Apo],hok.1,hok.2,.inl ⟨rfl,hflat.1,hflat.2⟩⟩
      ·cases hk
     ·rename_i hflat
      split at hk
      ·rename_i hok
       simp only[Aol]at hok
       refine⟨_,hk,rfl,rfl,fun R' k'=>by simp only[KG,hflat,hok.1,hok.2,Apo],hok.1,hok.2,.inr rfl⟩
      ·cases hk
    obtain⟨e,h4,he1,he2,h5,hok,hnd,hfl⟩:=key
    refine⟨_,e,h4,fun R' k' => ?_,hc,fun w F m vals hi hr => ?_⟩
    ·simp only[AF,hdec,huncut,hbl,hal,hri,hro,hy,Aow,Apo,hids,hgv]
     exact h5 R' k'
    ·have hlv:=As hr
     rw[hfun x]at hy
     unfold AL at hy
     rw[hb]at hy
     simp only at hy
     obtain⟨ex,st',g1,_,g3⟩:=LQ hE hL c 0 hl _ _ _ _ hy
     have hfin:finish np P fn outs rs st'=some y∧(ex = .normal∨ex = .ret):=by
      cases ex with
      |normal=>exact⟨g1,.inl rfl⟩
      |ret=>exact⟨g1,.inr rfl⟩
      |_=>simp at g1
     obtain⟨hfin,hex⟩:=hfin
     obtain⟨vs,tm,bs',fr',hvs,htm,hd',hp⟩:=ATv hfin
     rw[Aol]at hp
     replace hp:=hp.1
     refine calls_of_wp hf hb ?_
     obtain⟨F2,m2,gA,invA,_⟩:=AZY (val:=fun t=>(vals.toArray++Array.replicate (fn.ntmps-vals.toArray.size) undef).getD t undef) its fz [] F (fun _=>none) (blank fn.ntmps) x bs fr hi
      (fun t v ht=>by
       have:=Aah hr (fn.ntmps-vals.toArray.size) t
       rw[Aoj,ApG (F7 ht),ht]at this
       exact this) (Inv.blank fn.ntmps) hdec
     have hsi:SI w F2 m2 (encode fn.ntmps its x) { tmps:=vals.toArray++Array.replicate (fn.ntmps-vals.toArray.size) undef,defers:=[] }:=by
      refine⟨invA.tmps,?_,invA.hi gA.2,rfl⟩
      rw[N3]
      simp[hlv]
      omega
     refine g3 w F2 m2 _ _ hsi fun a' w' F' m' s1 x1 => ?_
     obtain⟨us,r1,r2⟩:=ADF s1 hvs
     obtain⟨q1,q2,q3⟩:=AWq htm r2
     obtain⟨F3,m3,gC,invC,_⟩:=AZY (val:=fun t=>(JS rs us).getD t undef) outs st'.frz [] F' (fun _=>none) (blank (cellsOf rs)) y bs' fr' s1.heap
      (fun t v ht=>by
       obtain⟨u,hu,hru⟩:=CN q1 ht
       rw[Aoj,hu]
       exact hru) (Inv.blank (cellsOf rs)) hd'
     have srcA:∀ {j:Ix} {b c},owned (encode fn.ntmps its x).heap (encode fn.ntmps its x).frz j→m2 j=some (b,c)→∃ id:Nat,bs[j.id]? = some (.whole id)∧owned H (Ak fr fz) id∧m id=some (b,c):=by
      intro j b c ho hm
      have hj:=ARK hri ho
      obtain⟨y,id,k1,k2,k3,k4⟩:=invA.src ho hm
      rw[hj]at k3 k4
      rw[Ao2]at huncut
      have:=huncut y (Aox k1)
      cases y with
      |none=>simp[Bnd.id?]at k2
      |whole i=>simp only[Bnd.id?,Aoh]at k2;subst k2;exact⟨_,k1,k3,k4⟩
      |cut i=>simp[Bnd.AgO]at this
     have hinj:∀ (i j id:Nat),bs[i]? = some (.whole id)→bs[j]? = some (.whole id)→i=j:=fun i j id h1 h2=>invA.inj i j _ _ id h1 h2 rfl rfl
     have start:∀ (j id:Nat),bs[j]? = some (.whole id)→m2 j=m id∧∃ o o0,H[id]? = some o∧alive o∧(encode fn.ntmps its x).heap[j]? = some o0∧sameShape o o0∧alive o0∧owned H (Ak fr fz) id:=by
      intro j id hj
      have hA:=invA.ob j _ hj
      simp only[BO]at hA
      obtain⟨eA,hA⟩:=hA
      refine⟨eA,?_⟩
      rcases hA with⟨T,t,xs,a1,a2,a3⟩|⟨k,v,es,a1,a2⟩|⟨cs,cs',b,cc,vs,T,a1,a2,_⟩|⟨_,_,_,_,a1,a2,_⟩|⟨_,_,_,_,_,_,a2,_⟩
      ·exact⟨_,_,a1,trivial,a2,⟨rfl,rfl⟩,trivial,AES a1 trivial a3⟩
      ·exact⟨_,_,a1,trivial,a2,trivial,trivial,by simp only[owned,Bn];rw[a1];trivial⟩
      rotate_left
      ·exact⟨_,_,a1,trivial,a2,rfl,trivial,by simp only[owned,Bn];rw[a1];trivial⟩
      ·exact absurd (Oz hri a2) (by simp[BU])
      ·exact⟨_,_,a1,trivial,a2,trivial,trivial,by simp only[owned,Bn];rw[a1];trivial⟩
     have hpin:∀ (j id:Nat),(bs.take np)[j]? = some (.whole id)→∃ o o1,H[id]? = some o∧alive o∧(encode (cellsOf rs) outs y).heap[j]? = some o1∧sameShape o o1∧m3 j=m id:=by
      intro j id hj0
      rw[ApU]at hj0
      split at hj0
      case isFalse=>cases hj0
      rename_i hjn
      obtain⟨eA,o,o0,s1,s2,s3,s4,s5,s6⟩:=start j id hj0
      have hC:=invC.ob j _ (by have:=ARU _ 0 bs' hp j hjn;rw[Aph]at this;exact this)
      simp only[BO]at hC
      obtain⟨eC,hC⟩:=hC
      have mid:=x1.comp j o0 hjn s3 (AUn s5).1
      have fin:∃ o2 o1,st'.heap[j]? = some o2∧alive o2∧(encode (cellsOf rs) outs y).heap[j]? = some o1∧sameShape o2 o1:=by
       rcases hC with⟨T,t,xs,a1,a2,a3⟩|⟨k,v,es,a1,a2⟩|⟨cs,cs',b,cc,vs,T,a1,a2,_⟩|⟨_,_,_,_,a1,a2,_⟩|⟨_,_,_,_,_,_,a2,_⟩
       ·exact⟨_,_,a1,trivial,a2,⟨rfl,rfl⟩⟩
       ·exact⟨_,_,a1,trivial,a2,trivial⟩
       rotate_left
       ·exact⟨_,_,a1,trivial,a2,rfl⟩
       ·exact absurd (Oz hro a2) (by simp[BU])
       ·exact⟨_,_,a1,trivial,a2,trivial⟩
      obtain⟨o2,o1,t1,t2,t3,t4⟩:=fin
      rcases mid with md|⟨_,o2',md1,md2,md3,_⟩
      ·rw[t1]at md;cases md;exact t2.elim
      ·rw[t1]at md1;cases md1
       exact⟨o,o1,s1,s2,t3,(s4.trans md2).trans t4,by rw[eC,md3,eA]⟩
     have hiC1:=invC.hi gC.2
     have hblk:∀ j b cc:Nat,owned (encode (cellsOf rs) outs y).heap (encode (cellsOf rs) outs y).frz j→m3 j=some (b,cc)→(∃ id c':Nat,(bs.take np)[j]? = some (.whole id)∧m id=some (b,c'))∨(∃ k id c':Nat,np≤k∧bs[k]? = some (.whole id)∧m id=some (b,c'))∨w.heap.size≤b:=by
      intro j b cc ho hm
      obtain⟨_,i',k1,k2,k3,k4⟩:=invC.src ho hm
      rcases x1.own i' b cc (C5 k3) k4 with⟨i,c0,l1,l2⟩|h
      ·obtain⟨id,n1,n2,n3⟩:=srcA l1 l2
       have hio:=ARK hri l1
       generalize i.id=i0 at n1 hio
       subst hio
       rcases ApT i0 np with hin|hin
       ·left
        have n1':(bs.take np)[i0]? = some (.whole id):=by rw[ApU,Aoq hin];exact n1
        obtain⟨o,o1,p1,p2,p3,p4,p5⟩:=hpin i0 id n1'
        have hoi:owned (encode (cellsOf rs) outs y).heap (encode (cellsOf rs) outs y).frz i0:=AES p3 (AKr invC p3) (invC.frz i0)
        by_cases hij:j=i0
        ·subst hij;exact⟨id,c0,n1',n3⟩
        ·exact absurd rfl (hiC1.sep j i0 b cc b c0 ho hoi (Alr hij) hm (by rw[p5];exact n3))
       ·exact .inr (.inl ⟨i0,id,c0,hin,n1,n3⟩)
      ·exact .inr (.inr h)
     have hkeep:∀ b,b<w.heap.size→(∀ (j id:Nat) (c:Nat),bs[j]? = some (.whole id)→m id≠some (b,c))→w'.heap[b]? = w.heap[b]? := by
      intro b hb hn
      refine x1.keep b hb fun i cc ho hm => ?_
      obtain⟨id,n1,_,n3⟩:=srcA ho hm
      exact hn i.id id cc n1 n3
     have hbnd:∀ b,F3 b→F2 b∨(∃ (j id c:Nat),bs[j]? = some (.whole id)∧m id=some (b,c))∨w.heap.size≤b:=by
      have hx:∀ {i:Ix} {b cc:Nat},owned (encode fn.ntmps its x).heap (encode fn.ntmps its x).frz i→m2 i=some (b,cc)→∃ (j id c:Nat),bs[j]? = some (.whole id)∧m id=some (b,c):=by
       intro i b cc ho hm
       obtain⟨id,n1,_,n3⟩:=srcA ho hm
       exact⟨i.id,id,cc,n1,n3⟩
      intro b hb
      rcases gC.1.bnd b hb with h|⟨i,cc,ho,hm⟩|h
      ·rcases x1.bnd b h with h|⟨i,cc,ho,hm⟩|h
       ·exact .inl h
       ·exact .inr (.inl (hx ho hm))
       ·exact .inr (.inr h)
      ·rcases x1.own i b cc ho hm with⟨i',c0,ho,hm⟩|h
       ·exact .inr (.inl (hx ho hm))
       ·exact .inr (.inr h)
      ·exact .inr (.inr (Ap0 x1.size h))
     have hidl:ids.length=(encode (cellsOf rs) outs y).heap.length:=by
      rw[← hids,AfI];unfold encode;rw[Aj3];simp[blank]
     obtain⟨FR,hFR,hRR⟩:∃ FR,((FR=F∧Ak e.frz fz=fz∧(encode (cellsOf rs) outs y).heap.all RH=true)∨(FR=F3∧Ak e.frz fz=Ak fr fz))∧Ae w' FR m3 (encode (cellsOf rs) outs y).heap (encode (cellsOf rs) outs y).tmps (JS rs us):=by
      have hrt:Ae w' F3 m3 (encode (cellsOf rs) outs y).heap (encode (cellsOf rs) outs y).tmps (JS rs us):=by
       refine DV (by rw[N3,q2]) fun i a u ha hu => ?_
       have:=invC.tmps i
       rw[Aoj]at this
       have ha':(enc outs y (blank (cellsOf rs))).tmps[i]? = some a:=ha
       rw[ha',Aoj,hu]at this
       exact this
      rcases hfl with⟨f1,f2,f3⟩|f1
      ·exact⟨F,.inl ⟨rfl,by rw[f1];rfl,f3⟩,Ae.flat _ f2 hrt⟩
      ·exact⟨F3,.inr ⟨rfl,by rw[f1]⟩,hrt⟩
     obtain⟨hgo,hmv⟩:=Afx (ids:=ids) (np:=np) hi gA (fun j id hj=>(start j id hj).2.elim fun _ h=>h.elim fun _ h=>h.2.2.2.2.2) hinj hpin hblk x1.os x1.tape x1.output x1.size hkeep (fun b h=>gC.1.sub b (x1.sub b h)) hbnd hiC1 (fun j o hj=>AKr invC hj) (fun j o hj=>Oz hro hj) invC.frz hidl hok hnd hFR
     rw[hgv]at hgo hmv
     have hH:CO e H=A9 (ids.zip ((encode (cellsOf rs) outs y).heap.map (Dd ids))) (C9 gv H):=by rw[CE he1,he2,Yu];rfl
     have hZ:GR e fz=Ak e.frz fz:=CR he1 fz
     have hpost:a'.defers=[]∧∃ v,(results fn a'.tmps).run P w' = .ok v w'∧(fun(en:Ending) (w':World)=>∃ u,en = .returned u∧∃ F' m',Ap w F m H fz w' F' m' (CO e H) (GR e fz)∧Rep w' F' m' (CO e H) (single (Gf rs (LO ids (encode (cellsOf rs) outs y).tmps))) u) (.returned v) w':=by
      refine⟨s1.defers,_,r1,_,rfl,FR,mOf ids m3 m,?_,?_⟩
      ·rw[hH,hZ];exact hgo
      ·rw[hH]
       exact AJZ (q3 _ _ _ _ _ (Ae.ren hmv _ hRR))
     rcases hex with rfl|rfl<;>exact hpost
end
end Go.Pev
end
section
namespace Go.Pev
open Go.RowKit
def LV:Code→Nat→Option Code
 |.seq a b,n=>match LV a n with
  |some c=>some c
  |none=>LV b (n-loops a)
 |.cond _ a b,n=>match LV a n with
  |some c=>some c
  |none=>LV b (n-loops a)
 |.block _ c,n=>LV c n
 |.loop c,n=>match n with
  |0=>some c
  |n+1=>LV c n
 |_,_=>none
def AR(f:Func):Code:=match f.body with
 |some c=>c
 |none=>.skip
def AB(f:Func)(n:Nat):Code:=(LV (AR f) n).getD .skip
def AD:Code→Nat→List (Nat×Code)
 |.seq a b,n=>AD a n++AD b (n+loops a)
 |.cond _ a b,n=>AD a n++AD b (n+loops a)
 |.block _ c,n=>AD c n
 |.loop c,n=>[(n,c)]
 |_,_=>[]
def ALA(P:Program)(np:Nat)(h:Hints):List (Nat×Code)→Prop
 |[]=>True
 |p::l=>AY P np (.loop p.2) (h.loop p.1)∧ALA P np h l
theorem AK9{P:Program}{np:Nat}{h:Hints}:∀ {a b:List (Nat×Code)},ALA P np h (a++b)→ALA P np h a∧ALA P np h b:=by
 intro a
 induction a with
 |nil=>exact fun h=>⟨trivial,h⟩
 |cons p a ih=>intro b h;exact⟨⟨h.1,(ih h.2).1⟩,(ih h.2).2⟩
theorem AUt{P:Program}{np:Nat}{h:Hints}:∀ (c:Code) (n:Nat),ALA P np h (AD c n)→DW P np h c n:=by
 intro c
 induction c with
 |seq a b iha ihb=>intro n hl;have:=AK9 hl;exact⟨iha n this.1,ihb _ this.2⟩
 |cond c a b iha ihb=>intro n hl;have:=AK9 hl;exact⟨iha n this.1,ihb _ this.2⟩
 |block id c ih=>intro n hl;exact ih n hl
 |loop c ih=>intro n hl;exact hl.1
 |_=>intro n _;trivial
theorem AA{P:Program}{np:Nat}{h:Hints}{c:Code}{n:Nat}{l:List (Nat×Code)}(e:AD c n=l)(a:ALA P np h l):DW P np h c n:=AUt c n (by rw[e];exact a)
def AW(P:Program)(E:Env):Prop:=(∀ g,AN P g (E.spec g))∧Jc E
def Env.none:Env:={ spec:=fun _ _ _ _ _ _ _=>Option.none,loc:=fun _=>false,loc2:=fun _=>true }
theorem Env.ANT{P:Program}:AW P Env.none:=⟨fun g R args H fz slot k r h=>by simp[Env.none]at h,fun g h=>by simp[Env.none]at h,fun g _ R args H H' fz fz' slot k S _ _ _=>rfl⟩
def Env.ext(E:Env)(g:FuncId)(loc loc2:Bool)(s:Spec):Env where
 spec x:=match Nat.beq x g with
  |true=>s
  |false=>E.spec x
 loc x:=match Nat.beq x g with
  |true=>loc
  |false=>E.loc x
 loc2 x:=match Nat.beq x g with
  |true=>loc2
  |false=>E.loc2 x
theorem Env.Aa{P:Program}{E:Env}{g:FuncId}{loc loc2:Bool}{s:Spec}(h:AW P E)(hs:AN P g s)(hl:loc=true→Hq s)(hl2:loc2=true→PR s):AW P (E.ext g loc loc2 s):=by
 refine⟨?_,?_,?_⟩
 ·intro x
  simp only[Env.ext]
  cases hx:Nat.beq x g with
  |true=>have:=Ap2 hx;subst this;exact hs
  |false=>exact h.1 x
 ·intro x hx
  simp only[Env.ext]at hx ⊢
  cases hb:Nat.beq x g with
  |true=>rw[hb]at hx;exact hl hx
  |false=>rw[hb]at hx;exact h.2.1 x hx
 ·intro x hx
  simp only[Env.ext]at hx ⊢
  cases hb:Nat.beq x g with
  |true=>rw[hb]at hx;exact hl2 hx
  |false=>rw[hb]at hx;exact h.2.2 x hx
section
variable {P:Program} {E:Env} {h:Hints} {g:FuncId} {fn:Func}
theorem AO2(hb:fn.body.isSome=true):fn.body=some (AR fn):=by
 unfold AR
 cases h:fn.body with
 |none=>rw[h]at hb;cases hb
 |some c=>rfl
theorem AG (hE : AW P E) (hf : P.funcs[g]? = some fn) (hb : fn.body.isSome = true) (hn : (fn.name == "runtime.NumGoroutine") = false)
  {np na:Nat} (hna:(Nat.ble na fn.ntmps)=true) {its outs:AE} {rs:List RS} {f:B6 (leaves its)→Option (B6 (leaves outs))} (hfun:∀ x,f x=AL np P E h fn its outs rs x) (hl:DW P np h (AR fn) 0) :
  AN P g (AF np na its outs rs f):=
 AeV hE.1 hE.2 hf (AO2 hb) (OH hf hb hn) (ArL hna) hfun hl
theorem AkS (hE : AW P E) (hf : P.funcs[g]? = some fn) (hb : fn.body.isSome = true) (hn : (fn.name == "runtime.NumGoroutine") = false)
  {np na:Nat} (hna:(Nat.ble na fn.ntmps)=true) {its:AE} {os:An} {rs:List RS} {f:B6 (leaves its)→Option (Pk os)} (hfun:∀ x,f x=AXJ np P E h fn its os rs x) (hl:DW P np h (AR fn) 0) :
  AN P g (ASn np na its os rs f):=by
 intro R args H fz slot k r hk
 simp only[ASn]at hk
 split at hk
 ·cases hk
 ·rename_i x bs fr hdec
  split at hk
  ·cases hk
  ·rename_i hchk
   split at hk
   ·cases hk
   ·rename_i y hy
    have pick:∀ (os':An) (y':Pk os') (R:Type) (k:AV→Eff→Option R) (r:R),Gn R np bs fr rs slot H fz k os' y'=some r→∃ (o:Exit×AE) (d:B6 (leaves o.2)),IH o.2=true ∧
      (∀ R' (k':AV→Eff→Option R'),Gn R' np bs fr rs slot H fz k' os' y'=KG R' (given (bs.drop np)) (bs.take np) fr rs (encode (cellsOf rs) o.2 d) (Ce (C7 o.2) (bs.take np) slot) H fz k') ∧
      ∀ st,Hk np P fn rs st os'=some y'→finish np P fn o.2 rs st=some d:=by
     intro os'
     induction os' with
     |nil=>intro y' R k r h;simp[Gn]at h
     |cons o os' ih=>
      intro y' R k r h
      cases y' with
      |inl d=>
       simp only[Gn]at h
       split at h
       ·rename_i hno
        refine⟨o,d,hno,fun R' k'=>by simp only[Gn,hno],fun st hst => ?_⟩
        simp only[Hk]at hst
        split at hst
        ·rename_i d' hd'
         simp only[Aoh,Sum.inl.injEq]at hst
         rw[hd',hst]
        ·split at hst<;>simp at hst
       ·cases h
      |inr y'=>
       simp only[Gn]at h
       obtain⟨o',d,q1,q2,q3⟩:=ih y' R k r h
       refine⟨o',d,q1,fun R' k'=>by simp only[Gn];exact q2 R' k',fun st hst => ?_⟩
       simp only[Hk]at hst
       split at hst
       ·simp at hst
       ·split at hst
        ·rename_i x' hx'
         simp only[Aoh,Sum.inr.injEq]at hst
         exact q3 st (by rw[hx',hst])
        ·cases hst
    obtain⟨o,d,hno,hback,hfin⟩:=pick os y R k r hk
    have hcall:AL np P E h fn its o.2 rs x=some d:=by
     rw[hfun x]at hy
     unfold AXJ at hy
     unfold AL
     rw[AO2 hb]at hy ⊢
     simp only at hy ⊢
     obtain⟨ex,st',g1,g2,_⟩:=LQ hE.1 hE.2 (AR fn) 0 hl _ _ _ _ hy
     refine(g2 _ _).trans ?_
     cases ex with
     |normal=>exact hfin st' g1
     |ret=>exact hfin st' g1
     |_=>simp at g1
    have hs:=AG hE hf hb hn hna (its:=its) (outs:=o.2) (rs:=rs) (f:=AL np P E h fn its o.2 rs) (fun _=>rfl) hl
    simp only[Aol]at hchk
    have hsame:∀ R' (k':AV→Eff→Option R'),AF np na its o.2 rs (AL np P E h fn its o.2 rs) R' args H fz slot k'=Gn R' np bs fr rs slot H fz k' os y:=by
     intro R' k'
     rw[hback R' k']
     simp only[AF,hdec,hchk.1.1.1,hchk.1.1.2,hchk.1.2,hchk.2,hno,Apo,hcall]
    obtain⟨v,e,h1,h2,h3,h4⟩:=hs R args H fz slot k r (by rw[hsame];exact hk)
    refine⟨v,e,h1,fun R' k' => ?_,h3,h4⟩
    simp only[ASn,hdec,hchk.1.1.1,hchk.1.1.2,hchk.1.2,hchk.2,Apo,hy]
    rw[← hsame R' k']
    exact h2 R' k'
theorem Ct (hE : AW P E) (hf : P.funcs[g]? = some fn) (hb : fn.body.isSome = true) (hn : (fn.name == "runtime.NumGoroutine") = false) (hl : loops (AR fn) = 0) : AN P g (DL P E h fn) :=
 ASm hE.1 hE.2 hf (AO2 hb) (OH hf hb hn) hl
theorem AT{h':Hints}(hE:AW P E){np nt n:Nat}{body:Code}{its:AE}{os:An}{stp:B6 (leaves its)→Option (B6 (leaves its)⊕Pk os)}
  (hstep:∀ v,stp v=roundOf P E h' n np nt body its os v) (hl:DW P np h' body n):AY P np (.loop body) (AZ np nt its os stp):=Aev hE.1 hE.2 hstep hl
def AKf:AE→Bool
 |[]=>true
 |(.tmp _,.dat _)::r=>AKf r
 |_::_=>false
theorem Afj{H H':List Ob}{tm:List AV}(ha:∀ id∈BH tm,H[id]? = H'[id]?):∀ (its:AE) (fz fz':List Bool),AKf its=true→dec tm H its fz []=dec tm H' its fz' []:=by
 intro its
 induction its with
 |nil=>intro fz fz' _;rfl
 |cons p r ih=>
  intro fz fz' hd
  obtain⟨l,c⟩:=p
  cases l<;>cases c<;>simp only[AKf]at hd<;>try (cases hd;done)
  rename_i t ty
  simp only[dec,look]
  cases hv:tm[t]? with
  |none=>rfl
  |some v=>
   have hsub:∀ id∈Am v,H[id]? = H'[id]? := fun id hid=>ha id (by
    clear ih hd ha
    induction tm generalizing t with
    |nil=>simp at hv
    |cons a tm iht=>
     cases t with
     |zero=>simp at hv;subst hv;simp[BH,hid]
     |succ t=>simp only[BH,Aom];exact .inr (iht t (by simpa using hv)))
   simp only
   rw[Zl ty v hsub]
   cases Zm H' ty v with
   |none=>rfl
   |some q=>
    obtain⟨x,f⟩:=q
    simp only
    have hfr:f.all (fresh? [])=true:=by simp[fresh?]
    rw[hfr]
    simp only
    rw[ih (Ak f fz) (Ak f fz') hd]
theorem AfG:∀ (n slot:Nat),Ce n [] slot=List.range' slot n:=by
 intro n
 induction n with
 |zero=>intro slot;rfl
 |succ n ih=>intro slot;simp only[Ce,Aru];rw[ih]
theorem ZW{H H':List Ob}{fz fz':List Bool}:∀ (ids:List Nat),(∀ i∈ids,At H fz i=At H' fz' i)→Fj H fz ids []=Fj H' fz' ids []:=by
 intro ids
 induction ids with
 |nil=>intro _;rfl
 |cons a ids ih=>
  intro h
  simp only[Fj,List.tail_nil]
  rw[h a (by simp),ih fun i hi=>h i (by simp[hi])]
theorem AZZ{H:List Ob}{tm:List AV}:∀ (its:AE) (fz:List Bool) (bs:List Bnd) (x:B6 (leaves its)) (bs':List Bnd) (fr:List Nat),AKf its=true→dec tm H its fz bs=some (x,bs',fr)→bs'=bs:=by
 intro its
 induction its with
 |nil=>intro fz bs x bs' fr _ h;simp only[dec,Aoh]at h;cases h;rfl
 |cons p r ih=>
  intro fz bs x bs' fr hd h
  obtain⟨l,c⟩:=p
  cases l<;>cases c<;>simp only[AKf]at hd<;>try (cases hd;done)
  simp only[dec]at h
  split at h
  ·split at h
   ·split at h
    ·split at h
     ·rename_i xs bs1 g hdd
      simp only[Aoh]at h
      cases h
      exact ih _ _ _ _ _ hd hdd
     ·cases h
    ·cases h
   ·cases h
  ·cases h
theorem AI{np na:Nat}{its outs:AE}{rs:List RS}{f:B6 (leaves its)→Option (B6 (leaves outs))}(hd:AKf its=true)(hn:Nat.ble (C7 outs) 4=true):Hq (AF np na its outs rs f):=by
 intro R args H H' fz fz' slot k ha
 unfold AF
 rw[Afj ha.heap its fz fz' hd]
 split
 ·rfl
 ·rename_i x bs fr hdec
  have hbs:=AZZ its fz' [] x bs fr hd hdec
  subst hbs
  split
  ·rfl
  ·split
   ·rfl
   ·rename_i y hy
    simp only[List.take_nil,List.drop_nil]
    have hfree:∀ (g:List Nat) (i:Nat),i∈Ce (C7 outs) [] slot→At H (Ak g fz) i=At H' (Ak g fz') i:=by
     intro g i hi
     rw[AfG,List.mem_range'_1]at hi
     have:=ArL hn
     exact D1 ha hi.1 (by omega) g
    unfold KG
    rw[show Fj H fz (Ce (C7 outs) [] slot) []=Fj H' fz' (Ce (C7 outs) [] slot) []from ZW _ (hfree []),ZW _ (hfree fr)]
end
end Go.Pev
end
section
namespace Go.Pev
open Go.RowKit
def MJ{α:Type}(xs:List α):Option (List α):=match Py (AK xs)with
 |true=>some xs
 |false=>none
def RX[Lk]{α:Type}(xs:List α):Option (List α):=Lk.f (MJ xs)
theorem AKg{α:Type}(xs:List α):RX xs=MJ xs:=AJ _
noncomputable def Hl[Lk](e:TypeId)(t:Ty):Spec:=fun R args H fz slot k=>
 match args with
 |[x]=>match Eo H (.slice t) x with
  |some (xs,_)=>match(RX xs:Option (List t.den))with
   |none=>none
   |some y=>(match At H fz slot with|true=>k (.own slot) { objs:=[(slot,.arr e t y)] }|false=>none)
  |none=>none
 |_=>none
def AEU:Code→Nat→List Oper
 |.region id ops _,n=>if id=n then ops.toList else []
 |.seq a b,n=>AEU a n++AEU b n
 |.cond _ a b,n=>AEU a n++AEU b n
 |.block _ c,n=>AEU c n
 |.loop c,n=>AEU c n
 |_,_=>[]
def Bc(fn:Func)(n i:Nat):Oper:=((AEU (AR fn) n)[i]?).getD default
structure AHd(P:Program)(fn:Func)(T e:TypeId)(t:Ty):Prop where
 body:fn.body=some (.seq (.region 0 #[Bc fn 0 0] false) (.seq (.seq (.region 1 #[Bc fn 1 0,Bc fn 1 1] false) (.cond (.tmp 4) (.seq (.region 2 #[Bc fn 2 0] false) .ret) .skip)) (.seq (.region 3 #[Bc fn 3 0,Bc fn 3 1,Bc fn 3 2,Bc fn 3 3] false) .ret)))
 nt:fn.ntmps=8
 res:fn.results = #[.tmp 2]
 d:(Bc fn 0 0).dst=some 2∧(Bc fn 1 0).dst=some 3∧(Bc fn 1 1).dst=some 4∧(Bc fn 2 0).dst=some 2∧(Bc fn 3 0).dst=some 5∧(Bc fn 3 1).dst=some 6∧(Bc fn 3 2).dst=some 7∧(Bc fn 3 3).dst=some 2
 g:(Bc fn 0 0).guard=none∧(Bc fn 1 0).guard=none∧(Bc fn 1 1).guard=none∧(Bc fn 2 0).guard=none∧(Bc fn 3 0).guard=none∧(Bc fn 3 1).guard=none∧(Bc fn 3 2).guard=none∧(Bc fn 3 3).guard=none
 o00:(Bc fn 0 0).op = .assign (.const (.slice none 0 0))
 o10:(Bc fn 1 0).op = .move (.tmp 0)
 o11:(Bc fn 1 1).op = .binOp .eql T (.tmp 3) (.const (.slice none 0 0)) T
 o20:(Bc fn 2 0).op = .assign (.const (.slice none 0 0))
 o30:(Bc fn 3 0).op = .buildSlice T 0 #[]
 o31:(Bc fn 3 1).op = .move (.tmp 0)
 o32:(Bc fn 3 2).op = .call { callee:=.builtin .append,args:=#[.tmp 5,.tmp 6],argTypes:=#[T,T] }
 o33:(Bc fn 3 3).op = .assign (.tmp 7)
 sl:sliceAt P T=some (e,t)
 z:(zeroAt P e).isSome=true
 by1:(P.info? e).map (fun i=>decide (i.bytes≤1024))=some true
section
variable {P:Program} {g:FuncId}
theorem Gv{ops:Array Oper}{Q:Exit→Act→World→Prop}{i:Nat}{rest:List Nat}{a:Act}{w:World}{o:Oper}(ho:ops[i]? = some o)(hg:o.guard=none)(h:o.wp P a w (wpOps P ops Q rest) Q):wpOps P ops Q (i::rest) a w:=by
 simp only[wpOps,ho]
 rw[Aoq (by simp[Region.wanted,hg])]
 exact .inl h
theorem Gw{o:Oper}{a:Act}{w w':World}{next:Act→World→Prop}{Q:Exit→Act→World→Prop}{u:Value}(h:(execOp a.eval o).run P w = .ok (.value u) w')(hn:next (a.put o.dst u) w'):o.wp P a w next Q:=by
 unfold Oper.wp;rw[h];exact hn
variable {fn:Func} {T e:TypeId} {t:Ty}
theorem AKa{P:Program}{w:World}{ρ:Operand→Value}{o:Oper}{x:Operand}(h:o.op = .move x):(execOp ρ o).run P w = .ok (.value (ρ x)) w:=by simp[execOp,h]
theorem N1{P:Program}{w:World}{ρ:Operand→Value}{o:Oper}{x:Operand}(h:o.op = .assign x):(execOp ρ o).run P w = .ok (.value (ρ x)) w:=by simp[execOp,h]
theorem AkF (hs : AHd P fn T e t) (hf : P.funcs[g]? = some fn) (hn : (fn.name == "runtime.NumGoroutine") = false) : AN P g (Hl e t) := by
 intro R args H fz slot k r hk
 unfold Hl at hk
 split at hk
 ·rename_i x
  split at hk
  ·rename_i xs fr hx
   split at hk
   ·cases hk
   ·rename_i y hy
    split at hk
    ·rename_i hfree
     refine⟨_,_,hk,fun R' k'=>by simp only[Hl,hx,hy,hfree],OH hf (by rw[hs.body];rfl) hn,fun w F m vals hi hr => ?_⟩
     rw[AKg]at hy
     unfold MJ at hy
     split at hy
     ·rename_i hfit
      simp only[Aoh]at hy;subst hy
      have hr0:=hr
      unfold Ae at hr
      obtain⟨v,vs',rfl,hrv,hnil⟩:=hr
      unfold Ae at hnil;subst hnil
      obtain⟨hu,hty0,hpos⟩:=Bp hs.sl
      obtain⟨zz,hzz⟩:=Ap8.1 hs.z
      obtain⟨t',cs'⟩:=zz
      obtain⟨hty',hcs',i,z,hi0,hz0,hok,hsz,hza⟩:=Bl hzz
      subst hcs'
      have:t'=t:=by rw[hty0]at hty';exact(Apr hty').symm
      subst this
      have hzs:z.cells.size=i.size:=by
       have hzd:=Bb (w:=default) (F:=fun _=>False) t' _ hok
       rw[hsz,← Aoz];exact Dat.length t' hzd
      have hby':i.bytes≤1024:=by simpa [hi0]using hs.by1
      obtain⟨A,c,rfl,q2,q3,news,q4,q5⟩:=Dp hi hx hrv
      have hfit':xs.length≤4294967296:=by
       have:(xs.length:Int)≤4294967296:=(Xa _).1 hfit
       omega
      refine calls_of_wp hf hs.body ?_
      obtain⟨d0,d1,d2,d3,d4,d5,d6,d7⟩:=hs.d
      obtain⟨g0,g1,g2,g3,g4,g5,g6,g7⟩:=hs.g
      have hres:∀ (tm:Array Value) (w0:World),(results fn tm).run P w0 = .ok (tm.getD 2 undef) w0:=fun tm w0=>by simp[results,hs.res]
      refine wp_seq (wp_region ?_)
      simp only[AqB,Aot,ApA,Ap3,List.range_zero,ApI]
      refine Gv (by rfl) g0 (Gw (N1 hs.o00) ?_)
      refine wp_seq (wp_seq (wp_region ?_))
      simp only[AqB,Aot,ApA,Ap3,List.range_zero,ApI,ApE]
      refine Gv (by rfl) g1 (Gw (AKa hs.o10) ?_)
      refine Gv (by rfl) g2 (Gw (u:=.bool A.isNone) (w':=w) (by simp[execOp,hs.o11,Act.eval,Act.put,d0,d1,hs.nt,eqGuard,Lib.run_eql_slice_nil _ _ _ _ _ _ _ _ hu]) ?_)
      cases A with
      |none=>
       have hxs:xs=[]:=by
        cases xs with
        |nil=>rfl
        |cons a b=>exact absurd (q3 (by simp)) (by simp)
       subst hxs
       refine wp_cond_true (by simp[Act.eval,Act.put,d0,d1,d2,hs.nt]) ?_
       refine wp_seq (wp_region ?_)
       simp only[AqB,Aot,ApA,Ap3,List.range_zero,ApI]
       refine Gv (by rfl) g3 (Gw (N1 hs.o20) ?_)
       refine wp_ret ?_
       refine⟨by simp[Act.put,d0,d1,d2,d3],_,hres _ _,?_⟩
       obtain⟨m',hg,hrep⟩:=Dh (w:=w) hi hfree e hpos none
       refine⟨_,rfl,F,m',hg,?_⟩
       show Rep _ _ _ (H.set slot _) _ _
       simpa [Act.put,Act.eval,d0,d1,d2,d3,hs.nt]using hrep
      |some ad=>
       refine wp_cond_false (by simp[Act.eval,Act.put,d0,d1,d2,hs.nt]) ?_
       refine wp_skip ?_
       refine wp_seq (wp_region ?_)
       simp only[AqB,Aot,ApA,Ap3,List.range_zero,ApI,ApE]
       refine Gv (by rfl) g4 (Gw (u:=.slice (some ⟨w.heap.size,0,none⟩) 0 0) (w':=w.alloc (.cells #[] e)) (by
        have:=H8 (P:=P) (w:=w) (len:=0) (parts:=#[]) (us:=#[]) hu hi0 hz0 hsz (by omega) (by simp[Instr.fill])
        simp[execOp,hs.o30,this]) ?_)
       refine Gv (by rfl) g5 (Gw (AKa hs.o31) ?_)
       have hga:=Ap.grow (w':=w.alloc (.cells #[] e)) hi rfl rfl rfl (by simp) (fun b hb=>Below.heap_alloc w _ b hb)
       obtain⟨v,w',m',hrun,hg,hrep⟩:=Ff (P:=P) (T:=T) (ty:=(Bc fn 3 2).type) hga.2 hfree hu hi0 hz0 hzs hsz hpos hby' hfit' (some ⟨w.heap.size,0,none⟩) (A:=some ad) (c:=c) (ys:=xs) (news:=news) (fun _=>rfl)
        (BM (fun x _ cs hx=>hx.mono (fun a ha=>by simp[World.cell?,Below.heap_alloc w _ _ (hi.lt _ ha)]) (fun _ h=>h) t') q4) (fun ad' h j u hu'=>by
         have:=q5 ad' h j u hu'
         exact Lib.cell?_alloc_some _ this)
       refine Gv (by rfl) g6 (Gw (u:=v) (w':=w') (by
        simp[execOp,hs.o32,resolve,invoke,builtin,Act.eval,Act.put,d0,d1,d2,d4,d5,hs.nt,hrun]) ?_)
       refine Gv (by rfl) g7 (Gw (N1 hs.o33) ?_)
       refine wp_ret ?_
       refine⟨by simp[Act.put,d0,d1,d2,d4,d5,d6,d7],_,hres _ _,?_⟩
       refine⟨_,rfl,F,m',hga.trans hg,?_⟩
       show Rep _ _ _ (H.set slot _) _ _
       simpa [Act.put,Act.eval,d0,d1,d2,d4,d5,d6,d7,hs.nt]using hrep
     ·cases hy
    ·cases hk
  ·cases hk
 ·cases hk
theorem Ms(e:TypeId)(t:Ty):Hq (Hl e t):=by
 intro R args H H' fz fz' slot k ha
 unfold Hl
 cases args with
 |nil=>rfl
 |cons x r=>cases r with
  |cons y r=>rfl
  |nil=>
   simp only
   rw[Bo (.slice t) x fun id hid=>ha.heap id (by simpa [BH]using hid)]
   have:=D1 ha (s:=slot) (Aop _) (by omega) []
   simp only[Ak]at this
   rw[this]
end
end Go.Pev
end
section
namespace Go.Pev
noncomputable section
attribute [local irreducible] Py L6 Pe Po AjN AjO AjP WL ADG ACR AAG MJ Ab many IntKind.wrap AK BB Ac A1 B0 DS D6 AO CL Cp imax AS Ah
abbrev U0:Ty:=(.int .i64)
abbrev U1:=(Int×Int×Unit)
abbrev U2:Ty:=(.prod U0 (.prod U0 .unit))
abbrev U3:Ty:=(.slice U0)
abbrev U4:=(List Int)
abbrev U5:Ty:=(.slice (.prod U0 (.prod U0 (.prod U0 (.prod .bool .unit)))))
abbrev U6:=(Int×Int×Int×Bool×Unit)
abbrev U7:=(List U4×Int×Int×Int×Unit)
abbrev U8:=(List U1×Int×Int×Int×Unit)
abbrev U9:=(Int×Unit)
abbrev Ua:Ty:=(.slice U3)
abbrev Ub:=(Int×(List U1))
abbrev Uc:=(Int×Int)
abbrev Ud:=(List U4×Int×Int×Unit)
abbrev Ue:=(List U1×Int×Int×Unit)
abbrev Uf:=(Bool×Unit)
abbrev Ug:Ty:=(.slice U2)
abbrev Uh:Ty:=(.prod U0 (.prod Ua .unit))
abbrev Ui:=(List U4×Int×Int×Int×Int×Unit)
abbrev Uj:=(List U1×Int×Int×Int×Int×Unit)
abbrev Uk:=(Int×(List U4)×Unit)
abbrev Ul:=(List U4×Unit)
abbrev Um:=(List U1×Unit)
abbrev Un:=(List Int×Unit)
abbrev Uo:=(Int×(List U6)×Unit)
abbrev Up:Ty:=(.prod U0 (.prod U5 .unit))
abbrev Uq:Ty:=(.prod U3 (.prod U3 (.prod Ua .unit)))
abbrev Ur:=(List Int×Int×Int×Unit)
abbrev Us:=(U4×U4×(List U4)×Unit)
abbrev Ut:=(List U4×Int×Int×Int×Int×Int×Unit)
abbrev Uu:=(List U1×Int×Int×Int×Int×Int×Unit)
abbrev Uv:=(Int×List U4×List Bool×Int×Int×Int×List Int×Int×List Int×Int×Bool×Int×List Int×Bool×Bool×List Int×List Int×List U4×List Int×List U4×Bool×Bool×List Int×Int×Int×Bool×Unit)
abbrev Uw:=(Int×List U4×List Uc×Int×List U4×Int×Int×List Int×Int×Int×Bool×List Int×Bool×Bool×List Int×Int×List Int×Int×Bool×Int×List Int×Bool×Bool×List Int×Int×Int×Unit)
abbrev Ux:=(List Int×Int×Unit)
abbrev Uy:=(Int×List Int×Int×List Int×Int×Bool×Bool×Bool×Bool×Int×Int×Bool×Int×Int×Int×Int×Int×Bool×Int×Int×Int×Int×Int×Int×Int×Int×Int×Bool×Unit)
abbrev Uz:=(List Int×Int×List Int×List Uc×List Ub×Int×Int×Unit)
abbrev V0:=(List U1×Int×List Int×List Uc×List Ub×Int×Int×Unit)
abbrev V1:=(Int×List Int×List Uc×List Ub×Int×Unit)
abbrev V2:=(Int×List Int×List Uc×List Ub×List (U1×Int)×List U1×List Int×Int×Int×Unit)
abbrev V3:=(List U4×Int×Unit)
abbrev V4:=(List Int×List Int×Unit)
abbrev V5:=(List Int×Int×List Int×List Uc×List Ub×Int×Unit)
abbrev V6:=(List U1×Int×List Int×List Uc×List Ub×Int×Unit)
abbrev V7:=(List Int×Int×List Int×List Int×List U4×Int×List Int×Int×Int×Unit)
abbrev V8:=(Int×List U4×Int×Unit)
abbrev V9:=(List Int×Int×List Int×List Int×List U4×List Int×Int×Int×Unit)
abbrev Va:=(List U1×Int×List Int×List Uc×List Ub×Unit)
abbrev Vb:=(List Int×List Int×List Int×Int×Int×Unit)
abbrev Vc:=(Int×Int×List Int×List Uc×List Ub×Int×Int×Int×Bool×List U6×Int×Int×Int×Int×Bool×List Int×Int×Unit)
abbrev Vd:Ty:=(.int .u32)
abbrev Ve:=(Int×List Int×List Uc×List Ub×List (U1×Int)×List U1×List Int×Int×Int×List U1×Int×Int×Unit)
abbrev Vf:=(List Int×List Int×Int×Int×Unit)
abbrev Vg:=(Uo×Int×Int×Unit)
abbrev Vh:=(Uk×Int×Unit)
abbrev Vi:=(List Int×List Int×List U4×Int×List Int×List Uc×List Ub×List Bool×List Int×Int×Int×Unit)
abbrev Vj:=(Int×List Int×List U4×List U4×Int×Int×Unit)
abbrev Vk:=(List Int×Int×List Int×List Uc×List Ub×Unit)
abbrev Vl:=(List Int×List Int×List Int×List U4×Int×List U4×Int×List Int×Int×Int×Int×Unit)
abbrev Vm:=(List Int×Int×List Int×List Int×List U4×List Int×Int×Int×Int×Int×Int×Unit)
abbrev Vn:=(Int×Int×List U6×Int×List Int×List Uc×List Ub×List Int×Int×Int×Unit)
abbrev AE8:AE:=[(.tmp 0,.dat U3),(.tmp 1,.dat U3)]
abbrev AE7:AE:=[(.tmp 0,.dat .bool)]
abbrev AE6:List RS:=[.one]
abbrev AKO:AE:=[(.tmp 0,.dat U3),(.tmp 1,.dat U3),(.tmp 5,.di)]
abbrev AKN:An:=[(.ret,[(.tmp 4,.dat .bool)]),(.exit 0,[])]
def E7[Lk]:(List Int×List Int×Int×Unit)→Option ((List Int×List Int×Int×Unit)⊕Uf⊕(Unit)⊕Unit):=fun(a0,a1,a2,_)=>
 match(ilt a2 (AK a0))with
 |true=>match idx a0 a2 with|none=>none|some x0=>match idx a1 a2 with|none=>none|some x1=>match(!(ieq x0 x1))with
  |true=>some (.inr (.inl (false,())))
  |false=>some (.inl (a0,a1,(IntKind.wrap .i64 (a2+1)),()))
 |false=>some (.inr (.inr (.inl ())))
def Sp[Lk]:V4→Option (Uf):=fun(a0,a1,_)=>
 match(!(ieq (AK a0) (AK a1)))with
 |true=>some (false,())
 |false=>match AU E7 many (a0,a1,0,())with|none=>none|some r=>match r with
 |.inl (o0,_)=>some (o0,())
 |.inr r=>match r with
 |.inl _=>some (true,())
 |.inr _=>none
def IN[Lk]:=fun v=>Lk.f (Sp v)
theorem AKP v:IN v=Sp v:=AJ _
abbrev ABj:AE:=[(.tmp 0,.di)]
abbrev ABi:AE:=[(.tmp 0,.dat .bool)]
abbrev ABh:List RS:=[.one]
def R2[Lk]:U9→Option (Uf):=fun(a0,_)=>
 match(ile 1 a0)with
 |true=>some ((ile a0 64),())
 |false=>some (false,())
def M9[Lk]:=fun v=>Lk.f (R2 v)
theorem AJB v:M9 v=R2 v:=AJ _
abbrev Ag3:AE:=[(.tmp 0,.di),(.tmp 1,.di)]
abbrev Ag2:AE:=[(.tmp 0,.dat .bool)]
abbrev Ag1:List RS:=[.one]
def Aai[Lk]:U1→Option (Uf):=fun(a0,a1,_)=>
 match M9 (a0,())with|none=>none|some (y0,_)=>match y0 with
 |true=>match(ile 0 a1)with
  |true=>some ((ilt a1 a0),())
  |false=>some (false,())
 |false=>some (false,())
def tin[Lk]:=fun v=>Lk.f (Aai v)
theorem Ag4 v:tin v=Aai v:=AJ _
abbrev AVd:AE:=[(.tmp 0,.di),(.tmp 1,.di),(.tmp 2,.di)]
abbrev AVc:AE:=[(.tmp 0,.di)]
abbrev AVb:List RS:=[.one]
def ALt[Lk]:(Int×Int×Int×Unit)→Option (U9):=fun(a0,a1,a2,_)=>
 match(ieq a1 a2)with
 |true=>some ((-1:Int),())
 |false=>match tin (a0,a1,())with|none=>none|some (y0,_)=>match(!y0)with
 |true=>some ((-1:Int),())
 |false=>match tin (a0,a2,())with|none=>none|some (y1,_)=>match(!y1)with
 |true=>some ((-1:Int),())
 |false=>some ((IntKind.wrap .i64 ((IntKind.wrap .i64 (a0*(IntKind.wrap .i64 (a1+1))))+a2)),())
def Acx[Lk]:=fun v=>Lk.f (ALt v)
theorem Aaj v:Acx v=ALt v:=AJ _
abbrev ABf:AE:=[(.tmp 0,.di),(.tmp 1,.di)]
abbrev ABe:AE:=[(.tmp 0,.di),(.tmp 1,.di),(.tmp 2,.dat .bool),(.tmp 3,.dat .bool)]
abbrev ABd:List RS:=[.one,.one,.one,.one]
def R1[Lk]:U1→Option ((Int×Int×Bool×Bool×Unit)):=fun(a0,a1,_)=>
 match M9 (a0,())with|none=>none|some (y0,_)=>match(!y0)with
 |true=>some (0,0,false,false,())
 |false=>match(ilt a1 0)with
 |true=>some (0,0,false,false,())
 |false=>match(ile (IntKind.wrap .i64 (a0*(IntKind.wrap .i64 (a0+1)))) a1)with
 |true=>some (0,0,false,false,())
 |false=>match(ilt a1 a0)with
 |true=>some (a1,0,false,true,())
 |false=>match quo? .i64 a1 a0 with|none=>none|some x1=>match rem? a1 a0 with|none=>none|some x2=>match(ieq (IntKind.wrap .i64 (x1-1)) x2)with
 |true=>some (0,0,false,false,())
 |false=>some ((IntKind.wrap .i64 (x1-1)),x2,true,true,())
def ABg[Lk]:=fun v=>Lk.f (R1 v)
theorem AJA v:ABg v=R1 v:=AJ _
abbrev ALn:AE:=[(.tmp 0,.di)]
abbrev ALm:AE:=[(.tmp 0,.di),(.tmp 1,.own 43 U3),(.tmp 2,.di)]
abbrev ALl:List RS:=[.agg 2,.one]
abbrev AQK:AE:=[(.tmp 2,.box 2),(.cell 0 0,.di),(.cell 0 1,.nil U3),(.tmp 4,.box 2),(.cell 1 0,.di),(.cell 1 1,.own 43 U3),(.tmp 12,.di),(.tmp 13,.di)]
abbrev AQJ:An:=[(.exit 0,[(.tmp 2,.box 2),(.cell 0 0,.di),(.cell 0 1,.nil U3),(.tmp 4,.box 2),(.cell 1 0,.di),(.cell 1 1,.own 43 U3)])]
def H0[Lk]:(Int×Int×List U4×Int×Int×Unit)→Option ((Int×Int×List U4×Int×Int×Unit)⊕(Int×Int×List U4×Unit)⊕Unit):=fun(a0,a1,a2,a3,a4,_)=>
 match(ilt a4 a3)with
 |true=>match(fits ((AK a2)+(AK ([([a4]:List (Int))]:List U4))))with
  |true=>some (.inl (a0,a1,(A1 a2 ([([a4]:List (Int))]:List U4)),a3,(IntKind.wrap .i64 (a4+1)),()))
  |false=>none
 |false=>some (.inr (.inl (a0,a1,a2,())))
def AAo[Lk]:U9→Option (V8):=fun(a0,_)=>
 match M9 (a0,())with|none=>none|some (y0,_)=>match(!y0)with
 |true=>some (0,([]:List U4),1,())
 |false=>match AU H0 many (0,a0,([]:List U4),a0,0,())with|none=>none|some r=>match r with
 |.inl (o1,o2,o3,_)=>some (o2,o3,0,())
 |.inr _=>none
def AQM[Lk]:=fun v=>Lk.f (AAo v)
theorem AQL v:AQM v=AAo v:=AJ _
abbrev AFF:AE:=[(.tmp 0,.dat U3),(.tmp 1,.di)]
abbrev AFE:AE:=[(.tmp 0,.di)]
abbrev AFD:List RS:=[.one]
abbrev AKS:AE:=[(.tmp 0,.dat U3),(.tmp 1,.di),(.tmp 7,.di),(.tmp 8,.di)]
abbrev AKR:An:=[(.ret,[(.tmp 4,.di)]),(.exit 0,[])]
def F9[Lk]:(List Int×Int×Int×Int×Unit)→Option ((List Int×Int×Int×Int×Unit)⊕U9⊕(Unit)⊕Unit):=fun(a0,a1,a2,a3,_)=>
 match(ilt a3 a2)with
 |true=>match idx a0 a3 with|none=>none|some x0=>match(ieq a1 x0)with
  |true=>some (.inr (.inl (a3,())))
  |false=>some (.inl (a0,a1,a2,(IntKind.wrap .i64 (a3+1)),()))
 |false=>some (.inr (.inr (.inl ())))
def Sr[Lk]:Ux→Option (U9):=fun(a0,a1,_)=>
 match AU F9 many (a0,a1,(AK a0),0,())with|none=>none|some r=>match r with
 |.inl (o0,_)=>some (o0,())
 |.inr r=>match r with
 |.inl _=>some ((-1:Int),())
 |.inr _=>none
def Q1[Lk]:=fun v=>Lk.f (Sr v)
theorem AKT v:Q1 v=Sr v:=AJ _
abbrev OA:AE:=[(.tmp 0,.dat U3),(.tmp 1,.di)]
abbrev N9:AE:=[(.tmp 0,.dat .bool)]
abbrev N8:List RS:=[.one]
def JX[Lk]:Ux→Option (Uf):=fun(a0,a1,_)=>
 match Q1 (a0,a1,())with|none=>none|some (y0,_)=>some ((ile 0 y0),())
def GM[Lk]:=fun v=>Lk.f (JX v)
theorem TO v:GM v=JX v:=AJ _
abbrev AX8:AE:=[(.tmp 0,.dat U3)]
abbrev AX7:AE:=[(.tmp 0,.di)]
abbrev AX6:List RS:=[.one]
abbrev AbX:AE:=[(.tmp 0,.dat U3),(.tmp 3,.di),(.tmp 4,.di)]
abbrev AbW:An:=[(.exit 0,[(.tmp 3,.di)])]
def LZ[Lk]:Ur→Option (Ur⊕U9⊕Unit):=fun(a0,a1,a2,_)=>
 match(ilt a2 (AK a0))with
 |true=>match idx a0 a2 with|none=>none|some x0=>some (.inl (a0,(Cp a1 x0),(IntKind.wrap .i64 (a2+1)),()))
 |false=>some (.inr (.inl (a1,())))
def ANW[Lk]:Un→Option (U9):=fun(a0,_)=>
 match(ilt (AK a0) 1)with
 |true=>none
 |false=>match idx a0 0 with|none=>none|some x0=>match AU LZ many (a0,x0,1,())with|none=>none|some r=>match r with
 |.inl (o1,_)=>some (o1,())
 |.inr _=>none
def AeY[Lk]:=fun v=>Lk.f (ANW v)
theorem AbY v:AeY v=ANW v:=AJ _
abbrev AOL:AE:=[(.tmp 0,.nil U0),(.tmp 1,.di)]
abbrev AOK:AE:=[(.tmp 0,.own 3 U0)]
abbrev AOJ:List RS:=[.one]
def AA1[Lk]:U9→Option (Un):=fun(a0,_)=>
 match(ilt a0 0)with
 |true=>none
 |false=>match(ilt 0 (IntKind.wrap .i64 (a0-(IntKind.wrap .i64 (0-0)))))with
 |true=>match Cj ([]:List Unit) 0 0 with|none=>none|some _u0=>match(DM (IntKind.wrap .i64 (a0-(IntKind.wrap .i64 (0-0)))))with
  |true=>match Cj (D6 (AO (IntKind.wrap .i64 (a0-(IntKind.wrap .i64 ((0:Int)-(0:Int)))))) (0:Int)) (0:Int) (0:Int)with|none=>none|some x1=>some ((B0 (AO (AK x1)) (D6 (AO (IntKind.wrap .i64 (a0-(IntKind.wrap .i64 ((0:Int)-(0:Int)))))) (0:Int))),())
  |false=>none
 |false=>some (([]:List (Int)),())
def ATk[Lk]:=fun v=>Lk.f (AA1 v)
theorem ATj v:ATk v=AA1 v:=AJ _
abbrev Xp:AE:=[(.tmp 0,.dat Ua)]
abbrev Xo:AE:=[(.tmp 0,.own 3 U0)]
abbrev Xn:List RS:=[.one]
abbrev AGD:AE:=[(.tmp 6,.own 3 U0),(.tmp 25,.dat Ua),(.tmp 26,.di),(.tmp 27,.di)]
abbrev AGB:An:=[(.exit 2,[(.tmp 6,.own 3 U0)])]
def Ee[Lk]:(List Int×List U4×Int×Int×Unit)→Option ((List Int×List U4×Int×Int×Unit)⊕Un⊕Unit):=fun(a0,a1,a2,a3,_)=>
 match(ilt a3 a2)with
 |true=>match idx a1 a3 with|none=>none|some x0=>match(fits ((AK a0)+(AK x0)))with
  |true=>some (.inl ((A1 a0 x0),a1,a2,(IntKind.wrap .i64 (a3+1)),()))
  |false=>none
 |false=>some (.inr (.inl (a0,())))
abbrev AGE:AE:=[(.tmp 0,.dat Ua),(.tmp 3,.di),(.tmp 9,.dat Ua),(.tmp 10,.di),(.tmp 11,.di)]
abbrev AGC:An:=[(.exit 0,[(.tmp 0,.dat Ua),(.tmp 3,.di)])]
def Ef[Lk]:(List U4×Int×List U4×Int×Int×Unit)→Option ((List U4×Int×List U4×Int×Int×Unit)⊕V3⊕Unit):=fun(a0,a1,a2,a3,a4,_)=>
 match(ilt a4 a3)with
 |true=>match idx a2 a4 with|none=>none|some x0=>match(ilt (IntKind.wrap .i64 (a1+(AK x0))) 0)with
  |true=>none
  |false=>some (.inl (a0,(IntKind.wrap .i64 (a1+(AK x0))),a2,a3,(IntKind.wrap .i64 (a4+1)),()))
 |false=>some (.inr (.inl (a0,a1,())))
def PG[Lk]:Ul→Option (Un):=fun(a0,_)=>
 match AU Ef many (a0,0,a0,(AK a0),0,())with|none=>none|some r=>match r with
 |.inl (o0,o1,_)=>match ATk (o1,())with|none=>none|some (y2,_)=>match AU Ee many (y2,o0,(AK o0),0,())with|none=>none|some r=>match r with
  |.inl (o3,_)=>some (o3,())
  |.inr _=>none
 |.inr _=>none
def JY[Lk]:=fun v=>Lk.f (PG v)
theorem AGF v:JY v=PG v:=AJ _
abbrev IV:AE:=[(.tmp 0,.dat U3),(.tmp 1,.clo 96 [])]
abbrev IU:AE:=[(.tmp 0,.di)]
abbrev IT:List RS:=[.one]
abbrev Mm:AE:=[(.tmp 0,.dat U3),(.tmp 1,.clo 96 []),(.tmp 7,.di),(.tmp 8,.di)]
abbrev Ml:An:=[(.ret,[(.tmp 4,.di)]),(.exit 0,[])]
def B5[Lk]:Ur→Option (Ur⊕U9⊕(Unit)⊕Unit):=fun(a0,a1,a2,_)=>
 match(ilt a2 a1)with
 |true=>match idx a0 a2 with|none=>none|some x0=>match(ilt x0 0)with
  |true=>some (.inr (.inl (a2,())))
  |false=>match(ilt 10000 x0)with
  |true=>some (.inr (.inl (a2,())))
  |false=>some (.inl (a0,a1,(IntKind.wrap .i64 (a2+1)),()))
 |false=>some (.inr (.inr (.inl ())))
def FO[Lk]:Un→Option (U9):=fun(a0,_)=>
 match AU B5 many (a0,(AK a0),0,())with|none=>none|some r=>match r with
 |.inl (o0,_)=>some (o0,())
 |.inr r=>match r with
 |.inl _=>some ((-1:Int),())
 |.inr _=>none
def HW[Lk]:=fun v=>Lk.f (FO v)
theorem Mn v:HW v=FO v:=AJ _
abbrev HD:AE:=[(.tmp 0,.dat U3),(.tmp 1,.clo 96 [])]
abbrev HC:AE:=[(.tmp 0,.dat .bool)]
abbrev HB:List RS:=[.one]
def EN[Lk]:Un→Option (Uf):=fun(a0,_)=>
 match HW (a0,())with|none=>none|some (y0,_)=>some ((ile 0 y0),())
def EH[Lk]:=fun v=>Lk.f (EN v)
theorem Ks v:EH v=EN v:=AJ _
abbrev AXq:AE:=[(.tmp 0,.dat U3)]
abbrev AXp:AE:=[(.tmp 0,.dat .bool)]
abbrev AXo:List RS:=[.one]
abbrev AbN:AE:=[(.tmp 0,.dat U3),(.tmp 3,.map U0 U0),(.tmp 7,.dat U3),(.tmp 8,.di),(.tmp 9,.di)]
abbrev AbM:An:=[(.exit 0,[(.tmp 0,.dat U3),(.tmp 3,.map U0 U0)])]
def LU[Lk]:(List Int×List Uc×List Int×Int×Int×Unit)→Option ((List Int×List Uc×List Int×Int×Int×Unit)⊕(List Int×List Uc×Unit)⊕Unit):=fun(a0,a1,a2,a3,a4,_)=>
 match(ilt a4 a3)with
 |true=>match idx a2 a4 with|none=>none|some x0=>some (.inl (a0,(Ah a1 x0 (IntKind.wrap .i64 (((AS a1 x0).getD 0)+1))),a2,a3,(IntKind.wrap .i64 (a4+1)),()))
 |false=>some (.inr (.inl (a0,a1,())))
def ANN[Lk]:Un→Option (Uf):=fun(a0,_)=>
 match AU LU many (a0,([]:List Uc),a0,(AK a0),0,())with|none=>none|some r=>match r with
 |.inl (o0,o1,_)=>some ((ieq (AK o1) (AK o0)),())
 |.inr _=>none
def once[Lk]:=fun v=>Lk.f (ANN v)
theorem AbO v:once v=ANN v:=AJ _
abbrev ACu:AE:=[(.tmp 0,.dat U3)]
abbrev ACt:AE:=[(.tmp 0,.dat .bool)]
abbrev ACs:List RS:=[.one]
def SH[Lk]:Un→Option (Uf):=fun(a0,_)=>
 match(ilt 1000 (AK a0))with
 |true=>some (false,())
 |false=>match EH (a0,())with|none=>none|some (y0,_)=>match(!y0)with
 |true=>match once (a0,())with|none=>none|some (y1,_)=>some (y1,())
 |false=>some (false,())
def LM[Lk]:=fun v=>Lk.f (SH v)
theorem AJm v:LM v=SH v:=AJ _
abbrev ABc:AE:=[(.tmp 0,.dat U3),(.tmp 1,.di)]
abbrev ABb:AE:=[(.tmp 0,.own 3 U0)]
abbrev ABa:List RS:=[.one]
def R0[Lk]:Ux→Option (Un):=fun(a0,a1,_)=>
 match Cj a0 a1 (AK a0)with|none=>none|some x0=>match Cj a0 0 a1 with|none=>none|some x1=>match JY (([x0,x1]:List U4),())with|none=>none|some (y2,_)=>some (y2,())
def VH[Lk]:=fun v=>Lk.f (R0 v)
theorem AI9 v:VH v=R0 v:=AJ _
abbrev ADT:AE:=[(.tmp 0,.dat U3),(.tmp 1,.dat U3)]
abbrev ADS:AE:=[(.tmp 0,.own 3 U0),(.tmp 1,.dat .bool)]
abbrev ADR:List RS:=[.one,.one]
abbrev AJw:AE:=[(.tmp 0,.dat U3),(.tmp 6,.own 3 U0),(.tmp 12,.dat U3),(.tmp 13,.di),(.tmp 14,.di)]
abbrev AJv:An:=[(.exit 0,[(.tmp 6,.own 3 U0)])]
def Ez[Lk]:Vb→Option (Vb⊕Un⊕Unit):=fun(a0,a1,a2,a3,a4,_)=>
 match(ilt a4 a3)with
 |true=>match idx a2 a4 with|none=>none|some x0=>match Q1 (a0,x0,())with|none=>none|some (y1,_)=>match(fits ((AK a1)+(AK ([y1]:List (Int)))))with
  |true=>some (.inl (a0,(A1 a1 ([y1]:List (Int))),a2,a3,(IntKind.wrap .i64 (a4+1)),()))
  |false=>none
 |false=>some (.inr (.inl (a1,())))
def SX[Lk]:V4→Option ((List Int×Bool×Unit)):=fun(a0,a1,_)=>
 match LM (a0,())with|none=>none|some (y0,_)=>match(!y0)with
 |true=>some (([]:List (Int)),false,())
 |false=>match AU Ez many (a0,([]:List (Int)),a1,(AK a1),0,())with|none=>none|some r=>match r with
 |.inl (o1,_)=>match GM (o1,(-1:Int),())with|none=>none|some (y2,_)=>some (o1,(!y2),())
 |.inr _=>none
def places[Lk]:=fun v=>Lk.f (SX v)
theorem AJx v:places v=SX v:=AJ _
abbrev AMh:AE:=[(.tmp 0,.dat U3),(.tmp 1,.di)]
abbrev AMg:AE:=[(.tmp 0,.own 3 U0),(.tmp 1,.dat .bool)]
abbrev AMf:List RS:=[.one,.one]
def AAt[Lk]:Ux→Option ((List Int×Bool×Unit)):=fun(a0,a1,_)=>
 match places (a0,([a1]:List (Int)),())with|none=>none|some (y0,y1,_)=>match(!y1)with
 |true=>some (([]:List (Int)),false,())
 |false=>match idx y0 0 with|none=>none|some x2=>match VH (a0,(Ac y0 0 0),())with|none=>none|some (y3,_)=>some (y3,true,())
def AJp[Lk]:=fun v=>Lk.f (AAt v)
theorem ARC v:AJp v=AAt v:=AJ _
abbrev ACx:AE:=[(.tmp 0,.dat U3)]
abbrev ACw:AE:=[(.tmp 0,.own 3 U0)]
abbrev ACv:List RS:=[.one]
def SJ[Lk]:Un→Option (Un):=fun(a0,_)=>
 match LM (a0,())with|none=>none|some (y0,_)=>match(!y0)with
 |true=>some (([]:List (Int)),())
 |false=>match(ieq (AK a0) 0)with
 |true=>some (([]:List (Int)),())
 |false=>match AeY (a0,())with|none=>none|some (y1,_)=>match Q1 (a0,y1,())with|none=>none|some (y2,_)=>match VH (a0,y2,())with|none=>none|some (y3,_)=>some (y3,())
def ACy[Lk]:=fun v=>Lk.f (SJ v)
theorem AJn v:ACy v=SJ v:=AJ _
abbrev GC:AE:=[(.tmp 0,.dat Ua),(.cap 1 0,.box 1),(.cell 0 0,.di),(.tmp 1,.clo 113 [(0,0)])]
abbrev GB:AE:=[(.obj 0,.box 1),(.cell 0 0,.di),(.tmp 0,.di)]
abbrev GA:List RS:=[.one]
abbrev JG:AE:=[(.obj 0,.box 1),(.cell 0 0,.di),(.tmp 0,.dat Ua),(.tmp 1,.clo 113 [(0,0)]),(.tmp 7,.di),(.tmp 8,.di)]
abbrev JF:An:=[(.ret,[(.obj 0,.box 1),(.cell 0 0,.di),(.tmp 4,.di)]),(.exit 0,[(.obj 0,.box 1),(.cell 0 0,.di)])]
def Bj[Lk]:(Int×List U4×Int×Int×Unit)→Option ((Int×List U4×Int×Int×Unit)⊕U1⊕U9⊕Unit):=fun(a0,a1,a2,a3,_)=>
 match(ilt a3 a2)with
 |true=>match idx a1 a3 with|none=>none|some x0=>match GM (x0,a0,())with|none=>none|some (y1,_)=>match y1 with
  |true=>some (.inr (.inl (a0,a3,())))
  |false=>some (.inl (a0,a1,a2,(IntKind.wrap .i64 (a3+1)),()))
 |false=>some (.inr (.inr (.inl (a0,()))))
def D2[Lk]:V3→Option (U1):=fun(a0,a1,_)=>
 match AU Bj many (a1,a0,(AK a0),0,())with|none=>none|some r=>match r with
 |.inl (o0,o1,_)=>some (o0,o1,())
 |.inr r=>match r with
 |.inl (o2,_)=>some (o2,(-1:Int),())
 |.inr _=>none
def FM[Lk]:=fun v=>Lk.f (D2 v)
theorem JH v:FM v=D2 v:=AJ _
abbrev ABz:AE:=[(.tmp 0,.dat Uh),(.tmp 1,.di)]
abbrev ABy:AE:=[(.tmp 0,.di)]
abbrev ABx:List RS:=[.one]
def R6[Lk]:Vh→Option (U9):=fun(a0,a1,_)=>
 match FM (a0.2.1,a1,())with|none=>none|some (y0,y1,_)=>some (y1,())
def QH[Lk]:=fun v=>Lk.f (R6 v)
theorem AJQ v:QH v=R6 v:=AJ _
abbrev AZB:AE:=[(.tmp 0,.di),(.tmp 1,.dat U3)]
abbrev AZA:AE:=[(.tmp 0,.dat .bool)]
abbrev AY9:List RS:=[.one]
abbrev Abv:AE:=[(.tmp 0,.di),(.tmp 5,.box 3),(.cell 0 0,.own 3 U0),(.cell 0 1,.map U0 U0),(.cell 0 2,.map U0 U0),(.tmp 30,.dat U3),(.tmp 31,.di),(.tmp 32,.di)]
abbrev Abu:An:=[(.ret,[(.tmp 4,.dat .bool)]),(.exit 0,[(.tmp 5,.box 3),(.cell 0 0,.own 3 U0),(.cell 0 1,.map U0 U0),(.cell 0 2,.map U0 U0)])]
def JP[Lk]:(Int×List Int×List Uc×List Uc×List Int×Int×Int×Unit)→Option ((Int×List Int×List Uc×List Uc×List Int×Int×Int×Unit)⊕Uf⊕(List Int×List Uc×List Uc×Unit)⊕Unit):=fun(a0,a1,a2,a3,a4,a5,a6,_)=>
 match(ilt a6 a5)with
 |true=>match idx a4 a6 with|none=>none|some x0=>match ABg (a0,x0,())with|none=>none|some (y1,y2,y3,y4,_)=>match(!y4)with
  |true=>some (.inr (.inl (false,())))
  |false=>match y3 with
  |true=>match idx a1 (IntKind.wrap .i64 ((AK a1)-1))with|none=>none|some x5=>match(!(ieq (Ac a1 (AO (IntKind.wrap .i64 ((AK a1)-1))) 0) y1))with
   |true=>some (.inr (.inl (false,())))
   |false=>match(ilt 0 (IntKind.wrap .i64 ((AK a1)-1)))with
   |true=>match idx a1 (IntKind.wrap .i64 ((IntKind.wrap .i64 ((AK a1)-1))-1))with|none=>none|some x6=>match(ieq (Ac a1 (AO (IntKind.wrap .i64 ((IntKind.wrap .i64 ((AK a1)-1))-1))) 0) y2)with
    |true=>match Cj a1 0 (IntKind.wrap .i64 ((AK a1)-1))with|none=>none|some x7=>match(!y3)with
     |true=>match idx (DS 0 (AO (AK x7)) a1) (IntKind.wrap .i64 ((((AO (AK x7)):Nat):Int)-1))with|none=>none|some x8=>match(!(ieq (Ac a1 (0+(AO (IntKind.wrap .i64 ((((AO (AK x7)):Nat):Int)-1)))) 0) y1))with
      |true=>some (.inr (.inl (false,())))
      |false=>match(!y3)with
      |true=>some (.inl (a0,(B0 (AO (AK x7)) a1),a2,(Ah a3 y1 (IntKind.wrap .i64 (((AS a3 y1).getD 0)+1))),a4,a5,(IntKind.wrap .i64 (a6+1)),()))
      |false=>some (.inl (a0,(B0 (AO (AK x7)) a1),a2,a3,a4,a5,(IntKind.wrap .i64 (a6+1)),()))
     |false=>match(!y3)with
     |true=>some (.inl (a0,(B0 (AO (AK x7)) a1),a2,(Ah a3 y1 (IntKind.wrap .i64 (((AS a3 y1).getD 0)+1))),a4,a5,(IntKind.wrap .i64 (a6+1)),()))
     |false=>some (.inl (a0,(B0 (AO (AK x7)) a1),a2,a3,a4,a5,(IntKind.wrap .i64 (a6+1)),()))
    |false=>match(ilt 0 ((AS a2 y2).getD 0))with
    |true=>some (.inr (.inl (false,())))
    |false=>match(fits ((AK a1)+(AK ([y2]:List (Int)))))with
    |true=>match(!y3)with
     |true=>match idx (A1 a1 ([y2]:List (Int))) (IntKind.wrap .i64 ((AK (A1 a1 ([y2]:List (Int))))-1))with|none=>none|some x9=>match(!(ieq (Ac (A1 a1 ([y2]:List (Int))) (AO (IntKind.wrap .i64 ((AK (A1 a1 ([y2]:List (Int))))-1))) 0) y1))with
      |true=>some (.inr (.inl (false,())))
      |false=>match(!y3)with
      |true=>some (.inl (a0,(A1 a1 ([y2]:List (Int))),(Ah a2 y2 (IntKind.wrap .i64 (((AS a2 y2).getD 0)+1))),(Ah a3 y1 (IntKind.wrap .i64 (((AS a3 y1).getD 0)+1))),a4,a5,(IntKind.wrap .i64 (a6+1)),()))
      |false=>some (.inl (a0,(A1 a1 ([y2]:List (Int))),(Ah a2 y2 (IntKind.wrap .i64 (((AS a2 y2).getD 0)+1))),a3,a4,a5,(IntKind.wrap .i64 (a6+1)),()))
     |false=>match(!y3)with
     |true=>some (.inl (a0,(A1 a1 ([y2]:List (Int))),(Ah a2 y2 (IntKind.wrap .i64 (((AS a2 y2).getD 0)+1))),(Ah a3 y1 (IntKind.wrap .i64 (((AS a3 y1).getD 0)+1))),a4,a5,(IntKind.wrap .i64 (a6+1)),()))
     |false=>some (.inl (a0,(A1 a1 ([y2]:List (Int))),(Ah a2 y2 (IntKind.wrap .i64 (((AS a2 y2).getD 0)+1))),a3,a4,a5,(IntKind.wrap .i64 (a6+1)),()))
    |false=>none
   |false=>match(ilt 0 ((AS a2 y2).getD 0))with
   |true=>some (.inr (.inl (false,())))
   |false=>match(fits ((AK a1)+(AK ([y2]:List (Int)))))with
   |true=>match(!y3)with
    |true=>match idx (A1 a1 ([y2]:List (Int))) (IntKind.wrap .i64 ((AK (A1 a1 ([y2]:List (Int))))-1))with|none=>none|some x10=>match(!(ieq (Ac (A1 a1 ([y2]:List (Int))) (AO (IntKind.wrap .i64 ((AK (A1 a1 ([y2]:List (Int))))-1))) 0) y1))with
     |true=>some (.inr (.inl (false,())))
     |false=>match(!y3)with
     |true=>some (.inl (a0,(A1 a1 ([y2]:List (Int))),(Ah a2 y2 (IntKind.wrap .i64 (((AS a2 y2).getD 0)+1))),(Ah a3 y1 (IntKind.wrap .i64 (((AS a3 y1).getD 0)+1))),a4,a5,(IntKind.wrap .i64 (a6+1)),()))
     |false=>some (.inl (a0,(A1 a1 ([y2]:List (Int))),(Ah a2 y2 (IntKind.wrap .i64 (((AS a2 y2).getD 0)+1))),a3,a4,a5,(IntKind.wrap .i64 (a6+1)),()))
    |false=>match(!y3)with
    |true=>some (.inl (a0,(A1 a1 ([y2]:List (Int))),(Ah a2 y2 (IntKind.wrap .i64 (((AS a2 y2).getD 0)+1))),(Ah a3 y1 (IntKind.wrap .i64 (((AS a3 y1).getD 0)+1))),a4,a5,(IntKind.wrap .i64 (a6+1)),()))
    |false=>some (.inl (a0,(A1 a1 ([y2]:List (Int))),(Ah a2 y2 (IntKind.wrap .i64 (((AS a2 y2).getD 0)+1))),a3,a4,a5,(IntKind.wrap .i64 (a6+1)),()))
   |false=>none
  |false=>match(!y3)with
  |true=>match idx a1 (IntKind.wrap .i64 ((AK a1)-1))with|none=>none|some x11=>match(!(ieq (Ac a1 (AO (IntKind.wrap .i64 ((AK a1)-1))) 0) y1))with
   |true=>some (.inr (.inl (false,())))
   |false=>match(!y3)with
   |true=>some (.inl (a0,a1,a2,(Ah a3 y1 (IntKind.wrap .i64 (((AS a3 y1).getD 0)+1))),a4,a5,(IntKind.wrap .i64 (a6+1)),()))
   |false=>some (.inl (a0,a1,a2,a3,a4,a5,(IntKind.wrap .i64 (a6+1)),()))
  |false=>match(!y3)with
  |true=>some (.inl (a0,a1,a2,(Ah a3 y1 (IntKind.wrap .i64 (((AS a3 y1).getD 0)+1))),a4,a5,(IntKind.wrap .i64 (a6+1)),()))
  |false=>some (.inl (a0,a1,a2,a3,a4,a5,(IntKind.wrap .i64 (a6+1)),()))
 |false=>some (.inr (.inr (.inl (a1,a2,a3,()))))
def AON[Lk]:(Int×List Int×Unit)→Option (Uf):=fun(a0,a1,_)=>
 match idx a1 0 with|none=>none|some x0=>match tin (a0,x0,())with|none=>none|some (y1,_)=>match(!y1)with
 |true=>some (false,())
 |false=>match idx a1 0 with|none=>none|some x2=>match idx a1 0 with|none=>none|some x3=>match AU JP many (a0,([x2]:List (Int)),(Ah ([]:List Uc) x3 1),([]:List Uc),a1,(AK a1),0,())with|none=>none|some r=>match r with
 |.inl (o4,_)=>some (o4,())
 |.inr r=>match r with
 |.inl (o5,o6,o7,_)=>match(ieq (AK o5) 1)with
  |true=>some ((ieq (AK o7) (AK o6)),())
  |false=>some (false,())
 |.inr _=>none
def goes[Lk]:=fun v=>Lk.f (AON v)
theorem Abw v:goes v=AON v:=AJ _
abbrev ABp:AE:=[(.tmp 0,.dat Uh)]
abbrev ABo:AE:=[(.tmp 0,.dat .bool)]
abbrev ABn:List RS:=[.one]
abbrev AJF:AE:=[(.tmp 3,.map U0 U0),(.tmp 78,.di),(.tmp 79,.di)]
abbrev AJC:An:=[(.ret,[(.tmp 2,.dat .bool)]),(.exit 4,[])]
def Es[Lk]:(List Uc×Int×Int×Unit)→Option ((List Uc×Int×Int×Unit)⊕Uf⊕(Unit)⊕Unit):=fun(a0,a1,a2,_)=>
 match(ilt a2 a1)with
 |true=>match(ieq ((AS a0 a2).getD 0) 0)with
  |true=>some (.inr (.inl (false,())))
  |false=>some (.inl (a0,a1,(IntKind.wrap .i64 (a2+1)),()))
 |false=>some (.inr (.inr (.inl ())))
abbrev AJG:AE:=[(.tmp 1,.box 2),(.cell 0 0,.di),(.cell 0 1,.dat Ua),(.tmp 3,.map U0 U0),(.tmp 4,.di),(.tmp 16,.dat Ua),(.tmp 17,.di),(.tmp 18,.di),(.tmp 26,.dat U3),(.tmp 28,.di),(.tmp 29,.di),(.tmp 30,.dat .bool),(.tmp 33,.dat U3),(.tmp 34,.dat .bool),(.tmp 35,.dat .bool),(.tmp 38,.dat U3),(.tmp 39,.di),(.tmp 40,.dat U3),(.tmp 42,.di),(.tmp 43,.dat .bool),(.tmp 46,.ptr' 0 0),(.tmp 47,.di),(.tmp 48,.dat U3),(.tmp 49,.dat .bool),(.tmp 50,.dat .bool),(.tmp 55,.dat U3),(.tmp 56,.di),(.tmp 57,.di)]
abbrev AJD:An:=[(.ret,[(.tmp 2,.dat .bool)]),(.exit 2,[(.tmp 1,.box 2),(.cell 0 0,.di),(.cell 0 1,.dat Ua),(.tmp 3,.map U0 U0),(.tmp 4,.di),(.tmp 16,.dat Ua),(.tmp 17,.di),(.tmp 18,.di),(.tmp 26,.dat U3),(.tmp 28,.di),(.tmp 29,.di),(.tmp 30,.dat .bool),(.tmp 33,.dat U3),(.tmp 34,.dat .bool),(.tmp 35,.dat .bool),(.tmp 38,.dat U3),(.tmp 39,.di),(.tmp 40,.dat U3),(.tmp 42,.di),(.tmp 43,.dat .bool),(.tmp 46,.ptr' 0 0),(.tmp 47,.di),(.tmp 48,.dat U3),(.tmp 49,.dat .bool),(.tmp 50,.dat .bool)])]
def Dt[Lk]:Uw→Option (Uw⊕Uf⊕(Int×List U4×List Uc×Int×List U4×Int×Int×List Int×Int×Int×Bool×List Int×Bool×Bool×List Int×Int×List Int×Int×Bool×Int×List Int×Bool×Bool×Unit)⊕Unit):=fun(a0,a1,a2,a3,a4,a5,a6,a7,a8,a9,a10,a11,a12,a13,a14,a15,a16,a17,a18,a19,a20,a21,a22,a23,a24,a25,_)=>
 match(ilt a25 a24)with
 |true=>match idx a23 a25 with|none=>none|some x0=>match(ilt x0 a0)with
  |true=>match(ilt 0 ((AS a2 x0).getD 0))with
   |true=>some (.inr (.inl (false,())))
   |false=>some (.inl (a0,a1,(Ah a2 x0 (IntKind.wrap .i64 (((AS a2 x0).getD 0)+1))),a3,a4,a5,a6,a7,a8,a9,a10,a11,a12,a13,a14,a15,a16,a17,a18,a19,a20,a21,a22,a23,a24,(IntKind.wrap .i64 (a25+1)),()))
  |false=>some (.inl (a0,a1,(Ah a2 x0 (IntKind.wrap .i64 (((AS a2 x0).getD 0)+1))),a3,a4,a5,a6,a7,a8,a9,a10,a11,a12,a13,a14,a15,a16,a17,a18,a19,a20,a21,a22,a23,a24,(IntKind.wrap .i64 (a25+1)),()))
 |false=>some (.inr (.inr (.inl (a0,a1,a2,a3,a4,a5,a6,a7,a8,a9,a10,a11,a12,a13,a14,a15,a16,a17,a18,a19,a20,a21,a22,()))))
abbrev AJH:AE:=[(.tmp 1,.box 2),(.cell 0 0,.di),(.cell 0 1,.dat Ua),(.tmp 3,.map U0 U0),(.tmp 4,.di),(.tmp 16,.dat Ua),(.tmp 17,.di),(.tmp 18,.di)]
abbrev AJE:An:=[(.ret,[(.tmp 2,.dat .bool)]),(.exit 0,[(.tmp 1,.box 2),(.cell 0 0,.di),(.cell 0 1,.dat Ua),(.tmp 3,.map U0 U0)])]
def Du[Lk]:(Int×List U4×List Uc×Int×List U4×Int×Int×Unit)→Option ((Int×List U4×List Uc×Int×List U4×Int×Int×Unit)⊕Uf⊕(Int×List U4×List Uc×Unit)⊕Unit):=fun(a0,a1,a2,a3,a4,a5,a6,_)=>
 match(ilt a6 a5)with
 |true=>match idx a4 a6 with|none=>none|some x0=>match(ieq (AK x0) 0)with
  |true=>some (.inr (.inl (false,())))
  |false=>match idx x0 0 with|none=>none|some x1=>match(ile x1 a3)with
  |true=>some (.inr (.inl (false,())))
  |false=>match LM (x0,())with|none=>none|some (y2,_)=>match(!y2)with
  |true=>some (.inr (.inl (false,())))
  |false=>match AeY (x0,())with|none=>none|some (y3,_)=>match idx x0 0 with|none=>none|some x4=>match(!(ieq y3 x4))with
  |true=>some (.inr (.inl (false,())))
  |false=>match goes (a0,x0,())with|none=>none|some (y5,_)=>match(!y5)with
  |true=>some (.inr (.inl (false,())))
  |false=>match idx x0 0 with|none=>none|some x6=>match AU Dt many (a0,a1,a2,x6,a4,a5,a6,x0,x1,a3,(ile x1 a3),x0,y2,(!y2),x0,y3,x0,x4,(!(ieq y3 x4)),a0,x0,y5,(!y5),x0,(AK x0),0,())with|none=>none|some r=>match r with
  |.inl (o7,_)=>some (.inr (.inl (o7,())))
  |.inr r=>match r with
  |.inl (o8,o9,o10,o11,o12,o13,o14,o15,o16,o17,o18,o19,o20,o21,o22,o23,o24,o25,o26,o27,o28,o29,o30,_)=>some (.inl (o8,o9,o10,o11,o12,o13,(IntKind.wrap .i64 (o14+1)),()))
  |.inr _=>none
 |false=>some (.inr (.inr (.inl (a0,a1,a2,()))))
def R3[Lk]:(Uk×Unit)→Option (Uf):=fun(a0,_)=>
 match M9 (a0.1,())with|none=>none|some (y0,_)=>match(!y0)with
 |true=>some (false,())
 |false=>match AU Du many (a0.1,a0.2.1,([]:List Uc),(-1:Int),a0.2.1,(AK a0.2.1),0,())with|none=>none|some r=>match r with
 |.inl (o1,_)=>some (o1,())
 |.inr r=>match r with
 |.inl (o2,o3,o4,_)=>match AU Es many (o4,o2,0,())with|none=>none|some r=>match r with
  |.inl (o5,_)=>some (o5,())
  |.inr r=>match r with
  |.inl _=>some (true,())
  |.inr _=>none
 |.inr _=>none
def QG[Lk]:=fun v=>Lk.f (R3 v)
theorem AJI v:QG v=R3 v:=AJ _
abbrev APA:AE:=[(.tmp 0,.dat Uh),(.tmp 1,.di),(.tmp 2,.di)]
abbrev AO9:AE:=[(.tmp 0,.di)]
abbrev AO8:List RS:=[.one]
def AA6[Lk]:(Uk×Int×Int×Unit)→Option (U9):=fun(a0,a1,a2,_)=>
 match QG ((a0.1,(a0.2.1,())),())with|none=>none|some (y0,_)=>match(!y0)with
 |true=>some (1,())
 |false=>match tin (a0.1,a1,())with|none=>none|some (y1,_)=>match(!y1)with
 |true=>some (10,())
 |false=>match tin (a0.1,a2,())with|none=>none|some (y2,_)=>match(!y2)with
 |true=>some (10,())
 |false=>some (0,())
def asked[Lk]:=fun v=>Lk.f (AA6 v)
theorem AUg v:asked v=AA6 v:=AJ _
abbrev AX4:AE:=[(.tmp 0,.di)]
abbrev AX3:AE:=[(.tmp 0,.dat .bool)]
abbrev AX2:List RS:=[.one]
def LY[Lk]:U9→Option (Uf):=fun(a0,_)=>
 some ((!(ieq a0 a0)),())
def Ait[Lk]:=fun v=>Lk.f (LY v)
theorem LX v:Ait v=LY v:=AJ _
abbrev RT:AE:=[(.tmp 0,.di),(.tmp 1,.di)]
abbrev RR:AE:=[(.tmp 0,.di)]
abbrev RQ:List RS:=[.one]
def Eg[Lk]:U1→Option (U9):=fun(a0,a1,_)=>
 match Ait (a0,())with|none=>none|some (y0,_)=>match Ait (a1,())with|none=>none|some (y1,_)=>match y0 with
 |true=>match y1 with
  |true=>some (0,())
  |false=>some ((-1:Int),())
 |false=>match y1 with
 |true=>some (1,())
 |false=>match(ilt a0 a1)with
 |true=>some ((-1:Int),())
 |false=>match(ilt a1 a0)with
 |true=>some (1,())
 |false=>some (0,())
def Dk[Lk]:=fun v=>Lk.f (Eg v)
theorem G2 v:Dk v=Eg v:=AJ _
abbrev ALE:AE:=[(.tmp 0,.dat U3),(.tmp 1,.dat U3)]
abbrev ALD:AE:=[(.tmp 0,.di)]
abbrev ALC:List RS:=[.one]
def AAl[Lk]:V4→Option (U9):=fun(a0,a1,_)=>
 match idx a0 0 with|none=>none|some x0=>match idx a1 0 with|none=>none|some x1=>match Dk (x0,x1,())with|none=>none|some (y2,_)=>some (y2,())
def BP[Lk]:=fun v=>Lk.f (AAl v)
theorem APi v:BP v=AAl v:=AJ _
def HA:List Int:=[0,1,2,2,3,3,3,3,4,4,4,4,4,4,4,4,5,5,5,5,5,5,5,5,5,5,5,5,5,5,5,5,6,6,6,6,6,6,6,6,6,6,6,6,6,6,6,6,6,6,6,6,6,6,6,6,6,6,6,6,6,6,6,6,7,7,7,7,7,7,7,7,7,7,7,7,7,7,7,7,7,7,7,7,7,7,7,7,7,7,7,7,7,7,7,7,7,7,7,7,7,7,7,7,7,7,7,7,7,7,7,7,7,7,7,7,7,7,7,7,7,7,7,7,7,7,7,7,8,8,8,8,8,8,8,8,8,8,8,8,8,8,8,8,8,8,8,8,8,8,8,8,8,8,8,8,8,8,8,8,8,8,8,8,8,8,8,8,8,8,8,8,8,8,8,8,8,8,8,8,8,8,8,8,8,8,8,8,8,8,8,8,8,8,8,8,8,8,8,8,8,8,8,8,8,8,8,8,8,8,8,8,8,8,8,8,8,8,8,8,8,8,8,8,8,8,8,8,8,8,8,8,8,8,8,8,8,8,8,8,8,8,8,8,8,8,8,8,8,8,8,8,8,8,8,8]
abbrev ANw:AE:=[(.tmp 0,.dat (.int .u64))]
abbrev ANv:AE:=[(.tmp 0,.di)]
abbrev ANu:List RS:=[.one]
def AAz[Lk]:U9→Option (U9):=fun(a0,_)=>
 match(ile 4294967296 a0)with
 |true=>match shr? .u64 a0 32 with|none=>none|some x0=>match(ile 65536 x0)with
  |true=>match shr? .u64 x0 16 with|none=>none|some x1=>match(ile 256 x1)with
   |true=>match shr? .u64 x1 8 with|none=>none|some x2=>match idx HA (IntKind.wrap .u8 x2)with|none=>none|some x3=>some ((IntKind.wrap .i64 ((IntKind.wrap .i64 ((IntKind.wrap .i64 (32+16))+8))+(IntKind.wrap .i64 x3))),())
   |false=>match idx HA (IntKind.wrap .u8 x1)with|none=>none|some x4=>some ((IntKind.wrap .i64 ((IntKind.wrap .i64 (32+16))+(IntKind.wrap .i64 x4))),())
  |false=>match(ile 256 x0)with
  |true=>match shr? .u64 x0 8 with|none=>none|some x5=>match idx HA (IntKind.wrap .u8 x5)with|none=>none|some x6=>some ((IntKind.wrap .i64 ((IntKind.wrap .i64 (32+8))+(IntKind.wrap .i64 x6))),())
  |false=>match idx HA (IntKind.wrap .u8 x0)with|none=>none|some x7=>some ((IntKind.wrap .i64 (32+(IntKind.wrap .i64 x7))),())
 |false=>match(ile 65536 a0)with
 |true=>match shr? .u64 a0 16 with|none=>none|some x8=>match(ile 256 x8)with
  |true=>match shr? .u64 x8 8 with|none=>none|some x9=>match idx HA (IntKind.wrap .u8 x9)with|none=>none|some x10=>some ((IntKind.wrap .i64 ((IntKind.wrap .i64 ((IntKind.wrap .i64 (0+16))+8))+(IntKind.wrap .i64 x10))),())
  |false=>match idx HA (IntKind.wrap .u8 x8)with|none=>none|some x11=>some ((IntKind.wrap .i64 ((IntKind.wrap .i64 (0+16))+(IntKind.wrap .i64 x11))),())
 |false=>match(ile 256 a0)with
 |true=>match shr? .u64 a0 8 with|none=>none|some x12=>match idx HA (IntKind.wrap .u8 x12)with|none=>none|some x13=>some ((IntKind.wrap .i64 ((IntKind.wrap .i64 (0+8))+(IntKind.wrap .i64 x13))),())
 |false=>match idx HA (IntKind.wrap .u8 a0)with|none=>none|some x14=>some ((IntKind.wrap .i64 (0+(IntKind.wrap .i64 x14))),())
def ATG[Lk]:=fun v=>Lk.f (AAz v)
theorem ATF v:ATG v=AAz v:=AJ _
abbrev X6:AE:=[(.tmp 0,.dat (.int .u64))]
abbrev X5:AE:=[(.tmp 0,.di)]
abbrev X4:List RS:=[.one]
def PN[Lk]:U9→Option (U9):=fun(a0,_)=>
 match ATG (a0,())with|none=>none|some (y0,_)=>some (y0,())
def bitsLen[Lk]:=fun v=>Lk.f (PN v)
theorem AGu v:bitsLen v=PN v:=AJ _
abbrev VA:AE:=[(.tmp 0,.box 1),(.cell 0 0,.dat (.int .u64))]
abbrev UZ:AE:=[(.obj 0,.box 1),(.cell 0 0,.dat (.int .u64)),(.tmp 0,.dat (.int .u64))]
abbrev UY:List RS:=[.one]
def Oc[Lk]:U9→Option (U1):=fun(a0,_)=>
 match shl? .u64 a0 13 with|none=>none|some x0=>match shr? .u64 (IntKind.wrap .u64 ((BitVec.ofInt (IntKind.bits .u64) a0 ^^^ BitVec.ofInt (IntKind.bits .u64) x0).toNat)) 7 with|none=>none|some x1=>match shl? .u64 (IntKind.wrap .u64 ((BitVec.ofInt (IntKind.bits .u64) (IntKind.wrap .u64 ((BitVec.ofInt (IntKind.bits .u64) a0 ^^^ BitVec.ofInt (IntKind.bits .u64) x0).toNat)) ^^^ BitVec.ofInt (IntKind.bits .u64) x1).toNat)) 17 with|none=>none|some x2=>some ((IntKind.wrap .u64 ((BitVec.ofInt (IntKind.bits .u64) (IntKind.wrap .u64 ((BitVec.ofInt (IntKind.bits .u64) (IntKind.wrap .u64 ((BitVec.ofInt (IntKind.bits .u64) a0 ^^^ BitVec.ofInt (IntKind.bits .u64) x0).toNat)) ^^^ BitVec.ofInt (IntKind.bits .u64) x1).toNat)) ^^^ BitVec.ofInt (IntKind.bits .u64) x2).toNat)),(IntKind.wrap .u64 ((BitVec.ofInt (IntKind.bits .u64) (IntKind.wrap .u64 ((BitVec.ofInt (IntKind.bits .u64) (IntKind.wrap .u64 ((BitVec.ofInt (IntKind.bits .u64) a0 ^^^ BitVec.ofInt (IntKind.bits .u64) x0).toNat)) ^^^ BitVec.ofInt (IntKind.bits .u64) x1).toNat)) ^^^ BitVec.ofInt (IntKind.bits .u64) x2).toNat)),())
def xorNext[Lk]:=fun v=>Lk.f (Oc v)
theorem ABG v:xorNext v=Oc v:=AJ _
abbrev Wq:AE:=[(.tmp 0,.di)]
abbrev Wp:AE:=[(.tmp 0,.dat (.int .u64))]
abbrev Wo:List RS:=[.one]
def O5[Lk]:U9→Option (U9):=fun(a0,_)=>
 match bitsLen ((IntKind.wrap .u64 a0),())with|none=>none|some (y0,_)=>match shl? .u64 1 y0 with|none=>none|some x1=>some (x1,())
def Sh[Lk]:=fun v=>Lk.f (O5 v)
theorem AEX v:Sh v=O5 v:=AJ _
def O9[Lk]{α:Type}(z:α)(c:α×α×Unit→Option U9):(List α×Int×Int×Int×Int×Unit)→Option ((List α×Int×Int×Int×Int×Unit)⊕(List α×Int×Int×Int×Unit)⊕Unit):=fun(a0,a1,a2,a3,a4,_)=>
 match(ilt a1 a4)with
 |true=>match idx a0 a4 with|none=>none|some x0=>match idx a0 (IntKind.wrap .i64 (a4-1))with|none=>none|some x1=>match c ((Ac a0 (AO a4) z),(Ac a0 (AO (IntKind.wrap .i64 (a4-1))) z),())with|none=>none|some (y2,_)=>match(ilt y2 0)with
  |true=>match idx a0 (IntKind.wrap .i64 (a4-1))with|none=>none|some x3=>match idx a0 a4 with|none=>none|some x4=>match idx a0 a4 with|none=>none|some x5=>match idx (BB a0 (AO a4) (Ac a0 (AO (IntKind.wrap .i64 (a4-1))) z)) (IntKind.wrap .i64 (a4-1))with|none=>none|some x6=>some (.inl ((BB (BB a0 (AO a4) (Ac a0 (AO (IntKind.wrap .i64 (a4-1))) z)) (AO (IntKind.wrap .i64 (a4-1))) (Ac a0 (AO a4) z)),a1,a2,a3,(IntKind.wrap .i64 (a4-1)),()))
  |false=>some (.inr (.inl (a0,a1,a2,a3,())))
 |false=>some (.inr (.inl (a0,a1,a2,a3,())))
def PA[Lk]{α:Type}(z:α)(c:α×α×Unit→Option U9):(List α×Int×Int×Int×Unit)→Option ((List α×Int×Int×Int×Unit)⊕(List α×Unit)⊕Unit):=fun(a0,a1,a2,a3,_)=>
 match(ilt a3 a2)with
 |true=>match AU (O9 z c) many (a0,a1,a2,a3,a3,())with|none=>none|some r=>match r with
  |.inl (o0,o1,o2,o3,_)=>some (.inl (o0,o1,o2,(IntKind.wrap .i64 (o3+1)),()))
  |.inr _=>none
 |false=>some (.inr (.inl (a0,())))
def AFB[Lk]{α:Type}(z:α)(c:α×α×Unit→Option U9):(List α×Int×Int×Unit)→Option ((List α×Unit)):=fun(a0,a1,a2,_)=>
 match AU (PA z c) many (a0,a1,a2,(IntKind.wrap .i64 (a1+1)),())with|none=>none|some r=>match r with
 |.inl (o0,_)=>some (o0,())
 |.inr _=>none
def AjE[Lk]{α:Type}(z:α)(c:α×α×Unit→Option U9)(v:(List α×Int×Int×Unit)):Option ((List α×Unit)):=Lk.f ((AFB z c) v)
theorem Al9{α:Type}(z:α)(c:α×α×Unit→Option U9)(v:(List α×Int×Int×Unit)):(AjE z c) v=(AFB z c) v:=AJ _
def KU[Lk]{α:Type}(z:α)(c:α×α×Unit→Option U9):(List α×Int×Int×Int×Unit)→Option ((List α×Int×Int×Int×Unit)⊕(List α×Unit)⊕(List α×Unit)⊕Unit):=fun(a0,a1,a2,a3,_)=>
 match(ile a1 (IntKind.wrap .i64 ((IntKind.wrap .i64 (2*a3))+1)))with
 |true=>some (.inr (.inl (a0,())))
 |false=>match(ilt (IntKind.wrap .i64 ((IntKind.wrap .i64 ((IntKind.wrap .i64 (2*a3))+1))+1)) a1)with
 |true=>match idx a0 (IntKind.wrap .i64 (a2+(IntKind.wrap .i64 ((IntKind.wrap .i64 (2*a3))+1))))with|none=>none|some x0=>match idx a0 (IntKind.wrap .i64 ((IntKind.wrap .i64 (a2+(IntKind.wrap .i64 ((IntKind.wrap .i64 (2*a3))+1))))+1))with|none=>none|some x1=>match c ((Ac a0 (AO (IntKind.wrap .i64 (a2+(IntKind.wrap .i64 ((IntKind.wrap .i64 (2*a3))+1))))) z),(Ac a0 (AO (IntKind.wrap .i64 ((IntKind.wrap .i64 (a2+(IntKind.wrap .i64 ((IntKind.wrap .i64 (2*a3))+1))))+1))) z),())with|none=>none|some (y2,_)=>match(ilt y2 0)with
  |true=>match idx a0 (IntKind.wrap .i64 (a2+a3))with|none=>none|some x3=>match idx a0 (IntKind.wrap .i64 (a2+(IntKind.wrap .i64 ((IntKind.wrap .i64 ((IntKind.wrap .i64 (2*a3))+1))+1))))with|none=>none|some x4=>match c ((Ac a0 (AO (IntKind.wrap .i64 (a2+a3))) z),(Ac a0 (AO (IntKind.wrap .i64 (a2+(IntKind.wrap .i64 ((IntKind.wrap .i64 ((IntKind.wrap .i64 (2*a3))+1))+1))))) z),())with|none=>none|some (y5,_)=>match(!(ilt y5 0))with
   |true=>some (.inr (.inr (.inl (a0,()))))
   |false=>match idx a0 (IntKind.wrap .i64 (a2+(IntKind.wrap .i64 ((IntKind.wrap .i64 ((IntKind.wrap .i64 (2*a3))+1))+1))))with|none=>none|some x6=>match idx a0 (IntKind.wrap .i64 (a2+a3))with|none=>none|some x7=>match idx a0 (IntKind.wrap .i64 (a2+a3))with|none=>none|some x8=>match idx (BB a0 (AO (IntKind.wrap .i64 (a2+a3))) (Ac a0 (AO (IntKind.wrap .i64 (a2+(IntKind.wrap .i64 ((IntKind.wrap .i64 ((IntKind.wrap .i64 (2*a3))+1))+1))))) z)) (IntKind.wrap .i64 (a2+(IntKind.wrap .i64 ((IntKind.wrap .i64 ((IntKind.wrap .i64 (2*a3))+1))+1))))with|none=>none|some x9=>some (.inl ((BB (BB a0 (AO (IntKind.wrap .i64 (a2+a3))) (Ac a0 (AO (IntKind.wrap .i64 (a2+(IntKind.wrap .i64 ((IntKind.wrap .i64 ((IntKind.wrap .i64 (2*a3))+1))+1))))) z)) (AO (IntKind.wrap .i64 (a2+(IntKind.wrap .i64 ((IntKind.wrap .i64 ((IntKind.wrap .i64 (2*a3))+1))+1))))) (Ac a0 (AO (IntKind.wrap .i64 (a2+a3))) z)),a1,a2,(IntKind.wrap .i64 ((IntKind.wrap .i64 ((IntKind.wrap .i64 (2*a3))+1))+1)),()))
  |false=>match idx a0 (IntKind.wrap .i64 (a2+a3))with|none=>none|some x10=>match idx a0 (IntKind.wrap .i64 (a2+(IntKind.wrap .i64 ((IntKind.wrap .i64 (2*a3))+1))))with|none=>none|some x11=>match c ((Ac a0 (AO (IntKind.wrap .i64 (a2+a3))) z),(Ac a0 (AO (IntKind.wrap .i64 (a2+(IntKind.wrap .i64 ((IntKind.wrap .i64 (2*a3))+1))))) z),())with|none=>none|some (y12,_)=>match(!(ilt y12 0))with
  |true=>some (.inr (.inr (.inl (a0,()))))
  |false=>match idx a0 (IntKind.wrap .i64 (a2+(IntKind.wrap .i64 ((IntKind.wrap .i64 (2*a3))+1))))with|none=>none|some x13=>match idx a0 (IntKind.wrap .i64 (a2+a3))with|none=>none|some x14=>match idx a0 (IntKind.wrap .i64 (a2+a3))with|none=>none|some x15=>match idx (BB a0 (AO (IntKind.wrap .i64 (a2+a3))) (Ac a0 (AO (IntKind.wrap .i64 (a2+(IntKind.wrap .i64 ((IntKind.wrap .i64 (2*a3))+1))))) z)) (IntKind.wrap .i64 (a2+(IntKind.wrap .i64 ((IntKind.wrap .i64 (2*a3))+1))))with|none=>none|some x16=>some (.inl ((BB (BB a0 (AO (IntKind.wrap .i64 (a2+a3))) (Ac a0 (AO (IntKind.wrap .i64 (a2+(IntKind.wrap .i64 ((IntKind.wrap .i64 (2*a3))+1))))) z)) (AO (IntKind.wrap .i64 (a2+(IntKind.wrap .i64 ((IntKind.wrap .i64 (2*a3))+1))))) (Ac a0 (AO (IntKind.wrap .i64 (a2+a3))) z)),a1,a2,(IntKind.wrap .i64 ((IntKind.wrap .i64 (2*a3))+1)),()))
 |false=>match idx a0 (IntKind.wrap .i64 (a2+a3))with|none=>none|some x17=>match idx a0 (IntKind.wrap .i64 (a2+(IntKind.wrap .i64 ((IntKind.wrap .i64 (2*a3))+1))))with|none=>none|some x18=>match c ((Ac a0 (AO (IntKind.wrap .i64 (a2+a3))) z),(Ac a0 (AO (IntKind.wrap .i64 (a2+(IntKind.wrap .i64 ((IntKind.wrap .i64 (2*a3))+1))))) z),())with|none=>none|some (y19,_)=>match(!(ilt y19 0))with
 |true=>some (.inr (.inr (.inl (a0,()))))
 |false=>match idx a0 (IntKind.wrap .i64 (a2+(IntKind.wrap .i64 ((IntKind.wrap .i64 (2*a3))+1))))with|none=>none|some x20=>match idx a0 (IntKind.wrap .i64 (a2+a3))with|none=>none|some x21=>match idx a0 (IntKind.wrap .i64 (a2+a3))with|none=>none|some x22=>match idx (BB a0 (AO (IntKind.wrap .i64 (a2+a3))) (Ac a0 (AO (IntKind.wrap .i64 (a2+(IntKind.wrap .i64 ((IntKind.wrap .i64 (2*a3))+1))))) z)) (IntKind.wrap .i64 (a2+(IntKind.wrap .i64 ((IntKind.wrap .i64 (2*a3))+1))))with|none=>none|some x23=>some (.inl ((BB (BB a0 (AO (IntKind.wrap .i64 (a2+a3))) (Ac a0 (AO (IntKind.wrap .i64 (a2+(IntKind.wrap .i64 ((IntKind.wrap .i64 (2*a3))+1))))) z)) (AO (IntKind.wrap .i64 (a2+(IntKind.wrap .i64 ((IntKind.wrap .i64 (2*a3))+1))))) (Ac a0 (AO (IntKind.wrap .i64 (a2+a3))) z)),a1,a2,(IntKind.wrap .i64 ((IntKind.wrap .i64 (2*a3))+1)),()))
def SB[Lk]{α:Type}(z:α)(c:α×α×Unit→Option U9):(List α×Int×Int×Int×Unit)→Option ((List α×Unit)):=fun(a0,a1,a2,a3,_)=>
 match AU (KU z c) many (a0,a2,a3,a1,())with|none=>none|some r=>match r with
 |.inl (o0,_)=>some (o0,())
 |.inr r=>match r with
 |.inl (o1,_)=>some (o1,())
 |.inr _=>none
def AJb[Lk]{α:Type}(z:α)(c:α×α×Unit→Option U9)(v:(List α×Int×Int×Int×Unit)):Option ((List α×Unit)):=Lk.f ((SB z c) v)
theorem AhS{α:Type}(z:α)(c:α×α×Unit→Option U9)(v:(List α×Int×Int×Int×Unit)):(AJb z c) v=(SB z c) v:=AJ _
def Km[Lk]{α:Type}(z:α)(c:α×α×Unit→Option U9):(List α×Int×Int×Int×Unit)→Option ((List α×Int×Int×Int×Unit)⊕(List α×Unit)⊕Unit):=fun(a0,a1,a2,a3,_)=>
 match(ile 0 a3)with
 |true=>match idx a0 (IntKind.wrap .i64 (a1+a3))with|none=>none|some x0=>match idx a0 a1 with|none=>none|some x1=>match idx a0 a1 with|none=>none|some x2=>match idx (BB a0 (AO a1) (Ac a0 (AO (IntKind.wrap .i64 (a1+a3))) z)) (IntKind.wrap .i64 (a1+a3))with|none=>none|some x3=>match(AJb z c) ((BB (BB a0 (AO a1) (Ac a0 (AO (IntKind.wrap .i64 (a1+a3))) z)) (AO (IntKind.wrap .i64 (a1+a3))) (Ac a0 (AO a1) z)),a2,a3,a1,())with|none=>none|some (y4,_)=>some (.inl (y4,a1,a2,(IntKind.wrap .i64 (a3-1)),()))
 |false=>some (.inr (.inl (a0,())))
def Ko[Lk]{α:Type}(z:α)(c:α×α×Unit→Option U9):(List α×Int×Int×Int×Int×Unit)→Option ((List α×Int×Int×Int×Int×Unit)⊕(List α×Int×Int×Int×Unit)⊕Unit):=fun(a0,a1,a2,a3,a4,_)=>
 match(ile 0 a4)with
 |true=>match(AJb z c) (a0,a4,a3,a1,())with|none=>none|some (y0,_)=>some (.inl (y0,a1,a2,a3,(IntKind.wrap .i64 (a4-1)),()))
 |false=>some (.inr (.inl (a0,a1,a2,a3,())))
def S9[Lk]{α:Type}(z:α)(c:α×α×Unit→Option U9):(List α×Int×Int×Unit)→Option ((List α×Unit)):=fun(a0,a1,a2,_)=>
 match quo? .i64 (IntKind.wrap .i64 ((IntKind.wrap .i64 (a2-a1))-1)) 2 with|none=>none|some x0=>match AU (Ko z c) many (a0,a1,0,(IntKind.wrap .i64 (a2-a1)),x0,())with|none=>none|some r=>match r with
 |.inl (o1,o2,o3,o4,_)=>match AU (Km z c) many (o1,o2,o3,(IntKind.wrap .i64 (o4-1)),())with|none=>none|some r=>match r with
  |.inl (o5,_)=>some (o5,())
  |.inr _=>none
 |.inr _=>none
def ATY[Lk]{α:Type}(z:α)(c:α×α×Unit→Option U9)(v:(List α×Int×Int×Unit)):Option ((List α×Unit)):=Lk.f ((S9 z c) v)
theorem AjY{α:Type}(z:α)(c:α×α×Unit→Option U9)(v:(List α×Int×Int×Unit)):(ATY z c) v=(S9 z c) v:=AJ _
def GO[Lk]{α:Type}(z:α)(c:α×α×Unit→Option U9):(List α×Int×Int×Int×Int×Int×Unit)→Option ((List α×Int×Int×Int×Int×Int×Unit)⊕(List α×Unit)⊕Unit):=fun(a0,a1,a2,a3,a4,a5,_)=>
 match quo? .i64 a2 4 with|none=>none|some x0=>match(ile a5 (IntKind.wrap .i64 ((IntKind.wrap .i64 (a1+(IntKind.wrap .i64 (x0*2))))+1)))with
 |true=>match xorNext (a3,())with|none=>none|some (y1,y2,_)=>match(ile a2 (IntKind.wrap .i64 (IntKind.wrap .u64 ((BitVec.ofInt (IntKind.bits .u64) y2 &&& BitVec.ofInt (IntKind.bits .u64) (IntKind.wrap .u64 (a4-1))).toNat))))with
  |true=>match idx a0 (IntKind.wrap .i64 (a1+(IntKind.wrap .i64 ((IntKind.wrap .i64 (IntKind.wrap .u64 ((BitVec.ofInt (IntKind.bits .u64) y2 &&& BitVec.ofInt (IntKind.bits .u64) (IntKind.wrap .u64 (a4-1))).toNat)))-a2))))with|none=>none|some x3=>match idx a0 a5 with|none=>none|some x4=>match idx a0 a5 with|none=>none|some x5=>match idx (BB a0 (AO a5) (Ac a0 (AO (IntKind.wrap .i64 (a1+(IntKind.wrap .i64 ((IntKind.wrap .i64 (IntKind.wrap .u64 ((BitVec.ofInt (IntKind.bits .u64) y2 &&& BitVec.ofInt (IntKind.bits .u64) (IntKind.wrap .u64 (a4-1))).toNat)))-a2))))) z)) (IntKind.wrap .i64 (a1+(IntKind.wrap .i64 ((IntKind.wrap .i64 (IntKind.wrap .u64 ((BitVec.ofInt (IntKind.bits .u64) y2 &&& BitVec.ofInt (IntKind.bits .u64) (IntKind.wrap .u64 (a4-1))).toNat)))-a2))))with|none=>none|some x6=>some (.inl ((BB (BB a0 (AO a5) (Ac a0 (AO (IntKind.wrap .i64 (a1+(IntKind.wrap .i64 ((IntKind.wrap .i64 (IntKind.wrap .u64 ((BitVec.ofInt (IntKind.bits .u64) y2 &&& BitVec.ofInt (IntKind.bits .u64) (IntKind.wrap .u64 (a4-1))).toNat)))-a2))))) z)) (AO (IntKind.wrap .i64 (a1+(IntKind.wrap .i64 ((IntKind.wrap .i64 (IntKind.wrap .u64 ((BitVec.ofInt (IntKind.bits .u64) y2 &&& BitVec.ofInt (IntKind.bits .u64) (IntKind.wrap .u64 (a4-1))).toNat)))-a2))))) (Ac a0 (AO a5) z)),a1,a2,y1,a4,(IntKind.wrap .i64 (a5+1)),()))
  |false=>match idx a0 (IntKind.wrap .i64 (a1+(IntKind.wrap .i64 (IntKind.wrap .u64 ((BitVec.ofInt (IntKind.bits .u64) y2 &&& BitVec.ofInt (IntKind.bits .u64) (IntKind.wrap .u64 (a4-1))).toNat)))))with|none=>none|some x7=>match idx a0 a5 with|none=>none|some x8=>match idx a0 a5 with|none=>none|some x9=>match idx (BB a0 (AO a5) (Ac a0 (AO (IntKind.wrap .i64 (a1+(IntKind.wrap .i64 (IntKind.wrap .u64 ((BitVec.ofInt (IntKind.bits .u64) y2 &&& BitVec.ofInt (IntKind.bits .u64) (IntKind.wrap .u64 (a4-1))).toNat)))))) z)) (IntKind.wrap .i64 (a1+(IntKind.wrap .i64 (IntKind.wrap .u64 ((BitVec.ofInt (IntKind.bits .u64) y2 &&& BitVec.ofInt (IntKind.bits .u64) (IntKind.wrap .u64 (a4-1))).toNat)))))with|none=>none|some x10=>some (.inl ((BB (BB a0 (AO a5) (Ac a0 (AO (IntKind.wrap .i64 (a1+(IntKind.wrap .i64 (IntKind.wrap .u64 ((BitVec.ofInt (IntKind.bits .u64) y2 &&& BitVec.ofInt (IntKind.bits .u64) (IntKind.wrap .u64 (a4-1))).toNat)))))) z)) (AO (IntKind.wrap .i64 (a1+(IntKind.wrap .i64 (IntKind.wrap .u64 ((BitVec.ofInt (IntKind.bits .u64) y2 &&& BitVec.ofInt (IntKind.bits .u64) (IntKind.wrap .u64 (a4-1))).toNat)))))) (Ac a0 (AO a5) z)),a1,a2,y1,a4,(IntKind.wrap .i64 (a5+1)),()))
 |false=>some (.inr (.inl (a0,())))
def OI[Lk]{α:Type}(z:α)(c:α×α×Unit→Option U9):(List α×Int×Int×Unit)→Option ((List α×Unit)):=fun(a0,a1,a2,_)=>
 match(ile 8 (IntKind.wrap .i64 (a2-a1)))with
 |true=>match Sh ((IntKind.wrap .i64 (a2-a1)),())with|none=>none|some (y0,_)=>match quo? .i64 (IntKind.wrap .i64 (a2-a1)) 4 with|none=>none|some x1=>match AU (GO z c) many (a0,a1,(IntKind.wrap .i64 (a2-a1)),(IntKind.wrap .u64 (IntKind.wrap .i64 (a2-a1))),y0,(IntKind.wrap .i64 ((IntKind.wrap .i64 (a1+(IntKind.wrap .i64 (x1*2))))-1)),())with|none=>none|some r=>match r with
  |.inl (o2,_)=>some (o2,())
  |.inr _=>none
 |false=>some (a0,())
def AGo[Lk]{α:Type}(z:α)(c:α×α×Unit→Option U9)(v:(List α×Int×Int×Unit)):Option ((List α×Unit)):=Lk.f ((OI z c) v)
theorem Af3{α:Type}(z:α)(c:α×α×Unit→Option U9)(v:(List α×Int×Int×Unit)):(AGo z c) v=(OI z c) v:=AJ _
def Kd[Lk]{α:Type}(z:α)(c:α×α×Unit→Option U9):(List α×Int×Int×Int×Unit)→Option ((List α×Int×Int×Int×Unit)):=fun(a0,a1,a2,a3,_)=>
 match idx a0 a2 with|none=>none|some x0=>match idx a0 a1 with|none=>none|some x1=>match c ((Ac a0 (AO a2) z),(Ac a0 (AO a1) z),())with|none=>none|some (y2,_)=>match(ilt y2 0)with
 |true=>some (a0,(IntKind.wrap .i64 (a3+1)),a2,a1,())
 |false=>some (a0,a3,a1,a2,())
def LS[Lk]{α:Type}(z:α)(c:α×α×Unit→Option U9)(v:(List α×Int×Int×Int×Unit)):Option ((List α×Int×Int×Int×Unit)):=Lk.f ((Kd z c) v)
theorem AXl{α:Type}(z:α)(c:α×α×Unit→Option U9)(v:(List α×Int×Int×Int×Unit)):(LS z c) v=(Kd z c) v:=AJ _
def Kf[Lk]{α:Type}(z:α)(c:α×α×Unit→Option U9):(List α×Int×Int×Int×Int×Unit)→Option ((List α×Int×Int×Unit)):=fun(a0,a1,a2,a3,a4,_)=>
 match(LS z c) (a0,a1,a2,a4,())with|none=>none|some (y0,y1,y2,y3,_)=>match(LS z c) (y0,y3,a3,y1,())with|none=>none|some (y4,y5,y6,y7,_)=>match(LS z c) (y4,y2,y6,y5,())with|none=>none|some (y8,y9,y10,y11,_)=>some (y8,y9,y11,())
def La[Lk]{α:Type}(z:α)(c:α×α×Unit→Option U9)(v:(List α×Int×Int×Int×Int×Unit)):Option ((List α×Int×Int×Unit)):=Lk.f ((Kf z c) v)
theorem AYC{α:Type}(z:α)(c:α×α×Unit→Option U9)(v:(List α×Int×Int×Int×Int×Unit)):(La z c) v=(Kf z c) v:=AJ _
def Kg[Lk]{α:Type}(z:α)(c:α×α×Unit→Option U9):(List α×Int×Int×Unit)→Option ((List α×Int×Int×Unit)):=fun(a0,a1,a2,_)=>
 match(La z c) (a0,(IntKind.wrap .i64 (a1-1)),a1,(IntKind.wrap .i64 (a1+1)),a2,())with|none=>none|some (y0,y1,y2,_)=>some (y0,y1,y2,())
def Lb[Lk]{α:Type}(z:α)(c:α×α×Unit→Option U9)(v:(List α×Int×Int×Unit)):Option ((List α×Int×Int×Unit)):=Lk.f ((Kg z c) v)
theorem AYF{α:Type}(z:α)(c:α×α×Unit→Option U9)(v:(List α×Int×Int×Unit)):(Lb z c) v=(Kg z c) v:=AJ _
def NP[Lk]{α:Type}(z:α)(c:α×α×Unit→Option U9):(List α×Int×Int×Unit)→Option ((List α×Int×Int×Unit)):=fun(a0,a1,a2,_)=>
 match quo? .i64 (IntKind.wrap .i64 (a2-a1)) 4 with|none=>none|some x0=>match quo? .i64 (IntKind.wrap .i64 (a2-a1)) 4 with|none=>none|some x1=>match quo? .i64 (IntKind.wrap .i64 (a2-a1)) 4 with|none=>none|some x2=>match(ile 8 (IntKind.wrap .i64 (a2-a1)))with
 |true=>match(ile 50 (IntKind.wrap .i64 (a2-a1)))with
  |true=>match(Lb z c) (a0,(IntKind.wrap .i64 (a1+(IntKind.wrap .i64 (x0*1)))),0,())with|none=>none|some (y3,y4,y5,_)=>match(Lb z c) (y3,(IntKind.wrap .i64 (a1+(IntKind.wrap .i64 (x1*2)))),y4,())with|none=>none|some (y6,y7,y8,_)=>match(Lb z c) (y6,(IntKind.wrap .i64 (a1+(IntKind.wrap .i64 (x2*3)))),y7,())with|none=>none|some (y9,y10,y11,_)=>match(La z c) (y9,y5,y8,y11,y10,())with|none=>none|some (y12,y13,y14,_)=>match(ieq y13 0)with
   |true=>some (y12,y14,1,())
   |false=>match(ieq y13 12)with
   |true=>some (y12,y14,2,())
   |false=>some (y12,y14,0,())
  |false=>match(La z c) (a0,(IntKind.wrap .i64 (a1+(IntKind.wrap .i64 (x0*1)))),(IntKind.wrap .i64 (a1+(IntKind.wrap .i64 (x1*2)))),(IntKind.wrap .i64 (a1+(IntKind.wrap .i64 (x2*3)))),0,())with|none=>none|some (y15,y16,y17,_)=>match(ieq y16 0)with
  |true=>some (y15,y17,1,())
  |false=>match(ieq y16 12)with
  |true=>some (y15,y17,2,())
  |false=>some (y15,y17,0,())
 |false=>match(ieq 0 0)with
 |true=>some (a0,(IntKind.wrap .i64 (a1+(IntKind.wrap .i64 (x1*2)))),1,())
 |false=>match(ieq 0 12)with
 |true=>some (a0,(IntKind.wrap .i64 (a1+(IntKind.wrap .i64 (x1*2)))),2,())
 |false=>some (a0,(IntKind.wrap .i64 (a1+(IntKind.wrap .i64 (x1*2)))),0,())
def ADe[Lk]{α:Type}(z:α)(c:α×α×Unit→Option U9)(v:(List α×Int×Int×Unit)):Option ((List α×Int×Int×Unit)):=Lk.f ((NP z c) v)
theorem Ady{α:Type}(z:α)(c:α×α×Unit→Option U9)(v:(List α×Int×Int×Unit)):(ADe z c) v=(NP z c) v:=AJ _
def SQ[Lk]{α:Type}(z:α)(c:α×α×Unit→Option U9):(List α×Int×Int×Unit)→Option ((List α×Int×Int×Unit)⊕(List α×Unit)⊕Unit):=fun(a0,a1,a2,_)=>
 match(ilt a1 a2)with
 |true=>match idx a0 a2 with|none=>none|some x0=>match idx a0 a1 with|none=>none|some x1=>match idx a0 a1 with|none=>none|some x2=>match idx (BB a0 (AO a1) (Ac a0 (AO a2) z)) a2 with|none=>none|some x3=>some (.inl ((BB (BB a0 (AO a1) (Ac a0 (AO a2) z)) (AO a2) (Ac a0 (AO a1) z)),(IntKind.wrap .i64 (a1+1)),(IntKind.wrap .i64 (a2-1)),()))
 |false=>some (.inr (.inl (a0,())))
def ADE[Lk]{α:Type}(z:α)(c:α×α×Unit→Option U9):(List α×Int×Int×Unit)→Option ((List α×Unit)):=fun(a0,a1,a2,_)=>
 match AU (SQ z c) many (a0,a1,(IntKind.wrap .i64 (a2-1)),())with|none=>none|some r=>match r with
 |.inl (o0,_)=>some (o0,())
 |.inr _=>none
def Ahp[Lk]{α:Type}(z:α)(c:α×α×Unit→Option U9)(v:(List α×Int×Int×Unit)):Option ((List α×Unit)):=Lk.f ((ADE z c) v)
theorem AlU{α:Type}(z:α)(c:α×α×Unit→Option U9)(v:(List α×Int×Int×Unit)):(Ahp z c) v=(ADE z c) v:=AJ _
def E0[Lk]{α:Type}(z:α)(c:α×α×Unit→Option U9):(List α×Int×Int×Int×Int×Int×Unit)→Option ((List α×Int×Int×Int×Int×Int×Unit)⊕(List α×Int×Int×Int×Int×Unit)⊕Unit):=fun(a0,a1,a2,a3,a4,a5,_)=>
 match(ilt a5 a2)with
 |true=>match idx a0 a5 with|none=>none|some x0=>match idx a0 (IntKind.wrap .i64 (a5-1))with|none=>none|some x1=>match c ((Ac a0 (AO a5) z),(Ac a0 (AO (IntKind.wrap .i64 (a5-1))) z),())with|none=>none|some (y2,_)=>match(!(ilt y2 0))with
  |true=>some (.inr (.inl (a0,a1,a2,a3,a4,())))
  |false=>match idx a0 (IntKind.wrap .i64 (a5-1))with|none=>none|some x3=>match idx a0 a5 with|none=>none|some x4=>match idx a0 a5 with|none=>none|some x5=>match idx (BB a0 (AO a5) (Ac a0 (AO (IntKind.wrap .i64 (a5-1))) z)) (IntKind.wrap .i64 (a5-1))with|none=>none|some x6=>some (.inl ((BB (BB a0 (AO a5) (Ac a0 (AO (IntKind.wrap .i64 (a5-1))) z)) (AO (IntKind.wrap .i64 (a5-1))) (Ac a0 (AO a5) z)),a1,a2,a3,a4,(IntKind.wrap .i64 (a5+1)),()))
 |false=>some (.inr (.inl (a0,a1,a2,a3,a4,())))
def E1[Lk]{α:Type}(z:α)(c:α×α×Unit→Option U9):(List α×Int×Int×Int×Int×Int×Unit)→Option ((List α×Int×Int×Int×Int×Int×Unit)⊕(List α×Int×Int×Int×Int×Unit)⊕Unit):=fun(a0,a1,a2,a3,a4,a5,_)=>
 match(ile 1 a5)with
 |true=>match idx a0 a5 with|none=>none|some x0=>match idx a0 (IntKind.wrap .i64 (a5-1))with|none=>none|some x1=>match c ((Ac a0 (AO a5) z),(Ac a0 (AO (IntKind.wrap .i64 (a5-1))) z),())with|none=>none|some (y2,_)=>match(!(ilt y2 0))with
  |true=>some (.inr (.inl (a0,a1,a2,a3,a4,())))
  |false=>match idx a0 (IntKind.wrap .i64 (a5-1))with|none=>none|some x3=>match idx a0 a5 with|none=>none|some x4=>match idx a0 a5 with|none=>none|some x5=>match idx (BB a0 (AO a5) (Ac a0 (AO (IntKind.wrap .i64 (a5-1))) z)) (IntKind.wrap .i64 (a5-1))with|none=>none|some x6=>some (.inl ((BB (BB a0 (AO a5) (Ac a0 (AO (IntKind.wrap .i64 (a5-1))) z)) (AO (IntKind.wrap .i64 (a5-1))) (Ac a0 (AO a5) z)),a1,a2,a3,a4,(IntKind.wrap .i64 (a5-1)),()))
 |false=>some (.inr (.inl (a0,a1,a2,a3,a4,())))
def Gu[Lk]{α:Type}(z:α)(c:α×α×Unit→Option U9):(List α×Int×Int×Int×Int×Unit)→Option ((List α×Int×Int×Int×Int×Unit)⊕(List α×Int×Int×Int×Int×Unit)⊕Unit):=fun(a0,a1,a2,a3,a4,_)=>
 match(ilt a3 a2)with
 |true=>match idx a0 a3 with|none=>none|some x0=>match idx a0 (IntKind.wrap .i64 (a3-1))with|none=>none|some x1=>match c ((Ac a0 (AO a3) z),(Ac a0 (AO (IntKind.wrap .i64 (a3-1))) z),())with|none=>none|some (y2,_)=>match(!(ilt y2 0))with
  |true=>some (.inl (a0,a1,a2,(IntKind.wrap .i64 (a3+1)),a4,()))
  |false=>some (.inr (.inl (a0,a1,a2,a3,a4,())))
 |false=>some (.inr (.inl (a0,a1,a2,a3,a4,())))
def CU[Lk]{α:Type}(z:α)(c:α×α×Unit→Option U9):(List α×Int×Int×Int×Int×Unit)→Option ((List α×Int×Int×Int×Int×Unit)⊕(List α×Bool×Unit)⊕(List α×Unit)⊕Unit):=fun(a0,a1,a2,a3,a4,_)=>
 match(ilt a4 5)with
 |true=>match AU (Gu z c) many (a0,a1,a2,a3,a4,())with|none=>none|some r=>match r with
  |.inl (o0,o1,o2,o3,o4,_)=>match(ieq o3 o2)with
   |true=>some (.inr (.inl (o0,true,())))
   |false=>match(ilt (IntKind.wrap .i64 (o2-o1)) 50)with
   |true=>some (.inr (.inl (o0,false,())))
   |false=>match idx o0 (IntKind.wrap .i64 (o3-1))with|none=>none|some x5=>match idx o0 o3 with|none=>none|some x6=>match idx o0 o3 with|none=>none|some x7=>match idx (BB o0 (AO o3) (Ac o0 (AO (IntKind.wrap .i64 (o3-1))) z)) (IntKind.wrap .i64 (o3-1))with|none=>none|some x8=>match(ile 2 (IntKind.wrap .i64 (o3-o1)))with
   |true=>match AU (E1 z c) many ((BB (BB o0 (AO o3) (Ac o0 (AO (IntKind.wrap .i64 (o3-1))) z)) (AO (IntKind.wrap .i64 (o3-1))) (Ac o0 (AO o3) z)),o1,o2,o3,o4,(IntKind.wrap .i64 (o3-1)),())with|none=>none|some r=>match r with
    |.inl (o9,o10,o11,o12,o13,_)=>match(ile 2 (IntKind.wrap .i64 (o11-o12)))with
     |true=>match AU (E0 z c) many (o9,o10,o11,o12,o13,(IntKind.wrap .i64 (o12+1)),())with|none=>none|some r=>match r with
      |.inl (o14,o15,o16,o17,o18,_)=>some (.inl (o14,o15,o16,o17,(IntKind.wrap .i64 (o18+1)),()))
      |.inr _=>none
     |false=>some (.inl (o9,o10,o11,o12,(IntKind.wrap .i64 (o13+1)),()))
    |.inr _=>none
   |false=>match(ile 2 (IntKind.wrap .i64 (o2-o3)))with
   |true=>match AU (E0 z c) many ((BB (BB o0 (AO o3) (Ac o0 (AO (IntKind.wrap .i64 (o3-1))) z)) (AO (IntKind.wrap .i64 (o3-1))) (Ac o0 (AO o3) z)),o1,o2,o3,o4,(IntKind.wrap .i64 (o3+1)),())with|none=>none|some r=>match r with
    |.inl (o19,o20,o21,o22,o23,_)=>some (.inl (o19,o20,o21,o22,(IntKind.wrap .i64 (o23+1)),()))
    |.inr _=>none
   |false=>some (.inl ((BB (BB o0 (AO o3) (Ac o0 (AO (IntKind.wrap .i64 (o3-1))) z)) (AO (IntKind.wrap .i64 (o3-1))) (Ac o0 (AO o3) z)),o1,o2,o3,(IntKind.wrap .i64 (o4+1)),()))
  |.inr _=>none
 |false=>some (.inr (.inr (.inl (a0,()))))
def ID[Lk]{α:Type}(z:α)(c:α×α×Unit→Option U9):(List α×Int×Int×Unit)→Option ((List α×Bool×Unit)):=fun(a0,a1,a2,_)=>
 match AU (CU z c) many (a0,a1,a2,(IntKind.wrap .i64 (a1+1)),0,())with|none=>none|some r=>match r with
 |.inl (o0,o1,_)=>some (o0,o1,())
 |.inr r=>match r with
 |.inl (o2,_)=>some (o2,false,())
 |.inr _=>none
def NQ[Lk]{α:Type}(z:α)(c:α×α×Unit→Option U9)(v:(List α×Int×Int×Unit)):Option ((List α×Bool×Unit)):=Lk.f ((ID z c) v)
theorem AR2{α:Type}(z:α)(c:α×α×Unit→Option U9)(v:(List α×Int×Int×Unit)):(NQ z c) v=(ID z c) v:=AJ _
def IE[Lk]{α:Type}(z:α)(c:α×α×Unit→Option U9):(List α×Int×Int×Int×Unit)→Option ((List α×Int×Int×Int×Unit)⊕(List α×Int×Int×Int×Unit)⊕Unit):=fun(a0,a1,a2,a3,_)=>
 match(ile a2 a3)with
 |true=>match idx a0 a1 with|none=>none|some x0=>match idx a0 a3 with|none=>none|some x1=>match c ((Ac a0 (AO a1) z),(Ac a0 (AO a3) z),())with|none=>none|some (y2,_)=>match(ilt y2 0)with
  |true=>some (.inl (a0,a1,a2,(IntKind.wrap .i64 (a3-1)),()))
  |false=>some (.inr (.inl (a0,a1,a2,a3,())))
 |false=>some (.inr (.inl (a0,a1,a2,a3,())))
def IF[Lk]{α:Type}(z:α)(c:α×α×Unit→Option U9):(List α×Int×Int×Int×Unit)→Option ((List α×Int×Int×Int×Unit)⊕(List α×Int×Int×Int×Unit)⊕Unit):=fun(a0,a1,a2,a3,_)=>
 match(ile a2 a3)with
 |true=>match idx a0 a1 with|none=>none|some x0=>match idx a0 a2 with|none=>none|some x1=>match c ((Ac a0 (AO a1) z),(Ac a0 (AO a2) z),())with|none=>none|some (y2,_)=>match(!(ilt y2 0))with
  |true=>some (.inl (a0,a1,(IntKind.wrap .i64 (a2+1)),a3,()))
  |false=>some (.inr (.inl (a0,a1,a2,a3,())))
 |false=>some (.inr (.inl (a0,a1,a2,a3,())))
def IG[Lk]{α:Type}(z:α)(c:α×α×Unit→Option U9):(List α×Int×Int×Int×Unit)→Option ((List α×Int×Int×Int×Unit)⊕(List α×Int×Unit)⊕Unit):=fun(a0,a1,a2,a3,_)=>
 match AU (IF z c) many (a0,a1,a2,a3,())with|none=>none|some r=>match r with
 |.inl (o0,o1,o2,o3,_)=>match AU (IE z c) many (o0,o1,o2,o3,())with|none=>none|some r=>match r with
  |.inl (o4,o5,o6,o7,_)=>match(ilt o7 o6)with
   |true=>some (.inr (.inl (o4,o6,())))
   |false=>match idx o4 o7 with|none=>none|some x8=>match idx o4 o6 with|none=>none|some x9=>match idx o4 o6 with|none=>none|some x10=>match idx (BB o4 (AO o6) (Ac o4 (AO o7) z)) o7 with|none=>none|some x11=>some (.inl ((BB (BB o4 (AO o6) (Ac o4 (AO o7) z)) (AO o7) (Ac o4 (AO o6) z)),o5,(IntKind.wrap .i64 (o6+1)),(IntKind.wrap .i64 (o7-1)),()))
  |.inr _=>none
 |.inr _=>none
def Ka[Lk]{α:Type}(z:α)(c:α×α×Unit→Option U9):(List α×Int×Int×Int×Unit)→Option ((List α×Int×Unit)):=fun(a0,a1,a2,a3,_)=>
 match idx a0 a3 with|none=>none|some x0=>match idx a0 a1 with|none=>none|some x1=>match idx a0 a1 with|none=>none|some x2=>match idx (BB a0 (AO a1) (Ac a0 (AO a3) z)) a3 with|none=>none|some x3=>match AU (IG z c) many ((BB (BB a0 (AO a1) (Ac a0 (AO a3) z)) (AO a3) (Ac a0 (AO a1) z)),a1,(IntKind.wrap .i64 (a1+1)),(IntKind.wrap .i64 (a2-1)),())with|none=>none|some r=>match r with
 |.inl (o4,o5,_)=>some (o4,o5,())
 |.inr _=>none
def Sb[Lk]{α:Type}(z:α)(c:α×α×Unit→Option U9)(v:(List α×Int×Int×Int×Unit)):Option ((List α×Int×Unit)):=Lk.f ((Ka z c) v)
theorem AXb{α:Type}(z:α)(c:α×α×Unit→Option U9)(v:(List α×Int×Int×Int×Unit)):(Sb z c) v=(Ka z c) v:=AJ _
def NR[Lk]{α:Type}(z:α)(c:α×α×Unit→Option U9):(List α×Int×Int×Int×Unit)→Option ((List α×Int×Int×Int×Unit)⊕(List α×Int×Int×Int×Unit)⊕Unit):=fun(a0,a1,a2,a3,_)=>
 match(ile a2 a3)with
 |true=>match idx a0 a3 with|none=>none|some x0=>match idx a0 a1 with|none=>none|some x1=>match c ((Ac a0 (AO a3) z),(Ac a0 (AO a1) z),())with|none=>none|some (y2,_)=>match(!(ilt y2 0))with
  |true=>some (.inl (a0,a1,a2,(IntKind.wrap .i64 (a3-1)),()))
  |false=>some (.inr (.inl (a0,a1,a2,a3,())))
 |false=>some (.inr (.inl (a0,a1,a2,a3,())))
def NS[Lk]{α:Type}(z:α)(c:α×α×Unit→Option U9):(List α×Int×Int×Int×Unit)→Option ((List α×Int×Int×Int×Unit)⊕(List α×Int×Int×Int×Unit)⊕Unit):=fun(a0,a1,a2,a3,_)=>
 match(ile a2 a3)with
 |true=>match idx a0 a2 with|none=>none|some x0=>match idx a0 a1 with|none=>none|some x1=>match c ((Ac a0 (AO a2) z),(Ac a0 (AO a1) z),())with|none=>none|some (y2,_)=>match(ilt y2 0)with
  |true=>some (.inl (a0,a1,(IntKind.wrap .i64 (a2+1)),a3,()))
  |false=>some (.inr (.inl (a0,a1,a2,a3,())))
 |false=>some (.inr (.inl (a0,a1,a2,a3,())))
def NT[Lk]{α:Type}(z:α)(c:α×α×Unit→Option U9):(List α×Int×Int×Int×Unit)→Option ((List α×Int×Int×Int×Unit)⊕(List α×Int×Int×Unit)⊕Unit):=fun(a0,a1,a2,a3,_)=>
 match AU (NS z c) many (a0,a1,a2,a3,())with|none=>none|some r=>match r with
 |.inl (o0,o1,o2,o3,_)=>match AU (NR z c) many (o0,o1,o2,o3,())with|none=>none|some r=>match r with
  |.inl (o4,o5,o6,o7,_)=>match(ilt o7 o6)with
   |true=>some (.inr (.inl (o4,o5,o7,())))
   |false=>match idx o4 o7 with|none=>none|some x8=>match idx o4 o6 with|none=>none|some x9=>match idx o4 o6 with|none=>none|some x10=>match idx (BB o4 (AO o6) (Ac o4 (AO o7) z)) o7 with|none=>none|some x11=>some (.inl ((BB (BB o4 (AO o6) (Ac o4 (AO o7) z)) (AO o7) (Ac o4 (AO o6) z)),o5,(IntKind.wrap .i64 (o6+1)),(IntKind.wrap .i64 (o7-1)),()))
  |.inr _=>none
 |.inr _=>none
def NU[Lk]{α:Type}(z:α)(c:α×α×Unit→Option U9):(List α×Int×Int×Int×Unit)→Option ((List α×Int×Int×Int×Unit)⊕(List α×Int×Int×Int×Unit)⊕Unit):=fun(a0,a1,a2,a3,_)=>
 match(ile a2 a3)with
 |true=>match idx a0 a3 with|none=>none|some x0=>match idx a0 a1 with|none=>none|some x1=>match c ((Ac a0 (AO a3) z),(Ac a0 (AO a1) z),())with|none=>none|some (y2,_)=>match(!(ilt y2 0))with
  |true=>some (.inl (a0,a1,a2,(IntKind.wrap .i64 (a3-1)),()))
  |false=>some (.inr (.inl (a0,a1,a2,a3,())))
 |false=>some (.inr (.inl (a0,a1,a2,a3,())))
def NV[Lk]{α:Type}(z:α)(c:α×α×Unit→Option U9):(List α×Int×Int×Int×Unit)→Option ((List α×Int×Int×Int×Unit)⊕(List α×Int×Int×Int×Unit)⊕Unit):=fun(a0,a1,a2,a3,_)=>
 match(ile a2 a3)with
 |true=>match idx a0 a2 with|none=>none|some x0=>match idx a0 a1 with|none=>none|some x1=>match c ((Ac a0 (AO a2) z),(Ac a0 (AO a1) z),())with|none=>none|some (y2,_)=>match(ilt y2 0)with
  |true=>some (.inl (a0,a1,(IntKind.wrap .i64 (a2+1)),a3,()))
  |false=>some (.inr (.inl (a0,a1,a2,a3,())))
 |false=>some (.inr (.inl (a0,a1,a2,a3,())))
def Sa[Lk]{α:Type}(z:α)(c:α×α×Unit→Option U9):(List α×Int×Int×Int×Unit)→Option ((List α×Int×Bool×Unit)):=fun(a0,a1,a2,a3,_)=>
 match idx a0 a3 with|none=>none|some x0=>match idx a0 a1 with|none=>none|some x1=>match idx a0 a1 with|none=>none|some x2=>match idx (BB a0 (AO a1) (Ac a0 (AO a3) z)) a3 with|none=>none|some x3=>match AU (NV z c) many ((BB (BB a0 (AO a1) (Ac a0 (AO a3) z)) (AO a3) (Ac a0 (AO a1) z)),a1,(IntKind.wrap .i64 (a1+1)),(IntKind.wrap .i64 (a2-1)),())with|none=>none|some r=>match r with
 |.inl (o4,o5,o6,o7,_)=>match AU (NU z c) many (o4,o5,o6,o7,())with|none=>none|some r=>match r with
  |.inl (o8,o9,o10,o11,_)=>match(ilt o11 o10)with
   |true=>match idx o8 o9 with|none=>none|some x12=>match idx o8 o11 with|none=>none|some x13=>match idx o8 o11 with|none=>none|some x14=>match idx (BB o8 (AO o11) (Ac o8 (AO o9) z)) o9 with|none=>none|some x15=>some ((BB (BB o8 (AO o11) (Ac o8 (AO o9) z)) (AO o9) (Ac o8 (AO o11) z)),o11,true,())
   |false=>match idx o8 o11 with|none=>none|some x16=>match idx o8 o10 with|none=>none|some x17=>match idx o8 o10 with|none=>none|some x18=>match idx (BB o8 (AO o10) (Ac o8 (AO o11) z)) o11 with|none=>none|some x19=>match AU (NT z c) many ((BB (BB o8 (AO o10) (Ac o8 (AO o11) z)) (AO o11) (Ac o8 (AO o10) z)),o9,(IntKind.wrap .i64 (o10+1)),(IntKind.wrap .i64 (o11-1)),())with|none=>none|some r=>match r with
   |.inl (o20,o21,o22,_)=>match idx o20 o21 with|none=>none|some x23=>match idx o20 o22 with|none=>none|some x24=>match idx o20 o22 with|none=>none|some x25=>match idx (BB o20 (AO o22) (Ac o20 (AO o21) z)) o21 with|none=>none|some x26=>some ((BB (BB o20 (AO o22) (Ac o20 (AO o21) z)) (AO o21) (Ac o20 (AO o22) z)),o22,false,())
   |.inr _=>none
  |.inr _=>none
 |.inr _=>none
def AD8[Lk]{α:Type}(z:α)(c:α×α×Unit→Option U9)(v:(List α×Int×Int×Int×Unit)):Option ((List α×Int×Bool×Unit)):=Lk.f ((Sa z c) v)
theorem AiN{α:Type}(z:α)(c:α×α×Unit→Option U9)(v:(List α×Int×Int×Int×Unit)):(AD8 z c) v=(Sa z c) v:=AJ _
def Wa[Lk]{α:Type}(z:α)(c:α×α×Unit→Option U9)(self:(List α×Int×Int×Int×Unit)→Option ((List α×Unit)))(y7:List α)(a1 a2 p l:Int)(a4 a5:Bool):Option ((List α×Int×Int×Int×Bool×Bool×Unit)⊕(List α×Unit)⊕Unit):=
 match(ilt 0 a1)with
 |true=>match idx y7 (IntKind.wrap .i64 (a1-1))with|none=>none|some x9=>match idx y7 p with|none=>none|some x10=>match c ((Ac y7 (AO (IntKind.wrap .i64 (a1-1))) z),(Ac y7 (AO p) z),())with|none=>none|some (y11,_)=>match(!(ilt y11 0))with
  |true=>match(Sb z c) (y7,a1,a2,p,())with|none=>none|some (y12,y13,_)=>some (.inl (y12,y13,a2,l,a4,a5,()))
  |false=>match(AD8 z c) (y7,a1,a2,p,())with|none=>none|some (y14,y15,y16,_)=>match quo? .i64 (IntKind.wrap .i64 (a2-a1)) 8 with|none=>none|some x17=>match(ilt (IntKind.wrap .i64 (y15-a1)) (IntKind.wrap .i64 (a2-y15)))with
  |true=>match self (y14,a1,y15,l,())with|none=>none|some (y18,_)=>some (.inl (y18,(IntKind.wrap .i64 (y15+1)),a2,l,(ile x17 (IntKind.wrap .i64 (y15-a1))),y16,()))
  |false=>match self (y14,(IntKind.wrap .i64 (y15+1)),a2,l,())with|none=>none|some (y19,_)=>some (.inl (y19,a1,y15,l,(ile x17 (IntKind.wrap .i64 (a2-y15))),y16,()))
 |false=>match(AD8 z c) (y7,a1,a2,p,())with|none=>none|some (y20,y21,y22,_)=>match quo? .i64 (IntKind.wrap .i64 (a2-a1)) 8 with|none=>none|some x23=>match(ilt (IntKind.wrap .i64 (y21-a1)) (IntKind.wrap .i64 (a2-y21)))with
 |true=>match self (y20,a1,y21,l,())with|none=>none|some (y24,_)=>some (.inl (y24,(IntKind.wrap .i64 (y21+1)),a2,l,(ile x23 (IntKind.wrap .i64 (y21-a1))),y22,()))
 |false=>match self (y20,(IntKind.wrap .i64 (y21+1)),a2,l,())with|none=>none|some (y25,_)=>some (.inl (y25,a1,y21,l,(ile x23 (IntKind.wrap .i64 (a2-y21))),y22,()))
def AM2[Lk]{α:Type}(z:α)(c:α×α×Unit→Option U9)(self:(List α×Int×Int×Int×Unit)→Option ((List α×Unit)))(y6:List α)(a1 a2 p h l:Int)(a4 a5:Bool):Option ((List α×Int×Int×Int×Bool×Bool×Unit)⊕(List α×Unit)⊕Unit):=
 match a4 with
 |true=>match a5 with
  |true=>match(ieq h 1)with
   |true=>match(NQ z c) (y6,a1,a2,())with|none=>none|some (y7,y8,_)=>match y8 with
    |true=>some (.inr (.inl (y7,())))
    |false=>(Wa z c) self y7 a1 a2 p l a4 a5
   |false=>(Wa z c) self y6 a1 a2 p l a4 a5
  |false=>(Wa z c) self y6 a1 a2 p l a4 a5
 |false=>(Wa z c) self y6 a1 a2 p l a4 a5
def AM1[Lk]{α:Type}(z:α)(c:α×α×Unit→Option U9)(self:(List α×Int×Int×Int×Unit)→Option ((List α×Unit)))(y2:List α)(a1 a2 l:Int)(a4 a5:Bool):Option ((List α×Int×Int×Int×Bool×Bool×Unit)⊕(List α×Unit)⊕Unit):=
 match(ADe z c) (y2,a1,a2,())with|none=>none|some (y3,y4,y5,_)=>match(ieq y5 2)with
 |true=>match(Ahp z c) (y3,a1,a2,())with|none=>none|some (y6,_)=>(AM2 z c) self y6 a1 a2 (IntKind.wrap .i64 ((IntKind.wrap .i64 (a2-1))-(IntKind.wrap .i64 (y4-a1)))) 1 l a4 a5
 |false=>(AM2 z c) self y3 a1 a2 y4 y5 l a4 a5
def O4[Lk]{α:Type}(z:α)(c:α×α×Unit→Option U9)(self:(List α×Int×Int×Int×Unit)→Option ((List α×Unit))):(List α×Int×Int×Int×Bool×Bool×Unit)→Option ((List α×Int×Int×Int×Bool×Bool×Unit)⊕(List α×Unit)⊕Unit):=fun(a0,a1,a2,a3,a4,a5,_)=>
 match(ile (IntKind.wrap .i64 (a2-a1)) 12)with
 |true=>match(AjE z c) (a0,a1,a2,())with|none=>none|some (y0,_)=>some (.inr (.inl (y0,())))
 |false=>match(ieq a3 0)with
 |true=>match(ATY z c) (a0,a1,a2,())with|none=>none|some (y1,_)=>some (.inr (.inl (y1,())))
 |false=>match(!a4)with
 |true=>match(AGo z c) (a0,a1,a2,())with|none=>none|some (y2,_)=>(AM1 z c) self y2 a1 a2 (IntKind.wrap .i64 (a3-1)) a4 a5
 |false=>(AM1 z c) self a0 a1 a2 a3 a4 a5
def ADr[Lk]{α:Type}(z:α)(c:α×α×Unit→Option U9)(self:(List α×Int×Int×Int×Unit)→Option ((List α×Unit))):(List α×Int×Int×Int×Unit)→Option ((List α×Unit)):=fun(a0,a1,a2,a3,_)=>
 match AU ((O4 z c) self) many (a0,a1,a2,a3,true,true,())with|none=>none|some r=>match r with
 |.inl (o0,_)=>some (o0,())
 |.inr _=>none
def LR[Lk]{α:Type}(z:α)(c:α×α×Unit→Option U9):Nat→(List α×Int×Int×Int×Unit)→Option ((List α×Unit))
 |0,_=>none
 |n+1,v=>(ADr z c) ((LR z c) n) v
def Ah9[Lk]{α:Type}(z:α)(c:α×α×Unit→Option U9)(v:(List α×Int×Int×Int×Unit)):Option ((List α×Unit)):=Lk.f ((LR z c) 100 v)
theorem Ale{α:Type}(z:α)(c:α×α×Unit→Option U9)(v:(List α×Int×Int×Int×Unit)):(Ah9 z c) v=(LR z c) 100 v:=AJ _
def R9[Lk]{α:Type}(z:α)(c:α×α×Unit→Option U9):(List α×Unit)→Option ((List α×Unit)):=fun(a0,_)=>
 match bitsLen ((IntKind.wrap .u64 (AK a0)),())with|none=>none|some (y0,_)=>match(Ah9 z c) (a0,0,(AK a0),y0,())with|none=>none|some (y1,_)=>some (y1,())
def Aao[Lk]{α:Type}(z:α)(c:α×α×Unit→Option U9)(v:(List α×Unit)):Option ((List α×Unit)):=Lk.f ((R9 z c) v)
theorem AhK{α:Type}(z:α)(c:α×α×Unit→Option U9)(v:(List α×Unit)):(Aao z c) v=(R9 z c) v:=AJ _
abbrev AYs:AE:=[(.tmp 0,.own 43 U3),(.tmp 1,.di),(.tmp 2,.di),(.tmp 3,.clo 164 [])]
abbrev AYr:AE:=[(.obj 0,.own 43 U3)]
abbrev AYq:List RS:=[]
abbrev Abf:AE:=[(.obj 0,.own 43 U3),(.tmp 0,.own' 0),(.tmp 1,.di),(.tmp 2,.di),(.tmp 3,.clo 164 []),(.tmp 8,.di),(.tmp 9,.di)]
abbrev Abd:An:=[(.exit 2,[(.obj 0,.own 43 U3),(.tmp 0,.own' 0),(.tmp 1,.di),(.tmp 2,.di),(.tmp 3,.clo 164 []),(.tmp 8,.di)])]
def Abb[Lk]:Ui→Option (Ui⊕U7⊕Unit):=O9 (([]:List (Int)):U4) BP
abbrev Abg:AE:=[(.obj 0,.own 43 U3),(.tmp 0,.own' 0),(.tmp 1,.di),(.tmp 2,.di),(.tmp 3,.clo 164 []),(.tmp 8,.di)]
abbrev Abe:An:=[(.exit 0,[(.obj 0,.own 43 U3)])]
def Abc[Lk]:U7→Option (U7⊕Ul⊕Unit):=PA (([]:List (Int)):U4) BP
def AjB[Lk]:Ud→Option (Ul):=AFB (([]:List (Int)):U4) BP
def Ann[Lk](v:Ud):Option (Ul):=AjE (([]:List (Int)):U4) BP v
theorem Al7 v:Ann v=AjB v:=AJ _
abbrev AMK:AE:=[(.tmp 0,.own 43 U3),(.tmp 1,.di),(.tmp 2,.di),(.tmp 3,.di),(.tmp 4,.clo 164 [])]
abbrev AMJ:AE:=[(.obj 0,.own 43 U3)]
abbrev AMI:List RS:=[]
abbrev AQj:AE:=[(.obj 0,.own 43 U3),(.tmp 0,.own' 0),(.tmp 2,.di),(.tmp 3,.di),(.tmp 4,.clo 164 []),(.tmp 10,.di)]
abbrev AQi:An:=[(.exit 0,[(.obj 0,.own 43 U3)]),(.ret,[(.obj 0,.own 43 U3)])]
def AQh[Lk]:U7→Option (U7⊕Ul⊕Ul⊕Unit):=KU (([]:List (Int)):U4) BP
def Aau[Lk]:U7→Option (Ul):=SB (([]:List (Int)):U4) BP
def AhR[Lk](v:U7):Option (Ul):=AJb (([]:List (Int)):U4) BP v
theorem AhQ v:AhR v=Aau v:=AJ _
abbrev AOD:AE:=[(.tmp 0,.own 43 U3),(.tmp 1,.di),(.tmp 2,.di),(.tmp 3,.clo 164 [])]
abbrev AOC:AE:=[(.obj 0,.own 43 U3)]
abbrev AOB:List RS:=[]
abbrev ATV:AE:=[(.obj 0,.own 43 U3),(.tmp 0,.own' 0),(.tmp 3,.clo 164 []),(.tmp 8,.di),(.tmp 9,.di),(.tmp 12,.di)]
abbrev ATT:An:=[(.exit 2,[(.obj 0,.own 43 U3)])]
def ATQ[Lk]:U7→Option (U7⊕Ul⊕Unit):=Km (([]:List (Int)):U4) BP
abbrev ATW:AE:=[(.obj 0,.own 43 U3),(.tmp 0,.own' 0),(.tmp 3,.clo 164 []),(.tmp 8,.di),(.tmp 9,.di),(.tmp 10,.di),(.tmp 11,.di)]
abbrev ATU:An:=[(.exit 0,[(.obj 0,.own 43 U3),(.tmp 0,.own' 0),(.tmp 3,.clo 164 []),(.tmp 8,.di),(.tmp 9,.di),(.tmp 10,.di)])]
def ATS[Lk]:Ui→Option (Ui⊕U7⊕Unit):=Ko (([]:List (Int)):U4) BP
def Abr[Lk]:Ud→Option (Ul):=S9 (([]:List (Int)):U4) BP
def AjX[Lk](v:Ud):Option (Ul):=ATY (([]:List (Int)):U4) BP v
theorem AjW v:AjX v=Abr v:=AJ _
abbrev AGm:AE:=[(.tmp 0,.own 43 U3),(.tmp 1,.di),(.tmp 2,.di),(.tmp 3,.clo 164 [])]
abbrev AGl:AE:=[(.obj 0,.own 43 U3)]
abbrev AGk:List RS:=[]
abbrev AKj:AE:=[(.obj 0,.own 43 U3),(.tmp 0,.own' 0),(.tmp 1,.di),(.tmp 8,.di),(.tmp 9,.box 1),(.cell 1 0,.dat (.int .u64)),(.tmp 10,.dat (.int .u64)),(.tmp 11,.di)]
abbrev AKi:An:=[(.exit 0,[(.obj 0,.own 43 U3)])]
def AKh[Lk]:Ut→Option (Ut⊕Ul⊕Unit):=GO (([]:List (Int)):U4) BP
def AUZ[Lk]:Ud→Option (Ul):=OI (([]:List (Int)):U4) BP
def AZ9[Lk](v:Ud):Option (Ul):=AGo (([]:List (Int)):U4) BP v
theorem Af2 v:AZ9 v=AUZ v:=AJ _
abbrev Wj:AE:=[(.tmp 0,.own 43 U3),(.tmp 1,.di),(.tmp 2,.di),(.tmp 3,.box 1),(.cell 1 0,.di),(.tmp 4,.clo 164 [])]
abbrev Wi:AE:=[(.obj 0,.own 43 U3),(.obj 1,.box 1),(.cell 1 0,.di),(.tmp 0,.di),(.tmp 1,.di)]
abbrev Wh:List RS:=[.one,.one]
def AJ5[Lk]:U7→Option (U7):=Kd (([]:List (Int)):U4) BP
def ANJ[Lk](v:U7):Option (U7):=LS (([]:List (Int)):U4) BP v
theorem AXk v:ANJ v=AJ5 v:=AJ _
abbrev Wu:AE:=[(.tmp 0,.own 43 U3),(.tmp 1,.di),(.tmp 2,.di),(.tmp 3,.di),(.tmp 4,.box 1),(.cell 1 0,.di),(.tmp 5,.clo 164 [])]
abbrev Wt:AE:=[(.obj 0,.own 43 U3),(.obj 1,.box 1),(.cell 1 0,.di),(.tmp 0,.di)]
abbrev Ws:List RS:=[.one]
def AJ8[Lk]:Ui→Option (Ud):=Kf (([]:List (Int)):U4) BP
def ANY[Lk](v:Ui):Option (Ud):=La (([]:List (Int)):U4) BP v
theorem AYB v:ANY v=AJ8 v:=AJ _
abbrev W0:AE:=[(.tmp 0,.own 43 U3),(.tmp 1,.di),(.tmp 2,.box 1),(.cell 1 0,.di),(.tmp 3,.clo 164 [])]
abbrev Wz:AE:=[(.obj 0,.own 43 U3),(.obj 1,.box 1),(.cell 1 0,.di),(.tmp 0,.di)]
abbrev Wy:List RS:=[.one]
def AKA[Lk]:Ud→Option (Ud):=Kg (([]:List (Int)):U4) BP
def ANc[Lk](v:Ud):Option (Ud):=Lb (([]:List (Int)):U4) BP v
theorem AYE v:ANc v=AKA v:=AJ _
abbrev ADd:AE:=[(.tmp 0,.own 43 U3),(.tmp 1,.di),(.tmp 2,.di),(.tmp 3,.clo 164 [])]
abbrev ADc:AE:=[(.obj 0,.own 43 U3),(.tmp 0,.di),(.tmp 1,.di)]
abbrev ADb:List RS:=[.one,.one]
def ARR[Lk]:Ud→Option (Ud):=NP (([]:List (Int)):U4) BP
def AXC[Lk](v:Ud):Option (Ud):=ADe (([]:List (Int)):U4) BP v
theorem Adx v:AXC v=ARR v:=AJ _
abbrev AWi:AE:=[(.tmp 0,.own 43 U3),(.tmp 1,.di),(.tmp 2,.di),(.tmp 3,.clo 164 [])]
abbrev AWh:AE:=[(.obj 0,.own 43 U3)]
abbrev AWg:List RS:=[]
abbrev Aa5:AE:=[(.obj 0,.own 43 U3),(.tmp 0,.own' 0),(.tmp 8,.di),(.tmp 9,.di)]
abbrev Aa4:An:=[(.exit 0,[(.obj 0,.own 43 U3)])]
def Aa3[Lk]:Ud→Option (Ud⊕Ul⊕Unit):=SQ (([]:List (Int)):U4) BP
def Ahn[Lk]:Ud→Option (Ul):=ADE (([]:List (Int)):U4) BP
def AnN[Lk](v:Ud):Option (Ul):=Ahp (([]:List (Int)):U4) BP v
theorem AlT v:AnN v=Ahn v:=AJ _
abbrev Qf:AE:=[(.tmp 0,.own 43 U3),(.tmp 1,.di),(.tmp 2,.di),(.tmp 3,.clo 164 [])]
abbrev Qe:AE:=[(.obj 0,.own 43 U3),(.tmp 0,.dat .bool)]
abbrev Qd:List RS:=[.one]
abbrev Y6:AE:=[(.obj 0,.own 43 U3),(.tmp 0,.own' 0),(.tmp 1,.di),(.tmp 2,.di),(.tmp 3,.clo 164 []),(.tmp 9,.di),(.tmp 10,.di),(.tmp 12,.di)]
abbrev Y2:An:=[(.exit 6,[(.obj 0,.own 43 U3),(.tmp 0,.own' 0),(.tmp 1,.di),(.tmp 2,.di),(.tmp 3,.clo 164 []),(.tmp 9,.di),(.tmp 10,.di)])]
def Yy[Lk]:Ut→Option (Ut⊕Ui⊕Unit):=E0 (([]:List (Int)):U4) BP
abbrev Y7:AE:=[(.obj 0,.own 43 U3),(.tmp 0,.own' 0),(.tmp 1,.di),(.tmp 2,.di),(.tmp 3,.clo 164 []),(.tmp 9,.di),(.tmp 10,.di),(.tmp 11,.di)]
abbrev Y3:An:=[(.exit 4,[(.obj 0,.own 43 U3),(.tmp 0,.own' 0),(.tmp 1,.di),(.tmp 2,.di),(.tmp 3,.clo 164 []),(.tmp 9,.di),(.tmp 10,.di)])]
def Yz[Lk]:Ut→Option (Ut⊕Ui⊕Unit):=E1 (([]:List (Int)):U4) BP
abbrev Y8:AE:=[(.obj 0,.own 43 U3),(.tmp 0,.own' 0),(.tmp 1,.di),(.tmp 2,.di),(.tmp 3,.clo 164 []),(.tmp 9,.di),(.tmp 10,.di)]
abbrev Y4:An:=[(.exit 2,[(.obj 0,.own 43 U3),(.tmp 0,.own' 0),(.tmp 1,.di),(.tmp 2,.di),(.tmp 3,.clo 164 []),(.tmp 9,.di),(.tmp 10,.di)])]
def Y0[Lk]:Ui→Option (Ui⊕Ui⊕Unit):=Gu (([]:List (Int)):U4) BP
abbrev Y9:AE:=[(.obj 0,.own 43 U3),(.tmp 0,.own' 0),(.tmp 1,.di),(.tmp 2,.di),(.tmp 3,.clo 164 []),(.tmp 9,.di),(.tmp 10,.di)]
abbrev Y5:An:=[(.ret,[(.obj 0,.own 43 U3),(.tmp 8,.dat .bool)]),(.exit 0,[(.obj 0,.own 43 U3)])]
def Y1[Lk]:Ui→Option (Ui⊕(List U4×Bool×Unit)⊕Ul⊕Unit):=CU (([]:List (Int)):U4) BP
def AD0[Lk]:Ud→Option ((List U4×Bool×Unit)):=ID (([]:List (Int)):U4) BP
def AD1[Lk](v:Ud):Option ((List U4×Bool×Unit)):=NQ (([]:List (Int)):U4) BP v
theorem AR1 v:AD1 v=AD0 v:=AJ _
abbrev Wd:AE:=[(.tmp 0,.own 43 U3),(.tmp 1,.di),(.tmp 2,.di),(.tmp 3,.di),(.tmp 4,.clo 164 [])]
abbrev Wc:AE:=[(.obj 0,.own 43 U3),(.tmp 0,.di)]
abbrev Wb:List RS:=[.one]
abbrev AEF:AE:=[(.obj 0,.own 43 U3),(.tmp 0,.own' 0),(.tmp 1,.di),(.tmp 4,.clo 164 []),(.tmp 11,.di),(.tmp 12,.di)]
abbrev AEC:An:=[(.exit 4,[(.obj 0,.own 43 U3),(.tmp 0,.own' 0),(.tmp 1,.di),(.tmp 4,.clo 164 []),(.tmp 11,.di),(.tmp 12,.di)])]
def AD9[Lk]:U7→Option (U7⊕U7⊕Unit):=IE (([]:List (Int)):U4) BP
abbrev AEG:AE:=[(.obj 0,.own 43 U3),(.tmp 0,.own' 0),(.tmp 1,.di),(.tmp 4,.clo 164 []),(.tmp 11,.di),(.tmp 12,.di)]
abbrev AED:An:=[(.exit 2,[(.obj 0,.own 43 U3),(.tmp 0,.own' 0),(.tmp 1,.di),(.tmp 4,.clo 164 []),(.tmp 11,.di),(.tmp 12,.di)])]
def AEA[Lk]:U7→Option (U7⊕U7⊕Unit):=IF (([]:List (Int)):U4) BP
abbrev AEH:AE:=[(.obj 0,.own 43 U3),(.tmp 0,.own' 0),(.tmp 1,.di),(.tmp 4,.clo 164 []),(.tmp 11,.di),(.tmp 12,.di)]
abbrev AEE:An:=[(.exit 0,[(.obj 0,.own 43 U3),(.tmp 11,.di)])]
def AEB[Lk]:U7→Option (U7⊕V3⊕Unit):=IG (([]:List (Int)):U4) BP
def AJ1[Lk]:U7→Option (V3):=Ka (([]:List (Int)):U4) BP
def ANB[Lk](v:U7):Option (V3):=Sb (([]:List (Int)):U4) BP v
theorem AXa v:ANB v=AJ1 v:=AJ _
end
end Go.Pev
end
section
namespace Go.Pev
noncomputable section
attribute [local irreducible] Py L6 Pe Po AjN AjO AjP WL ADG ACR AAG MJ Ab many IntKind.wrap AK BB Ac A1 B0 DS D6 AO CL Cp imax AS Ah
abbrev AM6:AE:=[(.tmp 0,.own 43 U3),(.tmp 1,.di),(.tmp 2,.di),(.tmp 3,.di),(.tmp 4,.clo 164 [])]
abbrev AM5:AE:=[(.obj 0,.own 43 U3),(.tmp 0,.di),(.tmp 1,.dat .bool)]
abbrev AM4:List RS:=[.one,.one]
abbrev ARo:AE:=[(.obj 0,.own 43 U3),(.tmp 0,.own' 0),(.tmp 1,.di),(.tmp 4,.clo 164 []),(.tmp 12,.di),(.tmp 13,.di)]
abbrev ARj:An:=[(.exit 8,[(.obj 0,.own 43 U3),(.tmp 0,.own' 0),(.tmp 1,.di),(.tmp 4,.clo 164 []),(.tmp 12,.di),(.tmp 13,.di)])]
def ARa[Lk]:U7→Option (U7⊕U7⊕Unit):=NR (([]:List (Int)):U4) BP
abbrev ARp:AE:=[(.obj 0,.own 43 U3),(.tmp 0,.own' 0),(.tmp 1,.di),(.tmp 4,.clo 164 []),(.tmp 12,.di),(.tmp 13,.di)]
abbrev ARk:An:=[(.exit 6,[(.obj 0,.own 43 U3),(.tmp 0,.own' 0),(.tmp 1,.di),(.tmp 4,.clo 164 []),(.tmp 12,.di),(.tmp 13,.di)])]
def ARc[Lk]:U7→Option (U7⊕U7⊕Unit):=NS (([]:List (Int)):U4) BP
abbrev ARq:AE:=[(.obj 0,.own 43 U3),(.tmp 0,.own' 0),(.tmp 1,.di),(.tmp 4,.clo 164 []),(.tmp 12,.di),(.tmp 13,.di)]
abbrev ARl:An:=[(.exit 4,[(.obj 0,.own 43 U3),(.tmp 0,.own' 0),(.tmp 1,.di),(.tmp 13,.di)])]
def ARe[Lk]:U7→Option (U7⊕Ud⊕Unit):=NT (([]:List (Int)):U4) BP
abbrev ARr:AE:=[(.obj 0,.own 43 U3),(.tmp 0,.own' 0),(.tmp 1,.di),(.tmp 4,.clo 164 []),(.tmp 12,.di),(.tmp 13,.di)]
abbrev ARm:An:=[(.exit 2,[(.obj 0,.own 43 U3),(.tmp 0,.own' 0),(.tmp 1,.di),(.tmp 4,.clo 164 []),(.tmp 12,.di),(.tmp 13,.di)])]
def ARg[Lk]:U7→Option (U7⊕U7⊕Unit):=NU (([]:List (Int)):U4) BP
abbrev ARs:AE:=[(.obj 0,.own 43 U3),(.tmp 0,.own' 0),(.tmp 1,.di),(.tmp 4,.clo 164 []),(.tmp 12,.di),(.tmp 13,.di)]
abbrev ARn:An:=[(.exit 0,[(.obj 0,.own 43 U3),(.tmp 0,.own' 0),(.tmp 1,.di),(.tmp 4,.clo 164 []),(.tmp 12,.di),(.tmp 13,.di)])]
def ARi[Lk]:U7→Option (U7⊕U7⊕Unit):=NV (([]:List (Int)):U4) BP
def AbJ[Lk]:U7→Option ((List U4×Int×Bool×Unit)):=Sa (([]:List (Int)):U4) BP
def AiM[Lk](v:U7):Option ((List U4×Int×Bool×Unit)):=AD8 (([]:List (Int)):U4) BP v
theorem AiL v:AiM v=AbJ v:=AJ _
abbrev ADp:AE:=[(.tmp 0,.own 43 U3),(.tmp 1,.di),(.tmp 2,.di),(.tmp 3,.di),(.tmp 4,.clo 164 [])]
abbrev ADo:AE:=[(.obj 0,.own 43 U3)]
abbrev ADn:List RS:=[]
abbrev AbF:AE:=[(.obj 0,.own 43 U3),(.tmp 0,.own' 0),(.tmp 1,.di),(.tmp 2,.di),(.tmp 3,.di),(.tmp 4,.clo 164 []),(.tmp 10,.dat .bool),(.tmp 11,.dat .bool)]
abbrev AbE:An:=[(.ret,[(.obj 0,.own 43 U3)])]
def AbD[Lk](self:U7→Option (Ul)):(List U4×Int×Int×Int×Bool×Bool×Unit)→Option ((List U4×Int×Int×Int×Bool×Bool×Unit)⊕Ul⊕Unit):=O4 (([]:List (Int)):U4) BP self
def AnT[Lk](self:U7→Option (Ul)):U7→Option (Ul):=ADr (([]:List (Int)):U4) BP self
def ADq[Lk]:Nat→U7→Option (Ul):=LR (([]:List (Int)):U4) BP
def Ald[Lk](v:U7):Option (Ul):=Ah9 (([]:List (Int)):U4) BP v
theorem Alc v:Ald v=ADq 100 v:=AJ _
abbrev AL6:AE:=[(.tmp 0,.own 43 U3),(.tmp 1,.clo 164 [])]
abbrev AL5:AE:=[(.obj 0,.own 43 U3)]
abbrev AL4:List RS:=[]
def Aan[Lk]:Ul→Option (Ul):=R9 (([]:List (Int)):U4) BP
def AQX[Lk](v:Ul):Option (Ul):=Aao (([]:List (Int)):U4) BP v
theorem AhJ v:AQX v=Aan v:=AJ _
abbrev ALM:AE:=[(.tmp 0,.dat Uh),(.tmp 1,.dat U3),(.tmp 2,.dat Ua)]
abbrev ALL:AE:=[(.tmp 0,.di),(.tmp 1,.own 43 U3)]
abbrev ALK:List RS:=[.agg 2]
abbrev APs:AE:=[(.tmp 3,.box 2),(.cell 0 0,.di),(.cell 0 1,.dat Ua),(.tmp 6,.box 2),(.cell 1 0,.di),(.cell 1 1,.nil U3),(.tmp 7,.own 43 U3),(.tmp 29,.dat Ua),(.tmp 30,.di),(.tmp 31,.di)]
abbrev APq:An:=[(.exit 2,[(.tmp 3,.box 2),(.cell 0 0,.di),(.cell 0 1,.dat Ua),(.tmp 6,.box 2),(.cell 1 0,.di),(.cell 1 1,.nil U3),(.tmp 7,.own 43 U3)])]
def Ht[Lk]:(Int×List U4×Int×List U4×List U4×Int×Int×Unit)→Option ((Int×List U4×Int×List U4×List U4×Int×Int×Unit)⊕(Int×List U4×Int×List U4×Unit)⊕Unit):=fun(a0,a1,a2,a3,a4,a5,a6,_)=>
 match(ilt a6 a5)with
 |true=>match idx a4 a6 with|none=>none|some x0=>match ACy (x0,())with|none=>none|some (y1,_)=>match(fits ((AK a3)+(AK ([y1]:List U4))))with
  |true=>some (.inl (a0,a1,a2,(A1 a3 ([y1]:List U4)),a4,a5,(IntKind.wrap .i64 (a6+1)),()))
  |false=>none
 |false=>some (.inr (.inl (a0,a1,a2,a3,())))
abbrev APt:AE:=[(.tmp 1,.dat U3),(.tmp 2,.dat Ua),(.tmp 3,.box 2),(.cell 0 0,.di),(.cell 0 1,.dat Ua),(.tmp 6,.box 2),(.cell 1 0,.di),(.cell 1 1,.nil U3),(.tmp 7,.own 43 U3),(.tmp 13,.dat Ua),(.tmp 14,.di),(.tmp 15,.di)]
abbrev APr:An:=[(.exit 0,[(.tmp 2,.dat Ua),(.tmp 3,.box 2),(.cell 0 0,.di),(.cell 0 1,.dat Ua),(.tmp 6,.box 2),(.cell 1 0,.di),(.cell 1 1,.nil U3),(.tmp 7,.own 43 U3)])]
def Hu[Lk]:(List Int×List U4×Int×List U4×Int×List U4×List U4×Int×Int×Unit)→Option ((List Int×List U4×Int×List U4×Int×List U4×List U4×Int×Int×Unit)⊕(List U4×Int×List U4×Int×List U4×Unit)⊕Unit):=fun(a0,a1,a2,a3,a4,a5,a6,a7,a8,_)=>
 match(ilt a8 a7)with
 |true=>match idx a6 a8 with|none=>none|some x0=>match GM (a0,a8,())with|none=>none|some (y1,_)=>match(!y1)with
  |true=>match(fits ((AK a5)+(AK ([x0]:List U4))))with
   |true=>some (.inl (a0,a1,a2,a3,a4,(A1 a5 ([x0]:List U4)),a6,a7,(IntKind.wrap .i64 (a8+1)),()))
   |false=>none
  |false=>some (.inl (a0,a1,a2,a3,a4,a5,a6,a7,(IntKind.wrap .i64 (a8+1)),()))
 |false=>some (.inr (.inl (a1,a2,a3,a4,a5,())))
def AAm[Lk]:(Uk×List Int×List U4×Unit)→Option ((Int×List U4×Unit)):=fun(a0,a1,a2,_)=>
 match AU Hu many (a1,a2,a0.1,a0.2.1,0,([]:List U4),a0.2.1,(AK a0.2.1),0,())with|none=>none|some r=>match r with
 |.inl (o0,o1,o2,o3,o4,_)=>match AU Ht many (o1,o2,o3,o4,o0,(AK o0),0,())with|none=>none|some r=>match r with
  |.inl (o5,o6,o7,o8,_)=>match AQX (o8,())with|none=>none|some (y9,_)=>some (o5,y9,())
  |.inr _=>none
 |.inr _=>none
def APv[Lk]:=fun v=>Lk.f (AAm v)
theorem APu v:APv v=AAm v:=AJ _
abbrev ALr:AE:=[(.tmp 0,.dat Uh),(.tmp 1,.di),(.tmp 2,.di)]
abbrev ALq:AE:=[(.tmp 0,.di),(.tmp 1,.dat Ua),(.tmp 2,.di)]
abbrev ALp:List RS:=[.agg 2,.one]
def HN[Lk]:(Uk×Int×Int×Unit)→Option (V8):=fun(a0,a1,a2,_)=>
 match asked ((a0.1,(a0.2.1,())),a1,a2,())with|none=>none|some (y0,_)=>match(!(ieq y0 0))with
 |true=>some (a0.1,a0.2.1,y0,())
 |false=>match QH ((a0.1,(a0.2.1,())),a1,())with|none=>none|some (y1,_)=>match QH ((a0.1,(a0.2.1,())),a2,())with|none=>none|some (y2,_)=>match(ieq y1 y2)with
 |true=>some (a0.1,a0.2.1,5,())
 |false=>match idx a0.2.1 y1 with|none=>none|some x3=>match AJp (x3,a1,())with|none=>none|some (y4,y5,_)=>match idx a0.2.1 y2 with|none=>none|some x6=>match AJp (x6,a2,())with|none=>none|some (y7,y8,_)=>match Cj y4 0 1 with|none=>none|some x9=>match Acx (a0.1,a1,a2,())with|none=>none|some (y10,_)=>match Acx (a0.1,a2,a1,())with|none=>none|some (y11,_)=>match Cj y4 1 (AK y4)with|none=>none|some x12=>match JY (([(DS 0 (AO (AK x9)) y4),([y10]:List (Int)),y7,([y11]:List (Int)),(DS 1 (AO (AK x12)) y4)]:List U4),())with|none=>none|some (y13,_)=>match APv ((a0.1,(a0.2.1,())),([y1,y2]:List (Int)),([y13]:List U4),())with|none=>none|some (y14,y15,_)=>some (y14,y15,0,())
def NA[Lk]:=fun v=>Lk.f (HN v)
theorem H3 v:NA v=HN v:=AJ _
abbrev GH:AE:=[(.tmp 0,.dat U3),(.cap 1 0,.box 2),(.cell 0 0,.di),(.cell 0 1,.dat Ua),(.tmp 1,.clo 158 [(0,0)])]
abbrev GG:AE:=[(.obj 0,.box 2),(.cell 0 0,.di),(.cell 0 1,.dat Ua),(.tmp 0,.di)]
abbrev GF:List RS:=[.one]
abbrev JK:AE:=[(.obj 0,.box 2),(.cell 0 0,.di),(.cell 0 1,.dat Ua),(.tmp 0,.dat U3),(.tmp 1,.clo 158 [(0,0)]),(.tmp 7,.di),(.tmp 8,.di)]
abbrev JJ:An:=[(.ret,[(.obj 0,.box 2),(.cell 0 0,.di),(.cell 0 1,.dat Ua),(.tmp 4,.di)]),(.exit 0,[(.obj 0,.box 2),(.cell 0 0,.di),(.cell 0 1,.dat Ua)])]
def Bk[Lk]:(Int×List U4×List Int×Int×Int×Unit)→Option ((Int×List U4×List Int×Int×Int×Unit)⊕V8⊕(Int×List U4×Unit)⊕Unit):=fun(a0,a1,a2,a3,a4,_)=>
 match(ilt a4 a3)with
 |true=>match idx a2 a4 with|none=>none|some x0=>match(ilt x0 0)with
  |true=>some (.inr (.inl (a0,a1,a4,())))
  |false=>match(ile a0 x0)with
  |true=>some (.inr (.inl (a0,a1,a4,())))
  |false=>some (.inl (a0,a1,a2,a3,(IntKind.wrap .i64 (a4+1)),()))
 |false=>some (.inr (.inr (.inl (a0,a1,()))))
def D3[Lk]:(List Int×Int×List U4×Unit)→Option (V8):=fun(a0,a1,a2,_)=>
 match AU Bk many (a1,a2,a0,(AK a0),0,())with|none=>none|some r=>match r with
 |.inl (o0,o1,o2,_)=>some (o0,o1,o2,())
 |.inr r=>match r with
 |.inl (o3,o4,_)=>some (o3,o4,(-1:Int),())
 |.inr _=>none
def FN[Lk]:=fun v=>Lk.f (D3 v)
theorem JL v:FN v=D3 v:=AJ _
abbrev FX:AE:=[(.tmp 0,.dat U3),(.cap 1 0,.box 2),(.cell 0 0,.di),(.cell 0 1,.dat Ua),(.tmp 1,.clo 158 [(0,0)])]
abbrev FW:AE:=[(.obj 0,.box 2),(.cell 0 0,.di),(.cell 0 1,.dat Ua),(.tmp 0,.dat .bool)]
abbrev FV:List RS:=[.one]
def DU[Lk]:(List Int×Int×List U4×Unit)→Option ((Int×List U4×Bool×Unit)):=fun(a0,a1,a2,_)=>
 match FN (a0,a1,a2,())with|none=>none|some (y0,y1,y2,_)=>some (y0,y1,(ile 0 y2),())
def DN[Lk]:=fun v=>Lk.f (DU v)
theorem Ie v:DN v=DU v:=AJ _
abbrev AFc:AE:=[(.tmp 0,.dat Uh),(.tmp 1,.dat U3)]
abbrev AFb:AE:=[(.tmp 0,.di)]
abbrev AFa:List RS:=[.one]
def TC[Lk]:(Uk×List Int×Unit)→Option (U9):=fun(a0,a1,_)=>
 match QG ((a0.1,(a0.2.1,())),())with|none=>none|some (y0,_)=>match(!y0)with
 |true=>some (1,())
 |false=>match DN (a1,a0.1,a0.2.1,())with|none=>none|some (y1,y2,y3,_)=>match y3 with
 |true=>some (10,())
 |false=>some (0,())
def Q9[Lk]:=fun v=>Lk.f (TC v)
theorem AKX v:Q9 v=TC v:=AJ _
abbrev AZT:AE:=[(.tmp 0,.dat Ug)]
abbrev AZS:AE:=[(.tmp 0,.own 3 U0)]
abbrev AZR:List RS:=[.one]
abbrev Ab3:AE:=[(.tmp 3,.own 3 U0),(.tmp 6,.dat Ug),(.tmp 7,.di),(.tmp 8,.di)]
abbrev Ab2:An:=[(.exit 0,[(.tmp 3,.own 3 U0)])]
def L7[Lk]:(List Int×List U1×Int×Int×Unit)→Option ((List Int×List U1×Int×Int×Unit)⊕Un⊕Unit):=fun(a0,a1,a2,a3,_)=>
 match(ilt a3 a2)with
 |true=>match idx a1 a3 with|none=>none|some x0=>match(fits ((AK a0)+(AK ([x0.1,x0.2.1]:List (Int)))))with
  |true=>some (.inl ((A1 a0 ([x0.1,x0.2.1]:List (Int))),a1,a2,(IntKind.wrap .i64 (a3+1)),()))
  |false=>none
 |false=>some (.inr (.inl (a0,())))
def AOY[Lk]:Um→Option (Un):=fun(a0,_)=>
 match AU L7 many (([]:List (Int)),a0,(AK a0),0,())with|none=>none|some r=>match r with
 |.inl (o0,_)=>some (o0,())
 |.inr _=>none
def ends[Lk]:=fun v=>Lk.f (AOY v)
theorem Ab4 v:ends v=AOY v:=AJ _
abbrev RN:AE:=[(.tmp 0,.dat Uh),(.tmp 1,.dat Ug),(.tmp 2,.clo 131 [])]
abbrev RL:AE:=[(.tmp 0,.dat Uh),(.tmp 1,.own 4 .bool),(.tmp 2,.di)]
abbrev RJ:List RS:=[.one,.one,.one]
abbrev Zg:AE:=[(.tmp 2,.clo 131 []),(.tmp 3,.box 2),(.cell 0 0,.di),(.cell 0 1,.dat Ua),(.tmp 6,.box 2),(.cell 1 0,.di),(.cell 1 1,.nil U3),(.tmp 10,.own 4 .bool),(.tmp 23,.dat Ug),(.tmp 24,.di),(.tmp 25,.di)]
abbrev Zf:An:=[(.exit 0,[(.tmp 3,.box 2),(.cell 0 0,.di),(.cell 0 1,.dat Ua),(.tmp 6,.box 2),(.cell 1 0,.di),(.cell 1 1,.nil U3),(.tmp 10,.own 4 .bool)])]
def Bv[Lk]:(Int×List U4×Int×List Bool×List U1×Int×Int×Unit)→Option ((Int×List U4×Int×List Bool×List U1×Int×Int×Unit)⊕(Int×List U4×Int×List Bool×Unit)⊕Unit):=fun(a0,a1,a2,a3,a4,a5,a6,_)=>
 match(ilt a6 a5)with
 |true=>match idx a4 a6 with|none=>none|some x0=>match NA ((a0,(a1,())),x0.1,x0.2.1,())with|none=>none|some (y1,y2,y3,_)=>match(fits ((AK a3)+(AK ([(ieq y3 0)]:List (Bool)))))with
  |true=>some (.inl (y1,y2,a2,(A1 a3 ([(ieq y3 0)]:List (Bool))),a4,a5,(IntKind.wrap .i64 (a6+1)),()))
  |false=>none
 |false=>some (.inr (.inl (a0,a1,a2,a3,())))
def IZ[Lk]:(Uk×List U1×Unit)→Option ((Uk×List Bool×Int×Unit)):=fun(a0,a1,_)=>
 match ends (a1,())with|none=>none|some (y0,_)=>match Q9 ((a0.1,(a0.2.1,())),y0,())with|none=>none|some (y1,_)=>match(!(ieq y1 0))with
 |true=>some ((a0.1,(a0.2.1,())),([]:List (Bool)),y1,())
 |false=>match AU Bv many (a0.1,a0.2.1,0,([]:List (Bool)),a1,(AK a1),0,())with|none=>none|some r=>match r with
 |.inl (o2,o3,o4,o5,_)=>some ((o2,(o3,())),o5,0,())
 |.inr _=>none
def TL[Lk]:=fun v=>Lk.f (IZ v)
theorem N4 v:TL v=IZ v:=AJ _
abbrev AFi:AE:=[(.tmp 0,.dat Uh),(.tmp 1,.dat Ug)]
abbrev AFh:AE:=[(.tmp 0,.dat Uh),(.tmp 1,.own 4 .bool),(.tmp 2,.di)]
abbrev AFg:List RS:=[.one,.one,.one]
def N0[Lk]:(Uk×List U1×Unit)→Option ((Uk×List Bool×Int×Unit)):=fun(a0,a1,_)=>
 match TL ((a0.1,(a0.2.1,())),a1,())with|none=>none|some (y0,y1,y2,_)=>some ((y0.1,(y0.2.1,())),y1,y2,())
def AOR[Lk]:=fun v=>Lk.f (N0 v)
theorem XZ v:AOR v=N0 v:=AJ _
abbrev Ajs:AE:=[(.tmp 0,.di),(.tmp 1,.dat Ug)]
abbrev Ajr:AE:=[(.tmp 0,.dat Uh),(.tmp 1,.di)]
abbrev Ajq:List RS:=[.one,.one]
def ATt[Lk]:(Int×List U1×Unit)→Option (Vh):=fun(a0,a1,_)=>
 match AQM (a0,())with|none=>none|some (y0,y1,y2,_)=>match(!(ieq y2 0))with
 |true=>some ((0,(([]:List U4),())),y2,())
 |false=>match AOR ((y0,(y1,())),a1,())with|none=>none|some (y3,y4,y5,_)=>match(!(ieq y5 0))with
 |true=>some ((0,(([]:List U4),())),y5,())
 |false=>some ((y3.1,(y3.2.1,())),0,())
def fof[Lk]:=fun v=>Lk.f (ATt v)
theorem AZI v:fof v=ATt v:=AJ _
abbrev Aii:AE:=[(.tmp 0,.dat U3)]
abbrev Aig:AE:=[(.tmp 0,.di)]
abbrev Aie:List RS:=[.one]
abbrev Aih:AE:=[(.tmp 3,.di),(.tmp 6,.dat U3),(.tmp 7,.di),(.tmp 8,.di)]
abbrev Aif:An:=[(.ret,[(.tmp 2,.di)]),(.exit 0,[(.tmp 3,.di)])]
def Fz[Lk]:(Int×List Int×Int×Int×Unit)→Option ((Int×List Int×Int×Int×Unit)⊕U9⊕U9⊕Unit):=fun(a0,a1,a2,a3,_)=>
 match(ilt a3 a2)with
 |true=>match idx a1 a3 with|none=>none|some x0=>match(!(ieq x0 a0))with
  |true=>some (.inr (.inl (x0,())))
  |false=>some (.inl (a0,a1,a2,(IntKind.wrap .i64 (a3+1)),()))
 |false=>some (.inr (.inr (.inl (a0,()))))
def AJ7[Lk]:Un→Option (U9):=fun(a0,_)=>
 match AU Fz many (0,a0,(AK a0),0,())with|none=>none|some r=>match r with
 |.inl (o0,_)=>some (o0,())
 |.inr r=>match r with
 |.inl (o1,_)=>some (o1,())
 |.inr _=>none
def orI[Lk]:=fun v=>Lk.f (AJ7 v)
theorem ANM v:orI v=AJ7 v:=AJ _
abbrev AEo:AE:=[(.tmp 0,.di)]
abbrev AEn:AE:=[(.tmp 0,.dat .bool)]
abbrev AEm:List RS:=[.one]
def Ng[Lk]:U9→Option (Uf):=fun(a0,_)=>
 match(ile 1 a0)with
 |true=>some ((ile a0 64),())
 |false=>some (false,())
def W7[Lk]:=fun v=>Lk.f (Ng v)
theorem W6 v:W7 v=Ng v:=AJ _
abbrev AYT:AE:=[(.tmp 0,.di)]
abbrev AYS:AE:=[(.tmp 0,.di)]
abbrev AYR:List RS:=[.one]
def AYU[Lk]:U9→Option (U9):=fun(a0,_)=>
 match W7 (a0,())with|none=>none|some (y0,_)=>match(!y0)with
 |true=>some (0,())
 |false=>match bitsLen ((IntKind.wrap .u64 (IntKind.wrap .i64 (a0-1))),())with|none=>none|some (y1,_)=>some (y1,())
def ANo[Lk]:=fun v=>Lk.f (AYU v)
theorem Aly v:ANo v=AYU v:=AJ _
abbrev Qv:AE:=[(.tmp 0,.dat (.prod U0 (.prod U0 (.prod U0 (.prod .bool .unit))))),(.tmp 1,.dat (.prod U0 (.prod U0 (.prod U0 (.prod .bool .unit)))))]
abbrev Qu:AE:=[(.tmp 0,.di)]
abbrev Qt:List RS:=[.one]
def Lj[Lk]:(U6×U6×Unit)→Option (U9):=fun(a0,a1,_)=>
 match Dk (a0.1,a1.1,())with|none=>none|some (y0,_)=>match Dk (a0.2.1,a1.2.1,())with|none=>none|some (y1,_)=>match orI (([y0,y1]:List (Int)),())with|none=>none|some (y2,_)=>some (y2,())
def Kj[Lk]:=fun v=>Lk.f (Lj v)
theorem ZU v:Kj v=Lj v:=AJ _
abbrev AEk:AE:=[(.tmp 0,.dat Up),(.tmp 1,.di)]
abbrev AEj:AE:=[(.tmp 0,.own 34 U2)]
abbrev AEi:List RS:=[.one]
abbrev AKJ:AE:=[(.tmp 1,.di),(.tmp 5,.own 34 U2),(.tmp 9,.dat U5),(.tmp 10,.di),(.tmp 11,.di)]
abbrev AKI:An:=[(.exit 0,[(.tmp 5,.own 34 U2)])]
def Cn[Lk]:(Int×List U1×List U6×Int×Int×Unit)→Option ((Int×List U1×List U6×Int×Int×Unit)⊕Um⊕Unit):=fun(a0,a1,a2,a3,a4,_)=>
 match(ilt a4 a3)with
 |true=>match idx a2 a4 with|none=>none|some x0=>match x0.2.2.2.1 with
  |true=>match(ile a0 x0.2.2.1)with
   |true=>match(fits ((AK a1)+(AK ([(x0.1,(x0.2.1,()))]:List U1))))with
    |true=>some (.inl (a0,(A1 a1 ([(x0.1,(x0.2.1,()))]:List U1)),a2,a3,(IntKind.wrap .i64 (a4+1)),()))
    |false=>none
   |false=>some (.inl (a0,a1,a2,a3,(IntKind.wrap .i64 (a4+1)),()))
  |false=>some (.inl (a0,a1,a2,a3,(IntKind.wrap .i64 (a4+1)),()))
 |false=>some (.inr (.inl (a1,())))
def Nf[Lk]:(Uo×Int×Unit)→Option (Um):=fun(a0,a1,_)=>
 match AU Cn many (a1,([]:List U1),a0.2.1,(AK a0.2.1),0,())with|none=>none|some r=>match r with
 |.inl (o0,_)=>some (o0,())
 |.inr _=>none
def Qr[Lk]:=fun v=>Lk.f (Nf v)
theorem W5 v:Qr v=Nf v:=AJ _
abbrev AEr:AE:=[(.tmp 0,.dat Up)]
abbrev AEq:AE:=[(.tmp 0,.dat .bool)]
abbrev AEp:List RS:=[.one]
abbrev AKL:AE:=[(.tmp 1,.box 2),(.cell 0 0,.di),(.cell 0 1,.dat U5),(.tmp 3,.di),(.tmp 23,.dat U5),(.tmp 24,.di),(.tmp 25,.di)]
abbrev AKK:An:=[(.ret,[(.tmp 2,.dat .bool)]),(.exit 0,[(.tmp 1,.box 2),(.cell 0 0,.di),(.cell 0 1,.dat U5)])]
def Dy[Lk]:(Int×List U6×Int×List U6×Int×Int×Unit)→Option ((Int×List U6×Int×List U6×Int×Int×Unit)⊕Uf⊕(Int×List U6×Unit)⊕Unit):=fun(a0,a1,a2,a3,a4,a5,_)=>
 match(ilt a5 a4)with
 |true=>match idx a3 a5 with|none=>none|some x0=>match(ilt x0.1 0)with
  |true=>some (.inr (.inl (false,())))
  |false=>match(ile x0.2.1 x0.1)with
  |true=>some (.inr (.inl (false,())))
  |false=>match(ile a0 x0.2.1)with
  |true=>some (.inr (.inl (false,())))
  |false=>match(ilt x0.2.2.1 0)with
  |true=>some (.inr (.inl (false,())))
  |false=>match(ilt a2 x0.2.2.1)with
  |true=>some (.inr (.inl (false,())))
  |false=>match(ilt 0 a5)with
  |true=>match idx a1 (IntKind.wrap .i64 (a5-1))with|none=>none|some x1=>match Kj ((x1.1,(x1.2.1,(x1.2.2.1,(x1.2.2.2.1,())))),(x0.1,(x0.2.1,(x0.2.2.1,(x0.2.2.2.1,())))),())with|none=>none|some (y2,_)=>match(ile 0 y2)with
   |true=>some (.inr (.inl (false,())))
   |false=>some (.inl (a0,a1,a2,a3,a4,(IntKind.wrap .i64 (a5+1)),()))
  |false=>some (.inl (a0,a1,a2,a3,a4,(IntKind.wrap .i64 (a5+1)),()))
 |false=>some (.inr (.inr (.inl (a0,a1,()))))
def IK[Lk]:(Uo×Unit)→Option (Uf):=fun(a0,_)=>
 match W7 (a0.1,())with|none=>none|some (y0,_)=>match(!y0)with
 |true=>some (false,())
 |false=>match(ilt 400 (AK a0.2.1))with
 |true=>some (false,())
 |false=>match ANo (a0.1,())with|none=>none|some (y1,_)=>match AU Dy many (a0.1,a0.2.1,y1,a0.2.1,(AK a0.2.1),0,())with|none=>none|some r=>match r with
 |.inl (o2,_)=>some (o2,())
 |.inr r=>match r with
 |.inl (o3,o4,_)=>match Qr ((o3,(o4,())),0,())with|none=>none|some (y5,_)=>match fof (o3,y5,())with|none=>none|some (y6,y7,_)=>match(ieq y7 0)with
  |true=>some ((ieq (AK y6.2.1) (IntKind.wrap .i64 (o3-(AK y5)))),())
  |false=>some (false,())
 |.inr _=>none
def Ld[Lk]:=fun v=>Lk.f (IK v)
theorem Kh v:Ld v=IK v:=AJ _
abbrev OG:AE:=[(.tmp 0,.di),(.tmp 1,.dat Ug)]
abbrev OF:AE:=[(.tmp 0,.own 3 U0)]
abbrev OE:List RS:=[.one]
abbrev TZ:AE:=[(.tmp 0,.di),(.tmp 1,.dat Ug),(.tmp 5,.own 3 U0),(.tmp 7,.dat .bool),(.tmp 8,.di)]
abbrev TW:An:=[(.exit 4,[(.tmp 0,.di),(.tmp 1,.dat Ug),(.tmp 5,.own 3 U0),(.tmp 7,.dat .bool)])]
def DD[Lk]:(Int×List U1×List Int×Bool×Int×Unit)→Option ((Int×List U1×List Int×Bool×Int×Unit)⊕(Int×List U1×List Int×Bool×Unit)⊕Unit):=fun(a0,a1,a2,a3,a4,_)=>
 match(ilt a4 (AK a1))with
 |true=>match idx a1 a4 with|none=>none|some x0=>match idx a1 a4 with|none=>none|some x1=>match(ilt x0.1 0)with
  |true=>some (.inl (a0,a1,a2,a3,(IntKind.wrap .i64 (a4+1)),()))
  |false=>match(ilt x1.2.1 0)with
  |true=>some (.inl (a0,a1,a2,a3,(IntKind.wrap .i64 (a4+1)),()))
  |false=>match(ile a0 x0.1)with
  |true=>some (.inl (a0,a1,a2,a3,(IntKind.wrap .i64 (a4+1)),()))
  |false=>match(ile a0 x1.2.1)with
  |true=>some (.inl (a0,a1,a2,a3,(IntKind.wrap .i64 (a4+1)),()))
  |false=>match idx a2 x0.1 with|none=>none|some x2=>match idx a2 x1.2.1 with|none=>none|some x3=>match(ieq (Ac a2 (AO x0.1) 0) (Ac a2 (AO x1.2.1) 0))with
  |true=>some (.inl (a0,a1,a2,a3,(IntKind.wrap .i64 (a4+1)),()))
  |false=>match idx a2 x0.1 with|none=>none|some x4=>match idx a2 x1.2.1 with|none=>none|some x5=>match idx a2 x0.1 with|none=>none|some x6=>match idx (BB a2 (AO x0.1) (Cp (Ac a2 (AO x0.1) 0) (Ac a2 (AO x1.2.1) 0))) x1.2.1 with|none=>none|some x7=>some (.inl (a0,a1,(BB (BB a2 (AO x0.1) (Cp (Ac a2 (AO x0.1) 0) (Ac a2 (AO x1.2.1) 0))) (AO x1.2.1) (Cp (Ac a2 (AO x0.1) 0) (Ac a2 (AO x1.2.1) 0))),true,(IntKind.wrap .i64 (a4+1)),()))
 |false=>some (.inr (.inl (a0,a1,a2,a3,())))
abbrev Ta:AE:=[(.tmp 0,.di),(.tmp 1,.dat Ug),(.tmp 5,.own 3 U0),(.tmp 7,.dat .bool)]
abbrev TX:An:=[(.exit 2,[(.tmp 5,.own 3 U0)])]
def D7[Lk]:(Int×List U1×List Int×Bool×Unit)→Option ((Int×List U1×List Int×Bool×Unit)⊕Un⊕Unit):=fun(a0,a1,a2,a3,_)=>
 match a3 with
 |true=>match AU DD many (a0,a1,a2,false,0,())with|none=>none|some r=>match r with
  |.inl (o0,o1,o2,o3,_)=>some (.inl (o0,o1,o2,o3,()))
  |.inr _=>none
 |false=>some (.inr (.inl (a2,())))
abbrev Tb:AE:=[(.tmp 0,.di),(.tmp 1,.dat Ug),(.tmp 5,.own 3 U0),(.tmp 6,.di)]
abbrev TY:An:=[(.exit 0,[(.tmp 0,.di),(.tmp 1,.dat Ug),(.tmp 5,.own 3 U0)])]
def DE[Lk]:(Int×List U1×List Int×Int×Unit)→Option ((Int×List U1×List Int×Int×Unit)⊕(Int×List U1×List Int×Unit)⊕Unit):=fun(a0,a1,a2,a3,_)=>
 match(ilt a3 a0)with
 |true=>match(fits ((AK a2)+(AK ([a3]:List (Int)))))with
  |true=>some (.inl (a0,a1,(A1 a2 ([a3]:List (Int))),(IntKind.wrap .i64 (a3+1)),()))
  |false=>none
 |false=>some (.inr (.inl (a0,a1,a2,())))
def JZ[Lk]:(Int×List U1×Unit)→Option (Un):=fun(a0,a1,_)=>
 match AU DE many (a0,a1,([]:List (Int)),0,())with|none=>none|some r=>match r with
 |.inl (o0,o1,o2,_)=>match AU D7 many (o0,o1,o2,true,())with|none=>none|some r=>match r with
  |.inl (o3,_)=>some (o3,())
  |.inr _=>none
 |.inr _=>none
def Hm[Lk]:=fun v=>Lk.f (JZ v)
theorem Tc v:Hm v=JZ v:=AJ _
abbrev ALg:AE:=[(.tmp 0,.di)]
abbrev ALf:AE:=[(.tmp 0,.di)]
abbrev ALe:List RS:=[.one]
abbrev AQG:AE:=[(.tmp 3,.di),(.tmp 4,.di)]
abbrev AQF:An:=[(.exit 0,[(.tmp 3,.di)])]
def AB5[Lk]:U1→Option (U1⊕U9⊕Unit):=fun(a0,a1,_)=>
 match(ilt 0 a1)with
 |true=>match quo? .i64 a1 2 with|none=>none|some x0=>some (.inl ((IntKind.wrap .i64 (a0+1)),x0,()))
 |false=>some (.inr (.inl (a0,())))
def ALi[Lk]:U9→Option (U9):=fun(a0,_)=>
 match(ilt a0 1)with
 |true=>some (0,())
 |false=>match(ilt 64 a0)with
 |true=>some (0,())
 |false=>match AU AB5 many (0,(IntKind.wrap .i64 (a0-1)),())with|none=>none|some r=>match r with
 |.inl (o0,_)=>some (o0,())
 |.inr _=>none
def Pn[Lk]:=fun v=>Lk.f (ALi v)
theorem Agr v:Pn v=ALi v:=AJ _
abbrev Vy:AE:=[(.tmp 0,.dat Up)]
abbrev Vx:AE:=[(.tmp 0,.dat .bool)]
abbrev Vw:List RS:=[.one]
abbrev AC3:AE:=[(.tmp 1,.box 2),(.cell 0 0,.di),(.cell 0 1,.dat U5),(.tmp 3,.own 34 U2),(.tmp 6,.own 3 U0),(.tmp 7,.di),(.tmp 8,.di)]
abbrev AC1:An:=[(.exit 2,[(.tmp 1,.box 2),(.cell 0 0,.di),(.cell 0 1,.dat U5),(.tmp 3,.own 34 U2),(.tmp 7,.di)])]
def Db[Lk]:(Int×List U6×List U1×List Int×Int×Int×Unit)→Option ((Int×List U6×List U1×List Int×Int×Int×Unit)⊕(Int×List U6×List U1×Int×Unit)⊕Unit):=fun(a0,a1,a2,a3,a4,a5,_)=>
 match(ilt a5 a0)with
 |true=>match idx a3 a5 with|none=>none|some x0=>match(ieq (Ac a3 (AO a5) 0) a5)with
  |true=>some (.inl (a0,a1,a2,a3,(IntKind.wrap .i64 (a4+1)),(IntKind.wrap .i64 (a5+1)),()))
  |false=>some (.inl (a0,a1,a2,a3,a4,(IntKind.wrap .i64 (a5+1)),()))
 |false=>some (.inr (.inl (a0,a1,a2,a4,())))
abbrev AC4:AE:=[(.tmp 1,.box 2),(.cell 0 0,.di),(.cell 0 1,.dat U5),(.tmp 3,.own 34 U2),(.tmp 4,.di)]
abbrev AC2:An:=[(.ret,[(.tmp 2,.dat .bool)]),(.exit 0,[(.tmp 1,.box 2),(.cell 0 0,.di),(.cell 0 1,.dat U5),(.tmp 3,.own 34 U2)])]
def Cz[Lk]:(Int×List U6×List U1×Int×Unit)→Option ((Int×List U6×List U1×Int×Unit)⊕Uf⊕(Int×List U6×List U1×Unit)⊕Unit):=fun(a0,a1,a2,a3,_)=>
 match(ilt a3 (AK a1))with
 |true=>match idx a1 a3 with|none=>none|some x0=>match(ilt x0.1 0)with
  |true=>some (.inr (.inl (false,())))
  |false=>match(ile x0.2.1 x0.1)with
  |true=>some (.inr (.inl (false,())))
  |false=>match(ile a0 x0.2.1)with
  |true=>some (.inr (.inl (false,())))
  |false=>match(ilt x0.2.2.1 0)with
  |true=>some (.inr (.inl (false,())))
  |false=>match Pn (a0,())with|none=>none|some (y1,_)=>match(ilt y1 x0.2.2.1)with
  |true=>some (.inr (.inl (false,())))
  |false=>match(ilt 0 a3)with
  |true=>match idx a1 (IntKind.wrap .i64 (a3-1))with|none=>none|some x2=>match(ilt x0.1 x2.1)with
   |true=>some (.inr (.inl (false,())))
   |false=>match idx a1 (IntKind.wrap .i64 (a3-1))with|none=>none|some x3=>match(ieq x3.1 x0.1)with
   |true=>match idx a1 (IntKind.wrap .i64 (a3-1))with|none=>none|some x4=>match(ile x0.2.1 x4.2.1)with
    |true=>some (.inr (.inl (false,())))
    |false=>match x0.2.2.2.1 with
    |true=>match(fits ((AK a2)+(AK ([(x0.1,(x0.2.1,()))]:List U1))))with
     |true=>some (.inl (a0,a1,(A1 a2 ([(x0.1,(x0.2.1,()))]:List U1)),(IntKind.wrap .i64 (a3+1)),()))
     |false=>none
    |false=>some (.inl (a0,a1,a2,(IntKind.wrap .i64 (a3+1)),()))
   |false=>match x0.2.2.2.1 with
   |true=>match(fits ((AK a2)+(AK ([(x0.1,(x0.2.1,()))]:List U1))))with
    |true=>some (.inl (a0,a1,(A1 a2 ([(x0.1,(x0.2.1,()))]:List U1)),(IntKind.wrap .i64 (a3+1)),()))
    |false=>none
   |false=>some (.inl (a0,a1,a2,(IntKind.wrap .i64 (a3+1)),()))
  |false=>match x0.2.2.2.1 with
  |true=>match(fits ((AK a2)+(AK ([(x0.1,(x0.2.1,()))]:List U1))))with
   |true=>some (.inl (a0,a1,(A1 a2 ([(x0.1,(x0.2.1,()))]:List U1)),(IntKind.wrap .i64 (a3+1)),()))
   |false=>none
  |false=>some (.inl (a0,a1,a2,(IntKind.wrap .i64 (a3+1)),()))
 |false=>some (.inr (.inr (.inl (a0,a1,a2,()))))
def Ew[Lk]:(Uo×Unit)→Option (Uf):=fun(a0,_)=>
 match(ilt a0.1 1)with
 |true=>some (false,())
 |false=>match(ilt 64 a0.1)with
 |true=>some (false,())
 |false=>match(ilt 400 (AK a0.2.1))with
 |true=>some (false,())
 |false=>match AU Cz many (a0.1,a0.2.1,([]:List U1),0,())with|none=>none|some r=>match r with
 |.inl (o0,_)=>some (o0,())
 |.inr r=>match r with
 |.inl (o1,o2,o3,_)=>match Hm (o1,o3,())with|none=>none|some (y4,_)=>match AU Db many (o1,o2,o3,y4,0,0,())with|none=>none|some r=>match r with
  |.inl (o5,o6,o7,o8,_)=>some ((ieq o8 (IntKind.wrap .i64 (o5-(AK o7)))),())
  |.inr _=>none
 |.inr _=>none
def FF[Lk]:=fun v=>Lk.f (Ew v)
theorem Fs v:FF v=Ew v:=AJ _
abbrev AY1:AE:=[(.tmp 0,.di),(.tmp 1,.di)]
abbrev AY0:AE:=[(.tmp 0,.dat .bool)]
abbrev AYz:List RS:=[.one]
def AN2[Lk]:U1→Option (Uf):=fun(a0,a1,_)=>
 match(ile 1 a0)with
 |true=>match(ile a0 64)with
  |true=>match(ile 0 a1)with
   |true=>some ((ilt a1 a0),())
   |false=>some (false,())
  |false=>some (false,())
 |false=>some (false,())
def AFH[Lk]:=fun v=>Lk.f (AN2 v)
theorem Abn v:AFH v=AN2 v:=AJ _
abbrev VT:AE:=[(.tmp 0,.di),(.tmp 1,.di)]
abbrev VS:AE:=[(.tmp 0,.di),(.tmp 1,.di),(.tmp 2,.dat .bool),(.tmp 3,.dat .bool)]
abbrev VR:List RS:=[.one,.one,.one,.one]
def Ol[Lk]:U1→Option ((Int×Int×Bool×Bool×Unit)):=fun(a0,a1,_)=>
 match AFH (a0,a1,())with|none=>none|some (y0,_)=>match y0 with
 |true=>some (a1,0,false,true,())
 |false=>match(ilt a0 1)with
 |true=>some (0,0,false,false,())
 |false=>match(ilt 64 a0)with
 |true=>some (0,0,false,false,())
 |false=>match(ilt a1 a0)with
 |true=>some (0,0,false,false,())
 |false=>match(ile (IntKind.wrap .i64 (a0+(IntKind.wrap .i64 (a0*a0)))) a1)with
 |true=>some (0,0,false,false,())
 |false=>match quo? .i64 (IntKind.wrap .i64 (a1-a0)) a0 with|none=>none|some x1=>match rem? (IntKind.wrap .i64 (a1-a0)) a0 with|none=>none|some x2=>match(ieq x1 x2)with
 |true=>some (0,0,false,false,())
 |false=>some (x1,x2,true,true,())
def Om[Lk]:=fun v=>Lk.f (Ol v)
theorem AB6 v:Om v=Ol v:=AJ _
abbrev APG:AE:=[(.tmp 0,.di),(.tmp 1,.di),(.tmp 2,.di)]
abbrev APF:AE:=[(.tmp 0,.di)]
abbrev APE:List RS:=[.one]
def AA7[Lk]:(Int×Int×Int×Unit)→Option (U9):=fun(a0,a1,a2,_)=>
 match AFH (a0,a1,())with|none=>none|some (y0,_)=>match(!y0)with
 |true=>some ((-1:Int),())
 |false=>match AFH (a0,a2,())with|none=>none|some (y1,_)=>match(!y1)with
 |true=>some ((-1:Int),())
 |false=>match(ieq a1 a2)with
 |true=>some ((-1:Int),())
 |false=>some ((IntKind.wrap .i64 ((IntKind.wrap .i64 (a0+(IntKind.wrap .i64 (a1*a0))))+a2)),())
def AGw[Lk]:=fun v=>Lk.f (AA7 v)
theorem AUj v:AGw v=AA7 v:=AJ _
abbrev AEg:AE:=[(.tmp 0,.di)]
abbrev AEf:AE:=[(.tmp 0,.di),(.tmp 1,.own 43 U3),(.tmp 2,.di)]
abbrev AEe:List RS:=[.agg 2,.one]
abbrev AKG:AE:=[(.tmp 0,.di),(.tmp 2,.box 2),(.cell 0 0,.di),(.cell 0 1,.nil U3),(.tmp 4,.box 2),(.cell 1 0,.di),(.cell 1 1,.own 43 U3),(.tmp 5,.di)]
abbrev AKF:An:=[(.exit 0,[(.tmp 2,.box 2),(.cell 0 0,.di),(.cell 0 1,.nil U3),(.tmp 4,.box 2),(.cell 1 0,.di),(.cell 1 1,.own 43 U3)])]
def F6[Lk]:(Int×Int×Int×List U4×Int×Unit)→Option ((Int×Int×Int×List U4×Int×Unit)⊕(Int×Int×List U4×Unit)⊕Unit):=fun(a0,a1,a2,a3,a4,_)=>
 match(ilt a4 a0)with
 |true=>match(fits ((AK a3)+(AK ([([a4]:List (Int))]:List U4))))with
  |true=>some (.inl (a0,a1,a2,(A1 a3 ([([a4]:List (Int))]:List U4)),(IntKind.wrap .i64 (a4+1)),()))
  |false=>none
 |false=>some (.inr (.inl (a1,a2,a3,())))
def Sk[Lk]:U9→Option (V8):=fun(a0,_)=>
 match(ilt a0 1)with
 |true=>some (0,([]:List U4),1,())
 |false=>match(ilt 64 a0)with
 |true=>some (0,([]:List U4),1,())
 |false=>match AU F6 many (a0,0,a0,([]:List U4),0,())with|none=>none|some r=>match r with
 |.inl (o0,o1,o2,_)=>some (o1,o2,0,())
 |.inr _=>none
def W4[Lk]:=fun v=>Lk.f (Sk v)
theorem AKH v:W4 v=Sk v:=AJ _
abbrev QP:AE:=[(.tmp 0,.di),(.tmp 1,.di),(.tmp 2,.di)]
abbrev QO:AE:=[(.tmp 0,.dat .bool)]
abbrev QN:List RS:=[.one]
def LF[Lk]:(Int×Int×Int×Unit)→Option (Uf):=fun(a0,a1,a2,_)=>
 match Om (a0,a1,())with|none=>none|some (y0,y1,y2,y3,_)=>match y3 with
 |true=>match(!y2)with
  |true=>match(ieq y0 a2)with
   |true=>some (true,())
   |false=>match y2 with
   |true=>some ((ieq y1 a2),())
   |false=>some (false,())
  |false=>match y2 with
  |true=>some ((ieq y1 a2),())
  |false=>some (false,())
 |false=>some (false,())
def NC[Lk]:=fun v=>Lk.f (LF v)
theorem Yp v:NC v=LF v:=AJ _
abbrev ABv:AE:=[(.tmp 0,.di),(.tmp 1,.dat U3)]
abbrev ABu:AE:=[(.tmp 0,.dat .bool)]
abbrev ABt:List RS:=[.one]
abbrev AJM:AE:=[(.tmp 0,.di),(.tmp 1,.own 3 U0),(.tmp 6,.di),(.tmp 14,.own 3 U0),(.tmp 15,.di),(.tmp 27,.dat .bool),(.tmp 28,.dat .bool),(.tmp 64,.dat .bool),(.tmp 67,.dat .bool),(.tmp 70,.di),(.tmp 71,.di),(.tmp 72,.dat .bool),(.tmp 75,.di),(.tmp 76,.di),(.tmp 77,.di),(.tmp 78,.di),(.tmp 79,.di),(.tmp 80,.dat .bool),(.tmp 83,.di),(.tmp 84,.own' 0),(.tmp 85,.di),(.tmp 86,.own' 0),(.tmp 87,.di),(.tmp 88,.di),(.tmp 89,.di),(.tmp 90,.own' 0),(.tmp 91,.di),(.tmp 92,.di),(.tmp 94,.di),(.tmp 95,.di),(.tmp 96,.dat .bool)]
abbrev AJJ:An:=[(.exit 4,[(.tmp 0,.di),(.tmp 6,.di),(.tmp 14,.own 3 U0),(.tmp 27,.dat .bool),(.tmp 28,.dat .bool),(.tmp 64,.dat .bool),(.tmp 67,.dat .bool),(.tmp 70,.di),(.tmp 71,.di),(.tmp 72,.dat .bool),(.tmp 75,.di),(.tmp 76,.di),(.tmp 77,.di),(.tmp 78,.di),(.tmp 79,.di),(.tmp 80,.dat .bool),(.tmp 83,.di),(.tmp 84,.own 3 U0),(.tmp 85,.di),(.tmp 86,.own' 1),(.tmp 87,.di),(.tmp 88,.di),(.tmp 89,.di),(.tmp 90,.own' 1),(.tmp 91,.di),(.tmp 92,.di),(.tmp 94,.di),(.tmp 95,.di),(.tmp 96,.dat .bool)])]
def Fl[Lk]:Uy→Option (Uy⊕(Int×Int×List Int×Bool×Bool×Bool×Bool×Int×Int×Bool×Int×Int×Int×Int×Int×Bool×Int×List Int×Int×Int×Int×Int×Int×Int×Int×Int×Bool×Unit)⊕Unit):=fun(a0,a1,a2,a3,a4,a5,a6,a7,a8,a9,a10,a11,a12,a13,a14,a15,a16,a17,a18,a19,a20,a21,a22,a23,a24,a25,a26,a27,_)=>
 match(ilt a4 (AK a1))with
 |true=>match rem? (IntKind.wrap .i64 (a2+a4)) (AK a1)with|none=>none|some x0=>match idx a1 x0 with|none=>none|some x1=>match(fits ((AK a3)+(AK ([(Ac a1 (AO x0) 0)]:List (Int)))))with
  |true=>some (.inl (a0,a1,a2,(A1 a3 ([(Ac a1 (AO x0) 0)]:List (Int))),(IntKind.wrap .i64 (a4+1)),a5,a6,a7,a8,a9,a10,a11,a12,a13,a14,a15,a16,a17,a18,a19,a20,a21,a22,a23,a24,a25,a26,a27,()))
  |false=>none
 |false=>some (.inr (.inl (a0,a2,a3,a5,a6,a7,a8,a9,a10,a11,a12,a13,a14,a15,a16,a17,a18,a1,a19,a20,a21,a22,a23,a24,a25,a26,a27,())))
abbrev AJN:AE:=[(.tmp 0,.di),(.tmp 1,.own 3 U0),(.tmp 5,.dat .bool),(.tmp 6,.di)]
abbrev AJK:An:=[(.exit 2,[(.tmp 0,.di),(.tmp 1,.own 3 U0),(.tmp 5,.dat .bool)])]
def Ci[Lk]:(Int×List Int×Bool×Int×Unit)→Option ((Int×List Int×Bool×Int×Unit)⊕(Int×List Int×Bool×Unit)⊕Unit):=fun(a0,a1,a2,a3,_)=>
 match(ilt a3 (AK a1))with
 |true=>match(!a2)with
  |true=>match idx a1 a3 with|none=>none|some x0=>match rem? (IntKind.wrap .i64 (a3+1)) (AK a1)with|none=>none|some x1=>match idx a1 x1 with|none=>none|some x2=>match rem? (IntKind.wrap .i64 (a3+2)) (AK a1)with|none=>none|some x3=>match idx a1 x3 with|none=>none|some x4=>match Om (a0,(Ac a1 (AO a3) 0),())with|none=>none|some (y5,y6,y7,y8,_)=>match(ile 4 (AK a1))with
   |true=>match y8 with
    |true=>match y7 with
     |true=>match(ieq (Ac a1 (AO x1) 0) y6)with
      |true=>match AGw (a0,y6,y5,())with|none=>none|some (y9,_)=>match(ieq (Ac a1 (AO x3) 0) y9)with
       |true=>match rem? (IntKind.wrap .i64 ((IntKind.wrap .i64 (a3+(AK a1)))-1)) (AK a1)with|none=>none|some x10=>match idx a1 x10 with|none=>none|some x11=>match NC (a0,(Ac a1 (AO x10) 0),y5,())with|none=>none|some (y12,_)=>match y12 with
        |true=>match AU Fl many (a0,a1,a3,([]:List (Int)),3,a2,(!a2),y8,y7,(Ac a1 (AO x1) 0),y6,(ieq (Ac a1 (AO x1) 0) y6),(Ac a1 (AO x3) 0),a0,y6,y5,y9,(ieq (Ac a1 (AO x3) 0) y9),a0,a3,(AK a1),(IntKind.wrap .i64 (a3+(AK a1))),(IntKind.wrap .i64 ((IntKind.wrap .i64 (a3+(AK a1)))-1)),(AK a1),x10,(Ac a1 (AO x10) 0),y5,y12,())with|none=>none|some r=>match r with
         |.inl (o13,o14,o15,o16,o17,o18,o19,o20,o21,o22,o23,o24,o25,o26,o27,o28,o29,o30,o31,o32,o33,o34,o35,o36,o37,o38,o39,_)=>some (.inl (o13,o15,true,(IntKind.wrap .i64 (o14+1)),()))
         |.inr _=>none
        |false=>some (.inl (a0,a1,a2,(IntKind.wrap .i64 (a3+1)),()))
       |false=>some (.inl (a0,a1,a2,(IntKind.wrap .i64 (a3+1)),()))
      |false=>some (.inl (a0,a1,a2,(IntKind.wrap .i64 (a3+1)),()))
     |false=>some (.inl (a0,a1,a2,(IntKind.wrap .i64 (a3+1)),()))
    |false=>some (.inl (a0,a1,a2,(IntKind.wrap .i64 (a3+1)),()))
   |false=>some (.inl (a0,a1,a2,(IntKind.wrap .i64 (a3+1)),()))
  |false=>some (.inr (.inl (a0,a1,a2,())))
 |false=>some (.inr (.inl (a0,a1,a2,())))
abbrev AJO:AE:=[(.tmp 0,.di),(.tmp 1,.own 3 U0)]
abbrev AJL:An:=[(.ret,[(.tmp 4,.dat .bool)]),(.exit 0,[(.tmp 0,.di),(.tmp 1,.own 3 U0)])]
def He[Lk]:(Int×List Int×Unit)→Option ((Int×List Int×Unit)⊕Uf⊕(Int×List Int×Unit)⊕Unit):=fun(a0,a1,_)=>
 match(ilt 1 (AK a1))with
 |true=>match AU Ci many (a0,a1,false,0,())with|none=>none|some r=>match r with
  |.inl (o0,o1,o2,_)=>match(!o2)with
   |true=>some (.inr (.inl (false,())))
   |false=>some (.inl (o0,o1,()))
  |.inr _=>none
 |false=>some (.inr (.inr (.inl (a0,a1,()))))
def R5[Lk]:(Int×List Int×Unit)→Option (Uf):=fun(a0,a1,_)=>
 match(fits ((AK ([]:List (Int)))+(AK a1)))with
 |true=>match AU He many (a0,(A1 ([]:List (Int)) a1),())with|none=>none|some r=>match r with
  |.inl (o0,_)=>some (o0,())
  |.inr r=>match r with
  |.inl (o1,o2,_)=>match(ieq (AK o2) 1)with
   |true=>match idx o2 0 with|none=>none|some x3=>match AFH (o1,(Ac o2 0 0),())with|none=>none|some (y4,_)=>some (y4,())
   |false=>some (false,())
  |.inr _=>none
 |false=>none
def ABw[Lk]:=fun v=>Lk.f (R5 v)
theorem AJP v:ABw v=R5 v:=AJ _
abbrev WY:AE:=[(.tmp 0,.dat U3),(.tmp 1,.di)]
abbrev WX:AE:=[(.tmp 0,.di)]
abbrev WW:List RS:=[.one]
abbrev ADZ:AE:=[(.tmp 0,.dat U3),(.tmp 1,.di),(.tmp 5,.di)]
abbrev ADY:An:=[(.ret,[(.tmp 4,.di)]),(.exit 0,[])]
def EY[Lk]:Ur→Option (Ur⊕U9⊕(Unit)⊕Unit):=fun(a0,a1,a2,_)=>
 match(ilt a2 (AK a0))with
 |true=>match idx a0 a2 with|none=>none|some x0=>match(ieq x0 a1)with
  |true=>some (.inr (.inl (a2,())))
  |false=>some (.inl (a0,a1,(IntKind.wrap .i64 (a2+1)),()))
 |false=>some (.inr (.inr (.inl ())))
def O3[Lk]:Ux→Option (U9):=fun(a0,a1,_)=>
 match AU EY many (a0,a1,0,())with|none=>none|some r=>match r with
 |.inl (o0,_)=>some (o0,())
 |.inr r=>match r with
 |.inl _=>some ((-1:Int),())
 |.inr _=>none
def I9[Lk]:=fun v=>Lk.f (O3 v)
theorem ADa v:I9 v=O3 v:=AJ _
abbrev WI:AE:=[(.tmp 0,.dat U3)]
abbrev WH:AE:=[(.tmp 0,.dat .bool)]
abbrev WG:List RS:=[.one]
abbrev ADC:AE:=[(.tmp 0,.dat U3),(.tmp 3,.di)]
abbrev ADB:An:=[(.ret,[(.tmp 2,.dat .bool)]),(.exit 0,[])]
def Dc[Lk]:Ux→Option (Ux⊕Uf⊕(Unit)⊕Unit):=fun(a0,a1,_)=>
 match(ilt a1 (AK a0))with
 |true=>match idx a0 a1 with|none=>none|some x0=>match(ilt x0 0)with
  |true=>some (.inr (.inl (false,())))
  |false=>match idx a0 a1 with|none=>none|some x1=>match(ilt 10000 x1)with
  |true=>some (.inr (.inl (false,())))
  |false=>match Cj a0 0 a1 with|none=>none|some x2=>match idx a0 a1 with|none=>none|some x3=>match I9 (x2,x3,())with|none=>none|some (y4,_)=>match(ile 0 y4)with
  |true=>some (.inr (.inl (false,())))
  |false=>some (.inl (a0,(IntKind.wrap .i64 (a1+1)),()))
 |false=>some (.inr (.inr (.inl ())))
def Ox[Lk]:Un→Option (Uf):=fun(a0,_)=>
 match(ilt 1000 (AK a0))with
 |true=>some (false,())
 |false=>match AU Dc many (a0,0,())with|none=>none|some r=>match r with
 |.inl (o0,_)=>some (o0,())
 |.inr r=>match r with
 |.inl _=>some (true,())
 |.inr _=>none
def HS[Lk]:=fun v=>Lk.f (Ox v)
theorem ADD v:HS v=Ox v:=AJ _
abbrev AFf:AE:=[(.tmp 0,.dat U3),(.tmp 1,.di)]
abbrev AFe:AE:=[(.tmp 0,.own 3 U0),(.tmp 1,.dat .bool)]
abbrev AFd:List RS:=[.one,.one]
def TD[Lk]:Ux→Option ((List Int×Bool×Unit)):=fun(a0,a1,_)=>
 match I9 (a0,a1,())with|none=>none|some (y0,_)=>match HS (a0,())with|none=>none|some (y1,_)=>match(!y1)with
 |true=>some (([]:List (Int)),false,())
 |false=>match(ilt y0 0)with
 |true=>some (([]:List (Int)),false,())
 |false=>match Cj a0 y0 (AK a0)with|none=>none|some x2=>match(fits ((AK ([]:List (Int)))+(AK x2)))with
 |true=>match Cj a0 0 y0 with|none=>none|some x3=>match(fits ((AK (A1 ([]:List (Int)) x2))+(AK x3)))with
  |true=>some ((A1 (A1 ([]:List (Int)) x2) x3),true,())
  |false=>none
 |false=>none
def RB[Lk]:=fun v=>Lk.f (TD v)
theorem AKY v:RB v=TD v:=AJ _
abbrev WQ:AE:=[(.tmp 0,.dat U3)]
abbrev WN:AE:=[(.tmp 0,.own 3 U0)]
abbrev WM:List RS:=[.one]
abbrev ADP:AE:=[(.tmp 0,.dat U3),(.tmp 3,.di),(.tmp 4,.di)]
abbrev ADO:An:=[(.exit 0,[(.tmp 0,.dat U3),(.tmp 3,.di)])]
def EW[Lk]:Ur→Option (Ur⊕Ux⊕Unit):=fun(a0,a1,a2,_)=>
 match(ilt a2 (AK a0))with
 |true=>match idx a0 a2 with|none=>none|some x0=>some (.inl (a0,(Cp a1 x0),(IntKind.wrap .i64 (a2+1)),()))
 |false=>some (.inr (.inl (a0,a1,())))
def O0[Lk]:Un→Option (Un):=fun(a0,_)=>
 match HS (a0,())with|none=>none|some (y0,_)=>match(!y0)with
 |true=>some (([]:List (Int)),())
 |false=>match(ieq (AK a0) 0)with
 |true=>some (([]:List (Int)),())
 |false=>match idx a0 0 with|none=>none|some x1=>match AU EW many (a0,x1,0,())with|none=>none|some r=>match r with
 |.inl (o2,o3,_)=>match RB (o2,o3,())with|none=>none|some (y4,y5,_)=>some (y4,())
 |.inr _=>none
def O1[Lk]:=fun v=>Lk.f (O0 v)
theorem ADQ v:O1 v=O0 v:=AJ _
abbrev XB:AE:=[(.tmp 0,.dat Ua),(.tmp 1,.dat Ua)]
abbrev XA:AE:=[(.tmp 0,.dat .bool)]
abbrev W9:List RS:=[.one]
abbrev AEv:AE:=[(.tmp 0,.dat Ua),(.tmp 1,.dat Ua),(.tmp 5,.di)]
abbrev AEu:An:=[(.ret,[(.tmp 4,.dat .bool)]),(.exit 0,[])]
def Dg[Lk]:(List U4×List U4×Int×Unit)→Option ((List U4×List U4×Int×Unit)⊕Uf⊕(Unit)⊕Unit):=fun(a0,a1,a2,_)=>
 match(ilt a2 (AK a0))with
 |true=>match idx a0 a2 with|none=>none|some x0=>match idx a1 a2 with|none=>none|some x1=>match IN (x0,x1,())with|none=>none|some (y2,_)=>match(!y2)with
  |true=>some (.inr (.inl (false,())))
  |false=>some (.inl (a0,a1,(IntKind.wrap .i64 (a2+1)),()))
 |false=>some (.inr (.inr (.inl ())))
def O6[Lk]:(List U4×List U4×Unit)→Option (Uf):=fun(a0,a1,_)=>
 match(!(ieq (AK a0) (AK a1)))with
 |true=>some (false,())
 |false=>match AU Dg many (a0,a1,0,())with|none=>none|some r=>match r with
 |.inl (o0,_)=>some (o0,())
 |.inr r=>match r with
 |.inl _=>some (true,())
 |.inr _=>none
def Lf[Lk]:=fun v=>Lk.f (O6 v)
theorem AEw v:Lf v=O6 v:=AJ _
abbrev WB:AE:=[(.tmp 0,.dat Uh)]
abbrev WA:AE:=[(.tmp 0,.dat .bool)]
abbrev Vz:List RS:=[.one]
abbrev AC7:AE:=[(.tmp 1,.box 2),(.cell 0 0,.di),(.cell 0 1,.dat Ua),(.tmp 3,.own 4 .bool),(.tmp 4,.di),(.tmp 5,.di),(.tmp 6,.di),(.tmp 7,.dat U3),(.tmp 8,.di),(.tmp 44,.dat U3),(.tmp 45,.di),(.tmp 46,.dat .bool),(.tmp 49,.ptr' 0 0),(.tmp 50,.di),(.tmp 51,.dat U3),(.tmp 52,.dat .bool),(.tmp 53,.dat .bool),(.tmp 56,.dat U3),(.tmp 57,.dat U3),(.tmp 58,.own 43 U3),(.tmp 59,.dat U3),(.tmp 60,.own 43 U3),(.tmp 61,.dat .bool),(.tmp 62,.dat .bool),(.tmp 65,.dat U3),(.tmp 67,.di),(.tmp 68,.di),(.tmp 69,.dat .bool)]
abbrev AC5:An:=[(.ret,[(.tmp 2,.dat .bool)]),(.exit 2,[(.tmp 1,.box 2),(.cell 0 0,.di),(.cell 0 1,.dat Ua),(.tmp 3,.own 4 .bool),(.tmp 4,.di),(.tmp 5,.di),(.tmp 6,.di),(.tmp 44,.dat U3),(.tmp 45,.di),(.tmp 46,.dat .bool),(.tmp 49,.ptr' 0 0),(.tmp 50,.di),(.tmp 51,.dat U3),(.tmp 52,.dat .bool),(.tmp 53,.dat .bool),(.tmp 56,.dat U3),(.tmp 57,.dat U3),(.tmp 58,.own 43 U3),(.tmp 59,.dat U3),(.tmp 60,.own 43 U3),(.tmp 61,.dat .bool),(.tmp 62,.dat .bool),(.tmp 65,.dat U3),(.tmp 67,.di),(.tmp 68,.di),(.tmp 69,.dat .bool)])]
def C0[Lk]:Uv→Option (Uv⊕Uf⊕(Int×List U4×List Bool×Int×Int×Int×List Int×Int×Bool×Int×List Int×Bool×Bool×List Int×List Int×List U4×List Int×List U4×Bool×Bool×List Int×Int×Int×Bool×Unit)⊕Unit):=fun(a0,a1,a2,a3,a4,a5,a6,a7,a8,a9,a10,a11,a12,a13,a14,a15,a16,a17,a18,a19,a20,a21,a22,a23,a24,a25,_)=>
 match(ilt a7 (AK a6))with
 |true=>match idx a6 a7 with|none=>none|some x0=>match(ilt x0 a0)with
  |true=>match idx a6 a7 with|none=>none|some x1=>match idx a2 x1 with|none=>none|some x2=>match(Ac a2 (AO x1) false)with
   |true=>some (.inr (.inl (false,())))
   |false=>match idx a6 a7 with|none=>none|some x3=>match idx a2 x3 with|none=>none|some x4=>some (.inl (a0,a1,(BB a2 (AO x3) true),a3,(IntKind.wrap .i64 (a4+1)),a5,a6,(IntKind.wrap .i64 (a7+1)),a8,a9,a10,a11,a12,a13,a14,a15,a16,a17,a18,a19,a20,a21,a22,a23,a24,a25,()))
  |false=>some (.inl (a0,a1,a2,a3,a4,a5,a6,(IntKind.wrap .i64 (a7+1)),a8,a9,a10,a11,a12,a13,a14,a15,a16,a17,a18,a19,a20,a21,a22,a23,a24,a25,()))
 |false=>some (.inr (.inr (.inl (a0,a1,a2,a3,a4,a5,a8,a9,a10,a11,a12,a13,a14,a15,a16,a17,a18,a19,a20,a21,a22,a23,a24,a25,()))))
abbrev AC8:AE:=[(.tmp 1,.box 2),(.cell 0 0,.di),(.cell 0 1,.dat Ua),(.tmp 3,.own 4 .bool),(.tmp 4,.di),(.tmp 5,.di),(.tmp 6,.di)]
abbrev AC6:An:=[(.ret,[(.tmp 2,.dat .bool)]),(.exit 0,[(.tmp 1,.box 2),(.cell 0 0,.di),(.cell 0 1,.dat Ua),(.tmp 5,.di)])]
def C1[Lk]:(Int×List U4×List Bool×Int×Int×Int×Unit)→Option ((Int×List U4×List Bool×Int×Int×Int×Unit)⊕Uf⊕V8⊕Unit):=fun(a0,a1,a2,a3,a4,a5,_)=>
 match(ilt a5 (AK a1))with
 |true=>match idx a1 a5 with|none=>none|some x0=>match HS (x0,())with|none=>none|some (y1,_)=>match(!y1)with
  |true=>some (.inr (.inl (false,())))
  |false=>match(ieq (AK x0) 0)with
  |true=>some (.inr (.inl (false,())))
  |false=>match ABw (a0,x0,())with|none=>none|some (y2,_)=>match(!y2)with
  |true=>some (.inr (.inl (false,())))
  |false=>match O1 (x0,())with|none=>none|some (y3,_)=>match Lf (([y3]:List U4),([x0]:List U4),())with|none=>none|some (y4,_)=>match(!y4)with
  |true=>some (.inr (.inl (false,())))
  |false=>match idx x0 0 with|none=>none|some x5=>match(ile x5 a3)with
  |true=>some (.inr (.inl (false,())))
  |false=>match idx x0 0 with|none=>none|some x6=>match AU C0 many (a0,a1,a2,x6,a4,a5,x0,0,x0,(AK x0),(ieq (AK x0) 0),a0,x0,y2,(!y2),x0,y3,([y3]:List U4),x0,([x0]:List U4),y4,(!y4),x0,x5,a3,(ile x5 a3),())with|none=>none|some r=>match r with
  |.inl (o7,_)=>some (.inr (.inl (o7,())))
  |.inr r=>match r with
  |.inl (o8,o9,o10,o11,o12,o13,o14,o15,o16,o17,o18,o19,o20,o21,o22,o23,o24,o25,o26,o27,o28,o29,o30,o31,_)=>some (.inl (o8,o9,o10,o11,o12,(IntKind.wrap .i64 (o13+1)),()))
  |.inr _=>none
 |false=>some (.inr (.inr (.inl (a0,a1,a4,()))))
def Ov[Lk]:(Uk×Unit)→Option (Uf):=fun(a0,_)=>
 match(ilt a0.1 1)with
 |true=>some (false,())
 |false=>match(ilt 64 a0.1)with
 |true=>some (false,())
 |false=>match(ilt a0.1 (AK a0.2.1))with
 |true=>some (false,())
 |false=>match(DM a0.1&&DM a0.1&&ile a0.1 a0.1&&true)with
 |true=>match AU C1 many (a0.1,a0.2.1,(D6 (AO a0.1) false),(-1:Int),(0:Int),(0:Int),())with|none=>none|some r=>match r with
  |.inl (o0,_)=>some (o0,())
  |.inr r=>match r with
  |.inl (o1,o2,o3,_)=>some ((ieq o3 o1),())
  |.inr _=>none
 |false=>none
def LN[Lk]:=fun v=>Lk.f (Ov v)
theorem AC9 v:LN v=Ov v:=AJ _
abbrev WU:AE:=[(.tmp 0,.dat Uh),(.tmp 1,.di)]
abbrev WT:AE:=[(.tmp 0,.di)]
abbrev WS:List RS:=[.one]
abbrev ADW:AE:=[(.tmp 1,.di),(.tmp 2,.box 2),(.cell 0 0,.di),(.cell 0 1,.dat Ua),(.tmp 5,.di)]
abbrev ADV:An:=[(.ret,[(.tmp 4,.di)]),(.exit 0,[])]
def EX[Lk]:(Int×Int×List U4×Int×Unit)→Option ((Int×Int×List U4×Int×Unit)⊕U9⊕(Unit)⊕Unit):=fun(a0,a1,a2,a3,_)=>
 match(ilt a3 (AK a2))with
 |true=>match idx a2 a3 with|none=>none|some x0=>match I9 (x0,a0,())with|none=>none|some (y1,_)=>match(ile 0 y1)with
  |true=>some (.inr (.inl (a3,())))
  |false=>some (.inl (a0,a1,a2,(IntKind.wrap .i64 (a3+1)),()))
 |false=>some (.inr (.inr (.inl ())))
def O2[Lk]:Vh→Option (U9):=fun(a0,a1,_)=>
 match AU EX many (a1,a0.1,a0.2.1,0,())with|none=>none|some r=>match r with
 |.inl (o0,_)=>some (o0,())
 |.inr r=>match r with
 |.inl _=>some ((-1:Int),())
 |.inr _=>none
def HT[Lk]:=fun v=>Lk.f (O2 v)
theorem ADX v:HT v=O2 v:=AJ _
abbrev AMq:AE:=[(.tmp 0,.dat Ua),(.tmp 1,.dat U3)]
abbrev AMp:AE:=[(.tmp 0,.own 43 U3)]
abbrev AMo:List RS:=[.one]
abbrev ARG:AE:=[(.tmp 0,.dat Ua),(.tmp 1,.own 3 U0),(.tmp 5,.di)]
abbrev ARF:An:=[(.exit 0,[(.tmp 0,.dat Ua),(.tmp 1,.own 3 U0),(.tmp 5,.di)])]
def IA[Lk]:(List U4×List Int×Int×Unit)→Option ((List U4×List Int×Int×Unit)⊕(List U4×List Int×Int×Unit)⊕Unit):=fun(a0,a1,a2,_)=>
 match(ilt a2 (AK a0))with
 |true=>match idx a0 a2 with|none=>none|some x0=>match idx x0 0 with|none=>none|some x1=>match idx a1 0 with|none=>none|some x2=>match(ilt x1 (Ac a1 0 0))with
  |true=>some (.inl (a0,a1,(IntKind.wrap .i64 (a2+1)),()))
  |false=>some (.inr (.inl (a0,a1,a2,())))
 |false=>some (.inr (.inl (a0,a1,a2,())))
def AAu[Lk]:(List U4×List Int×Unit)→Option (Ul):=fun(a0,a1,_)=>
 match O1 (a1,())with|none=>none|some (y0,_)=>match AU IA many (a0,y0,0,())with|none=>none|some r=>match r with
 |.inl (o1,o2,o3,_)=>match Cj o1 0 o3 with|none=>none|some x4=>match(fits ((AK ([]:List U4))+(AK x4)))with
  |true=>match(fits ((AK (A1 ([]:List U4) x4))+(AK ([o2]:List U4))))with
   |true=>match Cj o1 o3 (AK o1)with|none=>none|some x5=>match(fits ((AK (A1 (A1 ([]:List U4) x4) ([o2]:List U4)))+(AK x5)))with
    |true=>some ((A1 (A1 (A1 ([]:List U4) x4) ([o2]:List U4)) x5),())
    |false=>none
   |false=>none
  |false=>none
 |.inr _=>none
def AJu[Lk]:=fun v=>Lk.f (AAu v)
theorem ARH v:AJu v=AAu v:=AJ _
abbrev M0:AE:=[(.tmp 0,.dat Ua),(.tmp 1,.di)]
abbrev Mz:AE:=[(.tmp 0,.own 43 U3)]
abbrev My:List RS:=[.one]
def I2[Lk]:V3→Option (Ul):=fun(a0,a1,_)=>
 match Cj a0 0 a1 with|none=>none|some x0=>match(fits ((AK ([]:List U4))+(AK x0)))with
 |true=>match Cj a0 (IntKind.wrap .i64 (a1+1)) (AK a0)with|none=>none|some x1=>match(fits ((AK (A1 ([]:List U4) x0))+(AK x1)))with
  |true=>some ((A1 (A1 ([]:List U4) x0) x1),())
  |false=>none
 |false=>none
def Er[Lk]:=fun v=>Lk.f (I2 v)
theorem Rp v:Er v=I2 v:=AJ _
abbrev AE2:AE:=[(.tmp 0,.dat Uh),(.tmp 1,.di),(.tmp 2,.di)]
abbrev AE1:AE:=[(.tmp 0,.di),(.tmp 1,.dat Ua),(.tmp 2,.di)]
abbrev AE0:List RS:=[.agg 2,.one]
def IM[Lk]:(Uk×Int×Int×Unit)→Option (V8):=fun(a0,a1,a2,_)=>
 match LN ((a0.1,(a0.2.1,())),())with|none=>none|some (y0,_)=>match(!y0)with
 |true=>some (a0.1,a0.2.1,1,())
 |false=>match AFH (a0.1,a1,())with|none=>none|some (y1,_)=>match(!y1)with
 |true=>some (a0.1,a0.2.1,10,())
 |false=>match AFH (a0.1,a2,())with|none=>none|some (y2,_)=>match(!y2)with
 |true=>some (a0.1,a0.2.1,10,())
 |false=>match HT ((a0.1,(a0.2.1,())),a1,())with|none=>none|some (y3,_)=>match HT ((a0.1,(a0.2.1,())),a2,())with|none=>none|some (y4,_)=>match(ieq y3 y4)with
 |true=>some (a0.1,a0.2.1,5,())
 |false=>match HT ((a0.1,(a0.2.1,())),a1,())with|none=>none|some (y5,_)=>match HT ((a0.1,(a0.2.1,())),a2,())with|none=>none|some (y6,_)=>match idx a0.2.1 y5 with|none=>none|some x7=>match RB (x7,a1,())with|none=>none|some (y8,y9,_)=>match idx a0.2.1 y6 with|none=>none|some x10=>match RB (x10,a2,())with|none=>none|some (y11,y12,_)=>match AGw (a0.1,a1,a2,())with|none=>none|some (y13,_)=>match(fits ((AK ([a1,y13]:List (Int)))+(AK y11)))with
 |true=>match AGw (a0.1,a2,a1,())with|none=>none|some (y14,_)=>match(fits ((AK (A1 ([a1,y13]:List (Int)) y11))+(AK ([y14]:List (Int)))))with
  |true=>match Cj y8 1 (AK y8)with|none=>none|some x15=>match(fits ((AK (A1 (A1 ([a1,y13]:List (Int)) y11) ([y14]:List (Int))))+(AK (DS 1 (AO (AK x15)) y8))))with
   |true=>match Er (a0.2.1,(imax y5 y6),())with|none=>none|some (y16,_)=>match Er (y16,(Cp y5 y6),())with|none=>none|some (y17,_)=>match AJu (y17,(A1 (A1 (A1 ([a1,y13]:List (Int)) y11) ([y14]:List (Int))) (DS 1 (AO (AK x15)) y8)),())with|none=>none|some (y18,_)=>some (a0.1,y18,0,())
   |false=>none
  |false=>none
 |false=>none
def Nh[Lk]:=fun v=>Lk.f (IM v)
theorem Ki v:Nh v=IM v:=AJ _
abbrev ACk:AE:=[(.tmp 0,.dat Ug),(.tmp 1,.dat Ug)]
abbrev ACj:AE:=[(.tmp 0,.dat .bool)]
abbrev ACi:List RS:=[.one]
abbrev AJl:AE:=[(.tmp 0,.dat Ug),(.tmp 1,.dat Ug),(.tmp 5,.di)]
abbrev AJk:An:=[(.ret,[(.tmp 4,.dat .bool)]),(.exit 0,[])]
def Vv[Lk]:(List U1×List U1×Int×Unit)→Option ((List U1×List U1×Int×Unit)⊕Uf⊕(Unit)⊕Unit):=fun(a0,a1,a2,_)=>
 match(ilt a2 (AK a0))with
 |true=>match idx a0 a2 with|none=>none|some x0=>match idx a1 a2 with|none=>none|some x1=>match(!(ieq x0.1 x1.1&&(ieq x0.2.1 x1.2.1&&true)))with
  |true=>some (.inr (.inl (false,())))
  |false=>some (.inl (a0,a1,(IntKind.wrap .i64 (a2+1)),()))
 |false=>some (.inr (.inr (.inl ())))
def ACm[Lk]:(List U1×List U1×Unit)→Option (Uf):=fun(a0,a1,_)=>
 match(!(ieq (AK a0) (AK a1)))with
 |true=>some (false,())
 |false=>match AU Vv many (a0,a1,0,())with|none=>none|some r=>match r with
 |.inl (o0,_)=>some (o0,())
 |.inr r=>match r with
 |.inl _=>some (true,())
 |.inr _=>none
def ACn[Lk]:=fun v=>Lk.f (ACm v)
theorem AdU v:ACn v=ACm v:=AJ _
abbrev Agv:AE:=[(.tmp 0,.dat Uh),(.tmp 1,.di)]
abbrev Agu:AE:=[(.tmp 0,.di)]
abbrev Agt:List RS:=[.one]
def Aag[Lk]:Vh→Option (U9):=fun(a0,a1,_)=>
 match tin (a0.1,a1,())with|none=>none|some (y0,_)=>match(!y0)with
 |true=>some ((-1:Int),())
 |false=>match QG ((a0.1,(a0.2.1,())),())with|none=>none|some (y1,_)=>match(!y1)with
 |true=>some ((-1:Int),())
 |false=>match QH ((a0.1,(a0.2.1,())),a1,())with|none=>none|some (y2,_)=>some (y2,())
def tof[Lk]:=fun v=>Lk.f (Aag v)
theorem Agw v:tof v=Aag v:=AJ _
abbrev VW:AE:=[(.tmp 0,.dat Uh),(.tmp 1,.dat Ug)]
abbrev VV:AE:=[(.tmp 0,.di)]
abbrev VU:List RS:=[.one]
abbrev AB8:AE:=[(.tmp 1,.dat Ug),(.tmp 2,.box 2),(.cell 0 0,.di),(.cell 0 1,.dat Ua),(.tmp 5,.di)]
abbrev AB7:An:=[(.ret,[(.tmp 4,.di)]),(.exit 0,[])]
def EU[Lk]:(List U1×Int×List U4×Int×Unit)→Option ((List U1×Int×List U4×Int×Unit)⊕U9⊕(Unit)⊕Unit):=fun(a0,a1,a2,a3,_)=>
 match(ilt a3 (AK a0))with
 |true=>match idx a0 a3 with|none=>none|some x0=>match(ilt x0.1 0)with
  |true=>some (.inr (.inl (10,())))
  |false=>match idx a0 a3 with|none=>none|some x1=>match(ile a1 x1.1)with
  |true=>some (.inr (.inl (10,())))
  |false=>match idx a0 a3 with|none=>none|some x2=>match(ilt x2.2.1 0)with
  |true=>some (.inr (.inl (10,())))
  |false=>match idx a0 a3 with|none=>none|some x3=>match(ile a1 x3.2.1)with
  |true=>some (.inr (.inl (10,())))
  |false=>some (.inl (a0,a1,a2,(IntKind.wrap .i64 (a3+1)),()))
 |false=>some (.inr (.inr (.inl ())))
def On[Lk]:(Uk×List U1×Unit)→Option (U9):=fun(a0,a1,_)=>
 match LN ((a0.1,(a0.2.1,())),())with|none=>none|some (y0,_)=>match(!y0)with
 |true=>some (1,())
 |false=>match AU EU many (a1,a0.1,a0.2.1,0,())with|none=>none|some r=>match r with
 |.inl (o1,_)=>some (o1,())
 |.inr r=>match r with
 |.inl _=>some (0,())
 |.inr _=>none
def R8[Lk]:=fun v=>Lk.f (On v)
theorem AB9 v:R8 v=On v:=AJ _
abbrev XF:AE:=[(.tmp 0,.dat Uh),(.tmp 1,.dat Ug)]
abbrev XE:AE:=[(.tmp 0,.dat Uh),(.tmp 1,.own 4 .bool),(.tmp 2,.di)]
abbrev XD:List RS:=[.one,.one,.one]
abbrev AEy:AE:=[(.tmp 1,.dat Ug),(.tmp 2,.box 2),(.cell 0 0,.di),(.cell 0 1,.dat Ua),(.tmp 4,.box 2),(.cell 1 0,.di),(.cell 1 1,.nil U3),(.tmp 8,.own 4 .bool),(.tmp 9,.di)]
abbrev AEx:An:=[(.exit 0,[(.tmp 2,.box 2),(.cell 0 0,.di),(.cell 0 1,.dat Ua),(.tmp 4,.box 2),(.cell 1 0,.di),(.cell 1 1,.nil U3),(.tmp 8,.own 4 .bool)])]
def Ea[Lk]:(List U1×Int×List U4×Int×List Bool×Int×Unit)→Option ((List U1×Int×List U4×Int×List Bool×Int×Unit)⊕(Int×List U4×Int×List Bool×Unit)⊕Unit):=fun(a0,a1,a2,a3,a4,a5,_)=>
 match(ilt a5 (AK a0))with
 |true=>match idx a0 a5 with|none=>none|some x0=>match idx a0 a5 with|none=>none|some x1=>match Nh ((a1,(a2,())),x0.1,x1.2.1,())with|none=>none|some (y2,y3,y4,_)=>match(fits ((AK a4)+(AK ([(ieq y4 0)]:List (Bool)))))with
  |true=>some (.inl (a0,y2,y3,a3,(A1 a4 ([(ieq y4 0)]:List (Bool))),(IntKind.wrap .i64 (a5+1)),()))
  |false=>none
 |false=>some (.inr (.inl (a1,a2,a3,a4,())))
def O7[Lk]:(Uk×List U1×Unit)→Option ((Uk×List Bool×Int×Unit)):=fun(a0,a1,_)=>
 match R8 ((a0.1,(a0.2.1,())),a1,())with|none=>none|some (y0,_)=>match(!(ieq y0 0))with
 |true=>some ((a0.1,(a0.2.1,())),([]:List (Bool)),y0,())
 |false=>match AU Ea many (a1,a0.1,a0.2.1,0,([]:List (Bool)),0,())with|none=>none|some r=>match r with
 |.inl (o1,o2,o3,o4,_)=>some ((o1,(o2,())),o4,0,())
 |.inr _=>none
def Sm[Lk]:=fun v=>Lk.f (O7 v)
theorem AEz v:Sm v=O7 v:=AJ _
abbrev AXw:AE:=[(.tmp 0,.di),(.tmp 1,.dat Ug)]
abbrev AXv:AE:=[(.tmp 0,.dat Uh),(.tmp 1,.di)]
abbrev AXu:List RS:=[.one,.one]
def ANR[Lk]:(Int×List U1×Unit)→Option (Vh):=fun(a0,a1,_)=>
 match W4 (a0,())with|none=>none|some (y0,y1,y2,_)=>match(!(ieq y2 0))with
 |true=>some ((0,(([]:List U4),())),y2,())
 |false=>match Sm ((y0,(y1,())),a1,())with|none=>none|some (y3,y4,y5,_)=>match(!(ieq y5 0))with
 |true=>some ((0,(([]:List U4),())),y5,())
 |false=>some ((y3.1,(y3.2.1,())),0,())
def Ain[Lk]:=fun v=>Lk.f (ANR v)
theorem AbS v:Ain v=ANR v:=AJ _
abbrev VL:AE:=[(.tmp 0,.dat Up),(.tmp 1,.di)]
abbrev VK:AE:=[(.tmp 0,.own 34 U2)]
abbrev VJ:List RS:=[.one]
abbrev ABr:AE:=[(.tmp 1,.di),(.tmp 2,.box 2),(.cell 0 0,.di),(.cell 0 1,.dat U5),(.tmp 5,.own 34 U2),(.tmp 6,.di)]
abbrev ABq:An:=[(.exit 0,[(.tmp 5,.own 34 U2)])]
def ES[Lk]:(Int×Int×List U6×List U1×Int×Unit)→Option ((Int×Int×List U6×List U1×Int×Unit)⊕Um⊕Unit):=fun(a0,a1,a2,a3,a4,_)=>
 match(ilt a4 (AK a2))with
 |true=>match idx a2 a4 with|none=>none|some x0=>match x0.2.2.2.1 with
  |true=>match idx a2 a4 with|none=>none|some x1=>match(ile a0 x1.2.2.1)with
   |true=>match idx a2 a4 with|none=>none|some x2=>match idx a2 a4 with|none=>none|some x3=>match(fits ((AK a3)+(AK ([(x2.1,(x3.2.1,()))]:List U1))))with
    |true=>some (.inl (a0,a1,a2,(A1 a3 ([(x2.1,(x3.2.1,()))]:List U1)),(IntKind.wrap .i64 (a4+1)),()))
    |false=>none
   |false=>some (.inl (a0,a1,a2,a3,(IntKind.wrap .i64 (a4+1)),()))
  |false=>some (.inl (a0,a1,a2,a3,(IntKind.wrap .i64 (a4+1)),()))
 |false=>some (.inr (.inl (a3,())))
def Oi[Lk]:(Uo×Int×Unit)→Option (Um):=fun(a0,a1,_)=>
 match AU ES many (a1,a0.1,a0.2.1,([]:List U1),0,())with|none=>none|some r=>match r with
 |.inl (o0,_)=>some (o0,())
 |.inr _=>none
def R4[Lk]:=fun v=>Lk.f (Oi v)
theorem ABs v:R4 v=Oi v:=AJ _
abbrev RE:AE:=[(.tmp 0,.dat Up),(.tmp 1,.di)]
abbrev RD:AE:=[(.tmp 0,.dat Uh),(.tmp 1,.di)]
abbrev RC:List RS:=[.one,.one]
def L5[Lk]:(Uo×Int×Unit)→Option (Vh):=fun(a0,a1,_)=>
 match FF ((a0.1,(a0.2.1,())),())with|none=>none|some (y0,_)=>match(!y0)with
 |true=>some ((0,(([]:List U4),())),1,())
 |false=>match R4 ((a0.1,(a0.2.1,())),a1,())with|none=>none|some (y1,_)=>match Ain (a0.1,y1,())with|none=>none|some (y2,y3,_)=>some ((y2.1,(y2.2.1,())),y3,())
def Nz[Lk]:=fun v=>Lk.f (L5 v)
theorem Zb v:Nz v=L5 v:=AJ _
abbrev XJ:AE:=[(.tmp 0,.dat Up),(.tmp 1,.di)]
abbrev XI:AE:=[(.tmp 0,.dat Uh),(.tmp 1,.di)]
abbrev XH:List RS:=[.one,.one]
def Hj[Lk]:(Uo×Int×Unit)→Option (Vh):=fun(a0,a1,_)=>
 match Ld ((a0.1,(a0.2.1,())),())with|none=>none|some (y0,_)=>match(!y0)with
 |true=>some ((0,(([]:List U4),())),1,())
 |false=>match Qr ((a0.1,(a0.2.1,())),a1,())with|none=>none|some (y1,_)=>match fof (a0.1,y1,())with|none=>none|some (y2,y3,_)=>some ((y2.1,(y2.2.1,())),y3,())
def Lh[Lk]:=fun v=>Lk.f (Hj v)
theorem Lg v:Lh v=Hj v:=AJ _
abbrev AXz:AE:=[(.tmp 0,.dat Uh),(.tmp 1,.di)]
abbrev AXy:AE:=[(.tmp 0,.di)]
abbrev AXx:List RS:=[.one]
def ANS[Lk]:Vh→Option (U9):=fun(a0,a1,_)=>
 match LN ((a0.1,(a0.2.1,())),())with|none=>none|some (y0,_)=>match(!y0)with
 |true=>some ((-1:Int),())
 |false=>match AFH (a0.1,a1,())with|none=>none|some (y1,_)=>match(!y1)with
 |true=>some ((-1:Int),())
 |false=>match HT ((a0.1,(a0.2.1,())),a1,())with|none=>none|some (y2,_)=>some (y2,())
def Aip[Lk]:=fun v=>Lk.f (ANS v)
theorem AbT v:Aip v=ANS v:=AJ _
end
end Go.Pev
end
