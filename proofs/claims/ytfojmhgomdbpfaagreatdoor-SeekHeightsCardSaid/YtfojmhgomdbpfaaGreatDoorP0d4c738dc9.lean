/- A part of the proofs of this seat: PevDec2 PevFlow PevFlow2 PevCall PevCall2 PevCall3 PevCall4 PevTop PevClone G29M1 G29M2. -/
import Derived.Test.YtfojmhgomdbpfaaGreatDoorP881efbe037
import Derived.LoopN
import Derived.Laws.Sem
import Derived.KernelRfl
import Derived.Lib.SliceRun
set_option linter.unusedVariables false
set_option linter.unusedSimpArgs false
set_option linter.unusedSectionVars false
set_option maxRecDepth 100000
section
namespace Go.Pev
open Go.RowKit
theorem ARu(f g:List Nat):∀ fz,Ak (f++g) fz=Ak g (Ak f fz):=by
 induction f with
 |nil=>intro fz;rfl
 |cons a f ih=>intro fz;simp only[Ajm,Ak];exact ih _
section
variable {w:World} {H:List Ob} {m:Mp} {val:Nat→Value} {tm:List AV}
theorem CM{fz:List Bool}{id:Nat}(h:Aj fz id=true):fz.getD id false=false:=by
 unfold Aj at h;simpa using h
theorem AUt:∀ (its:AE) (fz:List Bool) (bs:List Bnd) (F:Nat→Prop) (m':Mp) (E:St) (d:CB (leaves its)) (bs':List Bnd) (fr:List Nat),
  HI w F m H fz→(∀ t v,tm[t]? = some v→Rep w F m H v (val t))→Inv w F m H fz bs m' E val→dec tm H its fz bs=some (d,bs',fr) →
  ∃ F2 m2,Ap w F m H fz w F2 m H (Ak fr fz)∧Inv w F2 m H (Ak fr fz) bs' m2 (enc its d E) val∧∃ r,bs'=bs++r:=by
 intro its
 induction its with
 |nil=>
  intro fz bs F m' E d bs' fr hi ht hv h
  simp only[dec,AjH]at h
  obtain⟨rfl,rfl,rfl⟩:=h
  exact⟨F,m',Ap.refl hi,hv,[],by simp⟩
 |cons p r ih=>
  intro fz bs F m' E d bs' fr hi ht hv h
  obtain⟨l,c⟩:=p
  have obj:∀ (b:Bnd) (o:Ob) (lc:Option (Nat×Nat)) (ref:AV) (u:Value) (xs:CB (leaves r)) (g:List Nat),AVf w m H bs val l u→(∀ (i:Nat) (c:Bnd) (id:Nat),bs[i]? = some c→c.id? = some id→b.id?≠some id) →
    BO w F m H fz (upd m' E.heap.length lc) (E.heap++[o]) E.heap.length b→Rep w F (upd m' E.heap.length lc) (E.heap++[o]) ref u→dec tm H r fz (bs++[b])=some (xs,bs',g) →
    ∃ F2 m2,Ap w F m H fz w F2 m H (Ak g fz)∧Inv w F2 m H (Ak g fz) bs' m2 (enc r xs (place (Dm E o) ref l)) val∧∃ r,bs'=bs++r:=by
   intro b o lc ref u xs g hat hid hbd hrep hd
   have h1:=hv.add hid hbd
   have h2:=h1.place (hat.app b) hrep
   obtain⟨F2,m2,a1,a2,rr,a3⟩:=ih fz (bs++[b]) F _ _ xs bs' g hi ht h2 hd
   exact⟨F2,m2,a1,a2,b::rr,by rw[a3];simp⟩
  have ref:∀ (v:AV) (u:Value) (xs:CB (leaves r)) (g:List Nat),AVf w m H bs val l u→Rep w F m' E.heap v u→dec tm H r fz bs=some (xs,bs',g) →
    ∃ F2 m2,Ap w F m H fz w F2 m H (Ak g fz)∧Inv w F2 m H (Ak g fz) bs' m2 (enc r xs (place E v l)) val∧∃ r,bs'=bs++r:=by
   intro v u xs g hat hrep hd
   exact ih fz bs F _ _ xs bs' g hi ht (hv.place hat hrep) hd
  cases c with
  |dat t=>
   simp only[dec]at h
   split at h
   ·rename_i v hl
    split at h
    ·rename_i x f hx
     split at h
     ·rename_i hf
      split at h
      ·rename_i xs bs1 g hd
       simp only[AjH]at h
       obtain⟨rfl,rfl,rfl⟩:=h
       obtain⟨u,hu,hat⟩:=Bi hi ht hl
       have hdat:=Aez hi hx hu
       have hg:=Ap.freeze hi f
       have hv1:=hv.freeze hf
       have hv2:=hv1.place (v:=.data t x) hat (by unfold Rep;exact hdat)
       obtain⟨F2,m2,a1,a2,rr,a3⟩:=ih (Ak f fz) bs (DB F m H f) _ _ xs _ _ hg.2 (fun t v h=>hg.1.rep hi (ht t v h)) hv2 hd
       rw[ARu]
       exact⟨F2,m2,hg.trans a1,a2,rr,a3⟩
      ·cases h
     ·cases h
    ·cases h
   ·cases h
  |own T e=>
   simp only[dec]at h
   split at h
   ·rename_i e' hl
    split at h
    ·rename_i hc
     simp only[AjJ]at hc
     have hsz:=hc
     split at h
     ·rename_i xs bs1 g hd
      simp only[AjH]at h
      obtain⟨rfl,rfl,rfl⟩:=h
      obtain⟨u,hu,hat⟩:=Bi hi ht hl
      unfold Rep at hu
      refine obj .none (.arr T e []) none (.own E.heap.length) u xs _ hat (fun _ _ _ _ _=>by simp[Bnd.id?]) ?_ ?_ hd
      ·simp only[BO]
       exact⟨Aq ..,.inl ⟨T,e,by simp,hsz⟩⟩
      ·unfold Rep A8
       simp only[Ajv (AjO _),Ak4,Aj0,Aq]
       exact⟨_,hu⟩
     ·cases h
    ·cases h
   ·rename_i id hl
    split at h
    ·rename_i T' e' ys ho hfr
     simp only[AjK]at hfr
     obtain⟨hun,hfr⟩:=hfr
     split at h
     ·rename_i ys' hT hc
      simp only[AjJ]at hT
      subst hT
      obtain⟨he,hy⟩:=CQ hc
      subst he
      simp only at hy
      subst hy
      split at h
      ·rename_i xs bs1 g hd
       simp only[AjH]at h
       obtain⟨rfl,rfl,rfl⟩:=h
       obtain⟨u,hu,hat⟩:=Bi hi ht hl
       refine obj (.whole id) (.arr T e' ys) (m id) (.own E.heap.length) u xs _ hat (fun i c id' hic hcid => ?_) ?_ ?_ hd
       ·rintro h;simp only[Bnd.id?,AjH]at h;subst h;exact FK hfr i c hic hcid
       ·simp only[BO]
        exact⟨Aq ..,.inl ⟨T,e',ys,ho,by simp,CM hun⟩⟩
       ·unfold Rep at hu ⊢
        rw[ho]at hu
        rw[Ajv (AjO _),Ak4,Aj0,Aq]
        exact hu
      ·cases h
     ·cases h
    ·cases h
   ·rename_i id n hl
    split at h
    ·rename_i T' e' ys ho hfr
     simp only[AjK]at hfr
     obtain⟨hun,hfr⟩:=hfr
     split at h
     ·rename_i ys' hT hc
      simp only[AjJ]at hT
      subst hT
      obtain⟨he,hy⟩:=CQ hc
      subst he
      simp only at hy
      subst hy
      split at h
      ·rename_i xs bs1 g hd
       simp only[AjH]at h
       obtain⟨rfl,rfl,rfl⟩:=h
       obtain⟨u,hu,hat⟩:=Bi hi ht hl
       unfold Rep HB at hu
       rw[ho]at hu
       obtain⟨hle,hu⟩:=hu
       have hid:∀ (i:Nat) (c:Bnd) (id':Nat),bs[i]? = some c→c.id? = some id'→(Bnd.cut id).id?≠some id':=by
        intro i c id' hic hcid h;simp only[Bnd.id?,AjH]at h;subst h;exact FK hfr i c hic hcid
       have hget:(E.heap++[Ob.arr T e' (Bp n ys)])[E.heap.length]? = some (Ob.arr T e' (Bp n ys)):=by simp
       obtain⟨hsz,hob⟩:=hi.obj id _ ho
       have hnil:n=0→List.take (α:=e'.den) n ys=[]:=by rintro rfl;simp
       have hlen:List.length (α:=e'.den) (Bp n ys)=n:=by unfold Bp;rw[Ajb];omega
       cases hm:m id with
       |none=>
        rw[hm]at hob hu
        simp only at hob hu
        subst hob
        have h0:n=0:=by simpa using hle
        subst h0
        obtain⟨a,rfl⟩:=hu
        refine obj (.cut id) (.arr T e' (Bp 0 [])) none (.own E.heap.length) _ xs _ hat hid ?_ ?_ hd
        ·simp only[BO]
         exact⟨T,e',[],0,ho,CM hun,hget,.inl (by rw[Aq,hm])⟩
        ·unfold Rep
         rw[hget,Aq]
         exact⟨a,rfl⟩
       |some p=>
        obtain⟨b,cap⟩:=p
        rw[hm]at hob hu
        obtain⟨a,rfl,ha⟩:=hu
        obtain⟨vs,row,o1,o2,o3,o4,o5,o6⟩:=hob
        by_cases hcap:cap=0
        ·subst hcap
         have h0:n=0:=by omega
         refine obj (.cut id) (.arr T e' (Bp n ys)) none (.own E.heap.length) _ xs _ hat hid ?_ ?_ hd
         ·simp only[BO]
          exact⟨T,e',ys,n,ho,CM hun,hget,.inr ⟨Aq ..,hnil h0⟩⟩
         ·unfold Rep
          rw[hget,Aq]
          exact⟨a,by rw[h0]⟩
        ·refine obj (.cut id) (.arr T e' (Bp n ys)) (m id) (.own E.heap.length) _ xs _ hat hid ?_ ?_ hd
         ·simp only[BO]
          exact⟨T,e',ys,n,ho,CM hun,hget,.inl (Aq ..)⟩
         ·unfold Rep A8
          rw[hget,Aq,hm]
          have:=ha (by omega)
          rw[this]
          simp[hlen]
      ·cases h
     ·cases h
    ·cases h
   ·cases h
  |box n=>
   simp only[dec]at h
   split at h
   ·rename_i id hl
    split at h
    ·rename_i cs ho hfr
     split at h
     ·rename_i hn
      simp only[AjJ]at hn
      obtain⟨u,hu,hat⟩:=Bi hi ht hl
      obtain⟨b,cc,vs,T,b1,b2,b3,b4⟩:=hi.obj id _ ho
      refine obj (.whole id) (.box (List.replicate n .junk)) (m id) (.ptr E.heap.length 0) u d fr hat (fun i c id' hic hcid => ?_) ?_ ?_ h
      ·rintro h;simp only[Bnd.id?,AjH]at h;subst h;exact FK hfr i c hic hcid
      ·simp only[BO]
       refine⟨Aq ..,.inr (.inr (.inl ⟨cs,List.replicate n .junk,b,cc,vs,T,ho,by simp,by simp[hn],b1,b2,?_,b4⟩))⟩
       refine DS (by rw[As b3];simp[hn]) fun i c v hc _ => ?_
       have:=Ak9 (AjW hc)
       subst this
       unfold Rep;trivial
      ·unfold Rep HC at hu ⊢
       rw[ho]at hu
       rw[Ajv (AjO _),Ak4,Aj0,Aq]
       exact hu
     ·cases h
    ·cases h
   ·cases h
  |map k v=>
   simp only[dec]at h
   split at h
   ·rename_i id hl
    split at h
    ·rename_i k' v' es ho hfr
     split at h
     ·rename_i es' hc
      obtain⟨he,hy⟩:=CQ hc
      cases he
      simp only at hy
      subst hy
      split at h
      ·rename_i xs bs1 g hd
       simp only[AjH]at h
       obtain⟨rfl,rfl,rfl⟩:=h
       obtain⟨u,hu,hat⟩:=Bi hi ht hl
       refine obj (.whole id) (.map k v es) (m id) (.mp E.heap.length) u xs _ hat (fun i c id' hic hcid => ?_) ?_ ?_ hd
       ·rintro h;simp only[Bnd.id?,AjH]at h;subst h;exact FK hfr i c hic hcid
       ·simp only[BO]
        exact⟨Aq ..,.inr (.inl ⟨k,v,es,ho,by simp⟩)⟩
       ·unfold Rep MZ at hu ⊢
        rw[ho]at hu
        rw[Ajv (AjO _),Ak4,Aj0,Aq]
        exact hu
      ·cases h
     ·cases h
    ·cases h
   ·cases h
  |own' j=>
   simp only[dec]at h
   split at h
   ·rename_i id id' hl hj
    split at h
    ·rename_i hid
     simp only[AjJ]at hid
     subst hid
     obtain⟨u,hu,hat⟩:=Bi hi ht hl
     exact ref (.own j) u d fr hat (AdG (hv.ob j _ hj) hu) h
    ·cases h
   ·cases h
  |ptr' j off=>
   simp only[dec]at h
   split at h
   ·rename_i id o id' hl hj
    split at h
    ·rename_i hid
     simp only[AjK,AjJ]at hid
     obtain⟨rfl,rfl⟩:=hid
     obtain⟨u,hu,hat⟩:=Bi hi ht hl
     exact ref (.ptr j o) u d fr hat (ASc (hv.ob j _ hj) hu) h
    ·cases h
   ·cases h
  |sub' j=>
   simp only[dec]at h
   split at h
   ·rename_i id off n id' hl hj
    split at h
    ·rename_i hid
     simp only[AjJ]at hid
     subst hid
     split at h
     ·rename_i xs bs1 g hd
      simp only[AjH]at h
      obtain⟨rfl,rfl,rfl⟩:=h
      obtain⟨u,hu,hat⟩:=Bi hi ht hl
      exact ref (.win j off n) u xs _ hat (AQk (hv.ob j _ hj) hu) hd
     ·cases h
    ·cases h
   ·cases h
  |win' j=>
   simp only[dec]at h
   split at h
   ·rename_i id n id' hl hj
    split at h
    ·rename_i hid
     simp only[AjJ]at hid
     subst hid
     split at h
     ·rename_i xs bs1 g hd
      simp only[AjH]at h
      obtain⟨rfl,rfl,rfl⟩:=h
      obtain⟨u,hu,hat⟩:=Bi hi ht hl
      exact ref (.win j 0 n) u xs _ hat (AQk (hv.ob j _ hj) hu) hd
     ·cases h
    ·cases h
   ·rename_i id id' hl hj
    split at h
    ·rename_i T t ys hid ho
     simp only[AjJ]at hid
     subst hid
     split at h
     ·rename_i xs bs1 g hd
      simp only[AjH]at h
      obtain⟨rfl,rfl,rfl⟩:=h
      obtain⟨u,hu,hat⟩:=Bi hi ht hl
      exact ref (.win j 0 ys.length) u xs _ hat (AQk (hv.ob j _ hj) (AgL hi ho hu)) hd
     ·cases h
    ·cases h
   ·cases h
  |map' j=>
   simp only[dec]at h
   split at h
   ·rename_i id id' hl hj
    split at h
    ·rename_i hid
     simp only[AjJ]at hid
     subst hid
     obtain⟨u,hu,hat⟩:=Bi hi ht hl
     exact ref (.mp j) u d fr hat (Ait (hv.ob j _ hj) hu) h
    ·cases h
   ·cases h
  |clo f ps=>
   simp only[dec]at h
   split at h
   ·rename_i f' vs hl
    split at h
    ·rename_i hc
     simp only[AjK,AjJ]at hc
     obtain⟨rfl,hc⟩:=hc
     obtain⟨u,hu,hat⟩:=Bi hi ht hl
     unfold Rep at hu
     obtain⟨cs,rfl,hr⟩:=hu
     exact ref (.clo f (ps.map fun p=>.ptr p.1 p.2)) _ d fr hat (by unfold Rep;exact⟨cs,rfl,AhE hv.ob vs ps cs.toList hc hr⟩) h
    ·cases h
   ·cases h
  |bnd f j=>
   simp only[dec]at h
   split at h
   ·rename_i f' id id' hl hj
    split at h
    ·rename_i hc
     simp only[AjK,AjJ]at hc
     obtain⟨rfl,rfl⟩:=hc
     obtain⟨u,hu,hat⟩:=Bi hi ht hl
     unfold Rep at hu
     obtain⟨cs,rfl,hr⟩:=hu
     refine ref (.bnd f [.own j]) _ d fr hat ?_ h
     unfold Rep
     refine⟨cs,rfl,?_⟩
     unfold Ad at hr ⊢
     obtain⟨x,xs,e1,e2,e3⟩:=hr
     refine⟨x,xs,e1,AdG (hv.ob j _ hj) e2,?_⟩
     unfold Ad at e3 ⊢
     exact e3
    ·cases h
   ·cases h
  |prs T j=>
   simp only[dec]at h
   split at h
   ·rename_i e' hl
    split at h
    ·rename_i xs bs1 g hd
     simp only[AjH]at h
     obtain⟨rfl,rfl,rfl⟩:=h
     obtain⟨u,hu,hat⟩:=Bi hi ht hl
     unfold Rep at hu
     refine obj .none (.prs T j []) none (.own E.heap.length) u xs _ hat (fun _ _ _ _ _=>by simp[Bnd.id?]) ?_ ?_ hd
     ·simp only[BO]
      exact⟨Aq ..,.inr ⟨T,j,by simp⟩⟩
     ·unfold Rep A8
      simp only[Ajv (AjO _),Ak4,Aj0,Aq]
      exact⟨_,hu⟩
    ·cases h
   ·rename_i id hl
    split at h
    ·rename_i T' tgt is tgt' ho hfr hj
     split at h
     ·rename_i hT
      simp only[AjK,AjJ]at hT
      obtain⟨rfl,rfl⟩:=hT
      split at h
      ·rename_i xs bs1 g hd
       simp only[AjH]at h
       obtain⟨rfl,rfl,rfl⟩:=h
       obtain⟨u,hu,hat⟩:=Bi hi ht hl
       have hbj:=hv.ob j _ hj
       have hob:=hi.obj id _ ho
       have hcomp:CK E.heap (E.heap++[.prs T j is]) m' (upd m' E.heap.length (m id)):=by
        intro i x hi hf
        have hlt:=Al hi
        rcases CK.refl E.heap m' i x hi hf with h|⟨hd,o',h4,h5,_⟩
        ·exact .inl (by rw[Ajp hlt];exact h)
        ·exact .inr ⟨hd,o',by rw[Ajp hlt];exact h4,h5,Fg (by omega),fun _ _ _=>EK (by simp)⟩
       have hob':ObI w F (upd m' E.heap.length (m id)) (E.heap++[.prs T j is]) (.prs T j is) (m id):=by
        cases hm:m id with
        |none=>rw[hm]at hob;exact hob
        |some p=>
         obtain⟨b,cap⟩:=p
         rw[hm]at hob hcomp
         obtain⟨vs,us,e1,e2,e3,e4,e5,e6⟩:=hob
         exact⟨vs,us,e1,e2,e3,e4,Ad.mono (fun _ _=>rfl) (fun _ h=>h) hcomp _ (Af9 hbj e5),e6⟩
       refine obj (.whole id) (.prs T j is) (m id) (.own E.heap.length) u xs _ hat (fun i c id' hic hcid => ?_) ?_ ?_ hd
       ·rintro h;simp only[Bnd.id?,AjH]at h;subst h;exact FK hfr i c hic hcid
       ·simp only[BO]
        exact⟨Aq ..,.inr (.inr (.inr (.inl ⟨T,tgt,j,is,ho,by simp,hob'⟩)))⟩
       ·unfold Rep at hu ⊢
        rw[ho]at hu
        rw[Ajv (AjO _),Ak4,Aj0,Aq]
        exact hu
      ·cases h
     ·cases h
    ·cases h
   ·cases h
  |nil e=>
   simp only[dec]at h
   cases hl:look tm H bs l with
   |none=>rw[hl]at h;cases h
   |some v=>
    rw[hl]at h
    cases v with
    |nils e'=>
     obtain⟨u,hu,hat⟩:=Bi hi ht hl
     exact ref (.nils e) u d fr hat (by unfold Rep at *;exact hu) h
    |_=>cases h
  |rows T e t=>
   simp only[dec]at h
   split at h
   ·rename_i id hl
    split at h
    ·rename_i T' e' t' ys ver ho hfr
     simp only[AjK]at hfr
     obtain⟨hun,hfr⟩:=hfr
     split at h
     ·rename_i ys' hT hc
      simp only[AjK,AjJ]at hT
      obtain⟨rfl,rfl⟩:=hT
      obtain⟨he,hy⟩:=CQ hc
      cases he
      simp only at hy
      subst hy
      split at h
      ·rename_i xs bs1 g hd
       simp only[AjH]at h
       obtain⟨rfl,rfl,rfl⟩:=h
       obtain⟨u,hu,hat⟩:=Bi hi ht hl
       have hrep:Rep w F (O3 m' E.heap.length (m id) fun k=>m (.r id k)) (E.heap++[.rows (.arr T) e t ys 0 none]) (.own E.heap.length) u:=by
        unfold Rep at hu ⊢
        rw[ho]at hu
        rw[Ajv (AjO _),Ak4,Aj0,Kt]
        exact hu
       have h1:=hv.AiZ (b:=.whole id) (o:=.rows (.arr T) e t ys 0 none) (mn:=O3 m' E.heap.length (m id) fun k=>m (.r id k)) (fun x hx=>HJ hx)
        (fun i c id' hic hcid h=>by simp only[Bnd.id?,AjH]at h;subst h;exact FK hfr i c hic hcid)
        (by simp only[BO];exact⟨Kt,.inr (.inr (.inr (.inr ⟨.arr T,e,t,ys,ver,ho,by simp,fun k=>AIA,CM hun⟩)))⟩)
       have h2:=h1.place (hat.app (.whole id)) hrep
       obtain⟨F2,m2,a1,a2,rr,a3⟩:=ih fz (bs++[.whole id]) F _ _ xs _ _ hi ht h2 hd
       exact⟨F2,m2,a1,a2,.whole id::rr,by rw[a3];simp⟩
      ·cases h
     ·cases h
    ·cases h
   ·cases h
  |mrows j e t=>
   simp only[dec]at h
   split at h
   ·rename_i id hl
    split at h
    ·rename_i j' ks e' t' ys ver ho hfr
     simp only[AjK]at hfr
     obtain⟨hun,hfr⟩:=hfr
     split at h
     ·rename_i ys' hT hc
      simp only[AjK,AjJ]at hT
      obtain⟨rfl,rfl⟩:=hT
      obtain⟨he,hy⟩:=CQ hc
      cases he
      simp only at hy
      subst hy
      split at h
      ·rename_i xs bs1 g hd
       simp only[AjH]at h
       obtain⟨rfl,rfl,rfl⟩:=h
       obtain⟨u,hu,hat⟩:=Bi hi ht hl
       have hrep:Rep w F (O3 m' E.heap.length (m id) fun k=>m (.r id k)) (E.heap++[.rows (.map j ks) e t ys 0 none]) (.mp E.heap.length) u:=by
        unfold Rep at hu ⊢
        rw[ho]at hu
        rw[Ajv (AjO _),Ak4,Aj0,Kt]
        exact hu
       have h1:=hv.AiZ (b:=.whole id) (o:=.rows (.map j ks) e t ys 0 none) (mn:=O3 m' E.heap.length (m id) fun k=>m (.r id k)) (fun x hx=>HJ hx)
        (fun i c id' hic hcid h=>by simp only[Bnd.id?,AjH]at h;subst h;exact FK hfr i c hic hcid)
        (by simp only[BO];exact⟨Kt,.inr (.inr (.inr (.inr ⟨.map j ks,e,t,ys,ver,ho,by simp,fun k=>AIA,CM hun⟩)))⟩)
       have h2:=h1.place (hat.app (.whole id)) hrep
       have hzl:ks.length=List.length (α:=List t.den) ys:=by
        obtain⟨_,h4⟩:=hi.obj id _ ho
        cases hm:m id with
        |none=>rw[hm]at h4;cases h4.1
        |some p=>
         obtain⟨b,cap⟩:=p
         rw[hm]at h4
         obtain⟨_,_,_,_,_,h5,_⟩:=h4
         exact(h5.resolve_right fun h=>by cases h.1).symm
       have he:enc ((l,.mrows j e t)::r) ((List.zip (β:=List t.den) ks ys,xs):CB (leaves ((l,.mrows j e t)::r))) E=enc r xs (place (Dm E (.rows (.map j ks) e t ys 0 none)) (.mp E.heap.length) l):=by
        simp only[enc]
        rw[List.map_fst_zip (Ala hzl),List.map_snd_zip (Ala hzl.symm)]
       rw[he]
       obtain⟨F2,m2,a1,a2,rr,a3⟩:=ih fz (bs++[.whole id]) F _ _ xs _ _ hi ht h2 hd
       exact⟨F2,m2,a1,a2,.whole id::rr,by rw[a3];simp⟩
      ·cases h
     ·cases h
    ·cases h
   ·cases h
  |aptr T e n=>
   simp only[dec]at h
   split at h
   ·rename_i id n' hl
    split at h
    ·rename_i T' e' ys ho hfr
     simp only[AjK]at hfr
     obtain⟨hun,hfr⟩:=hfr
     split at h
     ·rename_i ys' hT hc
      simp only[AjK,AjJ]at hT
      obtain⟨rfl,rfl⟩:=hT
      obtain⟨he,hy⟩:=CQ hc
      subst he
      simp only at hy
      subst hy
      split at h
      ·rename_i xs bs1 g hd
       simp only[AjH]at h
       obtain⟨rfl,rfl,rfl⟩:=h
       obtain⟨u,hu,hat⟩:=Bi hi ht hl
       refine obj (.whole id) (.arr T e' ys) (m id) (.aptr E.heap.length n) u xs _ hat (fun i c id' hic hcid => ?_) ?_ ?_ hd
       ·rintro h;simp only[Bnd.id?,AjH]at h;subst h;exact FK hfr i c hic hcid
       ·simp only[BO]
        exact⟨Aq ..,.inl ⟨T,e',ys,ho,by simp,CM hun⟩⟩
       ·unfold Rep at hu ⊢
        rw[ho]at hu
        rw[Ajv (AjO _),Ak4,Aj0,Aq]
        exact hu
      ·cases h
     ·cases h
    ·cases h
   ·cases h
  |bndp f j=>
   simp only[dec]at h
   split at h
   ·rename_i f' id id' hl hj
    split at h
    ·rename_i hc
     simp only[AjK,AjJ]at hc
     obtain⟨rfl,rfl⟩:=hc
     obtain⟨u,hu,hat⟩:=Bi hi ht hl
     unfold Rep at hu
     obtain⟨cs,rfl,hr⟩:=hu
     refine ref (.bnd f [.ptr j 0]) _ d fr hat ?_ h
     unfold Rep
     refine⟨cs,rfl,?_⟩
     unfold Ad at hr ⊢
     obtain⟨x,xs,e1,e2,e3⟩:=hr
     refine⟨x,xs,e1,ASc (hv.ob j _ hj) e2,?_⟩
     unfold Ad at e3 ⊢
     exact e3
    ·cases h
   ·cases h
  |nilp=>
   simp only[dec]at h
   cases hl:look tm H bs l with
   |none=>rw[hl]at h;cases h
   |some v=>
    rw[hl]at h
    cases v with
    |nilp=>
     obtain⟨u,hu,hat⟩:=Bi hi ht hl
     exact ref .nilp u d fr hat (by unfold Rep at *;exact hu) h
    |_=>cases h
  |aptr' j n=>
   simp only[dec]at h
   split at h
   ·rename_i id n' id' hl hj
    split at h
    ·rename_i hid
     simp only[AjK,AjJ]at hid
     obtain⟨rfl,rfl⟩:=hid
     obtain⟨u,hu,hat⟩:=Bi hi ht hl
     exact ref (.aptr j n) u d fr hat (AhM (hv.ob j _ hj) hu) h
    ·cases h
   ·cases h
end
end Go.Pev
end
section
namespace Go.Pev
open Go.RowKit
structure Wl(np:Nat)(w:World)(F:Nat→Prop)(m:Mp)(H:List Ob)(fz:List Bool)(w':World)(F':Nat→Prop)(m':Mp)(H':List Ob)(fz':List Bool):Prop where
 os:w'.os=w.os
 tape:w'.tape=w.tape
 output:w'.output=w.output
 size:w.heap.size≤w'.heap.size
 keep:∀ b,b<w.heap.size→(∀ i c,owned H fz i→m i≠some (b,c))→w'.heap[b]? = w.heap[b]?
 sub:∀ b,F b→F' b
 bnd:∀ b,F' b→F b∨(∃ i c,owned H fz i∧m i=some (b,c))∨w.heap.size≤b
 own:∀ i b c,owned H' fz' i→m' i=some (b,c)→(∃ i c,owned H fz i∧m i=some (b,c))∨w.heap.size≤b
 comp:∀ (i:Nat) o,i<np→H[i]? = some o→o≠.free→H'[i]? = some .dead∨(o≠.dead∧∃ o',H'[i]? = some o'∧sameShape o o'∧m' i=m i∧(BU o=false→Qv o'=Qv o→∀ k,m' (.r i k)=m (.r i k)))
theorem Ext.toN{w w':World}{F F':Nat→Prop}{m m':Mp}{H H':List Ob}{fz fz':List Bool}(h:Ext w F m H fz w' F' m' H' fz')(np:Nat):Wl np w F m H fz w' F' m' H' fz':=
 ⟨h.os,h.tape,h.output,h.size,h.keep,h.sub,h.bnd,h.own,fun i o _=>h.comp i o⟩
theorem Wl.refl(np:Nat)(w:World)(F:Nat→Prop)(m:Mp)(H:List Ob)(fz:List Bool):Wl np w F m H fz w F m H fz:=(Ext.refl ..).toN np
theorem Wl.trans{np:Nat}{w w1 w2:World}{F F1 F2:Nat→Prop}{m m1 m2:Mp}{H H1 H2:List Ob}{fz fz1 fz2:List Bool}
  (h:Wl np w F m H fz w1 F1 m1 H1 fz1) (k:Wl np w1 F1 m1 H1 fz1 w2 F2 m2 H2 fz2):Wl np w F m H fz w2 F2 m2 H2 fz2 where
 os:=k.os.trans h.os
 tape:=k.tape.trans h.tape
 output:=k.output.trans h.output
 size:=Aka h.size k.size
 keep b hb hn:=by
  rw[k.keep b (Akg hb h.size) ?_,h.keep b hb hn]
  intro i c ho he
  rcases h.own i b c ho he with⟨i',c',h1,h2⟩|h1
  ·exact hn i' c' h1 h2
  ·omega
 sub b hb:=k.sub b (h.sub b hb)
 bnd b hb:=by
  rcases k.bnd b hb with h1|⟨i,c,h1,h2⟩|h1
  ·exact h.bnd b h1
  ·rcases h.own i b c h1 h2 with h3|h3
   ·exact .inr (.inl h3)
   ·exact .inr (.inr h3)
  ·exact .inr (.inr (Aka h.size h1))
 own i b c h1 h2:=by
  rcases k.own i b c h1 h2 with⟨i',c',h3,h4⟩|h3
  ·exact h.own i' b c' h3 h4
  ·exact .inr (Aka h.size h3)
 comp i o hlt ho hf:=by
  rcases h.comp i o hlt ho hf with h1|⟨hd,o',h1,h2,h3,hp⟩
  ·rcases k.comp i _ hlt h1 (by simp)with h4|⟨h5,_⟩
   ·exact .inl h4
   ·exact absurd rfl h5
  ·have hf':o'≠.free:=by rintro rfl;cases o<;>simp[sameShape]at h2
   rcases k.comp i o' hlt h1 hf' with h4|⟨_,o'',h4,h5,h6,hq⟩
   ·exact .inl h4
   ·refine .inr ⟨hd,o'',h4,h2.trans h5,h6.trans h3,fun a b k => ?_⟩
    have h8:=h2.ver
    have h9:=h5.ver
    exact(hq (h8.2▸a) (by omega) k).trans (hp a (by omega) k)
section
variable {w:World} {F:Nat→Prop} {m:Mp} {H:List Ob} {fz:List Bool} {bs:List Bnd} {m':Mp} {E:St} {val:Nat→Value}
def Ix.at:Ix→Nat→Ix
 |.o _,i=>.o i
 |.r _ k,i=>.r i k
theorem Ix.AhY(x:Ix)(i:Nat):(x.at i).id=i:=by cases x<;>rfl
theorem Inv.Ai7(h:Inv w F m H fz bs m' E val){i b c:Nat}(ho:owned E.heap E.frz i)(hm:m' i=some (b,c)):∃ x id,bs[i]? = some x∧x.id? = some id∧owned H fz id∧m id=some (b,c):=by
 obtain⟨o,hio,_,_⟩:=Ex ho
 have hlt:=Al hio
 rw[h.lenH]at hlt
 have hx:bs[i]? = some bs[i]:=AjM hlt
 have hb:=h.ob i _ hx
 cases hc:bs[i]with
 |none=>rw[hc]at hb;simp only[BO]at hb;rw[hb.1]at hm;cases hm
 |whole id=>
  rw[hc]at hb hx
  simp only[BO]at hb
  obtain⟨e,hb⟩:=hb
  refine⟨_,id,hx,rfl,?_,by rw[← e];exact hm⟩
  simp only[owned,Bq]
  rcases hb with⟨T,t,xs,a1,_,a3⟩|⟨k,v,es,a1,_⟩|⟨cs,cs',b,c,vs,T,a1,_⟩|⟨_,_,_,_,a1,_⟩|⟨_,_,_,_,_,a1,_,_,a4⟩
  ·rw[a1];exact a3
  ·rw[a1];trivial
  ·rw[a1];trivial
  ·rw[a1];trivial
  ·rw[a1];exact a4
 |cut id=>
  rw[hc]at hb hx
  simp only[BO]at hb
  obtain⟨T,t,xs,n,a1,a2,a3,a4⟩:=hb
  refine⟨_,id,hx,rfl,by simp only[owned,Bq];rw[a1];exact a2,?_⟩
  rcases a4 with a4|⟨a4,_⟩
  ·rw[← a4];exact hm
  ·rw[a4]at hm;cases hm
theorem Inv.rowAt(h:Inv w F m H fz bs m' E val){j:Nat}{T:RK}{e:TypeId}{t:Ty}{xs:List (List t.den)}{ver:Nat}{out:Option Nat}(hj:E.heap[j]? = some (.rows T e t xs ver out)):
  ∃ id ver',bs[j]? = some (.whole id)∧H[id]? = some (.rows T e t xs ver' none)∧out=none∧m' j=m id∧(∀ k,m' (.r j k)=m (.r id k))∧fz.getD id false=false:=by
 have hlt:=Al hj
 rw[h.lenH]at hlt
 have hx:bs[j]? = some bs[j]:=AjM hlt
 have hb:=h.ob j _ hx
 cases hc:bs[j]with
 |none=>
  rw[hc]at hb;simp only[BO]at hb
  rcases hb.2 with⟨T,e,e2,_⟩|⟨T,t,e2⟩<;>(rw[hj]at e2;cases e2)
 |whole id=>
  rw[hc]at hb hx;simp only[BO]at hb
  obtain⟨e0,hb⟩:=hb
  rcases hb with⟨T,t,xs,a1,a2,a3⟩|⟨k,v,es,a1,a2⟩|⟨cs,cs',b,c,vs,T,a1,a2,_⟩|⟨_,_,_,_,a1,a2,_⟩|⟨T,e,t,xs,ver,a1,a2,a3⟩
  ·rw[hj]at a2;cases a2
  ·rw[hj]at a2;cases a2
  ·rw[hj]at a2;cases a2
  ·rw[hj]at a2;cases a2
  ·rw[hj]at a2;cases a2
   exact⟨id,ver,hx,a1,rfl,e0,a3⟩
 |cut id=>
  rw[hc]at hb;simp only[BO]at hb
  obtain⟨T,t,xs,n,_,_,a3,_⟩:=hb
  rw[hj]at a3;cases a3
theorem Inv.src(h:Inv w F m H fz bs m' E val){i:Ix}{b c:Nat}(ho:owned E.heap E.frz i)(hm:m' i=some (b,c)):∃ x id,bs[i.id]? = some x∧x.id? = some id∧owned H fz (i.at id)∧m (i.at id)=some (b,c):=by
 cases i with
 |o i=>exact h.Ai7 ho hm
 |r i k=>
  simp only[owned]at ho
  split at ho
  ·rename_i T e t xs ver out hj
   obtain⟨id,ver',a1,a2,_,_,a5,a6⟩:=h.rowAt hj
   exact⟨_,id,a1,rfl,by simp only[owned,Ix.at];rw[a2];exact⟨ho.1,a6⟩,(a5 k).symm.trans hm⟩
  ·exact ho.elim
theorem Inv.hi(hi:HI w F m H fz)(h:Inv w F m H fz bs m' E val):HI w F m' E.heap E.frz where
 obj j o hj:=by
  have hlt:=Al hj
  rw[h.lenH]at hlt
  have hx:bs[j]? = some bs[j]:=AjM hlt
  have hb:=h.ob j _ hx
  cases hc:bs[j]with
  |none=>
   rw[hc]at hb
   simp only[BO]at hb
   obtain⟨e1,⟨T,e,e2,e3⟩|⟨T,t,e2⟩⟩:=hb
   ·rw[hj]at e2;cases e2
    exact⟨e3,by rw[e1]⟩
   ·rw[hj]at e2;cases e2
    rw[e1]
    exact(rfl:([]:List Int)=[])
  |whole id=>
   rw[hc]at hb
   simp only[BO]at hb
   obtain⟨e,hb⟩:=hb
   rcases hb with⟨T,t,xs,a1,a2,a3⟩|⟨k,v,es,a1,a2⟩|⟨cs,cs',b,c,vs,T,a1,a2,_,a4,a5,a6,a7⟩|⟨T,tgt,j0,is,a1,a2,a3⟩|⟨T,e',t,xs,ver,a1,a2,a3⟩
   ·rw[hj]at a2;cases a2
    rw[e];exact hi.obj id _ a1
   ·rw[hj]at a2;cases a2
    rw[e];exact hi.obj id _ a1
   ·rw[hj]at a2;cases a2
    exact⟨b,c,vs,T,e.trans a4,a5,a6,a7⟩
   ·rw[hj]at a2;cases a2
    rw[e];exact a3
   ·rw[hj]at a2;cases a2
    rw[e];exact hi.obj id _ a1
  |cut id=>
   rw[hc]at hb
   simp only[BO]at hb
   obtain⟨T,t,xs,n,a1,a2,a3,a4⟩:=hb
   rw[hj]at a3;cases a3
   obtain⟨h0,h1⟩:=hi.obj id _ a1
   refine⟨h0,?_⟩
   rcases a4 with a4|⟨a4,a5⟩
   ·rw[a4]
    cases hm:m id with
    |none=>
     rw[hm]at h1
     simp only at h1 ⊢
     rw[h1];simp
    |some p=>
     obtain⟨b,cap⟩:=p
     rw[hm]at h1
     simp only at h1 ⊢
     obtain⟨vs,row,b1,b2,b3,b4,b5,b6⟩:=h1
     refine⟨vs,row.take (n*t.size),b1,?_,b3,b4,Ds (fun x cs hx=>Dat.length t hx) n b5,?_⟩
     ·rw[Ajb];omega
     ·rw[Ajb,← AlW,b6]
   ·rw[a4];exact a5
 row i:=by
  intro T e t xs ver out hj k ys hk
  obtain⟨id,ver',a1,a2,rfl,a4,a5,_⟩:=h.rowAt hj
  obtain⟨h1,h2⟩:=hi.row id T e t xs ver' none a2 k ys hk
  rw[a5 k]
  refine⟨?_,fun _ => ?_⟩
  ·obtain⟨h0,h1⟩:=h1
   exact⟨h0,h1⟩
  ·obtain⟨b,cap,u,e1,e2⟩:=h2 (by simp)
   exact⟨b,cap,u,a4.trans e1,e2⟩
 rfz i T e t xs ver out hj hf:=by rw[h.frz i]at hf;cases hf
 sep i j b c b' c' h1 h2 hij h3 h4:=by
  obtain⟨x,id,k1,k2,k3,k4⟩:=h.src h1 h3
  obtain⟨y,id',l1,l2,l3,l4⟩:=h.src h2 h4
  refine hi.sep _ _ b c b' c' k3 l3 ?_ k4 l4
  intro he
  have hid:id=id':=by rw[← Ix.AhY i id,he,Ix.AhY]
  subst hid
  have:=h.inj _ _ x y id k1 l1 k2 l2
  cases i<;>cases j<;>simp only[Ix.at,Ix.id]at he this<;>(try cases he)<;>subst this<;>exact hij rfl
 off i b c h1 h2:=by
  obtain⟨x,id,k1,k2,k3,k4⟩:=h.src h1 h2
  exact hi.off _ b c k3 k4
 froz i T t xs b c h1 h2:=by rw[h.frz i]at h2;cases h2
 lt:=hi.lt
 glo:=hi.glo
 len:=h.lenF.symm
theorem ANR:∀ (n i:Nat) (bs:List Bnd),pins n i bs=true→∀ k,k<n→bs[k]? = some (.whole (i+k)):=by
 intro n
 induction n with
 |zero=>intro i bs _ k hk;omega
 |succ n ih=>
  intro i bs h k hk
  cases bs with
  |nil=>simp[pins]at h
  |cons b bs=>
   simp only[pins,AjK,AjJ]at h
   cases k with
   |zero=>simp[h.1]
   |succ k=>
    have:=ih (i+1) bs h.2 k (by omega)
    simp only[AlV]
    rw[this];congr 2;omega
theorem Inv.blank{val:Nat→Value}(n:Nat):Inv w F m H fz [] (fun _=>none) (Pev.blank n) val where
 tmps t:=by
  have:(Pev.blank n).tmps.getD t .junk = .junk:=by
   simp only[Pev.blank,AjI,Akr]
   split<;>rfl
  rw[this];unfold Rep;trivial
 lenH:=rfl
 lenF:=rfl
 frz i:=by simp[Pev.blank]
 ob j b h:=by simp at h
 inj i j b c id h:=by simp at h
theorem ASg(st:St)(v:AV)(l:Loc):(place st v l).tmps.length=st.tmps.length:=by
 cases l with
 |tmp t=>simp[place]
 |cell j c=>simp only[place];split<;>rfl
 |cap t i=>rfl
 |obj j=>rfl
theorem Aec:∀ (its:AE) (d:CB (leaves its)) (st:St),(enc its d st).tmps.length=st.tmps.length:=by
 intro its
 induction its with
 |nil=>intro d st;rfl
 |cons p r ih=>
  intro d st
  obtain⟨l,c⟩:=p
  cases c<;>exact(ih _ _).trans (ASg _ _ _)
theorem Nh(n:Nat)(its:AE)(d:CB (leaves its)):(encode n its d).tmps.length=n:=by
 unfold encode;rw[Aec];simp[blank]
theorem AYt{F2:Nat→Prop}{fz2:List Bool}{np:Nat}(h:Inv w F2 m H fz2 bs m' E val)(hp:(pins np 0 bs&&(H.take np).all BU)=true):∀ (i:Nat) o,i<np→H[i]? = some o→o≠.free→E.heap[i]? = some .dead∨(o≠.dead∧∃ o',E.heap[i]? = some o'∧sameShape o o'∧m' i=m i∧(BU o=false→Qv o'=Qv o→∀ k,m' (.r i k)=m (.r i k))):=by
 intro i o hlt ho hf
 rw[AjK]at hp
 obtain⟨hp,hall⟩:=hp
 have hpl:BU o=true:=Ajd.1 hall o (AjW (i:=i) (by rw[Aj7,AjP hlt];exact ho))
 suffices hs:E.heap[i]? = some .dead∨(o≠.dead∧∃ o',E.heap[i]? = some o'∧sameShape o o'∧m' i=m i)from
  hs.imp id fun ⟨a,o',b,c,d⟩=>⟨a,o',b,c,d,fun e=>by rw[hpl]at e;cases e⟩
 have h1:=ANR np 0 bs hp i hlt
 rw[AkI]at h1
 have hb:=h.ob i _ h1
 simp only[BO]at hb
 obtain⟨e,hb⟩:=hb
 right
 rcases hb with⟨T,t,xs,a1,a2,a3⟩|⟨k,v,es,a1,a2⟩|⟨cs,cs',b,c,vs,T,a1,a2,_,a4,a5,a6,a7⟩|⟨_,_,_,_,a1,a2,_⟩|⟨_,_,_,_,_,a1,a2,_⟩
 ·rw[ho]at a1;cases a1;exact⟨by simp,_,a2,⟨rfl,rfl⟩,e⟩
 ·rw[ho]at a1;cases a1;exact⟨by simp,_,a2,trivial,e⟩
 ·rw[ho]at a1;cases a1;exact⟨by simp,_,a2,trivial,e⟩
 ·rw[ho]at a1;cases a1;exact⟨by simp,_,a2,rfl,e⟩
 ·rw[ho]at a1;cases a1;cases hpl
theorem WG{np nt:Nat}{st:St}{a:Act}{its:AE}{v:CB (leaves its)}(hs:SI w F m st a)(h:decode np nt st its=some v):
  ∃ F' m',SI w F' m' (encode nt its v) a∧Wl np w F m st.heap st.frz w F' m' (encode nt its v).heap (encode nt its v).frz:=by
 unfold decode at h
 split at h
 ·rename_i hn
  simp only[AjJ]at hn
  split at h
  ·rename_i v' bs fr hd
   split at h
   ·rename_i hp
    simp only[AjH]at h;subst h
    obtain⟨F2,m2,hg,hv,_⟩:=AUt (val:=fun t=>a.tmps.getD t undef) its st.frz [] F (fun _=>none) (blank nt) v' bs fr hs.heap
     (fun t v ht=>by have:=hs.tmps t;rw[AjI,ht]at this;exact this) (Inv.blank nt) hd
    refine⟨F2,m2,⟨hv.tmps,by rw[Nh,← hn];exact hs.size,hv.hi hg.2,hs.defers⟩,?_⟩
    refine⟨rfl,rfl,rfl,AjO _,fun _ _ _=>rfl,hg.1.sub,hg.1.bnd,fun i b c h1 h2 => ?_,AYt hv hp⟩
    obtain⟨x,id,k1,k2,k3,k4⟩:=hv.src h1 h2
    exact hg.1.own _ b c k3 k4
   ·cases h
  ·cases h
 ·cases h
end
end Go.Pev
end
section
namespace Go.Pev
open Go.RowKit
theorem Xq{R:Type}{all:List Oper}{g:Option (Nat×Bool)}{st:St}{yes no:St→Option R}{r:R}(h:guarded R all g st yes no=some r):
  ∃ st',(yes st'=some r∧∀ (R':Type) (yes' no':St→Option R'),guarded R' all g st yes' no'=yes' st')∨(no st'=some r∧∀ (R':Type) (yes' no':St→Option R'),guarded R' all g st yes' no'=no' st'):=by
 unfold guarded at h
 split at h
 ·exact⟨st,.inl ⟨h,fun _ _ _=>by simp[guarded]⟩⟩
 ·rename_i j want
  split at h
  ·cases h
  ·rename_i d hj
   split at h
   ·rename_i b hd
    cases b with
    |true=>
     cases want with
     |true=>exact⟨_,.inl ⟨h,fun _ _ _=>by simp only[guarded,hj,hd]⟩⟩
     |false=>exact⟨_,.inr ⟨h,fun _ _ _=>by simp only[guarded,hj,hd]⟩⟩
    |false=>
     cases want with
     |true=>exact⟨_,.inr ⟨h,fun _ _ _=>by simp only[guarded,hj,hd]⟩⟩
     |false=>exact⟨_,.inl ⟨h,fun _ _ _=>by simp only[guarded,hj,hd]⟩⟩
   ·rename_i hd
    exact⟨_,.inr ⟨h,fun _ _ _=>by simp only[guarded,hj,hd]⟩⟩
   ·cases h
section
variable {P:Program} {E:Env} {h:Hints}
theorem ASs(hE:∀ g,AR P g (E.spec g)){R:Type}{r:R}{all:List Oper}:∀ (ops:List Oper) (slot:Nat) (st:St) (k:St→Option R),Ji P E R all ops slot st k=some r →
  ∃ st',k st'=some r∧∀ (R':Type) (k':St→Option R'),Ji P E R' all ops slot st k'=k' st':=by
 intro ops
 induction ops with
 |nil=>intro slot st k h;exact⟨st,h,fun _ _=>rfl⟩
 |cons o ops ih=>
  intro slot st k h
  simp only[Ji]at h
  obtain⟨st1,h1⟩:=Xq h
  rcases h1 with⟨h1,h2⟩|⟨h1,h2⟩
  ·obtain⟨v,e,h3,h4,_⟩:=Ke hE o.op _ _ _ _ _ _ _ r h1
   obtain⟨st2,h5,h6⟩:=ih _ _ _ h3
   exact⟨st2,h5,fun R' k'=>by simp only[Ji];rw[h2,h4];exact h6 R' k'⟩
  ·obtain⟨st2,h5,h6⟩:=ih _ _ _ h1
   exact⟨st2,h5,fun R' k'=>by simp only[Ji];rw[h2];exact h6 R' k'⟩
theorem AX1(hE:∀ g,AR P g (E.spec g)){R:Type}{r:R}{all:List Oper}{o:Oper}{φ:List Nat}{slot:Nat}{st:St}{k:St→Option R}(h:XC P E R all o φ slot st k=some r):
  ∃ st',k st'=some r∧∀ (R':Type) (k':St→Option R'),XC P E R' all o φ slot st k'=k' st':=by
 unfold XC at h
 obtain⟨st1,h1⟩:=Xq h
 rcases h1 with⟨h1,h2⟩|⟨h1,h2⟩
 ·split at h1
  ·rename_i hw
   obtain⟨v,e,h3,h4,_⟩:=Ke hE o.op _ _ _ _ _ _ _ r h1
   split at h3
   ·rename_i hok
    exact⟨_,h3,fun R' k'=>by unfold XC;rw[h2];simp only[hw];rw[h4];simp only[hok]⟩
   ·cases h3
  ·cases h1
 ·exact⟨_,h1,fun R' k'=>by unfold XC;rw[h2]⟩
theorem ANT(hE:∀ g,AR P g (E.spec g)){R:Type}{r:R}{all:List Oper}:∀ (ops:List Oper) (fp:List (List Nat)) (slot:Nat) (st:St) (k:St→Option R),I5 P E R all ops fp slot st k=some r →
  ∃ st',k st'=some r∧∀ (R':Type) (k':St→Option R'),I5 P E R' all ops fp slot st k'=k' st':=by
 intro ops
 induction ops with
 |nil=>intro fp slot st k h;exact⟨st,h,fun _ _=>rfl⟩
 |cons o ops ih=>
  intro fp slot st k h
  simp only[I5]at h
  obtain⟨st1,h1,h2⟩:=AX1 hE h
  obtain⟨st2,h5,h6⟩:=ih _ _ _ _ h1
  exact⟨st2,h5,fun R' k'=>by simp only[I5];rw[h2];exact h6 R' k'⟩
def AjC(P:Program)(np:Nat)(c:Code)(st:St)(e:Exit)(st':St):Prop:=
 ∀ (w:World) (F:Nat→Prop) (m:Mp) (a:Act) (Q:Exit→Act→World→Prop),SI w F m st a →
  (∀ a' w' F' m',SI w' F' m' st' a'→Wl np w F m st.heap st.frz w' F' m' st'.heap st'.frz→Q e a' w')→c.wp P Q a w
def Aa(P:Program)(np:Nat)(c:Code)(go:(R:Type)→St→(Exit→St→Option R)→Option R):Prop:=
 ∀ (R:Type) (st:St) (k:Exit→St→Option R) (r:R),go R st k=some r→∃ e st',k e st'=some r∧(∀ (R':Type) (k':Exit→St→Option R'),go R' st k'=k' e st')∧AjC P np c st e st'
def DT(P:Program)(np:Nat)(h:Hints):Code→Nat→Prop
 |.seq a b,n=>DT P np h a n∧DT P np h b (n+loops a)
 |.cond _ a b,n=>DT P np h a n∧DT P np h b (n+loops a)
 |.block _ c,n=>DT P np h c n
 |.loop c,n=>Aa P np (.loop c) (h.loop n)
 |_,_=>True
theorem AXL{w:World}{F:Nat→Prop}{m:Mp}{st:St}{a:Act}(hs:SI w F m st a){c:Operand}{x:Bool}(hc:BW st.tmps c = .data .bool x):
  a.eval c = .bool x∧SI w F m { st with tmps:=Pp st.tmps c x } a:=by
 have h1:Rep w F m st.heap (BW st.tmps c) (a.eval c):=ACy hs.tmps c
 rw[hc]at h1
 refine⟨?_,?_⟩
 ·unfold Rep Bg at h1
  simp only[Ty.isAgg,Ajf,Ajc]at h1
  simpa [Dat]using h1
 ·cases c with
  |tmp t=>
   simp only[BW,AjI]at hc
   exact hs.lit (d:=t) (b:=x) (by
    cases ht:st.tmps[t]? with
    |none=>rw[ht]at hc;simp at hc
    |some v=>rw[ht]at hc;simp at hc;rw[hc])
  |const v=>exact hs
  |func f=>exact hs
  |global g=>exact hs
theorem LC(hE:∀ g,AR P g (E.spec g))(hL:JT E){np:Nat}:∀ (c:Code) (n:Nat),DT P np h c n→Aa P np c (fun R=>BE P E h R c n):=by
 intro c
 induction c with
 |skip=>
  intro n _ R st k r hk
  simp only[BE]at hk
  exact⟨_,_,hk,fun _ _=>rfl,fun w F m a Q hs hq=>wp_skip (hq a w F m hs (Wl.refl ..))⟩
 |region id ops draw=>
  intro n _ R st k r hk
  cases draw with
  |false=>
   simp only[BE,Hd]at hk
   obtain⟨st',h1,h2⟩:=ASs hE _ _ _ _ hk
   refine⟨.normal,st',h1,fun R' k'=>by simp only[BE,Hd];exact h2 R' _,fun w F m a Q hs hq => ?_⟩
   have h3:Hd P E St ops.toList st some=some st':=by simp only[Hd];exact h2 St some
   refine AJb hE h3 hs fun a' w' hp => ?_
   obtain⟨st1,F',m',e1,e2,e3⟩:=hp
   cases e1
   exact hq a' w' F' m' e2 (e3.toN np)
  |true=>
   simp only[BE]at hk
   have hk':=hk
   unfold ET at hk
   split at hk
   ·rename_i hok
    obtain⟨st',h1,h2⟩:=ANT hE _ _ _ _ _ hk
    refine⟨.normal,st',h1,fun R' k'=>by simp only[BE,ET,hok];exact h2 R' _,fun w F m a Q hs hq => ?_⟩
    have h3:ET P E St (h.fp id) ops.toList st some=some st':=by simp only[ET,hok];exact h2 St some
    refine AFF hE hL h3 hs fun a' w' hp => ?_
    obtain⟨st1,F',m',e1,e2,e3⟩:=hp
    cases e1
    exact hq a' w' F' m' e2 (e3.toN np)
   ·cases hk
 |seq a b iha ihb=>
  intro n hl R st k r hk
  simp only[BE]at hk
  obtain⟨e,st1,h1,h2',h3⟩:=iha n hl.1 R st _ r hk
  have h2:∀ (R':Type) (k':Exit→St→Option R'),BE P E h R' a n st k'=k' e st1:=h2'
  by_cases he:e = .normal
  ·subst he
   simp only at h1
   obtain⟨e2,st2,k1,k2,k3⟩:=ihb _ hl.2 R st1 _ r h1
   refine⟨e2,st2,k1,fun R' k' => ?_,fun w F m act Q hs hq=>wp_seq ?_⟩
   ·simp only[BE];rw[h2];exact k2 R' k'
   ·refine h3 w F m act _ hs fun a' w' F' m' s1 x1 => ?_
    exact k3 w' F' m' a' Q s1 fun a2 w2 F2 m2 s2 x2=>hq a2 w2 F2 m2 s2 (x1.trans x2)
  ·have h1':k e st1=some r:=by cases e<;>first|exact absurd rfl he|exact h1
   refine⟨e,st1,h1',fun R' k' => ?_,fun w F m act Q hs hq=>wp_seq ?_⟩
   ·simp only[BE];rw[h2];cases e<;>first|exact absurd rfl he|rfl
   ·refine h3 w F m act _ hs fun a' w' F' m' s1 x1 => ?_
    have:=hq a' w' F' m' s1 x1
    cases e<;>first|exact absurd rfl he|exact this
 |cond c a b iha ihb=>
  intro n hl R st k r hk
  simp only[BE]at hk
  split at hk
  ·rename_i x hc
   cases x with
   |true=>
    obtain⟨e,st1,h1,h2,h3⟩:=iha _ hl.1 R _ _ r hk
    refine⟨e,st1,h1,fun R' k'=>by simp only[BE,hc];exact h2 R' k',fun w F m act Q hs hq => ?_⟩
    obtain⟨q1,q2⟩:=AXL hs hc
    exact wp_cond_true q1 (h3 w F m act Q q2 hq)
   |false=>
    obtain⟨e,st1,h1,h2,h3⟩:=ihb _ hl.2 R _ _ r hk
    refine⟨e,st1,h1,fun R' k'=>by simp only[BE,hc];exact h2 R' k',fun w F m act Q hs hq => ?_⟩
    obtain⟨q1,q2⟩:=AXL hs hc
    exact wp_cond_false q1 (h3 w F m act Q q2 hq)
  ·cases hk
 |block id c ih=>
  intro n hl R st k r hk
  simp only[BE]at hk
  obtain⟨e,st1,h1,h2',h3⟩:=ih n hl R st _ r hk
  have h2:∀ (R':Type) (k':Exit→St→Option R'),BE P E h R' c n st k'=k' e st1:=h2'
  have key:∃ e',k e' st1=some r∧(∀ (R':Type) (k':Exit→St→Option R'),BE P E h R' (.block id c) n st k'=k' e' st1)∧∀ (Q:Exit→Act→World→Prop) a' w',Q e' a' w'→Exit.inBlock id Q e a' w':=by
   cases e with
   |exit id'=>
    simp only at h1
    by_cases hid:id'=id
    ·subst hid
     simp only[AjV]at h1
     exact⟨.normal,h1,fun R' k'=>by simp only[BE];rw[h2];simp,fun Q a' w' hq=>by simp[Exit.inBlock,hq]⟩
    ·simp only[hid,Ajj]at h1
     exact⟨.exit id',h1,fun R' k'=>by simp only[BE];rw[h2];simp[hid],fun Q a' w' hq=>by simp[Exit.inBlock,hid,hq]⟩
   |normal=>exact⟨_,h1,fun R' k'=>by simp only[BE];rw[h2],fun Q a' w' hq=>hq⟩
   |goto l=>exact⟨_,h1,fun R' k'=>by simp only[BE];rw[h2],fun Q a' w' hq=>hq⟩
   |ret=>exact⟨_,h1,fun R' k'=>by simp only[BE];rw[h2],fun Q a' w' hq=>hq⟩
   |panic l=>exact⟨_,h1,fun R' k'=>by simp only[BE];rw[h2],fun Q a' w' hq=>hq⟩
   |outgrown=>exact⟨_,h1,fun R' k'=>by simp only[BE];rw[h2],fun Q a' w' hq=>hq⟩
  obtain⟨e',k1,k2,k3⟩:=key
  exact⟨e',st1,k1,k2,fun w F m act Q hs hq=>wp_block (h3 w F m act _ hs fun a' w' F' m' s1 x1=>k3 Q a' w' (hq a' w' F' m' s1 x1))⟩
 |loop c ih=>
  intro n hl R st k r hk
  exact hl R st k r hk
 |exit id=>
  intro n _ R st k r hk
  simp only[BE]at hk
  exact⟨_,_,hk,fun _ _=>rfl,fun w F m a Q hs hq=>wp_exit (hq a w F m hs (Wl.refl ..))⟩
 |ret=>
  intro n _ R st k r hk
  simp only[BE]at hk
  exact⟨_,_,hk,fun _ _=>rfl,fun w F m a Q hs hq=>wp_ret (hq a w F m hs (Wl.refl ..))⟩
 |_=>intro n _ R st k r hk;simp[BE]at hk
theorem AaK{R:Type}{r:R}{nt:Nat}{k:Exit→St→Option R}:∀ (os:At) (x:PB os),AHR nt k os x=some r→∃ e st',k e st'=some r∧∀ (R':Type) (k':Exit→St→Option R'),AHR nt k' os x=k' e st':=by
 intro os
 induction os with
 |nil=>intro x h;simp[AHR]at h
 |cons o os ih=>
  intro x h
  cases x with
  |inl d=>exact⟨_,_,h,fun _ _=>rfl⟩
  |inr x=>
   obtain⟨e,st',h1,h2⟩:=ih x h
   exact⟨e,st',h1,fun R' k'=>h2 R' k'⟩
theorem AMv{e e':Exit}(h:AAX e e'=true):e=e':=by
 cases e<;>cases e'<;>simp_all [AAX]
theorem AdH{np nt:Nat}{e:Exit}{st:St}:∀ (os:At) (x:PB os),AG5 np nt e st os=some x→∃ its d,decode np nt st its=some d∧∀ (R':Type) (k':Exit→St→Option R'),AHR nt k' os x=k' e (encode nt its d):=by
 intro os
 induction os with
 |nil=>intro x h;simp[AG5]at h
 |cons o os ih=>
  intro x h
  simp only[AG5]at h
  split at h
  ·rename_i hs
   split at h
   ·rename_i d hd
    simp only[AjH]at h;subst h
    exact⟨o.2,d,hd,fun R' k'=>by rw[AMv hs];rfl⟩
   ·cases h
  ·split at h
   ·rename_i y hy
    simp only[AjH]at h;subst h
    obtain⟨its,d,h1,h2⟩:=ih y hy
    exact⟨its,d,h1,fun R' k'=>h2 R' k'⟩
   ·cases h
theorem AZi{h':Hints}(hE:∀ g,AR P g (E.spec g))(hL:JT E){np nt n:Nat}{body:Code}{its:AE}{os:At}{stp:CB (leaves its)→Option (CB (leaves its)⊕PB os)}
  (hstep:∀ v,stp v=roundOf P E h' n np nt body its os v) (hl:DT P np h' body n):Aa P np (.loop body) (Ac np nt its os stp):=by
 intro R st k r hk
 unfold Ac at hk
 split at hk
 ·cases hk
 ·rename_i v hv
  split at hk
  ·cases hk
  ·rename_i x hx
   obtain⟨e,st',h1,h2⟩:=AaK os x hk
   refine⟨e,st',h1,fun R' k'=>by simp only[Ac,hv,hx];exact h2 R' k',?_⟩
   have key:∀ (fuel:Nat) (v:CB (leaves its)),AX stp fuel v=some x→∀ (w:World) (F:Nat→Prop) (m:Mp) (a:Act) (Q:Exit→Act→World→Prop),SI w F m (encode nt its v) a →
     (∀ a' w' F' m',SI w' F' m' st' a'→Wl np w F m (encode nt its v).heap (encode nt its v).frz w' F' m' st'.heap st'.frz→Q e a' w')→Code.rounds P body Q fuel a w:=by
    intro fuel
    induction fuel with
    |zero=>intro v h;simp[AX]at h
    |succ fuel ih=>
     intro v h w F m a Q hs hq
     simp only[AX]at h
     rw[hstep v]at h
     cases hr:roundOf P E h' n np nt body its os v with
     |none=>rw[hr]at h;cases h
     |some y=>
      rw[hr]at h
      unfold roundOf at hr
      obtain⟨e1,st1,g1,_,g3⟩:=LC hE hL body n hl _ _ _ _ hr
      show body.wp P (Exit.then (Code.rounds P body Q fuel) Q) a w
      refine g3 w F m a _ hs fun a' w' F' m' s1 x1 => ?_
      by_cases he:e1 = .normal
      ·subst he
       simp only[AM7]at g1
       split at g1
       ·rename_i d hd
        simp only[AjH]at g1;subst g1
        obtain⟨F2,m2,s2,x2⟩:=WG s1 hd
        show Code.rounds P body Q fuel a' w'
        exact ih d h w' F2 m2 a' Q s2 fun a3 w3 F3 m3 s3 x3=>hq a3 w3 F3 m3 s3 (x1.trans (x2.trans x3))
       ·cases g1
      ·have g1':(match AG5 np nt e1 st1 os with
        |some x=>some (Sum.inr x)
        |none=>none)=some y:=by
        cases e1<;>first|exact absurd rfl he|exact g1
       split at g1'
       ·rename_i z hz
        simp only[AjH]at g1';subst g1'
        simp only[AjH]at h;subst h
        obtain⟨its',d,o1,o2⟩:=AdH os _ hz
        obtain⟨F2,m2,s2,x2⟩:=WG s1 o1
        have e3:=(h2 (Exit×St) fun e st=>some (e,st)).symm.trans (o2 (Exit×St) fun e st=>some (e,st))
        simp only[AjH,Ajl]at e3
        obtain⟨rfl,rfl⟩:=e3
        have:=hq a' w' F2 m2 s2 (x1.trans x2)
        cases e<;>first|exact absurd rfl he|exact this
       ·cases g1'
   intro w F m a Q hs hq
   obtain⟨F2,m2,s2,x2⟩:=WG hs hv
   exact wp_loop_rounds many (key many v (by rw[← Au];exact hx) w F2 m2 a Q s2 fun a3 w3 F3 m3 s3 x3=>hq a3 w3 F3 m3 s3 (x2.trans x3))
end
end Go.Pev
end
section
namespace Go.Pev
open Go.RowKit
section
variable {w:World} {F F0:Nat→Prop} {m m2:Mp} {H H2:List Ob} {ids:List Nat}
theorem Dat.flat:∀ (t:Ty),t.flat=true→∀ {d:t.den} {cs:List Value} {w0:World},Dat w F t d cs→Dat w0 F0 t d cs:=by
 intro t
 induction t with
 |unit=>exact fun _ _ _ _ h=>h
 |bool=>exact fun _ _ _ _ h=>h
 |int k=>exact fun _ _ _ _ h=>h
 |slice e _=>intro h;simp[Ty.flat]at h
 |mapi j e _=>intro h;simp[Ty.flat]at h
 |nul e=>exact fun _ _ _ _ h=>h
 |prod a b iha ihb=>
  intro h d cs w0 hd
  simp only[Ty.flat,AjK]at h
  obtain⟨c1,c2,h1,h2,h3⟩:=hd
  exact⟨c1,c2,h1,iha h.1 h2,ihb h.2 h3⟩
 |arr n e ih=>
  intro h d cs w0 hd
  obtain⟨h1,h2⟩:=hd
  exact⟨h1,BM (fun x _ cs hx=>ih (by simpa [Ty.flat]using h) hx) h2⟩
theorem Bg.flat{t:Ty}(ht:t.flat=true){d:t.den}{v:Value}{w0:World}(h:Bg w F t d v):Bg w0 F0 t d v:=by
 unfold Bg at *
 split
 ·rename_i hg
  simp only[hg,Ajw]at h
  obtain⟨vs,e,hd⟩:=h
  exact⟨vs,e,hd.flat t ht⟩
 ·rename_i hg
  simp only[hg]at h
  exact Dat.flat t ht h
theorem AaV{k v:Ty}(hk:k.flat=true)(hv:v.flat=true){w0:World}:∀ {es:List (k.den×v.den)} {ms:List MapEntry},Iu w F k v es ms→Iu w0 F0 k v es ms:=by
 intro es
 induction es with
 |nil=>exact fun h=>h
 |cons e es ih=>
  rintro ms ⟨me,ms',e1,⟨h1,h2⟩,h3⟩
  exact⟨me,ms',e1,⟨h1.flat hk,h2.flat hv⟩,ih h3⟩
mutual
theorem Rep.flat:∀ (a:AV) {v:Value},Jy a=true→Rep w F m H a v→Rep w F0 m H a v
 |.junk,_,_,_=>by unfold Rep;trivial
 |.data t d,v,hf,h=>by unfold Rep at *;exact h.flat (by simpa [Jy]using hf)
 |.nils _,v,_,h=>by unfold Rep at *;exact h
 |.agg cs,v,hf,h=>by
  unfold Rep at *
  obtain⟨vs,e,h,h1⟩:=h
  exact⟨vs,e,Ad.flat cs (by simpa [Jy]using hf) h,h1⟩
 |.own id,v,_,h=>by unfold Rep at *;exact h
 |.win id off n,v,_,h=>by unfold Rep at *;exact h
 |.ptr id off,v,_,h=>by unfold Rep at *;exact h
 |.eptr id i sub,v,_,h=>by unfold Rep at *;exact h
 |.dptr cs,v,hf,h=>by simp[Jy]at hf
 |.clo f caps,v,hf,h=>by
  unfold Rep at *
  obtain⟨cs,e,h⟩:=h
  exact⟨cs,e,Ad.flat caps (by simpa [Jy]using hf) h⟩
 |.bnd f caps,v,hf,h=>by
  unfold Rep at *
  obtain⟨cs,e,h⟩:=h
  exact⟨cs,e,Ad.flat caps (by simpa [Jy]using hf) h⟩
 |.str _,v,_,h=>by unfold Rep at *;exact h
 |.clip _ _,v,hf,h=>by simp[Jy]at hf
 |.mp id,v,_,h=>by unfold Rep at *;exact h
 |.rowp _ _ _,v,_,h=>by unfold Rep at *;exact h
 |.glob _,v,_,h=>by unfold Rep at *;exact h
 |.nilp,v,_,h=>by unfold Rep at *;exact h
 |.aptr _ _,v,_,h=>by unfold Rep at *;exact h
 |.tup vs,v,hf,h=>by
  unfold Rep at *
  obtain⟨us,e,h⟩:=h
  exact⟨us,e,Ad.flat vs (by simpa [Jy]using hf) h⟩
theorem Ad.flat:∀ (cs:List AV) {vs:List Value},Kd cs=true→Ad w F m H cs vs→Ad w F0 m H cs vs
 |[],vs,_,h=>by unfold Ad at *;exact h
 |c::cs,vs,hf,h=>by
  unfold Ad at *
  simp only[Kd,AjK]at hf
  obtain⟨v,vs',e,h1,h2⟩:=h
  exact⟨v,vs',e,Rep.flat c hf.1 h1,Ad.flat cs hf.2 h2⟩
end
def AQd(ids:List Nat)(H H2:List Ob)(m m2:Mp):Prop:=∀ j o,H[j]? = some o→H2[ids.getD j 0]? = some (Da ids o)∧m2 (ids.getD j 0)=m j
theorem Ey(hm:AQd ids H H2 m m2)(Q:Option Ob→Option (Nat×Nat)→Prop)(hnone:∀ l,¬ Q none l)(hbox:∀ cs l,Q (some (.box cs)) l→Q (some (.box (K9 ids cs))) l)(hprs:∀ T t t' is l,Q (some (.prs T t is)) l→Q (some (.prs T t' is)) l)(j:Nat)(h:Q H[j]? (m j)):Q H2[ids.getD j 0]? (m2 (ids.getD j 0)):=by
 cases ho:H[j]? with
 |none=>rw[ho]at h;exact absurd h (hnone _)
 |some o=>
  rw[ho]at h
  obtain⟨h1,h2⟩:=hm j o ho
  rw[h1,h2]
  cases o<;>first|exact h|exact hbox _ _ h|exact hprs _ _ _ _ _ h
mutual
theorem Rep.ren(hm:AQd ids H H2 m m2):∀ (a:AV) {v:Value},Rep w F m H a v→Rep w F m2 H2 (D5 ids a) v
 |.junk,_,_=>by simp only[D5];unfold Rep;trivial
 |.rowp _ _ _,_,_=>by simp only[D5];unfold Rep;trivial
 |.glob g,v,h=>by simp only[D5];unfold Rep at *;exact h
 |.nilp,v,h=>by simp only[D5];unfold Rep at *;exact h
 |.aptr id n,v,h=>by
  simp only[D5];unfold Rep at *
  exact Ey hm (fun o l=>Fb o l n v) (fun l h=>h) (fun cs l h=>h) (fun _ _ _ _ l h=>h) id h
 |.data t d,v,h=>by simp only[D5];unfold Rep at *;exact h
 |.nils _,v,h=>by simp only[D5];unfold Rep at *;exact h
 |.agg cs,v,h=>by
  simp only[D5];unfold Rep at *
  obtain⟨vs,e,h,h1⟩:=h
  exact⟨vs,e,Ad.ren hm cs h,h1⟩
 |.own id,v,h=>by
  simp only[D5];unfold Rep at *
  exact Ey hm (fun o l=>A8 o l v) (fun l h=>h) (fun cs l h=>h) (fun _ _ _ _ l h=>h) id h
 |.win id off n,v,h=>by
  simp only[D5];unfold Rep at *
  exact Ey hm (fun o l=>HB o l off n v) (fun l h=>h) (fun cs l h=>h) (fun _ _ _ _ l h=>h) id h
 |.ptr id off,v,h=>by
  simp only[D5];unfold Rep at *
  exact Ey hm (fun o l=>HC o l off v) (fun l h=>h) (fun cs l h=>h) (fun _ _ _ _ l h=>h) id h
 |.eptr id i sub,v,h=>by
  simp only[D5];unfold Rep at *
  exact Ey hm (fun o l=>Cm o l i sub v) (fun l h=>h) (fun cs l h=>h) (fun _ _ _ _ l h=>h) id h
 |.dptr cs,v,h=>by
  simp only[D5];unfold Rep at *
  obtain⟨ad,us,e,h1,h2,h4,h3⟩:=h
  refine⟨ad,us,e,fun hne=>h1 (by rintro rfl;exact hne rfl),Ad.ren hm cs h2,h4,h3⟩
 |.clo f caps,v,h=>by
  simp only[D5];unfold Rep at *
  obtain⟨cs,e,h⟩:=h
  exact⟨cs,e,Ad.ren hm caps h⟩
 |.bnd f caps,v,h=>by
  simp only[D5];unfold Rep at *
  obtain⟨cs,e,h⟩:=h
  exact⟨cs,e,Ad.ren hm caps h⟩
 |.str _,v,h=>by simp only[D5];unfold Rep at *;exact h
 |.clip _ _,v,h=>by simp only[D5];unfold Rep at *;exact h
 |.mp id,v,h=>by
  simp only[D5];unfold Rep at *
  exact Ey hm (fun o l=>MZ o l v) (fun l h=>h) (fun cs l h=>h) (fun _ _ _ _ l h=>h) id h
 |.tup vs,v,h=>by
  simp only[D5];unfold Rep at *
  obtain⟨us,e,h⟩:=h
  exact⟨us,e,Ad.ren hm vs h⟩
theorem Ad.ren(hm:AQd ids H H2 m m2):∀ (cs:List AV) {vs:List Value},Ad w F m H cs vs→Ad w F m2 H2 (K9 ids cs) vs
 |[],vs,h=>by simp only[K9];unfold Ad at *;exact h
 |c::cs,vs,h=>by
  simp only[K9];unfold Ad at *
  obtain⟨v,vs',e,h1,h2⟩:=h
  exact⟨v,vs',e,Rep.ren hm c h1,Ad.ren hm cs h2⟩
end
theorem AcX(tgt:Nat)(is:List Int):K9 ids (Fq tgt is)=Fq (ids.getD tgt 0) is:=by
 induction is with
 |nil=>rfl
 |cons x xs ih=>
  have:K9 ids (Fq tgt (x::xs))=D5 ids (.eptr tgt x.toNat 0)::K9 ids (Fq tgt xs):=rfl
  rw[this,ih]
  rfl
theorem AaN(tgt:Nat)(is:List Int):Kd (Fq tgt is)=true:=by
 induction is with
 |nil=>rfl
 |cons x xs ih=>
  have:Kd (Fq tgt (x::xs))=(Jy (.eptr tgt x.toNat 0)&&Kd (Fq tgt xs)):=rfl
  rw[this,ih]
  rfl
theorem ATW{i j k:Nat}:∀ {ids:List Nat},Jj ids=true→ids[i]? = some k→ids[j]? = some k→i=j:=by
 intro ids h
 have:ids.Nodup:=by
  induction ids with
  |nil=>exact List.nodup_nil
  |cons a ids ih=>
   simp only[Jj,AjK,Akn,Ak3,AkA]at h
   exact Aju.2 ⟨h.1,ih h.2⟩
 intro h1 h2
 exact(List.getElem?_inj (Fx h1) this).1 (h1.trans h2.symm)
theorem AMr{i:Nat}{o:Ob}:∀ (ids:List Nat) (os:List Ob) (H:List Ob) (j:Nat),Jj ids=true→ids[j]? = some i→os[j]? = some o→i<H.length→(A9 (ids.zip os) H)[i]? = some o:=by
 intro ids
 induction ids with
 |nil=>intro os H j _ h;simp at h
 |cons a ids ih=>
  intro os H j hn h1 h2 hl
  cases os with
  |nil=>simp at h2
  |cons x os=>
   simp only[Jj,AjK,Akn,Ak3,AkA]at hn
   simp only[Alm,A9]
   cases j with
   |zero=>
    simp only[Aj0,AjH]at h1 h2
    subst h1;subst h2
    rw[BY _ _ fun p hp => ?_,Akh hl]
    rintro rfl
    exact hn.1 (List.of_mem_zip hp).1
   |succ j=>
    simp only[AlV]at h1 h2
    exact ih os _ j hn.2 h1 h2 (by simpa using hl)
def Jz:List Nat→Nat→Option Nat
 |[],_=>none
 |x::xs,i=>if x=i then some 0 else(Jz xs i).map (· + 1)
theorem Xs{i j:Nat}:∀ {ids:List Nat},Jz ids i=some j→ids[j]? = some i:=by
 intro ids
 induction ids generalizing j with
 |nil=>intro h;simp[Jz]at h
 |cons a ids ih=>
  intro h
  simp only[Jz]at h
  split at h
  ·rename_i e;simp only[AjH]at h;subst h;simp[e]
  ·rw[AjX]at h
   obtain⟨k,h1,rfl⟩:=h
   simpa using ih h1
theorem APj{i:Nat}:∀ {ids:List Nat},Jz ids i=none→i∉ids:=by
 intro ids
 induction ids with
 |nil=>intro _;simp
 |cons a ids ih=>
  intro h
  simp only[Jz]at h
  split at h
  ·cases h
  ·rename_i hne
   rw[AmO]at h
   simp only[AjN,not_or]
   exact⟨fun e=>hne e.symm,ih h⟩
theorem AaR{i j:Nat}{ids:List Nat}(hn:Jj ids=true)(h:ids[j]? = some i):Jz ids i=some j:=by
 cases hf:Jz ids i with
 |none=>exact absurd (AjW h) (APj hf)
 |some k=>rw[ATW hn h (Xs hf)]
def mOf(ids:List Nat)(m3 m:Mp):Mp
 |.o i=>match Jz ids i with
  |some j=>m3 j
  |none=>m i
 |.r i k=>m (.r i k)
theorem AHP{fz:List Bool}:∀ {ids:List Nat} {bs:List Bnd},Ff H fz ids bs=true→∀ {j i:Nat},ids[j]? = some i→bs[j]? = some (.whole i)∨((∀ id,bs[j]?≠some (.whole id))∧Av H fz i=true):=by
 intro ids
 induction ids with
 |nil=>intro bs _ j i h;simp at h
 |cons a ids ih=>
  intro bs h j i hj
  simp only[Ff,AjK]at h
  obtain⟨h1,h2⟩:=h
  cases j with
  |zero=>
   simp only[Aj0,AjH]at hj;subst hj
   split at h1
   ·rename_i id _
    simp only[AjJ]at h1;subst h1
    exact .inl (by simp)
   ·rename_i hne
    refine .inr ⟨fun id he => ?_,h1⟩
    cases bs with
    |nil=>simp at he
    |cons b bs=>simp at he;subst he;exact hne id bs rfl
  |succ j=>
   simp only[AlV]at hj
   have:=ih h2 hj
   cases bs with
   |nil=>simpa using this
   |cons b bs=>simpa using this
theorem AZ3:∀ (n:Nat) (bs:List Bnd) (slot:Nat),(Ck n bs slot).length=n:=by
 intro n
 induction n with
 |zero=>intro bs slot;cases bs<;>rfl
 |succ n ih=>
  intro bs slot
  cases bs with
  |nil=>simp[Ck,ih]
  |cons b bs=>cases b<;>simp[Ck,ih]
theorem BR(st:St)(v:AV)(l:Loc):(place st v l).heap.length=st.heap.length:=by
 cases l with
 |tmp t=>rfl
 |cell j c=>simp only[place];split<;>simp
 |cap t i=>rfl
 |obj j=>rfl
theorem Aed:∀ (its:AE) (d:CB (leaves its)) (st:St),(enc its d st).heap.length=st.heap.length+C7 its:=by
 intro its
 induction its with
 |nil=>intro d st;rfl
 |cons p r ih=>
  intro d st
  obtain⟨l,c⟩:=p
  cases c with
  |dat t=>exact(ih _ _).trans (by rw[BR];rfl)
  |own T e=>exact(ih _ _).trans (by rw[BR];simp[Dm,C7];omega)
  |box n=>exact(ih _ _).trans (by rw[BR];simp[Dm,C7];omega)
  |map k v=>exact(ih _ _).trans (by rw[BR];simp[Dm,C7];omega)
  |prs T j=>exact(ih _ _).trans (by rw[BR];simp[Dm,C7];omega)
  |rows T e t=>exact(ih _ _).trans (by rw[BR];simp[Dm,C7];omega)
  |mrows j e t=>exact(ih _ _).trans (by rw[BR];simp[Dm,C7];omega)
  |aptr T e n=>exact(ih _ _).trans (by rw[BR];simp[Dm,C7];omega)
  |aptr' j n=>exact(ih _ _).trans (by rw[BR];rfl)
  |bndp f j=>exact(ih _ _).trans (by rw[BR];rfl)
  |nilp=>exact(ih _ _).trans (by rw[BR];rfl)
  |own' j=>exact(ih _ _).trans (by rw[BR];rfl)
  |ptr' j o=>exact(ih _ _).trans (by rw[BR];rfl)
  |map' j=>exact(ih _ _).trans (by rw[BR];rfl)
  |win' j=>exact(ih _ _).trans (by rw[BR];rfl)
  |sub' j=>exact(ih _ _).trans (by rw[BR];rfl)
  |clo f ps=>exact(ih _ _).trans (by rw[BR];rfl)
  |bnd f j=>exact(ih _ _).trans (by rw[BR];rfl)
  |nil e=>exact(ih _ _).trans (by rw[BR];rfl)
end
end Go.Pev
end
section
namespace Go.Pev
open Go.RowKit
theorem AB8{H:List Ob}{fz:List Bool}{i:Nat}{o:Ob}(h:H[i]? = some o)(ha:alive o)(hf:fz.getD i false=false):owned H fz i:=by
 simp only[owned,Bq]
 rw[h]
 cases o with
 |free=>exact ha.elim
 |dead=>exact ha.elim
 |box cs=>trivial
 |arr T t xs=>exact hf
 |map k v es=>trivial
 |prs T t is=>trivial
 |rows T e t xs ver out=>exact hf
theorem AQY{o:Ob}(h:alive o):o≠.free∧o≠.dead:=by
 constructor<;>rintro rfl<;>exact h
theorem C5{H:List Ob}{fz:List Bool}{ids:List Nat}{i:Ix}(h:owned H (Ak ids fz) i):owned H fz i:=PF h
theorem AE7{o o1:Ob}{ids:List Nat}(h:sameShape o o1):sameShape o (Da ids o1):=by
 cases o<;>cases o1<;>simp only[sameShape,Da]at *<;>exact h
theorem Vq{i:Nat}:∀ {bs:List Bnd},i∈given bs↔∃ j:Nat,bs[j]? = some (.whole i):=by
 intro bs
 induction bs with
 |nil=>simp[given]
 |cons b bs ih=>
  have step:(∃ j:Nat,(b::bs)[j]? = some (.whole i))↔b = .whole i∨∃ j:Nat,bs[j]? = some (.whole i):=by
   constructor
   ·rintro⟨j,hj⟩
    cases j with
    |zero=>simp only[Aj0,AjH]at hj;exact .inl hj
    |succ j=>simp only[AlV]at hj;exact .inr ⟨j,hj⟩
   ·rintro (h|⟨j,hj⟩)
    ·exact⟨0,by rw[h];rfl⟩
    ·exact⟨j+1,by simpa using hj⟩
  rw[step]
  cases b with
  |whole id=>simp only[given,AjN,ih,Bnd.whole.injEq];exact⟨fun h=>h.imp Eq.symm (fun x=>x),fun h=>h.imp Eq.symm (fun x=>x)⟩
  |none=>simp[given,ih]
  |cut id=>simp[given,ih]
theorem XI(a b:List (Nat×Ob)):∀ H,A9 (a++b) H=A9 b (A9 a H):=by
 induction a with
 |nil=>intro H;rfl
 |cons p a ih=>intro H;obtain⟨i,o⟩:=p;simp only[Ajm,A9];exact ih _
def C9(gv:List Nat)(H:List Ob):List Ob:=A9 (gv.map fun i=>(i,.dead)) H
theorem ACX{gv:List Nat}{i:Nat}{H:List Ob}(h:i∉gv):(C9 gv H)[i]? = H[i]? :=
 BY _ _ fun p hp=>by
  rintro rfl
  obtain⟨x,hx,rfl⟩:=Aja.1 hp
  exact h hx
theorem AZs:∀ {gv:List Nat} {i:Nat} {H:List Ob},i∈gv→i<H.length→(C9 gv H)[i]? = some .dead:=by
 intro gv
 induction gv with
 |nil=>intro i H h;cases h
 |cons a gv ih=>
  intro i H h hl
  by_cases hg:i∈gv
  ·exact ih (H:=H.set a .dead) hg (by simpa using hl)
  ·have:(C9 gv (H.set a .dead))[i]? = (H.set a .dead)[i]? := ACX hg
   rcases AjN.1 h with rfl|h
   ·show(C9 gv (H.set i .dead))[i]? = _
    rw[this,Akh hl]
   ·exact absurd h hg
theorem ACY(gv:List Nat)(H:List Ob):(C9 gv H).length=H.length:=XH ..
section
variable {w w':World} {F F2 F3 FR:Nat→Prop} {m m3:Mp} {H H1:List Ob} {fz fz1 fzR:List Bool} {bs:List Bnd} {ids fr:List Nat} {np:Nat}
theorem Aal(hiC:HI w F m H fz)(gA:Ap w F m H fz w F2 m H (Ak fr fz))
  (giv:∀ (j id:Nat),bs[j]? = some (.whole id)→owned H (Ak fr fz) id)
  (inj:∀ (i j id:Nat),bs[i]? = some (.whole id)→bs[j]? = some (.whole id)→i=j)
  (pin:∀ (j id:Nat),(bs.take np)[j]? = some (.whole id)→∃ o o1,H[id]? = some o∧alive o∧H1[j]? = some o1∧sameShape o o1∧m3 j=m id)
  (blk:∀ (j b c:Nat),owned H1 fz1 j→m3 j=some (b,c)→(∃ id c':Nat,(bs.take np)[j]? = some (.whole id)∧m id=some (b,c'))∨(∃ k id c':Nat,np≤k∧bs[k]? = some (.whole id)∧m id=some (b,c'))∨w.heap.size≤b)
  (os:w'.os=w.os) (tape:w'.tape=w.tape) (output:w'.output=w.output) (size:w.heap.size≤w'.heap.size)
  (keep:∀ b,b<w.heap.size→(∀ (j id:Nat) (c:Nat),bs[j]? = some (.whole id)→m id≠some (b,c))→w'.heap[b]? = w.heap[b]?)
  (sub:∀ b,F2 b→F3 b) (bnd:∀ b,F3 b→F2 b∨(∃ (j id c:Nat),bs[j]? = some (.whole id)∧m id=some (b,c))∨w.heap.size≤b)
  (hi1:HI w' F3 m3 H1 fz1) (al1:∀ (j:Nat) (o:Ob),H1[j]? = some o→alive o) (pl1:∀ (j:Nat) (o:Ob),H1[j]? = some o→BU o=true) (fr1:∀ j,fz1.getD j false=false)
  (hlen:ids.length=H1.length) (hok:Ff H fzR ids (bs.take np)=true) (hnd:Jj ids=true)
  (hR:(FR=F∧fzR=fz∧H1.all QR=true)∨(FR=F3∧fzR=Ak fr fz)) :
  Ap w F m H fz w' FR (mOf ids m3 m) (A9 (ids.zip (H1.map (Da ids))) (C9 (given (bs.drop np)) H)) fzR∧AQd ids H1 (A9 (ids.zip (H1.map (Da ids))) (C9 (given (bs.drop np)) H)) m3 (mOf ids m3 m):=by
 have hiR:∃ FB,HI w FB m H fzR∧(∀ b,F b→FB b)∧(∀ b,FB b→FR b)∧(∀ b,FB b→F2 b):=by
  rcases hR with⟨e1,e2,_⟩|⟨e1,e2⟩
  ·exact⟨F,by rw[e2];exact hiC,fun _ h=>h,fun _ h=>by rw[e1];exact h,gA.1.sub⟩
  ·exact⟨F2,by rw[e2];exact gA.2,gA.1.sub,fun b h=>by rw[e1];exact sub b h,fun _ h=>h⟩
 obtain⟨FB,hiB,hFB,hBR,hB2⟩:=hiR
 have ownR:∀ {i},owned H fzR i→owned H fz i:=by
  intro i h
  rcases hR with⟨_,e2,_⟩|⟨_,e2⟩
  ·rw[e2]at h;exact h
  ·rw[e2]at h;exact C5 h
 have pinR:∀ {id},owned H (Ak fr fz) id→owned H fzR id:=by
  intro id h
  rcases hR with⟨_,e2,_⟩|⟨_,e2⟩
  ·rw[e2];exact C5 h
  ·rw[e2];exact h
 have FR3:∀ b,FR b→F3 b:=by
  rcases hR with⟨e1,_,_⟩|⟨e1,_⟩
  ·rw[e1];exact fun b h=>sub b (gA.1.sub b h)
  ·rw[e1];exact fun _ h=>h
 have tk:∀ {j id:Nat},(bs.take np)[j]? = some (.whole id)→j<np∧bs[j]? = some (.whole id):=by
  intro j id h
  rw[Aj7]at h
  split at h
  ·rename_i hj;exact⟨hj,h⟩
  ·cases h
 have tk':∀ {j id:Nat},j<np→bs[j]? = some (.whole id)→(bs.take np)[j]? = some (.whole id):=by
  intro j id hj h
  rw[Aj7,AjP hj];exact h
 have gvI:∀ {i:Nat},i∈given (bs.drop np)→∃ k,np≤k∧bs[k]? = some (.whole i):=by
  intro i h
  obtain⟨j,hj⟩:=Vq.1 h
  rw[AkH]at hj
  exact⟨np+j,by omega,hj⟩
 have gvO:∀ {i k:Nat},np≤k→bs[k]? = some (.whole i)→i∈given (bs.drop np):=by
  intro i k hk h
  refine Vq.2 ⟨k-np,?_⟩
  rw[AkH,show np+(k-np)=k by omega];exact h
 have hids:∀ {j i:Nat},ids[j]? = some i→(∃ o,H[i]? = some o)∧((bs.take np)[j]? = some (.whole i)∨((∀ (id:Nat),(bs.take np)[j]?≠some (.whole id))∧H[i]? = some .free∧fzR.getD i false=false)):=by
  intro j i hj
  rcases AHP hok hj with h|⟨h1,h2⟩
  ·obtain⟨o,o1,ho,_⟩:=pin j i h
   exact⟨⟨o,ho⟩,.inl h⟩
  ·obtain⟨h3,h4⟩:=BN h2
   exact⟨⟨_,h3⟩,.inr ⟨h1,h3,h4⟩⟩
 have gvN:∀ {i:Nat},i∈ids→i∉given (bs.drop np):=by
  intro i hi hg
  obtain⟨j,hj⟩:=Al1 hi
  obtain⟨k,hk,hb⟩:=gvI hg
  rcases(hids hj).2 with h|⟨_,h,_⟩
  ·obtain⟨h1,h2⟩:=tk h
   have:=inj _ _ _ h2 hb
   omega
  ·obtain⟨o,h1,h2,_⟩:=Ex (giv k i hb)
   rw[h]at h1;cases h1;exact h2 rfl
 have hunf:∀ {j i:Nat},ids[j]? = some i→∀ {o1:Ob},H1[j]? = some o1→∀ {T:TypeId} {t:Ty} {xs:List t.den},o1 = .arr T t xs→fzR.getD i false=false:=by
  intro j i hj o1 ho1 T t xs he
  rcases(hids hj).2 with h|⟨_,_,h⟩
  ·obtain⟨o,o2,ho,_,ho2,hs,_⟩:=pin j i h
   rw[ho1]at ho2;cases ho2
   subst he
   have h2:=pinR (giv j i (tk h).2)
   simp only[owned,Bq]at h2
   rw[ho]at h2
   cases o<;>simp only[sameShape]at hs
   exact h2
  ·exact h
 have hwhole:∀ {j id:Nat},(bs.take np)[j]? = some (.whole id)→ids[j]? = some id:=by
  intro j id hb
  obtain⟨o,o1,_,_,ho1,_⟩:=pin j id hb
  have hl:=Al ho1
  rw[← hlen]at hl
  have hg:ids[j]? = some ids[j]:=AjM hl
  rcases AHP hok hg with h|⟨h,_⟩
  ·rw[hb]at h;cases h;exact hg
  ·exact absurd hb (h id)
 have hgv:∀ {i:Nat},i∈given (bs.drop np)→(C9 (given (bs.drop np)) H)[i]? = some .dead:=by
  intro i hi
  obtain⟨k,_,hb⟩:=gvI hi
  obtain⟨o,ho,_⟩:=Ex (giv k i hb)
  exact AZs hi (Al ho)
 have getIn:∀ {j i:Nat} {o1:Ob},ids[j]? = some i→H1[j]? = some o1→(A9 (ids.zip (H1.map (Da ids))) (C9 (given (bs.drop np)) H))[i]? = some (Da ids o1):=by
  intro j i o1 hj ho1
  obtain⟨⟨o,ho⟩,_⟩:=hids hj
  exact AMr ids _ _ j hnd hj (by rw[Ajq,ho1];rfl) (by rw[ACY];exact Al ho)
 have getOut0:∀ {i:Nat},i∉ids→(A9 (ids.zip (H1.map (Da ids))) (C9 (given (bs.drop np)) H))[i]? = (C9 (given (bs.drop np)) H)[i]? := by
  intro i hi
  exact BY _ _ fun p hp=>by rintro rfl;exact hi (List.of_mem_zip hp).1
 have getOut:∀ {i:Nat},i∉ids→i∉given (bs.drop np)→(A9 (ids.zip (H1.map (Da ids))) (C9 (given (bs.drop np)) H))[i]? = H[i]? := by
  intro i hi hg
  rw[getOut0 hi,ACX hg]
 have getGv:∀ {i:Nat},i∈given (bs.drop np)→(A9 (ids.zip (H1.map (Da ids))) (C9 (given (bs.drop np)) H))[i]? = some .dead:=by
  intro i hg
  rw[getOut0 fun h=>gvN h hg,hgv hg]
 have mIn:∀ {j i:Nat},ids[j]? = some i→mOf ids m3 m i=m3 j:=by
  intro j i hj;simp only[mOf];rw[AaR hnd hj]
 have mOut:∀ {x:Ix},x.id∉ids→mOf ids m3 m x=m x:=by
  intro x hi
  cases x with
  |r i k=>rfl
  |o i=>
   simp only[mOf]
   cases hf:Jz ids i with
   |none=>rfl
   |some j=>exact absurd (AjW (Xs hf)) hi
 have inOut:∀ i:Nat,(∃ j:Nat,ids[j]? = some i)∨i∈given (bs.drop np)∨(i∉ids∧i∉given (bs.drop np)):=by
  intro i
  by_cases h:i∈ids
  ·obtain⟨j,hj⟩:=Al1 h;exact .inl ⟨j,hj⟩
  ·by_cases h2:i∈given (bs.drop np)
   ·exact .inr (.inl h2)
   ·exact .inr (.inr ⟨h,h2⟩)
 have notGv:∀ {i:Ix},i.id∈given (bs.drop np)→¬ owned (A9 (ids.zip (H1.map (Da ids))) (C9 (given (bs.drop np)) H)) fzR i:=by
  intro i hg ho
  obtain⟨o,h1,_,h3⟩:=C6 ho
  rw[getGv hg]at h1;cases h1;exact h3 rfl
 have has1:∀ {j i:Nat},ids[j]? = some i→∃ o1,H1[j]? = some o1:=by
  intro j i hj
  have hl:=Fx hj
  rw[hlen]at hl
  exact⟨_,AjM hl⟩
 have plR:∀ {o1:Ob},BU o1=true→BU (Da ids o1)=true:=by
  intro o1 h;cases o1<;>first|exact h|rfl
 have cls:∀ x:Ix,owned (A9 (ids.zip (H1.map (Da ids))) (C9 (given (bs.drop np)) H)) fzR x→(∃ i j:Nat,∃ o1,x = .o i∧ids[j]? = some i∧H1[j]? = some o1)∨(x.id∉ids∧x.id∉given (bs.drop np)):=by
  intro x hx
  rcases inOut x.id with⟨j,hj⟩|hg|h
  ·obtain⟨o1,ho1⟩:=has1 hj
   cases x with
   |o i=>exact .inl ⟨i,j,o1,rfl,hj,ho1⟩
   |r i k=>exact absurd hx (Ev (getIn hj ho1) (plR (pl1 j o1 ho1)))
  ·exact absurd hx (notGv hg)
  ·exact .inr h
 have own1:∀ {j:Nat} {o1:Ob},H1[j]? = some o1→owned H1 fz1 j:=fun h=>AB8 h (al1 _ _ h) (fr1 _)
 have blkNe:∀ {i b c:Nat},i∉ids→i∉given (bs.drop np)→(∃ o,H[i]? = some o∧o≠.free∧o≠.dead)→m i=some (b,c)→∀ {j id c':Nat},bs[j]? = some (.whole id)→m id≠some (b,c'):=by
  intro i b c hi hg ⟨o,ho,h1,h2⟩ hm j id c' hb he
  have hp:=giv j id hb
  have hne:i≠id:=by
   rintro rfl
   rcases Aj5 j np with hj|hj
   ·exact hi (AjW (hwhole (tk' hj hb)))
   ·exact hg (gvO hj hb)
  exact gA.2.ne hp he ho h1 h2 hm hne rfl
 have hcomp:CK H (A9 (ids.zip (H1.map (Da ids))) (C9 (given (bs.drop np)) H)) m (mOf ids m3 m):=by
  intro i o ho hf
  rcases inOut i with⟨j,hj⟩|hg|⟨hi,hg⟩
  ·rcases(hids hj).2 with h|⟨_,h,_⟩
   ·obtain⟨o',o1,ho',ha,ho1,hs,hm⟩:=pin j i h
    rw[ho]at ho';cases ho'
    exact .inr ⟨(AQY ha).2,_,getIn hj ho1,AE7 hs,by rw[mIn hj];exact hm,fun _ _ _=>rfl⟩
   ·rw[ho]at h;cases h;exact absurd rfl hf
  ·exact .inl (getGv hg)
  ·rcases CK.refl H m i o ho hf with h|⟨hd,o',h1,h2,_⟩
   ·exact .inl (by rw[getOut hi hg];exact h)
   ·exact .inr ⟨hd,o',by rw[getOut hi hg];exact h1,h2,mOut (x:=.o i) hi,fun _ _ _=>rfl⟩
 have hmoved:AQd ids H1 (A9 (ids.zip (H1.map (Da ids))) (C9 (given (bs.drop np)) H)) m3 (mOf ids m3 m):=by
  intro j o ho
  have hl:=Al ho
  rw[← hlen]at hl
  have hg:ids[j]? = some ids[j]:=AjM hl
  have hd:ids.getD j 0=ids[j]:=by rw[AjI,hg];rfl
  rw[hd]
  exact⟨getIn hg ho,mIn hg⟩
 have hkeepF:∀ b,FB b→w'.heap[b]? = w.heap[b]? := by
  intro b hb
  refine keep b (hiB.lt b hb) fun j id c hj he => ?_
  exact gA.2.off id b c (giv j id hj) he (hB2 b hb)
 have hcell:∀ k,F k→w'.heap[k]? = w.heap[k]? := fun k ha=>hkeepF _ (hFB _ ha)
 have ownOut:∀ {i:Ix},i.id∉ids→i.id∉given (bs.drop np)→owned (A9 (ids.zip (H1.map (Da ids))) (C9 (given (bs.drop np)) H)) fzR i→owned H fzR i:=by
  intro i hi hg h
  exact(CZ (getOut hi hg)).1 h
 have blkNe':∀ {x:Ix} {b c:Nat},x.id∉ids→x.id∉given (bs.drop np)→owned H fzR x→m x=some (b,c)→∀ {j id c':Nat},bs[j]? = some (.whole id)→m id≠some (b,c'):=by
  intro x b c hi hg ho hm j id c' hb he
  cases x with
  |o i=>exact blkNe hi hg (Ex ho) hm hb he
  |r i k=>exact gA.2.neX (giv j id hb) he ho.there hm (by simp) rfl
 have bOut:∀ {x:Ix} {b c:Nat},x.id∉ids→x.id∉given (bs.drop np)→owned H fzR x→m x=some (b,c)→∀ {j:Nat} {o1:Ob} {c':Nat},H1[j]? = some o1→m3 j≠some (b,c'):=by
  intro x b c hi hg ho hm j o1 c' ho1 he
  rcases blk j b c' (own1 ho1) he with⟨id,c2,hb,hm2⟩|⟨k,id,c2,_,hb,hm2⟩|hge
  ·exact blkNe' hi hg ho hm (tk hb).2 hm2
  ·exact blkNe' hi hg ho hm hb hm2
  ·have:=hiB.IH ho hm;omega
 refine⟨⟨⟨os,tape,output,size,fun b hb hn=>keep b hb fun j id c hj he => ?_,fun b h=>hBR b (hFB b h),?_,?_,hcomp⟩,⟨?_,?_,?_,?_,?_,?_,?_,hiC.glo.mono hcell (fun b h=>hBR b (hFB b h)),?_⟩⟩,hmoved⟩
 ·exact hn id c (C5 (giv j id hj)) he
 ·-- what is frozen
  intro b hb
  rcases hR with⟨e1,_,_⟩|⟨e1,_⟩
  ·rw[e1]at hb;exact .inl hb
  ·rw[e1]at hb
   rcases bnd b hb with h|⟨j,id,c,h1,h2⟩|h
   ·exact gA.1.bnd b h
   ·exact .inr (.inl ⟨id,c,C5 (giv j id h1),h2⟩)
   ·exact .inr (.inr h)
 ·intro i b c ho hm
  rcases cls i ho with⟨i,j,o1,rfl,hj,ho1⟩|⟨hi,hg⟩
  ·rw[mIn hj]at hm
   rcases blk j b c (own1 ho1) hm with⟨id,c',h1,h2⟩|⟨k,id,c',_,h1,h2⟩|h
   ·exact .inl ⟨id,c',C5 (giv j id (tk h1).2),h2⟩
   ·exact .inl ⟨id,c',C5 (giv k id h1),h2⟩
   ·exact .inr h
  ·rw[mOut hi]at hm
   exact .inl ⟨i,c,ownR (ownOut hi hg ho),hm⟩
 ·-- objects
  intro i o ho
  rcases inOut i with⟨j,hj⟩|hg|⟨hi,hg⟩
  ·obtain⟨o1,ho1⟩:=has1 hj
   rw[getIn hj ho1]at ho;cases ho
   rw[mIn hj]
   have hob:=hi1.obj j o1 ho1
   cases o1 with
   |free=>trivial
   |dead=>trivial
   |box cs=>
    obtain⟨b,c,vs,T,a1,a2,a3,a4⟩:=hob
    refine⟨b,c,vs,T,a1,a2,Ad.ren hmoved cs ?_,a4⟩
    rcases hR with⟨e1,_,hfl⟩|⟨e1,_⟩
    ·rw[Ajd]at hfl
     exact Ad.flat cs (by simpa [QR]using hfl _ (AjW ho1)) a3
    ·rw[e1];exact a3
   |arr T t xs=>
    rcases hR with⟨e1,_,hfl⟩|⟨e1,_⟩
    ·rw[Ajd]at hfl
     have hft:t.flat=true:=by simpa [QR]using hfl _ (AjW ho1)
     obtain⟨h0,h1⟩:=hob
     refine⟨h0,?_⟩
     cases hm3:m3 j with
     |none=>rw[hm3]at h1;exact h1
     |some p=>
      obtain⟨b,cap⟩:=p
      rw[hm3]at h1
      obtain⟨vs,row,a1,a2,a3,a4,a5,a6⟩:=h1
      exact⟨vs,row,a1,a2,a3,a4,BM (fun x _ cs hx=>hx.flat t hft) a5,a6⟩
    ·rw[e1];exact hob
   |map k v es=>
    obtain⟨b,c,ms,clock,a1,a2,a3,a4⟩:=hob
    refine⟨b,c,ms,clock,a1,a2,?_,a4⟩
    rcases hR with⟨e1,_,hfl⟩|⟨e1,_⟩
    ·rw[Ajd]at hfl
     have hft:k.flat=true∧v.flat=true:=by simpa [QR]using hfl _ (AjW ho1)
     exact AaV hft.1 hft.2 a3
    ·rw[e1];exact a3
   |prs T tgt is=>
    simp only[Da]
    cases hm3:m3 j with
    |none=>rw[hm3]at hob;exact hob
    |some p=>
     obtain⟨b,cap⟩:=p
     rw[hm3]at hob
     obtain⟨vs,us,a1,a2,a3,a4,a5,a6,a7⟩:=hob
     refine⟨vs,us,a1,a2,a3,a4,?_,a6,a7⟩
     rw[← AcX]
     refine Ad.ren hmoved _ ?_
     rcases hR with⟨e1,_,hfl⟩|⟨e1,_⟩
     ·exact Ad.flat _ (AaN tgt is) a5
     ·rw[e1];exact a5
   |rows T e t xs ver out=>exact absurd (pl1 j _ ho1) (by simp[BU])
  ·rw[getGv hg]at ho;cases ho;trivial
  ·rw[getOut hi hg]at ho
   rw[mOut (x:=.o i) hi]
   refine ObI.mono hcell (fun b h=>hBR b (hFB b h)) hcomp (fun h1 h2 b c hm hlt=>keep b hlt fun j id c' hj=>blkNe hi hg ⟨o,ho,h1,h2⟩ hm hj) (hiC.obj i o ho)
 ·-- rows
  intro i
  rcases inOut i with⟨j,hj⟩|hg|⟨hi,hg⟩
  ·obtain⟨o1,ho1⟩:=has1 hj
   exact B5.plain (getIn hj ho1) (plR (pl1 j o1 ho1))
  ·exact B5.plain (getGv hg) rfl
  ·refine B5.mono hcell (fun b h=>hBR b (hFB b h)) hcomp (getOut hi hg) (fun x hx=>mOut (by rw[hx];exact hi))
    (fun x hx hox b c hm hlt=>keep b hlt fun j id c' hj he => ?_) (hiC.row i)
   refine gA.2.neX (giv j id hj) he hox hm ?_ rfl
   rintro rfl
   have hx:id=i:=hx
   subst hx
   rcases Aj5 j np with hj'|hj'
   ·exact hi (AjW (hwhole (tk' hj' hj)))
   ·exact hg (gvO hj' hj)
 ·intro i T e t xs ver out hio hf x hx ht b c hm
  rcases inOut i with⟨j,hj⟩|hg|⟨hi,hg⟩
  ·obtain⟨o1,ho1⟩:=has1 hj
   rw[getIn hj ho1]at hio
   have:=plR (pl1 j o1 ho1)
   rw[AkR hio]at this;cases this
  ·rw[getGv hg]at hio;cases hio
  ·rw[mOut (x:=x) (by rw[hx];exact hi)]at hm
   have h1:=getOut hi hg
   exact hBR b (hiB.rfz i T e t xs ver out (h1▸hio) hf x hx ((CW (by rw[hx];exact h1)).1 ht) b c hm)
 ·-- apart
  intro i j b c b' c' hoi hoj hij hmi hmj
  rcases cls i hoi with⟨i,k,o1,rfl,hk,ho1⟩|⟨hi,hgi⟩
  ·rw[mIn hk]at hmi
   rcases cls j hoj with⟨j,l,o2,rfl,hl,ho2⟩|⟨hj,hgj⟩
   ·rw[mIn hl]at hmj
    have hkl:k≠l:=by rintro rfl;rw[hk]at hl;cases hl;exact hij rfl
    exact hi1.sep k l b c b' c' (own1 ho1) (own1 ho2) (AgT hkl) hmi hmj
   ·rw[mOut hj]at hmj
    rintro rfl
    exact bOut hj hgj (ownOut hj hgj hoj) hmj ho1 hmi
  ·rw[mOut hi]at hmi
   rcases cls j hoj with⟨j,l,o2,rfl,hl,ho2⟩|⟨hj,hgj⟩
   ·rw[mIn hl]at hmj
    rintro rfl
    exact bOut hi hgi (ownOut hi hgi hoi) hmi ho2 hmj
   ·rw[mOut hj]at hmj
    exact hiB.sep i j b c b' c' (ownOut hi hgi hoi) (ownOut hj hgj hoj) hij hmi hmj
 ·-- none of them frozen
  intro i b c hoi hmi hb
  rcases cls i hoi with⟨i,k,o1,rfl,hk,ho1⟩|⟨hi,hg⟩
  ·rw[mIn hk]at hmi
   exact hi1.off k b c (own1 ho1) hmi (FR3 b hb)
  ·rw[mOut hi]at hmi
   have ho:=ownOut hi hg hoi
   rcases hR with⟨e1,e2,_⟩|⟨e1,e2⟩
   ·rw[e1]at hb;exact hiC.off i b c (ownR ho) hmi hb
   ·rw[e1]at hb
    rcases bnd b hb with h|⟨j,id,c',h1,h2⟩|h
    ·rw[e2]at ho;exact gA.2.off i b c ho hmi h
    ·exact blkNe' hi hg ho hmi h1 h2
    ·have:=hiB.IH ho hmi;omega
 ·intro i T t xs b c hio hf hmi
  rcases inOut i with⟨k,hk⟩|hg|⟨hi,hg⟩
  ·obtain⟨o1,ho1⟩:=has1 hk
   rw[getIn hk ho1]at hio
   have:o1 = .arr T t xs:=by
    cases o1<;>simp only[Da,AjH]at hio<;>first|exact hio|cases hio
   rw[hunf hk ho1 this]at hf;cases hf
  ·rw[getGv hg]at hio;cases hio
  ·rw[getOut hi hg]at hio
   rw[mOut (x:=.o i) hi]at hmi
   exact hBR b (hiB.froz i T t xs b c hio hf hmi)
 ·intro b hb
  exact hi1.lt b (FR3 b hb)
 ·rw[XH,ACY]
  exact hiB.len
end
end Go.Pev
end
section
namespace Go.Pev
open Go.RowKit
section
variable {P:Program} {w:World} {F:Nat→Prop} {m:Mp} {st:St} {a:Act}
def AJQ(tmps:Array Value):ResultVar→Sem Value
 |.tmp t=>pure (tmps.getD t undef)
 |.cell x t=>do loadVar t (← asAddr (tmps.getD x undef))
theorem ANG(hs:SI w F m st a){rv:ResultVar}{v:AV}(h:RW P st rv=some v):
  ∃ u,(AJQ a.tmps rv).run P w = .ok u w∧Rep w F m st.heap v u:=by
 cases rv with
 |tmp t=>
  simp only[RW,AjH]at h;subst h
  exact⟨_,rfl,hs.tmps t⟩
 |cell x T=>
  simp only[RW]at h
  split at h
  ·rename_i id off n ag h1 h2 h3
   split at h
   ·rename_i cs ho
    have hr:=hs.tmps x
    have e1:st.tmps.getD x .junk = .ptr id off:=h1
    rw[e1]at hr
    unfold Rep HC at hr
    rw[ho]at hr
    obtain⟨b,c,e2,e3⟩:=hr
    obtain⟨b',c',vs,T',e4,e5,e6,e7⟩:=hs.heap.obj id _ ho
    rw[e2]at e4;cases e4
    obtain⟨u,k1,k2⟩:=Cn (P:=P) h2 h3 h (E3 e6 off) (ad:=⟨b,off,none⟩) (fun u hu=>e7 u (Aks hu)) (fun j u hu=>by
     rw[AkH]at hu
     rw[CC]
     simp only[World.cell?,e5]
     simpa using hu)
    refine⟨u,?_,k2⟩
    simp[AJQ,e3,asAddr,k1]
   ·cases h
  ·cases h
theorem AJP(hs:SI w F m st a):∀ {rvs:List ResultVar} {vs:List AV},DN P st rvs=some vs →
  ∃ us,(rvs.mapM (AJQ a.tmps)).run P w = .ok us w∧Ad w F m st.heap vs us:=by
 intro rvs
 induction rvs with
 |nil=>
  intro vs h
  simp only[DN,AjH]at h;subst h
  exact⟨[],by simp[List.mapM_nil],Nw⟩
 |cons rv rvs ih=>
  intro vs h
  simp only[DN]at h
  split at h
  ·cases h
  ·rename_i v hv
   split at h
   ·cases h
   ·rename_i vs' hvs
    simp only[AjH]at h;subst h
    obtain⟨u,h1,h2⟩:=ANG hs hv
    obtain⟨us,h3,h4⟩:=ih hvs
    refine⟨u::us,?_,by unfold Ad;exact⟨u,us,rfl,h2,h4⟩⟩
    rw[List.mapM_cons]
    simp only[Sem.run_bind]
    rw[h1]
    simp only[Result.andThen_ok]
    rw[h3]
    simp
def AUA(us:List Value):Value:=if h:us.toArray.size=1 then us.toArray[0]else .tuple us.toArray
theorem AA1(hs:SI w F m st a){fn:Func}{vs:List AV}(h:DN P st fn.results.toList=some vs):
  ∃ us,(results fn a.tmps).run P w = .ok (AUA us) w∧Ad w F m st.heap vs us:=by
 obtain⟨us,h1,h2⟩:=AJP hs h
 refine⟨us,?_,h2⟩
 have e:results fn a.tmps=(do
   let vs ← fn.results.mapM (AJQ a.tmps)
   pure (if h:vs.size=1 then vs[0]else .tuple vs)):=by
  unfold results
  congr 2
 rw[e,Al8]
 simp only[Sem.run_bind,map_eq_pure_bind]
 rw[h1]
 rfl
theorem AGW{H:List Ob}{vs:List AV}{us:List Value}(h:Ad w F m H vs us):Rep w F m H (single vs) (AUA us):=by
 have hl:=As h
 unfold AUA
 match vs,us,hl with
 |[],[],_=>
  simp only[single]
  unfold Rep
  exact⟨_,rfl,h⟩
 |[v],[u],_=>
  simp only[single]
  unfold Ad at h
  obtain⟨_,_,e,h1,_⟩:=h
  cases e
  exact h1
 |v::v'::vs,u::u'::us,_=>
  simp only[single]
  unfold Rep
  exact⟨_,rfl,h⟩
def JK:List RS→List Value→List Value
 |.one::r,u::us=>u::JK r us
 |.agg _::r,u::us=>u.cells.toList++JK r us
 |_,_=>[]
theorem AST{H:List Ob}:∀ {rs:List RS} {vs:List AV} {us:List Value} {tm:List AV},Gh rs vs=some tm→Ad w F m H vs us →
  Ad w F m H tm (JK rs us)∧(JK rs us).length=cellsOf rs∧∀ (w2:World) (F2:Nat→Prop) (m2:Mp) (H2:List Ob) (ws:List AV),Ad w2 F2 m2 H2 ws (JK rs us)→Ad w2 F2 m2 H2 (Gb rs ws) us:=by
 intro rs
 induction rs with
 |nil=>
  intro vs us tm h hr
  cases vs with
  |nil=>
   simp only[Gh,AjH]at h;subst h
   unfold Ad at hr;subst hr
   exact⟨Nw,rfl,fun _ _ _ _ _ _=>Nw⟩
  |cons v vs=>simp[Gh]at h
 |cons r rs ih=>
  intro vs us tm h hr
  cases vs with
  |nil=>cases r<;>simp[Gh]at h
  |cons v vs=>
   unfold Ad at hr
   obtain⟨u,us',rfl,hv,hr⟩:=hr
   cases r with
   |one=>
    simp only[Gh]at h
    split at h
    ·rename_i l hl
     simp only[AjH]at h;subst h
     obtain⟨h1,h2,h3⟩:=ih hl hr
     refine⟨by simp only[JK];unfold Ad;exact⟨u,_,rfl,hv,h1⟩,by simp[JK,cellsOf,RS.cells,h2];omega,fun w2 F2 m2 H2 ws hw => ?_⟩
     simp only[JK]at hw
     cases ws with
     |nil=>unfold Ad at hw;cases hw
     |cons x ws=>
      unfold Ad at hw
      obtain⟨y,ys,e,q1,q2⟩:=hw
      cases e
      simp only[Gb,AmB,AlO]
      unfold Ad
      exact⟨u,us',rfl,q1,h3 w2 F2 m2 H2 ws q2⟩
    ·cases h
   |agg n=>
    simp only[Gh]at h
    split at h
    ·rename_i cs hag hcs
     split at h
     ·rename_i hn
      simp only[AjJ]at hn
      split at h
      ·rename_i l hl
       simp only[AjH]at h;subst h
       obtain⟨h1,h2,h3⟩:=ih hl hr
       have hc:=cells?_ok hcs hv
       have ho:=cells?_one hcs hv
       have hcl:=As hc
       have hu:u = .agg u.cells:=by
        cases v<;>simp only[Sb]at hag<;>try (cases hag;done)
        ·rename_i t d
         unfold Rep Bg at hv
         rw[AjP hag]at hv
         obtain⟨x,rfl,_⟩:=hv
         rfl
        ·unfold Rep at hv
         obtain⟨x,rfl,_⟩:=hv
         rfl
       refine⟨by simp only[JK];exact G2 hc h1,by simp[JK,cellsOf,RS.cells,h2]at hcl ⊢;omega,fun w2 F2 m2 H2 ws hw => ?_⟩
       simp only[JK]at hw
       have ht:=Oo hw n
       have hd:=E3 hw n
       have hn':u.cells.toList.length=n:=by rw[hcl,hn]
       rw[AmA hn']at ht
       rw[List.drop_left' hn']at hd
       simp only[Gb]
       unfold Ad
       refine⟨u,us',rfl,?_,h3 w2 F2 m2 H2 _ hd⟩
       unfold Rep
       exact⟨u.cells,hu,ht,ho⟩
      ·cases h
     ·cases h
    ·cases h
end
end Go.Pev
end
section
namespace Go.Pev
open Go.RowKit
theorem Nt {P : Program} {g : FuncId} {fn : Func} (hf : P.funcs[g]? = some fn) (hb : fn.body.isSome = true) (hn : (fn.name == "runtime.NumGoroutine") = false) : TC P g := by
 intro args w
 obtain⟨c,hc⟩:=Aki.1 hb
 have hn' : ¬ fn.name = "runtime.NumGoroutine" := by simpa using hn
 simp[callFunc,hf,hn',hc]
theorem ALb{P:Program}{np:Nat}{h:Hints}:∀ (c:Code) (n:Nat),loops c=0→DT P np h c n:=by
 intro c
 induction c with
 |seq a b iha ihb=>intro n hl;simp only[loops]at hl;exact⟨iha n (by omega),ihb _ (by omega)⟩
 |cond c a b iha ihb=>intro n hl;simp only[loops]at hl;exact⟨iha n (by omega),ihb _ (by omega)⟩
 |block id c ih=>intro n hl;simp only[loops]at hl;exact ih n hl
 |loop c ih=>intro n hl;simp only[loops]at hl;omega
 |_=>intro n _;trivial
section
variable {P:Program} {E:Env} {h:Hints} {g:FuncId} {fn:Func} {c:Code}
theorem AVw{w:World}{F:Nat→Prop}{m:Mp}{H:List Ob}{args:List AV}{vals:List Value}(hr:Ad w F m H args vals)(n:Nat)(t:Nat):
  Rep w F m H ((args++List.replicate n AV.junk).getD t .junk) ((vals.toArray++Array.replicate n undef).getD t undef):=by
 have hl:=As hr
 have e:(vals.toArray++Array.replicate n undef).getD t undef=(vals++List.replicate n undef).getD t undef:=by
  rw[Aj4,AjI,← Alc]
  simp
 rw[e,AjI,AjI]
 rcases Aj5 t args.length with ht|ht
 ·rw[Ajp ht,Ajp (by omega)]
  obtain⟨v,hv,hrv⟩:=CR hr (i:=t) (c:=args[t]) (AjM ht)
  rw[hv,AjM ht]
  exact hrv
 ·rw[Ajv ht,Akr]
  split<;>(unfold Rep;trivial)
theorem AOh(hE:∀ g,AR P g (E.spec g))(hL:JT E)(hf:P.funcs[g]? = some fn)(hb:fn.body=some c)(hc:TC P g)(hl:loops c=0):
  AR P g (DJ P E h fn):=by
 intro R args H fz slot k r hk
 simp only[DJ,hb]at hk
 split at hk
 ·cases hk
 ·rename_i hle
  simp only[AjJ]at hle
  obtain⟨e,st',h1,h2,h3⟩:=LC hE hL (np:=H.length) c 0 (ALb c 0 hl) R _ _ r hk
  have key:∃ vs,DN P st' fn.results.toList=some vs∧k (single vs) { heap:=some (st'.heap,st'.frz) }=some r∧(e = .normal∨e = .ret):=by
   cases e with
   |normal=>
    simp only at h1
    split at h1
    ·rename_i vs hvs;exact⟨vs,hvs,h1,.inl rfl⟩
    ·cases h1
   |ret=>
    simp only at h1
    split at h1
    ·rename_i vs hvs;exact⟨vs,hvs,h1,.inr rfl⟩
    ·cases h1
   |_=>simp at h1
  obtain⟨vs,hvs,h4,he⟩:=key
  refine⟨_,_,h4,fun R' k' => ?_,hc,fun w F m vals hi hr => ?_⟩
  ·simp only[DJ,hb,hle,AjV]
   refine(h2 R' _).trans ?_
   rcases he with rfl|rfl<;>simp only[hvs]
  ·have hlv:=As hr
   refine calls_of_wp hf hb ?_
   have hsi:SI w F m { tmps:=args++List.replicate (fn.ntmps-args.length) .junk,heap:=H,frz:=fz } { tmps:=vals.toArray++Array.replicate (fn.ntmps-vals.toArray.size) undef,defers:=[] }:=by
    refine⟨fun t => ?_,?_,hi,rfl⟩
    ·have:=AVw hr (fn.ntmps-args.length) t
     simp only[Ako,hlv]
     exact this
    ·simp[hlv]
   refine h3 w F m _ _ hsi fun a' w' F' m' s1 x1 => ?_
   obtain⟨us,r1,r2⟩:=AA1 s1 hvs
   have hgo:Ap w F m H fz w' F' m' st'.heap st'.frz:=⟨⟨x1.os,x1.tape,x1.output,x1.size,x1.keep,x1.sub,x1.bnd,x1.own,fun i o ho hf=>x1.comp i o (Al ho) ho hf⟩,s1.heap⟩
   have hpost:a'.defers=[]∧∃ v,(results fn a'.tmps).run P w' = .ok v w'∧(fun(en:Ending) (w':World)=>∃ u,en = .returned u∧∃ F' m',Ap w F m H fz w' F' m' (CS { heap:=some (st'.heap,st'.frz) } H) (GN { heap:=some (st'.heap,st'.frz) } fz)∧Rep w' F' m' (CS { heap:=some (st'.heap,st'.frz) } H) (single vs) u) (.returned v) w':=
    ⟨s1.defers,_,r1,_,rfl,F',m',hgo,AGW r2⟩
   rcases he with rfl|rfl<;>exact hpost
theorem AHl{w:World}{F:Nat→Prop}{m:Mp}{H:List Ob}{fz:List Bool}{bs:List Bnd}{m':Mp}{E:St}{val:Nat→Value}(h:Inv w F m H fz bs m' E val){j:Nat}{o:Ob}(hj:E.heap[j]? = some o):alive o:=by
 have hlt:=Al hj
 rw[h.lenH]at hlt
 have hx:bs[j]? = some bs[j]:=AjM hlt
 have hb:=h.ob j _ hx
 cases hc:bs[j]with
 |none=>rw[hc]at hb;simp only[BO]at hb;obtain⟨_,⟨T,e,e2,_⟩|⟨T,e,e2⟩⟩:=hb<;>(rw[hj]at e2;cases e2;trivial)
 |whole id=>
  rw[hc]at hb;simp only[BO]at hb
  rcases hb.2 with⟨T,t,xs,_,a2,_⟩|⟨k,v,es,_,a2⟩|⟨cs,cs',b,c,vs,T,_,a2,_⟩|⟨_,_,_,_,_,a2,_⟩|⟨_,_,_,_,_,_,a2,_⟩<;>(rw[hj]at a2;cases a2;trivial)
 |cut id=>rw[hc]at hb;simp only[BO]at hb;obtain⟨T,t,xs,n,_,_,a3,_⟩:=hb;rw[hj]at a3;cases a3;trivial
theorem Er{st:St}(h:st.heap.all BU=true)(v:AV)(l:Loc):(place st v l).heap.all BU=true:=by
 cases l with
 |cell j c=>
  simp only[place]
  split
  ·rw[Ajd]at h ⊢
   intro o ho
   rcases Al7 ho with h1|rfl
   ·exact h o h1
   ·rfl
  ·exact h
 |_=>exact h
theorem KO{st:St}(h:st.heap.all BU=true){o:Ob}(ho:BU o=true):(Dm st o).heap.all BU=true:=by simp[Dm,h,ho]
theorem AYm:∀ (its:AE) (d:CB (leaves its)) (st:St),IE its=true→st.heap.all BU=true→(enc its d st).heap.all BU=true:=by
 intro its
 induction its with
 |nil=>intro d st _ h;exact h
 |cons p r ih=>
  intro d st hn h
  obtain⟨l,c⟩:=p
  cases c with
  |rows T e t=>simp[IE]at hn
  |mrows j e t=>simp[IE]at hn
  |aptr T e n=>exact ih _ _ hn (Er (KO h rfl) _ _)
  |own T e=>exact ih _ _ hn (Er (KO h rfl) _ _)
  |box n=>exact ih _ _ hn (Er (KO h rfl) _ _)
  |map k v=>exact ih _ _ hn (Er (KO h rfl) _ _)
  |prs T j=>exact ih _ _ hn (Er (KO h rfl) _ _)
  |_=>exact ih _ _ hn (Er h _ _)
theorem OO{its:AE}{d:CB (leaves its)}{n:Nat}(hn:IE its=true){j:Nat}{o:Ob}(h:(encode n its d).heap[j]? = some o):BU o=true:=
 Ajd.1 (AYm its d (blank n) hn rfl) o (AjW h)
theorem ANJ{its:AE}{d:CB (leaves its)}{n:Nat}(hn:IE its=true){fz:List Bool}{x:Ix}(h:owned (encode n its d).heap fz x):x = .o x.id:=by
 cases x with
 |o i=>rfl
 |r i k=>
  obtain⟨o,ho,_⟩:=C6 h
  exact absurd h (Ev ho (OO hn ho))
theorem APi{np:Nat}{outs:AE}{rs:List RS}{st:St}{y:CB (leaves outs)}(h:finish np P fn outs rs st=some y):
  ∃ vs tm bs fr,DN P st fn.results.toList=some vs∧Gh rs vs=some tm∧dec tm st.heap outs st.frz []=some (y,bs,fr)∧(pins np 0 bs&&(st.heap.take np).all BU)=true:=by
 unfold finish at h
 split at h
 ·rename_i vs hvs
  split at h
  ·rename_i tm htm
   split at h
   ·rename_i y' bs fr hd
    split at h
    ·rename_i hp
     simp only[AjH]at h;subst h
     exact⟨vs,tm,bs,fr,hvs,htm,hd,hp⟩
    ·cases h
   ·cases h
  ·cases h
 ·cases h
theorem AZL(hE:∀ g,AR P g (E.spec g))(hL:JT E)(hf:P.funcs[g]? = some fn)(hb:fn.body=some c)(hc:TC P g)
  {np na:Nat} (hna:na≤fn.ntmps) {its outs:AE} {rs:List RS} {f:CB (leaves its)→Option (CB (leaves outs))} (hfun:∀ x,f x=AQ np P E h fn its outs rs x) (hl:DT P np h c 0) :
  AR P g (AF np na its outs rs f):=by
 intro R args H fz slot k r hk
 simp only[AF]at hk
 split at hk
 ·cases hk
 ·rename_i x bs fr hdec
  split at hk
  ·cases hk
  ·rename_i hchk
   simp only[AjK,AjJ]at hchk
   obtain⟨⟨⟨huncut,hbl⟩,hal⟩,hri,hro⟩:=hchk
   split at hk
   ·cases hk
   ·rename_i y hy
    generalize hids:Ck (C7 outs) (bs.take np) slot=ids at hk
    generalize hgv:given (bs.drop np)=gv at hk
    have key:∃ e,k (single (Gb rs (K9 ids (encode (cellsOf rs) outs y).tmps))) e=some r∧e.heap=none∧e.objs=gv.map (fun i=>(i,.dead))++ids.zip ((encode (cellsOf rs) outs y).heap.map (Da ids)) ∧
      (∀ R' (k':AV→Eff→Option R'),J6 R' gv (bs.take np) fr rs (encode (cellsOf rs) outs y) ids H fz k'=k' (single (Gb rs (K9 ids (encode (cellsOf rs) outs y).tmps))) e) ∧
      Ff H (Ak e.frz fz) ids (bs.take np)=true∧Jj ids=true ∧
      ((e.frz=[]∧Kd (encode (cellsOf rs) outs y).tmps=true∧(encode (cellsOf rs) outs y).heap.all QR=true)∨e.frz=fr):=by
     unfold J6 at hk
     split at hk
     ·rename_i hflat
      split at hk
      ·rename_i hok
       simp only[AjK]at hok hflat
       refine⟨_,hk,rfl,rfl,fun R' k'=>by simp only[J6,hflat.1,hflat.2,hok.1,hok.2,AkP],hok.1,hok.2,.inl ⟨rfl,hflat.1,hflat.2⟩⟩
      ·cases hk
     ·rename_i hflat
      split at hk
      ·rename_i hok
       simp only[AjK]at hok
       refine⟨_,hk,rfl,rfl,fun R' k'=>by simp only[J6,hflat,hok.1,hok.2,AkP],hok.1,hok.2,.inr rfl⟩
      ·cases hk
    obtain⟨e,h4,he1,he2,h5,hok,hnd,hfl⟩:=key
    refine⟨_,e,h4,fun R' k' => ?_,hc,fun w F m vals hi hr => ?_⟩
    ·simp only[AF,hdec,huncut,hbl,hal,hri,hro,hy,AjV,AkP,hids,hgv]
     exact h5 R' k'
    ·have hlv:=As hr
     rw[hfun x]at hy
     unfold AQ at hy
     rw[hb]at hy
     simp only at hy
     obtain⟨ex,st',g1,_,g3⟩:=LC hE hL c 0 hl _ _ _ _ hy
     have hfin:finish np P fn outs rs st'=some y∧(ex = .normal∨ex = .ret):=by
      cases ex with
      |normal=>exact⟨g1,.inl rfl⟩
      |ret=>exact⟨g1,.inr rfl⟩
      |_=>simp at g1
     obtain⟨hfin,hex⟩:=hfin
     obtain⟨vs,tm,bs',fr',hvs,htm,hd',hp⟩:=APi hfin
     rw[AjK]at hp
     replace hp:=hp.1
     refine calls_of_wp hf hb ?_
     obtain⟨F2,m2,gA,invA,_⟩:=AUt (val:=fun t=>(vals.toArray++Array.replicate (fn.ntmps-vals.toArray.size) undef).getD t undef) its fz [] F (fun _=>none) (blank fn.ntmps) x bs fr hi
      (fun t v ht=>by
       have:=AVw hr (fn.ntmps-vals.toArray.size) t
       rw[AjI,Ajp (Fx ht),ht]at this
       exact this) (Inv.blank fn.ntmps) hdec
     have hsi:SI w F2 m2 (encode fn.ntmps its x) { tmps:=vals.toArray++Array.replicate (fn.ntmps-vals.toArray.size) undef,defers:=[] }:=by
      refine⟨invA.tmps,?_,invA.hi gA.2,rfl⟩
      rw[Nh]
      simp[hlv]
      omega
     refine g3 w F2 m2 _ _ hsi fun a' w' F' m' s1 x1 => ?_
     obtain⟨us,r1,r2⟩:=AA1 s1 hvs
     obtain⟨q1,q2,q3⟩:=AST htm r2
     obtain⟨F3,m3,gC,invC,_⟩:=AUt (val:=fun t=>(JK rs us).getD t undef) outs st'.frz [] F' (fun _=>none) (blank (cellsOf rs)) y bs' fr' s1.heap
      (fun t v ht=>by
       obtain⟨u,hu,hru⟩:=CR q1 ht
       rw[AjI,hu]
       exact hru) (Inv.blank (cellsOf rs)) hd'
     have srcA:∀ {j:Ix} {b c},owned (encode fn.ntmps its x).heap (encode fn.ntmps its x).frz j→m2 j=some (b,c)→∃ id:Nat,bs[j.id]? = some (.whole id)∧owned H (Ak fr fz) id∧m id=some (b,c):=by
      intro j b c ho hm
      have hj:=ANJ hri ho
      obtain⟨y,id,k1,k2,k3,k4⟩:=invA.src ho hm
      rw[hj]at k3 k4
      rw[Ajd]at huncut
      have:=huncut y (AjW k1)
      cases y with
      |none=>simp[Bnd.id?]at k2
      |whole i=>simp only[Bnd.id?,AjH]at k2;subst k2;exact⟨_,k1,k3,k4⟩
      |cut i=>simp[Bnd.Aa8]at this
     have hinj:∀ (i j id:Nat),bs[i]? = some (.whole id)→bs[j]? = some (.whole id)→i=j:=fun i j id h1 h2=>invA.inj i j _ _ id h1 h2 rfl rfl
     have start:∀ (j id:Nat),bs[j]? = some (.whole id)→m2 j=m id∧∃ o o0,H[id]? = some o∧alive o∧(encode fn.ntmps its x).heap[j]? = some o0∧sameShape o o0∧alive o0∧owned H (Ak fr fz) id:=by
      intro j id hj
      have hA:=invA.ob j _ hj
      simp only[BO]at hA
      obtain⟨eA,hA⟩:=hA
      refine⟨eA,?_⟩
      rcases hA with⟨T,t,xs,a1,a2,a3⟩|⟨k,v,es,a1,a2⟩|⟨cs,cs',b,cc,vs,T,a1,a2,_⟩|⟨_,_,_,_,a1,a2,_⟩|⟨_,_,_,_,_,_,a2,_⟩
      ·exact⟨_,_,a1,trivial,a2,⟨rfl,rfl⟩,trivial,AB8 a1 trivial a3⟩
      ·exact⟨_,_,a1,trivial,a2,trivial,trivial,by simp only[owned,Bq];rw[a1];trivial⟩
      rotate_left
      ·exact⟨_,_,a1,trivial,a2,rfl,trivial,by simp only[owned,Bq];rw[a1];trivial⟩
      ·exact absurd (OO hri a2) (by simp[BU])
      ·exact⟨_,_,a1,trivial,a2,trivial,trivial,by simp only[owned,Bq];rw[a1];trivial⟩
     have hpin:∀ (j id:Nat),(bs.take np)[j]? = some (.whole id)→∃ o o1,H[id]? = some o∧alive o∧(encode (cellsOf rs) outs y).heap[j]? = some o1∧sameShape o o1∧m3 j=m id:=by
      intro j id hj0
      rw[Aj7]at hj0
      split at hj0
      case isFalse=>cases hj0
      rename_i hjn
      obtain⟨eA,o,o0,s1,s2,s3,s4,s5,s6⟩:=start j id hj0
      have hC:=invC.ob j _ (by have:=ANR _ 0 bs' hp j hjn;rw[AkI]at this;exact this)
      simp only[BO]at hC
      obtain⟨eC,hC⟩:=hC
      have mid:=x1.comp j o0 hjn s3 (AQY s5).1
      have fin:∃ o2 o1,st'.heap[j]? = some o2∧alive o2∧(encode (cellsOf rs) outs y).heap[j]? = some o1∧sameShape o2 o1:=by
       rcases hC with⟨T,t,xs,a1,a2,a3⟩|⟨k,v,es,a1,a2⟩|⟨cs,cs',b,cc,vs,T,a1,a2,_⟩|⟨_,_,_,_,a1,a2,_⟩|⟨_,_,_,_,_,_,a2,_⟩
       ·exact⟨_,_,a1,trivial,a2,⟨rfl,rfl⟩⟩
       ·exact⟨_,_,a1,trivial,a2,trivial⟩
       rotate_left
       ·exact⟨_,_,a1,trivial,a2,rfl⟩
       ·exact absurd (OO hro a2) (by simp[BU])
       ·exact⟨_,_,a1,trivial,a2,trivial⟩
      obtain⟨o2,o1,t1,t2,t3,t4⟩:=fin
      rcases mid with md|⟨_,o2',md1,md2,md3,_⟩
      ·rw[t1]at md;cases md;exact t2.elim
      ·rw[t1]at md1;cases md1
       exact⟨o,o1,s1,s2,t3,(s4.trans md2).trans t4,by rw[eC,md3,eA]⟩
     have hiC1:=invC.hi gC.2
     have hblk:∀ j b cc:Nat,owned (encode (cellsOf rs) outs y).heap (encode (cellsOf rs) outs y).frz j→m3 j=some (b,cc)→(∃ id c':Nat,(bs.take np)[j]? = some (.whole id)∧m id=some (b,c'))∨(∃ k id c':Nat,np≤k∧bs[k]? = some (.whole id)∧m id=some (b,c'))∨w.heap.size≤b:=by
      intro j b cc ho hm
      obtain⟨_,i',k1,k2,k3,k4⟩:=invC.src ho hm
      rcases x1.own i' b cc (C5 k3) k4 with⟨i,c0,l1,l2⟩|h
      ·obtain⟨id,n1,n2,n3⟩:=srcA l1 l2
       have hio:=ANJ hri l1
       generalize i.id=i0 at n1 hio
       subst hio
       rcases Aj5 i0 np with hin|hin
       ·left
        have n1':(bs.take np)[i0]? = some (.whole id):=by rw[Aj7,AjP hin];exact n1
        obtain⟨o,o1,p1,p2,p3,p4,p5⟩:=hpin i0 id n1'
        have hoi:owned (encode (cellsOf rs) outs y).heap (encode (cellsOf rs) outs y).frz i0:=AB8 p3 (AHl invC p3) (invC.frz i0)
        by_cases hij:j=i0
        ·subst hij;exact⟨id,c0,n1',n3⟩
        ·exact absurd rfl (hiC1.sep j i0 b cc b c0 ho hoi (AgT hij) hm (by rw[p5];exact n3))
       ·exact .inr (.inl ⟨i0,id,c0,hin,n1,n3⟩)
      ·exact .inr (.inr h)
     have hkeep:∀ b,b<w.heap.size→(∀ (j id:Nat) (c:Nat),bs[j]? = some (.whole id)→m id≠some (b,c))→w'.heap[b]? = w.heap[b]? := by
      intro b hb hn
      refine x1.keep b hb fun i cc ho hm => ?_
      obtain⟨id,n1,_,n3⟩:=srcA ho hm
      exact hn i.id id cc n1 n3
     have hbnd:∀ b,F3 b→F2 b∨(∃ (j id c:Nat),bs[j]? = some (.whole id)∧m id=some (b,c))∨w.heap.size≤b:=by
      have hx:∀ {i:Ix} {b cc:Nat},owned (encode fn.ntmps its x).heap (encode fn.ntmps its x).frz i→m2 i=some (b,cc)→∃ (j id c:Nat),bs[j]? = some (.whole id)∧m id=some (b,c):=by
       intro i b cc ho hm
       obtain⟨id,n1,_,n3⟩:=srcA ho hm
       exact⟨i.id,id,cc,n1,n3⟩
      intro b hb
      rcases gC.1.bnd b hb with h|⟨i,cc,ho,hm⟩|h
      ·rcases x1.bnd b h with h|⟨i,cc,ho,hm⟩|h
       ·exact .inl h
       ·exact .inr (.inl (hx ho hm))
       ·exact .inr (.inr h)
      ·rcases x1.own i b cc ho hm with⟨i',c0,ho,hm⟩|h
       ·exact .inr (.inl (hx ho hm))
       ·exact .inr (.inr h)
      ·exact .inr (.inr (Aka x1.size h))
     have hidl:ids.length=(encode (cellsOf rs) outs y).heap.length:=by
      rw[← hids,AZ3];unfold encode;rw[Aed];simp[blank]
     obtain⟨FR,hFR,hRR⟩:∃ FR,((FR=F∧Ak e.frz fz=fz∧(encode (cellsOf rs) outs y).heap.all QR=true)∨(FR=F3∧Ak e.frz fz=Ak fr fz))∧Ad w' FR m3 (encode (cellsOf rs) outs y).heap (encode (cellsOf rs) outs y).tmps (JK rs us):=by
      have hrt:Ad w' F3 m3 (encode (cellsOf rs) outs y).heap (encode (cellsOf rs) outs y).tmps (JK rs us):=by
       refine DS (by rw[Nh,q2]) fun i a u ha hu => ?_
       have:=invC.tmps i
       rw[AjI]at this
       have ha':(enc outs y (blank (cellsOf rs))).tmps[i]? = some a:=ha
       rw[ha',AjI,hu]at this
       exact this
      rcases hfl with⟨f1,f2,f3⟩|f1
      ·exact⟨F,.inl ⟨rfl,by rw[f1];rfl,f3⟩,Ad.flat _ f2 hrt⟩
      ·exact⟨F3,.inr ⟨rfl,by rw[f1]⟩,hrt⟩
     obtain⟨hgo,hmv⟩:=Aal (ids:=ids) (np:=np) hi gA (fun j id hj=>(start j id hj).2.elim fun _ h=>h.elim fun _ h=>h.2.2.2.2.2) hinj hpin hblk x1.os x1.tape x1.output x1.size hkeep (fun b h=>gC.1.sub b (x1.sub b h)) hbnd hiC1 (fun j o hj=>AHl invC hj) (fun j o hj=>OO hro hj) invC.frz hidl hok hnd hFR
     rw[hgv]at hgo hmv
     have hH:CS e H=A9 (ids.zip ((encode (cellsOf rs) outs y).heap.map (Da ids))) (C9 gv H):=by rw[CJ he1,he2,XI];rfl
     have hZ:GN e fz=Ak e.frz fz:=CV he1 fz
     have hpost:a'.defers=[]∧∃ v,(results fn a'.tmps).run P w' = .ok v w'∧(fun(en:Ending) (w':World)=>∃ u,en = .returned u∧∃ F' m',Ap w F m H fz w' F' m' (CS e H) (GN e fz)∧Rep w' F' m' (CS e H) (single (Gb rs (K9 ids (encode (cellsOf rs) outs y).tmps))) u) (.returned v) w':=by
      refine⟨s1.defers,_,r1,_,rfl,FR,mOf ids m3 m,?_,?_⟩
      ·rw[hH,hZ];exact hgo
      ·rw[hH]
       exact AGW (q3 _ _ _ _ _ (Ad.ren hmv _ hRR))
     rcases hex with rfl|rfl<;>exact hpost
end
end Go.Pev
end
section
namespace Go.Pev
open Go.RowKit
def LH:Code→Nat→Option Code
 |.seq a b,n=>match LH a n with
  |some c=>some c
  |none=>LH b (n-loops a)
 |.cond _ a b,n=>match LH a n with
  |some c=>some c
  |none=>LH b (n-loops a)
 |.block _ c,n=>LH c n
 |.loop c,n=>match n with
  |0=>some c
  |n+1=>LH c n
 |_,_=>none
def AT(f:Func):Code:=match f.body with
 |some c=>c
 |none=>.skip
def AB(f:Func)(n:Nat):Code:=(LH (AT f) n).getD .skip
def AD:Code→Nat→List (Nat×Code)
 |.seq a b,n=>AD a n++AD b (n+loops a)
 |.cond _ a b,n=>AD a n++AD b (n+loops a)
 |.block _ c,n=>AD c n
 |.loop c,n=>[(n,c)]
 |_,_=>[]
def AH2(P:Program)(np:Nat)(h:Hints):List (Nat×Code)→Prop
 |[]=>True
 |p::l=>Aa P np (.loop p.2) (h.loop p.1)∧AH2 P np h l
theorem AH1{P:Program}{np:Nat}{h:Hints}:∀ {a b:List (Nat×Code)},AH2 P np h (a++b)→AH2 P np h a∧AH2 P np h b:=by
 intro a
 induction a with
 |nil=>exact fun h=>⟨trivial,h⟩
 |cons p a ih=>intro b h;exact⟨⟨h.1,(ih h.2).1⟩,(ih h.2).2⟩
theorem AQe{P:Program}{np:Nat}{h:Hints}:∀ (c:Code) (n:Nat),AH2 P np h (AD c n)→DT P np h c n:=by
 intro c
 induction c with
 |seq a b iha ihb=>intro n hl;have:=AH1 hl;exact⟨iha n this.1,ihb _ this.2⟩
 |cond c a b iha ihb=>intro n hl;have:=AH1 hl;exact⟨iha n this.1,ihb _ this.2⟩
 |block id c ih=>intro n hl;exact ih n hl
 |loop c ih=>intro n hl;exact hl.1
 |_=>intro n _;trivial
theorem AA{P:Program}{np:Nat}{h:Hints}{c:Code}{n:Nat}{l:List (Nat×Code)}(e:AD c n=l)(a:AH2 P np h l):DT P np h c n:=AQe c n (by rw[e];exact a)
def AZ(P:Program)(E:Env):Prop:=(∀ g,AR P g (E.spec g))∧JT E
def Env.none:Env:={ spec:=fun _ _ _ _ _ _ _=>Option.none,loc:=fun _=>false,loc2:=fun _=>true }
theorem Env.AJ2{P:Program}:AZ P Env.none:=⟨fun g R args H fz slot k r h=>by simp[Env.none]at h,fun g h=>by simp[Env.none]at h,fun g _ R args H H' fz fz' slot k S _ _ _=>rfl⟩
def Env.ext(E:Env)(g:FuncId)(loc loc2:Bool)(s:Spec):Env where
 spec x:=match Nat.beq x g with
  |true=>s
  |false=>E.spec x
 loc x:=match Nat.beq x g with
  |true=>loc
  |false=>E.loc x
 loc2 x:=match Nat.beq x g with
  |true=>loc2
  |false=>E.loc2 x
theorem Env.Ah{P:Program}{E:Env}{g:FuncId}{loc loc2:Bool}{s:Spec}(h:AZ P E)(hs:AR P g s)(hl:loc=true→Hj s)(hl2:loc2=true→Ot s):AZ P (E.ext g loc loc2 s):=by
 refine⟨?_,?_,?_⟩
 ·intro x
  simp only[Env.ext]
  cases hx:Nat.beq x g with
  |true=>have:=Akd hx;subst this;exact hs
  |false=>exact h.1 x
 ·intro x hx
  simp only[Env.ext]at hx ⊢
  cases hb:Nat.beq x g with
  |true=>rw[hb]at hx;exact hl hx
  |false=>rw[hb]at hx;exact h.2.1 x hx
 ·intro x hx
  simp only[Env.ext]at hx ⊢
  cases hb:Nat.beq x g with
  |true=>rw[hb]at hx;exact hl2 hx
  |false=>rw[hb]at hx;exact h.2.2 x hx
section
variable {P:Program} {E:Env} {h:Hints} {g:FuncId} {fn:Func}
theorem ALQ(hb:fn.body.isSome=true):fn.body=some (AT fn):=by
 unfold AT
 cases h:fn.body with
 |none=>rw[h]at hb;cases hb
 |some c=>rfl
theorem AI (hE : AZ P E) (hf : P.funcs[g]? = some fn) (hb : fn.body.isSome = true) (hn : (fn.name == "runtime.NumGoroutine") = false)
  {np na:Nat} (hna:(Nat.ble na fn.ntmps)=true) {its outs:AE} {rs:List RS} {f:CB (leaves its)→Option (CB (leaves outs))} (hfun:∀ x,f x=AQ np P E h fn its outs rs x) (hl:DT P np h (AT fn) 0) :
  AR P g (AF np na its outs rs f):=
 AZL hE.1 hE.2 hf (ALQ hb) (Nt hf hb hn) (Alv hna) hfun hl
theorem Ae1 (hE : AZ P E) (hf : P.funcs[g]? = some fn) (hb : fn.body.isSome = true) (hn : (fn.name == "runtime.NumGoroutine") = false)
  {np na:Nat} (hna:(Nat.ble na fn.ntmps)=true) {its:AE} {os:At} {rs:List RS} {f:CB (leaves its)→Option (PB os)} (hfun:∀ x,f x=ASt np P E h fn its os rs x) (hl:DT P np h (AT fn) 0) :
  AR P g (AOi np na its os rs f):=by
 intro R args H fz slot k r hk
 simp only[AOi]at hk
 split at hk
 ·cases hk
 ·rename_i x bs fr hdec
  split at hk
  ·cases hk
  ·rename_i hchk
   split at hk
   ·cases hk
   ·rename_i y hy
    have pick:∀ (os':At) (y':PB os') (R:Type) (k:AV→Eff→Option R) (r:R),Gl R np bs fr rs slot H fz k os' y'=some r→∃ (o:Exit×AE) (d:CB (leaves o.2)),IE o.2=true ∧
      (∀ R' (k':AV→Eff→Option R'),Gl R' np bs fr rs slot H fz k' os' y'=J6 R' (given (bs.drop np)) (bs.take np) fr rs (encode (cellsOf rs) o.2 d) (Ck (C7 o.2) (bs.take np) slot) H fz k') ∧
      ∀ st,Hf np P fn rs st os'=some y'→finish np P fn o.2 rs st=some d:=by
     intro os'
     induction os' with
     |nil=>intro y' R k r h;simp[Gl]at h
     |cons o os' ih=>
      intro y' R k r h
      cases y' with
      |inl d=>
       simp only[Gl]at h
       split at h
       ·rename_i hno
        refine⟨o,d,hno,fun R' k'=>by simp only[Gl,hno],fun st hst => ?_⟩
        simp only[Hf]at hst
        split at hst
        ·rename_i d' hd'
         simp only[AjH,Sum.inl.injEq]at hst
         rw[hd',hst]
        ·split at hst<;>simp at hst
       ·cases h
      |inr y'=>
       simp only[Gl]at h
       obtain⟨o',d,q1,q2,q3⟩:=ih y' R k r h
       refine⟨o',d,q1,fun R' k'=>by simp only[Gl];exact q2 R' k',fun st hst => ?_⟩
       simp only[Hf]at hst
       split at hst
       ·simp at hst
       ·split at hst
        ·rename_i x' hx'
         simp only[AjH,Sum.inr.injEq]at hst
         exact q3 st (by rw[hx',hst])
        ·cases hst
    obtain⟨o,d,hno,hback,hfin⟩:=pick os y R k r hk
    have hcall:AQ np P E h fn its o.2 rs x=some d:=by
     rw[hfun x]at hy
     unfold ASt at hy
     unfold AQ
     rw[ALQ hb]at hy ⊢
     simp only at hy ⊢
     obtain⟨ex,st',g1,g2,_⟩:=LC hE.1 hE.2 (AT fn) 0 hl _ _ _ _ hy
     refine(g2 _ _).trans ?_
     cases ex with
     |normal=>exact hfin st' g1
     |ret=>exact hfin st' g1
     |_=>simp at g1
    have hs:=AI hE hf hb hn hna (its:=its) (outs:=o.2) (rs:=rs) (f:=AQ np P E h fn its o.2 rs) (fun _=>rfl) hl
    simp only[AjK]at hchk
    have hsame:∀ R' (k':AV→Eff→Option R'),AF np na its o.2 rs (AQ np P E h fn its o.2 rs) R' args H fz slot k'=Gl R' np bs fr rs slot H fz k' os y:=by
     intro R' k'
     rw[hback R' k']
     simp only[AF,hdec,hchk.1.1.1,hchk.1.1.2,hchk.1.2,hchk.2,hno,AkP,hcall]
    obtain⟨v,e,h1,h2,h3,h4⟩:=hs R args H fz slot k r (by rw[hsame];exact hk)
    refine⟨v,e,h1,fun R' k' => ?_,h3,h4⟩
    simp only[AOi,hdec,hchk.1.1.1,hchk.1.1.2,hchk.1.2,hchk.2,AkP,hy]
    rw[← hsame R' k']
    exact h2 R' k'
theorem Cv (hE : AZ P E) (hf : P.funcs[g]? = some fn) (hb : fn.body.isSome = true) (hn : (fn.name == "runtime.NumGoroutine") = false) (hl : loops (AT fn) = 0) : AR P g (DJ P E h fn) :=
 AOh hE.1 hE.2 hf (ALQ hb) (Nt hf hb hn) hl
theorem AU{h':Hints}(hE:AZ P E){np nt n:Nat}{body:Code}{its:AE}{os:At}{stp:CB (leaves its)→Option (CB (leaves its)⊕PB os)}
  (hstep:∀ v,stp v=roundOf P E h' n np nt body its os v) (hl:DT P np h' body n):Aa P np (.loop body) (Ac np nt its os stp):=AZi hE.1 hE.2 hstep hl
def AHZ:AE→Bool
 |[]=>true
 |(.tmp _,.dat _)::r=>AHZ r
 |_::_=>false
theorem AaY{H H':List Ob}{tm:List AV}(ha:∀ id∈BH tm,H[id]? = H'[id]?):∀ (its:AE) (fz fz':List Bool),AHZ its=true→dec tm H its fz []=dec tm H' its fz' []:=by
 intro its
 induction its with
 |nil=>intro fz fz' _;rfl
 |cons p r ih=>
  intro fz fz' hd
  obtain⟨l,c⟩:=p
  cases l<;>cases c<;>simp only[AHZ]at hd<;>try (cases hd;done)
  rename_i t ty
  simp only[dec,look]
  cases hv:tm[t]? with
  |none=>rfl
  |some v=>
   have hsub:∀ id∈Am v,H[id]? = H'[id]? := fun id hid=>ha id (by
    clear ih hd ha
    induction tm generalizing t with
    |nil=>simp at hv
    |cons a tm iht=>
     cases t with
     |zero=>simp at hv;subst hv;simp[BH,hid]
     |succ t=>simp only[BH,AjL];exact .inr (iht t (by simpa using hv)))
   simp only
   rw[Xz ty v hsub]
   cases X0 H' ty v with
   |none=>rfl
   |some q=>
    obtain⟨x,f⟩:=q
    simp only
    have hfr:f.all (fresh? [])=true:=by simp[fresh?]
    rw[hfr]
    simp only
    rw[ih (Ak f fz) (Ak f fz') hd]
theorem AZ1:∀ (n slot:Nat),Ck n [] slot=List.range' slot n:=by
 intro n
 induction n with
 |zero=>intro slot;rfl
 |succ n ih=>intro slot;simp only[Ck,AmW];rw[ih]
theorem Xp{H H':List Ob}{fz fz':List Bool}:∀ (ids:List Nat),(∀ i∈ids,Av H fz i=Av H' fz' i)→Ff H fz ids []=Ff H' fz' ids []:=by
 intro ids
 induction ids with
 |nil=>intro _;rfl
 |cons a ids ih=>
  intro h
  simp only[Ff,List.tail_nil]
  rw[h a (by simp),ih fun i hi=>h i (by simp[hi])]
theorem AUu{H:List Ob}{tm:List AV}:∀ (its:AE) (fz:List Bool) (bs:List Bnd) (x:CB (leaves its)) (bs':List Bnd) (fr:List Nat),AHZ its=true→dec tm H its fz bs=some (x,bs',fr)→bs'=bs:=by
 intro its
 induction its with
 |nil=>intro fz bs x bs' fr _ h;simp only[dec,AjH]at h;cases h;rfl
 |cons p r ih=>
  intro fz bs x bs' fr hd h
  obtain⟨l,c⟩:=p
  cases l<;>cases c<;>simp only[AHZ]at hd<;>try (cases hd;done)
  simp only[dec]at h
  split at h
  ·split at h
   ·split at h
    ·split at h
     ·rename_i xs bs1 g hdd
      simp only[AjH]at h
      cases h
      exact ih _ _ _ _ _ hd hdd
     ·cases h
    ·cases h
   ·cases h
  ·cases h
theorem AO{np na:Nat}{its outs:AE}{rs:List RS}{f:CB (leaves its)→Option (CB (leaves outs))}(hd:AHZ its=true)(hn:Nat.ble (C7 outs) 4=true):Hj (AF np na its outs rs f):=by
 intro R args H H' fz fz' slot k ha
 unfold AF
 rw[AaY ha.heap its fz fz' hd]
 split
 ·rfl
 ·rename_i x bs fr hdec
  have hbs:=AUu its fz' [] x bs fr hd hdec
  subst hbs
  split
  ·rfl
  ·split
   ·rfl
   ·rename_i y hy
    simp only[List.take_nil,List.drop_nil]
    have hfree:∀ (g:List Nat) (i:Nat),i∈Ck (C7 outs) [] slot→Av H (Ak g fz) i=Av H' (Ak g fz') i:=by
     intro g i hi
     rw[AZ1,List.mem_range'_1]at hi
     have:=Alv hn
     exact Dx ha hi.1 (by omega) g
    unfold J6
    rw[show Ff H fz (Ck (C7 outs) [] slot) []=Ff H' fz' (Ck (C7 outs) [] slot) []from Xp _ (hfree []),Xp _ (hfree fr)]
end
end Go.Pev
end
section
namespace Go.Pev
open Go.RowKit
def Ly{α:Type}(xs:List α):Option (List α):=match PM (AG xs)with
 |true=>some xs
 |false=>none
def Qc[Lk]{α:Type}(xs:List α):Option (List α):=Lk.f (Ly xs)
theorem AHb{α:Type}(xs:List α):Qc xs=Ly xs:=AH _
noncomputable def Hg[Lk](e:TypeId)(t:Ty):Spec:=fun R args H fz slot k=>
 match args with
 |[x]=>match Eh H (.slice t) x with
  |some (xs,_)=>match(Qc xs:Option (List t.den))with
   |none=>none
   |some y=>(match Av H fz slot with|true=>k (.own slot) { objs:=[(slot,.arr e t y)] }|false=>none)
  |none=>none
 |_=>none
def ACA:Code→Nat→List Oper
 |.region id ops _,n=>if id=n then ops.toList else []
 |.seq a b,n=>ACA a n++ACA b n
 |.cond _ a b,n=>ACA a n++ACA b n
 |.block _ c,n=>ACA c n
 |.loop c,n=>ACA c n
 |_,_=>[]
def Bc(fn:Func)(n i:Nat):Oper:=((ACA (AT fn) n)[i]?).getD default
structure AEw(P:Program)(fn:Func)(T e:TypeId)(t:Ty):Prop where
 body:fn.body=some (.seq (.region 0 #[Bc fn 0 0] false) (.seq (.seq (.region 1 #[Bc fn 1 0,Bc fn 1 1] false) (.cond (.tmp 4) (.seq (.region 2 #[Bc fn 2 0] false) .ret) .skip)) (.seq (.region 3 #[Bc fn 3 0,Bc fn 3 1,Bc fn 3 2,Bc fn 3 3] false) .ret)))
 nt:fn.ntmps=8
 res:fn.results = #[.tmp 2]
 d:(Bc fn 0 0).dst=some 2∧(Bc fn 1 0).dst=some 3∧(Bc fn 1 1).dst=some 4∧(Bc fn 2 0).dst=some 2∧(Bc fn 3 0).dst=some 5∧(Bc fn 3 1).dst=some 6∧(Bc fn 3 2).dst=some 7∧(Bc fn 3 3).dst=some 2
 g:(Bc fn 0 0).guard=none∧(Bc fn 1 0).guard=none∧(Bc fn 1 1).guard=none∧(Bc fn 2 0).guard=none∧(Bc fn 3 0).guard=none∧(Bc fn 3 1).guard=none∧(Bc fn 3 2).guard=none∧(Bc fn 3 3).guard=none
 o00:(Bc fn 0 0).op = .assign (.const (.slice none 0 0))
 o10:(Bc fn 1 0).op = .move (.tmp 0)
 o11:(Bc fn 1 1).op = .binOp .eql T (.tmp 3) (.const (.slice none 0 0)) T
 o20:(Bc fn 2 0).op = .assign (.const (.slice none 0 0))
 o30:(Bc fn 3 0).op = .buildSlice T 0 #[]
 o31:(Bc fn 3 1).op = .move (.tmp 0)
 o32:(Bc fn 3 2).op = .call { callee:=.builtin .append,args:=#[.tmp 5,.tmp 6],argTypes:=#[T,T] }
 o33:(Bc fn 3 3).op = .assign (.tmp 7)
 sl:sliceAt P T=some (e,t)
 z:(zeroAt P e).isSome=true
 by1:(P.info? e).map (fun i=>decide (i.bytes≤1024))=some true
section
variable {P:Program} {g:FuncId}
theorem Gu{ops:Array Oper}{Q:Exit→Act→World→Prop}{i:Nat}{rest:List Nat}{a:Act}{w:World}{o:Oper}(ho:ops[i]? = some o)(hg:o.guard=none)(h:o.wp P a w (wpOps P ops Q rest) Q):wpOps P ops Q (i::rest) a w:=by
 simp only[wpOps,ho]
 rw[AjP (by simp[Region.wanted,hg])]
 exact .inl h
theorem Gv{o:Oper}{a:Act}{w w':World}{next:Act→World→Prop}{Q:Exit→Act→World→Prop}{u:Value}(h:(execOp a.eval o).run P w = .ok (.value u) w')(hn:next (a.put o.dst u) w'):o.wp P a w next Q:=by
 unfold Oper.wp;rw[h];exact hn
variable {fn:Func} {T e:TypeId} {t:Ty}
theorem AHU{P:Program}{w:World}{ρ:Operand→Value}{o:Oper}{x:Operand}(h:o.op = .move x):(execOp ρ o).run P w = .ok (.value (ρ x)) w:=by simp[execOp,h]
theorem Nf{P:Program}{w:World}{ρ:Operand→Value}{o:Oper}{x:Operand}(h:o.op = .assign x):(execOp ρ o).run P w = .ok (.value (ρ x)) w:=by simp[execOp,h]
theorem Aeq (hs : AEw P fn T e t) (hf : P.funcs[g]? = some fn) (hn : (fn.name == "runtime.NumGoroutine") = false) : AR P g (Hg e t) := by
 intro R args H fz slot k r hk
 unfold Hg at hk
 split at hk
 ·rename_i x
  split at hk
  ·rename_i xs fr hx
   split at hk
   ·cases hk
   ·rename_i y hy
    split at hk
    ·rename_i hfree
     refine⟨_,_,hk,fun R' k'=>by simp only[Hg,hx,hy,hfree],Nt hf (by rw[hs.body];rfl) hn,fun w F m vals hi hr => ?_⟩
     rw[AHb]at hy
     unfold Ly at hy
     split at hy
     ·rename_i hfit
      simp only[AjH]at hy;subst hy
      have hr0:=hr
      unfold Ad at hr
      obtain⟨v,vs',rfl,hrv,hnil⟩:=hr
      unfold Ad at hnil;subst hnil
      obtain⟨hu,hty0,hpos⟩:=Bt hs.sl
      obtain⟨zz,hzz⟩:=Aki.1 hs.z
      obtain⟨t',cs'⟩:=zz
      obtain⟨hty',hcs',i,z,hi0,hz0,hok,hsz,hza⟩:=Bl hzz
      subst hcs'
      have:t'=t:=by rw[hty0]at hty';exact(AkR hty').symm
      subst this
      have hzs:z.cells.size=i.size:=by
       have hzd:=Bb (w:=default) (F:=fun _=>False) t' _ hok
       rw[hsz,← AjZ];exact Dat.length t' hzd
      have hby':i.bytes≤1024:=by simpa [hi0]using hs.by1
      obtain⟨A,c,rfl,q2,q3,news,q4,q5⟩:=Dk hi hx hrv
      have hfit':xs.length≤4294967296:=by
       have:(xs.length:Int)≤4294967296:=(Vs _).1 hfit
       omega
      refine calls_of_wp hf hs.body ?_
      obtain⟨d0,d1,d2,d3,d4,d5,d6,d7⟩:=hs.d
      obtain⟨g0,g1,g2,g3,g4,g5,g6,g7⟩:=hs.g
      have hres:∀ (tm:Array Value) (w0:World),(results fn tm).run P w0 = .ok (tm.getD 2 undef) w0:=fun tm w0=>by simp[results,hs.res]
      refine wp_seq (wp_region ?_)
      simp only[Ako,AjR,Aji,Ake,List.range_zero,Ajs]
      refine Gu (by rfl) g0 (Gv (Nf hs.o00) ?_)
      refine wp_seq (wp_seq (wp_region ?_))
      simp only[Ako,AjR,Aji,Ake,List.range_zero,Ajs,Ajm]
      refine Gu (by rfl) g1 (Gv (AHU hs.o10) ?_)
      refine Gu (by rfl) g2 (Gv (u:=.bool A.isNone) (w':=w) (by simp[execOp,hs.o11,Act.eval,Act.put,d0,d1,hs.nt,eqGuard,Lib.run_eql_slice_nil _ _ _ _ _ _ _ _ hu]) ?_)
      cases A with
      |none=>
       have hxs:xs=[]:=by
        cases xs with
        |nil=>rfl
        |cons a b=>exact absurd (q3 (by simp)) (by simp)
       subst hxs
       refine wp_cond_true (by simp[Act.eval,Act.put,d0,d1,d2,hs.nt]) ?_
       refine wp_seq (wp_region ?_)
       simp only[Ako,AjR,Aji,Ake,List.range_zero,Ajs]
       refine Gu (by rfl) g3 (Gv (Nf hs.o20) ?_)
       refine wp_ret ?_
       refine⟨by simp[Act.put,d0,d1,d2,d3],_,hres _ _,?_⟩
       obtain⟨m',hg,hrep⟩:=Dd (w:=w) hi hfree e hpos none
       refine⟨_,rfl,F,m',hg,?_⟩
       show Rep _ _ _ (H.set slot _) _ _
       simpa [Act.put,Act.eval,d0,d1,d2,d3,hs.nt]using hrep
      |some ad=>
       refine wp_cond_false (by simp[Act.eval,Act.put,d0,d1,d2,hs.nt]) ?_
       refine wp_skip ?_
       refine wp_seq (wp_region ?_)
       simp only[Ako,AjR,Aji,Ake,List.range_zero,Ajs,Ajm]
       refine Gu (by rfl) g4 (Gv (u:=.slice (some ⟨w.heap.size,0,none⟩) 0 0) (w':=w.alloc (.cells #[] e)) (by
        have:=H0 (P:=P) (w:=w) (len:=0) (parts:=#[]) (us:=#[]) hu hi0 hz0 hsz (by omega) (by simp[Instr.fill])
        simp[execOp,hs.o30,this]) ?_)
       refine Gu (by rfl) g5 (Gv (AHU hs.o31) ?_)
       have hga:=Ap.grow (w':=w.alloc (.cells #[] e)) hi rfl rfl rfl (by simp) (fun b hb=>Below.heap_alloc w _ b hb)
       obtain⟨v,w',m',hrun,hg,hrep⟩:=Fa (P:=P) (T:=T) (ty:=(Bc fn 3 2).type) hga.2 hfree hu hi0 hz0 hzs hsz hpos hby' hfit' (some ⟨w.heap.size,0,none⟩) (A:=some ad) (c:=c) (ys:=xs) (news:=news) (fun _=>rfl)
        (BM (fun x _ cs hx=>hx.mono (fun a ha=>by simp[World.cell?,Below.heap_alloc w _ _ (hi.lt _ ha)]) (fun _ h=>h) t') q4) (fun ad' h j u hu'=>by
         have:=q5 ad' h j u hu'
         exact Lib.cell?_alloc_some _ this)
       refine Gu (by rfl) g6 (Gv (u:=v) (w':=w') (by
        simp[execOp,hs.o32,resolve,invoke,builtin,Act.eval,Act.put,d0,d1,d2,d4,d5,hs.nt,hrun]) ?_)
       refine Gu (by rfl) g7 (Gv (Nf hs.o33) ?_)
       refine wp_ret ?_
       refine⟨by simp[Act.put,d0,d1,d2,d4,d5,d6,d7],_,hres _ _,?_⟩
       refine⟨_,rfl,F,m',hga.trans hg,?_⟩
       show Rep _ _ _ (H.set slot _) _ _
       simpa [Act.put,Act.eval,d0,d1,d2,d4,d5,d6,d7,hs.nt]using hrep
     ·cases hy
    ·cases hk
  ·cases hk
 ·cases hk
theorem MX(e:TypeId)(t:Ty):Hj (Hg e t):=by
 intro R args H H' fz fz' slot k ha
 unfold Hg
 cases args with
 |nil=>rfl
 |cons x r=>cases r with
  |cons y r=>rfl
  |nil=>
   simp only
   rw[Br (.slice t) x fun id hid=>ha.heap id (by simpa [BH]using hid)]
   have:=Dx ha (s:=slot) (AjO _) (by omega) []
   simp only[Ak]at this
   rw[this]
end
end Go.Pev
end
section
namespace Go.Pev
noncomputable section
attribute [local irreducible] PM Ln O6 PD Adz Ad0 Ad1 Tt AA2 AAL AAK Ly AX many IntKind.wrap AG BB AY A2 Bp DK EA AN Bm Ci imax AP Af
abbrev U0:Ty:=(.int .i64)
abbrev U1:=(Int×Int×Unit)
abbrev U2:Ty:=(.prod U0 (.prod U0 .unit))
abbrev U3:=(List Int)
abbrev U4:Ty:=(.slice U0)
abbrev U5:=(Int×Int×Int×Bool×Unit)
abbrev U6:=(List U3×Int×Int×Int×Unit)
abbrev U7:=(List U1×Int×Int×Int×Unit)
abbrev U8:=(Int×Unit)
abbrev U9:Ty:=(.slice (.prod U0 (.prod U0 (.prod U0 (.prod .bool .unit)))))
abbrev Ua:Ty:=(.slice U4)
abbrev Ub:=(Int×(List U1))
abbrev Uc:=(Int×Int)
abbrev Ud:=(List U3×Int×Int×Unit)
abbrev Ue:=(List U1×Int×Int×Unit)
abbrev Uf:=(Bool×Unit)
abbrev Ug:=(List U3×Int×Int×Int×Int×Unit)
abbrev Uh:=(List U1×Int×Int×Int×Int×Unit)
abbrev Ui:=(Int×(List U3)×Unit)
abbrev Uj:=(List U3×Unit)
abbrev Uk:=(List U1×Unit)
abbrev Ul:=(List Int×Unit)
abbrev Um:Ty:=(.slice U2)
abbrev Un:Ty:=(.prod U4 (.prod U4 (.prod Ua .unit)))
abbrev Uo:=(Int×(List U5)×Unit)
abbrev Up:=(U3×U3×(List U3)×Unit)
abbrev Uq:=(List Int×Int×Int×Unit)
abbrev Ur:Ty:=(.prod U0 (.prod Ua .unit))
abbrev Us:=(List Int×Int×Unit)
abbrev Ut:=(List U3×Int×Int×Int×Int×Int×Unit)
abbrev Uu:=(List U1×Int×Int×Int×Int×Int×Unit)
abbrev Uv:=(Int×List U3×List Bool×Int×Int×Int×List Int×Int×List Int×Int×Bool×Int×List Int×Bool×Bool×List Int×List Int×List U3×List Int×List U3×Bool×Bool×List Int×Int×Int×Bool×Unit)
abbrev Uw:=(Int×List U3×List Uc×Int×List U3×Int×Int×List Int×Int×Int×Bool×List Int×Bool×Bool×List Int×Int×List Int×Int×Bool×Int×List Int×Bool×Bool×List Int×Int×Int×Unit)
abbrev Ux:Ty:=(.prod U0 (.prod U9 .unit))
abbrev Uy:=(Int×List Int×Int×List Int×Int×Bool×Bool×Bool×Bool×Int×Int×Bool×Int×Int×Int×Int×Int×Bool×Int×Int×Int×Int×Int×Int×Int×Int×Int×Bool×Unit)
abbrev Uz:=(List Int×Int×List Int×List Uc×List Ub×Int×Int×Unit)
abbrev V0:=(List U1×Int×List Int×List Uc×List Ub×Int×Int×Unit)
abbrev V1:=(Int×List Int×List Uc×List Ub×Int×Unit)
abbrev V2:=(Int×List Int×List Uc×List Ub×List (U1×Int)×List U1×List Int×Int×Int×Unit)
abbrev V3:=(List Int×Int×List Int×List Uc×List Ub×Int×Unit)
abbrev V4:=(List U1×Int×List Int×List Uc×List Ub×Int×Unit)
abbrev V5:=(Int×List U5×Int×Int×List Int×List Int×List U3×List U3×Int×List Int×List U1×List U1×Int×Int×Int×Int×Bool×Bool×Int×Int×Bool×Unit)
abbrev V6:=(List Int×Int×List Int×List Int×List U3×Int×List Int×Int×Int×Unit)
abbrev V7:=(List U3×Int×Unit)
abbrev V8:=(Int×List U3×Int×Unit)
abbrev V9:=(List Int×List Int×Unit)
abbrev Va:=(List Int×Int×List Int×List Int×List U3×List Int×Int×Int×Unit)
abbrev Vb:=(List U1×Int×List Int×List Uc×List Ub×Unit)
abbrev Vc:=(List Int×List Int×List Int×Int×Int×Unit)
abbrev Vd:=(Int×Int×List Int×List Uc×List Ub×Int×Int×Int×Bool×List U5×Int×Int×Int×Int×Bool×List Int×Int×Unit)
abbrev Ve:=(Int×List U5×Int×Int×List Int×List Int×List U3×List U3×Int×List Int×List U1×List U1×Int×Int×Bool×Unit)
abbrev Vf:=(Int×List Int×List Uc×List Ub×List (U1×Int)×List U1×List Int×Int×Int×List U1×Int×Int×Unit)
abbrev Vg:=(List Int×List Int×Int×Int×Unit)
abbrev Vh:=(Ui×Int×Unit)
abbrev Vi:=(List Int×List Int×List U3×Int×List Int×List Uc×List Ub×List Bool×List Int×Int×Int×Unit)
abbrev Vj:=(Int×List Int×List U3×List U3×Int×Int×Unit)
abbrev Vk:=(List Int×Int×List Int×List Uc×List Ub×Unit)
abbrev Vl:=(List Int×List Int×List Int×List U3×Int×List U3×Int×List Int×Int×Int×Int×Unit)
abbrev Vm:=(List Int×Int×List Int×List Int×List U3×List Int×Int×Int×Int×Int×Int×Unit)
abbrev Vn:=(Int×Int×List U5×Int×List Int×List Uc×List Ub×List Int×Int×Int×Unit)
abbrev ACb:AE:=[(.tmp 0,.dat U4),(.tmp 1,.dat U4)]
abbrev ACa:AE:=[(.tmp 0,.dat .bool)]
abbrev ACZ:List RS:=[.one]
abbrev AHJ:AE:=[(.tmp 0,.dat U4),(.tmp 1,.dat U4),(.tmp 5,.di)]
abbrev AHI:At:=[(.ret,[(.tmp 4,.dat .bool)]),(.exit 0,[])]
def E0[Lk]:(List Int×List Int×Int×Unit)→Option ((List Int×List Int×Int×Unit)⊕Uf⊕(Unit)⊕Unit):=fun(a0,a1,a2,_)=>
 match(ilt a2 (AG a0))with
 |true=>match idx a0 a2 with|none=>none|some x0=>match idx a1 a2 with|none=>none|some x1=>match(!(ieq x0 x1))with
  |true=>some (.inr (.inl (false,())))
  |false=>some (.inl (a0,a1,(IntKind.wrap .i64 (a2+1)),()))
 |false=>some (.inr (.inr (.inl ())))
def Rp[Lk]:V9→Option (Uf):=fun(a0,a1,_)=>
 match(!(ieq (AG a0) (AG a1)))with
 |true=>some (false,())
 |false=>match AS E0 many (a0,a1,0,())with|none=>none|some r=>match r with
 |.inl (o0,_)=>some (o0,())
 |.inr r=>match r with
 |.inl _=>some (true,())
 |.inr _=>none
def IL[Lk]:=fun v=>Lk.f (Rp v)
theorem AHK v:IL v=Rp v:=AH _
abbrev Zs:AE:=[(.tmp 0,.di)]
abbrev Zr:AE:=[(.tmp 0,.dat .bool)]
abbrev Zq:List RS:=[.one]
def Q5[Lk]:U8→Option (Uf):=fun(a0,_)=>
 match(ile 1 a0)with
 |true=>some ((ile a0 64),())
 |false=>some (false,())
def Mo[Lk]:=fun v=>Lk.f (Q5 v)
theorem AGF v:Mo v=Q5 v:=AH _
abbrev Abi:AE:=[(.tmp 0,.di),(.tmp 1,.di)]
abbrev Abh:AE:=[(.tmp 0,.dat .bool)]
abbrev Abg:List RS:=[.one]
def AVx[Lk]:U1→Option (Uf):=fun(a0,a1,_)=>
 match Mo (a0,())with|none=>none|some (y0,_)=>match y0 with
 |true=>match(ile 0 a1)with
  |true=>some ((ilt a1 a0),())
  |false=>some (false,())
 |false=>some (false,())
def tin[Lk]:=fun v=>Lk.f (AVx v)
theorem Abj v:tin v=AVx v:=AH _
abbrev ARL:AE:=[(.tmp 0,.di),(.tmp 1,.di),(.tmp 2,.di)]
abbrev ARK:AE:=[(.tmp 0,.di)]
abbrev ARJ:List RS:=[.one]
def AIf[Lk]:(Int×Int×Int×Unit)→Option (U8):=fun(a0,a1,a2,_)=>
 match(ieq a1 a2)with
 |true=>some ((-1:Int),())
 |false=>match tin (a0,a1,())with|none=>none|some (y0,_)=>match(!y0)with
 |true=>some ((-1:Int),())
 |false=>match tin (a0,a2,())with|none=>none|some (y1,_)=>match(!y1)with
 |true=>some ((-1:Int),())
 |false=>some ((IntKind.wrap .i64 ((IntKind.wrap .i64 (a0*(IntKind.wrap .i64 (a1+1))))+a2)),())
def AXx[Lk]:=fun v=>Lk.f (AIf v)
theorem AVy v:AXx v=AIf v:=AH _
abbrev Zo:AE:=[(.tmp 0,.di),(.tmp 1,.di)]
abbrev Zn:AE:=[(.tmp 0,.di),(.tmp 1,.di),(.tmp 2,.dat .bool),(.tmp 3,.dat .bool)]
abbrev Zm:List RS:=[.one,.one,.one,.one]
def Q4[Lk]:U1→Option ((Int×Int×Bool×Bool×Unit)):=fun(a0,a1,_)=>
 match Mo (a0,())with|none=>none|some (y0,_)=>match(!y0)with
 |true=>some (0,0,false,false,())
 |false=>match(ilt a1 0)with
 |true=>some (0,0,false,false,())
 |false=>match(ile (IntKind.wrap .i64 (a0*(IntKind.wrap .i64 (a0+1)))) a1)with
 |true=>some (0,0,false,false,())
 |false=>match(ilt a1 a0)with
 |true=>some (a1,0,false,true,())
 |false=>match quo? .i64 a1 a0 with|none=>none|some x1=>match rem? a1 a0 with|none=>none|some x2=>match(ieq (IntKind.wrap .i64 (x1-1)) x2)with
 |true=>some (0,0,false,false,())
 |false=>some ((IntKind.wrap .i64 (x1-1)),x2,true,true,())
def Zp[Lk]:=fun v=>Lk.f (Q4 v)
theorem AGE v:Zp v=Q4 v:=AH _
abbrev AIZ:AE:=[(.tmp 0,.di)]
abbrev AIY:AE:=[(.tmp 0,.di),(.tmp 1,.own 43 U4),(.tmp 2,.di)]
abbrev AIX:List RS:=[.agg 2,.one]
abbrev AMO:AE:=[(.tmp 2,.box 2),(.cell 0 0,.di),(.cell 0 1,.nil U4),(.tmp 4,.box 2),(.cell 1 0,.di),(.cell 1 1,.own 43 U4),(.tmp 12,.di),(.tmp 13,.di)]
abbrev AMN:At:=[(.exit 0,[(.tmp 2,.box 2),(.cell 0 0,.di),(.cell 0 1,.nil U4),(.tmp 4,.box 2),(.cell 1 0,.di),(.cell 1 1,.own 43 U4)])]
def Ht[Lk]:(Int×Int×List U3×Int×Int×Unit)→Option ((Int×Int×List U3×Int×Int×Unit)⊕(Int×Int×List U3×Unit)⊕Unit):=fun(a0,a1,a2,a3,a4,_)=>
 match(ilt a4 a3)with
 |true=>match(fits ((AG a2)+(AG ([([a4]:List (Int))]:List U3))))with
  |true=>some (.inl (a0,a1,(A2 a2 ([([a4]:List (Int))]:List U3)),a3,(IntKind.wrap .i64 (a4+1)),()))
  |false=>none
 |false=>some (.inr (.inl (a0,a1,a2,())))
def Y0[Lk]:U8→Option (V8):=fun(a0,_)=>
 match Mo (a0,())with|none=>none|some (y0,_)=>match(!y0)with
 |true=>some (0,([]:List U3),1,())
 |false=>match AS Ht many (0,a0,([]:List U3),a0,0,())with|none=>none|some r=>match r with
 |.inl (o1,o2,o3,_)=>some (o2,o3,0,())
 |.inr _=>none
def AMQ[Lk]:=fun v=>Lk.f (Y0 v)
theorem AMP v:AMQ v=Y0 v:=AH _
abbrev ACi:AE:=[(.tmp 0,.dat U4),(.tmp 1,.di)]
abbrev ACh:AE:=[(.tmp 0,.di)]
abbrev ACg:List RS:=[.one]
abbrev AHN:AE:=[(.tmp 0,.dat U4),(.tmp 1,.di),(.tmp 7,.di),(.tmp 8,.di)]
abbrev AHM:At:=[(.ret,[(.tmp 4,.di)]),(.exit 0,[])]
def Fz[Lk]:(List Int×Int×Int×Int×Unit)→Option ((List Int×Int×Int×Int×Unit)⊕U8⊕(Unit)⊕Unit):=fun(a0,a1,a2,a3,_)=>
 match(ilt a3 a2)with
 |true=>match idx a0 a3 with|none=>none|some x0=>match(ieq a1 x0)with
  |true=>some (.inr (.inl (a3,())))
  |false=>some (.inl (a0,a1,a2,(IntKind.wrap .i64 (a3+1)),()))
 |false=>some (.inr (.inr (.inl ())))
def Rr[Lk]:Us→Option (U8):=fun(a0,a1,_)=>
 match AS Fz many (a0,a1,(AG a0),0,())with|none=>none|some r=>match r with
 |.inl (o0,_)=>some (o0,())
 |.inr r=>match r with
 |.inl _=>some ((-1:Int),())
 |.inr _=>none
def QK[Lk]:=fun v=>Lk.f (Rr v)
theorem AHO v:QK v=Rr v:=AH _
abbrev Np:AE:=[(.tmp 0,.dat U4),(.tmp 1,.di)]
abbrev No:AE:=[(.tmp 0,.dat .bool)]
abbrev Nn:List RS:=[.one]
def JP[Lk]:Us→Option (Uf):=fun(a0,a1,_)=>
 match QK (a0,a1,())with|none=>none|some (y0,_)=>some ((ile 0 y0),())
def GH[Lk]:=fun v=>Lk.f (JP v)
theorem SO v:GH v=JP v:=AH _
abbrev ATf:AE:=[(.tmp 0,.dat U4)]
abbrev ATe:AE:=[(.tmp 0,.di)]
abbrev ATd:List RS:=[.one]
abbrev AWm:AE:=[(.tmp 0,.dat U4),(.tmp 3,.di),(.tmp 4,.di)]
abbrev AWl:At:=[(.exit 0,[(.tmp 3,.di)])]
def LL[Lk]:Uq→Option (Uq⊕U8⊕Unit):=fun(a0,a1,a2,_)=>
 match(ilt a2 (AG a0))with
 |true=>match idx a0 a2 with|none=>none|some x0=>some (.inl (a0,(Ci a1 x0),(IntKind.wrap .i64 (a2+1)),()))
 |false=>some (.inr (.inl (a1,())))
def AJ5[Lk]:Ul→Option (U8):=fun(a0,_)=>
 match(ilt (AG a0) 1)with
 |true=>none
 |false=>match idx a0 0 with|none=>none|some x0=>match AS LL many (a0,x0,1,())with|none=>none|some r=>match r with
 |.inl (o1,_)=>some (o1,())
 |.inr _=>none
def AZO[Lk]:=fun v=>Lk.f (AJ5 v)
theorem AWn v:AZO v=AJ5 v:=AH _
abbrev AKn:AE:=[(.tmp 0,.nil U0),(.tmp 1,.di)]
abbrev AKm:AE:=[(.tmp 0,.own 3 U0)]
abbrev AKl:List RS:=[.one]
def ZD[Lk]:U8→Option (Ul):=fun(a0,_)=>
 match(ilt a0 0)with
 |true=>none
 |false=>match(ilt 0 (IntKind.wrap .i64 (a0-(IntKind.wrap .i64 (0-0)))))with
 |true=>match Ce ([]:List Unit) 0 0 with|none=>none|some _u0=>match(D6 (IntKind.wrap .i64 (a0-(IntKind.wrap .i64 (0-0)))))with
  |true=>match Ce (EA (AN (IntKind.wrap .i64 (a0-(IntKind.wrap .i64 ((0:Int)-(0:Int)))))) (0:Int)) (0:Int) (0:Int)with|none=>none|some x1=>some ((Bp (AN (AG x1)) (EA (AN (IntKind.wrap .i64 (a0-(IntKind.wrap .i64 ((0:Int)-(0:Int)))))) (0:Int))),())
  |false=>none
 |false=>some (([]:List (Int)),())
def APU[Lk]:=fun v=>Lk.f (ZD v)
theorem APT v:APU v=ZD v:=AH _
abbrev WM:AE:=[(.tmp 0,.dat Ua)]
abbrev WL:AE:=[(.tmp 0,.own 3 U0)]
abbrev WK:List RS:=[.one]
abbrev ADe:AE:=[(.tmp 6,.own 3 U0),(.tmp 25,.dat Ua),(.tmp 26,.di),(.tmp 27,.di)]
abbrev ADc:At:=[(.exit 2,[(.tmp 6,.own 3 U0)])]
def EX[Lk]:(List Int×List U3×Int×Int×Unit)→Option ((List Int×List U3×Int×Int×Unit)⊕Ul⊕Unit):=fun(a0,a1,a2,a3,_)=>
 match(ilt a3 a2)with
 |true=>match idx a1 a3 with|none=>none|some x0=>match(fits ((AG a0)+(AG x0)))with
  |true=>some (.inl ((A2 a0 x0),a1,a2,(IntKind.wrap .i64 (a3+1)),()))
  |false=>none
 |false=>some (.inr (.inl (a0,())))
abbrev ADf:AE:=[(.tmp 0,.dat Ua),(.tmp 3,.di),(.tmp 9,.dat Ua),(.tmp 10,.di),(.tmp 11,.di)]
abbrev ADd:At:=[(.exit 0,[(.tmp 0,.dat Ua),(.tmp 3,.di)])]
def EY[Lk]:(List U3×Int×List U3×Int×Int×Unit)→Option ((List U3×Int×List U3×Int×Int×Unit)⊕V7⊕Unit):=fun(a0,a1,a2,a3,a4,_)=>
 match(ilt a4 a3)with
 |true=>match idx a2 a4 with|none=>none|some x0=>match(ilt (IntKind.wrap .i64 (a1+(AG x0))) 0)with
  |true=>none
  |false=>some (.inl (a0,(IntKind.wrap .i64 (a1+(AG x0))),a2,a3,(IntKind.wrap .i64 (a4+1)),()))
 |false=>some (.inr (.inl (a0,a1,())))
def Oe[Lk]:Uj→Option (Ul):=fun(a0,_)=>
 match AS EY many (a0,0,a0,(AG a0),0,())with|none=>none|some r=>match r with
 |.inl (o0,o1,_)=>match APU (o1,())with|none=>none|some (y2,_)=>match AS EX many (y2,o0,(AG o0),0,())with|none=>none|some r=>match r with
  |.inl (o3,_)=>some (o3,())
  |.inr _=>none
 |.inr _=>none
def JQ[Lk]:=fun v=>Lk.f (Oe v)
theorem ADg v:JQ v=Oe v:=AH _
abbrev IS:AE:=[(.tmp 0,.dat U4),(.tmp 1,.clo 96 [])]
abbrev IQ:AE:=[(.tmp 0,.di)]
abbrev IP:List RS:=[.one]
abbrev MR:AE:=[(.tmp 0,.dat U4),(.tmp 1,.clo 96 []),(.tmp 7,.di),(.tmp 8,.di)]
abbrev MQ:At:=[(.ret,[(.tmp 4,.di)]),(.exit 0,[])]
def CA[Lk]:Uq→Option (Uq⊕U8⊕(Unit)⊕Unit):=fun(a0,a1,a2,_)=>
 match(ilt a2 a1)with
 |true=>match idx a0 a2 with|none=>none|some x0=>match(ilt x0 0)with
  |true=>some (.inr (.inl (a2,())))
  |false=>match(ilt 10000 x0)with
  |true=>some (.inr (.inl (a2,())))
  |false=>some (.inl (a0,a1,(IntKind.wrap .i64 (a2+1)),()))
 |false=>some (.inr (.inr (.inl ())))
def FI[Lk]:Ul→Option (U8):=fun(a0,_)=>
 match AS CA many (a0,(AG a0),0,())with|none=>none|some r=>match r with
 |.inl (o0,_)=>some (o0,())
 |.inr r=>match r with
 |.inl _=>some ((-1:Int),())
 |.inr _=>none
def HR[Lk]:=fun v=>Lk.f (FI v)
theorem MT v:HR v=FI v:=AH _
abbrev HA:AE:=[(.tmp 0,.dat U4),(.tmp 1,.clo 96 [])]
abbrev G9:AE:=[(.tmp 0,.dat .bool)]
abbrev G8:List RS:=[.one]
def EI[Lk]:Ul→Option (Uf):=fun(a0,_)=>
 match HR (a0,())with|none=>none|some (y0,_)=>some ((ile 0 y0),())
def ED[Lk]:=fun v=>Lk.f (EI v)
theorem Kh v:ED v=EI v:=AH _
abbrev ATQ:AE:=[(.tmp 0,.dat U4)]
abbrev ATP:AE:=[(.tmp 0,.dat .bool)]
abbrev ATO:List RS:=[.one]
abbrev AWf:AE:=[(.tmp 0,.dat U4),(.tmp 3,.map U0 U0),(.tmp 7,.dat U4),(.tmp 8,.di),(.tmp 9,.di)]
abbrev AWe:At:=[(.exit 0,[(.tmp 0,.dat U4),(.tmp 3,.map U0 U0)])]
def LG[Lk]:(List Int×List Uc×List Int×Int×Int×Unit)→Option ((List Int×List Uc×List Int×Int×Int×Unit)⊕(List Int×List Uc×Unit)⊕Unit):=fun(a0,a1,a2,a3,a4,_)=>
 match(ilt a4 a3)with
 |true=>match idx a2 a4 with|none=>none|some x0=>some (.inl (a0,(Af a1 x0 (IntKind.wrap .i64 (((AP a1 x0).getD 0)+1))),a2,a3,(IntKind.wrap .i64 (a4+1)),()))
 |false=>some (.inr (.inl (a0,a1,())))
def AJz[Lk]:Ul→Option (Uf):=fun(a0,_)=>
 match AS LG many (a0,([]:List Uc),a0,(AG a0),0,())with|none=>none|some r=>match r with
 |.inl (o0,o1,_)=>some ((ieq (AG o1) (AG o0)),())
 |.inr _=>none
def once[Lk]:=fun v=>Lk.f (AJz v)
theorem AWg v:once v=AJz v:=AH _
abbrev AAm:AE:=[(.tmp 0,.dat U4)]
abbrev AAl:AE:=[(.tmp 0,.dat .bool)]
abbrev AAk:List RS:=[.one]
def RN[Lk]:Ul→Option (Uf):=fun(a0,_)=>
 match(ilt 1000 (AG a0))with
 |true=>some (false,())
 |false=>match ED (a0,())with|none=>none|some (y0,_)=>match(!y0)with
 |true=>match once (a0,())with|none=>none|some (y1,_)=>some (y1,())
 |false=>some (false,())
def K8[Lk]:=fun v=>Lk.f (RN v)
theorem AGl v:K8 v=RN v:=AH _
abbrev Zl:AE:=[(.tmp 0,.dat U4),(.tmp 1,.di)]
abbrev Zk:AE:=[(.tmp 0,.own 3 U0)]
abbrev Zj:List RS:=[.one]
def Q3[Lk]:Us→Option (Ul):=fun(a0,a1,_)=>
 match Ce a0 a1 (AG a0)with|none=>none|some x0=>match Ce a0 0 a1 with|none=>none|some x1=>match JQ (([x0,x1]:List U3),())with|none=>none|some (y2,_)=>some (y2,())
def TO[Lk]:=fun v=>Lk.f (Q3 v)
theorem AGD v:TO v=Q3 v:=AH _
abbrev ABC:AE:=[(.tmp 0,.dat U4),(.tmp 1,.dat U4)]
abbrev ABB:AE:=[(.tmp 0,.own 3 U0),(.tmp 1,.dat .bool)]
abbrev ABA:List RS:=[.one,.one]
abbrev AGw:AE:=[(.tmp 0,.dat U4),(.tmp 6,.own 3 U0),(.tmp 12,.dat U4),(.tmp 13,.di),(.tmp 14,.di)]
abbrev AGv:At:=[(.exit 0,[(.tmp 6,.own 3 U0)])]
def Es[Lk]:Vc→Option (Vc⊕Ul⊕Unit):=fun(a0,a1,a2,a3,a4,_)=>
 match(ilt a4 a3)with
 |true=>match idx a2 a4 with|none=>none|some x0=>match QK (a0,x0,())with|none=>none|some (y1,_)=>match(fits ((AG a1)+(AG ([y1]:List (Int)))))with
  |true=>some (.inl (a0,(A2 a1 ([y1]:List (Int))),a2,a3,(IntKind.wrap .i64 (a4+1)),()))
  |false=>none
 |false=>some (.inr (.inl (a1,())))
def Rc[Lk]:V9→Option ((List Int×Bool×Unit)):=fun(a0,a1,_)=>
 match K8 (a0,())with|none=>none|some (y0,_)=>match(!y0)with
 |true=>some (([]:List (Int)),false,())
 |false=>match AS Es many (a0,([]:List (Int)),a1,(AG a1),0,())with|none=>none|some r=>match r with
 |.inl (o1,_)=>match GH (o1,(-1:Int),())with|none=>none|some (y2,_)=>some (o1,(!y2),())
 |.inr _=>none
def places[Lk]:=fun v=>Lk.f (Rc v)
theorem AGx v:places v=Rc v:=AH _
abbrev AJO:AE:=[(.tmp 0,.dat U4),(.tmp 1,.di)]
abbrev AJN:AE:=[(.tmp 0,.own 3 U0),(.tmp 1,.dat .bool)]
abbrev AJM:List RS:=[.one,.one]
def Y5[Lk]:Us→Option ((List Int×Bool×Unit)):=fun(a0,a1,_)=>
 match places (a0,([a1]:List (Int)),())with|none=>none|some (y0,y1,_)=>match(!y1)with
 |true=>some (([]:List (Int)),false,())
 |false=>match idx y0 0 with|none=>none|some x2=>match TO (a0,(AY y0 0 0),())with|none=>none|some (y3,_)=>some (y3,true,())
def AGo[Lk]:=fun v=>Lk.f (Y5 v)
theorem ANF v:AGo v=Y5 v:=AH _
abbrev AAp:AE:=[(.tmp 0,.dat U4)]
abbrev AAo:AE:=[(.tmp 0,.own 3 U0)]
abbrev AAn:List RS:=[.one]
def RO[Lk]:Ul→Option (Ul):=fun(a0,_)=>
 match K8 (a0,())with|none=>none|some (y0,_)=>match(!y0)with
 |true=>some (([]:List (Int)),())
 |false=>match(ieq (AG a0) 0)with
 |true=>some (([]:List (Int)),())
 |false=>match AZO (a0,())with|none=>none|some (y1,_)=>match QK (a0,y1,())with|none=>none|some (y2,_)=>match TO (a0,y2,())with|none=>none|some (y3,_)=>some (y3,())
def AAq[Lk]:=fun v=>Lk.f (RO v)
theorem AGm v:AAq v=RO v:=AH _
abbrev F6:AE:=[(.tmp 0,.dat Ua),(.cap 1 0,.box 1),(.cell 0 0,.di),(.tmp 1,.clo 113 [(0,0)])]
abbrev F5:AE:=[(.obj 0,.box 1),(.cell 0 0,.di),(.tmp 0,.di)]
abbrev F4:List RS:=[.one]
abbrev I9:AE:=[(.obj 0,.box 1),(.cell 0 0,.di),(.tmp 0,.dat Ua),(.tmp 1,.clo 113 [(0,0)]),(.tmp 7,.di),(.tmp 8,.di)]
abbrev I8:At:=[(.ret,[(.obj 0,.box 1),(.cell 0 0,.di),(.tmp 4,.di)]),(.exit 0,[(.obj 0,.box 1),(.cell 0 0,.di)])]
def Bj[Lk]:(Int×List U3×Int×Int×Unit)→Option ((Int×List U3×Int×Int×Unit)⊕U1⊕U8⊕Unit):=fun(a0,a1,a2,a3,_)=>
 match(ilt a3 a2)with
 |true=>match idx a1 a3 with|none=>none|some x0=>match GH (x0,a0,())with|none=>none|some (y1,_)=>match y1 with
  |true=>some (.inr (.inl (a0,a3,())))
  |false=>some (.inl (a0,a1,a2,(IntKind.wrap .i64 (a3+1)),()))
 |false=>some (.inr (.inr (.inl (a0,()))))
def Dy[Lk]:V7→Option (U1):=fun(a0,a1,_)=>
 match AS Bj many (a1,a0,(AG a0),0,())with|none=>none|some r=>match r with
 |.inl (o0,o1,_)=>some (o0,o1,())
 |.inr r=>match r with
 |.inl (o2,_)=>some (o2,(-1:Int),())
 |.inr _=>none
def FG[Lk]:=fun v=>Lk.f (Dy v)
theorem JA v:FG v=Dy v:=AH _
abbrev Z2:AE:=[(.tmp 0,.dat Ur),(.tmp 1,.di)]
abbrev Z1:AE:=[(.tmp 0,.di)]
abbrev Z0:List RS:=[.one]
def Q7[Lk]:Vh→Option (U8):=fun(a0,a1,_)=>
 match FG (a0.2.1,a1,())with|none=>none|some (y0,y1,_)=>some (y1,())
def Pc[Lk]:=fun v=>Lk.f (Q7 v)
theorem AGN v:Pc v=Q7 v:=AH _
abbrev AUX:AE:=[(.tmp 0,.di),(.tmp 1,.dat U4)]
abbrev AUW:AE:=[(.tmp 0,.dat .bool)]
abbrev AUV:List RS:=[.one]
abbrev AW9:AE:=[(.tmp 0,.di),(.tmp 5,.box 3),(.cell 0 0,.own 3 U0),(.cell 0 1,.map U0 U0),(.cell 0 2,.map U0 U0),(.tmp 30,.dat U4),(.tmp 31,.di),(.tmp 32,.di)]
abbrev AW8:At:=[(.ret,[(.tmp 4,.dat .bool)]),(.exit 0,[(.tmp 5,.box 3),(.cell 0 0,.own 3 U0),(.cell 0 1,.map U0 U0),(.cell 0 2,.map U0 U0)])]
def JH[Lk]:(Int×List Int×List Uc×List Uc×List Int×Int×Int×Unit)→Option ((Int×List Int×List Uc×List Uc×List Int×Int×Int×Unit)⊕Uf⊕(List Int×List Uc×List Uc×Unit)⊕Unit):=fun(a0,a1,a2,a3,a4,a5,a6,_)=>
 match(ilt a6 a5)with
 |true=>match idx a4 a6 with|none=>none|some x0=>match Zp (a0,x0,())with|none=>none|some (y1,y2,y3,y4,_)=>match(!y4)with
  |true=>some (.inr (.inl (false,())))
  |false=>match y3 with
  |true=>match idx a1 (IntKind.wrap .i64 ((AG a1)-1))with|none=>none|some x5=>match(!(ieq (AY a1 (AN (IntKind.wrap .i64 ((AG a1)-1))) 0) y1))with
   |true=>some (.inr (.inl (false,())))
   |false=>match(ilt 0 (IntKind.wrap .i64 ((AG a1)-1)))with
   |true=>match idx a1 (IntKind.wrap .i64 ((IntKind.wrap .i64 ((AG a1)-1))-1))with|none=>none|some x6=>match(ieq (AY a1 (AN (IntKind.wrap .i64 ((IntKind.wrap .i64 ((AG a1)-1))-1))) 0) y2)with
    |true=>match Ce a1 0 (IntKind.wrap .i64 ((AG a1)-1))with|none=>none|some x7=>match(!y3)with
     |true=>match idx (DK 0 (AN (AG x7)) a1) (IntKind.wrap .i64 ((((AN (AG x7)):Nat):Int)-1))with|none=>none|some x8=>match(!(ieq (AY a1 (0+(AN (IntKind.wrap .i64 ((((AN (AG x7)):Nat):Int)-1)))) 0) y1))with
      |true=>some (.inr (.inl (false,())))
      |false=>match(!y3)with
      |true=>some (.inl (a0,(Bp (AN (AG x7)) a1),a2,(Af a3 y1 (IntKind.wrap .i64 (((AP a3 y1).getD 0)+1))),a4,a5,(IntKind.wrap .i64 (a6+1)),()))
      |false=>some (.inl (a0,(Bp (AN (AG x7)) a1),a2,a3,a4,a5,(IntKind.wrap .i64 (a6+1)),()))
     |false=>match(!y3)with
     |true=>some (.inl (a0,(Bp (AN (AG x7)) a1),a2,(Af a3 y1 (IntKind.wrap .i64 (((AP a3 y1).getD 0)+1))),a4,a5,(IntKind.wrap .i64 (a6+1)),()))
     |false=>some (.inl (a0,(Bp (AN (AG x7)) a1),a2,a3,a4,a5,(IntKind.wrap .i64 (a6+1)),()))
    |false=>match(ilt 0 ((AP a2 y2).getD 0))with
    |true=>some (.inr (.inl (false,())))
    |false=>match(fits ((AG a1)+(AG ([y2]:List (Int)))))with
    |true=>match(!y3)with
     |true=>match idx (A2 a1 ([y2]:List (Int))) (IntKind.wrap .i64 ((AG (A2 a1 ([y2]:List (Int))))-1))with|none=>none|some x9=>match(!(ieq (AY (A2 a1 ([y2]:List (Int))) (AN (IntKind.wrap .i64 ((AG (A2 a1 ([y2]:List (Int))))-1))) 0) y1))with
      |true=>some (.inr (.inl (false,())))
      |false=>match(!y3)with
      |true=>some (.inl (a0,(A2 a1 ([y2]:List (Int))),(Af a2 y2 (IntKind.wrap .i64 (((AP a2 y2).getD 0)+1))),(Af a3 y1 (IntKind.wrap .i64 (((AP a3 y1).getD 0)+1))),a4,a5,(IntKind.wrap .i64 (a6+1)),()))
      |false=>some (.inl (a0,(A2 a1 ([y2]:List (Int))),(Af a2 y2 (IntKind.wrap .i64 (((AP a2 y2).getD 0)+1))),a3,a4,a5,(IntKind.wrap .i64 (a6+1)),()))
     |false=>match(!y3)with
     |true=>some (.inl (a0,(A2 a1 ([y2]:List (Int))),(Af a2 y2 (IntKind.wrap .i64 (((AP a2 y2).getD 0)+1))),(Af a3 y1 (IntKind.wrap .i64 (((AP a3 y1).getD 0)+1))),a4,a5,(IntKind.wrap .i64 (a6+1)),()))
     |false=>some (.inl (a0,(A2 a1 ([y2]:List (Int))),(Af a2 y2 (IntKind.wrap .i64 (((AP a2 y2).getD 0)+1))),a3,a4,a5,(IntKind.wrap .i64 (a6+1)),()))
    |false=>none
   |false=>match(ilt 0 ((AP a2 y2).getD 0))with
   |true=>some (.inr (.inl (false,())))
   |false=>match(fits ((AG a1)+(AG ([y2]:List (Int)))))with
   |true=>match(!y3)with
    |true=>match idx (A2 a1 ([y2]:List (Int))) (IntKind.wrap .i64 ((AG (A2 a1 ([y2]:List (Int))))-1))with|none=>none|some x10=>match(!(ieq (AY (A2 a1 ([y2]:List (Int))) (AN (IntKind.wrap .i64 ((AG (A2 a1 ([y2]:List (Int))))-1))) 0) y1))with
     |true=>some (.inr (.inl (false,())))
     |false=>match(!y3)with
     |true=>some (.inl (a0,(A2 a1 ([y2]:List (Int))),(Af a2 y2 (IntKind.wrap .i64 (((AP a2 y2).getD 0)+1))),(Af a3 y1 (IntKind.wrap .i64 (((AP a3 y1).getD 0)+1))),a4,a5,(IntKind.wrap .i64 (a6+1)),()))
     |false=>some (.inl (a0,(A2 a1 ([y2]:List (Int))),(Af a2 y2 (IntKind.wrap .i64 (((AP a2 y2).getD 0)+1))),a3,a4,a5,(IntKind.wrap .i64 (a6+1)),()))
    |false=>match(!y3)with
    |true=>some (.inl (a0,(A2 a1 ([y2]:List (Int))),(Af a2 y2 (IntKind.wrap .i64 (((AP a2 y2).getD 0)+1))),(Af a3 y1 (IntKind.wrap .i64 (((AP a3 y1).getD 0)+1))),a4,a5,(IntKind.wrap .i64 (a6+1)),()))
    |false=>some (.inl (a0,(A2 a1 ([y2]:List (Int))),(Af a2 y2 (IntKind.wrap .i64 (((AP a2 y2).getD 0)+1))),a3,a4,a5,(IntKind.wrap .i64 (a6+1)),()))
   |false=>none
  |false=>match(!y3)with
  |true=>match idx a1 (IntKind.wrap .i64 ((AG a1)-1))with|none=>none|some x11=>match(!(ieq (AY a1 (AN (IntKind.wrap .i64 ((AG a1)-1))) 0) y1))with
   |true=>some (.inr (.inl (false,())))
   |false=>match(!y3)with
   |true=>some (.inl (a0,a1,a2,(Af a3 y1 (IntKind.wrap .i64 (((AP a3 y1).getD 0)+1))),a4,a5,(IntKind.wrap .i64 (a6+1)),()))
   |false=>some (.inl (a0,a1,a2,a3,a4,a5,(IntKind.wrap .i64 (a6+1)),()))
  |false=>match(!y3)with
  |true=>some (.inl (a0,a1,a2,(Af a3 y1 (IntKind.wrap .i64 (((AP a3 y1).getD 0)+1))),a4,a5,(IntKind.wrap .i64 (a6+1)),()))
  |false=>some (.inl (a0,a1,a2,a3,a4,a5,(IntKind.wrap .i64 (a6+1)),()))
 |false=>some (.inr (.inr (.inl (a1,a2,a3,()))))
def AKp[Lk]:(Int×List Int×Unit)→Option (Uf):=fun(a0,a1,_)=>
 match idx a1 0 with|none=>none|some x0=>match tin (a0,x0,())with|none=>none|some (y1,_)=>match(!y1)with
 |true=>some (false,())
 |false=>match idx a1 0 with|none=>none|some x2=>match idx a1 0 with|none=>none|some x3=>match AS JH many (a0,([x2]:List (Int)),(Af ([]:List Uc) x3 1),([]:List Uc),a1,(AG a1),0,())with|none=>none|some r=>match r with
 |.inl (o4,_)=>some (o4,())
 |.inr r=>match r with
 |.inl (o5,o6,o7,_)=>match(ieq (AG o5) 1)with
  |true=>some ((ieq (AG o7) (AG o6)),())
  |false=>some (false,())
 |.inr _=>none
def goes[Lk]:=fun v=>Lk.f (AKp v)
theorem AXA v:goes v=AKp v:=AH _
abbrev Zy:AE:=[(.tmp 0,.dat Ur)]
abbrev Zx:AE:=[(.tmp 0,.dat .bool)]
abbrev Zw:List RS:=[.one]
abbrev AGJ:AE:=[(.tmp 3,.map U0 U0),(.tmp 78,.di),(.tmp 79,.di)]
abbrev AGG:At:=[(.ret,[(.tmp 2,.dat .bool)]),(.exit 4,[])]
def Ej[Lk]:(List Uc×Int×Int×Unit)→Option ((List Uc×Int×Int×Unit)⊕Uf⊕(Unit)⊕Unit):=fun(a0,a1,a2,_)=>
 match(ilt a2 a1)with
 |true=>match(ieq ((AP a0 a2).getD 0) 0)with
  |true=>some (.inr (.inl (false,())))
  |false=>some (.inl (a0,a1,(IntKind.wrap .i64 (a2+1)),()))
 |false=>some (.inr (.inr (.inl ())))
abbrev AGK:AE:=[(.tmp 1,.box 2),(.cell 0 0,.di),(.cell 0 1,.dat Ua),(.tmp 3,.map U0 U0),(.tmp 4,.di),(.tmp 16,.dat Ua),(.tmp 17,.di),(.tmp 18,.di),(.tmp 26,.dat U4),(.tmp 28,.di),(.tmp 29,.di),(.tmp 30,.dat .bool),(.tmp 33,.dat U4),(.tmp 34,.dat .bool),(.tmp 35,.dat .bool),(.tmp 38,.dat U4),(.tmp 39,.di),(.tmp 40,.dat U4),(.tmp 42,.di),(.tmp 43,.dat .bool),(.tmp 46,.ptr' 0 0),(.tmp 47,.di),(.tmp 48,.dat U4),(.tmp 49,.dat .bool),(.tmp 50,.dat .bool),(.tmp 55,.dat U4),(.tmp 56,.di),(.tmp 57,.di)]
abbrev AGH:At:=[(.ret,[(.tmp 2,.dat .bool)]),(.exit 2,[(.tmp 1,.box 2),(.cell 0 0,.di),(.cell 0 1,.dat Ua),(.tmp 3,.map U0 U0),(.tmp 4,.di),(.tmp 16,.dat Ua),(.tmp 17,.di),(.tmp 18,.di),(.tmp 26,.dat U4),(.tmp 28,.di),(.tmp 29,.di),(.tmp 30,.dat .bool),(.tmp 33,.dat U4),(.tmp 34,.dat .bool),(.tmp 35,.dat .bool),(.tmp 38,.dat U4),(.tmp 39,.di),(.tmp 40,.dat U4),(.tmp 42,.di),(.tmp 43,.dat .bool),(.tmp 46,.ptr' 0 0),(.tmp 47,.di),(.tmp 48,.dat U4),(.tmp 49,.dat .bool),(.tmp 50,.dat .bool)])]
def Dn[Lk]:Uw→Option (Uw⊕Uf⊕(Int×List U3×List Uc×Int×List U3×Int×Int×List Int×Int×Int×Bool×List Int×Bool×Bool×List Int×Int×List Int×Int×Bool×Int×List Int×Bool×Bool×Unit)⊕Unit):=fun(a0,a1,a2,a3,a4,a5,a6,a7,a8,a9,a10,a11,a12,a13,a14,a15,a16,a17,a18,a19,a20,a21,a22,a23,a24,a25,_)=>
 match(ilt a25 a24)with
 |true=>match idx a23 a25 with|none=>none|some x0=>match(ilt x0 a0)with
  |true=>match(ilt 0 ((AP a2 x0).getD 0))with
   |true=>some (.inr (.inl (false,())))
   |false=>some (.inl (a0,a1,(Af a2 x0 (IntKind.wrap .i64 (((AP a2 x0).getD 0)+1))),a3,a4,a5,a6,a7,a8,a9,a10,a11,a12,a13,a14,a15,a16,a17,a18,a19,a20,a21,a22,a23,a24,(IntKind.wrap .i64 (a25+1)),()))
  |false=>some (.inl (a0,a1,(Af a2 x0 (IntKind.wrap .i64 (((AP a2 x0).getD 0)+1))),a3,a4,a5,a6,a7,a8,a9,a10,a11,a12,a13,a14,a15,a16,a17,a18,a19,a20,a21,a22,a23,a24,(IntKind.wrap .i64 (a25+1)),()))
 |false=>some (.inr (.inr (.inl (a0,a1,a2,a3,a4,a5,a6,a7,a8,a9,a10,a11,a12,a13,a14,a15,a16,a17,a18,a19,a20,a21,a22,()))))
abbrev AGL:AE:=[(.tmp 1,.box 2),(.cell 0 0,.di),(.cell 0 1,.dat Ua),(.tmp 3,.map U0 U0),(.tmp 4,.di),(.tmp 16,.dat Ua),(.tmp 17,.di),(.tmp 18,.di)]
abbrev AGI:At:=[(.ret,[(.tmp 2,.dat .bool)]),(.exit 0,[(.tmp 1,.box 2),(.cell 0 0,.di),(.cell 0 1,.dat Ua),(.tmp 3,.map U0 U0)])]
def Dp[Lk]:(Int×List U3×List Uc×Int×List U3×Int×Int×Unit)→Option ((Int×List U3×List Uc×Int×List U3×Int×Int×Unit)⊕Uf⊕(Int×List U3×List Uc×Unit)⊕Unit):=fun(a0,a1,a2,a3,a4,a5,a6,_)=>
 match(ilt a6 a5)with
 |true=>match idx a4 a6 with|none=>none|some x0=>match(ieq (AG x0) 0)with
  |true=>some (.inr (.inl (false,())))
  |false=>match idx x0 0 with|none=>none|some x1=>match(ile x1 a3)with
  |true=>some (.inr (.inl (false,())))
  |false=>match K8 (x0,())with|none=>none|some (y2,_)=>match(!y2)with
  |true=>some (.inr (.inl (false,())))
  |false=>match AZO (x0,())with|none=>none|some (y3,_)=>match idx x0 0 with|none=>none|some x4=>match(!(ieq y3 x4))with
  |true=>some (.inr (.inl (false,())))
  |false=>match goes (a0,x0,())with|none=>none|some (y5,_)=>match(!y5)with
  |true=>some (.inr (.inl (false,())))
  |false=>match idx x0 0 with|none=>none|some x6=>match AS Dn many (a0,a1,a2,x6,a4,a5,a6,x0,x1,a3,(ile x1 a3),x0,y2,(!y2),x0,y3,x0,x4,(!(ieq y3 x4)),a0,x0,y5,(!y5),x0,(AG x0),0,())with|none=>none|some r=>match r with
  |.inl (o7,_)=>some (.inr (.inl (o7,())))
  |.inr r=>match r with
  |.inl (o8,o9,o10,o11,o12,o13,o14,o15,o16,o17,o18,o19,o20,o21,o22,o23,o24,o25,o26,o27,o28,o29,o30,_)=>some (.inl (o8,o9,o10,o11,o12,o13,(IntKind.wrap .i64 (o14+1)),()))
  |.inr _=>none
 |false=>some (.inr (.inr (.inl (a0,a1,a2,()))))
def Q6[Lk]:(Ui×Unit)→Option (Uf):=fun(a0,_)=>
 match Mo (a0.1,())with|none=>none|some (y0,_)=>match(!y0)with
 |true=>some (false,())
 |false=>match AS Dp many (a0.1,a0.2.1,([]:List Uc),(-1:Int),a0.2.1,(AG a0.2.1),0,())with|none=>none|some r=>match r with
 |.inl (o1,_)=>some (o1,())
 |.inr r=>match r with
 |.inl (o2,o3,o4,_)=>match AS Ej many (o4,o2,0,())with|none=>none|some r=>match r with
  |.inl (o5,_)=>some (o5,())
  |.inr r=>match r with
  |.inl _=>some (true,())
  |.inr _=>none
 |.inr _=>none
def Pb[Lk]:=fun v=>Lk.f (Q6 v)
theorem AGM v:Pb v=Q6 v:=AH _
abbrev ALU:AE:=[(.tmp 0,.dat Ur),(.tmp 1,.di),(.tmp 2,.di)]
abbrev ALT:AE:=[(.tmp 0,.di)]
abbrev ALS:List RS:=[.one]
def ZH[Lk]:(Ui×Int×Int×Unit)→Option (U8):=fun(a0,a1,a2,_)=>
 match Pb ((a0.1,(a0.2.1,())),())with|none=>none|some (y0,_)=>match(!y0)with
 |true=>some (1,())
 |false=>match tin (a0.1,a1,())with|none=>none|some (y1,_)=>match(!y1)with
 |true=>some (10,())
 |false=>match tin (a0.1,a2,())with|none=>none|some (y2,_)=>match(!y2)with
 |true=>some (10,())
 |false=>some (0,())
def asked[Lk]:=fun v=>Lk.f (ZH v)
theorem AQS v:asked v=ZH v:=AH _
abbrev ATa:AE:=[(.tmp 0,.di)]
abbrev ATZ:AE:=[(.tmp 0,.dat .bool)]
abbrev ATY:List RS:=[.one]
def LK[Lk]:U8→Option (Uf):=fun(a0,_)=>
 some ((!(ieq a0 a0)),())
def AdW[Lk]:=fun v=>Lk.f (LK v)
theorem LJ v:AdW v=LK v:=AH _
abbrev Qa:AE:=[(.tmp 0,.di),(.tmp 1,.di)]
abbrev QZ:AE:=[(.tmp 0,.di)]
abbrev QY:List RS:=[.one]
def EZ[Lk]:U1→Option (U8):=fun(a0,a1,_)=>
 match AdW (a0,())with|none=>none|some (y0,_)=>match AdW (a1,())with|none=>none|some (y1,_)=>match y0 with
 |true=>match y1 with
  |true=>some (0,())
  |false=>some ((-1:Int),())
 |false=>match y1 with
 |true=>some (1,())
 |false=>match(ilt a0 a1)with
 |true=>some ((-1:Int),())
 |false=>match(ilt a1 a0)with
 |true=>some (1,())
 |false=>some (0,())
def Dh[Lk]:=fun v=>Lk.f (EZ v)
theorem G1 v:Dh v=EZ v:=AH _
abbrev AH7:AE:=[(.tmp 0,.dat U4),(.tmp 1,.dat U4)]
abbrev AH6:AE:=[(.tmp 0,.di)]
abbrev AH5:List RS:=[.one]
def Yw[Lk]:V9→Option (U8):=fun(a0,a1,_)=>
 match idx a0 0 with|none=>none|some x0=>match idx a1 0 with|none=>none|some x1=>match Dh (x0,x1,())with|none=>none|some (y2,_)=>some (y2,())
def BP[Lk]:=fun v=>Lk.f (Yw v)
theorem ALu v:BP v=Yw v:=AH _
def G7:List Int:=[0,1,2,2,3,3,3,3,4,4,4,4,4,4,4,4,5,5,5,5,5,5,5,5,5,5,5,5,5,5,5,5,6,6,6,6,6,6,6,6,6,6,6,6,6,6,6,6,6,6,6,6,6,6,6,6,6,6,6,6,6,6,6,6,7,7,7,7,7,7,7,7,7,7,7,7,7,7,7,7,7,7,7,7,7,7,7,7,7,7,7,7,7,7,7,7,7,7,7,7,7,7,7,7,7,7,7,7,7,7,7,7,7,7,7,7,7,7,7,7,7,7,7,7,7,7,7,7,8,8,8,8,8,8,8,8,8,8,8,8,8,8,8,8,8,8,8,8,8,8,8,8,8,8,8,8,8,8,8,8,8,8,8,8,8,8,8,8,8,8,8,8,8,8,8,8,8,8,8,8,8,8,8,8,8,8,8,8,8,8,8,8,8,8,8,8,8,8,8,8,8,8,8,8,8,8,8,8,8,8,8,8,8,8,8,8,8,8,8,8,8,8,8,8,8,8,8,8,8,8,8,8,8,8,8,8,8,8,8,8,8,8,8,8,8,8,8,8,8,8,8,8,8,8,8,8]
abbrev AKS:AE:=[(.tmp 0,.dat (.int .u64))]
abbrev AKR:AE:=[(.tmp 0,.di)]
abbrev AKQ:List RS:=[.one]
def ZC[Lk]:U8→Option (U8):=fun(a0,_)=>
 match(ile 4294967296 a0)with
 |true=>match shr? .u64 a0 32 with|none=>none|some x0=>match(ile 65536 x0)with
  |true=>match shr? .u64 x0 16 with|none=>none|some x1=>match(ile 256 x1)with
   |true=>match shr? .u64 x1 8 with|none=>none|some x2=>match idx G7 (IntKind.wrap .u8 x2)with|none=>none|some x3=>some ((IntKind.wrap .i64 ((IntKind.wrap .i64 ((IntKind.wrap .i64 (32+16))+8))+(IntKind.wrap .i64 x3))),())
   |false=>match idx G7 (IntKind.wrap .u8 x1)with|none=>none|some x4=>some ((IntKind.wrap .i64 ((IntKind.wrap .i64 (32+16))+(IntKind.wrap .i64 x4))),())
  |false=>match(ile 256 x0)with
  |true=>match shr? .u64 x0 8 with|none=>none|some x5=>match idx G7 (IntKind.wrap .u8 x5)with|none=>none|some x6=>some ((IntKind.wrap .i64 ((IntKind.wrap .i64 (32+8))+(IntKind.wrap .i64 x6))),())
  |false=>match idx G7 (IntKind.wrap .u8 x0)with|none=>none|some x7=>some ((IntKind.wrap .i64 (32+(IntKind.wrap .i64 x7))),())
 |false=>match(ile 65536 a0)with
 |true=>match shr? .u64 a0 16 with|none=>none|some x8=>match(ile 256 x8)with
  |true=>match shr? .u64 x8 8 with|none=>none|some x9=>match idx G7 (IntKind.wrap .u8 x9)with|none=>none|some x10=>some ((IntKind.wrap .i64 ((IntKind.wrap .i64 ((IntKind.wrap .i64 (0+16))+8))+(IntKind.wrap .i64 x10))),())
  |false=>match idx G7 (IntKind.wrap .u8 x8)with|none=>none|some x11=>some ((IntKind.wrap .i64 ((IntKind.wrap .i64 (0+16))+(IntKind.wrap .i64 x11))),())
 |false=>match(ile 256 a0)with
 |true=>match shr? .u64 a0 8 with|none=>none|some x12=>match idx G7 (IntKind.wrap .u8 x12)with|none=>none|some x13=>some ((IntKind.wrap .i64 ((IntKind.wrap .i64 (0+8))+(IntKind.wrap .i64 x13))),())
 |false=>match idx G7 (IntKind.wrap .u8 a0)with|none=>none|some x14=>some ((IntKind.wrap .i64 (0+(IntKind.wrap .i64 x14))),())
def AO3[Lk]:=fun v=>Lk.f (ZC v)
theorem AO2 v:AO3 v=ZC v:=AH _
abbrev Wf:AE:=[(.tmp 0,.dat (.int .u64))]
abbrev We:AE:=[(.tmp 0,.di)]
abbrev Wd:List RS:=[.one]
def Om[Lk]:U8→Option (U8):=fun(a0,_)=>
 match AO3 (a0,())with|none=>none|some (y0,_)=>some (y0,())
def bitsLen[Lk]:=fun v=>Lk.f (Om v)
theorem AEJ v:bitsLen v=Om v:=AH _
abbrev TG:AE:=[(.tmp 0,.box 1),(.cell 0 0,.dat (.int .u64))]
abbrev TF:AE:=[(.obj 0,.box 1),(.cell 0 0,.dat (.int .u64)),(.tmp 0,.dat (.int .u64))]
abbrev TE:List RS:=[.one]
def N9[Lk]:U8→Option (U1):=fun(a0,_)=>
 match shl? .u64 a0 13 with|none=>none|some x0=>match shr? .u64 (IntKind.wrap .u64 ((BitVec.ofInt (IntKind.bits .u64) a0 ^^^ BitVec.ofInt (IntKind.bits .u64) x0).toNat)) 7 with|none=>none|some x1=>match shl? .u64 (IntKind.wrap .u64 ((BitVec.ofInt (IntKind.bits .u64) (IntKind.wrap .u64 ((BitVec.ofInt (IntKind.bits .u64) a0 ^^^ BitVec.ofInt (IntKind.bits .u64) x0).toNat)) ^^^ BitVec.ofInt (IntKind.bits .u64) x1).toNat)) 17 with|none=>none|some x2=>some ((IntKind.wrap .u64 ((BitVec.ofInt (IntKind.bits .u64) (IntKind.wrap .u64 ((BitVec.ofInt (IntKind.bits .u64) (IntKind.wrap .u64 ((BitVec.ofInt (IntKind.bits .u64) a0 ^^^ BitVec.ofInt (IntKind.bits .u64) x0).toNat)) ^^^ BitVec.ofInt (IntKind.bits .u64) x1).toNat)) ^^^ BitVec.ofInt (IntKind.bits .u64) x2).toNat)),(IntKind.wrap .u64 ((BitVec.ofInt (IntKind.bits .u64) (IntKind.wrap .u64 ((BitVec.ofInt (IntKind.bits .u64) (IntKind.wrap .u64 ((BitVec.ofInt (IntKind.bits .u64) a0 ^^^ BitVec.ofInt (IntKind.bits .u64) x0).toNat)) ^^^ BitVec.ofInt (IntKind.bits .u64) x1).toNat)) ^^^ BitVec.ofInt (IntKind.bits .u64) x2).toNat)),())
def xorNext[Lk]:=fun v=>Lk.f (N9 v)
theorem ZP v:xorNext v=N9 v:=AH _
abbrev UM:AE:=[(.tmp 0,.di)]
abbrev UL:AE:=[(.tmp 0,.dat (.int .u64))]
abbrev UK:List RS:=[.one]
def OR[Lk]:U8→Option (U8):=fun(a0,_)=>
 match bitsLen ((IntKind.wrap .u64 a0),())with|none=>none|some (y0,_)=>match shl? .u64 1 y0 with|none=>none|some x1=>some (x1,())
def Rk[Lk]:=fun v=>Lk.f (OR v)
theorem ACD v:Rk v=OR v:=AH _
def OV[Lk]{α:Type}(z:α)(c:α×α×Unit→Option U8):(List α×Int×Int×Int×Int×Unit)→Option ((List α×Int×Int×Int×Int×Unit)⊕(List α×Int×Int×Int×Unit)⊕Unit):=fun(a0,a1,a2,a3,a4,_)=>
 match(ilt a1 a4)with
 |true=>match idx a0 a4 with|none=>none|some x0=>match idx a0 (IntKind.wrap .i64 (a4-1))with|none=>none|some x1=>match c ((AY a0 (AN a4) z),(AY a0 (AN (IntKind.wrap .i64 (a4-1))) z),())with|none=>none|some (y2,_)=>match(ilt y2 0)with
  |true=>match idx a0 (IntKind.wrap .i64 (a4-1))with|none=>none|some x3=>match idx a0 a4 with|none=>none|some x4=>match idx a0 a4 with|none=>none|some x5=>match idx (BB a0 (AN a4) (AY a0 (AN (IntKind.wrap .i64 (a4-1))) z)) (IntKind.wrap .i64 (a4-1))with|none=>none|some x6=>some (.inl ((BB (BB a0 (AN a4) (AY a0 (AN (IntKind.wrap .i64 (a4-1))) z)) (AN (IntKind.wrap .i64 (a4-1))) (AY a0 (AN a4) z)),a1,a2,a3,(IntKind.wrap .i64 (a4-1)),()))
  |false=>some (.inr (.inl (a0,a1,a2,a3,())))
 |false=>some (.inr (.inl (a0,a1,a2,a3,())))
def OW[Lk]{α:Type}(z:α)(c:α×α×Unit→Option U8):(List α×Int×Int×Int×Unit)→Option ((List α×Int×Int×Int×Unit)⊕(List α×Unit)⊕Unit):=fun(a0,a1,a2,a3,_)=>
 match(ilt a3 a2)with
 |true=>match AS (OV z c) many (a0,a1,a2,a3,a3,())with|none=>none|some r=>match r with
  |.inl (o0,o1,o2,o3,_)=>some (.inl (o0,o1,o2,(IntKind.wrap .i64 (o3+1)),()))
  |.inr _=>none
 |false=>some (.inr (.inl (a0,())))
def ACe[Lk]{α:Type}(z:α)(c:α×α×Unit→Option U8):(List α×Int×Int×Unit)→Option ((List α×Unit)):=fun(a0,a1,a2,_)=>
 match AS (OW z c) many (a0,a1,a2,(IntKind.wrap .i64 (a1+1)),())with|none=>none|some r=>match r with
 |.inl (o0,_)=>some (o0,())
 |.inr _=>none
def Adr[Lk]{α:Type}(z:α)(c:α×α×Unit→Option U8)(v:(List α×Int×Int×Unit)):Option ((List α×Unit)):=Lk.f ((ACe z c) v)
theorem Agm{α:Type}(z:α)(c:α×α×Unit→Option U8)(v:(List α×Int×Int×Unit)):(Adr z c) v=(ACe z c) v:=AH _
def KL[Lk]{α:Type}(z:α)(c:α×α×Unit→Option U8):(List α×Int×Int×Int×Unit)→Option ((List α×Int×Int×Int×Unit)⊕(List α×Unit)⊕(List α×Unit)⊕Unit):=fun(a0,a1,a2,a3,_)=>
 match(ile a1 (IntKind.wrap .i64 ((IntKind.wrap .i64 (2*a3))+1)))with
 |true=>some (.inr (.inl (a0,())))
 |false=>match(ilt (IntKind.wrap .i64 ((IntKind.wrap .i64 ((IntKind.wrap .i64 (2*a3))+1))+1)) a1)with
 |true=>match idx a0 (IntKind.wrap .i64 (a2+(IntKind.wrap .i64 ((IntKind.wrap .i64 (2*a3))+1))))with|none=>none|some x0=>match idx a0 (IntKind.wrap .i64 ((IntKind.wrap .i64 (a2+(IntKind.wrap .i64 ((IntKind.wrap .i64 (2*a3))+1))))+1))with|none=>none|some x1=>match c ((AY a0 (AN (IntKind.wrap .i64 (a2+(IntKind.wrap .i64 ((IntKind.wrap .i64 (2*a3))+1))))) z),(AY a0 (AN (IntKind.wrap .i64 ((IntKind.wrap .i64 (a2+(IntKind.wrap .i64 ((IntKind.wrap .i64 (2*a3))+1))))+1))) z),())with|none=>none|some (y2,_)=>match(ilt y2 0)with
  |true=>match idx a0 (IntKind.wrap .i64 (a2+a3))with|none=>none|some x3=>match idx a0 (IntKind.wrap .i64 (a2+(IntKind.wrap .i64 ((IntKind.wrap .i64 ((IntKind.wrap .i64 (2*a3))+1))+1))))with|none=>none|some x4=>match c ((AY a0 (AN (IntKind.wrap .i64 (a2+a3))) z),(AY a0 (AN (IntKind.wrap .i64 (a2+(IntKind.wrap .i64 ((IntKind.wrap .i64 ((IntKind.wrap .i64 (2*a3))+1))+1))))) z),())with|none=>none|some (y5,_)=>match(!(ilt y5 0))with
   |true=>some (.inr (.inr (.inl (a0,()))))
   |false=>match idx a0 (IntKind.wrap .i64 (a2+(IntKind.wrap .i64 ((IntKind.wrap .i64 ((IntKind.wrap .i64 (2*a3))+1))+1))))with|none=>none|some x6=>match idx a0 (IntKind.wrap .i64 (a2+a3))with|none=>none|some x7=>match idx a0 (IntKind.wrap .i64 (a2+a3))with|none=>none|some x8=>match idx (BB a0 (AN (IntKind.wrap .i64 (a2+a3))) (AY a0 (AN (IntKind.wrap .i64 (a2+(IntKind.wrap .i64 ((IntKind.wrap .i64 ((IntKind.wrap .i64 (2*a3))+1))+1))))) z)) (IntKind.wrap .i64 (a2+(IntKind.wrap .i64 ((IntKind.wrap .i64 ((IntKind.wrap .i64 (2*a3))+1))+1))))with|none=>none|some x9=>some (.inl ((BB (BB a0 (AN (IntKind.wrap .i64 (a2+a3))) (AY a0 (AN (IntKind.wrap .i64 (a2+(IntKind.wrap .i64 ((IntKind.wrap .i64 ((IntKind.wrap .i64 (2*a3))+1))+1))))) z)) (AN (IntKind.wrap .i64 (a2+(IntKind.wrap .i64 ((IntKind.wrap .i64 ((IntKind.wrap .i64 (2*a3))+1))+1))))) (AY a0 (AN (IntKind.wrap .i64 (a2+a3))) z)),a1,a2,(IntKind.wrap .i64 ((IntKind.wrap .i64 ((IntKind.wrap .i64 (2*a3))+1))+1)),()))
  |false=>match idx a0 (IntKind.wrap .i64 (a2+a3))with|none=>none|some x10=>match idx a0 (IntKind.wrap .i64 (a2+(IntKind.wrap .i64 ((IntKind.wrap .i64 (2*a3))+1))))with|none=>none|some x11=>match c ((AY a0 (AN (IntKind.wrap .i64 (a2+a3))) z),(AY a0 (AN (IntKind.wrap .i64 (a2+(IntKind.wrap .i64 ((IntKind.wrap .i64 (2*a3))+1))))) z),())with|none=>none|some (y12,_)=>match(!(ilt y12 0))with
  |true=>some (.inr (.inr (.inl (a0,()))))
  |false=>match idx a0 (IntKind.wrap .i64 (a2+(IntKind.wrap .i64 ((IntKind.wrap .i64 (2*a3))+1))))with|none=>none|some x13=>match idx a0 (IntKind.wrap .i64 (a2+a3))with|none=>none|some x14=>match idx a0 (IntKind.wrap .i64 (a2+a3))with|none=>none|some x15=>match idx (BB a0 (AN (IntKind.wrap .i64 (a2+a3))) (AY a0 (AN (IntKind.wrap .i64 (a2+(IntKind.wrap .i64 ((IntKind.wrap .i64 (2*a3))+1))))) z)) (IntKind.wrap .i64 (a2+(IntKind.wrap .i64 ((IntKind.wrap .i64 (2*a3))+1))))with|none=>none|some x16=>some (.inl ((BB (BB a0 (AN (IntKind.wrap .i64 (a2+a3))) (AY a0 (AN (IntKind.wrap .i64 (a2+(IntKind.wrap .i64 ((IntKind.wrap .i64 (2*a3))+1))))) z)) (AN (IntKind.wrap .i64 (a2+(IntKind.wrap .i64 ((IntKind.wrap .i64 (2*a3))+1))))) (AY a0 (AN (IntKind.wrap .i64 (a2+a3))) z)),a1,a2,(IntKind.wrap .i64 ((IntKind.wrap .i64 (2*a3))+1)),()))
 |false=>match idx a0 (IntKind.wrap .i64 (a2+a3))with|none=>none|some x17=>match idx a0 (IntKind.wrap .i64 (a2+(IntKind.wrap .i64 ((IntKind.wrap .i64 (2*a3))+1))))with|none=>none|some x18=>match c ((AY a0 (AN (IntKind.wrap .i64 (a2+a3))) z),(AY a0 (AN (IntKind.wrap .i64 (a2+(IntKind.wrap .i64 ((IntKind.wrap .i64 (2*a3))+1))))) z),())with|none=>none|some (y19,_)=>match(!(ilt y19 0))with
 |true=>some (.inr (.inr (.inl (a0,()))))
 |false=>match idx a0 (IntKind.wrap .i64 (a2+(IntKind.wrap .i64 ((IntKind.wrap .i64 (2*a3))+1))))with|none=>none|some x20=>match idx a0 (IntKind.wrap .i64 (a2+a3))with|none=>none|some x21=>match idx a0 (IntKind.wrap .i64 (a2+a3))with|none=>none|some x22=>match idx (BB a0 (AN (IntKind.wrap .i64 (a2+a3))) (AY a0 (AN (IntKind.wrap .i64 (a2+(IntKind.wrap .i64 ((IntKind.wrap .i64 (2*a3))+1))))) z)) (IntKind.wrap .i64 (a2+(IntKind.wrap .i64 ((IntKind.wrap .i64 (2*a3))+1))))with|none=>none|some x23=>some (.inl ((BB (BB a0 (AN (IntKind.wrap .i64 (a2+a3))) (AY a0 (AN (IntKind.wrap .i64 (a2+(IntKind.wrap .i64 ((IntKind.wrap .i64 (2*a3))+1))))) z)) (AN (IntKind.wrap .i64 (a2+(IntKind.wrap .i64 ((IntKind.wrap .i64 (2*a3))+1))))) (AY a0 (AN (IntKind.wrap .i64 (a2+a3))) z)),a1,a2,(IntKind.wrap .i64 ((IntKind.wrap .i64 (2*a3))+1)),()))
def RB[Lk]{α:Type}(z:α)(c:α×α×Unit→Option U8):(List α×Int×Int×Int×Unit)→Option ((List α×Unit)):=fun(a0,a1,a2,a3,_)=>
 match AS (KL z c) many (a0,a2,a3,a1,())with|none=>none|some r=>match r with
 |.inl (o0,_)=>some (o0,())
 |.inr r=>match r with
 |.inl (o1,_)=>some (o1,())
 |.inr _=>none
def AGY[Lk]{α:Type}(z:α)(c:α×α×Unit→Option U8)(v:(List α×Int×Int×Int×Unit)):Option ((List α×Unit)):=Lk.f ((RB z c) v)
theorem Ab7{α:Type}(z:α)(c:α×α×Unit→Option U8)(v:(List α×Int×Int×Int×Unit)):(AGY z c) v=(RB z c) v:=AH _
def Kb[Lk]{α:Type}(z:α)(c:α×α×Unit→Option U8):(List α×Int×Int×Int×Unit)→Option ((List α×Int×Int×Int×Unit)⊕(List α×Unit)⊕Unit):=fun(a0,a1,a2,a3,_)=>
 match(ile 0 a3)with
 |true=>match idx a0 (IntKind.wrap .i64 (a1+a3))with|none=>none|some x0=>match idx a0 a1 with|none=>none|some x1=>match idx a0 a1 with|none=>none|some x2=>match idx (BB a0 (AN a1) (AY a0 (AN (IntKind.wrap .i64 (a1+a3))) z)) (IntKind.wrap .i64 (a1+a3))with|none=>none|some x3=>match(AGY z c) ((BB (BB a0 (AN a1) (AY a0 (AN (IntKind.wrap .i64 (a1+a3))) z)) (AN (IntKind.wrap .i64 (a1+a3))) (AY a0 (AN a1) z)),a2,a3,a1,())with|none=>none|some (y4,_)=>some (.inl (y4,a1,a2,(IntKind.wrap .i64 (a3-1)),()))
 |false=>some (.inr (.inl (a0,())))
def Kc[Lk]{α:Type}(z:α)(c:α×α×Unit→Option U8):(List α×Int×Int×Int×Int×Unit)→Option ((List α×Int×Int×Int×Int×Unit)⊕(List α×Int×Int×Int×Unit)⊕Unit):=fun(a0,a1,a2,a3,a4,_)=>
 match(ile 0 a4)with
 |true=>match(AGY z c) (a0,a4,a3,a1,())with|none=>none|some (y0,_)=>some (.inl (y0,a1,a2,a3,(IntKind.wrap .i64 (a4-1)),()))
 |false=>some (.inr (.inl (a0,a1,a2,a3,())))
def R6[Lk]{α:Type}(z:α)(c:α×α×Unit→Option U8):(List α×Int×Int×Unit)→Option ((List α×Unit)):=fun(a0,a1,a2,_)=>
 match quo? .i64 (IntKind.wrap .i64 ((IntKind.wrap .i64 (a2-a1))-1)) 2 with|none=>none|some x0=>match AS (Kc z c) many (a0,a1,0,(IntKind.wrap .i64 (a2-a1)),x0,())with|none=>none|some r=>match r with
 |.inl (o1,o2,o3,o4,_)=>match AS (Kb z c) many (o1,o2,o3,(IntKind.wrap .i64 (o4-1)),())with|none=>none|some r=>match r with
  |.inl (o5,_)=>some (o5,())
  |.inr _=>none
 |.inr _=>none
def API[Lk]{α:Type}(z:α)(c:α×α×Unit→Option U8)(v:(List α×Int×Int×Unit)):Option ((List α×Unit)):=Lk.f ((R6 z c) v)
theorem AeA{α:Type}(z:α)(c:α×α×Unit→Option U8)(v:(List α×Int×Int×Unit)):(API z c) v=(R6 z c) v:=AH _
def GK[Lk]{α:Type}(z:α)(c:α×α×Unit→Option U8):(List α×Int×Int×Int×Int×Int×Unit)→Option ((List α×Int×Int×Int×Int×Int×Unit)⊕(List α×Unit)⊕Unit):=fun(a0,a1,a2,a3,a4,a5,_)=>
 match quo? .i64 a2 4 with|none=>none|some x0=>match(ile a5 (IntKind.wrap .i64 ((IntKind.wrap .i64 (a1+(IntKind.wrap .i64 (x0*2))))+1)))with
 |true=>match xorNext (a3,())with|none=>none|some (y1,y2,_)=>match(ile a2 (IntKind.wrap .i64 (IntKind.wrap .u64 ((BitVec.ofInt (IntKind.bits .u64) y2 &&& BitVec.ofInt (IntKind.bits .u64) (IntKind.wrap .u64 (a4-1))).toNat))))with
  |true=>match idx a0 (IntKind.wrap .i64 (a1+(IntKind.wrap .i64 ((IntKind.wrap .i64 (IntKind.wrap .u64 ((BitVec.ofInt (IntKind.bits .u64) y2 &&& BitVec.ofInt (IntKind.bits .u64) (IntKind.wrap .u64 (a4-1))).toNat)))-a2))))with|none=>none|some x3=>match idx a0 a5 with|none=>none|some x4=>match idx a0 a5 with|none=>none|some x5=>match idx (BB a0 (AN a5) (AY a0 (AN (IntKind.wrap .i64 (a1+(IntKind.wrap .i64 ((IntKind.wrap .i64 (IntKind.wrap .u64 ((BitVec.ofInt (IntKind.bits .u64) y2 &&& BitVec.ofInt (IntKind.bits .u64) (IntKind.wrap .u64 (a4-1))).toNat)))-a2))))) z)) (IntKind.wrap .i64 (a1+(IntKind.wrap .i64 ((IntKind.wrap .i64 (IntKind.wrap .u64 ((BitVec.ofInt (IntKind.bits .u64) y2 &&& BitVec.ofInt (IntKind.bits .u64) (IntKind.wrap .u64 (a4-1))).toNat)))-a2))))with|none=>none|some x6=>some (.inl ((BB (BB a0 (AN a5) (AY a0 (AN (IntKind.wrap .i64 (a1+(IntKind.wrap .i64 ((IntKind.wrap .i64 (IntKind.wrap .u64 ((BitVec.ofInt (IntKind.bits .u64) y2 &&& BitVec.ofInt (IntKind.bits .u64) (IntKind.wrap .u64 (a4-1))).toNat)))-a2))))) z)) (AN (IntKind.wrap .i64 (a1+(IntKind.wrap .i64 ((IntKind.wrap .i64 (IntKind.wrap .u64 ((BitVec.ofInt (IntKind.bits .u64) y2 &&& BitVec.ofInt (IntKind.bits .u64) (IntKind.wrap .u64 (a4-1))).toNat)))-a2))))) (AY a0 (AN a5) z)),a1,a2,y1,a4,(IntKind.wrap .i64 (a5+1)),()))
  |false=>match idx a0 (IntKind.wrap .i64 (a1+(IntKind.wrap .i64 (IntKind.wrap .u64 ((BitVec.ofInt (IntKind.bits .u64) y2 &&& BitVec.ofInt (IntKind.bits .u64) (IntKind.wrap .u64 (a4-1))).toNat)))))with|none=>none|some x7=>match idx a0 a5 with|none=>none|some x8=>match idx a0 a5 with|none=>none|some x9=>match idx (BB a0 (AN a5) (AY a0 (AN (IntKind.wrap .i64 (a1+(IntKind.wrap .i64 (IntKind.wrap .u64 ((BitVec.ofInt (IntKind.bits .u64) y2 &&& BitVec.ofInt (IntKind.bits .u64) (IntKind.wrap .u64 (a4-1))).toNat)))))) z)) (IntKind.wrap .i64 (a1+(IntKind.wrap .i64 (IntKind.wrap .u64 ((BitVec.ofInt (IntKind.bits .u64) y2 &&& BitVec.ofInt (IntKind.bits .u64) (IntKind.wrap .u64 (a4-1))).toNat)))))with|none=>none|some x10=>some (.inl ((BB (BB a0 (AN a5) (AY a0 (AN (IntKind.wrap .i64 (a1+(IntKind.wrap .i64 (IntKind.wrap .u64 ((BitVec.ofInt (IntKind.bits .u64) y2 &&& BitVec.ofInt (IntKind.bits .u64) (IntKind.wrap .u64 (a4-1))).toNat)))))) z)) (AN (IntKind.wrap .i64 (a1+(IntKind.wrap .i64 (IntKind.wrap .u64 ((BitVec.ofInt (IntKind.bits .u64) y2 &&& BitVec.ofInt (IntKind.bits .u64) (IntKind.wrap .u64 (a4-1))).toNat)))))) (AY a0 (AN a5) z)),a1,a2,y1,a4,(IntKind.wrap .i64 (a5+1)),()))
 |false=>some (.inr (.inl (a0,())))
def Nu[Lk]{α:Type}(z:α)(c:α×α×Unit→Option U8):(List α×Int×Int×Unit)→Option ((List α×Unit)):=fun(a0,a1,a2,_)=>
 match(ile 8 (IntKind.wrap .i64 (a2-a1)))with
 |true=>match Rk ((IntKind.wrap .i64 (a2-a1)),())with|none=>none|some (y0,_)=>match quo? .i64 (IntKind.wrap .i64 (a2-a1)) 4 with|none=>none|some x1=>match AS (GK z c) many (a0,a1,(IntKind.wrap .i64 (a2-a1)),(IntKind.wrap .u64 (IntKind.wrap .i64 (a2-a1))),y0,(IntKind.wrap .i64 ((IntKind.wrap .i64 (a1+(IntKind.wrap .i64 (x1*2))))-1)),())with|none=>none|some r=>match r with
  |.inl (o2,_)=>some (o2,())
  |.inr _=>none
 |false=>some (a0,())
def AED[Lk]{α:Type}(z:α)(c:α×α×Unit→Option U8)(v:(List α×Int×Int×Unit)):Option ((List α×Unit)):=Lk.f ((Nu z c) v)
theorem Aar{α:Type}(z:α)(c:α×α×Unit→Option U8)(v:(List α×Int×Int×Unit)):(AED z c) v=(Nu z c) v:=AH _
def KR[Lk]{α:Type}(z:α)(c:α×α×Unit→Option U8):(List α×Int×Int×Int×Unit)→Option ((List α×Int×Int×Int×Unit)):=fun(a0,a1,a2,a3,_)=>
 match idx a0 a2 with|none=>none|some x0=>match idx a0 a1 with|none=>none|some x1=>match c ((AY a0 (AN a2) z),(AY a0 (AN a1) z),())with|none=>none|some (y2,_)=>match(ilt y2 0)with
 |true=>some (a0,(IntKind.wrap .i64 (a3+1)),a2,a1,())
 |false=>some (a0,a3,a1,a2,())
def LF[Lk]{α:Type}(z:α)(c:α×α×Unit→Option U8)(v:(List α×Int×Int×Int×Unit)):Option ((List α×Int×Int×Int×Unit)):=Lk.f ((KR z c) v)
theorem ATL{α:Type}(z:α)(c:α×α×Unit→Option U8)(v:(List α×Int×Int×Int×Unit)):(LF z c) v=(KR z c) v:=AH _
def KU[Lk]{α:Type}(z:α)(c:α×α×Unit→Option U8):(List α×Int×Int×Int×Int×Unit)→Option ((List α×Int×Int×Unit)):=fun(a0,a1,a2,a3,a4,_)=>
 match(LF z c) (a0,a1,a2,a4,())with|none=>none|some (y0,y1,y2,y3,_)=>match(LF z c) (y0,y3,a3,y1,())with|none=>none|some (y4,y5,y6,y7,_)=>match(LF z c) (y4,y2,y6,y5,())with|none=>none|some (y8,y9,y10,y11,_)=>some (y8,y9,y11,())
def LM[Lk]{α:Type}(z:α)(c:α×α×Unit→Option U8)(v:(List α×Int×Int×Int×Int×Unit)):Option ((List α×Int×Int×Unit)):=Lk.f ((KU z c) v)
theorem ATj{α:Type}(z:α)(c:α×α×Unit→Option U8)(v:(List α×Int×Int×Int×Int×Unit)):(LM z c) v=(KU z c) v:=AH _
def KV[Lk]{α:Type}(z:α)(c:α×α×Unit→Option U8):(List α×Int×Int×Unit)→Option ((List α×Int×Int×Unit)):=fun(a0,a1,a2,_)=>
 match(LM z c) (a0,(IntKind.wrap .i64 (a1-1)),a1,(IntKind.wrap .i64 (a1+1)),a2,())with|none=>none|some (y0,y1,y2,_)=>some (y0,y1,y2,())
def LN[Lk]{α:Type}(z:α)(c:α×α×Unit→Option U8)(v:(List α×Int×Int×Unit)):Option ((List α×Int×Int×Unit)):=Lk.f ((KV z c) v)
theorem ATm{α:Type}(z:α)(c:α×α×Unit→Option U8)(v:(List α×Int×Int×Unit)):(LN z c) v=(KV z c) v:=AH _
def NB[Lk]{α:Type}(z:α)(c:α×α×Unit→Option U8):(List α×Int×Int×Unit)→Option ((List α×Int×Int×Unit)):=fun(a0,a1,a2,_)=>
 match quo? .i64 (IntKind.wrap .i64 (a2-a1)) 4 with|none=>none|some x0=>match quo? .i64 (IntKind.wrap .i64 (a2-a1)) 4 with|none=>none|some x1=>match quo? .i64 (IntKind.wrap .i64 (a2-a1)) 4 with|none=>none|some x2=>match(ile 8 (IntKind.wrap .i64 (a2-a1)))with
 |true=>match(ile 50 (IntKind.wrap .i64 (a2-a1)))with
  |true=>match(LN z c) (a0,(IntKind.wrap .i64 (a1+(IntKind.wrap .i64 (x0*1)))),0,())with|none=>none|some (y3,y4,y5,_)=>match(LN z c) (y3,(IntKind.wrap .i64 (a1+(IntKind.wrap .i64 (x1*2)))),y4,())with|none=>none|some (y6,y7,y8,_)=>match(LN z c) (y6,(IntKind.wrap .i64 (a1+(IntKind.wrap .i64 (x2*3)))),y7,())with|none=>none|some (y9,y10,y11,_)=>match(LM z c) (y9,y5,y8,y11,y10,())with|none=>none|some (y12,y13,y14,_)=>match(ieq y13 0)with
   |true=>some (y12,y14,1,())
   |false=>match(ieq y13 12)with
   |true=>some (y12,y14,2,())
   |false=>some (y12,y14,0,())
  |false=>match(LM z c) (a0,(IntKind.wrap .i64 (a1+(IntKind.wrap .i64 (x0*1)))),(IntKind.wrap .i64 (a1+(IntKind.wrap .i64 (x1*2)))),(IntKind.wrap .i64 (a1+(IntKind.wrap .i64 (x2*3)))),0,())with|none=>none|some (y15,y16,y17,_)=>match(ieq y16 0)with
  |true=>some (y15,y17,1,())
  |false=>match(ieq y16 12)with
  |true=>some (y15,y17,2,())
  |false=>some (y15,y17,0,())
 |false=>match(ieq 0 0)with
 |true=>some (a0,(IntKind.wrap .i64 (a1+(IntKind.wrap .i64 (x1*2)))),1,())
 |false=>match(ieq 0 12)with
 |true=>some (a0,(IntKind.wrap .i64 (a1+(IntKind.wrap .i64 (x1*2)))),2,())
 |false=>some (a0,(IntKind.wrap .i64 (a1+(IntKind.wrap .i64 (x1*2)))),0,())
def ABK[Lk]{α:Type}(z:α)(c:α×α×Unit→Option U8)(v:(List α×Int×Int×Unit)):Option ((List α×Int×Int×Unit)):=Lk.f ((NB z c) v)
theorem AYr{α:Type}(z:α)(c:α×α×Unit→Option U8)(v:(List α×Int×Int×Unit)):(ABK z c) v=(NB z c) v:=AH _
def RV[Lk]{α:Type}(z:α)(c:α×α×Unit→Option U8):(List α×Int×Int×Unit)→Option ((List α×Int×Int×Unit)⊕(List α×Unit)⊕Unit):=fun(a0,a1,a2,_)=>
 match(ilt a1 a2)with
 |true=>match idx a0 a2 with|none=>none|some x0=>match idx a0 a1 with|none=>none|some x1=>match idx a0 a1 with|none=>none|some x2=>match idx (BB a0 (AN a1) (AY a0 (AN a2) z)) a2 with|none=>none|some x3=>some (.inl ((BB (BB a0 (AN a1) (AY a0 (AN a2) z)) (AN a2) (AY a0 (AN a1) z)),(IntKind.wrap .i64 (a1+1)),(IntKind.wrap .i64 (a2-1)),()))
 |false=>some (.inr (.inl (a0,())))
def AA0[Lk]{α:Type}(z:α)(c:α×α×Unit→Option U8):(List α×Int×Int×Unit)→Option ((List α×Unit)):=fun(a0,a1,a2,_)=>
 match AS (RV z c) many (a0,a1,(IntKind.wrap .i64 (a2-1)),())with|none=>none|some r=>match r with
 |.inl (o0,_)=>some (o0,())
 |.inr _=>none
def AcU[Lk]{α:Type}(z:α)(c:α×α×Unit→Option U8)(v:(List α×Int×Int×Unit)):Option ((List α×Unit)):=Lk.f ((AA0 z c) v)
theorem Af5{α:Type}(z:α)(c:α×α×Unit→Option U8)(v:(List α×Int×Int×Unit)):(AcU z c) v=(AA0 z c) v:=AH _
def Et[Lk]{α:Type}(z:α)(c:α×α×Unit→Option U8):(List α×Int×Int×Int×Int×Int×Unit)→Option ((List α×Int×Int×Int×Int×Int×Unit)⊕(List α×Int×Int×Int×Int×Unit)⊕Unit):=fun(a0,a1,a2,a3,a4,a5,_)=>
 match(ilt a5 a2)with
 |true=>match idx a0 a5 with|none=>none|some x0=>match idx a0 (IntKind.wrap .i64 (a5-1))with|none=>none|some x1=>match c ((AY a0 (AN a5) z),(AY a0 (AN (IntKind.wrap .i64 (a5-1))) z),())with|none=>none|some (y2,_)=>match(!(ilt y2 0))with
  |true=>some (.inr (.inl (a0,a1,a2,a3,a4,())))
  |false=>match idx a0 (IntKind.wrap .i64 (a5-1))with|none=>none|some x3=>match idx a0 a5 with|none=>none|some x4=>match idx a0 a5 with|none=>none|some x5=>match idx (BB a0 (AN a5) (AY a0 (AN (IntKind.wrap .i64 (a5-1))) z)) (IntKind.wrap .i64 (a5-1))with|none=>none|some x6=>some (.inl ((BB (BB a0 (AN a5) (AY a0 (AN (IntKind.wrap .i64 (a5-1))) z)) (AN (IntKind.wrap .i64 (a5-1))) (AY a0 (AN a5) z)),a1,a2,a3,a4,(IntKind.wrap .i64 (a5+1)),()))
 |false=>some (.inr (.inl (a0,a1,a2,a3,a4,())))
def Eu[Lk]{α:Type}(z:α)(c:α×α×Unit→Option U8):(List α×Int×Int×Int×Int×Int×Unit)→Option ((List α×Int×Int×Int×Int×Int×Unit)⊕(List α×Int×Int×Int×Int×Unit)⊕Unit):=fun(a0,a1,a2,a3,a4,a5,_)=>
 match(ile 1 a5)with
 |true=>match idx a0 a5 with|none=>none|some x0=>match idx a0 (IntKind.wrap .i64 (a5-1))with|none=>none|some x1=>match c ((AY a0 (AN a5) z),(AY a0 (AN (IntKind.wrap .i64 (a5-1))) z),())with|none=>none|some (y2,_)=>match(!(ilt y2 0))with
  |true=>some (.inr (.inl (a0,a1,a2,a3,a4,())))
  |false=>match idx a0 (IntKind.wrap .i64 (a5-1))with|none=>none|some x3=>match idx a0 a5 with|none=>none|some x4=>match idx a0 a5 with|none=>none|some x5=>match idx (BB a0 (AN a5) (AY a0 (AN (IntKind.wrap .i64 (a5-1))) z)) (IntKind.wrap .i64 (a5-1))with|none=>none|some x6=>some (.inl ((BB (BB a0 (AN a5) (AY a0 (AN (IntKind.wrap .i64 (a5-1))) z)) (AN (IntKind.wrap .i64 (a5-1))) (AY a0 (AN a5) z)),a1,a2,a3,a4,(IntKind.wrap .i64 (a5-1)),()))
 |false=>some (.inr (.inl (a0,a1,a2,a3,a4,())))
def Gt[Lk]{α:Type}(z:α)(c:α×α×Unit→Option U8):(List α×Int×Int×Int×Int×Unit)→Option ((List α×Int×Int×Int×Int×Unit)⊕(List α×Int×Int×Int×Int×Unit)⊕Unit):=fun(a0,a1,a2,a3,a4,_)=>
 match(ilt a3 a2)with
 |true=>match idx a0 a3 with|none=>none|some x0=>match idx a0 (IntKind.wrap .i64 (a3-1))with|none=>none|some x1=>match c ((AY a0 (AN a3) z),(AY a0 (AN (IntKind.wrap .i64 (a3-1))) z),())with|none=>none|some (y2,_)=>match(!(ilt y2 0))with
  |true=>some (.inl (a0,a1,a2,(IntKind.wrap .i64 (a3+1)),a4,()))
  |false=>some (.inr (.inl (a0,a1,a2,a3,a4,())))
 |false=>some (.inr (.inl (a0,a1,a2,a3,a4,())))
def CY[Lk]{α:Type}(z:α)(c:α×α×Unit→Option U8):(List α×Int×Int×Int×Int×Unit)→Option ((List α×Int×Int×Int×Int×Unit)⊕(List α×Bool×Unit)⊕(List α×Unit)⊕Unit):=fun(a0,a1,a2,a3,a4,_)=>
 match(ilt a4 5)with
 |true=>match AS (Gt z c) many (a0,a1,a2,a3,a4,())with|none=>none|some r=>match r with
  |.inl (o0,o1,o2,o3,o4,_)=>match(ieq o3 o2)with
   |true=>some (.inr (.inl (o0,true,())))
   |false=>match(ilt (IntKind.wrap .i64 (o2-o1)) 50)with
   |true=>some (.inr (.inl (o0,false,())))
   |false=>match idx o0 (IntKind.wrap .i64 (o3-1))with|none=>none|some x5=>match idx o0 o3 with|none=>none|some x6=>match idx o0 o3 with|none=>none|some x7=>match idx (BB o0 (AN o3) (AY o0 (AN (IntKind.wrap .i64 (o3-1))) z)) (IntKind.wrap .i64 (o3-1))with|none=>none|some x8=>match(ile 2 (IntKind.wrap .i64 (o3-o1)))with
   |true=>match AS (Eu z c) many ((BB (BB o0 (AN o3) (AY o0 (AN (IntKind.wrap .i64 (o3-1))) z)) (AN (IntKind.wrap .i64 (o3-1))) (AY o0 (AN o3) z)),o1,o2,o3,o4,(IntKind.wrap .i64 (o3-1)),())with|none=>none|some r=>match r with
    |.inl (o9,o10,o11,o12,o13,_)=>match(ile 2 (IntKind.wrap .i64 (o11-o12)))with
     |true=>match AS (Et z c) many (o9,o10,o11,o12,o13,(IntKind.wrap .i64 (o12+1)),())with|none=>none|some r=>match r with
      |.inl (o14,o15,o16,o17,o18,_)=>some (.inl (o14,o15,o16,o17,(IntKind.wrap .i64 (o18+1)),()))
      |.inr _=>none
     |false=>some (.inl (o9,o10,o11,o12,(IntKind.wrap .i64 (o13+1)),()))
    |.inr _=>none
   |false=>match(ile 2 (IntKind.wrap .i64 (o2-o3)))with
   |true=>match AS (Et z c) many ((BB (BB o0 (AN o3) (AY o0 (AN (IntKind.wrap .i64 (o3-1))) z)) (AN (IntKind.wrap .i64 (o3-1))) (AY o0 (AN o3) z)),o1,o2,o3,o4,(IntKind.wrap .i64 (o3+1)),())with|none=>none|some r=>match r with
    |.inl (o19,o20,o21,o22,o23,_)=>some (.inl (o19,o20,o21,o22,(IntKind.wrap .i64 (o23+1)),()))
    |.inr _=>none
   |false=>some (.inl ((BB (BB o0 (AN o3) (AY o0 (AN (IntKind.wrap .i64 (o3-1))) z)) (AN (IntKind.wrap .i64 (o3-1))) (AY o0 (AN o3) z)),o1,o2,o3,(IntKind.wrap .i64 (o4+1)),()))
  |.inr _=>none
 |false=>some (.inr (.inr (.inl (a0,()))))
def IA[Lk]{α:Type}(z:α)(c:α×α×Unit→Option U8):(List α×Int×Int×Unit)→Option ((List α×Bool×Unit)):=fun(a0,a1,a2,_)=>
 match AS (CY z c) many (a0,a1,a2,(IntKind.wrap .i64 (a1+1)),0,())with|none=>none|some r=>match r with
 |.inl (o0,o1,_)=>some (o0,o1,())
 |.inr r=>match r with
 |.inl (o2,_)=>some (o2,false,())
 |.inr _=>none
def NC[Lk]{α:Type}(z:α)(c:α×α×Unit→Option U8)(v:(List α×Int×Int×Unit)):Option ((List α×Bool×Unit)):=Lk.f ((IA z c) v)
theorem ANz{α:Type}(z:α)(c:α×α×Unit→Option U8)(v:(List α×Int×Int×Unit)):(NC z c) v=(IA z c) v:=AH _
def IB[Lk]{α:Type}(z:α)(c:α×α×Unit→Option U8):(List α×Int×Int×Int×Unit)→Option ((List α×Int×Int×Int×Unit)⊕(List α×Int×Int×Int×Unit)⊕Unit):=fun(a0,a1,a2,a3,_)=>
 match(ile a2 a3)with
 |true=>match idx a0 a1 with|none=>none|some x0=>match idx a0 a3 with|none=>none|some x1=>match c ((AY a0 (AN a1) z),(AY a0 (AN a3) z),())with|none=>none|some (y2,_)=>match(ilt y2 0)with
  |true=>some (.inl (a0,a1,a2,(IntKind.wrap .i64 (a3-1)),()))
  |false=>some (.inr (.inl (a0,a1,a2,a3,())))
 |false=>some (.inr (.inl (a0,a1,a2,a3,())))
def IC[Lk]{α:Type}(z:α)(c:α×α×Unit→Option U8):(List α×Int×Int×Int×Unit)→Option ((List α×Int×Int×Int×Unit)⊕(List α×Int×Int×Int×Unit)⊕Unit):=fun(a0,a1,a2,a3,_)=>
 match(ile a2 a3)with
 |true=>match idx a0 a1 with|none=>none|some x0=>match idx a0 a2 with|none=>none|some x1=>match c ((AY a0 (AN a1) z),(AY a0 (AN a2) z),())with|none=>none|some (y2,_)=>match(!(ilt y2 0))with
  |true=>some (.inl (a0,a1,(IntKind.wrap .i64 (a2+1)),a3,()))
  |false=>some (.inr (.inl (a0,a1,a2,a3,())))
 |false=>some (.inr (.inl (a0,a1,a2,a3,())))
def ID[Lk]{α:Type}(z:α)(c:α×α×Unit→Option U8):(List α×Int×Int×Int×Unit)→Option ((List α×Int×Int×Int×Unit)⊕(List α×Int×Unit)⊕Unit):=fun(a0,a1,a2,a3,_)=>
 match AS (IC z c) many (a0,a1,a2,a3,())with|none=>none|some r=>match r with
 |.inl (o0,o1,o2,o3,_)=>match AS (IB z c) many (o0,o1,o2,o3,())with|none=>none|some r=>match r with
  |.inl (o4,o5,o6,o7,_)=>match(ilt o7 o6)with
   |true=>some (.inr (.inl (o4,o6,())))
   |false=>match idx o4 o7 with|none=>none|some x8=>match idx o4 o6 with|none=>none|some x9=>match idx o4 o6 with|none=>none|some x10=>match idx (BB o4 (AN o6) (AY o4 (AN o7) z)) o7 with|none=>none|some x11=>some (.inl ((BB (BB o4 (AN o6) (AY o4 (AN o7) z)) (AN o7) (AY o4 (AN o6) z)),o5,(IntKind.wrap .i64 (o6+1)),(IntKind.wrap .i64 (o7-1)),()))
  |.inr _=>none
 |.inr _=>none
def KP[Lk]{α:Type}(z:α)(c:α×α×Unit→Option U8):(List α×Int×Int×Int×Unit)→Option ((List α×Int×Unit)):=fun(a0,a1,a2,a3,_)=>
 match idx a0 a3 with|none=>none|some x0=>match idx a0 a1 with|none=>none|some x1=>match idx a0 a1 with|none=>none|some x2=>match idx (BB a0 (AN a1) (AY a0 (AN a3) z)) a3 with|none=>none|some x3=>match AS (ID z c) many ((BB (BB a0 (AN a1) (AY a0 (AN a3) z)) (AN a3) (AY a0 (AN a1) z)),a1,(IntKind.wrap .i64 (a1+1)),(IntKind.wrap .i64 (a2-1)),())with|none=>none|some r=>match r with
 |.inl (o4,o5,_)=>some (o4,o5,())
 |.inr _=>none
def Rg[Lk]{α:Type}(z:α)(c:α×α×Unit→Option U8)(v:(List α×Int×Int×Int×Unit)):Option ((List α×Int×Unit)):=Lk.f ((KP z c) v)
theorem ATB{α:Type}(z:α)(c:α×α×Unit→Option U8)(v:(List α×Int×Int×Int×Unit)):(Rg z c) v=(KP z c) v:=AH _
def ND[Lk]{α:Type}(z:α)(c:α×α×Unit→Option U8):(List α×Int×Int×Int×Unit)→Option ((List α×Int×Int×Int×Unit)⊕(List α×Int×Int×Int×Unit)⊕Unit):=fun(a0,a1,a2,a3,_)=>
 match(ile a2 a3)with
 |true=>match idx a0 a3 with|none=>none|some x0=>match idx a0 a1 with|none=>none|some x1=>match c ((AY a0 (AN a3) z),(AY a0 (AN a1) z),())with|none=>none|some (y2,_)=>match(!(ilt y2 0))with
  |true=>some (.inl (a0,a1,a2,(IntKind.wrap .i64 (a3-1)),()))
  |false=>some (.inr (.inl (a0,a1,a2,a3,())))
 |false=>some (.inr (.inl (a0,a1,a2,a3,())))
def NF[Lk]{α:Type}(z:α)(c:α×α×Unit→Option U8):(List α×Int×Int×Int×Unit)→Option ((List α×Int×Int×Int×Unit)⊕(List α×Int×Int×Int×Unit)⊕Unit):=fun(a0,a1,a2,a3,_)=>
 match(ile a2 a3)with
 |true=>match idx a0 a2 with|none=>none|some x0=>match idx a0 a1 with|none=>none|some x1=>match c ((AY a0 (AN a2) z),(AY a0 (AN a1) z),())with|none=>none|some (y2,_)=>match(ilt y2 0)with
  |true=>some (.inl (a0,a1,(IntKind.wrap .i64 (a2+1)),a3,()))
  |false=>some (.inr (.inl (a0,a1,a2,a3,())))
 |false=>some (.inr (.inl (a0,a1,a2,a3,())))
def NG[Lk]{α:Type}(z:α)(c:α×α×Unit→Option U8):(List α×Int×Int×Int×Unit)→Option ((List α×Int×Int×Int×Unit)⊕(List α×Int×Int×Unit)⊕Unit):=fun(a0,a1,a2,a3,_)=>
 match AS (NF z c) many (a0,a1,a2,a3,())with|none=>none|some r=>match r with
 |.inl (o0,o1,o2,o3,_)=>match AS (ND z c) many (o0,o1,o2,o3,())with|none=>none|some r=>match r with
  |.inl (o4,o5,o6,o7,_)=>match(ilt o7 o6)with
   |true=>some (.inr (.inl (o4,o5,o7,())))
   |false=>match idx o4 o7 with|none=>none|some x8=>match idx o4 o6 with|none=>none|some x9=>match idx o4 o6 with|none=>none|some x10=>match idx (BB o4 (AN o6) (AY o4 (AN o7) z)) o7 with|none=>none|some x11=>some (.inl ((BB (BB o4 (AN o6) (AY o4 (AN o7) z)) (AN o7) (AY o4 (AN o6) z)),o5,(IntKind.wrap .i64 (o6+1)),(IntKind.wrap .i64 (o7-1)),()))
  |.inr _=>none
 |.inr _=>none
def NH[Lk]{α:Type}(z:α)(c:α×α×Unit→Option U8):(List α×Int×Int×Int×Unit)→Option ((List α×Int×Int×Int×Unit)⊕(List α×Int×Int×Int×Unit)⊕Unit):=fun(a0,a1,a2,a3,_)=>
 match(ile a2 a3)with
 |true=>match idx a0 a3 with|none=>none|some x0=>match idx a0 a1 with|none=>none|some x1=>match c ((AY a0 (AN a3) z),(AY a0 (AN a1) z),())with|none=>none|some (y2,_)=>match(!(ilt y2 0))with
  |true=>some (.inl (a0,a1,a2,(IntKind.wrap .i64 (a3-1)),()))
  |false=>some (.inr (.inl (a0,a1,a2,a3,())))
 |false=>some (.inr (.inl (a0,a1,a2,a3,())))
def NI[Lk]{α:Type}(z:α)(c:α×α×Unit→Option U8):(List α×Int×Int×Int×Unit)→Option ((List α×Int×Int×Int×Unit)⊕(List α×Int×Int×Int×Unit)⊕Unit):=fun(a0,a1,a2,a3,_)=>
 match(ile a2 a3)with
 |true=>match idx a0 a2 with|none=>none|some x0=>match idx a0 a1 with|none=>none|some x1=>match c ((AY a0 (AN a2) z),(AY a0 (AN a1) z),())with|none=>none|some (y2,_)=>match(ilt y2 0)with
  |true=>some (.inl (a0,a1,(IntKind.wrap .i64 (a2+1)),a3,()))
  |false=>some (.inr (.inl (a0,a1,a2,a3,())))
 |false=>some (.inr (.inl (a0,a1,a2,a3,())))
def Rf[Lk]{α:Type}(z:α)(c:α×α×Unit→Option U8):(List α×Int×Int×Int×Unit)→Option ((List α×Int×Bool×Unit)):=fun(a0,a1,a2,a3,_)=>
 match idx a0 a3 with|none=>none|some x0=>match idx a0 a1 with|none=>none|some x1=>match idx a0 a1 with|none=>none|some x2=>match idx (BB a0 (AN a1) (AY a0 (AN a3) z)) a3 with|none=>none|some x3=>match AS (NI z c) many ((BB (BB a0 (AN a1) (AY a0 (AN a3) z)) (AN a3) (AY a0 (AN a1) z)),a1,(IntKind.wrap .i64 (a1+1)),(IntKind.wrap .i64 (a2-1)),())with|none=>none|some r=>match r with
 |.inl (o4,o5,o6,o7,_)=>match AS (NH z c) many (o4,o5,o6,o7,())with|none=>none|some r=>match r with
  |.inl (o8,o9,o10,o11,_)=>match(ilt o11 o10)with
   |true=>match idx o8 o9 with|none=>none|some x12=>match idx o8 o11 with|none=>none|some x13=>match idx o8 o11 with|none=>none|some x14=>match idx (BB o8 (AN o11) (AY o8 (AN o9) z)) o9 with|none=>none|some x15=>some ((BB (BB o8 (AN o11) (AY o8 (AN o9) z)) (AN o9) (AY o8 (AN o11) z)),o11,true,())
   |false=>match idx o8 o11 with|none=>none|some x16=>match idx o8 o10 with|none=>none|some x17=>match idx o8 o10 with|none=>none|some x18=>match idx (BB o8 (AN o10) (AY o8 (AN o11) z)) o11 with|none=>none|some x19=>match AS (NG z c) many ((BB (BB o8 (AN o10) (AY o8 (AN o11) z)) (AN o11) (AY o8 (AN o10) z)),o9,(IntKind.wrap .i64 (o10+1)),(IntKind.wrap .i64 (o11-1)),())with|none=>none|some r=>match r with
   |.inl (o20,o21,o22,_)=>match idx o20 o21 with|none=>none|some x23=>match idx o20 o22 with|none=>none|some x24=>match idx o20 o22 with|none=>none|some x25=>match idx (BB o20 (AN o22) (AY o20 (AN o21) z)) o21 with|none=>none|some x26=>some ((BB (BB o20 (AN o22) (AY o20 (AN o21) z)) (AN o21) (AY o20 (AN o22) z)),o22,false,())
   |.inr _=>none
  |.inr _=>none
 |.inr _=>none
def ABo[Lk]{α:Type}(z:α)(c:α×α×Unit→Option U8)(v:(List α×Int×Int×Int×Unit)):Option ((List α×Int×Bool×Unit)):=Lk.f ((Rf z c) v)
theorem Ac3{α:Type}(z:α)(c:α×α×Unit→Option U8)(v:(List α×Int×Int×Int×Unit)):(ABo z c) v=(Rf z c) v:=AH _
def T5[Lk]{α:Type}(z:α)(c:α×α×Unit→Option U8)(self:(List α×Int×Int×Int×Unit)→Option ((List α×Unit)))(y7:List α)(a1 a2 p l:Int)(a4 a5:Bool):Option ((List α×Int×Int×Int×Bool×Bool×Unit)⊕(List α×Unit)⊕Unit):=
 match(ilt 0 a1)with
 |true=>match idx y7 (IntKind.wrap .i64 (a1-1))with|none=>none|some x9=>match idx y7 p with|none=>none|some x10=>match c ((AY y7 (AN (IntKind.wrap .i64 (a1-1))) z),(AY y7 (AN p) z),())with|none=>none|some (y11,_)=>match(!(ilt y11 0))with
  |true=>match(Rg z c) (y7,a1,a2,p,())with|none=>none|some (y12,y13,_)=>some (.inl (y12,y13,a2,l,a4,a5,()))
  |false=>match(ABo z c) (y7,a1,a2,p,())with|none=>none|some (y14,y15,y16,_)=>match quo? .i64 (IntKind.wrap .i64 (a2-a1)) 8 with|none=>none|some x17=>match(ilt (IntKind.wrap .i64 (y15-a1)) (IntKind.wrap .i64 (a2-y15)))with
  |true=>match self (y14,a1,y15,l,())with|none=>none|some (y18,_)=>some (.inl (y18,(IntKind.wrap .i64 (y15+1)),a2,l,(ile x17 (IntKind.wrap .i64 (y15-a1))),y16,()))
  |false=>match self (y14,(IntKind.wrap .i64 (y15+1)),a2,l,())with|none=>none|some (y19,_)=>some (.inl (y19,a1,y15,l,(ile x17 (IntKind.wrap .i64 (a2-y15))),y16,()))
 |false=>match(ABo z c) (y7,a1,a2,p,())with|none=>none|some (y20,y21,y22,_)=>match quo? .i64 (IntKind.wrap .i64 (a2-a1)) 8 with|none=>none|some x23=>match(ilt (IntKind.wrap .i64 (y21-a1)) (IntKind.wrap .i64 (a2-y21)))with
 |true=>match self (y20,a1,y21,l,())with|none=>none|some (y24,_)=>some (.inl (y24,(IntKind.wrap .i64 (y21+1)),a2,l,(ile x23 (IntKind.wrap .i64 (y21-a1))),y22,()))
 |false=>match self (y20,(IntKind.wrap .i64 (y21+1)),a2,l,())with|none=>none|some (y25,_)=>some (.inl (y25,a1,y21,l,(ile x23 (IntKind.wrap .i64 (a2-y21))),y22,()))
def AJe[Lk]{α:Type}(z:α)(c:α×α×Unit→Option U8)(self:(List α×Int×Int×Int×Unit)→Option ((List α×Unit)))(y6:List α)(a1 a2 p h l:Int)(a4 a5:Bool):Option ((List α×Int×Int×Int×Bool×Bool×Unit)⊕(List α×Unit)⊕Unit):=
 match a4 with
 |true=>match a5 with
  |true=>match(ieq h 1)with
   |true=>match(NC z c) (y6,a1,a2,())with|none=>none|some (y7,y8,_)=>match y8 with
    |true=>some (.inr (.inl (y7,())))
    |false=>(T5 z c) self y7 a1 a2 p l a4 a5
   |false=>(T5 z c) self y6 a1 a2 p l a4 a5
  |false=>(T5 z c) self y6 a1 a2 p l a4 a5
 |false=>(T5 z c) self y6 a1 a2 p l a4 a5
def AJd[Lk]{α:Type}(z:α)(c:α×α×Unit→Option U8)(self:(List α×Int×Int×Int×Unit)→Option ((List α×Unit)))(y2:List α)(a1 a2 l:Int)(a4 a5:Bool):Option ((List α×Int×Int×Int×Bool×Bool×Unit)⊕(List α×Unit)⊕Unit):=
 match(ABK z c) (y2,a1,a2,())with|none=>none|some (y3,y4,y5,_)=>match(ieq y5 2)with
 |true=>match(AcU z c) (y3,a1,a2,())with|none=>none|some (y6,_)=>(AJe z c) self y6 a1 a2 (IntKind.wrap .i64 ((IntKind.wrap .i64 (a2-1))-(IntKind.wrap .i64 (y4-a1)))) 1 l a4 a5
 |false=>(AJe z c) self y3 a1 a2 y4 y5 l a4 a5
def OQ[Lk]{α:Type}(z:α)(c:α×α×Unit→Option U8)(self:(List α×Int×Int×Int×Unit)→Option ((List α×Unit))):(List α×Int×Int×Int×Bool×Bool×Unit)→Option ((List α×Int×Int×Int×Bool×Bool×Unit)⊕(List α×Unit)⊕Unit):=fun(a0,a1,a2,a3,a4,a5,_)=>
 match(ile (IntKind.wrap .i64 (a2-a1)) 12)with
 |true=>match(Adr z c) (a0,a1,a2,())with|none=>none|some (y0,_)=>some (.inr (.inl (y0,())))
 |false=>match(ieq a3 0)with
 |true=>match(API z c) (a0,a1,a2,())with|none=>none|some (y1,_)=>some (.inr (.inl (y1,())))
 |false=>match(!a4)with
 |true=>match(AED z c) (a0,a1,a2,())with|none=>none|some (y2,_)=>(AJd z c) self y2 a1 a2 (IntKind.wrap .i64 (a3-1)) a4 a5
 |false=>(AJd z c) self a0 a1 a2 a3 a4 a5
def ABX[Lk]{α:Type}(z:α)(c:α×α×Unit→Option U8)(self:(List α×Int×Int×Int×Unit)→Option ((List α×Unit))):(List α×Int×Int×Int×Unit)→Option ((List α×Unit)):=fun(a0,a1,a2,a3,_)=>
 match AS ((OQ z c) self) many (a0,a1,a2,a3,true,true,())with|none=>none|some r=>match r with
 |.inl (o0,_)=>some (o0,())
 |.inr _=>none
def LD[Lk]{α:Type}(z:α)(c:α×α×Unit→Option U8):Nat→(List α×Int×Int×Int×Unit)→Option ((List α×Unit))
 |0,_=>none
 |n+1,v=>(ABX z c) ((LD z c) n) v
def Aco[Lk]{α:Type}(z:α)(c:α×α×Unit→Option U8)(v:(List α×Int×Int×Int×Unit)):Option ((List α×Unit)):=Lk.f ((LD z c) 100 v)
theorem AgE{α:Type}(z:α)(c:α×α×Unit→Option U8)(v:(List α×Int×Int×Int×Unit)):(Aco z c) v=(LD z c) 100 v:=AH _
def Q9[Lk]{α:Type}(z:α)(c:α×α×Unit→Option U8):(List α×Unit)→Option ((List α×Unit)):=fun(a0,_)=>
 match bitsLen ((IntKind.wrap .u64 (AG a0)),())with|none=>none|some (y0,_)=>match(Aco z c) (a0,0,(AG a0),y0,())with|none=>none|some (y1,_)=>some (y1,())
def AV3[Lk]{α:Type}(z:α)(c:α×α×Unit→Option U8)(v:(List α×Unit)):Option ((List α×Unit)):=Lk.f ((Q9 z c) v)
theorem Abz{α:Type}(z:α)(c:α×α×Unit→Option U8)(v:(List α×Unit)):(AV3 z c) v=(Q9 z c) v:=AH _
abbrev AUH:AE:=[(.tmp 0,.own 43 U4),(.tmp 1,.di),(.tmp 2,.di),(.tmp 3,.clo 164 [])]
abbrev AUG:AE:=[(.obj 0,.own 43 U4)]
abbrev AUF:List RS:=[]
abbrev AWu:AE:=[(.obj 0,.own 43 U4),(.tmp 0,.own' 0),(.tmp 1,.di),(.tmp 2,.di),(.tmp 3,.clo 164 []),(.tmp 8,.di),(.tmp 9,.di)]
abbrev AWs:At:=[(.exit 2,[(.obj 0,.own 43 U4),(.tmp 0,.own' 0),(.tmp 1,.di),(.tmp 2,.di),(.tmp 3,.clo 164 []),(.tmp 8,.di)])]
def AWq[Lk]:Ug→Option (Ug⊕U6⊕Unit):=OV (([]:List (Int)):U3) BP
abbrev AWv:AE:=[(.obj 0,.own 43 U4),(.tmp 0,.own' 0),(.tmp 1,.di),(.tmp 2,.di),(.tmp 3,.clo 164 []),(.tmp 8,.di)]
abbrev AWt:At:=[(.exit 0,[(.obj 0,.own 43 U4)])]
def AWr[Lk]:U6→Option (U6⊕Uj⊕Unit):=OW (([]:List (Int)):U3) BP
def Ado[Lk]:Ud→Option (Uj):=ACe (([]:List (Int)):U3) BP
def AiN[Lk](v:Ud):Option (Uj):=Adr (([]:List (Int)):U3) BP v
theorem Agk v:AiN v=Ado v:=AH _
abbrev AI3:AE:=[(.tmp 0,.own 43 U4),(.tmp 1,.di),(.tmp 2,.di),(.tmp 3,.di),(.tmp 4,.clo 164 [])]
abbrev AI2:AE:=[(.obj 0,.own 43 U4)]
abbrev AI1:List RS:=[]
abbrev AMl:AE:=[(.obj 0,.own 43 U4),(.tmp 0,.own' 0),(.tmp 2,.di),(.tmp 3,.di),(.tmp 4,.clo 164 []),(.tmp 10,.di)]
abbrev AMk:At:=[(.exit 0,[(.obj 0,.own 43 U4)]),(.ret,[(.obj 0,.own 43 U4)])]
def AMj[Lk]:U6→Option (U6⊕Uj⊕Uj⊕Unit):=KL (([]:List (Int)):U3) BP
def AWB[Lk]:U6→Option (Uj):=RB (([]:List (Int)):U3) BP
def Ab6[Lk](v:U6):Option (Uj):=AGY (([]:List (Int)):U3) BP v
theorem Ab5 v:Ab6 v=AWB v:=AH _
abbrev AKf:AE:=[(.tmp 0,.own 43 U4),(.tmp 1,.di),(.tmp 2,.di),(.tmp 3,.clo 164 [])]
abbrev AKe:AE:=[(.obj 0,.own 43 U4)]
abbrev AKd:List RS:=[]
abbrev APF:AE:=[(.obj 0,.own 43 U4),(.tmp 0,.own' 0),(.tmp 3,.clo 164 []),(.tmp 8,.di),(.tmp 9,.di),(.tmp 12,.di)]
abbrev APD:At:=[(.exit 2,[(.obj 0,.own 43 U4)])]
def APA[Lk]:U6→Option (U6⊕Uj⊕Unit):=Kb (([]:List (Int)):U3) BP
abbrev APG:AE:=[(.obj 0,.own 43 U4),(.tmp 0,.own' 0),(.tmp 3,.clo 164 []),(.tmp 8,.di),(.tmp 9,.di),(.tmp 10,.di),(.tmp 11,.di)]
abbrev APE:At:=[(.exit 0,[(.obj 0,.own 43 U4),(.tmp 0,.own' 0),(.tmp 3,.clo 164 []),(.tmp 8,.di),(.tmp 9,.di),(.tmp 10,.di)])]
def APC[Lk]:Ug→Option (Ug⊕U6⊕Unit):=Kc (([]:List (Int)):U3) BP
def AW5[Lk]:Ud→Option (Uj):=R6 (([]:List (Int)):U3) BP
def Ad9[Lk](v:Ud):Option (Uj):=API (([]:List (Int)):U3) BP v
theorem Ad8 v:Ad9 v=AW5 v:=AH _
abbrev AEB:AE:=[(.tmp 0,.own 43 U4),(.tmp 1,.di),(.tmp 2,.di),(.tmp 3,.clo 164 [])]
abbrev AEA:AE:=[(.obj 0,.own 43 U4)]
abbrev AD9:List RS:=[]
abbrev AHe:AE:=[(.obj 0,.own 43 U4),(.tmp 0,.own' 0),(.tmp 1,.di),(.tmp 8,.di),(.tmp 9,.box 1),(.cell 1 0,.dat (.int .u64)),(.tmp 10,.dat (.int .u64)),(.tmp 11,.di)]
abbrev AHd:At:=[(.exit 0,[(.obj 0,.own 43 U4)])]
def AHc[Lk]:Ut→Option (Ut⊕Uj⊕Unit):=GK (([]:List (Int)):U3) BP
def AQN[Lk]:Ud→Option (Uj):=Nu (([]:List (Int)):U3) BP
def AVV[Lk](v:Ud):Option (Uj):=AED (([]:List (Int)):U3) BP v
theorem Aaq v:AVV v=AQN v:=AH _
abbrev UE:AE:=[(.tmp 0,.own 43 U4),(.tmp 1,.di),(.tmp 2,.di),(.tmp 3,.box 1),(.cell 1 0,.di),(.tmp 4,.clo 164 [])]
abbrev UD:AE:=[(.obj 0,.own 43 U4),(.obj 1,.box 1),(.cell 1 0,.di),(.tmp 0,.di),(.tmp 1,.di)]
abbrev UC:List RS:=[.one,.one]
def AG6[Lk]:U6→Option (U6):=KR (([]:List (Int)):U3) BP
def AJv[Lk](v:U6):Option (U6):=LF (([]:List (Int)):U3) BP v
theorem ATK v:AJv v=AG6 v:=AH _
abbrev UQ:AE:=[(.tmp 0,.own 43 U4),(.tmp 1,.di),(.tmp 2,.di),(.tmp 3,.di),(.tmp 4,.box 1),(.cell 1 0,.di),(.tmp 5,.clo 164 [])]
abbrev UP:AE:=[(.obj 0,.own 43 U4),(.obj 1,.box 1),(.cell 1 0,.di),(.tmp 0,.di)]
abbrev UO:List RS:=[.one]
def AG9[Lk]:Ug→Option (Ud):=KU (([]:List (Int)):U3) BP
def AJ7[Lk](v:Ug):Option (Ud):=LM (([]:List (Int)):U3) BP v
theorem ATi v:AJ7 v=AG9 v:=AH _
abbrev UX:AE:=[(.tmp 0,.own 43 U4),(.tmp 1,.di),(.tmp 2,.box 1),(.cell 1 0,.di),(.tmp 3,.clo 164 [])]
abbrev UW:AE:=[(.obj 0,.own 43 U4),(.obj 1,.box 1),(.cell 1 0,.di),(.tmp 0,.di)]
abbrev UU:List RS:=[.one]
def AHB[Lk]:Ud→Option (Ud):=KV (([]:List (Int)):U3) BP
def AKB[Lk](v:Ud):Option (Ud):=LN (([]:List (Int)):U3) BP v
theorem ATl v:AKB v=AHB v:=AH _
abbrev ABJ:AE:=[(.tmp 0,.own 43 U4),(.tmp 1,.di),(.tmp 2,.di),(.tmp 3,.clo 164 [])]
abbrev ABI:AE:=[(.obj 0,.own 43 U4),(.tmp 0,.di),(.tmp 1,.di)]
abbrev ABH:List RS:=[.one,.one]
def ANO[Lk]:Ud→Option (Ud):=NB (([]:List (Int)):U3) BP
def ASm[Lk](v:Ud):Option (Ud):=ABK (([]:List (Int)):U3) BP v
theorem AYq v:ASm v=ANO v:=AH _
abbrev ASL:AE:=[(.tmp 0,.own 43 U4),(.tmp 1,.di),(.tmp 2,.di),(.tmp 3,.clo 164 [])]
abbrev ASK:AE:=[(.obj 0,.own 43 U4)]
abbrev ASJ:List RS:=[]
abbrev AWM:AE:=[(.obj 0,.own 43 U4),(.tmp 0,.own' 0),(.tmp 8,.di),(.tmp 9,.di)]
abbrev AWL:At:=[(.exit 0,[(.obj 0,.own 43 U4)])]
def AWK[Lk]:Ud→Option (Ud⊕Uj⊕Unit):=RV (([]:List (Int)):U3) BP
def AcS[Lk]:Ud→Option (Uj):=AA0 (([]:List (Int)):U3) BP
def Ah0[Lk](v:Ud):Option (Uj):=AcU (([]:List (Int)):U3) BP v
theorem Af4 v:Ah0 v=AcS v:=AH _
abbrev Px:AE:=[(.tmp 0,.own 43 U4),(.tmp 1,.di),(.tmp 2,.di),(.tmp 3,.clo 164 [])]
abbrev Pw:AE:=[(.obj 0,.own 43 U4),(.tmp 0,.dat .bool)]
abbrev Pv:List RS:=[.one]
abbrev XT:AE:=[(.obj 0,.own 43 U4),(.tmp 0,.own' 0),(.tmp 1,.di),(.tmp 2,.di),(.tmp 3,.clo 164 []),(.tmp 9,.di),(.tmp 10,.di),(.tmp 12,.di)]
abbrev XP:At:=[(.exit 6,[(.obj 0,.own 43 U4),(.tmp 0,.own' 0),(.tmp 1,.di),(.tmp 2,.di),(.tmp 3,.clo 164 []),(.tmp 9,.di),(.tmp 10,.di)])]
def XL[Lk]:Ut→Option (Ut⊕Ug⊕Unit):=Et (([]:List (Int)):U3) BP
abbrev XU:AE:=[(.obj 0,.own 43 U4),(.tmp 0,.own' 0),(.tmp 1,.di),(.tmp 2,.di),(.tmp 3,.clo 164 []),(.tmp 9,.di),(.tmp 10,.di),(.tmp 11,.di)]
abbrev XQ:At:=[(.exit 4,[(.obj 0,.own 43 U4),(.tmp 0,.own' 0),(.tmp 1,.di),(.tmp 2,.di),(.tmp 3,.clo 164 []),(.tmp 9,.di),(.tmp 10,.di)])]
def XM[Lk]:Ut→Option (Ut⊕Ug⊕Unit):=Eu (([]:List (Int)):U3) BP
abbrev XV:AE:=[(.obj 0,.own 43 U4),(.tmp 0,.own' 0),(.tmp 1,.di),(.tmp 2,.di),(.tmp 3,.clo 164 []),(.tmp 9,.di),(.tmp 10,.di)]
abbrev XR:At:=[(.exit 2,[(.obj 0,.own 43 U4),(.tmp 0,.own' 0),(.tmp 1,.di),(.tmp 2,.di),(.tmp 3,.clo 164 []),(.tmp 9,.di),(.tmp 10,.di)])]
def XN[Lk]:Ug→Option (Ug⊕Ug⊕Unit):=Gt (([]:List (Int)):U3) BP
abbrev XW:AE:=[(.obj 0,.own 43 U4),(.tmp 0,.own' 0),(.tmp 1,.di),(.tmp 2,.di),(.tmp 3,.clo 164 []),(.tmp 9,.di),(.tmp 10,.di)]
abbrev XS:At:=[(.ret,[(.obj 0,.own 43 U4),(.tmp 8,.dat .bool)]),(.exit 0,[(.obj 0,.own 43 U4)])]
def XO[Lk]:Ug→Option (Ug⊕(List U3×Bool×Unit)⊕Uj⊕Unit):=CY (([]:List (Int)):U3) BP
def ABg[Lk]:Ud→Option ((List U3×Bool×Unit)):=IA (([]:List (Int)):U3) BP
def ABh[Lk](v:Ud):Option ((List U3×Bool×Unit)):=NC (([]:List (Int)):U3) BP v
theorem ANy v:ABh v=ABg v:=AH _
abbrev T8:AE:=[(.tmp 0,.own 43 U4),(.tmp 1,.di),(.tmp 2,.di),(.tmp 3,.di),(.tmp 4,.clo 164 [])]
abbrev T7:AE:=[(.obj 0,.own 43 U4),(.tmp 0,.di)]
abbrev T6:List RS:=[.one]
abbrev ABv:AE:=[(.obj 0,.own 43 U4),(.tmp 0,.own' 0),(.tmp 1,.di),(.tmp 4,.clo 164 []),(.tmp 11,.di),(.tmp 12,.di)]
abbrev ABs:At:=[(.exit 4,[(.obj 0,.own 43 U4),(.tmp 0,.own' 0),(.tmp 1,.di),(.tmp 4,.clo 164 []),(.tmp 11,.di),(.tmp 12,.di)])]
def ABp[Lk]:U6→Option (U6⊕U6⊕Unit):=IB (([]:List (Int)):U3) BP
abbrev ABw:AE:=[(.obj 0,.own 43 U4),(.tmp 0,.own' 0),(.tmp 1,.di),(.tmp 4,.clo 164 []),(.tmp 11,.di),(.tmp 12,.di)]
abbrev ABt:At:=[(.exit 2,[(.obj 0,.own 43 U4),(.tmp 0,.own' 0),(.tmp 1,.di),(.tmp 4,.clo 164 []),(.tmp 11,.di),(.tmp 12,.di)])]
def ABq[Lk]:U6→Option (U6⊕U6⊕Unit):=IC (([]:List (Int)):U3) BP
abbrev ABx:AE:=[(.obj 0,.own 43 U4),(.tmp 0,.own' 0),(.tmp 1,.di),(.tmp 4,.clo 164 []),(.tmp 11,.di),(.tmp 12,.di)]
abbrev ABu:At:=[(.exit 0,[(.obj 0,.own 43 U4),(.tmp 11,.di)])]
def ABr[Lk]:U6→Option (U6⊕V7⊕Unit):=ID (([]:List (Int)):U3) BP
def AG1[Lk]:U6→Option (V7):=KP (([]:List (Int)):U3) BP
def AJn[Lk](v:U6):Option (V7):=Rg (([]:List (Int)):U3) BP v
theorem ATA v:AJn v=AG1 v:=AH _
end
end Go.Pev
end
section
namespace Go.Pev
noncomputable section
attribute [local irreducible] PM Ln O6 PD Adz Ad0 Ad1 Tt AA2 AAL AAK Ly AX many IntKind.wrap AG BB AY A2 Bp DK EA AN Bm Ci imax AP Af
abbrev AJi:AE:=[(.tmp 0,.own 43 U4),(.tmp 1,.di),(.tmp 2,.di),(.tmp 3,.di),(.tmp 4,.clo 164 [])]
abbrev AJh:AE:=[(.obj 0,.own 43 U4),(.tmp 0,.di),(.tmp 1,.dat .bool)]
abbrev AJg:List RS:=[.one,.one]
abbrev ANl:AE:=[(.obj 0,.own 43 U4),(.tmp 0,.own' 0),(.tmp 1,.di),(.tmp 4,.clo 164 []),(.tmp 12,.di),(.tmp 13,.di)]
abbrev ANg:At:=[(.exit 8,[(.obj 0,.own 43 U4),(.tmp 0,.own' 0),(.tmp 1,.di),(.tmp 4,.clo 164 []),(.tmp 12,.di),(.tmp 13,.di)])]
def ANX[Lk]:U6→Option (U6⊕U6⊕Unit):=ND (([]:List (Int)):U3) BP
abbrev ANm:AE:=[(.obj 0,.own 43 U4),(.tmp 0,.own' 0),(.tmp 1,.di),(.tmp 4,.clo 164 []),(.tmp 12,.di),(.tmp 13,.di)]
abbrev ANh:At:=[(.exit 6,[(.obj 0,.own 43 U4),(.tmp 0,.own' 0),(.tmp 1,.di),(.tmp 4,.clo 164 []),(.tmp 12,.di),(.tmp 13,.di)])]
def ANZ[Lk]:U6→Option (U6⊕U6⊕Unit):=NF (([]:List (Int)):U3) BP
abbrev ANn:AE:=[(.obj 0,.own 43 U4),(.tmp 0,.own' 0),(.tmp 1,.di),(.tmp 4,.clo 164 []),(.tmp 12,.di),(.tmp 13,.di)]
abbrev ANi:At:=[(.exit 4,[(.obj 0,.own 43 U4),(.tmp 0,.own' 0),(.tmp 1,.di),(.tmp 13,.di)])]
def ANb[Lk]:U6→Option (U6⊕Ud⊕Unit):=NG (([]:List (Int)):U3) BP
abbrev ANo:AE:=[(.obj 0,.own 43 U4),(.tmp 0,.own' 0),(.tmp 1,.di),(.tmp 4,.clo 164 []),(.tmp 12,.di),(.tmp 13,.di)]
abbrev ANj:At:=[(.exit 2,[(.obj 0,.own 43 U4),(.tmp 0,.own' 0),(.tmp 1,.di),(.tmp 4,.clo 164 []),(.tmp 12,.di),(.tmp 13,.di)])]
def ANd[Lk]:U6→Option (U6⊕U6⊕Unit):=NH (([]:List (Int)):U3) BP
abbrev ANp:AE:=[(.obj 0,.own 43 U4),(.tmp 0,.own' 0),(.tmp 1,.di),(.tmp 4,.clo 164 []),(.tmp 12,.di),(.tmp 13,.di)]
abbrev ANk:At:=[(.exit 0,[(.obj 0,.own 43 U4),(.tmp 0,.own' 0),(.tmp 1,.di),(.tmp 4,.clo 164 []),(.tmp 12,.di),(.tmp 13,.di)])]
def ANf[Lk]:U6→Option (U6⊕U6⊕Unit):=NI (([]:List (Int)):U3) BP
def AWb[Lk]:U6→Option ((List U3×Int×Bool×Unit)):=Rf (([]:List (Int)):U3) BP
def Ac2[Lk](v:U6):Option ((List U3×Int×Bool×Unit)):=ABo (([]:List (Int)):U3) BP v
theorem Ac1 v:Ac2 v=AWb v:=AH _
abbrev ABV:AE:=[(.tmp 0,.own 43 U4),(.tmp 1,.di),(.tmp 2,.di),(.tmp 3,.di),(.tmp 4,.clo 164 [])]
abbrev ABU:AE:=[(.obj 0,.own 43 U4)]
abbrev ABT:List RS:=[]
abbrev AWX:AE:=[(.obj 0,.own 43 U4),(.tmp 0,.own' 0),(.tmp 1,.di),(.tmp 2,.di),(.tmp 3,.di),(.tmp 4,.clo 164 []),(.tmp 10,.dat .bool),(.tmp 11,.dat .bool)]
abbrev AWW:At:=[(.ret,[(.obj 0,.own 43 U4)])]
def AWV[Lk](self:U6→Option (Uj)):(List U3×Int×Int×Int×Bool×Bool×Unit)→Option ((List U3×Int×Int×Int×Bool×Bool×Unit)⊕Uj⊕Unit):=OQ (([]:List (Int)):U3) BP self
def Ah6[Lk](self:U6→Option (Uj)):U6→Option (Uj):=ABX (([]:List (Int)):U3) BP self
def ABW[Lk]:Nat→U6→Option (Uj):=LD (([]:List (Int)):U3) BP
def AgD[Lk](v:U6):Option (Uj):=Aco (([]:List (Int)):U3) BP v
theorem AgC v:AgD v=ABW 100 v:=AH _
abbrev AIq:AE:=[(.tmp 0,.own 43 U4),(.tmp 1,.clo 164 [])]
abbrev AIp:AE:=[(.obj 0,.own 43 U4)]
abbrev AIo:List RS:=[]
def AV2[Lk]:Uj→Option (Uj):=Q9 (([]:List (Int)):U3) BP
def AMb[Lk](v:Uj):Option (Uj):=AV3 (([]:List (Int)):U3) BP v
theorem Aby v:AMb v=AV2 v:=AH _
abbrev AII:AE:=[(.tmp 0,.dat Ur),(.tmp 1,.dat U4),(.tmp 2,.dat Ua)]
abbrev AIH:AE:=[(.tmp 0,.di),(.tmp 1,.own 43 U4)]
abbrev AIF:List RS:=[.agg 2]
abbrev AL5:AE:=[(.tmp 3,.box 2),(.cell 0 0,.di),(.cell 0 1,.dat Ua),(.tmp 6,.box 2),(.cell 1 0,.di),(.cell 1 1,.nil U4),(.tmp 7,.own 43 U4),(.tmp 29,.dat Ua),(.tmp 30,.di),(.tmp 31,.di)]
abbrev AL3:At:=[(.exit 2,[(.tmp 3,.box 2),(.cell 0 0,.di),(.cell 0 1,.dat Ua),(.tmp 6,.box 2),(.cell 1 0,.di),(.cell 1 1,.nil U4),(.tmp 7,.own 43 U4)])]
def Hm[Lk]:(Int×List U3×Int×List U3×List U3×Int×Int×Unit)→Option ((Int×List U3×Int×List U3×List U3×Int×Int×Unit)⊕(Int×List U3×Int×List U3×Unit)⊕Unit):=fun(a0,a1,a2,a3,a4,a5,a6,_)=>
 match(ilt a6 a5)with
 |true=>match idx a4 a6 with|none=>none|some x0=>match AAq (x0,())with|none=>none|some (y1,_)=>match(fits ((AG a3)+(AG ([y1]:List U3))))with
  |true=>some (.inl (a0,a1,a2,(A2 a3 ([y1]:List U3)),a4,a5,(IntKind.wrap .i64 (a6+1)),()))
  |false=>none
 |false=>some (.inr (.inl (a0,a1,a2,a3,())))
abbrev AL6:AE:=[(.tmp 1,.dat U4),(.tmp 2,.dat Ua),(.tmp 3,.box 2),(.cell 0 0,.di),(.cell 0 1,.dat Ua),(.tmp 6,.box 2),(.cell 1 0,.di),(.cell 1 1,.nil U4),(.tmp 7,.own 43 U4),(.tmp 13,.dat Ua),(.tmp 14,.di),(.tmp 15,.di)]
abbrev AL4:At:=[(.exit 0,[(.tmp 2,.dat Ua),(.tmp 3,.box 2),(.cell 0 0,.di),(.cell 0 1,.dat Ua),(.tmp 6,.box 2),(.cell 1 0,.di),(.cell 1 1,.nil U4),(.tmp 7,.own 43 U4)])]
def Hn[Lk]:(List Int×List U3×Int×List U3×Int×List U3×List U3×Int×Int×Unit)→Option ((List Int×List U3×Int×List U3×Int×List U3×List U3×Int×Int×Unit)⊕(List U3×Int×List U3×Int×List U3×Unit)⊕Unit):=fun(a0,a1,a2,a3,a4,a5,a6,a7,a8,_)=>
 match(ilt a8 a7)with
 |true=>match idx a6 a8 with|none=>none|some x0=>match GH (a0,a8,())with|none=>none|some (y1,_)=>match(!y1)with
  |true=>match(fits ((AG a5)+(AG ([x0]:List U3))))with
   |true=>some (.inl (a0,a1,a2,a3,a4,(A2 a5 ([x0]:List U3)),a6,a7,(IntKind.wrap .i64 (a8+1)),()))
   |false=>none
  |false=>some (.inl (a0,a1,a2,a3,a4,a5,a6,a7,(IntKind.wrap .i64 (a8+1)),()))
 |false=>some (.inr (.inl (a1,a2,a3,a4,a5,())))
def Yx[Lk]:(Ui×List Int×List U3×Unit)→Option ((Int×List U3×Unit)):=fun(a0,a1,a2,_)=>
 match AS Hn many (a1,a2,a0.1,a0.2.1,0,([]:List U3),a0.2.1,(AG a0.2.1),0,())with|none=>none|some r=>match r with
 |.inl (o0,o1,o2,o3,o4,_)=>match AS Hm many (o1,o2,o3,o4,o0,(AG o0),0,())with|none=>none|some r=>match r with
  |.inl (o5,o6,o7,o8,_)=>match AMb (o8,())with|none=>none|some (y9,_)=>some (o5,y9,())
  |.inr _=>none
 |.inr _=>none
def AL8[Lk]:=fun v=>Lk.f (Yx v)
theorem AL7 v:AL8 v=Yx v:=AH _
abbrev AId:AE:=[(.tmp 0,.dat Ur),(.tmp 1,.di),(.tmp 2,.di)]
abbrev AIc:AE:=[(.tmp 0,.di),(.tmp 1,.dat Ua),(.tmp 2,.di)]
abbrev AIb:List RS:=[.agg 2,.one]
def HK[Lk]:(Ui×Int×Int×Unit)→Option (V8):=fun(a0,a1,a2,_)=>
 match asked ((a0.1,(a0.2.1,())),a1,a2,())with|none=>none|some (y0,_)=>match(!(ieq y0 0))with
 |true=>some (a0.1,a0.2.1,y0,())
 |false=>match Pc ((a0.1,(a0.2.1,())),a1,())with|none=>none|some (y1,_)=>match Pc ((a0.1,(a0.2.1,())),a2,())with|none=>none|some (y2,_)=>match(ieq y1 y2)with
 |true=>some (a0.1,a0.2.1,5,())
 |false=>match idx a0.2.1 y1 with|none=>none|some x3=>match AGo (x3,a1,())with|none=>none|some (y4,y5,_)=>match idx a0.2.1 y2 with|none=>none|some x6=>match AGo (x6,a2,())with|none=>none|some (y7,y8,_)=>match Ce y4 0 1 with|none=>none|some x9=>match AXx (a0.1,a1,a2,())with|none=>none|some (y10,_)=>match AXx (a0.1,a2,a1,())with|none=>none|some (y11,_)=>match Ce y4 1 (AG y4)with|none=>none|some x12=>match JQ (([(DK 0 (AN (AG x9)) y4),([y10]:List (Int)),y7,([y11]:List (Int)),(DK 1 (AN (AG x12)) y4)]:List U3),())with|none=>none|some (y13,_)=>match AL8 ((a0.1,(a0.2.1,())),([y1,y2]:List (Int)),([y13]:List U3),())with|none=>none|some (y14,y15,_)=>some (y14,y15,0,())
def Mq[Lk]:=fun v=>Lk.f (HK v)
theorem Hu v:Mq v=HK v:=AH _
abbrev GA:AE:=[(.tmp 0,.dat U4),(.cap 1 0,.box 2),(.cell 0 0,.di),(.cell 0 1,.dat Ua),(.tmp 1,.clo 158 [(0,0)])]
abbrev F9:AE:=[(.obj 0,.box 2),(.cell 0 0,.di),(.cell 0 1,.dat Ua),(.tmp 0,.di)]
abbrev F8:List RS:=[.one]
abbrev JD:AE:=[(.obj 0,.box 2),(.cell 0 0,.di),(.cell 0 1,.dat Ua),(.tmp 0,.dat U4),(.tmp 1,.clo 158 [(0,0)]),(.tmp 7,.di),(.tmp 8,.di)]
abbrev JC:At:=[(.ret,[(.obj 0,.box 2),(.cell 0 0,.di),(.cell 0 1,.dat Ua),(.tmp 4,.di)]),(.exit 0,[(.obj 0,.box 2),(.cell 0 0,.di),(.cell 0 1,.dat Ua)])]
def Bk[Lk]:(Int×List U3×List Int×Int×Int×Unit)→Option ((Int×List U3×List Int×Int×Int×Unit)⊕V8⊕(Int×List U3×Unit)⊕Unit):=fun(a0,a1,a2,a3,a4,_)=>
 match(ilt a4 a3)with
 |true=>match idx a2 a4 with|none=>none|some x0=>match(ilt x0 0)with
  |true=>some (.inr (.inl (a0,a1,a4,())))
  |false=>match(ile a0 x0)with
  |true=>some (.inr (.inl (a0,a1,a4,())))
  |false=>some (.inl (a0,a1,a2,a3,(IntKind.wrap .i64 (a4+1)),()))
 |false=>some (.inr (.inr (.inl (a0,a1,()))))
def Dz[Lk]:(List Int×Int×List U3×Unit)→Option (V8):=fun(a0,a1,a2,_)=>
 match AS Bk many (a1,a2,a0,(AG a0),0,())with|none=>none|some r=>match r with
 |.inl (o0,o1,o2,_)=>some (o0,o1,o2,())
 |.inr r=>match r with
 |.inl (o3,o4,_)=>some (o3,o4,(-1:Int),())
 |.inr _=>none
def FH[Lk]:=fun v=>Lk.f (Dz v)
theorem JE v:FH v=Dz v:=AH _
abbrev FP:AE:=[(.tmp 0,.dat U4),(.cap 1 0,.box 2),(.cell 0 0,.di),(.cell 0 1,.dat Ua),(.tmp 1,.clo 158 [(0,0)])]
abbrev FO:AE:=[(.obj 0,.box 2),(.cell 0 0,.di),(.cell 0 1,.dat Ua),(.tmp 0,.dat .bool)]
abbrev FN:List RS:=[.one]
def DR[Lk]:(List Int×Int×List U3×Unit)→Option ((Int×List U3×Bool×Unit)):=fun(a0,a1,a2,_)=>
 match FH (a0,a1,a2,())with|none=>none|some (y0,y1,y2,_)=>some (y0,y1,(ile 0 y2),())
def DL[Lk]:=fun v=>Lk.f (DR v)
theorem IX v:DL v=DR v:=AH _
abbrev AC2:AE:=[(.tmp 0,.dat Ur),(.tmp 1,.dat U4)]
abbrev AC1:AE:=[(.tmp 0,.di)]
abbrev AC0:List RS:=[.one]
def R9[Lk]:(Ui×List Int×Unit)→Option (U8):=fun(a0,a1,_)=>
 match Pb ((a0.1,(a0.2.1,())),())with|none=>none|some (y0,_)=>match(!y0)with
 |true=>some (1,())
 |false=>match DL (a1,a0.1,a0.2.1,())with|none=>none|some (y1,y2,y3,_)=>match y3 with
 |true=>some (10,())
 |false=>some (0,())
def QO[Lk]:=fun v=>Lk.f (R9 v)
theorem AHS v:QO v=R9 v:=AH _
abbrev AUo:AE:=[(.tmp 0,.dat Um)]
abbrev AUn:AE:=[(.tmp 0,.own 3 U0)]
abbrev AUm:List RS:=[.one]
abbrev AXH:AE:=[(.tmp 3,.own 3 U0),(.tmp 6,.dat Um),(.tmp 7,.di),(.tmp 8,.di)]
abbrev AXG:At:=[(.exit 0,[(.tmp 3,.own 3 U0)])]
def Lo[Lk]:(List Int×List U1×Int×Int×Unit)→Option ((List Int×List U1×Int×Int×Unit)⊕Ul⊕Unit):=fun(a0,a1,a2,a3,_)=>
 match(ilt a3 a2)with
 |true=>match idx a1 a3 with|none=>none|some x0=>match(fits ((AG a0)+(AG ([x0.1,x0.2.1]:List (Int)))))with
  |true=>some (.inl ((A2 a0 ([x0.1,x0.2.1]:List (Int))),a1,a2,(IntKind.wrap .i64 (a3+1)),()))
  |false=>none
 |false=>some (.inr (.inl (a0,())))
def AK0[Lk]:Uk→Option (Ul):=fun(a0,_)=>
 match AS Lo many (([]:List (Int)),a0,(AG a0),0,())with|none=>none|some r=>match r with
 |.inl (o0,_)=>some (o0,())
 |.inr _=>none
def ends[Lk]:=fun v=>Lk.f (AK0 v)
theorem AXI v:ends v=AK0 v:=AH _
abbrev QV:AE:=[(.tmp 0,.dat Ur),(.tmp 1,.dat Um),(.tmp 2,.clo 131 [])]
abbrev QU:AE:=[(.tmp 0,.dat Ur),(.tmp 1,.own 4 .bool),(.tmp 2,.di)]
abbrev QT:List RS:=[.one,.one,.one]
abbrev Xv:AE:=[(.tmp 2,.clo 131 []),(.tmp 3,.box 2),(.cell 0 0,.di),(.cell 0 1,.dat Ua),(.tmp 6,.box 2),(.cell 1 0,.di),(.cell 1 1,.nil U4),(.tmp 10,.own 4 .bool),(.tmp 23,.dat Um),(.tmp 24,.di),(.tmp 25,.di)]
abbrev Xu:At:=[(.exit 0,[(.tmp 3,.box 2),(.cell 0 0,.di),(.cell 0 1,.dat Ua),(.tmp 6,.box 2),(.cell 1 0,.di),(.cell 1 1,.nil U4),(.tmp 10,.own 4 .bool)])]
def B4[Lk]:(Int×List U3×Int×List Bool×List U1×Int×Int×Unit)→Option ((Int×List U3×Int×List Bool×List U1×Int×Int×Unit)⊕(Int×List U3×Int×List Bool×Unit)⊕Unit):=fun(a0,a1,a2,a3,a4,a5,a6,_)=>
 match(ilt a6 a5)with
 |true=>match idx a4 a6 with|none=>none|some x0=>match Mq ((a0,(a1,())),x0.1,x0.2.1,())with|none=>none|some (y1,y2,y3,_)=>match(fits ((AG a3)+(AG ([(ieq y3 0)]:List (Bool)))))with
  |true=>some (.inl (y1,y2,a2,(A2 a3 ([(ieq y3 0)]:List (Bool))),a4,a5,(IntKind.wrap .i64 (a6+1)),()))
  |false=>none
 |false=>some (.inr (.inl (a0,a1,a2,a3,())))
def IW[Lk]:(Ui×List U1×Unit)→Option ((Ui×List Bool×Int×Unit)):=fun(a0,a1,_)=>
 match ends (a1,())with|none=>none|some (y0,_)=>match QO ((a0.1,(a0.2.1,())),y0,())with|none=>none|some (y1,_)=>match(!(ieq y1 0))with
 |true=>some ((a0.1,(a0.2.1,())),([]:List (Bool)),y1,())
 |false=>match AS B4 many (a0.1,a0.2.1,0,([]:List (Bool)),a1,(AG a1),0,())with|none=>none|some r=>match r with
 |.inl (o2,o3,o4,o5,_)=>some ((o2,(o3,())),o5,0,())
 |.inr _=>none
def SJ[Lk]:=fun v=>Lk.f (IW v)
theorem Ni v:SJ v=IW v:=AH _
abbrev AC8:AE:=[(.tmp 0,.dat Ur),(.tmp 1,.dat Um)]
abbrev AC7:AE:=[(.tmp 0,.dat Ur),(.tmp 1,.own 4 .bool),(.tmp 2,.di)]
abbrev AC6:List RS:=[.one,.one,.one]
def Nd[Lk]:(Ui×List U1×Unit)→Option ((Ui×List Bool×Int×Unit)):=fun(a0,a1,_)=>
 match SJ ((a0.1,(a0.2.1,())),a1,())with|none=>none|some (y0,y1,y2,_)=>some ((y0.1,(y0.2.1,())),y1,y2,())
def AKs[Lk]:=fun v=>Lk.f (Nd v)
theorem Vr v:AKs v=Nd v:=AH _
abbrev AeS:AE:=[(.tmp 0,.di),(.tmp 1,.dat Um)]
abbrev AeR:AE:=[(.tmp 0,.dat Ur),(.tmp 1,.di)]
abbrev AeQ:List RS:=[.one,.one]
def APe[Lk]:(Int×List U1×Unit)→Option (Vh):=fun(a0,a1,_)=>
 match AMQ (a0,())with|none=>none|some (y0,y1,y2,_)=>match(!(ieq y2 0))with
 |true=>some ((0,(([]:List U3),())),y2,())
 |false=>match AKs ((y0,(y1,())),a1,())with|none=>none|some (y3,y4,y5,_)=>match(!(ieq y5 0))with
 |true=>some ((0,(([]:List U3),())),y5,())
 |false=>some ((y3.1,(y3.2.1,())),0,())
def fof[Lk]:=fun v=>Lk.f (APe v)
theorem AUb v:fof v=APe v:=AH _
abbrev AdP:AE:=[(.tmp 0,.dat U4)]
abbrev AdN:AE:=[(.tmp 0,.di)]
abbrev AdL:List RS:=[.one]
abbrev AdO:AE:=[(.tmp 3,.di),(.tmp 6,.dat U4),(.tmp 7,.di),(.tmp 8,.di)]
abbrev AdM:At:=[(.ret,[(.tmp 2,.di)]),(.exit 0,[(.tmp 3,.di)])]
def Fv[Lk]:(Int×List Int×Int×Int×Unit)→Option ((Int×List Int×Int×Int×Unit)⊕U8⊕U8⊕Unit):=fun(a0,a1,a2,a3,_)=>
 match(ilt a3 a2)with
 |true=>match idx a1 a3 with|none=>none|some x0=>match(!(ieq x0 a0))with
  |true=>some (.inr (.inl (x0,())))
  |false=>some (.inl (a0,a1,a2,(IntKind.wrap .i64 (a3+1)),()))
 |false=>some (.inr (.inr (.inl (a0,()))))
def AG8[Lk]:Ul→Option (U8):=fun(a0,_)=>
 match AS Fv many (0,a0,(AG a0),0,())with|none=>none|some r=>match r with
 |.inl (o0,_)=>some (o0,())
 |.inr r=>match r with
 |.inl (o1,_)=>some (o1,())
 |.inr _=>none
def orI[Lk]:=fun v=>Lk.f (AG8 v)
theorem AJy v:orI v=AG8 v:=AH _
abbrev ACL:AE:=[(.tmp 0,.di)]
abbrev ACK:AE:=[(.tmp 0,.dat .bool)]
abbrev ACJ:List RS:=[.one]
def NN[Lk]:U8→Option (Uf):=fun(a0,_)=>
 match(ile 1 a0)with
 |true=>some ((ile a0 64),())
 |false=>some (false,())
def VD[Lk]:=fun v=>Lk.f (NN v)
theorem VC v:VD v=NN v:=AH _
abbrev ATv:AE:=[(.tmp 0,.di)]
abbrev ATu:AE:=[(.tmp 0,.di)]
abbrev ATt:List RS:=[.one]
def ATw[Lk]:U8→Option (U8):=fun(a0,_)=>
 match VD (a0,())with|none=>none|some (y0,_)=>match(!y0)with
 |true=>some (0,())
 |false=>match bitsLen ((IntKind.wrap .u64 (IntKind.wrap .i64 (a0-1))),())with|none=>none|some (y1,_)=>some (y1,())
def AKK[Lk]:=fun v=>Lk.f (ATw v)
theorem Agb v:AKK v=ATw v:=AH _
abbrev QD:AE:=[(.tmp 0,.dat (.prod U0 (.prod U0 (.prod U0 (.prod .bool .unit))))),(.tmp 1,.dat (.prod U0 (.prod U0 (.prod U0 (.prod .bool .unit)))))]
abbrev QC:AE:=[(.tmp 0,.di)]
abbrev QB:List RS:=[.one]
def LV[Lk]:(U5×U5×Unit)→Option (U8):=fun(a0,a1,_)=>
 match Dh (a0.1,a1.1,())with|none=>none|some (y0,_)=>match Dh (a0.2.1,a1.2.1,())with|none=>none|some (y1,_)=>match orI (([y0,y1]:List (Int)),())with|none=>none|some (y2,_)=>some (y2,())
def KZ[Lk]:=fun v=>Lk.f (LV v)
theorem Xn v:KZ v=LV v:=AH _
abbrev ACH:AE:=[(.tmp 0,.dat Ux),(.tmp 1,.di)]
abbrev ACG:AE:=[(.tmp 0,.own 34 U2)]
abbrev ACF:List RS:=[.one]
abbrev AHE:AE:=[(.tmp 1,.di),(.tmp 5,.own 34 U2),(.tmp 9,.dat U9),(.tmp 10,.di),(.tmp 11,.di)]
abbrev AHD:At:=[(.exit 0,[(.tmp 5,.own 34 U2)])]
def Cq[Lk]:(Int×List U1×List U5×Int×Int×Unit)→Option ((Int×List U1×List U5×Int×Int×Unit)⊕Uk⊕Unit):=fun(a0,a1,a2,a3,a4,_)=>
 match(ilt a4 a3)with
 |true=>match idx a2 a4 with|none=>none|some x0=>match x0.2.2.2.1 with
  |true=>match(ile a0 x0.2.2.1)with
   |true=>match(fits ((AG a1)+(AG ([(x0.1,(x0.2.1,()))]:List U1))))with
    |true=>some (.inl (a0,(A2 a1 ([(x0.1,(x0.2.1,()))]:List U1)),a2,a3,(IntKind.wrap .i64 (a4+1)),()))
    |false=>none
   |false=>some (.inl (a0,a1,a2,a3,(IntKind.wrap .i64 (a4+1)),()))
  |false=>some (.inl (a0,a1,a2,a3,(IntKind.wrap .i64 (a4+1)),()))
 |false=>some (.inr (.inl (a1,())))
def NM[Lk]:(Uo×Int×Unit)→Option (Uk):=fun(a0,a1,_)=>
 match AS Cq many (a1,([]:List U1),a0.2.1,(AG a0.2.1),0,())with|none=>none|some r=>match r with
 |.inl (o0,_)=>some (o0,())
 |.inr _=>none
def P9[Lk]:=fun v=>Lk.f (NM v)
theorem VB v:P9 v=NM v:=AH _
abbrev ACP:AE:=[(.tmp 0,.dat Ux)]
abbrev ACO:AE:=[(.tmp 0,.dat .bool)]
abbrev ACN:List RS:=[.one]
abbrev AHG:AE:=[(.tmp 1,.box 2),(.cell 0 0,.di),(.cell 0 1,.dat U9),(.tmp 3,.di),(.tmp 23,.dat U9),(.tmp 24,.di),(.tmp 25,.di)]
abbrev AHF:At:=[(.ret,[(.tmp 2,.dat .bool)]),(.exit 0,[(.tmp 1,.box 2),(.cell 0 0,.di),(.cell 0 1,.dat U9)])]
def Du[Lk]:(Int×List U5×Int×List U5×Int×Int×Unit)→Option ((Int×List U5×Int×List U5×Int×Int×Unit)⊕Uf⊕(Int×List U5×Unit)⊕Unit):=fun(a0,a1,a2,a3,a4,a5,_)=>
 match(ilt a5 a4)with
 |true=>match idx a3 a5 with|none=>none|some x0=>match(ilt x0.1 0)with
  |true=>some (.inr (.inl (false,())))
  |false=>match(ile x0.2.1 x0.1)with
  |true=>some (.inr (.inl (false,())))
  |false=>match(ile a0 x0.2.1)with
  |true=>some (.inr (.inl (false,())))
  |false=>match(ilt x0.2.2.1 0)with
  |true=>some (.inr (.inl (false,())))
  |false=>match(ilt a2 x0.2.2.1)with
  |true=>some (.inr (.inl (false,())))
  |false=>match(ilt 0 a5)with
  |true=>match idx a1 (IntKind.wrap .i64 (a5-1))with|none=>none|some x1=>match KZ ((x1.1,(x1.2.1,(x1.2.2.1,(x1.2.2.2.1,())))),(x0.1,(x0.2.1,(x0.2.2.1,(x0.2.2.2.1,())))),())with|none=>none|some (y2,_)=>match(ile 0 y2)with
   |true=>some (.inr (.inl (false,())))
   |false=>some (.inl (a0,a1,a2,a3,a4,(IntKind.wrap .i64 (a5+1)),()))
  |false=>some (.inl (a0,a1,a2,a3,a4,(IntKind.wrap .i64 (a5+1)),()))
 |false=>some (.inr (.inr (.inl (a0,a1,()))))
def II[Lk]:(Uo×Unit)→Option (Uf):=fun(a0,_)=>
 match VD (a0.1,())with|none=>none|some (y0,_)=>match(!y0)with
 |true=>some (false,())
 |false=>match(ilt 400 (AG a0.2.1))with
 |true=>some (false,())
 |false=>match AKK (a0.1,())with|none=>none|some (y1,_)=>match AS Du many (a0.1,a0.2.1,y1,a0.2.1,(AG a0.2.1),0,())with|none=>none|some r=>match r with
 |.inl (o2,_)=>some (o2,())
 |.inr r=>match r with
 |.inl (o3,o4,_)=>match P9 ((o3,(o4,())),0,())with|none=>none|some (y5,_)=>match fof (o3,y5,())with|none=>none|some (y6,y7,_)=>match(ieq y7 0)with
  |true=>some ((ieq (AG y6.2.1) (IntKind.wrap .i64 (o3-(AG y5)))),())
  |false=>some (false,())
 |.inr _=>none
def LO[Lk]:=fun v=>Lk.f (II v)
theorem KX v:LO v=II v:=AH _
def FW[Lk]:(Int×List U1×List Int×Bool×Int×Unit)→Option ((Int×List U1×List Int×Bool×Int×Unit)⊕(Int×List U1×List Int×Bool×Unit)⊕Unit):=fun(a0,a1,a2,a3,a4,_)=>
 match(ilt a4 (AG a1))with
 |true=>match idx a1 a4 with|none=>none|some x0=>match idx a1 a4 with|none=>none|some x1=>match(ilt x0.1 0)with
  |true=>some (.inl (a0,a1,a2,a3,(IntKind.wrap .i64 (a4+1)),()))
  |false=>match(ilt x1.2.1 0)with
  |true=>some (.inl (a0,a1,a2,a3,(IntKind.wrap .i64 (a4+1)),()))
  |false=>match(ile a0 x0.1)with
  |true=>some (.inl (a0,a1,a2,a3,(IntKind.wrap .i64 (a4+1)),()))
  |false=>match(ile a0 x1.2.1)with
  |true=>some (.inl (a0,a1,a2,a3,(IntKind.wrap .i64 (a4+1)),()))
  |false=>match idx a2 x0.1 with|none=>none|some x2=>match idx a2 x1.2.1 with|none=>none|some x3=>match(ieq (AY a2 (AN x0.1) 0) (AY a2 (AN x1.2.1) 0))with
  |true=>some (.inl (a0,a1,a2,a3,(IntKind.wrap .i64 (a4+1)),()))
  |false=>match idx a2 x0.1 with|none=>none|some x4=>match idx a2 x1.2.1 with|none=>none|some x5=>match idx a2 x0.1 with|none=>none|some x6=>match idx (BB a2 (AN x0.1) (Ci (AY a2 (AN x0.1) 0) (AY a2 (AN x1.2.1) 0))) x1.2.1 with|none=>none|some x7=>some (.inl (a0,a1,(BB (BB a2 (AN x0.1) (Ci (AY a2 (AN x0.1) 0) (AY a2 (AN x1.2.1) 0))) (AN x1.2.1) (Ci (AY a2 (AN x0.1) 0) (AY a2 (AN x1.2.1) 0))),true,(IntKind.wrap .i64 (a4+1)),()))
 |false=>some (.inr (.inl (a0,a1,a2,a3,())))
def HS[Lk]:(Int×List U1×List Int×Bool×Unit)→Option ((Int×List U1×List Int×Bool×Unit)⊕Ul⊕Unit):=fun(a0,a1,a2,a3,_)=>
 match a3 with
 |true=>match AS FW many (a0,a1,a2,false,0,())with|none=>none|some r=>match r with
  |.inl (o0,o1,o2,o3,_)=>some (.inl (o0,o1,o2,o3,()))
  |.inr _=>none
 |false=>some (.inr (.inl (a2,())))
def FX[Lk]:(Int×List U1×List Int×Int×Unit)→Option ((Int×List U1×List Int×Int×Unit)⊕(Int×List U1×List Int×Unit)⊕Unit):=fun(a0,a1,a2,a3,_)=>
 match(ilt a3 a0)with
 |true=>match(fits ((AG a2)+(AG ([a3]:List (Int)))))with
  |true=>some (.inl (a0,a1,(A2 a2 ([a3]:List (Int))),(IntKind.wrap .i64 (a3+1)),()))
  |false=>none
 |false=>some (.inr (.inl (a0,a1,a2,())))
def Ns[Lk]:(Int×List U1×Unit)→Option (Ul):=fun(a0,a1,_)=>
 match AS FX many (a0,a1,([]:List (Int)),0,())with|none=>none|some r=>match r with
 |.inl (o0,o1,o2,_)=>match AS HS many (o0,o1,o2,true,())with|none=>none|some r=>match r with
  |.inl (o3,_)=>some (o3,())
  |.inr _=>none
 |.inr _=>none
def Og[Lk]:=fun v=>Lk.f (Ns v)
theorem ALD v:Og v=Ns v:=AH _
def AbW[Lk]:U1→Option (U1⊕U8⊕Unit):=fun(a0,a1,_)=>
 match(ilt 0 a1)with
 |true=>match quo? .i64 a1 2 with|none=>none|some x0=>some (.inl ((IntKind.wrap .i64 (a0+1)),x0,()))
 |false=>some (.inr (.inl (a0,())))
def AfR[Lk]:U8→Option (U8):=fun(a0,_)=>
 match(ilt a0 1)with
 |true=>some (0,())
 |false=>match(ilt 64 a0)with
 |true=>some (0,())
 |false=>match AS AbW many (0,(IntKind.wrap .i64 (a0-1)),())with|none=>none|some r=>match r with
 |.inl (o0,_)=>some (o0,())
 |.inr _=>none
def Z4[Lk]:=fun v=>Lk.f (AfR v)
def Fk[Lk]:(Int×List U5×List U1×List Int×Int×Int×Unit)→Option ((Int×List U5×List U1×List Int×Int×Int×Unit)⊕(Int×List U5×List U1×Int×Unit)⊕Unit):=fun(a0,a1,a2,a3,a4,a5,_)=>
 match(ilt a5 a0)with
 |true=>match idx a3 a5 with|none=>none|some x0=>match(ieq (AY a3 (AN a5) 0) a5)with
  |true=>some (.inl (a0,a1,a2,a3,(IntKind.wrap .i64 (a4+1)),(IntKind.wrap .i64 (a5+1)),()))
  |false=>some (.inl (a0,a1,a2,a3,a4,(IntKind.wrap .i64 (a5+1)),()))
 |false=>some (.inr (.inl (a0,a1,a2,a4,())))
def EN[Lk]:(Int×List U5×List U1×Int×Unit)→Option ((Int×List U5×List U1×Int×Unit)⊕Uf⊕(Int×List U5×List U1×Unit)⊕Unit):=fun(a0,a1,a2,a3,_)=>
 match(ilt a3 (AG a1))with
 |true=>match idx a1 a3 with|none=>none|some x0=>match(ilt x0.1 0)with
  |true=>some (.inr (.inl (false,())))
  |false=>match(ile x0.2.1 x0.1)with
  |true=>some (.inr (.inl (false,())))
  |false=>match(ile a0 x0.2.1)with
  |true=>some (.inr (.inl (false,())))
  |false=>match(ilt x0.2.2.1 0)with
  |true=>some (.inr (.inl (false,())))
  |false=>match Z4 (a0,())with|none=>none|some (y1,_)=>match(ilt y1 x0.2.2.1)with
  |true=>some (.inr (.inl (false,())))
  |false=>match(ilt 0 a3)with
  |true=>match idx a1 (IntKind.wrap .i64 (a3-1))with|none=>none|some x2=>match(ilt x0.1 x2.1)with
   |true=>some (.inr (.inl (false,())))
   |false=>match idx a1 (IntKind.wrap .i64 (a3-1))with|none=>none|some x3=>match(ieq x3.1 x0.1)with
   |true=>match idx a1 (IntKind.wrap .i64 (a3-1))with|none=>none|some x4=>match(ile x0.2.1 x4.2.1)with
    |true=>some (.inr (.inl (false,())))
    |false=>match x0.2.2.2.1 with
    |true=>match(fits ((AG a2)+(AG ([(x0.1,(x0.2.1,()))]:List U1))))with
     |true=>some (.inl (a0,a1,(A2 a2 ([(x0.1,(x0.2.1,()))]:List U1)),(IntKind.wrap .i64 (a3+1)),()))
     |false=>none
    |false=>some (.inl (a0,a1,a2,(IntKind.wrap .i64 (a3+1)),()))
   |false=>match x0.2.2.2.1 with
   |true=>match(fits ((AG a2)+(AG ([(x0.1,(x0.2.1,()))]:List U1))))with
    |true=>some (.inl (a0,a1,(A2 a2 ([(x0.1,(x0.2.1,()))]:List U1)),(IntKind.wrap .i64 (a3+1)),()))
    |false=>none
   |false=>some (.inl (a0,a1,a2,(IntKind.wrap .i64 (a3+1)),()))
  |false=>match x0.2.2.2.1 with
  |true=>match(fits ((AG a2)+(AG ([(x0.1,(x0.2.1,()))]:List U1))))with
   |true=>some (.inl (a0,a1,(A2 a2 ([(x0.1,(x0.2.1,()))]:List U1)),(IntKind.wrap .i64 (a3+1)),()))
   |false=>none
  |false=>some (.inl (a0,a1,a2,(IntKind.wrap .i64 (a3+1)),()))
 |false=>some (.inr (.inr (.inl (a0,a1,a2,()))))
def Fl[Lk]:(Uo×Unit)→Option (Uf):=fun(a0,_)=>
 match(ilt a0.1 1)with
 |true=>some (false,())
 |false=>match(ilt 64 a0.1)with
 |true=>some (false,())
 |false=>match(ilt 400 (AG a0.2.1))with
 |true=>some (false,())
 |false=>match AS EN many (a0.1,a0.2.1,([]:List U1),0,())with|none=>none|some r=>match r with
 |.inl (o0,_)=>some (o0,())
 |.inr r=>match r with
 |.inl (o1,o2,o3,_)=>match Og (o1,o3,())with|none=>none|some (y4,_)=>match AS Fk many (o1,o2,o3,y4,0,0,())with|none=>none|some r=>match r with
  |.inl (o5,o6,o7,o8,_)=>some ((ieq o8 (IntKind.wrap .i64 (o5-(AG o7)))),())
  |.inr _=>none
 |.inr _=>none
def HM[Lk]:=fun v=>Lk.f (Fl v)
theorem H5 v:HM v=Fl v:=AH _
def AUO[Lk]:U1→Option (Uf):=fun(a0,a1,_)=>
 match(ile 1 a0)with
 |true=>match(ile a0 64)with
  |true=>match(ile 0 a1)with
   |true=>some ((ilt a1 a0),())
   |false=>some (false,())
  |false=>some (false,())
 |false=>some (false,())
def AKY[Lk]:=fun v=>Lk.f (AUO v)
theorem Ags v:AKY v=AUO v:=AH _
def TT[Lk]:U1→Option ((Int×Int×Bool×Bool×Unit)):=fun(a0,a1,_)=>
 match AKY (a0,a1,())with|none=>none|some (y0,_)=>match y0 with
 |true=>some (a1,0,false,true,())
 |false=>match(ilt a0 1)with
 |true=>some (0,0,false,false,())
 |false=>match(ilt 64 a0)with
 |true=>some (0,0,false,false,())
 |false=>match(ilt a1 a0)with
 |true=>some (0,0,false,false,())
 |false=>match(ile (IntKind.wrap .i64 (a0+(IntKind.wrap .i64 (a0*a0)))) a1)with
 |true=>some (0,0,false,false,())
 |false=>match quo? .i64 (IntKind.wrap .i64 (a1-a0)) a0 with|none=>none|some x1=>match rem? (IntKind.wrap .i64 (a1-a0)) a0 with|none=>none|some x2=>match(ieq x1 x2)with
 |true=>some (0,0,false,false,())
 |false=>some (x1,x2,true,true,())
def Yz[Lk]:=fun v=>Lk.f (TT v)
theorem ARE v:Yz v=TT v:=AH _
def ALX[Lk]:(Int×Int×Int×Unit)→Option (U8):=fun(a0,a1,a2,_)=>
 match AKY (a0,a1,())with|none=>none|some (y0,_)=>match(!y0)with
 |true=>some ((-1:Int),())
 |false=>match AKY (a0,a2,())with|none=>none|some (y1,_)=>match(!y1)with
 |true=>some ((-1:Int),())
 |false=>match(ieq a1 a2)with
 |true=>some ((-1:Int),())
 |false=>some ((IntKind.wrap .i64 ((IntKind.wrap .i64 (a0+(IntKind.wrap .i64 (a1*a0))))+a2)),())
def AQU[Lk]:=fun v=>Lk.f (ALX v)
theorem Ae0 v:AQU v=ALX v:=AH _
def KW[Lk]:(Int×Int×Int×List U3×Int×Unit)→Option ((Int×Int×Int×List U3×Int×Unit)⊕(Int×Int×List U3×Unit)⊕Unit):=fun(a0,a1,a2,a3,a4,_)=>
 match(ilt a4 a0)with
 |true=>match(fits ((AG a3)+(AG ([([a4]:List (Int))]:List U3))))with
  |true=>some (.inl (a0,a1,a2,(A2 a3 ([([a4]:List (Int))]:List U3)),(IntKind.wrap .i64 (a4+1)),()))
  |false=>none
 |false=>some (.inr (.inl (a1,a2,a3,())))
def ACE[Lk]:U8→Option (V8):=fun(a0,_)=>
 match(ilt a0 1)with
 |true=>some (0,([]:List U3),1,())
 |false=>match(ilt 64 a0)with
 |true=>some (0,([]:List U3),1,())
 |false=>match AS KW many (a0,0,a0,([]:List U3),0,())with|none=>none|some r=>match r with
 |.inl (o0,o1,o2,_)=>some (o1,o2,0,())
 |.inr _=>none
def AKI[Lk]:=fun v=>Lk.f (ACE v)
theorem AZa v:AKI v=ACE v:=AH _
def Pf[Lk]:(Int×Int×Int×Unit)→Option (Uf):=fun(a0,a1,a2,_)=>
 match Yz (a0,a1,())with|none=>none|some (y0,y1,y2,y3,_)=>match y3 with
 |true=>match(!y2)with
  |true=>match(ieq y0 a2)with
   |true=>some (true,())
   |false=>match y2 with
   |true=>some ((ieq y1 a2),())
   |false=>some (false,())
  |false=>match y2 with
  |true=>some ((ieq y1 a2),())
  |false=>some (false,())
 |false=>some (false,())
def AAC[Lk]:=fun v=>Lk.f (Pf v)
theorem AMW v:AAC v=Pf v:=AH _
def KG[Lk]:Uy→Option (Uy⊕(Int×Int×List Int×Bool×Bool×Bool×Bool×Int×Int×Bool×Int×Int×Int×Int×Int×Bool×Int×List Int×Int×Int×Int×Int×Int×Int×Int×Int×Bool×Unit)⊕Unit):=fun(a0,a1,a2,a3,a4,a5,a6,a7,a8,a9,a10,a11,a12,a13,a14,a15,a16,a17,a18,a19,a20,a21,a22,a23,a24,a25,a26,a27,_)=>
 match(ilt a4 (AG a1))with
 |true=>match rem? (IntKind.wrap .i64 (a2+a4)) (AG a1)with|none=>none|some x0=>match idx a1 x0 with|none=>none|some x1=>match(fits ((AG a3)+(AG ([(AY a1 (AN x0) 0)]:List (Int)))))with
  |true=>some (.inl (a0,a1,a2,(A2 a3 ([(AY a1 (AN x0) 0)]:List (Int))),(IntKind.wrap .i64 (a4+1)),a5,a6,a7,a8,a9,a10,a11,a12,a13,a14,a15,a16,a17,a18,a19,a20,a21,a22,a23,a24,a25,a26,a27,()))
  |false=>none
 |false=>some (.inr (.inl (a0,a2,a3,a5,a6,a7,a8,a9,a10,a11,a12,a13,a14,a15,a16,a17,a18,a1,a19,a20,a21,a22,a23,a24,a25,a26,a27,())))
def Dq[Lk]:(Int×List Int×Bool×Int×Unit)→Option ((Int×List Int×Bool×Int×Unit)⊕(Int×List Int×Bool×Unit)⊕Unit):=fun(a0,a1,a2,a3,_)=>
 match(ilt a3 (AG a1))with
 |true=>match(!a2)with
  |true=>match idx a1 a3 with|none=>none|some x0=>match rem? (IntKind.wrap .i64 (a3+1)) (AG a1)with|none=>none|some x1=>match idx a1 x1 with|none=>none|some x2=>match rem? (IntKind.wrap .i64 (a3+2)) (AG a1)with|none=>none|some x3=>match idx a1 x3 with|none=>none|some x4=>match Yz (a0,(AY a1 (AN a3) 0),())with|none=>none|some (y5,y6,y7,y8,_)=>match(ile 4 (AG a1))with
   |true=>match y8 with
    |true=>match y7 with
     |true=>match(ieq (AY a1 (AN x1) 0) y6)with
      |true=>match AQU (a0,y6,y5,())with|none=>none|some (y9,_)=>match(ieq (AY a1 (AN x3) 0) y9)with
       |true=>match rem? (IntKind.wrap .i64 ((IntKind.wrap .i64 (a3+(AG a1)))-1)) (AG a1)with|none=>none|some x10=>match idx a1 x10 with|none=>none|some x11=>match AAC (a0,(AY a1 (AN x10) 0),y5,())with|none=>none|some (y12,_)=>match y12 with
        |true=>match AS KG many (a0,a1,a3,([]:List (Int)),3,a2,(!a2),y8,y7,(AY a1 (AN x1) 0),y6,(ieq (AY a1 (AN x1) 0) y6),(AY a1 (AN x3) 0),a0,y6,y5,y9,(ieq (AY a1 (AN x3) 0) y9),a0,a3,(AG a1),(IntKind.wrap .i64 (a3+(AG a1))),(IntKind.wrap .i64 ((IntKind.wrap .i64 (a3+(AG a1)))-1)),(AG a1),x10,(AY a1 (AN x10) 0),y5,y12,())with|none=>none|some r=>match r with
         |.inl (o13,o14,o15,o16,o17,o18,o19,o20,o21,o22,o23,o24,o25,o26,o27,o28,o29,o30,o31,o32,o33,o34,o35,o36,o37,o38,o39,_)=>some (.inl (o13,o15,true,(IntKind.wrap .i64 (o14+1)),()))
         |.inr _=>none
        |false=>some (.inl (a0,a1,a2,(IntKind.wrap .i64 (a3+1)),()))
       |false=>some (.inl (a0,a1,a2,(IntKind.wrap .i64 (a3+1)),()))
      |false=>some (.inl (a0,a1,a2,(IntKind.wrap .i64 (a3+1)),()))
     |false=>some (.inl (a0,a1,a2,(IntKind.wrap .i64 (a3+1)),()))
    |false=>some (.inl (a0,a1,a2,(IntKind.wrap .i64 (a3+1)),()))
   |false=>some (.inl (a0,a1,a2,(IntKind.wrap .i64 (a3+1)),()))
  |false=>some (.inr (.inl (a0,a1,a2,())))
 |false=>some (.inr (.inl (a0,a1,a2,())))
def OF[Lk]:(Int×List Int×Unit)→Option ((Int×List Int×Unit)⊕Uf⊕(Int×List Int×Unit)⊕Unit):=fun(a0,a1,_)=>
 match(ilt 1 (AG a1))with
 |true=>match AS Dq many (a0,a1,false,0,())with|none=>none|some r=>match r with
  |.inl (o0,o1,o2,_)=>match(!o2)with
   |true=>some (.inr (.inl (false,())))
   |false=>some (.inl (o0,o1,()))
  |.inr _=>none
 |false=>some (.inr (.inr (.inl (a0,a1,()))))
def Zz[Lk]:(Int×List Int×Unit)→Option (Uf):=fun(a0,a1,_)=>
 match(fits ((AG ([]:List (Int)))+(AG a1)))with
 |true=>match AS OF many (a0,(A2 ([]:List (Int)) a1),())with|none=>none|some r=>match r with
  |.inl (o0,_)=>some (o0,())
  |.inr r=>match r with
  |.inl (o1,o2,_)=>match(ieq (AG o2) 1)with
   |true=>match idx o2 0 with|none=>none|some x3=>match AKY (o1,(AY o2 0 0),())with|none=>none|some (y4,_)=>some (y4,())
   |false=>some (false,())
  |.inr _=>none
 |false=>none
def ARB[Lk]:=fun v=>Lk.f (Zz v)
theorem AXo v:ARB v=Zz v:=AH _
abbrev T3:AE:=[(.tmp 0,.dat U4),(.tmp 1,.di)]
abbrev Tz:AE:=[(.tmp 0,.di)]
abbrev Tx:List RS:=[.one]
abbrev ABF:AE:=[(.tmp 0,.dat U4),(.tmp 1,.di),(.tmp 5,.di)]
abbrev ABE:At:=[(.ret,[(.tmp 4,.di)]),(.exit 0,[])]
def ES[Lk]:Uq→Option (Uq⊕U8⊕(Unit)⊕Unit):=fun(a0,a1,a2,_)=>
 match(ilt a2 (AG a0))with
 |true=>match idx a0 a2 with|none=>none|some x0=>match(ieq x0 a1)with
  |true=>some (.inr (.inl (a2,())))
  |false=>some (.inl (a0,a1,(IntKind.wrap .i64 (a2+1)),()))
 |false=>some (.inr (.inr (.inl ())))
def OP[Lk]:Us→Option (U8):=fun(a0,a1,_)=>
 match AS ES many (a0,a1,0,())with|none=>none|some r=>match r with
 |.inl (o0,_)=>some (o0,())
 |.inr r=>match r with
 |.inl _=>some ((-1:Int),())
 |.inr _=>none
def I4[Lk]:=fun v=>Lk.f (OP v)
theorem ABG v:I4 v=OP v:=AH _
abbrev Tq:AE:=[(.tmp 0,.dat U4)]
abbrev Tp:AE:=[(.tmp 0,.dat .bool)]
abbrev To:List RS:=[.one]
abbrev AAy:AE:=[(.tmp 0,.dat U4),(.tmp 3,.di)]
abbrev AAx:At:=[(.ret,[(.tmp 2,.dat .bool)]),(.exit 0,[])]
def DZ[Lk]:Us→Option (Us⊕Uf⊕(Unit)⊕Unit):=fun(a0,a1,_)=>
 match(ilt a1 (AG a0))with
 |true=>match idx a0 a1 with|none=>none|some x0=>match(ilt x0 0)with
  |true=>some (.inr (.inl (false,())))
  |false=>match idx a0 a1 with|none=>none|some x1=>match(ilt 10000 x1)with
  |true=>some (.inr (.inl (false,())))
  |false=>match Ce a0 0 a1 with|none=>none|some x2=>match idx a0 a1 with|none=>none|some x3=>match I4 (x2,x3,())with|none=>none|some (y4,_)=>match(ile 0 y4)with
  |true=>some (.inr (.inl (false,())))
  |false=>some (.inl (a0,(IntKind.wrap .i64 (a1+1)),()))
 |false=>some (.inr (.inr (.inl ())))
def OM[Lk]:Ul→Option (Uf):=fun(a0,_)=>
 match(ilt 1000 (AG a0))with
 |true=>some (false,())
 |false=>match AS DZ many (a0,0,())with|none=>none|some r=>match r with
 |.inl (o0,_)=>some (o0,())
 |.inr r=>match r with
 |.inl _=>some (true,())
 |.inr _=>none
def HN[Lk]:=fun v=>Lk.f (OM v)
theorem AAz v:HN v=OM v:=AH _
def AC3[Lk]:Us→Option ((List Int×Bool×Unit)):=fun(a0,a1,_)=>
 match I4 (a0,a1,())with|none=>none|some (y0,_)=>match HN (a0,())with|none=>none|some (y1,_)=>match(!y1)with
 |true=>some (([]:List (Int)),false,())
 |false=>match(ilt y0 0)with
 |true=>some (([]:List (Int)),false,())
 |false=>match Ce a0 y0 (AG a0)with|none=>none|some x2=>match(fits ((AG ([]:List (Int)))+(AG x2)))with
 |true=>match Ce a0 0 y0 with|none=>none|some x3=>match(fits ((AG (A2 ([]:List (Int)) x2))+(AG x3)))with
  |true=>some ((A2 (A2 ([]:List (Int)) x2) x3),true,())
  |false=>none
 |false=>none
def AC4[Lk]:=fun v=>Lk.f (AC3 v)
theorem AaM v:AC4 v=AC3 v:=AH _
def H8[Lk]:Uq→Option (Uq⊕Us⊕Unit):=fun(a0,a1,a2,_)=>
 match(ilt a2 (AG a0))with
 |true=>match idx a0 a2 with|none=>none|some x0=>some (.inl (a0,(Ci a1 x0),(IntKind.wrap .i64 (a2+1)),()))
 |false=>some (.inr (.inl (a0,a1,())))
def Tu[Lk]:Ul→Option (Ul):=fun(a0,_)=>
 match HN (a0,())with|none=>none|some (y0,_)=>match(!y0)with
 |true=>some (([]:List (Int)),())
 |false=>match(ieq (AG a0) 0)with
 |true=>some (([]:List (Int)),())
 |false=>match idx a0 0 with|none=>none|some x1=>match AS H8 many (a0,x1,0,())with|none=>none|some r=>match r with
 |.inl (o2,o3,_)=>match AC4 (o2,o3,())with|none=>none|some (y4,y5,_)=>some (y4,())
 |.inr _=>none
def Y6[Lk]:=fun v=>Lk.f (Tu v)
theorem ASe v:Y6 v=Tu v:=AH _
abbrev VH:AE:=[(.tmp 0,.dat Ua),(.tmp 1,.dat Ua)]
abbrev VG:AE:=[(.tmp 0,.dat .bool)]
abbrev VF:List RS:=[.one]
abbrev ACU:AE:=[(.tmp 0,.dat Ua),(.tmp 1,.dat Ua),(.tmp 5,.di)]
abbrev ACT:At:=[(.ret,[(.tmp 4,.dat .bool)]),(.exit 0,[])]
def Dc[Lk]:(List U3×List U3×Int×Unit)→Option ((List U3×List U3×Int×Unit)⊕Uf⊕(Unit)⊕Unit):=fun(a0,a1,a2,_)=>
 match(ilt a2 (AG a0))with
 |true=>match idx a0 a2 with|none=>none|some x0=>match idx a1 a2 with|none=>none|some x1=>match IL (x0,x1,())with|none=>none|some (y2,_)=>match(!y2)with
  |true=>some (.inr (.inl (false,())))
  |false=>some (.inl (a0,a1,(IntKind.wrap .i64 (a2+1)),()))
 |false=>some (.inr (.inr (.inl ())))
def OS[Lk]:(List U3×List U3×Unit)→Option (Uf):=fun(a0,a1,_)=>
 match(!(ieq (AG a0) (AG a1)))with
 |true=>some (false,())
 |false=>match AS Dc many (a0,a1,0,())with|none=>none|some r=>match r with
 |.inl (o0,_)=>some (o0,())
 |.inr r=>match r with
 |.inl _=>some (true,())
 |.inr _=>none
def LQ[Lk]:=fun v=>Lk.f (OS v)
theorem ACV v:LQ v=OS v:=AH _
def EO[Lk]:Uv→Option (Uv⊕Uf⊕(Int×List U3×List Bool×Int×Int×Int×List Int×Int×Bool×Int×List Int×Bool×Bool×List Int×List Int×List U3×List Int×List U3×Bool×Bool×List Int×Int×Int×Bool×Unit)⊕Unit):=fun(a0,a1,a2,a3,a4,a5,a6,a7,a8,a9,a10,a11,a12,a13,a14,a15,a16,a17,a18,a19,a20,a21,a22,a23,a24,a25,_)=>
 match(ilt a7 (AG a6))with
 |true=>match idx a6 a7 with|none=>none|some x0=>match(ilt x0 a0)with
  |true=>match idx a6 a7 with|none=>none|some x1=>match idx a2 x1 with|none=>none|some x2=>match(AY a2 (AN x1) false)with
   |true=>some (.inr (.inl (false,())))
   |false=>match idx a6 a7 with|none=>none|some x3=>match idx a2 x3 with|none=>none|some x4=>some (.inl (a0,a1,(BB a2 (AN x3) true),a3,(IntKind.wrap .i64 (a4+1)),a5,a6,(IntKind.wrap .i64 (a7+1)),a8,a9,a10,a11,a12,a13,a14,a15,a16,a17,a18,a19,a20,a21,a22,a23,a24,a25,()))
  |false=>some (.inl (a0,a1,a2,a3,a4,a5,a6,(IntKind.wrap .i64 (a7+1)),a8,a9,a10,a11,a12,a13,a14,a15,a16,a17,a18,a19,a20,a21,a22,a23,a24,a25,()))
 |false=>some (.inr (.inr (.inl (a0,a1,a2,a3,a4,a5,a8,a9,a10,a11,a12,a13,a14,a15,a16,a17,a18,a19,a20,a21,a22,a23,a24,a25,()))))
def EP[Lk]:(Int×List U3×List Bool×Int×Int×Int×Unit)→Option ((Int×List U3×List Bool×Int×Int×Int×Unit)⊕Uf⊕V8⊕Unit):=fun(a0,a1,a2,a3,a4,a5,_)=>
 match(ilt a5 (AG a1))with
 |true=>match idx a1 a5 with|none=>none|some x0=>match HN (x0,())with|none=>none|some (y1,_)=>match(!y1)with
  |true=>some (.inr (.inl (false,())))
  |false=>match(ieq (AG x0) 0)with
  |true=>some (.inr (.inl (false,())))
  |false=>match ARB (a0,x0,())with|none=>none|some (y2,_)=>match(!y2)with
  |true=>some (.inr (.inl (false,())))
  |false=>match Y6 (x0,())with|none=>none|some (y3,_)=>match LQ (([y3]:List U3),([x0]:List U3),())with|none=>none|some (y4,_)=>match(!y4)with
  |true=>some (.inr (.inl (false,())))
  |false=>match idx x0 0 with|none=>none|some x5=>match(ile x5 a3)with
  |true=>some (.inr (.inl (false,())))
  |false=>match idx x0 0 with|none=>none|some x6=>match AS EO many (a0,a1,a2,x6,a4,a5,x0,0,x0,(AG x0),(ieq (AG x0) 0),a0,x0,y2,(!y2),x0,y3,([y3]:List U3),x0,([x0]:List U3),y4,(!y4),x0,x5,a3,(ile x5 a3),())with|none=>none|some r=>match r with
  |.inl (o7,_)=>some (.inr (.inl (o7,())))
  |.inr r=>match r with
  |.inl (o8,o9,o10,o11,o12,o13,o14,o15,o16,o17,o18,o19,o20,o21,o22,o23,o24,o25,o26,o27,o28,o29,o30,o31,_)=>some (.inl (o8,o9,o10,o11,o12,(IntKind.wrap .i64 (o13+1)),()))
  |.inr _=>none
 |false=>some (.inr (.inr (.inl (a0,a1,a4,()))))
def Tg[Lk]:(Ui×Unit)→Option (Uf):=fun(a0,_)=>
 match(ilt a0.1 1)with
 |true=>some (false,())
 |false=>match(ilt 64 a0.1)with
 |true=>some (false,())
 |false=>match(ilt a0.1 (AG a0.2.1))with
 |true=>some (false,())
 |false=>match(D6 a0.1&&D6 a0.1&&ile a0.1 a0.1&&true)with
 |true=>match AS EP many (a0.1,a0.2.1,(EA (AN a0.1) false),(-1:Int),(0:Int),(0:Int),())with|none=>none|some r=>match r with
  |.inl (o0,_)=>some (o0,())
  |.inr r=>match r with
  |.inl (o1,o2,o3,_)=>some ((ieq o3 o1),())
  |.inr _=>none
 |false=>none
def RR[Lk]:=fun v=>Lk.f (Tg v)
theorem ASB v:RR v=Tg v:=AH _
def H9[Lk]:(Int×Int×List U3×Int×Unit)→Option ((Int×Int×List U3×Int×Unit)⊕U8⊕(Unit)⊕Unit):=fun(a0,a1,a2,a3,_)=>
 match(ilt a3 (AG a2))with
 |true=>match idx a2 a3 with|none=>none|some x0=>match I4 (x0,a0,())with|none=>none|some (y1,_)=>match(ile 0 y1)with
  |true=>some (.inr (.inl (a3,())))
  |false=>some (.inl (a0,a1,a2,(IntKind.wrap .i64 (a3+1)),()))
 |false=>some (.inr (.inr (.inl ())))
def Tv[Lk]:Vh→Option (U8):=fun(a0,a1,_)=>
 match AS H9 many (a1,a0.1,a0.2.1,0,())with|none=>none|some r=>match r with
 |.inl (o0,_)=>some (o0,())
 |.inr r=>match r with
 |.inl _=>some ((-1:Int),())
 |.inr _=>none
def LB[Lk]:=fun v=>Lk.f (Tv v)
theorem ASi v:LB v=Tv v:=AH _
def M7[Lk]:(List U3×List Int×Int×Unit)→Option ((List U3×List Int×Int×Unit)⊕(List U3×List Int×Int×Unit)⊕Unit):=fun(a0,a1,a2,_)=>
 match(ilt a2 (AG a0))with
 |true=>match idx a0 a2 with|none=>none|some x0=>match idx x0 0 with|none=>none|some x1=>match idx a1 0 with|none=>none|some x2=>match(ilt x1 (AY a1 0 0))with
  |true=>some (.inl (a0,a1,(IntKind.wrap .i64 (a2+1)),()))
  |false=>some (.inr (.inl (a0,a1,a2,())))
 |false=>some (.inr (.inl (a0,a1,a2,())))
def AJV[Lk]:(List U3×List Int×Unit)→Option (Uj):=fun(a0,a1,_)=>
 match Y6 (a1,())with|none=>none|some (y0,_)=>match AS M7 many (a0,y0,0,())with|none=>none|some r=>match r with
 |.inl (o1,o2,o3,_)=>match Ce o1 0 o3 with|none=>none|some x4=>match(fits ((AG ([]:List U3))+(AG x4)))with
  |true=>match(fits ((AG (A2 ([]:List U3) x4))+(AG ([o2]:List U3))))with
   |true=>match Ce o1 o3 (AG o1)with|none=>none|some x5=>match(fits ((AG (A2 (A2 ([]:List U3) x4) ([o2]:List U3)))+(AG x5)))with
    |true=>some ((A2 (A2 (A2 ([]:List U3) x4) ([o2]:List U3)) x5),())
    |false=>none
   |false=>none
  |false=>none
 |.inr _=>none
def AWS[Lk]:=fun v=>Lk.f (AJV v)
theorem Acb v:AWS v=AJV v:=AH _
def Md[Lk]:V7→Option (Uj):=fun(a0,a1,_)=>
 match Ce a0 0 a1 with|none=>none|some x0=>match(fits ((AG ([]:List U3))+(AG x0)))with
 |true=>match Ce a0 (IntKind.wrap .i64 (a1+1)) (AG a0)with|none=>none|some x1=>match(fits ((AG (A2 ([]:List U3) x0))+(AG x1)))with
  |true=>some ((A2 (A2 ([]:List U3) x0) x1),())
  |false=>none
 |false=>none
def HY[Lk]:=fun v=>Lk.f (Md v)
theorem AH4 v:HY v=Md v:=AH _
def KY[Lk]:(Ui×Int×Int×Unit)→Option (V8):=fun(a0,a1,a2,_)=>
 match RR ((a0.1,(a0.2.1,())),())with|none=>none|some (y0,_)=>match(!y0)with
 |true=>some (a0.1,a0.2.1,1,())
 |false=>match AKY (a0.1,a1,())with|none=>none|some (y1,_)=>match(!y1)with
 |true=>some (a0.1,a0.2.1,10,())
 |false=>match AKY (a0.1,a2,())with|none=>none|some (y2,_)=>match(!y2)with
 |true=>some (a0.1,a0.2.1,10,())
 |false=>match LB ((a0.1,(a0.2.1,())),a1,())with|none=>none|some (y3,_)=>match LB ((a0.1,(a0.2.1,())),a2,())with|none=>none|some (y4,_)=>match(ieq y3 y4)with
 |true=>some (a0.1,a0.2.1,5,())
 |false=>match LB ((a0.1,(a0.2.1,())),a1,())with|none=>none|some (y5,_)=>match LB ((a0.1,(a0.2.1,())),a2,())with|none=>none|some (y6,_)=>match idx a0.2.1 y5 with|none=>none|some x7=>match AC4 (x7,a1,())with|none=>none|some (y8,y9,_)=>match idx a0.2.1 y6 with|none=>none|some x10=>match AC4 (x10,a2,())with|none=>none|some (y11,y12,_)=>match AQU (a0.1,a1,a2,())with|none=>none|some (y13,_)=>match(fits ((AG ([a1,y13]:List (Int)))+(AG y11)))with
 |true=>match AQU (a0.1,a2,a1,())with|none=>none|some (y14,_)=>match(fits ((AG (A2 ([a1,y13]:List (Int)) y11))+(AG ([y14]:List (Int)))))with
  |true=>match Ce y8 1 (AG y8)with|none=>none|some x15=>match(fits ((AG (A2 (A2 ([a1,y13]:List (Int)) y11) ([y14]:List (Int))))+(AG (DK 1 (AN (AG x15)) y8))))with
   |true=>match HY (a0.2.1,(imax y5 y6),())with|none=>none|some (y16,_)=>match HY (y16,(Ci y5 y6),())with|none=>none|some (y17,_)=>match AWS (y17,(A2 (A2 (A2 ([a1,y13]:List (Int)) y11) ([y14]:List (Int))) (DK 1 (AN (AG x15)) y8)),())with|none=>none|some (y18,_)=>some (a0.1,y18,0,())
   |false=>none
  |false=>none
 |false=>none
def VK[Lk]:=fun v=>Lk.f (KY v)
theorem OU v:VK v=KY v:=AH _
abbrev AAe:AE:=[(.tmp 0,.dat Um),(.tmp 1,.dat Um)]
abbrev AAd:AE:=[(.tmp 0,.dat .bool)]
abbrev AAc:List RS:=[.one]
abbrev AGj:AE:=[(.tmp 0,.dat Um),(.tmp 1,.dat Um),(.tmp 5,.di)]
abbrev AGi:At:=[(.ret,[(.tmp 4,.dat .bool)]),(.exit 0,[])]
def Fj[Lk]:(List U1×List U1×Int×Unit)→Option ((List U1×List U1×Int×Unit)⊕Uf⊕(Unit)⊕Unit):=fun(a0,a1,a2,_)=>
 match(ilt a2 (AG a0))with
 |true=>match idx a0 a2 with|none=>none|some x0=>match idx a1 a2 with|none=>none|some x1=>match(!(ieq x0.1 x1.1&&(ieq x0.2.1 x1.2.1&&true)))with
  |true=>some (.inr (.inl (false,())))
  |false=>some (.inl (a0,a1,(IntKind.wrap .i64 (a2+1)),()))
 |false=>some (.inr (.inr (.inl ())))
def RL[Lk]:(List U1×List U1×Unit)→Option (Uf):=fun(a0,a1,_)=>
 match(!(ieq (AG a0) (AG a1)))with
 |true=>some (false,())
 |false=>match AS Fj many (a0,a1,0,())with|none=>none|some r=>match r with
 |.inl (o0,_)=>some (o0,())
 |.inr r=>match r with
 |.inl _=>some (true,())
 |.inr _=>none
def Pt[Lk]:=fun v=>Lk.f (RL v)
theorem AGk v:Pt v=RL v:=AH _
abbrev Aba:AE:=[(.tmp 0,.dat Ur),(.tmp 1,.di)]
abbrev AbZ:AE:=[(.tmp 0,.di)]
abbrev AbY:List RS:=[.one]
def AVv[Lk]:Vh→Option (U8):=fun(a0,a1,_)=>
 match tin (a0.1,a1,())with|none=>none|some (y0,_)=>match(!y0)with
 |true=>some ((-1:Int),())
 |false=>match Pb ((a0.1,(a0.2.1,())),())with|none=>none|some (y1,_)=>match(!y1)with
 |true=>some ((-1:Int),())
 |false=>match Pc ((a0.1,(a0.2.1,())),a1,())with|none=>none|some (y2,_)=>some (y2,())
def tof[Lk]:=fun v=>Lk.f (AVv v)
theorem Abb v:tof v=AVv v:=AH _
def Hv[Lk]:(List U1×Int×List U3×Int×Unit)→Option ((List U1×Int×List U3×Int×Unit)⊕U8⊕(Unit)⊕Unit):=fun(a0,a1,a2,a3,_)=>
 match(ilt a3 (AG a0))with
 |true=>match idx a0 a3 with|none=>none|some x0=>match(ilt x0.1 0)with
  |true=>some (.inr (.inl (10,())))
  |false=>match idx a0 a3 with|none=>none|some x1=>match(ile a1 x1.1)with
  |true=>some (.inr (.inl (10,())))
  |false=>match idx a0 a3 with|none=>none|some x2=>match(ilt x2.2.1 0)with
  |true=>some (.inr (.inl (10,())))
  |false=>match idx a0 a3 with|none=>none|some x3=>match(ile a1 x3.2.1)with
  |true=>some (.inr (.inl (10,())))
  |false=>some (.inl (a0,a1,a2,(IntKind.wrap .i64 (a3+1)),()))
 |false=>some (.inr (.inr (.inl ())))
def TU[Lk]:(Ui×List U1×Unit)→Option (U8):=fun(a0,a1,_)=>
 match RR ((a0.1,(a0.2.1,())),())with|none=>none|some (y0,_)=>match(!y0)with
 |true=>some (1,())
 |false=>match AS Hv many (a1,a0.1,a0.2.1,0,())with|none=>none|some r=>match r with
 |.inl (o1,_)=>some (o1,())
 |.inr r=>match r with
 |.inl _=>some (0,())
 |.inr _=>none
def AIe[Lk]:=fun v=>Lk.f (TU v)
theorem ARI v:AIe v=TU v:=AH _
def IK[Lk]:(List U1×Int×List U3×Int×List Bool×Int×Unit)→Option ((List U1×Int×List U3×Int×List Bool×Int×Unit)⊕(Int×List U3×Int×List Bool×Unit)⊕Unit):=fun(a0,a1,a2,a3,a4,a5,_)=>
 match(ilt a5 (AG a0))with
 |true=>match idx a0 a5 with|none=>none|some x0=>match idx a0 a5 with|none=>none|some x1=>match VK ((a1,(a2,())),x0.1,x1.2.1,())with|none=>none|some (y2,y3,y4,_)=>match(fits ((AG a4)+(AG ([(ieq y4 0)]:List (Bool)))))with
  |true=>some (.inl (a0,y2,y3,a3,(A2 a4 ([(ieq y4 0)]:List (Bool))),(IntKind.wrap .i64 (a5+1)),()))
  |false=>none
 |false=>some (.inr (.inl (a1,a2,a3,a4,())))
def VJ[Lk]:(Ui×List U1×Unit)→Option ((Ui×List Bool×Int×Unit)):=fun(a0,a1,_)=>
 match AIe ((a0.1,(a0.2.1,())),a1,())with|none=>none|some (y0,_)=>match(!(ieq y0 0))with
 |true=>some ((a0.1,(a0.2.1,())),([]:List (Bool)),y0,())
 |false=>match AS IK many (a1,a0.1,a0.2.1,0,([]:List (Bool)),0,())with|none=>none|some r=>match r with
 |.inl (o1,o2,o3,o4,_)=>some ((o1,(o2,())),o4,0,())
 |.inr _=>none
def AKO[Lk]:=fun v=>Lk.f (VJ v)
theorem AT2 v:AKO v=VJ v:=AH _
def ATU[Lk]:(Int×List U1×Unit)→Option (Vh):=fun(a0,a1,_)=>
 match AKI (a0,())with|none=>none|some (y0,y1,y2,_)=>match(!(ieq y2 0))with
 |true=>some ((0,(([]:List U3),())),y2,())
 |false=>match AKO ((y0,(y1,())),a1,())with|none=>none|some (y3,y4,y5,_)=>match(!(ieq y5 0))with
 |true=>some ((0,(([]:List U3),())),y5,())
 |false=>some ((y3.1,(y3.2.1,())),0,())
def AiD[Lk]:=fun v=>Lk.f (ATU v)
theorem AgR v:AiD v=ATU v:=AH _
def Hq[Lk]:(Int×Int×List U5×List U1×Int×Unit)→Option ((Int×Int×List U5×List U1×Int×Unit)⊕Uk⊕Unit):=fun(a0,a1,a2,a3,a4,_)=>
 match(ilt a4 (AG a2))with
 |true=>match idx a2 a4 with|none=>none|some x0=>match x0.2.2.2.1 with
  |true=>match idx a2 a4 with|none=>none|some x1=>match(ile a0 x1.2.2.1)with
   |true=>match idx a2 a4 with|none=>none|some x2=>match idx a2 a4 with|none=>none|some x3=>match(fits ((AG a3)+(AG ([(x2.1,(x3.2.1,()))]:List U1))))with
    |true=>some (.inl (a0,a1,a2,(A2 a3 ([(x2.1,(x3.2.1,()))]:List U1)),(IntKind.wrap .i64 (a4+1)),()))
    |false=>none
   |false=>some (.inl (a0,a1,a2,a3,(IntKind.wrap .i64 (a4+1)),()))
  |false=>some (.inl (a0,a1,a2,a3,(IntKind.wrap .i64 (a4+1)),()))
 |false=>some (.inr (.inl (a3,())))
def TQ[Lk]:(Uo×Int×Unit)→Option (Uk):=fun(a0,a1,_)=>
 match AS Hq many (a1,a0.1,a0.2.1,([]:List U1),0,())with|none=>none|some r=>match r with
 |.inl (o0,_)=>some (o0,())
 |.inr _=>none
def AIT[Lk]:=fun v=>Lk.f (TQ v)
theorem AQ8 v:AIT v=TQ v:=AH _
def QQ[Lk]:(Uo×Int×Unit)→Option (Vh):=fun(a0,a1,_)=>
 match HM ((a0.1,(a0.2.1,())),())with|none=>none|some (y0,_)=>match(!y0)with
 |true=>some ((0,(([]:List U3),())),1,())
 |false=>match AIT ((a0.1,(a0.2.1,())),a1,())with|none=>none|some (y1,_)=>match AiD (a0.1,y1,())with|none=>none|some (y2,y3,_)=>some ((y2.1,(y2.2.1,())),y3,())
def AC5[Lk]:=fun v=>Lk.f (QQ v)
theorem APc v:AC5 v=QQ v:=AH _
abbrev VN:AE:=[(.tmp 0,.dat Ux),(.tmp 1,.di)]
abbrev VM:AE:=[(.tmp 0,.dat Ur),(.tmp 1,.di)]
abbrev VL:List RS:=[.one,.one]
def He[Lk]:(Uo×Int×Unit)→Option (Vh):=fun(a0,a1,_)=>
 match LO ((a0.1,(a0.2.1,())),())with|none=>none|some (y0,_)=>match(!y0)with
 |true=>some ((0,(([]:List U3),())),1,())
 |false=>match P9 ((a0.1,(a0.2.1,())),a1,())with|none=>none|some (y1,_)=>match fof (a0.1,y1,())with|none=>none|some (y2,y3,_)=>some ((y2.1,(y2.2.1,())),y3,())
def LS[Lk]:=fun v=>Lk.f (He v)
theorem LR v:LS v=He v:=AH _
def ATV[Lk]:Vh→Option (U8):=fun(a0,a1,_)=>
 match RR ((a0.1,(a0.2.1,())),())with|none=>none|some (y0,_)=>match(!y0)with
 |true=>some ((-1:Int),())
 |false=>match AKY (a0.1,a1,())with|none=>none|some (y1,_)=>match(!y1)with
 |true=>some ((-1:Int),())
 |false=>match LB ((a0.1,(a0.2.1,())),a1,())with|none=>none|some (y2,_)=>some (y2,())
def AiE[Lk]:=fun v=>Lk.f (ATV v)
theorem AgS v:AiE v=ATV v:=AH _
end
end Go.Pev
end
