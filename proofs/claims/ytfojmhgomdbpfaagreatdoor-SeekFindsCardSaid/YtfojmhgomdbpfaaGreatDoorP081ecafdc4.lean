/- A part of the proofs of this seat: PevDec2 PevFlow PevFlow2 PevCall PevCall2 PevCall3 PevCall4 PevTop PevClone G29M1 G29M2. -/
import Derived.Test.YtfojmhgomdbpfaaGreatDoorPe17dfda691
import Derived.LoopN
import Derived.Laws.Sem
import Derived.KernelRfl
import Derived.Lib.SliceRun
set_option linter.unusedVariables false
set_option linter.unusedSimpArgs false
set_option linter.unusedSectionVars false
set_option maxRecDepth 100000
section
namespace Go.Pev
open Go.RowKit
theorem AOS(f g:List Nat):∀ fz,Ag (f++g) fz=Ag g (Ag f fz):=by
 induction f with
 |nil=>intro fz;rfl
 |cons a f ih=>intro fz;simp only[AfK,Ag];exact ih _
section
variable {w:World} {H:List Ob} {m:Mp} {val:Nat→Value} {tm:List AV}
theorem CK{fz:List Bool}{id:Nat}(h:Af fz id=true):fz.getD id false=false:=by
 unfold Af at h;simpa using h
theorem ARK:∀ (its:AE) (fz:List Bool) (bs:List Bnd) (F:Nat→Prop) (m':Mp) (E:St) (d:B7 (leaves its)) (bs':List Bnd) (fr:List Nat),
  HI w F m H fz→(∀ t v,tm[t]? = some v→Rep w F m H v (val t))→Inv w F m H fz bs m' E val→dec tm H its fz bs=some (d,bs',fr) →
  ∃ F2 m2,Ap w F m H fz w F2 m H (Ag fr fz)∧Inv w F2 m H (Ag fr fz) bs' m2 (enc its d E) val∧∃ r,bs'=bs++r:=by
 intro its
 induction its with
 |nil=>
  intro fz bs F m' E d bs' fr hi ht hv h
  simp only[dec,Aep]at h
  obtain⟨rfl,rfl,rfl⟩:=h
  exact⟨F,m',Ap.refl hi,hv,[],by simp⟩
 |cons p r ih=>
  intro fz bs F m' E d bs' fr hi ht hv h
  obtain⟨l,c⟩:=p
  have obj:∀ (b:Bnd) (o:Ob) (lc:Option (Nat×Nat)) (ref:AV) (u:Value) (xs:B7 (leaves r)) (g:List Nat),ARs w m H bs val l u→(∀ (i:Nat) (c:Bnd) (id:Nat),bs[i]? = some c→c.id? = some id→b.id?≠some id) →
    BM w F m H fz (upd m' E.heap.length lc) (E.heap++[o]) E.heap.length b→Rep w F (upd m' E.heap.length lc) (E.heap++[o]) ref u→dec tm H r fz (bs++[b])=some (xs,bs',g) →
    ∃ F2 m2,Ap w F m H fz w F2 m H (Ag g fz)∧Inv w F2 m H (Ag g fz) bs' m2 (enc r xs (place (Da E o) ref l)) val∧∃ r,bs'=bs++r:=by
   intro b o lc ref u xs g hat hid hbd hrep hd
   have h1:=hv.add hid hbd
   have h2:=h1.place (hat.app b) hrep
   obtain⟨F2,m2,a1,a2,rr,a3⟩:=ih fz (bs++[b]) F _ _ xs bs' g hi ht h2 hd
   exact⟨F2,m2,a1,a2,b::rr,by rw[a3];simp⟩
  have ref:∀ (v:AV) (u:Value) (xs:B7 (leaves r)) (g:List Nat),ARs w m H bs val l u→Rep w F m' E.heap v u→dec tm H r fz bs=some (xs,bs',g) →
    ∃ F2 m2,Ap w F m H fz w F2 m H (Ag g fz)∧Inv w F2 m H (Ag g fz) bs' m2 (enc r xs (place E v l)) val∧∃ r,bs'=bs++r:=by
   intro v u xs g hat hrep hd
   exact ih fz bs F _ _ xs bs' g hi ht (hv.place hat hrep) hd
  cases c with
  |dat t=>
   simp only[dec]at h
   split at h
   ·rename_i v hl
    split at h
    ·rename_i x f hx
     split at h
     ·rename_i hf
      split at h
      ·rename_i xs bs1 g hd
       simp only[Aep]at h
       obtain⟨rfl,rfl,rfl⟩:=h
       obtain⟨u,hu,hat⟩:=Bj hi ht hl
       have hdat:=Aap hi hx hu
       have hg:=Ap.freeze hi f
       have hv1:=hv.freeze hf
       have hv2:=hv1.place (v:=.data t x) hat (by unfold Rep;exact hdat)
       obtain⟨F2,m2,a1,a2,rr,a3⟩:=ih (Ag f fz) bs (C4 F m H f) _ _ xs _ _ hg.2 (fun t v h=>hg.1.rep hi (ht t v h)) hv2 hd
       rw[AOS]
       exact⟨F2,m2,hg.trans a1,a2,rr,a3⟩
      ·cases h
     ·cases h
    ·cases h
   ·cases h
  |own T e=>
   simp only[dec]at h
   split at h
   ·rename_i e' hl
    split at h
    ·rename_i hc
     simp only[Aer]at hc
     have hsz:=hc
     split at h
     ·rename_i xs bs1 g hd
      simp only[Aep]at h
      obtain⟨rfl,rfl,rfl⟩:=h
      obtain⟨u,hu,hat⟩:=Bj hi ht hl
      unfold Rep at hu
      refine obj .none (.arr T e []) none (.own E.heap.length) u xs _ hat (fun _ _ _ _ _=>by simp[Bnd.id?]) ?_ ?_ hd
      ·simp only[BM]
       exact⟨Aq ..,.inl ⟨T,e,by simp,hsz⟩⟩
      ·unfold Rep A6
       simp only[AfR (Aez _),Aga,AfY,Aq]
       exact⟨_,hu⟩
     ·cases h
    ·cases h
   ·rename_i id hl
    split at h
    ·rename_i T' e' ys ho hfr
     simp only[Aet]at hfr
     obtain⟨hun,hfr⟩:=hfr
     split at h
     ·rename_i ys' hT hc
      simp only[Aer]at hT
      subst hT
      obtain⟨he,hy⟩:=CM hc
      subst he
      simp only at hy
      subst hy
      split at h
      ·rename_i xs bs1 g hd
       simp only[Aep]at h
       obtain⟨rfl,rfl,rfl⟩:=h
       obtain⟨u,hu,hat⟩:=Bj hi ht hl
       refine obj (.whole id) (.arr T e' ys) (m id) (.own E.heap.length) u xs _ hat (fun i c id' hic hcid => ?_) ?_ ?_ hd
       ·rintro h;simp only[Bnd.id?,Aep]at h;subst h;exact Eo hfr i c hic hcid
       ·simp only[BM]
        exact⟨Aq ..,.inl ⟨T,e',ys,ho,by simp,CK hun⟩⟩
       ·unfold Rep at hu ⊢
        rw[ho]at hu
        rw[AfR (Aez _),Aga,AfY,Aq]
        exact hu
      ·cases h
     ·cases h
    ·cases h
   ·rename_i id n hl
    split at h
    ·rename_i T' e' ys ho hfr
     simp only[Aet]at hfr
     obtain⟨hun,hfr⟩:=hfr
     split at h
     ·rename_i ys' hT hc
      simp only[Aer]at hT
      subst hT
      obtain⟨he,hy⟩:=CM hc
      subst he
      simp only at hy
      subst hy
      split at h
      ·rename_i xs bs1 g hd
       simp only[Aep]at h
       obtain⟨rfl,rfl,rfl⟩:=h
       obtain⟨u,hu,hat⟩:=Bj hi ht hl
       unfold Rep Ga at hu
       rw[ho]at hu
       obtain⟨hle,hu⟩:=hu
       have hid:∀ (i:Nat) (c:Bnd) (id':Nat),bs[i]? = some c→c.id? = some id'→(Bnd.cut id).id?≠some id':=by
        intro i c id' hic hcid h;simp only[Bnd.id?,Aep]at h;subst h;exact Eo hfr i c hic hcid
       have hget:(E.heap++[Ob.arr T e' (Bo n ys)])[E.heap.length]? = some (Ob.arr T e' (Bo n ys)):=by simp
       obtain⟨hsz,hob⟩:=hi.obj id _ ho
       have hnil:n=0→List.take (α:=e'.den) n ys=[]:=by rintro rfl;simp
       have hlen:List.length (α:=e'.den) (Bo n ys)=n:=by unfold Bo;rw[Ae8];omega
       cases hm:m id with
       |none=>
        rw[hm]at hob hu
        simp only at hob hu
        subst hob
        have h0:n=0:=by simpa using hle
        subst h0
        obtain⟨a,rfl⟩:=hu
        refine obj (.cut id) (.arr T e' (Bo 0 [])) none (.own E.heap.length) _ xs _ hat hid ?_ ?_ hd
        ·simp only[BM]
         exact⟨T,e',[],0,ho,CK hun,hget,.inl (by rw[Aq,hm])⟩
        ·unfold Rep
         rw[hget,Aq]
         exact⟨a,rfl⟩
       |some p=>
        obtain⟨b,cap⟩:=p
        rw[hm]at hob hu
        obtain⟨a,rfl,ha⟩:=hu
        obtain⟨vs,row,o1,o2,o3,o4,o5,o6⟩:=hob
        by_cases hcap:cap=0
        ·subst hcap
         have h0:n=0:=by omega
         refine obj (.cut id) (.arr T e' (Bo n ys)) none (.own E.heap.length) _ xs _ hat hid ?_ ?_ hd
         ·simp only[BM]
          exact⟨T,e',ys,n,ho,CK hun,hget,.inr ⟨Aq ..,hnil h0⟩⟩
         ·unfold Rep
          rw[hget,Aq]
          exact⟨a,by rw[h0]⟩
        ·refine obj (.cut id) (.arr T e' (Bo n ys)) (m id) (.own E.heap.length) _ xs _ hat hid ?_ ?_ hd
         ·simp only[BM]
          exact⟨T,e',ys,n,ho,CK hun,hget,.inl (Aq ..)⟩
         ·unfold Rep A6
          rw[hget,Aq,hm]
          have:=ha (by omega)
          rw[this]
          simp[hlen]
      ·cases h
     ·cases h
    ·cases h
   ·cases h
  |box n=>
   simp only[dec]at h
   split at h
   ·rename_i id hl
    split at h
    ·rename_i cs ho hfr
     split at h
     ·rename_i hn
      simp only[Aer]at hn
      obtain⟨u,hu,hat⟩:=Bj hi ht hl
      obtain⟨b,cc,vs,T,b1,b2,b3,b4⟩:=hi.obj id _ ho
      refine obj (.whole id) (.box (List.replicate n .junk)) (m id) (.ptr E.heap.length 0) u d fr hat (fun i c id' hic hcid => ?_) ?_ ?_ h
      ·rintro h;simp only[Bnd.id?,Aep]at h;subst h;exact Eo hfr i c hic hcid
      ·simp only[BM]
       refine⟨Aq ..,.inr (.inr (.inl ⟨cs,List.replicate n .junk,b,cc,vs,T,ho,by simp,by simp[hn],b1,b2,?_,b4⟩))⟩
       refine DM (by rw[Ar b3];simp[hn]) fun i c v hc _ => ?_
       have:=Agb (Ae5 hc)
       subst this
       unfold Rep;trivial
      ·unfold Rep Gb at hu ⊢
       rw[ho]at hu
       rw[AfR (Aez _),Aga,AfY,Aq]
       exact hu
     ·cases h
    ·cases h
   ·cases h
  |map k v=>
   simp only[dec]at h
   split at h
   ·rename_i id hl
    split at h
    ·rename_i k' v' es ho hfr
     split at h
     ·rename_i es' hc
      obtain⟨he,hy⟩:=CM hc
      cases he
      simp only at hy
      subst hy
      split at h
      ·rename_i xs bs1 g hd
       simp only[Aep]at h
       obtain⟨rfl,rfl,rfl⟩:=h
       obtain⟨u,hu,hat⟩:=Bj hi ht hl
       refine obj (.whole id) (.map k v es) (m id) (.mp E.heap.length) u xs _ hat (fun i c id' hic hcid => ?_) ?_ ?_ hd
       ·rintro h;simp only[Bnd.id?,Aep]at h;subst h;exact Eo hfr i c hic hcid
       ·simp only[BM]
        exact⟨Aq ..,.inr (.inl ⟨k,v,es,ho,by simp⟩)⟩
       ·unfold Rep Lc at hu ⊢
        rw[ho]at hu
        rw[AfR (Aez _),Aga,AfY,Aq]
        exact hu
      ·cases h
     ·cases h
    ·cases h
   ·cases h
  |own' j=>
   simp only[dec]at h
   split at h
   ·rename_i id id' hl hj
    split at h
    ·rename_i hid
     simp only[Aer]at hid
     subst hid
     obtain⟨u,hu,hat⟩:=Bj hi ht hl
     exact ref (.own j) u d fr hat (AZA (hv.ob j _ hj) hu) h
    ·cases h
   ·cases h
  |ptr' j off=>
   simp only[dec]at h
   split at h
   ·rename_i id o id' hl hj
    split at h
    ·rename_i hid
     simp only[Aet,Aer]at hid
     obtain⟨rfl,rfl⟩:=hid
     obtain⟨u,hu,hat⟩:=Bj hi ht hl
     exact ref (.ptr j o) u d fr hat (AO4 (hv.ob j _ hj) hu) h
    ·cases h
   ·cases h
  |sub' j=>
   simp only[dec]at h
   split at h
   ·rename_i id off n id' hl hj
    split at h
    ·rename_i hid
     simp only[Aer]at hid
     subst hid
     split at h
     ·rename_i xs bs1 g hd
      simp only[Aep]at h
      obtain⟨rfl,rfl,rfl⟩:=h
      obtain⟨u,hu,hat⟩:=Bj hi ht hl
      exact ref (.win j off n) u xs _ hat (ANL (hv.ob j _ hj) hu) hd
     ·cases h
    ·cases h
   ·cases h
  |win' j=>
   simp only[dec]at h
   split at h
   ·rename_i id n id' hl hj
    split at h
    ·rename_i hid
     simp only[Aer]at hid
     subst hid
     split at h
     ·rename_i xs bs1 g hd
      simp only[Aep]at h
      obtain⟨rfl,rfl,rfl⟩:=h
      obtain⟨u,hu,hat⟩:=Bj hi ht hl
      exact ref (.win j 0 n) u xs _ hat (ANL (hv.ob j _ hj) hu) hd
     ·cases h
    ·cases h
   ·rename_i id id' hl hj
    split at h
    ·rename_i T t ys hid ho
     simp only[Aer]at hid
     subst hid
     split at h
     ·rename_i xs bs1 g hd
      simp only[Aep]at h
      obtain⟨rfl,rfl,rfl⟩:=h
      obtain⟨u,hu,hat⟩:=Bj hi ht hl
      exact ref (.win j 0 ys.length) u xs _ hat (ANL (hv.ob j _ hj) (Ab9 hi ho hu)) hd
     ·cases h
    ·cases h
   ·cases h
  |map' j=>
   simp only[dec]at h
   split at h
   ·rename_i id id' hl hj
    split at h
    ·rename_i hid
     simp only[Aer]at hid
     subst hid
     obtain⟨u,hu,hat⟩:=Bj hi ht hl
     exact ref (.mp j) u d fr hat (AeV (hv.ob j _ hj) hu) h
    ·cases h
   ·cases h
  |clo f ps=>
   simp only[dec]at h
   split at h
   ·rename_i f' vs hl
    split at h
    ·rename_i hc
     simp only[Aet,Aer]at hc
     obtain⟨rfl,hc⟩:=hc
     obtain⟨u,hu,hat⟩:=Bj hi ht hl
     unfold Rep at hu
     obtain⟨cs,rfl,hr⟩:=hu
     exact ref (.clo f (ps.map fun p=>.ptr p.1 p.2)) _ d fr hat (by unfold Rep;exact⟨cs,rfl,Ac0 hv.ob vs ps cs.toList hc hr⟩) h
    ·cases h
   ·cases h
  |bnd f j=>
   simp only[dec]at h
   split at h
   ·rename_i f' id id' hl hj
    split at h
    ·rename_i hc
     simp only[Aet,Aer]at hc
     obtain⟨rfl,rfl⟩:=hc
     obtain⟨u,hu,hat⟩:=Bj hi ht hl
     unfold Rep at hu
     obtain⟨cs,rfl,hr⟩:=hu
     refine ref (.bnd f [.own j]) _ d fr hat ?_ h
     unfold Rep
     refine⟨cs,rfl,?_⟩
     unfold Aa at hr ⊢
     obtain⟨x,xs,e1,e2,e3⟩:=hr
     refine⟨x,xs,e1,AZA (hv.ob j _ hj) e2,?_⟩
     unfold Aa at e3 ⊢
     exact e3
    ·cases h
   ·cases h
  |prs T j=>
   simp only[dec]at h
   split at h
   ·rename_i e' hl
    split at h
    ·rename_i xs bs1 g hd
     simp only[Aep]at h
     obtain⟨rfl,rfl,rfl⟩:=h
     obtain⟨u,hu,hat⟩:=Bj hi ht hl
     unfold Rep at hu
     refine obj .none (.prs T j []) none (.own E.heap.length) u xs _ hat (fun _ _ _ _ _=>by simp[Bnd.id?]) ?_ ?_ hd
     ·simp only[BM]
      exact⟨Aq ..,.inr ⟨T,j,by simp⟩⟩
     ·unfold Rep A6
      simp only[AfR (Aez _),Aga,AfY,Aq]
      exact⟨_,hu⟩
    ·cases h
   ·rename_i id hl
    split at h
    ·rename_i T' tgt is tgt' ho hfr hj
     split at h
     ·rename_i hT
      simp only[Aet,Aer]at hT
      obtain⟨rfl,rfl⟩:=hT
      split at h
      ·rename_i xs bs1 g hd
       simp only[Aep]at h
       obtain⟨rfl,rfl,rfl⟩:=h
       obtain⟨u,hu,hat⟩:=Bj hi ht hl
       have hbj:=hv.ob j _ hj
       have hob:=hi.obj id _ ho
       have hcomp:CH E.heap (E.heap++[.prs T j is]) m' (upd m' E.heap.length (m id)):=by
        intro i x hi hf
        have hlt:=Al hi
        rcases CH.refl E.heap m' i x hi hf with h|⟨hd,o',h4,h5,_⟩
        ·exact .inl (by rw[AfM hlt];exact h)
        ·exact .inr ⟨hd,o',by rw[AfM hlt];exact h4,h5,E6 (by omega),fun _ _ _=>D5 (by simp)⟩
       have hob':ObI w F (upd m' E.heap.length (m id)) (E.heap++[.prs T j is]) (.prs T j is) (m id):=by
        cases hm:m id with
        |none=>rw[hm]at hob;exact hob
        |some p=>
         obtain⟨b,cap⟩:=p
         rw[hm]at hob hcomp
         obtain⟨vs,us,e1,e2,e3,e4,e5,e6⟩:=hob
         exact⟨vs,us,e1,e2,e3,e4,Aa.mono (fun _ _=>rfl) (fun _ h=>h) hcomp _ (Abx hbj e5),e6⟩
       refine obj (.whole id) (.prs T j is) (m id) (.own E.heap.length) u xs _ hat (fun i c id' hic hcid => ?_) ?_ ?_ hd
       ·rintro h;simp only[Bnd.id?,Aep]at h;subst h;exact Eo hfr i c hic hcid
       ·simp only[BM]
        exact⟨Aq ..,.inr (.inr (.inr (.inl ⟨T,tgt,j,is,ho,by simp,hob'⟩)))⟩
       ·unfold Rep at hu ⊢
        rw[ho]at hu
        rw[AfR (Aez _),Aga,AfY,Aq]
        exact hu
      ·cases h
     ·cases h
    ·cases h
   ·cases h
  |nil e=>
   simp only[dec]at h
   cases hl:look tm H bs l with
   |none=>rw[hl]at h;cases h
   |some v=>
    rw[hl]at h
    cases v with
    |nils e'=>
     obtain⟨u,hu,hat⟩:=Bj hi ht hl
     exact ref (.nils e) u d fr hat (by unfold Rep at *;exact hu) h
    |_=>cases h
  |rows T e t=>
   simp only[dec]at h
   split at h
   ·rename_i id hl
    split at h
    ·rename_i T' e' t' ys ver ho hfr
     simp only[Aet]at hfr
     obtain⟨hun,hfr⟩:=hfr
     split at h
     ·rename_i ys' hT hc
      simp only[Aet,Aer]at hT
      obtain⟨rfl,rfl⟩:=hT
      obtain⟨he,hy⟩:=CM hc
      cases he
      simp only at hy
      subst hy
      split at h
      ·rename_i xs bs1 g hd
       simp only[Aep]at h
       obtain⟨rfl,rfl,rfl⟩:=h
       obtain⟨u,hu,hat⟩:=Bj hi ht hl
       have hrep:Rep w F (Ni m' E.heap.length (m id) fun k=>m (.r id k)) (E.heap++[.rows (.arr T) e t ys 0 none]) (.own E.heap.length) u:=by
        unfold Rep at hu ⊢
        rw[ho]at hu
        rw[AfR (Aez _),Aga,AfY,KC]
        exact hu
       have h1:=hv.AeG (b:=.whole id) (o:=.rows (.arr T) e t ys 0 none) (mn:=Ni m' E.heap.length (m id) fun k=>m (.r id k)) (fun x hx=>Gi hx)
        (fun i c id' hic hcid h=>by simp only[Bnd.id?,Aep]at h;subst h;exact Eo hfr i c hic hcid)
        (by simp only[BM];exact⟨KC,.inr (.inr (.inr (.inr ⟨.arr T,e,t,ys,ver,ho,by simp,fun k=>AE5,CK hun⟩)))⟩)
       have h2:=h1.place (hat.app (.whole id)) hrep
       obtain⟨F2,m2,a1,a2,rr,a3⟩:=ih fz (bs++[.whole id]) F _ _ xs _ _ hi ht h2 hd
       exact⟨F2,m2,a1,a2,.whole id::rr,by rw[a3];simp⟩
      ·cases h
     ·cases h
    ·cases h
   ·cases h
  |mrows j e t=>
   simp only[dec]at h
   split at h
   ·rename_i id hl
    split at h
    ·rename_i j' ks e' t' ys ver ho hfr
     simp only[Aet]at hfr
     obtain⟨hun,hfr⟩:=hfr
     split at h
     ·rename_i ys' hT hc
      simp only[Aet,Aer]at hT
      obtain⟨rfl,rfl⟩:=hT
      obtain⟨he,hy⟩:=CM hc
      cases he
      simp only at hy
      subst hy
      split at h
      ·rename_i xs bs1 g hd
       simp only[Aep]at h
       obtain⟨rfl,rfl,rfl⟩:=h
       obtain⟨u,hu,hat⟩:=Bj hi ht hl
       have hrep:Rep w F (Ni m' E.heap.length (m id) fun k=>m (.r id k)) (E.heap++[.rows (.map j ks) e t ys 0 none]) (.mp E.heap.length) u:=by
        unfold Rep at hu ⊢
        rw[ho]at hu
        rw[AfR (Aez _),Aga,AfY,KC]
        exact hu
       have h1:=hv.AeG (b:=.whole id) (o:=.rows (.map j ks) e t ys 0 none) (mn:=Ni m' E.heap.length (m id) fun k=>m (.r id k)) (fun x hx=>Gi hx)
        (fun i c id' hic hcid h=>by simp only[Bnd.id?,Aep]at h;subst h;exact Eo hfr i c hic hcid)
        (by simp only[BM];exact⟨KC,.inr (.inr (.inr (.inr ⟨.map j ks,e,t,ys,ver,ho,by simp,fun k=>AE5,CK hun⟩)))⟩)
       have h2:=h1.place (hat.app (.whole id)) hrep
       have hzl:ks.length=List.length (α:=List t.den) ys:=by
        obtain⟨_,h4⟩:=hi.obj id _ ho
        cases hm:m id with
        |none=>rw[hm]at h4;cases h4.1
        |some p=>
         obtain⟨b,cap⟩:=p
         rw[hm]at h4
         obtain⟨_,_,_,_,_,h5,_⟩:=h4
         exact(h5.resolve_right fun h=>by cases h.1).symm
       have he:enc ((l,.mrows j e t)::r) ((List.zip (β:=List t.den) ks ys,xs):B7 (leaves ((l,.mrows j e t)::r))) E=enc r xs (place (Da E (.rows (.map j ks) e t ys 0 none)) (.mp E.heap.length) l):=by
        simp only[enc]
        rw[List.map_fst_zip (Ag2 hzl),List.map_snd_zip (Ag2 hzl.symm)]
       rw[he]
       obtain⟨F2,m2,a1,a2,rr,a3⟩:=ih fz (bs++[.whole id]) F _ _ xs _ _ hi ht h2 hd
       exact⟨F2,m2,a1,a2,.whole id::rr,by rw[a3];simp⟩
      ·cases h
     ·cases h
    ·cases h
   ·cases h
  |aptr T e n=>
   simp only[dec]at h
   split at h
   ·rename_i id n' hl
    split at h
    ·rename_i T' e' ys ho hfr
     simp only[Aet]at hfr
     obtain⟨hun,hfr⟩:=hfr
     split at h
     ·rename_i ys' hT hc
      simp only[Aet,Aer]at hT
      obtain⟨rfl,rfl⟩:=hT
      obtain⟨he,hy⟩:=CM hc
      subst he
      simp only at hy
      subst hy
      split at h
      ·rename_i xs bs1 g hd
       simp only[Aep]at h
       obtain⟨rfl,rfl,rfl⟩:=h
       obtain⟨u,hu,hat⟩:=Bj hi ht hl
       refine obj (.whole id) (.arr T e' ys) (m id) (.aptr E.heap.length n) u xs _ hat (fun i c id' hic hcid => ?_) ?_ ?_ hd
       ·rintro h;simp only[Bnd.id?,Aep]at h;subst h;exact Eo hfr i c hic hcid
       ·simp only[BM]
        exact⟨Aq ..,.inl ⟨T,e',ys,ho,by simp,CK hun⟩⟩
       ·unfold Rep at hu ⊢
        rw[ho]at hu
        rw[AfR (Aez _),Aga,AfY,Aq]
        exact hu
      ·cases h
     ·cases h
    ·cases h
   ·cases h
  |bndp f j=>
   simp only[dec]at h
   split at h
   ·rename_i f' id id' hl hj
    split at h
    ·rename_i hc
     simp only[Aet,Aer]at hc
     obtain⟨rfl,rfl⟩:=hc
     obtain⟨u,hu,hat⟩:=Bj hi ht hl
     unfold Rep at hu
     obtain⟨cs,rfl,hr⟩:=hu
     refine ref (.bnd f [.ptr j 0]) _ d fr hat ?_ h
     unfold Rep
     refine⟨cs,rfl,?_⟩
     unfold Aa at hr ⊢
     obtain⟨x,xs,e1,e2,e3⟩:=hr
     refine⟨x,xs,e1,AO4 (hv.ob j _ hj) e2,?_⟩
     unfold Aa at e3 ⊢
     exact e3
    ·cases h
   ·cases h
  |nilp=>
   simp only[dec]at h
   cases hl:look tm H bs l with
   |none=>rw[hl]at h;cases h
   |some v=>
    rw[hl]at h
    cases v with
    |nilp=>
     obtain⟨u,hu,hat⟩:=Bj hi ht hl
     exact ref .nilp u d fr hat (by unfold Rep at *;exact hu) h
    |_=>cases h
  |aptr' j n=>
   simp only[dec]at h
   split at h
   ·rename_i id n' id' hl hj
    split at h
    ·rename_i hid
     simp only[Aet,Aer]at hid
     obtain⟨rfl,rfl⟩:=hid
     obtain⟨u,hu,hat⟩:=Bj hi ht hl
     exact ref (.aptr j n) u d fr hat (Ac7 (hv.ob j _ hj) hu) h
    ·cases h
   ·cases h
end
end Go.Pev
end
section
namespace Go.Pev
open Go.RowKit
structure Tk(np:Nat)(w:World)(F:Nat→Prop)(m:Mp)(H:List Ob)(fz:List Bool)(w':World)(F':Nat→Prop)(m':Mp)(H':List Ob)(fz':List Bool):Prop where
 os:w'.os=w.os
 tape:w'.tape=w.tape
 output:w'.output=w.output
 size:w.heap.size≤w'.heap.size
 keep:∀ b,b<w.heap.size→(∀ i c,owned H fz i→m i≠some (b,c))→w'.heap[b]? = w.heap[b]?
 sub:∀ b,F b→F' b
 bnd:∀ b,F' b→F b∨(∃ i c,owned H fz i∧m i=some (b,c))∨w.heap.size≤b
 own:∀ i b c,owned H' fz' i→m' i=some (b,c)→(∃ i c,owned H fz i∧m i=some (b,c))∨w.heap.size≤b
 comp:∀ (i:Nat) o,i<np→H[i]? = some o→o≠.free→H'[i]? = some .dead∨(o≠.dead∧∃ o',H'[i]? = some o'∧sameShape o o'∧m' i=m i∧(BS o=false→PX o'=PX o→∀ k,m' (.r i k)=m (.r i k)))
theorem Ext.toN{w w':World}{F F':Nat→Prop}{m m':Mp}{H H':List Ob}{fz fz':List Bool}(h:Ext w F m H fz w' F' m' H' fz')(np:Nat):Tk np w F m H fz w' F' m' H' fz':=
 ⟨h.os,h.tape,h.output,h.size,h.keep,h.sub,h.bnd,h.own,fun i o _=>h.comp i o⟩
theorem Tk.refl(np:Nat)(w:World)(F:Nat→Prop)(m:Mp)(H:List Ob)(fz:List Bool):Tk np w F m H fz w F m H fz:=(Ext.refl ..).toN np
theorem Tk.trans{np:Nat}{w w1 w2:World}{F F1 F2:Nat→Prop}{m m1 m2:Mp}{H H1 H2:List Ob}{fz fz1 fz2:List Bool}
  (h:Tk np w F m H fz w1 F1 m1 H1 fz1) (k:Tk np w1 F1 m1 H1 fz1 w2 F2 m2 H2 fz2):Tk np w F m H fz w2 F2 m2 H2 fz2 where
 os:=k.os.trans h.os
 tape:=k.tape.trans h.tape
 output:=k.output.trans h.output
 size:=Afv h.size k.size
 keep b hb hn:=by
  rw[k.keep b (Af6 hb h.size) ?_,h.keep b hb hn]
  intro i c ho he
  rcases h.own i b c ho he with⟨i',c',h1,h2⟩|h1
  ·exact hn i' c' h1 h2
  ·omega
 sub b hb:=k.sub b (h.sub b hb)
 bnd b hb:=by
  rcases k.bnd b hb with h1|⟨i,c,h1,h2⟩|h1
  ·exact h.bnd b h1
  ·rcases h.own i b c h1 h2 with h3|h3
   ·exact .inr (.inl h3)
   ·exact .inr (.inr h3)
  ·exact .inr (.inr (Afv h.size h1))
 own i b c h1 h2:=by
  rcases k.own i b c h1 h2 with⟨i',c',h3,h4⟩|h3
  ·exact h.own i' b c' h3 h4
  ·exact .inr (Afv h.size h3)
 comp i o hlt ho hf:=by
  rcases h.comp i o hlt ho hf with h1|⟨hd,o',h1,h2,h3,hp⟩
  ·rcases k.comp i _ hlt h1 (by simp)with h4|⟨h5,_⟩
   ·exact .inl h4
   ·exact absurd rfl h5
  ·have hf':o'≠.free:=by rintro rfl;cases o<;>simp[sameShape]at h2
   rcases k.comp i o' hlt h1 hf' with h4|⟨_,o'',h4,h5,h6,hq⟩
   ·exact .inl h4
   ·refine .inr ⟨hd,o'',h4,h2.trans h5,h6.trans h3,fun a b k => ?_⟩
    have h8:=h2.ver
    have h9:=h5.ver
    exact(hq (h8.2▸a) (by omega) k).trans (hp a (by omega) k)
section
variable {w:World} {F:Nat→Prop} {m:Mp} {H:List Ob} {fz:List Bool} {bs:List Bnd} {m':Mp} {E:St} {val:Nat→Value}
def Ix.at:Ix→Nat→Ix
 |.o _,i=>.o i
 |.r _ k,i=>.r i k
theorem Ix.AdJ(x:Ix)(i:Nat):(x.at i).id=i:=by cases x<;>rfl
theorem Inv.Aeh(h:Inv w F m H fz bs m' E val){i b c:Nat}(ho:owned E.heap E.frz i)(hm:m' i=some (b,c)):∃ x id,bs[i]? = some x∧x.id? = some id∧owned H fz id∧m id=some (b,c):=by
 obtain⟨o,hio,_,_⟩:=ES ho
 have hlt:=Al hio
 rw[h.lenH]at hlt
 have hx:bs[i]? = some bs[i]:=Aev hlt
 have hb:=h.ob i _ hx
 cases hc:bs[i]with
 |none=>rw[hc]at hb;simp only[BM]at hb;rw[hb.1]at hm;cases hm
 |whole id=>
  rw[hc]at hb hx
  simp only[BM]at hb
  obtain⟨e,hb⟩:=hb
  refine⟨_,id,hx,rfl,?_,by rw[← e];exact hm⟩
  simp only[owned,Bq]
  rcases hb with⟨T,t,xs,a1,_,a3⟩|⟨k,v,es,a1,_⟩|⟨cs,cs',b,c,vs,T,a1,_⟩|⟨_,_,_,_,a1,_⟩|⟨_,_,_,_,_,a1,_,_,a4⟩
  ·rw[a1];exact a3
  ·rw[a1];trivial
  ·rw[a1];trivial
  ·rw[a1];trivial
  ·rw[a1];exact a4
 |cut id=>
  rw[hc]at hb hx
  simp only[BM]at hb
  obtain⟨T,t,xs,n,a1,a2,a3,a4⟩:=hb
  refine⟨_,id,hx,rfl,by simp only[owned,Bq];rw[a1];exact a2,?_⟩
  rcases a4 with a4|⟨a4,_⟩
  ·rw[← a4];exact hm
  ·rw[a4]at hm;cases hm
theorem Inv.rowAt(h:Inv w F m H fz bs m' E val){j:Nat}{T:RK}{e:TypeId}{t:Ty}{xs:List (List t.den)}{ver:Nat}{out:Option Nat}(hj:E.heap[j]? = some (.rows T e t xs ver out)):
  ∃ id ver',bs[j]? = some (.whole id)∧H[id]? = some (.rows T e t xs ver' none)∧out=none∧m' j=m id∧(∀ k,m' (.r j k)=m (.r id k))∧fz.getD id false=false:=by
 have hlt:=Al hj
 rw[h.lenH]at hlt
 have hx:bs[j]? = some bs[j]:=Aev hlt
 have hb:=h.ob j _ hx
 cases hc:bs[j]with
 |none=>
  rw[hc]at hb;simp only[BM]at hb
  rcases hb.2 with⟨T,e,e2,_⟩|⟨T,t,e2⟩<;>(rw[hj]at e2;cases e2)
 |whole id=>
  rw[hc]at hb hx;simp only[BM]at hb
  obtain⟨e0,hb⟩:=hb
  rcases hb with⟨T,t,xs,a1,a2,a3⟩|⟨k,v,es,a1,a2⟩|⟨cs,cs',b,c,vs,T,a1,a2,_⟩|⟨_,_,_,_,a1,a2,_⟩|⟨T,e,t,xs,ver,a1,a2,a3⟩
  ·rw[hj]at a2;cases a2
  ·rw[hj]at a2;cases a2
  ·rw[hj]at a2;cases a2
  ·rw[hj]at a2;cases a2
  ·rw[hj]at a2;cases a2
   exact⟨id,ver,hx,a1,rfl,e0,a3⟩
 |cut id=>
  rw[hc]at hb;simp only[BM]at hb
  obtain⟨T,t,xs,n,_,_,a3,_⟩:=hb
  rw[hj]at a3;cases a3
theorem Inv.src(h:Inv w F m H fz bs m' E val){i:Ix}{b c:Nat}(ho:owned E.heap E.frz i)(hm:m' i=some (b,c)):∃ x id,bs[i.id]? = some x∧x.id? = some id∧owned H fz (i.at id)∧m (i.at id)=some (b,c):=by
 cases i with
 |o i=>exact h.Aeh ho hm
 |r i k=>
  simp only[owned]at ho
  split at ho
  ·rename_i T e t xs ver out hj
   obtain⟨id,ver',a1,a2,_,_,a5,a6⟩:=h.rowAt hj
   exact⟨_,id,a1,rfl,by simp only[owned,Ix.at];rw[a2];exact⟨ho.1,a6⟩,(a5 k).symm.trans hm⟩
  ·exact ho.elim
theorem Inv.hi(hi:HI w F m H fz)(h:Inv w F m H fz bs m' E val):HI w F m' E.heap E.frz where
 obj j o hj:=by
  have hlt:=Al hj
  rw[h.lenH]at hlt
  have hx:bs[j]? = some bs[j]:=Aev hlt
  have hb:=h.ob j _ hx
  cases hc:bs[j]with
  |none=>
   rw[hc]at hb
   simp only[BM]at hb
   obtain⟨e1,⟨T,e,e2,e3⟩|⟨T,t,e2⟩⟩:=hb
   ·rw[hj]at e2;cases e2
    exact⟨e3,by rw[e1]⟩
   ·rw[hj]at e2;cases e2
    rw[e1]
    exact(rfl:([]:List Int)=[])
  |whole id=>
   rw[hc]at hb
   simp only[BM]at hb
   obtain⟨e,hb⟩:=hb
   rcases hb with⟨T,t,xs,a1,a2,a3⟩|⟨k,v,es,a1,a2⟩|⟨cs,cs',b,c,vs,T,a1,a2,_,a4,a5,a6,a7⟩|⟨T,tgt,j0,is,a1,a2,a3⟩|⟨T,e',t,xs,ver,a1,a2,a3⟩
   ·rw[hj]at a2;cases a2
    rw[e];exact hi.obj id _ a1
   ·rw[hj]at a2;cases a2
    rw[e];exact hi.obj id _ a1
   ·rw[hj]at a2;cases a2
    exact⟨b,c,vs,T,e.trans a4,a5,a6,a7⟩
   ·rw[hj]at a2;cases a2
    rw[e];exact a3
   ·rw[hj]at a2;cases a2
    rw[e];exact hi.obj id _ a1
  |cut id=>
   rw[hc]at hb
   simp only[BM]at hb
   obtain⟨T,t,xs,n,a1,a2,a3,a4⟩:=hb
   rw[hj]at a3;cases a3
   obtain⟨h0,h1⟩:=hi.obj id _ a1
   refine⟨h0,?_⟩
   rcases a4 with a4|⟨a4,a5⟩
   ·rw[a4]
    cases hm:m id with
    |none=>
     rw[hm]at h1
     simp only at h1 ⊢
     rw[h1];simp
    |some p=>
     obtain⟨b,cap⟩:=p
     rw[hm]at h1
     simp only at h1 ⊢
     obtain⟨vs,row,b1,b2,b3,b4,b5,b6⟩:=h1
     refine⟨vs,row.take (n*t.size),b1,?_,b3,b4,Df (fun x cs hx=>Dat.length t hx) n b5,?_⟩
     ·rw[Ae8];omega
     ·rw[Ae8,← Agz,b6]
   ·rw[a4];exact a5
 row i:=by
  intro T e t xs ver out hj k ys hk
  obtain⟨id,ver',a1,a2,rfl,a4,a5,_⟩:=h.rowAt hj
  obtain⟨h1,h2⟩:=hi.row id T e t xs ver' none a2 k ys hk
  rw[a5 k]
  refine⟨?_,fun _ => ?_⟩
  ·obtain⟨h0,h1⟩:=h1
   exact⟨h0,h1⟩
  ·obtain⟨b,cap,u,e1,e2⟩:=h2 (by simp)
   exact⟨b,cap,u,a4.trans e1,e2⟩
 rfz i T e t xs ver out hj hf:=by rw[h.frz i]at hf;cases hf
 sep i j b c b' c' h1 h2 hij h3 h4:=by
  obtain⟨x,id,k1,k2,k3,k4⟩:=h.src h1 h3
  obtain⟨y,id',l1,l2,l3,l4⟩:=h.src h2 h4
  refine hi.sep _ _ b c b' c' k3 l3 ?_ k4 l4
  intro he
  have hid:id=id':=by rw[← Ix.AdJ i id,he,Ix.AdJ]
  subst hid
  have:=h.inj _ _ x y id k1 l1 k2 l2
  cases i<;>cases j<;>simp only[Ix.at,Ix.id]at he this<;>(try cases he)<;>subst this<;>exact hij rfl
 off i b c h1 h2:=by
  obtain⟨x,id,k1,k2,k3,k4⟩:=h.src h1 h2
  exact hi.off _ b c k3 k4
 froz i T t xs b c h1 h2:=by rw[h.frz i]at h2;cases h2
 lt:=hi.lt
 glo:=hi.glo
 len:=h.lenF.symm
theorem AKB:∀ (n i:Nat) (bs:List Bnd),pins n i bs=true→∀ k,k<n→bs[k]? = some (.whole (i+k)):=by
 intro n
 induction n with
 |zero=>intro i bs _ k hk;omega
 |succ n ih=>
  intro i bs h k hk
  cases bs with
  |nil=>simp[pins]at h
  |cons b bs=>
   simp only[pins,Aet,Aer]at h
   cases k with
   |zero=>simp[h.1]
   |succ k=>
    have:=ih (i+1) bs h.2 k (by omega)
    simp only[Agy]
    rw[this];congr 2;omega
theorem Inv.blank{val:Nat→Value}(n:Nat):Inv w F m H fz [] (fun _=>none) (Pev.blank n) val where
 tmps t:=by
  have:(Pev.blank n).tmps.getD t .junk = .junk:=by
   simp only[Pev.blank,Aes,AhE]
   split<;>rfl
  rw[this];unfold Rep;trivial
 lenH:=rfl
 lenF:=rfl
 frz i:=by simp[Pev.blank]
 ob j b h:=by simp at h
 inj i j b c id h:=by simp at h
theorem AO8(st:St)(v:AV)(l:Loc):(place st v l).tmps.length=st.tmps.length:=by
 cases l with
 |tmp t=>simp[place]
 |cell j c=>simp only[place];split<;>rfl
 |cap t i=>rfl
 |obj j=>rfl
theorem AaT:∀ (its:AE) (d:B7 (leaves its)) (st:St),(enc its d st).tmps.length=st.tmps.length:=by
 intro its
 induction its with
 |nil=>intro d st;rfl
 |cons p r ih=>
  intro d st
  obtain⟨l,c⟩:=p
  cases c<;>exact(ih _ _).trans (AO8 _ _ _)
theorem Mc(n:Nat)(its:AE)(d:B7 (leaves its)):(encode n its d).tmps.length=n:=by
 unfold encode;rw[AaT];simp[blank]
theorem AU4{F2:Nat→Prop}{fz2:List Bool}{np:Nat}(h:Inv w F2 m H fz2 bs m' E val)(hp:(pins np 0 bs&&(H.take np).all BS)=true):∀ (i:Nat) o,i<np→H[i]? = some o→o≠.free→E.heap[i]? = some .dead∨(o≠.dead∧∃ o',E.heap[i]? = some o'∧sameShape o o'∧m' i=m i∧(BS o=false→PX o'=PX o→∀ k,m' (.r i k)=m (.r i k))):=by
 intro i o hlt ho hf
 rw[Aet]at hp
 obtain⟨hp,hall⟩:=hp
 have hpl:BS o=true:=AfE.1 hall o (Ae5 (i:=i) (by rw[Afd,Ae6 hlt];exact ho))
 suffices hs:E.heap[i]? = some .dead∨(o≠.dead∧∃ o',E.heap[i]? = some o'∧sameShape o o'∧m' i=m i)from
  hs.imp id fun ⟨a,o',b,c,d⟩=>⟨a,o',b,c,d,fun e=>by rw[hpl]at e;cases e⟩
 have h1:=AKB np 0 bs hp i hlt
 rw[Afq]at h1
 have hb:=h.ob i _ h1
 simp only[BM]at hb
 obtain⟨e,hb⟩:=hb
 right
 rcases hb with⟨T,t,xs,a1,a2,a3⟩|⟨k,v,es,a1,a2⟩|⟨cs,cs',b,c,vs,T,a1,a2,_,a4,a5,a6,a7⟩|⟨_,_,_,_,a1,a2,_⟩|⟨_,_,_,_,_,a1,a2,_⟩
 ·rw[ho]at a1;cases a1;exact⟨by simp,_,a2,⟨rfl,rfl⟩,e⟩
 ·rw[ho]at a1;cases a1;exact⟨by simp,_,a2,trivial,e⟩
 ·rw[ho]at a1;cases a1;exact⟨by simp,_,a2,trivial,e⟩
 ·rw[ho]at a1;cases a1;exact⟨by simp,_,a2,rfl,e⟩
 ·rw[ho]at a1;cases a1;cases hpl
theorem TM{np nt:Nat}{st:St}{a:Act}{its:AE}{v:B7 (leaves its)}(hs:SI w F m st a)(h:decode np nt st its=some v):
  ∃ F' m',SI w F' m' (encode nt its v) a∧Tk np w F m st.heap st.frz w F' m' (encode nt its v).heap (encode nt its v).frz:=by
 unfold decode at h
 split at h
 ·rename_i hn
  simp only[Aer]at hn
  split at h
  ·rename_i v' bs fr hd
   split at h
   ·rename_i hp
    simp only[Aep]at h;subst h
    obtain⟨F2,m2,hg,hv,_⟩:=ARK (val:=fun t=>a.tmps.getD t undef) its st.frz [] F (fun _=>none) (blank nt) v' bs fr hs.heap
     (fun t v ht=>by have:=hs.tmps t;rw[Aes,ht]at this;exact this) (Inv.blank nt) hd
    refine⟨F2,m2,⟨hv.tmps,by rw[Mc,← hn];exact hs.size,hv.hi hg.2,hs.defers⟩,?_⟩
    refine⟨rfl,rfl,rfl,Aez _,fun _ _ _=>rfl,hg.1.sub,hg.1.bnd,fun i b c h1 h2 => ?_,AU4 hv hp⟩
    obtain⟨x,id,k1,k2,k3,k4⟩:=hv.src h1 h2
    exact hg.1.own _ b c k3 k4
   ·cases h
  ·cases h
 ·cases h
end
end Go.Pev
end
section
namespace Go.Pev
open Go.RowKit
theorem VQ{R:Type}{all:List Oper}{g:Option (Nat×Bool)}{st:St}{yes no:St→Option R}{r:R}(h:guarded R all g st yes no=some r):
  ∃ st',(yes st'=some r∧∀ (R':Type) (yes' no':St→Option R'),guarded R' all g st yes' no'=yes' st')∨(no st'=some r∧∀ (R':Type) (yes' no':St→Option R'),guarded R' all g st yes' no'=no' st'):=by
 unfold guarded at h
 split at h
 ·exact⟨st,.inl ⟨h,fun _ _ _=>by simp[guarded]⟩⟩
 ·rename_i j want
  split at h
  ·cases h
  ·rename_i d hj
   split at h
   ·rename_i b hd
    cases b with
    |true=>
     cases want with
     |true=>exact⟨_,.inl ⟨h,fun _ _ _=>by simp only[guarded,hj,hd]⟩⟩
     |false=>exact⟨_,.inr ⟨h,fun _ _ _=>by simp only[guarded,hj,hd]⟩⟩
    |false=>
     cases want with
     |true=>exact⟨_,.inr ⟨h,fun _ _ _=>by simp only[guarded,hj,hd]⟩⟩
     |false=>exact⟨_,.inl ⟨h,fun _ _ _=>by simp only[guarded,hj,hd]⟩⟩
   ·rename_i hd
    exact⟨_,.inr ⟨h,fun _ _ _=>by simp only[guarded,hj,hd]⟩⟩
   ·cases h
section
variable {P:Program} {E:Env} {h:Hints}
theorem API(hE:∀ g,AR P g (E.spec g)){R:Type}{r:R}{all:List Oper}:∀ (ops:List Oper) (slot:Nat) (st:St) (k:St→Option R),I8 P E R all ops slot st k=some r →
  ∃ st',k st'=some r∧∀ (R':Type) (k':St→Option R'),I8 P E R' all ops slot st k'=k' st':=by
 intro ops
 induction ops with
 |nil=>intro slot st k h;exact⟨st,h,fun _ _=>rfl⟩
 |cons o ops ih=>
  intro slot st k h
  simp only[I8]at h
  obtain⟨st1,h1⟩:=VQ h
  rcases h1 with⟨h1,h2⟩|⟨h1,h2⟩
  ·obtain⟨v,e,h3,h4,_⟩:=J0 hE o.op _ _ _ _ _ _ _ r h1
   obtain⟨st2,h5,h6⟩:=ih _ _ _ h3
   exact⟨st2,h5,fun R' k'=>by simp only[I8];rw[h2,h4];exact h6 R' k'⟩
  ·obtain⟨st2,h5,h6⟩:=ih _ _ _ h1
   exact⟨st2,h5,fun R' k'=>by simp only[I8];rw[h2];exact h6 R' k'⟩
theorem AUH(hE:∀ g,AR P g (E.spec g)){R:Type}{r:R}{all:List Oper}{o:Oper}{φ:List Nat}{slot:Nat}{st:St}{k:St→Option R}(h:UA P E R all o φ slot st k=some r):
  ∃ st',k st'=some r∧∀ (R':Type) (k':St→Option R'),UA P E R' all o φ slot st k'=k' st':=by
 unfold UA at h
 obtain⟨st1,h1⟩:=VQ h
 rcases h1 with⟨h1,h2⟩|⟨h1,h2⟩
 ·split at h1
  ·rename_i hw
   obtain⟨v,e,h3,h4,_⟩:=J0 hE o.op _ _ _ _ _ _ _ r h1
   split at h3
   ·rename_i hok
    exact⟨_,h3,fun R' k'=>by unfold UA;rw[h2];simp only[hw];rw[h4];simp only[hok]⟩
   ·cases h3
  ·cases h1
 ·exact⟨_,h1,fun R' k'=>by unfold UA;rw[h2]⟩
theorem AKD(hE:∀ g,AR P g (E.spec g)){R:Type}{r:R}{all:List Oper}:∀ (ops:List Oper) (fp:List (List Nat)) (slot:Nat) (st:St) (k:St→Option R),IU P E R all ops fp slot st k=some r →
  ∃ st',k st'=some r∧∀ (R':Type) (k':St→Option R'),IU P E R' all ops fp slot st k'=k' st':=by
 intro ops
 induction ops with
 |nil=>intro fp slot st k h;exact⟨st,h,fun _ _=>rfl⟩
 |cons o ops ih=>
  intro fp slot st k h
  simp only[IU]at h
  obtain⟨st1,h1,h2⟩:=AUH hE h
  obtain⟨st2,h5,h6⟩:=ih _ _ _ _ h1
  exact⟨st2,h5,fun R' k'=>by simp only[IU];rw[h2];exact h6 R' k'⟩
def Ael(P:Program)(np:Nat)(c:Code)(st:St)(e:Exit)(st':St):Prop:=
 ∀ (w:World) (F:Nat→Prop) (m:Mp) (a:Act) (Q:Exit→Act→World→Prop),SI w F m st a →
  (∀ a' w' F' m',SI w' F' m' st' a'→Tk np w F m st.heap st.frz w' F' m' st'.heap st'.frz→Q e a' w')→c.wp P Q a w
def Ad(P:Program)(np:Nat)(c:Code)(go:(R:Type)→St→(Exit→St→Option R)→Option R):Prop:=
 ∀ (R:Type) (st:St) (k:Exit→St→Option R) (r:R),go R st k=some r→∃ e st',k e st'=some r∧(∀ (R':Type) (k':Exit→St→Option R'),go R' st k'=k' e st')∧Ael P np c st e st'
def DN(P:Program)(np:Nat)(h:Hints):Code→Nat→Prop
 |.seq a b,n=>DN P np h a n∧DN P np h b (n+loops a)
 |.cond _ a b,n=>DN P np h a n∧DN P np h b (n+loops a)
 |.block _ c,n=>DN P np h c n
 |.loop c,n=>Ad P np (.loop c) (h.loop n)
 |_,_=>True
theorem ATY{w:World}{F:Nat→Prop}{m:Mp}{st:St}{a:Act}(hs:SI w F m st a){c:Operand}{x:Bool}(hc:BU st.tmps c = .data .bool x):
  a.eval c = .bool x∧SI w F m { st with tmps:=OU st.tmps c x } a:=by
 have h1:Rep w F m st.heap (BU st.tmps c) (a.eval c):=AAb hs.tmps c
 rw[hc]at h1
 refine⟨?_,?_⟩
 ·unfold Rep Bf at h1
  simp only[Ty.isAgg,AfD,Ae9]at h1
  simpa [Dat]using h1
 ·cases c with
  |tmp t=>
   simp only[BU,Aes]at hc
   exact hs.lit (d:=t) (b:=x) (by
    cases ht:st.tmps[t]? with
    |none=>rw[ht]at hc;simp at hc
    |some v=>rw[ht]at hc;simp at hc;rw[hc])
  |const v=>exact hs
  |func f=>exact hs
  |global g=>exact hs
theorem KS(hE:∀ g,AR P g (E.spec g))(hL:Iv E){np:Nat}:∀ (c:Code) (n:Nat),DN P np h c n→Ad P np c (fun R=>BD P E h R c n):=by
 intro c
 induction c with
 |skip=>
  intro n _ R st k r hk
  simp only[BD]at hk
  exact⟨_,_,hk,fun _ _=>rfl,fun w F m a Q hs hq=>wp_skip (hq a w F m hs (Tk.refl ..))⟩
 |region id ops draw=>
  intro n _ R st k r hk
  cases draw with
  |false=>
   simp only[BD,G6]at hk
   obtain⟨st',h1,h2⟩:=API hE _ _ _ _ hk
   refine⟨.normal,st',h1,fun R' k'=>by simp only[BD,G6];exact h2 R' _,fun w F m a Q hs hq => ?_⟩
   have h3:G6 P E St ops.toList st some=some st':=by simp only[G6];exact h2 St some
   refine AGY hE h3 hs fun a' w' hp => ?_
   obtain⟨st1,F',m',e1,e2,e3⟩:=hp
   cases e1
   exact hq a' w' F' m' e2 (e3.toN np)
  |true=>
   simp only[BD]at hk
   have hk':=hk
   unfold D9 at hk
   split at hk
   ·rename_i hok
    obtain⟨st',h1,h2⟩:=AKD hE _ _ _ _ _ hk
    refine⟨.normal,st',h1,fun R' k'=>by simp only[BD,D9,hok];exact h2 R' _,fun w F m a Q hs hq => ?_⟩
    have h3:D9 P E St (h.fp id) ops.toList st some=some st':=by simp only[D9,hok];exact h2 St some
    refine ACX hE hL h3 hs fun a' w' hp => ?_
    obtain⟨st1,F',m',e1,e2,e3⟩:=hp
    cases e1
    exact hq a' w' F' m' e2 (e3.toN np)
   ·cases hk
 |seq a b iha ihb=>
  intro n hl R st k r hk
  simp only[BD]at hk
  obtain⟨e,st1,h1,h2',h3⟩:=iha n hl.1 R st _ r hk
  have h2:∀ (R':Type) (k':Exit→St→Option R'),BD P E h R' a n st k'=k' e st1:=h2'
  by_cases he:e = .normal
  ·subst he
   simp only at h1
   obtain⟨e2,st2,k1,k2,k3⟩:=ihb _ hl.2 R st1 _ r h1
   refine⟨e2,st2,k1,fun R' k' => ?_,fun w F m act Q hs hq=>wp_seq ?_⟩
   ·simp only[BD];rw[h2];exact k2 R' k'
   ·refine h3 w F m act _ hs fun a' w' F' m' s1 x1 => ?_
    exact k3 w' F' m' a' Q s1 fun a2 w2 F2 m2 s2 x2=>hq a2 w2 F2 m2 s2 (x1.trans x2)
  ·have h1':k e st1=some r:=by cases e<;>first|exact absurd rfl he|exact h1
   refine⟨e,st1,h1',fun R' k' => ?_,fun w F m act Q hs hq=>wp_seq ?_⟩
   ·simp only[BD];rw[h2];cases e<;>first|exact absurd rfl he|rfl
   ·refine h3 w F m act _ hs fun a' w' F' m' s1 x1 => ?_
    have:=hq a' w' F' m' s1 x1
    cases e<;>first|exact absurd rfl he|exact this
 |cond c a b iha ihb=>
  intro n hl R st k r hk
  simp only[BD]at hk
  split at hk
  ·rename_i x hc
   cases x with
   |true=>
    obtain⟨e,st1,h1,h2,h3⟩:=iha _ hl.1 R _ _ r hk
    refine⟨e,st1,h1,fun R' k'=>by simp only[BD,hc];exact h2 R' k',fun w F m act Q hs hq => ?_⟩
    obtain⟨q1,q2⟩:=ATY hs hc
    exact wp_cond_true q1 (h3 w F m act Q q2 hq)
   |false=>
    obtain⟨e,st1,h1,h2,h3⟩:=ihb _ hl.2 R _ _ r hk
    refine⟨e,st1,h1,fun R' k'=>by simp only[BD,hc];exact h2 R' k',fun w F m act Q hs hq => ?_⟩
    obtain⟨q1,q2⟩:=ATY hs hc
    exact wp_cond_false q1 (h3 w F m act Q q2 hq)
  ·cases hk
 |block id c ih=>
  intro n hl R st k r hk
  simp only[BD]at hk
  obtain⟨e,st1,h1,h2',h3⟩:=ih n hl R st _ r hk
  have h2:∀ (R':Type) (k':Exit→St→Option R'),BD P E h R' c n st k'=k' e st1:=h2'
  have key:∃ e',k e' st1=some r∧(∀ (R':Type) (k':Exit→St→Option R'),BD P E h R' (.block id c) n st k'=k' e' st1)∧∀ (Q:Exit→Act→World→Prop) a' w',Q e' a' w'→Exit.inBlock id Q e a' w':=by
   cases e with
   |exit id'=>
    simp only at h1
    by_cases hid:id'=id
    ·subst hid
     simp only[Ae2]at h1
     exact⟨.normal,h1,fun R' k'=>by simp only[BD];rw[h2];simp,fun Q a' w' hq=>by simp[Exit.inBlock,hq]⟩
    ·simp only[hid,AfG]at h1
     exact⟨.exit id',h1,fun R' k'=>by simp only[BD];rw[h2];simp[hid],fun Q a' w' hq=>by simp[Exit.inBlock,hid,hq]⟩
   |normal=>exact⟨_,h1,fun R' k'=>by simp only[BD];rw[h2],fun Q a' w' hq=>hq⟩
   |goto l=>exact⟨_,h1,fun R' k'=>by simp only[BD];rw[h2],fun Q a' w' hq=>hq⟩
   |ret=>exact⟨_,h1,fun R' k'=>by simp only[BD];rw[h2],fun Q a' w' hq=>hq⟩
   |panic l=>exact⟨_,h1,fun R' k'=>by simp only[BD];rw[h2],fun Q a' w' hq=>hq⟩
   |outgrown=>exact⟨_,h1,fun R' k'=>by simp only[BD];rw[h2],fun Q a' w' hq=>hq⟩
  obtain⟨e',k1,k2,k3⟩:=key
  exact⟨e',st1,k1,k2,fun w F m act Q hs hq=>wp_block (h3 w F m act _ hs fun a' w' F' m' s1 x1=>k3 Q a' w' (hq a' w' F' m' s1 x1))⟩
 |loop c ih=>
  intro n hl R st k r hk
  exact hl R st k r hk
 |exit id=>
  intro n _ R st k r hk
  simp only[BD]at hk
  exact⟨_,_,hk,fun _ _=>rfl,fun w F m a Q hs hq=>wp_exit (hq a w F m hs (Tk.refl ..))⟩
 |ret=>
  intro n _ R st k r hk
  simp only[BD]at hk
  exact⟨_,_,hk,fun _ _=>rfl,fun w F m a Q hs hq=>wp_ret (hq a w F m hs (Tk.refl ..))⟩
 |_=>intro n _ R st k r hk;simp[BD]at hk
theorem AWR{R:Type}{r:R}{nt:Nat}{k:Exit→St→Option R}:∀ (os:A0) (x:Np os),AEP nt k os x=some r→∃ e st',k e st'=some r∧∀ (R':Type) (k':Exit→St→Option R'),AEP nt k' os x=k' e st':=by
 intro os
 induction os with
 |nil=>intro x h;simp[AEP]at h
 |cons o os ih=>
  intro x h
  cases x with
  |inl d=>exact⟨_,_,h,fun _ _=>rfl⟩
  |inr x=>
   obtain⟨e,st',h1,h2⟩:=ih x h
   exact⟨e,st',h1,fun R' k'=>h2 R' k'⟩
theorem AJo{e e':Exit}(h:YQ e e'=true):e=e':=by
 cases e<;>cases e'<;>simp_all [YQ]
theorem AZB{np nt:Nat}{e:Exit}{st:St}:∀ (os:A0) (x:Np os),AD3 np nt e st os=some x→∃ its d,decode np nt st its=some d∧∀ (R':Type) (k':Exit→St→Option R'),AEP nt k' os x=k' e (encode nt its d):=by
 intro os
 induction os with
 |nil=>intro x h;simp[AD3]at h
 |cons o os ih=>
  intro x h
  simp only[AD3]at h
  split at h
  ·rename_i hs
   split at h
   ·rename_i d hd
    simp only[Aep]at h;subst h
    exact⟨o.2,d,hd,fun R' k'=>by rw[AJo hs];rfl⟩
   ·cases h
  ·split at h
   ·rename_i y hy
    simp only[Aep]at h;subst h
    obtain⟨its,d,h1,h2⟩:=ih y hy
    exact⟨its,d,h1,fun R' k'=>h2 R' k'⟩
   ·cases h
theorem AVr{h':Hints}(hE:∀ g,AR P g (E.spec g))(hL:Iv E){np nt n:Nat}{body:Code}{its:AE}{os:A0}{stp:B7 (leaves its)→Option (B7 (leaves its)⊕Np os)}
  (hstep:∀ v,stp v=roundOf P E h' n np nt body its os v) (hl:DN P np h' body n):Ad P np (.loop body) (Ae np nt its os stp):=by
 intro R st k r hk
 unfold Ae at hk
 split at hk
 ·cases hk
 ·rename_i v hv
  split at hk
  ·cases hk
  ·rename_i x hx
   obtain⟨e,st',h1,h2⟩:=AWR os x hk
   refine⟨e,st',h1,fun R' k'=>by simp only[Ae,hv,hx];exact h2 R' k',?_⟩
   have key:∀ (fuel:Nat) (v:B7 (leaves its)),AW stp fuel v=some x→∀ (w:World) (F:Nat→Prop) (m:Mp) (a:Act) (Q:Exit→Act→World→Prop),SI w F m (encode nt its v) a →
     (∀ a' w' F' m',SI w' F' m' st' a'→Tk np w F m (encode nt its v).heap (encode nt its v).frz w' F' m' st'.heap st'.frz→Q e a' w')→Code.rounds P body Q fuel a w:=by
    intro fuel
    induction fuel with
    |zero=>intro v h;simp[AW]at h
    |succ fuel ih=>
     intro v h w F m a Q hs hq
     simp only[AW]at h
     rw[hstep v]at h
     cases hr:roundOf P E h' n np nt body its os v with
     |none=>rw[hr]at h;cases h
     |some y=>
      rw[hr]at h
      unfold roundOf at hr
      obtain⟨e1,st1,g1,_,g3⟩:=KS hE hL body n hl _ _ _ _ hr
      show body.wp P (Exit.then (Code.rounds P body Q fuel) Q) a w
      refine g3 w F m a _ hs fun a' w' F' m' s1 x1 => ?_
      by_cases he:e1 = .normal
      ·subst he
       simp only[AJx]at g1
       split at g1
       ·rename_i d hd
        simp only[Aep]at g1;subst g1
        obtain⟨F2,m2,s2,x2⟩:=TM s1 hd
        show Code.rounds P body Q fuel a' w'
        exact ih d h w' F2 m2 a' Q s2 fun a3 w3 F3 m3 s3 x3=>hq a3 w3 F3 m3 s3 (x1.trans (x2.trans x3))
       ·cases g1
      ·have g1':(match AD3 np nt e1 st1 os with
        |some x=>some (Sum.inr x)
        |none=>none)=some y:=by
        cases e1<;>first|exact absurd rfl he|exact g1
       split at g1'
       ·rename_i z hz
        simp only[Aep]at g1';subst g1'
        simp only[Aep]at h;subst h
        obtain⟨its',d,o1,o2⟩:=AZB os _ hz
        obtain⟨F2,m2,s2,x2⟩:=TM s1 o1
        have e3:=(h2 (Exit×St) fun e st=>some (e,st)).symm.trans (o2 (Exit×St) fun e st=>some (e,st))
        simp only[Aep,AfJ]at e3
        obtain⟨rfl,rfl⟩:=e3
        have:=hq a' w' F2 m2 s2 (x1.trans x2)
        cases e<;>first|exact absurd rfl he|exact this
       ·cases g1'
   intro w F m a Q hs hq
   obtain⟨F2,m2,s2,x2⟩:=TM hs hv
   exact wp_loop_rounds many (key many v (by rw[← As];exact hx) w F2 m2 a Q s2 fun a3 w3 F3 m3 s3 x3=>hq a3 w3 F3 m3 s3 (x2.trans x3))
end
end Go.Pev
end
section
namespace Go.Pev
open Go.RowKit
section
variable {w:World} {F F0:Nat→Prop} {m m2:Mp} {H H2:List Ob} {ids:List Nat}
theorem Dat.flat:∀ (t:Ty),t.flat=true→∀ {d:t.den} {cs:List Value} {w0:World},Dat w F t d cs→Dat w0 F0 t d cs:=by
 intro t
 induction t with
 |unit=>exact fun _ _ _ _ h=>h
 |bool=>exact fun _ _ _ _ h=>h
 |int k=>exact fun _ _ _ _ h=>h
 |slice e _=>intro h;simp[Ty.flat]at h
 |mapi j e _=>intro h;simp[Ty.flat]at h
 |nul e=>exact fun _ _ _ _ h=>h
 |prod a b iha ihb=>
  intro h d cs w0 hd
  simp only[Ty.flat,Aet]at h
  obtain⟨c1,c2,h1,h2,h3⟩:=hd
  exact⟨c1,c2,h1,iha h.1 h2,ihb h.2 h3⟩
 |arr n e ih=>
  intro h d cs w0 hd
  obtain⟨h1,h2⟩:=hd
  exact⟨h1,BK (fun x _ cs hx=>ih (by simpa [Ty.flat]using h) hx) h2⟩
theorem Bf.flat{t:Ty}(ht:t.flat=true){d:t.den}{v:Value}{w0:World}(h:Bf w F t d v):Bf w0 F0 t d v:=by
 unfold Bf at *
 split
 ·rename_i hg
  simp only[hg,AfS]at h
  obtain⟨vs,e,hd⟩:=h
  exact⟨vs,e,hd.flat t ht⟩
 ·rename_i hg
  simp only[hg]at h
  exact Dat.flat t ht h
theorem AWd{k v:Ty}(hk:k.flat=true)(hv:v.flat=true){w0:World}:∀ {es:List (k.den×v.den)} {ms:List MapEntry},IK w F k v es ms→IK w0 F0 k v es ms:=by
 intro es
 induction es with
 |nil=>exact fun h=>h
 |cons e es ih=>
  rintro ms ⟨me,ms',e1,⟨h1,h2⟩,h3⟩
  exact⟨me,ms',e1,⟨h1.flat hk,h2.flat hv⟩,ih h3⟩
mutual
theorem Rep.flat:∀ (a:AV) {v:Value},JO a=true→Rep w F m H a v→Rep w F0 m H a v
 |.junk,_,_,_=>by unfold Rep;trivial
 |.data t d,v,hf,h=>by unfold Rep at *;exact h.flat (by simpa [JO]using hf)
 |.nils _,v,_,h=>by unfold Rep at *;exact h
 |.agg cs,v,hf,h=>by
  unfold Rep at *
  obtain⟨vs,e,h,h1⟩:=h
  exact⟨vs,e,Aa.flat cs (by simpa [JO]using hf) h,h1⟩
 |.own id,v,_,h=>by unfold Rep at *;exact h
 |.win id off n,v,_,h=>by unfold Rep at *;exact h
 |.ptr id off,v,_,h=>by unfold Rep at *;exact h
 |.eptr id i sub,v,_,h=>by unfold Rep at *;exact h
 |.dptr cs,v,hf,h=>by simp[JO]at hf
 |.clo f caps,v,hf,h=>by
  unfold Rep at *
  obtain⟨cs,e,h⟩:=h
  exact⟨cs,e,Aa.flat caps (by simpa [JO]using hf) h⟩
 |.bnd f caps,v,hf,h=>by
  unfold Rep at *
  obtain⟨cs,e,h⟩:=h
  exact⟨cs,e,Aa.flat caps (by simpa [JO]using hf) h⟩
 |.str _,v,_,h=>by unfold Rep at *;exact h
 |.clip _ _,v,hf,h=>by simp[JO]at hf
 |.mp id,v,_,h=>by unfold Rep at *;exact h
 |.rowp _ _ _,v,_,h=>by unfold Rep at *;exact h
 |.glob _,v,_,h=>by unfold Rep at *;exact h
 |.nilp,v,_,h=>by unfold Rep at *;exact h
 |.aptr _ _,v,_,h=>by unfold Rep at *;exact h
 |.tup vs,v,hf,h=>by
  unfold Rep at *
  obtain⟨us,e,h⟩:=h
  exact⟨us,e,Aa.flat vs (by simpa [JO]using hf) h⟩
theorem Aa.flat:∀ (cs:List AV) {vs:List Value},Jz cs=true→Aa w F m H cs vs→Aa w F0 m H cs vs
 |[],vs,_,h=>by unfold Aa at *;exact h
 |c::cs,vs,hf,h=>by
  unfold Aa at *
  simp only[Jz,Aet]at hf
  obtain⟨v,vs',e,h1,h2⟩:=h
  exact⟨v,vs',e,Rep.flat c hf.1 h1,Aa.flat cs hf.2 h2⟩
end
def ANE(ids:List Nat)(H H2:List Ob)(m m2:Mp):Prop:=∀ j o,H[j]? = some o→H2[ids.getD j 0]? = some (DS ids o)∧m2 (ids.getD j 0)=m j
theorem ET(hm:ANE ids H H2 m m2)(Q:Option Ob→Option (Nat×Nat)→Prop)(hnone:∀ l,¬ Q none l)(hbox:∀ cs l,Q (some (.box cs)) l→Q (some (.box (KP ids cs))) l)(hprs:∀ T t t' is l,Q (some (.prs T t is)) l→Q (some (.prs T t' is)) l)(j:Nat)(h:Q H[j]? (m j)):Q H2[ids.getD j 0]? (m2 (ids.getD j 0)):=by
 cases ho:H[j]? with
 |none=>rw[ho]at h;exact absurd h (hnone _)
 |some o=>
  rw[ho]at h
  obtain⟨h1,h2⟩:=hm j o ho
  rw[h1,h2]
  cases o<;>first|exact h|exact hbox _ _ h|exact hprs _ _ _ _ _ h
mutual
theorem Rep.ren(hm:ANE ids H H2 m m2):∀ (a:AV) {v:Value},Rep w F m H a v→Rep w F m2 H2 (Dr ids a) v
 |.junk,_,_=>by simp only[Dr];unfold Rep;trivial
 |.rowp _ _ _,_,_=>by simp only[Dr];unfold Rep;trivial
 |.glob g,v,h=>by simp only[Dr];unfold Rep at *;exact h
 |.nilp,v,h=>by simp only[Dr];unfold Rep at *;exact h
 |.aptr id n,v,h=>by
  simp only[Dr];unfold Rep at *
  exact ET hm (fun o l=>E0 o l n v) (fun l h=>h) (fun cs l h=>h) (fun _ _ _ _ l h=>h) id h
 |.data t d,v,h=>by simp only[Dr];unfold Rep at *;exact h
 |.nils _,v,h=>by simp only[Dr];unfold Rep at *;exact h
 |.agg cs,v,h=>by
  simp only[Dr];unfold Rep at *
  obtain⟨vs,e,h,h1⟩:=h
  exact⟨vs,e,Aa.ren hm cs h,h1⟩
 |.own id,v,h=>by
  simp only[Dr];unfold Rep at *
  exact ET hm (fun o l=>A6 o l v) (fun l h=>h) (fun cs l h=>h) (fun _ _ _ _ l h=>h) id h
 |.win id off n,v,h=>by
  simp only[Dr];unfold Rep at *
  exact ET hm (fun o l=>Ga o l off n v) (fun l h=>h) (fun cs l h=>h) (fun _ _ _ _ l h=>h) id h
 |.ptr id off,v,h=>by
  simp only[Dr];unfold Rep at *
  exact ET hm (fun o l=>Gb o l off v) (fun l h=>h) (fun cs l h=>h) (fun _ _ _ _ l h=>h) id h
 |.eptr id i sub,v,h=>by
  simp only[Dr];unfold Rep at *
  exact ET hm (fun o l=>Cj o l i sub v) (fun l h=>h) (fun cs l h=>h) (fun _ _ _ _ l h=>h) id h
 |.dptr cs,v,h=>by
  simp only[Dr];unfold Rep at *
  obtain⟨ad,us,e,h1,h2,h4,h3⟩:=h
  refine⟨ad,us,e,fun hne=>h1 (by rintro rfl;exact hne rfl),Aa.ren hm cs h2,h4,h3⟩
 |.clo f caps,v,h=>by
  simp only[Dr];unfold Rep at *
  obtain⟨cs,e,h⟩:=h
  exact⟨cs,e,Aa.ren hm caps h⟩
 |.bnd f caps,v,h=>by
  simp only[Dr];unfold Rep at *
  obtain⟨cs,e,h⟩:=h
  exact⟨cs,e,Aa.ren hm caps h⟩
 |.str _,v,h=>by simp only[Dr];unfold Rep at *;exact h
 |.clip _ _,v,h=>by simp only[Dr];unfold Rep at *;exact h
 |.mp id,v,h=>by
  simp only[Dr];unfold Rep at *
  exact ET hm (fun o l=>Lc o l v) (fun l h=>h) (fun cs l h=>h) (fun _ _ _ _ l h=>h) id h
 |.tup vs,v,h=>by
  simp only[Dr];unfold Rep at *
  obtain⟨us,e,h⟩:=h
  exact⟨us,e,Aa.ren hm vs h⟩
theorem Aa.ren(hm:ANE ids H H2 m m2):∀ (cs:List AV) {vs:List Value},Aa w F m H cs vs→Aa w F m2 H2 (KP ids cs) vs
 |[],vs,h=>by simp only[KP];unfold Aa at *;exact h
 |c::cs,vs,h=>by
  simp only[KP];unfold Aa at *
  obtain⟨v,vs',e,h1,h2⟩:=h
  exact⟨v,vs',e,Rep.ren hm c h1,Aa.ren hm cs h2⟩
end
theorem AYV(tgt:Nat)(is:List Int):KP ids (FF tgt is)=FF (ids.getD tgt 0) is:=by
 induction is with
 |nil=>rfl
 |cons x xs ih=>
  have:KP ids (FF tgt (x::xs))=Dr ids (.eptr tgt x.toNat 0)::KP ids (FF tgt xs):=rfl
  rw[this,ih]
  rfl
theorem AWV(tgt:Nat)(is:List Int):Jz (FF tgt is)=true:=by
 induction is with
 |nil=>rfl
 |cons x xs ih=>
  have:Jz (FF tgt (x::xs))=(JO (.eptr tgt x.toNat 0)&&Jz (FF tgt xs)):=rfl
  rw[this,ih]
  rfl
theorem APw{i j k:Nat}:∀ {ids:List Nat},I9 ids=true→ids[i]? = some k→ids[j]? = some k→i=j:=by
 intro ids h
 have:ids.Nodup:=by
  induction ids with
  |nil=>exact List.nodup_nil
  |cons a ids ih=>
   simp only[I9,Aet,AgI,AgW,Aff]at h
   exact AfO.2 ⟨h.1,ih h.2⟩
 intro h1 h2
 exact(List.getElem?_inj (FK h1) this).1 (h1.trans h2.symm)
theorem AJj{i:Nat}{o:Ob}:∀ (ids:List Nat) (os:List Ob) (H:List Ob) (j:Nat),I9 ids=true→ids[j]? = some i→os[j]? = some o→i<H.length→(A7 (ids.zip os) H)[i]? = some o:=by
 intro ids
 induction ids with
 |nil=>intro os H j _ h;simp at h
 |cons a ids ih=>
  intro os H j hn h1 h2 hl
  cases os with
  |nil=>simp at h2
  |cons x os=>
   simp only[I9,Aet,AgI,AgW,Aff]at hn
   simp only[AhI,A7]
   cases j with
   |zero=>
    simp only[AfY,Aep]at h1 h2
    subst h1;subst h2
    rw[BW _ _ fun p hp => ?_,Af8 hl]
    rintro rfl
    exact hn.1 (List.of_mem_zip hp).1
   |succ j=>
    simp only[Agy]at h1 h2
    exact ih os _ j hn.2 h1 h2 (by simpa using hl)
def JP:List Nat→Nat→Option Nat
 |[],_=>none
 |x::xs,i=>if x=i then some 0 else(JP xs i).map (· + 1)
theorem VU{i j:Nat}:∀ {ids:List Nat},JP ids i=some j→ids[j]? = some i:=by
 intro ids
 induction ids generalizing j with
 |nil=>intro h;simp[JP]at h
 |cons a ids ih=>
  intro h
  simp only[JP]at h
  split at h
  ·rename_i e;simp only[Aep]at h;subst h;simp[e]
  ·rw[Ae4]at h
   obtain⟨k,h1,rfl⟩:=h
   simpa using ih h1
theorem AMQ{i:Nat}:∀ {ids:List Nat},JP ids i=none→i∉ids:=by
 intro ids
 induction ids with
 |nil=>intro _;simp
 |cons a ids ih=>
  intro h
  simp only[JP]at h
  split at h
  ·cases h
  ·rename_i hne
   rw[Ahq]at h
   simp only[Aew,not_or]
   exact⟨fun e=>hne e.symm,ih h⟩
theorem AWY{i j:Nat}{ids:List Nat}(hn:I9 ids=true)(h:ids[j]? = some i):JP ids i=some j:=by
 cases hf:JP ids i with
 |none=>exact absurd (Ae5 h) (AMQ hf)
 |some k=>rw[APw hn h (VU hf)]
def mOf(ids:List Nat)(m3 m:Mp):Mp
 |.o i=>match JP ids i with
  |some j=>m3 j
  |none=>m i
 |.r i k=>m (.r i k)
theorem AEN{fz:List Bool}:∀ {ids:List Nat} {bs:List Bnd},E4 H fz ids bs=true→∀ {j i:Nat},ids[j]? = some i→bs[j]? = some (.whole i)∨((∀ id,bs[j]?≠some (.whole id))∧At H fz i=true):=by
 intro ids
 induction ids with
 |nil=>intro bs _ j i h;simp at h
 |cons a ids ih=>
  intro bs h j i hj
  simp only[E4,Aet]at h
  obtain⟨h1,h2⟩:=h
  cases j with
  |zero=>
   simp only[AfY,Aep]at hj;subst hj
   split at h1
   ·rename_i id _
    simp only[Aer]at h1;subst h1
    exact .inl (by simp)
   ·rename_i hne
    refine .inr ⟨fun id he => ?_,h1⟩
    cases bs with
    |nil=>simp at he
    |cons b bs=>simp at he;subst he;exact hne id bs rfl
  |succ j=>
   simp only[Agy]at hj
   have:=ih h2 hj
   cases bs with
   |nil=>simpa using this
   |cons b bs=>simpa using this
theorem AWB:∀ (n:Nat) (bs:List Bnd) (slot:Nat),(Ch n bs slot).length=n:=by
 intro n
 induction n with
 |zero=>intro bs slot;cases bs<;>rfl
 |succ n ih=>
  intro bs slot
  cases bs with
  |nil=>simp[Ch,ih]
  |cons b bs=>cases b<;>simp[Ch,ih]
theorem BP(st:St)(v:AV)(l:Loc):(place st v l).heap.length=st.heap.length:=by
 cases l with
 |tmp t=>rfl
 |cell j c=>simp only[place];split<;>simp
 |cap t i=>rfl
 |obj j=>rfl
theorem AaU:∀ (its:AE) (d:B7 (leaves its)) (st:St),(enc its d st).heap.length=st.heap.length+C1 its:=by
 intro its
 induction its with
 |nil=>intro d st;rfl
 |cons p r ih=>
  intro d st
  obtain⟨l,c⟩:=p
  cases c with
  |dat t=>exact(ih _ _).trans (by rw[BP];rfl)
  |own T e=>exact(ih _ _).trans (by rw[BP];simp[Da,C1];omega)
  |box n=>exact(ih _ _).trans (by rw[BP];simp[Da,C1];omega)
  |map k v=>exact(ih _ _).trans (by rw[BP];simp[Da,C1];omega)
  |prs T j=>exact(ih _ _).trans (by rw[BP];simp[Da,C1];omega)
  |rows T e t=>exact(ih _ _).trans (by rw[BP];simp[Da,C1];omega)
  |mrows j e t=>exact(ih _ _).trans (by rw[BP];simp[Da,C1];omega)
  |aptr T e n=>exact(ih _ _).trans (by rw[BP];simp[Da,C1];omega)
  |aptr' j n=>exact(ih _ _).trans (by rw[BP];rfl)
  |bndp f j=>exact(ih _ _).trans (by rw[BP];rfl)
  |nilp=>exact(ih _ _).trans (by rw[BP];rfl)
  |own' j=>exact(ih _ _).trans (by rw[BP];rfl)
  |ptr' j o=>exact(ih _ _).trans (by rw[BP];rfl)
  |map' j=>exact(ih _ _).trans (by rw[BP];rfl)
  |win' j=>exact(ih _ _).trans (by rw[BP];rfl)
  |sub' j=>exact(ih _ _).trans (by rw[BP];rfl)
  |clo f ps=>exact(ih _ _).trans (by rw[BP];rfl)
  |bnd f j=>exact(ih _ _).trans (by rw[BP];rfl)
  |nil e=>exact(ih _ _).trans (by rw[BP];rfl)
end
end Go.Pev
end
section
namespace Go.Pev
open Go.RowKit
theorem Zn{H:List Ob}{fz:List Bool}{i:Nat}{o:Ob}(h:H[i]? = some o)(ha:alive o)(hf:fz.getD i false=false):owned H fz i:=by
 simp only[owned,Bq]
 rw[h]
 cases o with
 |free=>exact ha.elim
 |dead=>exact ha.elim
 |box cs=>trivial
 |arr T t xs=>exact hf
 |map k v es=>trivial
 |prs T t is=>trivial
 |rows T e t xs ver out=>exact hf
theorem AM9{o:Ob}(h:alive o):o≠.free∧o≠.dead:=by
 constructor<;>rintro rfl<;>exact h
theorem Cz{H:List Ob}{fz:List Bool}{ids:List Nat}{i:Ix}(h:owned H (Ag ids fz) i):owned H fz i:=Nu h
theorem ACT{o o1:Ob}{ids:List Nat}(h:sameShape o o1):sameShape o (DS ids o1):=by
 cases o<;>cases o1<;>simp only[sameShape,DS]at *<;>exact h
theorem S6{i:Nat}:∀ {bs:List Bnd},i∈given bs↔∃ j:Nat,bs[j]? = some (.whole i):=by
 intro bs
 induction bs with
 |nil=>simp[given]
 |cons b bs ih=>
  have step:(∃ j:Nat,(b::bs)[j]? = some (.whole i))↔b = .whole i∨∃ j:Nat,bs[j]? = some (.whole i):=by
   constructor
   ·rintro⟨j,hj⟩
    cases j with
    |zero=>simp only[AfY,Aep]at hj;exact .inl hj
    |succ j=>simp only[Agy]at hj;exact .inr ⟨j,hj⟩
   ·rintro (h|⟨j,hj⟩)
    ·exact⟨0,by rw[h];rfl⟩
    ·exact⟨j+1,by simpa using hj⟩
  rw[step]
  cases b with
  |whole id=>simp only[given,Aew,ih,Bnd.whole.injEq];exact⟨fun h=>h.imp Eq.symm (fun x=>x),fun h=>h.imp Eq.symm (fun x=>x)⟩
  |none=>simp[given,ih]
  |cut id=>simp[given,ih]
theorem UH(a b:List (Nat×Ob)):∀ H,A7 (a++b) H=A7 b (A7 a H):=by
 induction a with
 |nil=>intro H;rfl
 |cons p a ih=>intro H;obtain⟨i,o⟩:=p;simp only[AfK,A7];exact ih _
def C3(gv:List Nat)(H:List Ob):List Ob:=A7 (gv.map fun i=>(i,.dead)) H
theorem Z9{gv:List Nat}{i:Nat}{H:List Ob}(h:i∉gv):(C3 gv H)[i]? = H[i]? :=
 BW _ _ fun p hp=>by
  rintro rfl
  obtain⟨x,hx,rfl⟩:=AfB.1 hp
  exact h hx
theorem AV0:∀ {gv:List Nat} {i:Nat} {H:List Ob},i∈gv→i<H.length→(C3 gv H)[i]? = some .dead:=by
 intro gv
 induction gv with
 |nil=>intro i H h;cases h
 |cons a gv ih=>
  intro i H h hl
  by_cases hg:i∈gv
  ·exact ih (H:=H.set a .dead) hg (by simpa using hl)
  ·have:(C3 gv (H.set a .dead))[i]? = (H.set a .dead)[i]? := Z9 hg
   rcases Aew.1 h with rfl|h
   ·show(C3 gv (H.set i .dead))[i]? = _
    rw[this,Af8 hl]
   ·exact absurd h hg
theorem AAA(gv:List Nat)(H:List Ob):(C3 gv H).length=H.length:=UG ..
section
variable {w w':World} {F F2 F3 FR:Nat→Prop} {m m3:Mp} {H H1:List Ob} {fz fz1 fzR:List Bool} {bs:List Bnd} {ids fr:List Nat} {np:Nat}
theorem AWt(hiC:HI w F m H fz)(gA:Ap w F m H fz w F2 m H (Ag fr fz))
  (giv:∀ (j id:Nat),bs[j]? = some (.whole id)→owned H (Ag fr fz) id)
  (inj:∀ (i j id:Nat),bs[i]? = some (.whole id)→bs[j]? = some (.whole id)→i=j)
  (pin:∀ (j id:Nat),(bs.take np)[j]? = some (.whole id)→∃ o o1,H[id]? = some o∧alive o∧H1[j]? = some o1∧sameShape o o1∧m3 j=m id)
  (blk:∀ (j b c:Nat),owned H1 fz1 j→m3 j=some (b,c)→(∃ id c':Nat,(bs.take np)[j]? = some (.whole id)∧m id=some (b,c'))∨(∃ k id c':Nat,np≤k∧bs[k]? = some (.whole id)∧m id=some (b,c'))∨w.heap.size≤b)
  (os:w'.os=w.os) (tape:w'.tape=w.tape) (output:w'.output=w.output) (size:w.heap.size≤w'.heap.size)
  (keep:∀ b,b<w.heap.size→(∀ (j id:Nat) (c:Nat),bs[j]? = some (.whole id)→m id≠some (b,c))→w'.heap[b]? = w.heap[b]?)
  (sub:∀ b,F2 b→F3 b) (bnd:∀ b,F3 b→F2 b∨(∃ (j id c:Nat),bs[j]? = some (.whole id)∧m id=some (b,c))∨w.heap.size≤b)
  (hi1:HI w' F3 m3 H1 fz1) (al1:∀ (j:Nat) (o:Ob),H1[j]? = some o→alive o) (pl1:∀ (j:Nat) (o:Ob),H1[j]? = some o→BS o=true) (fr1:∀ j,fz1.getD j false=false)
  (hlen:ids.length=H1.length) (hok:E4 H fzR ids (bs.take np)=true) (hnd:I9 ids=true)
  (hR:(FR=F∧fzR=fz∧H1.all O5=true)∨(FR=F3∧fzR=Ag fr fz)) :
  Ap w F m H fz w' FR (mOf ids m3 m) (A7 (ids.zip (H1.map (DS ids))) (C3 (given (bs.drop np)) H)) fzR∧ANE ids H1 (A7 (ids.zip (H1.map (DS ids))) (C3 (given (bs.drop np)) H)) m3 (mOf ids m3 m):=by
 have hiR:∃ FB,HI w FB m H fzR∧(∀ b,F b→FB b)∧(∀ b,FB b→FR b)∧(∀ b,FB b→F2 b):=by
  rcases hR with⟨e1,e2,_⟩|⟨e1,e2⟩
  ·exact⟨F,by rw[e2];exact hiC,fun _ h=>h,fun _ h=>by rw[e1];exact h,gA.1.sub⟩
  ·exact⟨F2,by rw[e2];exact gA.2,gA.1.sub,fun b h=>by rw[e1];exact sub b h,fun _ h=>h⟩
 obtain⟨FB,hiB,hFB,hBR,hB2⟩:=hiR
 have ownR:∀ {i},owned H fzR i→owned H fz i:=by
  intro i h
  rcases hR with⟨_,e2,_⟩|⟨_,e2⟩
  ·rw[e2]at h;exact h
  ·rw[e2]at h;exact Cz h
 have pinR:∀ {id},owned H (Ag fr fz) id→owned H fzR id:=by
  intro id h
  rcases hR with⟨_,e2,_⟩|⟨_,e2⟩
  ·rw[e2];exact Cz h
  ·rw[e2];exact h
 have FR3:∀ b,FR b→F3 b:=by
  rcases hR with⟨e1,_,_⟩|⟨e1,_⟩
  ·rw[e1];exact fun b h=>sub b (gA.1.sub b h)
  ·rw[e1];exact fun _ h=>h
 have tk:∀ {j id:Nat},(bs.take np)[j]? = some (.whole id)→j<np∧bs[j]? = some (.whole id):=by
  intro j id h
  rw[Afd]at h
  split at h
  ·rename_i hj;exact⟨hj,h⟩
  ·cases h
 have tk':∀ {j id:Nat},j<np→bs[j]? = some (.whole id)→(bs.take np)[j]? = some (.whole id):=by
  intro j id hj h
  rw[Afd,Ae6 hj];exact h
 have gvI:∀ {i:Nat},i∈given (bs.drop np)→∃ k,np≤k∧bs[k]? = some (.whole i):=by
  intro i h
  obtain⟨j,hj⟩:=S6.1 h
  rw[Afo]at hj
  exact⟨np+j,by omega,hj⟩
 have gvO:∀ {i k:Nat},np≤k→bs[k]? = some (.whole i)→i∈given (bs.drop np):=by
  intro i k hk h
  refine S6.2 ⟨k-np,?_⟩
  rw[Afo,show np+(k-np)=k by omega];exact h
 have hids:∀ {j i:Nat},ids[j]? = some i→(∃ o,H[i]? = some o)∧((bs.take np)[j]? = some (.whole i)∨((∀ (id:Nat),(bs.take np)[j]?≠some (.whole id))∧H[i]? = some .free∧fzR.getD i false=false)):=by
  intro j i hj
  rcases AEN hok hj with h|⟨h1,h2⟩
  ·obtain⟨o,o1,ho,_⟩:=pin j i h
   exact⟨⟨o,ho⟩,.inl h⟩
  ·obtain⟨h3,h4⟩:=BL h2
   exact⟨⟨_,h3⟩,.inr ⟨h1,h3,h4⟩⟩
 have gvN:∀ {i:Nat},i∈ids→i∉given (bs.drop np):=by
  intro i hi hg
  obtain⟨j,hj⟩:=AhZ hi
  obtain⟨k,hk,hb⟩:=gvI hg
  rcases(hids hj).2 with h|⟨_,h,_⟩
  ·obtain⟨h1,h2⟩:=tk h
   have:=inj _ _ _ h2 hb
   omega
  ·obtain⟨o,h1,h2,_⟩:=ES (giv k i hb)
   rw[h]at h1;cases h1;exact h2 rfl
 have hunf:∀ {j i:Nat},ids[j]? = some i→∀ {o1:Ob},H1[j]? = some o1→∀ {T:TypeId} {t:Ty} {xs:List t.den},o1 = .arr T t xs→fzR.getD i false=false:=by
  intro j i hj o1 ho1 T t xs he
  rcases(hids hj).2 with h|⟨_,_,h⟩
  ·obtain⟨o,o2,ho,_,ho2,hs,_⟩:=pin j i h
   rw[ho1]at ho2;cases ho2
   subst he
   have h2:=pinR (giv j i (tk h).2)
   simp only[owned,Bq]at h2
   rw[ho]at h2
   cases o<;>simp only[sameShape]at hs
   exact h2
  ·exact h
 have hwhole:∀ {j id:Nat},(bs.take np)[j]? = some (.whole id)→ids[j]? = some id:=by
  intro j id hb
  obtain⟨o,o1,_,_,ho1,_⟩:=pin j id hb
  have hl:=Al ho1
  rw[← hlen]at hl
  have hg:ids[j]? = some ids[j]:=Aev hl
  rcases AEN hok hg with h|⟨h,_⟩
  ·rw[hb]at h;cases h;exact hg
  ·exact absurd hb (h id)
 have hgv:∀ {i:Nat},i∈given (bs.drop np)→(C3 (given (bs.drop np)) H)[i]? = some .dead:=by
  intro i hi
  obtain⟨k,_,hb⟩:=gvI hi
  obtain⟨o,ho,_⟩:=ES (giv k i hb)
  exact AV0 hi (Al ho)
 have getIn:∀ {j i:Nat} {o1:Ob},ids[j]? = some i→H1[j]? = some o1→(A7 (ids.zip (H1.map (DS ids))) (C3 (given (bs.drop np)) H))[i]? = some (DS ids o1):=by
  intro j i o1 hj ho1
  obtain⟨⟨o,ho⟩,_⟩:=hids hj
  exact AJj ids _ _ j hnd hj (by rw[Af4,ho1];rfl) (by rw[AAA];exact Al ho)
 have getOut0:∀ {i:Nat},i∉ids→(A7 (ids.zip (H1.map (DS ids))) (C3 (given (bs.drop np)) H))[i]? = (C3 (given (bs.drop np)) H)[i]? := by
  intro i hi
  exact BW _ _ fun p hp=>by rintro rfl;exact hi (List.of_mem_zip hp).1
 have getOut:∀ {i:Nat},i∉ids→i∉given (bs.drop np)→(A7 (ids.zip (H1.map (DS ids))) (C3 (given (bs.drop np)) H))[i]? = H[i]? := by
  intro i hi hg
  rw[getOut0 hi,Z9 hg]
 have getGv:∀ {i:Nat},i∈given (bs.drop np)→(A7 (ids.zip (H1.map (DS ids))) (C3 (given (bs.drop np)) H))[i]? = some .dead:=by
  intro i hg
  rw[getOut0 fun h=>gvN h hg,hgv hg]
 have mIn:∀ {j i:Nat},ids[j]? = some i→mOf ids m3 m i=m3 j:=by
  intro j i hj;simp only[mOf];rw[AWY hnd hj]
 have mOut:∀ {x:Ix},x.id∉ids→mOf ids m3 m x=m x:=by
  intro x hi
  cases x with
  |r i k=>rfl
  |o i=>
   simp only[mOf]
   cases hf:JP ids i with
   |none=>rfl
   |some j=>exact absurd (Ae5 (VU hf)) hi
 have inOut:∀ i:Nat,(∃ j:Nat,ids[j]? = some i)∨i∈given (bs.drop np)∨(i∉ids∧i∉given (bs.drop np)):=by
  intro i
  by_cases h:i∈ids
  ·obtain⟨j,hj⟩:=AhZ h;exact .inl ⟨j,hj⟩
  ·by_cases h2:i∈given (bs.drop np)
   ·exact .inr (.inl h2)
   ·exact .inr (.inr ⟨h,h2⟩)
 have notGv:∀ {i:Ix},i.id∈given (bs.drop np)→¬ owned (A7 (ids.zip (H1.map (DS ids))) (C3 (given (bs.drop np)) H)) fzR i:=by
  intro i hg ho
  obtain⟨o,h1,_,h3⟩:=C0 ho
  rw[getGv hg]at h1;cases h1;exact h3 rfl
 have has1:∀ {j i:Nat},ids[j]? = some i→∃ o1,H1[j]? = some o1:=by
  intro j i hj
  have hl:=FK hj
  rw[hlen]at hl
  exact⟨_,Aev hl⟩
 have plR:∀ {o1:Ob},BS o1=true→BS (DS ids o1)=true:=by
  intro o1 h;cases o1<;>first|exact h|rfl
 have cls:∀ x:Ix,owned (A7 (ids.zip (H1.map (DS ids))) (C3 (given (bs.drop np)) H)) fzR x→(∃ i j:Nat,∃ o1,x = .o i∧ids[j]? = some i∧H1[j]? = some o1)∨(x.id∉ids∧x.id∉given (bs.drop np)):=by
  intro x hx
  rcases inOut x.id with⟨j,hj⟩|hg|h
  ·obtain⟨o1,ho1⟩:=has1 hj
   cases x with
   |o i=>exact .inl ⟨i,j,o1,rfl,hj,ho1⟩
   |r i k=>exact absurd hx (EP (getIn hj ho1) (plR (pl1 j o1 ho1)))
  ·exact absurd hx (notGv hg)
  ·exact .inr h
 have own1:∀ {j:Nat} {o1:Ob},H1[j]? = some o1→owned H1 fz1 j:=fun h=>Zn h (al1 _ _ h) (fr1 _)
 have blkNe:∀ {i b c:Nat},i∉ids→i∉given (bs.drop np)→(∃ o,H[i]? = some o∧o≠.free∧o≠.dead)→m i=some (b,c)→∀ {j id c':Nat},bs[j]? = some (.whole id)→m id≠some (b,c'):=by
  intro i b c hi hg ⟨o,ho,h1,h2⟩ hm j id c' hb he
  have hp:=giv j id hb
  have hne:i≠id:=by
   rintro rfl
   rcases Afa j np with hj|hj
   ·exact hi (Ae5 (hwhole (tk' hj hb)))
   ·exact hg (gvO hj hb)
  exact gA.2.ne hp he ho h1 h2 hm hne rfl
 have hcomp:CH H (A7 (ids.zip (H1.map (DS ids))) (C3 (given (bs.drop np)) H)) m (mOf ids m3 m):=by
  intro i o ho hf
  rcases inOut i with⟨j,hj⟩|hg|⟨hi,hg⟩
  ·rcases(hids hj).2 with h|⟨_,h,_⟩
   ·obtain⟨o',o1,ho',ha,ho1,hs,hm⟩:=pin j i h
    rw[ho]at ho';cases ho'
    exact .inr ⟨(AM9 ha).2,_,getIn hj ho1,ACT hs,by rw[mIn hj];exact hm,fun _ _ _=>rfl⟩
   ·rw[ho]at h;cases h;exact absurd rfl hf
  ·exact .inl (getGv hg)
  ·rcases CH.refl H m i o ho hf with h|⟨hd,o',h1,h2,_⟩
   ·exact .inl (by rw[getOut hi hg];exact h)
   ·exact .inr ⟨hd,o',by rw[getOut hi hg];exact h1,h2,mOut (x:=.o i) hi,fun _ _ _=>rfl⟩
 have hmoved:ANE ids H1 (A7 (ids.zip (H1.map (DS ids))) (C3 (given (bs.drop np)) H)) m3 (mOf ids m3 m):=by
  intro j o ho
  have hl:=Al ho
  rw[← hlen]at hl
  have hg:ids[j]? = some ids[j]:=Aev hl
  have hd:ids.getD j 0=ids[j]:=by rw[Aes,hg];rfl
  rw[hd]
  exact⟨getIn hg ho,mIn hg⟩
 have hkeepF:∀ b,FB b→w'.heap[b]? = w.heap[b]? := by
  intro b hb
  refine keep b (hiB.lt b hb) fun j id c hj he => ?_
  exact gA.2.off id b c (giv j id hj) he (hB2 b hb)
 have hcell:∀ k,F k→w'.heap[k]? = w.heap[k]? := fun k ha=>hkeepF _ (hFB _ ha)
 have ownOut:∀ {i:Ix},i.id∉ids→i.id∉given (bs.drop np)→owned (A7 (ids.zip (H1.map (DS ids))) (C3 (given (bs.drop np)) H)) fzR i→owned H fzR i:=by
  intro i hi hg h
  exact(CW (getOut hi hg)).1 h
 have blkNe':∀ {x:Ix} {b c:Nat},x.id∉ids→x.id∉given (bs.drop np)→owned H fzR x→m x=some (b,c)→∀ {j id c':Nat},bs[j]? = some (.whole id)→m id≠some (b,c'):=by
  intro x b c hi hg ho hm j id c' hb he
  cases x with
  |o i=>exact blkNe hi hg (ES ho) hm hb he
  |r i k=>exact gA.2.neX (giv j id hb) he ho.there hm (by simp) rfl
 have bOut:∀ {x:Ix} {b c:Nat},x.id∉ids→x.id∉given (bs.drop np)→owned H fzR x→m x=some (b,c)→∀ {j:Nat} {o1:Ob} {c':Nat},H1[j]? = some o1→m3 j≠some (b,c'):=by
  intro x b c hi hg ho hm j o1 c' ho1 he
  rcases blk j b c' (own1 ho1) he with⟨id,c2,hb,hm2⟩|⟨k,id,c2,_,hb,hm2⟩|hge
  ·exact blkNe' hi hg ho hm (tk hb).2 hm2
  ·exact blkNe' hi hg ho hm hb hm2
  ·have:=hiB.Hg ho hm;omega
 refine⟨⟨⟨os,tape,output,size,fun b hb hn=>keep b hb fun j id c hj he => ?_,fun b h=>hBR b (hFB b h),?_,?_,hcomp⟩,⟨?_,?_,?_,?_,?_,?_,?_,hiC.glo.mono hcell (fun b h=>hBR b (hFB b h)),?_⟩⟩,hmoved⟩
 ·exact hn id c (Cz (giv j id hj)) he
 ·-- what is frozen
  intro b hb
  rcases hR with⟨e1,_,_⟩|⟨e1,_⟩
  ·rw[e1]at hb;exact .inl hb
  ·rw[e1]at hb
   rcases bnd b hb with h|⟨j,id,c,h1,h2⟩|h
   ·exact gA.1.bnd b h
   ·exact .inr (.inl ⟨id,c,Cz (giv j id h1),h2⟩)
   ·exact .inr (.inr h)
 ·intro i b c ho hm
  rcases cls i ho with⟨i,j,o1,rfl,hj,ho1⟩|⟨hi,hg⟩
  ·rw[mIn hj]at hm
   rcases blk j b c (own1 ho1) hm with⟨id,c',h1,h2⟩|⟨k,id,c',_,h1,h2⟩|h
   ·exact .inl ⟨id,c',Cz (giv j id (tk h1).2),h2⟩
   ·exact .inl ⟨id,c',Cz (giv k id h1),h2⟩
   ·exact .inr h
  ·rw[mOut hi]at hm
   exact .inl ⟨i,c,ownR (ownOut hi hg ho),hm⟩
 ·-- objects
  intro i o ho
  rcases inOut i with⟨j,hj⟩|hg|⟨hi,hg⟩
  ·obtain⟨o1,ho1⟩:=has1 hj
   rw[getIn hj ho1]at ho;cases ho
   rw[mIn hj]
   have hob:=hi1.obj j o1 ho1
   cases o1 with
   |free=>trivial
   |dead=>trivial
   |box cs=>
    obtain⟨b,c,vs,T,a1,a2,a3,a4⟩:=hob
    refine⟨b,c,vs,T,a1,a2,Aa.ren hmoved cs ?_,a4⟩
    rcases hR with⟨e1,_,hfl⟩|⟨e1,_⟩
    ·rw[AfE]at hfl
     exact Aa.flat cs (by simpa [O5]using hfl _ (Ae5 ho1)) a3
    ·rw[e1];exact a3
   |arr T t xs=>
    rcases hR with⟨e1,_,hfl⟩|⟨e1,_⟩
    ·rw[AfE]at hfl
     have hft:t.flat=true:=by simpa [O5]using hfl _ (Ae5 ho1)
     obtain⟨h0,h1⟩:=hob
     refine⟨h0,?_⟩
     cases hm3:m3 j with
     |none=>rw[hm3]at h1;exact h1
     |some p=>
      obtain⟨b,cap⟩:=p
      rw[hm3]at h1
      obtain⟨vs,row,a1,a2,a3,a4,a5,a6⟩:=h1
      exact⟨vs,row,a1,a2,a3,a4,BK (fun x _ cs hx=>hx.flat t hft) a5,a6⟩
    ·rw[e1];exact hob
   |map k v es=>
    obtain⟨b,c,ms,clock,a1,a2,a3,a4⟩:=hob
    refine⟨b,c,ms,clock,a1,a2,?_,a4⟩
    rcases hR with⟨e1,_,hfl⟩|⟨e1,_⟩
    ·rw[AfE]at hfl
     have hft:k.flat=true∧v.flat=true:=by simpa [O5]using hfl _ (Ae5 ho1)
     exact AWd hft.1 hft.2 a3
    ·rw[e1];exact a3
   |prs T tgt is=>
    simp only[DS]
    cases hm3:m3 j with
    |none=>rw[hm3]at hob;exact hob
    |some p=>
     obtain⟨b,cap⟩:=p
     rw[hm3]at hob
     obtain⟨vs,us,a1,a2,a3,a4,a5,a6,a7⟩:=hob
     refine⟨vs,us,a1,a2,a3,a4,?_,a6,a7⟩
     rw[← AYV]
     refine Aa.ren hmoved _ ?_
     rcases hR with⟨e1,_,hfl⟩|⟨e1,_⟩
     ·exact Aa.flat _ (AWV tgt is) a5
     ·rw[e1];exact a5
   |rows T e t xs ver out=>exact absurd (pl1 j _ ho1) (by simp[BS])
  ·rw[getGv hg]at ho;cases ho;trivial
  ·rw[getOut hi hg]at ho
   rw[mOut (x:=.o i) hi]
   refine ObI.mono hcell (fun b h=>hBR b (hFB b h)) hcomp (fun h1 h2 b c hm hlt=>keep b hlt fun j id c' hj=>blkNe hi hg ⟨o,ho,h1,h2⟩ hm hj) (hiC.obj i o ho)
 ·-- rows
  intro i
  rcases inOut i with⟨j,hj⟩|hg|⟨hi,hg⟩
  ·obtain⟨o1,ho1⟩:=has1 hj
   exact B0.plain (getIn hj ho1) (plR (pl1 j o1 ho1))
  ·exact B0.plain (getGv hg) rfl
  ·refine B0.mono hcell (fun b h=>hBR b (hFB b h)) hcomp (getOut hi hg) (fun x hx=>mOut (by rw[hx];exact hi))
    (fun x hx hox b c hm hlt=>keep b hlt fun j id c' hj he => ?_) (hiC.row i)
   refine gA.2.neX (giv j id hj) he hox hm ?_ rfl
   rintro rfl
   have hx:id=i:=hx
   subst hx
   rcases Afa j np with hj'|hj'
   ·exact hi (Ae5 (hwhole (tk' hj' hj)))
   ·exact hg (gvO hj' hj)
 ·intro i T e t xs ver out hio hf x hx ht b c hm
  rcases inOut i with⟨j,hj⟩|hg|⟨hi,hg⟩
  ·obtain⟨o1,ho1⟩:=has1 hj
   rw[getIn hj ho1]at hio
   have:=plR (pl1 j o1 ho1)
   rw[Afs hio]at this;cases this
  ·rw[getGv hg]at hio;cases hio
  ·rw[mOut (x:=x) (by rw[hx];exact hi)]at hm
   have h1:=getOut hi hg
   exact hBR b (hiB.rfz i T e t xs ver out (h1▸hio) hf x hx ((CT (by rw[hx];exact h1)).1 ht) b c hm)
 ·-- apart
  intro i j b c b' c' hoi hoj hij hmi hmj
  rcases cls i hoi with⟨i,k,o1,rfl,hk,ho1⟩|⟨hi,hgi⟩
  ·rw[mIn hk]at hmi
   rcases cls j hoj with⟨j,l,o2,rfl,hl,ho2⟩|⟨hj,hgj⟩
   ·rw[mIn hl]at hmj
    have hkl:k≠l:=by rintro rfl;rw[hk]at hl;cases hl;exact hij rfl
    exact hi1.sep k l b c b' c' (own1 ho1) (own1 ho2) (AcI hkl) hmi hmj
   ·rw[mOut hj]at hmj
    rintro rfl
    exact bOut hj hgj (ownOut hj hgj hoj) hmj ho1 hmi
  ·rw[mOut hi]at hmi
   rcases cls j hoj with⟨j,l,o2,rfl,hl,ho2⟩|⟨hj,hgj⟩
   ·rw[mIn hl]at hmj
    rintro rfl
    exact bOut hi hgi (ownOut hi hgi hoi) hmi ho2 hmj
   ·rw[mOut hj]at hmj
    exact hiB.sep i j b c b' c' (ownOut hi hgi hoi) (ownOut hj hgj hoj) hij hmi hmj
 ·-- none of them frozen
  intro i b c hoi hmi hb
  rcases cls i hoi with⟨i,k,o1,rfl,hk,ho1⟩|⟨hi,hg⟩
  ·rw[mIn hk]at hmi
   exact hi1.off k b c (own1 ho1) hmi (FR3 b hb)
  ·rw[mOut hi]at hmi
   have ho:=ownOut hi hg hoi
   rcases hR with⟨e1,e2,_⟩|⟨e1,e2⟩
   ·rw[e1]at hb;exact hiC.off i b c (ownR ho) hmi hb
   ·rw[e1]at hb
    rcases bnd b hb with h|⟨j,id,c',h1,h2⟩|h
    ·rw[e2]at ho;exact gA.2.off i b c ho hmi h
    ·exact blkNe' hi hg ho hmi h1 h2
    ·have:=hiB.Hg ho hmi;omega
 ·intro i T t xs b c hio hf hmi
  rcases inOut i with⟨k,hk⟩|hg|⟨hi,hg⟩
  ·obtain⟨o1,ho1⟩:=has1 hk
   rw[getIn hk ho1]at hio
   have:o1 = .arr T t xs:=by
    cases o1<;>simp only[DS,Aep]at hio<;>first|exact hio|cases hio
   rw[hunf hk ho1 this]at hf;cases hf
  ·rw[getGv hg]at hio;cases hio
  ·rw[getOut hi hg]at hio
   rw[mOut (x:=.o i) hi]at hmi
   exact hBR b (hiB.froz i T t xs b c hio hf hmi)
 ·intro b hb
  exact hi1.lt b (FR3 b hb)
 ·rw[UG,AAA]
  exact hiB.len
end
end Go.Pev
end
section
namespace Go.Pev
open Go.RowKit
section
variable {P:Program} {w:World} {F:Nat→Prop} {m:Mp} {st:St} {a:Act}
def AGN(tmps:Array Value):ResultVar→Sem Value
 |.tmp t=>pure (tmps.getD t undef)
 |.cell x t=>do loadVar t (← asAddr (tmps.getD x undef))
theorem AJ2(hs:SI w F m st a){rv:ResultVar}{v:AV}(h:P5 P st rv=some v):
  ∃ u,(AGN a.tmps rv).run P w = .ok u w∧Rep w F m st.heap v u:=by
 cases rv with
 |tmp t=>
  simp only[P5,Aep]at h;subst h
  exact⟨_,rfl,hs.tmps t⟩
 |cell x T=>
  simp only[P5]at h
  split at h
  ·rename_i id off n ag h1 h2 h3
   split at h
   ·rename_i cs ho
    have hr:=hs.tmps x
    have e1:st.tmps.getD x .junk = .ptr id off:=h1
    rw[e1]at hr
    unfold Rep Gb at hr
    rw[ho]at hr
    obtain⟨b,c,e2,e3⟩:=hr
    obtain⟨b',c',vs,T',e4,e5,e6,e7⟩:=hs.heap.obj id _ ho
    rw[e2]at e4;cases e4
    obtain⟨u,k1,k2⟩:=Ck (P:=P) h2 h3 h (EX e6 off) (ad:=⟨b,off,none⟩) (fun u hu=>e7 u (AgO hu)) (fun j u hu=>by
     rw[Afo]at hu
     rw[B8]
     simp only[World.cell?,e5]
     simpa using hu)
    refine⟨u,?_,k2⟩
    simp[AGN,e3,asAddr,k1]
   ·cases h
  ·cases h
theorem AGM(hs:SI w F m st a):∀ {rvs:List ResultVar} {vs:List AV},DF P st rvs=some vs →
  ∃ us,(rvs.mapM (AGN a.tmps)).run P w = .ok us w∧Aa w F m st.heap vs us:=by
 intro rvs
 induction rvs with
 |nil=>
  intro vs h
  simp only[DF,Aep]at h;subst h
  exact⟨[],by simp[List.mapM_nil],Mr⟩
 |cons rv rvs ih=>
  intro vs h
  simp only[DF]at h
  split at h
  ·cases h
  ·rename_i v hv
   split at h
   ·cases h
   ·rename_i vs' hvs
    simp only[Aep]at h;subst h
    obtain⟨u,h1,h2⟩:=AJ2 hs hv
    obtain⟨us,h3,h4⟩:=ih hvs
    refine⟨u::us,?_,by unfold Aa;exact⟨u,us,rfl,h2,h4⟩⟩
    rw[List.mapM_cons]
    simp only[Sem.run_bind]
    rw[h1]
    simp only[Result.andThen_ok]
    rw[h3]
    simp
def AQZ(us:List Value):Value:=if h:us.toArray.size=1 then us.toArray[0]else .tuple us.toArray
theorem Yj(hs:SI w F m st a){fn:Func}{vs:List AV}(h:DF P st fn.results.toList=some vs):
  ∃ us,(results fn a.tmps).run P w = .ok (AQZ us) w∧Aa w F m st.heap vs us:=by
 obtain⟨us,h1,h2⟩:=AGM hs h
 refine⟨us,?_,h2⟩
 have e:results fn a.tmps=(do
   let vs ← fn.results.mapM (AGN a.tmps)
   pure (if h:vs.size=1 then vs[0]else .tuple vs)):=by
  unfold results
  congr 2
 rw[e,Ahf]
 simp only[Sem.run_bind,map_eq_pure_bind]
 rw[h1]
 rfl
theorem ADY{H:List Ob}{vs:List AV}{us:List Value}(h:Aa w F m H vs us):Rep w F m H (single vs) (AQZ us):=by
 have hl:=Ar h
 unfold AQZ
 match vs,us,hl with
 |[],[],_=>
  simp only[single]
  unfold Rep
  exact⟨_,rfl,h⟩
 |[v],[u],_=>
  simp only[single]
  unfold Aa at h
  obtain⟨_,_,e,h1,_⟩:=h
  cases e
  exact h1
 |v::v'::vs,u::u'::us,_=>
  simp only[single]
  unfold Rep
  exact⟨_,rfl,h⟩
def Il:List RS→List Value→List Value
 |.one::r,u::us=>u::Il r us
 |.agg _::r,u::us=>u.cells.toList++Il r us
 |_,_=>[]
theorem AOv{H:List Ob}:∀ {rs:List RS} {vs:List AV} {us:List Value} {tm:List AV},Fy rs vs=some tm→Aa w F m H vs us →
  Aa w F m H tm (Il rs us)∧(Il rs us).length=cellsOf rs∧∀ (w2:World) (F2:Nat→Prop) (m2:Mp) (H2:List Ob) (ws:List AV),Aa w2 F2 m2 H2 ws (Il rs us)→Aa w2 F2 m2 H2 (Fu rs ws) us:=by
 intro rs
 induction rs with
 |nil=>
  intro vs us tm h hr
  cases vs with
  |nil=>
   simp only[Fy,Aep]at h;subst h
   unfold Aa at hr;subst hr
   exact⟨Mr,rfl,fun _ _ _ _ _ _=>Mr⟩
  |cons v vs=>simp[Fy]at h
 |cons r rs ih=>
  intro vs us tm h hr
  cases vs with
  |nil=>cases r<;>simp[Fy]at h
  |cons v vs=>
   unfold Aa at hr
   obtain⟨u,us',rfl,hv,hr⟩:=hr
   cases r with
   |one=>
    simp only[Fy]at h
    split at h
    ·rename_i l hl
     simp only[Aep]at h;subst h
     obtain⟨h1,h2,h3⟩:=ih hl hr
     refine⟨by simp only[Il];unfold Aa;exact⟨u,_,rfl,hv,h1⟩,by simp[Il,cellsOf,RS.cells,h2];omega,fun w2 F2 m2 H2 ws hw => ?_⟩
     simp only[Il]at hw
     cases ws with
     |nil=>unfold Aa at hw;cases hw
     |cons x ws=>
      unfold Aa at hw
      obtain⟨y,ys,e,q1,q2⟩:=hw
      cases e
      simp only[Fu,Ahi,Agr]
      unfold Aa
      exact⟨u,us',rfl,q1,h3 w2 F2 m2 H2 ws q2⟩
    ·cases h
   |agg n=>
    simp only[Fy]at h
    split at h
    ·rename_i cs hag hcs
     split at h
     ·rename_i hn
      simp only[Aer]at hn
      split at h
      ·rename_i l hl
       simp only[Aep]at h;subst h
       obtain⟨h1,h2,h3⟩:=ih hl hr
       have hc:=cells?_ok hcs hv
       have ho:=cells?_one hcs hv
       have hcl:=Ar hc
       have hu:u = .agg u.cells:=by
        cases v<;>simp only[Qs]at hag<;>try (cases hag;done)
        ·rename_i t d
         unfold Rep Bf at hv
         rw[Ae6 hag]at hv
         obtain⟨x,rfl,_⟩:=hv
         rfl
        ·unfold Rep at hv
         obtain⟨x,rfl,_⟩:=hv
         rfl
       refine⟨by simp only[Il];exact GP hc h1,by simp[Il,cellsOf,RS.cells,h2]at hcl ⊢;omega,fun w2 F2 m2 H2 ws hw => ?_⟩
       simp only[Il]at hw
       have ht:=NZ hw n
       have hd:=EX hw n
       have hn':u.cells.toList.length=n:=by rw[hcl,hn]
       rw[Ahh hn']at ht
       rw[List.drop_left' hn']at hd
       simp only[Fu]
       unfold Aa
       refine⟨u,us',rfl,?_,h3 w2 F2 m2 H2 _ hd⟩
       unfold Rep
       exact⟨u.cells,hu,ht,ho⟩
      ·cases h
     ·cases h
    ·cases h
end
end Go.Pev
end
section
namespace Go.Pev
open Go.RowKit
theorem Mn {P : Program} {g : FuncId} {fn : Func} (hf : P.funcs[g]? = some fn) (hb : fn.body.isSome = true) (hn : (fn.name == "runtime.NumGoroutine") = false) : RT P g := by
 intro args w
 obtain⟨c,hc⟩:=AgE.1 hb
 have hn' : ¬ fn.name = "runtime.NumGoroutine" := by simpa using hn
 simp[callFunc,hf,hn',hc]
theorem AIU{P:Program}{np:Nat}{h:Hints}:∀ (c:Code) (n:Nat),loops c=0→DN P np h c n:=by
 intro c
 induction c with
 |seq a b iha ihb=>intro n hl;simp only[loops]at hl;exact⟨iha n (by omega),ihb _ (by omega)⟩
 |cond c a b iha ihb=>intro n hl;simp only[loops]at hl;exact⟨iha n (by omega),ihb _ (by omega)⟩
 |block id c ih=>intro n hl;simp only[loops]at hl;exact ih n hl
 |loop c ih=>intro n hl;simp only[loops]at hl;omega
 |_=>intro n _;trivial
section
variable {P:Program} {E:Env} {h:Hints} {g:FuncId} {fn:Func} {c:Code}
theorem AR8{w:World}{F:Nat→Prop}{m:Mp}{H:List Ob}{args:List AV}{vals:List Value}(hr:Aa w F m H args vals)(n:Nat)(t:Nat):
  Rep w F m H ((args++List.replicate n AV.junk).getD t .junk) ((vals.toArray++Array.replicate n undef).getD t undef):=by
 have hl:=Ar hr
 have e:(vals.toArray++Array.replicate n undef).getD t undef=(vals++List.replicate n undef).getD t undef:=by
  rw[Afc,Aes,← Ag4]
  simp
 rw[e,Aes,Aes]
 rcases Afa t args.length with ht|ht
 ·rw[AfM ht,AfM (by omega)]
  obtain⟨v,hv,hrv⟩:=CN hr (i:=t) (c:=args[t]) (Aev ht)
  rw[hv,Aev ht]
  exact hrv
 ·rw[AfR ht,AhE]
  split<;>(unfold Rep;trivial)
theorem ALR(hE:∀ g,AR P g (E.spec g))(hL:Iv E)(hf:P.funcs[g]? = some fn)(hb:fn.body=some c)(hc:RT P g)(hl:loops c=0):
  AR P g (DC P E h fn):=by
 intro R args H fz slot k r hk
 simp only[DC,hb]at hk
 split at hk
 ·cases hk
 ·rename_i hle
  simp only[Aer]at hle
  obtain⟨e,st',h1,h2,h3⟩:=KS hE hL (np:=H.length) c 0 (AIU c 0 hl) R _ _ r hk
  have key:∃ vs,DF P st' fn.results.toList=some vs∧k (single vs) { heap:=some (st'.heap,st'.frz) }=some r∧(e = .normal∨e = .ret):=by
   cases e with
   |normal=>
    simp only at h1
    split at h1
    ·rename_i vs hvs;exact⟨vs,hvs,h1,.inl rfl⟩
    ·cases h1
   |ret=>
    simp only at h1
    split at h1
    ·rename_i vs hvs;exact⟨vs,hvs,h1,.inr rfl⟩
    ·cases h1
   |_=>simp at h1
  obtain⟨vs,hvs,h4,he⟩:=key
  refine⟨_,_,h4,fun R' k' => ?_,hc,fun w F m vals hi hr => ?_⟩
  ·simp only[DC,hb,hle,Ae2]
   refine(h2 R' _).trans ?_
   rcases he with rfl|rfl<;>simp only[hvs]
  ·have hlv:=Ar hr
   refine calls_of_wp hf hb ?_
   have hsi:SI w F m { tmps:=args++List.replicate (fn.ntmps-args.length) .junk,heap:=H,frz:=fz } { tmps:=vals.toArray++Array.replicate (fn.ntmps-vals.toArray.size) undef,defers:=[] }:=by
    refine⟨fun t => ?_,?_,hi,rfl⟩
    ·have:=AR8 hr (fn.ntmps-args.length) t
     simp only[AgJ,hlv]
     exact this
    ·simp[hlv]
   refine h3 w F m _ _ hsi fun a' w' F' m' s1 x1 => ?_
   obtain⟨us,r1,r2⟩:=Yj s1 hvs
   have hgo:Ap w F m H fz w' F' m' st'.heap st'.frz:=⟨⟨x1.os,x1.tape,x1.output,x1.size,x1.keep,x1.sub,x1.bnd,x1.own,fun i o ho hf=>x1.comp i o (Al ho) ho hf⟩,s1.heap⟩
   have hpost:a'.defers=[]∧∃ v,(results fn a'.tmps).run P w' = .ok v w'∧(fun(en:Ending) (w':World)=>∃ u,en = .returned u∧∃ F' m',Ap w F m H fz w' F' m' (CP { heap:=some (st'.heap,st'.frz) } H) (Fg { heap:=some (st'.heap,st'.frz) } fz)∧Rep w' F' m' (CP { heap:=some (st'.heap,st'.frz) } H) (single vs) u) (.returned v) w':=
    ⟨s1.defers,_,r1,_,rfl,F',m',hgo,ADY r2⟩
   rcases he with rfl|rfl<;>exact hpost
theorem AEi{w:World}{F:Nat→Prop}{m:Mp}{H:List Ob}{fz:List Bool}{bs:List Bnd}{m':Mp}{E:St}{val:Nat→Value}(h:Inv w F m H fz bs m' E val){j:Nat}{o:Ob}(hj:E.heap[j]? = some o):alive o:=by
 have hlt:=Al hj
 rw[h.lenH]at hlt
 have hx:bs[j]? = some bs[j]:=Aev hlt
 have hb:=h.ob j _ hx
 cases hc:bs[j]with
 |none=>rw[hc]at hb;simp only[BM]at hb;obtain⟨_,⟨T,e,e2,_⟩|⟨T,e,e2⟩⟩:=hb<;>(rw[hj]at e2;cases e2;trivial)
 |whole id=>
  rw[hc]at hb;simp only[BM]at hb
  rcases hb.2 with⟨T,t,xs,_,a2,_⟩|⟨k,v,es,_,a2⟩|⟨cs,cs',b,c,vs,T,_,a2,_⟩|⟨_,_,_,_,_,a2,_⟩|⟨_,_,_,_,_,_,a2,_⟩<;>(rw[hj]at a2;cases a2;trivial)
 |cut id=>rw[hc]at hb;simp only[BM]at hb;obtain⟨T,t,xs,n,_,_,a3,_⟩:=hb;rw[hj]at a3;cases a3;trivial
theorem EK{st:St}(h:st.heap.all BS=true)(v:AV)(l:Loc):(place st v l).heap.all BS=true:=by
 cases l with
 |cell j c=>
  simp only[place]
  split
  ·rw[AfE]at h ⊢
   intro o ho
   rcases List.mem_or_eq_of_mem_set ho with h1|rfl
   ·exact h o h1
   ·rfl
  ·exact h
 |_=>exact h
theorem Jk{st:St}(h:st.heap.all BS=true){o:Ob}(ho:BS o=true):(Da st o).heap.all BS=true:=by simp[Da,h,ho]
theorem AUy:∀ (its:AE) (d:B7 (leaves its)) (st:St),Hf its=true→st.heap.all BS=true→(enc its d st).heap.all BS=true:=by
 intro its
 induction its with
 |nil=>intro d st _ h;exact h
 |cons p r ih=>
  intro d st hn h
  obtain⟨l,c⟩:=p
  cases c with
  |rows T e t=>simp[Hf]at hn
  |mrows j e t=>simp[Hf]at hn
  |aptr T e n=>exact ih _ _ hn (EK (Jk h rfl) _ _)
  |own T e=>exact ih _ _ hn (EK (Jk h rfl) _ _)
  |box n=>exact ih _ _ hn (EK (Jk h rfl) _ _)
  |map k v=>exact ih _ _ hn (EK (Jk h rfl) _ _)
  |prs T j=>exact ih _ _ hn (EK (Jk h rfl) _ _)
  |_=>exact ih _ _ hn (EK h _ _)
theorem NH{its:AE}{d:B7 (leaves its)}{n:Nat}(hn:Hf its=true){j:Nat}{o:Ob}(h:(encode n its d).heap[j]? = some o):BS o=true:=
 AfE.1 (AUy its d (blank n) hn rfl) o (Ae5 h)
theorem AJ4{its:AE}{d:B7 (leaves its)}{n:Nat}(hn:Hf its=true){fz:List Bool}{x:Ix}(h:owned (encode n its d).heap fz x):x = .o x.id:=by
 cases x with
 |o i=>rfl
 |r i k=>
  obtain⟨o,ho,_⟩:=C0 h
  exact absurd h (EP ho (NH hn ho))
theorem AMN{np:Nat}{outs:AE}{rs:List RS}{st:St}{y:B7 (leaves outs)}(h:finish np P fn outs rs st=some y):
  ∃ vs tm bs fr,DF P st fn.results.toList=some vs∧Fy rs vs=some tm∧dec tm st.heap outs st.frz []=some (y,bs,fr)∧(pins np 0 bs&&(st.heap.take np).all BS)=true:=by
 unfold finish at h
 split at h
 ·rename_i vs hvs
  split at h
  ·rename_i tm htm
   split at h
   ·rename_i y' bs fr hd
    split at h
    ·rename_i hp
     simp only[Aep]at h;subst h
     exact⟨vs,tm,bs,fr,hvs,htm,hd,hp⟩
    ·cases h
   ·cases h
  ·cases h
 ·cases h
theorem AVX(hE:∀ g,AR P g (E.spec g))(hL:Iv E)(hf:P.funcs[g]? = some fn)(hb:fn.body=some c)(hc:RT P g)
  {np na:Nat} (hna:na≤fn.ntmps) {its outs:AE} {rs:List RS} {f:B7 (leaves its)→Option (B7 (leaves outs))} (hfun:∀ x,f x=AQ np P E h fn its outs rs x) (hl:DN P np h c 0) :
  AR P g (AF np na its outs rs f):=by
 intro R args H fz slot k r hk
 simp only[AF]at hk
 split at hk
 ·cases hk
 ·rename_i x bs fr hdec
  split at hk
  ·cases hk
  ·rename_i hchk
   simp only[Aet,Aer]at hchk
   obtain⟨⟨⟨huncut,hbl⟩,hal⟩,hri,hro⟩:=hchk
   split at hk
   ·cases hk
   ·rename_i y hy
    generalize hids:Ch (C1 outs) (bs.take np) slot=ids at hk
    generalize hgv:given (bs.drop np)=gv at hk
    have key:∃ e,k (single (Fu rs (KP ids (encode (cellsOf rs) outs y).tmps))) e=some r∧e.heap=none∧e.objs=gv.map (fun i=>(i,.dead))++ids.zip ((encode (cellsOf rs) outs y).heap.map (DS ids)) ∧
      (∀ R' (k':AV→Eff→Option R'),JV R' gv (bs.take np) fr rs (encode (cellsOf rs) outs y) ids H fz k'=k' (single (Fu rs (KP ids (encode (cellsOf rs) outs y).tmps))) e) ∧
      E4 H (Ag e.frz fz) ids (bs.take np)=true∧I9 ids=true ∧
      ((e.frz=[]∧Jz (encode (cellsOf rs) outs y).tmps=true∧(encode (cellsOf rs) outs y).heap.all O5=true)∨e.frz=fr):=by
     unfold JV at hk
     split at hk
     ·rename_i hflat
      split at hk
      ·rename_i hok
       simp only[Aet]at hok hflat
       refine⟨_,hk,rfl,rfl,fun R' k'=>by simp only[JV,hflat.1,hflat.2,hok.1,hok.2,AgB],hok.1,hok.2,.inl ⟨rfl,hflat.1,hflat.2⟩⟩
      ·cases hk
     ·rename_i hflat
      split at hk
      ·rename_i hok
       simp only[Aet]at hok
       refine⟨_,hk,rfl,rfl,fun R' k'=>by simp only[JV,hflat,hok.1,hok.2,AgB],hok.1,hok.2,.inr rfl⟩
      ·cases hk
    obtain⟨e,h4,he1,he2,h5,hok,hnd,hfl⟩:=key
    refine⟨_,e,h4,fun R' k' => ?_,hc,fun w F m vals hi hr => ?_⟩
    ·simp only[AF,hdec,huncut,hbl,hal,hri,hro,hy,Ae2,AgB,hids,hgv]
     exact h5 R' k'
    ·have hlv:=Ar hr
     rw[hfun x]at hy
     unfold AQ at hy
     rw[hb]at hy
     simp only at hy
     obtain⟨ex,st',g1,_,g3⟩:=KS hE hL c 0 hl _ _ _ _ hy
     have hfin:finish np P fn outs rs st'=some y∧(ex = .normal∨ex = .ret):=by
      cases ex with
      |normal=>exact⟨g1,.inl rfl⟩
      |ret=>exact⟨g1,.inr rfl⟩
      |_=>simp at g1
     obtain⟨hfin,hex⟩:=hfin
     obtain⟨vs,tm,bs',fr',hvs,htm,hd',hp⟩:=AMN hfin
     rw[Aet]at hp
     replace hp:=hp.1
     refine calls_of_wp hf hb ?_
     obtain⟨F2,m2,gA,invA,_⟩:=ARK (val:=fun t=>(vals.toArray++Array.replicate (fn.ntmps-vals.toArray.size) undef).getD t undef) its fz [] F (fun _=>none) (blank fn.ntmps) x bs fr hi
      (fun t v ht=>by
       have:=AR8 hr (fn.ntmps-vals.toArray.size) t
       rw[Aes,AfM (FK ht),ht]at this
       exact this) (Inv.blank fn.ntmps) hdec
     have hsi:SI w F2 m2 (encode fn.ntmps its x) { tmps:=vals.toArray++Array.replicate (fn.ntmps-vals.toArray.size) undef,defers:=[] }:=by
      refine⟨invA.tmps,?_,invA.hi gA.2,rfl⟩
      rw[Mc]
      simp[hlv]
      omega
     refine g3 w F2 m2 _ _ hsi fun a' w' F' m' s1 x1 => ?_
     obtain⟨us,r1,r2⟩:=Yj s1 hvs
     obtain⟨q1,q2,q3⟩:=AOv htm r2
     obtain⟨F3,m3,gC,invC,_⟩:=ARK (val:=fun t=>(Il rs us).getD t undef) outs st'.frz [] F' (fun _=>none) (blank (cellsOf rs)) y bs' fr' s1.heap
      (fun t v ht=>by
       obtain⟨u,hu,hru⟩:=CN q1 ht
       rw[Aes,hu]
       exact hru) (Inv.blank (cellsOf rs)) hd'
     have srcA:∀ {j:Ix} {b c},owned (encode fn.ntmps its x).heap (encode fn.ntmps its x).frz j→m2 j=some (b,c)→∃ id:Nat,bs[j.id]? = some (.whole id)∧owned H (Ag fr fz) id∧m id=some (b,c):=by
      intro j b c ho hm
      have hj:=AJ4 hri ho
      obtain⟨y,id,k1,k2,k3,k4⟩:=invA.src ho hm
      rw[hj]at k3 k4
      rw[AfE]at huncut
      have:=huncut y (Ae5 k1)
      cases y with
      |none=>simp[Bnd.id?]at k2
      |whole i=>simp only[Bnd.id?,Aep]at k2;subst k2;exact⟨_,k1,k3,k4⟩
      |cut i=>simp[Bnd.AXB]at this
     have hinj:∀ (i j id:Nat),bs[i]? = some (.whole id)→bs[j]? = some (.whole id)→i=j:=fun i j id h1 h2=>invA.inj i j _ _ id h1 h2 rfl rfl
     have start:∀ (j id:Nat),bs[j]? = some (.whole id)→m2 j=m id∧∃ o o0,H[id]? = some o∧alive o∧(encode fn.ntmps its x).heap[j]? = some o0∧sameShape o o0∧alive o0∧owned H (Ag fr fz) id:=by
      intro j id hj
      have hA:=invA.ob j _ hj
      simp only[BM]at hA
      obtain⟨eA,hA⟩:=hA
      refine⟨eA,?_⟩
      rcases hA with⟨T,t,xs,a1,a2,a3⟩|⟨k,v,es,a1,a2⟩|⟨cs,cs',b,cc,vs,T,a1,a2,_⟩|⟨_,_,_,_,a1,a2,_⟩|⟨_,_,_,_,_,_,a2,_⟩
      ·exact⟨_,_,a1,trivial,a2,⟨rfl,rfl⟩,trivial,Zn a1 trivial a3⟩
      ·exact⟨_,_,a1,trivial,a2,trivial,trivial,by simp only[owned,Bq];rw[a1];trivial⟩
      rotate_left
      ·exact⟨_,_,a1,trivial,a2,rfl,trivial,by simp only[owned,Bq];rw[a1];trivial⟩
      ·exact absurd (NH hri a2) (by simp[BS])
      ·exact⟨_,_,a1,trivial,a2,trivial,trivial,by simp only[owned,Bq];rw[a1];trivial⟩
     have hpin:∀ (j id:Nat),(bs.take np)[j]? = some (.whole id)→∃ o o1,H[id]? = some o∧alive o∧(encode (cellsOf rs) outs y).heap[j]? = some o1∧sameShape o o1∧m3 j=m id:=by
      intro j id hj0
      rw[Afd]at hj0
      split at hj0
      case isFalse=>cases hj0
      rename_i hjn
      obtain⟨eA,o,o0,s1,s2,s3,s4,s5,s6⟩:=start j id hj0
      have hC:=invC.ob j _ (by have:=AKB _ 0 bs' hp j hjn;rw[Afq]at this;exact this)
      simp only[BM]at hC
      obtain⟨eC,hC⟩:=hC
      have mid:=x1.comp j o0 hjn s3 (AM9 s5).1
      have fin:∃ o2 o1,st'.heap[j]? = some o2∧alive o2∧(encode (cellsOf rs) outs y).heap[j]? = some o1∧sameShape o2 o1:=by
       rcases hC with⟨T,t,xs,a1,a2,a3⟩|⟨k,v,es,a1,a2⟩|⟨cs,cs',b,cc,vs,T,a1,a2,_⟩|⟨_,_,_,_,a1,a2,_⟩|⟨_,_,_,_,_,_,a2,_⟩
       ·exact⟨_,_,a1,trivial,a2,⟨rfl,rfl⟩⟩
       ·exact⟨_,_,a1,trivial,a2,trivial⟩
       rotate_left
       ·exact⟨_,_,a1,trivial,a2,rfl⟩
       ·exact absurd (NH hro a2) (by simp[BS])
       ·exact⟨_,_,a1,trivial,a2,trivial⟩
      obtain⟨o2,o1,t1,t2,t3,t4⟩:=fin
      rcases mid with md|⟨_,o2',md1,md2,md3,_⟩
      ·rw[t1]at md;cases md;exact t2.elim
      ·rw[t1]at md1;cases md1
       exact⟨o,o1,s1,s2,t3,(s4.trans md2).trans t4,by rw[eC,md3,eA]⟩
     have hiC1:=invC.hi gC.2
     have hblk:∀ j b cc:Nat,owned (encode (cellsOf rs) outs y).heap (encode (cellsOf rs) outs y).frz j→m3 j=some (b,cc)→(∃ id c':Nat,(bs.take np)[j]? = some (.whole id)∧m id=some (b,c'))∨(∃ k id c':Nat,np≤k∧bs[k]? = some (.whole id)∧m id=some (b,c'))∨w.heap.size≤b:=by
      intro j b cc ho hm
      obtain⟨_,i',k1,k2,k3,k4⟩:=invC.src ho hm
      rcases x1.own i' b cc (Cz k3) k4 with⟨i,c0,l1,l2⟩|h
      ·obtain⟨id,n1,n2,n3⟩:=srcA l1 l2
       have hio:=AJ4 hri l1
       generalize i.id=i0 at n1 hio
       subst hio
       rcases Afa i0 np with hin|hin
       ·left
        have n1':(bs.take np)[i0]? = some (.whole id):=by rw[Afd,Ae6 hin];exact n1
        obtain⟨o,o1,p1,p2,p3,p4,p5⟩:=hpin i0 id n1'
        have hoi:owned (encode (cellsOf rs) outs y).heap (encode (cellsOf rs) outs y).frz i0:=Zn p3 (AEi invC p3) (invC.frz i0)
        by_cases hij:j=i0
        ·subst hij;exact⟨id,c0,n1',n3⟩
        ·exact absurd rfl (hiC1.sep j i0 b cc b c0 ho hoi (AcI hij) hm (by rw[p5];exact n3))
       ·exact .inr (.inl ⟨i0,id,c0,hin,n1,n3⟩)
      ·exact .inr (.inr h)
     have hkeep:∀ b,b<w.heap.size→(∀ (j id:Nat) (c:Nat),bs[j]? = some (.whole id)→m id≠some (b,c))→w'.heap[b]? = w.heap[b]? := by
      intro b hb hn
      refine x1.keep b hb fun i cc ho hm => ?_
      obtain⟨id,n1,_,n3⟩:=srcA ho hm
      exact hn i.id id cc n1 n3
     have hbnd:∀ b,F3 b→F2 b∨(∃ (j id c:Nat),bs[j]? = some (.whole id)∧m id=some (b,c))∨w.heap.size≤b:=by
      have hx:∀ {i:Ix} {b cc:Nat},owned (encode fn.ntmps its x).heap (encode fn.ntmps its x).frz i→m2 i=some (b,cc)→∃ (j id c:Nat),bs[j]? = some (.whole id)∧m id=some (b,c):=by
       intro i b cc ho hm
       obtain⟨id,n1,_,n3⟩:=srcA ho hm
       exact⟨i.id,id,cc,n1,n3⟩
      intro b hb
      rcases gC.1.bnd b hb with h|⟨i,cc,ho,hm⟩|h
      ·rcases x1.bnd b h with h|⟨i,cc,ho,hm⟩|h
       ·exact .inl h
       ·exact .inr (.inl (hx ho hm))
       ·exact .inr (.inr h)
      ·rcases x1.own i b cc ho hm with⟨i',c0,ho,hm⟩|h
       ·exact .inr (.inl (hx ho hm))
       ·exact .inr (.inr h)
      ·exact .inr (.inr (Afv x1.size h))
     have hidl:ids.length=(encode (cellsOf rs) outs y).heap.length:=by
      rw[← hids,AWB];unfold encode;rw[AaU];simp[blank]
     obtain⟨FR,hFR,hRR⟩:∃ FR,((FR=F∧Ag e.frz fz=fz∧(encode (cellsOf rs) outs y).heap.all O5=true)∨(FR=F3∧Ag e.frz fz=Ag fr fz))∧Aa w' FR m3 (encode (cellsOf rs) outs y).heap (encode (cellsOf rs) outs y).tmps (Il rs us):=by
      have hrt:Aa w' F3 m3 (encode (cellsOf rs) outs y).heap (encode (cellsOf rs) outs y).tmps (Il rs us):=by
       refine DM (by rw[Mc,q2]) fun i a u ha hu => ?_
       have:=invC.tmps i
       rw[Aes]at this
       have ha':(enc outs y (blank (cellsOf rs))).tmps[i]? = some a:=ha
       rw[ha',Aes,hu]at this
       exact this
      rcases hfl with⟨f1,f2,f3⟩|f1
      ·exact⟨F,.inl ⟨rfl,by rw[f1];rfl,f3⟩,Aa.flat _ f2 hrt⟩
      ·exact⟨F3,.inr ⟨rfl,by rw[f1]⟩,hrt⟩
     obtain⟨hgo,hmv⟩:=AWt (ids:=ids) (np:=np) hi gA (fun j id hj=>(start j id hj).2.elim fun _ h=>h.elim fun _ h=>h.2.2.2.2.2) hinj hpin hblk x1.os x1.tape x1.output x1.size hkeep (fun b h=>gC.1.sub b (x1.sub b h)) hbnd hiC1 (fun j o hj=>AEi invC hj) (fun j o hj=>NH hro hj) invC.frz hidl hok hnd hFR
     rw[hgv]at hgo hmv
     have hH:CP e H=A7 (ids.zip ((encode (cellsOf rs) outs y).heap.map (DS ids))) (C3 gv H):=by rw[CG he1,he2,UH];rfl
     have hZ:Fg e fz=Ag e.frz fz:=CS he1 fz
     have hpost:a'.defers=[]∧∃ v,(results fn a'.tmps).run P w' = .ok v w'∧(fun(en:Ending) (w':World)=>∃ u,en = .returned u∧∃ F' m',Ap w F m H fz w' F' m' (CP e H) (Fg e fz)∧Rep w' F' m' (CP e H) (single (Fu rs (KP ids (encode (cellsOf rs) outs y).tmps))) u) (.returned v) w':=by
      refine⟨s1.defers,_,r1,_,rfl,FR,mOf ids m3 m,?_,?_⟩
      ·rw[hH,hZ];exact hgo
      ·rw[hH]
       exact ADY (q3 _ _ _ _ _ (Aa.ren hmv _ hRR))
     rcases hex with rfl|rfl<;>exact hpost
end
end Go.Pev
end
section
namespace Go.Pev
open Go.RowKit
def KW:Code→Nat→Option Code
 |.seq a b,n=>match KW a n with
  |some c=>some c
  |none=>KW b (n-loops a)
 |.cond _ a b,n=>match KW a n with
  |some c=>some c
  |none=>KW b (n-loops a)
 |.block _ c,n=>KW c n
 |.loop c,n=>match n with
  |0=>some c
  |n+1=>KW c n
 |_,_=>none
def AT(f:Func):Code:=match f.body with
 |some c=>c
 |none=>.skip
def AB(f:Func)(n:Nat):Code:=(KW (AT f) n).getD .skip
def AD:Code→Nat→List (Nat×Code)
 |.seq a b,n=>AD a n++AD b (n+loops a)
 |.cond _ a b,n=>AD a n++AD b (n+loops a)
 |.block _ c,n=>AD c n
 |.loop c,n=>[(n,c)]
 |_,_=>[]
def AEz(P:Program)(np:Nat)(h:Hints):List (Nat×Code)→Prop
 |[]=>True
 |p::l=>Ad P np (.loop p.2) (h.loop p.1)∧AEz P np h l
theorem AEy{P:Program}{np:Nat}{h:Hints}:∀ {a b:List (Nat×Code)},AEz P np h (a++b)→AEz P np h a∧AEz P np h b:=by
 intro a
 induction a with
 |nil=>exact fun h=>⟨trivial,h⟩
 |cons p a ih=>intro b h;exact⟨⟨h.1,(ih h.2).1⟩,(ih h.2).2⟩
theorem ANF{P:Program}{np:Nat}{h:Hints}:∀ (c:Code) (n:Nat),AEz P np h (AD c n)→DN P np h c n:=by
 intro c
 induction c with
 |seq a b iha ihb=>intro n hl;have:=AEy hl;exact⟨iha n this.1,ihb _ this.2⟩
 |cond c a b iha ihb=>intro n hl;have:=AEy hl;exact⟨iha n this.1,ihb _ this.2⟩
 |block id c ih=>intro n hl;exact ih n hl
 |loop c ih=>intro n hl;exact hl.1
 |_=>intro n _;trivial
theorem AA{P:Program}{np:Nat}{h:Hints}{c:Code}{n:Nat}{l:List (Nat×Code)}(e:AD c n=l)(a:AEz P np h l):DN P np h c n:=ANF c n (by rw[e];exact a)
def Ab(P:Program)(E:Env):Prop:=(∀ g,AR P g (E.spec g))∧Iv E
def Env.none:Env:={ spec:=fun _ _ _ _ _ _ _=>Option.none,loc:=fun _=>false,loc2:=fun _=>true }
theorem Env.AGz{P:Program}:Ab P Env.none:=⟨fun g R args H fz slot k r h=>by simp[Env.none]at h,fun g h=>by simp[Env.none]at h,fun g _ R args H H' fz fz' slot k S _ _ _=>rfl⟩
def Env.ext(E:Env)(g:FuncId)(loc loc2:Bool)(s:Spec):Env where
 spec x:=match Nat.beq x g with
  |true=>s
  |false=>E.spec x
 loc x:=match Nat.beq x g with
  |true=>loc
  |false=>E.loc x
 loc2 x:=match Nat.beq x g with
  |true=>loc2
  |false=>E.loc2 x
theorem Env.Ak{P:Program}{E:Env}{g:FuncId}{loc loc2:Bool}{s:Spec}(h:Ab P E)(hs:AR P g s)(hl:loc=true→HC s)(hl2:loc2=true→Nb s):Ab P (E.ext g loc loc2 s):=by
 refine⟨?_,?_,?_⟩
 ·intro x
  simp only[Env.ext]
  cases hx:Nat.beq x g with
  |true=>have:=Af1 hx;subst this;exact hs
  |false=>exact h.1 x
 ·intro x hx
  simp only[Env.ext]at hx ⊢
  cases hb:Nat.beq x g with
  |true=>rw[hb]at hx;exact hl hx
  |false=>rw[hb]at hx;exact h.2.1 x hx
 ·intro x hx
  simp only[Env.ext]at hx ⊢
  cases hb:Nat.beq x g with
  |true=>rw[hb]at hx;exact hl2 hx
  |false=>rw[hb]at hx;exact h.2.2 x hx
section
variable {P:Program} {E:Env} {h:Hints} {g:FuncId} {fn:Func}
theorem AIJ(hb:fn.body.isSome=true):fn.body=some (AT fn):=by
 unfold AT
 cases h:fn.body with
 |none=>rw[h]at hb;cases hb
 |some c=>rfl
theorem AI (hE : Ab P E) (hf : P.funcs[g]? = some fn) (hb : fn.body.isSome = true) (hn : (fn.name == "runtime.NumGoroutine") = false)
  {np na:Nat} (hna:(Nat.ble na fn.ntmps)=true) {its outs:AE} {rs:List RS} {f:B7 (leaves its)→Option (B7 (leaves outs))} (hfun:∀ x,f x=AQ np P E h fn its outs rs x) (hl:DN P np h (AT fn) 0) :
  AR P g (AF np na its outs rs f):=
 AVX hE.1 hE.2 hf (AIJ hb) (Mn hf hb hn) (AhS hna) hfun hl
theorem Aar (hE : Ab P E) (hf : P.funcs[g]? = some fn) (hb : fn.body.isSome = true) (hn : (fn.name == "runtime.NumGoroutine") = false)
  {np na:Nat} (hna:(Nat.ble na fn.ntmps)=true) {its:AE} {os:A0} {rs:List RS} {f:B7 (leaves its)→Option (Np os)} (hfun:∀ x,f x=APJ np P E h fn its os rs x) (hl:DN P np h (AT fn) 0) :
  AR P g (ALS np na its os rs f):=by
 intro R args H fz slot k r hk
 simp only[ALS]at hk
 split at hk
 ·cases hk
 ·rename_i x bs fr hdec
  split at hk
  ·cases hk
  ·rename_i hchk
   split at hk
   ·cases hk
   ·rename_i y hy
    have pick:∀ (os':A0) (y':Np os') (R:Type) (k:AV→Eff→Option R) (r:R),F6 R np bs fr rs slot H fz k os' y'=some r→∃ (o:Exit×AE) (d:B7 (leaves o.2)),Hf o.2=true ∧
      (∀ R' (k':AV→Eff→Option R'),F6 R' np bs fr rs slot H fz k' os' y'=JV R' (given (bs.drop np)) (bs.take np) fr rs (encode (cellsOf rs) o.2 d) (Ch (C1 o.2) (bs.take np) slot) H fz k') ∧
      ∀ st,G8 np P fn rs st os'=some y'→finish np P fn o.2 rs st=some d:=by
     intro os'
     induction os' with
     |nil=>intro y' R k r h;simp[F6]at h
     |cons o os' ih=>
      intro y' R k r h
      cases y' with
      |inl d=>
       simp only[F6]at h
       split at h
       ·rename_i hno
        refine⟨o,d,hno,fun R' k'=>by simp only[F6,hno],fun st hst => ?_⟩
        simp only[G8]at hst
        split at hst
        ·rename_i d' hd'
         simp only[Aep,Sum.inl.injEq]at hst
         rw[hd',hst]
        ·split at hst<;>simp at hst
       ·cases h
      |inr y'=>
       simp only[F6]at h
       obtain⟨o',d,q1,q2,q3⟩:=ih y' R k r h
       refine⟨o',d,q1,fun R' k'=>by simp only[F6];exact q2 R' k',fun st hst => ?_⟩
       simp only[G8]at hst
       split at hst
       ·simp at hst
       ·split at hst
        ·rename_i x' hx'
         simp only[Aep,Sum.inr.injEq]at hst
         exact q3 st (by rw[hx',hst])
        ·cases hst
    obtain⟨o,d,hno,hback,hfin⟩:=pick os y R k r hk
    have hcall:AQ np P E h fn its o.2 rs x=some d:=by
     rw[hfun x]at hy
     unfold APJ at hy
     unfold AQ
     rw[AIJ hb]at hy ⊢
     simp only at hy ⊢
     obtain⟨ex,st',g1,g2,_⟩:=KS hE.1 hE.2 (AT fn) 0 hl _ _ _ _ hy
     refine(g2 _ _).trans ?_
     cases ex with
     |normal=>exact hfin st' g1
     |ret=>exact hfin st' g1
     |_=>simp at g1
    have hs:=AI hE hf hb hn hna (its:=its) (outs:=o.2) (rs:=rs) (f:=AQ np P E h fn its o.2 rs) (fun _=>rfl) hl
    simp only[Aet]at hchk
    have hsame:∀ R' (k':AV→Eff→Option R'),AF np na its o.2 rs (AQ np P E h fn its o.2 rs) R' args H fz slot k'=F6 R' np bs fr rs slot H fz k' os y:=by
     intro R' k'
     rw[hback R' k']
     simp only[AF,hdec,hchk.1.1.1,hchk.1.1.2,hchk.1.2,hchk.2,hno,AgB,hcall]
    obtain⟨v,e,h1,h2,h3,h4⟩:=hs R args H fz slot k r (by rw[hsame];exact hk)
    refine⟨v,e,h1,fun R' k' => ?_,h3,h4⟩
    simp only[ALS,hdec,hchk.1.1.1,hchk.1.1.2,hchk.1.2,hchk.2,AgB,hy]
    rw[← hsame R' k']
    exact h2 R' k'
theorem Cs (hE : Ab P E) (hf : P.funcs[g]? = some fn) (hb : fn.body.isSome = true) (hn : (fn.name == "runtime.NumGoroutine") = false) (hl : loops (AT fn) = 0) : AR P g (DC P E h fn) :=
 ALR hE.1 hE.2 hf (AIJ hb) (Mn hf hb hn) hl
theorem AY{h':Hints}(hE:Ab P E){np nt n:Nat}{body:Code}{its:AE}{os:A0}{stp:B7 (leaves its)→Option (B7 (leaves its)⊕Np os)}
  (hstep:∀ v,stp v=roundOf P E h' n np nt body its os v) (hl:DN P np h' body n):Ad P np (.loop body) (Ae np nt its os stp):=AVr hE.1 hE.2 hstep hl
def AEX:AE→Bool
 |[]=>true
 |(.tmp _,.dat _)::r=>AEX r
 |_::_=>false
theorem AWf{H H':List Ob}{tm:List AV}(ha:∀ id∈BG tm,H[id]? = H'[id]?):∀ (its:AE) (fz fz':List Bool),AEX its=true→dec tm H its fz []=dec tm H' its fz' []:=by
 intro its
 induction its with
 |nil=>intro fz fz' _;rfl
 |cons p r ih=>
  intro fz fz' hd
  obtain⟨l,c⟩:=p
  cases l<;>cases c<;>simp only[AEX]at hd<;>try (cases hd;done)
  rename_i t ty
  simp only[dec,look]
  cases hv:tm[t]? with
  |none=>rfl
  |some v=>
   have hsub:∀ id∈Am v,H[id]? = H'[id]? := fun id hid=>ha id (by
    clear ih hd ha
    induction tm generalizing t with
    |nil=>simp at hv
    |cons a tm iht=>
     cases t with
     |zero=>simp at hv;subst hv;simp[BG,hid]
     |succ t=>simp only[BG,Aeu];exact .inr (iht t (by simpa using hv)))
   simp only
   rw[Vp ty v hsub]
   cases Vq H' ty v with
   |none=>rfl
   |some q=>
    obtain⟨x,f⟩:=q
    simp only
    have hfr:f.all (fresh? [])=true:=by simp[fresh?]
    rw[hfr]
    simp only
    rw[ih (Ag f fz) (Ag f fz') hd]
theorem AV9:∀ (n slot:Nat),Ch n [] slot=List.range' slot n:=by
 intro n
 induction n with
 |zero=>intro slot;rfl
 |succ n ih=>intro slot;simp only[Ch,Ah1];rw[ih]
theorem VP{H H':List Ob}{fz fz':List Bool}:∀ (ids:List Nat),(∀ i∈ids,At H fz i=At H' fz' i)→E4 H fz ids []=E4 H' fz' ids []:=by
 intro ids
 induction ids with
 |nil=>intro _;rfl
 |cons a ids ih=>
  intro h
  simp only[E4,List.tail_nil]
  rw[h a (by simp),ih fun i hi=>h i (by simp[hi])]
theorem ARL{H:List Ob}{tm:List AV}:∀ (its:AE) (fz:List Bool) (bs:List Bnd) (x:B7 (leaves its)) (bs':List Bnd) (fr:List Nat),AEX its=true→dec tm H its fz bs=some (x,bs',fr)→bs'=bs:=by
 intro its
 induction its with
 |nil=>intro fz bs x bs' fr _ h;simp only[dec,Aep]at h;cases h;rfl
 |cons p r ih=>
  intro fz bs x bs' fr hd h
  obtain⟨l,c⟩:=p
  cases l<;>cases c<;>simp only[AEX]at hd<;>try (cases hd;done)
  simp only[dec]at h
  split at h
  ·split at h
   ·split at h
    ·split at h
     ·rename_i xs bs1 g hdd
      simp only[Aep]at h
      cases h
      exact ih _ _ _ _ _ hd hdd
     ·cases h
    ·cases h
   ·cases h
  ·cases h
theorem AO{np na:Nat}{its outs:AE}{rs:List RS}{f:B7 (leaves its)→Option (B7 (leaves outs))}(hd:AEX its=true)(hn:Nat.ble (C1 outs) 4=true):HC (AF np na its outs rs f):=by
 intro R args H H' fz fz' slot k ha
 unfold AF
 rw[AWf ha.heap its fz fz' hd]
 split
 ·rfl
 ·rename_i x bs fr hdec
  have hbs:=ARL its fz' [] x bs fr hd hdec
  subst hbs
  split
  ·rfl
  ·split
   ·rfl
   ·rename_i y hy
    simp only[List.take_nil,List.drop_nil]
    have hfree:∀ (g:List Nat) (i:Nat),i∈Ch (C1 outs) [] slot→At H (Ag g fz) i=At H' (Ag g fz') i:=by
     intro g i hi
     rw[AV9,List.mem_range'_1]at hi
     have:=AhS hn
     exact Dk ha hi.1 (by omega) g
    unfold JV
    rw[show E4 H fz (Ch (C1 outs) [] slot) []=E4 H' fz' (Ch (C1 outs) [] slot) []from VP _ (hfree []),VP _ (hfree fr)]
end
end Go.Pev
end
section
namespace Go.Pev
open Go.RowKit
def LC{α:Type}(xs:List α):Option (List α):=match N3 (AH xs)with
 |true=>some xs
 |false=>none
def PG[Lk]{α:Type}(xs:List α):Option (List α):=Lk.f (LC xs)
theorem AEY{α:Type}(xs:List α):PG xs=LC xs:=AG _
noncomputable def G9(e:TypeId)(t:Ty):Spec:=fun R args H fz slot k=>
 match args with
 |[x]=>match EG H (.slice t) x with
  |some (xs,_)=>match(PG xs:Option (List t.den))with
   |none=>none
   |some y=>(match At H fz slot with|true=>k (.own slot) { objs:=[(slot,.arr e t y)] }|false=>none)
  |none=>none
 |_=>none
def Zp:Code→Nat→List Oper
 |.region id ops _,n=>if id=n then ops.toList else []
 |.seq a b,n=>Zp a n++Zp b n
 |.cond _ a b,n=>Zp a n++Zp b n
 |.block _ c,n=>Zp c n
 |.loop c,n=>Zp c n
 |_,_=>[]
def Bb(fn:Func)(n i:Nat):Oper:=((Zp (AT fn) n)[i]?).getD default
structure ACE(P:Program)(fn:Func)(T e:TypeId)(t:Ty):Prop where
 body:fn.body=some (.seq (.region 0 #[Bb fn 0 0] false) (.seq (.seq (.region 1 #[Bb fn 1 0,Bb fn 1 1] false) (.cond (.tmp 4) (.seq (.region 2 #[Bb fn 2 0] false) .ret) .skip)) (.seq (.region 3 #[Bb fn 3 0,Bb fn 3 1,Bb fn 3 2,Bb fn 3 3] false) .ret)))
 nt:fn.ntmps=8
 res:fn.results = #[.tmp 2]
 d:(Bb fn 0 0).dst=some 2∧(Bb fn 1 0).dst=some 3∧(Bb fn 1 1).dst=some 4∧(Bb fn 2 0).dst=some 2∧(Bb fn 3 0).dst=some 5∧(Bb fn 3 1).dst=some 6∧(Bb fn 3 2).dst=some 7∧(Bb fn 3 3).dst=some 2
 g:(Bb fn 0 0).guard=none∧(Bb fn 1 0).guard=none∧(Bb fn 1 1).guard=none∧(Bb fn 2 0).guard=none∧(Bb fn 3 0).guard=none∧(Bb fn 3 1).guard=none∧(Bb fn 3 2).guard=none∧(Bb fn 3 3).guard=none
 o00:(Bb fn 0 0).op = .assign (.const (.slice none 0 0))
 o10:(Bb fn 1 0).op = .move (.tmp 0)
 o11:(Bb fn 1 1).op = .binOp .eql T (.tmp 3) (.const (.slice none 0 0)) T
 o20:(Bb fn 2 0).op = .assign (.const (.slice none 0 0))
 o30:(Bb fn 3 0).op = .buildSlice T 0 #[]
 o31:(Bb fn 3 1).op = .move (.tmp 0)
 o32:(Bb fn 3 2).op = .call { callee:=.builtin .append,args:=#[.tmp 5,.tmp 6],argTypes:=#[T,T] }
 o33:(Bb fn 3 3).op = .assign (.tmp 7)
 sl:sliceAt P T=some (e,t)
 z:(zeroAt P e).isSome=true
 by1:(P.info? e).map (fun i=>decide (i.bytes≤1024))=some true
section
variable {P:Program} {g:FuncId}
theorem GG{ops:Array Oper}{Q:Exit→Act→World→Prop}{i:Nat}{rest:List Nat}{a:Act}{w:World}{o:Oper}(ho:ops[i]? = some o)(hg:o.guard=none)(h:o.wp P a w (wpOps P ops Q rest) Q):wpOps P ops Q (i::rest) a w:=by
 simp only[wpOps,ho]
 rw[Ae6 (by simp[Region.wanted,hg])]
 exact .inl h
theorem GH{o:Oper}{a:Act}{w w':World}{next:Act→World→Prop}{Q:Exit→Act→World→Prop}{u:Value}(h:(execOp a.eval o).run P w = .ok (.value u) w')(hn:next (a.put o.dst u) w'):o.wp P a w next Q:=by
 unfold Oper.wp;rw[h];exact hn
variable {fn:Func} {T e:TypeId} {t:Ty}
theorem AES{P:Program}{w:World}{ρ:Operand→Value}{o:Oper}{x:Operand}(h:o.op = .move x):(execOp ρ o).run P w = .ok (.value (ρ x)) w:=by simp[execOp,h]
theorem Ma{P:Program}{w:World}{ρ:Operand→Value}{o:Oper}{x:Operand}(h:o.op = .assign x):(execOp ρ o).run P w = .ok (.value (ρ x)) w:=by simp[execOp,h]
theorem Aah (hs : ACE P fn T e t) (hf : P.funcs[g]? = some fn) (hn : (fn.name == "runtime.NumGoroutine") = false) : AR P g (G9 e t) := by
 intro R args H fz slot k r hk
 unfold G9 at hk
 split at hk
 ·rename_i x
  split at hk
  ·rename_i xs fr hx
   split at hk
   ·cases hk
   ·rename_i y hy
    split at hk
    ·rename_i hfree
     refine⟨_,_,hk,fun R' k'=>by simp only[G9,hx,hy,hfree],Mn hf (by rw[hs.body];rfl) hn,fun w F m vals hi hr => ?_⟩
     rw[AEY]at hy
     unfold LC at hy
     split at hy
     ·rename_i hfit
      simp only[Aep]at hy;subst hy
      have hr0:=hr
      unfold Aa at hr
      obtain⟨v,vs',rfl,hrv,hnil⟩:=hr
      unfold Aa at hnil;subst hnil
      obtain⟨hu,hty0,hpos⟩:=Bs hs.sl
      obtain⟨zz,hzz⟩:=AgE.1 hs.z
      obtain⟨t',cs'⟩:=zz
      obtain⟨hty',hcs',i,z,hi0,hz0,hok,hsz,hza⟩:=Bn hzz
      subst hcs'
      have:t'=t:=by rw[hty0]at hty';exact(Afs hty').symm
      subst this
      have hzs:z.cells.size=i.size:=by
       have hzd:=Ba (w:=default) (F:=fun _=>False) t' _ hok
       rw[hsz,← Ae7];exact Dat.length t' hzd
      have hby':i.bytes≤1024:=by simpa [hi0]using hs.by1
      obtain⟨A,c,rfl,q2,q3,news,q4,q5⟩:=DY hi hx hrv
      have hfit':xs.length≤4294967296:=by
       have:(xs.length:Int)≤4294967296:=(S8 _).1 hfit
       omega
      refine calls_of_wp hf hs.body ?_
      obtain⟨d0,d1,d2,d3,d4,d5,d6,d7⟩:=hs.d
      obtain⟨g0,g1,g2,g3,g4,g5,g6,g7⟩:=hs.g
      have hres:∀ (tm:Array Value) (w0:World),(results fn tm).run P w0 = .ok (tm.getD 2 undef) w0:=fun tm w0=>by simp[results,hs.res]
      refine wp_seq (wp_region ?_)
      simp only[AgJ,Aex,AfI,AgC,List.range_zero,AfQ]
      refine GG (by rfl) g0 (GH (Ma hs.o00) ?_)
      refine wp_seq (wp_seq (wp_region ?_))
      simp only[AgJ,Aex,AfI,AgC,List.range_zero,AfQ,AfK]
      refine GG (by rfl) g1 (GH (AES hs.o10) ?_)
      refine GG (by rfl) g2 (GH (u:=.bool A.isNone) (w':=w) (by simp[execOp,hs.o11,Act.eval,Act.put,d0,d1,hs.nt,eqGuard,Lib.run_eql_slice_nil _ _ _ _ _ _ _ _ hu]) ?_)
      cases A with
      |none=>
       have hxs:xs=[]:=by
        cases xs with
        |nil=>rfl
        |cons a b=>exact absurd (q3 (by simp)) (by simp)
       subst hxs
       refine wp_cond_true (by simp[Act.eval,Act.put,d0,d1,d2,hs.nt]) ?_
       refine wp_seq (wp_region ?_)
       simp only[AgJ,Aex,AfI,AgC,List.range_zero,AfQ]
       refine GG (by rfl) g3 (GH (Ma hs.o20) ?_)
       refine wp_ret ?_
       refine⟨by simp[Act.put,d0,d1,d2,d3],_,hres _ _,?_⟩
       obtain⟨m',hg,hrep⟩:=DU (w:=w) hi hfree e hpos none
       refine⟨_,rfl,F,m',hg,?_⟩
       show Rep _ _ _ (H.set slot _) _ _
       simpa [Act.put,Act.eval,d0,d1,d2,d3,hs.nt]using hrep
      |some ad=>
       refine wp_cond_false (by simp[Act.eval,Act.put,d0,d1,d2,hs.nt]) ?_
       refine wp_skip ?_
       refine wp_seq (wp_region ?_)
       simp only[AgJ,Aex,AfI,AgC,List.range_zero,AfQ,AfK]
       refine GG (by rfl) g4 (GH (u:=.slice (some ⟨w.heap.size,0,none⟩) 0 0) (w':=w.alloc (.cells #[] e)) (by
        have:=HU (P:=P) (w:=w) (len:=0) (parts:=#[]) (us:=#[]) hu hi0 hz0 hsz (by omega) (by simp[Instr.fill])
        simp[execOp,hs.o30,this]) ?_)
       refine GG (by rfl) g5 (GH (AES hs.o31) ?_)
       have hga:=Ap.grow (w':=w.alloc (.cells #[] e)) hi rfl rfl rfl (by simp) (fun b hb=>Below.heap_alloc w _ b hb)
       obtain⟨v,w',m',hrun,hg,hrep⟩:=Ez (P:=P) (T:=T) (ty:=(Bb fn 3 2).type) hga.2 hfree hu hi0 hz0 hzs hsz hpos hby' hfit' (some ⟨w.heap.size,0,none⟩) (A:=some ad) (c:=c) (ys:=xs) (news:=news) (fun _=>rfl)
        (BK (fun x _ cs hx=>hx.mono (fun a ha=>by simp[World.cell?,Below.heap_alloc w _ _ (hi.lt _ ha)]) (fun _ h=>h) t') q4) (fun ad' h j u hu'=>by
         have:=q5 ad' h j u hu'
         exact Lib.cell?_alloc_some _ this)
       refine GG (by rfl) g6 (GH (u:=v) (w':=w') (by
        simp[execOp,hs.o32,resolve,invoke,builtin,Act.eval,Act.put,d0,d1,d2,d4,d5,hs.nt,hrun]) ?_)
       refine GG (by rfl) g7 (GH (Ma hs.o33) ?_)
       refine wp_ret ?_
       refine⟨by simp[Act.put,d0,d1,d2,d4,d5,d6,d7],_,hres _ _,?_⟩
       refine⟨_,rfl,F,m',hga.trans hg,?_⟩
       show Rep _ _ _ (H.set slot _) _ _
       simpa [Act.put,Act.eval,d0,d1,d2,d4,d5,d6,d7,hs.nt]using hrep
     ·cases hy
    ·cases hk
  ·cases hk
 ·cases hk
theorem La(e:TypeId)(t:Ty):HC (G9 e t):=by
 intro R args H H' fz fz' slot k ha
 unfold G9
 cases args with
 |nil=>rfl
 |cons x r=>cases r with
  |cons y r=>rfl
  |nil=>
   simp only
   rw[Br (.slice t) x fun id hid=>ha.heap id (by simpa [BG]using hid)]
   have:=Dk ha (s:=slot) (Aez _) (by omega) []
   simp only[Ag]at this
   rw[this]
end
end Go.Pev
end
section
namespace Go.Pev
noncomputable section
attribute [local irreducible] N3 Kz Oy Nr AZt AZu AZv R0 Yk WS ACL LC AW many IntKind.wrap AH BA AX A9 Bo DI Dy AK Bm Ce imax AM Ac
abbrev U0:Ty:=(.int .i64)
abbrev U1:=(Int×Int×Unit)
abbrev U2:Ty:=(.prod U0 (.prod U0 .unit))
abbrev U3:=(List Int)
abbrev U4:Ty:=(.slice U0)
abbrev U5:=(List U3×Int×Int×Int×Unit)
abbrev U6:=(Int×Int×Int×Bool×Unit)
abbrev U7:=(List U1×Int×Int×Int×Unit)
abbrev U8:=(Int×Unit)
abbrev U9:Ty:=(.slice (.prod U0 (.prod U0 (.prod U0 (.prod .bool .unit)))))
abbrev Ua:=(Int×(List U1))
abbrev Ub:=(Int×Int)
abbrev Uc:=(List U3×Int×Int×Unit)
abbrev Ud:=(List U1×Int×Int×Unit)
abbrev Ue:Ty:=(.slice U4)
abbrev Uf:=(Bool×Unit)
abbrev Ug:=(List U3×Int×Int×Int×Int×Unit)
abbrev Uh:=(List U1×Int×Int×Int×Int×Unit)
abbrev Ui:=(Int×(List U3)×Unit)
abbrev Uj:=(List U1×Unit)
abbrev Uk:=(List U3×Unit)
abbrev Ul:Ty:=(.slice U2)
abbrev Um:=(List Int×Unit)
abbrev Un:=(Int×(List U6)×Unit)
abbrev Uo:=(List Int×Int×Int×Unit)
abbrev Up:Ty:=(.prod U0 (.prod Ue .unit))
abbrev Uq:=(List U3×Int×Int×Int×Int×Int×Unit)
abbrev Ur:=(List U1×Int×Int×Int×Int×Int×Unit)
abbrev Us:=(Int×List U3×List Bool×Int×Int×Int×List Int×Int×List Int×Int×Bool×Int×List Int×Bool×Bool×List Int×List Int×List U3×List Int×List U3×Bool×Bool×List Int×Int×Int×Bool×Unit)
abbrev Ut:=(Int×List U3×List Ub×Int×List U3×Int×Int×List Int×Int×Int×Bool×List Int×Bool×Bool×List Int×Int×List Int×Int×Bool×Int×List Int×Bool×Bool×List Int×Int×Int×Unit)
abbrev Uu:Ty:=(.prod U0 (.prod U9 .unit))
abbrev Uv:=(Int×List Int×Int×List Int×Int×Bool×Bool×Bool×Bool×Int×Int×Bool×Int×Int×Int×Int×Int×Bool×Int×Int×Int×Int×Int×Int×Int×Int×Int×Bool×Unit)
abbrev Uw:=(List Int×Int×List Int×List Ub×List Ua×Int×Int×Unit)
abbrev Ux:=(List U1×Int×List Int×List Ub×List Ua×Int×Int×Unit)
abbrev Uy:=(Int×List Int×List Ub×List Ua×Int×Unit)
abbrev Uz:=(List Int×Int×Unit)
abbrev V0:=(Int×List Int×List Ub×List Ua×List (U1×Int)×List U1×List Int×Int×Int×Unit)
abbrev V1:=(List Int×Int×List Int×List Ub×List Ua×Int×Unit)
abbrev V2:=(List U1×Int×List Int×List Ub×List Ua×Int×Unit)
abbrev V3:Ty:=(.prod U4 (.prod U4 (.prod Ue .unit)))
abbrev V4:=(Int×List U3×Int×Unit)
abbrev V5:=(List Int×Int×List Int×List Int×List U3×List Int×Int×Int×Unit)
abbrev V6:=(List U1×Int×List Int×List Ub×List Ua×Unit)
abbrev V7:=(List Int×List Int×List Int×Int×Int×Unit)
abbrev V8:=(List U3×Int×Unit)
abbrev V9:=(Int×Int×List Int×List Ub×List Ua×Int×Int×Int×Bool×List U6×Int×Int×Int×Int×Bool×List Int×Int×Unit)
abbrev Va:=(U3×U3×(List U3)×Unit)
abbrev Vb:=(List Int×List Int×Unit)
abbrev Vc:=(Int×List Int×List Ub×List Ua×List (U1×Int)×List U1×List Int×Int×Int×List U1×Int×Int×Unit)
abbrev Vd:=(Ui×Int×Unit)
abbrev Ve:=(List Int×List Int×List U3×Int×List Int×List Ub×List Ua×List Bool×List Int×Int×Int×Unit)
abbrev Vf:=(Int×List Int×List U3×List U3×Int×Int×Unit)
abbrev Vg:=(List Int×Int×List Int×List Ub×List Ua×Unit)
abbrev Vh:=(List Int×Int×List Int×List Int×List U3×List Int×Int×Int×Int×Int×Int×Unit)
abbrev Vi:=(Int×Int×List U6×Int×List Int×List Ub×List Ua×List Int×Int×Int×Unit)
abbrev Vj:=(Un×Int×Int×Unit)
abbrev Vk:=(Bool×Int×Int×Int×Int×Int×List Int×List Ub×List Ua×List Int×Unit)
abbrev Vl:=(Int×List Int×Unit)
abbrev Vm:=(Int×List Int×List U3×Int×List U3×Int×Int×List Int×Int×Int×Unit)
abbrev Vn:=(U5⊕U5⊕Unit)
abbrev AAD:AE:=[(.tmp 0,.dat U4),(.tmp 1,.dat U4)]
abbrev AAC:AE:=[(.tmp 0,.dat .bool)]
abbrev AAB:List RS:=[.one]
abbrev AEH:AE:=[(.tmp 0,.dat U4),(.tmp 1,.dat U4),(.tmp 5,.di)]
abbrev AEG:A0:=[(.ret,[(.tmp 4,.dat .bool)]),(.exit 0,[])]
def EV[Lk]:(List Int×List Int×Int×Unit)→Option ((List Int×List Int×Int×Unit)⊕Uf⊕(Unit)⊕Unit):=fun(a0,a1,a2,_)=>
 match(ilt a2 (AH a0))with
 |true=>match idx a0 a2 with|none=>none|some x0=>match idx a1 a2 with|none=>none|some x1=>match(!(ieq x0 x1))with
  |true=>some (.inr (.inl (false,())))
  |false=>some (.inl (a0,a1,(IntKind.wrap .i64 (a2+1)),()))
 |false=>some (.inr (.inr (.inl ())))
def QK[Lk]:Vb→Option (Uf):=fun(a0,a1,_)=>
 match(!(ieq (AH a0) (AH a1)))with
 |true=>some (false,())
 |false=>match AU EV many (a0,a1,0,())with|none=>none|some r=>match r with
 |.inl (o0,_)=>some (o0,())
 |.inr r=>match r with
 |.inl _=>some (true,())
 |.inr _=>none
def Km[Lk]:=fun v=>Lk.f (QK v)
theorem AEI v:Km v=QK v:=AG _
abbrev Xo:AE:=[(.tmp 0,.di)]
abbrev Xn:AE:=[(.tmp 0,.dat .bool)]
abbrev Xm:List RS:=[.one]
def Pe[Lk]:U8→Option (Uf):=fun(a0,_)=>
 match(ile 1 a0)with
 |true=>some ((ile a0 64),())
 |false=>some (false,())
def Lp[Lk]:=fun v=>Lk.f (Pe v)
theorem ADH v:Lp v=Pe v:=AG _
abbrev AXk:AE:=[(.tmp 0,.di),(.tmp 1,.di)]
abbrev AXj:AE:=[(.tmp 0,.dat .bool)]
abbrev AXi:List RS:=[.one]
def AR9[Lk]:U1→Option (Uf):=fun(a0,a1,_)=>
 match Lp (a0,())with|none=>none|some (y0,_)=>match y0 with
 |true=>match(ile 0 a1)with
  |true=>some ((ilt a1 a0),())
  |false=>some (false,())
 |false=>some (false,())
def tin[Lk]:=fun v=>Lk.f (AR9 v)
theorem AXl v:tin v=AR9 v:=AG _
abbrev ANw:AE:=[(.tmp 0,.di),(.tmp 1,.di),(.tmp 2,.di)]
abbrev ANv:AE:=[(.tmp 0,.di)]
abbrev ANu:List RS:=[.one]
def AFb[Lk]:(Int×Int×Int×Unit)→Option (U8):=fun(a0,a1,a2,_)=>
 match(ieq a1 a2)with
 |true=>some ((-1:Int),())
 |false=>match tin (a0,a1,())with|none=>none|some (y0,_)=>match(!y0)with
 |true=>some ((-1:Int),())
 |false=>match tin (a0,a2,())with|none=>none|some (y1,_)=>match(!y1)with
 |true=>some ((-1:Int),())
 |false=>some ((IntKind.wrap .i64 ((IntKind.wrap .i64 (a0*(IntKind.wrap .i64 (a1+1))))+a2)),())
def AUC[Lk]:=fun v=>Lk.f (AFb v)
theorem ASA v:AUC v=AFb v:=AG _
abbrev Xk:AE:=[(.tmp 0,.di),(.tmp 1,.di)]
abbrev Xj:AE:=[(.tmp 0,.di),(.tmp 1,.di),(.tmp 2,.dat .bool),(.tmp 3,.dat .bool)]
abbrev Xi:List RS:=[.one,.one,.one,.one]
def Pd[Lk]:U1→Option ((Int×Int×Bool×Bool×Unit)):=fun(a0,a1,_)=>
 match Lp (a0,())with|none=>none|some (y0,_)=>match(!y0)with
 |true=>some (0,0,false,false,())
 |false=>match(ilt a1 0)with
 |true=>some (0,0,false,false,())
 |false=>match(ile (IntKind.wrap .i64 (a0*(IntKind.wrap .i64 (a0+1)))) a1)with
 |true=>some (0,0,false,false,())
 |false=>match(ilt a1 a0)with
 |true=>some (a1,0,false,true,())
 |false=>match quo? .i64 a1 a0 with|none=>none|some x1=>match rem? a1 a0 with|none=>none|some x2=>match(ieq (IntKind.wrap .i64 (x1-1)) x2)with
 |true=>some (0,0,false,false,())
 |false=>some ((IntKind.wrap .i64 (x1-1)),x2,true,true,())
def Xl[Lk]:=fun v=>Lk.f (Pd v)
theorem ADG v:Xl v=Pd v:=AG _
abbrev AFV:AE:=[(.tmp 0,.di)]
abbrev AFU:AE:=[(.tmp 0,.di),(.tmp 1,.own 43 U4),(.tmp 2,.di)]
abbrev AFT:List RS:=[.agg 2,.one]
abbrev AJG:AE:=[(.tmp 2,.box 2),(.cell 0 0,.di),(.cell 0 1,.nil U4),(.tmp 4,.box 2),(.cell 1 0,.di),(.cell 1 1,.own 43 U4),(.tmp 12,.di),(.tmp 13,.di)]
abbrev AJF:A0:=[(.exit 0,[(.tmp 2,.box 2),(.cell 0 0,.di),(.cell 0 1,.nil U4),(.tmp 4,.box 2),(.cell 1 0,.di),(.cell 1 1,.own 43 U4)])]
def HN[Lk]:(Int×Int×List U3×Int×Int×Unit)→Option ((Int×Int×List U3×Int×Int×Unit)⊕(Int×Int×List U3×Unit)⊕Unit):=fun(a0,a1,a2,a3,a4,_)=>
 match(ilt a4 a3)with
 |true=>match(fits ((AH a2)+(AH ([([a4]:List (Int))]:List U3))))with
  |true=>some (.inl (a0,a1,(A9 a2 ([([a4]:List (Int))]:List U3)),a3,(IntKind.wrap .i64 (a4+1)),()))
  |false=>none
 |false=>some (.inr (.inl (a0,a1,a2,())))
def Wy[Lk]:U8→Option (V4):=fun(a0,_)=>
 match Lp (a0,())with|none=>none|some (y0,_)=>match(!y0)with
 |true=>some (0,([]:List U3),1,())
 |false=>match AU HN many (0,a0,([]:List U3),a0,0,())with|none=>none|some r=>match r with
 |.inl (o1,o2,o3,_)=>some (o2,o3,0,())
 |.inr _=>none
def AJI[Lk]:=fun v=>Lk.f (Wy v)
theorem AJH v:AJI v=Wy v:=AG _
abbrev AAK:AE:=[(.tmp 0,.dat U4),(.tmp 1,.di)]
abbrev AAJ:AE:=[(.tmp 0,.di)]
abbrev AAI:List RS:=[.one]
abbrev AEL:AE:=[(.tmp 0,.dat U4),(.tmp 1,.di),(.tmp 7,.di),(.tmp 8,.di)]
abbrev AEK:A0:=[(.ret,[(.tmp 4,.di)]),(.exit 0,[])]
def FN[Lk]:(List Int×Int×Int×Int×Unit)→Option ((List Int×Int×Int×Int×Unit)⊕U8⊕(Unit)⊕Unit):=fun(a0,a1,a2,a3,_)=>
 match(ilt a3 a2)with
 |true=>match idx a0 a3 with|none=>none|some x0=>match(ieq a1 x0)with
  |true=>some (.inr (.inl (a3,())))
  |false=>some (.inl (a0,a1,a2,(IntKind.wrap .i64 (a3+1)),()))
 |false=>some (.inr (.inr (.inl ())))
def QM[Lk]:Uz→Option (U8):=fun(a0,a1,_)=>
 match AU FN many (a0,a1,(AH a0),0,())with|none=>none|some r=>match r with
 |.inl (o0,_)=>some (o0,())
 |.inr r=>match r with
 |.inl _=>some ((-1:Int),())
 |.inr _=>none
def Ox[Lk]:=fun v=>Lk.f (QM v)
theorem AEM v:Ox v=QM v:=AG _
abbrev Mj:AE:=[(.tmp 0,.dat U4),(.tmp 1,.di)]
abbrev Mi:AE:=[(.tmp 0,.dat .bool)]
abbrev Mh:List RS:=[.one]
def Ir[Lk]:Uz→Option (Uf):=fun(a0,a1,_)=>
 match Ox (a0,a1,())with|none=>none|some (y0,_)=>some ((ile 0 y0),())
def Fa[Lk]:=fun v=>Lk.f (Ir v)
theorem Qk v:Fa v=Ir v:=AG _
abbrev AP5:AE:=[(.tmp 0,.dat U4)]
abbrev AP4:AE:=[(.tmp 0,.di)]
abbrev AP3:List RS:=[.one]
abbrev AS0:AE:=[(.tmp 0,.dat U4),(.tmp 3,.di),(.tmp 4,.di)]
abbrev ASz:A0:=[(.exit 0,[(.tmp 3,.di)])]
def Kb[Lk]:Uo→Option (Uo⊕U8⊕Unit):=fun(a0,a1,a2,_)=>
 match(ilt a2 (AH a0))with
 |true=>match idx a0 a2 with|none=>none|some x0=>some (.inl (a0,(Ce a1 x0),(IntKind.wrap .i64 (a2+1)),()))
 |false=>some (.inr (.inl (a1,())))
def AG2[Lk]:Um→Option (U8):=fun(a0,_)=>
 match(ilt (AH a0) 1)with
 |true=>none
 |false=>match idx a0 0 with|none=>none|some x0=>match AU Kb many (a0,x0,1,())with|none=>none|some r=>match r with
 |.inl (o1,_)=>some (o1,())
 |.inr _=>none
def AVa[Lk]:=fun v=>Lk.f (AG2 v)
theorem AS1 v:AVa v=AG2 v:=AG _
abbrev AHh:AE:=[(.tmp 0,.nil U0),(.tmp 1,.di)]
abbrev AHg:AE:=[(.tmp 0,.own 3 U0)]
abbrev AHf:List RS:=[.one]
def XA[Lk]:U8→Option (Um):=fun(a0,_)=>
 match(ilt a0 0)with
 |true=>none
 |false=>match(ilt 0 (IntKind.wrap .i64 (a0-(IntKind.wrap .i64 (0-0)))))with
 |true=>match CO ([]:List Unit) 0 0 with|none=>none|some _u0=>match(E5 (IntKind.wrap .i64 (a0-(IntKind.wrap .i64 (0-0)))))with
  |true=>match CO (Dy (AK (IntKind.wrap .i64 (a0-(IntKind.wrap .i64 ((0:Int)-(0:Int)))))) (0:Int)) (0:Int) (0:Int)with|none=>none|some x1=>some ((Bo (AK (AH x1)) (Dy (AK (IntKind.wrap .i64 (a0-(IntKind.wrap .i64 ((0:Int)-(0:Int)))))) (0:Int))),())
  |false=>none
 |false=>some (([]:List (Int)),())
def AMC[Lk]:=fun v=>Lk.f (XA v)
theorem AMB v:AMC v=XA v:=AG _
abbrev TT:AE:=[(.tmp 0,.dat Ue)]
abbrev TS:AE:=[(.tmp 0,.own 3 U0)]
abbrev TQ:List RS:=[.one]
abbrev ABF:AE:=[(.tmp 6,.own 3 U0),(.tmp 25,.dat Ue),(.tmp 26,.di),(.tmp 27,.di)]
abbrev ABD:A0:=[(.exit 2,[(.tmp 6,.own 3 U0)])]
def EC[Lk]:(List Int×List U3×Int×Int×Unit)→Option ((List Int×List U3×Int×Int×Unit)⊕Um⊕Unit):=fun(a0,a1,a2,a3,_)=>
 match(ilt a3 a2)with
 |true=>match idx a1 a3 with|none=>none|some x0=>match(fits ((AH a0)+(AH x0)))with
  |true=>some (.inl ((A9 a0 x0),a1,a2,(IntKind.wrap .i64 (a3+1)),()))
  |false=>none
 |false=>some (.inr (.inl (a0,())))
abbrev ABG:AE:=[(.tmp 0,.dat Ue),(.tmp 3,.di),(.tmp 9,.dat Ue),(.tmp 10,.di),(.tmp 11,.di)]
abbrev ABE:A0:=[(.exit 0,[(.tmp 0,.dat Ue),(.tmp 3,.di)])]
def ED[Lk]:(List U3×Int×List U3×Int×Int×Unit)→Option ((List U3×Int×List U3×Int×Int×Unit)⊕V8⊕Unit):=fun(a0,a1,a2,a3,a4,_)=>
 match(ilt a4 a3)with
 |true=>match idx a2 a4 with|none=>none|some x0=>match(ilt (IntKind.wrap .i64 (a1+(AH x0))) 0)with
  |true=>none
  |false=>some (.inl (a0,(IntKind.wrap .i64 (a1+(AH x0))),a2,a3,(IntKind.wrap .i64 (a4+1)),()))
 |false=>some (.inr (.inl (a0,a1,())))
def NT[Lk]:Uk→Option (Um):=fun(a0,_)=>
 match AU ED many (a0,0,a0,(AH a0),0,())with|none=>none|some r=>match r with
 |.inl (o0,o1,_)=>match AMC (o1,())with|none=>none|some (y2,_)=>match AU EC many (y2,o0,(AH o0),0,())with|none=>none|some r=>match r with
  |.inl (o3,_)=>some (o3,())
  |.inr _=>none
 |.inr _=>none
def Is[Lk]:=fun v=>Lk.f (NT v)
theorem ABH v:Is v=NT v:=AG _
abbrev Hq:AE:=[(.tmp 0,.dat U4),(.tmp 1,.clo 96 [])]
abbrev Hp:AE:=[(.tmp 0,.di)]
abbrev Ho:List RS:=[.one]
abbrev LX:AE:=[(.tmp 0,.dat U4),(.tmp 1,.clo 96 []),(.tmp 7,.di),(.tmp 8,.di)]
abbrev LW:A0:=[(.ret,[(.tmp 4,.di)]),(.exit 0,[])]
def B6[Lk]:Uo→Option (Uo⊕U8⊕(Unit)⊕Unit):=fun(a0,a1,a2,_)=>
 match(ilt a2 a1)with
 |true=>match idx a0 a2 with|none=>none|some x0=>match(ilt x0 0)with
  |true=>some (.inr (.inl (a2,())))
  |false=>match(ilt 10000 x0)with
  |true=>some (.inr (.inl (a2,())))
  |false=>some (.inl (a0,a1,(IntKind.wrap .i64 (a2+1)),()))
 |false=>some (.inr (.inr (.inl ())))
def Em[Lk]:Um→Option (U8):=fun(a0,_)=>
 match AU B6 many (a0,(AH a0),0,())with|none=>none|some r=>match r with
 |.inl (o0,_)=>some (o0,())
 |.inr r=>match r with
 |.inl _=>some ((-1:Int),())
 |.inr _=>none
def Gp[Lk]:=fun v=>Lk.f (Em v)
theorem LY v:Gp v=Em v:=AG _
abbrev GZ:AE:=[(.tmp 0,.dat U4),(.tmp 1,.clo 96 [])]
abbrev GY:AE:=[(.tmp 0,.dat .bool)]
abbrev GX:List RS:=[.one]
def D3[Lk]:Um→Option (Uf):=fun(a0,_)=>
 match Gp (a0,())with|none=>none|some (y0,_)=>some ((ile 0 y0),())
def Dz[Lk]:=fun v=>Lk.f (D3 v)
theorem J2 v:Dz v=D3 v:=AG _
abbrev APq:AE:=[(.tmp 0,.dat U4)]
abbrev APp:AE:=[(.tmp 0,.dat .bool)]
abbrev APo:List RS:=[.one]
abbrev ASt:AE:=[(.tmp 0,.dat U4),(.tmp 3,.map U0 U0),(.tmp 7,.dat U4),(.tmp 8,.di),(.tmp 9,.di)]
abbrev ASs:A0:=[(.exit 0,[(.tmp 0,.dat U4),(.tmp 3,.map U0 U0)])]
def KV[Lk]:(List Int×List Ub×List Int×Int×Int×Unit)→Option ((List Int×List Ub×List Int×Int×Int×Unit)⊕(List Int×List Ub×Unit)⊕Unit):=fun(a0,a1,a2,a3,a4,_)=>
 match(ilt a4 a3)with
 |true=>match idx a2 a4 with|none=>none|some x0=>some (.inl (a0,(Ac a1 x0 (IntKind.wrap .i64 (((AM a1 x0).getD 0)+1))),a2,a3,(IntKind.wrap .i64 (a4+1)),()))
 |false=>some (.inr (.inl (a0,a1,())))
def AGw[Lk]:Um→Option (Uf):=fun(a0,_)=>
 match AU KV many (a0,([]:List Ub),a0,(AH a0),0,())with|none=>none|some r=>match r with
 |.inl (o0,o1,_)=>some ((ieq (AH o1) (AH o0)),())
 |.inr _=>none
def once[Lk]:=fun v=>Lk.f (AGw v)
theorem ASu v:once v=AGw v:=AG _
abbrev Yb:AE:=[(.tmp 0,.dat U4)]
abbrev Ya:AE:=[(.tmp 0,.dat .bool)]
abbrev YZ:List RS:=[.one]
def Pv[Lk]:Um→Option (Uf):=fun(a0,_)=>
 match(ilt 1000 (AH a0))with
 |true=>some (false,())
 |false=>match Dz (a0,())with|none=>none|some (y0,_)=>match(!y0)with
 |true=>match once (a0,())with|none=>none|some (y1,_)=>some (y1,())
 |false=>some (false,())
def L0[Lk]:=fun v=>Lk.f (Pv v)
theorem ADk v:L0 v=Pv v:=AG _
abbrev Xh:AE:=[(.tmp 0,.dat U4),(.tmp 1,.di)]
abbrev Xg:AE:=[(.tmp 0,.own 3 U0)]
abbrev Xf:List RS:=[.one]
def Pc[Lk]:Uz→Option (Um):=fun(a0,a1,_)=>
 match CO a0 a1 (AH a0)with|none=>none|some x0=>match CO a0 0 a1 with|none=>none|some x1=>match Is (([x0,x1]:List U3),())with|none=>none|some (y2,_)=>some (y2,())
def Rg[Lk]:=fun v=>Lk.f (Pc v)
theorem ADF v:Rg v=Pc v:=AG _
abbrev Yu:AE:=[(.tmp 0,.dat U4),(.tmp 1,.dat U4)]
abbrev Yt:AE:=[(.tmp 0,.own 3 U0),(.tmp 1,.dat .bool)]
abbrev Ys:List RS:=[.one,.one]
abbrev ADv:AE:=[(.tmp 0,.dat U4),(.tmp 6,.own 3 U0),(.tmp 12,.dat U4),(.tmp 13,.di),(.tmp 14,.di)]
abbrev ADu:A0:=[(.exit 0,[(.tmp 6,.own 3 U0)])]
def EM[Lk]:V7→Option (V7⊕Um⊕Unit):=fun(a0,a1,a2,a3,a4,_)=>
 match(ilt a4 a3)with
 |true=>match idx a2 a4 with|none=>none|some x0=>match Ox (a0,x0,())with|none=>none|some (y1,_)=>match(fits ((AH a1)+(AH ([y1]:List (Int)))))with
  |true=>some (.inl (a0,(A9 a1 ([y1]:List (Int))),a2,a3,(IntKind.wrap .i64 (a4+1)),()))
  |false=>none
 |false=>some (.inr (.inl (a1,())))
def P9[Lk]:Vb→Option ((List Int×Bool×Unit)):=fun(a0,a1,_)=>
 match L0 (a0,())with|none=>none|some (y0,_)=>match(!y0)with
 |true=>some (([]:List (Int)),false,())
 |false=>match AU EM many (a0,([]:List (Int)),a1,(AH a1),0,())with|none=>none|some r=>match r with
 |.inl (o1,_)=>match Fa (o1,(-1:Int),())with|none=>none|some (y2,_)=>some (o1,(!y2),())
 |.inr _=>none
def places[Lk]:=fun v=>Lk.f (P9 v)
theorem ADw v:places v=P9 v:=AG _
abbrev AGL:AE:=[(.tmp 0,.dat U4),(.tmp 1,.di)]
abbrev AGK:AE:=[(.tmp 0,.own 3 U0),(.tmp 1,.dat .bool)]
abbrev AGJ:List RS:=[.one,.one]
def W3[Lk]:Uz→Option ((List Int×Bool×Unit)):=fun(a0,a1,_)=>
 match places (a0,([a1]:List (Int)),())with|none=>none|some (y0,y1,_)=>match(!y1)with
 |true=>some (([]:List (Int)),false,())
 |false=>match idx y0 0 with|none=>none|some x2=>match Rg (a0,(AX y0 0 0),())with|none=>none|some (y3,_)=>some (y3,true,())
def ADn[Lk]:=fun v=>Lk.f (W3 v)
theorem AJ1 v:ADn v=W3 v:=AG _
abbrev Ye:AE:=[(.tmp 0,.dat U4)]
abbrev Yd:AE:=[(.tmp 0,.own 3 U0)]
abbrev Yc:List RS:=[.one]
def Pw[Lk]:Um→Option (Um):=fun(a0,_)=>
 match L0 (a0,())with|none=>none|some (y0,_)=>match(!y0)with
 |true=>some (([]:List (Int)),())
 |false=>match(ieq (AH a0) 0)with
 |true=>some (([]:List (Int)),())
 |false=>match AVa (a0,())with|none=>none|some (y1,_)=>match Ox (a0,y1,())with|none=>none|some (y2,_)=>match Rg (a0,y2,())with|none=>none|some (y3,_)=>some (y3,())
def Yf[Lk]:=fun v=>Lk.f (Pw v)
theorem ADl v:Yf v=Pw v:=AG _
abbrev FQ:AE:=[(.tmp 0,.dat Ue),(.cap 1 0,.box 1),(.cell 0 0,.di),(.tmp 1,.clo 113 [(0,0)])]
abbrev FP:AE:=[(.obj 0,.box 1),(.cell 0 0,.di),(.tmp 0,.di)]
abbrev FO:List RS:=[.one]
abbrev IY:AE:=[(.obj 0,.box 1),(.cell 0 0,.di),(.tmp 0,.dat Ue),(.tmp 1,.clo 113 [(0,0)]),(.tmp 7,.di),(.tmp 8,.di)]
abbrev IX:A0:=[(.ret,[(.obj 0,.box 1),(.cell 0 0,.di),(.tmp 4,.di)]),(.exit 0,[(.obj 0,.box 1),(.cell 0 0,.di)])]
def Bk[Lk]:(Int×List U3×Int×Int×Unit)→Option ((Int×List U3×Int×Int×Unit)⊕U1⊕U8⊕Unit):=fun(a0,a1,a2,a3,_)=>
 match(ilt a3 a2)with
 |true=>match idx a1 a3 with|none=>none|some x0=>match Fa (x0,a0,())with|none=>none|some (y1,_)=>match y1 with
  |true=>some (.inr (.inl (a0,a3,())))
  |false=>some (.inl (a0,a1,a2,(IntKind.wrap .i64 (a3+1)),()))
 |false=>some (.inr (.inr (.inl (a0,()))))
def Dl[Lk]:V8→Option (U1):=fun(a0,a1,_)=>
 match AU Bk many (a1,a0,(AH a0),0,())with|none=>none|some r=>match r with
 |.inl (o0,o1,_)=>some (o0,o1,())
 |.inr r=>match r with
 |.inl (o2,_)=>some (o2,(-1:Int),())
 |.inr _=>none
def Ek[Lk]:=fun v=>Lk.f (Dl v)
theorem IZ v:Ek v=Dl v:=AG _
abbrev Xy:AE:=[(.tmp 0,.dat Up),(.tmp 1,.di)]
abbrev Xx:AE:=[(.tmp 0,.di)]
abbrev Xw:List RS:=[.one]
def Pg[Lk]:Vd→Option (U8):=fun(a0,a1,_)=>
 match Ek (a0.2.1,a1,())with|none=>none|some (y0,y1,_)=>some (y1,())
def OI[Lk]:=fun v=>Lk.f (Pg v)
theorem ADP v:OI v=Pg v:=AG _
abbrev AQx:AE:=[(.tmp 0,.di),(.tmp 1,.dat U4)]
abbrev AQw:AE:=[(.tmp 0,.dat .bool)]
abbrev AQv:List RS:=[.one]
abbrev ATM:AE:=[(.tmp 0,.di),(.tmp 5,.box 3),(.cell 0 0,.own 3 U0),(.cell 0 1,.map U0 U0),(.cell 0 2,.map U0 U0),(.tmp 30,.dat U4),(.tmp 31,.di),(.tmp 32,.di)]
abbrev ATL:A0:=[(.ret,[(.tmp 4,.dat .bool)]),(.exit 0,[(.tmp 5,.box 3),(.cell 0 0,.own 3 U0),(.cell 0 1,.map U0 U0),(.cell 0 2,.map U0 U0)])]
def Ii[Lk]:(Int×List Int×List Ub×List Ub×List Int×Int×Int×Unit)→Option ((Int×List Int×List Ub×List Ub×List Int×Int×Int×Unit)⊕Uf⊕(List Int×List Ub×List Ub×Unit)⊕Unit):=fun(a0,a1,a2,a3,a4,a5,a6,_)=>
 match(ilt a6 a5)with
 |true=>match idx a4 a6 with|none=>none|some x0=>match Xl (a0,x0,())with|none=>none|some (y1,y2,y3,y4,_)=>match(!y4)with
  |true=>some (.inr (.inl (false,())))
  |false=>match y3 with
  |true=>match idx a1 (IntKind.wrap .i64 ((AH a1)-1))with|none=>none|some x5=>match(!(ieq (AX a1 (AK (IntKind.wrap .i64 ((AH a1)-1))) 0) y1))with
   |true=>some (.inr (.inl (false,())))
   |false=>match(ilt 0 (IntKind.wrap .i64 ((AH a1)-1)))with
   |true=>match idx a1 (IntKind.wrap .i64 ((IntKind.wrap .i64 ((AH a1)-1))-1))with|none=>none|some x6=>match(ieq (AX a1 (AK (IntKind.wrap .i64 ((IntKind.wrap .i64 ((AH a1)-1))-1))) 0) y2)with
    |true=>match CO a1 0 (IntKind.wrap .i64 ((AH a1)-1))with|none=>none|some x7=>match(!y3)with
     |true=>match idx (DI 0 (AK (AH x7)) a1) (IntKind.wrap .i64 ((((AK (AH x7)):Nat):Int)-1))with|none=>none|some x8=>match(!(ieq (AX a1 (0+(AK (IntKind.wrap .i64 ((((AK (AH x7)):Nat):Int)-1)))) 0) y1))with
      |true=>some (.inr (.inl (false,())))
      |false=>match(!y3)with
      |true=>some (.inl (a0,(Bo (AK (AH x7)) a1),a2,(Ac a3 y1 (IntKind.wrap .i64 (((AM a3 y1).getD 0)+1))),a4,a5,(IntKind.wrap .i64 (a6+1)),()))
      |false=>some (.inl (a0,(Bo (AK (AH x7)) a1),a2,a3,a4,a5,(IntKind.wrap .i64 (a6+1)),()))
     |false=>match(!y3)with
     |true=>some (.inl (a0,(Bo (AK (AH x7)) a1),a2,(Ac a3 y1 (IntKind.wrap .i64 (((AM a3 y1).getD 0)+1))),a4,a5,(IntKind.wrap .i64 (a6+1)),()))
     |false=>some (.inl (a0,(Bo (AK (AH x7)) a1),a2,a3,a4,a5,(IntKind.wrap .i64 (a6+1)),()))
    |false=>match(ilt 0 ((AM a2 y2).getD 0))with
    |true=>some (.inr (.inl (false,())))
    |false=>match(fits ((AH a1)+(AH ([y2]:List (Int)))))with
    |true=>match(!y3)with
     |true=>match idx (A9 a1 ([y2]:List (Int))) (IntKind.wrap .i64 ((AH (A9 a1 ([y2]:List (Int))))-1))with|none=>none|some x9=>match(!(ieq (AX (A9 a1 ([y2]:List (Int))) (AK (IntKind.wrap .i64 ((AH (A9 a1 ([y2]:List (Int))))-1))) 0) y1))with
      |true=>some (.inr (.inl (false,())))
      |false=>match(!y3)with
      |true=>some (.inl (a0,(A9 a1 ([y2]:List (Int))),(Ac a2 y2 (IntKind.wrap .i64 (((AM a2 y2).getD 0)+1))),(Ac a3 y1 (IntKind.wrap .i64 (((AM a3 y1).getD 0)+1))),a4,a5,(IntKind.wrap .i64 (a6+1)),()))
      |false=>some (.inl (a0,(A9 a1 ([y2]:List (Int))),(Ac a2 y2 (IntKind.wrap .i64 (((AM a2 y2).getD 0)+1))),a3,a4,a5,(IntKind.wrap .i64 (a6+1)),()))
     |false=>match(!y3)with
     |true=>some (.inl (a0,(A9 a1 ([y2]:List (Int))),(Ac a2 y2 (IntKind.wrap .i64 (((AM a2 y2).getD 0)+1))),(Ac a3 y1 (IntKind.wrap .i64 (((AM a3 y1).getD 0)+1))),a4,a5,(IntKind.wrap .i64 (a6+1)),()))
     |false=>some (.inl (a0,(A9 a1 ([y2]:List (Int))),(Ac a2 y2 (IntKind.wrap .i64 (((AM a2 y2).getD 0)+1))),a3,a4,a5,(IntKind.wrap .i64 (a6+1)),()))
    |false=>none
   |false=>match(ilt 0 ((AM a2 y2).getD 0))with
   |true=>some (.inr (.inl (false,())))
   |false=>match(fits ((AH a1)+(AH ([y2]:List (Int)))))with
   |true=>match(!y3)with
    |true=>match idx (A9 a1 ([y2]:List (Int))) (IntKind.wrap .i64 ((AH (A9 a1 ([y2]:List (Int))))-1))with|none=>none|some x10=>match(!(ieq (AX (A9 a1 ([y2]:List (Int))) (AK (IntKind.wrap .i64 ((AH (A9 a1 ([y2]:List (Int))))-1))) 0) y1))with
     |true=>some (.inr (.inl (false,())))
     |false=>match(!y3)with
     |true=>some (.inl (a0,(A9 a1 ([y2]:List (Int))),(Ac a2 y2 (IntKind.wrap .i64 (((AM a2 y2).getD 0)+1))),(Ac a3 y1 (IntKind.wrap .i64 (((AM a3 y1).getD 0)+1))),a4,a5,(IntKind.wrap .i64 (a6+1)),()))
     |false=>some (.inl (a0,(A9 a1 ([y2]:List (Int))),(Ac a2 y2 (IntKind.wrap .i64 (((AM a2 y2).getD 0)+1))),a3,a4,a5,(IntKind.wrap .i64 (a6+1)),()))
    |false=>match(!y3)with
    |true=>some (.inl (a0,(A9 a1 ([y2]:List (Int))),(Ac a2 y2 (IntKind.wrap .i64 (((AM a2 y2).getD 0)+1))),(Ac a3 y1 (IntKind.wrap .i64 (((AM a3 y1).getD 0)+1))),a4,a5,(IntKind.wrap .i64 (a6+1)),()))
    |false=>some (.inl (a0,(A9 a1 ([y2]:List (Int))),(Ac a2 y2 (IntKind.wrap .i64 (((AM a2 y2).getD 0)+1))),a3,a4,a5,(IntKind.wrap .i64 (a6+1)),()))
   |false=>none
  |false=>match(!y3)with
  |true=>match idx a1 (IntKind.wrap .i64 ((AH a1)-1))with|none=>none|some x11=>match(!(ieq (AX a1 (AK (IntKind.wrap .i64 ((AH a1)-1))) 0) y1))with
   |true=>some (.inr (.inl (false,())))
   |false=>match(!y3)with
   |true=>some (.inl (a0,a1,a2,(Ac a3 y1 (IntKind.wrap .i64 (((AM a3 y1).getD 0)+1))),a4,a5,(IntKind.wrap .i64 (a6+1)),()))
   |false=>some (.inl (a0,a1,a2,a3,a4,a5,(IntKind.wrap .i64 (a6+1)),()))
  |false=>match(!y3)with
  |true=>some (.inl (a0,a1,a2,(Ac a3 y1 (IntKind.wrap .i64 (((AM a3 y1).getD 0)+1))),a4,a5,(IntKind.wrap .i64 (a6+1)),()))
  |false=>some (.inl (a0,a1,a2,a3,a4,a5,(IntKind.wrap .i64 (a6+1)),()))
 |false=>some (.inr (.inr (.inl (a1,a2,a3,()))))
def AHj[Lk]:Vl→Option (Uf):=fun(a0,a1,_)=>
 match idx a1 0 with|none=>none|some x0=>match tin (a0,x0,())with|none=>none|some (y1,_)=>match(!y1)with
 |true=>some (false,())
 |false=>match idx a1 0 with|none=>none|some x2=>match idx a1 0 with|none=>none|some x3=>match AU Ii many (a0,([x2]:List (Int)),(Ac ([]:List Ub) x3 1),([]:List Ub),a1,(AH a1),0,())with|none=>none|some r=>match r with
 |.inl (o4,_)=>some (o4,())
 |.inr r=>match r with
 |.inl (o5,o6,o7,_)=>match(ieq (AH o5) 1)with
  |true=>some ((ieq (AH o7) (AH o6)),())
  |false=>some (false,())
 |.inr _=>none
def goes[Lk]:=fun v=>Lk.f (AHj v)
theorem ATN v:goes v=AHj v:=AG _
abbrev Xu:AE:=[(.tmp 0,.dat Up)]
abbrev Xt:AE:=[(.tmp 0,.dat .bool)]
abbrev Xs:List RS:=[.one]
abbrev ADL:AE:=[(.tmp 3,.map U0 U0),(.tmp 78,.di),(.tmp 79,.di)]
abbrev ADI:A0:=[(.ret,[(.tmp 2,.dat .bool)]),(.exit 4,[])]
def EI[Lk]:(List Ub×Int×Int×Unit)→Option ((List Ub×Int×Int×Unit)⊕Uf⊕(Unit)⊕Unit):=fun(a0,a1,a2,_)=>
 match(ilt a2 a1)with
 |true=>match(ieq ((AM a0 a2).getD 0) 0)with
  |true=>some (.inr (.inl (false,())))
  |false=>some (.inl (a0,a1,(IntKind.wrap .i64 (a2+1)),()))
 |false=>some (.inr (.inr (.inl ())))
abbrev ADM:AE:=[(.tmp 1,.box 2),(.cell 0 0,.di),(.cell 0 1,.dat Ue),(.tmp 3,.map U0 U0),(.tmp 4,.di),(.tmp 16,.dat Ue),(.tmp 17,.di),(.tmp 18,.di),(.tmp 26,.dat U4),(.tmp 28,.di),(.tmp 29,.di),(.tmp 30,.dat .bool),(.tmp 33,.dat U4),(.tmp 34,.dat .bool),(.tmp 35,.dat .bool),(.tmp 38,.dat U4),(.tmp 39,.di),(.tmp 40,.dat U4),(.tmp 42,.di),(.tmp 43,.dat .bool),(.tmp 46,.ptr' 0 0),(.tmp 47,.di),(.tmp 48,.dat U4),(.tmp 49,.dat .bool),(.tmp 50,.dat .bool),(.tmp 55,.dat U4),(.tmp 56,.di),(.tmp 57,.di)]
abbrev ADJ:A0:=[(.ret,[(.tmp 2,.dat .bool)]),(.exit 2,[(.tmp 1,.box 2),(.cell 0 0,.di),(.cell 0 1,.dat Ue),(.tmp 3,.map U0 U0),(.tmp 4,.di),(.tmp 16,.dat Ue),(.tmp 17,.di),(.tmp 18,.di),(.tmp 26,.dat U4),(.tmp 28,.di),(.tmp 29,.di),(.tmp 30,.dat .bool),(.tmp 33,.dat U4),(.tmp 34,.dat .bool),(.tmp 35,.dat .bool),(.tmp 38,.dat U4),(.tmp 39,.di),(.tmp 40,.dat U4),(.tmp 42,.di),(.tmp 43,.dat .bool),(.tmp 46,.ptr' 0 0),(.tmp 47,.di),(.tmp 48,.dat U4),(.tmp 49,.dat .bool),(.tmp 50,.dat .bool)])]
def Db[Lk]:Ut→Option (Ut⊕Uf⊕(Int×List U3×List Ub×Int×List U3×Int×Int×List Int×Int×Int×Bool×List Int×Bool×Bool×List Int×Int×List Int×Int×Bool×Int×List Int×Bool×Bool×Unit)⊕Unit):=fun(a0,a1,a2,a3,a4,a5,a6,a7,a8,a9,a10,a11,a12,a13,a14,a15,a16,a17,a18,a19,a20,a21,a22,a23,a24,a25,_)=>
 match(ilt a25 a24)with
 |true=>match idx a23 a25 with|none=>none|some x0=>match(ilt x0 a0)with
  |true=>match(ilt 0 ((AM a2 x0).getD 0))with
   |true=>some (.inr (.inl (false,())))
   |false=>some (.inl (a0,a1,(Ac a2 x0 (IntKind.wrap .i64 (((AM a2 x0).getD 0)+1))),a3,a4,a5,a6,a7,a8,a9,a10,a11,a12,a13,a14,a15,a16,a17,a18,a19,a20,a21,a22,a23,a24,(IntKind.wrap .i64 (a25+1)),()))
  |false=>some (.inl (a0,a1,(Ac a2 x0 (IntKind.wrap .i64 (((AM a2 x0).getD 0)+1))),a3,a4,a5,a6,a7,a8,a9,a10,a11,a12,a13,a14,a15,a16,a17,a18,a19,a20,a21,a22,a23,a24,(IntKind.wrap .i64 (a25+1)),()))
 |false=>some (.inr (.inr (.inl (a0,a1,a2,a3,a4,a5,a6,a7,a8,a9,a10,a11,a12,a13,a14,a15,a16,a17,a18,a19,a20,a21,a22,()))))
abbrev ADN:AE:=[(.tmp 1,.box 2),(.cell 0 0,.di),(.cell 0 1,.dat Ue),(.tmp 3,.map U0 U0),(.tmp 4,.di),(.tmp 16,.dat Ue),(.tmp 17,.di),(.tmp 18,.di)]
abbrev ADK:A0:=[(.ret,[(.tmp 2,.dat .bool)]),(.exit 0,[(.tmp 1,.box 2),(.cell 0 0,.di),(.cell 0 1,.dat Ue),(.tmp 3,.map U0 U0)])]
def Dc[Lk]:(Int×List U3×List Ub×Int×List U3×Int×Int×Unit)→Option ((Int×List U3×List Ub×Int×List U3×Int×Int×Unit)⊕Uf⊕(Int×List U3×List Ub×Unit)⊕Unit):=fun(a0,a1,a2,a3,a4,a5,a6,_)=>
 match(ilt a6 a5)with
 |true=>match idx a4 a6 with|none=>none|some x0=>match(ieq (AH x0) 0)with
  |true=>some (.inr (.inl (false,())))
  |false=>match idx x0 0 with|none=>none|some x1=>match(ile x1 a3)with
  |true=>some (.inr (.inl (false,())))
  |false=>match L0 (x0,())with|none=>none|some (y2,_)=>match(!y2)with
  |true=>some (.inr (.inl (false,())))
  |false=>match AVa (x0,())with|none=>none|some (y3,_)=>match idx x0 0 with|none=>none|some x4=>match(!(ieq y3 x4))with
  |true=>some (.inr (.inl (false,())))
  |false=>match goes (a0,x0,())with|none=>none|some (y5,_)=>match(!y5)with
  |true=>some (.inr (.inl (false,())))
  |false=>match idx x0 0 with|none=>none|some x6=>match AU Db many (a0,a1,a2,x6,a4,a5,a6,x0,x1,a3,(ile x1 a3),x0,y2,(!y2),x0,y3,x0,x4,(!(ieq y3 x4)),a0,x0,y5,(!y5),x0,(AH x0),0,())with|none=>none|some r=>match r with
  |.inl (o7,_)=>some (.inr (.inl (o7,())))
  |.inr r=>match r with
  |.inl (o8,o9,o10,o11,o12,o13,o14,o15,o16,o17,o18,o19,o20,o21,o22,o23,o24,o25,o26,o27,o28,o29,o30,_)=>some (.inl (o8,o9,o10,o11,o12,o13,(IntKind.wrap .i64 (o14+1)),()))
  |.inr _=>none
 |false=>some (.inr (.inr (.inl (a0,a1,a2,()))))
def Pf[Lk]:(Ui×Unit)→Option (Uf):=fun(a0,_)=>
 match Lp (a0.1,())with|none=>none|some (y0,_)=>match(!y0)with
 |true=>some (false,())
 |false=>match AU Dc many (a0.1,a0.2.1,([]:List Ub),(-1:Int),a0.2.1,(AH a0.2.1),0,())with|none=>none|some r=>match r with
 |.inl (o1,_)=>some (o1,())
 |.inr r=>match r with
 |.inl (o2,o3,o4,_)=>match AU EI many (o4,o2,0,())with|none=>none|some r=>match r with
  |.inl (o5,_)=>some (o5,())
  |.inr r=>match r with
  |.inl _=>some (true,())
  |.inr _=>none
 |.inr _=>none
def OH[Lk]:=fun v=>Lk.f (Pf v)
theorem ADO v:OH v=Pf v:=AG _
abbrev AIN:AE:=[(.tmp 0,.dat Up),(.tmp 1,.di),(.tmp 2,.di)]
abbrev AIM:AE:=[(.tmp 0,.di)]
abbrev AIL:List RS:=[.one]
def XG[Lk]:(Ui×Int×Int×Unit)→Option (U8):=fun(a0,a1,a2,_)=>
 match OH ((a0.1,(a0.2.1,())),())with|none=>none|some (y0,_)=>match(!y0)with
 |true=>some (1,())
 |false=>match tin (a0.1,a1,())with|none=>none|some (y1,_)=>match(!y1)with
 |true=>some (10,())
 |false=>match tin (a0.1,a2,())with|none=>none|some (y2,_)=>match(!y2)with
 |true=>some (10,())
 |false=>some (0,())
def asked[Lk]:=fun v=>Lk.f (XG v)
theorem AM3 v:asked v=XG v:=AG _
abbrev AP0:AE:=[(.tmp 0,.di)]
abbrev APz:AE:=[(.tmp 0,.dat .bool)]
abbrev APy:List RS:=[.one]
def KZ[Lk]:U8→Option (Uf):=fun(a0,_)=>
 some ((!(ieq a0 a0)),())
def AZR[Lk]:=fun v=>Lk.f (KZ v)
theorem KY v:AZR v=KZ v:=AG _
abbrev PE:AE:=[(.tmp 0,.di),(.tmp 1,.di)]
abbrev PD:AE:=[(.tmp 0,.di)]
abbrev PC:List RS:=[.one]
def EE[Lk]:U1→Option (U8):=fun(a0,a1,_)=>
 match AZR (a0,())with|none=>none|some (y0,_)=>match AZR (a1,())with|none=>none|some (y1,_)=>match y0 with
 |true=>match y1 with
  |true=>some (0,())
  |false=>some ((-1:Int),())
 |false=>match y1 with
 |true=>some (1,())
 |false=>match(ilt a0 a1)with
 |true=>some ((-1:Int),())
 |false=>match(ilt a1 a0)with
 |true=>some (1,())
 |false=>some (0,())
def DX[Lk]:=fun v=>Lk.f (EE v)
theorem GO v:DX v=EE v:=AG _
abbrev AE4:AE:=[(.tmp 0,.dat U4),(.tmp 1,.dat U4)]
abbrev AE3:AE:=[(.tmp 0,.di)]
abbrev AE2:List RS:=[.one]
def Wt[Lk]:Vb→Option (U8):=fun(a0,a1,_)=>
 match idx a0 0 with|none=>none|some x0=>match idx a1 0 with|none=>none|some x1=>match DX (x0,x1,())with|none=>none|some (y2,_)=>some (y2,())
def BN[Lk]:=fun v=>Lk.f (Wt v)
theorem AIn v:BN v=Wt v:=AG _
def GW:List Int:=[0,1,2,2,3,3,3,3,4,4,4,4,4,4,4,4,5,5,5,5,5,5,5,5,5,5,5,5,5,5,5,5,6,6,6,6,6,6,6,6,6,6,6,6,6,6,6,6,6,6,6,6,6,6,6,6,6,6,6,6,6,6,6,6,7,7,7,7,7,7,7,7,7,7,7,7,7,7,7,7,7,7,7,7,7,7,7,7,7,7,7,7,7,7,7,7,7,7,7,7,7,7,7,7,7,7,7,7,7,7,7,7,7,7,7,7,7,7,7,7,7,7,7,7,7,7,7,7,8,8,8,8,8,8,8,8,8,8,8,8,8,8,8,8,8,8,8,8,8,8,8,8,8,8,8,8,8,8,8,8,8,8,8,8,8,8,8,8,8,8,8,8,8,8,8,8,8,8,8,8,8,8,8,8,8,8,8,8,8,8,8,8,8,8,8,8,8,8,8,8,8,8,8,8,8,8,8,8,8,8,8,8,8,8,8,8,8,8,8,8,8,8,8,8,8,8,8,8,8,8,8,8,8,8,8,8,8,8,8,8,8,8,8,8,8,8,8,8,8,8,8,8,8,8,8,8]
abbrev AHM:AE:=[(.tmp 0,.dat (.int .u64))]
abbrev AHL:AE:=[(.tmp 0,.di)]
abbrev AHK:List RS:=[.one]
def W9[Lk]:U8→Option (U8):=fun(a0,_)=>
 match(ile 4294967296 a0)with
 |true=>match shr? .u64 a0 32 with|none=>none|some x0=>match(ile 65536 x0)with
  |true=>match shr? .u64 x0 16 with|none=>none|some x1=>match(ile 256 x1)with
   |true=>match shr? .u64 x1 8 with|none=>none|some x2=>match idx GW (IntKind.wrap .u8 x2)with|none=>none|some x3=>some ((IntKind.wrap .i64 ((IntKind.wrap .i64 ((IntKind.wrap .i64 (32+16))+8))+(IntKind.wrap .i64 x3))),())
   |false=>match idx GW (IntKind.wrap .u8 x1)with|none=>none|some x4=>some ((IntKind.wrap .i64 ((IntKind.wrap .i64 (32+16))+(IntKind.wrap .i64 x4))),())
  |false=>match(ile 256 x0)with
  |true=>match shr? .u64 x0 8 with|none=>none|some x5=>match idx GW (IntKind.wrap .u8 x5)with|none=>none|some x6=>some ((IntKind.wrap .i64 ((IntKind.wrap .i64 (32+8))+(IntKind.wrap .i64 x6))),())
  |false=>match idx GW (IntKind.wrap .u8 x0)with|none=>none|some x7=>some ((IntKind.wrap .i64 (32+(IntKind.wrap .i64 x7))),())
 |false=>match(ile 65536 a0)with
 |true=>match shr? .u64 a0 16 with|none=>none|some x8=>match(ile 256 x8)with
  |true=>match shr? .u64 x8 8 with|none=>none|some x9=>match idx GW (IntKind.wrap .u8 x9)with|none=>none|some x10=>some ((IntKind.wrap .i64 ((IntKind.wrap .i64 ((IntKind.wrap .i64 (0+16))+8))+(IntKind.wrap .i64 x10))),())
  |false=>match idx GW (IntKind.wrap .u8 x8)with|none=>none|some x11=>some ((IntKind.wrap .i64 ((IntKind.wrap .i64 (0+16))+(IntKind.wrap .i64 x11))),())
 |false=>match(ile 256 a0)with
 |true=>match shr? .u64 a0 8 with|none=>none|some x12=>match idx GW (IntKind.wrap .u8 x12)with|none=>none|some x13=>some ((IntKind.wrap .i64 ((IntKind.wrap .i64 (0+8))+(IntKind.wrap .i64 x13))),())
 |false=>match idx GW (IntKind.wrap .u8 a0)with|none=>none|some x14=>some ((IntKind.wrap .i64 (0+(IntKind.wrap .i64 x14))),())
def ALl[Lk]:=fun v=>Lk.f (W9 v)
theorem ALk v:ALl v=W9 v:=AG _
abbrev Te:AE:=[(.tmp 0,.dat (.int .u64))]
abbrev Td:AE:=[(.tmp 0,.di)]
abbrev Tc:List RS:=[.one]
def NX[Lk]:U8→Option (U8):=fun(a0,_)=>
 match ALl (a0,())with|none=>none|some (y0,_)=>some (y0,())
def bitsLen[Lk]:=fun v=>Lk.f (NX v)
theorem ABd v:bitsLen v=NX v:=AG _
abbrev RX:AE:=[(.tmp 0,.box 1),(.cell 0 0,.dat (.int .u64))]
abbrev RW:AE:=[(.obj 0,.box 1),(.cell 0 0,.dat (.int .u64)),(.tmp 0,.dat (.int .u64))]
abbrev RV:List RS:=[.one]
def M6[Lk]:U8→Option (U1):=fun(a0,_)=>
 match shl? .u64 a0 13 with|none=>none|some x0=>match shr? .u64 (IntKind.wrap .u64 ((BitVec.ofInt (IntKind.bits .u64) a0 ^^^ BitVec.ofInt (IntKind.bits .u64) x0).toNat)) 7 with|none=>none|some x1=>match shl? .u64 (IntKind.wrap .u64 ((BitVec.ofInt (IntKind.bits .u64) (IntKind.wrap .u64 ((BitVec.ofInt (IntKind.bits .u64) a0 ^^^ BitVec.ofInt (IntKind.bits .u64) x0).toNat)) ^^^ BitVec.ofInt (IntKind.bits .u64) x1).toNat)) 17 with|none=>none|some x2=>some ((IntKind.wrap .u64 ((BitVec.ofInt (IntKind.bits .u64) (IntKind.wrap .u64 ((BitVec.ofInt (IntKind.bits .u64) (IntKind.wrap .u64 ((BitVec.ofInt (IntKind.bits .u64) a0 ^^^ BitVec.ofInt (IntKind.bits .u64) x0).toNat)) ^^^ BitVec.ofInt (IntKind.bits .u64) x1).toNat)) ^^^ BitVec.ofInt (IntKind.bits .u64) x2).toNat)),(IntKind.wrap .u64 ((BitVec.ofInt (IntKind.bits .u64) (IntKind.wrap .u64 ((BitVec.ofInt (IntKind.bits .u64) (IntKind.wrap .u64 ((BitVec.ofInt (IntKind.bits .u64) a0 ^^^ BitVec.ofInt (IntKind.bits .u64) x0).toNat)) ^^^ BitVec.ofInt (IntKind.bits .u64) x1).toNat)) ^^^ BitVec.ofInt (IntKind.bits .u64) x2).toNat)),())
def xorNext[Lk]:=fun v=>Lk.f (M6 v)
theorem XO v:xorNext v=M6 v:=AG _
abbrev SQ:AE:=[(.tmp 0,.di)]
abbrev SO:AE:=[(.tmp 0,.dat (.int .u64))]
abbrev SN:List RS:=[.one]
def NK[Lk]:U8→Option (U8):=fun(a0,_)=>
 match bitsLen ((IntKind.wrap .u64 a0),())with|none=>none|some (y0,_)=>match shl? .u64 1 y0 with|none=>none|some x1=>some (x1,())
def QG[Lk]:=fun v=>Lk.f (NK v)
theorem Zs v:QG v=NK v:=AG _
def NN[Lk]{α:Type}(z:α)(c:α×α×Unit→Option U8):(List α×Int×Int×Int×Int×Unit)→Option ((List α×Int×Int×Int×Int×Unit)⊕(List α×Int×Int×Int×Unit)⊕Unit):=fun(a0,a1,a2,a3,a4,_)=>
 match(ilt a1 a4)with
 |true=>match idx a0 a4 with|none=>none|some x0=>match idx a0 (IntKind.wrap .i64 (a4-1))with|none=>none|some x1=>match c ((AX a0 (AK a4) z),(AX a0 (AK (IntKind.wrap .i64 (a4-1))) z),())with|none=>none|some (y2,_)=>match(ilt y2 0)with
  |true=>match idx a0 (IntKind.wrap .i64 (a4-1))with|none=>none|some x3=>match idx a0 a4 with|none=>none|some x4=>match idx a0 a4 with|none=>none|some x5=>match idx (BA a0 (AK a4) (AX a0 (AK (IntKind.wrap .i64 (a4-1))) z)) (IntKind.wrap .i64 (a4-1))with|none=>none|some x6=>some (.inl ((BA (BA a0 (AK a4) (AX a0 (AK (IntKind.wrap .i64 (a4-1))) z)) (AK (IntKind.wrap .i64 (a4-1))) (AX a0 (AK a4) z)),a1,a2,a3,(IntKind.wrap .i64 (a4-1)),()))
  |false=>some (.inr (.inl (a0,a1,a2,a3,())))
 |false=>some (.inr (.inl (a0,a1,a2,a3,())))
def NO[Lk]{α:Type}(z:α)(c:α×α×Unit→Option U8):(List α×Int×Int×Int×Unit)→Option ((List α×Int×Int×Int×Unit)⊕(List α×Unit)⊕Unit):=fun(a0,a1,a2,a3,_)=>
 match(ilt a3 a2)with
 |true=>match AU (NN z c) many (a0,a1,a2,a3,a3,())with|none=>none|some r=>match r with
  |.inl (o0,o1,o2,o3,_)=>some (.inl (o0,o1,o2,(IntKind.wrap .i64 (o3+1)),()))
  |.inr _=>none
 |false=>some (.inr (.inl (a0,())))
def AAG[Lk]{α:Type}(z:α)(c:α×α×Unit→Option U8):(List α×Int×Int×Unit)→Option ((List α×Unit)):=fun(a0,a1,a2,_)=>
 match AU (NO z c) many (a0,a1,a2,(IntKind.wrap .i64 (a1+1)),())with|none=>none|some r=>match r with
 |.inl (o0,_)=>some (o0,())
 |.inr _=>none
def AZl[Lk]{α:Type}(z:α)(c:α×α×Unit→Option U8)(v:(List α×Int×Int×Unit)):Option ((List α×Unit)):=Lk.f ((AAG z c) v)
theorem AcX{α:Type}(z:α)(c:α×α×Unit→Option U8)(v:(List α×Int×Int×Unit)):(AZl z c) v=(AAG z c) v:=AG _
def Jh[Lk]{α:Type}(z:α)(c:α×α×Unit→Option U8):(List α×Int×Int×Int×Unit)→Option ((List α×Int×Int×Int×Unit)⊕(List α×Unit)⊕(List α×Unit)⊕Unit):=fun(a0,a1,a2,a3,_)=>
 match(ile a1 (IntKind.wrap .i64 ((IntKind.wrap .i64 (2*a3))+1)))with
 |true=>some (.inr (.inl (a0,())))
 |false=>match(ilt (IntKind.wrap .i64 ((IntKind.wrap .i64 ((IntKind.wrap .i64 (2*a3))+1))+1)) a1)with
 |true=>match idx a0 (IntKind.wrap .i64 (a2+(IntKind.wrap .i64 ((IntKind.wrap .i64 (2*a3))+1))))with|none=>none|some x0=>match idx a0 (IntKind.wrap .i64 ((IntKind.wrap .i64 (a2+(IntKind.wrap .i64 ((IntKind.wrap .i64 (2*a3))+1))))+1))with|none=>none|some x1=>match c ((AX a0 (AK (IntKind.wrap .i64 (a2+(IntKind.wrap .i64 ((IntKind.wrap .i64 (2*a3))+1))))) z),(AX a0 (AK (IntKind.wrap .i64 ((IntKind.wrap .i64 (a2+(IntKind.wrap .i64 ((IntKind.wrap .i64 (2*a3))+1))))+1))) z),())with|none=>none|some (y2,_)=>match(ilt y2 0)with
  |true=>match idx a0 (IntKind.wrap .i64 (a2+a3))with|none=>none|some x3=>match idx a0 (IntKind.wrap .i64 (a2+(IntKind.wrap .i64 ((IntKind.wrap .i64 ((IntKind.wrap .i64 (2*a3))+1))+1))))with|none=>none|some x4=>match c ((AX a0 (AK (IntKind.wrap .i64 (a2+a3))) z),(AX a0 (AK (IntKind.wrap .i64 (a2+(IntKind.wrap .i64 ((IntKind.wrap .i64 ((IntKind.wrap .i64 (2*a3))+1))+1))))) z),())with|none=>none|some (y5,_)=>match(!(ilt y5 0))with
   |true=>some (.inr (.inr (.inl (a0,()))))
   |false=>match idx a0 (IntKind.wrap .i64 (a2+(IntKind.wrap .i64 ((IntKind.wrap .i64 ((IntKind.wrap .i64 (2*a3))+1))+1))))with|none=>none|some x6=>match idx a0 (IntKind.wrap .i64 (a2+a3))with|none=>none|some x7=>match idx a0 (IntKind.wrap .i64 (a2+a3))with|none=>none|some x8=>match idx (BA a0 (AK (IntKind.wrap .i64 (a2+a3))) (AX a0 (AK (IntKind.wrap .i64 (a2+(IntKind.wrap .i64 ((IntKind.wrap .i64 ((IntKind.wrap .i64 (2*a3))+1))+1))))) z)) (IntKind.wrap .i64 (a2+(IntKind.wrap .i64 ((IntKind.wrap .i64 ((IntKind.wrap .i64 (2*a3))+1))+1))))with|none=>none|some x9=>some (.inl ((BA (BA a0 (AK (IntKind.wrap .i64 (a2+a3))) (AX a0 (AK (IntKind.wrap .i64 (a2+(IntKind.wrap .i64 ((IntKind.wrap .i64 ((IntKind.wrap .i64 (2*a3))+1))+1))))) z)) (AK (IntKind.wrap .i64 (a2+(IntKind.wrap .i64 ((IntKind.wrap .i64 ((IntKind.wrap .i64 (2*a3))+1))+1))))) (AX a0 (AK (IntKind.wrap .i64 (a2+a3))) z)),a1,a2,(IntKind.wrap .i64 ((IntKind.wrap .i64 ((IntKind.wrap .i64 (2*a3))+1))+1)),()))
  |false=>match idx a0 (IntKind.wrap .i64 (a2+a3))with|none=>none|some x10=>match idx a0 (IntKind.wrap .i64 (a2+(IntKind.wrap .i64 ((IntKind.wrap .i64 (2*a3))+1))))with|none=>none|some x11=>match c ((AX a0 (AK (IntKind.wrap .i64 (a2+a3))) z),(AX a0 (AK (IntKind.wrap .i64 (a2+(IntKind.wrap .i64 ((IntKind.wrap .i64 (2*a3))+1))))) z),())with|none=>none|some (y12,_)=>match(!(ilt y12 0))with
  |true=>some (.inr (.inr (.inl (a0,()))))
  |false=>match idx a0 (IntKind.wrap .i64 (a2+(IntKind.wrap .i64 ((IntKind.wrap .i64 (2*a3))+1))))with|none=>none|some x13=>match idx a0 (IntKind.wrap .i64 (a2+a3))with|none=>none|some x14=>match idx a0 (IntKind.wrap .i64 (a2+a3))with|none=>none|some x15=>match idx (BA a0 (AK (IntKind.wrap .i64 (a2+a3))) (AX a0 (AK (IntKind.wrap .i64 (a2+(IntKind.wrap .i64 ((IntKind.wrap .i64 (2*a3))+1))))) z)) (IntKind.wrap .i64 (a2+(IntKind.wrap .i64 ((IntKind.wrap .i64 (2*a3))+1))))with|none=>none|some x16=>some (.inl ((BA (BA a0 (AK (IntKind.wrap .i64 (a2+a3))) (AX a0 (AK (IntKind.wrap .i64 (a2+(IntKind.wrap .i64 ((IntKind.wrap .i64 (2*a3))+1))))) z)) (AK (IntKind.wrap .i64 (a2+(IntKind.wrap .i64 ((IntKind.wrap .i64 (2*a3))+1))))) (AX a0 (AK (IntKind.wrap .i64 (a2+a3))) z)),a1,a2,(IntKind.wrap .i64 ((IntKind.wrap .i64 (2*a3))+1)),()))
 |false=>match idx a0 (IntKind.wrap .i64 (a2+a3))with|none=>none|some x17=>match idx a0 (IntKind.wrap .i64 (a2+(IntKind.wrap .i64 ((IntKind.wrap .i64 (2*a3))+1))))with|none=>none|some x18=>match c ((AX a0 (AK (IntKind.wrap .i64 (a2+a3))) z),(AX a0 (AK (IntKind.wrap .i64 (a2+(IntKind.wrap .i64 ((IntKind.wrap .i64 (2*a3))+1))))) z),())with|none=>none|some (y19,_)=>match(!(ilt y19 0))with
 |true=>some (.inr (.inr (.inl (a0,()))))
 |false=>match idx a0 (IntKind.wrap .i64 (a2+(IntKind.wrap .i64 ((IntKind.wrap .i64 (2*a3))+1))))with|none=>none|some x20=>match idx a0 (IntKind.wrap .i64 (a2+a3))with|none=>none|some x21=>match idx a0 (IntKind.wrap .i64 (a2+a3))with|none=>none|some x22=>match idx (BA a0 (AK (IntKind.wrap .i64 (a2+a3))) (AX a0 (AK (IntKind.wrap .i64 (a2+(IntKind.wrap .i64 ((IntKind.wrap .i64 (2*a3))+1))))) z)) (IntKind.wrap .i64 (a2+(IntKind.wrap .i64 ((IntKind.wrap .i64 (2*a3))+1))))with|none=>none|some x23=>some (.inl ((BA (BA a0 (AK (IntKind.wrap .i64 (a2+a3))) (AX a0 (AK (IntKind.wrap .i64 (a2+(IntKind.wrap .i64 ((IntKind.wrap .i64 (2*a3))+1))))) z)) (AK (IntKind.wrap .i64 (a2+(IntKind.wrap .i64 ((IntKind.wrap .i64 (2*a3))+1))))) (AX a0 (AK (IntKind.wrap .i64 (a2+a3))) z)),a1,a2,(IntKind.wrap .i64 ((IntKind.wrap .i64 (2*a3))+1)),()))
def Pn[Lk]{α:Type}(z:α)(c:α×α×Unit→Option U8):(List α×Int×Int×Int×Unit)→Option ((List α×Unit)):=fun(a0,a1,a2,a3,_)=>
 match AU (Jh z c) many (a0,a2,a3,a1,())with|none=>none|some r=>match r with
 |.inl (o0,_)=>some (o0,())
 |.inr r=>match r with
 |.inl (o1,_)=>some (o1,())
 |.inr _=>none
def ADa[Lk]{α:Type}(z:α)(c:α×α×Unit→Option U8)(v:(List α×Int×Int×Int×Unit)):Option ((List α×Unit)):=Lk.f ((Pn z c) v)
theorem AX8{α:Type}(z:α)(c:α×α×Unit→Option U8)(v:(List α×Int×Int×Int×Unit)):(ADa z c) v=(Pn z c) v:=AG _
def Jx[Lk]{α:Type}(z:α)(c:α×α×Unit→Option U8):(List α×Int×Int×Int×Unit)→Option ((List α×Int×Int×Int×Unit)⊕(List α×Unit)⊕Unit):=fun(a0,a1,a2,a3,_)=>
 match(ile 0 a3)with
 |true=>match idx a0 (IntKind.wrap .i64 (a1+a3))with|none=>none|some x0=>match idx a0 a1 with|none=>none|some x1=>match idx a0 a1 with|none=>none|some x2=>match idx (BA a0 (AK a1) (AX a0 (AK (IntKind.wrap .i64 (a1+a3))) z)) (IntKind.wrap .i64 (a1+a3))with|none=>none|some x3=>match(ADa z c) ((BA (BA a0 (AK a1) (AX a0 (AK (IntKind.wrap .i64 (a1+a3))) z)) (AK (IntKind.wrap .i64 (a1+a3))) (AX a0 (AK a1) z)),a2,a3,a1,())with|none=>none|some (y4,_)=>some (.inl (y4,a1,a2,(IntKind.wrap .i64 (a3-1)),()))
 |false=>some (.inr (.inl (a0,())))
def Jy[Lk]{α:Type}(z:α)(c:α×α×Unit→Option U8):(List α×Int×Int×Int×Int×Unit)→Option ((List α×Int×Int×Int×Int×Unit)⊕(List α×Int×Int×Int×Unit)⊕Unit):=fun(a0,a1,a2,a3,a4,_)=>
 match(ile 0 a4)with
 |true=>match(ADa z c) (a0,a4,a3,a1,())with|none=>none|some (y0,_)=>some (.inl (y0,a1,a2,a3,(IntKind.wrap .i64 (a4-1)),()))
 |false=>some (.inr (.inl (a0,a1,a2,a3,())))
def QZ[Lk]{α:Type}(z:α)(c:α×α×Unit→Option U8):(List α×Int×Int×Unit)→Option ((List α×Unit)):=fun(a0,a1,a2,_)=>
 match quo? .i64 (IntKind.wrap .i64 ((IntKind.wrap .i64 (a2-a1))-1)) 2 with|none=>none|some x0=>match AU (Jy z c) many (a0,a1,0,(IntKind.wrap .i64 (a2-a1)),x0,())with|none=>none|some r=>match r with
 |.inl (o1,o2,o3,o4,_)=>match AU (Jx z c) many (o1,o2,o3,(IntKind.wrap .i64 (o4-1)),())with|none=>none|some r=>match r with
  |.inl (o5,_)=>some (o5,())
  |.inr _=>none
 |.inr _=>none
def AL0[Lk]{α:Type}(z:α)(c:α×α×Unit→Option U8)(v:(List α×Int×Int×Unit)):Option ((List α×Unit)):=Lk.f ((QZ z c) v)
theorem AZ2{α:Type}(z:α)(c:α×α×Unit→Option U8)(v:(List α×Int×Int×Unit)):(AL0 z c) v=(QZ z c) v:=AG _
def Fc[Lk]{α:Type}(z:α)(c:α×α×Unit→Option U8):(List α×Int×Int×Int×Int×Int×Unit)→Option ((List α×Int×Int×Int×Int×Int×Unit)⊕(List α×Unit)⊕Unit):=fun(a0,a1,a2,a3,a4,a5,_)=>
 match quo? .i64 a2 4 with|none=>none|some x0=>match(ile a5 (IntKind.wrap .i64 ((IntKind.wrap .i64 (a1+(IntKind.wrap .i64 (x0*2))))+1)))with
 |true=>match xorNext (a3,())with|none=>none|some (y1,y2,_)=>match(ile a2 (IntKind.wrap .i64 (IntKind.wrap .u64 ((BitVec.ofInt (IntKind.bits .u64) y2 &&& BitVec.ofInt (IntKind.bits .u64) (IntKind.wrap .u64 (a4-1))).toNat))))with
  |true=>match idx a0 (IntKind.wrap .i64 (a1+(IntKind.wrap .i64 ((IntKind.wrap .i64 (IntKind.wrap .u64 ((BitVec.ofInt (IntKind.bits .u64) y2 &&& BitVec.ofInt (IntKind.bits .u64) (IntKind.wrap .u64 (a4-1))).toNat)))-a2))))with|none=>none|some x3=>match idx a0 a5 with|none=>none|some x4=>match idx a0 a5 with|none=>none|some x5=>match idx (BA a0 (AK a5) (AX a0 (AK (IntKind.wrap .i64 (a1+(IntKind.wrap .i64 ((IntKind.wrap .i64 (IntKind.wrap .u64 ((BitVec.ofInt (IntKind.bits .u64) y2 &&& BitVec.ofInt (IntKind.bits .u64) (IntKind.wrap .u64 (a4-1))).toNat)))-a2))))) z)) (IntKind.wrap .i64 (a1+(IntKind.wrap .i64 ((IntKind.wrap .i64 (IntKind.wrap .u64 ((BitVec.ofInt (IntKind.bits .u64) y2 &&& BitVec.ofInt (IntKind.bits .u64) (IntKind.wrap .u64 (a4-1))).toNat)))-a2))))with|none=>none|some x6=>some (.inl ((BA (BA a0 (AK a5) (AX a0 (AK (IntKind.wrap .i64 (a1+(IntKind.wrap .i64 ((IntKind.wrap .i64 (IntKind.wrap .u64 ((BitVec.ofInt (IntKind.bits .u64) y2 &&& BitVec.ofInt (IntKind.bits .u64) (IntKind.wrap .u64 (a4-1))).toNat)))-a2))))) z)) (AK (IntKind.wrap .i64 (a1+(IntKind.wrap .i64 ((IntKind.wrap .i64 (IntKind.wrap .u64 ((BitVec.ofInt (IntKind.bits .u64) y2 &&& BitVec.ofInt (IntKind.bits .u64) (IntKind.wrap .u64 (a4-1))).toNat)))-a2))))) (AX a0 (AK a5) z)),a1,a2,y1,a4,(IntKind.wrap .i64 (a5+1)),()))
  |false=>match idx a0 (IntKind.wrap .i64 (a1+(IntKind.wrap .i64 (IntKind.wrap .u64 ((BitVec.ofInt (IntKind.bits .u64) y2 &&& BitVec.ofInt (IntKind.bits .u64) (IntKind.wrap .u64 (a4-1))).toNat)))))with|none=>none|some x7=>match idx a0 a5 with|none=>none|some x8=>match idx a0 a5 with|none=>none|some x9=>match idx (BA a0 (AK a5) (AX a0 (AK (IntKind.wrap .i64 (a1+(IntKind.wrap .i64 (IntKind.wrap .u64 ((BitVec.ofInt (IntKind.bits .u64) y2 &&& BitVec.ofInt (IntKind.bits .u64) (IntKind.wrap .u64 (a4-1))).toNat)))))) z)) (IntKind.wrap .i64 (a1+(IntKind.wrap .i64 (IntKind.wrap .u64 ((BitVec.ofInt (IntKind.bits .u64) y2 &&& BitVec.ofInt (IntKind.bits .u64) (IntKind.wrap .u64 (a4-1))).toNat)))))with|none=>none|some x10=>some (.inl ((BA (BA a0 (AK a5) (AX a0 (AK (IntKind.wrap .i64 (a1+(IntKind.wrap .i64 (IntKind.wrap .u64 ((BitVec.ofInt (IntKind.bits .u64) y2 &&& BitVec.ofInt (IntKind.bits .u64) (IntKind.wrap .u64 (a4-1))).toNat)))))) z)) (AK (IntKind.wrap .i64 (a1+(IntKind.wrap .i64 (IntKind.wrap .u64 ((BitVec.ofInt (IntKind.bits .u64) y2 &&& BitVec.ofInt (IntKind.bits .u64) (IntKind.wrap .u64 (a4-1))).toNat)))))) (AX a0 (AK a5) z)),a1,a2,y1,a4,(IntKind.wrap .i64 (a5+1)),()))
 |false=>some (.inr (.inl (a0,())))
def Mo[Lk]{α:Type}(z:α)(c:α×α×Unit→Option U8):(List α×Int×Int×Unit)→Option ((List α×Unit)):=fun(a0,a1,a2,_)=>
 match(ile 8 (IntKind.wrap .i64 (a2-a1)))with
 |true=>match QG ((IntKind.wrap .i64 (a2-a1)),())with|none=>none|some (y0,_)=>match quo? .i64 (IntKind.wrap .i64 (a2-a1)) 4 with|none=>none|some x1=>match AU (Fc z c) many (a0,a1,(IntKind.wrap .i64 (a2-a1)),(IntKind.wrap .u64 (IntKind.wrap .i64 (a2-a1))),y0,(IntKind.wrap .i64 ((IntKind.wrap .i64 (a1+(IntKind.wrap .i64 (x1*2))))-1)),())with|none=>none|some r=>match r with
  |.inl (o2,_)=>some (o2,())
  |.inr _=>none
 |false=>some (a0,())
def ABX[Lk]{α:Type}(z:α)(c:α×α×Unit→Option U8)(v:(List α×Int×Int×Unit)):Option ((List α×Unit)):=Lk.f ((Mo z c) v)
theorem AWx{α:Type}(z:α)(c:α×α×Unit→Option U8)(v:(List α×Int×Int×Unit)):(ABX z c) v=(Mo z c) v:=AG _
def Jn[Lk]{α:Type}(z:α)(c:α×α×Unit→Option U8):(List α×Int×Int×Int×Unit)→Option ((List α×Int×Int×Int×Unit)):=fun(a0,a1,a2,a3,_)=>
 match idx a0 a2 with|none=>none|some x0=>match idx a0 a1 with|none=>none|some x1=>match c ((AX a0 (AK a2) z),(AX a0 (AK a1) z),())with|none=>none|some (y2,_)=>match(ilt y2 0)with
 |true=>some (a0,(IntKind.wrap .i64 (a3+1)),a2,a1,())
 |false=>some (a0,a3,a1,a2,())
def KU[Lk]{α:Type}(z:α)(c:α×α×Unit→Option U8)(v:(List α×Int×Int×Int×Unit)):Option ((List α×Int×Int×Int×Unit)):=Lk.f ((Jn z c) v)
theorem APl{α:Type}(z:α)(c:α×α×Unit→Option U8)(v:(List α×Int×Int×Int×Unit)):(KU z c) v=(Jn z c) v:=AG _
def Jq[Lk]{α:Type}(z:α)(c:α×α×Unit→Option U8):(List α×Int×Int×Int×Int×Unit)→Option ((List α×Int×Int×Unit)):=fun(a0,a1,a2,a3,a4,_)=>
 match(KU z c) (a0,a1,a2,a4,())with|none=>none|some (y0,y1,y2,y3,_)=>match(KU z c) (y0,y3,a3,y1,())with|none=>none|some (y4,y5,y6,y7,_)=>match(KU z c) (y4,y2,y6,y5,())with|none=>none|some (y8,y9,y10,y11,_)=>some (y8,y9,y11,())
def Kc[Lk]{α:Type}(z:α)(c:α×α×Unit→Option U8)(v:(List α×Int×Int×Int×Int×Unit)):Option ((List α×Int×Int×Unit)):=Lk.f ((Jq z c) v)
theorem AP9{α:Type}(z:α)(c:α×α×Unit→Option U8)(v:(List α×Int×Int×Int×Int×Unit)):(Kc z c) v=(Jq z c) v:=AG _
def Jr[Lk]{α:Type}(z:α)(c:α×α×Unit→Option U8):(List α×Int×Int×Unit)→Option ((List α×Int×Int×Unit)):=fun(a0,a1,a2,_)=>
 match(Kc z c) (a0,(IntKind.wrap .i64 (a1-1)),a1,(IntKind.wrap .i64 (a1+1)),a2,())with|none=>none|some (y0,y1,y2,_)=>some (y0,y1,y2,())
def Kd[Lk]{α:Type}(z:α)(c:α×α×Unit→Option U8)(v:(List α×Int×Int×Unit)):Option ((List α×Int×Int×Unit)):=Lk.f ((Jr z c) v)
theorem AQC{α:Type}(z:α)(c:α×α×Unit→Option U8)(v:(List α×Int×Int×Unit)):(Kd z c) v=(Jr z c) v:=AG _
def L9[Lk]{α:Type}(z:α)(c:α×α×Unit→Option U8):(List α×Int×Int×Unit)→Option ((List α×Int×Int×Unit)):=fun(a0,a1,a2,_)=>
 match quo? .i64 (IntKind.wrap .i64 (a2-a1)) 4 with|none=>none|some x0=>match quo? .i64 (IntKind.wrap .i64 (a2-a1)) 4 with|none=>none|some x1=>match quo? .i64 (IntKind.wrap .i64 (a2-a1)) 4 with|none=>none|some x2=>match(ile 8 (IntKind.wrap .i64 (a2-a1)))with
 |true=>match(ile 50 (IntKind.wrap .i64 (a2-a1)))with
  |true=>match(Kd z c) (a0,(IntKind.wrap .i64 (a1+(IntKind.wrap .i64 (x0*1)))),0,())with|none=>none|some (y3,y4,y5,_)=>match(Kd z c) (y3,(IntKind.wrap .i64 (a1+(IntKind.wrap .i64 (x1*2)))),y4,())with|none=>none|some (y6,y7,y8,_)=>match(Kd z c) (y6,(IntKind.wrap .i64 (a1+(IntKind.wrap .i64 (x2*3)))),y7,())with|none=>none|some (y9,y10,y11,_)=>match(Kc z c) (y9,y5,y8,y11,y10,())with|none=>none|some (y12,y13,y14,_)=>match(ieq y13 0)with
   |true=>some (y12,y14,1,())
   |false=>match(ieq y13 12)with
   |true=>some (y12,y14,2,())
   |false=>some (y12,y14,0,())
  |false=>match(Kc z c) (a0,(IntKind.wrap .i64 (a1+(IntKind.wrap .i64 (x0*1)))),(IntKind.wrap .i64 (a1+(IntKind.wrap .i64 (x1*2)))),(IntKind.wrap .i64 (a1+(IntKind.wrap .i64 (x2*3)))),0,())with|none=>none|some (y15,y16,y17,_)=>match(ieq y16 0)with
  |true=>some (y15,y17,1,())
  |false=>match(ieq y16 12)with
  |true=>some (y15,y17,2,())
  |false=>some (y15,y17,0,())
 |false=>match(ieq 0 0)with
 |true=>some (a0,(IntKind.wrap .i64 (a1+(IntKind.wrap .i64 (x1*2)))),1,())
 |false=>match(ieq 0 12)with
 |true=>some (a0,(IntKind.wrap .i64 (a1+(IntKind.wrap .i64 (x1*2)))),2,())
 |false=>some (a0,(IntKind.wrap .i64 (a1+(IntKind.wrap .i64 (x1*2)))),0,())
def Yz[Lk]{α:Type}(z:α)(c:α×α×Unit→Option U8)(v:(List α×Int×Int×Unit)):Option ((List α×Int×Int×Unit)):=Lk.f ((L9 z c) v)
theorem AU2{α:Type}(z:α)(c:α×α×Unit→Option U8)(v:(List α×Int×Int×Unit)):(Yz z c) v=(L9 z c) v:=AG _
def P2[Lk]{α:Type}(z:α)(c:α×α×Unit→Option U8):(List α×Int×Int×Unit)→Option ((List α×Int×Int×Unit)⊕(List α×Unit)⊕Unit):=fun(a0,a1,a2,_)=>
 match(ilt a1 a2)with
 |true=>match idx a0 a2 with|none=>none|some x0=>match idx a0 a1 with|none=>none|some x1=>match idx a0 a1 with|none=>none|some x2=>match idx (BA a0 (AK a1) (AX a0 (AK a2) z)) a2 with|none=>none|some x3=>some (.inl ((BA (BA a0 (AK a1) (AX a0 (AK a2) z)) (AK a2) (AX a0 (AK a1) z)),(IntKind.wrap .i64 (a1+1)),(IntKind.wrap .i64 (a2-1)),()))
 |false=>some (.inr (.inl (a0,())))
def Yi[Lk]{α:Type}(z:α)(c:α×α×Unit→Option U8):(List α×Int×Int×Unit)→Option ((List α×Unit)):=fun(a0,a1,a2,_)=>
 match AU (P2 z c) many (a0,a1,(IntKind.wrap .i64 (a2-1)),())with|none=>none|some r=>match r with
 |.inl (o0,_)=>some (o0,())
 |.inr _=>none
def AYS[Lk]{α:Type}(z:α)(c:α×α×Unit→Option U8)(v:(List α×Int×Int×Unit)):Option ((List α×Unit)):=Lk.f ((Yi z c) v)
theorem Abt{α:Type}(z:α)(c:α×α×Unit→Option U8)(v:(List α×Int×Int×Unit)):(AYS z c) v=(Yi z c) v:=AG _
def EN[Lk]{α:Type}(z:α)(c:α×α×Unit→Option U8):(List α×Int×Int×Int×Int×Int×Unit)→Option ((List α×Int×Int×Int×Int×Int×Unit)⊕(List α×Int×Int×Int×Int×Unit)⊕Unit):=fun(a0,a1,a2,a3,a4,a5,_)=>
 match(ilt a5 a2)with
 |true=>match idx a0 a5 with|none=>none|some x0=>match idx a0 (IntKind.wrap .i64 (a5-1))with|none=>none|some x1=>match c ((AX a0 (AK a5) z),(AX a0 (AK (IntKind.wrap .i64 (a5-1))) z),())with|none=>none|some (y2,_)=>match(!(ilt y2 0))with
  |true=>some (.inr (.inl (a0,a1,a2,a3,a4,())))
  |false=>match idx a0 (IntKind.wrap .i64 (a5-1))with|none=>none|some x3=>match idx a0 a5 with|none=>none|some x4=>match idx a0 a5 with|none=>none|some x5=>match idx (BA a0 (AK a5) (AX a0 (AK (IntKind.wrap .i64 (a5-1))) z)) (IntKind.wrap .i64 (a5-1))with|none=>none|some x6=>some (.inl ((BA (BA a0 (AK a5) (AX a0 (AK (IntKind.wrap .i64 (a5-1))) z)) (AK (IntKind.wrap .i64 (a5-1))) (AX a0 (AK a5) z)),a1,a2,a3,a4,(IntKind.wrap .i64 (a5+1)),()))
 |false=>some (.inr (.inl (a0,a1,a2,a3,a4,())))
def EO[Lk]{α:Type}(z:α)(c:α×α×Unit→Option U8):(List α×Int×Int×Int×Int×Int×Unit)→Option ((List α×Int×Int×Int×Int×Int×Unit)⊕(List α×Int×Int×Int×Int×Unit)⊕Unit):=fun(a0,a1,a2,a3,a4,a5,_)=>
 match(ile 1 a5)with
 |true=>match idx a0 a5 with|none=>none|some x0=>match idx a0 (IntKind.wrap .i64 (a5-1))with|none=>none|some x1=>match c ((AX a0 (AK a5) z),(AX a0 (AK (IntKind.wrap .i64 (a5-1))) z),())with|none=>none|some (y2,_)=>match(!(ilt y2 0))with
  |true=>some (.inr (.inl (a0,a1,a2,a3,a4,())))
  |false=>match idx a0 (IntKind.wrap .i64 (a5-1))with|none=>none|some x3=>match idx a0 a5 with|none=>none|some x4=>match idx a0 a5 with|none=>none|some x5=>match idx (BA a0 (AK a5) (AX a0 (AK (IntKind.wrap .i64 (a5-1))) z)) (IntKind.wrap .i64 (a5-1))with|none=>none|some x6=>some (.inl ((BA (BA a0 (AK a5) (AX a0 (AK (IntKind.wrap .i64 (a5-1))) z)) (AK (IntKind.wrap .i64 (a5-1))) (AX a0 (AK a5) z)),a1,a2,a3,a4,(IntKind.wrap .i64 (a5-1)),()))
 |false=>some (.inr (.inl (a0,a1,a2,a3,a4,())))
def GF[Lk]{α:Type}(z:α)(c:α×α×Unit→Option U8):(List α×Int×Int×Int×Int×Unit)→Option ((List α×Int×Int×Int×Int×Unit)⊕(List α×Int×Int×Int×Int×Unit)⊕Unit):=fun(a0,a1,a2,a3,a4,_)=>
 match(ilt a3 a2)with
 |true=>match idx a0 a3 with|none=>none|some x0=>match idx a0 (IntKind.wrap .i64 (a3-1))with|none=>none|some x1=>match c ((AX a0 (AK a3) z),(AX a0 (AK (IntKind.wrap .i64 (a3-1))) z),())with|none=>none|some (y2,_)=>match(!(ilt y2 0))with
  |true=>some (.inl (a0,a1,a2,(IntKind.wrap .i64 (a3+1)),a4,()))
  |false=>some (.inr (.inl (a0,a1,a2,a3,a4,())))
 |false=>some (.inr (.inl (a0,a1,a2,a3,a4,())))
def CV[Lk]{α:Type}(z:α)(c:α×α×Unit→Option U8):(List α×Int×Int×Int×Int×Unit)→Option ((List α×Int×Int×Int×Int×Unit)⊕(List α×Bool×Unit)⊕(List α×Unit)⊕Unit):=fun(a0,a1,a2,a3,a4,_)=>
 match(ilt a4 5)with
 |true=>match AU (GF z c) many (a0,a1,a2,a3,a4,())with|none=>none|some r=>match r with
  |.inl (o0,o1,o2,o3,o4,_)=>match(ieq o3 o2)with
   |true=>some (.inr (.inl (o0,true,())))
   |false=>match(ilt (IntKind.wrap .i64 (o2-o1)) 50)with
   |true=>some (.inr (.inl (o0,false,())))
   |false=>match idx o0 (IntKind.wrap .i64 (o3-1))with|none=>none|some x5=>match idx o0 o3 with|none=>none|some x6=>match idx o0 o3 with|none=>none|some x7=>match idx (BA o0 (AK o3) (AX o0 (AK (IntKind.wrap .i64 (o3-1))) z)) (IntKind.wrap .i64 (o3-1))with|none=>none|some x8=>match(ile 2 (IntKind.wrap .i64 (o3-o1)))with
   |true=>match AU (EO z c) many ((BA (BA o0 (AK o3) (AX o0 (AK (IntKind.wrap .i64 (o3-1))) z)) (AK (IntKind.wrap .i64 (o3-1))) (AX o0 (AK o3) z)),o1,o2,o3,o4,(IntKind.wrap .i64 (o3-1)),())with|none=>none|some r=>match r with
    |.inl (o9,o10,o11,o12,o13,_)=>match(ile 2 (IntKind.wrap .i64 (o11-o12)))with
     |true=>match AU (EN z c) many (o9,o10,o11,o12,o13,(IntKind.wrap .i64 (o12+1)),())with|none=>none|some r=>match r with
      |.inl (o14,o15,o16,o17,o18,_)=>some (.inl (o14,o15,o16,o17,(IntKind.wrap .i64 (o18+1)),()))
      |.inr _=>none
     |false=>some (.inl (o9,o10,o11,o12,(IntKind.wrap .i64 (o13+1)),()))
    |.inr _=>none
   |false=>match(ile 2 (IntKind.wrap .i64 (o2-o3)))with
   |true=>match AU (EN z c) many ((BA (BA o0 (AK o3) (AX o0 (AK (IntKind.wrap .i64 (o3-1))) z)) (AK (IntKind.wrap .i64 (o3-1))) (AX o0 (AK o3) z)),o1,o2,o3,o4,(IntKind.wrap .i64 (o3+1)),())with|none=>none|some r=>match r with
    |.inl (o19,o20,o21,o22,o23,_)=>some (.inl (o19,o20,o21,o22,(IntKind.wrap .i64 (o23+1)),()))
    |.inr _=>none
   |false=>some (.inl ((BA (BA o0 (AK o3) (AX o0 (AK (IntKind.wrap .i64 (o3-1))) z)) (AK (IntKind.wrap .i64 (o3-1))) (AX o0 (AK o3) z)),o1,o2,o3,(IntKind.wrap .i64 (o4+1)),()))
  |.inr _=>none
 |false=>some (.inr (.inr (.inl (a0,()))))
def Hb[Lk]{α:Type}(z:α)(c:α×α×Unit→Option U8):(List α×Int×Int×Unit)→Option ((List α×Bool×Unit)):=fun(a0,a1,a2,_)=>
 match AU (CV z c) many (a0,a1,a2,(IntKind.wrap .i64 (a1+1)),0,())with|none=>none|some r=>match r with
 |.inl (o0,o1,_)=>some (o0,o1,())
 |.inr r=>match r with
 |.inl (o2,_)=>some (o2,false,())
 |.inr _=>none
def MA[Lk]{α:Type}(z:α)(c:α×α×Unit→Option U8)(v:(List α×Int×Int×Unit)):Option ((List α×Bool×Unit)):=Lk.f ((Hb z c) v)
theorem AKj{α:Type}(z:α)(c:α×α×Unit→Option U8)(v:(List α×Int×Int×Unit)):(MA z c) v=(Hb z c) v:=AG _
def Hc[Lk]{α:Type}(z:α)(c:α×α×Unit→Option U8):(List α×Int×Int×Int×Unit)→Option ((List α×Int×Int×Int×Unit)⊕(List α×Int×Int×Int×Unit)⊕Unit):=fun(a0,a1,a2,a3,_)=>
 match(ile a2 a3)with
 |true=>match idx a0 a1 with|none=>none|some x0=>match idx a0 a3 with|none=>none|some x1=>match c ((AX a0 (AK a1) z),(AX a0 (AK a3) z),())with|none=>none|some (y2,_)=>match(ilt y2 0)with
  |true=>some (.inl (a0,a1,a2,(IntKind.wrap .i64 (a3-1)),()))
  |false=>some (.inr (.inl (a0,a1,a2,a3,())))
 |false=>some (.inr (.inl (a0,a1,a2,a3,())))
def Hd[Lk]{α:Type}(z:α)(c:α×α×Unit→Option U8):(List α×Int×Int×Int×Unit)→Option ((List α×Int×Int×Int×Unit)⊕(List α×Int×Int×Int×Unit)⊕Unit):=fun(a0,a1,a2,a3,_)=>
 match(ile a2 a3)with
 |true=>match idx a0 a1 with|none=>none|some x0=>match idx a0 a2 with|none=>none|some x1=>match c ((AX a0 (AK a1) z),(AX a0 (AK a2) z),())with|none=>none|some (y2,_)=>match(!(ilt y2 0))with
  |true=>some (.inl (a0,a1,(IntKind.wrap .i64 (a2+1)),a3,()))
  |false=>some (.inr (.inl (a0,a1,a2,a3,())))
 |false=>some (.inr (.inl (a0,a1,a2,a3,())))
def He[Lk]{α:Type}(z:α)(c:α×α×Unit→Option U8):(List α×Int×Int×Int×Unit)→Option ((List α×Int×Int×Int×Unit)⊕(List α×Int×Unit)⊕Unit):=fun(a0,a1,a2,a3,_)=>
 match AU (Hd z c) many (a0,a1,a2,a3,())with|none=>none|some r=>match r with
 |.inl (o0,o1,o2,o3,_)=>match AU (Hc z c) many (o0,o1,o2,o3,())with|none=>none|some r=>match r with
  |.inl (o4,o5,o6,o7,_)=>match(ilt o7 o6)with
   |true=>some (.inr (.inl (o4,o6,())))
   |false=>match idx o4 o7 with|none=>none|some x8=>match idx o4 o6 with|none=>none|some x9=>match idx o4 o6 with|none=>none|some x10=>match idx (BA o4 (AK o6) (AX o4 (AK o7) z)) o7 with|none=>none|some x11=>some (.inl ((BA (BA o4 (AK o6) (AX o4 (AK o7) z)) (AK o7) (AX o4 (AK o6) z)),o5,(IntKind.wrap .i64 (o6+1)),(IntKind.wrap .i64 (o7-1)),()))
  |.inr _=>none
 |.inr _=>none
def Jl[Lk]{α:Type}(z:α)(c:α×α×Unit→Option U8):(List α×Int×Int×Int×Unit)→Option ((List α×Int×Unit)):=fun(a0,a1,a2,a3,_)=>
 match idx a0 a3 with|none=>none|some x0=>match idx a0 a1 with|none=>none|some x1=>match idx a0 a1 with|none=>none|some x2=>match idx (BA a0 (AK a1) (AX a0 (AK a3) z)) a3 with|none=>none|some x3=>match AU (He z c) many ((BA (BA a0 (AK a1) (AX a0 (AK a3) z)) (AK a3) (AX a0 (AK a1) z)),a1,(IntKind.wrap .i64 (a1+1)),(IntKind.wrap .i64 (a2-1)),())with|none=>none|some r=>match r with
 |.inl (o4,o5,_)=>some (o4,o5,())
 |.inr _=>none
def QC[Lk]{α:Type}(z:α)(c:α×α×Unit→Option U8)(v:(List α×Int×Int×Int×Unit)):Option ((List α×Int×Unit)):=Lk.f ((Jl z c) v)
theorem APb{α:Type}(z:α)(c:α×α×Unit→Option U8)(v:(List α×Int×Int×Int×Unit)):(QC z c) v=(Jl z c) v:=AG _
def MC[Lk]{α:Type}(z:α)(c:α×α×Unit→Option U8):(List α×Int×Int×Int×Unit)→Option ((List α×Int×Int×Int×Unit)⊕(List α×Int×Int×Int×Unit)⊕Unit):=fun(a0,a1,a2,a3,_)=>
 match(ile a2 a3)with
 |true=>match idx a0 a3 with|none=>none|some x0=>match idx a0 a1 with|none=>none|some x1=>match c ((AX a0 (AK a3) z),(AX a0 (AK a1) z),())with|none=>none|some (y2,_)=>match(!(ilt y2 0))with
  |true=>some (.inl (a0,a1,a2,(IntKind.wrap .i64 (a3-1)),()))
  |false=>some (.inr (.inl (a0,a1,a2,a3,())))
 |false=>some (.inr (.inl (a0,a1,a2,a3,())))
def MD[Lk]{α:Type}(z:α)(c:α×α×Unit→Option U8):(List α×Int×Int×Int×Unit)→Option ((List α×Int×Int×Int×Unit)⊕(List α×Int×Int×Int×Unit)⊕Unit):=fun(a0,a1,a2,a3,_)=>
 match(ile a2 a3)with
 |true=>match idx a0 a2 with|none=>none|some x0=>match idx a0 a1 with|none=>none|some x1=>match c ((AX a0 (AK a2) z),(AX a0 (AK a1) z),())with|none=>none|some (y2,_)=>match(ilt y2 0)with
  |true=>some (.inl (a0,a1,(IntKind.wrap .i64 (a2+1)),a3,()))
  |false=>some (.inr (.inl (a0,a1,a2,a3,())))
 |false=>some (.inr (.inl (a0,a1,a2,a3,())))
def ME[Lk]{α:Type}(z:α)(c:α×α×Unit→Option U8):(List α×Int×Int×Int×Unit)→Option ((List α×Int×Int×Int×Unit)⊕(List α×Int×Int×Unit)⊕Unit):=fun(a0,a1,a2,a3,_)=>
 match AU (MD z c) many (a0,a1,a2,a3,())with|none=>none|some r=>match r with
 |.inl (o0,o1,o2,o3,_)=>match AU (MC z c) many (o0,o1,o2,o3,())with|none=>none|some r=>match r with
  |.inl (o4,o5,o6,o7,_)=>match(ilt o7 o6)with
   |true=>some (.inr (.inl (o4,o5,o7,())))
   |false=>match idx o4 o7 with|none=>none|some x8=>match idx o4 o6 with|none=>none|some x9=>match idx o4 o6 with|none=>none|some x10=>match idx (BA o4 (AK o6) (AX o4 (AK o7) z)) o7 with|none=>none|some x11=>some (.inl ((BA (BA o4 (AK o6) (AX o4 (AK o7) z)) (AK o7) (AX o4 (AK o6) z)),o5,(IntKind.wrap .i64 (o6+1)),(IntKind.wrap .i64 (o7-1)),()))
  |.inr _=>none
 |.inr _=>none
def MF[Lk]{α:Type}(z:α)(c:α×α×Unit→Option U8):(List α×Int×Int×Int×Unit)→Option ((List α×Int×Int×Int×Unit)⊕(List α×Int×Int×Int×Unit)⊕Unit):=fun(a0,a1,a2,a3,_)=>
 match(ile a2 a3)with
 |true=>match idx a0 a3 with|none=>none|some x0=>match idx a0 a1 with|none=>none|some x1=>match c ((AX a0 (AK a3) z),(AX a0 (AK a1) z),())with|none=>none|some (y2,_)=>match(!(ilt y2 0))with
  |true=>some (.inl (a0,a1,a2,(IntKind.wrap .i64 (a3-1)),()))
  |false=>some (.inr (.inl (a0,a1,a2,a3,())))
 |false=>some (.inr (.inl (a0,a1,a2,a3,())))
def MG[Lk]{α:Type}(z:α)(c:α×α×Unit→Option U8):(List α×Int×Int×Int×Unit)→Option ((List α×Int×Int×Int×Unit)⊕(List α×Int×Int×Int×Unit)⊕Unit):=fun(a0,a1,a2,a3,_)=>
 match(ile a2 a3)with
 |true=>match idx a0 a2 with|none=>none|some x0=>match idx a0 a1 with|none=>none|some x1=>match c ((AX a0 (AK a2) z),(AX a0 (AK a1) z),())with|none=>none|some (y2,_)=>match(ilt y2 0)with
  |true=>some (.inl (a0,a1,(IntKind.wrap .i64 (a2+1)),a3,()))
  |false=>some (.inr (.inl (a0,a1,a2,a3,())))
 |false=>some (.inr (.inl (a0,a1,a2,a3,())))
def QB[Lk]{α:Type}(z:α)(c:α×α×Unit→Option U8):(List α×Int×Int×Int×Unit)→Option ((List α×Int×Bool×Unit)):=fun(a0,a1,a2,a3,_)=>
 match idx a0 a3 with|none=>none|some x0=>match idx a0 a1 with|none=>none|some x1=>match idx a0 a1 with|none=>none|some x2=>match idx (BA a0 (AK a1) (AX a0 (AK a3) z)) a3 with|none=>none|some x3=>match AU (MG z c) many ((BA (BA a0 (AK a1) (AX a0 (AK a3) z)) (AK a3) (AX a0 (AK a1) z)),a1,(IntKind.wrap .i64 (a1+1)),(IntKind.wrap .i64 (a2-1)),())with|none=>none|some r=>match r with
 |.inl (o4,o5,o6,o7,_)=>match AU (MF z c) many (o4,o5,o6,o7,())with|none=>none|some r=>match r with
  |.inl (o8,o9,o10,o11,_)=>match(ilt o11 o10)with
   |true=>match idx o8 o9 with|none=>none|some x12=>match idx o8 o11 with|none=>none|some x13=>match idx o8 o11 with|none=>none|some x14=>match idx (BA o8 (AK o11) (AX o8 (AK o9) z)) o9 with|none=>none|some x15=>some ((BA (BA o8 (AK o11) (AX o8 (AK o9) z)) (AK o9) (AX o8 (AK o11) z)),o11,true,())
   |false=>match idx o8 o11 with|none=>none|some x16=>match idx o8 o10 with|none=>none|some x17=>match idx o8 o10 with|none=>none|some x18=>match idx (BA o8 (AK o10) (AX o8 (AK o11) z)) o11 with|none=>none|some x19=>match AU (ME z c) many ((BA (BA o8 (AK o10) (AX o8 (AK o11) z)) (AK o11) (AX o8 (AK o10) z)),o9,(IntKind.wrap .i64 (o10+1)),(IntKind.wrap .i64 (o11-1)),())with|none=>none|some r=>match r with
   |.inl (o20,o21,o22,_)=>match idx o20 o21 with|none=>none|some x23=>match idx o20 o22 with|none=>none|some x24=>match idx o20 o22 with|none=>none|some x25=>match idx (BA o20 (AK o22) (AX o20 (AK o21) z)) o21 with|none=>none|some x26=>some ((BA (BA o20 (AK o22) (AX o20 (AK o21) z)) (AK o21) (AX o20 (AK o22) z)),o22,false,())
   |.inr _=>none
  |.inr _=>none
 |.inr _=>none
def ZT[Lk]{α:Type}(z:α)(c:α×α×Unit→Option U8)(v:(List α×Int×Int×Int×Unit)):Option ((List α×Int×Bool×Unit)):=Lk.f ((QB z c) v)
theorem AYx{α:Type}(z:α)(c:α×α×Unit→Option U8)(v:(List α×Int×Int×Int×Unit)):(ZT z c) v=(QB z c) v:=AG _
def R5[Lk]{α:Type}(z:α)(c:α×α×Unit→Option U8)(self:(List α×Int×Int×Int×Unit)→Option ((List α×Unit)))(y7:List α)(a1 a2 p l:Int)(a4 a5:Bool):Option ((List α×Int×Int×Int×Bool×Bool×Unit)⊕(List α×Unit)⊕Unit):=
 match(ilt 0 a1)with
 |true=>match idx y7 (IntKind.wrap .i64 (a1-1))with|none=>none|some x9=>match idx y7 p with|none=>none|some x10=>match c ((AX y7 (AK (IntKind.wrap .i64 (a1-1))) z),(AX y7 (AK p) z),())with|none=>none|some (y11,_)=>match(!(ilt y11 0))with
  |true=>match(QC z c) (y7,a1,a2,p,())with|none=>none|some (y12,y13,_)=>some (.inl (y12,y13,a2,l,a4,a5,()))
  |false=>match(ZT z c) (y7,a1,a2,p,())with|none=>none|some (y14,y15,y16,_)=>match quo? .i64 (IntKind.wrap .i64 (a2-a1)) 8 with|none=>none|some x17=>match(ilt (IntKind.wrap .i64 (y15-a1)) (IntKind.wrap .i64 (a2-y15)))with
  |true=>match self (y14,a1,y15,l,())with|none=>none|some (y18,_)=>some (.inl (y18,(IntKind.wrap .i64 (y15+1)),a2,l,(ile x17 (IntKind.wrap .i64 (y15-a1))),y16,()))
  |false=>match self (y14,(IntKind.wrap .i64 (y15+1)),a2,l,())with|none=>none|some (y19,_)=>some (.inl (y19,a1,y15,l,(ile x17 (IntKind.wrap .i64 (a2-y15))),y16,()))
 |false=>match(ZT z c) (y7,a1,a2,p,())with|none=>none|some (y20,y21,y22,_)=>match quo? .i64 (IntKind.wrap .i64 (a2-a1)) 8 with|none=>none|some x23=>match(ilt (IntKind.wrap .i64 (y21-a1)) (IntKind.wrap .i64 (a2-y21)))with
 |true=>match self (y20,a1,y21,l,())with|none=>none|some (y24,_)=>some (.inl (y24,(IntKind.wrap .i64 (y21+1)),a2,l,(ile x23 (IntKind.wrap .i64 (y21-a1))),y22,()))
 |false=>match self (y20,(IntKind.wrap .i64 (y21+1)),a2,l,())with|none=>none|some (y25,_)=>some (.inl (y25,a1,y21,l,(ile x23 (IntKind.wrap .i64 (a2-y21))),y22,()))
def AGb[Lk]{α:Type}(z:α)(c:α×α×Unit→Option U8)(self:(List α×Int×Int×Int×Unit)→Option ((List α×Unit)))(y6:List α)(a1 a2 p h l:Int)(a4 a5:Bool):Option ((List α×Int×Int×Int×Bool×Bool×Unit)⊕(List α×Unit)⊕Unit):=
 match a4 with
 |true=>match a5 with
  |true=>match(ieq h 1)with
   |true=>match(MA z c) (y6,a1,a2,())with|none=>none|some (y7,y8,_)=>match y8 with
    |true=>some (.inr (.inl (y7,())))
    |false=>(R5 z c) self y7 a1 a2 p l a4 a5
   |false=>(R5 z c) self y6 a1 a2 p l a4 a5
  |false=>(R5 z c) self y6 a1 a2 p l a4 a5
 |false=>(R5 z c) self y6 a1 a2 p l a4 a5
def AGa[Lk]{α:Type}(z:α)(c:α×α×Unit→Option U8)(self:(List α×Int×Int×Int×Unit)→Option ((List α×Unit)))(y2:List α)(a1 a2 l:Int)(a4 a5:Bool):Option ((List α×Int×Int×Int×Bool×Bool×Unit)⊕(List α×Unit)⊕Unit):=
 match(Yz z c) (y2,a1,a2,())with|none=>none|some (y3,y4,y5,_)=>match(ieq y5 2)with
 |true=>match(AYS z c) (y3,a1,a2,())with|none=>none|some (y6,_)=>(AGb z c) self y6 a1 a2 (IntKind.wrap .i64 ((IntKind.wrap .i64 (a2-1))-(IntKind.wrap .i64 (y4-a1)))) 1 l a4 a5
 |false=>(AGb z c) self y3 a1 a2 y4 y5 l a4 a5
def NJ[Lk]{α:Type}(z:α)(c:α×α×Unit→Option U8)(self:(List α×Int×Int×Int×Unit)→Option ((List α×Unit))):(List α×Int×Int×Int×Bool×Bool×Unit)→Option ((List α×Int×Int×Int×Bool×Bool×Unit)⊕(List α×Unit)⊕Unit):=fun(a0,a1,a2,a3,a4,a5,_)=>
 match(ile (IntKind.wrap .i64 (a2-a1)) 12)with
 |true=>match(AZl z c) (a0,a1,a2,())with|none=>none|some (y0,_)=>some (.inr (.inl (y0,())))
 |false=>match(ieq a3 0)with
 |true=>match(AL0 z c) (a0,a1,a2,())with|none=>none|some (y1,_)=>some (.inr (.inl (y1,())))
 |false=>match(!a4)with
 |true=>match(ABX z c) (a0,a1,a2,())with|none=>none|some (y2,_)=>(AGa z c) self y2 a1 a2 (IntKind.wrap .i64 (a3-1)) a4 a5
 |false=>(AGa z c) self a0 a1 a2 a3 a4 a5
def ZC[Lk]{α:Type}(z:α)(c:α×α×Unit→Option U8)(self:(List α×Int×Int×Int×Unit)→Option ((List α×Unit))):(List α×Int×Int×Int×Unit)→Option ((List α×Unit)):=fun(a0,a1,a2,a3,_)=>
 match AU ((NJ z c) self) many (a0,a1,a2,a3,true,true,())with|none=>none|some r=>match r with
 |.inl (o0,_)=>some (o0,())
 |.inr _=>none
def KT[Lk]{α:Type}(z:α)(c:α×α×Unit→Option U8):Nat→(List α×Int×Int×Int×Unit)→Option ((List α×Unit))
 |0,_=>none
 |n+1,v=>(ZC z c) ((KT z c) n) v
def AYj[Lk]{α:Type}(z:α)(c:α×α×Unit→Option U8)(v:(List α×Int×Int×Int×Unit)):Option ((List α×Unit)):=Lk.f ((KT z c) 100 v)
theorem Ab2{α:Type}(z:α)(c:α×α×Unit→Option U8)(v:(List α×Int×Int×Int×Unit)):(AYj z c) v=(KT z c) 100 v:=AG _
def Pk[Lk]{α:Type}(z:α)(c:α×α×Unit→Option U8):(List α×Unit)→Option ((List α×Unit)):=fun(a0,_)=>
 match bitsLen ((IntKind.wrap .u64 (AH a0)),())with|none=>none|some (y0,_)=>match(AYj z c) (a0,0,(AH a0),y0,())with|none=>none|some (y1,_)=>some (y1,())
def ASG[Lk]{α:Type}(z:α)(c:α×α×Unit→Option U8)(v:(List α×Unit)):Option ((List α×Unit)):=Lk.f ((Pk z c) v)
theorem AX0{α:Type}(z:α)(c:α×α×Unit→Option U8)(v:(List α×Unit)):(ASG z c) v=(Pk z c) v:=AG _
abbrev AQh:AE:=[(.tmp 0,.own 43 U4),(.tmp 1,.di),(.tmp 2,.di),(.tmp 3,.clo 164 [])]
abbrev AQg:AE:=[(.obj 0,.own 43 U4)]
abbrev AQf:List RS:=[]
abbrev AS8:AE:=[(.obj 0,.own 43 U4),(.tmp 0,.own' 0),(.tmp 1,.di),(.tmp 2,.di),(.tmp 3,.clo 164 []),(.tmp 8,.di),(.tmp 9,.di)]
abbrev AS6:A0:=[(.exit 2,[(.obj 0,.own 43 U4),(.tmp 0,.own' 0),(.tmp 1,.di),(.tmp 2,.di),(.tmp 3,.clo 164 []),(.tmp 8,.di)])]
def AS4[Lk]:Ug→Option (Ug⊕U5⊕Unit):=NN (([]:List (Int)):U3) BN
abbrev AS9:AE:=[(.obj 0,.own 43 U4),(.tmp 0,.own' 0),(.tmp 1,.di),(.tmp 2,.di),(.tmp 3,.clo 164 []),(.tmp 8,.di)]
abbrev AS7:A0:=[(.exit 0,[(.obj 0,.own 43 U4)])]
def AS5[Lk]:U5→Option (U5⊕Uk⊕Unit):=NO (([]:List (Int)):U3) BN
def AZi[Lk]:Uc→Option (Uk):=AAG (([]:List (Int)):U3) BN
def Ad5[Lk](v:Uc):Option (Uk):=AZl (([]:List (Int)):U3) BN v
theorem AcV v:Ad5 v=AZi v:=AG _
abbrev AF0:AE:=[(.tmp 0,.own 43 U4),(.tmp 1,.di),(.tmp 2,.di),(.tmp 3,.di),(.tmp 4,.clo 164 [])]
abbrev AFz:AE:=[(.obj 0,.own 43 U4)]
abbrev AFy:List RS:=[]
abbrev AJd:AE:=[(.obj 0,.own 43 U4),(.tmp 0,.own' 0),(.tmp 2,.di),(.tmp 3,.di),(.tmp 4,.clo 164 []),(.tmp 10,.di)]
abbrev AJc:A0:=[(.exit 0,[(.obj 0,.own 43 U4)]),(.ret,[(.obj 0,.own 43 U4)])]
def AJb[Lk]:U5→Option (U5⊕Uk⊕Uk⊕Unit):=Jh (([]:List (Int)):U3) BN
def ASN[Lk]:U5→Option (Uk):=Pn (([]:List (Int)):U3) BN
def AX7[Lk](v:U5):Option (Uk):=ADa (([]:List (Int)):U3) BN v
theorem AX6 v:AX7 v=ASN v:=AG _
abbrev AHZ:AE:=[(.tmp 0,.own 43 U4),(.tmp 1,.di),(.tmp 2,.di),(.tmp 3,.clo 164 [])]
abbrev AHY:AE:=[(.obj 0,.own 43 U4)]
abbrev AHX:List RS:=[]
abbrev ALx:AE:=[(.obj 0,.own 43 U4),(.tmp 0,.own' 0),(.tmp 3,.clo 164 []),(.tmp 8,.di),(.tmp 9,.di),(.tmp 12,.di)]
abbrev ALv:A0:=[(.exit 2,[(.obj 0,.own 43 U4)])]
def ALs[Lk]:U5→Option (U5⊕Uk⊕Unit):=Jx (([]:List (Int)):U3) BN
abbrev ALy:AE:=[(.obj 0,.own 43 U4),(.tmp 0,.own' 0),(.tmp 3,.clo 164 []),(.tmp 8,.di),(.tmp 9,.di),(.tmp 10,.di),(.tmp 11,.di)]
abbrev ALw:A0:=[(.exit 0,[(.obj 0,.own 43 U4),(.tmp 0,.own' 0),(.tmp 3,.clo 164 []),(.tmp 8,.di),(.tmp 9,.di),(.tmp 10,.di)])]
def ALu[Lk]:Ug→Option (Ug⊕U5⊕Unit):=Jy (([]:List (Int)):U3) BN
def ATI[Lk]:Uc→Option (Uk):=QZ (([]:List (Int)):U3) BN
def AZ1[Lk](v:Uc):Option (Uk):=AL0 (([]:List (Int)):U3) BN v
theorem AZ0 v:AZ1 v=ATI v:=AG _
abbrev ABV:AE:=[(.tmp 0,.own 43 U4),(.tmp 1,.di),(.tmp 2,.di),(.tmp 3,.clo 164 [])]
abbrev ABU:AE:=[(.obj 0,.own 43 U4)]
abbrev ABT:List RS:=[]
abbrev AEb:AE:=[(.obj 0,.own 43 U4),(.tmp 0,.own' 0),(.tmp 1,.di),(.tmp 8,.di),(.tmp 9,.box 1),(.cell 1 0,.dat (.int .u64)),(.tmp 10,.dat (.int .u64)),(.tmp 11,.di)]
abbrev AEa:A0:=[(.exit 0,[(.obj 0,.own 43 U4)])]
def AEZ[Lk]:Uq→Option (Uq⊕Uk⊕Unit):=Fc (([]:List (Int)):U3) BN
def AMy[Lk]:Uc→Option (Uk):=Mo (([]:List (Int)):U3) BN
def ARh[Lk](v:Uc):Option (Uk):=ABX (([]:List (Int)):U3) BN v
theorem AWw v:ARh v=AMy v:=AG _
abbrev SF:AE:=[(.tmp 0,.own 43 U4),(.tmp 1,.di),(.tmp 2,.di),(.tmp 3,.box 1),(.cell 1 0,.di),(.tmp 4,.clo 164 [])]
abbrev SD:AE:=[(.obj 0,.own 43 U4),(.obj 1,.box 1),(.cell 1 0,.di),(.tmp 0,.di),(.tmp 1,.di)]
abbrev SC:List RS:=[.one,.one]
def AD4[Lk]:U5→Option (U5):=Jn (([]:List (Int)):U3) BN
def AGs[Lk](v:U5):Option (U5):=KU (([]:List (Int)):U3) BN v
theorem APk v:AGs v=AD4 v:=AG _
abbrev SV:AE:=[(.tmp 0,.own 43 U4),(.tmp 1,.di),(.tmp 2,.di),(.tmp 3,.di),(.tmp 4,.box 1),(.cell 1 0,.di),(.tmp 5,.clo 164 [])]
abbrev SU:AE:=[(.obj 0,.own 43 U4),(.obj 1,.box 1),(.cell 1 0,.di),(.tmp 0,.di)]
abbrev SS:List RS:=[.one]
def AD7[Lk]:Ug→Option (Uc):=Jq (([]:List (Int)):U3) BN
def AG4[Lk](v:Ug):Option (Uc):=Kc (([]:List (Int)):U3) BN v
theorem AP8 v:AG4 v=AD7 v:=AG _
abbrev Sb:AE:=[(.tmp 0,.own 43 U4),(.tmp 1,.di),(.tmp 2,.box 1),(.cell 1 0,.di),(.tmp 3,.clo 164 [])]
abbrev Sa:AE:=[(.obj 0,.own 43 U4),(.obj 1,.box 1),(.cell 1 0,.di),(.tmp 0,.di)]
abbrev SZ:List RS:=[.one]
def AD9[Lk]:Uc→Option (Uc):=Jr (([]:List (Int)):U3) BN
def AG8[Lk](v:Uc):Option (Uc):=Kd (([]:List (Int)):U3) BN v
theorem AQB v:AG8 v=AD9 v:=AG _
abbrev Yy:AE:=[(.tmp 0,.own 43 U4),(.tmp 1,.di),(.tmp 2,.di),(.tmp 3,.clo 164 [])]
abbrev Yx:AE:=[(.obj 0,.own 43 U4),(.tmp 0,.di),(.tmp 1,.di)]
abbrev Yw:List RS:=[.one,.one]
def AJ8[Lk]:Uc→Option (Uc):=L9 (([]:List (Int)):U3) BN
def APD[Lk](v:Uc):Option (Uc):=Yz (([]:List (Int)):U3) BN v
theorem AU1 v:APD v=AJ8 v:=AG _
abbrev AOn:AE:=[(.tmp 0,.own 43 U4),(.tmp 1,.di),(.tmp 2,.di),(.tmp 3,.clo 164 [])]
abbrev AOm:AE:=[(.obj 0,.own 43 U4)]
abbrev AOl:List RS:=[]
abbrev ASZ:AE:=[(.obj 0,.own 43 U4),(.tmp 0,.own' 0),(.tmp 8,.di),(.tmp 9,.di)]
abbrev ASY:A0:=[(.exit 0,[(.obj 0,.own 43 U4)])]
def ASX[Lk]:Uc→Option (Uc⊕Uk⊕Unit):=P2 (([]:List (Int)):U3) BN
def AYQ[Lk]:Uc→Option (Uk):=Yi (([]:List (Int)):U3) BN
def Adi[Lk](v:Uc):Option (Uk):=AYS (([]:List (Int)):U3) BN v
theorem Abs v:Adi v=AYQ v:=AG _
abbrev Oa:AE:=[(.tmp 0,.own 43 U4),(.tmp 1,.di),(.tmp 2,.di),(.tmp 3,.clo 164 [])]
abbrev OZ:AE:=[(.obj 0,.own 43 U4),(.tmp 0,.dat .bool)]
abbrev OY:List RS:=[.one]
abbrev US:AE:=[(.obj 0,.own 43 U4),(.tmp 0,.own' 0),(.tmp 1,.di),(.tmp 2,.di),(.tmp 3,.clo 164 []),(.tmp 9,.di),(.tmp 10,.di),(.tmp 12,.di)]
abbrev UO:A0:=[(.exit 6,[(.obj 0,.own 43 U4),(.tmp 0,.own' 0),(.tmp 1,.di),(.tmp 2,.di),(.tmp 3,.clo 164 []),(.tmp 9,.di),(.tmp 10,.di)])]
def UK[Lk]:Uq→Option (Uq⊕Ug⊕Unit):=EN (([]:List (Int)):U3) BN
abbrev UT:AE:=[(.obj 0,.own 43 U4),(.tmp 0,.own' 0),(.tmp 1,.di),(.tmp 2,.di),(.tmp 3,.clo 164 []),(.tmp 9,.di),(.tmp 10,.di),(.tmp 11,.di)]
abbrev UP:A0:=[(.exit 4,[(.obj 0,.own 43 U4),(.tmp 0,.own' 0),(.tmp 1,.di),(.tmp 2,.di),(.tmp 3,.clo 164 []),(.tmp 9,.di),(.tmp 10,.di)])]
def UL[Lk]:Uq→Option (Uq⊕Ug⊕Unit):=EO (([]:List (Int)):U3) BN
abbrev UU:AE:=[(.obj 0,.own 43 U4),(.tmp 0,.own' 0),(.tmp 1,.di),(.tmp 2,.di),(.tmp 3,.clo 164 []),(.tmp 9,.di),(.tmp 10,.di)]
abbrev UQ:A0:=[(.exit 2,[(.obj 0,.own 43 U4),(.tmp 0,.own' 0),(.tmp 1,.di),(.tmp 2,.di),(.tmp 3,.clo 164 []),(.tmp 9,.di),(.tmp 10,.di)])]
def UM[Lk]:Ug→Option (Ug⊕Ug⊕Unit):=GF (([]:List (Int)):U3) BN
abbrev UW:AE:=[(.obj 0,.own 43 U4),(.tmp 0,.own' 0),(.tmp 1,.di),(.tmp 2,.di),(.tmp 3,.clo 164 []),(.tmp 9,.di),(.tmp 10,.di)]
abbrev UR:A0:=[(.ret,[(.obj 0,.own 43 U4),(.tmp 8,.dat .bool)]),(.exit 0,[(.obj 0,.own 43 U4)])]
def UN[Lk]:Ug→Option (Ug⊕(List U3×Bool×Unit)⊕Uk⊕Unit):=CV (([]:List (Int)):U3) BN
def ZL[Lk]:Uc→Option ((List U3×Bool×Unit)):=Hb (([]:List (Int)):U3) BN
def ZM[Lk](v:Uc):Option ((List U3×Bool×Unit)):=MA (([]:List (Int)):U3) BN v
theorem AKi v:ZM v=ZL v:=AG _
abbrev R8:AE:=[(.tmp 0,.own 43 U4),(.tmp 1,.di),(.tmp 2,.di),(.tmp 3,.di),(.tmp 4,.clo 164 [])]
abbrev R7:AE:=[(.obj 0,.own 43 U4),(.tmp 0,.di)]
abbrev R6:List RS:=[.one]
abbrev Za:AE:=[(.obj 0,.own 43 U4),(.tmp 0,.own' 0),(.tmp 1,.di),(.tmp 4,.clo 164 []),(.tmp 11,.di),(.tmp 12,.di)]
abbrev ZX:A0:=[(.exit 4,[(.obj 0,.own 43 U4),(.tmp 0,.own' 0),(.tmp 1,.di),(.tmp 4,.clo 164 []),(.tmp 11,.di),(.tmp 12,.di)])]
def ZU[Lk]:U5→Option Vn:=Hc (([]:List (Int)):U3) BN
abbrev Zb:AE:=[(.obj 0,.own 43 U4),(.tmp 0,.own' 0),(.tmp 1,.di),(.tmp 4,.clo 164 []),(.tmp 11,.di),(.tmp 12,.di)]
abbrev ZY:A0:=[(.exit 2,[(.obj 0,.own 43 U4),(.tmp 0,.own' 0),(.tmp 1,.di),(.tmp 4,.clo 164 []),(.tmp 11,.di),(.tmp 12,.di)])]
def ZV[Lk]:U5→Option Vn:=Hd (([]:List (Int)):U3) BN
abbrev Zc:AE:=[(.obj 0,.own 43 U4),(.tmp 0,.own' 0),(.tmp 1,.di),(.tmp 4,.clo 164 []),(.tmp 11,.di),(.tmp 12,.di)]
abbrev ZZ:A0:=[(.exit 0,[(.obj 0,.own 43 U4),(.tmp 11,.di)])]
def ZW[Lk]:U5→Option (U5⊕V8⊕Unit):=He (([]:List (Int)):U3) BN
def ADz[Lk]:U5→Option (V8):=Jl (([]:List (Int)):U3) BN
def AGk[Lk](v:U5):Option (V8):=QC (([]:List (Int)):U3) BN v
theorem APa v:AGk v=ADz v:=AG _
end
end Go.Pev
end
section
namespace Go.Pev
noncomputable section
attribute [local irreducible] N3 Kz Oy Nr AZt AZu AZv R0 Yk WS ACL LC AW many IntKind.wrap AH BA AX A9 Bo DI Dy AK Bm Ce imax AM Ac
abbrev AGf:AE:=[(.tmp 0,.own 43 U4),(.tmp 1,.di),(.tmp 2,.di),(.tmp 3,.di),(.tmp 4,.clo 164 [])]
abbrev AGe:AE:=[(.obj 0,.own 43 U4),(.tmp 0,.di),(.tmp 1,.dat .bool)]
abbrev AGd:List RS:=[.one,.one]
abbrev AKV:AE:=[(.obj 0,.own 43 U4),(.tmp 0,.own' 0),(.tmp 1,.di),(.tmp 4,.clo 164 []),(.tmp 12,.di),(.tmp 13,.di)]
abbrev AKQ:A0:=[(.exit 8,[(.obj 0,.own 43 U4),(.tmp 0,.own' 0),(.tmp 1,.di),(.tmp 4,.clo 164 []),(.tmp 12,.di),(.tmp 13,.di)])]
def AKH[Lk]:U5→Option Vn:=MC (([]:List (Int)):U3) BN
abbrev AKW:AE:=[(.obj 0,.own 43 U4),(.tmp 0,.own' 0),(.tmp 1,.di),(.tmp 4,.clo 164 []),(.tmp 12,.di),(.tmp 13,.di)]
abbrev AKR:A0:=[(.exit 6,[(.obj 0,.own 43 U4),(.tmp 0,.own' 0),(.tmp 1,.di),(.tmp 4,.clo 164 []),(.tmp 12,.di),(.tmp 13,.di)])]
def AKJ[Lk]:U5→Option Vn:=MD (([]:List (Int)):U3) BN
abbrev AKX:AE:=[(.obj 0,.own 43 U4),(.tmp 0,.own' 0),(.tmp 1,.di),(.tmp 4,.clo 164 []),(.tmp 12,.di),(.tmp 13,.di)]
abbrev AKS:A0:=[(.exit 4,[(.obj 0,.own 43 U4),(.tmp 0,.own' 0),(.tmp 1,.di),(.tmp 13,.di)])]
def AKL[Lk]:U5→Option (U5⊕Uc⊕Unit):=ME (([]:List (Int)):U3) BN
abbrev AKY:AE:=[(.obj 0,.own 43 U4),(.tmp 0,.own' 0),(.tmp 1,.di),(.tmp 4,.clo 164 []),(.tmp 12,.di),(.tmp 13,.di)]
abbrev AKT:A0:=[(.exit 2,[(.obj 0,.own 43 U4),(.tmp 0,.own' 0),(.tmp 1,.di),(.tmp 4,.clo 164 []),(.tmp 12,.di),(.tmp 13,.di)])]
def AKN[Lk]:U5→Option Vn:=MF (([]:List (Int)):U3) BN
abbrev AKZ:AE:=[(.obj 0,.own 43 U4),(.tmp 0,.own' 0),(.tmp 1,.di),(.tmp 4,.clo 164 []),(.tmp 12,.di),(.tmp 13,.di)]
abbrev AKU:A0:=[(.exit 0,[(.obj 0,.own 43 U4),(.tmp 0,.own' 0),(.tmp 1,.di),(.tmp 4,.clo 164 []),(.tmp 12,.di),(.tmp 13,.di)])]
def AKP[Lk]:U5→Option Vn:=MG (([]:List (Int)):U3) BN
def ASo[Lk]:U5→Option ((List U3×Int×Bool×Unit)):=QB (([]:List (Int)):U3) BN
def AYw[Lk](v:U5):Option ((List U3×Int×Bool×Unit)):=ZT (([]:List (Int)):U3) BN v
theorem AYv v:AYw v=ASo v:=AG _
abbrev ZA:AE:=[(.tmp 0,.own 43 U4),(.tmp 1,.di),(.tmp 2,.di),(.tmp 3,.di),(.tmp 4,.clo 164 [])]
abbrev Y9:AE:=[(.obj 0,.own 43 U4)]
abbrev Y8:List RS:=[]
abbrev ASk:AE:=[(.obj 0,.own 43 U4),(.tmp 0,.own' 0),(.tmp 1,.di),(.tmp 2,.di),(.tmp 3,.di),(.tmp 4,.clo 164 []),(.tmp 10,.dat .bool),(.tmp 11,.dat .bool)]
abbrev ASj:A0:=[(.ret,[(.obj 0,.own 43 U4)])]
def ASi[Lk](self:U5→Option (Uk)):(List U3×Int×Int×Int×Bool×Bool×Unit)→Option ((List U3×Int×Int×Int×Bool×Bool×Unit)⊕Uk⊕Unit):=NJ (([]:List (Int)):U3) BN self
def Ado[Lk](self:U5→Option (Uk)):U5→Option (Uk):=ZC (([]:List (Int)):U3) BN self
def ZB[Lk]:Nat→U5→Option (Uk):=KT (([]:List (Int)):U3) BN
def Ab1[Lk](v:U5):Option (Uk):=AYj (([]:List (Int)):U3) BN v
theorem Ab0 v:Ab1 v=ZB 100 v:=AG _
abbrev AFn:AE:=[(.tmp 0,.own 43 U4),(.tmp 1,.clo 164 [])]
abbrev AFm:AE:=[(.obj 0,.own 43 U4)]
abbrev AFl:List RS:=[]
def ASF[Lk]:Uk→Option (Uk):=Pk (([]:List (Int)):U3) BN
def AJT[Lk](v:Uk):Option (Uk):=ASG (([]:List (Int)):U3) BN v
theorem AXz v:AJT v=ASF v:=AG _
abbrev AFC:AE:=[(.tmp 0,.dat Up),(.tmp 1,.dat U4),(.tmp 2,.dat Ue)]
abbrev AFB:AE:=[(.tmp 0,.di),(.tmp 1,.own 43 U4)]
abbrev AFA:List RS:=[.agg 2]
abbrev AIw:AE:=[(.tmp 3,.box 2),(.cell 0 0,.di),(.cell 0 1,.dat Ue),(.tmp 6,.box 2),(.cell 1 0,.di),(.cell 1 1,.nil U4),(.tmp 7,.own 43 U4),(.tmp 29,.dat Ue),(.tmp 30,.di),(.tmp 31,.di)]
abbrev AIu:A0:=[(.exit 2,[(.tmp 3,.box 2),(.cell 0 0,.di),(.cell 0 1,.dat Ue),(.tmp 6,.box 2),(.cell 1 0,.di),(.cell 1 1,.nil U4),(.tmp 7,.own 43 U4)])]
def HF[Lk]:(Int×List U3×Int×List U3×List U3×Int×Int×Unit)→Option ((Int×List U3×Int×List U3×List U3×Int×Int×Unit)⊕(Int×List U3×Int×List U3×Unit)⊕Unit):=fun(a0,a1,a2,a3,a4,a5,a6,_)=>
 match(ilt a6 a5)with
 |true=>match idx a4 a6 with|none=>none|some x0=>match Yf (x0,())with|none=>none|some (y1,_)=>match(fits ((AH a3)+(AH ([y1]:List U3))))with
  |true=>some (.inl (a0,a1,a2,(A9 a3 ([y1]:List U3)),a4,a5,(IntKind.wrap .i64 (a6+1)),()))
  |false=>none
 |false=>some (.inr (.inl (a0,a1,a2,a3,())))
abbrev AIx:AE:=[(.tmp 1,.dat U4),(.tmp 2,.dat Ue),(.tmp 3,.box 2),(.cell 0 0,.di),(.cell 0 1,.dat Ue),(.tmp 6,.box 2),(.cell 1 0,.di),(.cell 1 1,.nil U4),(.tmp 7,.own 43 U4),(.tmp 13,.dat Ue),(.tmp 14,.di),(.tmp 15,.di)]
abbrev AIv:A0:=[(.exit 0,[(.tmp 2,.dat Ue),(.tmp 3,.box 2),(.cell 0 0,.di),(.cell 0 1,.dat Ue),(.tmp 6,.box 2),(.cell 1 0,.di),(.cell 1 1,.nil U4),(.tmp 7,.own 43 U4)])]
def HG[Lk]:(List Int×List U3×Int×List U3×Int×List U3×List U3×Int×Int×Unit)→Option ((List Int×List U3×Int×List U3×Int×List U3×List U3×Int×Int×Unit)⊕(List U3×Int×List U3×Int×List U3×Unit)⊕Unit):=fun(a0,a1,a2,a3,a4,a5,a6,a7,a8,_)=>
 match(ilt a8 a7)with
 |true=>match idx a6 a8 with|none=>none|some x0=>match Fa (a0,a8,())with|none=>none|some (y1,_)=>match(!y1)with
  |true=>match(fits ((AH a5)+(AH ([x0]:List U3))))with
   |true=>some (.inl (a0,a1,a2,a3,a4,(A9 a5 ([x0]:List U3)),a6,a7,(IntKind.wrap .i64 (a8+1)),()))
   |false=>none
  |false=>some (.inl (a0,a1,a2,a3,a4,a5,a6,a7,(IntKind.wrap .i64 (a8+1)),()))
 |false=>some (.inr (.inl (a1,a2,a3,a4,a5,())))
def Wv[Lk]:(Ui×List Int×List U3×Unit)→Option ((Int×List U3×Unit)):=fun(a0,a1,a2,_)=>
 match AU HG many (a1,a2,a0.1,a0.2.1,0,([]:List U3),a0.2.1,(AH a0.2.1),0,())with|none=>none|some r=>match r with
 |.inl (o0,o1,o2,o3,o4,_)=>match AU HF many (o1,o2,o3,o4,o0,(AH o0),0,())with|none=>none|some r=>match r with
  |.inl (o5,o6,o7,o8,_)=>match AJT (o8,())with|none=>none|some (y9,_)=>some (o5,y9,())
  |.inr _=>none
 |.inr _=>none
def AIz[Lk]:=fun v=>Lk.f (Wv v)
theorem AIy v:AIz v=Wv v:=AG _
abbrev AFZ:AE:=[(.tmp 0,.dat Up),(.tmp 1,.di),(.tmp 2,.di)]
abbrev AFY:AE:=[(.tmp 0,.di),(.tmp 1,.dat Ue),(.tmp 2,.di)]
abbrev AFX:List RS:=[.agg 2,.one]
def Gj[Lk]:(Ui×Int×Int×Unit)→Option (V4):=fun(a0,a1,a2,_)=>
 match asked ((a0.1,(a0.2.1,())),a1,a2,())with|none=>none|some (y0,_)=>match(!(ieq y0 0))with
 |true=>some (a0.1,a0.2.1,y0,())
 |false=>match OI ((a0.1,(a0.2.1,())),a1,())with|none=>none|some (y1,_)=>match OI ((a0.1,(a0.2.1,())),a2,())with|none=>none|some (y2,_)=>match(ieq y1 y2)with
 |true=>some (a0.1,a0.2.1,5,())
 |false=>match idx a0.2.1 y1 with|none=>none|some x3=>match ADn (x3,a1,())with|none=>none|some (y4,y5,_)=>match idx a0.2.1 y2 with|none=>none|some x6=>match ADn (x6,a2,())with|none=>none|some (y7,y8,_)=>match CO y4 0 1 with|none=>none|some x9=>match AUC (a0.1,a1,a2,())with|none=>none|some (y10,_)=>match AUC (a0.1,a2,a1,())with|none=>none|some (y11,_)=>match CO y4 1 (AH y4)with|none=>none|some x12=>match Is (([(DI 0 (AK (AH x9)) y4),([y10]:List (Int)),y7,([y11]:List (Int)),(DI 1 (AK (AH x12)) y4)]:List U3),())with|none=>none|some (y13,_)=>match AIz ((a0.1,(a0.2.1,())),([y1,y2]:List (Int)),([y13]:List U3),())with|none=>none|some (y14,y15,_)=>some (y14,y15,0,())
def Lq[Lk]:=fun v=>Lk.f (Gj v)
theorem HO v:Lq v=Gj v:=AG _
abbrev FW:AE:=[(.tmp 0,.dat U4),(.cap 1 0,.box 2),(.cell 0 0,.di),(.cell 0 1,.dat Ue),(.tmp 1,.clo 158 [(0,0)])]
abbrev FV:AE:=[(.obj 0,.box 2),(.cell 0 0,.di),(.cell 0 1,.dat Ue),(.tmp 0,.di)]
abbrev FU:List RS:=[.one]
abbrev Ic:AE:=[(.obj 0,.box 2),(.cell 0 0,.di),(.cell 0 1,.dat Ue),(.tmp 0,.dat U4),(.tmp 1,.clo 158 [(0,0)]),(.tmp 7,.di),(.tmp 8,.di)]
abbrev Ib:A0:=[(.ret,[(.obj 0,.box 2),(.cell 0 0,.di),(.cell 0 1,.dat Ue),(.tmp 4,.di)]),(.exit 0,[(.obj 0,.box 2),(.cell 0 0,.di),(.cell 0 1,.dat Ue)])]
def Bl[Lk]:(Int×List U3×List Int×Int×Int×Unit)→Option ((Int×List U3×List Int×Int×Int×Unit)⊕V4⊕(Int×List U3×Unit)⊕Unit):=fun(a0,a1,a2,a3,a4,_)=>
 match(ilt a4 a3)with
 |true=>match idx a2 a4 with|none=>none|some x0=>match(ilt x0 0)with
  |true=>some (.inr (.inl (a0,a1,a4,())))
  |false=>match(ile a0 x0)with
  |true=>some (.inr (.inl (a0,a1,a4,())))
  |false=>some (.inl (a0,a1,a2,a3,(IntKind.wrap .i64 (a4+1)),()))
 |false=>some (.inr (.inr (.inl (a0,a1,()))))
def Dm[Lk]:(List Int×Int×List U3×Unit)→Option (V4):=fun(a0,a1,a2,_)=>
 match AU Bl many (a1,a2,a0,(AH a0),0,())with|none=>none|some r=>match r with
 |.inl (o0,o1,o2,_)=>some (o0,o1,o2,())
 |.inr r=>match r with
 |.inl (o3,o4,_)=>some (o3,o4,(-1:Int),())
 |.inr _=>none
def El[Lk]:=fun v=>Lk.f (Dm v)
theorem Ie v:El v=Dm v:=AG _
abbrev Eu:AE:=[(.tmp 0,.dat U4),(.cap 1 0,.box 2),(.cell 0 0,.di),(.cell 0 1,.dat Ue),(.tmp 1,.clo 158 [(0,0)])]
abbrev Et:AE:=[(.obj 0,.box 2),(.cell 0 0,.di),(.cell 0 1,.dat Ue),(.tmp 0,.dat .bool)]
abbrev Es:List RS:=[.one]
def DL[Lk]:(List Int×Int×List U3×Unit)→Option ((Int×List U3×Bool×Unit)):=fun(a0,a1,a2,_)=>
 match El (a0,a1,a2,())with|none=>none|some (y0,y1,y2,_)=>some (y0,y1,(ile 0 y2),())
def DD[Lk]:=fun v=>Lk.f (DL v)
theorem Hy v:DD v=DL v:=AG _
abbrev AAf:AE:=[(.tmp 0,.dat Up),(.tmp 1,.dat U4)]
abbrev AAe:AE:=[(.tmp 0,.di)]
abbrev AAd:List RS:=[.one]
def Qc[Lk]:(Ui×List Int×Unit)→Option (U8):=fun(a0,a1,_)=>
 match OH ((a0.1,(a0.2.1,())),())with|none=>none|some (y0,_)=>match(!y0)with
 |true=>some (1,())
 |false=>match DD (a1,a0.1,a0.2.1,())with|none=>none|some (y1,y2,y3,_)=>match y3 with
 |true=>some (10,())
 |false=>some (0,())
def O2[Lk]:=fun v=>Lk.f (Qc v)
theorem AEQ v:O2 v=Qc v:=AG _
abbrev ARE:AE:=[(.tmp 0,.dat Ul)]
abbrev ARD:AE:=[(.tmp 0,.own 3 U0)]
abbrev ARC:List RS:=[.one]
abbrev ATU:AE:=[(.tmp 3,.own 3 U0),(.tmp 6,.dat Ul),(.tmp 7,.di),(.tmp 8,.di)]
abbrev ATT:A0:=[(.exit 0,[(.tmp 3,.own 3 U0)])]
def K4[Lk]:(List Int×List U1×Int×Int×Unit)→Option ((List Int×List U1×Int×Int×Unit)⊕Um⊕Unit):=fun(a0,a1,a2,a3,_)=>
 match(ilt a3 a2)with
 |true=>match idx a1 a3 with|none=>none|some x0=>match(fits ((AH a0)+(AH ([x0.1,x0.2.1]:List (Int)))))with
  |true=>some (.inl ((A9 a0 ([x0.1,x0.2.1]:List (Int))),a1,a2,(IntKind.wrap .i64 (a3+1)),()))
  |false=>none
 |false=>some (.inr (.inl (a0,())))
def AHt[Lk]:Uj→Option (Um):=fun(a0,_)=>
 match AU K4 many (([]:List (Int)),a0,(AH a0),0,())with|none=>none|some r=>match r with
 |.inl (o0,_)=>some (o0,())
 |.inr _=>none
def ends[Lk]:=fun v=>Lk.f (AHt v)
theorem ATV v:ends v=AHt v:=AG _
abbrev O9:AE:=[(.tmp 0,.dat Up),(.tmp 1,.dat Ul),(.tmp 2,.clo 131 [])]
abbrev O8:AE:=[(.tmp 0,.dat Up),(.tmp 1,.own 4 .bool),(.tmp 2,.di)]
abbrev O7:List RS:=[.one,.one,.one]
abbrev VX:AE:=[(.tmp 2,.clo 131 []),(.tmp 3,.box 2),(.cell 0 0,.di),(.cell 0 1,.dat Ue),(.tmp 6,.box 2),(.cell 1 0,.di),(.cell 1 1,.nil U4),(.tmp 10,.own 4 .bool),(.tmp 23,.dat Ul),(.tmp 24,.di),(.tmp 25,.di)]
abbrev VW:A0:=[(.exit 0,[(.tmp 3,.box 2),(.cell 0 0,.di),(.cell 0 1,.dat Ue),(.tmp 6,.box 2),(.cell 1 0,.di),(.cell 1 1,.nil U4),(.tmp 10,.own 4 .bool)])]
def Bz[Lk]:(Int×List U3×Int×List Bool×List U1×Int×Int×Unit)→Option ((Int×List U3×Int×List Bool×List U1×Int×Int×Unit)⊕(Int×List U3×Int×List Bool×Unit)⊕Unit):=fun(a0,a1,a2,a3,a4,a5,a6,_)=>
 match(ilt a6 a5)with
 |true=>match idx a4 a6 with|none=>none|some x0=>match Lq ((a0,(a1,())),x0.1,x0.2.1,())with|none=>none|some (y1,y2,y3,_)=>match(fits ((AH a3)+(AH ([(ieq y3 0)]:List (Bool)))))with
  |true=>some (.inl (y1,y2,a2,(A9 a3 ([(ieq y3 0)]:List (Bool))),a4,a5,(IntKind.wrap .i64 (a6+1)),()))
  |false=>none
 |false=>some (.inr (.inl (a0,a1,a2,a3,())))
def Hv[Lk]:(Ui×List U1×Unit)→Option ((Ui×List Bool×Int×Unit)):=fun(a0,a1,_)=>
 match ends (a1,())with|none=>none|some (y0,_)=>match O2 ((a0.1,(a0.2.1,())),y0,())with|none=>none|some (y1,_)=>match(!(ieq y1 0))with
 |true=>some ((a0.1,(a0.2.1,())),([]:List (Bool)),y1,())
 |false=>match AU Bz many (a0.1,a0.2.1,0,([]:List (Bool)),a1,(AH a1),0,())with|none=>none|some r=>match r with
 |.inl (o2,o3,o4,o5,_)=>some ((o2,(o3,())),o5,0,())
 |.inr _=>none
def Qh[Lk]:=fun v=>Lk.f (Hv v)
theorem Md v:Qh v=Hv v:=AG _
abbrev AAm:AE:=[(.tmp 0,.dat Up),(.tmp 1,.dat Ul)]
abbrev AAl:AE:=[(.tmp 0,.dat Up),(.tmp 1,.own 4 .bool),(.tmp 2,.di)]
abbrev AAk:List RS:=[.one,.one,.one]
def MY[Lk]:(Ui×List U1×Unit)→Option ((Ui×List Bool×Int×Unit)):=fun(a0,a1,_)=>
 match Qh ((a0.1,(a0.2.1,())),a1,())with|none=>none|some (y0,y1,y2,_)=>some ((y0.1,(y0.2.1,())),y1,y2,())
def AHm[Lk]:=fun v=>Lk.f (MY v)
theorem S7 v:AHm v=MY v:=AG _
abbrev AaK:AE:=[(.tmp 0,.di),(.tmp 1,.dat Ul)]
abbrev AaJ:AE:=[(.tmp 0,.dat Up),(.tmp 1,.di)]
abbrev AaI:List RS:=[.one,.one]
def AML[Lk]:(Int×List U1×Unit)→Option (Vd):=fun(a0,a1,_)=>
 match AJI (a0,())with|none=>none|some (y0,y1,y2,_)=>match(!(ieq y2 0))with
 |true=>some ((0,(([]:List U3),())),y2,())
 |false=>match AHm ((y0,(y1,())),a1,())with|none=>none|some (y3,y4,y5,_)=>match(!(ieq y5 0))with
 |true=>some ((0,(([]:List U3),())),y5,())
 |false=>some ((y3.1,(y3.2.1,())),0,())
def fof[Lk]:=fun v=>Lk.f (AML v)
theorem AQ1 v:fof v=AML v:=AG _
abbrev AZJ:AE:=[(.tmp 0,.dat U4)]
abbrev AZH:AE:=[(.tmp 0,.di)]
abbrev AZF:List RS:=[.one]
abbrev AZI:AE:=[(.tmp 3,.di),(.tmp 6,.dat U4),(.tmp 7,.di),(.tmp 8,.di)]
abbrev AZG:A0:=[(.ret,[(.tmp 2,.di)]),(.exit 0,[(.tmp 3,.di)])]
def FI[Lk]:(Int×List Int×Int×Int×Unit)→Option ((Int×List Int×Int×Int×Unit)⊕U8⊕U8⊕Unit):=fun(a0,a1,a2,a3,_)=>
 match(ilt a3 a2)with
 |true=>match idx a1 a3 with|none=>none|some x0=>match(!(ieq x0 a0))with
  |true=>some (.inr (.inl (x0,())))
  |false=>some (.inl (a0,a1,a2,(IntKind.wrap .i64 (a3+1)),()))
 |false=>some (.inr (.inr (.inl (a0,()))))
def AD6[Lk]:Um→Option (U8):=fun(a0,_)=>
 match AU FI many (0,a0,(AH a0),0,())with|none=>none|some r=>match r with
 |.inl (o0,_)=>some (o0,())
 |.inr r=>match r with
 |.inl (o1,_)=>some (o1,())
 |.inr _=>none
def orI[Lk]:=fun v=>Lk.f (AD6 v)
theorem AGv v:orI v=AD6 v:=AG _
abbrev Z1:AE:=[(.tmp 0,.di)]
abbrev Z0:AE:=[(.tmp 0,.dat .bool)]
abbrev Zz:List RS:=[.one]
def MM[Lk]:U8→Option (Uf):=fun(a0,_)=>
 match(ile 1 a0)with
 |true=>some ((ile a0 64),())
 |false=>some (false,())
def Sh[Lk]:=fun v=>Lk.f (MM v)
theorem Sg v:Sh v=MM v:=AG _
abbrev AQK:AE:=[(.tmp 0,.di)]
abbrev AQJ:AE:=[(.tmp 0,.di)]
abbrev AQI:List RS:=[.one]
def AQL[Lk]:U8→Option (U8):=fun(a0,_)=>
 match Sh (a0,())with|none=>none|some (y0,_)=>match(!y0)with
 |true=>some (0,())
 |false=>match bitsLen ((IntKind.wrap .u64 (IntKind.wrap .i64 (a0-1))),())with|none=>none|some (y1,_)=>some (y1,())
def AHE[Lk]:=fun v=>Lk.f (AQL v)
theorem AcN v:AHE v=AQL v:=AG _
abbrev Oo:AE:=[(.tmp 0,.dat (.prod U0 (.prod U0 (.prod U0 (.prod .bool .unit))))),(.tmp 1,.dat (.prod U0 (.prod U0 (.prod U0 (.prod .bool .unit)))))]
abbrev On:AE:=[(.tmp 0,.di)]
abbrev Om:List RS:=[.one]
def Kj[Lk]:(U6×U6×Unit)→Option (U8):=fun(a0,a1,_)=>
 match DX (a0.1,a1.1,())with|none=>none|some (y0,_)=>match DX (a0.2.1,a1.2.1,())with|none=>none|some (y1,_)=>match orI (([y0,y1]:List (Int)),())with|none=>none|some (y2,_)=>some (y2,())
def Jv[Lk]:=fun v=>Lk.f (Kj v)
theorem VN v:Jv v=Kj v:=AG _
abbrev Zx:AE:=[(.tmp 0,.dat Uu),(.tmp 1,.di)]
abbrev Zw:AE:=[(.tmp 0,.own 34 U2)]
abbrev Zv:List RS:=[.one]
abbrev AEC:AE:=[(.tmp 1,.di),(.tmp 5,.own 34 U2),(.tmp 9,.dat U9),(.tmp 10,.di),(.tmp 11,.di)]
abbrev AEB:A0:=[(.exit 0,[(.tmp 5,.own 34 U2)])]
def Cn[Lk]:(Int×List U1×List U6×Int×Int×Unit)→Option ((Int×List U1×List U6×Int×Int×Unit)⊕Uj⊕Unit):=fun(a0,a1,a2,a3,a4,_)=>
 match(ilt a4 a3)with
 |true=>match idx a2 a4 with|none=>none|some x0=>match x0.2.2.2.1 with
  |true=>match(ile a0 x0.2.2.1)with
   |true=>match(fits ((AH a1)+(AH ([(x0.1,(x0.2.1,()))]:List U1))))with
    |true=>some (.inl (a0,(A9 a1 ([(x0.1,(x0.2.1,()))]:List U1)),a2,a3,(IntKind.wrap .i64 (a4+1)),()))
    |false=>none
   |false=>some (.inl (a0,a1,a2,a3,(IntKind.wrap .i64 (a4+1)),()))
  |false=>some (.inl (a0,a1,a2,a3,(IntKind.wrap .i64 (a4+1)),()))
 |false=>some (.inr (.inl (a1,())))
def ML[Lk]:(Un×Int×Unit)→Option (Uj):=fun(a0,a1,_)=>
 match AU Cn many (a1,([]:List U1),a0.2.1,(AH a0.2.1),0,())with|none=>none|some r=>match r with
 |.inl (o0,_)=>some (o0,())
 |.inr _=>none
def Oj[Lk]:=fun v=>Lk.f (ML v)
theorem Sf v:Oj v=ML v:=AG _
abbrev Z4:AE:=[(.tmp 0,.dat Uu)]
abbrev Z3:AE:=[(.tmp 0,.dat .bool)]
abbrev Z2:List RS:=[.one]
abbrev AEE:AE:=[(.tmp 1,.box 2),(.cell 0 0,.di),(.cell 0 1,.dat U9),(.tmp 3,.di),(.tmp 23,.dat U9),(.tmp 24,.di),(.tmp 25,.di)]
abbrev AED:A0:=[(.ret,[(.tmp 2,.dat .bool)]),(.exit 0,[(.tmp 1,.box 2),(.cell 0 0,.di),(.cell 0 1,.dat U9)])]
def Dh[Lk]:(Int×List U6×Int×List U6×Int×Int×Unit)→Option ((Int×List U6×Int×List U6×Int×Int×Unit)⊕Uf⊕(Int×List U6×Unit)⊕Unit):=fun(a0,a1,a2,a3,a4,a5,_)=>
 match(ilt a5 a4)with
 |true=>match idx a3 a5 with|none=>none|some x0=>match(ilt x0.1 0)with
  |true=>some (.inr (.inl (false,())))
  |false=>match(ile x0.2.1 x0.1)with
  |true=>some (.inr (.inl (false,())))
  |false=>match(ile a0 x0.2.1)with
  |true=>some (.inr (.inl (false,())))
  |false=>match(ilt x0.2.2.1 0)with
  |true=>some (.inr (.inl (false,())))
  |false=>match(ilt a2 x0.2.2.1)with
  |true=>some (.inr (.inl (false,())))
  |false=>match(ilt 0 a5)with
  |true=>match idx a1 (IntKind.wrap .i64 (a5-1))with|none=>none|some x1=>match Jv ((x1.1,(x1.2.1,(x1.2.2.1,(x1.2.2.2.1,())))),(x0.1,(x0.2.1,(x0.2.2.1,(x0.2.2.2.1,())))),())with|none=>none|some (y2,_)=>match(ile 0 y2)with
   |true=>some (.inr (.inl (false,())))
   |false=>some (.inl (a0,a1,a2,a3,a4,(IntKind.wrap .i64 (a5+1)),()))
  |false=>some (.inl (a0,a1,a2,a3,a4,(IntKind.wrap .i64 (a5+1)),()))
 |false=>some (.inr (.inr (.inl (a0,a1,()))))
def Hh[Lk]:(Un×Unit)→Option (Uf):=fun(a0,_)=>
 match Sh (a0.1,())with|none=>none|some (y0,_)=>match(!y0)with
 |true=>some (false,())
 |false=>match(ilt 400 (AH a0.2.1))with
 |true=>some (false,())
 |false=>match AHE (a0.1,())with|none=>none|some (y1,_)=>match AU Dh many (a0.1,a0.2.1,y1,a0.2.1,(AH a0.2.1),0,())with|none=>none|some r=>match r with
 |.inl (o2,_)=>some (o2,())
 |.inr r=>match r with
 |.inl (o3,o4,_)=>match Oj ((o3,(o4,())),0,())with|none=>none|some (y5,_)=>match fof (o3,y5,())with|none=>none|some (y6,y7,_)=>match(ieq y7 0)with
  |true=>some ((ieq (AH y6.2.1) (IntKind.wrap .i64 (o3-(AH y5)))),())
  |false=>some (false,())
 |.inr _=>none
def Ke[Lk]:=fun v=>Lk.f (Hh v)
theorem Jt v:Ke v=Hh v:=AG _
def Ev[Lk]:(Int×List U1×List Int×Bool×Int×Unit)→Option ((Int×List U1×List Int×Bool×Int×Unit)⊕(Int×List U1×List Int×Bool×Unit)⊕Unit):=fun(a0,a1,a2,a3,a4,_)=>
 match(ilt a4 (AH a1))with
 |true=>match idx a1 a4 with|none=>none|some x0=>match idx a1 a4 with|none=>none|some x1=>match(ilt x0.1 0)with
  |true=>some (.inl (a0,a1,a2,a3,(IntKind.wrap .i64 (a4+1)),()))
  |false=>match(ilt x1.2.1 0)with
  |true=>some (.inl (a0,a1,a2,a3,(IntKind.wrap .i64 (a4+1)),()))
  |false=>match(ile a0 x0.1)with
  |true=>some (.inl (a0,a1,a2,a3,(IntKind.wrap .i64 (a4+1)),()))
  |false=>match(ile a0 x1.2.1)with
  |true=>some (.inl (a0,a1,a2,a3,(IntKind.wrap .i64 (a4+1)),()))
  |false=>match idx a2 x0.1 with|none=>none|some x2=>match idx a2 x1.2.1 with|none=>none|some x3=>match(ieq (AX a2 (AK x0.1) 0) (AX a2 (AK x1.2.1) 0))with
  |true=>some (.inl (a0,a1,a2,a3,(IntKind.wrap .i64 (a4+1)),()))
  |false=>match idx a2 x0.1 with|none=>none|some x4=>match idx a2 x1.2.1 with|none=>none|some x5=>match idx a2 x0.1 with|none=>none|some x6=>match idx (BA a2 (AK x0.1) (Ce (AX a2 (AK x0.1) 0) (AX a2 (AK x1.2.1) 0))) x1.2.1 with|none=>none|some x7=>some (.inl (a0,a1,(BA (BA a2 (AK x0.1) (Ce (AX a2 (AK x0.1) 0) (AX a2 (AK x1.2.1) 0))) (AK x1.2.1) (Ce (AX a2 (AK x0.1) 0) (AX a2 (AK x1.2.1) 0))),true,(IntKind.wrap .i64 (a4+1)),()))
 |false=>some (.inr (.inl (a0,a1,a2,a3,())))
def Gv[Lk]:(Int×List U1×List Int×Bool×Unit)→Option ((Int×List U1×List Int×Bool×Unit)⊕Um⊕Unit):=fun(a0,a1,a2,a3,_)=>
 match a3 with
 |true=>match AU Ev many (a0,a1,a2,false,0,())with|none=>none|some r=>match r with
  |.inl (o0,o1,o2,o3,_)=>some (.inl (o0,o1,o2,o3,()))
  |.inr _=>none
 |false=>some (.inr (.inl (a2,())))
def Ew[Lk]:(Int×List U1×List Int×Int×Unit)→Option ((Int×List U1×List Int×Int×Unit)⊕(Int×List U1×List Int×Unit)⊕Unit):=fun(a0,a1,a2,a3,_)=>
 match(ilt a3 a0)with
 |true=>match(fits ((AH a2)+(AH ([a3]:List (Int)))))with
  |true=>some (.inl (a0,a1,(A9 a2 ([a3]:List (Int))),(IntKind.wrap .i64 (a3+1)),()))
  |false=>none
 |false=>some (.inr (.inl (a0,a1,a2,())))
def Mm[Lk]:(Int×List U1×Unit)→Option (Um):=fun(a0,a1,_)=>
 match AU Ew many (a0,a1,([]:List (Int)),0,())with|none=>none|some r=>match r with
 |.inl (o0,o1,o2,_)=>match AU Gv many (o0,o1,o2,true,())with|none=>none|some r=>match r with
  |.inl (o3,_)=>some (o3,())
  |.inr _=>none
 |.inr _=>none
def NV[Lk]:=fun v=>Lk.f (Mm v)
theorem AH7 v:NV v=Mm v:=AG _
def AXY[Lk]:U1→Option (U1⊕U8⊕Unit):=fun(a0,a1,_)=>
 match(ilt 0 a1)with
 |true=>match quo? .i64 a1 2 with|none=>none|some x0=>some (.inl ((IntKind.wrap .i64 (a0+1)),x0,()))
 |false=>some (.inr (.inl (a0,())))
def AbG[Lk]:U8→Option (U8):=fun(a0,_)=>
 match(ilt a0 1)with
 |true=>some (0,())
 |false=>match(ilt 64 a0)with
 |true=>some (0,())
 |false=>match AU AXY many (0,(IntKind.wrap .i64 (a0-1)),())with|none=>none|some r=>match r with
 |.inl (o0,_)=>some (o0,())
 |.inr _=>none
def X0[Lk]:=fun v=>Lk.f (AbG v)
def E9[Lk]:(Int×List U6×List U1×List Int×Int×Int×Unit)→Option ((Int×List U6×List U1×List Int×Int×Int×Unit)⊕(Int×List U6×List U1×Int×Unit)⊕Unit):=fun(a0,a1,a2,a3,a4,a5,_)=>
 match(ilt a5 a0)with
 |true=>match idx a3 a5 with|none=>none|some x0=>match(ieq (AX a3 (AK a5) 0) a5)with
  |true=>some (.inl (a0,a1,a2,a3,(IntKind.wrap .i64 (a4+1)),(IntKind.wrap .i64 (a5+1)),()))
  |false=>some (.inl (a0,a1,a2,a3,a4,(IntKind.wrap .i64 (a5+1)),()))
 |false=>some (.inr (.inl (a0,a1,a2,a4,())))
def D6[Lk]:(Int×List U6×List U1×Int×Unit)→Option ((Int×List U6×List U1×Int×Unit)⊕Uf⊕(Int×List U6×List U1×Unit)⊕Unit):=fun(a0,a1,a2,a3,_)=>
 match(ilt a3 (AH a1))with
 |true=>match idx a1 a3 with|none=>none|some x0=>match(ilt x0.1 0)with
  |true=>some (.inr (.inl (false,())))
  |false=>match(ile x0.2.1 x0.1)with
  |true=>some (.inr (.inl (false,())))
  |false=>match(ile a0 x0.2.1)with
  |true=>some (.inr (.inl (false,())))
  |false=>match(ilt x0.2.2.1 0)with
  |true=>some (.inr (.inl (false,())))
  |false=>match X0 (a0,())with|none=>none|some (y1,_)=>match(ilt y1 x0.2.2.1)with
  |true=>some (.inr (.inl (false,())))
  |false=>match(ilt 0 a3)with
  |true=>match idx a1 (IntKind.wrap .i64 (a3-1))with|none=>none|some x2=>match(ilt x0.1 x2.1)with
   |true=>some (.inr (.inl (false,())))
   |false=>match idx a1 (IntKind.wrap .i64 (a3-1))with|none=>none|some x3=>match(ieq x3.1 x0.1)with
   |true=>match idx a1 (IntKind.wrap .i64 (a3-1))with|none=>none|some x4=>match(ile x0.2.1 x4.2.1)with
    |true=>some (.inr (.inl (false,())))
    |false=>match x0.2.2.2.1 with
    |true=>match(fits ((AH a2)+(AH ([(x0.1,(x0.2.1,()))]:List U1))))with
     |true=>some (.inl (a0,a1,(A9 a2 ([(x0.1,(x0.2.1,()))]:List U1)),(IntKind.wrap .i64 (a3+1)),()))
     |false=>none
    |false=>some (.inl (a0,a1,a2,(IntKind.wrap .i64 (a3+1)),()))
   |false=>match x0.2.2.2.1 with
   |true=>match(fits ((AH a2)+(AH ([(x0.1,(x0.2.1,()))]:List U1))))with
    |true=>some (.inl (a0,a1,(A9 a2 ([(x0.1,(x0.2.1,()))]:List U1)),(IntKind.wrap .i64 (a3+1)),()))
    |false=>none
   |false=>some (.inl (a0,a1,a2,(IntKind.wrap .i64 (a3+1)),()))
  |false=>match x0.2.2.2.1 with
  |true=>match(fits ((AH a2)+(AH ([(x0.1,(x0.2.1,()))]:List U1))))with
   |true=>some (.inl (a0,a1,(A9 a2 ([(x0.1,(x0.2.1,()))]:List U1)),(IntKind.wrap .i64 (a3+1)),()))
   |false=>none
  |false=>some (.inl (a0,a1,a2,(IntKind.wrap .i64 (a3+1)),()))
 |false=>some (.inr (.inr (.inl (a0,a1,a2,()))))
def FA[Lk]:(Un×Unit)→Option (Uf):=fun(a0,_)=>
 match(ilt a0.1 1)with
 |true=>some (false,())
 |false=>match(ilt 64 a0.1)with
 |true=>some (false,())
 |false=>match(ilt 400 (AH a0.2.1))with
 |true=>some (false,())
 |false=>match AU D6 many (a0.1,a0.2.1,([]:List U1),0,())with|none=>none|some r=>match r with
 |.inl (o0,_)=>some (o0,())
 |.inr r=>match r with
 |.inl (o1,o2,o3,_)=>match NV (o1,o3,())with|none=>none|some (y4,_)=>match AU E9 many (o1,o2,o3,y4,0,0,())with|none=>none|some r=>match r with
  |.inl (o5,o6,o7,o8,_)=>some ((ieq o8 (IntKind.wrap .i64 (o5-(AH o7)))),())
  |.inr _=>none
 |.inr _=>none
def Gl[Lk]:=fun v=>Lk.f (FA v)
theorem HW v:Gl v=FA v:=AG _
def AQo[Lk]:U1→Option (Uf):=fun(a0,a1,_)=>
 match(ile 1 a0)with
 |true=>match(ile a0 64)with
  |true=>match(ile 0 a1)with
   |true=>some ((ilt a1 a0),())
   |false=>some (false,())
  |false=>some (false,())
 |false=>some (false,())
def AHS[Lk]:=fun v=>Lk.f (AQo v)
theorem Ace v:AHS v=AQo v:=AG _
def Rj[Lk]:U1→Option ((Int×Int×Bool×Bool×Unit)):=fun(a0,a1,_)=>
 match AHS (a0,a1,())with|none=>none|some (y0,_)=>match y0 with
 |true=>some (a1,0,false,true,())
 |false=>match(ilt a0 1)with
 |true=>some (0,0,false,false,())
 |false=>match(ilt 64 a0)with
 |true=>some (0,0,false,false,())
 |false=>match(ilt a1 a0)with
 |true=>some (0,0,false,false,())
 |false=>match(ile (IntKind.wrap .i64 (a0+(IntKind.wrap .i64 (a0*a0)))) a1)with
 |true=>some (0,0,false,false,())
 |false=>match quo? .i64 (IntKind.wrap .i64 (a1-a0)) a0 with|none=>none|some x1=>match rem? (IntKind.wrap .i64 (a1-a0)) a0 with|none=>none|some x2=>match(ieq x1 x2)with
 |true=>some (0,0,false,false,())
 |false=>some (x1,x2,true,true,())
def Wx[Lk]:=fun v=>Lk.f (Rj v)
theorem ANp v:Wx v=Rj v:=AG _
def AIQ[Lk]:(Int×Int×Int×Unit)→Option (U8):=fun(a0,a1,a2,_)=>
 match AHS (a0,a1,())with|none=>none|some (y0,_)=>match(!y0)with
 |true=>some ((-1:Int),())
 |false=>match AHS (a0,a2,())with|none=>none|some (y1,_)=>match(!y1)with
 |true=>some ((-1:Int),())
 |false=>match(ieq a1 a2)with
 |true=>some ((-1:Int),())
 |false=>some ((IntKind.wrap .i64 ((IntKind.wrap .i64 (a0+(IntKind.wrap .i64 (a1*a0))))+a2)),())
def AM5[Lk]:=fun v=>Lk.f (AIQ v)
theorem Aaq v:AM5 v=AIQ v:=AG _
def Js[Lk]:(Int×Int×Int×List U3×Int×Unit)→Option ((Int×Int×Int×List U3×Int×Unit)⊕(Int×Int×List U3×Unit)⊕Unit):=fun(a0,a1,a2,a3,a4,_)=>
 match(ilt a4 a0)with
 |true=>match(fits ((AH a3)+(AH ([([a4]:List (Int))]:List U3))))with
  |true=>some (.inl (a0,a1,a2,(A9 a3 ([([a4]:List (Int))]:List U3)),(IntKind.wrap .i64 (a4+1)),()))
  |false=>none
 |false=>some (.inr (.inl (a1,a2,a3,())))
def Zu[Lk]:U8→Option (V4):=fun(a0,_)=>
 match(ilt a0 1)with
 |true=>some (0,([]:List U3),1,())
 |false=>match(ilt 64 a0)with
 |true=>some (0,([]:List U3),1,())
 |false=>match AU Js many (a0,0,a0,([]:List U3),0,())with|none=>none|some r=>match r with
 |.inl (o0,o1,o2,_)=>some (o1,o2,0,())
 |.inr _=>none
def AHC[Lk]:=fun v=>Lk.f (Zu v)
theorem AVk v:AHC v=Zu v:=AG _
def OL[Lk]:(Int×Int×Int×Unit)→Option (Uf):=fun(a0,a1,a2,_)=>
 match Wx (a0,a1,())with|none=>none|some (y0,y1,y2,y3,_)=>match y3 with
 |true=>match(!y2)with
  |true=>match(ieq y0 a2)with
   |true=>some (true,())
   |false=>match y2 with
   |true=>some ((ieq y1 a2),())
   |false=>some (false,())
  |false=>match y2 with
  |true=>some ((ieq y1 a2),())
  |false=>some (false,())
 |false=>some (false,())
def X9[Lk]:=fun v=>Lk.f (OL v)
theorem AJN v:X9 v=OL v:=AG _
def Jd[Lk]:Uv→Option (Uv⊕(Int×Int×List Int×Bool×Bool×Bool×Bool×Int×Int×Bool×Int×Int×Int×Int×Int×Bool×Int×List Int×Int×Int×Int×Int×Int×Int×Int×Int×Bool×Unit)⊕Unit):=fun(a0,a1,a2,a3,a4,a5,a6,a7,a8,a9,a10,a11,a12,a13,a14,a15,a16,a17,a18,a19,a20,a21,a22,a23,a24,a25,a26,a27,_)=>
 match(ilt a4 (AH a1))with
 |true=>match rem? (IntKind.wrap .i64 (a2+a4)) (AH a1)with|none=>none|some x0=>match idx a1 x0 with|none=>none|some x1=>match(fits ((AH a3)+(AH ([(AX a1 (AK x0) 0)]:List (Int)))))with
  |true=>some (.inl (a0,a1,a2,(A9 a3 ([(AX a1 (AK x0) 0)]:List (Int))),(IntKind.wrap .i64 (a4+1)),a5,a6,a7,a8,a9,a10,a11,a12,a13,a14,a15,a16,a17,a18,a19,a20,a21,a22,a23,a24,a25,a26,a27,()))
  |false=>none
 |false=>some (.inr (.inl (a0,a2,a3,a5,a6,a7,a8,a9,a10,a11,a12,a13,a14,a15,a16,a17,a18,a1,a19,a20,a21,a22,a23,a24,a25,a26,a27,())))
def Dd[Lk]:(Int×List Int×Bool×Int×Unit)→Option ((Int×List Int×Bool×Int×Unit)⊕(Int×List Int×Bool×Unit)⊕Unit):=fun(a0,a1,a2,a3,_)=>
 match(ilt a3 (AH a1))with
 |true=>match(!a2)with
  |true=>match idx a1 a3 with|none=>none|some x0=>match rem? (IntKind.wrap .i64 (a3+1)) (AH a1)with|none=>none|some x1=>match idx a1 x1 with|none=>none|some x2=>match rem? (IntKind.wrap .i64 (a3+2)) (AH a1)with|none=>none|some x3=>match idx a1 x3 with|none=>none|some x4=>match Wx (a0,(AX a1 (AK a3) 0),())with|none=>none|some (y5,y6,y7,y8,_)=>match(ile 4 (AH a1))with
   |true=>match y8 with
    |true=>match y7 with
     |true=>match(ieq (AX a1 (AK x1) 0) y6)with
      |true=>match AM5 (a0,y6,y5,())with|none=>none|some (y9,_)=>match(ieq (AX a1 (AK x3) 0) y9)with
       |true=>match rem? (IntKind.wrap .i64 ((IntKind.wrap .i64 (a3+(AH a1)))-1)) (AH a1)with|none=>none|some x10=>match idx a1 x10 with|none=>none|some x11=>match X9 (a0,(AX a1 (AK x10) 0),y5,())with|none=>none|some (y12,_)=>match y12 with
        |true=>match AU Jd many (a0,a1,a3,([]:List (Int)),3,a2,(!a2),y8,y7,(AX a1 (AK x1) 0),y6,(ieq (AX a1 (AK x1) 0) y6),(AX a1 (AK x3) 0),a0,y6,y5,y9,(ieq (AX a1 (AK x3) 0) y9),a0,a3,(AH a1),(IntKind.wrap .i64 (a3+(AH a1))),(IntKind.wrap .i64 ((IntKind.wrap .i64 (a3+(AH a1)))-1)),(AH a1),x10,(AX a1 (AK x10) 0),y5,y12,())with|none=>none|some r=>match r with
         |.inl (o13,o14,o15,o16,o17,o18,o19,o20,o21,o22,o23,o24,o25,o26,o27,o28,o29,o30,o31,o32,o33,o34,o35,o36,o37,o38,o39,_)=>some (.inl (o13,o15,true,(IntKind.wrap .i64 (o14+1)),()))
         |.inr _=>none
        |false=>some (.inl (a0,a1,a2,(IntKind.wrap .i64 (a3+1)),()))
       |false=>some (.inl (a0,a1,a2,(IntKind.wrap .i64 (a3+1)),()))
      |false=>some (.inl (a0,a1,a2,(IntKind.wrap .i64 (a3+1)),()))
     |false=>some (.inl (a0,a1,a2,(IntKind.wrap .i64 (a3+1)),()))
    |false=>some (.inl (a0,a1,a2,(IntKind.wrap .i64 (a3+1)),()))
   |false=>some (.inl (a0,a1,a2,(IntKind.wrap .i64 (a3+1)),()))
  |false=>some (.inr (.inl (a0,a1,a2,())))
 |false=>some (.inr (.inl (a0,a1,a2,())))
def NA[Lk]:Vl→Option (Vl⊕Uf⊕Vl⊕Unit):=fun(a0,a1,_)=>
 match(ilt 1 (AH a1))with
 |true=>match AU Dd many (a0,a1,false,0,())with|none=>none|some r=>match r with
  |.inl (o0,o1,o2,_)=>match(!o2)with
   |true=>some (.inr (.inl (false,())))
   |false=>some (.inl (o0,o1,()))
  |.inr _=>none
 |false=>some (.inr (.inr (.inl (a0,a1,()))))
def Xv[Lk]:Vl→Option (Uf):=fun(a0,a1,_)=>
 match(fits ((AH ([]:List (Int)))+(AH a1)))with
 |true=>match AU NA many (a0,(A9 ([]:List (Int)) a1),())with|none=>none|some r=>match r with
  |.inl (o0,_)=>some (o0,())
  |.inr r=>match r with
  |.inl (o1,o2,_)=>match(ieq (AH o2) 1)with
   |true=>match idx o2 0 with|none=>none|some x3=>match AHS (o1,(AX o2 0 0),())with|none=>none|some (y4,_)=>some (y4,())
   |false=>some (false,())
  |.inr _=>none
 |false=>none
def ANm[Lk]:=fun v=>Lk.f (Xv v)
theorem AT3 v:ANm v=Xv v:=AG _
def Ha[Lk]:Uo→Option (Uo⊕U8⊕(Unit)⊕Unit):=fun(a0,a1,a2,_)=>
 match(ilt a2 (AH a0))with
 |true=>match idx a0 a2 with|none=>none|some x0=>match(ieq x0 a1)with
  |true=>some (.inr (.inl (a2,())))
  |false=>some (.inl (a0,a1,(IntKind.wrap .i64 (a2+1)),()))
 |false=>some (.inr (.inr (.inl ())))
def R3[Lk]:Uz→Option (U8):=fun(a0,a1,_)=>
 match AU Ha many (a0,a1,0,())with|none=>none|some r=>match r with
 |.inl (o0,_)=>some (o0,())
 |.inr r=>match r with
 |.inl _=>some ((-1:Int),())
 |.inr _=>none
def NI[Lk]:=fun v=>Lk.f (R3 v)
theorem APB v:NI v=R3 v:=AG _
def FD[Lk]:Uz→Option (Uz⊕Uf⊕(Unit)⊕Unit):=fun(a0,a1,_)=>
 match(ilt a1 (AH a0))with
 |true=>match idx a0 a1 with|none=>none|some x0=>match(ilt x0 0)with
  |true=>some (.inr (.inl (false,())))
  |false=>match idx a0 a1 with|none=>none|some x1=>match(ilt 10000 x1)with
  |true=>some (.inr (.inl (false,())))
  |false=>match CO a0 0 a1 with|none=>none|some x2=>match idx a0 a1 with|none=>none|some x3=>match NI (x2,x3,())with|none=>none|some (y4,_)=>match(ile 0 y4)with
  |true=>some (.inr (.inl (false,())))
  |false=>some (.inl (a0,(IntKind.wrap .i64 (a1+1)),()))
 |false=>some (.inr (.inr (.inl ())))
def Ry[Lk]:Um→Option (Uf):=fun(a0,_)=>
 match(ilt 1000 (AH a0))with
 |true=>some (false,())
 |false=>match AU FD many (a0,0,())with|none=>none|some r=>match r with
 |.inl (o0,_)=>some (o0,())
 |.inr r=>match r with
 |.inl _=>some (true,())
 |.inr _=>none
def P1[Lk]:=fun v=>Lk.f (Ry v)
theorem AOi v:P1 v=Ry v:=AG _
def AAg[Lk]:Uz→Option ((List Int×Bool×Unit)):=fun(a0,a1,_)=>
 match NI (a0,a1,())with|none=>none|some (y0,_)=>match P1 (a0,())with|none=>none|some (y1,_)=>match(!y1)with
 |true=>some (([]:List (Int)),false,())
 |false=>match(ilt y0 0)with
 |true=>some (([]:List (Int)),false,())
 |false=>match CO a0 y0 (AH a0)with|none=>none|some x2=>match(fits ((AH ([]:List (Int)))+(AH x2)))with
 |true=>match CO a0 0 y0 with|none=>none|some x3=>match(fits ((AH (A9 ([]:List (Int)) x2))+(AH x3)))with
  |true=>some ((A9 (A9 ([]:List (Int)) x2) x3),true,())
  |false=>none
 |false=>none
def AAh[Lk]:=fun v=>Lk.f (AAg v)
theorem AWU v:AAh v=AAg v:=AG _
def HY[Lk]:Uo→Option (Uo⊕Uz⊕Unit):=fun(a0,a1,a2,_)=>
 match(ilt a2 (AH a0))with
 |true=>match idx a0 a2 with|none=>none|some x0=>some (.inl (a0,(Ce a1 x0),(IntKind.wrap .i64 (a2+1)),()))
 |false=>some (.inr (.inl (a0,a1,())))
def R1[Lk]:Um→Option (Um):=fun(a0,_)=>
 match P1 (a0,())with|none=>none|some (y0,_)=>match(!y0)with
 |true=>some (([]:List (Int)),())
 |false=>match(ieq (AH a0) 0)with
 |true=>some (([]:List (Int)),())
 |false=>match idx a0 0 with|none=>none|some x1=>match AU HY many (a0,x1,0,())with|none=>none|some r=>match r with
 |.inl (o2,o3,_)=>match AAh (o2,o3,())with|none=>none|some (y4,y5,_)=>some (y4,())
 |.inr _=>none
def W5[Lk]:=fun v=>Lk.f (R1 v)
theorem AO6 v:W5 v=R1 v:=AG _
def FL[Lk]:(List U3×List U3×Int×Unit)→Option ((List U3×List U3×Int×Unit)⊕Uf⊕(Unit)⊕Unit):=fun(a0,a1,a2,_)=>
 match(ilt a2 (AH a0))with
 |true=>match idx a0 a2 with|none=>none|some x0=>match idx a1 a2 with|none=>none|some x1=>match Km (x0,x1,())with|none=>none|some (y2,_)=>match(!y2)with
  |true=>some (.inr (.inl (false,())))
  |false=>some (.inl (a0,a1,(IntKind.wrap .i64 (a2+1)),()))
 |false=>some (.inr (.inr (.inl ())))
def Sj[Lk]:(List U3×List U3×Unit)→Option (Uf):=fun(a0,a1,_)=>
 match(!(ieq (AH a0) (AH a1)))with
 |true=>some (false,())
 |false=>match AU FL many (a0,a1,0,())with|none=>none|some r=>match r with
 |.inl (o0,_)=>some (o0,())
 |.inr r=>match r with
 |.inl _=>some (true,())
 |.inr _=>none
def AHH[Lk]:=fun v=>Lk.f (Sj v)
theorem AQP v:AHH v=Sj v:=AG _
def D7[Lk]:Us→Option (Us⊕Uf⊕(Int×List U3×List Bool×Int×Int×Int×List Int×Int×Bool×Int×List Int×Bool×Bool×List Int×List Int×List U3×List Int×List U3×Bool×Bool×List Int×Int×Int×Bool×Unit)⊕Unit):=fun(a0,a1,a2,a3,a4,a5,a6,a7,a8,a9,a10,a11,a12,a13,a14,a15,a16,a17,a18,a19,a20,a21,a22,a23,a24,a25,_)=>
 match(ilt a7 (AH a6))with
 |true=>match idx a6 a7 with|none=>none|some x0=>match(ilt x0 a0)with
  |true=>match idx a6 a7 with|none=>none|some x1=>match idx a2 x1 with|none=>none|some x2=>match(AX a2 (AK x1) false)with
   |true=>some (.inr (.inl (false,())))
   |false=>match idx a6 a7 with|none=>none|some x3=>match idx a2 x3 with|none=>none|some x4=>some (.inl (a0,a1,(BA a2 (AK x3) true),a3,(IntKind.wrap .i64 (a4+1)),a5,a6,(IntKind.wrap .i64 (a7+1)),a8,a9,a10,a11,a12,a13,a14,a15,a16,a17,a18,a19,a20,a21,a22,a23,a24,a25,()))
  |false=>some (.inl (a0,a1,a2,a3,a4,a5,a6,(IntKind.wrap .i64 (a7+1)),a8,a9,a10,a11,a12,a13,a14,a15,a16,a17,a18,a19,a20,a21,a22,a23,a24,a25,()))
 |false=>some (.inr (.inr (.inl (a0,a1,a2,a3,a4,a5,a8,a9,a10,a11,a12,a13,a14,a15,a16,a17,a18,a19,a20,a21,a22,a23,a24,a25,()))))
def D8[Lk]:(Int×List U3×List Bool×Int×Int×Int×Unit)→Option ((Int×List U3×List Bool×Int×Int×Int×Unit)⊕Uf⊕V4⊕Unit):=fun(a0,a1,a2,a3,a4,a5,_)=>
 match(ilt a5 (AH a1))with
 |true=>match idx a1 a5 with|none=>none|some x0=>match P1 (x0,())with|none=>none|some (y1,_)=>match(!y1)with
  |true=>some (.inr (.inl (false,())))
  |false=>match(ieq (AH x0) 0)with
  |true=>some (.inr (.inl (false,())))
  |false=>match ANm (a0,x0,())with|none=>none|some (y2,_)=>match(!y2)with
  |true=>some (.inr (.inl (false,())))
  |false=>match W5 (x0,())with|none=>none|some (y3,_)=>match AHH (([y3]:List U3),([x0]:List U3),())with|none=>none|some (y4,_)=>match(!y4)with
  |true=>some (.inr (.inl (false,())))
  |false=>match idx x0 0 with|none=>none|some x5=>match(ile x5 a3)with
  |true=>some (.inr (.inl (false,())))
  |false=>match idx x0 0 with|none=>none|some x6=>match AU D7 many (a0,a1,a2,x6,a4,a5,x0,0,x0,(AH x0),(ieq (AH x0) 0),a0,x0,y2,(!y2),x0,y3,([y3]:List U3),x0,([x0]:List U3),y4,(!y4),x0,x5,a3,(ile x5 a3),())with|none=>none|some r=>match r with
  |.inl (o7,_)=>some (.inr (.inl (o7,())))
  |.inr r=>match r with
  |.inl (o8,o9,o10,o11,o12,o13,o14,o15,o16,o17,o18,o19,o20,o21,o22,o23,o24,o25,o26,o27,o28,o29,o30,o31,_)=>some (.inl (o8,o9,o10,o11,o12,(IntKind.wrap .i64 (o13+1)),()))
  |.inr _=>none
 |false=>some (.inr (.inr (.inl (a0,a1,a4,()))))
def Rx[Lk]:(Ui×Unit)→Option (Uf):=fun(a0,_)=>
 match(ilt a0.1 1)with
 |true=>some (false,())
 |false=>match(ilt 64 a0.1)with
 |true=>some (false,())
 |false=>match(ilt a0.1 (AH a0.2.1))with
 |true=>some (false,())
 |false=>match(E5 a0.1&&E5 a0.1&&ile a0.1 a0.1&&true)with
 |true=>match AU D8 many (a0.1,a0.2.1,(Dy (AK a0.1) false),(-1:Int),(0:Int),(0:Int),())with|none=>none|some r=>match r with
  |.inl (o0,_)=>some (o0,())
  |.inr r=>match r with
  |.inl (o1,o2,o3,_)=>some ((ieq o3 o1),())
  |.inr _=>none
 |false=>none
def Pz[Lk]:=fun v=>Lk.f (Rx v)
theorem AOh v:Pz v=Rx v:=AG _
def HZ[Lk]:(Int×Int×List U3×Int×Unit)→Option ((Int×Int×List U3×Int×Unit)⊕U8⊕(Unit)⊕Unit):=fun(a0,a1,a2,a3,_)=>
 match(ilt a3 (AH a2))with
 |true=>match idx a2 a3 with|none=>none|some x0=>match NI (x0,a0,())with|none=>none|some (y1,_)=>match(ile 0 y1)with
  |true=>some (.inr (.inl (a3,())))
  |false=>some (.inl (a0,a1,a2,(IntKind.wrap .i64 (a3+1)),()))
 |false=>some (.inr (.inr (.inl ())))
def R2[Lk]:Vd→Option (U8):=fun(a0,a1,_)=>
 match AU HZ many (a1,a0.1,a0.2.1,0,())with|none=>none|some r=>match r with
 |.inl (o0,_)=>some (o0,())
 |.inr r=>match r with
 |.inl _=>some ((-1:Int),())
 |.inr _=>none
def KR[Lk]:=fun v=>Lk.f (R2 v)
theorem APA v:KR v=R2 v:=AG _
def L5[Lk]:(List U3×List Int×Int×Unit)→Option ((List U3×List Int×Int×Unit)⊕(List U3×List Int×Int×Unit)⊕Unit):=fun(a0,a1,a2,_)=>
 match(ilt a2 (AH a0))with
 |true=>match idx a0 a2 with|none=>none|some x0=>match idx x0 0 with|none=>none|some x1=>match idx a1 0 with|none=>none|some x2=>match(ilt x1 (AX a1 0 0))with
  |true=>some (.inl (a0,a1,(IntKind.wrap .i64 (a2+1)),()))
  |false=>some (.inr (.inl (a0,a1,a2,())))
 |false=>some (.inr (.inl (a0,a1,a2,())))
def AGS[Lk]:(List U3×List Int×Unit)→Option (Uk):=fun(a0,a1,_)=>
 match W5 (a1,())with|none=>none|some (y0,_)=>match AU L5 many (a0,y0,0,())with|none=>none|some r=>match r with
 |.inl (o1,o2,o3,_)=>match CO o1 0 o3 with|none=>none|some x4=>match(fits ((AH ([]:List U3))+(AH x4)))with
  |true=>match(fits ((AH (A9 ([]:List U3) x4))+(AH ([o2]:List U3))))with
   |true=>match CO o1 o3 (AH o1)with|none=>none|some x5=>match(fits ((AH (A9 (A9 ([]:List U3) x4) ([o2]:List U3)))+(AH x5)))with
    |true=>some ((A9 (A9 (A9 ([]:List U3) x4) ([o2]:List U3)) x5),())
    |false=>none
   |false=>none
  |false=>none
 |.inr _=>none
def ASf[Lk]:=fun v=>Lk.f (AGS v)
theorem AYZ v:ASf v=AGS v:=AG _
def Lg[Lk]:V8→Option (Uk):=fun(a0,a1,_)=>
 match CO a0 0 a1 with|none=>none|some x0=>match(fits ((AH ([]:List U3))+(AH x0)))with
 |true=>match CO a0 (IntKind.wrap .i64 (a1+1)) (AH a0)with|none=>none|some x1=>match(fits ((AH (A9 ([]:List U3) x0))+(AH x1)))with
  |true=>some ((A9 (A9 ([]:List U3) x0) x1),())
  |false=>none
 |false=>none
def G0[Lk]:=fun v=>Lk.f (Lg v)
theorem AE1 v:G0 v=Lg v:=AG _
def Ju[Lk]:(Ui×Int×Int×Unit)→Option (V4):=fun(a0,a1,a2,_)=>
 match Pz ((a0.1,(a0.2.1,())),())with|none=>none|some (y0,_)=>match(!y0)with
 |true=>some (a0.1,a0.2.1,1,())
 |false=>match AHS (a0.1,a1,())with|none=>none|some (y1,_)=>match(!y1)with
 |true=>some (a0.1,a0.2.1,10,())
 |false=>match AHS (a0.1,a2,())with|none=>none|some (y2,_)=>match(!y2)with
 |true=>some (a0.1,a0.2.1,10,())
 |false=>match KR ((a0.1,(a0.2.1,())),a1,())with|none=>none|some (y3,_)=>match KR ((a0.1,(a0.2.1,())),a2,())with|none=>none|some (y4,_)=>match(ieq y3 y4)with
 |true=>some (a0.1,a0.2.1,5,())
 |false=>match KR ((a0.1,(a0.2.1,())),a1,())with|none=>none|some (y5,_)=>match KR ((a0.1,(a0.2.1,())),a2,())with|none=>none|some (y6,_)=>match idx a0.2.1 y5 with|none=>none|some x7=>match AAh (x7,a1,())with|none=>none|some (y8,y9,_)=>match idx a0.2.1 y6 with|none=>none|some x10=>match AAh (x10,a2,())with|none=>none|some (y11,y12,_)=>match AM5 (a0.1,a1,a2,())with|none=>none|some (y13,_)=>match(fits ((AH ([a1,y13]:List (Int)))+(AH y11)))with
 |true=>match AM5 (a0.1,a2,a1,())with|none=>none|some (y14,_)=>match(fits ((AH (A9 ([a1,y13]:List (Int)) y11))+(AH ([y14]:List (Int)))))with
  |true=>match CO y8 1 (AH y8)with|none=>none|some x15=>match(fits ((AH (A9 (A9 ([a1,y13]:List (Int)) y11) ([y14]:List (Int))))+(AH (DI 1 (AK (AH x15)) y8))))with
   |true=>match G0 (a0.2.1,(imax y5 y6),())with|none=>none|some (y16,_)=>match G0 (y16,(Ce y5 y6),())with|none=>none|some (y17,_)=>match ASf (y17,(A9 (A9 (A9 ([a1,y13]:List (Int)) y11) ([y14]:List (Int))) (DI 1 (AK (AH x15)) y8)),())with|none=>none|some (y18,_)=>some (a0.1,y18,0,())
   |false=>none
  |false=>none
 |false=>none
def Sl[Lk]:=fun v=>Lk.f (Ju v)
theorem NM v:Sl v=Ju v:=AG _
abbrev YT:AE:=[(.tmp 0,.dat Ul),(.tmp 1,.dat Ul)]
abbrev YS:AE:=[(.tmp 0,.dat .bool)]
abbrev YR:List RS:=[.one]
abbrev ADi:AE:=[(.tmp 0,.dat Ul),(.tmp 1,.dat Ul),(.tmp 5,.di)]
abbrev ADh:A0:=[(.ret,[(.tmp 4,.dat .bool)]),(.exit 0,[])]
def E8[Lk]:(List U1×List U1×Int×Unit)→Option ((List U1×List U1×Int×Unit)⊕Uf⊕(Unit)⊕Unit):=fun(a0,a1,a2,_)=>
 match(ilt a2 (AH a0))with
 |true=>match idx a0 a2 with|none=>none|some x0=>match idx a1 a2 with|none=>none|some x1=>match(!(ieq x0.1 x1.1&&(ieq x0.2.1 x1.2.1&&true)))with
  |true=>some (.inr (.inl (false,())))
  |false=>some (.inl (a0,a1,(IntKind.wrap .i64 (a2+1)),()))
 |false=>some (.inr (.inr (.inl ())))
def Pu[Lk]:(List U1×List U1×Unit)→Option (Uf):=fun(a0,a1,_)=>
 match(!(ieq (AH a0) (AH a1)))with
 |true=>some (false,())
 |false=>match AU E8 many (a0,a1,0,())with|none=>none|some r=>match r with
 |.inl (o0,_)=>some (o0,())
 |.inr r=>match r with
 |.inl _=>some (true,())
 |.inr _=>none
def Ly[Lk]:=fun v=>Lk.f (Pu v)
theorem ADj v:Ly v=Pu v:=AG _
abbrev AXc:AE:=[(.tmp 0,.dat Up),(.tmp 1,.di)]
abbrev AXb:AE:=[(.tmp 0,.di)]
abbrev AXa:List RS:=[.one]
def AR7[Lk]:Vd→Option (U8):=fun(a0,a1,_)=>
 match tin (a0.1,a1,())with|none=>none|some (y0,_)=>match(!y0)with
 |true=>some ((-1:Int),())
 |false=>match OH ((a0.1,(a0.2.1,())),())with|none=>none|some (y1,_)=>match(!y1)with
 |true=>some ((-1:Int),())
 |false=>match OI ((a0.1,(a0.2.1,())),a1,())with|none=>none|some (y2,_)=>some (y2,())
def tof[Lk]:=fun v=>Lk.f (AR7 v)
theorem AXd v:tof v=AR7 v:=AG _
def HP[Lk]:(List U1×Int×List U3×Int×Unit)→Option ((List U1×Int×List U3×Int×Unit)⊕U8⊕(Unit)⊕Unit):=fun(a0,a1,a2,a3,_)=>
 match(ilt a3 (AH a0))with
 |true=>match idx a0 a3 with|none=>none|some x0=>match(ilt x0.1 0)with
  |true=>some (.inr (.inl (10,())))
  |false=>match idx a0 a3 with|none=>none|some x1=>match(ile a1 x1.1)with
  |true=>some (.inr (.inl (10,())))
  |false=>match idx a0 a3 with|none=>none|some x2=>match(ilt x2.2.1 0)with
  |true=>some (.inr (.inl (10,())))
  |false=>match idx a0 a3 with|none=>none|some x3=>match(ile a1 x3.2.1)with
  |true=>some (.inr (.inl (10,())))
  |false=>some (.inl (a0,a1,a2,(IntKind.wrap .i64 (a3+1)),()))
 |false=>some (.inr (.inr (.inl ())))
def Rk[Lk]:(Ui×List U1×Unit)→Option (U8):=fun(a0,a1,_)=>
 match Pz ((a0.1,(a0.2.1,())),())with|none=>none|some (y0,_)=>match(!y0)with
 |true=>some (1,())
 |false=>match AU HP many (a1,a0.1,a0.2.1,0,())with|none=>none|some r=>match r with
 |.inl (o1,_)=>some (o1,())
 |.inr r=>match r with
 |.inl _=>some (0,())
 |.inr _=>none
def AFa[Lk]:=fun v=>Lk.f (Rk v)
theorem ANt v:AFa v=Rk v:=AG _
def Hj[Lk]:(List U1×Int×List U3×Int×List Bool×Int×Unit)→Option ((List U1×Int×List U3×Int×List Bool×Int×Unit)⊕(Int×List U3×Int×List Bool×Unit)⊕Unit):=fun(a0,a1,a2,a3,a4,a5,_)=>
 match(ilt a5 (AH a0))with
 |true=>match idx a0 a5 with|none=>none|some x0=>match idx a0 a5 with|none=>none|some x1=>match Sl ((a1,(a2,())),x0.1,x1.2.1,())with|none=>none|some (y2,y3,y4,_)=>match(fits ((AH a4)+(AH ([(ieq y4 0)]:List (Bool)))))with
  |true=>some (.inl (a0,y2,y3,a3,(A9 a4 ([(ieq y4 0)]:List (Bool))),(IntKind.wrap .i64 (a5+1)),()))
  |false=>none
 |false=>some (.inr (.inl (a1,a2,a3,a4,())))
def Sk[Lk]:(Ui×List U1×Unit)→Option ((Ui×List Bool×Int×Unit)):=fun(a0,a1,_)=>
 match AFa ((a0.1,(a0.2.1,())),a1,())with|none=>none|some (y0,_)=>match(!(ieq y0 0))with
 |true=>some ((a0.1,(a0.2.1,())),([]:List (Bool)),y0,())
 |false=>match AU Hj many (a1,a0.1,a0.2.1,0,([]:List (Bool)),0,())with|none=>none|some r=>match r with
 |.inl (o1,o2,o3,o4,_)=>some ((o1,(o2,())),o4,0,())
 |.inr _=>none
def AHI[Lk]:=fun v=>Lk.f (Sk v)
theorem AQR v:AHI v=Sk v:=AG _
def APu[Lk]:(Int×List U1×Unit)→Option (Vd):=fun(a0,a1,_)=>
 match AHC (a0,())with|none=>none|some (y0,y1,y2,_)=>match(!(ieq y2 0))with
 |true=>some ((0,(([]:List U3),())),y2,())
 |false=>match AHI ((y0,(y1,())),a1,())with|none=>none|some (y3,y4,y5,_)=>match(!(ieq y5 0))with
 |true=>some ((0,(([]:List U3),())),y5,())
 |false=>some ((y3.1,(y3.2.1,())),0,())
def Adv[Lk]:=fun v=>Lk.f (APu v)
theorem AcG v:Adv v=APu v:=AG _
def HK[Lk]:(Int×Int×List U6×List U1×Int×Unit)→Option ((Int×Int×List U6×List U1×Int×Unit)⊕Uj⊕Unit):=fun(a0,a1,a2,a3,a4,_)=>
 match(ilt a4 (AH a2))with
 |true=>match idx a2 a4 with|none=>none|some x0=>match x0.2.2.2.1 with
  |true=>match idx a2 a4 with|none=>none|some x1=>match(ile a0 x1.2.2.1)with
   |true=>match idx a2 a4 with|none=>none|some x2=>match idx a2 a4 with|none=>none|some x3=>match(fits ((AH a3)+(AH ([(x2.1,(x3.2.1,()))]:List U1))))with
    |true=>some (.inl (a0,a1,a2,(A9 a3 ([(x2.1,(x3.2.1,()))]:List U1)),(IntKind.wrap .i64 (a4+1)),()))
    |false=>none
   |false=>some (.inl (a0,a1,a2,a3,(IntKind.wrap .i64 (a4+1)),()))
  |false=>some (.inl (a0,a1,a2,a3,(IntKind.wrap .i64 (a4+1)),()))
 |false=>some (.inr (.inl (a3,())))
def Ri[Lk]:(Un×Int×Unit)→Option (Uj):=fun(a0,a1,_)=>
 match AU HK many (a1,a0.1,a0.2.1,([]:List U1),0,())with|none=>none|some r=>match r with
 |.inl (o0,_)=>some (o0,())
 |.inr _=>none
def AFP[Lk]:=fun v=>Lk.f (Ri v)
theorem ANj v:AFP v=Ri v:=AG _
def O4[Lk]:(Un×Int×Unit)→Option (Vd):=fun(a0,a1,_)=>
 match Gl ((a0.1,(a0.2.1,())),())with|none=>none|some (y0,_)=>match(!y0)with
 |true=>some ((0,(([]:List U3),())),1,())
 |false=>match AFP ((a0.1,(a0.2.1,())),a1,())with|none=>none|some (y1,_)=>match Adv (a0.1,y1,())with|none=>none|some (y2,y3,_)=>some ((y2.1,(y2.2.1,())),y3,())
def AAi[Lk]:=fun v=>Lk.f (O4 v)
theorem AMJ v:AAi v=O4 v:=AG _
abbrev So:AE:=[(.tmp 0,.dat Uu),(.tmp 1,.di)]
abbrev Sn:AE:=[(.tmp 0,.dat Up),(.tmp 1,.di)]
abbrev Sm:List RS:=[.one,.one]
def G7[Lk]:(Un×Int×Unit)→Option (Vd):=fun(a0,a1,_)=>
 match Ke ((a0.1,(a0.2.1,())),())with|none=>none|some (y0,_)=>match(!y0)with
 |true=>some ((0,(([]:List U3),())),1,())
 |false=>match Oj ((a0.1,(a0.2.1,())),a1,())with|none=>none|some (y1,_)=>match fof (a0.1,y1,())with|none=>none|some (y2,y3,_)=>some ((y2.1,(y2.2.1,())),y3,())
def Kh[Lk]:=fun v=>Lk.f (G7 v)
theorem Kg v:Kh v=G7 v:=AG _
def APv[Lk]:Vd→Option (U8):=fun(a0,a1,_)=>
 match Pz ((a0.1,(a0.2.1,())),())with|none=>none|some (y0,_)=>match(!y0)with
 |true=>some ((-1:Int),())
 |false=>match AHS (a0.1,a1,())with|none=>none|some (y1,_)=>match(!y1)with
 |true=>some ((-1:Int),())
 |false=>match KR ((a0.1,(a0.2.1,())),a1,())with|none=>none|some (y2,_)=>some (y2,())
def Adw[Lk]:=fun v=>Lk.f (APv v)
theorem AcH v:Adw v=APv v:=AG _
end
end Go.Pev
end
