/- A part of the proofs of this seat: PevDec2 PevFlow PevFlow2 PevCall PevCall2 PevCall3 PevCall4 PevTop PevClone G29M1 G29M2. -/
import Derived.Test.YtfojmhgomdbpfaaGreatDoorPc0e1df4835
import Derived.LoopN
import Derived.Laws.Sem
import Derived.KernelRfl
import Derived.Lib.SliceRun
set_option linter.unusedVariables false
set_option linter.unusedSimpArgs false
set_option linter.unusedSectionVars false
set_option maxRecDepth 100000
section
namespace Go.Pev
open Go.RowKit
theorem AUR(f g:List Nat):∀ fz,Ai (f++g) fz=Ai g (Ai f fz):=by
 induction f with
 |nil=>intro fz;rfl
 |cons a f ih=>intro fz;simp only[Amy,Ai];exact ih _
section
variable {w:World} {H:List Ob} {m:Mp} {val:Nat→Value} {tm:List AV}
theorem CH{fz:List Bool}{id:Nat}(h:Ag fz id=true):fz.getD id false=false:=by
 unfold Ag at h;simpa using h
theorem AXm:∀ (its:AE) (fz:List Bool) (bs:List Bnd) (F:Nat→Prop) (m':Mp) (E:St) (d:B6 (leaves its)) (bs':List Bnd) (fr:List Nat),
  HI w F m H fz→(∀ t v,tm[t]? = some v→Rep w F m H v (val t))→Inv w F m H fz bs m' E val→dec tm H its fz bs=some (d,bs',fr) →
  ∃ F2 m2,Ao w F m H fz w F2 m H (Ai fr fz)∧Inv w F2 m H (Ai fr fz) bs' m2 (enc its d E) val∧∃ r,bs'=bs++r:=by
 intro its
 induction its with
 |nil=>
  intro fz bs F m' E d bs' fr hi ht hv h
  simp only[dec,AmT]at h
  obtain⟨rfl,rfl,rfl⟩:=h
  exact⟨F,m',Ao.refl hi,hv,[],by simp⟩
 |cons p r ih=>
  intro fz bs F m' E d bs' fr hi ht hv h
  obtain⟨l,c⟩:=p
  have obj:∀ (b:Bnd) (o:Ob) (lc:Option (Nat×Nat)) (ref:AV) (u:Value) (xs:B6 (leaves r)) (g:List Nat),AYT w m H bs val l u→(∀ (i:Nat) (c:Bnd) (id:Nat),bs[i]? = some c→c.id? = some id→b.id?≠some id) →
    BM w F m H fz (upd m' E.heap.length lc) (E.heap++[o]) E.heap.length b→Rep w F (upd m' E.heap.length lc) (E.heap++[o]) ref u→dec tm H r fz (bs++[b])=some (xs,bs',g) →
    ∃ F2 m2,Ao w F m H fz w F2 m H (Ai g fz)∧Inv w F2 m H (Ai g fz) bs' m2 (enc r xs (place (Dn E o) ref l)) val∧∃ r,bs'=bs++r:=by
   intro b o lc ref u xs g hat hid hbd hrep hd
   have h1:=hv.add hid hbd
   have h2:=h1.place (hat.app b) hrep
   obtain⟨F2,m2,a1,a2,rr,a3⟩:=ih fz (bs++[b]) F _ _ xs bs' g hi ht h2 hd
   exact⟨F2,m2,a1,a2,b::rr,by rw[a3];simp⟩
  have ref:∀ (v:AV) (u:Value) (xs:B6 (leaves r)) (g:List Nat),AYT w m H bs val l u→Rep w F m' E.heap v u→dec tm H r fz bs=some (xs,bs',g) →
    ∃ F2 m2,Ao w F m H fz w F2 m H (Ai g fz)∧Inv w F2 m H (Ai g fz) bs' m2 (enc r xs (place E v l)) val∧∃ r,bs'=bs++r:=by
   intro v u xs g hat hrep hd
   exact ih fz bs F _ _ xs bs' g hi ht (hv.place hat hrep) hd
  cases c with
  |dat t=>
   simp only[dec]at h
   split at h
   ·rename_i v hl
    split at h
    ·rename_i x f hx
     split at h
     ·rename_i hf
      split at h
      ·rename_i xs bs1 g hd
       simp only[AmT]at h
       obtain⟨rfl,rfl,rfl⟩:=h
       obtain⟨u,hu,hat⟩:=Bh hi ht hl
       have hdat:=AiL hi hx hu
       have hg:=Ao.freeze hi f
       have hv1:=hv.freeze hf
       have hv2:=hv1.place (v:=.data t x) hat (by unfold Rep;exact hdat)
       obtain⟨F2,m2,a1,a2,rr,a3⟩:=ih (Ai f fz) bs (C8 F m H f) _ _ xs _ _ hg.2 (fun t v h=>hg.1.rep hi (ht t v h)) hv2 hd
       rw[AUR]
       exact⟨F2,m2,hg.trans a1,a2,rr,a3⟩
      ·cases h
     ·cases h
    ·cases h
   ·cases h
  |own T e=>
   simp only[dec]at h
   split at h
   ·rename_i e' hl
    split at h
    ·rename_i hc
     simp only[AmV]at hc
     have hsz:=hc
     split at h
     ·rename_i xs bs1 g hd
      simp only[AmT]at h
      obtain⟨rfl,rfl,rfl⟩:=h
      obtain⟨u,hu,hat⟩:=Bh hi ht hl
      unfold Rep at hu
      refine obj .none (.arr T e []) none (.own E.heap.length) u xs _ hat (fun _ _ _ _ _=>by simp[Bnd.id?]) ?_ ?_ hd
      ·simp only[BM]
       exact⟨Aq ..,.inl ⟨T,e,by simp,hsz⟩⟩
      ·unfold Rep A7
       simp only[Am6 (Amd _),AoQ,AnB,Aq]
       exact⟨_,hu⟩
     ·cases h
    ·cases h
   ·rename_i id hl
    split at h
    ·rename_i T' e' ys ho hfr
     simp only[AmX]at hfr
     obtain⟨hun,hfr⟩:=hfr
     split at h
     ·rename_i ys' hT hc
      simp only[AmV]at hT
      subst hT
      obtain⟨he,hy⟩:=CK hc
      subst he
      simp only at hy
      subst hy
      split at h
      ·rename_i xs bs1 g hd
       simp only[AmT]at h
       obtain⟨rfl,rfl,rfl⟩:=h
       obtain⟨u,hu,hat⟩:=Bh hi ht hl
       refine obj (.whole id) (.arr T e' ys) (m id) (.own E.heap.length) u xs _ hat (fun i c id' hic hcid => ?_) ?_ ?_ hd
       ·rintro h;simp only[Bnd.id?,AmT]at h;subst h;exact FD hfr i c hic hcid
       ·simp only[BM]
        exact⟨Aq ..,.inl ⟨T,e',ys,ho,by simp,CH hun⟩⟩
       ·unfold Rep at hu ⊢
        rw[ho]at hu
        rw[Am6 (Amd _),AoQ,AnB,Aq]
        exact hu
      ·cases h
     ·cases h
    ·cases h
   ·rename_i id n hl
    split at h
    ·rename_i T' e' ys ho hfr
     simp only[AmX]at hfr
     obtain⟨hun,hfr⟩:=hfr
     split at h
     ·rename_i ys' hT hc
      simp only[AmV]at hT
      subst hT
      obtain⟨he,hy⟩:=CK hc
      subst he
      simp only at hy
      subst hy
      split at h
      ·rename_i xs bs1 g hd
       simp only[AmT]at h
       obtain⟨rfl,rfl,rfl⟩:=h
       obtain⟨u,hu,hat⟩:=Bh hi ht hl
       unfold Rep Gw at hu
       rw[ho]at hu
       obtain⟨hle,hu⟩:=hu
       have hid:∀ (i:Nat) (c:Bnd) (id':Nat),bs[i]? = some c→c.id? = some id'→(Bnd.cut id).id?≠some id':=by
        intro i c id' hic hcid h;simp only[Bnd.id?,AmT]at h;subst h;exact FD hfr i c hic hcid
       have hget:(E.heap++[Ob.arr T e' (Bn n ys)])[E.heap.length]? = some (Ob.arr T e' (Bn n ys)):=by simp
       obtain⟨hsz,hob⟩:=hi.obj id _ ho
       have hnil:n=0→List.take (α:=e'.den) n ys=[]:=by rintro rfl;simp
       have hlen:List.length (α:=e'.den) (Bn n ys)=n:=by unfold Bn;rw[Amm];omega
       cases hm:m id with
       |none=>
        rw[hm]at hob hu
        simp only at hob hu
        subst hob
        have h0:n=0:=by simpa using hle
        subst h0
        obtain⟨a,rfl⟩:=hu
        refine obj (.cut id) (.arr T e' (Bn 0 [])) none (.own E.heap.length) _ xs _ hat hid ?_ ?_ hd
        ·simp only[BM]
         exact⟨T,e',[],0,ho,CH hun,hget,.inl (by rw[Aq,hm])⟩
        ·unfold Rep
         rw[hget,Aq]
         exact⟨a,rfl⟩
       |some p=>
        obtain⟨b,cap⟩:=p
        rw[hm]at hob hu
        obtain⟨a,rfl,ha⟩:=hu
        obtain⟨vs,row,o1,o2,o3,o4,o5,o6⟩:=hob
        by_cases hcap:cap=0
        ·subst hcap
         have h0:n=0:=by omega
         refine obj (.cut id) (.arr T e' (Bn n ys)) none (.own E.heap.length) _ xs _ hat hid ?_ ?_ hd
         ·simp only[BM]
          exact⟨T,e',ys,n,ho,CH hun,hget,.inr ⟨Aq ..,hnil h0⟩⟩
         ·unfold Rep
          rw[hget,Aq]
          exact⟨a,by rw[h0]⟩
        ·refine obj (.cut id) (.arr T e' (Bn n ys)) (m id) (.own E.heap.length) _ xs _ hat hid ?_ ?_ hd
         ·simp only[BM]
          exact⟨T,e',ys,n,ho,CH hun,hget,.inl (Aq ..)⟩
         ·unfold Rep A7
          rw[hget,Aq,hm]
          have:=ha (by omega)
          rw[this]
          simp[hlen]
      ·cases h
     ·cases h
    ·cases h
   ·cases h
  |box n=>
   simp only[dec]at h
   split at h
   ·rename_i id hl
    split at h
    ·rename_i cs ho hfr
     split at h
     ·rename_i hn
      simp only[AmV]at hn
      obtain⟨u,hu,hat⟩:=Bh hi ht hl
      obtain⟨b,cc,vs,T,b1,b2,b3,b4⟩:=hi.obj id _ ho
      refine obj (.whole id) (.box (List.replicate n .junk)) (m id) (.ptr E.heap.length 0) u d fr hat (fun i c id' hic hcid => ?_) ?_ ?_ h
      ·rintro h;simp only[Bnd.id?,AmT]at h;subst h;exact FD hfr i c hic hcid
      ·simp only[BM]
       refine⟨Aq ..,.inr (.inr (.inl ⟨cs,List.replicate n .junk,b,cc,vs,T,ho,by simp,by simp[hn],b1,b2,?_,b4⟩))⟩
       refine DV (by rw[At b3];simp[hn]) fun i c v hc _ => ?_
       have:=AoF (Amj hc)
       subst this
       unfold Rep;trivial
      ·unfold Rep Gx at hu ⊢
       rw[ho]at hu
       rw[Am6 (Amd _),AoQ,AnB,Aq]
       exact hu
     ·cases h
    ·cases h
   ·cases h
  |map k v=>
   simp only[dec]at h
   split at h
   ·rename_i id hl
    split at h
    ·rename_i k' v' es ho hfr
     split at h
     ·rename_i es' hc
      obtain⟨he,hy⟩:=CK hc
      cases he
      simp only at hy
      subst hy
      split at h
      ·rename_i xs bs1 g hd
       simp only[AmT]at h
       obtain⟨rfl,rfl,rfl⟩:=h
       obtain⟨u,hu,hat⟩:=Bh hi ht hl
       refine obj (.whole id) (.map k v es) (m id) (.mp E.heap.length) u xs _ hat (fun i c id' hic hcid => ?_) ?_ ?_ hd
       ·rintro h;simp only[Bnd.id?,AmT]at h;subst h;exact FD hfr i c hic hcid
       ·simp only[BM]
        exact⟨Aq ..,.inr (.inl ⟨k,v,es,ho,by simp⟩)⟩
       ·unfold Rep MZ at hu ⊢
        rw[ho]at hu
        rw[Am6 (Amd _),AoQ,AnB,Aq]
        exact hu
      ·cases h
     ·cases h
    ·cases h
   ·cases h
  |own' j=>
   simp only[dec]at h
   split at h
   ·rename_i id id' hl hj
    split at h
    ·rename_i hid
     simp only[AmV]at hid
     subst hid
     obtain⟨u,hu,hat⟩:=Bh hi ht hl
     exact ref (.own j) u d fr hat (AgY (hv.ob j _ hj) hu) h
    ·cases h
   ·cases h
  |ptr' j off=>
   simp only[dec]at h
   split at h
   ·rename_i id o id' hl hj
    split at h
    ·rename_i hid
     simp only[AmX,AmV]at hid
     obtain⟨rfl,rfl⟩:=hid
     obtain⟨u,hu,hat⟩:=Bh hi ht hl
     exact ref (.ptr j o) u d fr hat (AVF (hv.ob j _ hj) hu) h
    ·cases h
   ·cases h
  |sub' j=>
   simp only[dec]at h
   split at h
   ·rename_i id off n id' hl hj
    split at h
    ·rename_i hid
     simp only[AmV]at hid
     subst hid
     split at h
     ·rename_i xs bs1 g hd
      simp only[AmT]at h
      obtain⟨rfl,rfl,rfl⟩:=h
      obtain⟨u,hu,hat⟩:=Bh hi ht hl
      exact ref (.win j off n) u xs _ hat (ATF (hv.ob j _ hj) hu) hd
     ·cases h
    ·cases h
   ·cases h
  |win' j=>
   simp only[dec]at h
   split at h
   ·rename_i id n id' hl hj
    split at h
    ·rename_i hid
     simp only[AmV]at hid
     subst hid
     split at h
     ·rename_i xs bs1 g hd
      simp only[AmT]at h
      obtain⟨rfl,rfl,rfl⟩:=h
      obtain⟨u,hu,hat⟩:=Bh hi ht hl
      exact ref (.win j 0 n) u xs _ hat (ATF (hv.ob j _ hj) hu) hd
     ·cases h
    ·cases h
   ·rename_i id id' hl hj
    split at h
    ·rename_i T t ys hid ho
     simp only[AmV]at hid
     subst hid
     split at h
     ·rename_i xs bs1 g hd
      simp only[AmT]at h
      obtain⟨rfl,rfl,rfl⟩:=h
      obtain⟨u,hu,hat⟩:=Bh hi ht hl
      exact ref (.win j 0 ys.length) u xs _ hat (ATF (hv.ob j _ hj) (Ajf hi ho hu)) hd
     ·cases h
    ·cases h
   ·cases h
  |map' j=>
   simp only[dec]at h
   split at h
   ·rename_i id id' hl hj
    split at h
    ·rename_i hid
     simp only[AmV]at hid
     subst hid
     obtain⟨u,hu,hat⟩:=Bh hi ht hl
     exact ref (.mp j) u d fr hat (Al8 (hv.ob j _ hj) hu) h
    ·cases h
   ·cases h
  |clo f ps=>
   simp only[dec]at h
   split at h
   ·rename_i f' vs hl
    split at h
    ·rename_i hc
     simp only[AmX,AmV]at hc
     obtain⟨rfl,hc⟩:=hc
     obtain⟨u,hu,hat⟩:=Bh hi ht hl
     unfold Rep at hu
     obtain⟨cs,rfl,hr⟩:=hu
     exact ref (.clo f (ps.map fun p=>.ptr p.1 p.2)) _ d fr hat (by unfold Rep;exact⟨cs,rfl,AkR hv.ob vs ps cs.toList hc hr⟩) h
    ·cases h
   ·cases h
  |bnd f j=>
   simp only[dec]at h
   split at h
   ·rename_i f' id id' hl hj
    split at h
    ·rename_i hc
     simp only[AmX,AmV]at hc
     obtain⟨rfl,rfl⟩:=hc
     obtain⟨u,hu,hat⟩:=Bh hi ht hl
     unfold Rep at hu
     obtain⟨cs,rfl,hr⟩:=hu
     refine ref (.bnd f [.own j]) _ d fr hat ?_ h
     unfold Rep
     refine⟨cs,rfl,?_⟩
     unfold Ae at hr ⊢
     obtain⟨x,xs,e1,e2,e3⟩:=hr
     refine⟨x,xs,e1,AgY (hv.ob j _ hj) e2,?_⟩
     unfold Ae at e3 ⊢
     exact e3
    ·cases h
   ·cases h
  |prs T j=>
   simp only[dec]at h
   split at h
   ·rename_i e' hl
    split at h
    ·rename_i xs bs1 g hd
     simp only[AmT]at h
     obtain⟨rfl,rfl,rfl⟩:=h
     obtain⟨u,hu,hat⟩:=Bh hi ht hl
     unfold Rep at hu
     refine obj .none (.prs T j []) none (.own E.heap.length) u xs _ hat (fun _ _ _ _ _=>by simp[Bnd.id?]) ?_ ?_ hd
     ·simp only[BM]
      exact⟨Aq ..,.inr ⟨T,j,by simp⟩⟩
     ·unfold Rep A7
      simp only[Am6 (Amd _),AoQ,AnB,Aq]
      exact⟨_,hu⟩
    ·cases h
   ·rename_i id hl
    split at h
    ·rename_i T' tgt is tgt' ho hfr hj
     split at h
     ·rename_i hT
      simp only[AmX,AmV]at hT
      obtain⟨rfl,rfl⟩:=hT
      split at h
      ·rename_i xs bs1 g hd
       simp only[AmT]at h
       obtain⟨rfl,rfl,rfl⟩:=h
       obtain⟨u,hu,hat⟩:=Bh hi ht hl
       have hbj:=hv.ob j _ hj
       have hob:=hi.obj id _ ho
       have hcomp:CF E.heap (E.heap++[.prs T j is]) m' (upd m' E.heap.length (m id)):=by
        intro i x hi hf
        have hlt:=Al hi
        rcases CF.refl E.heap m' i x hi hf with h|⟨hd,o',h4,h5,_⟩
        ·exact .inl (by rw[Am1 hlt];exact h)
        ·exact .inr ⟨hd,o',by rw[Am1 hlt];exact h4,h5,FT (by omega),fun _ _ _=>EK (by simp)⟩
       have hob':ObI w F (upd m' E.heap.length (m id)) (E.heap++[.prs T j is]) (.prs T j is) (m id):=by
        cases hm:m id with
        |none=>rw[hm]at hob;exact hob
        |some p=>
         obtain⟨b,cap⟩:=p
         rw[hm]at hob hcomp
         obtain⟨vs,us,e1,e2,e3,e4,e5,e6⟩:=hob
         exact⟨vs,us,e1,e2,e3,e4,Ae.mono (fun _ _=>rfl) (fun _ h=>h) hcomp _ (AjT hbj e5),e6⟩
       refine obj (.whole id) (.prs T j is) (m id) (.own E.heap.length) u xs _ hat (fun i c id' hic hcid => ?_) ?_ ?_ hd
       ·rintro h;simp only[Bnd.id?,AmT]at h;subst h;exact FD hfr i c hic hcid
       ·simp only[BM]
        exact⟨Aq ..,.inr (.inr (.inr (.inl ⟨T,tgt,j,is,ho,by simp,hob'⟩)))⟩
       ·unfold Rep at hu ⊢
        rw[ho]at hu
        rw[Am6 (Amd _),AoQ,AnB,Aq]
        exact hu
      ·cases h
     ·cases h
    ·cases h
   ·cases h
  |nil e=>
   simp only[dec]at h
   cases hl:look tm H bs l with
   |none=>rw[hl]at h;cases h
   |some v=>
    rw[hl]at h
    cases v with
    |nils e'=>
     obtain⟨u,hu,hat⟩:=Bh hi ht hl
     exact ref (.nils e) u d fr hat (by unfold Rep at *;exact hu) h
    |_=>cases h
  |rows T e t=>
   simp only[dec]at h
   split at h
   ·rename_i id hl
    split at h
    ·rename_i T' e' t' ys ver ho hfr
     simp only[AmX]at hfr
     obtain⟨hun,hfr⟩:=hfr
     split at h
     ·rename_i ys' hT hc
      simp only[AmX,AmV]at hT
      obtain⟨rfl,rfl⟩:=hT
      obtain⟨he,hy⟩:=CK hc
      cases he
      simp only at hy
      subst hy
      split at h
      ·rename_i xs bs1 g hd
       simp only[AmT]at h
       obtain⟨rfl,rfl,rfl⟩:=h
       obtain⟨u,hu,hat⟩:=Bh hi ht hl
       have hrep:Rep w F (O6 m' E.heap.length (m id) fun k=>m (.r id k)) (E.heap++[.rows (.arr T) e t ys 0 none]) (.own E.heap.length) u:=by
        unfold Rep at hu ⊢
        rw[ho]at hu
        rw[Am6 (Amd _),AoQ,AnB,Kl]
        exact hu
       have h1:=hv.Als (b:=.whole id) (o:=.rows (.arr T) e t ys 0 none) (mn:=O6 m' E.heap.length (m id) fun k=>m (.r id k)) (fun x hx=>G4 hx)
        (fun i c id' hic hcid h=>by simp only[Bnd.id?,AmT]at h;subst h;exact FD hfr i c hic hcid)
        (by simp only[BM];exact⟨Kl,.inr (.inr (.inr (.inr ⟨.arr T,e,t,ys,ver,ho,by simp,fun k=>AJf,CH hun⟩)))⟩)
       have h2:=h1.place (hat.app (.whole id)) hrep
       obtain⟨F2,m2,a1,a2,rr,a3⟩:=ih fz (bs++[.whole id]) F _ _ xs _ _ hi ht h2 hd
       exact⟨F2,m2,a1,a2,.whole id::rr,by rw[a3];simp⟩
      ·cases h
     ·cases h
    ·cases h
   ·cases h
  |mrows j e t=>
   simp only[dec]at h
   split at h
   ·rename_i id hl
    split at h
    ·rename_i j' ks e' t' ys ver ho hfr
     simp only[AmX]at hfr
     obtain⟨hun,hfr⟩:=hfr
     split at h
     ·rename_i ys' hT hc
      simp only[AmX,AmV]at hT
      obtain⟨rfl,rfl⟩:=hT
      obtain⟨he,hy⟩:=CK hc
      cases he
      simp only at hy
      subst hy
      split at h
      ·rename_i xs bs1 g hd
       simp only[AmT]at h
       obtain⟨rfl,rfl,rfl⟩:=h
       obtain⟨u,hu,hat⟩:=Bh hi ht hl
       have hrep:Rep w F (O6 m' E.heap.length (m id) fun k=>m (.r id k)) (E.heap++[.rows (.map j ks) e t ys 0 none]) (.mp E.heap.length) u:=by
        unfold Rep at hu ⊢
        rw[ho]at hu
        rw[Am6 (Amd _),AoQ,AnB,Kl]
        exact hu
       have h1:=hv.Als (b:=.whole id) (o:=.rows (.map j ks) e t ys 0 none) (mn:=O6 m' E.heap.length (m id) fun k=>m (.r id k)) (fun x hx=>G4 hx)
        (fun i c id' hic hcid h=>by simp only[Bnd.id?,AmT]at h;subst h;exact FD hfr i c hic hcid)
        (by simp only[BM];exact⟨Kl,.inr (.inr (.inr (.inr ⟨.map j ks,e,t,ys,ver,ho,by simp,fun k=>AJf,CH hun⟩)))⟩)
       have h2:=h1.place (hat.app (.whole id)) hrep
       have hzl:ks.length=List.length (α:=List t.den) ys:=by
        obtain⟨_,h4⟩:=hi.obj id _ ho
        cases hm:m id with
        |none=>rw[hm]at h4;cases h4.1
        |some p=>
         obtain⟨b,cap⟩:=p
         rw[hm]at h4
         obtain⟨_,_,_,_,_,h5,_⟩:=h4
         exact(h5.resolve_right fun h=>by cases h.1).symm
       have he:enc ((l,.mrows j e t)::r) ((List.zip (β:=List t.den) ks ys,xs):B6 (leaves ((l,.mrows j e t)::r))) E=enc r xs (place (Dn E (.rows (.map j ks) e t ys 0 none)) (.mp E.heap.length) l):=by
        simp only[enc]
        rw[List.map_fst_zip (Aoh hzl),List.map_snd_zip (Aoh hzl.symm)]
       rw[he]
       obtain⟨F2,m2,a1,a2,rr,a3⟩:=ih fz (bs++[.whole id]) F _ _ xs _ _ hi ht h2 hd
       exact⟨F2,m2,a1,a2,.whole id::rr,by rw[a3];simp⟩
      ·cases h
     ·cases h
    ·cases h
   ·cases h
  |aptr T e n=>
   simp only[dec]at h
   split at h
   ·rename_i id n' hl
    split at h
    ·rename_i T' e' ys ho hfr
     simp only[AmX]at hfr
     obtain⟨hun,hfr⟩:=hfr
     split at h
     ·rename_i ys' hT hc
      simp only[AmX,AmV]at hT
      obtain⟨rfl,rfl⟩:=hT
      obtain⟨he,hy⟩:=CK hc
      subst he
      simp only at hy
      subst hy
      split at h
      ·rename_i xs bs1 g hd
       simp only[AmT]at h
       obtain⟨rfl,rfl,rfl⟩:=h
       obtain⟨u,hu,hat⟩:=Bh hi ht hl
       refine obj (.whole id) (.arr T e' ys) (m id) (.aptr E.heap.length n) u xs _ hat (fun i c id' hic hcid => ?_) ?_ ?_ hd
       ·rintro h;simp only[Bnd.id?,AmT]at h;subst h;exact FD hfr i c hic hcid
       ·simp only[BM]
        exact⟨Aq ..,.inl ⟨T,e',ys,ho,by simp,CH hun⟩⟩
       ·unfold Rep at hu ⊢
        rw[ho]at hu
        rw[Am6 (Amd _),AoQ,AnB,Aq]
        exact hu
      ·cases h
     ·cases h
    ·cases h
   ·cases h
  |bndp f j=>
   simp only[dec]at h
   split at h
   ·rename_i f' id id' hl hj
    split at h
    ·rename_i hc
     simp only[AmX,AmV]at hc
     obtain⟨rfl,rfl⟩:=hc
     obtain⟨u,hu,hat⟩:=Bh hi ht hl
     unfold Rep at hu
     obtain⟨cs,rfl,hr⟩:=hu
     refine ref (.bnd f [.ptr j 0]) _ d fr hat ?_ h
     unfold Rep
     refine⟨cs,rfl,?_⟩
     unfold Ae at hr ⊢
     obtain⟨x,xs,e1,e2,e3⟩:=hr
     refine⟨x,xs,e1,AVF (hv.ob j _ hj) e2,?_⟩
     unfold Ae at e3 ⊢
     exact e3
    ·cases h
   ·cases h
  |nilp=>
   simp only[dec]at h
   cases hl:look tm H bs l with
   |none=>rw[hl]at h;cases h
   |some v=>
    rw[hl]at h
    cases v with
    |nilp=>
     obtain⟨u,hu,hat⟩:=Bh hi ht hl
     exact ref .nilp u d fr hat (by unfold Rep at *;exact hu) h
    |_=>cases h
  |aptr' j n=>
   simp only[dec]at h
   split at h
   ·rename_i id n' id' hl hj
    split at h
    ·rename_i hid
     simp only[AmX,AmV]at hid
     obtain⟨rfl,rfl⟩:=hid
     obtain⟨u,hu,hat⟩:=Bh hi ht hl
     exact ref (.aptr j n) u d fr hat (Akc (hv.ob j _ hj) hu) h
    ·cases h
   ·cases h
end
end Go.Pev
end
section
namespace Go.Pev
open Go.RowKit
structure XN(np:Nat)(w:World)(F:Nat→Prop)(m:Mp)(H:List Ob)(fz:List Bool)(w':World)(F':Nat→Prop)(m':Mp)(H':List Ob)(fz':List Bool):Prop where
 os:w'.os=w.os
 tape:w'.tape=w.tape
 output:w'.output=w.output
 size:w.heap.size≤w'.heap.size
 keep:∀ b,b<w.heap.size→(∀ i c,owned H fz i→m i≠some (b,c))→w'.heap[b]? = w.heap[b]?
 sub:∀ b,F b→F' b
 bnd:∀ b,F' b→F b∨(∃ i c,owned H fz i∧m i=some (b,c))∨w.heap.size≤b
 own:∀ i b c,owned H' fz' i→m' i=some (b,c)→(∃ i c,owned H fz i∧m i=some (b,c))∨w.heap.size≤b
 comp:∀ (i:Nat) o,i<np→H[i]? = some o→o≠.free→H'[i]? = some .dead∨(o≠.dead∧∃ o',H'[i]? = some o'∧sameShape o o'∧m' i=m i∧(BS o=false→RH o'=RH o→∀ k,m' (.r i k)=m (.r i k)))
theorem Ext.toN{w w':World}{F F':Nat→Prop}{m m':Mp}{H H':List Ob}{fz fz':List Bool}(h:Ext w F m H fz w' F' m' H' fz')(np:Nat):XN np w F m H fz w' F' m' H' fz':=
 ⟨h.os,h.tape,h.output,h.size,h.keep,h.sub,h.bnd,h.own,fun i o _=>h.comp i o⟩
theorem XN.refl(np:Nat)(w:World)(F:Nat→Prop)(m:Mp)(H:List Ob)(fz:List Bool):XN np w F m H fz w F m H fz:=(Ext.refl ..).toN np
theorem XN.trans{np:Nat}{w w1 w2:World}{F F1 F2:Nat→Prop}{m m1 m2:Mp}{H H1 H2:List Ob}{fz fz1 fz2:List Bool}
  (h:XN np w F m H fz w1 F1 m1 H1 fz1) (k:XN np w1 F1 m1 H1 fz1 w2 F2 m2 H2 fz2):XN np w F m H fz w2 F2 m2 H2 fz2 where
 os:=k.os.trans h.os
 tape:=k.tape.trans h.tape
 output:=k.output.trans h.output
 size:=Ana h.size k.size
 keep b hb hn:=by
  rw[k.keep b (Ank hb h.size) ?_,h.keep b hb hn]
  intro i c ho he
  rcases h.own i b c ho he with⟨i',c',h1,h2⟩|h1
  ·exact hn i' c' h1 h2
  ·omega
 sub b hb:=k.sub b (h.sub b hb)
 bnd b hb:=by
  rcases k.bnd b hb with h1|⟨i,c,h1,h2⟩|h1
  ·exact h.bnd b h1
  ·rcases h.own i b c h1 h2 with h3|h3
   ·exact .inr (.inl h3)
   ·exact .inr (.inr h3)
  ·exact .inr (.inr (Ana h.size h1))
 own i b c h1 h2:=by
  rcases k.own i b c h1 h2 with⟨i',c',h3,h4⟩|h3
  ·exact h.own i' b c' h3 h4
  ·exact .inr (Ana h.size h3)
 comp i o hlt ho hf:=by
  rcases h.comp i o hlt ho hf with h1|⟨hd,o',h1,h2,h3,hp⟩
  ·rcases k.comp i _ hlt h1 (by simp)with h4|⟨h5,_⟩
   ·exact .inl h4
   ·exact absurd rfl h5
  ·have hf':o'≠.free:=by rintro rfl;cases o<;>simp[sameShape]at h2
   rcases k.comp i o' hlt h1 hf' with h4|⟨_,o'',h4,h5,h6,hq⟩
   ·exact .inl h4
   ·refine .inr ⟨hd,o'',h4,h2.trans h5,h6.trans h3,fun a b k => ?_⟩
    have h8:=h2.ver
    have h9:=h5.ver
    exact(hq (h8.2▸a) (by omega) k).trans (hp a (by omega) k)
section
variable {w:World} {F:Nat→Prop} {m:Mp} {H:List Ob} {fz:List Bool} {bs:List Bnd} {m':Mp} {E:St} {val:Nat→Value}
def Ix.at:Ix→Nat→Ix
 |.o _,i=>.o i
 |.r _ k,i=>.r i k
theorem Ix.Akr(x:Ix)(i:Nat):(x.at i).id=i:=by cases x<;>rfl
theorem Inv.AmL(h:Inv w F m H fz bs m' E val){i b c:Nat}(ho:owned E.heap E.frz i)(hm:m' i=some (b,c)):∃ x id,bs[i]? = some x∧x.id? = some id∧owned H fz id∧m id=some (b,c):=by
 obtain⟨o,hio,_,_⟩:=Eo ho
 have hlt:=Al hio
 rw[h.lenH]at hlt
 have hx:bs[i]? = some bs[i]:=AmZ hlt
 have hb:=h.ob i _ hx
 cases hc:bs[i]with
 |none=>rw[hc]at hb;simp only[BM]at hb;rw[hb.1]at hm;cases hm
 |whole id=>
  rw[hc]at hb hx
  simp only[BM]at hb
  obtain⟨e,hb⟩:=hb
  refine⟨_,id,hx,rfl,?_,by rw[← e];exact hm⟩
  simp only[owned,Bp]
  rcases hb with⟨T,t,xs,a1,_,a3⟩|⟨k,v,es,a1,_⟩|⟨cs,cs',b,c,vs,T,a1,_⟩|⟨_,_,_,_,a1,_⟩|⟨_,_,_,_,_,a1,_,_,a4⟩
  ·rw[a1];exact a3
  ·rw[a1];trivial
  ·rw[a1];trivial
  ·rw[a1];trivial
  ·rw[a1];exact a4
 |cut id=>
  rw[hc]at hb hx
  simp only[BM]at hb
  obtain⟨T,t,xs,n,a1,a2,a3,a4⟩:=hb
  refine⟨_,id,hx,rfl,by simp only[owned,Bp];rw[a1];exact a2,?_⟩
  rcases a4 with a4|⟨a4,_⟩
  ·rw[← a4];exact hm
  ·rw[a4]at hm;cases hm
theorem Inv.rowAt(h:Inv w F m H fz bs m' E val){j:Nat}{T:RK}{e:TypeId}{t:Ty}{xs:List (List t.den)}{ver:Nat}{out:Option Nat}(hj:E.heap[j]? = some (.rows T e t xs ver out)):
  ∃ id ver',bs[j]? = some (.whole id)∧H[id]? = some (.rows T e t xs ver' none)∧out=none∧m' j=m id∧(∀ k,m' (.r j k)=m (.r id k))∧fz.getD id false=false:=by
 have hlt:=Al hj
 rw[h.lenH]at hlt
 have hx:bs[j]? = some bs[j]:=AmZ hlt
 have hb:=h.ob j _ hx
 cases hc:bs[j]with
 |none=>
  rw[hc]at hb;simp only[BM]at hb
  rcases hb.2 with⟨T,e,e2,_⟩|⟨T,t,e2⟩<;>(rw[hj]at e2;cases e2)
 |whole id=>
  rw[hc]at hb hx;simp only[BM]at hb
  obtain⟨e0,hb⟩:=hb
  rcases hb with⟨T,t,xs,a1,a2,a3⟩|⟨k,v,es,a1,a2⟩|⟨cs,cs',b,c,vs,T,a1,a2,_⟩|⟨_,_,_,_,a1,a2,_⟩|⟨T,e,t,xs,ver,a1,a2,a3⟩
  ·rw[hj]at a2;cases a2
  ·rw[hj]at a2;cases a2
  ·rw[hj]at a2;cases a2
  ·rw[hj]at a2;cases a2
  ·rw[hj]at a2;cases a2
   exact⟨id,ver,hx,a1,rfl,e0,a3⟩
 |cut id=>
  rw[hc]at hb;simp only[BM]at hb
  obtain⟨T,t,xs,n,_,_,a3,_⟩:=hb
  rw[hj]at a3;cases a3
theorem Inv.src(h:Inv w F m H fz bs m' E val){i:Ix}{b c:Nat}(ho:owned E.heap E.frz i)(hm:m' i=some (b,c)):∃ x id,bs[i.id]? = some x∧x.id? = some id∧owned H fz (i.at id)∧m (i.at id)=some (b,c):=by
 cases i with
 |o i=>exact h.AmL ho hm
 |r i k=>
  simp only[owned]at ho
  split at ho
  ·rename_i T e t xs ver out hj
   obtain⟨id,ver',a1,a2,_,_,a5,a6⟩:=h.rowAt hj
   exact⟨_,id,a1,rfl,by simp only[owned,Ix.at];rw[a2];exact⟨ho.1,a6⟩,(a5 k).symm.trans hm⟩
  ·exact ho.elim
theorem Inv.hi(hi:HI w F m H fz)(h:Inv w F m H fz bs m' E val):HI w F m' E.heap E.frz where
 obj j o hj:=by
  have hlt:=Al hj
  rw[h.lenH]at hlt
  have hx:bs[j]? = some bs[j]:=AmZ hlt
  have hb:=h.ob j _ hx
  cases hc:bs[j]with
  |none=>
   rw[hc]at hb
   simp only[BM]at hb
   obtain⟨e1,⟨T,e,e2,e3⟩|⟨T,t,e2⟩⟩:=hb
   ·rw[hj]at e2;cases e2
    exact⟨e3,by rw[e1]⟩
   ·rw[hj]at e2;cases e2
    rw[e1]
    exact(rfl:([]:List Int)=[])
  |whole id=>
   rw[hc]at hb
   simp only[BM]at hb
   obtain⟨e,hb⟩:=hb
   rcases hb with⟨T,t,xs,a1,a2,a3⟩|⟨k,v,es,a1,a2⟩|⟨cs,cs',b,c,vs,T,a1,a2,_,a4,a5,a6,a7⟩|⟨T,tgt,j0,is,a1,a2,a3⟩|⟨T,e',t,xs,ver,a1,a2,a3⟩
   ·rw[hj]at a2;cases a2
    rw[e];exact hi.obj id _ a1
   ·rw[hj]at a2;cases a2
    rw[e];exact hi.obj id _ a1
   ·rw[hj]at a2;cases a2
    exact⟨b,c,vs,T,e.trans a4,a5,a6,a7⟩
   ·rw[hj]at a2;cases a2
    rw[e];exact a3
   ·rw[hj]at a2;cases a2
    rw[e];exact hi.obj id _ a1
  |cut id=>
   rw[hc]at hb
   simp only[BM]at hb
   obtain⟨T,t,xs,n,a1,a2,a3,a4⟩:=hb
   rw[hj]at a3;cases a3
   obtain⟨h0,h1⟩:=hi.obj id _ a1
   refine⟨h0,?_⟩
   rcases a4 with a4|⟨a4,a5⟩
   ·rw[a4]
    cases hm:m id with
    |none=>
     rw[hm]at h1
     simp only at h1 ⊢
     rw[h1];simp
    |some p=>
     obtain⟨b,cap⟩:=p
     rw[hm]at h1
     simp only at h1 ⊢
     obtain⟨vs,row,b1,b2,b3,b4,b5,b6⟩:=h1
     refine⟨vs,row.take (n*t.size),b1,?_,b3,b4,Ds (fun x cs hx=>Dat.length t hx) n b5,?_⟩
     ·rw[Amm];omega
     ·rw[Amm,← Aoe,b6]
   ·rw[a4];exact a5
 row i:=by
  intro T e t xs ver out hj k ys hk
  obtain⟨id,ver',a1,a2,rfl,a4,a5,_⟩:=h.rowAt hj
  obtain⟨h1,h2⟩:=hi.row id T e t xs ver' none a2 k ys hk
  rw[a5 k]
  refine⟨?_,fun _ => ?_⟩
  ·obtain⟨h0,h1⟩:=h1
   exact⟨h0,h1⟩
  ·obtain⟨b,cap,u,e1,e2⟩:=h2 (by simp)
   exact⟨b,cap,u,a4.trans e1,e2⟩
 rfz i T e t xs ver out hj hf:=by rw[h.frz i]at hf;cases hf
 sep i j b c b' c' h1 h2 hij h3 h4:=by
  obtain⟨x,id,k1,k2,k3,k4⟩:=h.src h1 h3
  obtain⟨y,id',l1,l2,l3,l4⟩:=h.src h2 h4
  refine hi.sep _ _ b c b' c' k3 l3 ?_ k4 l4
  intro he
  have hid:id=id':=by rw[← Ix.Akr i id,he,Ix.Akr]
  subst hid
  have:=h.inj _ _ x y id k1 l1 k2 l2
  cases i<;>cases j<;>simp only[Ix.at,Ix.id]at he this<;>(try cases he)<;>subst this<;>exact hij rfl
 off i b c h1 h2:=by
  obtain⟨x,id,k1,k2,k3,k4⟩:=h.src h1 h2
  exact hi.off _ b c k3 k4
 froz i T t xs b c h1 h2:=by rw[h.frz i]at h2;cases h2
 lt:=hi.lt
 glo:=hi.glo
 len:=h.lenF.symm
theorem APo:∀ (n i:Nat) (bs:List Bnd),pins n i bs=true→∀ k,k<n→bs[k]? = some (.whole (i+k)):=by
 intro n
 induction n with
 |zero=>intro i bs _ k hk;omega
 |succ n ih=>
  intro i bs h k hk
  cases bs with
  |nil=>simp[pins]at h
  |cons b bs=>
   simp only[pins,AmX,AmV]at h
   cases k with
   |zero=>simp[h.1]
   |succ k=>
    have:=ih (i+1) bs h.2 k (by omega)
    simp only[Aod]
    rw[this];congr 2;omega
theorem Inv.blank{val:Nat→Value}(n:Nat):Inv w F m H fz [] (fun _=>none) (Pev.blank n) val where
 tmps t:=by
  have:(Pev.blank n).tmps.getD t .junk = .junk:=by
   simp only[Pev.blank,AmW,Aou]
   split<;>rfl
  rw[this];unfold Rep;trivial
 lenH:=rfl
 lenF:=rfl
 frz i:=by simp[Pev.blank]
 ob j b h:=by simp at h
 inj i j b c id h:=by simp at h
theorem AVK(st:St)(v:AV)(l:Loc):(place st v l).tmps.length=st.tmps.length:=by
 cases l with
 |tmp t=>simp[place]
 |cell j c=>simp only[place];split<;>rfl
 |cap t i=>rfl
 |obj j=>rfl
theorem Ah0:∀ (its:AE) (d:B6 (leaves its)) (st:St),(enc its d st).tmps.length=st.tmps.length:=by
 intro its
 induction its with
 |nil=>intro d st;rfl
 |cons p r ih=>
  intro d st
  obtain⟨l,c⟩:=p
  cases c<;>exact(ih _ _).trans (AVK _ _ _)
theorem Ng(n:Nat)(its:AE)(d:B6 (leaves its)):(encode n its d).tmps.length=n:=by
 unfold encode;rw[Ah0];simp[blank]
theorem Ab2{F2:Nat→Prop}{fz2:List Bool}{np:Nat}(h:Inv w F2 m H fz2 bs m' E val)(hp:(pins np 0 bs&&(H.take np).all BS)=true):∀ (i:Nat) o,i<np→H[i]? = some o→o≠.free→E.heap[i]? = some .dead∨(o≠.dead∧∃ o',E.heap[i]? = some o'∧sameShape o o'∧m' i=m i∧(BS o=false→RH o'=RH o→∀ k,m' (.r i k)=m (.r i k))):=by
 intro i o hlt ho hf
 rw[AmX]at hp
 obtain⟨hp,hall⟩:=hp
 have hpl:BS o=true:=Amr.1 hall o (Amj (i:=i) (by rw[AnH,Amk hlt];exact ho))
 suffices hs:E.heap[i]? = some .dead∨(o≠.dead∧∃ o',E.heap[i]? = some o'∧sameShape o o'∧m' i=m i)from
  hs.imp id fun ⟨a,o',b,c,d⟩=>⟨a,o',b,c,d,fun e=>by rw[hpl]at e;cases e⟩
 have h1:=APo np 0 bs hp i hlt
 rw[AnU]at h1
 have hb:=h.ob i _ h1
 simp only[BM]at hb
 obtain⟨e,hb⟩:=hb
 right
 rcases hb with⟨T,t,xs,a1,a2,a3⟩|⟨k,v,es,a1,a2⟩|⟨cs,cs',b,c,vs,T,a1,a2,_,a4,a5,a6,a7⟩|⟨_,_,_,_,a1,a2,_⟩|⟨_,_,_,_,_,a1,a2,_⟩
 ·rw[ho]at a1;cases a1;exact⟨by simp,_,a2,⟨rfl,rfl⟩,e⟩
 ·rw[ho]at a1;cases a1;exact⟨by simp,_,a2,trivial,e⟩
 ·rw[ho]at a1;cases a1;exact⟨by simp,_,a2,trivial,e⟩
 ·rw[ho]at a1;cases a1;exact⟨by simp,_,a2,rfl,e⟩
 ·rw[ho]at a1;cases a1;cases hpl
theorem Wx{np nt:Nat}{st:St}{a:Act}{its:AE}{v:B6 (leaves its)}(hs:SI w F m st a)(h:decode np nt st its=some v):
  ∃ F' m',SI w F' m' (encode nt its v) a∧XN np w F m st.heap st.frz w F' m' (encode nt its v).heap (encode nt its v).frz:=by
 unfold decode at h
 split at h
 ·rename_i hn
  simp only[AmV]at hn
  split at h
  ·rename_i v' bs fr hd
   split at h
   ·rename_i hp
    simp only[AmT]at h;subst h
    obtain⟨F2,m2,hg,hv,_⟩:=AXm (val:=fun t=>a.tmps.getD t undef) its st.frz [] F (fun _=>none) (blank nt) v' bs fr hs.heap
     (fun t v ht=>by have:=hs.tmps t;rw[AmW,ht]at this;exact this) (Inv.blank nt) hd
    refine⟨F2,m2,⟨hv.tmps,by rw[Ng,← hn];exact hs.size,hv.hi hg.2,hs.defers⟩,?_⟩
    refine⟨rfl,rfl,rfl,Amd _,fun _ _ _=>rfl,hg.1.sub,hg.1.bnd,fun i b c h1 h2 => ?_,Ab2 hv hp⟩
    obtain⟨x,id,k1,k2,k3,k4⟩:=hv.src h1 h2
    exact hg.1.own _ b c k3 k4
   ·cases h
  ·cases h
 ·cases h
end
end Go.Pev
end
section
namespace Go.Pev
open Go.RowKit
theorem Yd{R:Type}{all:List Oper}{g:Option (Nat×Bool)}{st:St}{yes no:St→Option R}{r:R}(h:guarded R all g st yes no=some r):
  ∃ st',(yes st'=some r∧∀ (R':Type) (yes' no':St→Option R'),guarded R' all g st yes' no'=yes' st')∨(no st'=some r∧∀ (R':Type) (yes' no':St→Option R'),guarded R' all g st yes' no'=no' st'):=by
 unfold guarded at h
 split at h
 ·exact⟨st,.inl ⟨h,fun _ _ _=>by simp[guarded]⟩⟩
 ·rename_i j want
  split at h
  ·cases h
  ·rename_i d hj
   split at h
   ·rename_i b hd
    cases b with
    |true=>
     cases want with
     |true=>exact⟨_,.inl ⟨h,fun _ _ _=>by simp only[guarded,hj,hd]⟩⟩
     |false=>exact⟨_,.inr ⟨h,fun _ _ _=>by simp only[guarded,hj,hd]⟩⟩
    |false=>
     cases want with
     |true=>exact⟨_,.inr ⟨h,fun _ _ _=>by simp only[guarded,hj,hd]⟩⟩
     |false=>exact⟨_,.inl ⟨h,fun _ _ _=>by simp only[guarded,hj,hd]⟩⟩
   ·rename_i hd
    exact⟨_,.inr ⟨h,fun _ _ _=>by simp only[guarded,hj,hd]⟩⟩
   ·cases h
section
variable {P:Program} {E:Env} {h:Hints}
theorem AVW(hE:∀ g,AO P g (E.spec g)){R:Type}{r:R}{all:List Oper}:∀ (ops:List Oper) (slot:Nat) (st:St) (k:St→Option R),Jc P E R all ops slot st k=some r →
  ∃ st',k st'=some r∧∀ (R':Type) (k':St→Option R'),Jc P E R' all ops slot st k'=k' st':=by
 intro ops
 induction ops with
 |nil=>intro slot st k h;exact⟨st,h,fun _ _=>rfl⟩
 |cons o ops ih=>
  intro slot st k h
  simp only[Jc]at h
  obtain⟨st1,h1⟩:=Yd h
  rcases h1 with⟨h1,h2⟩|⟨h1,h2⟩
  ·obtain⟨v,e,h3,h4,_⟩:=KX hE o.op _ _ _ _ _ _ _ r h1
   obtain⟨st2,h5,h6⟩:=ih _ _ _ h3
   exact⟨st2,h5,fun R' k'=>by simp only[Jc];rw[h2,h4];exact h6 R' k'⟩
  ·obtain⟨st2,h5,h6⟩:=ih _ _ _ h1
   exact⟨st2,h5,fun R' k'=>by simp only[Jc];rw[h2];exact h6 R' k'⟩
theorem Aa4(hE:∀ g,AO P g (E.spec g)){R:Type}{r:R}{all:List Oper}{o:Oper}{φ:List Nat}{slot:Nat}{st:St}{k:St→Option R}(h:Xt P E R all o φ slot st k=some r):
  ∃ st',k st'=some r∧∀ (R':Type) (k':St→Option R'),Xt P E R' all o φ slot st k'=k' st':=by
 unfold Xt at h
 obtain⟨st1,h1⟩:=Yd h
 rcases h1 with⟨h1,h2⟩|⟨h1,h2⟩
 ·split at h1
  ·rename_i hw
   obtain⟨v,e,h3,h4,_⟩:=KX hE o.op _ _ _ _ _ _ _ r h1
   split at h3
   ·rename_i hok
    exact⟨_,h3,fun R' k'=>by unfold Xt;rw[h2];simp only[hw];rw[h4];simp only[hok]⟩
   ·cases h3
  ·cases h1
 ·exact⟨_,h1,fun R' k'=>by unfold Xt;rw[h2]⟩
theorem APq(hE:∀ g,AO P g (E.spec g)){R:Type}{r:R}{all:List Oper}:∀ (ops:List Oper) (fp:List (List Nat)) (slot:Nat) (st:St) (k:St→Option R),Iu P E R all ops fp slot st k=some r →
  ∃ st',k st'=some r∧∀ (R':Type) (k':St→Option R'),Iu P E R' all ops fp slot st k'=k' st':=by
 intro ops
 induction ops with
 |nil=>intro fp slot st k h;exact⟨st,h,fun _ _=>rfl⟩
 |cons o ops ih=>
  intro fp slot st k h
  simp only[Iu]at h
  obtain⟨st1,h1,h2⟩:=Aa4 hE h
  obtain⟨st2,h5,h6⟩:=ih _ _ _ _ h1
  exact⟨st2,h5,fun R' k'=>by simp only[Iu];rw[h2];exact h6 R' k'⟩
def AmP(P:Program)(np:Nat)(c:Code)(st:St)(e:Exit)(st':St):Prop:=
 ∀ (w:World) (F:Nat→Prop) (m:Mp) (a:Act) (Q:Exit→Act→World→Prop),SI w F m st a →
  (∀ a' w' F' m',SI w' F' m' st' a'→XN np w F m st.heap st.frz w' F' m' st'.heap st'.frz→Q e a' w')→c.wp P Q a w
def AZ(P:Program)(np:Nat)(c:Code)(go:(R:Type)→St→(Exit→St→Option R)→Option R):Prop:=
 ∀ (R:Type) (st:St) (k:Exit→St→Option R) (r:R),go R st k=some r→∃ e st',k e st'=some r∧(∀ (R':Type) (k':Exit→St→Option R'),go R' st k'=k' e st')∧AmP P np c st e st'
def DW(P:Program)(np:Nat)(h:Hints):Code→Nat→Prop
 |.seq a b,n=>DW P np h a n∧DW P np h b (n+loops a)
 |.cond _ a b,n=>DW P np h a n∧DW P np h b (n+loops a)
 |.block _ c,n=>DW P np h c n
 |.loop c,n=>AZ P np (.loop c) (h.loop n)
 |_,_=>True
theorem AZ8{w:World}{F:Nat→Prop}{m:Mp}{st:St}{a:Act}(hs:SI w F m st a){c:Operand}{x:Bool}(hc:BU st.tmps c = .data .bool x):
  a.eval c = .bool x∧SI w F m { st with tmps:=Py st.tmps c x } a:=by
 have h1:Rep w F m st.heap (BU st.tmps c) (a.eval c):=AET hs.tmps c
 rw[hc]at h1
 refine⟨?_,?_⟩
 ·unfold Rep Bf at h1
  simp only[Ty.isAgg,Amq,Amn]at h1
  simpa [Dat]using h1
 ·cases c with
  |tmp t=>
   simp only[BU,AmW]at hc
   exact hs.lit (d:=t) (b:=x) (by
    cases ht:st.tmps[t]? with
    |none=>rw[ht]at hc;simp at hc
    |some v=>rw[ht]at hc;simp at hc;rw[hc])
  |const v=>exact hs
  |func f=>exact hs
  |global g=>exact hs
theorem K8(hE:∀ g,AO P g (E.spec g))(hL:JL E){np:Nat}:∀ (c:Code) (n:Nat),DW P np h c n→AZ P np c (fun R=>BD P E h R c n):=by
 intro c
 induction c with
 |skip=>
  intro n _ R st k r hk
  simp only[BD]at hk
  exact⟨_,_,hk,fun _ _=>rfl,fun w F m a Q hs hq=>wp_skip (hq a w F m hs (XN.refl ..))⟩
 |region id ops draw=>
  intro n _ R st k r hk
  cases draw with
  |false=>
   simp only[BD,HR]at hk
   obtain⟨st',h1,h2⟩:=AVW hE _ _ _ _ hk
   refine⟨.normal,st',h1,fun R' k'=>by simp only[BD,HR];exact h2 R' _,fun w F m a Q hs hq => ?_⟩
   have h3:HR P E St ops.toList st some=some st':=by simp only[HR];exact h2 St some
   refine ALQ hE h3 hs fun a' w' hp => ?_
   obtain⟨st1,F',m',e1,e2,e3⟩:=hp
   cases e1
   exact hq a' w' F' m' e2 (e3.toN np)
  |true=>
   simp only[BD]at hk
   have hk':=hk
   unfold ES at hk
   split at hk
   ·rename_i hok
    obtain⟨st',h1,h2⟩:=APq hE _ _ _ _ _ hk
    refine⟨.normal,st',h1,fun R' k'=>by simp only[BD,ES,hok];exact h2 R' _,fun w F m a Q hs hq => ?_⟩
    have h3:ES P E St (h.fp id) ops.toList st some=some st':=by simp only[ES,hok];exact h2 St some
    refine AGi hE hL h3 hs fun a' w' hp => ?_
    obtain⟨st1,F',m',e1,e2,e3⟩:=hp
    cases e1
    exact hq a' w' F' m' e2 (e3.toN np)
   ·cases hk
 |seq a b iha ihb=>
  intro n hl R st k r hk
  simp only[BD]at hk
  obtain⟨e,st1,h1,h2',h3⟩:=iha n hl.1 R st _ r hk
  have h2:∀ (R':Type) (k':Exit→St→Option R'),BD P E h R' a n st k'=k' e st1:=h2'
  by_cases he:e = .normal
  ·subst he
   simp only at h1
   obtain⟨e2,st2,k1,k2,k3⟩:=ihb _ hl.2 R st1 _ r h1
   refine⟨e2,st2,k1,fun R' k' => ?_,fun w F m act Q hs hq=>wp_seq ?_⟩
   ·simp only[BD];rw[h2];exact k2 R' k'
   ·refine h3 w F m act _ hs fun a' w' F' m' s1 x1 => ?_
    exact k3 w' F' m' a' Q s1 fun a2 w2 F2 m2 s2 x2=>hq a2 w2 F2 m2 s2 (x1.trans x2)
  ·have h1':k e st1=some r:=by cases e<;>first|exact absurd rfl he|exact h1
   refine⟨e,st1,h1',fun R' k' => ?_,fun w F m act Q hs hq=>wp_seq ?_⟩
   ·simp only[BD];rw[h2];cases e<;>first|exact absurd rfl he|rfl
   ·refine h3 w F m act _ hs fun a' w' F' m' s1 x1 => ?_
    have:=hq a' w' F' m' s1 x1
    cases e<;>first|exact absurd rfl he|exact this
 |cond c a b iha ihb=>
  intro n hl R st k r hk
  simp only[BD]at hk
  split at hk
  ·rename_i x hc
   cases x with
   |true=>
    obtain⟨e,st1,h1,h2,h3⟩:=iha _ hl.1 R _ _ r hk
    refine⟨e,st1,h1,fun R' k'=>by simp only[BD,hc];exact h2 R' k',fun w F m act Q hs hq => ?_⟩
    obtain⟨q1,q2⟩:=AZ8 hs hc
    exact wp_cond_true q1 (h3 w F m act Q q2 hq)
   |false=>
    obtain⟨e,st1,h1,h2,h3⟩:=ihb _ hl.2 R _ _ r hk
    refine⟨e,st1,h1,fun R' k'=>by simp only[BD,hc];exact h2 R' k',fun w F m act Q hs hq => ?_⟩
    obtain⟨q1,q2⟩:=AZ8 hs hc
    exact wp_cond_false q1 (h3 w F m act Q q2 hq)
  ·cases hk
 |block id c ih=>
  intro n hl R st k r hk
  simp only[BD]at hk
  obtain⟨e,st1,h1,h2',h3⟩:=ih n hl R st _ r hk
  have h2:∀ (R':Type) (k':Exit→St→Option R'),BD P E h R' c n st k'=k' e st1:=h2'
  have key:∃ e',k e' st1=some r∧(∀ (R':Type) (k':Exit→St→Option R'),BD P E h R' (.block id c) n st k'=k' e' st1)∧∀ (Q:Exit→Act→World→Prop) a' w',Q e' a' w'→Exit.inBlock id Q e a' w':=by
   cases e with
   |exit id'=>
    simp only at h1
    by_cases hid:id'=id
    ·subst hid
     simp only[Amg]at h1
     exact⟨.normal,h1,fun R' k'=>by simp only[BD];rw[h2];simp,fun Q a' w' hq=>by simp[Exit.inBlock,hq]⟩
    ·simp only[hid,Amu]at h1
     exact⟨.exit id',h1,fun R' k'=>by simp only[BD];rw[h2];simp[hid],fun Q a' w' hq=>by simp[Exit.inBlock,hid,hq]⟩
   |normal=>exact⟨_,h1,fun R' k'=>by simp only[BD];rw[h2],fun Q a' w' hq=>hq⟩
   |goto l=>exact⟨_,h1,fun R' k'=>by simp only[BD];rw[h2],fun Q a' w' hq=>hq⟩
   |ret=>exact⟨_,h1,fun R' k'=>by simp only[BD];rw[h2],fun Q a' w' hq=>hq⟩
   |panic l=>exact⟨_,h1,fun R' k'=>by simp only[BD];rw[h2],fun Q a' w' hq=>hq⟩
   |outgrown=>exact⟨_,h1,fun R' k'=>by simp only[BD];rw[h2],fun Q a' w' hq=>hq⟩
  obtain⟨e',k1,k2,k3⟩:=key
  exact⟨e',st1,k1,k2,fun w F m act Q hs hq=>wp_block (h3 w F m act _ hs fun a' w' F' m' s1 x1=>k3 Q a' w' (hq a' w' F' m' s1 x1))⟩
 |loop c ih=>
  intro n hl R st k r hk
  exact hl R st k r hk
 |exit id=>
  intro n _ R st k r hk
  simp only[BD]at hk
  exact⟨_,_,hk,fun _ _=>rfl,fun w F m a Q hs hq=>wp_exit (hq a w F m hs (XN.refl ..))⟩
 |ret=>
  intro n _ R st k r hk
  simp only[BD]at hk
  exact⟨_,_,hk,fun _ _=>rfl,fun w F m a Q hs hq=>wp_ret (hq a w F m hs (XN.refl ..))⟩
 |_=>intro n _ R st k r hk;simp[BD]at hk
theorem AdY{R:Type}{r:R}{nt:Nat}{k:Exit→St→Option R}:∀ (os:Ap) (x:PE os),AIy nt k os x=some r→∃ e st',k e st'=some r∧∀ (R':Type) (k':Exit→St→Option R'),AIy nt k' os x=k' e st':=by
 intro os
 induction os with
 |nil=>intro x h;simp[AIy]at h
 |cons o os ih=>
  intro x h
  cases x with
  |inl d=>exact⟨_,_,h,fun _ _=>rfl⟩
  |inr x=>
   obtain⟨e,st',h1,h2⟩:=ih x h
   exact⟨e,st',h1,fun R' k'=>h2 R' k'⟩
theorem APF{e e':Exit}(h:ABg e e'=true):e=e':=by
 cases e<;>cases e'<;>simp_all [ABg]
theorem AgZ{np nt:Nat}{e:Exit}{st:St}:∀ (os:Ap) (x:PE os),AIX np nt e st os=some x→∃ its d,decode np nt st its=some d∧∀ (R':Type) (k':Exit→St→Option R'),AIy nt k' os x=k' e (encode nt its d):=by
 intro os
 induction os with
 |nil=>intro x h;simp[AIX]at h
 |cons o os ih=>
  intro x h
  simp only[AIX]at h
  split at h
  ·rename_i hs
   split at h
   ·rename_i d hd
    simp only[AmT]at h;subst h
    exact⟨o.2,d,hd,fun R' k'=>by rw[APF hs];rfl⟩
   ·cases h
  ·split at h
   ·rename_i y hy
    simp only[AmT]at h;subst h
    obtain⟨its,d,h1,h2⟩:=ih y hy
    exact⟨its,d,h1,fun R' k'=>h2 R' k'⟩
   ·cases h
theorem Acv{h':Hints}(hE:∀ g,AO P g (E.spec g))(hL:JL E){np nt n:Nat}{body:Code}{its:AE}{os:Ap}{stp:B6 (leaves its)→Option (B6 (leaves its)⊕PE os)}
  (hstep:∀ v,stp v=roundOf P E h' n np nt body its os v) (hl:DW P np h' body n):AZ P np (.loop body) (Aa np nt its os stp):=by
 intro R st k r hk
 unfold Aa at hk
 split at hk
 ·cases hk
 ·rename_i v hv
  split at hk
  ·cases hk
  ·rename_i x hx
   obtain⟨e,st',h1,h2⟩:=AdY os x hk
   refine⟨e,st',h1,fun R' k'=>by simp only[Aa,hv,hx];exact h2 R' k',?_⟩
   have key:∀ (fuel:Nat) (v:B6 (leaves its)),AY stp fuel v=some x→∀ (w:World) (F:Nat→Prop) (m:Mp) (a:Act) (Q:Exit→Act→World→Prop),SI w F m (encode nt its v) a →
     (∀ a' w' F' m',SI w' F' m' st' a'→XN np w F m (encode nt its v).heap (encode nt its v).frz w' F' m' st'.heap st'.frz→Q e a' w')→Code.rounds P body Q fuel a w:=by
    intro fuel
    induction fuel with
    |zero=>intro v h;simp[AY]at h
    |succ fuel ih=>
     intro v h w F m a Q hs hq
     simp only[AY]at h
     rw[hstep v]at h
     cases hr:roundOf P E h' n np nt body its os v with
     |none=>rw[hr]at h;cases h
     |some y=>
      rw[hr]at h
      unfold roundOf at hr
      obtain⟨e1,st1,g1,_,g3⟩:=K8 hE hL body n hl _ _ _ _ hr
      show body.wp P (Exit.then (Code.rounds P body Q fuel) Q) a w
      refine g3 w F m a _ hs fun a' w' F' m' s1 x1 => ?_
      by_cases he:e1 = .normal
      ·subst he
       simp only[APN]at g1
       split at g1
       ·rename_i d hd
        simp only[AmT]at g1;subst g1
        obtain⟨F2,m2,s2,x2⟩:=Wx s1 hd
        show Code.rounds P body Q fuel a' w'
        exact ih d h w' F2 m2 a' Q s2 fun a3 w3 F3 m3 s3 x3=>hq a3 w3 F3 m3 s3 (x1.trans (x2.trans x3))
       ·cases g1
      ·have g1':(match AIX np nt e1 st1 os with
        |some x=>some (Sum.inr x)
        |none=>none)=some y:=by
        cases e1<;>first|exact absurd rfl he|exact g1
       split at g1'
       ·rename_i z hz
        simp only[AmT]at g1';subst g1'
        simp only[AmT]at h;subst h
        obtain⟨its',d,o1,o2⟩:=AgZ os _ hz
        obtain⟨F2,m2,s2,x2⟩:=Wx s1 o1
        have e3:=(h2 (Exit×St) fun e st=>some (e,st)).symm.trans (o2 (Exit×St) fun e st=>some (e,st))
        simp only[AmT,Amx]at e3
        obtain⟨rfl,rfl⟩:=e3
        have:=hq a' w' F2 m2 s2 (x1.trans x2)
        cases e<;>first|exact absurd rfl he|exact this
       ·cases g1'
   intro w F m a Q hs hq
   obtain⟨F2,m2,s2,x2⟩:=Wx hs hv
   exact wp_loop_rounds many (key many v (by rw[← As];exact hx) w F2 m2 a Q s2 fun a3 w3 F3 m3 s3 x3=>hq a3 w3 F3 m3 s3 (x2.trans x3))
end
end Go.Pev
end
section
namespace Go.Pev
open Go.RowKit
section
variable {w:World} {F F0:Nat→Prop} {m m2:Mp} {H H2:List Ob} {ids:List Nat}
theorem Dat.flat:∀ (t:Ty),t.flat=true→∀ {d:t.den} {cs:List Value} {w0:World},Dat w F t d cs→Dat w0 F0 t d cs:=by
 intro t
 induction t with
 |unit=>exact fun _ _ _ _ h=>h
 |bool=>exact fun _ _ _ _ h=>h
 |int k=>exact fun _ _ _ _ h=>h
 |slice e _=>intro h;simp[Ty.flat]at h
 |mapi j e _=>intro h;simp[Ty.flat]at h
 |nul e=>exact fun _ _ _ _ h=>h
 |prod a b iha ihb=>
  intro h d cs w0 hd
  simp only[Ty.flat,AmX]at h
  obtain⟨c1,c2,h1,h2,h3⟩:=hd
  exact⟨c1,c2,h1,iha h.1 h2,ihb h.2 h3⟩
 |arr n e ih=>
  intro h d cs w0 hd
  obtain⟨h1,h2⟩:=hd
  exact⟨h1,BK (fun x _ cs hx=>ih (by simpa [Ty.flat]using h) hx) h2⟩
theorem Bf.flat{t:Ty}(ht:t.flat=true){d:t.den}{v:Value}{w0:World}(h:Bf w F t d v):Bf w0 F0 t d v:=by
 unfold Bf at *
 split
 ·rename_i hg
  simp only[hg,Am7]at h
  obtain⟨vs,e,hd⟩:=h
  exact⟨vs,e,hd.flat t ht⟩
 ·rename_i hg
  simp only[hg]at h
  exact Dat.flat t ht h
theorem Adk{k v:Ty}(hk:k.flat=true)(hv:v.flat=true){w0:World}:∀ {es:List (k.den×v.den)} {ms:List MapEntry},Im w F k v es ms→Im w0 F0 k v es ms:=by
 intro es
 induction es with
 |nil=>exact fun h=>h
 |cons e es ih=>
  rintro ms ⟨me,ms',e1,⟨h1,h2⟩,h3⟩
  exact⟨me,ms',e1,⟨h1.flat hk,h2.flat hv⟩,ih h3⟩
mutual
theorem Rep.flat:∀ (a:AV) {v:Value},Js a=true→Rep w F m H a v→Rep w F0 m H a v
 |.junk,_,_,_=>by unfold Rep;trivial
 |.data t d,v,hf,h=>by unfold Rep at *;exact h.flat (by simpa [Js]using hf)
 |.nils _,v,_,h=>by unfold Rep at *;exact h
 |.agg cs,v,hf,h=>by
  unfold Rep at *
  obtain⟨vs,e,h,h1⟩:=h
  exact⟨vs,e,Ae.flat cs (by simpa [Js]using hf) h,h1⟩
 |.own id,v,_,h=>by unfold Rep at *;exact h
 |.win id off n,v,_,h=>by unfold Rep at *;exact h
 |.ptr id off,v,_,h=>by unfold Rep at *;exact h
 |.eptr id i sub,v,_,h=>by unfold Rep at *;exact h
 |.dptr cs,v,hf,h=>by simp[Js]at hf
 |.clo f caps,v,hf,h=>by
  unfold Rep at *
  obtain⟨cs,e,h⟩:=h
  exact⟨cs,e,Ae.flat caps (by simpa [Js]using hf) h⟩
 |.bnd f caps,v,hf,h=>by
  unfold Rep at *
  obtain⟨cs,e,h⟩:=h
  exact⟨cs,e,Ae.flat caps (by simpa [Js]using hf) h⟩
 |.str _,v,_,h=>by unfold Rep at *;exact h
 |.clip _ _,v,hf,h=>by simp[Js]at hf
 |.mp id,v,_,h=>by unfold Rep at *;exact h
 |.rowp _ _ _,v,_,h=>by unfold Rep at *;exact h
 |.glob _,v,_,h=>by unfold Rep at *;exact h
 |.nilp,v,_,h=>by unfold Rep at *;exact h
 |.aptr _ _,v,_,h=>by unfold Rep at *;exact h
 |.tup vs,v,hf,h=>by
  unfold Rep at *
  obtain⟨us,e,h⟩:=h
  exact⟨us,e,Ae.flat vs (by simpa [Js]using hf) h⟩
theorem Ae.flat:∀ (cs:List AV) {vs:List Value},KW cs=true→Ae w F m H cs vs→Ae w F0 m H cs vs
 |[],vs,_,h=>by unfold Ae at *;exact h
 |c::cs,vs,hf,h=>by
  unfold Ae at *
  simp only[KW,AmX]at hf
  obtain⟨v,vs',e,h1,h2⟩:=h
  exact⟨v,vs',e,Rep.flat c hf.1 h1,Ae.flat cs hf.2 h2⟩
end
def AS7(ids:List Nat)(H H2:List Ob)(m m2:Mp):Prop:=∀ j o,H[j]? = some o→H2[ids.getD j 0]? = some (Dc ids o)∧m2 (ids.getD j 0)=m j
theorem Ep(hm:AS7 ids H H2 m m2)(Q:Option Ob→Option (Nat×Nat)→Prop)(hnone:∀ l,¬ Q none l)(hbox:∀ cs l,Q (some (.box cs)) l→Q (some (.box (K6 ids cs))) l)(hprs:∀ T t t' is l,Q (some (.prs T t is)) l→Q (some (.prs T t' is)) l)(j:Nat)(h:Q H[j]? (m j)):Q H2[ids.getD j 0]? (m2 (ids.getD j 0)):=by
 cases ho:H[j]? with
 |none=>rw[ho]at h;exact absurd h (hnone _)
 |some o=>
  rw[ho]at h
  obtain⟨h1,h2⟩:=hm j o ho
  rw[h1,h2]
  cases o<;>first|exact h|exact hbox _ _ h|exact hprs _ _ _ _ _ h
mutual
theorem Rep.ren(hm:AS7 ids H H2 m m2):∀ (a:AV) {v:Value},Rep w F m H a v→Rep w F m2 H2 (D5 ids a) v
 |.junk,_,_=>by simp only[D5];unfold Rep;trivial
 |.rowp _ _ _,_,_=>by simp only[D5];unfold Rep;trivial
 |.glob g,v,h=>by simp only[D5];unfold Rep at *;exact h
 |.nilp,v,h=>by simp only[D5];unfold Rep at *;exact h
 |.aptr id n,v,h=>by
  simp only[D5];unfold Rep at *
  exact Ep hm (fun o l=>FM o l n v) (fun l h=>h) (fun cs l h=>h) (fun _ _ _ _ l h=>h) id h
 |.data t d,v,h=>by simp only[D5];unfold Rep at *;exact h
 |.nils _,v,h=>by simp only[D5];unfold Rep at *;exact h
 |.agg cs,v,h=>by
  simp only[D5];unfold Rep at *
  obtain⟨vs,e,h,h1⟩:=h
  exact⟨vs,e,Ae.ren hm cs h,h1⟩
 |.own id,v,h=>by
  simp only[D5];unfold Rep at *
  exact Ep hm (fun o l=>A7 o l v) (fun l h=>h) (fun cs l h=>h) (fun _ _ _ _ l h=>h) id h
 |.win id off n,v,h=>by
  simp only[D5];unfold Rep at *
  exact Ep hm (fun o l=>Gw o l off n v) (fun l h=>h) (fun cs l h=>h) (fun _ _ _ _ l h=>h) id h
 |.ptr id off,v,h=>by
  simp only[D5];unfold Rep at *
  exact Ep hm (fun o l=>Gx o l off v) (fun l h=>h) (fun cs l h=>h) (fun _ _ _ _ l h=>h) id h
 |.eptr id i sub,v,h=>by
  simp only[D5];unfold Rep at *
  exact Ep hm (fun o l=>Ch o l i sub v) (fun l h=>h) (fun cs l h=>h) (fun _ _ _ _ l h=>h) id h
 |.dptr cs,v,h=>by
  simp only[D5];unfold Rep at *
  obtain⟨ad,us,e,h1,h2,h4,h3⟩:=h
  refine⟨ad,us,e,fun hne=>h1 (by rintro rfl;exact hne rfl),Ae.ren hm cs h2,h4,h3⟩
 |.clo f caps,v,h=>by
  simp only[D5];unfold Rep at *
  obtain⟨cs,e,h⟩:=h
  exact⟨cs,e,Ae.ren hm caps h⟩
 |.bnd f caps,v,h=>by
  simp only[D5];unfold Rep at *
  obtain⟨cs,e,h⟩:=h
  exact⟨cs,e,Ae.ren hm caps h⟩
 |.str _,v,h=>by simp only[D5];unfold Rep at *;exact h
 |.clip _ _,v,h=>by simp only[D5];unfold Rep at *;exact h
 |.mp id,v,h=>by
  simp only[D5];unfold Rep at *
  exact Ep hm (fun o l=>MZ o l v) (fun l h=>h) (fun cs l h=>h) (fun _ _ _ _ l h=>h) id h
 |.tup vs,v,h=>by
  simp only[D5];unfold Rep at *
  obtain⟨us,e,h⟩:=h
  exact⟨us,e,Ae.ren hm vs h⟩
theorem Ae.ren(hm:AS7 ids H H2 m m2):∀ (cs:List AV) {vs:List Value},Ae w F m H cs vs→Ae w F m2 H2 (K6 ids cs) vs
 |[],vs,h=>by simp only[K6];unfold Ae at *;exact h
 |c::cs,vs,h=>by
  simp only[K6];unfold Ae at *
  obtain⟨v,vs',e,h1,h2⟩:=h
  exact⟨v,vs',e,Rep.ren hm c h1,Ae.ren hm cs h2⟩
end
theorem Afr(tgt:Nat)(is:List Int):K6 ids (FZ tgt is)=FZ (ids.getD tgt 0) is:=by
 induction is with
 |nil=>rfl
 |cons x xs ih=>
  have:K6 ids (FZ tgt (x::xs))=D5 ids (.eptr tgt x.toNat 0)::K6 ids (FZ tgt xs):=rfl
  rw[this,ih]
  rfl
theorem Adb(tgt:Nat)(is:List Int):KW (FZ tgt is)=true:=by
 induction is with
 |nil=>rfl
 |cons x xs ih=>
  have:KW (FZ tgt (x::xs))=(Js (.eptr tgt x.toNat 0)&&KW (FZ tgt xs)):=rfl
  rw[this,ih]
  rfl
theorem AWG{i j k:Nat}:∀ {ids:List Nat},Jd ids=true→ids[i]? = some k→ids[j]? = some k→i=j:=by
 intro ids h
 have:ids.Nodup:=by
  induction ids with
  |nil=>exact List.nodup_nil
  |cons a ids ih=>
   simp only[Jd,AmX,Anu,AoA,AnK]at h
   exact Am3.2 ⟨h.1,ih h.2⟩
 intro h1 h2
 exact(List.getElem?_inj (Fg h1) this).1 (h1.trans h2.symm)
theorem AO9{i:Nat}{o:Ob}:∀ (ids:List Nat) (os:List Ob) (H:List Ob) (j:Nat),Jd ids=true→ids[j]? = some i→os[j]? = some o→i<H.length→(A8 (ids.zip os) H)[i]? = some o:=by
 intro ids
 induction ids with
 |nil=>intro os H j _ h;simp at h
 |cons a ids ih=>
  intro os H j hn h1 h2 hl
  cases os with
  |nil=>simp at h2
  |cons x os=>
   simp only[Jd,AmX,Anu,AoA,AnK]at hn
   simp only[Aoy,A8]
   cases j with
   |zero=>
    simp only[AnB,AmT]at h1 h2
    subst h1;subst h2
    rw[BW _ _ fun p hp => ?_,Anm hl]
    rintro rfl
    exact hn.1 (List.of_mem_zip hp).1
   |succ j=>
    simp only[Aod]at h1 h2
    exact ih os _ j hn.2 h1 h2 (by simpa using hl)
def Jt:List Nat→Nat→Option Nat
 |[],_=>none
 |x::xs,i=>if x=i then some 0 else(Jt xs i).map (· + 1)
theorem Yg{i j:Nat}:∀ {ids:List Nat},Jt ids i=some j→ids[j]? = some i:=by
 intro ids
 induction ids generalizing j with
 |nil=>intro h;simp[Jt]at h
 |cons a ids ih=>
  intro h
  simp only[Jt]at h
  split at h
  ·rename_i e;simp only[AmT]at h;subst h;simp[e]
  ·rw[Ami]at h
   obtain⟨k,h1,rfl⟩:=h
   simpa using ih h1
theorem ASH{i:Nat}:∀ {ids:List Nat},Jt ids i=none→i∉ids:=by
 intro ids
 induction ids with
 |nil=>intro _;simp
 |cons a ids ih=>
  intro h
  simp only[Jt]at h
  split at h
  ·cases h
  ·rename_i hne
   rw[ApT]at h
   simp only[Ama,not_or]
   exact⟨fun e=>hne e.symm,ih h⟩
theorem Adf{i j:Nat}{ids:List Nat}(hn:Jd ids=true)(h:ids[j]? = some i):Jt ids i=some j:=by
 cases hf:Jt ids i with
 |none=>exact absurd (Amj h) (ASH hf)
 |some k=>rw[AWG hn h (Yg hf)]
def mOf(ids:List Nat)(m3 m:Mp):Mp
 |.o i=>match Jt ids i with
  |some j=>m3 j
  |none=>m i
 |.r i k=>m (.r i k)
theorem AIw{fz:List Bool}:∀ {ids:List Nat} {bs:List Bnd},FP H fz ids bs=true→∀ {j i:Nat},ids[j]? = some i→bs[j]? = some (.whole i)∨((∀ id,bs[j]?≠some (.whole id))∧Au H fz i=true):=by
 intro ids
 induction ids with
 |nil=>intro bs _ j i h;simp at h
 |cons a ids ih=>
  intro bs h j i hj
  simp only[FP,AmX]at h
  obtain⟨h1,h2⟩:=h
  cases j with
  |zero=>
   simp only[AnB,AmT]at hj;subst hj
   split at h1
   ·rename_i id _
    simp only[AmV]at h1;subst h1
    exact .inl (by simp)
   ·rename_i hne
    refine .inr ⟨fun id he => ?_,h1⟩
    cases bs with
    |nil=>simp at he
    |cons b bs=>simp at he;subst he;exact hne id bs rfl
  |succ j=>
   simp only[Aod]at hj
   have:=ih h2 hj
   cases bs with
   |nil=>simpa using this
   |cons b bs=>simpa using this
theorem AdI:∀ (n:Nat) (bs:List Bnd) (slot:Nat),(Cf n bs slot).length=n:=by
 intro n
 induction n with
 |zero=>intro bs slot;cases bs<;>rfl
 |succ n ih=>
  intro bs slot
  cases bs with
  |nil=>simp[Cf,ih]
  |cons b bs=>cases b<;>simp[Cf,ih]
theorem BP(st:St)(v:AV)(l:Loc):(place st v l).heap.length=st.heap.length:=by
 cases l with
 |tmp t=>rfl
 |cell j c=>simp only[place];split<;>simp
 |cap t i=>rfl
 |obj j=>rfl
theorem Ah1:∀ (its:AE) (d:B6 (leaves its)) (st:St),(enc its d st).heap.length=st.heap.length+C5 its:=by
 intro its
 induction its with
 |nil=>intro d st;rfl
 |cons p r ih=>
  intro d st
  obtain⟨l,c⟩:=p
  cases c with
  |dat t=>exact(ih _ _).trans (by rw[BP];rfl)
  |own T e=>exact(ih _ _).trans (by rw[BP];simp[Dn,C5];omega)
  |box n=>exact(ih _ _).trans (by rw[BP];simp[Dn,C5];omega)
  |map k v=>exact(ih _ _).trans (by rw[BP];simp[Dn,C5];omega)
  |prs T j=>exact(ih _ _).trans (by rw[BP];simp[Dn,C5];omega)
  |rows T e t=>exact(ih _ _).trans (by rw[BP];simp[Dn,C5];omega)
  |mrows j e t=>exact(ih _ _).trans (by rw[BP];simp[Dn,C5];omega)
  |aptr T e n=>exact(ih _ _).trans (by rw[BP];simp[Dn,C5];omega)
  |aptr' j n=>exact(ih _ _).trans (by rw[BP];rfl)
  |bndp f j=>exact(ih _ _).trans (by rw[BP];rfl)
  |nilp=>exact(ih _ _).trans (by rw[BP];rfl)
  |own' j=>exact(ih _ _).trans (by rw[BP];rfl)
  |ptr' j o=>exact(ih _ _).trans (by rw[BP];rfl)
  |map' j=>exact(ih _ _).trans (by rw[BP];rfl)
  |win' j=>exact(ih _ _).trans (by rw[BP];rfl)
  |sub' j=>exact(ih _ _).trans (by rw[BP];rfl)
  |clo f ps=>exact(ih _ _).trans (by rw[BP];rfl)
  |bnd f j=>exact(ih _ _).trans (by rw[BP];rfl)
  |nil e=>exact(ih _ _).trans (by rw[BP];rfl)
end
end Go.Pev
end
section
namespace Go.Pev
open Go.RowKit
theorem ADQ{H:List Ob}{fz:List Bool}{i:Nat}{o:Ob}(h:H[i]? = some o)(ha:alive o)(hf:fz.getD i false=false):owned H fz i:=by
 simp only[owned,Bp]
 rw[h]
 cases o with
 |free=>exact ha.elim
 |dead=>exact ha.elim
 |box cs=>trivial
 |arr T t xs=>exact hf
 |map k v es=>trivial
 |prs T t is=>trivial
 |rows T e t xs ver out=>exact hf
theorem AS2{o:Ob}(h:alive o):o≠.free∧o≠.dead:=by
 constructor<;>rintro rfl<;>exact h
theorem C3{H:List Ob}{fz:List Bool}{ids:List Nat}{i:Ix}(h:owned H (Ai ids fz) i):owned H fz i:=PJ h
theorem AGW{o o1:Ob}{ids:List Nat}(h:sameShape o o1):sameShape o (Dc ids o1):=by
 cases o<;>cases o1<;>simp only[sameShape,Dc]at *<;>exact h
theorem Wi{i:Nat}:∀ {bs:List Bnd},i∈given bs↔∃ j:Nat,bs[j]? = some (.whole i):=by
 intro bs
 induction bs with
 |nil=>simp[given]
 |cons b bs ih=>
  have step:(∃ j:Nat,(b::bs)[j]? = some (.whole i))↔b = .whole i∨∃ j:Nat,bs[j]? = some (.whole i):=by
   constructor
   ·rintro⟨j,hj⟩
    cases j with
    |zero=>simp only[AnB,AmT]at hj;exact .inl hj
    |succ j=>simp only[Aod]at hj;exact .inr ⟨j,hj⟩
   ·rintro (h|⟨j,hj⟩)
    ·exact⟨0,by rw[h];rfl⟩
    ·exact⟨j+1,by simpa using hj⟩
  rw[step]
  cases b with
  |whole id=>simp only[given,Ama,ih,Bnd.whole.injEq];exact⟨fun h=>h.imp Eq.symm (fun x=>x),fun h=>h.imp Eq.symm (fun x=>x)⟩
  |none=>simp[given,ih]
  |cut id=>simp[given,ih]
theorem X0(a b:List (Nat×Ob)):∀ H,A8 (a++b) H=A8 b (A8 a H):=by
 induction a with
 |nil=>intro H;rfl
 |cons p a ih=>intro H;obtain⟨i,o⟩:=p;simp only[Amy,A8];exact ih _
def C7(gv:List Nat)(H:List Ob):List Ob:=A8 (gv.map fun i=>(i,.dead)) H
theorem AD0{gv:List Nat}{i:Nat}{H:List Ob}(h:i∉gv):(C7 gv H)[i]? = H[i]? :=
 BW _ _ fun p hp=>by
  rintro rfl
  obtain⟨x,hx,rfl⟩:=Amo.1 hp
  exact h hx
theorem Ac6:∀ {gv:List Nat} {i:Nat} {H:List Ob},i∈gv→i<H.length→(C7 gv H)[i]? = some .dead:=by
 intro gv
 induction gv with
 |nil=>intro i H h;cases h
 |cons a gv ih=>
  intro i H h hl
  by_cases hg:i∈gv
  ·exact ih (H:=H.set a .dead) hg (by simpa using hl)
  ·have:(C7 gv (H.set a .dead))[i]? = (H.set a .dead)[i]? := AD0 hg
   rcases Ama.1 h with rfl|h
   ·show(C7 gv (H.set i .dead))[i]? = _
    rw[this,Anm hl]
   ·exact absurd h hg
theorem AD1(gv:List Nat)(H:List Ob):(C7 gv H).length=H.length:=Xz ..
section
variable {w w':World} {F F2 F3 FR:Nat→Prop} {m m3:Mp} {H H1:List Ob} {fz fz1 fzR:List Bool} {bs:List Bnd} {ids fr:List Nat} {np:Nat}
theorem Ad1(hiC:HI w F m H fz)(gA:Ao w F m H fz w F2 m H (Ai fr fz))
  (giv:∀ (j id:Nat),bs[j]? = some (.whole id)→owned H (Ai fr fz) id)
  (inj:∀ (i j id:Nat),bs[i]? = some (.whole id)→bs[j]? = some (.whole id)→i=j)
  (pin:∀ (j id:Nat),(bs.take np)[j]? = some (.whole id)→∃ o o1,H[id]? = some o∧alive o∧H1[j]? = some o1∧sameShape o o1∧m3 j=m id)
  (blk:∀ (j b c:Nat),owned H1 fz1 j→m3 j=some (b,c)→(∃ id c':Nat,(bs.take np)[j]? = some (.whole id)∧m id=some (b,c'))∨(∃ k id c':Nat,np≤k∧bs[k]? = some (.whole id)∧m id=some (b,c'))∨w.heap.size≤b)
  (os:w'.os=w.os) (tape:w'.tape=w.tape) (output:w'.output=w.output) (size:w.heap.size≤w'.heap.size)
  (keep:∀ b,b<w.heap.size→(∀ (j id:Nat) (c:Nat),bs[j]? = some (.whole id)→m id≠some (b,c))→w'.heap[b]? = w.heap[b]?)
  (sub:∀ b,F2 b→F3 b) (bnd:∀ b,F3 b→F2 b∨(∃ (j id c:Nat),bs[j]? = some (.whole id)∧m id=some (b,c))∨w.heap.size≤b)
  (hi1:HI w' F3 m3 H1 fz1) (al1:∀ (j:Nat) (o:Ob),H1[j]? = some o→alive o) (pl1:∀ (j:Nat) (o:Ob),H1[j]? = some o→BS o=true) (fr1:∀ j,fz1.getD j false=false)
  (hlen:ids.length=H1.length) (hok:FP H fzR ids (bs.take np)=true) (hnd:Jd ids=true)
  (hR:(FR=F∧fzR=fz∧H1.all Qh=true)∨(FR=F3∧fzR=Ai fr fz)) :
  Ao w F m H fz w' FR (mOf ids m3 m) (A8 (ids.zip (H1.map (Dc ids))) (C7 (given (bs.drop np)) H)) fzR∧AS7 ids H1 (A8 (ids.zip (H1.map (Dc ids))) (C7 (given (bs.drop np)) H)) m3 (mOf ids m3 m):=by
 have hiR:∃ FB,HI w FB m H fzR∧(∀ b,F b→FB b)∧(∀ b,FB b→FR b)∧(∀ b,FB b→F2 b):=by
  rcases hR with⟨e1,e2,_⟩|⟨e1,e2⟩
  ·exact⟨F,by rw[e2];exact hiC,fun _ h=>h,fun _ h=>by rw[e1];exact h,gA.1.sub⟩
  ·exact⟨F2,by rw[e2];exact gA.2,gA.1.sub,fun b h=>by rw[e1];exact sub b h,fun _ h=>h⟩
 obtain⟨FB,hiB,hFB,hBR,hB2⟩:=hiR
 have ownR:∀ {i},owned H fzR i→owned H fz i:=by
  intro i h
  rcases hR with⟨_,e2,_⟩|⟨_,e2⟩
  ·rw[e2]at h;exact h
  ·rw[e2]at h;exact C3 h
 have pinR:∀ {id},owned H (Ai fr fz) id→owned H fzR id:=by
  intro id h
  rcases hR with⟨_,e2,_⟩|⟨_,e2⟩
  ·rw[e2];exact C3 h
  ·rw[e2];exact h
 have FR3:∀ b,FR b→F3 b:=by
  rcases hR with⟨e1,_,_⟩|⟨e1,_⟩
  ·rw[e1];exact fun b h=>sub b (gA.1.sub b h)
  ·rw[e1];exact fun _ h=>h
 have tk:∀ {j id:Nat},(bs.take np)[j]? = some (.whole id)→j<np∧bs[j]? = some (.whole id):=by
  intro j id h
  rw[AnH]at h
  split at h
  ·rename_i hj;exact⟨hj,h⟩
  ·cases h
 have tk':∀ {j id:Nat},j<np→bs[j]? = some (.whole id)→(bs.take np)[j]? = some (.whole id):=by
  intro j id hj h
  rw[AnH,Amk hj];exact h
 have gvI:∀ {i:Nat},i∈given (bs.drop np)→∃ k,np≤k∧bs[k]? = some (.whole i):=by
  intro i h
  obtain⟨j,hj⟩:=Wi.1 h
  rw[AnQ]at hj
  exact⟨np+j,by omega,hj⟩
 have gvO:∀ {i k:Nat},np≤k→bs[k]? = some (.whole i)→i∈given (bs.drop np):=by
  intro i k hk h
  refine Wi.2 ⟨k-np,?_⟩
  rw[AnQ,show np+(k-np)=k by omega];exact h
 have hids:∀ {j i:Nat},ids[j]? = some i→(∃ o,H[i]? = some o)∧((bs.take np)[j]? = some (.whole i)∨((∀ (id:Nat),(bs.take np)[j]?≠some (.whole id))∧H[i]? = some .free∧fzR.getD i false=false)):=by
  intro j i hj
  rcases AIw hok hj with h|⟨h1,h2⟩
  ·obtain⟨o,o1,ho,_⟩:=pin j i h
   exact⟨⟨o,ho⟩,.inl h⟩
  ·obtain⟨h3,h4⟩:=BL h2
   exact⟨⟨_,h3⟩,.inr ⟨h1,h3,h4⟩⟩
 have gvN:∀ {i:Nat},i∈ids→i∉given (bs.drop np):=by
  intro i hi hg
  obtain⟨j,hj⟩:=ApC hi
  obtain⟨k,hk,hb⟩:=gvI hg
  rcases(hids hj).2 with h|⟨_,h,_⟩
  ·obtain⟨h1,h2⟩:=tk h
   have:=inj _ _ _ h2 hb
   omega
  ·obtain⟨o,h1,h2,_⟩:=Eo (giv k i hb)
   rw[h]at h1;cases h1;exact h2 rfl
 have hunf:∀ {j i:Nat},ids[j]? = some i→∀ {o1:Ob},H1[j]? = some o1→∀ {T:TypeId} {t:Ty} {xs:List t.den},o1 = .arr T t xs→fzR.getD i false=false:=by
  intro j i hj o1 ho1 T t xs he
  rcases(hids hj).2 with h|⟨_,_,h⟩
  ·obtain⟨o,o2,ho,_,ho2,hs,_⟩:=pin j i h
   rw[ho1]at ho2;cases ho2
   subst he
   have h2:=pinR (giv j i (tk h).2)
   simp only[owned,Bp]at h2
   rw[ho]at h2
   cases o<;>simp only[sameShape]at hs
   exact h2
  ·exact h
 have hwhole:∀ {j id:Nat},(bs.take np)[j]? = some (.whole id)→ids[j]? = some id:=by
  intro j id hb
  obtain⟨o,o1,_,_,ho1,_⟩:=pin j id hb
  have hl:=Al ho1
  rw[← hlen]at hl
  have hg:ids[j]? = some ids[j]:=AmZ hl
  rcases AIw hok hg with h|⟨h,_⟩
  ·rw[hb]at h;cases h;exact hg
  ·exact absurd hb (h id)
 have hgv:∀ {i:Nat},i∈given (bs.drop np)→(C7 (given (bs.drop np)) H)[i]? = some .dead:=by
  intro i hi
  obtain⟨k,_,hb⟩:=gvI hi
  obtain⟨o,ho,_⟩:=Eo (giv k i hb)
  exact Ac6 hi (Al ho)
 have getIn:∀ {j i:Nat} {o1:Ob},ids[j]? = some i→H1[j]? = some o1→(A8 (ids.zip (H1.map (Dc ids))) (C7 (given (bs.drop np)) H))[i]? = some (Dc ids o1):=by
  intro j i o1 hj ho1
  obtain⟨⟨o,ho⟩,_⟩:=hids hj
  exact AO9 ids _ _ j hnd hj (by rw[Ani,ho1];rfl) (by rw[AD1];exact Al ho)
 have getOut0:∀ {i:Nat},i∉ids→(A8 (ids.zip (H1.map (Dc ids))) (C7 (given (bs.drop np)) H))[i]? = (C7 (given (bs.drop np)) H)[i]? := by
  intro i hi
  exact BW _ _ fun p hp=>by rintro rfl;exact hi (List.of_mem_zip hp).1
 have getOut:∀ {i:Nat},i∉ids→i∉given (bs.drop np)→(A8 (ids.zip (H1.map (Dc ids))) (C7 (given (bs.drop np)) H))[i]? = H[i]? := by
  intro i hi hg
  rw[getOut0 hi,AD0 hg]
 have getGv:∀ {i:Nat},i∈given (bs.drop np)→(A8 (ids.zip (H1.map (Dc ids))) (C7 (given (bs.drop np)) H))[i]? = some .dead:=by
  intro i hg
  rw[getOut0 fun h=>gvN h hg,hgv hg]
 have mIn:∀ {j i:Nat},ids[j]? = some i→mOf ids m3 m i=m3 j:=by
  intro j i hj;simp only[mOf];rw[Adf hnd hj]
 have mOut:∀ {x:Ix},x.id∉ids→mOf ids m3 m x=m x:=by
  intro x hi
  cases x with
  |r i k=>rfl
  |o i=>
   simp only[mOf]
   cases hf:Jt ids i with
   |none=>rfl
   |some j=>exact absurd (Amj (Yg hf)) hi
 have inOut:∀ i:Nat,(∃ j:Nat,ids[j]? = some i)∨i∈given (bs.drop np)∨(i∉ids∧i∉given (bs.drop np)):=by
  intro i
  by_cases h:i∈ids
  ·obtain⟨j,hj⟩:=ApC h;exact .inl ⟨j,hj⟩
  ·by_cases h2:i∈given (bs.drop np)
   ·exact .inr (.inl h2)
   ·exact .inr (.inr ⟨h,h2⟩)
 have notGv:∀ {i:Ix},i.id∈given (bs.drop np)→¬ owned (A8 (ids.zip (H1.map (Dc ids))) (C7 (given (bs.drop np)) H)) fzR i:=by
  intro i hg ho
  obtain⟨o,h1,_,h3⟩:=C4 ho
  rw[getGv hg]at h1;cases h1;exact h3 rfl
 have has1:∀ {j i:Nat},ids[j]? = some i→∃ o1,H1[j]? = some o1:=by
  intro j i hj
  have hl:=Fg hj
  rw[hlen]at hl
  exact⟨_,AmZ hl⟩
 have plR:∀ {o1:Ob},BS o1=true→BS (Dc ids o1)=true:=by
  intro o1 h;cases o1<;>first|exact h|rfl
 have cls:∀ x:Ix,owned (A8 (ids.zip (H1.map (Dc ids))) (C7 (given (bs.drop np)) H)) fzR x→(∃ i j:Nat,∃ o1,x = .o i∧ids[j]? = some i∧H1[j]? = some o1)∨(x.id∉ids∧x.id∉given (bs.drop np)):=by
  intro x hx
  rcases inOut x.id with⟨j,hj⟩|hg|h
  ·obtain⟨o1,ho1⟩:=has1 hj
   cases x with
   |o i=>exact .inl ⟨i,j,o1,rfl,hj,ho1⟩
   |r i k=>exact absurd hx (Em (getIn hj ho1) (plR (pl1 j o1 ho1)))
  ·exact absurd hx (notGv hg)
  ·exact .inr h
 have own1:∀ {j:Nat} {o1:Ob},H1[j]? = some o1→owned H1 fz1 j:=fun h=>ADQ h (al1 _ _ h) (fr1 _)
 have blkNe:∀ {i b c:Nat},i∉ids→i∉given (bs.drop np)→(∃ o,H[i]? = some o∧o≠.free∧o≠.dead)→m i=some (b,c)→∀ {j id c':Nat},bs[j]? = some (.whole id)→m id≠some (b,c'):=by
  intro i b c hi hg ⟨o,ho,h1,h2⟩ hm j id c' hb he
  have hp:=giv j id hb
  have hne:i≠id:=by
   rintro rfl
   rcases AnF j np with hj|hj
   ·exact hi (Amj (hwhole (tk' hj hb)))
   ·exact hg (gvO hj hb)
  exact gA.2.ne hp he ho h1 h2 hm hne rfl
 have hcomp:CF H (A8 (ids.zip (H1.map (Dc ids))) (C7 (given (bs.drop np)) H)) m (mOf ids m3 m):=by
  intro i o ho hf
  rcases inOut i with⟨j,hj⟩|hg|⟨hi,hg⟩
  ·rcases(hids hj).2 with h|⟨_,h,_⟩
   ·obtain⟨o',o1,ho',ha,ho1,hs,hm⟩:=pin j i h
    rw[ho]at ho';cases ho'
    exact .inr ⟨(AS2 ha).2,_,getIn hj ho1,AGW hs,by rw[mIn hj];exact hm,fun _ _ _=>rfl⟩
   ·rw[ho]at h;cases h;exact absurd rfl hf
  ·exact .inl (getGv hg)
  ·rcases CF.refl H m i o ho hf with h|⟨hd,o',h1,h2,_⟩
   ·exact .inl (by rw[getOut hi hg];exact h)
   ·exact .inr ⟨hd,o',by rw[getOut hi hg];exact h1,h2,mOut (x:=.o i) hi,fun _ _ _=>rfl⟩
 have hmoved:AS7 ids H1 (A8 (ids.zip (H1.map (Dc ids))) (C7 (given (bs.drop np)) H)) m3 (mOf ids m3 m):=by
  intro j o ho
  have hl:=Al ho
  rw[← hlen]at hl
  have hg:ids[j]? = some ids[j]:=AmZ hl
  have hd:ids.getD j 0=ids[j]:=by rw[AmW,hg];rfl
  rw[hd]
  exact⟨getIn hg ho,mIn hg⟩
 have hkeepF:∀ b,FB b→w'.heap[b]? = w.heap[b]? := by
  intro b hb
  refine keep b (hiB.lt b hb) fun j id c hj he => ?_
  exact gA.2.off id b c (giv j id hj) he (hB2 b hb)
 have hcell:∀ k,F k→w'.heap[k]? = w.heap[k]? := fun k ha=>hkeepF _ (hFB _ ha)
 have ownOut:∀ {i:Ix},i.id∉ids→i.id∉given (bs.drop np)→owned (A8 (ids.zip (H1.map (Dc ids))) (C7 (given (bs.drop np)) H)) fzR i→owned H fzR i:=by
  intro i hi hg h
  exact(CU (getOut hi hg)).1 h
 have blkNe':∀ {x:Ix} {b c:Nat},x.id∉ids→x.id∉given (bs.drop np)→owned H fzR x→m x=some (b,c)→∀ {j id c':Nat},bs[j]? = some (.whole id)→m id≠some (b,c'):=by
  intro x b c hi hg ho hm j id c' hb he
  cases x with
  |o i=>exact blkNe hi hg (Eo ho) hm hb he
  |r i k=>exact gA.2.neX (giv j id hb) he ho.there hm (by simp) rfl
 have bOut:∀ {x:Ix} {b c:Nat},x.id∉ids→x.id∉given (bs.drop np)→owned H fzR x→m x=some (b,c)→∀ {j:Nat} {o1:Ob} {c':Nat},H1[j]? = some o1→m3 j≠some (b,c'):=by
  intro x b c hi hg ho hm j o1 c' ho1 he
  rcases blk j b c' (own1 ho1) he with⟨id,c2,hb,hm2⟩|⟨k,id,c2,_,hb,hm2⟩|hge
  ·exact blkNe' hi hg ho hm (tk hb).2 hm2
  ·exact blkNe' hi hg ho hm hb hm2
  ·have:=hiB.H3 ho hm;omega
 refine⟨⟨⟨os,tape,output,size,fun b hb hn=>keep b hb fun j id c hj he => ?_,fun b h=>hBR b (hFB b h),?_,?_,hcomp⟩,⟨?_,?_,?_,?_,?_,?_,?_,hiC.glo.mono hcell (fun b h=>hBR b (hFB b h)),?_⟩⟩,hmoved⟩
 ·exact hn id c (C3 (giv j id hj)) he
 ·-- what is frozen
  intro b hb
  rcases hR with⟨e1,_,_⟩|⟨e1,_⟩
  ·rw[e1]at hb;exact .inl hb
  ·rw[e1]at hb
   rcases bnd b hb with h|⟨j,id,c,h1,h2⟩|h
   ·exact gA.1.bnd b h
   ·exact .inr (.inl ⟨id,c,C3 (giv j id h1),h2⟩)
   ·exact .inr (.inr h)
 ·intro i b c ho hm
  rcases cls i ho with⟨i,j,o1,rfl,hj,ho1⟩|⟨hi,hg⟩
  ·rw[mIn hj]at hm
   rcases blk j b c (own1 ho1) hm with⟨id,c',h1,h2⟩|⟨k,id,c',_,h1,h2⟩|h
   ·exact .inl ⟨id,c',C3 (giv j id (tk h1).2),h2⟩
   ·exact .inl ⟨id,c',C3 (giv k id h1),h2⟩
   ·exact .inr h
  ·rw[mOut hi]at hm
   exact .inl ⟨i,c,ownR (ownOut hi hg ho),hm⟩
 ·-- objects
  intro i o ho
  rcases inOut i with⟨j,hj⟩|hg|⟨hi,hg⟩
  ·obtain⟨o1,ho1⟩:=has1 hj
   rw[getIn hj ho1]at ho;cases ho
   rw[mIn hj]
   have hob:=hi1.obj j o1 ho1
   cases o1 with
   |free=>trivial
   |dead=>trivial
   |box cs=>
    obtain⟨b,c,vs,T,a1,a2,a3,a4⟩:=hob
    refine⟨b,c,vs,T,a1,a2,Ae.ren hmoved cs ?_,a4⟩
    rcases hR with⟨e1,_,hfl⟩|⟨e1,_⟩
    ·rw[Amr]at hfl
     exact Ae.flat cs (by simpa [Qh]using hfl _ (Amj ho1)) a3
    ·rw[e1];exact a3
   |arr T t xs=>
    rcases hR with⟨e1,_,hfl⟩|⟨e1,_⟩
    ·rw[Amr]at hfl
     have hft:t.flat=true:=by simpa [Qh]using hfl _ (Amj ho1)
     obtain⟨h0,h1⟩:=hob
     refine⟨h0,?_⟩
     cases hm3:m3 j with
     |none=>rw[hm3]at h1;exact h1
     |some p=>
      obtain⟨b,cap⟩:=p
      rw[hm3]at h1
      obtain⟨vs,row,a1,a2,a3,a4,a5,a6⟩:=h1
      exact⟨vs,row,a1,a2,a3,a4,BK (fun x _ cs hx=>hx.flat t hft) a5,a6⟩
    ·rw[e1];exact hob
   |map k v es=>
    obtain⟨b,c,ms,clock,a1,a2,a3,a4⟩:=hob
    refine⟨b,c,ms,clock,a1,a2,?_,a4⟩
    rcases hR with⟨e1,_,hfl⟩|⟨e1,_⟩
    ·rw[Amr]at hfl
     have hft:k.flat=true∧v.flat=true:=by simpa [Qh]using hfl _ (Amj ho1)
     exact Adk hft.1 hft.2 a3
    ·rw[e1];exact a3
   |prs T tgt is=>
    simp only[Dc]
    cases hm3:m3 j with
    |none=>rw[hm3]at hob;exact hob
    |some p=>
     obtain⟨b,cap⟩:=p
     rw[hm3]at hob
     obtain⟨vs,us,a1,a2,a3,a4,a5,a6,a7⟩:=hob
     refine⟨vs,us,a1,a2,a3,a4,?_,a6,a7⟩
     rw[← Afr]
     refine Ae.ren hmoved _ ?_
     rcases hR with⟨e1,_,hfl⟩|⟨e1,_⟩
     ·exact Ae.flat _ (Adb tgt is) a5
     ·rw[e1];exact a5
   |rows T e t xs ver out=>exact absurd (pl1 j _ ho1) (by simp[BS])
  ·rw[getGv hg]at ho;cases ho;trivial
  ·rw[getOut hi hg]at ho
   rw[mOut (x:=.o i) hi]
   refine ObI.mono hcell (fun b h=>hBR b (hFB b h)) hcomp (fun h1 h2 b c hm hlt=>keep b hlt fun j id c' hj=>blkNe hi hg ⟨o,ho,h1,h2⟩ hm hj) (hiC.obj i o ho)
 ·-- rows
  intro i
  rcases inOut i with⟨j,hj⟩|hg|⟨hi,hg⟩
  ·obtain⟨o1,ho1⟩:=has1 hj
   exact Bz.plain (getIn hj ho1) (plR (pl1 j o1 ho1))
  ·exact Bz.plain (getGv hg) rfl
  ·refine Bz.mono hcell (fun b h=>hBR b (hFB b h)) hcomp (getOut hi hg) (fun x hx=>mOut (by rw[hx];exact hi))
    (fun x hx hox b c hm hlt=>keep b hlt fun j id c' hj he => ?_) (hiC.row i)
   refine gA.2.neX (giv j id hj) he hox hm ?_ rfl
   rintro rfl
   have hx:id=i:=hx
   subst hx
   rcases AnF j np with hj'|hj'
   ·exact hi (Amj (hwhole (tk' hj' hj)))
   ·exact hg (gvO hj' hj)
 ·intro i T e t xs ver out hio hf x hx ht b c hm
  rcases inOut i with⟨j,hj⟩|hg|⟨hi,hg⟩
  ·obtain⟨o1,ho1⟩:=has1 hj
   rw[getIn hj ho1]at hio
   have:=plR (pl1 j o1 ho1)
   rw[AnX hio]at this;cases this
  ·rw[getGv hg]at hio;cases hio
  ·rw[mOut (x:=x) (by rw[hx];exact hi)]at hm
   have h1:=getOut hi hg
   exact hBR b (hiB.rfz i T e t xs ver out (h1▸hio) hf x hx ((CR (by rw[hx];exact h1)).1 ht) b c hm)
 ·-- apart
  intro i j b c b' c' hoi hoj hij hmi hmj
  rcases cls i hoi with⟨i,k,o1,rfl,hk,ho1⟩|⟨hi,hgi⟩
  ·rw[mIn hk]at hmi
   rcases cls j hoj with⟨j,l,o2,rfl,hl,ho2⟩|⟨hj,hgj⟩
   ·rw[mIn hl]at hmj
    have hkl:k≠l:=by rintro rfl;rw[hk]at hl;cases hl;exact hij rfl
    exact hi1.sep k l b c b' c' (own1 ho1) (own1 ho2) (Ajn hkl) hmi hmj
   ·rw[mOut hj]at hmj
    rintro rfl
    exact bOut hj hgj (ownOut hj hgj hoj) hmj ho1 hmi
  ·rw[mOut hi]at hmi
   rcases cls j hoj with⟨j,l,o2,rfl,hl,ho2⟩|⟨hj,hgj⟩
   ·rw[mIn hl]at hmj
    rintro rfl
    exact bOut hi hgi (ownOut hi hgi hoi) hmi ho2 hmj
   ·rw[mOut hj]at hmj
    exact hiB.sep i j b c b' c' (ownOut hi hgi hoi) (ownOut hj hgj hoj) hij hmi hmj
 ·-- none of them frozen
  intro i b c hoi hmi hb
  rcases cls i hoi with⟨i,k,o1,rfl,hk,ho1⟩|⟨hi,hg⟩
  ·rw[mIn hk]at hmi
   exact hi1.off k b c (own1 ho1) hmi (FR3 b hb)
  ·rw[mOut hi]at hmi
   have ho:=ownOut hi hg hoi
   rcases hR with⟨e1,e2,_⟩|⟨e1,e2⟩
   ·rw[e1]at hb;exact hiC.off i b c (ownR ho) hmi hb
   ·rw[e1]at hb
    rcases bnd b hb with h|⟨j,id,c',h1,h2⟩|h
    ·rw[e2]at ho;exact gA.2.off i b c ho hmi h
    ·exact blkNe' hi hg ho hmi h1 h2
    ·have:=hiB.H3 ho hmi;omega
 ·intro i T t xs b c hio hf hmi
  rcases inOut i with⟨k,hk⟩|hg|⟨hi,hg⟩
  ·obtain⟨o1,ho1⟩:=has1 hk
   rw[getIn hk ho1]at hio
   have:o1 = .arr T t xs:=by
    cases o1<;>simp only[Dc,AmT]at hio<;>first|exact hio|cases hio
   rw[hunf hk ho1 this]at hf;cases hf
  ·rw[getGv hg]at hio;cases hio
  ·rw[getOut hi hg]at hio
   rw[mOut (x:=.o i) hi]at hmi
   exact hBR b (hiB.froz i T t xs b c hio hf hmi)
 ·intro b hb
  exact hi1.lt b (FR3 b hb)
 ·rw[Xz,AD1]
  exact hiB.len
end
end Go.Pev
end
section
namespace Go.Pev
open Go.RowKit
section
variable {P:Program} {w:World} {F:Nat→Prop} {m:Mp} {st:St} {a:Act}
def ALA(tmps:Array Value):ResultVar→Sem Value
 |.tmp t=>pure (tmps.getD t undef)
 |.cell x t=>do loadVar t (← asAddr (tmps.getD x undef))
theorem APY(hs:SI w F m st a){rv:ResultVar}{v:AV}(h:Rj P st rv=some v):
  ∃ u,(ALA a.tmps rv).run P w = .ok u w∧Rep w F m st.heap v u:=by
 cases rv with
 |tmp t=>
  simp only[Rj,AmT]at h;subst h
  exact⟨_,rfl,hs.tmps t⟩
 |cell x T=>
  simp only[Rj]at h
  split at h
  ·rename_i id off n ag h1 h2 h3
   split at h
   ·rename_i cs ho
    have hr:=hs.tmps x
    have e1:st.tmps.getD x .junk = .ptr id off:=h1
    rw[e1]at hr
    unfold Rep Gx at hr
    rw[ho]at hr
    obtain⟨b,c,e2,e3⟩:=hr
    obtain⟨b',c',vs,T',e4,e5,e6,e7⟩:=hs.heap.obj id _ ho
    rw[e2]at e4;cases e4
    obtain⟨u,k1,k2⟩:=Cj (P:=P) h2 h3 h (Eu e6 off) (ad:=⟨b,off,none⟩) (fun u hu=>e7 u (An2 hu)) (fun j u hu=>by
     rw[AnQ]at hu
     rw[B7]
     simp only[World.cell?,e5]
     simpa using hu)
    refine⟨u,?_,k2⟩
    simp[ALA,e3,asAddr,k1]
   ·cases h
  ·cases h
theorem AK9(hs:SI w F m st a):∀ {rvs:List ResultVar} {vs:List AV},DM P st rvs=some vs →
  ∃ us,(rvs.mapM (ALA a.tmps)).run P w = .ok us w∧Ae w F m st.heap vs us:=by
 intro rvs
 induction rvs with
 |nil=>
  intro vs h
  simp only[DM,AmT]at h;subst h
  exact⟨[],by simp[List.mapM_nil],Nw⟩
 |cons rv rvs ih=>
  intro vs h
  simp only[DM]at h
  split at h
  ·cases h
  ·rename_i v hv
   split at h
   ·cases h
   ·rename_i vs' hvs
    simp only[AmT]at h;subst h
    obtain⟨u,h1,h2⟩:=APY hs hv
    obtain⟨us,h3,h4⟩:=ih hvs
    refine⟨u::us,?_,by unfold Ae;exact⟨u,us,rfl,h2,h4⟩⟩
    rw[List.mapM_cons]
    simp only[Sem.run_bind]
    rw[h1]
    simp only[Result.andThen_ok]
    rw[h3]
    simp
def AWx(us:List Value):Value:=if h:us.toArray.size=1 then us.toArray[0]else .tuple us.toArray
theorem ACB(hs:SI w F m st a){fn:Func}{vs:List AV}(h:DM P st fn.results.toList=some vs):
  ∃ us,(results fn a.tmps).run P w = .ok (AWx us) w∧Ae w F m st.heap vs us:=by
 obtain⟨us,h1,h2⟩:=AK9 hs h
 refine⟨us,?_,h2⟩
 have e:results fn a.tmps=(do
   let vs ← fn.results.mapM (ALA a.tmps)
   pure (if h:vs.size=1 then vs[0]else .tuple vs)):=by
  unfold results
  congr 2
 rw[e,ApH]
 simp only[Sem.run_bind,map_eq_pure_bind]
 rw[h1]
 rfl
theorem AHy{H:List Ob}{vs:List AV}{us:List Value}(h:Ae w F m H vs us):Rep w F m H (single vs) (AWx us):=by
 have hl:=At h
 unfold AWx
 match vs,us,hl with
 |[],[],_=>
  simp only[single]
  unfold Rep
  exact⟨_,rfl,h⟩
 |[v],[u],_=>
  simp only[single]
  unfold Ae at h
  obtain⟨_,_,e,h1,_⟩:=h
  cases e
  exact h1
 |v::v'::vs,u::u'::us,_=>
  simp only[single]
  unfold Rep
  exact⟨_,rfl,h⟩
def JB:List RS→List Value→List Value
 |.one::r,u::us=>u::JB r us
 |.agg _::r,u::us=>u.cells.toList++JB r us
 |_,_=>[]
theorem AU5{H:List Ob}:∀ {rs:List RS} {vs:List AV} {us:List Value} {tm:List AV},GP rs vs=some tm→Ae w F m H vs us →
  Ae w F m H tm (JB rs us)∧(JB rs us).length=cellsOf rs∧∀ (w2:World) (F2:Nat→Prop) (m2:Mp) (H2:List Ob) (ws:List AV),Ae w2 F2 m2 H2 ws (JB rs us)→Ae w2 F2 m2 H2 (GK rs ws) us:=by
 intro rs
 induction rs with
 |nil=>
  intro vs us tm h hr
  cases vs with
  |nil=>
   simp only[GP,AmT]at h;subst h
   unfold Ae at hr;subst hr
   exact⟨Nw,rfl,fun _ _ _ _ _ _=>Nw⟩
  |cons v vs=>simp[GP]at h
 |cons r rs ih=>
  intro vs us tm h hr
  cases vs with
  |nil=>cases r<;>simp[GP]at h
  |cons v vs=>
   unfold Ae at hr
   obtain⟨u,us',rfl,hv,hr⟩:=hr
   cases r with
   |one=>
    simp only[GP]at h
    split at h
    ·rename_i l hl
     simp only[AmT]at h;subst h
     obtain⟨h1,h2,h3⟩:=ih hl hr
     refine⟨by simp only[JB];unfold Ae;exact⟨u,_,rfl,hv,h1⟩,by simp[JB,cellsOf,RS.cells,h2];omega,fun w2 F2 m2 H2 ws hw => ?_⟩
     simp only[JB]at hw
     cases ws with
     |nil=>unfold Ae at hw;cases hw
     |cons x ws=>
      unfold Ae at hw
      obtain⟨y,ys,e,q1,q2⟩:=hw
      cases e
      simp only[GK,ApK,AoX]
      unfold Ae
      exact⟨u,us',rfl,q1,h3 w2 F2 m2 H2 ws q2⟩
    ·cases h
   |agg n=>
    simp only[GP]at h
    split at h
    ·rename_i cs hag hcs
     split at h
     ·rename_i hn
      simp only[AmV]at hn
      split at h
      ·rename_i l hl
       simp only[AmT]at h;subst h
       obtain⟨h1,h2,h3⟩:=ih hl hr
       have hc:=cells?_ok hcs hv
       have ho:=cells?_one hcs hv
       have hcl:=At hc
       have hu:u = .agg u.cells:=by
        cases v<;>simp only[Sn]at hag<;>try (cases hag;done)
        ·rename_i t d
         unfold Rep Bf at hv
         rw[Amk hag]at hv
         obtain⟨x,rfl,_⟩:=hv
         rfl
        ·unfold Rep at hv
         obtain⟨x,rfl,_⟩:=hv
         rfl
       refine⟨by simp only[JB];exact Gk hc h1,by simp[JB,cellsOf,RS.cells,h2]at hcl ⊢;omega,fun w2 F2 m2 H2 ws hw => ?_⟩
       simp only[JB]at hw
       have ht:=Ot hw n
       have hd:=Eu hw n
       have hn':u.cells.toList.length=n:=by rw[hcl,hn]
       rw[ApJ hn']at ht
       rw[List.drop_left' hn']at hd
       simp only[GK]
       unfold Ae
       refine⟨u,us',rfl,?_,h3 w2 F2 m2 H2 _ hd⟩
       unfold Rep
       exact⟨u.cells,hu,ht,ho⟩
      ·cases h
     ·cases h
    ·cases h
end
end Go.Pev
end
section
namespace Go.Pev
open Go.RowKit
theorem Nt {P : Program} {g : FuncId} {fn : Func} (hf : P.funcs[g]? = some fn) (hb : fn.body.isSome = true) (hn : (fn.name == "runtime.NumGoroutine") = false) : TY P g := by
 intro args w
 obtain⟨c,hc⟩:=Anr.1 hb
 have hn' : ¬ fn.name = "runtime.NumGoroutine" := by simpa using hn
 simp[callFunc,hf,hn',hc]
theorem ANh{P:Program}{np:Nat}{h:Hints}:∀ (c:Code) (n:Nat),loops c=0→DW P np h c n:=by
 intro c
 induction c with
 |seq a b iha ihb=>intro n hl;simp only[loops]at hl;exact⟨iha n (by omega),ihb _ (by omega)⟩
 |cond c a b iha ihb=>intro n hl;simp only[loops]at hl;exact⟨iha n (by omega),ihb _ (by omega)⟩
 |block id c ih=>intro n hl;simp only[loops]at hl;exact ih n hl
 |loop c ih=>intro n hl;simp only[loops]at hl;omega
 |_=>intro n _;trivial
section
variable {P:Program} {E:Env} {h:Hints} {g:FuncId} {fn:Func} {c:Code}
theorem AYk{w:World}{F:Nat→Prop}{m:Mp}{H:List Ob}{args:List AV}{vals:List Value}(hr:Ae w F m H args vals)(n:Nat)(t:Nat):
  Rep w F m H ((args++List.replicate n AV.junk).getD t .junk) ((vals.toArray++Array.replicate n undef).getD t undef):=by
 have hl:=At hr
 have e:(vals.toArray++Array.replicate n undef).getD t undef=(vals++List.replicate n undef).getD t undef:=by
  rw[AnE,AmW,← Aok]
  simp
 rw[e,AmW,AmW]
 rcases AnF t args.length with ht|ht
 ·rw[Am1 ht,Am1 (by omega)]
  obtain⟨v,hv,hrv⟩:=CL hr (i:=t) (c:=args[t]) (AmZ ht)
  rw[hv,AmZ ht]
  exact hrv
 ·rw[Am6 ht,Aou]
  split<;>(unfold Rep;trivial)
theorem ARB(hE:∀ g,AO P g (E.spec g))(hL:JL E)(hf:P.funcs[g]? = some fn)(hb:fn.body=some c)(hc:TY P g)(hl:loops c=0):
  AO P g (DJ P E h fn):=by
 intro R args H fz slot k r hk
 simp only[DJ,hb]at hk
 split at hk
 ·cases hk
 ·rename_i hle
  simp only[AmV]at hle
  obtain⟨e,st',h1,h2,h3⟩:=K8 hE hL (np:=H.length) c 0 (ANh c 0 hl) R _ _ r hk
  have key:∃ vs,DM P st' fn.results.toList=some vs∧k (single vs) { heap:=some (st'.heap,st'.frz) }=some r∧(e = .normal∨e = .ret):=by
   cases e with
   |normal=>
    simp only at h1
    split at h1
    ·rename_i vs hvs;exact⟨vs,hvs,h1,.inl rfl⟩
    ·cases h1
   |ret=>
    simp only at h1
    split at h1
    ·rename_i vs hvs;exact⟨vs,hvs,h1,.inr rfl⟩
    ·cases h1
   |_=>simp at h1
  obtain⟨vs,hvs,h4,he⟩:=key
  refine⟨_,_,h4,fun R' k' => ?_,hc,fun w F m vals hi hr => ?_⟩
  ·simp only[DJ,hb,hle,Amg]
   refine(h2 R' _).trans ?_
   rcases he with rfl|rfl<;>simp only[hvs]
  ·have hlv:=At hr
   refine calls_of_wp hf hb ?_
   have hsi:SI w F m { tmps:=args++List.replicate (fn.ntmps-args.length) .junk,heap:=H,frz:=fz } { tmps:=vals.toArray++Array.replicate (fn.ntmps-vals.toArray.size) undef,defers:=[] }:=by
    refine⟨fun t => ?_,?_,hi,rfl⟩
    ·have:=AYk hr (fn.ntmps-args.length) t
     simp only[Anv,hlv]
     exact this
    ·simp[hlv]
   refine h3 w F m _ _ hsi fun a' w' F' m' s1 x1 => ?_
   obtain⟨us,r1,r2⟩:=ACB s1 hvs
   have hgo:Ao w F m H fz w' F' m' st'.heap st'.frz:=⟨⟨x1.os,x1.tape,x1.output,x1.size,x1.keep,x1.sub,x1.bnd,x1.own,fun i o ho hf=>x1.comp i o (Al ho) ho hf⟩,s1.heap⟩
   have hpost:a'.defers=[]∧∃ v,(results fn a'.tmps).run P w' = .ok v w'∧(fun(en:Ending) (w':World)=>∃ u,en = .returned u∧∃ F' m',Ao w F m H fz w' F' m' (CN { heap:=some (st'.heap,st'.frz) } H) (F5 { heap:=some (st'.heap,st'.frz) } fz)∧Rep w' F' m' (CN { heap:=some (st'.heap,st'.frz) } H) (single vs) u) (.returned v) w':=
    ⟨s1.defers,_,r1,_,rfl,F',m',hgo,AHy r2⟩
   rcases he with rfl|rfl<;>exact hpost
theorem AJI{w:World}{F:Nat→Prop}{m:Mp}{H:List Ob}{fz:List Bool}{bs:List Bnd}{m':Mp}{E:St}{val:Nat→Value}(h:Inv w F m H fz bs m' E val){j:Nat}{o:Ob}(hj:E.heap[j]? = some o):alive o:=by
 have hlt:=Al hj
 rw[h.lenH]at hlt
 have hx:bs[j]? = some bs[j]:=AmZ hlt
 have hb:=h.ob j _ hx
 cases hc:bs[j]with
 |none=>rw[hc]at hb;simp only[BM]at hb;obtain⟨_,⟨T,e,e2,_⟩|⟨T,e,e2⟩⟩:=hb<;>(rw[hj]at e2;cases e2;trivial)
 |whole id=>
  rw[hc]at hb;simp only[BM]at hb
  rcases hb.2 with⟨T,t,xs,_,a2,_⟩|⟨k,v,es,_,a2⟩|⟨cs,cs',b,c,vs,T,_,a2,_⟩|⟨_,_,_,_,_,a2,_⟩|⟨_,_,_,_,_,_,a2,_⟩<;>(rw[hj]at a2;cases a2;trivial)
 |cut id=>rw[hc]at hb;simp only[BM]at hb;obtain⟨T,t,xs,n,_,_,a3,_⟩:=hb;rw[hj]at a3;cases a3;trivial
theorem Ei{st:St}(h:st.heap.all BS=true)(v:AV)(l:Loc):(place st v l).heap.all BS=true:=by
 cases l with
 |cell j c=>
  simp only[place]
  split
  ·rw[Amr]at h ⊢
   intro o ho
   rcases List.mem_or_eq_of_mem_set ho with h1|rfl
   ·exact h o h1
   ·rfl
  ·exact h
 |_=>exact h
theorem KI{st:St}(h:st.heap.all BS=true){o:Ob}(ho:BS o=true):(Dn st o).heap.all BS=true:=by simp[Dn,h,ho]
theorem Abt:∀ (its:AE) (d:B6 (leaves its)) (st:St),H0 its=true→st.heap.all BS=true→(enc its d st).heap.all BS=true:=by
 intro its
 induction its with
 |nil=>intro d st _ h;exact h
 |cons p r ih=>
  intro d st hn h
  obtain⟨l,c⟩:=p
  cases c with
  |rows T e t=>simp[H0]at hn
  |mrows j e t=>simp[H0]at hn
  |aptr T e n=>exact ih _ _ hn (Ei (KI h rfl) _ _)
  |own T e=>exact ih _ _ hn (Ei (KI h rfl) _ _)
  |box n=>exact ih _ _ hn (Ei (KI h rfl) _ _)
  |map k v=>exact ih _ _ hn (Ei (KI h rfl) _ _)
  |prs T j=>exact ih _ _ hn (Ei (KI h rfl) _ _)
  |_=>exact ih _ _ hn (Ei h _ _)
theorem OT{its:AE}{d:B6 (leaves its)}{n:Nat}(hn:H0 its=true){j:Nat}{o:Ob}(h:(encode n its d).heap[j]? = some o):BS o=true:=
 Amr.1 (Abt its d (blank n) hn rfl) o (Amj h)
theorem APe{its:AE}{d:B6 (leaves its)}{n:Nat}(hn:H0 its=true){fz:List Bool}{x:Ix}(h:owned (encode n its d).heap fz x):x = .o x.id:=by
 cases x with
 |o i=>rfl
 |r i k=>
  obtain⟨o,ho,_⟩:=C4 h
  exact absurd h (Em ho (OT hn ho))
theorem ASE{np:Nat}{outs:AE}{rs:List RS}{st:St}{y:B6 (leaves outs)}(h:finish np P fn outs rs st=some y):
  ∃ vs tm bs fr,DM P st fn.results.toList=some vs∧GP rs vs=some tm∧dec tm st.heap outs st.frz []=some (y,bs,fr)∧(pins np 0 bs&&(st.heap.take np).all BS)=true:=by
 unfold finish at h
 split at h
 ·rename_i vs hvs
  split at h
  ·rename_i tm htm
   split at h
   ·rename_i y' bs fr hd
    split at h
    ·rename_i hp
     simp only[AmT]at h;subst h
     exact⟨vs,tm,bs,fr,hvs,htm,hd,hp⟩
    ·cases h
   ·cases h
  ·cases h
 ·cases h
theorem AcY(hE:∀ g,AO P g (E.spec g))(hL:JL E)(hf:P.funcs[g]? = some fn)(hb:fn.body=some c)(hc:TY P g)
  {np na:Nat} (hna:na≤fn.ntmps) {its outs:AE} {rs:List RS} {f:B6 (leaves its)→Option (B6 (leaves outs))} (hfun:∀ x,f x=AL np P E h fn its outs rs x) (hl:DW P np h c 0) :
  AO P g (AF np na its outs rs f):=by
 intro R args H fz slot k r hk
 simp only[AF]at hk
 split at hk
 ·cases hk
 ·rename_i x bs fr hdec
  split at hk
  ·cases hk
  ·rename_i hchk
   simp only[AmX,AmV]at hchk
   obtain⟨⟨⟨huncut,hbl⟩,hal⟩,hri,hro⟩:=hchk
   split at hk
   ·cases hk
   ·rename_i y hy
    generalize hids:Cf (C5 outs) (bs.take np) slot=ids at hk
    generalize hgv:given (bs.drop np)=gv at hk
    have key:∃ e,k (single (GK rs (K6 ids (encode (cellsOf rs) outs y).tmps))) e=some r∧e.heap=none∧e.objs=gv.map (fun i=>(i,.dead))++ids.zip ((encode (cellsOf rs) outs y).heap.map (Dc ids)) ∧
      (∀ R' (k':AV→Eff→Option R'),Jz R' gv (bs.take np) fr rs (encode (cellsOf rs) outs y) ids H fz k'=k' (single (GK rs (K6 ids (encode (cellsOf rs) outs y).tmps))) e) ∧
      FP H (Ai e.frz fz) ids (bs.take np)=true∧Jd ids=true ∧
      ((e.frz=[]∧KW (encode (cellsOf rs) outs y).tmps=true∧(encode (cellsOf rs) outs y).heap.all Qh=true)∨e.frz=fr):=by
     unfold Jz at hk
     split at hk
     ·rename_i hflat
      split at hk
      ·rename_i hok
       simp only[AmX]at hok hflat
       refine⟨_,hk,rfl,rfl,fun R' k'=>by simp only[Jz,hflat.1,hflat.2,hok.1,hok.2,Anz],hok.1,hok.2,.inl ⟨rfl,hflat.1,hflat.2⟩⟩
      ·cases hk
     ·rename_i hflat
      split at hk
      ·rename_i hok
       simp only[AmX]at hok
       refine⟨_,hk,rfl,rfl,fun R' k'=>by simp only[Jz,hflat,hok.1,hok.2,Anz],hok.1,hok.2,.inr rfl⟩
      ·cases hk
    obtain⟨e,h4,he1,he2,h5,hok,hnd,hfl⟩:=key
    refine⟨_,e,h4,fun R' k' => ?_,hc,fun w F m vals hi hr => ?_⟩
    ·simp only[AF,hdec,huncut,hbl,hal,hri,hro,hy,Amg,Anz,hids,hgv]
     exact h5 R' k'
    ·have hlv:=At hr
     rw[hfun x]at hy
     unfold AL at hy
     rw[hb]at hy
     simp only at hy
     obtain⟨ex,st',g1,_,g3⟩:=K8 hE hL c 0 hl _ _ _ _ hy
     have hfin:finish np P fn outs rs st'=some y∧(ex = .normal∨ex = .ret):=by
      cases ex with
      |normal=>exact⟨g1,.inl rfl⟩
      |ret=>exact⟨g1,.inr rfl⟩
      |_=>simp at g1
     obtain⟨hfin,hex⟩:=hfin
     obtain⟨vs,tm,bs',fr',hvs,htm,hd',hp⟩:=ASE hfin
     rw[AmX]at hp
     replace hp:=hp.1
     refine calls_of_wp hf hb ?_
     obtain⟨F2,m2,gA,invA,_⟩:=AXm (val:=fun t=>(vals.toArray++Array.replicate (fn.ntmps-vals.toArray.size) undef).getD t undef) its fz [] F (fun _=>none) (blank fn.ntmps) x bs fr hi
      (fun t v ht=>by
       have:=AYk hr (fn.ntmps-vals.toArray.size) t
       rw[AmW,Am1 (Fg ht),ht]at this
       exact this) (Inv.blank fn.ntmps) hdec
     have hsi:SI w F2 m2 (encode fn.ntmps its x) { tmps:=vals.toArray++Array.replicate (fn.ntmps-vals.toArray.size) undef,defers:=[] }:=by
      refine⟨invA.tmps,?_,invA.hi gA.2,rfl⟩
      rw[Ng]
      simp[hlv]
      omega
     refine g3 w F2 m2 _ _ hsi fun a' w' F' m' s1 x1 => ?_
     obtain⟨us,r1,r2⟩:=ACB s1 hvs
     obtain⟨q1,q2,q3⟩:=AU5 htm r2
     obtain⟨F3,m3,gC,invC,_⟩:=AXm (val:=fun t=>(JB rs us).getD t undef) outs st'.frz [] F' (fun _=>none) (blank (cellsOf rs)) y bs' fr' s1.heap
      (fun t v ht=>by
       obtain⟨u,hu,hru⟩:=CL q1 ht
       rw[AmW,hu]
       exact hru) (Inv.blank (cellsOf rs)) hd'
     have srcA:∀ {j:Ix} {b c},owned (encode fn.ntmps its x).heap (encode fn.ntmps its x).frz j→m2 j=some (b,c)→∃ id:Nat,bs[j.id]? = some (.whole id)∧owned H (Ai fr fz) id∧m id=some (b,c):=by
      intro j b c ho hm
      have hj:=APe hri ho
      obtain⟨y,id,k1,k2,k3,k4⟩:=invA.src ho hm
      rw[hj]at k3 k4
      rw[Amr]at huncut
      have:=huncut y (Amj k1)
      cases y with
      |none=>simp[Bnd.id?]at k2
      |whole i=>simp only[Bnd.id?,AmT]at k2;subst k2;exact⟨_,k1,k3,k4⟩
      |cut i=>simp[Bnd.AeS]at this
     have hinj:∀ (i j id:Nat),bs[i]? = some (.whole id)→bs[j]? = some (.whole id)→i=j:=fun i j id h1 h2=>invA.inj i j _ _ id h1 h2 rfl rfl
     have start:∀ (j id:Nat),bs[j]? = some (.whole id)→m2 j=m id∧∃ o o0,H[id]? = some o∧alive o∧(encode fn.ntmps its x).heap[j]? = some o0∧sameShape o o0∧alive o0∧owned H (Ai fr fz) id:=by
      intro j id hj
      have hA:=invA.ob j _ hj
      simp only[BM]at hA
      obtain⟨eA,hA⟩:=hA
      refine⟨eA,?_⟩
      rcases hA with⟨T,t,xs,a1,a2,a3⟩|⟨k,v,es,a1,a2⟩|⟨cs,cs',b,cc,vs,T,a1,a2,_⟩|⟨_,_,_,_,a1,a2,_⟩|⟨_,_,_,_,_,_,a2,_⟩
      ·exact⟨_,_,a1,trivial,a2,⟨rfl,rfl⟩,trivial,ADQ a1 trivial a3⟩
      ·exact⟨_,_,a1,trivial,a2,trivial,trivial,by simp only[owned,Bp];rw[a1];trivial⟩
      rotate_left
      ·exact⟨_,_,a1,trivial,a2,rfl,trivial,by simp only[owned,Bp];rw[a1];trivial⟩
      ·exact absurd (OT hri a2) (by simp[BS])
      ·exact⟨_,_,a1,trivial,a2,trivial,trivial,by simp only[owned,Bp];rw[a1];trivial⟩
     have hpin:∀ (j id:Nat),(bs.take np)[j]? = some (.whole id)→∃ o o1,H[id]? = some o∧alive o∧(encode (cellsOf rs) outs y).heap[j]? = some o1∧sameShape o o1∧m3 j=m id:=by
      intro j id hj0
      rw[AnH]at hj0
      split at hj0
      case isFalse=>cases hj0
      rename_i hjn
      obtain⟨eA,o,o0,s1,s2,s3,s4,s5,s6⟩:=start j id hj0
      have hC:=invC.ob j _ (by have:=APo _ 0 bs' hp j hjn;rw[AnU]at this;exact this)
      simp only[BM]at hC
      obtain⟨eC,hC⟩:=hC
      have mid:=x1.comp j o0 hjn s3 (AS2 s5).1
      have fin:∃ o2 o1,st'.heap[j]? = some o2∧alive o2∧(encode (cellsOf rs) outs y).heap[j]? = some o1∧sameShape o2 o1:=by
       rcases hC with⟨T,t,xs,a1,a2,a3⟩|⟨k,v,es,a1,a2⟩|⟨cs,cs',b,cc,vs,T,a1,a2,_⟩|⟨_,_,_,_,a1,a2,_⟩|⟨_,_,_,_,_,_,a2,_⟩
       ·exact⟨_,_,a1,trivial,a2,⟨rfl,rfl⟩⟩
       ·exact⟨_,_,a1,trivial,a2,trivial⟩
       rotate_left
       ·exact⟨_,_,a1,trivial,a2,rfl⟩
       ·exact absurd (OT hro a2) (by simp[BS])
       ·exact⟨_,_,a1,trivial,a2,trivial⟩
      obtain⟨o2,o1,t1,t2,t3,t4⟩:=fin
      rcases mid with md|⟨_,o2',md1,md2,md3,_⟩
      ·rw[t1]at md;cases md;exact t2.elim
      ·rw[t1]at md1;cases md1
       exact⟨o,o1,s1,s2,t3,(s4.trans md2).trans t4,by rw[eC,md3,eA]⟩
     have hiC1:=invC.hi gC.2
     have hblk:∀ j b cc:Nat,owned (encode (cellsOf rs) outs y).heap (encode (cellsOf rs) outs y).frz j→m3 j=some (b,cc)→(∃ id c':Nat,(bs.take np)[j]? = some (.whole id)∧m id=some (b,c'))∨(∃ k id c':Nat,np≤k∧bs[k]? = some (.whole id)∧m id=some (b,c'))∨w.heap.size≤b:=by
      intro j b cc ho hm
      obtain⟨_,i',k1,k2,k3,k4⟩:=invC.src ho hm
      rcases x1.own i' b cc (C3 k3) k4 with⟨i,c0,l1,l2⟩|h
      ·obtain⟨id,n1,n2,n3⟩:=srcA l1 l2
       have hio:=APe hri l1
       generalize i.id=i0 at n1 hio
       subst hio
       rcases AnF i0 np with hin|hin
       ·left
        have n1':(bs.take np)[i0]? = some (.whole id):=by rw[AnH,Amk hin];exact n1
        obtain⟨o,o1,p1,p2,p3,p4,p5⟩:=hpin i0 id n1'
        have hoi:owned (encode (cellsOf rs) outs y).heap (encode (cellsOf rs) outs y).frz i0:=ADQ p3 (AJI invC p3) (invC.frz i0)
        by_cases hij:j=i0
        ·subst hij;exact⟨id,c0,n1',n3⟩
        ·exact absurd rfl (hiC1.sep j i0 b cc b c0 ho hoi (Ajn hij) hm (by rw[p5];exact n3))
       ·exact .inr (.inl ⟨i0,id,c0,hin,n1,n3⟩)
      ·exact .inr (.inr h)
     have hkeep:∀ b,b<w.heap.size→(∀ (j id:Nat) (c:Nat),bs[j]? = some (.whole id)→m id≠some (b,c))→w'.heap[b]? = w.heap[b]? := by
      intro b hb hn
      refine x1.keep b hb fun i cc ho hm => ?_
      obtain⟨id,n1,_,n3⟩:=srcA ho hm
      exact hn i.id id cc n1 n3
     have hbnd:∀ b,F3 b→F2 b∨(∃ (j id c:Nat),bs[j]? = some (.whole id)∧m id=some (b,c))∨w.heap.size≤b:=by
      have hx:∀ {i:Ix} {b cc:Nat},owned (encode fn.ntmps its x).heap (encode fn.ntmps its x).frz i→m2 i=some (b,cc)→∃ (j id c:Nat),bs[j]? = some (.whole id)∧m id=some (b,c):=by
       intro i b cc ho hm
       obtain⟨id,n1,_,n3⟩:=srcA ho hm
       exact⟨i.id,id,cc,n1,n3⟩
      intro b hb
      rcases gC.1.bnd b hb with h|⟨i,cc,ho,hm⟩|h
      ·rcases x1.bnd b h with h|⟨i,cc,ho,hm⟩|h
       ·exact .inl h
       ·exact .inr (.inl (hx ho hm))
       ·exact .inr (.inr h)
      ·rcases x1.own i b cc ho hm with⟨i',c0,ho,hm⟩|h
       ·exact .inr (.inl (hx ho hm))
       ·exact .inr (.inr h)
      ·exact .inr (.inr (Ana x1.size h))
     have hidl:ids.length=(encode (cellsOf rs) outs y).heap.length:=by
      rw[← hids,AdI];unfold encode;rw[Ah1];simp[blank]
     obtain⟨FR,hFR,hRR⟩:∃ FR,((FR=F∧Ai e.frz fz=fz∧(encode (cellsOf rs) outs y).heap.all Qh=true)∨(FR=F3∧Ai e.frz fz=Ai fr fz))∧Ae w' FR m3 (encode (cellsOf rs) outs y).heap (encode (cellsOf rs) outs y).tmps (JB rs us):=by
      have hrt:Ae w' F3 m3 (encode (cellsOf rs) outs y).heap (encode (cellsOf rs) outs y).tmps (JB rs us):=by
       refine DV (by rw[Ng,q2]) fun i a u ha hu => ?_
       have:=invC.tmps i
       rw[AmW]at this
       have ha':(enc outs y (blank (cellsOf rs))).tmps[i]? = some a:=ha
       rw[ha',AmW,hu]at this
       exact this
      rcases hfl with⟨f1,f2,f3⟩|f1
      ·exact⟨F,.inl ⟨rfl,by rw[f1];rfl,f3⟩,Ae.flat _ f2 hrt⟩
      ·exact⟨F3,.inr ⟨rfl,by rw[f1]⟩,hrt⟩
     obtain⟨hgo,hmv⟩:=Ad1 (ids:=ids) (np:=np) hi gA (fun j id hj=>(start j id hj).2.elim fun _ h=>h.elim fun _ h=>h.2.2.2.2.2) hinj hpin hblk x1.os x1.tape x1.output x1.size hkeep (fun b h=>gC.1.sub b (x1.sub b h)) hbnd hiC1 (fun j o hj=>AJI invC hj) (fun j o hj=>OT hro hj) invC.frz hidl hok hnd hFR
     rw[hgv]at hgo hmv
     have hH:CN e H=A8 (ids.zip ((encode (cellsOf rs) outs y).heap.map (Dc ids))) (C7 gv H):=by rw[CE he1,he2,X0];rfl
     have hZ:F5 e fz=Ai e.frz fz:=CQ he1 fz
     have hpost:a'.defers=[]∧∃ v,(results fn a'.tmps).run P w' = .ok v w'∧(fun(en:Ending) (w':World)=>∃ u,en = .returned u∧∃ F' m',Ao w F m H fz w' F' m' (CN e H) (F5 e fz)∧Rep w' F' m' (CN e H) (single (GK rs (K6 ids (encode (cellsOf rs) outs y).tmps))) u) (.returned v) w':=by
      refine⟨s1.defers,_,r1,_,rfl,FR,mOf ids m3 m,?_,?_⟩
      ·rw[hH,hZ];exact hgo
      ·rw[hH]
       exact AHy (q3 _ _ _ _ _ (Ae.ren hmv _ hRR))
     rcases hex with rfl|rfl<;>exact hpost
end
end Go.Pev
end
section
namespace Go.Pev
open Go.RowKit
def LC:Code→Nat→Option Code
 |.seq a b,n=>match LC a n with
  |some c=>some c
  |none=>LC b (n-loops a)
 |.cond _ a b,n=>match LC a n with
  |some c=>some c
  |none=>LC b (n-loops a)
 |.block _ c,n=>LC c n
 |.loop c,n=>match n with
  |0=>some c
  |n+1=>LC c n
 |_,_=>none
def AQ(f:Func):Code:=match f.body with
 |some c=>c
 |none=>.skip
def AB(f:Func)(n:Nat):Code:=(LC (AQ f) n).getD .skip
def AD:Code→Nat→List (Nat×Code)
 |.seq a b,n=>AD a n++AD b (n+loops a)
 |.cond _ a b,n=>AD a n++AD b (n+loops a)
 |.block _ c,n=>AD c n
 |.loop c,n=>[(n,c)]
 |_,_=>[]
def AJa(P:Program)(np:Nat)(h:Hints):List (Nat×Code)→Prop
 |[]=>True
 |p::l=>AZ P np (.loop p.2) (h.loop p.1)∧AJa P np h l
theorem AJZ{P:Program}{np:Nat}{h:Hints}:∀ {a b:List (Nat×Code)},AJa P np h (a++b)→AJa P np h a∧AJa P np h b:=by
 intro a
 induction a with
 |nil=>exact fun h=>⟨trivial,h⟩
 |cons p a ih=>intro b h;exact⟨⟨h.1,(ih h.2).1⟩,(ih h.2).2⟩
theorem ATA{P:Program}{np:Nat}{h:Hints}:∀ (c:Code) (n:Nat),AJa P np h (AD c n)→DW P np h c n:=by
 intro c
 induction c with
 |seq a b iha ihb=>intro n hl;have:=AJZ hl;exact⟨iha n this.1,ihb _ this.2⟩
 |cond c a b iha ihb=>intro n hl;have:=AJZ hl;exact⟨iha n this.1,ihb _ this.2⟩
 |block id c ih=>intro n hl;exact ih n hl
 |loop c ih=>intro n hl;exact hl.1
 |_=>intro n _;trivial
theorem AA{P:Program}{np:Nat}{h:Hints}{c:Code}{n:Nat}{l:List (Nat×Code)}(e:AD c n=l)(a:AJa P np h l):DW P np h c n:=ATA c n (by rw[e];exact a)
def AW(P:Program)(E:Env):Prop:=(∀ g,AO P g (E.spec g))∧JL E
def Env.none:Env:={ spec:=fun _ _ _ _ _ _ _=>Option.none,loc:=fun _=>false,loc2:=fun _=>true }
theorem Env.ALx{P:Program}:AW P Env.none:=⟨fun g R args H fz slot k r h=>by simp[Env.none]at h,fun g h=>by simp[Env.none]at h,fun g _ R args H H' fz fz' slot k S _ _ _=>rfl⟩
def Env.ext(E:Env)(g:FuncId)(loc loc2:Bool)(s:Spec):Env where
 spec x:=match Nat.beq x g with
  |true=>s
  |false=>E.spec x
 loc x:=match Nat.beq x g with
  |true=>loc
  |false=>E.loc x
 loc2 x:=match Nat.beq x g with
  |true=>loc2
  |false=>E.loc2 x
theorem Env.Ac{P:Program}{E:Env}{g:FuncId}{loc loc2:Bool}{s:Spec}(h:AW P E)(hs:AO P g s)(hl:loc=true→Ha s)(hl2:loc2=true→Ov s):AW P (E.ext g loc loc2 s):=by
 refine⟨?_,?_,?_⟩
 ·intro x
  simp only[Env.ext]
  cases hx:Nat.beq x g with
  |true=>have:=Ang hx;subst this;exact hs
  |false=>exact h.1 x
 ·intro x hx
  simp only[Env.ext]at hx ⊢
  cases hb:Nat.beq x g with
  |true=>rw[hb]at hx;exact hl hx
  |false=>rw[hb]at hx;exact h.2.1 x hx
 ·intro x hx
  simp only[Env.ext]at hx ⊢
  cases hb:Nat.beq x g with
  |true=>rw[hb]at hx;exact hl2 hx
  |false=>rw[hb]at hx;exact h.2.2 x hx
section
variable {P:Program} {E:Env} {h:Hints} {g:FuncId} {fn:Func}
theorem ANO(hb:fn.body.isSome=true):fn.body=some (AQ fn):=by
 unfold AQ
 cases h:fn.body with
 |none=>rw[h]at hb;cases hb
 |some c=>rfl
theorem AG (hE : AW P E) (hf : P.funcs[g]? = some fn) (hb : fn.body.isSome = true) (hn : (fn.name == "runtime.NumGoroutine") = false)
  {np na:Nat} (hna:(Nat.ble na fn.ntmps)=true) {its outs:AE} {rs:List RS} {f:B6 (leaves its)→Option (B6 (leaves outs))} (hfun:∀ x,f x=AL np P E h fn its outs rs x) (hl:DW P np h (AQ fn) 0) :
  AO P g (AF np na its outs rs f):=
 AcY hE.1 hE.2 hf (ANO hb) (Nt hf hb hn) (Ao6 hna) hfun hl
theorem AiM (hE : AW P E) (hf : P.funcs[g]? = some fn) (hb : fn.body.isSome = true) (hn : (fn.name == "runtime.NumGoroutine") = false)
  {np na:Nat} (hna:(Nat.ble na fn.ntmps)=true) {its:AE} {os:Ap} {rs:List RS} {f:B6 (leaves its)→Option (PE os)} (hfun:∀ x,f x=AVX np P E h fn its os rs x) (hl:DW P np h (AQ fn) 0) :
  AO P g (ARC np na its os rs f):=by
 intro R args H fz slot k r hk
 simp only[ARC]at hk
 split at hk
 ·cases hk
 ·rename_i x bs fr hdec
  split at hk
  ·cases hk
  ·rename_i hchk
   split at hk
   ·cases hk
   ·rename_i y hy
    have pick:∀ (os':Ap) (y':PE os') (R:Type) (k:AV→Eff→Option R) (r:R),GU R np bs fr rs slot H fz k os' y'=some r→∃ (o:Exit×AE) (d:B6 (leaves o.2)),H0 o.2=true ∧
      (∀ R' (k':AV→Eff→Option R'),GU R' np bs fr rs slot H fz k' os' y'=Jz R' (given (bs.drop np)) (bs.take np) fr rs (encode (cellsOf rs) o.2 d) (Cf (C5 o.2) (bs.take np) slot) H fz k') ∧
      ∀ st,HU np P fn rs st os'=some y'→finish np P fn o.2 rs st=some d:=by
     intro os'
     induction os' with
     |nil=>intro y' R k r h;simp[GU]at h
     |cons o os' ih=>
      intro y' R k r h
      cases y' with
      |inl d=>
       simp only[GU]at h
       split at h
       ·rename_i hno
        refine⟨o,d,hno,fun R' k'=>by simp only[GU,hno],fun st hst => ?_⟩
        simp only[HU]at hst
        split at hst
        ·rename_i d' hd'
         simp only[AmT,Sum.inl.injEq]at hst
         rw[hd',hst]
        ·split at hst<;>simp at hst
       ·cases h
      |inr y'=>
       simp only[GU]at h
       obtain⟨o',d,q1,q2,q3⟩:=ih y' R k r h
       refine⟨o',d,q1,fun R' k'=>by simp only[GU];exact q2 R' k',fun st hst => ?_⟩
       simp only[HU]at hst
       split at hst
       ·simp at hst
       ·split at hst
        ·rename_i x' hx'
         simp only[AmT,Sum.inr.injEq]at hst
         exact q3 st (by rw[hx',hst])
        ·cases hst
    obtain⟨o,d,hno,hback,hfin⟩:=pick os y R k r hk
    have hcall:AL np P E h fn its o.2 rs x=some d:=by
     rw[hfun x]at hy
     unfold AVX at hy
     unfold AL
     rw[ANO hb]at hy ⊢
     simp only at hy ⊢
     obtain⟨ex,st',g1,g2,_⟩:=K8 hE.1 hE.2 (AQ fn) 0 hl _ _ _ _ hy
     refine(g2 _ _).trans ?_
     cases ex with
     |normal=>exact hfin st' g1
     |ret=>exact hfin st' g1
     |_=>simp at g1
    have hs:=AG hE hf hb hn hna (its:=its) (outs:=o.2) (rs:=rs) (f:=AL np P E h fn its o.2 rs) (fun _=>rfl) hl
    simp only[AmX]at hchk
    have hsame:∀ R' (k':AV→Eff→Option R'),AF np na its o.2 rs (AL np P E h fn its o.2 rs) R' args H fz slot k'=GU R' np bs fr rs slot H fz k' os y:=by
     intro R' k'
     rw[hback R' k']
     simp only[AF,hdec,hchk.1.1.1,hchk.1.1.2,hchk.1.2,hchk.2,hno,Anz,hcall]
    obtain⟨v,e,h1,h2,h3,h4⟩:=hs R args H fz slot k r (by rw[hsame];exact hk)
    refine⟨v,e,h1,fun R' k' => ?_,h3,h4⟩
    simp only[ARC,hdec,hchk.1.1.1,hchk.1.1.2,hchk.1.2,hchk.2,Anz,hy]
    rw[← hsame R' k']
    exact h2 R' k'
theorem Cs (hE : AW P E) (hf : P.funcs[g]? = some fn) (hb : fn.body.isSome = true) (hn : (fn.name == "runtime.NumGoroutine") = false) (hl : loops (AQ fn) = 0) : AO P g (DJ P E h fn) :=
 ARB hE.1 hE.2 hf (ANO hb) (Nt hf hb hn) hl
theorem AT{h':Hints}(hE:AW P E){np nt n:Nat}{body:Code}{its:AE}{os:Ap}{stp:B6 (leaves its)→Option (B6 (leaves its)⊕PE os)}
  (hstep:∀ v,stp v=roundOf P E h' n np nt body its os v) (hl:DW P np h' body n):AZ P np (.loop body) (Aa np nt its os stp):=Acv hE.1 hE.2 hstep hl
def AI7:AE→Bool
 |[]=>true
 |(.tmp _,.dat _)::r=>AI7 r
 |_::_=>false
theorem Adn{H H':List Ob}{tm:List AV}(ha:∀ id∈BF tm,H[id]? = H'[id]?):∀ (its:AE) (fz fz':List Bool),AI7 its=true→dec tm H its fz []=dec tm H' its fz' []:=by
 intro its
 induction its with
 |nil=>intro fz fz' _;rfl
 |cons p r ih=>
  intro fz fz' hd
  obtain⟨l,c⟩:=p
  cases l<;>cases c<;>simp only[AI7]at hd<;>try (cases hd;done)
  rename_i t ty
  simp only[dec,look]
  cases hv:tm[t]? with
  |none=>rfl
  |some v=>
   have hsub:∀ id∈Am v,H[id]? = H'[id]? := fun id hid=>ha id (by
    clear ih hd ha
    induction tm generalizing t with
    |nil=>simp at hv
    |cons a tm iht=>
     cases t with
     |zero=>simp at hv;subst hv;simp[BF,hid]
     |succ t=>simp only[BF,AmY];exact .inr (iht t (by simpa using hv)))
   simp only
   rw[Yn ty v hsub]
   cases Yo H' ty v with
   |none=>rfl
   |some q=>
    obtain⟨x,f⟩:=q
    simp only
    have hfr:f.all (fresh? [])=true:=by simp[fresh?]
    rw[hfr]
    simp only
    rw[ih (Ai f fz) (Ai f fz') hd]
theorem AdG:∀ (n slot:Nat),Cf n [] slot=List.range' slot n:=by
 intro n
 induction n with
 |zero=>intro slot;rfl
 |succ n ih=>intro slot;simp only[Cf,Apc];rw[ih]
theorem Yc{H H':List Ob}{fz fz':List Bool}:∀ (ids:List Nat),(∀ i∈ids,Au H fz i=Au H' fz' i)→FP H fz ids []=FP H' fz' ids []:=by
 intro ids
 induction ids with
 |nil=>intro _;rfl
 |cons a ids ih=>
  intro h
  simp only[FP,List.tail_nil]
  rw[h a (by simp),ih fun i hi=>h i (by simp[hi])]
theorem AXn{H:List Ob}{tm:List AV}:∀ (its:AE) (fz:List Bool) (bs:List Bnd) (x:B6 (leaves its)) (bs':List Bnd) (fr:List Nat),AI7 its=true→dec tm H its fz bs=some (x,bs',fr)→bs'=bs:=by
 intro its
 induction its with
 |nil=>intro fz bs x bs' fr _ h;simp only[dec,AmT]at h;cases h;rfl
 |cons p r ih=>
  intro fz bs x bs' fr hd h
  obtain⟨l,c⟩:=p
  cases l<;>cases c<;>simp only[AI7]at hd<;>try (cases hd;done)
  simp only[dec]at h
  split at h
  ·split at h
   ·split at h
    ·split at h
     ·rename_i xs bs1 g hdd
      simp only[AmT]at h
      cases h
      exact ih _ _ _ _ _ hd hdd
     ·cases h
    ·cases h
   ·cases h
  ·cases h
theorem AI{np na:Nat}{its outs:AE}{rs:List RS}{f:B6 (leaves its)→Option (B6 (leaves outs))}(hd:AI7 its=true)(hn:Nat.ble (C5 outs) 4=true):Ha (AF np na its outs rs f):=by
 intro R args H H' fz fz' slot k ha
 unfold AF
 rw[Adn ha.heap its fz fz' hd]
 split
 ·rfl
 ·rename_i x bs fr hdec
  have hbs:=AXn its fz' [] x bs fr hd hdec
  subst hbs
  split
  ·rfl
  ·split
   ·rfl
   ·rename_i y hy
    simp only[List.take_nil,List.drop_nil]
    have hfree:∀ (g:List Nat) (i:Nat),i∈Cf (C5 outs) [] slot→Au H (Ai g fz) i=Au H' (Ai g fz') i:=by
     intro g i hi
     rw[AdG,List.mem_range'_1]at hi
     have:=Ao6 hn
     exact Dx ha hi.1 (by omega) g
    unfold Jz
    rw[show FP H fz (Cf (C5 outs) [] slot) []=FP H' fz' (Cf (C5 outs) [] slot) []from Yc _ (hfree []),Yc _ (hfree fr)]
end
end Go.Pev
end
section
namespace Go.Pev
open Go.RowKit
def Lt{α:Type}(xs:List α):Option (List α):=match PT (AK xs)with
 |true=>some xs
 |false=>none
def Qs[Lk]{α:Type}(xs:List α):Option (List α):=Lk.f (Lt xs)
theorem AI8{α:Type}(xs:List α):Qs xs=Lt xs:=AJ _
noncomputable def HV(e:TypeId)(t:Ty):Spec:=fun R args H fz slot k=>
 match args with
 |[x]=>match Ea H (.slice t) x with
  |some (xs,_)=>match(Qs xs:Option (List t.den))with
   |none=>none
   |some y=>(match Au H fz slot with|true=>k (.own slot) { objs:=[(slot,.arr e t y)] }|false=>none)
  |none=>none
 |_=>none
def ADT:Code→Nat→List Oper
 |.region id ops _,n=>if id=n then ops.toList else []
 |.seq a b,n=>ADT a n++ADT b n
 |.cond _ a b,n=>ADT a n++ADT b n
 |.block _ c,n=>ADT c n
 |.loop c,n=>ADT c n
 |_,_=>[]
def Bc(fn:Func)(n i:Nat):Oper:=((ADT (AQ fn) n)[i]?).getD default
structure AGI(P:Program)(fn:Func)(T e:TypeId)(t:Ty):Prop where
 body:fn.body=some (.seq (.region 0 #[Bc fn 0 0] false) (.seq (.seq (.region 1 #[Bc fn 1 0,Bc fn 1 1] false) (.cond (.tmp 4) (.seq (.region 2 #[Bc fn 2 0] false) .ret) .skip)) (.seq (.region 3 #[Bc fn 3 0,Bc fn 3 1,Bc fn 3 2,Bc fn 3 3] false) .ret)))
 nt:fn.ntmps=8
 res:fn.results = #[.tmp 2]
 d:(Bc fn 0 0).dst=some 2∧(Bc fn 1 0).dst=some 3∧(Bc fn 1 1).dst=some 4∧(Bc fn 2 0).dst=some 2∧(Bc fn 3 0).dst=some 5∧(Bc fn 3 1).dst=some 6∧(Bc fn 3 2).dst=some 7∧(Bc fn 3 3).dst=some 2
 g:(Bc fn 0 0).guard=none∧(Bc fn 1 0).guard=none∧(Bc fn 1 1).guard=none∧(Bc fn 2 0).guard=none∧(Bc fn 3 0).guard=none∧(Bc fn 3 1).guard=none∧(Bc fn 3 2).guard=none∧(Bc fn 3 3).guard=none
 o00:(Bc fn 0 0).op = .assign (.const (.slice none 0 0))
 o10:(Bc fn 1 0).op = .move (.tmp 0)
 o11:(Bc fn 1 1).op = .binOp .eql T (.tmp 3) (.const (.slice none 0 0)) T
 o20:(Bc fn 2 0).op = .assign (.const (.slice none 0 0))
 o30:(Bc fn 3 0).op = .buildSlice T 0 #[]
 o31:(Bc fn 3 1).op = .move (.tmp 0)
 o32:(Bc fn 3 2).op = .call { callee:=.builtin .append,args:=#[.tmp 5,.tmp 6],argTypes:=#[T,T] }
 o33:(Bc fn 3 3).op = .assign (.tmp 7)
 sl:sliceAt P T=some (e,t)
 z:(zeroAt P e).isSome=true
 by1:(P.info? e).map (fun i=>decide (i.bytes≤1024))=some true
section
variable {P:Program} {g:FuncId}
theorem Gd{ops:Array Oper}{Q:Exit→Act→World→Prop}{i:Nat}{rest:List Nat}{a:Act}{w:World}{o:Oper}(ho:ops[i]? = some o)(hg:o.guard=none)(h:o.wp P a w (wpOps P ops Q rest) Q):wpOps P ops Q (i::rest) a w:=by
 simp only[wpOps,ho]
 rw[Amk (by simp[Region.wanted,hg])]
 exact .inl h
theorem Ge{o:Oper}{a:Act}{w w':World}{next:Act→World→Prop}{Q:Exit→Act→World→Prop}{u:Value}(h:(execOp a.eval o).run P w = .ok (.value u) w')(hn:next (a.put o.dst u) w'):o.wp P a w next Q:=by
 unfold Oper.wp;rw[h];exact hn
variable {fn:Func} {T e:TypeId} {t:Ty}
theorem AI2{P:Program}{w:World}{ρ:Operand→Value}{o:Oper}{x:Operand}(h:o.op = .move x):(execOp ρ o).run P w = .ok (.value (ρ x)) w:=by simp[execOp,h]
theorem Nd{P:Program}{w:World}{ρ:Operand→Value}{o:Oper}{x:Operand}(h:o.op = .assign x):(execOp ρ o).run P w = .ok (.value (ρ x)) w:=by simp[execOp,h]
theorem AiE (hs : AGI P fn T e t) (hf : P.funcs[g]? = some fn) (hn : (fn.name == "runtime.NumGoroutine") = false) : AO P g (HV e t) := by
 intro R args H fz slot k r hk
 unfold HV at hk
 split at hk
 ·rename_i x
  split at hk
  ·rename_i xs fr hx
   split at hk
   ·cases hk
   ·rename_i y hy
    split at hk
    ·rename_i hfree
     refine⟨_,_,hk,fun R' k'=>by simp only[HV,hx,hy,hfree],Nt hf (by rw[hs.body];rfl) hn,fun w F m vals hi hr => ?_⟩
     rw[AI8]at hy
     unfold Lt at hy
     split at hy
     ·rename_i hfit
      simp only[AmT]at hy;subst hy
      have hr0:=hr
      unfold Ae at hr
      obtain⟨v,vs',rfl,hrv,hnil⟩:=hr
      unfold Ae at hnil;subst hnil
      obtain⟨hu,hty0,hpos⟩:=Br hs.sl
      obtain⟨zz,hzz⟩:=Anr.1 hs.z
      obtain⟨t',cs'⟩:=zz
      obtain⟨hty',hcs',i,z,hi0,hz0,hok,hsz,hza⟩:=Bm hzz
      subst hcs'
      have:t'=t:=by rw[hty0]at hty';exact(AnX hty').symm
      subst this
      have hzs:z.cells.size=i.size:=by
       have hzd:=Bb (w:=default) (F:=fun _=>False) t' _ hok
       rw[hsz,← Aml];exact Dat.length t' hzd
      have hby':i.bytes≤1024:=by simpa [hi0]using hs.by1
      obtain⟨A,c,rfl,q2,q3,news,q4,q5⟩:=Dl hi hx hrv
      have hfit':xs.length≤4294967296:=by
       have:(xs.length:Int)≤4294967296:=(Wk _).1 hfit
       omega
      refine calls_of_wp hf hs.body ?_
      obtain⟨d0,d1,d2,d3,d4,d5,d6,d7⟩:=hs.d
      obtain⟨g0,g1,g2,g3,g4,g5,g6,g7⟩:=hs.g
      have hres:∀ (tm:Array Value) (w0:World),(results fn tm).run P w0 = .ok (tm.getD 2 undef) w0:=fun tm w0=>by simp[results,hs.res]
      refine wp_seq (wp_region ?_)
      simp only[Anv,Amb,Amw,Anp,List.range_zero,Am5]
      refine Gd (by rfl) g0 (Ge (Nd hs.o00) ?_)
      refine wp_seq (wp_seq (wp_region ?_))
      simp only[Anv,Amb,Amw,Anp,List.range_zero,Am5,Amy]
      refine Gd (by rfl) g1 (Ge (AI2 hs.o10) ?_)
      refine Gd (by rfl) g2 (Ge (u:=.bool A.isNone) (w':=w) (by simp[execOp,hs.o11,Act.eval,Act.put,d0,d1,hs.nt,eqGuard,Lib.run_eql_slice_nil _ _ _ _ _ _ _ _ hu]) ?_)
      cases A with
      |none=>
       have hxs:xs=[]:=by
        cases xs with
        |nil=>rfl
        |cons a b=>exact absurd (q3 (by simp)) (by simp)
       subst hxs
       refine wp_cond_true (by simp[Act.eval,Act.put,d0,d1,d2,hs.nt]) ?_
       refine wp_seq (wp_region ?_)
       simp only[Anv,Amb,Amw,Anp,List.range_zero,Am5]
       refine Gd (by rfl) g3 (Ge (Nd hs.o20) ?_)
       refine wp_ret ?_
       refine⟨by simp[Act.put,d0,d1,d2,d3],_,hres _ _,?_⟩
       obtain⟨m',hg,hrep⟩:=Dg (w:=w) hi hfree e hpos none
       refine⟨_,rfl,F,m',hg,?_⟩
       show Rep _ _ _ (H.set slot _) _ _
       simpa [Act.put,Act.eval,d0,d1,d2,d3,hs.nt]using hrep
      |some ad=>
       refine wp_cond_false (by simp[Act.eval,Act.put,d0,d1,d2,hs.nt]) ?_
       refine wp_skip ?_
       refine wp_seq (wp_region ?_)
       simp only[Anv,Amb,Amw,Anp,List.range_zero,Am5,Amy]
       refine Gd (by rfl) g4 (Ge (u:=.slice (some ⟨w.heap.size,0,none⟩) 0 0) (w':=w.alloc (.cells #[] e)) (by
        have:=Hr (P:=P) (w:=w) (len:=0) (parts:=#[]) (us:=#[]) hu hi0 hz0 hsz (by omega) (by simp[Instr.fill])
        simp[execOp,hs.o30,this]) ?_)
       refine Gd (by rfl) g5 (Ge (AI2 hs.o31) ?_)
       have hga:=Ao.grow (w':=w.alloc (.cells #[] e)) hi rfl rfl rfl (by simp) (fun b hb=>Below.heap_alloc w _ b hb)
       obtain⟨v,w',m',hrun,hg,hrep⟩:=FL (P:=P) (T:=T) (ty:=(Bc fn 3 2).type) hga.2 hfree hu hi0 hz0 hzs hsz hpos hby' hfit' (some ⟨w.heap.size,0,none⟩) (A:=some ad) (c:=c) (ys:=xs) (news:=news) (fun _=>rfl)
        (BK (fun x _ cs hx=>hx.mono (fun a ha=>by simp[World.cell?,Below.heap_alloc w _ _ (hi.lt _ ha)]) (fun _ h=>h) t') q4) (fun ad' h j u hu'=>by
         have:=q5 ad' h j u hu'
         exact Lib.cell?_alloc_some _ this)
       refine Gd (by rfl) g6 (Ge (u:=v) (w':=w') (by
        simp[execOp,hs.o32,resolve,invoke,builtin,Act.eval,Act.put,d0,d1,d2,d4,d5,hs.nt,hrun]) ?_)
       refine Gd (by rfl) g7 (Ge (Nd hs.o33) ?_)
       refine wp_ret ?_
       refine⟨by simp[Act.put,d0,d1,d2,d4,d5,d6,d7],_,hres _ _,?_⟩
       refine⟨_,rfl,F,m',hga.trans hg,?_⟩
       show Rep _ _ _ (H.set slot _) _ _
       simpa [Act.put,Act.eval,d0,d1,d2,d4,d5,d6,d7,hs.nt]using hrep
     ·cases hy
    ·cases hk
  ·cases hk
 ·cases hk
theorem MX(e:TypeId)(t:Ty):Ha (HV e t):=by
 intro R args H H' fz fz' slot k ha
 unfold HV
 cases args with
 |nil=>rfl
 |cons x r=>cases r with
  |cons y r=>rfl
  |nil=>
   simp only
   rw[Bq (.slice t) x fun id hid=>ha.heap id (by simpa [BF]using hid)]
   have:=Dx ha (s:=slot) (Amd _) (by omega) []
   simp only[Ai]at this
   rw[this]
end
end Go.Pev
end
section
namespace Go.Pev
noncomputable section
attribute [local irreducible] PT Li QX PH AhN AhO AhP UU ACC ZK AGT Lt AY many IntKind.wrap AK BA Ab A2 Bn DP EB AN Bk CJ imax AP Af
abbrev U0:Ty:=(.int .i64)
abbrev U1:=(Int×Int×Unit)
abbrev U2:Ty:=(.prod U0 (.prod U0 .unit))
abbrev U3:Ty:=(.slice U0)
abbrev U4:=(List Int)
abbrev U5:Ty:=(.slice (.prod U0 (.prod U0 (.prod U0 (.prod .bool .unit)))))
abbrev U6:=(Int×Int×Int×Bool×Unit)
abbrev U7:=(List U4×Int×Int×Int×Unit)
abbrev U8:=(List U1×Int×Int×Int×Unit)
abbrev U9:=(Int×Unit)
abbrev Ua:=(Int×(List U1))
abbrev Ub:Ty:=(.slice U3)
abbrev Uc:=(Int×Int)
abbrev Ud:=(List U4×Int×Int×Unit)
abbrev Ue:=(List U1×Int×Int×Unit)
abbrev Uf:=(Bool×Unit)
abbrev Ug:Ty:=(.slice U2)
abbrev Uh:=(List U1×Unit)
abbrev Ui:Ty:=(.prod U0 (.prod Ub .unit))
abbrev Uj:=(List U4×Int×Int×Int×Int×Unit)
abbrev Uk:=(List U1×Int×Int×Int×Int×Unit)
abbrev Ul:=(Int×(List U4)×Unit)
abbrev Um:=(Int×(List U6)×Unit)
abbrev Un:Ty:=(.prod U0 (.prod U5 .unit))
abbrev Uo:=(List U4×Unit)
abbrev Up:=(List Int×Unit)
abbrev Uq:=(List Int×Int×Int×Unit)
abbrev Ur:=(List U4×Int×Int×Int×Int×Int×Unit)
abbrev Us:=(List U1×Int×Int×Int×Int×Int×Unit)
abbrev Ut:=(Int×List U4×List Bool×Int×Int×Int×List Int×Int×List Int×Int×Bool×Int×List Int×Bool×Bool×List Int×List Int×List U4×List Int×List U4×Bool×Bool×List Int×Int×Int×Bool×Unit)
abbrev Uu:=(Int×List U4×List Uc×Int×List U4×Int×Int×List Int×Int×Int×Bool×List Int×Bool×Bool×List Int×Int×List Int×Int×Bool×Int×List Int×Bool×Bool×List Int×Int×Int×Unit)
abbrev Uv:=(Int×List Int×Int×List Int×Int×Bool×Bool×Bool×Bool×Int×Int×Bool×Int×Int×Int×Int×Int×Bool×Int×Int×Int×Int×Int×Int×Int×Int×Int×Bool×Unit)
abbrev Uw:=(List Int×Int×List Int×List Uc×List Ua×Int×Int×Unit)
abbrev Ux:=(List U1×Int×List Int×List Uc×List Ua×Int×Int×Unit)
abbrev Uy:=(Int×List Int×List Uc×List Ua×Int×Unit)
abbrev Uz:=(List Int×Int×Unit)
abbrev V0:=(Int×List Int×List Uc×List Ua×List (U1×Int)×List U1×List Int×Int×Int×Unit)
abbrev V1:=(List Int×Int×List Int×List Uc×List Ua×Int×Unit)
abbrev V2:=(List U1×Int×List Int×List Uc×List Ua×Int×Unit)
abbrev V3:Ty:=(.prod U3 (.prod U3 (.prod Ub .unit)))
abbrev V4:=(Int×List U4×Int×Unit)
abbrev V5:=(List Int×Int×List Int×List Int×List U4×List Int×Int×Int×Unit)
abbrev V6:=(Um×Int×Int×Unit)
abbrev V7:=(List U1×Int×List Int×List Uc×List Ua×Unit)
abbrev V8:=(List Int×List Int×List Int×Int×Int×Unit)
abbrev V9:=(List U4×Int×Unit)
abbrev Va:=(Int×Int×List Int×List Uc×List Ua×Int×Int×Int×Bool×List U6×Int×Int×Int×Int×Bool×List Int×Int×Unit)
abbrev Vb:=(U4×U4×(List U4)×Unit)
abbrev Vc:=(List Int×List Int×Unit)
abbrev Vd:=(List U1×Int×Unit)
abbrev Ve:=(Int×List Int×List Uc×List Ua×List (U1×Int)×List U1×List Int×Int×Int×List U1×Int×Int×Unit)
abbrev Vf:=(Int×Int×List U6×Bool×Int×Int×Int×Int×List Int×Int×Bool×Int×Int×Int×Int×Int×Unit)
abbrev Vg:=(Ul×Int×Unit)
abbrev Vh:=(List Int×List Int×List U4×Int×List Int×List Uc×List Ua×List Bool×List Int×Int×Int×Unit)
abbrev Vi:=(Int×List Int×List U4×List U4×Int×Int×Unit)
abbrev Vj:=(List Int×Int×List Int×List Uc×List Ua×Unit)
abbrev Vk:=(List Int×Int×List Int×List Int×List U4×List Int×Int×Int×Int×Int×Int×Unit)
abbrev Vl:=(Int×Int×List U6×Int×List Int×List Uc×List Ua×List Int×Int×Int×Unit)
abbrev Vm:Ty:=(.prod U0 (.prod U0 (.prod U0 (.prod .bool .unit))))
abbrev Vn:=(Bool×Int×Int×Int×Int×Int×List Int×List Uc×List Ua×List Int×Unit)
abbrev AD4:AE:=[(.tmp 0,.dat U3),(.tmp 1,.dat U3)]
abbrev AD3:AE:=[(.tmp 0,.dat .bool)]
abbrev AD2:List RS:=[.one]
abbrev AIq:AE:=[(.tmp 0,.dat U3),(.tmp 1,.dat U3),(.tmp 5,.di)]
abbrev AIp:Ap:=[(.ret,[(.tmp 4,.dat .bool)]),(.exit 0,[])]
def Es[Lk]:(List Int×List Int×Int×Unit)→Option ((List Int×List Int×Int×Unit)⊕Uf⊕(Unit)⊕Unit):=fun(a0,a1,a2,_)=>
 match(ilt a2 (AK a0))with
 |true=>match idx a0 a2 with|none=>none|some x0=>match idx a1 a2 with|none=>none|some x1=>match(!(ieq x0 x1))with
  |true=>some (.inr (.inl (false,())))
  |false=>some (.inl (a0,a1,(IntKind.wrap .i64 (a2+1)),()))
 |false=>some (.inr (.inr (.inl ())))
def R2[Lk]:Vc→Option (Uf):=fun(a0,a1,_)=>
 match(!(ieq (AK a0) (AK a1)))with
 |true=>some (false,())
 |false=>match AX Es many (a0,a1,0,())with|none=>none|some r=>match r with
 |.inl (o0,_)=>some (o0,())
 |.inr r=>match r with
 |.inl _=>some (true,())
 |.inr _=>none
def LV[Lk]:=fun v=>Lk.f (R2 v)
theorem AIr v:LV v=R2 v:=AJ _
abbrev AAq:AE:=[(.tmp 0,.di)]
abbrev AAp:AE:=[(.tmp 0,.dat .bool)]
abbrev AAo:List RS:=[.one]
def RQ[Lk]:U9→Option (Uf):=fun(a0,_)=>
 match(ile 1 a0)with
 |true=>some ((ile a0 64),())
 |false=>some (false,())
def Mn[Lk]:=fun v=>Lk.f (RQ v)
theorem AHZ v:Mn v=RQ v:=AJ _
abbrev Ae6:AE:=[(.tmp 0,.di),(.tmp 1,.di)]
abbrev Ae5:AE:=[(.tmp 0,.dat .bool)]
abbrev Ae4:List RS:=[.one]
def AYl[Lk]:U1→Option (Uf):=fun(a0,a1,_)=>
 match Mn (a0,())with|none=>none|some (y0,_)=>match y0 with
 |true=>match(ile 0 a1)with
  |true=>some ((ilt a1 a0),())
  |false=>some (false,())
 |false=>some (false,())
def tin[Lk]:=fun v=>Lk.f (AYl v)
theorem Ae7 v:tin v=AYl v:=AJ _
abbrev ATs:AE:=[(.tmp 0,.di),(.tmp 1,.di),(.tmp 2,.di)]
abbrev ATr:AE:=[(.tmp 0,.di)]
abbrev ATq:List RS:=[.one]
def AKK[Lk]:(Int×Int×Int×Unit)→Option (U9):=fun(a0,a1,a2,_)=>
 match(ieq a1 a2)with
 |true=>some ((-1:Int),())
 |false=>match tin (a0,a1,())with|none=>none|some (y0,_)=>match(!y0)with
 |true=>some ((-1:Int),())
 |false=>match tin (a0,a2,())with|none=>none|some (y1,_)=>match(!y1)with
 |true=>some ((-1:Int),())
 |false=>some ((IntKind.wrap .i64 ((IntKind.wrap .i64 (a0*(IntKind.wrap .i64 (a1+1))))+a2)),())
def Aaz[Lk]:=fun v=>Lk.f (AKK v)
theorem AYm v:Aaz v=AKK v:=AJ _
abbrev AAm:AE:=[(.tmp 0,.di),(.tmp 1,.di)]
abbrev AAl:AE:=[(.tmp 0,.di),(.tmp 1,.di),(.tmp 2,.dat .bool),(.tmp 3,.dat .bool)]
abbrev AAk:List RS:=[.one,.one,.one,.one]
def RP[Lk]:U1→Option ((Int×Int×Bool×Bool×Unit)):=fun(a0,a1,_)=>
 match Mn (a0,())with|none=>none|some (y0,_)=>match(!y0)with
 |true=>some (0,0,false,false,())
 |false=>match(ilt a1 0)with
 |true=>some (0,0,false,false,())
 |false=>match(ile (IntKind.wrap .i64 (a0*(IntKind.wrap .i64 (a0+1)))) a1)with
 |true=>some (0,0,false,false,())
 |false=>match(ilt a1 a0)with
 |true=>some (a1,0,false,true,())
 |false=>match quo? .i64 a1 a0 with|none=>none|some x1=>match rem? a1 a0 with|none=>none|some x2=>match(ieq (IntKind.wrap .i64 (x1-1)) x2)with
 |true=>some (0,0,false,false,())
 |false=>some ((IntKind.wrap .i64 (x1-1)),x2,true,true,())
def AAn[Lk]:=fun v=>Lk.f (RP v)
theorem AHY v:AAn v=RP v:=AJ _
abbrev AKE:AE:=[(.tmp 0,.di)]
abbrev AKD:AE:=[(.tmp 0,.di),(.tmp 1,.own 43 U3),(.tmp 2,.di)]
abbrev AKC:List RS:=[.agg 2,.one]
abbrev AOh:AE:=[(.tmp 2,.box 2),(.cell 0 0,.di),(.cell 0 1,.nil U3),(.tmp 4,.box 2),(.cell 1 0,.di),(.cell 1 1,.own 43 U3),(.tmp 12,.di),(.tmp 13,.di)]
abbrev AOg:Ap:=[(.exit 0,[(.tmp 2,.box 2),(.cell 0 0,.di),(.cell 0 1,.nil U3),(.tmp 4,.box 2),(.cell 1 0,.di),(.cell 1 1,.own 43 U3)])]
def Hl[Lk]:(Int×Int×List U4×Int×Int×Unit)→Option ((Int×Int×List U4×Int×Int×Unit)⊕(Int×Int×List U4×Unit)⊕Unit):=fun(a0,a1,a2,a3,a4,_)=>
 match(ilt a4 a3)with
 |true=>match(fits ((AK a2)+(AK ([([a4]:List (Int))]:List U4))))with
  |true=>some (.inl (a0,a1,(A2 a2 ([([a4]:List (Int))]:List U4)),a3,(IntKind.wrap .i64 (a4+1)),()))
  |false=>none
 |false=>some (.inr (.inl (a0,a1,a2,())))
def Zx[Lk]:U9→Option (V4):=fun(a0,_)=>
 match Mn (a0,())with|none=>none|some (y0,_)=>match(!y0)with
 |true=>some (0,([]:List U4),1,())
 |false=>match AX Hl many (0,a0,([]:List U4),a0,0,())with|none=>none|some r=>match r with
 |.inl (o1,o2,o3,_)=>some (o2,o3,0,())
 |.inr _=>none
def AOj[Lk]:=fun v=>Lk.f (Zx v)
theorem AOi v:AOj v=Zx v:=AJ _
abbrev AEB:AE:=[(.tmp 0,.dat U3),(.tmp 1,.di)]
abbrev AEA:AE:=[(.tmp 0,.di)]
abbrev AD9:List RS:=[.one]
abbrev AIu:AE:=[(.tmp 0,.dat U3),(.tmp 1,.di),(.tmp 7,.di),(.tmp 8,.di)]
abbrev AIt:Ap:=[(.ret,[(.tmp 4,.di)]),(.exit 0,[])]
def Fi[Lk]:(List Int×Int×Int×Int×Unit)→Option ((List Int×Int×Int×Int×Unit)⊕U9⊕(Unit)⊕Unit):=fun(a0,a1,a2,a3,_)=>
 match(ilt a3 a2)with
 |true=>match idx a0 a3 with|none=>none|some x0=>match(ieq a1 x0)with
  |true=>some (.inr (.inl (a3,())))
  |false=>some (.inl (a0,a1,a2,(IntKind.wrap .i64 (a3+1)),()))
 |false=>some (.inr (.inr (.inl ())))
def R4[Lk]:Uz→Option (U9):=fun(a0,a1,_)=>
 match AX Fi many (a0,a1,(AK a0),0,())with|none=>none|some r=>match r with
 |.inl (o0,_)=>some (o0,())
 |.inr r=>match r with
 |.inl _=>some ((-1:Int),())
 |.inr _=>none
def QW[Lk]:=fun v=>Lk.f (R4 v)
theorem AIv v:QW v=R4 v:=AJ _
abbrev Nn:AE:=[(.tmp 0,.dat U3),(.tmp 1,.di)]
abbrev Nm:AE:=[(.tmp 0,.dat .bool)]
abbrev Nl:List RS:=[.one]
def JG[Lk]:Uz→Option (Uf):=fun(a0,a1,_)=>
 match QW (a0,a1,())with|none=>none|some (y0,_)=>some ((ile 0 y0),())
def Fw[Lk]:=fun v=>Lk.f (JG v)
theorem SZ v:Fw v=JG v:=AJ _
abbrev AWP:AE:=[(.tmp 0,.dat U3)]
abbrev AWO:AE:=[(.tmp 0,.di)]
abbrev AWN:List RS:=[.one]
abbrev AZa:AE:=[(.tmp 0,.dat U3),(.tmp 3,.di),(.tmp 4,.di)]
abbrev AZZ:Ap:=[(.exit 0,[(.tmp 3,.di)])]
def LI[Lk]:Uq→Option (Uq⊕U9⊕Unit):=fun(a0,a1,a2,_)=>
 match(ilt a2 (AK a0))with
 |true=>match idx a0 a2 with|none=>none|some x0=>some (.inl (a0,(CJ a1 x0),(IntKind.wrap .i64 (a2+1)),()))
 |false=>some (.inr (.inl (a1,())))
def AL0[Lk]:Up→Option (U9):=fun(a0,_)=>
 match(ilt (AK a0) 1)with
 |true=>none
 |false=>match idx a0 0 with|none=>none|some x0=>match AX LI many (a0,x0,1,())with|none=>none|some r=>match r with
 |.inl (o1,_)=>some (o1,())
 |.inr _=>none
def Acb[Lk]:=fun v=>Lk.f (AL0 v)
theorem AZb v:Acb v=AL0 v:=AJ _
abbrev AMh:AE:=[(.tmp 0,.nil U0),(.tmp 1,.di)]
abbrev AMg:AE:=[(.tmp 0,.own 3 U0)]
abbrev AMf:List RS:=[.one]
def AAA[Lk]:U9→Option (Up):=fun(a0,_)=>
 match(ilt a0 0)with
 |true=>none
 |false=>match(ilt 0 (IntKind.wrap .i64 (a0-(IntKind.wrap .i64 (0-0)))))with
 |true=>match CM ([]:List Unit) 0 0 with|none=>none|some _u0=>match(FQ (IntKind.wrap .i64 (a0-(IntKind.wrap .i64 (0-0)))))with
  |true=>match CM (EB (AN (IntKind.wrap .i64 (a0-(IntKind.wrap .i64 ((0:Int)-(0:Int)))))) (0:Int)) (0:Int) (0:Int)with|none=>none|some x1=>some ((Bn (AN (AK x1)) (EB (AN (IntKind.wrap .i64 (a0-(IntKind.wrap .i64 ((0:Int)-(0:Int)))))) (0:Int))),())
  |false=>none
 |false=>some (([]:List (Int)),())
def AR3[Lk]:=fun v=>Lk.f (AAA v)
theorem AR2 v:AR3 v=AAA v:=AJ _
abbrev W3:AE:=[(.tmp 0,.dat Ub)]
abbrev W2:AE:=[(.tmp 0,.own 3 U0)]
abbrev W1:List RS:=[.one]
abbrev AE6:AE:=[(.tmp 6,.own 3 U0),(.tmp 25,.dat Ub),(.tmp 26,.di),(.tmp 27,.di)]
abbrev AE4:Ap:=[(.exit 2,[(.tmp 6,.own 3 U0)])]
def EW[Lk]:(List Int×List U4×Int×Int×Unit)→Option ((List Int×List U4×Int×Int×Unit)⊕Up⊕Unit):=fun(a0,a1,a2,a3,_)=>
 match(ilt a3 a2)with
 |true=>match idx a1 a3 with|none=>none|some x0=>match(fits ((AK a0)+(AK x0)))with
  |true=>some (.inl ((A2 a0 x0),a1,a2,(IntKind.wrap .i64 (a3+1)),()))
  |false=>none
 |false=>some (.inr (.inl (a0,())))
abbrev AE7:AE:=[(.tmp 0,.dat Ub),(.tmp 3,.di),(.tmp 9,.dat Ub),(.tmp 10,.di),(.tmp 11,.di)]
abbrev AE5:Ap:=[(.exit 0,[(.tmp 0,.dat Ub),(.tmp 3,.di)])]
def EX[Lk]:(List U4×Int×List U4×Int×Int×Unit)→Option ((List U4×Int×List U4×Int×Int×Unit)⊕V9⊕Unit):=fun(a0,a1,a2,a3,a4,_)=>
 match(ilt a4 a3)with
 |true=>match idx a2 a4 with|none=>none|some x0=>match(ilt (IntKind.wrap .i64 (a1+(AK x0))) 0)with
  |true=>none
  |false=>some (.inl (a0,(IntKind.wrap .i64 (a1+(AK x0))),a2,a3,(IntKind.wrap .i64 (a4+1)),()))
 |false=>some (.inr (.inl (a0,a1,())))
def Ol[Lk]:Uo→Option (Up):=fun(a0,_)=>
 match AX EX many (a0,0,a0,(AK a0),0,())with|none=>none|some r=>match r with
 |.inl (o0,o1,_)=>match AR3 (o1,())with|none=>none|some (y2,_)=>match AX EW many (y2,o0,(AK o0),0,())with|none=>none|some r=>match r with
  |.inl (o3,_)=>some (o3,())
  |.inr _=>none
 |.inr _=>none
def JH[Lk]:=fun v=>Lk.f (Ol v)
theorem AE8 v:JH v=Ol v:=AJ _
abbrev ID:AE:=[(.tmp 0,.dat U3),(.tmp 1,.clo 96 [])]
abbrev IC:AE:=[(.tmp 0,.di)]
abbrev IB:List RS:=[.one]
abbrev MT:AE:=[(.tmp 0,.dat U3),(.tmp 1,.clo 96 []),(.tmp 7,.di),(.tmp 8,.di)]
abbrev MR:Ap:=[(.ret,[(.tmp 4,.di)]),(.exit 0,[])]
def B5[Lk]:Uq→Option (Uq⊕U9⊕(Unit)⊕Unit):=fun(a0,a1,a2,_)=>
 match(ilt a2 a1)with
 |true=>match idx a0 a2 with|none=>none|some x0=>match(ilt x0 0)with
  |true=>some (.inr (.inl (a2,())))
  |false=>match(ilt 10000 x0)with
  |true=>some (.inr (.inl (a2,())))
  |false=>some (.inl (a0,a1,(IntKind.wrap .i64 (a2+1)),()))
 |false=>some (.inr (.inr (.inl ())))
def E9[Lk]:Up→Option (U9):=fun(a0,_)=>
 match AX B5 many (a0,(AK a0),0,())with|none=>none|some r=>match r with
 |.inl (o0,_)=>some (o0,())
 |.inr r=>match r with
 |.inl _=>some ((-1:Int),())
 |.inr _=>none
def HA[Lk]:=fun v=>Lk.f (E9 v)
theorem MU v:HA v=E9 v:=AJ _
abbrev Gv:AE:=[(.tmp 0,.dat U3),(.tmp 1,.clo 96 [])]
abbrev Gu:AE:=[(.tmp 0,.dat .bool)]
abbrev Gt:List RS:=[.one]
def EI[Lk]:Up→Option (Uf):=fun(a0,_)=>
 match HA (a0,())with|none=>none|some (y0,_)=>some ((ile 0 y0),())
def EC[Lk]:=fun v=>Lk.f (EI v)
theorem KZ v:EC v=EI v:=AJ _
abbrev AV6:AE:=[(.tmp 0,.dat U3)]
abbrev AV5:AE:=[(.tmp 0,.dat .bool)]
abbrev AV4:List RS:=[.one]
abbrev AZR:AE:=[(.tmp 0,.dat U3),(.tmp 3,.map U0 U0),(.tmp 7,.dat U3),(.tmp 8,.di),(.tmp 9,.di)]
abbrev AZQ:Ap:=[(.exit 0,[(.tmp 0,.dat U3),(.tmp 3,.map U0 U0)])]
def LB[Lk]:(List Int×List Uc×List Int×Int×Int×Unit)→Option ((List Int×List Uc×List Int×Int×Int×Unit)⊕(List Int×List Uc×Unit)⊕Unit):=fun(a0,a1,a2,a3,a4,_)=>
 match(ilt a4 a3)with
 |true=>match idx a2 a4 with|none=>none|some x0=>some (.inl (a0,(Af a1 x0 (IntKind.wrap .i64 (((AP a1 x0).getD 0)+1))),a2,a3,(IntKind.wrap .i64 (a4+1)),()))
 |false=>some (.inr (.inl (a0,a1,())))
def ALs[Lk]:Up→Option (Uf):=fun(a0,_)=>
 match AX LB many (a0,([]:List Uc),a0,(AK a0),0,())with|none=>none|some r=>match r with
 |.inl (o0,o1,_)=>some ((ieq (AK o1) (AK o0)),())
 |.inr _=>none
def once[Lk]:=fun v=>Lk.f (ALs v)
theorem AZS v:once v=ALs v:=AJ _
abbrev ABr:AE:=[(.tmp 0,.dat U3)]
abbrev ABq:AE:=[(.tmp 0,.dat .bool)]
abbrev ABp:List RS:=[.one]
def Re[Lk]:Up→Option (Uf):=fun(a0,_)=>
 match(ilt 1000 (AK a0))with
 |true=>some (false,())
 |false=>match EC (a0,())with|none=>none|some (y0,_)=>match(!y0)with
 |true=>match once (a0,())with|none=>none|some (y1,_)=>some (y1,())
 |false=>some (false,())
def M4[Lk]:=fun v=>Lk.f (Re v)
theorem AIC v:M4 v=Re v:=AJ _
abbrev AAj:AE:=[(.tmp 0,.dat U3),(.tmp 1,.di)]
abbrev AAi:AE:=[(.tmp 0,.own 3 U0)]
abbrev AAh:List RS:=[.one]
def RO[Lk]:Uz→Option (Up):=fun(a0,a1,_)=>
 match CM a0 a1 (AK a0)with|none=>none|some x0=>match CM a0 0 a1 with|none=>none|some x1=>match JH (([x0,x1]:List U4),())with|none=>none|some (y2,_)=>some (y2,())
def Tl[Lk]:=fun v=>Lk.f (RO v)
theorem AHX v:Tl v=RO v:=AJ _
abbrev ACR:AE:=[(.tmp 0,.dat U3),(.tmp 1,.dat U3)]
abbrev ACQ:AE:=[(.tmp 0,.own 3 U0),(.tmp 1,.dat .bool)]
abbrev ACP:List RS:=[.one,.one]
abbrev AIP:AE:=[(.tmp 0,.dat U3),(.tmp 6,.own 3 U0),(.tmp 12,.dat U3),(.tmp 13,.di),(.tmp 14,.di)]
abbrev AIO:Ap:=[(.exit 0,[(.tmp 6,.own 3 U0)])]
def Ej[Lk]:V8→Option (V8⊕Up⊕Unit):=fun(a0,a1,a2,a3,a4,_)=>
 match(ilt a4 a3)with
 |true=>match idx a2 a4 with|none=>none|some x0=>match QW (a0,x0,())with|none=>none|some (y1,_)=>match(fits ((AK a1)+(AK ([y1]:List (Int)))))with
  |true=>some (.inl (a0,(A2 a1 ([y1]:List (Int))),a2,a3,(IntKind.wrap .i64 (a4+1)),()))
  |false=>none
 |false=>some (.inr (.inl (a1,())))
def Rm[Lk]:Vc→Option ((List Int×Bool×Unit)):=fun(a0,a1,_)=>
 match M4 (a0,())with|none=>none|some (y0,_)=>match(!y0)with
 |true=>some (([]:List (Int)),false,())
 |false=>match AX Ej many (a0,([]:List (Int)),a1,(AK a1),0,())with|none=>none|some r=>match r with
 |.inl (o1,_)=>match Fw (o1,(-1:Int),())with|none=>none|some (y2,_)=>some (o1,(!y2),())
 |.inr _=>none
def places[Lk]:=fun v=>Lk.f (Rm v)
theorem AIQ v:places v=Rm v:=AJ _
abbrev AK8:AE:=[(.tmp 0,.dat U3),(.tmp 1,.di)]
abbrev AK7:AE:=[(.tmp 0,.own 3 U0),(.tmp 1,.dat .bool)]
abbrev AK6:List RS:=[.one,.one]
def Z2[Lk]:Uz→Option ((List Int×Bool×Unit)):=fun(a0,a1,_)=>
 match places (a0,([a1]:List (Int)),())with|none=>none|some (y0,y1,_)=>match(!y1)with
 |true=>some (([]:List (Int)),false,())
 |false=>match idx y0 0 with|none=>none|some x2=>match Tl (a0,(Ab y0 0 0),())with|none=>none|some (y3,_)=>some (y3,true,())
def AIF[Lk]:=fun v=>Lk.f (Z2 v)
theorem APX v:AIF v=Z2 v:=AJ _
abbrev ABu:AE:=[(.tmp 0,.dat U3)]
abbrev ABt:AE:=[(.tmp 0,.own 3 U0)]
abbrev ABs:List RS:=[.one]
def Rf[Lk]:Up→Option (Up):=fun(a0,_)=>
 match M4 (a0,())with|none=>none|some (y0,_)=>match(!y0)with
 |true=>some (([]:List (Int)),())
 |false=>match(ieq (AK a0) 0)with
 |true=>some (([]:List (Int)),())
 |false=>match Acb (a0,())with|none=>none|some (y1,_)=>match QW (a0,y1,())with|none=>none|some (y2,_)=>match Tl (a0,y2,())with|none=>none|some (y3,_)=>some (y3,())
def ABv[Lk]:=fun v=>Lk.f (Rf v)
theorem AID v:ABv v=Rf v:=AJ _
abbrev Fl:AE:=[(.tmp 0,.dat Ub),(.cap 1 0,.box 1),(.cell 0 0,.di),(.tmp 1,.clo 113 [(0,0)])]
abbrev Fk:AE:=[(.obj 0,.box 1),(.cell 0 0,.di),(.tmp 0,.di)]
abbrev Fj:List RS:=[.one]
abbrev I0:AE:=[(.obj 0,.box 1),(.cell 0 0,.di),(.tmp 0,.dat Ub),(.tmp 1,.clo 113 [(0,0)]),(.tmp 7,.di),(.tmp 8,.di)]
abbrev Iz:Ap:=[(.ret,[(.obj 0,.box 1),(.cell 0 0,.di),(.tmp 4,.di)]),(.exit 0,[(.obj 0,.box 1),(.cell 0 0,.di)])]
def Bi[Lk]:(Int×List U4×Int×Int×Unit)→Option ((Int×List U4×Int×Int×Unit)⊕U1⊕U9⊕Unit):=fun(a0,a1,a2,a3,_)=>
 match(ilt a3 a2)with
 |true=>match idx a1 a3 with|none=>none|some x0=>match Fw (x0,a0,())with|none=>none|some (y1,_)=>match y1 with
  |true=>some (.inr (.inl (a0,a3,())))
  |false=>some (.inl (a0,a1,a2,(IntKind.wrap .i64 (a3+1)),()))
 |false=>some (.inr (.inr (.inl (a0,()))))
def Dy[Lk]:V9→Option (U1):=fun(a0,a1,_)=>
 match AX Bi many (a1,a0,(AK a0),0,())with|none=>none|some r=>match r with
 |.inl (o0,o1,_)=>some (o0,o1,())
 |.inr r=>match r with
 |.inl (o2,_)=>some (o2,(-1:Int),())
 |.inr _=>none
def E7[Lk]:=fun v=>Lk.f (Dy v)
theorem I1 v:E7 v=Dy v:=AJ _
abbrev AA6:AE:=[(.tmp 0,.dat Ui),(.tmp 1,.di)]
abbrev AA5:AE:=[(.tmp 0,.di)]
abbrev AA4:List RS:=[.one]
def RV[Lk]:Vg→Option (U9):=fun(a0,a1,_)=>
 match E7 (a0.2.1,a1,())with|none=>none|some (y0,y1,_)=>some (y1,())
def Pk[Lk]:=fun v=>Lk.f (RV v)
theorem AHo v:Pk v=RV v:=AJ _
abbrev AXN:AE:=[(.tmp 0,.di),(.tmp 1,.dat U3)]
abbrev AXM:AE:=[(.tmp 0,.dat .bool)]
abbrev AXL:List RS:=[.one]
abbrev AZw:AE:=[(.tmp 0,.di),(.tmp 5,.box 3),(.cell 0 0,.own 3 U0),(.cell 0 1,.map U0 U0),(.cell 0 2,.map U0 U0),(.tmp 30,.dat U3),(.tmp 31,.di),(.tmp 32,.di)]
abbrev AZv:Ap:=[(.ret,[(.tmp 4,.dat .bool)]),(.exit 0,[(.tmp 5,.box 3),(.cell 0 0,.own 3 U0),(.cell 0 1,.map U0 U0),(.cell 0 2,.map U0 U0)])]
def I8[Lk]:(Int×List Int×List Uc×List Uc×List Int×Int×Int×Unit)→Option ((Int×List Int×List Uc×List Uc×List Int×Int×Int×Unit)⊕Uf⊕(List Int×List Uc×List Uc×Unit)⊕Unit):=fun(a0,a1,a2,a3,a4,a5,a6,_)=>
 match(ilt a6 a5)with
 |true=>match idx a4 a6 with|none=>none|some x0=>match AAn (a0,x0,())with|none=>none|some (y1,y2,y3,y4,_)=>match(!y4)with
  |true=>some (.inr (.inl (false,())))
  |false=>match y3 with
  |true=>match idx a1 (IntKind.wrap .i64 ((AK a1)-1))with|none=>none|some x5=>match(!(ieq (Ab a1 (AN (IntKind.wrap .i64 ((AK a1)-1))) 0) y1))with
   |true=>some (.inr (.inl (false,())))
   |false=>match(ilt 0 (IntKind.wrap .i64 ((AK a1)-1)))with
   |true=>match idx a1 (IntKind.wrap .i64 ((IntKind.wrap .i64 ((AK a1)-1))-1))with|none=>none|some x6=>match(ieq (Ab a1 (AN (IntKind.wrap .i64 ((IntKind.wrap .i64 ((AK a1)-1))-1))) 0) y2)with
    |true=>match CM a1 0 (IntKind.wrap .i64 ((AK a1)-1))with|none=>none|some x7=>match(!y3)with
     |true=>match idx (DP 0 (AN (AK x7)) a1) (IntKind.wrap .i64 ((((AN (AK x7)):Nat):Int)-1))with|none=>none|some x8=>match(!(ieq (Ab a1 (0+(AN (IntKind.wrap .i64 ((((AN (AK x7)):Nat):Int)-1)))) 0) y1))with
      |true=>some (.inr (.inl (false,())))
      |false=>match(!y3)with
      |true=>some (.inl (a0,(Bn (AN (AK x7)) a1),a2,(Af a3 y1 (IntKind.wrap .i64 (((AP a3 y1).getD 0)+1))),a4,a5,(IntKind.wrap .i64 (a6+1)),()))
      |false=>some (.inl (a0,(Bn (AN (AK x7)) a1),a2,a3,a4,a5,(IntKind.wrap .i64 (a6+1)),()))
     |false=>match(!y3)with
     |true=>some (.inl (a0,(Bn (AN (AK x7)) a1),a2,(Af a3 y1 (IntKind.wrap .i64 (((AP a3 y1).getD 0)+1))),a4,a5,(IntKind.wrap .i64 (a6+1)),()))
     |false=>some (.inl (a0,(Bn (AN (AK x7)) a1),a2,a3,a4,a5,(IntKind.wrap .i64 (a6+1)),()))
    |false=>match(ilt 0 ((AP a2 y2).getD 0))with
    |true=>some (.inr (.inl (false,())))
    |false=>match(fits ((AK a1)+(AK ([y2]:List (Int)))))with
    |true=>match(!y3)with
     |true=>match idx (A2 a1 ([y2]:List (Int))) (IntKind.wrap .i64 ((AK (A2 a1 ([y2]:List (Int))))-1))with|none=>none|some x9=>match(!(ieq (Ab (A2 a1 ([y2]:List (Int))) (AN (IntKind.wrap .i64 ((AK (A2 a1 ([y2]:List (Int))))-1))) 0) y1))with
      |true=>some (.inr (.inl (false,())))
      |false=>match(!y3)with
      |true=>some (.inl (a0,(A2 a1 ([y2]:List (Int))),(Af a2 y2 (IntKind.wrap .i64 (((AP a2 y2).getD 0)+1))),(Af a3 y1 (IntKind.wrap .i64 (((AP a3 y1).getD 0)+1))),a4,a5,(IntKind.wrap .i64 (a6+1)),()))
      |false=>some (.inl (a0,(A2 a1 ([y2]:List (Int))),(Af a2 y2 (IntKind.wrap .i64 (((AP a2 y2).getD 0)+1))),a3,a4,a5,(IntKind.wrap .i64 (a6+1)),()))
     |false=>match(!y3)with
     |true=>some (.inl (a0,(A2 a1 ([y2]:List (Int))),(Af a2 y2 (IntKind.wrap .i64 (((AP a2 y2).getD 0)+1))),(Af a3 y1 (IntKind.wrap .i64 (((AP a3 y1).getD 0)+1))),a4,a5,(IntKind.wrap .i64 (a6+1)),()))
     |false=>some (.inl (a0,(A2 a1 ([y2]:List (Int))),(Af a2 y2 (IntKind.wrap .i64 (((AP a2 y2).getD 0)+1))),a3,a4,a5,(IntKind.wrap .i64 (a6+1)),()))
    |false=>none
   |false=>match(ilt 0 ((AP a2 y2).getD 0))with
   |true=>some (.inr (.inl (false,())))
   |false=>match(fits ((AK a1)+(AK ([y2]:List (Int)))))with
   |true=>match(!y3)with
    |true=>match idx (A2 a1 ([y2]:List (Int))) (IntKind.wrap .i64 ((AK (A2 a1 ([y2]:List (Int))))-1))with|none=>none|some x10=>match(!(ieq (Ab (A2 a1 ([y2]:List (Int))) (AN (IntKind.wrap .i64 ((AK (A2 a1 ([y2]:List (Int))))-1))) 0) y1))with
     |true=>some (.inr (.inl (false,())))
     |false=>match(!y3)with
     |true=>some (.inl (a0,(A2 a1 ([y2]:List (Int))),(Af a2 y2 (IntKind.wrap .i64 (((AP a2 y2).getD 0)+1))),(Af a3 y1 (IntKind.wrap .i64 (((AP a3 y1).getD 0)+1))),a4,a5,(IntKind.wrap .i64 (a6+1)),()))
     |false=>some (.inl (a0,(A2 a1 ([y2]:List (Int))),(Af a2 y2 (IntKind.wrap .i64 (((AP a2 y2).getD 0)+1))),a3,a4,a5,(IntKind.wrap .i64 (a6+1)),()))
    |false=>match(!y3)with
    |true=>some (.inl (a0,(A2 a1 ([y2]:List (Int))),(Af a2 y2 (IntKind.wrap .i64 (((AP a2 y2).getD 0)+1))),(Af a3 y1 (IntKind.wrap .i64 (((AP a3 y1).getD 0)+1))),a4,a5,(IntKind.wrap .i64 (a6+1)),()))
    |false=>some (.inl (a0,(A2 a1 ([y2]:List (Int))),(Af a2 y2 (IntKind.wrap .i64 (((AP a2 y2).getD 0)+1))),a3,a4,a5,(IntKind.wrap .i64 (a6+1)),()))
   |false=>none
  |false=>match(!y3)with
  |true=>match idx a1 (IntKind.wrap .i64 ((AK a1)-1))with|none=>none|some x11=>match(!(ieq (Ab a1 (AN (IntKind.wrap .i64 ((AK a1)-1))) 0) y1))with
   |true=>some (.inr (.inl (false,())))
   |false=>match(!y3)with
   |true=>some (.inl (a0,a1,a2,(Af a3 y1 (IntKind.wrap .i64 (((AP a3 y1).getD 0)+1))),a4,a5,(IntKind.wrap .i64 (a6+1)),()))
   |false=>some (.inl (a0,a1,a2,a3,a4,a5,(IntKind.wrap .i64 (a6+1)),()))
  |false=>match(!y3)with
  |true=>some (.inl (a0,a1,a2,(Af a3 y1 (IntKind.wrap .i64 (((AP a3 y1).getD 0)+1))),a4,a5,(IntKind.wrap .i64 (a6+1)),()))
  |false=>some (.inl (a0,a1,a2,a3,a4,a5,(IntKind.wrap .i64 (a6+1)),()))
 |false=>some (.inr (.inr (.inl (a1,a2,a3,()))))
def AMj[Lk]:(Int×List Int×Unit)→Option (Uf):=fun(a0,a1,_)=>
 match idx a1 0 with|none=>none|some x0=>match tin (a0,x0,())with|none=>none|some (y1,_)=>match(!y1)with
 |true=>some (false,())
 |false=>match idx a1 0 with|none=>none|some x2=>match idx a1 0 with|none=>none|some x3=>match AX I8 many (a0,([x2]:List (Int)),(Af ([]:List Uc) x3 1),([]:List Uc),a1,(AK a1),0,())with|none=>none|some r=>match r with
 |.inl (o4,_)=>some (o4,())
 |.inr r=>match r with
 |.inl (o5,o6,o7,_)=>match(ieq (AK o5) 1)with
  |true=>some ((ieq (AK o7) (AK o6)),())
  |false=>some (false,())
 |.inr _=>none
def goes[Lk]:=fun v=>Lk.f (AMj v)
theorem AZx v:goes v=AMj v:=AJ _
abbrev AAw:AE:=[(.tmp 0,.dat Ui)]
abbrev AAv:AE:=[(.tmp 0,.dat .bool)]
abbrev AAu:List RS:=[.one]
abbrev AHd:AE:=[(.tmp 3,.map U0 U0),(.tmp 78,.di),(.tmp 79,.di)]
abbrev AHa:Ap:=[(.ret,[(.tmp 2,.dat .bool)]),(.exit 4,[])]
def Ed[Lk]:(List Uc×Int×Int×Unit)→Option ((List Uc×Int×Int×Unit)⊕Uf⊕(Unit)⊕Unit):=fun(a0,a1,a2,_)=>
 match(ilt a2 a1)with
 |true=>match(ieq ((AP a0 a2).getD 0) 0)with
  |true=>some (.inr (.inl (false,())))
  |false=>some (.inl (a0,a1,(IntKind.wrap .i64 (a2+1)),()))
 |false=>some (.inr (.inr (.inl ())))
abbrev AHe:AE:=[(.tmp 1,.box 2),(.cell 0 0,.di),(.cell 0 1,.dat Ub),(.tmp 3,.map U0 U0),(.tmp 4,.di),(.tmp 16,.dat Ub),(.tmp 17,.di),(.tmp 18,.di),(.tmp 26,.dat U3),(.tmp 28,.di),(.tmp 29,.di),(.tmp 30,.dat .bool),(.tmp 33,.dat U3),(.tmp 34,.dat .bool),(.tmp 35,.dat .bool),(.tmp 38,.dat U3),(.tmp 39,.di),(.tmp 40,.dat U3),(.tmp 42,.di),(.tmp 43,.dat .bool),(.tmp 46,.ptr' 0 0),(.tmp 47,.di),(.tmp 48,.dat U3),(.tmp 49,.dat .bool),(.tmp 50,.dat .bool),(.tmp 55,.dat U3),(.tmp 56,.di),(.tmp 57,.di)]
abbrev AHb:Ap:=[(.ret,[(.tmp 2,.dat .bool)]),(.exit 2,[(.tmp 1,.box 2),(.cell 0 0,.di),(.cell 0 1,.dat Ub),(.tmp 3,.map U0 U0),(.tmp 4,.di),(.tmp 16,.dat Ub),(.tmp 17,.di),(.tmp 18,.di),(.tmp 26,.dat U3),(.tmp 28,.di),(.tmp 29,.di),(.tmp 30,.dat .bool),(.tmp 33,.dat U3),(.tmp 34,.dat .bool),(.tmp 35,.dat .bool),(.tmp 38,.dat U3),(.tmp 39,.di),(.tmp 40,.dat U3),(.tmp 42,.di),(.tmp 43,.dat .bool),(.tmp 46,.ptr' 0 0),(.tmp 47,.di),(.tmp 48,.dat U3),(.tmp 49,.dat .bool),(.tmp 50,.dat .bool)])]
def Dp[Lk]:Uu→Option (Uu⊕Uf⊕(Int×List U4×List Uc×Int×List U4×Int×Int×List Int×Int×Int×Bool×List Int×Bool×Bool×List Int×Int×List Int×Int×Bool×Int×List Int×Bool×Bool×Unit)⊕Unit):=fun(a0,a1,a2,a3,a4,a5,a6,a7,a8,a9,a10,a11,a12,a13,a14,a15,a16,a17,a18,a19,a20,a21,a22,a23,a24,a25,_)=>
 match(ilt a25 a24)with
 |true=>match idx a23 a25 with|none=>none|some x0=>match(ilt x0 a0)with
  |true=>match(ilt 0 ((AP a2 x0).getD 0))with
   |true=>some (.inr (.inl (false,())))
   |false=>some (.inl (a0,a1,(Af a2 x0 (IntKind.wrap .i64 (((AP a2 x0).getD 0)+1))),a3,a4,a5,a6,a7,a8,a9,a10,a11,a12,a13,a14,a15,a16,a17,a18,a19,a20,a21,a22,a23,a24,(IntKind.wrap .i64 (a25+1)),()))
  |false=>some (.inl (a0,a1,(Af a2 x0 (IntKind.wrap .i64 (((AP a2 x0).getD 0)+1))),a3,a4,a5,a6,a7,a8,a9,a10,a11,a12,a13,a14,a15,a16,a17,a18,a19,a20,a21,a22,a23,a24,(IntKind.wrap .i64 (a25+1)),()))
 |false=>some (.inr (.inr (.inl (a0,a1,a2,a3,a4,a5,a6,a7,a8,a9,a10,a11,a12,a13,a14,a15,a16,a17,a18,a19,a20,a21,a22,()))))
abbrev AHf:AE:=[(.tmp 1,.box 2),(.cell 0 0,.di),(.cell 0 1,.dat Ub),(.tmp 3,.map U0 U0),(.tmp 4,.di),(.tmp 16,.dat Ub),(.tmp 17,.di),(.tmp 18,.di)]
abbrev AHc:Ap:=[(.ret,[(.tmp 2,.dat .bool)]),(.exit 0,[(.tmp 1,.box 2),(.cell 0 0,.di),(.cell 0 1,.dat Ub),(.tmp 3,.map U0 U0)])]
def Dq[Lk]:(Int×List U4×List Uc×Int×List U4×Int×Int×Unit)→Option ((Int×List U4×List Uc×Int×List U4×Int×Int×Unit)⊕Uf⊕(Int×List U4×List Uc×Unit)⊕Unit):=fun(a0,a1,a2,a3,a4,a5,a6,_)=>
 match(ilt a6 a5)with
 |true=>match idx a4 a6 with|none=>none|some x0=>match(ieq (AK x0) 0)with
  |true=>some (.inr (.inl (false,())))
  |false=>match idx x0 0 with|none=>none|some x1=>match(ile x1 a3)with
  |true=>some (.inr (.inl (false,())))
  |false=>match M4 (x0,())with|none=>none|some (y2,_)=>match(!y2)with
  |true=>some (.inr (.inl (false,())))
  |false=>match Acb (x0,())with|none=>none|some (y3,_)=>match idx x0 0 with|none=>none|some x4=>match(!(ieq y3 x4))with
  |true=>some (.inr (.inl (false,())))
  |false=>match goes (a0,x0,())with|none=>none|some (y5,_)=>match(!y5)with
  |true=>some (.inr (.inl (false,())))
  |false=>match idx x0 0 with|none=>none|some x6=>match AX Dp many (a0,a1,a2,x6,a4,a5,a6,x0,x1,a3,(ile x1 a3),x0,y2,(!y2),x0,y3,x0,x4,(!(ieq y3 x4)),a0,x0,y5,(!y5),x0,(AK x0),0,())with|none=>none|some r=>match r with
  |.inl (o7,_)=>some (.inr (.inl (o7,())))
  |.inr r=>match r with
  |.inl (o8,o9,o10,o11,o12,o13,o14,o15,o16,o17,o18,o19,o20,o21,o22,o23,o24,o25,o26,o27,o28,o29,o30,_)=>some (.inl (o8,o9,o10,o11,o12,o13,(IntKind.wrap .i64 (o14+1)),()))
  |.inr _=>none
 |false=>some (.inr (.inr (.inl (a0,a1,a2,()))))
def RR[Lk]:(Ul×Unit)→Option (Uf):=fun(a0,_)=>
 match Mn (a0.1,())with|none=>none|some (y0,_)=>match(!y0)with
 |true=>some (false,())
 |false=>match AX Dq many (a0.1,a0.2.1,([]:List Uc),(-1:Int),a0.2.1,(AK a0.2.1),0,())with|none=>none|some r=>match r with
 |.inl (o1,_)=>some (o1,())
 |.inr r=>match r with
 |.inl (o2,o3,o4,_)=>match AX Ed many (o4,o2,0,())with|none=>none|some r=>match r with
  |.inl (o5,_)=>some (o5,())
  |.inr r=>match r with
  |.inl _=>some (true,())
  |.inr _=>none
 |.inr _=>none
def Pj[Lk]:=fun v=>Lk.f (RR v)
theorem AHg v:Pj v=RR v:=AJ _
abbrev ANT:AE:=[(.tmp 0,.dat Ui),(.tmp 1,.di),(.tmp 2,.di)]
abbrev ANS:AE:=[(.tmp 0,.di)]
abbrev ANR:List RS:=[.one]
def AAG[Lk]:(Ul×Int×Int×Unit)→Option (U9):=fun(a0,a1,a2,_)=>
 match Pj ((a0.1,(a0.2.1,())),())with|none=>none|some (y0,_)=>match(!y0)with
 |true=>some (1,())
 |false=>match tin (a0.1,a1,())with|none=>none|some (y1,_)=>match(!y1)with
 |true=>some (10,())
 |false=>match tin (a0.1,a2,())with|none=>none|some (y2,_)=>match(!y2)with
 |true=>some (10,())
 |false=>some (0,())
def asked[Lk]:=fun v=>Lk.f (AAG v)
theorem ASv v:asked v=AAG v:=AJ _
abbrev AWK:AE:=[(.tmp 0,.di)]
abbrev AWJ:AE:=[(.tmp 0,.dat .bool)]
abbrev AWI:List RS:=[.one]
def LG[Lk]:U9→Option (Uf):=fun(a0,_)=>
 some ((!(ieq a0 a0)),())
def Agt[Lk]:=fun v=>Lk.f (LG v)
theorem LF v:Agt v=LG v:=AJ _
abbrev Qq:AE:=[(.tmp 0,.di),(.tmp 1,.di)]
abbrev Qp:AE:=[(.tmp 0,.di)]
abbrev Qo:List RS:=[.one]
def EY[Lk]:U1→Option (U9):=fun(a0,a1,_)=>
 match Agt (a0,())with|none=>none|some (y0,_)=>match Agt (a1,())with|none=>none|some (y1,_)=>match y0 with
 |true=>match y1 with
  |true=>some (0,())
  |false=>some ((-1:Int),())
 |false=>match y1 with
 |true=>some (1,())
 |false=>match(ilt a0 a1)with
 |true=>some ((-1:Int),())
 |false=>match(ilt a1 a0)with
 |true=>some (1,())
 |false=>some (0,())
def Dj[Lk]:=fun v=>Lk.f (EY v)
theorem Gj v:Dj v=EY v:=AJ _
abbrev AJe:AE:=[(.tmp 0,.dat U3),(.tmp 1,.dat U3)]
abbrev AJd:AE:=[(.tmp 0,.di)]
abbrev AJc:List RS:=[.one]
def Zt[Lk]:Vc→Option (U9):=fun(a0,a1,_)=>
 match idx a0 0 with|none=>none|some x0=>match idx a1 0 with|none=>none|some x1=>match Dj (x0,x1,())with|none=>none|some (y2,_)=>some (y2,())
def BN[Lk]:=fun v=>Lk.f (Zt v)
theorem AN7 v:BN v=Zt v:=AJ _
def Gs:List Int:=[0,1,2,2,3,3,3,3,4,4,4,4,4,4,4,4,5,5,5,5,5,5,5,5,5,5,5,5,5,5,5,5,6,6,6,6,6,6,6,6,6,6,6,6,6,6,6,6,6,6,6,6,6,6,6,6,6,6,6,6,6,6,6,6,7,7,7,7,7,7,7,7,7,7,7,7,7,7,7,7,7,7,7,7,7,7,7,7,7,7,7,7,7,7,7,7,7,7,7,7,7,7,7,7,7,7,7,7,7,7,7,7,7,7,7,7,7,7,7,7,7,7,7,7,7,7,7,7,8,8,8,8,8,8,8,8,8,8,8,8,8,8,8,8,8,8,8,8,8,8,8,8,8,8,8,8,8,8,8,8,8,8,8,8,8,8,8,8,8,8,8,8,8,8,8,8,8,8,8,8,8,8,8,8,8,8,8,8,8,8,8,8,8,8,8,8,8,8,8,8,8,8,8,8,8,8,8,8,8,8,8,8,8,8,8,8,8,8,8,8,8,8,8,8,8,8,8,8,8,8,8,8,8,8,8,8,8,8,8,8,8,8,8,8,8,8,8,8,8,8,8,8,8,8,8,8]
abbrev AMM:AE:=[(.tmp 0,.dat (.int .u64))]
abbrev AML:AE:=[(.tmp 0,.di)]
abbrev AMK:List RS:=[.one]
def Z9[Lk]:U9→Option (U9):=fun(a0,_)=>
 match(ile 4294967296 a0)with
 |true=>match shr? .u64 a0 32 with|none=>none|some x0=>match(ile 65536 x0)with
  |true=>match shr? .u64 x0 16 with|none=>none|some x1=>match(ile 256 x1)with
   |true=>match shr? .u64 x1 8 with|none=>none|some x2=>match idx Gs (IntKind.wrap .u8 x2)with|none=>none|some x3=>some ((IntKind.wrap .i64 ((IntKind.wrap .i64 ((IntKind.wrap .i64 (32+16))+8))+(IntKind.wrap .i64 x3))),())
   |false=>match idx Gs (IntKind.wrap .u8 x1)with|none=>none|some x4=>some ((IntKind.wrap .i64 ((IntKind.wrap .i64 (32+16))+(IntKind.wrap .i64 x4))),())
  |false=>match(ile 256 x0)with
  |true=>match shr? .u64 x0 8 with|none=>none|some x5=>match idx Gs (IntKind.wrap .u8 x5)with|none=>none|some x6=>some ((IntKind.wrap .i64 ((IntKind.wrap .i64 (32+8))+(IntKind.wrap .i64 x6))),())
  |false=>match idx Gs (IntKind.wrap .u8 x0)with|none=>none|some x7=>some ((IntKind.wrap .i64 (32+(IntKind.wrap .i64 x7))),())
 |false=>match(ile 65536 a0)with
 |true=>match shr? .u64 a0 16 with|none=>none|some x8=>match(ile 256 x8)with
  |true=>match shr? .u64 x8 8 with|none=>none|some x9=>match idx Gs (IntKind.wrap .u8 x9)with|none=>none|some x10=>some ((IntKind.wrap .i64 ((IntKind.wrap .i64 ((IntKind.wrap .i64 (0+16))+8))+(IntKind.wrap .i64 x10))),())
  |false=>match idx Gs (IntKind.wrap .u8 x8)with|none=>none|some x11=>some ((IntKind.wrap .i64 ((IntKind.wrap .i64 (0+16))+(IntKind.wrap .i64 x11))),())
 |false=>match(ile 256 a0)with
 |true=>match shr? .u64 a0 8 with|none=>none|some x12=>match idx Gs (IntKind.wrap .u8 x12)with|none=>none|some x13=>some ((IntKind.wrap .i64 ((IntKind.wrap .i64 (0+8))+(IntKind.wrap .i64 x13))),())
 |false=>match idx Gs (IntKind.wrap .u8 a0)with|none=>none|some x14=>some ((IntKind.wrap .i64 (0+(IntKind.wrap .i64 x14))),())
def ARc[Lk]:=fun v=>Lk.f (Z9 v)
theorem ARb v:ARc v=Z9 v:=AJ _
abbrev XE:AE:=[(.tmp 0,.dat (.int .u64))]
abbrev XD:AE:=[(.tmp 0,.di)]
abbrev XC:List RS:=[.one]
def Oo[Lk]:U9→Option (U9):=fun(a0,_)=>
 match ARc (a0,())with|none=>none|some (y0,_)=>some (y0,())
def bitsLen[Lk]:=fun v=>Lk.f (Oo v)
theorem AFV v:bitsLen v=Oo v:=AJ _
abbrev Tc:AE:=[(.tmp 0,.box 1),(.cell 0 0,.dat (.int .u64))]
abbrev Tb:AE:=[(.obj 0,.box 1),(.cell 0 0,.dat (.int .u64)),(.tmp 0,.dat (.int .u64))]
abbrev Ta:List RS:=[.one]
def OD[Lk]:U9→Option (U1):=fun(a0,_)=>
 match shl? .u64 a0 13 with|none=>none|some x0=>match shr? .u64 (IntKind.wrap .u64 ((BitVec.ofInt (IntKind.bits .u64) a0 ^^^ BitVec.ofInt (IntKind.bits .u64) x0).toNat)) 7 with|none=>none|some x1=>match shl? .u64 (IntKind.wrap .u64 ((BitVec.ofInt (IntKind.bits .u64) (IntKind.wrap .u64 ((BitVec.ofInt (IntKind.bits .u64) a0 ^^^ BitVec.ofInt (IntKind.bits .u64) x0).toNat)) ^^^ BitVec.ofInt (IntKind.bits .u64) x1).toNat)) 17 with|none=>none|some x2=>some ((IntKind.wrap .u64 ((BitVec.ofInt (IntKind.bits .u64) (IntKind.wrap .u64 ((BitVec.ofInt (IntKind.bits .u64) (IntKind.wrap .u64 ((BitVec.ofInt (IntKind.bits .u64) a0 ^^^ BitVec.ofInt (IntKind.bits .u64) x0).toNat)) ^^^ BitVec.ofInt (IntKind.bits .u64) x1).toNat)) ^^^ BitVec.ofInt (IntKind.bits .u64) x2).toNat)),(IntKind.wrap .u64 ((BitVec.ofInt (IntKind.bits .u64) (IntKind.wrap .u64 ((BitVec.ofInt (IntKind.bits .u64) (IntKind.wrap .u64 ((BitVec.ofInt (IntKind.bits .u64) a0 ^^^ BitVec.ofInt (IntKind.bits .u64) x0).toNat)) ^^^ BitVec.ofInt (IntKind.bits .u64) x1).toNat)) ^^^ BitVec.ofInt (IntKind.bits .u64) x2).toNat)),())
def xorNext[Lk]:=fun v=>Lk.f (OD v)
theorem AAP v:xorNext v=OD v:=AJ _
abbrev VZ:AE:=[(.tmp 0,.di)]
abbrev VY:AE:=[(.tmp 0,.dat (.int .u64))]
abbrev VX:List RS:=[.one]
def OZ[Lk]:U9→Option (U9):=fun(a0,_)=>
 match bitsLen ((IntKind.wrap .u64 a0),())with|none=>none|some (y0,_)=>match shl? .u64 1 y0 with|none=>none|some x1=>some (x1,())
def Rv[Lk]:=fun v=>Lk.f (OZ v)
theorem ADW v:Rv v=OZ v:=AJ _
def Oe[Lk]{α:Type}(z:α)(c:α×α×Unit→Option U9):(List α×Int×Int×Int×Int×Unit)→Option ((List α×Int×Int×Int×Int×Unit)⊕(List α×Int×Int×Int×Unit)⊕Unit):=fun(a0,a1,a2,a3,a4,_)=>
 match(ilt a1 a4)with
 |true=>match idx a0 a4 with|none=>none|some x0=>match idx a0 (IntKind.wrap .i64 (a4-1))with|none=>none|some x1=>match c ((Ab a0 (AN a4) z),(Ab a0 (AN (IntKind.wrap .i64 (a4-1))) z),())with|none=>none|some (y2,_)=>match(ilt y2 0)with
  |true=>match idx a0 (IntKind.wrap .i64 (a4-1))with|none=>none|some x3=>match idx a0 a4 with|none=>none|some x4=>match idx a0 a4 with|none=>none|some x5=>match idx (BA a0 (AN a4) (Ab a0 (AN (IntKind.wrap .i64 (a4-1))) z)) (IntKind.wrap .i64 (a4-1))with|none=>none|some x6=>some (.inl ((BA (BA a0 (AN a4) (Ab a0 (AN (IntKind.wrap .i64 (a4-1))) z)) (AN (IntKind.wrap .i64 (a4-1))) (Ab a0 (AN a4) z)),a1,a2,a3,(IntKind.wrap .i64 (a4-1)),()))
  |false=>some (.inr (.inl (a0,a1,a2,a3,())))
 |false=>some (.inr (.inl (a0,a1,a2,a3,())))
def Of[Lk]{α:Type}(z:α)(c:α×α×Unit→Option U9):(List α×Int×Int×Int×Unit)→Option ((List α×Int×Int×Int×Unit)⊕(List α×Unit)⊕Unit):=fun(a0,a1,a2,a3,_)=>
 match(ilt a3 a2)with
 |true=>match AX (Oe z c) many (a0,a1,a2,a3,a3,())with|none=>none|some r=>match r with
  |.inl (o0,o1,o2,o3,_)=>some (.inl (o0,o1,o2,(IntKind.wrap .i64 (o3+1)),()))
  |.inr _=>none
 |false=>some (.inr (.inl (a0,())))
def AD7[Lk]{α:Type}(z:α)(c:α×α×Unit→Option U9):(List α×Int×Int×Unit)→Option ((List α×Unit)):=fun(a0,a1,a2,_)=>
 match AX (Of z c) many (a0,a1,a2,(IntKind.wrap .i64 (a1+1)),())with|none=>none|some r=>match r with
 |.inl (o0,_)=>some (o0,())
 |.inr _=>none
def AhE[Lk]{α:Type}(z:α)(c:α×α×Unit→Option U9)(v:(List α×Int×Int×Unit)):Option ((List α×Unit)):=Lk.f ((AD7 z c) v)
theorem Aj2{α:Type}(z:α)(c:α×α×Unit→Option U9)(v:(List α×Int×Int×Unit)):(AhE z c) v=(AD7 z c) v:=AJ _
def KC[Lk]{α:Type}(z:α)(c:α×α×Unit→Option U9):(List α×Int×Int×Int×Unit)→Option ((List α×Int×Int×Int×Unit)⊕(List α×Unit)⊕(List α×Unit)⊕Unit):=fun(a0,a1,a2,a3,_)=>
 match(ile a1 (IntKind.wrap .i64 ((IntKind.wrap .i64 (2*a3))+1)))with
 |true=>some (.inr (.inl (a0,())))
 |false=>match(ilt (IntKind.wrap .i64 ((IntKind.wrap .i64 ((IntKind.wrap .i64 (2*a3))+1))+1)) a1)with
 |true=>match idx a0 (IntKind.wrap .i64 (a2+(IntKind.wrap .i64 ((IntKind.wrap .i64 (2*a3))+1))))with|none=>none|some x0=>match idx a0 (IntKind.wrap .i64 ((IntKind.wrap .i64 (a2+(IntKind.wrap .i64 ((IntKind.wrap .i64 (2*a3))+1))))+1))with|none=>none|some x1=>match c ((Ab a0 (AN (IntKind.wrap .i64 (a2+(IntKind.wrap .i64 ((IntKind.wrap .i64 (2*a3))+1))))) z),(Ab a0 (AN (IntKind.wrap .i64 ((IntKind.wrap .i64 (a2+(IntKind.wrap .i64 ((IntKind.wrap .i64 (2*a3))+1))))+1))) z),())with|none=>none|some (y2,_)=>match(ilt y2 0)with
  |true=>match idx a0 (IntKind.wrap .i64 (a2+a3))with|none=>none|some x3=>match idx a0 (IntKind.wrap .i64 (a2+(IntKind.wrap .i64 ((IntKind.wrap .i64 ((IntKind.wrap .i64 (2*a3))+1))+1))))with|none=>none|some x4=>match c ((Ab a0 (AN (IntKind.wrap .i64 (a2+a3))) z),(Ab a0 (AN (IntKind.wrap .i64 (a2+(IntKind.wrap .i64 ((IntKind.wrap .i64 ((IntKind.wrap .i64 (2*a3))+1))+1))))) z),())with|none=>none|some (y5,_)=>match(!(ilt y5 0))with
   |true=>some (.inr (.inr (.inl (a0,()))))
   |false=>match idx a0 (IntKind.wrap .i64 (a2+(IntKind.wrap .i64 ((IntKind.wrap .i64 ((IntKind.wrap .i64 (2*a3))+1))+1))))with|none=>none|some x6=>match idx a0 (IntKind.wrap .i64 (a2+a3))with|none=>none|some x7=>match idx a0 (IntKind.wrap .i64 (a2+a3))with|none=>none|some x8=>match idx (BA a0 (AN (IntKind.wrap .i64 (a2+a3))) (Ab a0 (AN (IntKind.wrap .i64 (a2+(IntKind.wrap .i64 ((IntKind.wrap .i64 ((IntKind.wrap .i64 (2*a3))+1))+1))))) z)) (IntKind.wrap .i64 (a2+(IntKind.wrap .i64 ((IntKind.wrap .i64 ((IntKind.wrap .i64 (2*a3))+1))+1))))with|none=>none|some x9=>some (.inl ((BA (BA a0 (AN (IntKind.wrap .i64 (a2+a3))) (Ab a0 (AN (IntKind.wrap .i64 (a2+(IntKind.wrap .i64 ((IntKind.wrap .i64 ((IntKind.wrap .i64 (2*a3))+1))+1))))) z)) (AN (IntKind.wrap .i64 (a2+(IntKind.wrap .i64 ((IntKind.wrap .i64 ((IntKind.wrap .i64 (2*a3))+1))+1))))) (Ab a0 (AN (IntKind.wrap .i64 (a2+a3))) z)),a1,a2,(IntKind.wrap .i64 ((IntKind.wrap .i64 ((IntKind.wrap .i64 (2*a3))+1))+1)),()))
  |false=>match idx a0 (IntKind.wrap .i64 (a2+a3))with|none=>none|some x10=>match idx a0 (IntKind.wrap .i64 (a2+(IntKind.wrap .i64 ((IntKind.wrap .i64 (2*a3))+1))))with|none=>none|some x11=>match c ((Ab a0 (AN (IntKind.wrap .i64 (a2+a3))) z),(Ab a0 (AN (IntKind.wrap .i64 (a2+(IntKind.wrap .i64 ((IntKind.wrap .i64 (2*a3))+1))))) z),())with|none=>none|some (y12,_)=>match(!(ilt y12 0))with
  |true=>some (.inr (.inr (.inl (a0,()))))
  |false=>match idx a0 (IntKind.wrap .i64 (a2+(IntKind.wrap .i64 ((IntKind.wrap .i64 (2*a3))+1))))with|none=>none|some x13=>match idx a0 (IntKind.wrap .i64 (a2+a3))with|none=>none|some x14=>match idx a0 (IntKind.wrap .i64 (a2+a3))with|none=>none|some x15=>match idx (BA a0 (AN (IntKind.wrap .i64 (a2+a3))) (Ab a0 (AN (IntKind.wrap .i64 (a2+(IntKind.wrap .i64 ((IntKind.wrap .i64 (2*a3))+1))))) z)) (IntKind.wrap .i64 (a2+(IntKind.wrap .i64 ((IntKind.wrap .i64 (2*a3))+1))))with|none=>none|some x16=>some (.inl ((BA (BA a0 (AN (IntKind.wrap .i64 (a2+a3))) (Ab a0 (AN (IntKind.wrap .i64 (a2+(IntKind.wrap .i64 ((IntKind.wrap .i64 (2*a3))+1))))) z)) (AN (IntKind.wrap .i64 (a2+(IntKind.wrap .i64 ((IntKind.wrap .i64 (2*a3))+1))))) (Ab a0 (AN (IntKind.wrap .i64 (a2+a3))) z)),a1,a2,(IntKind.wrap .i64 ((IntKind.wrap .i64 (2*a3))+1)),()))
 |false=>match idx a0 (IntKind.wrap .i64 (a2+a3))with|none=>none|some x17=>match idx a0 (IntKind.wrap .i64 (a2+(IntKind.wrap .i64 ((IntKind.wrap .i64 (2*a3))+1))))with|none=>none|some x18=>match c ((Ab a0 (AN (IntKind.wrap .i64 (a2+a3))) z),(Ab a0 (AN (IntKind.wrap .i64 (a2+(IntKind.wrap .i64 ((IntKind.wrap .i64 (2*a3))+1))))) z),())with|none=>none|some (y19,_)=>match(!(ilt y19 0))with
 |true=>some (.inr (.inr (.inl (a0,()))))
 |false=>match idx a0 (IntKind.wrap .i64 (a2+(IntKind.wrap .i64 ((IntKind.wrap .i64 (2*a3))+1))))with|none=>none|some x20=>match idx a0 (IntKind.wrap .i64 (a2+a3))with|none=>none|some x21=>match idx a0 (IntKind.wrap .i64 (a2+a3))with|none=>none|some x22=>match idx (BA a0 (AN (IntKind.wrap .i64 (a2+a3))) (Ab a0 (AN (IntKind.wrap .i64 (a2+(IntKind.wrap .i64 ((IntKind.wrap .i64 (2*a3))+1))))) z)) (IntKind.wrap .i64 (a2+(IntKind.wrap .i64 ((IntKind.wrap .i64 (2*a3))+1))))with|none=>none|some x23=>some (.inl ((BA (BA a0 (AN (IntKind.wrap .i64 (a2+a3))) (Ab a0 (AN (IntKind.wrap .i64 (a2+(IntKind.wrap .i64 ((IntKind.wrap .i64 (2*a3))+1))))) z)) (AN (IntKind.wrap .i64 (a2+(IntKind.wrap .i64 ((IntKind.wrap .i64 (2*a3))+1))))) (Ab a0 (AN (IntKind.wrap .i64 (a2+a3))) z)),a1,a2,(IntKind.wrap .i64 ((IntKind.wrap .i64 (2*a3))+1)),()))
def Rb[Lk]{α:Type}(z:α)(c:α×α×Unit→Option U9):(List α×Int×Int×Int×Unit)→Option ((List α×Unit)):=fun(a0,a1,a2,a3,_)=>
 match AX (KC z c) many (a0,a2,a3,a1,())with|none=>none|some r=>match r with
 |.inl (o0,_)=>some (o0,())
 |.inr r=>match r with
 |.inl (o1,_)=>some (o1,())
 |.inr _=>none
def AH0[Lk]{α:Type}(z:α)(c:α×α×Unit→Option U9)(v:(List α×Int×Int×Int×Unit)):Option ((List α×Unit)):=Lk.f ((Rb z c) v)
theorem AfT{α:Type}(z:α)(c:α×α×Unit→Option U9)(v:(List α×Int×Int×Int×Unit)):(AH0 z c) v=(Rb z c) v:=AJ _
def KU[Lk]{α:Type}(z:α)(c:α×α×Unit→Option U9):(List α×Int×Int×Int×Unit)→Option ((List α×Int×Int×Int×Unit)⊕(List α×Unit)⊕Unit):=fun(a0,a1,a2,a3,_)=>
 match(ile 0 a3)with
 |true=>match idx a0 (IntKind.wrap .i64 (a1+a3))with|none=>none|some x0=>match idx a0 a1 with|none=>none|some x1=>match idx a0 a1 with|none=>none|some x2=>match idx (BA a0 (AN a1) (Ab a0 (AN (IntKind.wrap .i64 (a1+a3))) z)) (IntKind.wrap .i64 (a1+a3))with|none=>none|some x3=>match(AH0 z c) ((BA (BA a0 (AN a1) (Ab a0 (AN (IntKind.wrap .i64 (a1+a3))) z)) (AN (IntKind.wrap .i64 (a1+a3))) (Ab a0 (AN a1) z)),a2,a3,a1,())with|none=>none|some (y4,_)=>some (.inl (y4,a1,a2,(IntKind.wrap .i64 (a3-1)),()))
 |false=>some (.inr (.inl (a0,())))
def KV[Lk]{α:Type}(z:α)(c:α×α×Unit→Option U9):(List α×Int×Int×Int×Int×Unit)→Option ((List α×Int×Int×Int×Int×Unit)⊕(List α×Int×Int×Int×Unit)⊕Unit):=fun(a0,a1,a2,a3,a4,_)=>
 match(ile 0 a4)with
 |true=>match(AH0 z c) (a0,a4,a3,a1,())with|none=>none|some (y0,_)=>some (.inl (y0,a1,a2,a3,(IntKind.wrap .i64 (a4-1)),()))
 |false=>some (.inr (.inl (a0,a1,a2,a3,())))
def SK[Lk]{α:Type}(z:α)(c:α×α×Unit→Option U9):(List α×Int×Int×Unit)→Option ((List α×Unit)):=fun(a0,a1,a2,_)=>
 match quo? .i64 (IntKind.wrap .i64 ((IntKind.wrap .i64 (a2-a1))-1)) 2 with|none=>none|some x0=>match AX (KV z c) many (a0,a1,0,(IntKind.wrap .i64 (a2-a1)),x0,())with|none=>none|some r=>match r with
 |.inl (o1,o2,o3,o4,_)=>match AX (KU z c) many (o1,o2,o3,(IntKind.wrap .i64 (o4-1)),())with|none=>none|some r=>match r with
  |.inl (o5,_)=>some (o5,())
  |.inr _=>none
 |.inr _=>none
def ARr[Lk]{α:Type}(z:α)(c:α×α×Unit→Option U9)(v:(List α×Int×Int×Unit)):Option ((List α×Unit)):=Lk.f ((SK z c) v)
theorem AhW{α:Type}(z:α)(c:α×α×Unit→Option U9)(v:(List α×Int×Int×Unit)):(ARr z c) v=(SK z c) v:=AJ _
def Fy[Lk]{α:Type}(z:α)(c:α×α×Unit→Option U9):(List α×Int×Int×Int×Int×Int×Unit)→Option ((List α×Int×Int×Int×Int×Int×Unit)⊕(List α×Unit)⊕Unit):=fun(a0,a1,a2,a3,a4,a5,_)=>
 match quo? .i64 a2 4 with|none=>none|some x0=>match(ile a5 (IntKind.wrap .i64 ((IntKind.wrap .i64 (a1+(IntKind.wrap .i64 (x0*2))))+1)))with
 |true=>match xorNext (a3,())with|none=>none|some (y1,y2,_)=>match(ile a2 (IntKind.wrap .i64 (IntKind.wrap .u64 ((BitVec.ofInt (IntKind.bits .u64) y2 &&& BitVec.ofInt (IntKind.bits .u64) (IntKind.wrap .u64 (a4-1))).toNat))))with
  |true=>match idx a0 (IntKind.wrap .i64 (a1+(IntKind.wrap .i64 ((IntKind.wrap .i64 (IntKind.wrap .u64 ((BitVec.ofInt (IntKind.bits .u64) y2 &&& BitVec.ofInt (IntKind.bits .u64) (IntKind.wrap .u64 (a4-1))).toNat)))-a2))))with|none=>none|some x3=>match idx a0 a5 with|none=>none|some x4=>match idx a0 a5 with|none=>none|some x5=>match idx (BA a0 (AN a5) (Ab a0 (AN (IntKind.wrap .i64 (a1+(IntKind.wrap .i64 ((IntKind.wrap .i64 (IntKind.wrap .u64 ((BitVec.ofInt (IntKind.bits .u64) y2 &&& BitVec.ofInt (IntKind.bits .u64) (IntKind.wrap .u64 (a4-1))).toNat)))-a2))))) z)) (IntKind.wrap .i64 (a1+(IntKind.wrap .i64 ((IntKind.wrap .i64 (IntKind.wrap .u64 ((BitVec.ofInt (IntKind.bits .u64) y2 &&& BitVec.ofInt (IntKind.bits .u64) (IntKind.wrap .u64 (a4-1))).toNat)))-a2))))with|none=>none|some x6=>some (.inl ((BA (BA a0 (AN a5) (Ab a0 (AN (IntKind.wrap .i64 (a1+(IntKind.wrap .i64 ((IntKind.wrap .i64 (IntKind.wrap .u64 ((BitVec.ofInt (IntKind.bits .u64) y2 &&& BitVec.ofInt (IntKind.bits .u64) (IntKind.wrap .u64 (a4-1))).toNat)))-a2))))) z)) (AN (IntKind.wrap .i64 (a1+(IntKind.wrap .i64 ((IntKind.wrap .i64 (IntKind.wrap .u64 ((BitVec.ofInt (IntKind.bits .u64) y2 &&& BitVec.ofInt (IntKind.bits .u64) (IntKind.wrap .u64 (a4-1))).toNat)))-a2))))) (Ab a0 (AN a5) z)),a1,a2,y1,a4,(IntKind.wrap .i64 (a5+1)),()))
  |false=>match idx a0 (IntKind.wrap .i64 (a1+(IntKind.wrap .i64 (IntKind.wrap .u64 ((BitVec.ofInt (IntKind.bits .u64) y2 &&& BitVec.ofInt (IntKind.bits .u64) (IntKind.wrap .u64 (a4-1))).toNat)))))with|none=>none|some x7=>match idx a0 a5 with|none=>none|some x8=>match idx a0 a5 with|none=>none|some x9=>match idx (BA a0 (AN a5) (Ab a0 (AN (IntKind.wrap .i64 (a1+(IntKind.wrap .i64 (IntKind.wrap .u64 ((BitVec.ofInt (IntKind.bits .u64) y2 &&& BitVec.ofInt (IntKind.bits .u64) (IntKind.wrap .u64 (a4-1))).toNat)))))) z)) (IntKind.wrap .i64 (a1+(IntKind.wrap .i64 (IntKind.wrap .u64 ((BitVec.ofInt (IntKind.bits .u64) y2 &&& BitVec.ofInt (IntKind.bits .u64) (IntKind.wrap .u64 (a4-1))).toNat)))))with|none=>none|some x10=>some (.inl ((BA (BA a0 (AN a5) (Ab a0 (AN (IntKind.wrap .i64 (a1+(IntKind.wrap .i64 (IntKind.wrap .u64 ((BitVec.ofInt (IntKind.bits .u64) y2 &&& BitVec.ofInt (IntKind.bits .u64) (IntKind.wrap .u64 (a4-1))).toNat)))))) z)) (AN (IntKind.wrap .i64 (a1+(IntKind.wrap .i64 (IntKind.wrap .u64 ((BitVec.ofInt (IntKind.bits .u64) y2 &&& BitVec.ofInt (IntKind.bits .u64) (IntKind.wrap .u64 (a4-1))).toNat)))))) (Ab a0 (AN a5) z)),a1,a2,y1,a4,(IntKind.wrap .i64 (a5+1)),()))
 |false=>some (.inr (.inl (a0,())))
def Nu[Lk]{α:Type}(z:α)(c:α×α×Unit→Option U9):(List α×Int×Int×Unit)→Option ((List α×Unit)):=fun(a0,a1,a2,_)=>
 match(ile 8 (IntKind.wrap .i64 (a2-a1)))with
 |true=>match Rv ((IntKind.wrap .i64 (a2-a1)),())with|none=>none|some (y0,_)=>match quo? .i64 (IntKind.wrap .i64 (a2-a1)) 4 with|none=>none|some x1=>match AX (Fy z c) many (a0,a1,(IntKind.wrap .i64 (a2-a1)),(IntKind.wrap .u64 (IntKind.wrap .i64 (a2-a1))),y0,(IntKind.wrap .i64 ((IntKind.wrap .i64 (a1+(IntKind.wrap .i64 (x1*2))))-1)),())with|none=>none|some r=>match r with
  |.inl (o2,_)=>some (o2,())
  |.inr _=>none
 |false=>some (a0,())
def AFP[Lk]{α:Type}(z:α)(c:α×α×Unit→Option U9)(v:(List α×Int×Int×Unit)):Option ((List α×Unit)):=Lk.f ((Nu z c) v)
theorem Ad5{α:Type}(z:α)(c:α×α×Unit→Option U9)(v:(List α×Int×Int×Unit)):(AFP z c) v=(Nu z c) v:=AJ _
def KL[Lk]{α:Type}(z:α)(c:α×α×Unit→Option U9):(List α×Int×Int×Int×Unit)→Option ((List α×Int×Int×Int×Unit)):=fun(a0,a1,a2,a3,_)=>
 match idx a0 a2 with|none=>none|some x0=>match idx a0 a1 with|none=>none|some x1=>match c ((Ab a0 (AN a2) z),(Ab a0 (AN a1) z),())with|none=>none|some (y2,_)=>match(ilt y2 0)with
 |true=>some (a0,(IntKind.wrap .i64 (a3+1)),a2,a1,())
 |false=>some (a0,a3,a1,a2,())
def LA[Lk]{α:Type}(z:α)(c:α×α×Unit→Option U9)(v:(List α×Int×Int×Int×Unit)):Option ((List α×Int×Int×Int×Unit)):=Lk.f ((KL z c) v)
theorem AV1{α:Type}(z:α)(c:α×α×Unit→Option U9)(v:(List α×Int×Int×Int×Unit)):(LA z c) v=(KL z c) v:=AJ _
def KO[Lk]{α:Type}(z:α)(c:α×α×Unit→Option U9):(List α×Int×Int×Int×Int×Unit)→Option ((List α×Int×Int×Unit)):=fun(a0,a1,a2,a3,a4,_)=>
 match(LA z c) (a0,a1,a2,a4,())with|none=>none|some (y0,y1,y2,y3,_)=>match(LA z c) (y0,y3,a3,y1,())with|none=>none|some (y4,y5,y6,y7,_)=>match(LA z c) (y4,y2,y6,y5,())with|none=>none|some (y8,y9,y10,y11,_)=>some (y8,y9,y11,())
def LJ[Lk]{α:Type}(z:α)(c:α×α×Unit→Option U9)(v:(List α×Int×Int×Int×Int×Unit)):Option ((List α×Int×Int×Unit)):=Lk.f ((KO z c) v)
theorem AWT{α:Type}(z:α)(c:α×α×Unit→Option U9)(v:(List α×Int×Int×Int×Int×Unit)):(LJ z c) v=(KO z c) v:=AJ _
def KP[Lk]{α:Type}(z:α)(c:α×α×Unit→Option U9):(List α×Int×Int×Unit)→Option ((List α×Int×Int×Unit)):=fun(a0,a1,a2,_)=>
 match(LJ z c) (a0,(IntKind.wrap .i64 (a1-1)),a1,(IntKind.wrap .i64 (a1+1)),a2,())with|none=>none|some (y0,y1,y2,_)=>some (y0,y1,y2,())
def LK[Lk]{α:Type}(z:α)(c:α×α×Unit→Option U9)(v:(List α×Int×Int×Unit)):Option ((List α×Int×Int×Unit)):=Lk.f ((KP z c) v)
theorem AWW{α:Type}(z:α)(c:α×α×Unit→Option U9)(v:(List α×Int×Int×Unit)):(LK z c) v=(KP z c) v:=AJ _
def M9[Lk]{α:Type}(z:α)(c:α×α×Unit→Option U9):(List α×Int×Int×Unit)→Option ((List α×Int×Int×Unit)):=fun(a0,a1,a2,_)=>
 match quo? .i64 (IntKind.wrap .i64 (a2-a1)) 4 with|none=>none|some x0=>match quo? .i64 (IntKind.wrap .i64 (a2-a1)) 4 with|none=>none|some x1=>match quo? .i64 (IntKind.wrap .i64 (a2-a1)) 4 with|none=>none|some x2=>match(ile 8 (IntKind.wrap .i64 (a2-a1)))with
 |true=>match(ile 50 (IntKind.wrap .i64 (a2-a1)))with
  |true=>match(LK z c) (a0,(IntKind.wrap .i64 (a1+(IntKind.wrap .i64 (x0*1)))),0,())with|none=>none|some (y3,y4,y5,_)=>match(LK z c) (y3,(IntKind.wrap .i64 (a1+(IntKind.wrap .i64 (x1*2)))),y4,())with|none=>none|some (y6,y7,y8,_)=>match(LK z c) (y6,(IntKind.wrap .i64 (a1+(IntKind.wrap .i64 (x2*3)))),y7,())with|none=>none|some (y9,y10,y11,_)=>match(LJ z c) (y9,y5,y8,y11,y10,())with|none=>none|some (y12,y13,y14,_)=>match(ieq y13 0)with
   |true=>some (y12,y14,1,())
   |false=>match(ieq y13 12)with
   |true=>some (y12,y14,2,())
   |false=>some (y12,y14,0,())
  |false=>match(LJ z c) (a0,(IntKind.wrap .i64 (a1+(IntKind.wrap .i64 (x0*1)))),(IntKind.wrap .i64 (a1+(IntKind.wrap .i64 (x1*2)))),(IntKind.wrap .i64 (a1+(IntKind.wrap .i64 (x2*3)))),0,())with|none=>none|some (y15,y16,y17,_)=>match(ieq y16 0)with
  |true=>some (y15,y17,1,())
  |false=>match(ieq y16 12)with
  |true=>some (y15,y17,2,())
  |false=>some (y15,y17,0,())
 |false=>match(ieq 0 0)with
 |true=>some (a0,(IntKind.wrap .i64 (a1+(IntKind.wrap .i64 (x1*2)))),1,())
 |false=>match(ieq 0 12)with
 |true=>some (a0,(IntKind.wrap .i64 (a1+(IntKind.wrap .i64 (x1*2)))),2,())
 |false=>some (a0,(IntKind.wrap .i64 (a1+(IntKind.wrap .i64 (x1*2)))),0,())
def ACc[Lk]{α:Type}(z:α)(c:α×α×Unit→Option U9)(v:(List α×Int×Int×Unit)):Option ((List α×Int×Int×Unit)):=Lk.f ((M9 z c) v)
theorem Ab0{α:Type}(z:α)(c:α×α×Unit→Option U9)(v:(List α×Int×Int×Unit)):(ACc z c) v=(M9 z c) v:=AJ _
def Ri[Lk]{α:Type}(z:α)(c:α×α×Unit→Option U9):(List α×Int×Int×Unit)→Option ((List α×Int×Int×Unit)⊕(List α×Unit)⊕Unit):=fun(a0,a1,a2,_)=>
 match(ilt a1 a2)with
 |true=>match idx a0 a2 with|none=>none|some x0=>match idx a0 a1 with|none=>none|some x1=>match idx a0 a1 with|none=>none|some x2=>match idx (BA a0 (AN a1) (Ab a0 (AN a2) z)) a2 with|none=>none|some x3=>some (.inl ((BA (BA a0 (AN a1) (Ab a0 (AN a2) z)) (AN a2) (Ab a0 (AN a1) z)),(IntKind.wrap .i64 (a1+1)),(IntKind.wrap .i64 (a2-1)),()))
 |false=>some (.inr (.inl (a0,())))
def ACA[Lk]{α:Type}(z:α)(c:α×α×Unit→Option U9):(List α×Int×Int×Unit)→Option ((List α×Unit)):=fun(a0,a1,a2,_)=>
 match AX (Ri z c) many (a0,a1,(IntKind.wrap .i64 (a2-1)),())with|none=>none|some r=>match r with
 |.inl (o0,_)=>some (o0,())
 |.inr _=>none
def Afo[Lk]{α:Type}(z:α)(c:α×α×Unit→Option U9)(v:(List α×Int×Int×Unit)):Option ((List α×Unit)):=Lk.f ((ACA z c) v)
theorem AjO{α:Type}(z:α)(c:α×α×Unit→Option U9)(v:(List α×Int×Int×Unit)):(Afo z c) v=(ACA z c) v:=AJ _
def Ek[Lk]{α:Type}(z:α)(c:α×α×Unit→Option U9):(List α×Int×Int×Int×Int×Int×Unit)→Option ((List α×Int×Int×Int×Int×Int×Unit)⊕(List α×Int×Int×Int×Int×Unit)⊕Unit):=fun(a0,a1,a2,a3,a4,a5,_)=>
 match(ilt a5 a2)with
 |true=>match idx a0 a5 with|none=>none|some x0=>match idx a0 (IntKind.wrap .i64 (a5-1))with|none=>none|some x1=>match c ((Ab a0 (AN a5) z),(Ab a0 (AN (IntKind.wrap .i64 (a5-1))) z),())with|none=>none|some (y2,_)=>match(!(ilt y2 0))with
  |true=>some (.inr (.inl (a0,a1,a2,a3,a4,())))
  |false=>match idx a0 (IntKind.wrap .i64 (a5-1))with|none=>none|some x3=>match idx a0 a5 with|none=>none|some x4=>match idx a0 a5 with|none=>none|some x5=>match idx (BA a0 (AN a5) (Ab a0 (AN (IntKind.wrap .i64 (a5-1))) z)) (IntKind.wrap .i64 (a5-1))with|none=>none|some x6=>some (.inl ((BA (BA a0 (AN a5) (Ab a0 (AN (IntKind.wrap .i64 (a5-1))) z)) (AN (IntKind.wrap .i64 (a5-1))) (Ab a0 (AN a5) z)),a1,a2,a3,a4,(IntKind.wrap .i64 (a5+1)),()))
 |false=>some (.inr (.inl (a0,a1,a2,a3,a4,())))
def El[Lk]{α:Type}(z:α)(c:α×α×Unit→Option U9):(List α×Int×Int×Int×Int×Int×Unit)→Option ((List α×Int×Int×Int×Int×Int×Unit)⊕(List α×Int×Int×Int×Int×Unit)⊕Unit):=fun(a0,a1,a2,a3,a4,a5,_)=>
 match(ile 1 a5)with
 |true=>match idx a0 a5 with|none=>none|some x0=>match idx a0 (IntKind.wrap .i64 (a5-1))with|none=>none|some x1=>match c ((Ab a0 (AN a5) z),(Ab a0 (AN (IntKind.wrap .i64 (a5-1))) z),())with|none=>none|some (y2,_)=>match(!(ilt y2 0))with
  |true=>some (.inr (.inl (a0,a1,a2,a3,a4,())))
  |false=>match idx a0 (IntKind.wrap .i64 (a5-1))with|none=>none|some x3=>match idx a0 a5 with|none=>none|some x4=>match idx a0 a5 with|none=>none|some x5=>match idx (BA a0 (AN a5) (Ab a0 (AN (IntKind.wrap .i64 (a5-1))) z)) (IntKind.wrap .i64 (a5-1))with|none=>none|some x6=>some (.inl ((BA (BA a0 (AN a5) (Ab a0 (AN (IntKind.wrap .i64 (a5-1))) z)) (AN (IntKind.wrap .i64 (a5-1))) (Ab a0 (AN a5) z)),a1,a2,a3,a4,(IntKind.wrap .i64 (a5-1)),()))
 |false=>some (.inr (.inl (a0,a1,a2,a3,a4,())))
def Gc[Lk]{α:Type}(z:α)(c:α×α×Unit→Option U9):(List α×Int×Int×Int×Int×Unit)→Option ((List α×Int×Int×Int×Int×Unit)⊕(List α×Int×Int×Int×Int×Unit)⊕Unit):=fun(a0,a1,a2,a3,a4,_)=>
 match(ilt a3 a2)with
 |true=>match idx a0 a3 with|none=>none|some x0=>match idx a0 (IntKind.wrap .i64 (a3-1))with|none=>none|some x1=>match c ((Ab a0 (AN a3) z),(Ab a0 (AN (IntKind.wrap .i64 (a3-1))) z),())with|none=>none|some (y2,_)=>match(!(ilt y2 0))with
  |true=>some (.inl (a0,a1,a2,(IntKind.wrap .i64 (a3+1)),a4,()))
  |false=>some (.inr (.inl (a0,a1,a2,a3,a4,())))
 |false=>some (.inr (.inl (a0,a1,a2,a3,a4,())))
def CT[Lk]{α:Type}(z:α)(c:α×α×Unit→Option U9):(List α×Int×Int×Int×Int×Unit)→Option ((List α×Int×Int×Int×Int×Unit)⊕(List α×Bool×Unit)⊕(List α×Unit)⊕Unit):=fun(a0,a1,a2,a3,a4,_)=>
 match(ilt a4 5)with
 |true=>match AX (Gc z c) many (a0,a1,a2,a3,a4,())with|none=>none|some r=>match r with
  |.inl (o0,o1,o2,o3,o4,_)=>match(ieq o3 o2)with
   |true=>some (.inr (.inl (o0,true,())))
   |false=>match(ilt (IntKind.wrap .i64 (o2-o1)) 50)with
   |true=>some (.inr (.inl (o0,false,())))
   |false=>match idx o0 (IntKind.wrap .i64 (o3-1))with|none=>none|some x5=>match idx o0 o3 with|none=>none|some x6=>match idx o0 o3 with|none=>none|some x7=>match idx (BA o0 (AN o3) (Ab o0 (AN (IntKind.wrap .i64 (o3-1))) z)) (IntKind.wrap .i64 (o3-1))with|none=>none|some x8=>match(ile 2 (IntKind.wrap .i64 (o3-o1)))with
   |true=>match AX (El z c) many ((BA (BA o0 (AN o3) (Ab o0 (AN (IntKind.wrap .i64 (o3-1))) z)) (AN (IntKind.wrap .i64 (o3-1))) (Ab o0 (AN o3) z)),o1,o2,o3,o4,(IntKind.wrap .i64 (o3-1)),())with|none=>none|some r=>match r with
    |.inl (o9,o10,o11,o12,o13,_)=>match(ile 2 (IntKind.wrap .i64 (o11-o12)))with
     |true=>match AX (Ek z c) many (o9,o10,o11,o12,o13,(IntKind.wrap .i64 (o12+1)),())with|none=>none|some r=>match r with
      |.inl (o14,o15,o16,o17,o18,_)=>some (.inl (o14,o15,o16,o17,(IntKind.wrap .i64 (o18+1)),()))
      |.inr _=>none
     |false=>some (.inl (o9,o10,o11,o12,(IntKind.wrap .i64 (o13+1)),()))
    |.inr _=>none
   |false=>match(ile 2 (IntKind.wrap .i64 (o2-o3)))with
   |true=>match AX (Ek z c) many ((BA (BA o0 (AN o3) (Ab o0 (AN (IntKind.wrap .i64 (o3-1))) z)) (AN (IntKind.wrap .i64 (o3-1))) (Ab o0 (AN o3) z)),o1,o2,o3,o4,(IntKind.wrap .i64 (o3+1)),())with|none=>none|some r=>match r with
    |.inl (o19,o20,o21,o22,o23,_)=>some (.inl (o19,o20,o21,o22,(IntKind.wrap .i64 (o23+1)),()))
    |.inr _=>none
   |false=>some (.inl ((BA (BA o0 (AN o3) (Ab o0 (AN (IntKind.wrap .i64 (o3-1))) z)) (AN (IntKind.wrap .i64 (o3-1))) (Ab o0 (AN o3) z)),o1,o2,o3,(IntKind.wrap .i64 (o4+1)),()))
  |.inr _=>none
 |false=>some (.inr (.inr (.inl (a0,()))))
def Hv[Lk]{α:Type}(z:α)(c:α×α×Unit→Option U9):(List α×Int×Int×Unit)→Option ((List α×Bool×Unit)):=fun(a0,a1,a2,_)=>
 match AX (CT z c) many (a0,a1,a2,(IntKind.wrap .i64 (a1+1)),0,())with|none=>none|some r=>match r with
 |.inl (o0,o1,_)=>some (o0,o1,())
 |.inr r=>match r with
 |.inl (o2,_)=>some (o2,false,())
 |.inr _=>none
def NA[Lk]{α:Type}(z:α)(c:α×α×Unit→Option U9)(v:(List α×Int×Int×Unit)):Option ((List α×Bool×Unit)):=Lk.f ((Hv z c) v)
theorem AQM{α:Type}(z:α)(c:α×α×Unit→Option U9)(v:(List α×Int×Int×Unit)):(NA z c) v=(Hv z c) v:=AJ _
def Hw[Lk]{α:Type}(z:α)(c:α×α×Unit→Option U9):(List α×Int×Int×Int×Unit)→Option ((List α×Int×Int×Int×Unit)⊕(List α×Int×Int×Int×Unit)⊕Unit):=fun(a0,a1,a2,a3,_)=>
 match(ile a2 a3)with
 |true=>match idx a0 a1 with|none=>none|some x0=>match idx a0 a3 with|none=>none|some x1=>match c ((Ab a0 (AN a1) z),(Ab a0 (AN a3) z),())with|none=>none|some (y2,_)=>match(ilt y2 0)with
  |true=>some (.inl (a0,a1,a2,(IntKind.wrap .i64 (a3-1)),()))
  |false=>some (.inr (.inl (a0,a1,a2,a3,())))
 |false=>some (.inr (.inl (a0,a1,a2,a3,())))
def Hx[Lk]{α:Type}(z:α)(c:α×α×Unit→Option U9):(List α×Int×Int×Int×Unit)→Option ((List α×Int×Int×Int×Unit)⊕(List α×Int×Int×Int×Unit)⊕Unit):=fun(a0,a1,a2,a3,_)=>
 match(ile a2 a3)with
 |true=>match idx a0 a1 with|none=>none|some x0=>match idx a0 a2 with|none=>none|some x1=>match c ((Ab a0 (AN a1) z),(Ab a0 (AN a2) z),())with|none=>none|some (y2,_)=>match(!(ilt y2 0))with
  |true=>some (.inl (a0,a1,(IntKind.wrap .i64 (a2+1)),a3,()))
  |false=>some (.inr (.inl (a0,a1,a2,a3,())))
 |false=>some (.inr (.inl (a0,a1,a2,a3,())))
def Hy[Lk]{α:Type}(z:α)(c:α×α×Unit→Option U9):(List α×Int×Int×Int×Unit)→Option ((List α×Int×Int×Int×Unit)⊕(List α×Int×Unit)⊕Unit):=fun(a0,a1,a2,a3,_)=>
 match AX (Hx z c) many (a0,a1,a2,a3,())with|none=>none|some r=>match r with
 |.inl (o0,o1,o2,o3,_)=>match AX (Hw z c) many (o0,o1,o2,o3,())with|none=>none|some r=>match r with
  |.inl (o4,o5,o6,o7,_)=>match(ilt o7 o6)with
   |true=>some (.inr (.inl (o4,o6,())))
   |false=>match idx o4 o7 with|none=>none|some x8=>match idx o4 o6 with|none=>none|some x9=>match idx o4 o6 with|none=>none|some x10=>match idx (BA o4 (AN o6) (Ab o4 (AN o7) z)) o7 with|none=>none|some x11=>some (.inl ((BA (BA o4 (AN o6) (Ab o4 (AN o7) z)) (AN o7) (Ab o4 (AN o6) z)),o5,(IntKind.wrap .i64 (o6+1)),(IntKind.wrap .i64 (o7-1)),()))
  |.inr _=>none
 |.inr _=>none
def KJ[Lk]{α:Type}(z:α)(c:α×α×Unit→Option U9):(List α×Int×Int×Int×Unit)→Option ((List α×Int×Unit)):=fun(a0,a1,a2,a3,_)=>
 match idx a0 a3 with|none=>none|some x0=>match idx a0 a1 with|none=>none|some x1=>match idx a0 a1 with|none=>none|some x2=>match idx (BA a0 (AN a1) (Ab a0 (AN a3) z)) a3 with|none=>none|some x3=>match AX (Hy z c) many ((BA (BA a0 (AN a1) (Ab a0 (AN a3) z)) (AN a3) (Ab a0 (AN a1) z)),a1,(IntKind.wrap .i64 (a1+1)),(IntKind.wrap .i64 (a2-1)),())with|none=>none|some r=>match r with
 |.inl (o4,o5,_)=>some (o4,o5,())
 |.inr _=>none
def Rp[Lk]{α:Type}(z:α)(c:α×α×Unit→Option U9)(v:(List α×Int×Int×Int×Unit)):Option ((List α×Int×Unit)):=Lk.f ((KJ z c) v)
theorem AVp{α:Type}(z:α)(c:α×α×Unit→Option U9)(v:(List α×Int×Int×Int×Unit)):(Rp z c) v=(KJ z c) v:=AJ _
def NB[Lk]{α:Type}(z:α)(c:α×α×Unit→Option U9):(List α×Int×Int×Int×Unit)→Option ((List α×Int×Int×Int×Unit)⊕(List α×Int×Int×Int×Unit)⊕Unit):=fun(a0,a1,a2,a3,_)=>
 match(ile a2 a3)with
 |true=>match idx a0 a3 with|none=>none|some x0=>match idx a0 a1 with|none=>none|some x1=>match c ((Ab a0 (AN a3) z),(Ab a0 (AN a1) z),())with|none=>none|some (y2,_)=>match(!(ilt y2 0))with
  |true=>some (.inl (a0,a1,a2,(IntKind.wrap .i64 (a3-1)),()))
  |false=>some (.inr (.inl (a0,a1,a2,a3,())))
 |false=>some (.inr (.inl (a0,a1,a2,a3,())))
def NC[Lk]{α:Type}(z:α)(c:α×α×Unit→Option U9):(List α×Int×Int×Int×Unit)→Option ((List α×Int×Int×Int×Unit)⊕(List α×Int×Int×Int×Unit)⊕Unit):=fun(a0,a1,a2,a3,_)=>
 match(ile a2 a3)with
 |true=>match idx a0 a2 with|none=>none|some x0=>match idx a0 a1 with|none=>none|some x1=>match c ((Ab a0 (AN a2) z),(Ab a0 (AN a1) z),())with|none=>none|some (y2,_)=>match(ilt y2 0)with
  |true=>some (.inl (a0,a1,(IntKind.wrap .i64 (a2+1)),a3,()))
  |false=>some (.inr (.inl (a0,a1,a2,a3,())))
 |false=>some (.inr (.inl (a0,a1,a2,a3,())))
def ND[Lk]{α:Type}(z:α)(c:α×α×Unit→Option U9):(List α×Int×Int×Int×Unit)→Option ((List α×Int×Int×Int×Unit)⊕(List α×Int×Int×Unit)⊕Unit):=fun(a0,a1,a2,a3,_)=>
 match AX (NC z c) many (a0,a1,a2,a3,())with|none=>none|some r=>match r with
 |.inl (o0,o1,o2,o3,_)=>match AX (NB z c) many (o0,o1,o2,o3,())with|none=>none|some r=>match r with
  |.inl (o4,o5,o6,o7,_)=>match(ilt o7 o6)with
   |true=>some (.inr (.inl (o4,o5,o7,())))
   |false=>match idx o4 o7 with|none=>none|some x8=>match idx o4 o6 with|none=>none|some x9=>match idx o4 o6 with|none=>none|some x10=>match idx (BA o4 (AN o6) (Ab o4 (AN o7) z)) o7 with|none=>none|some x11=>some (.inl ((BA (BA o4 (AN o6) (Ab o4 (AN o7) z)) (AN o7) (Ab o4 (AN o6) z)),o5,(IntKind.wrap .i64 (o6+1)),(IntKind.wrap .i64 (o7-1)),()))
  |.inr _=>none
 |.inr _=>none
def NF[Lk]{α:Type}(z:α)(c:α×α×Unit→Option U9):(List α×Int×Int×Int×Unit)→Option ((List α×Int×Int×Int×Unit)⊕(List α×Int×Int×Int×Unit)⊕Unit):=fun(a0,a1,a2,a3,_)=>
 match(ile a2 a3)with
 |true=>match idx a0 a3 with|none=>none|some x0=>match idx a0 a1 with|none=>none|some x1=>match c ((Ab a0 (AN a3) z),(Ab a0 (AN a1) z),())with|none=>none|some (y2,_)=>match(!(ilt y2 0))with
  |true=>some (.inl (a0,a1,a2,(IntKind.wrap .i64 (a3-1)),()))
  |false=>some (.inr (.inl (a0,a1,a2,a3,())))
 |false=>some (.inr (.inl (a0,a1,a2,a3,())))
def NG[Lk]{α:Type}(z:α)(c:α×α×Unit→Option U9):(List α×Int×Int×Int×Unit)→Option ((List α×Int×Int×Int×Unit)⊕(List α×Int×Int×Int×Unit)⊕Unit):=fun(a0,a1,a2,a3,_)=>
 match(ile a2 a3)with
 |true=>match idx a0 a2 with|none=>none|some x0=>match idx a0 a1 with|none=>none|some x1=>match c ((Ab a0 (AN a2) z),(Ab a0 (AN a1) z),())with|none=>none|some (y2,_)=>match(ilt y2 0)with
  |true=>some (.inl (a0,a1,(IntKind.wrap .i64 (a2+1)),a3,()))
  |false=>some (.inr (.inl (a0,a1,a2,a3,())))
 |false=>some (.inr (.inl (a0,a1,a2,a3,())))
def Ro[Lk]{α:Type}(z:α)(c:α×α×Unit→Option U9):(List α×Int×Int×Int×Unit)→Option ((List α×Int×Bool×Unit)):=fun(a0,a1,a2,a3,_)=>
 match idx a0 a3 with|none=>none|some x0=>match idx a0 a1 with|none=>none|some x1=>match idx a0 a1 with|none=>none|some x2=>match idx (BA a0 (AN a1) (Ab a0 (AN a3) z)) a3 with|none=>none|some x3=>match AX (NG z c) many ((BA (BA a0 (AN a1) (Ab a0 (AN a3) z)) (AN a3) (Ab a0 (AN a1) z)),a1,(IntKind.wrap .i64 (a1+1)),(IntKind.wrap .i64 (a2-1)),())with|none=>none|some r=>match r with
 |.inl (o4,o5,o6,o7,_)=>match AX (NF z c) many (o4,o5,o6,o7,())with|none=>none|some r=>match r with
  |.inl (o8,o9,o10,o11,_)=>match(ilt o11 o10)with
   |true=>match idx o8 o9 with|none=>none|some x12=>match idx o8 o11 with|none=>none|some x13=>match idx o8 o11 with|none=>none|some x14=>match idx (BA o8 (AN o11) (Ab o8 (AN o9) z)) o9 with|none=>none|some x15=>some ((BA (BA o8 (AN o11) (Ab o8 (AN o9) z)) (AN o9) (Ab o8 (AN o11) z)),o11,true,())
   |false=>match idx o8 o11 with|none=>none|some x16=>match idx o8 o10 with|none=>none|some x17=>match idx o8 o10 with|none=>none|some x18=>match idx (BA o8 (AN o10) (Ab o8 (AN o11) z)) o11 with|none=>none|some x19=>match AX (ND z c) many ((BA (BA o8 (AN o10) (Ab o8 (AN o11) z)) (AN o11) (Ab o8 (AN o10) z)),o9,(IntKind.wrap .i64 (o10+1)),(IntKind.wrap .i64 (o11-1)),())with|none=>none|some r=>match r with
   |.inl (o20,o21,o22,_)=>match idx o20 o21 with|none=>none|some x23=>match idx o20 o22 with|none=>none|some x24=>match idx o20 o22 with|none=>none|some x25=>match idx (BA o20 (AN o22) (Ab o20 (AN o21) z)) o21 with|none=>none|some x26=>some ((BA (BA o20 (AN o22) (Ab o20 (AN o21) z)) (AN o21) (Ab o20 (AN o22) z)),o22,false,())
   |.inr _=>none
  |.inr _=>none
 |.inr _=>none
def AC6[Lk]{α:Type}(z:α)(c:α×α×Unit→Option U9)(v:(List α×Int×Int×Int×Unit)):Option ((List α×Int×Bool×Unit)):=Lk.f ((Ro z c) v)
theorem AgL{α:Type}(z:α)(c:α×α×Unit→Option U9)(v:(List α×Int×Int×Int×Unit)):(AC6 z c) v=(Ro z c) v:=AJ _
def VJ[Lk]{α:Type}(z:α)(c:α×α×Unit→Option U9)(self:(List α×Int×Int×Int×Unit)→Option ((List α×Unit)))(y7:List α)(a1 a2 p l:Int)(a4 a5:Bool):Option ((List α×Int×Int×Int×Bool×Bool×Unit)⊕(List α×Unit)⊕Unit):=
 match(ilt 0 a1)with
 |true=>match idx y7 (IntKind.wrap .i64 (a1-1))with|none=>none|some x9=>match idx y7 p with|none=>none|some x10=>match c ((Ab y7 (AN (IntKind.wrap .i64 (a1-1))) z),(Ab y7 (AN p) z),())with|none=>none|some (y11,_)=>match(!(ilt y11 0))with
  |true=>match(Rp z c) (y7,a1,a2,p,())with|none=>none|some (y12,y13,_)=>some (.inl (y12,y13,a2,l,a4,a5,()))
  |false=>match(AC6 z c) (y7,a1,a2,p,())with|none=>none|some (y14,y15,y16,_)=>match quo? .i64 (IntKind.wrap .i64 (a2-a1)) 8 with|none=>none|some x17=>match(ilt (IntKind.wrap .i64 (y15-a1)) (IntKind.wrap .i64 (a2-y15)))with
  |true=>match self (y14,a1,y15,l,())with|none=>none|some (y18,_)=>some (.inl (y18,(IntKind.wrap .i64 (y15+1)),a2,l,(ile x17 (IntKind.wrap .i64 (y15-a1))),y16,()))
  |false=>match self (y14,(IntKind.wrap .i64 (y15+1)),a2,l,())with|none=>none|some (y19,_)=>some (.inl (y19,a1,y15,l,(ile x17 (IntKind.wrap .i64 (a2-y15))),y16,()))
 |false=>match(AC6 z c) (y7,a1,a2,p,())with|none=>none|some (y20,y21,y22,_)=>match quo? .i64 (IntKind.wrap .i64 (a2-a1)) 8 with|none=>none|some x23=>match(ilt (IntKind.wrap .i64 (y21-a1)) (IntKind.wrap .i64 (a2-y21)))with
 |true=>match self (y20,a1,y21,l,())with|none=>none|some (y24,_)=>some (.inl (y24,(IntKind.wrap .i64 (y21+1)),a2,l,(ile x23 (IntKind.wrap .i64 (y21-a1))),y22,()))
 |false=>match self (y20,(IntKind.wrap .i64 (y21+1)),a2,l,())with|none=>none|some (y25,_)=>some (.inl (y25,a1,y21,l,(ile x23 (IntKind.wrap .i64 (a2-y21))),y22,()))
def ALT[Lk]{α:Type}(z:α)(c:α×α×Unit→Option U9)(self:(List α×Int×Int×Int×Unit)→Option ((List α×Unit)))(y6:List α)(a1 a2 p h l:Int)(a4 a5:Bool):Option ((List α×Int×Int×Int×Bool×Bool×Unit)⊕(List α×Unit)⊕Unit):=
 match a4 with
 |true=>match a5 with
  |true=>match(ieq h 1)with
   |true=>match(NA z c) (y6,a1,a2,())with|none=>none|some (y7,y8,_)=>match y8 with
    |true=>some (.inr (.inl (y7,())))
    |false=>(VJ z c) self y7 a1 a2 p l a4 a5
   |false=>(VJ z c) self y6 a1 a2 p l a4 a5
  |false=>(VJ z c) self y6 a1 a2 p l a4 a5
 |false=>(VJ z c) self y6 a1 a2 p l a4 a5
def ALS[Lk]{α:Type}(z:α)(c:α×α×Unit→Option U9)(self:(List α×Int×Int×Int×Unit)→Option ((List α×Unit)))(y2:List α)(a1 a2 l:Int)(a4 a5:Bool):Option ((List α×Int×Int×Int×Bool×Bool×Unit)⊕(List α×Unit)⊕Unit):=
 match(ACc z c) (y2,a1,a2,())with|none=>none|some (y3,y4,y5,_)=>match(ieq y5 2)with
 |true=>match(Afo z c) (y3,a1,a2,())with|none=>none|some (y6,_)=>(ALT z c) self y6 a1 a2 (IntKind.wrap .i64 ((IntKind.wrap .i64 (a2-1))-(IntKind.wrap .i64 (y4-a1)))) 1 l a4 a5
 |false=>(ALT z c) self y3 a1 a2 y4 y5 l a4 a5
def OY[Lk]{α:Type}(z:α)(c:α×α×Unit→Option U9)(self:(List α×Int×Int×Int×Unit)→Option ((List α×Unit))):(List α×Int×Int×Int×Bool×Bool×Unit)→Option ((List α×Int×Int×Int×Bool×Bool×Unit)⊕(List α×Unit)⊕Unit):=fun(a0,a1,a2,a3,a4,a5,_)=>
 match(ile (IntKind.wrap .i64 (a2-a1)) 12)with
 |true=>match(AhE z c) (a0,a1,a2,())with|none=>none|some (y0,_)=>some (.inr (.inl (y0,())))
 |false=>match(ieq a3 0)with
 |true=>match(ARr z c) (a0,a1,a2,())with|none=>none|some (y1,_)=>some (.inr (.inl (y1,())))
 |false=>match(!a4)with
 |true=>match(AFP z c) (a0,a1,a2,())with|none=>none|some (y2,_)=>(ALS z c) self y2 a1 a2 (IntKind.wrap .i64 (a3-1)) a4 a5
 |false=>(ALS z c) self a0 a1 a2 a3 a4 a5
def ACp[Lk]{α:Type}(z:α)(c:α×α×Unit→Option U9)(self:(List α×Int×Int×Int×Unit)→Option ((List α×Unit))):(List α×Int×Int×Int×Unit)→Option ((List α×Unit)):=fun(a0,a1,a2,a3,_)=>
 match AX ((OY z c) self) many (a0,a1,a2,a3,true,true,())with|none=>none|some r=>match r with
 |.inl (o0,_)=>some (o0,())
 |.inr _=>none
def K9[Lk]{α:Type}(z:α)(c:α×α×Unit→Option U9):Nat→(List α×Int×Int×Int×Unit)→Option ((List α×Unit))
 |0,_=>none
 |n+1,v=>(ACp z c) ((K9 z c) n) v
def Af7[Lk]{α:Type}(z:α)(c:α×α×Unit→Option U9)(v:(List α×Int×Int×Int×Unit)):Option ((List α×Unit)):=Lk.f ((K9 z c) 100 v)
theorem AjY{α:Type}(z:α)(c:α×α×Unit→Option U9)(v:(List α×Int×Int×Int×Unit)):(Af7 z c) v=(K9 z c) 100 v:=AJ _
def RZ[Lk]{α:Type}(z:α)(c:α×α×Unit→Option U9):(List α×Unit)→Option ((List α×Unit)):=fun(a0,_)=>
 match bitsLen ((IntKind.wrap .u64 (AK a0)),())with|none=>none|some (y0,_)=>match(Af7 z c) (a0,0,(AK a0),y0,())with|none=>none|some (y1,_)=>some (y1,())
def AYr[Lk]{α:Type}(z:α)(c:α×α×Unit→Option U9)(v:(List α×Unit)):Option ((List α×Unit)):=Lk.f ((RZ z c) v)
theorem AfM{α:Type}(z:α)(c:α×α×Unit→Option U9)(v:(List α×Unit)):(AYr z c) v=(RZ z c) v:=AJ _
abbrev AW5:AE:=[(.tmp 0,.own 43 U3),(.tmp 1,.di),(.tmp 2,.di),(.tmp 3,.clo 164 [])]
abbrev AW4:AE:=[(.obj 0,.own 43 U3)]
abbrev AW3:List RS:=[]
abbrev AZh:AE:=[(.obj 0,.own 43 U3),(.tmp 0,.own' 0),(.tmp 1,.di),(.tmp 2,.di),(.tmp 3,.clo 164 []),(.tmp 8,.di),(.tmp 9,.di)]
abbrev AZf:Ap:=[(.exit 2,[(.obj 0,.own 43 U3),(.tmp 0,.own' 0),(.tmp 1,.di),(.tmp 2,.di),(.tmp 3,.clo 164 []),(.tmp 8,.di)])]
def AZd[Lk]:Uj→Option (Uj⊕U7⊕Unit):=Oe (([]:List (Int)):U4) BN
abbrev AZi:AE:=[(.obj 0,.own 43 U3),(.tmp 0,.own' 0),(.tmp 1,.di),(.tmp 2,.di),(.tmp 3,.clo 164 []),(.tmp 8,.di)]
abbrev AZg:Ap:=[(.exit 0,[(.obj 0,.own 43 U3)])]
def AZe[Lk]:U7→Option (U7⊕Uo⊕Unit):=Of (([]:List (Int)):U4) BN
def AhB[Lk]:Ud→Option (Uo):=AD7 (([]:List (Int)):U4) BN
def Ald[Lk](v:Ud):Option (Uo):=AhE (([]:List (Int)):U4) BN v
theorem Aj0 v:Ald v=AhB v:=AJ _
abbrev AKm:AE:=[(.tmp 0,.own 43 U3),(.tmp 1,.di),(.tmp 2,.di),(.tmp 3,.di),(.tmp 4,.clo 164 [])]
abbrev AKl:AE:=[(.obj 0,.own 43 U3)]
abbrev AKk:List RS:=[]
abbrev AO3:AE:=[(.obj 0,.own 43 U3),(.tmp 0,.own' 0),(.tmp 2,.di),(.tmp 3,.di),(.tmp 4,.clo 164 []),(.tmp 10,.di)]
abbrev AO2:Ap:=[(.exit 0,[(.obj 0,.own 43 U3)]),(.ret,[(.obj 0,.own 43 U3)])]
def AO1[Lk]:U7→Option (U7⊕Uo⊕Uo⊕Unit):=KC (([]:List (Int)):U4) BN
def AYy[Lk]:U7→Option (Uo):=Rb (([]:List (Int)):U4) BN
def AfS[Lk](v:U7):Option (Uo):=AH0 (([]:List (Int)):U4) BN v
theorem AfR v:AfS v=AYy v:=AJ _
abbrev AMZ:AE:=[(.tmp 0,.own 43 U3),(.tmp 1,.di),(.tmp 2,.di),(.tmp 3,.clo 164 [])]
abbrev AMY:AE:=[(.obj 0,.own 43 U3)]
abbrev AMX:List RS:=[]
abbrev ARo:AE:=[(.obj 0,.own 43 U3),(.tmp 0,.own' 0),(.tmp 3,.clo 164 []),(.tmp 8,.di),(.tmp 9,.di),(.tmp 12,.di)]
abbrev ARm:Ap:=[(.exit 2,[(.obj 0,.own 43 U3)])]
def ARj[Lk]:U7→Option (U7⊕Uo⊕Unit):=KU (([]:List (Int)):U4) BN
abbrev ARp:AE:=[(.obj 0,.own 43 U3),(.tmp 0,.own' 0),(.tmp 3,.clo 164 []),(.tmp 8,.di),(.tmp 9,.di),(.tmp 10,.di),(.tmp 11,.di)]
abbrev ARn:Ap:=[(.exit 0,[(.obj 0,.own 43 U3),(.tmp 0,.own' 0),(.tmp 3,.clo 164 []),(.tmp 8,.di),(.tmp 9,.di),(.tmp 10,.di)])]
def ARl[Lk]:Uj→Option (Uj⊕U7⊕Unit):=KV (([]:List (Int)):U4) BN
def AZs[Lk]:Ud→Option (Uo):=SK (([]:List (Int)):U4) BN
def AhV[Lk](v:Ud):Option (Uo):=ARr (([]:List (Int)):U4) BN v
theorem AhU v:AhV v=AZs v:=AJ _
abbrev AFN:AE:=[(.tmp 0,.own 43 U3),(.tmp 1,.di),(.tmp 2,.di),(.tmp 3,.clo 164 [])]
abbrev AFM:AE:=[(.obj 0,.own 43 U3)]
abbrev AFL:List RS:=[]
abbrev AJB:AE:=[(.obj 0,.own 43 U3),(.tmp 0,.own' 0),(.tmp 1,.di),(.tmp 8,.di),(.tmp 9,.box 1),(.cell 1 0,.dat (.int .u64)),(.tmp 10,.dat (.int .u64)),(.tmp 11,.di)]
abbrev AJA:Ap:=[(.exit 0,[(.obj 0,.own 43 U3)])]
def AI9[Lk]:Ur→Option (Ur⊕Uo⊕Unit):=Fy (([]:List (Int)):U4) BN
def ASq[Lk]:Ud→Option (Uo):=Nu (([]:List (Int)):U4) BN
def AX9[Lk](v:Ud):Option (Uo):=AFP (([]:List (Int)):U4) BN v
theorem Ad4 v:AX9 v=ASq v:=AJ _
abbrev VS:AE:=[(.tmp 0,.own 43 U3),(.tmp 1,.di),(.tmp 2,.di),(.tmp 3,.box 1),(.cell 1 0,.di),(.tmp 4,.clo 164 [])]
abbrev VR:AE:=[(.obj 0,.own 43 U3),(.obj 1,.box 1),(.cell 1 0,.di),(.tmp 0,.di),(.tmp 1,.di)]
abbrev VQ:List RS:=[.one,.one]
def AIa[Lk]:U7→Option (U7):=KL (([]:List (Int)):U4) BN
def ALo[Lk](v:U7):Option (U7):=LA (([]:List (Int)):U4) BN v
theorem AV0 v:ALo v=AIa v:=AJ _
abbrev Vr:AE:=[(.tmp 0,.own 43 U3),(.tmp 1,.di),(.tmp 2,.di),(.tmp 3,.di),(.tmp 4,.box 1),(.cell 1 0,.di),(.tmp 5,.clo 164 [])]
abbrev Vq:AE:=[(.obj 0,.own 43 U3),(.obj 1,.box 1),(.cell 1 0,.di),(.tmp 0,.di)]
abbrev Vp:List RS:=[.one]
def AId[Lk]:Uj→Option (Ud):=KO (([]:List (Int)):U4) BN
def AL2[Lk](v:Uj):Option (Ud):=LJ (([]:List (Int)):U4) BN v
theorem AWS v:AL2 v=AId v:=AJ _
abbrev Vx:AE:=[(.tmp 0,.own 43 U3),(.tmp 1,.di),(.tmp 2,.box 1),(.cell 1 0,.di),(.tmp 3,.clo 164 [])]
abbrev Vw:AE:=[(.obj 0,.own 43 U3),(.obj 1,.box 1),(.cell 1 0,.di),(.tmp 0,.di)]
abbrev Vv:List RS:=[.one]
def AIf[Lk]:Ud→Option (Ud):=KP (([]:List (Int)):U4) BN
def AL6[Lk](v:Ud):Option (Ud):=LK (([]:List (Int)):U4) BN v
theorem AWV v:AL6 v=AIf v:=AJ _
abbrev ACb:AE:=[(.tmp 0,.own 43 U3),(.tmp 1,.di),(.tmp 2,.di),(.tmp 3,.clo 164 [])]
abbrev ACa:AE:=[(.obj 0,.own 43 U3),(.tmp 0,.di),(.tmp 1,.di)]
abbrev ACZ:List RS:=[.one,.one]
def APl[Lk]:Ud→Option (Ud):=M9 (([]:List (Int)):U4) BN
def AVR[Lk](v:Ud):Option (Ud):=ACc (([]:List (Int)):U4) BN v
theorem Abz v:AVR v=APl v:=AJ _
abbrev AUx:AE:=[(.tmp 0,.own 43 U3),(.tmp 1,.di),(.tmp 2,.di),(.tmp 3,.clo 164 [])]
abbrev AUw:AE:=[(.obj 0,.own 43 U3)]
abbrev AUv:List RS:=[]
abbrev AY9:AE:=[(.obj 0,.own 43 U3),(.tmp 0,.own' 0),(.tmp 8,.di),(.tmp 9,.di)]
abbrev AY8:Ap:=[(.exit 0,[(.obj 0,.own 43 U3)])]
def AY7[Lk]:Ud→Option (Ud⊕Uo⊕Unit):=Ri (([]:List (Int)):U4) BN
def Afm[Lk]:Ud→Option (Uo):=ACA (([]:List (Int)):U4) BN
def AlF[Lk](v:Ud):Option (Uo):=Afo (([]:List (Int)):U4) BN v
theorem AjN v:AlF v=Afm v:=AJ _
abbrev QA:AE:=[(.tmp 0,.own 43 U3),(.tmp 1,.di),(.tmp 2,.di),(.tmp 3,.clo 164 [])]
abbrev P9:AE:=[(.obj 0,.own 43 U3),(.tmp 0,.dat .bool)]
abbrev P8:List RS:=[.one]
abbrev YC:AE:=[(.obj 0,.own 43 U3),(.tmp 0,.own' 0),(.tmp 1,.di),(.tmp 2,.di),(.tmp 3,.clo 164 []),(.tmp 9,.di),(.tmp 10,.di),(.tmp 12,.di)]
abbrev X8:Ap:=[(.exit 6,[(.obj 0,.own 43 U3),(.tmp 0,.own' 0),(.tmp 1,.di),(.tmp 2,.di),(.tmp 3,.clo 164 []),(.tmp 9,.di),(.tmp 10,.di)])]
def X4[Lk]:Ur→Option (Ur⊕Uj⊕Unit):=Ek (([]:List (Int)):U4) BN
abbrev YD:AE:=[(.obj 0,.own 43 U3),(.tmp 0,.own' 0),(.tmp 1,.di),(.tmp 2,.di),(.tmp 3,.clo 164 []),(.tmp 9,.di),(.tmp 10,.di),(.tmp 11,.di)]
abbrev X9:Ap:=[(.exit 4,[(.obj 0,.own 43 U3),(.tmp 0,.own' 0),(.tmp 1,.di),(.tmp 2,.di),(.tmp 3,.clo 164 []),(.tmp 9,.di),(.tmp 10,.di)])]
def X5[Lk]:Ur→Option (Ur⊕Uj⊕Unit):=El (([]:List (Int)):U4) BN
abbrev YE:AE:=[(.obj 0,.own 43 U3),(.tmp 0,.own' 0),(.tmp 1,.di),(.tmp 2,.di),(.tmp 3,.clo 164 []),(.tmp 9,.di),(.tmp 10,.di)]
abbrev YA:Ap:=[(.exit 2,[(.obj 0,.own 43 U3),(.tmp 0,.own' 0),(.tmp 1,.di),(.tmp 2,.di),(.tmp 3,.clo 164 []),(.tmp 9,.di),(.tmp 10,.di)])]
def X6[Lk]:Uj→Option (Uj⊕Uj⊕Unit):=Gc (([]:List (Int)):U4) BN
abbrev YF:AE:=[(.obj 0,.own 43 U3),(.tmp 0,.own' 0),(.tmp 1,.di),(.tmp 2,.di),(.tmp 3,.clo 164 []),(.tmp 9,.di),(.tmp 10,.di)]
abbrev YB:Ap:=[(.ret,[(.obj 0,.own 43 U3),(.tmp 8,.dat .bool)]),(.exit 0,[(.obj 0,.own 43 U3)])]
def X7[Lk]:Uj→Option (Uj⊕(List U4×Bool×Unit)⊕Uo⊕Unit):=CT (([]:List (Int)):U4) BN
def ACy[Lk]:Ud→Option ((List U4×Bool×Unit)):=Hv (([]:List (Int)):U4) BN
def ACz[Lk](v:Ud):Option ((List U4×Bool×Unit)):=NA (([]:List (Int)):U4) BN v
theorem AQL v:ACz v=ACy v:=AJ _
abbrev VM:AE:=[(.tmp 0,.own 43 U3),(.tmp 1,.di),(.tmp 2,.di),(.tmp 3,.di),(.tmp 4,.clo 164 [])]
abbrev VL:AE:=[(.obj 0,.own 43 U3),(.tmp 0,.di)]
abbrev VK:List RS:=[.one]
abbrev ADD:AE:=[(.obj 0,.own 43 U3),(.tmp 0,.own' 0),(.tmp 1,.di),(.tmp 4,.clo 164 []),(.tmp 11,.di),(.tmp 12,.di)]
abbrev ADA:Ap:=[(.exit 4,[(.obj 0,.own 43 U3),(.tmp 0,.own' 0),(.tmp 1,.di),(.tmp 4,.clo 164 []),(.tmp 11,.di),(.tmp 12,.di)])]
def AC7[Lk]:U7→Option (U7⊕U7⊕Unit):=Hw (([]:List (Int)):U4) BN
abbrev ADE:AE:=[(.obj 0,.own 43 U3),(.tmp 0,.own' 0),(.tmp 1,.di),(.tmp 4,.clo 164 []),(.tmp 11,.di),(.tmp 12,.di)]
abbrev ADB:Ap:=[(.exit 2,[(.obj 0,.own 43 U3),(.tmp 0,.own' 0),(.tmp 1,.di),(.tmp 4,.clo 164 []),(.tmp 11,.di),(.tmp 12,.di)])]
def AC8[Lk]:U7→Option (U7⊕U7⊕Unit):=Hx (([]:List (Int)):U4) BN
abbrev ADF:AE:=[(.obj 0,.own 43 U3),(.tmp 0,.own' 0),(.tmp 1,.di),(.tmp 4,.clo 164 []),(.tmp 11,.di),(.tmp 12,.di)]
abbrev ADC:Ap:=[(.exit 0,[(.obj 0,.own 43 U3),(.tmp 11,.di)])]
def AC9[Lk]:U7→Option (U7⊕V9⊕Unit):=Hy (([]:List (Int)):U4) BN
def AIT[Lk]:U7→Option (V9):=KJ (([]:List (Int)):U4) BN
def ALc[Lk](v:U7):Option (V9):=Rp (([]:List (Int)):U4) BN v
theorem AVo v:ALc v=AIT v:=AJ _
end
end Go.Pev
end
section
namespace Go.Pev
noncomputable section
attribute [local irreducible] PT Li QX PH AhN AhO AhP UU ACC ZK AGT Lt AY many IntKind.wrap AK BA Ab A2 Bn DP EB AN Bk CJ imax AP Af
abbrev ALX:AE:=[(.tmp 0,.own 43 U3),(.tmp 1,.di),(.tmp 2,.di),(.tmp 3,.di),(.tmp 4,.clo 164 [])]
abbrev ALW:AE:=[(.obj 0,.own 43 U3),(.tmp 0,.di),(.tmp 1,.dat .bool)]
abbrev ALV:List RS:=[.one,.one]
abbrev AP8:AE:=[(.obj 0,.own 43 U3),(.tmp 0,.own' 0),(.tmp 1,.di),(.tmp 4,.clo 164 []),(.tmp 12,.di),(.tmp 13,.di)]
abbrev AP3:Ap:=[(.exit 8,[(.obj 0,.own 43 U3),(.tmp 0,.own' 0),(.tmp 1,.di),(.tmp 4,.clo 164 []),(.tmp 12,.di),(.tmp 13,.di)])]
def APu[Lk]:U7→Option (U7⊕U7⊕Unit):=NB (([]:List (Int)):U4) BN
abbrev AP9:AE:=[(.obj 0,.own 43 U3),(.tmp 0,.own' 0),(.tmp 1,.di),(.tmp 4,.clo 164 []),(.tmp 12,.di),(.tmp 13,.di)]
abbrev AP4:Ap:=[(.exit 6,[(.obj 0,.own 43 U3),(.tmp 0,.own' 0),(.tmp 1,.di),(.tmp 4,.clo 164 []),(.tmp 12,.di),(.tmp 13,.di)])]
def APw[Lk]:U7→Option (U7⊕U7⊕Unit):=NC (([]:List (Int)):U4) BN
abbrev AQA:AE:=[(.obj 0,.own 43 U3),(.tmp 0,.own' 0),(.tmp 1,.di),(.tmp 4,.clo 164 []),(.tmp 12,.di),(.tmp 13,.di)]
abbrev AP5:Ap:=[(.exit 4,[(.obj 0,.own 43 U3),(.tmp 0,.own' 0),(.tmp 1,.di),(.tmp 13,.di)])]
def APy[Lk]:U7→Option (U7⊕Ud⊕Unit):=ND (([]:List (Int)):U4) BN
abbrev AQB:AE:=[(.obj 0,.own 43 U3),(.tmp 0,.own' 0),(.tmp 1,.di),(.tmp 4,.clo 164 []),(.tmp 12,.di),(.tmp 13,.di)]
abbrev AP6:Ap:=[(.exit 2,[(.obj 0,.own 43 U3),(.tmp 0,.own' 0),(.tmp 1,.di),(.tmp 4,.clo 164 []),(.tmp 12,.di),(.tmp 13,.di)])]
def AP0[Lk]:U7→Option (U7⊕U7⊕Unit):=NF (([]:List (Int)):U4) BN
abbrev AQC:AE:=[(.obj 0,.own 43 U3),(.tmp 0,.own' 0),(.tmp 1,.di),(.tmp 4,.clo 164 []),(.tmp 12,.di),(.tmp 13,.di)]
abbrev AP7:Ap:=[(.exit 0,[(.obj 0,.own 43 U3),(.tmp 0,.own' 0),(.tmp 1,.di),(.tmp 4,.clo 164 []),(.tmp 12,.di),(.tmp 13,.di)])]
def AP2[Lk]:U7→Option (U7⊕U7⊕Unit):=NG (([]:List (Int)):U4) BN
def AZN[Lk]:U7→Option ((List U4×Int×Bool×Unit)):=Ro (([]:List (Int)):U4) BN
def AgK[Lk](v:U7):Option ((List U4×Int×Bool×Unit)):=AC6 (([]:List (Int)):U4) BN v
theorem AgJ v:AgK v=AZN v:=AJ _
abbrev ACn:AE:=[(.tmp 0,.own 43 U3),(.tmp 1,.di),(.tmp 2,.di),(.tmp 3,.di),(.tmp 4,.clo 164 [])]
abbrev ACm:AE:=[(.obj 0,.own 43 U3)]
abbrev ACl:List RS:=[]
abbrev AZJ:AE:=[(.obj 0,.own 43 U3),(.tmp 0,.own' 0),(.tmp 1,.di),(.tmp 2,.di),(.tmp 3,.di),(.tmp 4,.clo 164 []),(.tmp 10,.dat .bool),(.tmp 11,.dat .bool)]
abbrev AZI:Ap:=[(.ret,[(.obj 0,.own 43 U3)])]
def AZH[Lk](self:U7→Option (Uo)):(List U4×Int×Int×Int×Bool×Bool×Unit)→Option ((List U4×Int×Int×Int×Bool×Bool×Unit)⊕Uo⊕Unit):=OY (([]:List (Int)):U4) BN self
def AlL[Lk](self:U7→Option (Uo)):U7→Option (Uo):=ACp (([]:List (Int)):U4) BN self
def ACo[Lk]:Nat→U7→Option (Uo):=K9 (([]:List (Int)):U4) BN
def AjX[Lk](v:U7):Option (Uo):=Af7 (([]:List (Int)):U4) BN v
theorem AjW v:AjX v=ACo 100 v:=AJ _
abbrev AKZ:AE:=[(.tmp 0,.own 43 U3),(.tmp 1,.clo 164 [])]
abbrev AKY:AE:=[(.obj 0,.own 43 U3)]
abbrev AKX:List RS:=[]
def AYq[Lk]:Uo→Option (Uo):=RZ (([]:List (Int)):U4) BN
def AOt[Lk](v:Uo):Option (Uo):=AYr (([]:List (Int)):U4) BN v
theorem AfL v:AOt v=AYq v:=AJ _
abbrev AJm:AE:=[(.tmp 0,.dat Ui),(.tmp 1,.dat U3),(.tmp 2,.dat Ub)]
abbrev AJl:AE:=[(.tmp 0,.di),(.tmp 1,.own 43 U3)]
abbrev AJk:List RS:=[.agg 2]
abbrev AOG:AE:=[(.tmp 3,.box 2),(.cell 0 0,.di),(.cell 0 1,.dat Ub),(.tmp 6,.box 2),(.cell 1 0,.di),(.cell 1 1,.nil U3),(.tmp 7,.own 43 U3),(.tmp 29,.dat Ub),(.tmp 30,.di),(.tmp 31,.di)]
abbrev AOE:Ap:=[(.exit 2,[(.tmp 3,.box 2),(.cell 0 0,.di),(.cell 0 1,.dat Ub),(.tmp 6,.box 2),(.cell 1 0,.di),(.cell 1 1,.nil U3),(.tmp 7,.own 43 U3)])]
def Hd[Lk]:(Int×List U4×Int×List U4×List U4×Int×Int×Unit)→Option ((Int×List U4×Int×List U4×List U4×Int×Int×Unit)⊕(Int×List U4×Int×List U4×Unit)⊕Unit):=fun(a0,a1,a2,a3,a4,a5,a6,_)=>
 match(ilt a6 a5)with
 |true=>match idx a4 a6 with|none=>none|some x0=>match ABv (x0,())with|none=>none|some (y1,_)=>match(fits ((AK a3)+(AK ([y1]:List U4))))with
  |true=>some (.inl (a0,a1,a2,(A2 a3 ([y1]:List U4)),a4,a5,(IntKind.wrap .i64 (a6+1)),()))
  |false=>none
 |false=>some (.inr (.inl (a0,a1,a2,a3,())))
abbrev AOH:AE:=[(.tmp 1,.dat U3),(.tmp 2,.dat Ub),(.tmp 3,.box 2),(.cell 0 0,.di),(.cell 0 1,.dat Ub),(.tmp 6,.box 2),(.cell 1 0,.di),(.cell 1 1,.nil U3),(.tmp 7,.own 43 U3),(.tmp 13,.dat Ub),(.tmp 14,.di),(.tmp 15,.di)]
abbrev AOF:Ap:=[(.exit 0,[(.tmp 2,.dat Ub),(.tmp 3,.box 2),(.cell 0 0,.di),(.cell 0 1,.dat Ub),(.tmp 6,.box 2),(.cell 1 0,.di),(.cell 1 1,.nil U3),(.tmp 7,.own 43 U3)])]
def He[Lk]:(List Int×List U4×Int×List U4×Int×List U4×List U4×Int×Int×Unit)→Option ((List Int×List U4×Int×List U4×Int×List U4×List U4×Int×Int×Unit)⊕(List U4×Int×List U4×Int×List U4×Unit)⊕Unit):=fun(a0,a1,a2,a3,a4,a5,a6,a7,a8,_)=>
 match(ilt a8 a7)with
 |true=>match idx a6 a8 with|none=>none|some x0=>match Fw (a0,a8,())with|none=>none|some (y1,_)=>match(!y1)with
  |true=>match(fits ((AK a5)+(AK ([x0]:List U4))))with
   |true=>some (.inl (a0,a1,a2,a3,a4,(A2 a5 ([x0]:List U4)),a6,a7,(IntKind.wrap .i64 (a8+1)),()))
   |false=>none
  |false=>some (.inl (a0,a1,a2,a3,a4,a5,a6,a7,(IntKind.wrap .i64 (a8+1)),()))
 |false=>some (.inr (.inl (a1,a2,a3,a4,a5,())))
def Zv[Lk]:(Ul×List Int×List U4×Unit)→Option ((Int×List U4×Unit)):=fun(a0,a1,a2,_)=>
 match AX He many (a1,a2,a0.1,a0.2.1,0,([]:List U4),a0.2.1,(AK a0.2.1),0,())with|none=>none|some r=>match r with
 |.inl (o0,o1,o2,o3,o4,_)=>match AX Hd many (o1,o2,o3,o4,o0,(AK o0),0,())with|none=>none|some r=>match r with
  |.inl (o5,o6,o7,o8,_)=>match AOt (o8,())with|none=>none|some (y9,_)=>some (o5,y9,())
  |.inr _=>none
 |.inr _=>none
def AOJ[Lk]:=fun v=>Lk.f (Zv v)
theorem AOI v:AOJ v=Zv v:=AJ _
abbrev AKI:AE:=[(.tmp 0,.dat Ui),(.tmp 1,.di),(.tmp 2,.di)]
abbrev AKH:AE:=[(.tmp 0,.di),(.tmp 1,.dat Ub),(.tmp 2,.di)]
abbrev AKG:List RS:=[.agg 2,.one]
def G5[Lk]:(Ul×Int×Int×Unit)→Option (V4):=fun(a0,a1,a2,_)=>
 match asked ((a0.1,(a0.2.1,())),a1,a2,())with|none=>none|some (y0,_)=>match(!(ieq y0 0))with
 |true=>some (a0.1,a0.2.1,y0,())
 |false=>match Pk ((a0.1,(a0.2.1,())),a1,())with|none=>none|some (y1,_)=>match Pk ((a0.1,(a0.2.1,())),a2,())with|none=>none|some (y2,_)=>match(ieq y1 y2)with
 |true=>some (a0.1,a0.2.1,5,())
 |false=>match idx a0.2.1 y1 with|none=>none|some x3=>match AIF (x3,a1,())with|none=>none|some (y4,y5,_)=>match idx a0.2.1 y2 with|none=>none|some x6=>match AIF (x6,a2,())with|none=>none|some (y7,y8,_)=>match CM y4 0 1 with|none=>none|some x9=>match Aaz (a0.1,a1,a2,())with|none=>none|some (y10,_)=>match Aaz (a0.1,a2,a1,())with|none=>none|some (y11,_)=>match CM y4 1 (AK y4)with|none=>none|some x12=>match JH (([(DP 0 (AN (AK x9)) y4),([y10]:List (Int)),y7,([y11]:List (Int)),(DP 1 (AN (AK x12)) y4)]:List U4),())with|none=>none|some (y13,_)=>match AOJ ((a0.1,(a0.2.1,())),([y1,y2]:List (Int)),([y13]:List U4),())with|none=>none|some (y14,y15,_)=>some (y14,y15,0,())
def Mo[Lk]:=fun v=>Lk.f (G5 v)
theorem Hm v:Mo v=G5 v:=AJ _
abbrev Fs:AE:=[(.tmp 0,.dat U3),(.cap 1 0,.box 2),(.cell 0 0,.di),(.cell 0 1,.dat Ub),(.tmp 1,.clo 158 [(0,0)])]
abbrev Fq:AE:=[(.obj 0,.box 2),(.cell 0 0,.di),(.cell 0 1,.dat Ub),(.tmp 0,.di)]
abbrev Fp:List RS:=[.one]
abbrev I4:AE:=[(.obj 0,.box 2),(.cell 0 0,.di),(.cell 0 1,.dat Ub),(.tmp 0,.dat U3),(.tmp 1,.clo 158 [(0,0)]),(.tmp 7,.di),(.tmp 8,.di)]
abbrev I3:Ap:=[(.ret,[(.obj 0,.box 2),(.cell 0 0,.di),(.cell 0 1,.dat Ub),(.tmp 4,.di)]),(.exit 0,[(.obj 0,.box 2),(.cell 0 0,.di),(.cell 0 1,.dat Ub)])]
def Bj[Lk]:(Int×List U4×List Int×Int×Int×Unit)→Option ((Int×List U4×List Int×Int×Int×Unit)⊕V4⊕(Int×List U4×Unit)⊕Unit):=fun(a0,a1,a2,a3,a4,_)=>
 match(ilt a4 a3)with
 |true=>match idx a2 a4 with|none=>none|some x0=>match(ilt x0 0)with
  |true=>some (.inr (.inl (a0,a1,a4,())))
  |false=>match(ile a0 x0)with
  |true=>some (.inr (.inl (a0,a1,a4,())))
  |false=>some (.inl (a0,a1,a2,a3,(IntKind.wrap .i64 (a4+1)),()))
 |false=>some (.inr (.inr (.inl (a0,a1,()))))
def Dz[Lk]:(List Int×Int×List U4×Unit)→Option (V4):=fun(a0,a1,a2,_)=>
 match AX Bj many (a1,a2,a0,(AK a0),0,())with|none=>none|some r=>match r with
 |.inl (o0,o1,o2,_)=>some (o0,o1,o2,())
 |.inr r=>match r with
 |.inl (o3,o4,_)=>some (o3,o4,(-1:Int),())
 |.inr _=>none
def E8[Lk]:=fun v=>Lk.f (Dz v)
theorem I5 v:E8 v=Dz v:=AJ _
abbrev FI:AE:=[(.tmp 0,.dat U3),(.cap 1 0,.box 2),(.cell 0 0,.di),(.cell 0 1,.dat Ub),(.tmp 1,.clo 158 [(0,0)])]
abbrev FH:AE:=[(.obj 0,.box 2),(.cell 0 0,.di),(.cell 0 1,.dat Ub),(.tmp 0,.dat .bool)]
abbrev FG:List RS:=[.one]
def DU[Lk]:(List Int×Int×List U4×Unit)→Option ((Int×List U4×Bool×Unit)):=fun(a0,a1,a2,_)=>
 match E8 (a0,a1,a2,())with|none=>none|some (y0,y1,y2,_)=>some (y0,y1,(ile 0 y2),())
def DK[Lk]:=fun v=>Lk.f (DU v)
theorem IL v:DK v=DU v:=AJ _
abbrev AEX:AE:=[(.tmp 0,.dat Ui),(.tmp 1,.dat U3)]
abbrev AEW:AE:=[(.tmp 0,.di)]
abbrev AEV:List RS:=[.one]
def SO[Lk]:(Ul×List Int×Unit)→Option (U9):=fun(a0,a1,_)=>
 match Pj ((a0.1,(a0.2.1,())),())with|none=>none|some (y0,_)=>match(!y0)with
 |true=>some (1,())
 |false=>match DK (a1,a0.1,a0.2.1,())with|none=>none|some (y1,y2,y3,_)=>match y3 with
 |true=>some (10,())
 |false=>some (0,())
def Qb[Lk]:=fun v=>Lk.f (SO v)
theorem AIz v:Qb v=SO v:=AJ _
abbrev AXg:AE:=[(.tmp 0,.dat Ug)]
abbrev AXf:AE:=[(.tmp 0,.own 3 U0)]
abbrev AXe:List RS:=[.one]
abbrev AZ4:AE:=[(.tmp 3,.own 3 U0),(.tmp 6,.dat Ug),(.tmp 7,.di),(.tmp 8,.di)]
abbrev AZ3:Ap:=[(.exit 0,[(.tmp 3,.own 3 U0)])]
def Ll[Lk]:(List Int×List U1×Int×Int×Unit)→Option ((List Int×List U1×Int×Int×Unit)⊕Up⊕Unit):=fun(a0,a1,a2,a3,_)=>
 match(ilt a3 a2)with
 |true=>match idx a1 a3 with|none=>none|some x0=>match(fits ((AK a0)+(AK ([x0.1,x0.2.1]:List (Int)))))with
  |true=>some (.inl ((A2 a0 ([x0.1,x0.2.1]:List (Int))),a1,a2,(IntKind.wrap .i64 (a3+1)),()))
  |false=>none
 |false=>some (.inr (.inl (a0,())))
def AMu[Lk]:Uh→Option (Up):=fun(a0,_)=>
 match AX Ll many (([]:List (Int)),a0,(AK a0),0,())with|none=>none|some r=>match r with
 |.inl (o0,_)=>some (o0,())
 |.inr _=>none
def ends[Lk]:=fun v=>Lk.f (AMu v)
theorem AZ5 v:ends v=AMu v:=AJ _
abbrev Ql:AE:=[(.tmp 0,.dat Ui),(.tmp 1,.dat Ug),(.tmp 2,.clo 131 [])]
abbrev Qk:AE:=[(.tmp 0,.dat Ui),(.tmp 1,.own 4 .bool),(.tmp 2,.di)]
abbrev Qj:List RS:=[.one,.one,.one]
abbrev Yj:AE:=[(.tmp 2,.clo 131 []),(.tmp 3,.box 2),(.cell 0 0,.di),(.cell 0 1,.dat Ub),(.tmp 6,.box 2),(.cell 1 0,.di),(.cell 1 1,.nil U3),(.tmp 10,.own 4 .bool),(.tmp 23,.dat Ug),(.tmp 24,.di),(.tmp 25,.di)]
abbrev Yi:Ap:=[(.exit 0,[(.tmp 3,.box 2),(.cell 0 0,.di),(.cell 0 1,.dat Ub),(.tmp 6,.box 2),(.cell 1 0,.di),(.cell 1 1,.nil U3),(.tmp 10,.own 4 .bool)])]
def By[Lk]:(Int×List U4×Int×List Bool×List U1×Int×Int×Unit)→Option ((Int×List U4×Int×List Bool×List U1×Int×Int×Unit)⊕(Int×List U4×Int×List Bool×Unit)⊕Unit):=fun(a0,a1,a2,a3,a4,a5,a6,_)=>
 match(ilt a6 a5)with
 |true=>match idx a4 a6 with|none=>none|some x0=>match Mo ((a0,(a1,())),x0.1,x0.2.1,())with|none=>none|some (y1,y2,y3,_)=>match(fits ((AK a3)+(AK ([(ieq y3 0)]:List (Bool)))))with
  |true=>some (.inl (y1,y2,a2,(A2 a3 ([(ieq y3 0)]:List (Bool))),a4,a5,(IntKind.wrap .i64 (a6+1)),()))
  |false=>none
 |false=>some (.inr (.inl (a0,a1,a2,a3,())))
def II[Lk]:(Ul×List U1×Unit)→Option ((Ul×List Bool×Int×Unit)):=fun(a0,a1,_)=>
 match ends (a1,())with|none=>none|some (y0,_)=>match Qb ((a0.1,(a0.2.1,())),y0,())with|none=>none|some (y1,_)=>match(!(ieq y1 0))with
 |true=>some ((a0.1,(a0.2.1,())),([]:List (Bool)),y1,())
 |false=>match AX By many (a0.1,a0.2.1,0,([]:List (Bool)),a1,(AK a1),0,())with|none=>none|some r=>match r with
 |.inl (o2,o3,o4,o5,_)=>some ((o2,(o3,())),o5,0,())
 |.inr _=>none
def SW[Lk]:=fun v=>Lk.f (II v)
theorem Nh v:SW v=II v:=AJ _
abbrev AEd:AE:=[(.tmp 0,.dat Ui),(.tmp 1,.dat Ug)]
abbrev AEc:AE:=[(.tmp 0,.dat Ui),(.tmp 1,.own 4 .bool),(.tmp 2,.di)]
abbrev AEb:List RS:=[.one,.one,.one]
def Nc[Lk]:(Ul×List U1×Unit)→Option ((Ul×List Bool×Int×Unit)):=fun(a0,a1,_)=>
 match SW ((a0.1,(a0.2.1,())),a1,())with|none=>none|some (y0,y1,y2,_)=>some ((y0.1,(y0.2.1,())),y1,y2,())
def AMn[Lk]:=fun v=>Lk.f (Nc v)
theorem Wj v:AMn v=Nc v:=AJ _
abbrev Ahq:AE:=[(.tmp 0,.di),(.tmp 1,.dat Ug)]
abbrev Ahp:AE:=[(.tmp 0,.dat Ui),(.tmp 1,.di)]
abbrev Aho:List RS:=[.one,.one]
def ASC[Lk]:(Int×List U1×Unit)→Option (Vg):=fun(a0,a1,_)=>
 match AOj (a0,())with|none=>none|some (y0,y1,y2,_)=>match(!(ieq y2 0))with
 |true=>some ((0,(([]:List U4),())),y2,())
 |false=>match AMn ((y0,(y1,())),a1,())with|none=>none|some (y3,y4,y5,_)=>match(!(ieq y5 0))with
 |true=>some ((0,(([]:List U4),())),y5,())
 |false=>some ((y3.1,(y3.2.1,())),0,())
def fof[Lk]:=fun v=>Lk.f (ASC v)
theorem AXU v:fof v=ASC v:=AJ _
abbrev Agi:AE:=[(.tmp 0,.dat U3)]
abbrev Agg:AE:=[(.tmp 0,.di)]
abbrev Age:List RS:=[.one]
abbrev Agh:AE:=[(.tmp 3,.di),(.tmp 6,.dat U3),(.tmp 7,.di),(.tmp 8,.di)]
abbrev Agf:Ap:=[(.ret,[(.tmp 2,.di)]),(.exit 0,[(.tmp 3,.di)])]
def Fc[Lk]:(Int×List Int×Int×Int×Unit)→Option ((Int×List Int×Int×Int×Unit)⊕U9⊕U9⊕Unit):=fun(a0,a1,a2,a3,_)=>
 match(ilt a3 a2)with
 |true=>match idx a1 a3 with|none=>none|some x0=>match(!(ieq x0 a0))with
  |true=>some (.inr (.inl (x0,())))
  |false=>some (.inl (a0,a1,a2,(IntKind.wrap .i64 (a3+1)),()))
 |false=>some (.inr (.inr (.inl (a0,()))))
def AIc[Lk]:Up→Option (U9):=fun(a0,_)=>
 match AX Fc many (0,a0,(AK a0),0,())with|none=>none|some r=>match r with
 |.inl (o0,_)=>some (o0,())
 |.inr r=>match r with
 |.inl (o1,_)=>some (o1,())
 |.inr _=>none
def orI[Lk]:=fun v=>Lk.f (AIc v)
theorem ALr v:orI v=AIc v:=AJ _
abbrev ADj:AE:=[(.tmp 0,.di)]
abbrev ADi:AE:=[(.tmp 0,.dat .bool)]
abbrev ADh:List RS:=[.one]
def NP[Lk]:U9→Option (Uf):=fun(a0,_)=>
 match(ile 1 a0)with
 |true=>some ((ile a0 64),())
 |false=>some (false,())
def WE[Lk]:=fun v=>Lk.f (NP v)
theorem WD v:WE v=NP v:=AJ _
abbrev AWg:AE:=[(.tmp 0,.di)]
abbrev AWf:AE:=[(.tmp 0,.di)]
abbrev AWe:List RS:=[.one]
def AWh[Lk]:U9→Option (U9):=fun(a0,_)=>
 match WE (a0,())with|none=>none|some (y0,_)=>match(!y0)with
 |true=>some (0,())
 |false=>match bitsLen ((IntKind.wrap .u64 (IntKind.wrap .i64 (a0-1))),())with|none=>none|some (y1,_)=>some (y1,())
def AME[Lk]:=fun v=>Lk.f (AWh v)
theorem Ajs v:AME v=AWh v:=AJ _
abbrev QQ:AE:=[(.tmp 0,.dat Vm),(.tmp 1,.dat Vm)]
abbrev QP:AE:=[(.tmp 0,.di)]
abbrev QO:List RS:=[.one]
def LR[Lk]:(U6×U6×Unit)→Option (U9):=fun(a0,a1,_)=>
 match Dj (a0.1,a1.1,())with|none=>none|some (y0,_)=>match Dj (a0.2.1,a1.2.1,())with|none=>none|some (y1,_)=>match orI (([y0,y1]:List (Int)),())with|none=>none|some (y2,_)=>some (y2,())
def KS[Lk]:=fun v=>Lk.f (LR v)
theorem Ya v:KS v=LR v:=AJ _
abbrev ADf:AE:=[(.tmp 0,.dat Un),(.tmp 1,.di)]
abbrev ADe:AE:=[(.tmp 0,.own 34 U2)]
abbrev ADd:List RS:=[.one]
abbrev AIl:AE:=[(.tmp 1,.di),(.tmp 5,.own 34 U2),(.tmp 9,.dat U5),(.tmp 10,.di),(.tmp 11,.di)]
abbrev AIk:Ap:=[(.exit 0,[(.tmp 5,.own 34 U2)])]
def Cm[Lk]:(Int×List U1×List U6×Int×Int×Unit)→Option ((Int×List U1×List U6×Int×Int×Unit)⊕Uh⊕Unit):=fun(a0,a1,a2,a3,a4,_)=>
 match(ilt a4 a3)with
 |true=>match idx a2 a4 with|none=>none|some x0=>match x0.2.2.2.1 with
  |true=>match(ile a0 x0.2.2.1)with
   |true=>match(fits ((AK a1)+(AK ([(x0.1,(x0.2.1,()))]:List U1))))with
    |true=>some (.inl (a0,(A2 a1 ([(x0.1,(x0.2.1,()))]:List U1)),a2,a3,(IntKind.wrap .i64 (a4+1)),()))
    |false=>none
   |false=>some (.inl (a0,a1,a2,a3,(IntKind.wrap .i64 (a4+1)),()))
  |false=>some (.inl (a0,a1,a2,a3,(IntKind.wrap .i64 (a4+1)),()))
 |false=>some (.inr (.inl (a1,())))
def NO[Lk]:(Um×Int×Unit)→Option (Uh):=fun(a0,a1,_)=>
 match AX Cm many (a1,([]:List U1),a0.2.1,(AK a0.2.1),0,())with|none=>none|some r=>match r with
 |.inl (o0,_)=>some (o0,())
 |.inr _=>none
def QM[Lk]:=fun v=>Lk.f (NO v)
theorem WC v:QM v=NO v:=AJ _
abbrev ADm:AE:=[(.tmp 0,.dat Un)]
abbrev ADl:AE:=[(.tmp 0,.dat .bool)]
abbrev ADk:List RS:=[.one]
abbrev AIn:AE:=[(.tmp 1,.box 2),(.cell 0 0,.di),(.cell 0 1,.dat U5),(.tmp 3,.di),(.tmp 23,.dat U5),(.tmp 24,.di),(.tmp 25,.di)]
abbrev AIm:Ap:=[(.ret,[(.tmp 2,.dat .bool)]),(.exit 0,[(.tmp 1,.box 2),(.cell 0 0,.di),(.cell 0 1,.dat U5)])]
def Du[Lk]:(Int×List U6×Int×List U6×Int×Int×Unit)→Option ((Int×List U6×Int×List U6×Int×Int×Unit)⊕Uf⊕(Int×List U6×Unit)⊕Unit):=fun(a0,a1,a2,a3,a4,a5,_)=>
 match(ilt a5 a4)with
 |true=>match idx a3 a5 with|none=>none|some x0=>match(ilt x0.1 0)with
  |true=>some (.inr (.inl (false,())))
  |false=>match(ile x0.2.1 x0.1)with
  |true=>some (.inr (.inl (false,())))
  |false=>match(ile a0 x0.2.1)with
  |true=>some (.inr (.inl (false,())))
  |false=>match(ilt x0.2.2.1 0)with
  |true=>some (.inr (.inl (false,())))
  |false=>match(ilt a2 x0.2.2.1)with
  |true=>some (.inr (.inl (false,())))
  |false=>match(ilt 0 a5)with
  |true=>match idx a1 (IntKind.wrap .i64 (a5-1))with|none=>none|some x1=>match KS ((x1.1,(x1.2.1,(x1.2.2.1,(x1.2.2.2.1,())))),(x0.1,(x0.2.1,(x0.2.2.1,(x0.2.2.2.1,())))),())with|none=>none|some (y2,_)=>match(ile 0 y2)with
   |true=>some (.inr (.inl (false,())))
   |false=>some (.inl (a0,a1,a2,a3,a4,(IntKind.wrap .i64 (a5+1)),()))
  |false=>some (.inl (a0,a1,a2,a3,a4,(IntKind.wrap .i64 (a5+1)),()))
 |false=>some (.inr (.inr (.inl (a0,a1,()))))
def H4[Lk]:(Um×Unit)→Option (Uf):=fun(a0,_)=>
 match WE (a0.1,())with|none=>none|some (y0,_)=>match(!y0)with
 |true=>some (false,())
 |false=>match(ilt 400 (AK a0.2.1))with
 |true=>some (false,())
 |false=>match AME (a0.1,())with|none=>none|some (y1,_)=>match AX Du many (a0.1,a0.2.1,y1,a0.2.1,(AK a0.2.1),0,())with|none=>none|some r=>match r with
 |.inl (o2,_)=>some (o2,())
 |.inr r=>match r with
 |.inl (o3,o4,_)=>match QM ((o3,(o4,())),0,())with|none=>none|some (y5,_)=>match fof (o3,y5,())with|none=>none|some (y6,y7,_)=>match(ieq y7 0)with
  |true=>some ((ieq (AK y6.2.1) (IntKind.wrap .i64 (o3-(AK y5)))),())
  |false=>some (false,())
 |.inr _=>none
def LM[Lk]:=fun v=>Lk.f (H4 v)
theorem KQ v:LM v=H4 v:=AJ _
abbrev Ns:AE:=[(.tmp 0,.di),(.tmp 1,.dat Ug)]
abbrev Nr:AE:=[(.tmp 0,.own 3 U0)]
abbrev Nq:List RS:=[.one]
abbrev Si:AE:=[(.tmp 0,.di),(.tmp 1,.dat Ug),(.tmp 5,.own 3 U0),(.tmp 7,.dat .bool),(.tmp 8,.di)]
abbrev Sf:Ap:=[(.exit 4,[(.tmp 0,.di),(.tmp 1,.dat Ug),(.tmp 5,.own 3 U0),(.tmp 7,.dat .bool)])]
def DA[Lk]:(Int×List U1×List Int×Bool×Int×Unit)→Option ((Int×List U1×List Int×Bool×Int×Unit)⊕(Int×List U1×List Int×Bool×Unit)⊕Unit):=fun(a0,a1,a2,a3,a4,_)=>
 match(ilt a4 (AK a1))with
 |true=>match idx a1 a4 with|none=>none|some x0=>match idx a1 a4 with|none=>none|some x1=>match(ilt x0.1 0)with
  |true=>some (.inl (a0,a1,a2,a3,(IntKind.wrap .i64 (a4+1)),()))
  |false=>match(ilt x1.2.1 0)with
  |true=>some (.inl (a0,a1,a2,a3,(IntKind.wrap .i64 (a4+1)),()))
  |false=>match(ile a0 x0.1)with
  |true=>some (.inl (a0,a1,a2,a3,(IntKind.wrap .i64 (a4+1)),()))
  |false=>match(ile a0 x1.2.1)with
  |true=>some (.inl (a0,a1,a2,a3,(IntKind.wrap .i64 (a4+1)),()))
  |false=>match idx a2 x0.1 with|none=>none|some x2=>match idx a2 x1.2.1 with|none=>none|some x3=>match(ieq (Ab a2 (AN x0.1) 0) (Ab a2 (AN x1.2.1) 0))with
  |true=>some (.inl (a0,a1,a2,a3,(IntKind.wrap .i64 (a4+1)),()))
  |false=>match idx a2 x0.1 with|none=>none|some x4=>match idx a2 x1.2.1 with|none=>none|some x5=>match idx a2 x0.1 with|none=>none|some x6=>match idx (BA a2 (AN x0.1) (CJ (Ab a2 (AN x0.1) 0) (Ab a2 (AN x1.2.1) 0))) x1.2.1 with|none=>none|some x7=>some (.inl (a0,a1,(BA (BA a2 (AN x0.1) (CJ (Ab a2 (AN x0.1) 0) (Ab a2 (AN x1.2.1) 0))) (AN x1.2.1) (CJ (Ab a2 (AN x0.1) 0) (Ab a2 (AN x1.2.1) 0))),true,(IntKind.wrap .i64 (a4+1)),()))
 |false=>some (.inr (.inl (a0,a1,a2,a3,())))
abbrev Sj:AE:=[(.tmp 0,.di),(.tmp 1,.dat Ug),(.tmp 5,.own 3 U0),(.tmp 7,.dat .bool)]
abbrev Sg:Ap:=[(.exit 2,[(.tmp 5,.own 3 U0)])]
def D1[Lk]:(Int×List U1×List Int×Bool×Unit)→Option ((Int×List U1×List Int×Bool×Unit)⊕Up⊕Unit):=fun(a0,a1,a2,a3,_)=>
 match a3 with
 |true=>match AX DA many (a0,a1,a2,false,0,())with|none=>none|some r=>match r with
  |.inl (o0,o1,o2,o3,_)=>some (.inl (o0,o1,o2,o3,()))
  |.inr _=>none
 |false=>some (.inr (.inl (a2,())))
abbrev Sk:AE:=[(.tmp 0,.di),(.tmp 1,.dat Ug),(.tmp 5,.own 3 U0),(.tmp 6,.di)]
abbrev Sh:Ap:=[(.exit 0,[(.tmp 0,.di),(.tmp 1,.dat Ug),(.tmp 5,.own 3 U0)])]
def DB[Lk]:(Int×List U1×List Int×Int×Unit)→Option ((Int×List U1×List Int×Int×Unit)⊕(Int×List U1×List Int×Unit)⊕Unit):=fun(a0,a1,a2,a3,_)=>
 match(ilt a3 a0)with
 |true=>match(fits ((AK a2)+(AK ([a3]:List (Int)))))with
  |true=>some (.inl (a0,a1,(A2 a2 ([a3]:List (Int))),(IntKind.wrap .i64 (a3+1)),()))
  |false=>none
 |false=>some (.inr (.inl (a0,a1,a2,())))
def JI[Lk]:(Int×List U1×Unit)→Option (Up):=fun(a0,a1,_)=>
 match AX DB many (a0,a1,([]:List (Int)),0,())with|none=>none|some r=>match r with
 |.inl (o0,o1,o2,_)=>match AX D1 many (o0,o1,o2,true,())with|none=>none|some r=>match r with
  |.inl (o3,_)=>some (o3,())
  |.inr _=>none
 |.inr _=>none
def HW[Lk]:=fun v=>Lk.f (JI v)
theorem Sl v:HW v=JI v:=AJ _
abbrev AJ7:AE:=[(.tmp 0,.di)]
abbrev AJ6:AE:=[(.tmp 0,.di)]
abbrev AJ5:List RS:=[.one]
abbrev AOc:AE:=[(.tmp 3,.di),(.tmp 4,.di)]
abbrev AOb:Ap:=[(.exit 0,[(.tmp 3,.di)])]
def ABA[Lk]:U1→Option (U1⊕U9⊕Unit):=fun(a0,a1,_)=>
 match(ilt 0 a1)with
 |true=>match quo? .i64 a1 2 with|none=>none|some x0=>some (.inl ((IntKind.wrap .i64 (a0+1)),x0,()))
 |false=>some (.inr (.inl (a0,())))
def AJ9[Lk]:U9→Option (U9):=fun(a0,_)=>
 match(ilt a0 1)with
 |true=>some (0,())
 |false=>match(ilt 64 a0)with
 |true=>some (0,())
 |false=>match AX ABA many (0,(IntKind.wrap .i64 (a0-1)),())with|none=>none|some r=>match r with
 |.inl (o0,_)=>some (o0,())
 |.inr _=>none
def PG[Lk]:=fun v=>Lk.f (AJ9 v)
theorem Aeu v:PG v=AJ9 v:=AJ _
abbrev UL:AE:=[(.tmp 0,.dat Un)]
abbrev UK:AE:=[(.tmp 0,.dat .bool)]
abbrev UJ:List RS:=[.one]
abbrev AB0:AE:=[(.tmp 1,.box 2),(.cell 0 0,.di),(.cell 0 1,.dat U5),(.tmp 3,.own 34 U2),(.tmp 6,.own 3 U0),(.tmp 7,.di),(.tmp 8,.di)]
abbrev ABy:Ap:=[(.exit 2,[(.tmp 1,.box 2),(.cell 0 0,.di),(.cell 0 1,.dat U5),(.tmp 3,.own 34 U2),(.tmp 7,.di)])]
def Da[Lk]:(Int×List U6×List U1×List Int×Int×Int×Unit)→Option ((Int×List U6×List U1×List Int×Int×Int×Unit)⊕(Int×List U6×List U1×Int×Unit)⊕Unit):=fun(a0,a1,a2,a3,a4,a5,_)=>
 match(ilt a5 a0)with
 |true=>match idx a3 a5 with|none=>none|some x0=>match(ieq (Ab a3 (AN a5) 0) a5)with
  |true=>some (.inl (a0,a1,a2,a3,(IntKind.wrap .i64 (a4+1)),(IntKind.wrap .i64 (a5+1)),()))
  |false=>some (.inl (a0,a1,a2,a3,a4,(IntKind.wrap .i64 (a5+1)),()))
 |false=>some (.inr (.inl (a0,a1,a2,a4,())))
abbrev AB1:AE:=[(.tmp 1,.box 2),(.cell 0 0,.di),(.cell 0 1,.dat U5),(.tmp 3,.own 34 U2),(.tmp 4,.di)]
abbrev ABz:Ap:=[(.ret,[(.tmp 2,.dat .bool)]),(.exit 0,[(.tmp 1,.box 2),(.cell 0 0,.di),(.cell 0 1,.dat U5),(.tmp 3,.own 34 U2)])]
def Cx[Lk]:(Int×List U6×List U1×Int×Unit)→Option ((Int×List U6×List U1×Int×Unit)⊕Uf⊕(Int×List U6×List U1×Unit)⊕Unit):=fun(a0,a1,a2,a3,_)=>
 match(ilt a3 (AK a1))with
 |true=>match idx a1 a3 with|none=>none|some x0=>match(ilt x0.1 0)with
  |true=>some (.inr (.inl (false,())))
  |false=>match(ile x0.2.1 x0.1)with
  |true=>some (.inr (.inl (false,())))
  |false=>match(ile a0 x0.2.1)with
  |true=>some (.inr (.inl (false,())))
  |false=>match(ilt x0.2.2.1 0)with
  |true=>some (.inr (.inl (false,())))
  |false=>match PG (a0,())with|none=>none|some (y1,_)=>match(ilt y1 x0.2.2.1)with
  |true=>some (.inr (.inl (false,())))
  |false=>match(ilt 0 a3)with
  |true=>match idx a1 (IntKind.wrap .i64 (a3-1))with|none=>none|some x2=>match(ilt x0.1 x2.1)with
   |true=>some (.inr (.inl (false,())))
   |false=>match idx a1 (IntKind.wrap .i64 (a3-1))with|none=>none|some x3=>match(ieq x3.1 x0.1)with
   |true=>match idx a1 (IntKind.wrap .i64 (a3-1))with|none=>none|some x4=>match(ile x0.2.1 x4.2.1)with
    |true=>some (.inr (.inl (false,())))
    |false=>match x0.2.2.2.1 with
    |true=>match(fits ((AK a2)+(AK ([(x0.1,(x0.2.1,()))]:List U1))))with
     |true=>some (.inl (a0,a1,(A2 a2 ([(x0.1,(x0.2.1,()))]:List U1)),(IntKind.wrap .i64 (a3+1)),()))
     |false=>none
    |false=>some (.inl (a0,a1,a2,(IntKind.wrap .i64 (a3+1)),()))
   |false=>match x0.2.2.2.1 with
   |true=>match(fits ((AK a2)+(AK ([(x0.1,(x0.2.1,()))]:List U1))))with
    |true=>some (.inl (a0,a1,(A2 a2 ([(x0.1,(x0.2.1,()))]:List U1)),(IntKind.wrap .i64 (a3+1)),()))
    |false=>none
   |false=>some (.inl (a0,a1,a2,(IntKind.wrap .i64 (a3+1)),()))
  |false=>match x0.2.2.2.1 with
  |true=>match(fits ((AK a2)+(AK ([(x0.1,(x0.2.1,()))]:List U1))))with
   |true=>some (.inl (a0,a1,(A2 a2 ([(x0.1,(x0.2.1,()))]:List U1)),(IntKind.wrap .i64 (a3+1)),()))
   |false=>none
  |false=>some (.inl (a0,a1,a2,(IntKind.wrap .i64 (a3+1)),()))
 |false=>some (.inr (.inr (.inl (a0,a1,a2,()))))
def Eg[Lk]:(Um×Unit)→Option (Uf):=fun(a0,_)=>
 match(ilt a0.1 1)with
 |true=>some (false,())
 |false=>match(ilt 64 a0.1)with
 |true=>some (false,())
 |false=>match(ilt 400 (AK a0.2.1))with
 |true=>some (false,())
 |false=>match AX Cx many (a0.1,a0.2.1,([]:List U1),0,())with|none=>none|some r=>match r with
 |.inl (o0,_)=>some (o0,())
 |.inr r=>match r with
 |.inl (o1,o2,o3,_)=>match HW (o1,o3,())with|none=>none|some (y4,_)=>match AX Da many (o1,o2,o3,y4,0,0,())with|none=>none|some r=>match r with
  |.inl (o5,o6,o7,o8,_)=>some ((ieq o8 (IntKind.wrap .i64 (o5-(AK o7)))),())
  |.inr _=>none
 |.inr _=>none
def E0[Lk]:=fun v=>Lk.f (Eg v)
theorem FX v:E0 v=Eg v:=AJ _
abbrev AXE:AE:=[(.tmp 0,.di),(.tmp 1,.di)]
abbrev AXD:AE:=[(.tmp 0,.dat .bool)]
abbrev AXC:List RS:=[.one]
def AMS[Lk]:U1→Option (Uf):=fun(a0,a1,_)=>
 match(ile 1 a0)with
 |true=>match(ile a0 64)with
  |true=>match(ile 0 a1)with
   |true=>some ((ilt a1 a0),())
   |false=>some (false,())
  |false=>some (false,())
 |false=>some (false,())
def AED[Lk]:=fun v=>Lk.f (AMS v)
theorem AZp v:AED v=AMS v:=AJ _
abbrev Tt:AE:=[(.tmp 0,.di),(.tmp 1,.di)]
abbrev Ts:AE:=[(.tmp 0,.di),(.tmp 1,.di),(.tmp 2,.dat .bool),(.tmp 3,.dat .bool)]
abbrev Tr:List RS:=[.one,.one,.one,.one]
def OI[Lk]:U1→Option ((Int×Int×Bool×Bool×Unit)):=fun(a0,a1,_)=>
 match AED (a0,a1,())with|none=>none|some (y0,_)=>match y0 with
 |true=>some (a1,0,false,true,())
 |false=>match(ilt a0 1)with
 |true=>some (0,0,false,false,())
 |false=>match(ilt 64 a0)with
 |true=>some (0,0,false,false,())
 |false=>match(ilt a1 a0)with
 |true=>some (0,0,false,false,())
 |false=>match(ile (IntKind.wrap .i64 (a0+(IntKind.wrap .i64 (a0*a0)))) a1)with
 |true=>some (0,0,false,false,())
 |false=>match quo? .i64 (IntKind.wrap .i64 (a1-a0)) a0 with|none=>none|some x1=>match rem? (IntKind.wrap .i64 (a1-a0)) a0 with|none=>none|some x2=>match(ieq x1 x2)with
 |true=>some (0,0,false,false,())
 |false=>some (x1,x2,true,true,())
def OJ[Lk]:=fun v=>Lk.f (OI v)
theorem ABB v:OJ v=OI v:=AJ _
abbrev ANZ:AE:=[(.tmp 0,.di),(.tmp 1,.di),(.tmp 2,.di)]
abbrev ANY:AE:=[(.tmp 0,.di)]
abbrev ANX:List RS:=[.one]
def AAH[Lk]:(Int×Int×Int×Unit)→Option (U9):=fun(a0,a1,a2,_)=>
 match AED (a0,a1,())with|none=>none|some (y0,_)=>match(!y0)with
 |true=>some ((-1:Int),())
 |false=>match AED (a0,a2,())with|none=>none|some (y1,_)=>match(!y1)with
 |true=>some ((-1:Int),())
 |false=>match(ieq a1 a2)with
 |true=>some ((-1:Int),())
 |false=>some ((IntKind.wrap .i64 ((IntKind.wrap .i64 (a0+(IntKind.wrap .i64 (a1*a0))))+a2)),())
def AFZ[Lk]:=fun v=>Lk.f (AAH v)
theorem ASy v:AFZ v=AAH v:=AJ _
abbrev ADb:AE:=[(.tmp 0,.di)]
abbrev ADa:AE:=[(.tmp 0,.di),(.tmp 1,.own 43 U3),(.tmp 2,.di)]
abbrev ADZ:List RS:=[.agg 2,.one]
abbrev AIi:AE:=[(.tmp 0,.di),(.tmp 2,.box 2),(.cell 0 0,.di),(.cell 0 1,.nil U3),(.tmp 4,.box 2),(.cell 1 0,.di),(.cell 1 1,.own 43 U3),(.tmp 5,.di)]
abbrev AIh:Ap:=[(.exit 0,[(.tmp 2,.box 2),(.cell 0 0,.di),(.cell 0 1,.nil U3),(.tmp 4,.box 2),(.cell 1 0,.di),(.cell 1 1,.own 43 U3)])]
def Ff[Lk]:(Int×Int×Int×List U4×Int×Unit)→Option ((Int×Int×Int×List U4×Int×Unit)⊕(Int×Int×List U4×Unit)⊕Unit):=fun(a0,a1,a2,a3,a4,_)=>
 match(ilt a4 a0)with
 |true=>match(fits ((AK a3)+(AK ([([a4]:List (Int))]:List U4))))with
  |true=>some (.inl (a0,a1,a2,(A2 a3 ([([a4]:List (Int))]:List U4)),(IntKind.wrap .i64 (a4+1)),()))
  |false=>none
 |false=>some (.inr (.inl (a1,a2,a3,())))
def Rx[Lk]:U9→Option (V4):=fun(a0,_)=>
 match(ilt a0 1)with
 |true=>some (0,([]:List U4),1,())
 |false=>match(ilt 64 a0)with
 |true=>some (0,([]:List U4),1,())
 |false=>match AX Ff many (a0,0,a0,([]:List U4),0,())with|none=>none|some r=>match r with
 |.inl (o0,o1,o2,_)=>some (o1,o2,0,())
 |.inr _=>none
def WB[Lk]:=fun v=>Lk.f (Rx v)
theorem AIj v:WB v=Rx v:=AJ _
abbrev Pq:AE:=[(.tmp 0,.di),(.tmp 1,.di),(.tmp 2,.di)]
abbrev Pp:AE:=[(.tmp 0,.dat .bool)]
abbrev Po:List RS:=[.one]
def Ku[Lk]:(Int×Int×Int×Unit)→Option (Uf):=fun(a0,a1,a2,_)=>
 match OJ (a0,a1,())with|none=>none|some (y0,y1,y2,y3,_)=>match y3 with
 |true=>match(!y2)with
  |true=>match(ieq y0 a2)with
   |true=>some (true,())
   |false=>match y2 with
   |true=>some ((ieq y1 a2),())
   |false=>some (false,())
  |false=>match y2 with
  |true=>some ((ieq y1 a2),())
  |false=>some (false,())
 |false=>some (false,())
def Mq[Lk]:=fun v=>Lk.f (Ku v)
theorem Xu v:Mq v=Ku v:=AJ _
abbrev AA2:AE:=[(.tmp 0,.di),(.tmp 1,.dat U3)]
abbrev AA1:AE:=[(.tmp 0,.dat .bool)]
abbrev AA0:List RS:=[.one]
abbrev AHk:AE:=[(.tmp 0,.di),(.tmp 1,.own 3 U0),(.tmp 6,.di),(.tmp 14,.own 3 U0),(.tmp 15,.di),(.tmp 27,.dat .bool),(.tmp 28,.dat .bool),(.tmp 64,.dat .bool),(.tmp 67,.dat .bool),(.tmp 70,.di),(.tmp 71,.di),(.tmp 72,.dat .bool),(.tmp 75,.di),(.tmp 76,.di),(.tmp 77,.di),(.tmp 78,.di),(.tmp 79,.di),(.tmp 80,.dat .bool),(.tmp 83,.di),(.tmp 84,.own' 0),(.tmp 85,.di),(.tmp 86,.own' 0),(.tmp 87,.di),(.tmp 88,.di),(.tmp 89,.di),(.tmp 90,.own' 0),(.tmp 91,.di),(.tmp 92,.di),(.tmp 94,.di),(.tmp 95,.di),(.tmp 96,.dat .bool)]
abbrev AHh:Ap:=[(.exit 4,[(.tmp 0,.di),(.tmp 6,.di),(.tmp 14,.own 3 U0),(.tmp 27,.dat .bool),(.tmp 28,.dat .bool),(.tmp 64,.dat .bool),(.tmp 67,.dat .bool),(.tmp 70,.di),(.tmp 71,.di),(.tmp 72,.dat .bool),(.tmp 75,.di),(.tmp 76,.di),(.tmp 77,.di),(.tmp 78,.di),(.tmp 79,.di),(.tmp 80,.dat .bool),(.tmp 83,.di),(.tmp 84,.own 3 U0),(.tmp 85,.di),(.tmp 86,.own' 1),(.tmp 87,.di),(.tmp 88,.di),(.tmp 89,.di),(.tmp 90,.own' 1),(.tmp 91,.di),(.tmp 92,.di),(.tmp 94,.di),(.tmp 95,.di),(.tmp 96,.dat .bool)])]
def FU[Lk]:Uv→Option (Uv⊕(Int×Int×List Int×Bool×Bool×Bool×Bool×Int×Int×Bool×Int×Int×Int×Int×Int×Bool×Int×List Int×Int×Int×Int×Int×Int×Int×Int×Int×Bool×Unit)⊕Unit):=fun(a0,a1,a2,a3,a4,a5,a6,a7,a8,a9,a10,a11,a12,a13,a14,a15,a16,a17,a18,a19,a20,a21,a22,a23,a24,a25,a26,a27,_)=>
 match(ilt a4 (AK a1))with
 |true=>match rem? (IntKind.wrap .i64 (a2+a4)) (AK a1)with|none=>none|some x0=>match idx a1 x0 with|none=>none|some x1=>match(fits ((AK a3)+(AK ([(Ab a1 (AN x0) 0)]:List (Int)))))with
  |true=>some (.inl (a0,a1,a2,(A2 a3 ([(Ab a1 (AN x0) 0)]:List (Int))),(IntKind.wrap .i64 (a4+1)),a5,a6,a7,a8,a9,a10,a11,a12,a13,a14,a15,a16,a17,a18,a19,a20,a21,a22,a23,a24,a25,a26,a27,()))
  |false=>none
 |false=>some (.inr (.inl (a0,a2,a3,a5,a6,a7,a8,a9,a10,a11,a12,a13,a14,a15,a16,a17,a18,a1,a19,a20,a21,a22,a23,a24,a25,a26,a27,())))
abbrev AHl:AE:=[(.tmp 0,.di),(.tmp 1,.own 3 U0),(.tmp 5,.dat .bool),(.tmp 6,.di)]
abbrev AHi:Ap:=[(.exit 2,[(.tmp 0,.di),(.tmp 1,.own 3 U0),(.tmp 5,.dat .bool)])]
def Ci[Lk]:(Int×List Int×Bool×Int×Unit)→Option ((Int×List Int×Bool×Int×Unit)⊕(Int×List Int×Bool×Unit)⊕Unit):=fun(a0,a1,a2,a3,_)=>
 match(ilt a3 (AK a1))with
 |true=>match(!a2)with
  |true=>match idx a1 a3 with|none=>none|some x0=>match rem? (IntKind.wrap .i64 (a3+1)) (AK a1)with|none=>none|some x1=>match idx a1 x1 with|none=>none|some x2=>match rem? (IntKind.wrap .i64 (a3+2)) (AK a1)with|none=>none|some x3=>match idx a1 x3 with|none=>none|some x4=>match OJ (a0,(Ab a1 (AN a3) 0),())with|none=>none|some (y5,y6,y7,y8,_)=>match(ile 4 (AK a1))with
   |true=>match y8 with
    |true=>match y7 with
     |true=>match(ieq (Ab a1 (AN x1) 0) y6)with
      |true=>match AFZ (a0,y6,y5,())with|none=>none|some (y9,_)=>match(ieq (Ab a1 (AN x3) 0) y9)with
       |true=>match rem? (IntKind.wrap .i64 ((IntKind.wrap .i64 (a3+(AK a1)))-1)) (AK a1)with|none=>none|some x10=>match idx a1 x10 with|none=>none|some x11=>match Mq (a0,(Ab a1 (AN x10) 0),y5,())with|none=>none|some (y12,_)=>match y12 with
        |true=>match AX FU many (a0,a1,a3,([]:List (Int)),3,a2,(!a2),y8,y7,(Ab a1 (AN x1) 0),y6,(ieq (Ab a1 (AN x1) 0) y6),(Ab a1 (AN x3) 0),a0,y6,y5,y9,(ieq (Ab a1 (AN x3) 0) y9),a0,a3,(AK a1),(IntKind.wrap .i64 (a3+(AK a1))),(IntKind.wrap .i64 ((IntKind.wrap .i64 (a3+(AK a1)))-1)),(AK a1),x10,(Ab a1 (AN x10) 0),y5,y12,())with|none=>none|some r=>match r with
         |.inl (o13,o14,o15,o16,o17,o18,o19,o20,o21,o22,o23,o24,o25,o26,o27,o28,o29,o30,o31,o32,o33,o34,o35,o36,o37,o38,o39,_)=>some (.inl (o13,o15,true,(IntKind.wrap .i64 (o14+1)),()))
         |.inr _=>none
        |false=>some (.inl (a0,a1,a2,(IntKind.wrap .i64 (a3+1)),()))
       |false=>some (.inl (a0,a1,a2,(IntKind.wrap .i64 (a3+1)),()))
      |false=>some (.inl (a0,a1,a2,(IntKind.wrap .i64 (a3+1)),()))
     |false=>some (.inl (a0,a1,a2,(IntKind.wrap .i64 (a3+1)),()))
    |false=>some (.inl (a0,a1,a2,(IntKind.wrap .i64 (a3+1)),()))
   |false=>some (.inl (a0,a1,a2,(IntKind.wrap .i64 (a3+1)),()))
  |false=>some (.inr (.inl (a0,a1,a2,())))
 |false=>some (.inr (.inl (a0,a1,a2,())))
abbrev AHm:AE:=[(.tmp 0,.di),(.tmp 1,.own 3 U0)]
abbrev AHj:Ap:=[(.ret,[(.tmp 4,.dat .bool)]),(.exit 0,[(.tmp 0,.di),(.tmp 1,.own 3 U0)])]
def HN[Lk]:(Int×List Int×Unit)→Option ((Int×List Int×Unit)⊕Uf⊕(Int×List Int×Unit)⊕Unit):=fun(a0,a1,_)=>
 match(ilt 1 (AK a1))with
 |true=>match AX Ci many (a0,a1,false,0,())with|none=>none|some r=>match r with
  |.inl (o0,o1,o2,_)=>match(!o2)with
   |true=>some (.inr (.inl (false,())))
   |false=>some (.inl (o0,o1,()))
  |.inr _=>none
 |false=>some (.inr (.inr (.inl (a0,a1,()))))
def RU[Lk]:(Int×List Int×Unit)→Option (Uf):=fun(a0,a1,_)=>
 match(fits ((AK ([]:List (Int)))+(AK a1)))with
 |true=>match AX HN many (a0,(A2 ([]:List (Int)) a1),())with|none=>none|some r=>match r with
  |.inl (o0,_)=>some (o0,())
  |.inr r=>match r with
  |.inl (o1,o2,_)=>match(ieq (AK o2) 1)with
   |true=>match idx o2 0 with|none=>none|some x3=>match AED (o1,(Ab o2 0 0),())with|none=>none|some (y4,_)=>some (y4,())
   |false=>some (false,())
  |.inr _=>none
 |false=>none
def AA3[Lk]:=fun v=>Lk.f (RU v)
theorem AHn v:AA3 v=RU v:=AJ _
abbrev VG:AE:=[(.tmp 0,.dat U3),(.tmp 1,.di)]
abbrev VF:AE:=[(.tmp 0,.di)]
abbrev VE:List RS:=[.one]
abbrev ACX:AE:=[(.tmp 0,.dat U3),(.tmp 1,.di),(.tmp 5,.di)]
abbrev ACW:Ap:=[(.ret,[(.tmp 4,.di)]),(.exit 0,[])]
def ER[Lk]:Uq→Option (Uq⊕U9⊕(Unit)⊕Unit):=fun(a0,a1,a2,_)=>
 match(ilt a2 (AK a0))with
 |true=>match idx a0 a2 with|none=>none|some x0=>match(ieq x0 a1)with
  |true=>some (.inr (.inl (a2,())))
  |false=>some (.inl (a0,a1,(IntKind.wrap .i64 (a2+1)),()))
 |false=>some (.inr (.inr (.inl ())))
def OX[Lk]:Uz→Option (U9):=fun(a0,a1,_)=>
 match AX ER many (a0,a1,0,())with|none=>none|some r=>match r with
 |.inl (o0,_)=>some (o0,())
 |.inr r=>match r with
 |.inl _=>some ((-1:Int),())
 |.inr _=>none
def EH[Lk]:=fun v=>Lk.f (OX v)
theorem ACY v:EH v=OX v:=AJ _
abbrev UR:AE:=[(.tmp 0,.dat U3)]
abbrev UQ:AE:=[(.tmp 0,.dat .bool)]
abbrev UP:List RS:=[.one]
abbrev AB8:AE:=[(.tmp 0,.dat U3),(.tmp 3,.di)]
abbrev AB7:Ap:=[(.ret,[(.tmp 2,.dat .bool)]),(.exit 0,[])]
def Db[Lk]:Uz→Option (Uz⊕Uf⊕(Unit)⊕Unit):=fun(a0,a1,_)=>
 match(ilt a1 (AK a0))with
 |true=>match idx a0 a1 with|none=>none|some x0=>match(ilt x0 0)with
  |true=>some (.inr (.inl (false,())))
  |false=>match idx a0 a1 with|none=>none|some x1=>match(ilt 10000 x1)with
  |true=>some (.inr (.inl (false,())))
  |false=>match CM a0 0 a1 with|none=>none|some x2=>match idx a0 a1 with|none=>none|some x3=>match EH (x2,x3,())with|none=>none|some (y4,_)=>match(ile 0 y4)with
  |true=>some (.inr (.inl (false,())))
  |false=>some (.inl (a0,(IntKind.wrap .i64 (a1+1)),()))
 |false=>some (.inr (.inr (.inl ())))
def OQ[Lk]:Up→Option (Uf):=fun(a0,_)=>
 match(ilt 1000 (AK a0))with
 |true=>some (false,())
 |false=>match AX Db many (a0,0,())with|none=>none|some r=>match r with
 |.inl (o0,_)=>some (o0,())
 |.inr r=>match r with
 |.inl _=>some (true,())
 |.inr _=>none
def K5[Lk]:=fun v=>Lk.f (OQ v)
theorem AB9 v:K5 v=OQ v:=AJ _
abbrev AEa:AE:=[(.tmp 0,.dat U3),(.tmp 1,.di)]
abbrev AEZ:AE:=[(.tmp 0,.own 3 U0),(.tmp 1,.dat .bool)]
abbrev AEY:List RS:=[.one,.one]
def SQ[Lk]:Uz→Option ((List Int×Bool×Unit)):=fun(a0,a1,_)=>
 match EH (a0,a1,())with|none=>none|some (y0,_)=>match K5 (a0,())with|none=>none|some (y1,_)=>match(!y1)with
 |true=>some (([]:List (Int)),false,())
 |false=>match(ilt y0 0)with
 |true=>some (([]:List (Int)),false,())
 |false=>match CM a0 y0 (AK a0)with|none=>none|some x2=>match(fits ((AK ([]:List (Int)))+(AK x2)))with
 |true=>match CM a0 0 y0 with|none=>none|some x3=>match(fits ((AK (A2 ([]:List (Int)) x2))+(AK x3)))with
  |true=>some ((A2 (A2 ([]:List (Int)) x2) x3),true,())
  |false=>none
 |false=>none
def Qd[Lk]:=fun v=>Lk.f (SQ v)
theorem AI0 v:Qd v=SQ v:=AJ _
abbrev UY:AE:=[(.tmp 0,.dat U3)]
abbrev UX:AE:=[(.tmp 0,.own 3 U0)]
abbrev UW:List RS:=[.one]
abbrev ACN:AE:=[(.tmp 0,.dat U3),(.tmp 3,.di),(.tmp 4,.di)]
abbrev ACL:Ap:=[(.exit 0,[(.tmp 0,.dat U3),(.tmp 3,.di)])]
def EO[Lk]:Uq→Option (Uq⊕Uz⊕Unit):=fun(a0,a1,a2,_)=>
 match(ilt a2 (AK a0))with
 |true=>match idx a0 a2 with|none=>none|some x0=>some (.inl (a0,(CJ a1 x0),(IntKind.wrap .i64 (a2+1)),()))
 |false=>some (.inr (.inl (a0,a1,())))
def OU[Lk]:Up→Option (Up):=fun(a0,_)=>
 match K5 (a0,())with|none=>none|some (y0,_)=>match(!y0)with
 |true=>some (([]:List (Int)),())
 |false=>match(ieq (AK a0) 0)with
 |true=>some (([]:List (Int)),())
 |false=>match idx a0 0 with|none=>none|some x1=>match AX EO many (a0,x1,0,())with|none=>none|some r=>match r with
 |.inl (o2,o3,_)=>match Qd (o2,o3,())with|none=>none|some (y4,y5,_)=>some (y4,())
 |.inr _=>none
def OV[Lk]:=fun v=>Lk.f (OU v)
theorem ACO v:OV v=OU v:=AJ _
abbrev WJ:AE:=[(.tmp 0,.dat Ub),(.tmp 1,.dat Ub)]
abbrev WI:AE:=[(.tmp 0,.dat .bool)]
abbrev WH:List RS:=[.one]
abbrev ADr:AE:=[(.tmp 0,.dat Ub),(.tmp 1,.dat Ub),(.tmp 5,.di)]
abbrev ADq:Ap:=[(.ret,[(.tmp 4,.dat .bool)]),(.exit 0,[])]
def Df[Lk]:(List U4×List U4×Int×Unit)→Option ((List U4×List U4×Int×Unit)⊕Uf⊕(Unit)⊕Unit):=fun(a0,a1,a2,_)=>
 match(ilt a2 (AK a0))with
 |true=>match idx a0 a2 with|none=>none|some x0=>match idx a1 a2 with|none=>none|some x1=>match LV (x0,x1,())with|none=>none|some (y2,_)=>match(!y2)with
  |true=>some (.inr (.inl (false,())))
  |false=>some (.inl (a0,a1,(IntKind.wrap .i64 (a2+1)),()))
 |false=>some (.inr (.inr (.inl ())))
def Oa[Lk]:(List U4×List U4×Unit)→Option (Uf):=fun(a0,a1,_)=>
 match(!(ieq (AK a0) (AK a1)))with
 |true=>some (false,())
 |false=>match AX Df many (a0,a1,0,())with|none=>none|some r=>match r with
 |.inl (o0,_)=>some (o0,())
 |.inr r=>match r with
 |.inl _=>some (true,())
 |.inr _=>none
def Ry[Lk]:=fun v=>Lk.f (Oa v)
theorem ADs v:Ry v=Oa v:=AJ _
abbrev UO:AE:=[(.tmp 0,.dat Ui)]
abbrev UN:AE:=[(.tmp 0,.dat .bool)]
abbrev UM:List RS:=[.one]
abbrev AB4:AE:=[(.tmp 1,.box 2),(.cell 0 0,.di),(.cell 0 1,.dat Ub),(.tmp 3,.own 4 .bool),(.tmp 4,.di),(.tmp 5,.di),(.tmp 6,.di),(.tmp 7,.dat U3),(.tmp 8,.di),(.tmp 44,.dat U3),(.tmp 45,.di),(.tmp 46,.dat .bool),(.tmp 49,.ptr' 0 0),(.tmp 50,.di),(.tmp 51,.dat U3),(.tmp 52,.dat .bool),(.tmp 53,.dat .bool),(.tmp 56,.dat U3),(.tmp 57,.dat U3),(.tmp 58,.own 43 U3),(.tmp 59,.dat U3),(.tmp 60,.own 43 U3),(.tmp 61,.dat .bool),(.tmp 62,.dat .bool),(.tmp 65,.dat U3),(.tmp 67,.di),(.tmp 68,.di),(.tmp 69,.dat .bool)]
abbrev AB2:Ap:=[(.ret,[(.tmp 2,.dat .bool)]),(.exit 2,[(.tmp 1,.box 2),(.cell 0 0,.di),(.cell 0 1,.dat Ub),(.tmp 3,.own 4 .bool),(.tmp 4,.di),(.tmp 5,.di),(.tmp 6,.di),(.tmp 44,.dat U3),(.tmp 45,.di),(.tmp 46,.dat .bool),(.tmp 49,.ptr' 0 0),(.tmp 50,.di),(.tmp 51,.dat U3),(.tmp 52,.dat .bool),(.tmp 53,.dat .bool),(.tmp 56,.dat U3),(.tmp 57,.dat U3),(.tmp 58,.own 43 U3),(.tmp 59,.dat U3),(.tmp 60,.own 43 U3),(.tmp 61,.dat .bool),(.tmp 62,.dat .bool),(.tmp 65,.dat U3),(.tmp 67,.di),(.tmp 68,.di),(.tmp 69,.dat .bool)])]
def Cy[Lk]:Ut→Option (Ut⊕Uf⊕(Int×List U4×List Bool×Int×Int×Int×List Int×Int×Bool×Int×List Int×Bool×Bool×List Int×List Int×List U4×List Int×List U4×Bool×Bool×List Int×Int×Int×Bool×Unit)⊕Unit):=fun(a0,a1,a2,a3,a4,a5,a6,a7,a8,a9,a10,a11,a12,a13,a14,a15,a16,a17,a18,a19,a20,a21,a22,a23,a24,a25,_)=>
 match(ilt a7 (AK a6))with
 |true=>match idx a6 a7 with|none=>none|some x0=>match(ilt x0 a0)with
  |true=>match idx a6 a7 with|none=>none|some x1=>match idx a2 x1 with|none=>none|some x2=>match(Ab a2 (AN x1) false)with
   |true=>some (.inr (.inl (false,())))
   |false=>match idx a6 a7 with|none=>none|some x3=>match idx a2 x3 with|none=>none|some x4=>some (.inl (a0,a1,(BA a2 (AN x3) true),a3,(IntKind.wrap .i64 (a4+1)),a5,a6,(IntKind.wrap .i64 (a7+1)),a8,a9,a10,a11,a12,a13,a14,a15,a16,a17,a18,a19,a20,a21,a22,a23,a24,a25,()))
  |false=>some (.inl (a0,a1,a2,a3,a4,a5,a6,(IntKind.wrap .i64 (a7+1)),a8,a9,a10,a11,a12,a13,a14,a15,a16,a17,a18,a19,a20,a21,a22,a23,a24,a25,()))
 |false=>some (.inr (.inr (.inl (a0,a1,a2,a3,a4,a5,a8,a9,a10,a11,a12,a13,a14,a15,a16,a17,a18,a19,a20,a21,a22,a23,a24,a25,()))))
abbrev AB5:AE:=[(.tmp 1,.box 2),(.cell 0 0,.di),(.cell 0 1,.dat Ub),(.tmp 3,.own 4 .bool),(.tmp 4,.di),(.tmp 5,.di),(.tmp 6,.di)]
abbrev AB3:Ap:=[(.ret,[(.tmp 2,.dat .bool)]),(.exit 0,[(.tmp 1,.box 2),(.cell 0 0,.di),(.cell 0 1,.dat Ub),(.tmp 5,.di)])]
def Cz[Lk]:(Int×List U4×List Bool×Int×Int×Int×Unit)→Option ((Int×List U4×List Bool×Int×Int×Int×Unit)⊕Uf⊕V4⊕Unit):=fun(a0,a1,a2,a3,a4,a5,_)=>
 match(ilt a5 (AK a1))with
 |true=>match idx a1 a5 with|none=>none|some x0=>match K5 (x0,())with|none=>none|some (y1,_)=>match(!y1)with
  |true=>some (.inr (.inl (false,())))
  |false=>match(ieq (AK x0) 0)with
  |true=>some (.inr (.inl (false,())))
  |false=>match AA3 (a0,x0,())with|none=>none|some (y2,_)=>match(!y2)with
  |true=>some (.inr (.inl (false,())))
  |false=>match OV (x0,())with|none=>none|some (y3,_)=>match Ry (([y3]:List U4),([x0]:List U4),())with|none=>none|some (y4,_)=>match(!y4)with
  |true=>some (.inr (.inl (false,())))
  |false=>match idx x0 0 with|none=>none|some x5=>match(ile x5 a3)with
  |true=>some (.inr (.inl (false,())))
  |false=>match idx x0 0 with|none=>none|some x6=>match AX Cy many (a0,a1,a2,x6,a4,a5,x0,0,x0,(AK x0),(ieq (AK x0) 0),a0,x0,y2,(!y2),x0,y3,([y3]:List U4),x0,([x0]:List U4),y4,(!y4),x0,x5,a3,(ile x5 a3),())with|none=>none|some r=>match r with
  |.inl (o7,_)=>some (.inr (.inl (o7,())))
  |.inr r=>match r with
  |.inl (o8,o9,o10,o11,o12,o13,o14,o15,o16,o17,o18,o19,o20,o21,o22,o23,o24,o25,o26,o27,o28,o29,o30,o31,_)=>some (.inl (o8,o9,o10,o11,o12,(IntKind.wrap .i64 (o13+1)),()))
  |.inr _=>none
 |false=>some (.inr (.inr (.inl (a0,a1,a4,()))))
def OP[Lk]:(Ul×Unit)→Option (Uf):=fun(a0,_)=>
 match(ilt a0.1 1)with
 |true=>some (false,())
 |false=>match(ilt 64 a0.1)with
 |true=>some (false,())
 |false=>match(ilt a0.1 (AK a0.2.1))with
 |true=>some (false,())
 |false=>match(FQ a0.1&&FQ a0.1&&ile a0.1 a0.1&&true)with
 |true=>match AX Cz many (a0.1,a0.2.1,(EB (AN a0.1) false),(-1:Int),(0:Int),(0:Int),())with|none=>none|some r=>match r with
  |.inl (o0,_)=>some (o0,())
  |.inr r=>match r with
  |.inl (o1,o2,o3,_)=>some ((ieq o3 o1),())
  |.inr _=>none
 |false=>none
def K4[Lk]:=fun v=>Lk.f (OP v)
theorem AB6 v:K4 v=OP v:=AJ _
abbrev VC:AE:=[(.tmp 0,.dat Ui),(.tmp 1,.di)]
abbrev VB:AE:=[(.tmp 0,.di)]
abbrev VA:List RS:=[.one]
abbrev ACU:AE:=[(.tmp 1,.di),(.tmp 2,.box 2),(.cell 0 0,.di),(.cell 0 1,.dat Ub),(.tmp 5,.di)]
abbrev ACT:Ap:=[(.ret,[(.tmp 4,.di)]),(.exit 0,[])]
def EP[Lk]:(Int×Int×List U4×Int×Unit)→Option ((Int×Int×List U4×Int×Unit)⊕U9⊕(Unit)⊕Unit):=fun(a0,a1,a2,a3,_)=>
 match(ilt a3 (AK a2))with
 |true=>match idx a2 a3 with|none=>none|some x0=>match EH (x0,a0,())with|none=>none|some (y1,_)=>match(ile 0 y1)with
  |true=>some (.inr (.inl (a3,())))
  |false=>some (.inl (a0,a1,a2,(IntKind.wrap .i64 (a3+1)),()))
 |false=>some (.inr (.inr (.inl ())))
def OW[Lk]:Vg→Option (U9):=fun(a0,a1,_)=>
 match AX EP many (a1,a0.1,a0.2.1,0,())with|none=>none|some r=>match r with
 |.inl (o0,_)=>some (o0,())
 |.inr r=>match r with
 |.inl _=>some ((-1:Int),())
 |.inr _=>none
def G7[Lk]:=fun v=>Lk.f (OW v)
theorem ACV v:G7 v=OW v:=AJ _
abbrev ALH:AE:=[(.tmp 0,.dat Ub),(.tmp 1,.dat U3)]
abbrev ALG:AE:=[(.tmp 0,.own 43 U3)]
abbrev ALF:List RS:=[.one]
abbrev APb:AE:=[(.tmp 0,.dat Ub),(.tmp 1,.own 3 U0),(.tmp 5,.di)]
abbrev APa:Ap:=[(.exit 0,[(.tmp 0,.dat Ub),(.tmp 1,.own 3 U0),(.tmp 5,.di)])]
def Ht[Lk]:(List U4×List Int×Int×Unit)→Option ((List U4×List Int×Int×Unit)⊕(List U4×List Int×Int×Unit)⊕Unit):=fun(a0,a1,a2,_)=>
 match(ilt a2 (AK a0))with
 |true=>match idx a0 a2 with|none=>none|some x0=>match idx x0 0 with|none=>none|some x1=>match idx a1 0 with|none=>none|some x2=>match(ilt x1 (Ab a1 0 0))with
  |true=>some (.inl (a0,a1,(IntKind.wrap .i64 (a2+1)),()))
  |false=>some (.inr (.inl (a0,a1,a2,())))
 |false=>some (.inr (.inl (a0,a1,a2,())))
def Z4[Lk]:(List U4×List Int×Unit)→Option (Uo):=fun(a0,a1,_)=>
 match OV (a1,())with|none=>none|some (y0,_)=>match AX Ht many (a0,y0,0,())with|none=>none|some r=>match r with
 |.inl (o1,o2,o3,_)=>match CM o1 0 o3 with|none=>none|some x4=>match(fits ((AK ([]:List U4))+(AK x4)))with
  |true=>match(fits ((AK (A2 ([]:List U4) x4))+(AK ([o2]:List U4))))with
   |true=>match CM o1 o3 (AK o1)with|none=>none|some x5=>match(fits ((AK (A2 (A2 ([]:List U4) x4) ([o2]:List U4)))+(AK x5)))with
    |true=>some ((A2 (A2 (A2 ([]:List U4) x4) ([o2]:List U4)) x5),())
    |false=>none
   |false=>none
  |false=>none
 |.inr _=>none
def AIL[Lk]:=fun v=>Lk.f (Z4 v)
theorem APc v:AIL v=Z4 v:=AJ _
abbrev Mf:AE:=[(.tmp 0,.dat Ub),(.tmp 1,.di)]
abbrev Me:AE:=[(.tmp 0,.own 43 U3)]
abbrev Md:List RS:=[.one]
def Io[Lk]:V9→Option (Uo):=fun(a0,a1,_)=>
 match CM a0 0 a1 with|none=>none|some x0=>match(fits ((AK ([]:List U4))+(AK x0)))with
 |true=>match CM a0 (IntKind.wrap .i64 (a1+1)) (AK a0)with|none=>none|some x1=>match(fits ((AK (A2 ([]:List U4) x0))+(AK x1)))with
  |true=>some ((A2 (A2 ([]:List U4) x0) x1),())
  |false=>none
 |false=>none
def Ec[Lk]:=fun v=>Lk.f (Io v)
theorem RD v:Ec v=Io v:=AJ _
abbrev ADy:AE:=[(.tmp 0,.dat Ui),(.tmp 1,.di),(.tmp 2,.di)]
abbrev ADx:AE:=[(.tmp 0,.di),(.tmp 1,.dat Ub),(.tmp 2,.di)]
abbrev ADw:List RS:=[.agg 2,.one]
def H6[Lk]:(Ul×Int×Int×Unit)→Option (V4):=fun(a0,a1,a2,_)=>
 match K4 ((a0.1,(a0.2.1,())),())with|none=>none|some (y0,_)=>match(!y0)with
 |true=>some (a0.1,a0.2.1,1,())
 |false=>match AED (a0.1,a1,())with|none=>none|some (y1,_)=>match(!y1)with
 |true=>some (a0.1,a0.2.1,10,())
 |false=>match AED (a0.1,a2,())with|none=>none|some (y2,_)=>match(!y2)with
 |true=>some (a0.1,a0.2.1,10,())
 |false=>match G7 ((a0.1,(a0.2.1,())),a1,())with|none=>none|some (y3,_)=>match G7 ((a0.1,(a0.2.1,())),a2,())with|none=>none|some (y4,_)=>match(ieq y3 y4)with
 |true=>some (a0.1,a0.2.1,5,())
 |false=>match G7 ((a0.1,(a0.2.1,())),a1,())with|none=>none|some (y5,_)=>match G7 ((a0.1,(a0.2.1,())),a2,())with|none=>none|some (y6,_)=>match idx a0.2.1 y5 with|none=>none|some x7=>match Qd (x7,a1,())with|none=>none|some (y8,y9,_)=>match idx a0.2.1 y6 with|none=>none|some x10=>match Qd (x10,a2,())with|none=>none|some (y11,y12,_)=>match AFZ (a0.1,a1,a2,())with|none=>none|some (y13,_)=>match(fits ((AK ([a1,y13]:List (Int)))+(AK y11)))with
 |true=>match AFZ (a0.1,a2,a1,())with|none=>none|some (y14,_)=>match(fits ((AK (A2 ([a1,y13]:List (Int)) y11))+(AK ([y14]:List (Int)))))with
  |true=>match CM y8 1 (AK y8)with|none=>none|some x15=>match(fits ((AK (A2 (A2 ([a1,y13]:List (Int)) y11) ([y14]:List (Int))))+(AK (DP 1 (AN (AK x15)) y8))))with
   |true=>match Ec (a0.2.1,(imax y5 y6),())with|none=>none|some (y16,_)=>match Ec (y16,(CJ y5 y6),())with|none=>none|some (y17,_)=>match AIL (y17,(A2 (A2 (A2 ([a1,y13]:List (Int)) y11) ([y14]:List (Int))) (DP 1 (AN (AK x15)) y8)),())with|none=>none|some (y18,_)=>some (a0.1,y18,0,())
   |false=>none
  |false=>none
 |false=>none
def NQ[Lk]:=fun v=>Lk.f (H6 v)
theorem KR v:NQ v=H6 v:=AJ _
abbrev ABj:AE:=[(.tmp 0,.dat Ug),(.tmp 1,.dat Ug)]
abbrev ABi:AE:=[(.tmp 0,.dat .bool)]
abbrev ABh:List RS:=[.one]
abbrev AIA:AE:=[(.tmp 0,.dat Ug),(.tmp 1,.dat Ug),(.tmp 5,.di)]
abbrev AH9:Ap:=[(.ret,[(.tmp 4,.dat .bool)]),(.exit 0,[])]
def FW[Lk]:(List U1×List U1×Int×Unit)→Option ((List U1×List U1×Int×Unit)⊕Uf⊕(Unit)⊕Unit):=fun(a0,a1,a2,_)=>
 match(ilt a2 (AK a0))with
 |true=>match idx a0 a2 with|none=>none|some x0=>match idx a1 a2 with|none=>none|some x1=>match(!(ieq x0.1 x1.1&&(ieq x0.2.1 x1.2.1&&true)))with
  |true=>some (.inr (.inl (false,())))
  |false=>some (.inl (a0,a1,(IntKind.wrap .i64 (a2+1)),()))
 |false=>some (.inr (.inr (.inl ())))
def Rd[Lk]:(List U1×List U1×Unit)→Option (Uf):=fun(a0,a1,_)=>
 match(!(ieq (AK a0) (AK a1)))with
 |true=>some (false,())
 |false=>match AX FW many (a0,a1,0,())with|none=>none|some r=>match r with
 |.inl (o0,_)=>some (o0,())
 |.inr r=>match r with
 |.inl _=>some (true,())
 |.inr _=>none
def M0[Lk]:=fun v=>Lk.f (Rd v)
theorem AIB v:M0 v=Rd v:=AJ _
abbrev Aey:AE:=[(.tmp 0,.dat Ui),(.tmp 1,.di)]
abbrev Aex:AE:=[(.tmp 0,.di)]
abbrev Aew:List RS:=[.one]
def AYj[Lk]:Vg→Option (U9):=fun(a0,a1,_)=>
 match tin (a0.1,a1,())with|none=>none|some (y0,_)=>match(!y0)with
 |true=>some ((-1:Int),())
 |false=>match Pj ((a0.1,(a0.2.1,())),())with|none=>none|some (y1,_)=>match(!y1)with
 |true=>some ((-1:Int),())
 |false=>match Pk ((a0.1,(a0.2.1,())),a1,())with|none=>none|some (y2,_)=>some (y2,())
def tof[Lk]:=fun v=>Lk.f (AYj v)
theorem Aez v:tof v=AYj v:=AJ _
abbrev Tw:AE:=[(.tmp 0,.dat Ui),(.tmp 1,.dat Ug)]
abbrev Tv:AE:=[(.tmp 0,.di)]
abbrev Tu:List RS:=[.one]
abbrev ABD:AE:=[(.tmp 1,.dat Ug),(.tmp 2,.box 2),(.cell 0 0,.di),(.cell 0 1,.dat Ub),(.tmp 5,.di)]
abbrev ABC:Ap:=[(.ret,[(.tmp 4,.di)]),(.exit 0,[])]
def EN[Lk]:(List U1×Int×List U4×Int×Unit)→Option ((List U1×Int×List U4×Int×Unit)⊕U9⊕(Unit)⊕Unit):=fun(a0,a1,a2,a3,_)=>
 match(ilt a3 (AK a0))with
 |true=>match idx a0 a3 with|none=>none|some x0=>match(ilt x0.1 0)with
  |true=>some (.inr (.inl (10,())))
  |false=>match idx a0 a3 with|none=>none|some x1=>match(ile a1 x1.1)with
  |true=>some (.inr (.inl (10,())))
  |false=>match idx a0 a3 with|none=>none|some x2=>match(ilt x2.2.1 0)with
  |true=>some (.inr (.inl (10,())))
  |false=>match idx a0 a3 with|none=>none|some x3=>match(ile a1 x3.2.1)with
  |true=>some (.inr (.inl (10,())))
  |false=>some (.inl (a0,a1,a2,(IntKind.wrap .i64 (a3+1)),()))
 |false=>some (.inr (.inr (.inl ())))
def OK[Lk]:(Ul×List U1×Unit)→Option (U9):=fun(a0,a1,_)=>
 match K4 ((a0.1,(a0.2.1,())),())with|none=>none|some (y0,_)=>match(!y0)with
 |true=>some (1,())
 |false=>match AX EN many (a1,a0.1,a0.2.1,0,())with|none=>none|some r=>match r with
 |.inl (o1,_)=>some (o1,())
 |.inr r=>match r with
 |.inl _=>some (0,())
 |.inr _=>none
def RX[Lk]:=fun v=>Lk.f (OK v)
theorem ABE v:RX v=OK v:=AJ _
abbrev WN:AE:=[(.tmp 0,.dat Ui),(.tmp 1,.dat Ug)]
abbrev WM:AE:=[(.tmp 0,.dat Ui),(.tmp 1,.own 4 .bool),(.tmp 2,.di)]
abbrev WL:List RS:=[.one,.one,.one]
abbrev ADu:AE:=[(.tmp 1,.dat Ug),(.tmp 2,.box 2),(.cell 0 0,.di),(.cell 0 1,.dat Ub),(.tmp 4,.box 2),(.cell 1 0,.di),(.cell 1 1,.nil U3),(.tmp 8,.own 4 .bool),(.tmp 9,.di)]
abbrev ADt:Ap:=[(.exit 0,[(.tmp 2,.box 2),(.cell 0 0,.di),(.cell 0 1,.dat Ub),(.tmp 4,.box 2),(.cell 1 0,.di),(.cell 1 1,.nil U3),(.tmp 8,.own 4 .bool)])]
def ET[Lk]:(List U1×Int×List U4×Int×List Bool×Int×Unit)→Option ((List U1×Int×List U4×Int×List Bool×Int×Unit)⊕(Int×List U4×Int×List Bool×Unit)⊕Unit):=fun(a0,a1,a2,a3,a4,a5,_)=>
 match(ilt a5 (AK a0))with
 |true=>match idx a0 a5 with|none=>none|some x0=>match idx a0 a5 with|none=>none|some x1=>match NQ ((a1,(a2,())),x0.1,x1.2.1,())with|none=>none|some (y2,y3,y4,_)=>match(fits ((AK a4)+(AK ([(ieq y4 0)]:List (Bool)))))with
  |true=>some (.inl (a0,y2,y3,a3,(A2 a4 ([(ieq y4 0)]:List (Bool))),(IntKind.wrap .i64 (a5+1)),()))
  |false=>none
 |false=>some (.inr (.inl (a1,a2,a3,a4,())))
def Oc[Lk]:(Ul×List U1×Unit)→Option ((Ul×List Bool×Int×Unit)):=fun(a0,a1,_)=>
 match RX ((a0.1,(a0.2.1,())),a1,())with|none=>none|some (y0,_)=>match(!(ieq y0 0))with
 |true=>some ((a0.1,(a0.2.1,())),([]:List (Bool)),y0,())
 |false=>match AX ET many (a1,a0.1,a0.2.1,0,([]:List (Bool)),0,())with|none=>none|some r=>match r with
 |.inl (o1,o2,o3,o4,_)=>some ((o1,(o2,())),o4,0,())
 |.inr _=>none
def Rz[Lk]:=fun v=>Lk.f (Oc v)
theorem ADv v:Rz v=Oc v:=AJ _
abbrev AWC:AE:=[(.tmp 0,.di),(.tmp 1,.dat Ug)]
abbrev AWB:AE:=[(.tmp 0,.dat Ui),(.tmp 1,.di)]
abbrev AWA:List RS:=[.one,.one]
def ALv[Lk]:(Int×List U1×Unit)→Option (Vg):=fun(a0,a1,_)=>
 match WB (a0,())with|none=>none|some (y0,y1,y2,_)=>match(!(ieq y2 0))with
 |true=>some ((0,(([]:List U4),())),y2,())
 |false=>match Rz ((y0,(y1,())),a1,())with|none=>none|some (y3,y4,y5,_)=>match(!(ieq y5 0))with
 |true=>some ((0,(([]:List U4),())),y5,())
 |false=>some ((y3.1,(y3.2.1,())),0,())
def Agn[Lk]:=fun v=>Lk.f (ALv v)
theorem AZW v:Agn v=ALv v:=AJ _
abbrev Tp:AE:=[(.tmp 0,.dat Un),(.tmp 1,.di)]
abbrev To:AE:=[(.tmp 0,.own 34 U2)]
abbrev Tn:List RS:=[.one]
abbrev AAy:AE:=[(.tmp 1,.di),(.tmp 2,.box 2),(.cell 0 0,.di),(.cell 0 1,.dat U5),(.tmp 5,.own 34 U2),(.tmp 6,.di)]
abbrev AAx:Ap:=[(.exit 0,[(.tmp 5,.own 34 U2)])]
def EM[Lk]:(Int×Int×List U6×List U1×Int×Unit)→Option ((Int×Int×List U6×List U1×Int×Unit)⊕Uh⊕Unit):=fun(a0,a1,a2,a3,a4,_)=>
 match(ilt a4 (AK a2))with
 |true=>match idx a2 a4 with|none=>none|some x0=>match x0.2.2.2.1 with
  |true=>match idx a2 a4 with|none=>none|some x1=>match(ile a0 x1.2.2.1)with
   |true=>match idx a2 a4 with|none=>none|some x2=>match idx a2 a4 with|none=>none|some x3=>match(fits ((AK a3)+(AK ([(x2.1,(x3.2.1,()))]:List U1))))with
    |true=>some (.inl (a0,a1,a2,(A2 a3 ([(x2.1,(x3.2.1,()))]:List U1)),(IntKind.wrap .i64 (a4+1)),()))
    |false=>none
   |false=>some (.inl (a0,a1,a2,a3,(IntKind.wrap .i64 (a4+1)),()))
  |false=>some (.inl (a0,a1,a2,a3,(IntKind.wrap .i64 (a4+1)),()))
 |false=>some (.inr (.inl (a3,())))
def OH[Lk]:(Um×Int×Unit)→Option (Uh):=fun(a0,a1,_)=>
 match AX EM many (a1,a0.1,a0.2.1,([]:List U1),0,())with|none=>none|some r=>match r with
 |.inl (o0,_)=>some (o0,())
 |.inr _=>none
def RT[Lk]:=fun v=>Lk.f (OH v)
theorem AAz v:RT v=OH v:=AJ _
abbrev Qg:AE:=[(.tmp 0,.dat Un),(.tmp 1,.di)]
abbrev Qf:AE:=[(.tmp 0,.dat Ui),(.tmp 1,.di)]
abbrev Qe:List RS:=[.one,.one]
def Lh[Lk]:(Um×Int×Unit)→Option (Vg):=fun(a0,a1,_)=>
 match E0 ((a0.1,(a0.2.1,())),())with|none=>none|some (y0,_)=>match(!y0)with
 |true=>some ((0,(([]:List U4),())),1,())
 |false=>match RT ((a0.1,(a0.2.1,())),a1,())with|none=>none|some (y1,_)=>match Agn (a0.1,y1,())with|none=>none|some (y2,y3,_)=>some ((y2.1,(y2.2.1,())),y3,())
def Nb[Lk]:=fun v=>Lk.f (Lh v)
theorem Ye v:Nb v=Lh v:=AJ _
abbrev WS:AE:=[(.tmp 0,.dat Un),(.tmp 1,.di)]
abbrev WR:AE:=[(.tmp 0,.dat Ui),(.tmp 1,.di)]
abbrev WQ:List RS:=[.one,.one]
def HT[Lk]:(Um×Int×Unit)→Option (Vg):=fun(a0,a1,_)=>
 match LM ((a0.1,(a0.2.1,())),())with|none=>none|some (y0,_)=>match(!y0)with
 |true=>some ((0,(([]:List U4),())),1,())
 |false=>match QM ((a0.1,(a0.2.1,())),a1,())with|none=>none|some (y1,_)=>match fof (a0.1,y1,())with|none=>none|some (y2,y3,_)=>some ((y2.1,(y2.2.1,())),y3,())
def LP[Lk]:=fun v=>Lk.f (HT v)
theorem LO v:LP v=HT v:=AJ _
abbrev AWF:AE:=[(.tmp 0,.dat Ui),(.tmp 1,.di)]
abbrev AWE:AE:=[(.tmp 0,.di)]
abbrev AWD:List RS:=[.one]
def ALw[Lk]:Vg→Option (U9):=fun(a0,a1,_)=>
 match K4 ((a0.1,(a0.2.1,())),())with|none=>none|some (y0,_)=>match(!y0)with
 |true=>some ((-1:Int),())
 |false=>match AED (a0.1,a1,())with|none=>none|some (y1,_)=>match(!y1)with
 |true=>some ((-1:Int),())
 |false=>match G7 ((a0.1,(a0.2.1,())),a1,())with|none=>none|some (y2,_)=>some (y2,())
def Agp[Lk]:=fun v=>Lk.f (ALw v)
theorem AZX v:Agp v=ALw v:=AJ _
end
end Go.Pev
end
