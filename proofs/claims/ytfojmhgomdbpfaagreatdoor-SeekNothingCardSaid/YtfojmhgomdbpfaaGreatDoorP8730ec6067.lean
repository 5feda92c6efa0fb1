/- A part of the proofs of this seat: PevDec2 PevFlow PevFlow2 PevCall PevCall2 PevCall3 PevCall4 PevTop PevClone G29M1 G29M2. -/
import Derived.Test.YtfojmhgomdbpfaaGreatDoorP3907187199
import Derived.LoopN
import Derived.Laws.Sem
import Derived.KernelRfl
import Derived.Lib.SliceRun
set_option linter.unusedVariables false
set_option linter.unusedSimpArgs false
set_option linter.unusedSectionVars false
set_option maxRecDepth 100000
section
namespace Go.Pev
open Go.RowKit
theorem AQV(f g:List Nat):∀ fz,Ah (f++g) fz=Ah g (Ah f fz):=by
 induction f with
 |nil=>intro fz;rfl
 |cons a f ih=>intro fz;simp only[Ahl,Ah];exact ih _
section
variable {w:World} {H:List Ob} {m:Mp} {val:Nat→Value} {tm:List AV}
theorem CJ{fz:List Bool}{id:Nat}(h:Ag fz id=true):fz.getD id false=false:=by
 unfold Ag at h;simpa using h
theorem ATS:∀ (its:AE) (fz:List Bool) (bs:List Bnd) (F:Nat→Prop) (m':Mp) (E:St) (d:B6 (leaves its)) (bs':List Bnd) (fr:List Nat),
  HI w F m H fz→(∀ t v,tm[t]? = some v→Rep w F m H v (val t))→Inv w F m H fz bs m' E val→dec tm H its fz bs=some (d,bs',fr) →
  ∃ F2 m2,Ao w F m H fz w F2 m H (Ah fr fz)∧Inv w F2 m H (Ah fr fz) bs' m2 (enc its d E) val∧∃ r,bs'=bs++r:=by
 intro its
 induction its with
 |nil=>
  intro fz bs F m' E d bs' fr hi ht hv h
  simp only[dec,AhG]at h
  obtain⟨rfl,rfl,rfl⟩:=h
  exact⟨F,m',Ao.refl hi,hv,[],by simp⟩
 |cons p r ih=>
  intro fz bs F m' E d bs' fr hi ht hv h
  obtain⟨l,c⟩:=p
  have obj:∀ (b:Bnd) (o:Ob) (lc:Option (Nat×Nat)) (ref:AV) (u:Value) (xs:B6 (leaves r)) (g:List Nat),AT0 w m H bs val l u→(∀ (i:Nat) (c:Bnd) (id:Nat),bs[i]? = some c→c.id? = some id→b.id?≠some id) →
    BM w F m H fz (upd m' E.heap.length lc) (E.heap++[o]) E.heap.length b→Rep w F (upd m' E.heap.length lc) (E.heap++[o]) ref u→dec tm H r fz (bs++[b])=some (xs,bs',g) →
    ∃ F2 m2,Ao w F m H fz w F2 m H (Ah g fz)∧Inv w F2 m H (Ah g fz) bs' m2 (enc r xs (place (Dl E o) ref l)) val∧∃ r,bs'=bs++r:=by
   intro b o lc ref u xs g hat hid hbd hrep hd
   have h1:=hv.add hid hbd
   have h2:=h1.place (hat.app b) hrep
   obtain⟨F2,m2,a1,a2,rr,a3⟩:=ih fz (bs++[b]) F _ _ xs bs' g hi ht h2 hd
   exact⟨F2,m2,a1,a2,b::rr,by rw[a3];simp⟩
  have ref:∀ (v:AV) (u:Value) (xs:B6 (leaves r)) (g:List Nat),AT0 w m H bs val l u→Rep w F m' E.heap v u→dec tm H r fz bs=some (xs,bs',g) →
    ∃ F2 m2,Ao w F m H fz w F2 m H (Ah g fz)∧Inv w F2 m H (Ah g fz) bs' m2 (enc r xs (place E v l)) val∧∃ r,bs'=bs++r:=by
   intro v u xs g hat hrep hd
   exact ih fz bs F _ _ xs bs' g hi ht (hv.place hat hrep) hd
  cases c with
  |dat t=>
   simp only[dec]at h
   split at h
   ·rename_i v hl
    split at h
    ·rename_i x f hx
     split at h
     ·rename_i hf
      split at h
      ·rename_i xs bs1 g hd
       simp only[AhG]at h
       obtain⟨rfl,rfl,rfl⟩:=h
       obtain⟨u,hu,hat⟩:=Bi hi ht hl
       have hdat:=AdG hi hx hu
       have hg:=Ao.freeze hi f
       have hv1:=hv.freeze hf
       have hv2:=hv1.place (v:=.data t x) hat (by unfold Rep;exact hdat)
       obtain⟨F2,m2,a1,a2,rr,a3⟩:=ih (Ah f fz) bs (C5 F m H f) _ _ xs _ _ hg.2 (fun t v h=>hg.1.rep hi (ht t v h)) hv2 hd
       rw[AQV]
       exact⟨F2,m2,hg.trans a1,a2,rr,a3⟩
      ·cases h
     ·cases h
    ·cases h
   ·cases h
  |own T e=>
   simp only[dec]at h
   split at h
   ·rename_i e' hl
    split at h
    ·rename_i hc
     simp only[AhI]at hc
     have hsz:=hc
     split at h
     ·rename_i xs bs1 g hd
      simp only[AhG]at h
      obtain⟨rfl,rfl,rfl⟩:=h
      obtain⟨u,hu,hat⟩:=Bi hi ht hl
      unfold Rep at hu
      refine obj .none (.arr T e []) none (.own E.heap.length) u xs _ hat (fun _ _ _ _ _=>by simp[Bnd.id?]) ?_ ?_ hd
      ·simp only[BM]
       exact⟨Ap ..,.inl ⟨T,e,by simp,hsz⟩⟩
      ·unfold Rep A7
       simp only[Aht (AhQ _),Ai2,Ah0,Ap]
       exact⟨_,hu⟩
     ·cases h
    ·cases h
   ·rename_i id hl
    split at h
    ·rename_i T' e' ys ho hfr
     simp only[AhJ]at hfr
     obtain⟨hun,hfr⟩:=hfr
     split at h
     ·rename_i ys' hT hc
      simp only[AhI]at hT
      subst hT
      obtain⟨he,hy⟩:=CK hc
      subst he
      simp only at hy
      subst hy
      split at h
      ·rename_i xs bs1 g hd
       simp only[AhG]at h
       obtain⟨rfl,rfl,rfl⟩:=h
       obtain⟨u,hu,hat⟩:=Bi hi ht hl
       refine obj (.whole id) (.arr T e' ys) (m id) (.own E.heap.length) u xs _ hat (fun i c id' hic hcid => ?_) ?_ ?_ hd
       ·rintro h;simp only[Bnd.id?,AhG]at h;subst h;exact E9 hfr i c hic hcid
       ·simp only[BM]
        exact⟨Ap ..,.inl ⟨T,e',ys,ho,by simp,CJ hun⟩⟩
       ·unfold Rep at hu ⊢
        rw[ho]at hu
        rw[Aht (AhQ _),Ai2,Ah0,Ap]
        exact hu
      ·cases h
     ·cases h
    ·cases h
   ·rename_i id n hl
    split at h
    ·rename_i T' e' ys ho hfr
     simp only[AhJ]at hfr
     obtain⟨hun,hfr⟩:=hfr
     split at h
     ·rename_i ys' hT hc
      simp only[AhI]at hT
      subst hT
      obtain⟨he,hy⟩:=CK hc
      subst he
      simp only at hy
      subst hy
      split at h
      ·rename_i xs bs1 g hd
       simp only[AhG]at h
       obtain⟨rfl,rfl,rfl⟩:=h
       obtain⟨u,hu,hat⟩:=Bi hi ht hl
       unfold Rep Gq at hu
       rw[ho]at hu
       obtain⟨hle,hu⟩:=hu
       have hid:∀ (i:Nat) (c:Bnd) (id':Nat),bs[i]? = some c→c.id? = some id'→(Bnd.cut id).id?≠some id':=by
        intro i c id' hic hcid h;simp only[Bnd.id?,AhG]at h;subst h;exact E9 hfr i c hic hcid
       have hget:(E.heap++[Ob.arr T e' (Bn n ys)])[E.heap.length]? = some (Ob.arr T e' (Bn n ys)):=by simp
       obtain⟨hsz,hob⟩:=hi.obj id _ ho
       have hnil:n=0→List.take (α:=e'.den) n ys=[]:=by rintro rfl;simp
       have hlen:List.length (α:=e'.den) (Bn n ys)=n:=by unfold Bn;rw[Ahc];omega
       cases hm:m id with
       |none=>
        rw[hm]at hob hu
        simp only at hob hu
        subst hob
        have h0:n=0:=by simpa using hle
        subst h0
        obtain⟨a,rfl⟩:=hu
        refine obj (.cut id) (.arr T e' (Bn 0 [])) none (.own E.heap.length) _ xs _ hat hid ?_ ?_ hd
        ·simp only[BM]
         exact⟨T,e',[],0,ho,CJ hun,hget,.inl (by rw[Ap,hm])⟩
        ·unfold Rep
         rw[hget,Ap]
         exact⟨a,rfl⟩
       |some p=>
        obtain⟨b,cap⟩:=p
        rw[hm]at hob hu
        obtain⟨a,rfl,ha⟩:=hu
        obtain⟨vs,row,o1,o2,o3,o4,o5,o6⟩:=hob
        by_cases hcap:cap=0
        ·subst hcap
         have h0:n=0:=by omega
         refine obj (.cut id) (.arr T e' (Bn n ys)) none (.own E.heap.length) _ xs _ hat hid ?_ ?_ hd
         ·simp only[BM]
          exact⟨T,e',ys,n,ho,CJ hun,hget,.inr ⟨Ap ..,hnil h0⟩⟩
         ·unfold Rep
          rw[hget,Ap]
          exact⟨a,by rw[h0]⟩
        ·refine obj (.cut id) (.arr T e' (Bn n ys)) (m id) (.own E.heap.length) _ xs _ hat hid ?_ ?_ hd
         ·simp only[BM]
          exact⟨T,e',ys,n,ho,CJ hun,hget,.inl (Ap ..)⟩
         ·unfold Rep A7
          rw[hget,Ap,hm]
          have:=ha (by omega)
          rw[this]
          simp[hlen]
      ·cases h
     ·cases h
    ·cases h
   ·cases h
  |box n=>
   simp only[dec]at h
   split at h
   ·rename_i id hl
    split at h
    ·rename_i cs ho hfr
     split at h
     ·rename_i hn
      simp only[AhI]at hn
      obtain⟨u,hu,hat⟩:=Bi hi ht hl
      obtain⟨b,cc,vs,T,b1,b2,b3,b4⟩:=hi.obj id _ ho
      refine obj (.whole id) (.box (List.replicate n .junk)) (m id) (.ptr E.heap.length 0) u d fr hat (fun i c id' hic hcid => ?_) ?_ ?_ h
      ·rintro h;simp only[Bnd.id?,AhG]at h;subst h;exact E9 hfr i c hic hcid
      ·simp only[BM]
       refine⟨Ap ..,.inr (.inr (.inl ⟨cs,List.replicate n .junk,b,cc,vs,T,ho,by simp,by simp[hn],b1,b2,?_,b4⟩))⟩
       refine DP (by rw[Ar b3];simp[hn]) fun i c v hc _ => ?_
       have:=Ai3 (AhV hc)
       subst this
       unfold Rep;trivial
      ·unfold Rep Gr at hu ⊢
       rw[ho]at hu
       rw[Aht (AhQ _),Ai2,Ah0,Ap]
       exact hu
     ·cases h
    ·cases h
   ·cases h
  |map k v=>
   simp only[dec]at h
   split at h
   ·rename_i id hl
    split at h
    ·rename_i k' v' es ho hfr
     split at h
     ·rename_i es' hc
      obtain⟨he,hy⟩:=CK hc
      cases he
      simp only at hy
      subst hy
      split at h
      ·rename_i xs bs1 g hd
       simp only[AhG]at h
       obtain⟨rfl,rfl,rfl⟩:=h
       obtain⟨u,hu,hat⟩:=Bi hi ht hl
       refine obj (.whole id) (.map k v es) (m id) (.mp E.heap.length) u xs _ hat (fun i c id' hic hcid => ?_) ?_ ?_ hd
       ·rintro h;simp only[Bnd.id?,AhG]at h;subst h;exact E9 hfr i c hic hcid
       ·simp only[BM]
        exact⟨Ap ..,.inr (.inl ⟨k,v,es,ho,by simp⟩)⟩
       ·unfold Rep L7 at hu ⊢
        rw[ho]at hu
        rw[Aht (AhQ _),Ai2,Ah0,Ap]
        exact hu
      ·cases h
     ·cases h
    ·cases h
   ·cases h
  |own' j=>
   simp only[dec]at h
   split at h
   ·rename_i id id' hl hj
    split at h
    ·rename_i hid
     simp only[AhI]at hid
     subst hid
     obtain⟨u,hu,hat⟩:=Bi hi ht hl
     exact ref (.own j) u d fr hat (AbX (hv.ob j _ hj) hu) h
    ·cases h
   ·cases h
  |ptr' j off=>
   simp only[dec]at h
   split at h
   ·rename_i id o id' hl hj
    split at h
    ·rename_i hid
     simp only[AhJ,AhI]at hid
     obtain⟨rfl,rfl⟩:=hid
     obtain⟨u,hu,hat⟩:=Bi hi ht hl
     exact ref (.ptr j o) u d fr hat (ARA (hv.ob j _ hj) hu) h
    ·cases h
   ·cases h
  |sub' j=>
   simp only[dec]at h
   split at h
   ·rename_i id off n id' hl hj
    split at h
    ·rename_i hid
     simp only[AhI]at hid
     subst hid
     split at h
     ·rename_i xs bs1 g hd
      simp only[AhG]at h
      obtain⟨rfl,rfl,rfl⟩:=h
      obtain⟨u,hu,hat⟩:=Bi hi ht hl
      exact ref (.win j off n) u xs _ hat (APG (hv.ob j _ hj) hu) hd
     ·cases h
    ·cases h
   ·cases h
  |win' j=>
   simp only[dec]at h
   split at h
   ·rename_i id n id' hl hj
    split at h
    ·rename_i hid
     simp only[AhI]at hid
     subst hid
     split at h
     ·rename_i xs bs1 g hd
      simp only[AhG]at h
      obtain⟨rfl,rfl,rfl⟩:=h
      obtain⟨u,hu,hat⟩:=Bi hi ht hl
      exact ref (.win j 0 n) u xs _ hat (APG (hv.ob j _ hj) hu) hd
     ·cases h
    ·cases h
   ·rename_i id id' hl hj
    split at h
    ·rename_i T t ys hid ho
     simp only[AhI]at hid
     subst hid
     split at h
     ·rename_i xs bs1 g hd
      simp only[AhG]at h
      obtain⟨rfl,rfl,rfl⟩:=h
      obtain⟨u,hu,hat⟩:=Bi hi ht hl
      exact ref (.win j 0 ys.length) u xs _ hat (APG (hv.ob j _ hj) (Aeb hi ho hu)) hd
     ·cases h
    ·cases h
   ·cases h
  |map' j=>
   simp only[dec]at h
   split at h
   ·rename_i id id' hl hj
    split at h
    ·rename_i hid
     simp only[AhI]at hid
     subst hid
     obtain⟨u,hu,hat⟩:=Bi hi ht hl
     exact ref (.mp j) u d fr hat (Agx (hv.ob j _ hj) hu) h
    ·cases h
   ·cases h
  |clo f ps=>
   simp only[dec]at h
   split at h
   ·rename_i f' vs hl
    split at h
    ·rename_i hc
     simp only[AhJ,AhI]at hc
     obtain⟨rfl,hc⟩:=hc
     obtain⟨u,hu,hat⟩:=Bi hi ht hl
     unfold Rep at hu
     obtain⟨cs,rfl,hr⟩:=hu
     exact ref (.clo f (ps.map fun p=>.ptr p.1 p.2)) _ d fr hat (by unfold Rep;exact⟨cs,rfl,AfU hv.ob vs ps cs.toList hc hr⟩) h
    ·cases h
   ·cases h
  |bnd f j=>
   simp only[dec]at h
   split at h
   ·rename_i f' id id' hl hj
    split at h
    ·rename_i hc
     simp only[AhJ,AhI]at hc
     obtain⟨rfl,rfl⟩:=hc
     obtain⟨u,hu,hat⟩:=Bi hi ht hl
     unfold Rep at hu
     obtain⟨cs,rfl,hr⟩:=hu
     refine ref (.bnd f [.own j]) _ d fr hat ?_ h
     unfold Rep
     refine⟨cs,rfl,?_⟩
     unfold Ad at hr ⊢
     obtain⟨x,xs,e1,e2,e3⟩:=hr
     refine⟨x,xs,e1,AbX (hv.ob j _ hj) e2,?_⟩
     unfold Ad at e3 ⊢
     exact e3
    ·cases h
   ·cases h
  |prs T j=>
   simp only[dec]at h
   split at h
   ·rename_i e' hl
    split at h
    ·rename_i xs bs1 g hd
     simp only[AhG]at h
     obtain⟨rfl,rfl,rfl⟩:=h
     obtain⟨u,hu,hat⟩:=Bi hi ht hl
     unfold Rep at hu
     refine obj .none (.prs T j []) none (.own E.heap.length) u xs _ hat (fun _ _ _ _ _=>by simp[Bnd.id?]) ?_ ?_ hd
     ·simp only[BM]
      exact⟨Ap ..,.inr ⟨T,j,by simp⟩⟩
     ·unfold Rep A7
      simp only[Aht (AhQ _),Ai2,Ah0,Ap]
      exact⟨_,hu⟩
    ·cases h
   ·rename_i id hl
    split at h
    ·rename_i T' tgt is tgt' ho hfr hj
     split at h
     ·rename_i hT
      simp only[AhJ,AhI]at hT
      obtain⟨rfl,rfl⟩:=hT
      split at h
      ·rename_i xs bs1 g hd
       simp only[AhG]at h
       obtain⟨rfl,rfl,rfl⟩:=h
       obtain⟨u,hu,hat⟩:=Bi hi ht hl
       have hbj:=hv.ob j _ hj
       have hob:=hi.obj id _ ho
       have hcomp:CG E.heap (E.heap++[.prs T j is]) m' (upd m' E.heap.length (m id)):=by
        intro i x hi hf
        have hlt:=Al hi
        rcases CG.refl E.heap m' i x hi hf with h|⟨hd,o',h4,h5,_⟩
        ·exact .inl (by rw[Ahn hlt];exact h)
        ·exact .inr ⟨hd,o',by rw[Ahn hlt];exact h4,h5,FQ (by omega),fun _ _ _=>EM (by simp)⟩
       have hob':ObI w F (upd m' E.heap.length (m id)) (E.heap++[.prs T j is]) (.prs T j is) (m id):=by
        cases hm:m id with
        |none=>rw[hm]at hob;exact hob
        |some p=>
         obtain⟨b,cap⟩:=p
         rw[hm]at hob hcomp
         obtain⟨vs,us,e1,e2,e3,e4,e5,e6⟩:=hob
         exact⟨vs,us,e1,e2,e3,e4,Ad.mono (fun _ _=>rfl) (fun _ h=>h) hcomp _ (AeP hbj e5),e6⟩
       refine obj (.whole id) (.prs T j is) (m id) (.own E.heap.length) u xs _ hat (fun i c id' hic hcid => ?_) ?_ ?_ hd
       ·rintro h;simp only[Bnd.id?,AhG]at h;subst h;exact E9 hfr i c hic hcid
       ·simp only[BM]
        exact⟨Ap ..,.inr (.inr (.inr (.inl ⟨T,tgt,j,is,ho,by simp,hob'⟩)))⟩
       ·unfold Rep at hu ⊢
        rw[ho]at hu
        rw[Aht (AhQ _),Ai2,Ah0,Ap]
        exact hu
      ·cases h
     ·cases h
    ·cases h
   ·cases h
  |nil e=>
   simp only[dec]at h
   cases hl:look tm H bs l with
   |none=>rw[hl]at h;cases h
   |some v=>
    rw[hl]at h
    cases v with
    |nils e'=>
     obtain⟨u,hu,hat⟩:=Bi hi ht hl
     exact ref (.nils e) u d fr hat (by unfold Rep at *;exact hu) h
    |_=>cases h
  |rows T e t=>
   simp only[dec]at h
   split at h
   ·rename_i id hl
    split at h
    ·rename_i T' e' t' ys ver ho hfr
     simp only[AhJ]at hfr
     obtain⟨hun,hfr⟩:=hfr
     split at h
     ·rename_i ys' hT hc
      simp only[AhJ,AhI]at hT
      obtain⟨rfl,rfl⟩:=hT
      obtain⟨he,hy⟩:=CK hc
      cases he
      simp only at hy
      subst hy
      split at h
      ·rename_i xs bs1 g hd
       simp only[AhG]at h
       obtain⟨rfl,rfl,rfl⟩:=h
       obtain⟨u,hu,hat⟩:=Bi hi ht hl
       have hrep:Rep w F (OH m' E.heap.length (m id) fun k=>m (.r id k)) (E.heap++[.rows (.arr T) e t ys 0 none]) (.own E.heap.length) u:=by
        unfold Rep at hu ⊢
        rw[ho]at hu
        rw[Aht (AhQ _),Ai2,Ah0,Kd]
        exact hu
       have h1:=hv.Agj (b:=.whole id) (o:=.rows (.arr T) e t ys 0 none) (mn:=OH m' E.heap.length (m id) fun k=>m (.r id k)) (fun x hx=>G0 hx)
        (fun i c id' hic hcid h=>by simp only[Bnd.id?,AhG]at h;subst h;exact E9 hfr i c hic hcid)
        (by simp only[BM];exact⟨Kd,.inr (.inr (.inr (.inr ⟨.arr T,e,t,ys,ver,ho,by simp,fun k=>AGd,CJ hun⟩)))⟩)
       have h2:=h1.place (hat.app (.whole id)) hrep
       obtain⟨F2,m2,a1,a2,rr,a3⟩:=ih fz (bs++[.whole id]) F _ _ xs _ _ hi ht h2 hd
       exact⟨F2,m2,a1,a2,.whole id::rr,by rw[a3];simp⟩
      ·cases h
     ·cases h
    ·cases h
   ·cases h
  |mrows j e t=>
   simp only[dec]at h
   split at h
   ·rename_i id hl
    split at h
    ·rename_i j' ks e' t' ys ver ho hfr
     simp only[AhJ]at hfr
     obtain⟨hun,hfr⟩:=hfr
     split at h
     ·rename_i ys' hT hc
      simp only[AhJ,AhI]at hT
      obtain⟨rfl,rfl⟩:=hT
      obtain⟨he,hy⟩:=CK hc
      cases he
      simp only at hy
      subst hy
      split at h
      ·rename_i xs bs1 g hd
       simp only[AhG]at h
       obtain⟨rfl,rfl,rfl⟩:=h
       obtain⟨u,hu,hat⟩:=Bi hi ht hl
       have hrep:Rep w F (OH m' E.heap.length (m id) fun k=>m (.r id k)) (E.heap++[.rows (.map j ks) e t ys 0 none]) (.mp E.heap.length) u:=by
        unfold Rep at hu ⊢
        rw[ho]at hu
        rw[Aht (AhQ _),Ai2,Ah0,Kd]
        exact hu
       have h1:=hv.Agj (b:=.whole id) (o:=.rows (.map j ks) e t ys 0 none) (mn:=OH m' E.heap.length (m id) fun k=>m (.r id k)) (fun x hx=>G0 hx)
        (fun i c id' hic hcid h=>by simp only[Bnd.id?,AhG]at h;subst h;exact E9 hfr i c hic hcid)
        (by simp only[BM];exact⟨Kd,.inr (.inr (.inr (.inr ⟨.map j ks,e,t,ys,ver,ho,by simp,fun k=>AGd,CJ hun⟩)))⟩)
       have h2:=h1.place (hat.app (.whole id)) hrep
       have hzl:ks.length=List.length (α:=List t.den) ys:=by
        obtain⟨_,h4⟩:=hi.obj id _ ho
        cases hm:m id with
        |none=>rw[hm]at h4;cases h4.1
        |some p=>
         obtain⟨b,cap⟩:=p
         rw[hm]at h4
         obtain⟨_,_,_,_,_,h5,_⟩:=h4
         exact(h5.resolve_right fun h=>by cases h.1).symm
       have he:enc ((l,.mrows j e t)::r) ((List.zip (β:=List t.den) ks ys,xs):B6 (leaves ((l,.mrows j e t)::r))) E=enc r xs (place (Dl E (.rows (.map j ks) e t ys 0 none)) (.mp E.heap.length) l):=by
        simp only[enc]
        rw[List.map_fst_zip (AjT hzl),List.map_snd_zip (AjT hzl.symm)]
       rw[he]
       obtain⟨F2,m2,a1,a2,rr,a3⟩:=ih fz (bs++[.whole id]) F _ _ xs _ _ hi ht h2 hd
       exact⟨F2,m2,a1,a2,.whole id::rr,by rw[a3];simp⟩
      ·cases h
     ·cases h
    ·cases h
   ·cases h
  |aptr T e n=>
   simp only[dec]at h
   split at h
   ·rename_i id n' hl
    split at h
    ·rename_i T' e' ys ho hfr
     simp only[AhJ]at hfr
     obtain⟨hun,hfr⟩:=hfr
     split at h
     ·rename_i ys' hT hc
      simp only[AhJ,AhI]at hT
      obtain⟨rfl,rfl⟩:=hT
      obtain⟨he,hy⟩:=CK hc
      subst he
      simp only at hy
      subst hy
      split at h
      ·rename_i xs bs1 g hd
       simp only[AhG]at h
       obtain⟨rfl,rfl,rfl⟩:=h
       obtain⟨u,hu,hat⟩:=Bi hi ht hl
       refine obj (.whole id) (.arr T e' ys) (m id) (.aptr E.heap.length n) u xs _ hat (fun i c id' hic hcid => ?_) ?_ ?_ hd
       ·rintro h;simp only[Bnd.id?,AhG]at h;subst h;exact E9 hfr i c hic hcid
       ·simp only[BM]
        exact⟨Ap ..,.inl ⟨T,e',ys,ho,by simp,CJ hun⟩⟩
       ·unfold Rep at hu ⊢
        rw[ho]at hu
        rw[Aht (AhQ _),Ai2,Ah0,Ap]
        exact hu
      ·cases h
     ·cases h
    ·cases h
   ·cases h
  |bndp f j=>
   simp only[dec]at h
   split at h
   ·rename_i f' id id' hl hj
    split at h
    ·rename_i hc
     simp only[AhJ,AhI]at hc
     obtain⟨rfl,rfl⟩:=hc
     obtain⟨u,hu,hat⟩:=Bi hi ht hl
     unfold Rep at hu
     obtain⟨cs,rfl,hr⟩:=hu
     refine ref (.bnd f [.ptr j 0]) _ d fr hat ?_ h
     unfold Rep
     refine⟨cs,rfl,?_⟩
     unfold Ad at hr ⊢
     obtain⟨x,xs,e1,e2,e3⟩:=hr
     refine⟨x,xs,e1,ARA (hv.ob j _ hj) e2,?_⟩
     unfold Ad at e3 ⊢
     exact e3
    ·cases h
   ·cases h
  |nilp=>
   simp only[dec]at h
   cases hl:look tm H bs l with
   |none=>rw[hl]at h;cases h
   |some v=>
    rw[hl]at h
    cases v with
    |nilp=>
     obtain⟨u,hu,hat⟩:=Bi hi ht hl
     exact ref .nilp u d fr hat (by unfold Rep at *;exact hu) h
    |_=>cases h
  |aptr' j n=>
   simp only[dec]at h
   split at h
   ·rename_i id n' id' hl hj
    split at h
    ·rename_i hid
     simp only[AhJ,AhI]at hid
     obtain⟨rfl,rfl⟩:=hid
     obtain⟨u,hu,hat⟩:=Bi hi ht hl
     exact ref (.aptr j n) u d fr hat (Afb (hv.ob j _ hj) hu) h
    ·cases h
   ·cases h
end
end Go.Pev
end
section
namespace Go.Pev
open Go.RowKit
structure VL(np:Nat)(w:World)(F:Nat→Prop)(m:Mp)(H:List Ob)(fz:List Bool)(w':World)(F':Nat→Prop)(m':Mp)(H':List Ob)(fz':List Bool):Prop where
 os:w'.os=w.os
 tape:w'.tape=w.tape
 output:w'.output=w.output
 size:w.heap.size≤w'.heap.size
 keep:∀ b,b<w.heap.size→(∀ i c,owned H fz i→m i≠some (b,c))→w'.heap[b]? = w.heap[b]?
 sub:∀ b,F b→F' b
 bnd:∀ b,F' b→F b∨(∃ i c,owned H fz i∧m i=some (b,c))∨w.heap.size≤b
 own:∀ i b c,owned H' fz' i→m' i=some (b,c)→(∃ i c,owned H fz i∧m i=some (b,c))∨w.heap.size≤b
 comp:∀ (i:Nat) o,i<np→H[i]? = some o→o≠.free→H'[i]? = some .dead∨(o≠.dead∧∃ o',H'[i]? = some o'∧sameShape o o'∧m' i=m i∧(BS o=false→QC o'=QC o→∀ k,m' (.r i k)=m (.r i k)))
theorem Ext.toN{w w':World}{F F':Nat→Prop}{m m':Mp}{H H':List Ob}{fz fz':List Bool}(h:Ext w F m H fz w' F' m' H' fz')(np:Nat):VL np w F m H fz w' F' m' H' fz':=
 ⟨h.os,h.tape,h.output,h.size,h.keep,h.sub,h.bnd,h.own,fun i o _=>h.comp i o⟩
theorem VL.refl(np:Nat)(w:World)(F:Nat→Prop)(m:Mp)(H:List Ob)(fz:List Bool):VL np w F m H fz w F m H fz:=(Ext.refl ..).toN np
theorem VL.trans{np:Nat}{w w1 w2:World}{F F1 F2:Nat→Prop}{m m1 m2:Mp}{H H1 H2:List Ob}{fz fz1 fz2:List Bool}
  (h:VL np w F m H fz w1 F1 m1 H1 fz1) (k:VL np w1 F1 m1 H1 fz1 w2 F2 m2 H2 fz2):VL np w F m H fz w2 F2 m2 H2 fz2 where
 os:=k.os.trans h.os
 tape:=k.tape.trans h.tape
 output:=k.output.trans h.output
 size:=AiP h.size k.size
 keep b hb hn:=by
  rw[k.keep b (Aib hb h.size) ?_,h.keep b hb hn]
  intro i c ho he
  rcases h.own i b c ho he with⟨i',c',h1,h2⟩|h1
  ·exact hn i' c' h1 h2
  ·omega
 sub b hb:=k.sub b (h.sub b hb)
 bnd b hb:=by
  rcases k.bnd b hb with h1|⟨i,c,h1,h2⟩|h1
  ·exact h.bnd b h1
  ·rcases h.own i b c h1 h2 with h3|h3
   ·exact .inr (.inl h3)
   ·exact .inr (.inr h3)
  ·exact .inr (.inr (AiP h.size h1))
 own i b c h1 h2:=by
  rcases k.own i b c h1 h2 with⟨i',c',h3,h4⟩|h3
  ·exact h.own i' b c' h3 h4
  ·exact .inr (AiP h.size h3)
 comp i o hlt ho hf:=by
  rcases h.comp i o hlt ho hf with h1|⟨hd,o',h1,h2,h3,hp⟩
  ·rcases k.comp i _ hlt h1 (by simp)with h4|⟨h5,_⟩
   ·exact .inl h4
   ·exact absurd rfl h5
  ·have hf':o'≠.free:=by rintro rfl;cases o<;>simp[sameShape]at h2
   rcases k.comp i o' hlt h1 hf' with h4|⟨_,o'',h4,h5,h6,hq⟩
   ·exact .inl h4
   ·refine .inr ⟨hd,o'',h4,h2.trans h5,h6.trans h3,fun a b k => ?_⟩
    have h8:=h2.ver
    have h9:=h5.ver
    exact(hq (h8.2▸a) (by omega) k).trans (hp a (by omega) k)
section
variable {w:World} {F:Nat→Prop} {m:Mp} {H:List Ob} {fz:List Bool} {bs:List Bnd} {m':Mp} {E:St} {val:Nat→Value}
def Ix.at:Ix→Nat→Ix
 |.o _,i=>.o i
 |.r _ k,i=>.r i k
theorem Ix.Afp(x:Ix)(i:Nat):(x.at i).id=i:=by cases x<;>rfl
theorem Inv.Ag8(h:Inv w F m H fz bs m' E val){i b c:Nat}(ho:owned E.heap E.frz i)(hm:m' i=some (b,c)):∃ x id,bs[i]? = some x∧x.id? = some id∧owned H fz id∧m id=some (b,c):=by
 obtain⟨o,hio,_,_⟩:=Eo ho
 have hlt:=Al hio
 rw[h.lenH]at hlt
 have hx:bs[i]? = some bs[i]:=AhM hlt
 have hb:=h.ob i _ hx
 cases hc:bs[i]with
 |none=>rw[hc]at hb;simp only[BM]at hb;rw[hb.1]at hm;cases hm
 |whole id=>
  rw[hc]at hb hx
  simp only[BM]at hb
  obtain⟨e,hb⟩:=hb
  refine⟨_,id,hx,rfl,?_,by rw[← e];exact hm⟩
  simp only[owned,Bp]
  rcases hb with⟨T,t,xs,a1,_,a3⟩|⟨k,v,es,a1,_⟩|⟨cs,cs',b,c,vs,T,a1,_⟩|⟨_,_,_,_,a1,_⟩|⟨_,_,_,_,_,a1,_,_,a4⟩
  ·rw[a1];exact a3
  ·rw[a1];trivial
  ·rw[a1];trivial
  ·rw[a1];trivial
  ·rw[a1];exact a4
 |cut id=>
  rw[hc]at hb hx
  simp only[BM]at hb
  obtain⟨T,t,xs,n,a1,a2,a3,a4⟩:=hb
  refine⟨_,id,hx,rfl,by simp only[owned,Bp];rw[a1];exact a2,?_⟩
  rcases a4 with a4|⟨a4,_⟩
  ·rw[← a4];exact hm
  ·rw[a4]at hm;cases hm
theorem Inv.rowAt(h:Inv w F m H fz bs m' E val){j:Nat}{T:RK}{e:TypeId}{t:Ty}{xs:List (List t.den)}{ver:Nat}{out:Option Nat}(hj:E.heap[j]? = some (.rows T e t xs ver out)):
  ∃ id ver',bs[j]? = some (.whole id)∧H[id]? = some (.rows T e t xs ver' none)∧out=none∧m' j=m id∧(∀ k,m' (.r j k)=m (.r id k))∧fz.getD id false=false:=by
 have hlt:=Al hj
 rw[h.lenH]at hlt
 have hx:bs[j]? = some bs[j]:=AhM hlt
 have hb:=h.ob j _ hx
 cases hc:bs[j]with
 |none=>
  rw[hc]at hb;simp only[BM]at hb
  rcases hb.2 with⟨T,e,e2,_⟩|⟨T,t,e2⟩<;>(rw[hj]at e2;cases e2)
 |whole id=>
  rw[hc]at hb hx;simp only[BM]at hb
  obtain⟨e0,hb⟩:=hb
  rcases hb with⟨T,t,xs,a1,a2,a3⟩|⟨k,v,es,a1,a2⟩|⟨cs,cs',b,c,vs,T,a1,a2,_⟩|⟨_,_,_,_,a1,a2,_⟩|⟨T,e,t,xs,ver,a1,a2,a3⟩
  ·rw[hj]at a2;cases a2
  ·rw[hj]at a2;cases a2
  ·rw[hj]at a2;cases a2
  ·rw[hj]at a2;cases a2
  ·rw[hj]at a2;cases a2
   exact⟨id,ver,hx,a1,rfl,e0,a3⟩
 |cut id=>
  rw[hc]at hb;simp only[BM]at hb
  obtain⟨T,t,xs,n,_,_,a3,_⟩:=hb
  rw[hj]at a3;cases a3
theorem Inv.src(h:Inv w F m H fz bs m' E val){i:Ix}{b c:Nat}(ho:owned E.heap E.frz i)(hm:m' i=some (b,c)):∃ x id,bs[i.id]? = some x∧x.id? = some id∧owned H fz (i.at id)∧m (i.at id)=some (b,c):=by
 cases i with
 |o i=>exact h.Ag8 ho hm
 |r i k=>
  simp only[owned]at ho
  split at ho
  ·rename_i T e t xs ver out hj
   obtain⟨id,ver',a1,a2,_,_,a5,a6⟩:=h.rowAt hj
   exact⟨_,id,a1,rfl,by simp only[owned,Ix.at];rw[a2];exact⟨ho.1,a6⟩,(a5 k).symm.trans hm⟩
  ·exact ho.elim
theorem Inv.hi(hi:HI w F m H fz)(h:Inv w F m H fz bs m' E val):HI w F m' E.heap E.frz where
 obj j o hj:=by
  have hlt:=Al hj
  rw[h.lenH]at hlt
  have hx:bs[j]? = some bs[j]:=AhM hlt
  have hb:=h.ob j _ hx
  cases hc:bs[j]with
  |none=>
   rw[hc]at hb
   simp only[BM]at hb
   obtain⟨e1,⟨T,e,e2,e3⟩|⟨T,t,e2⟩⟩:=hb
   ·rw[hj]at e2;cases e2
    exact⟨e3,by rw[e1]⟩
   ·rw[hj]at e2;cases e2
    rw[e1]
    exact(rfl:([]:List Int)=[])
  |whole id=>
   rw[hc]at hb
   simp only[BM]at hb
   obtain⟨e,hb⟩:=hb
   rcases hb with⟨T,t,xs,a1,a2,a3⟩|⟨k,v,es,a1,a2⟩|⟨cs,cs',b,c,vs,T,a1,a2,_,a4,a5,a6,a7⟩|⟨T,tgt,j0,is,a1,a2,a3⟩|⟨T,e',t,xs,ver,a1,a2,a3⟩
   ·rw[hj]at a2;cases a2
    rw[e];exact hi.obj id _ a1
   ·rw[hj]at a2;cases a2
    rw[e];exact hi.obj id _ a1
   ·rw[hj]at a2;cases a2
    exact⟨b,c,vs,T,e.trans a4,a5,a6,a7⟩
   ·rw[hj]at a2;cases a2
    rw[e];exact a3
   ·rw[hj]at a2;cases a2
    rw[e];exact hi.obj id _ a1
  |cut id=>
   rw[hc]at hb
   simp only[BM]at hb
   obtain⟨T,t,xs,n,a1,a2,a3,a4⟩:=hb
   rw[hj]at a3;cases a3
   obtain⟨h0,h1⟩:=hi.obj id _ a1
   refine⟨h0,?_⟩
   rcases a4 with a4|⟨a4,a5⟩
   ·rw[a4]
    cases hm:m id with
    |none=>
     rw[hm]at h1
     simp only at h1 ⊢
     rw[h1];simp
    |some p=>
     obtain⟨b,cap⟩:=p
     rw[hm]at h1
     simp only at h1 ⊢
     obtain⟨vs,row,b1,b2,b3,b4,b5,b6⟩:=h1
     refine⟨vs,row.take (n*t.size),b1,?_,b3,b4,Dt (fun x cs hx=>Dat.length t hx) n b5,?_⟩
     ·rw[Ahc];omega
     ·rw[Ahc,← AjR,b6]
   ·rw[a4];exact a5
 row i:=by
  intro T e t xs ver out hj k ys hk
  obtain⟨id,ver',a1,a2,rfl,a4,a5,_⟩:=h.rowAt hj
  obtain⟨h1,h2⟩:=hi.row id T e t xs ver' none a2 k ys hk
  rw[a5 k]
  refine⟨?_,fun _ => ?_⟩
  ·obtain⟨h0,h1⟩:=h1
   exact⟨h0,h1⟩
  ·obtain⟨b,cap,u,e1,e2⟩:=h2 (by simp)
   exact⟨b,cap,u,a4.trans e1,e2⟩
 rfz i T e t xs ver out hj hf:=by rw[h.frz i]at hf;cases hf
 sep i j b c b' c' h1 h2 hij h3 h4:=by
  obtain⟨x,id,k1,k2,k3,k4⟩:=h.src h1 h3
  obtain⟨y,id',l1,l2,l3,l4⟩:=h.src h2 h4
  refine hi.sep _ _ b c b' c' k3 l3 ?_ k4 l4
  intro he
  have hid:id=id':=by rw[← Ix.Afp i id,he,Ix.Afp]
  subst hid
  have:=h.inj _ _ x y id k1 l1 k2 l2
  cases i<;>cases j<;>simp only[Ix.at,Ix.id]at he this<;>(try cases he)<;>subst this<;>exact hij rfl
 off i b c h1 h2:=by
  obtain⟨x,id,k1,k2,k3,k4⟩:=h.src h1 h2
  exact hi.off _ b c k3 k4
 froz i T t xs b c h1 h2:=by rw[h.frz i]at h2;cases h2
 lt:=hi.lt
 glo:=hi.glo
 len:=h.lenF.symm
theorem AL3:∀ (n i:Nat) (bs:List Bnd),pins n i bs=true→∀ k,k<n→bs[k]? = some (.whole (i+k)):=by
 intro n
 induction n with
 |zero=>intro i bs _ k hk;omega
 |succ n ih=>
  intro i bs h k hk
  cases bs with
  |nil=>simp[pins]at h
  |cons b bs=>
   simp only[pins,AhJ,AhI]at h
   cases k with
   |zero=>simp[h.1]
   |succ k=>
    have:=ih (i+1) bs h.2 k (by omega)
    simp only[AjP]
    rw[this];congr 2;omega
theorem Inv.blank{val:Nat→Value}(n:Nat):Inv w F m H fz [] (fun _=>none) (Pev.blank n) val where
 tmps t:=by
  have:(Pev.blank n).tmps.getD t .junk = .junk:=by
   simp only[Pev.blank,AhK,Ajg]
   split<;>rfl
  rw[this];unfold Rep;trivial
 lenH:=rfl
 lenF:=rfl
 frz i:=by simp[Pev.blank]
 ob j b h:=by simp at h
 inj i j b c id h:=by simp at h
theorem ARE(st:St)(v:AV)(l:Loc):(place st v l).tmps.length=st.tmps.length:=by
 cases l with
 |tmp t=>simp[place]
 |cell j c=>simp only[place];split<;>rfl
 |cap t i=>rfl
 |obj j=>rfl
theorem Acq:∀ (its:AE) (d:B6 (leaves its)) (st:St),(enc its d st).tmps.length=st.tmps.length:=by
 intro its
 induction its with
 |nil=>intro d st;rfl
 |cons p r ih=>
  intro d st
  obtain⟨l,c⟩:=p
  cases c<;>exact(ih _ _).trans (ARE _ _ _)
theorem NA(n:Nat)(its:AE)(d:B6 (leaves its)):(encode n its d).tmps.length=n:=by
 unfold encode;rw[Acq];simp[blank]
theorem AXL{F2:Nat→Prop}{fz2:List Bool}{np:Nat}(h:Inv w F2 m H fz2 bs m' E val)(hp:(pins np 0 bs&&(H.take np).all BS)=true):∀ (i:Nat) o,i<np→H[i]? = some o→o≠.free→E.heap[i]? = some .dead∨(o≠.dead∧∃ o',E.heap[i]? = some o'∧sameShape o o'∧m' i=m i∧(BS o=false→QC o'=QC o→∀ k,m' (.r i k)=m (.r i k))):=by
 intro i o hlt ho hf
 rw[AhJ]at hp
 obtain⟨hp,hall⟩:=hp
 have hpl:BS o=true:=Ahe.1 hall o (AhV (i:=i) (by rw[Ah5,AhX hlt];exact ho))
 suffices hs:E.heap[i]? = some .dead∨(o≠.dead∧∃ o',E.heap[i]? = some o'∧sameShape o o'∧m' i=m i)from
  hs.imp id fun ⟨a,o',b,c,d⟩=>⟨a,o',b,c,d,fun e=>by rw[hpl]at e;cases e⟩
 have h1:=AL3 np 0 bs hp i hlt
 rw[AiJ]at h1
 have hb:=h.ob i _ h1
 simp only[BM]at hb
 obtain⟨e,hb⟩:=hb
 right
 rcases hb with⟨T,t,xs,a1,a2,a3⟩|⟨k,v,es,a1,a2⟩|⟨cs,cs',b,c,vs,T,a1,a2,_,a4,a5,a6,a7⟩|⟨_,_,_,_,a1,a2,_⟩|⟨_,_,_,_,_,a1,a2,_⟩
 ·rw[ho]at a1;cases a1;exact⟨by simp,_,a2,⟨rfl,rfl⟩,e⟩
 ·rw[ho]at a1;cases a1;exact⟨by simp,_,a2,trivial,e⟩
 ·rw[ho]at a1;cases a1;exact⟨by simp,_,a2,trivial,e⟩
 ·rw[ho]at a1;cases a1;exact⟨by simp,_,a2,rfl,e⟩
 ·rw[ho]at a1;cases a1;cases hpl
theorem UM{np nt:Nat}{st:St}{a:Act}{its:AE}{v:B6 (leaves its)}(hs:SI w F m st a)(h:decode np nt st its=some v):
  ∃ F' m',SI w F' m' (encode nt its v) a∧VL np w F m st.heap st.frz w F' m' (encode nt its v).heap (encode nt its v).frz:=by
 unfold decode at h
 split at h
 ·rename_i hn
  simp only[AhI]at hn
  split at h
  ·rename_i v' bs fr hd
   split at h
   ·rename_i hp
    simp only[AhG]at h;subst h
    obtain⟨F2,m2,hg,hv,_⟩:=ATS (val:=fun t=>a.tmps.getD t undef) its st.frz [] F (fun _=>none) (blank nt) v' bs fr hs.heap
     (fun t v ht=>by have:=hs.tmps t;rw[AhK,ht]at this;exact this) (Inv.blank nt) hd
    refine⟨F2,m2,⟨hv.tmps,by rw[NA,← hn];exact hs.size,hv.hi hg.2,hs.defers⟩,?_⟩
    refine⟨rfl,rfl,rfl,AhQ _,fun _ _ _=>rfl,hg.1.sub,hg.1.bnd,fun i b c h1 h2 => ?_,AXL hv hp⟩
    obtain⟨x,id,k1,k2,k3,k4⟩:=hv.src h1 h2
    exact hg.1.own _ b c k3 k4
   ·cases h
  ·cases h
 ·cases h
end
end Go.Pev
end
section
namespace Go.Pev
open Go.RowKit
theorem Wn{R:Type}{all:List Oper}{g:Option (Nat×Bool)}{st:St}{yes no:St→Option R}{r:R}(h:guarded R all g st yes no=some r):
  ∃ st',(yes st'=some r∧∀ (R':Type) (yes' no':St→Option R'),guarded R' all g st yes' no'=yes' st')∨(no st'=some r∧∀ (R':Type) (yes' no':St→Option R'),guarded R' all g st yes' no'=no' st'):=by
 unfold guarded at h
 split at h
 ·exact⟨st,.inl ⟨h,fun _ _ _=>by simp[guarded]⟩⟩
 ·rename_i j want
  split at h
  ·cases h
  ·rename_i d hj
   split at h
   ·rename_i b hd
    cases b with
    |true=>
     cases want with
     |true=>exact⟨_,.inl ⟨h,fun _ _ _=>by simp only[guarded,hj,hd]⟩⟩
     |false=>exact⟨_,.inr ⟨h,fun _ _ _=>by simp only[guarded,hj,hd]⟩⟩
    |false=>
     cases want with
     |true=>exact⟨_,.inr ⟨h,fun _ _ _=>by simp only[guarded,hj,hd]⟩⟩
     |false=>exact⟨_,.inl ⟨h,fun _ _ _=>by simp only[guarded,hj,hd]⟩⟩
   ·rename_i hd
    exact⟨_,.inr ⟨h,fun _ _ _=>by simp only[guarded,hj,hd]⟩⟩
   ·cases h
section
variable {P:Program} {E:Env} {h:Hints}
theorem ARO(hE:∀ g,AR P g (E.spec g)){R:Type}{r:R}{all:List Oper}:∀ (ops:List Oper) (slot:Nat) (st:St) (k:St→Option R),JT P E R all ops slot st k=some r →
  ∃ st',k st'=some r∧∀ (R':Type) (k':St→Option R'),JT P E R' all ops slot st k'=k' st':=by
 intro ops
 induction ops with
 |nil=>intro slot st k h;exact⟨st,h,fun _ _=>rfl⟩
 |cons o ops ih=>
  intro slot st k h
  simp only[JT]at h
  obtain⟨st1,h1⟩:=Wn h
  rcases h1 with⟨h1,h2⟩|⟨h1,h2⟩
  ·obtain⟨v,e,h3,h4,_⟩:=KQ hE o.op _ _ _ _ _ _ _ r h1
   obtain⟨st2,h5,h6⟩:=ih _ _ _ h3
   exact⟨st2,h5,fun R' k'=>by simp only[JT];rw[h2,h4];exact h6 R' k'⟩
  ·obtain⟨st2,h5,h6⟩:=ih _ _ _ h1
   exact⟨st2,h5,fun R' k'=>by simp only[JT];rw[h2];exact h6 R' k'⟩
theorem AWU(hE:∀ g,AR P g (E.spec g)){R:Type}{r:R}{all:List Oper}{o:Oper}{φ:List Nat}{slot:Nat}{st:St}{k:St→Option R}(h:Vw P E R all o φ slot st k=some r):
  ∃ st',k st'=some r∧∀ (R':Type) (k':St→Option R'),Vw P E R' all o φ slot st k'=k' st':=by
 unfold Vw at h
 obtain⟨st1,h1⟩:=Wn h
 rcases h1 with⟨h1,h2⟩|⟨h1,h2⟩
 ·split at h1
  ·rename_i hw
   obtain⟨v,e,h3,h4,_⟩:=KQ hE o.op _ _ _ _ _ _ _ r h1
   split at h3
   ·rename_i hok
    exact⟨_,h3,fun R' k'=>by unfold Vw;rw[h2];simp only[hw];rw[h4];simp only[hok]⟩
   ·cases h3
  ·cases h1
 ·exact⟨_,h1,fun R' k'=>by unfold Vw;rw[h2]⟩
theorem AL5(hE:∀ g,AR P g (E.spec g)){R:Type}{r:R}{all:List Oper}:∀ (ops:List Oper) (fp:List (List Nat)) (slot:Nat) (st:St) (k:St→Option R),Il P E R all ops fp slot st k=some r →
  ∃ st',k st'=some r∧∀ (R':Type) (k':St→Option R'),Il P E R' all ops fp slot st k'=k' st':=by
 intro ops
 induction ops with
 |nil=>intro fp slot st k h;exact⟨st,h,fun _ _=>rfl⟩
 |cons o ops ih=>
  intro fp slot st k h
  simp only[Il]at h
  obtain⟨st1,h1,h2⟩:=AWU hE h
  obtain⟨st2,h5,h6⟩:=ih _ _ _ _ h1
  exact⟨st2,h5,fun R' k'=>by simp only[Il];rw[h2];exact h6 R' k'⟩
def AhC(P:Program)(np:Nat)(c:Code)(st:St)(e:Exit)(st':St):Prop:=
 ∀ (w:World) (F:Nat→Prop) (m:Mp) (a:Act) (Q:Exit→Act→World→Prop),SI w F m st a →
  (∀ a' w' F' m',SI w' F' m' st' a'→VL np w F m st.heap st.frz w' F' m' st'.heap st'.frz→Q e a' w')→c.wp P Q a w
def Ab(P:Program)(np:Nat)(c:Code)(go:(R:Type)→St→(Exit→St→Option R)→Option R):Prop:=
 ∀ (R:Type) (st:St) (k:Exit→St→Option R) (r:R),go R st k=some r→∃ e st',k e st'=some r∧(∀ (R':Type) (k':Exit→St→Option R'),go R' st k'=k' e st')∧AhC P np c st e st'
def DQ(P:Program)(np:Nat)(h:Hints):Code→Nat→Prop
 |.seq a b,n=>DQ P np h a n∧DQ P np h b (n+loops a)
 |.cond _ a b,n=>DQ P np h a n∧DQ P np h b (n+loops a)
 |.block _ c,n=>DQ P np h c n
 |.loop c,n=>Ab P np (.loop c) (h.loop n)
 |_,_=>True
theorem AVg{w:World}{F:Nat→Prop}{m:Mp}{st:St}{a:Act}(hs:SI w F m st a){c:Operand}{x:Bool}(hc:BU st.tmps c = .data .bool x):
  a.eval c = .bool x∧SI w F m { st with tmps:=O6 st.tmps c x } a:=by
 have h1:Rep w F m st.heap (BU st.tmps c) (a.eval c):=AB0 hs.tmps c
 rw[hc]at h1
 refine⟨?_,?_⟩
 ·unfold Rep Bg at h1
  simp only[Ty.isAgg,Aha,AhZ]at h1
  simpa [Dat]using h1
 ·cases c with
  |tmp t=>
   simp only[BU,AhK]at hc
   exact hs.lit (d:=t) (b:=x) (by
    cases ht:st.tmps[t]? with
    |none=>rw[ht]at hc;simp at hc
    |some v=>rw[ht]at hc;simp at hc;rw[hc])
  |const v=>exact hs
  |func f=>exact hs
  |global g=>exact hs
theorem Kv(hE:∀ g,AR P g (E.spec g))(hL:JE E){np:Nat}:∀ (c:Code) (n:Nat),DQ P np h c n→Ab P np c (fun R=>BD P E h R c n):=by
 intro c
 induction c with
 |skip=>
  intro n _ R st k r hk
  simp only[BD]at hk
  exact⟨_,_,hk,fun _ _=>rfl,fun w F m a Q hs hq=>wp_skip (hq a w F m hs (VL.refl ..))⟩
 |region id ops draw=>
  intro n _ R st k r hk
  cases draw with
  |false=>
   simp only[BD,HN]at hk
   obtain⟨st',h1,h2⟩:=ARO hE _ _ _ _ hk
   refine⟨.normal,st',h1,fun R' k'=>by simp only[BD,HN];exact h2 R' _,fun w F m a Q hs hq => ?_⟩
   have h3:HN P E St ops.toList st some=some st':=by simp only[HN];exact h2 St some
   refine AIA hE h3 hs fun a' w' hp => ?_
   obtain⟨st1,F',m',e1,e2,e3⟩:=hp
   cases e1
   exact hq a' w' F' m' e2 (e3.toN np)
  |true=>
   simp only[BD]at hk
   have hk':=hk
   unfold ET at hk
   split at hk
   ·rename_i hok
    obtain⟨st',h1,h2⟩:=AL5 hE _ _ _ _ _ hk
    refine⟨.normal,st',h1,fun R' k'=>by simp only[BD,ET,hok];exact h2 R' _,fun w F m a Q hs hq => ?_⟩
    have h3:ET P E St (h.fp id) ops.toList st some=some st':=by simp only[ET,hok];exact h2 St some
    refine AD4 hE hL h3 hs fun a' w' hp => ?_
    obtain⟨st1,F',m',e1,e2,e3⟩:=hp
    cases e1
    exact hq a' w' F' m' e2 (e3.toN np)
   ·cases hk
 |seq a b iha ihb=>
  intro n hl R st k r hk
  simp only[BD]at hk
  obtain⟨e,st1,h1,h2',h3⟩:=iha n hl.1 R st _ r hk
  have h2:∀ (R':Type) (k':Exit→St→Option R'),BD P E h R' a n st k'=k' e st1:=h2'
  by_cases he:e = .normal
  ·subst he
   simp only at h1
   obtain⟨e2,st2,k1,k2,k3⟩:=ihb _ hl.2 R st1 _ r h1
   refine⟨e2,st2,k1,fun R' k' => ?_,fun w F m act Q hs hq=>wp_seq ?_⟩
   ·simp only[BD];rw[h2];exact k2 R' k'
   ·refine h3 w F m act _ hs fun a' w' F' m' s1 x1 => ?_
    exact k3 w' F' m' a' Q s1 fun a2 w2 F2 m2 s2 x2=>hq a2 w2 F2 m2 s2 (x1.trans x2)
  ·have h1':k e st1=some r:=by cases e<;>first|exact absurd rfl he|exact h1
   refine⟨e,st1,h1',fun R' k' => ?_,fun w F m act Q hs hq=>wp_seq ?_⟩
   ·simp only[BD];rw[h2];cases e<;>first|exact absurd rfl he|rfl
   ·refine h3 w F m act _ hs fun a' w' F' m' s1 x1 => ?_
    have:=hq a' w' F' m' s1 x1
    cases e<;>first|exact absurd rfl he|exact this
 |cond c a b iha ihb=>
  intro n hl R st k r hk
  simp only[BD]at hk
  split at hk
  ·rename_i x hc
   cases x with
   |true=>
    obtain⟨e,st1,h1,h2,h3⟩:=iha _ hl.1 R _ _ r hk
    refine⟨e,st1,h1,fun R' k'=>by simp only[BD,hc];exact h2 R' k',fun w F m act Q hs hq => ?_⟩
    obtain⟨q1,q2⟩:=AVg hs hc
    exact wp_cond_true q1 (h3 w F m act Q q2 hq)
   |false=>
    obtain⟨e,st1,h1,h2,h3⟩:=ihb _ hl.2 R _ _ r hk
    refine⟨e,st1,h1,fun R' k'=>by simp only[BD,hc];exact h2 R' k',fun w F m act Q hs hq => ?_⟩
    obtain⟨q1,q2⟩:=AVg hs hc
    exact wp_cond_false q1 (h3 w F m act Q q2 hq)
  ·cases hk
 |block id c ih=>
  intro n hl R st k r hk
  simp only[BD]at hk
  obtain⟨e,st1,h1,h2',h3⟩:=ih n hl R st _ r hk
  have h2:∀ (R':Type) (k':Exit→St→Option R'),BD P E h R' c n st k'=k' e st1:=h2'
  have key:∃ e',k e' st1=some r∧(∀ (R':Type) (k':Exit→St→Option R'),BD P E h R' (.block id c) n st k'=k' e' st1)∧∀ (Q:Exit→Act→World→Prop) a' w',Q e' a' w'→Exit.inBlock id Q e a' w':=by
   cases e with
   |exit id'=>
    simp only at h1
    by_cases hid:id'=id
    ·subst hid
     simp only[AhS]at h1
     exact⟨.normal,h1,fun R' k'=>by simp only[BD];rw[h2];simp,fun Q a' w' hq=>by simp[Exit.inBlock,hq]⟩
    ·simp only[hid,Ahg]at h1
     exact⟨.exit id',h1,fun R' k'=>by simp only[BD];rw[h2];simp[hid],fun Q a' w' hq=>by simp[Exit.inBlock,hid,hq]⟩
   |normal=>exact⟨_,h1,fun R' k'=>by simp only[BD];rw[h2],fun Q a' w' hq=>hq⟩
   |goto l=>exact⟨_,h1,fun R' k'=>by simp only[BD];rw[h2],fun Q a' w' hq=>hq⟩
   |ret=>exact⟨_,h1,fun R' k'=>by simp only[BD];rw[h2],fun Q a' w' hq=>hq⟩
   |panic l=>exact⟨_,h1,fun R' k'=>by simp only[BD];rw[h2],fun Q a' w' hq=>hq⟩
   |outgrown=>exact⟨_,h1,fun R' k'=>by simp only[BD];rw[h2],fun Q a' w' hq=>hq⟩
  obtain⟨e',k1,k2,k3⟩:=key
  exact⟨e',st1,k1,k2,fun w F m act Q hs hq=>wp_block (h3 w F m act _ hs fun a' w' F' m' s1 x1=>k3 Q a' w' (hq a' w' F' m' s1 x1))⟩
 |loop c ih=>
  intro n hl R st k r hk
  exact hl R st k r hk
 |exit id=>
  intro n _ R st k r hk
  simp only[BD]at hk
  exact⟨_,_,hk,fun _ _=>rfl,fun w F m a Q hs hq=>wp_exit (hq a w F m hs (VL.refl ..))⟩
 |ret=>
  intro n _ R st k r hk
  simp only[BD]at hk
  exact⟨_,_,hk,fun _ _=>rfl,fun w F m a Q hs hq=>wp_ret (hq a w F m hs (VL.refl ..))⟩
 |_=>intro n _ R st k r hk;simp[BD]at hk
theorem AYi{R:Type}{r:R}{nt:Nat}{k:Exit→St→Option R}:∀ (os:Au) (x:OO os),AFw nt k os x=some r→∃ e st',k e st'=some r∧∀ (R':Type) (k':Exit→St→Option R'),AFw nt k' os x=k' e st':=by
 intro os
 induction os with
 |nil=>intro x h;simp[AFw]at h
 |cons o os ih=>
  intro x h
  cases x with
  |inl d=>exact⟨_,_,h,fun _ _=>rfl⟩
  |inr x=>
   obtain⟨e,st',h1,h2⟩:=ih x h
   exact⟨e,st',h1,fun R' k'=>h2 R' k'⟩
theorem ALg{e e':Exit}(h:Zh e e'=true):e=e':=by
 cases e<;>cases e'<;>simp_all [Zh]
theorem AbY{np nt:Nat}{e:Exit}{st:St}:∀ (os:Au) (x:OO os),AFa np nt e st os=some x→∃ its d,decode np nt st its=some d∧∀ (R':Type) (k':Exit→St→Option R'),AFw nt k' os x=k' e (encode nt its d):=by
 intro os
 induction os with
 |nil=>intro x h;simp[AFa]at h
 |cons o os ih=>
  intro x h
  simp only[AFa]at h
  split at h
  ·rename_i hs
   split at h
   ·rename_i d hd
    simp only[AhG]at h;subst h
    exact⟨o.2,d,hd,fun R' k'=>by rw[ALg hs];rfl⟩
   ·cases h
  ·split at h
   ·rename_i y hy
    simp only[AhG]at h;subst h
    obtain⟨its,d,h1,h2⟩:=ih y hy
    exact⟨its,d,h1,fun R' k'=>h2 R' k'⟩
   ·cases h
theorem AX8{h':Hints}(hE:∀ g,AR P g (E.spec g))(hL:JE E){np nt n:Nat}{body:Code}{its:AE}{os:Au}{stp:B6 (leaves its)→Option (B6 (leaves its)⊕OO os)}
  (hstep:∀ v,stp v=roundOf P E h' n np nt body its os v) (hl:DQ P np h' body n):Ab P np (.loop body) (Ac np nt its os stp):=by
 intro R st k r hk
 unfold Ac at hk
 split at hk
 ·cases hk
 ·rename_i v hv
  split at hk
  ·cases hk
  ·rename_i x hx
   obtain⟨e,st',h1,h2⟩:=AYi os x hk
   refine⟨e,st',h1,fun R' k'=>by simp only[Ac,hv,hx];exact h2 R' k',?_⟩
   have key:∀ (fuel:Nat) (v:B6 (leaves its)),AX stp fuel v=some x→∀ (w:World) (F:Nat→Prop) (m:Mp) (a:Act) (Q:Exit→Act→World→Prop),SI w F m (encode nt its v) a →
     (∀ a' w' F' m',SI w' F' m' st' a'→VL np w F m (encode nt its v).heap (encode nt its v).frz w' F' m' st'.heap st'.frz→Q e a' w')→Code.rounds P body Q fuel a w:=by
    intro fuel
    induction fuel with
    |zero=>intro v h;simp[AX]at h
    |succ fuel ih=>
     intro v h w F m a Q hs hq
     simp only[AX]at h
     rw[hstep v]at h
     cases hr:roundOf P E h' n np nt body its os v with
     |none=>rw[hr]at h;cases h
     |some y=>
      rw[hr]at h
      unfold roundOf at hr
      obtain⟨e1,st1,g1,_,g3⟩:=Kv hE hL body n hl _ _ _ _ hr
      show body.wp P (Exit.then (Code.rounds P body Q fuel) Q) a w
      refine g3 w F m a _ hs fun a' w' F' m' s1 x1 => ?_
      by_cases he:e1 = .normal
      ·subst he
       simp only[ALo]at g1
       split at g1
       ·rename_i d hd
        simp only[AhG]at g1;subst g1
        obtain⟨F2,m2,s2,x2⟩:=UM s1 hd
        show Code.rounds P body Q fuel a' w'
        exact ih d h w' F2 m2 a' Q s2 fun a3 w3 F3 m3 s3 x3=>hq a3 w3 F3 m3 s3 (x1.trans (x2.trans x3))
       ·cases g1
      ·have g1':(match AFa np nt e1 st1 os with
        |some x=>some (Sum.inr x)
        |none=>none)=some y:=by
        cases e1<;>first|exact absurd rfl he|exact g1
       split at g1'
       ·rename_i z hz
        simp only[AhG]at g1';subst g1'
        simp only[AhG]at h;subst h
        obtain⟨its',d,o1,o2⟩:=AbY os _ hz
        obtain⟨F2,m2,s2,x2⟩:=UM s1 o1
        have e3:=(h2 (Exit×St) fun e st=>some (e,st)).symm.trans (o2 (Exit×St) fun e st=>some (e,st))
        simp only[AhG,Ahk]at e3
        obtain⟨rfl,rfl⟩:=e3
        have:=hq a' w' F2 m2 s2 (x1.trans x2)
        cases e<;>first|exact absurd rfl he|exact this
       ·cases g1'
   intro w F m a Q hs hq
   obtain⟨F2,m2,s2,x2⟩:=UM hs hv
   exact wp_loop_rounds many (key many v (by rw[← As];exact hx) w F2 m2 a Q s2 fun a3 w3 F3 m3 s3 x3=>hq a3 w3 F3 m3 s3 (x2.trans x3))
end
end Go.Pev
end
section
namespace Go.Pev
open Go.RowKit
section
variable {w:World} {F F0:Nat→Prop} {m m2:Mp} {H H2:List Ob} {ids:List Nat}
theorem Dat.flat:∀ (t:Ty),t.flat=true→∀ {d:t.den} {cs:List Value} {w0:World},Dat w F t d cs→Dat w0 F0 t d cs:=by
 intro t
 induction t with
 |unit=>exact fun _ _ _ _ h=>h
 |bool=>exact fun _ _ _ _ h=>h
 |int k=>exact fun _ _ _ _ h=>h
 |slice e _=>intro h;simp[Ty.flat]at h
 |mapi j e _=>intro h;simp[Ty.flat]at h
 |nul e=>exact fun _ _ _ _ h=>h
 |prod a b iha ihb=>
  intro h d cs w0 hd
  simp only[Ty.flat,AhJ]at h
  obtain⟨c1,c2,h1,h2,h3⟩:=hd
  exact⟨c1,c2,h1,iha h.1 h2,ihb h.2 h3⟩
 |arr n e ih=>
  intro h d cs w0 hd
  obtain⟨h1,h2⟩:=hd
  exact⟨h1,BK (fun x _ cs hx=>ih (by simpa [Ty.flat]using h) hx) h2⟩
theorem Bg.flat{t:Ty}(ht:t.flat=true){d:t.den}{v:Value}{w0:World}(h:Bg w F t d v):Bg w0 F0 t d v:=by
 unfold Bg at *
 split
 ·rename_i hg
  simp only[hg,Ahv]at h
  obtain⟨vs,e,hd⟩:=h
  exact⟨vs,e,hd.flat t ht⟩
 ·rename_i hg
  simp only[hg]at h
  exact Dat.flat t ht h
theorem AYw{k v:Ty}(hk:k.flat=true)(hv:v.flat=true){w0:World}:∀ {es:List (k.den×v.den)} {ms:List MapEntry},IZ w F k v es ms→IZ w0 F0 k v es ms:=by
 intro es
 induction es with
 |nil=>exact fun h=>h
 |cons e es ih=>
  rintro ms ⟨me,ms',e1,⟨h1,h2⟩,h3⟩
  exact⟨me,ms',e1,⟨h1.flat hk,h2.flat hv⟩,ih h3⟩
mutual
theorem Rep.flat:∀ (a:AV) {v:Value},Jj a=true→Rep w F m H a v→Rep w F0 m H a v
 |.junk,_,_,_=>by unfold Rep;trivial
 |.data t d,v,hf,h=>by unfold Rep at *;exact h.flat (by simpa [Jj]using hf)
 |.nils _,v,_,h=>by unfold Rep at *;exact h
 |.agg cs,v,hf,h=>by
  unfold Rep at *
  obtain⟨vs,e,h,h1⟩:=h
  exact⟨vs,e,Ad.flat cs (by simpa [Jj]using hf) h,h1⟩
 |.own id,v,_,h=>by unfold Rep at *;exact h
 |.win id off n,v,_,h=>by unfold Rep at *;exact h
 |.ptr id off,v,_,h=>by unfold Rep at *;exact h
 |.eptr id i sub,v,_,h=>by unfold Rep at *;exact h
 |.dptr cs,v,hf,h=>by simp[Jj]at hf
 |.clo f caps,v,hf,h=>by
  unfold Rep at *
  obtain⟨cs,e,h⟩:=h
  exact⟨cs,e,Ad.flat caps (by simpa [Jj]using hf) h⟩
 |.bnd f caps,v,hf,h=>by
  unfold Rep at *
  obtain⟨cs,e,h⟩:=h
  exact⟨cs,e,Ad.flat caps (by simpa [Jj]using hf) h⟩
 |.str _,v,_,h=>by unfold Rep at *;exact h
 |.clip _ _,v,hf,h=>by simp[Jj]at hf
 |.mp id,v,_,h=>by unfold Rep at *;exact h
 |.rowp _ _ _,v,_,h=>by unfold Rep at *;exact h
 |.glob _,v,_,h=>by unfold Rep at *;exact h
 |.nilp,v,_,h=>by unfold Rep at *;exact h
 |.aptr _ _,v,_,h=>by unfold Rep at *;exact h
 |.tup vs,v,hf,h=>by
  unfold Rep at *
  obtain⟨us,e,h⟩:=h
  exact⟨us,e,Ad.flat vs (by simpa [Jj]using hf) h⟩
theorem Ad.flat:∀ (cs:List AV) {vs:List Value},KP cs=true→Ad w F m H cs vs→Ad w F0 m H cs vs
 |[],vs,_,h=>by unfold Ad at *;exact h
 |c::cs,vs,hf,h=>by
  unfold Ad at *
  simp only[KP,AhJ]at hf
  obtain⟨v,vs',e,h1,h2⟩:=h
  exact⟨v,vs',e,Rep.flat c hf.1 h1,Ad.flat cs hf.2 h2⟩
end
def APA(ids:List Nat)(H H2:List Ob)(m m2:Mp):Prop:=∀ j o,H[j]? = some o→H2[ids.getD j 0]? = some (Da ids o)∧m2 (ids.getD j 0)=m j
theorem Ep(hm:APA ids H H2 m m2)(Q:Option Ob→Option (Nat×Nat)→Prop)(hnone:∀ l,¬ Q none l)(hbox:∀ cs l,Q (some (.box cs)) l→Q (some (.box (Kt ids cs))) l)(hprs:∀ T t t' is l,Q (some (.prs T t is)) l→Q (some (.prs T t' is)) l)(j:Nat)(h:Q H[j]? (m j)):Q H2[ids.getD j 0]? (m2 (ids.getD j 0)):=by
 cases ho:H[j]? with
 |none=>rw[ho]at h;exact absurd h (hnone _)
 |some o=>
  rw[ho]at h
  obtain⟨h1,h2⟩:=hm j o ho
  rw[h1,h2]
  cases o<;>first|exact h|exact hbox _ _ h|exact hprs _ _ _ _ _ h
mutual
theorem Rep.ren(hm:APA ids H H2 m m2):∀ (a:AV) {v:Value},Rep w F m H a v→Rep w F m2 H2 (D6 ids a) v
 |.junk,_,_=>by simp only[D6];unfold Rep;trivial
 |.rowp _ _ _,_,_=>by simp only[D6];unfold Rep;trivial
 |.glob g,v,h=>by simp only[D6];unfold Rep at *;exact h
 |.nilp,v,h=>by simp only[D6];unfold Rep at *;exact h
 |.aptr id n,v,h=>by
  simp only[D6];unfold Rep at *
  exact Ep hm (fun o l=>FK o l n v) (fun l h=>h) (fun cs l h=>h) (fun _ _ _ _ l h=>h) id h
 |.data t d,v,h=>by simp only[D6];unfold Rep at *;exact h
 |.nils _,v,h=>by simp only[D6];unfold Rep at *;exact h
 |.agg cs,v,h=>by
  simp only[D6];unfold Rep at *
  obtain⟨vs,e,h,h1⟩:=h
  exact⟨vs,e,Ad.ren hm cs h,h1⟩
 |.own id,v,h=>by
  simp only[D6];unfold Rep at *
  exact Ep hm (fun o l=>A7 o l v) (fun l h=>h) (fun cs l h=>h) (fun _ _ _ _ l h=>h) id h
 |.win id off n,v,h=>by
  simp only[D6];unfold Rep at *
  exact Ep hm (fun o l=>Gq o l off n v) (fun l h=>h) (fun cs l h=>h) (fun _ _ _ _ l h=>h) id h
 |.ptr id off,v,h=>by
  simp only[D6];unfold Rep at *
  exact Ep hm (fun o l=>Gr o l off v) (fun l h=>h) (fun cs l h=>h) (fun _ _ _ _ l h=>h) id h
 |.eptr id i sub,v,h=>by
  simp only[D6];unfold Rep at *
  exact Ep hm (fun o l=>Cg o l i sub v) (fun l h=>h) (fun cs l h=>h) (fun _ _ _ _ l h=>h) id h
 |.dptr cs,v,h=>by
  simp only[D6];unfold Rep at *
  obtain⟨ad,us,e,h1,h2,h4,h3⟩:=h
  refine⟨ad,us,e,fun hne=>h1 (by rintro rfl;exact hne rfl),Ad.ren hm cs h2,h4,h3⟩
 |.clo f caps,v,h=>by
  simp only[D6];unfold Rep at *
  obtain⟨cs,e,h⟩:=h
  exact⟨cs,e,Ad.ren hm caps h⟩
 |.bnd f caps,v,h=>by
  simp only[D6];unfold Rep at *
  obtain⟨cs,e,h⟩:=h
  exact⟨cs,e,Ad.ren hm caps h⟩
 |.str _,v,h=>by simp only[D6];unfold Rep at *;exact h
 |.clip _ _,v,h=>by simp only[D6];unfold Rep at *;exact h
 |.mp id,v,h=>by
  simp only[D6];unfold Rep at *
  exact Ep hm (fun o l=>L7 o l v) (fun l h=>h) (fun cs l h=>h) (fun _ _ _ _ l h=>h) id h
 |.tup vs,v,h=>by
  simp only[D6];unfold Rep at *
  obtain⟨us,e,h⟩:=h
  exact⟨us,e,Ad.ren hm vs h⟩
theorem Ad.ren(hm:APA ids H H2 m m2):∀ (cs:List AV) {vs:List Value},Ad w F m H cs vs→Ad w F m2 H2 (Kt ids cs) vs
 |[],vs,h=>by simp only[Kt];unfold Ad at *;exact h
 |c::cs,vs,h=>by
  simp only[Kt];unfold Ad at *
  obtain⟨v,vs',e,h1,h2⟩:=h
  exact⟨v,vs',e,Rep.ren hm c h1,Ad.ren hm cs h2⟩
end
theorem Aat(tgt:Nat)(is:List Int):Kt ids (FX tgt is)=FX (ids.getD tgt 0) is:=by
 induction is with
 |nil=>rfl
 |cons x xs ih=>
  have:Kt ids (FX tgt (x::xs))=D6 ids (.eptr tgt x.toNat 0)::Kt ids (FX tgt xs):=rfl
  rw[this,ih]
  rfl
theorem AYo(tgt:Nat)(is:List Int):KP (FX tgt is)=true:=by
 induction is with
 |nil=>rfl
 |cons x xs ih=>
  have:KP (FX tgt (x::xs))=(Jj (.eptr tgt x.toNat 0)&&KP (FX tgt xs)):=rfl
  rw[this,ih]
  rfl
theorem AR3{i j k:Nat}:∀ {ids:List Nat},JU ids=true→ids[i]? = some k→ids[j]? = some k→i=j:=by
 intro ids h
 have:ids.Nodup:=by
  induction ids with
  |nil=>exact List.nodup_nil
  |cons a ids ih=>
   simp only[JU,AhJ,AiK,Aiy,Ah9]at h
   exact Aho.2 ⟨h.1,ih h.2⟩
 intro h1 h2
 exact(List.getElem?_inj (Fc h1) this).1 (h1.trans h2.symm)
theorem ALc{i:Nat}{o:Ob}:∀ (ids:List Nat) (os:List Ob) (H:List Ob) (j:Nat),JU ids=true→ids[j]? = some i→os[j]? = some o→i<H.length→(A8 (ids.zip os) H)[i]? = some o:=by
 intro ids
 induction ids with
 |nil=>intro os H j _ h;simp at h
 |cons a ids ih=>
  intro os H j hn h1 h2 hl
  cases os with
  |nil=>simp at h2
  |cons x os=>
   simp only[JU,AhJ,AiK,Aiy,Ah9]at hn
   simp only[Ajj,A8]
   cases j with
   |zero=>
    simp only[Ah0,AhG]at h1 h2
    subst h1;subst h2
    rw[BW _ _ fun p hp => ?_,Aid hl]
    rintro rfl
    exact hn.1 (List.of_mem_zip hp).1
   |succ j=>
    simp only[AjP]at h1 h2
    exact ih os _ j hn.2 h1 h2 (by simpa using hl)
def Jk:List Nat→Nat→Option Nat
 |[],_=>none
 |x::xs,i=>if x=i then some 0 else(Jk xs i).map (· + 1)
theorem Wp{i j:Nat}:∀ {ids:List Nat},Jk ids i=some j→ids[j]? = some i:=by
 intro ids
 induction ids generalizing j with
 |nil=>intro h;simp[Jk]at h
 |cons a ids ih=>
  intro h
  simp only[Jk]at h
  split at h
  ·rename_i e;simp only[AhG]at h;subst h;simp[e]
  ·rw[AhW]at h
   obtain⟨k,h1,rfl⟩:=h
   simpa using ih h1
theorem AOJ{i:Nat}:∀ {ids:List Nat},Jk ids i=none→i∉ids:=by
 intro ids
 induction ids with
 |nil=>intro _;simp
 |cons a ids ih=>
  intro h
  simp only[Jk]at h
  split at h
  ·cases h
  ·rename_i hne
   rw[AkF]at h
   simp only[AhN,not_or]
   exact⟨fun e=>hne e.symm,ih h⟩
theorem AYr{i j:Nat}{ids:List Nat}(hn:JU ids=true)(h:ids[j]? = some i):Jk ids i=some j:=by
 cases hf:Jk ids i with
 |none=>exact absurd (AhV h) (AOJ hf)
 |some k=>rw[AR3 hn h (Wp hf)]
def mOf(ids:List Nat)(m3 m:Mp):Mp
 |.o i=>match Jk ids i with
  |some j=>m3 j
  |none=>m i
 |.r i k=>m (.r i k)
theorem AFu{fz:List Bool}:∀ {ids:List Nat} {bs:List Bnd},FO H fz ids bs=true→∀ {j i:Nat},ids[j]? = some i→bs[j]? = some (.whole i)∨((∀ id,bs[j]?≠some (.whole id))∧At H fz i=true):=by
 intro ids
 induction ids with
 |nil=>intro bs _ j i h;simp at h
 |cons a ids ih=>
  intro bs h j i hj
  simp only[FO,AhJ]at h
  obtain⟨h1,h2⟩:=h
  cases j with
  |zero=>
   simp only[Ah0,AhG]at hj;subst hj
   split at h1
   ·rename_i id _
    simp only[AhI]at h1;subst h1
    exact .inl (by simp)
   ·rename_i hne
    refine .inr ⟨fun id he => ?_,h1⟩
    cases bs with
    |nil=>simp at he
    |cons b bs=>simp at he;subst he;exact hne id bs rfl
  |succ j=>
   simp only[AjP]at hj
   have:=ih h2 hj
   cases bs with
   |nil=>simpa using this
   |cons b bs=>simpa using this
theorem AYS:∀ (n:Nat) (bs:List Bnd) (slot:Nat),(Ce n bs slot).length=n:=by
 intro n
 induction n with
 |zero=>intro bs slot;cases bs<;>rfl
 |succ n ih=>
  intro bs slot
  cases bs with
  |nil=>simp[Ce,ih]
  |cons b bs=>cases b<;>simp[Ce,ih]
theorem BP(st:St)(v:AV)(l:Loc):(place st v l).heap.length=st.heap.length:=by
 cases l with
 |tmp t=>rfl
 |cell j c=>simp only[place];split<;>simp
 |cap t i=>rfl
 |obj j=>rfl
theorem Acr:∀ (its:AE) (d:B6 (leaves its)) (st:St),(enc its d st).heap.length=st.heap.length+C1 its:=by
 intro its
 induction its with
 |nil=>intro d st;rfl
 |cons p r ih=>
  intro d st
  obtain⟨l,c⟩:=p
  cases c with
  |dat t=>exact(ih _ _).trans (by rw[BP];rfl)
  |own T e=>exact(ih _ _).trans (by rw[BP];simp[Dl,C1];omega)
  |box n=>exact(ih _ _).trans (by rw[BP];simp[Dl,C1];omega)
  |map k v=>exact(ih _ _).trans (by rw[BP];simp[Dl,C1];omega)
  |prs T j=>exact(ih _ _).trans (by rw[BP];simp[Dl,C1];omega)
  |rows T e t=>exact(ih _ _).trans (by rw[BP];simp[Dl,C1];omega)
  |mrows j e t=>exact(ih _ _).trans (by rw[BP];simp[Dl,C1];omega)
  |aptr T e n=>exact(ih _ _).trans (by rw[BP];simp[Dl,C1];omega)
  |aptr' j n=>exact(ih _ _).trans (by rw[BP];rfl)
  |bndp f j=>exact(ih _ _).trans (by rw[BP];rfl)
  |nilp=>exact(ih _ _).trans (by rw[BP];rfl)
  |own' j=>exact(ih _ _).trans (by rw[BP];rfl)
  |ptr' j o=>exact(ih _ _).trans (by rw[BP];rfl)
  |map' j=>exact(ih _ _).trans (by rw[BP];rfl)
  |win' j=>exact(ih _ _).trans (by rw[BP];rfl)
  |sub' j=>exact(ih _ _).trans (by rw[BP];rfl)
  |clo f ps=>exact(ih _ _).trans (by rw[BP];rfl)
  |bnd f j=>exact(ih _ _).trans (by rw[BP];rfl)
  |nil e=>exact(ih _ _).trans (by rw[BP];rfl)
end
end Go.Pev
end
section
namespace Go.Pev
open Go.RowKit
theorem ABB{H:List Ob}{fz:List Bool}{i:Nat}{o:Ob}(h:H[i]? = some o)(ha:alive o)(hf:fz.getD i false=false):owned H fz i:=by
 simp only[owned,Bp]
 rw[h]
 cases o with
 |free=>exact ha.elim
 |dead=>exact ha.elim
 |box cs=>trivial
 |arr T t xs=>exact hf
 |map k v es=>trivial
 |prs T t is=>trivial
 |rows T e t xs ver out=>exact hf
theorem AO5{o:Ob}(h:alive o):o≠.free∧o≠.dead:=by
 constructor<;>rintro rfl<;>exact h
theorem Cz{H:List Ob}{fz:List Bool}{ids:List Nat}{i:Ix}(h:owned H (Ah ids fz) i):owned H fz i:=OS h
theorem ADy{o o1:Ob}{ids:List Nat}(h:sameShape o o1):sameShape o (Da ids o1):=by
 cases o<;>cases o1<;>simp only[sameShape,Da]at *<;>exact h
theorem T3{i:Nat}:∀ {bs:List Bnd},i∈given bs↔∃ j:Nat,bs[j]? = some (.whole i):=by
 intro bs
 induction bs with
 |nil=>simp[given]
 |cons b bs ih=>
  have step:(∃ j:Nat,(b::bs)[j]? = some (.whole i))↔b = .whole i∨∃ j:Nat,bs[j]? = some (.whole i):=by
   constructor
   ·rintro⟨j,hj⟩
    cases j with
    |zero=>simp only[Ah0,AhG]at hj;exact .inl hj
    |succ j=>simp only[AjP]at hj;exact .inr ⟨j,hj⟩
   ·rintro (h|⟨j,hj⟩)
    ·exact⟨0,by rw[h];rfl⟩
    ·exact⟨j+1,by simpa using hj⟩
  rw[step]
  cases b with
  |whole id=>simp only[given,AhN,ih,Bnd.whole.injEq];exact⟨fun h=>h.imp Eq.symm (fun x=>x),fun h=>h.imp Eq.symm (fun x=>x)⟩
  |none=>simp[given,ih]
  |cut id=>simp[given,ih]
theorem WD(a b:List (Nat×Ob)):∀ H,A8 (a++b) H=A8 b (A8 a H):=by
 induction a with
 |nil=>intro H;rfl
 |cons p a ih=>intro H;obtain⟨i,o⟩:=p;simp only[Ahl,A8];exact ih _
def C4(gv:List Nat)(H:List Ob):List Ob:=A8 (gv.map fun i=>(i,.dead)) H
theorem ABY{gv:List Nat}{i:Nat}{H:List Ob}(h:i∉gv):(C4 gv H)[i]? = H[i]? :=
 BW _ _ fun p hp=>by
  rintro rfl
  obtain⟨x,hx,rfl⟩:=Ahd.1 hp
  exact h hx
theorem AYH:∀ {gv:List Nat} {i:Nat} {H:List Ob},i∈gv→i<H.length→(C4 gv H)[i]? = some .dead:=by
 intro gv
 induction gv with
 |nil=>intro i H h;cases h
 |cons a gv ih=>
  intro i H h hl
  by_cases hg:i∈gv
  ·exact ih (H:=H.set a .dead) hg (by simpa using hl)
  ·have:(C4 gv (H.set a .dead))[i]? = (H.set a .dead)[i]? := ABY hg
   rcases AhN.1 h with rfl|h
   ·show(C4 gv (H.set i .dead))[i]? = _
    rw[this,Aid hl]
   ·exact absurd h hg
theorem ABZ(gv:List Nat)(H:List Ob):(C4 gv H).length=H.length:=WC ..
section
variable {w w':World} {F F2 F3 FR:Nat→Prop} {m m3:Mp} {H H1:List Ob} {fz fz1 fzR:List Bool} {bs:List Bnd} {ids fr:List Nat} {np:Nat}
theorem AZF(hiC:HI w F m H fz)(gA:Ao w F m H fz w F2 m H (Ah fr fz))
  (giv:∀ (j id:Nat),bs[j]? = some (.whole id)→owned H (Ah fr fz) id)
  (inj:∀ (i j id:Nat),bs[i]? = some (.whole id)→bs[j]? = some (.whole id)→i=j)
  (pin:∀ (j id:Nat),(bs.take np)[j]? = some (.whole id)→∃ o o1,H[id]? = some o∧alive o∧H1[j]? = some o1∧sameShape o o1∧m3 j=m id)
  (blk:∀ (j b c:Nat),owned H1 fz1 j→m3 j=some (b,c)→(∃ id c':Nat,(bs.take np)[j]? = some (.whole id)∧m id=some (b,c'))∨(∃ k id c':Nat,np≤k∧bs[k]? = some (.whole id)∧m id=some (b,c'))∨w.heap.size≤b)
  (os:w'.os=w.os) (tape:w'.tape=w.tape) (output:w'.output=w.output) (size:w.heap.size≤w'.heap.size)
  (keep:∀ b,b<w.heap.size→(∀ (j id:Nat) (c:Nat),bs[j]? = some (.whole id)→m id≠some (b,c))→w'.heap[b]? = w.heap[b]?)
  (sub:∀ b,F2 b→F3 b) (bnd:∀ b,F3 b→F2 b∨(∃ (j id c:Nat),bs[j]? = some (.whole id)∧m id=some (b,c))∨w.heap.size≤b)
  (hi1:HI w' F3 m3 H1 fz1) (al1:∀ (j:Nat) (o:Ob),H1[j]? = some o→alive o) (pl1:∀ (j:Nat) (o:Ob),H1[j]? = some o→BS o=true) (fr1:∀ j,fz1.getD j false=false)
  (hlen:ids.length=H1.length) (hok:FO H fzR ids (bs.take np)=true) (hnd:JU ids=true)
  (hR:(FR=F∧fzR=fz∧H1.all Pg=true)∨(FR=F3∧fzR=Ah fr fz)) :
  Ao w F m H fz w' FR (mOf ids m3 m) (A8 (ids.zip (H1.map (Da ids))) (C4 (given (bs.drop np)) H)) fzR∧APA ids H1 (A8 (ids.zip (H1.map (Da ids))) (C4 (given (bs.drop np)) H)) m3 (mOf ids m3 m):=by
 have hiR:∃ FB,HI w FB m H fzR∧(∀ b,F b→FB b)∧(∀ b,FB b→FR b)∧(∀ b,FB b→F2 b):=by
  rcases hR with⟨e1,e2,_⟩|⟨e1,e2⟩
  ·exact⟨F,by rw[e2];exact hiC,fun _ h=>h,fun _ h=>by rw[e1];exact h,gA.1.sub⟩
  ·exact⟨F2,by rw[e2];exact gA.2,gA.1.sub,fun b h=>by rw[e1];exact sub b h,fun _ h=>h⟩
 obtain⟨FB,hiB,hFB,hBR,hB2⟩:=hiR
 have ownR:∀ {i},owned H fzR i→owned H fz i:=by
  intro i h
  rcases hR with⟨_,e2,_⟩|⟨_,e2⟩
  ·rw[e2]at h;exact h
  ·rw[e2]at h;exact Cz h
 have pinR:∀ {id},owned H (Ah fr fz) id→owned H fzR id:=by
  intro id h
  rcases hR with⟨_,e2,_⟩|⟨_,e2⟩
  ·rw[e2];exact Cz h
  ·rw[e2];exact h
 have FR3:∀ b,FR b→F3 b:=by
  rcases hR with⟨e1,_,_⟩|⟨e1,_⟩
  ·rw[e1];exact fun b h=>sub b (gA.1.sub b h)
  ·rw[e1];exact fun _ h=>h
 have tk:∀ {j id:Nat},(bs.take np)[j]? = some (.whole id)→j<np∧bs[j]? = some (.whole id):=by
  intro j id h
  rw[Ah5]at h
  split at h
  ·rename_i hj;exact⟨hj,h⟩
  ·cases h
 have tk':∀ {j id:Nat},j<np→bs[j]? = some (.whole id)→(bs.take np)[j]? = some (.whole id):=by
  intro j id hj h
  rw[Ah5,AhX hj];exact h
 have gvI:∀ {i:Nat},i∈given (bs.drop np)→∃ k,np≤k∧bs[k]? = some (.whole i):=by
  intro i h
  obtain⟨j,hj⟩:=T3.1 h
  rw[AiH]at hj
  exact⟨np+j,by omega,hj⟩
 have gvO:∀ {i k:Nat},np≤k→bs[k]? = some (.whole i)→i∈given (bs.drop np):=by
  intro i k hk h
  refine T3.2 ⟨k-np,?_⟩
  rw[AiH,show np+(k-np)=k by omega];exact h
 have hids:∀ {j i:Nat},ids[j]? = some i→(∃ o,H[i]? = some o)∧((bs.take np)[j]? = some (.whole i)∨((∀ (id:Nat),(bs.take np)[j]?≠some (.whole id))∧H[i]? = some .free∧fzR.getD i false=false)):=by
  intro j i hj
  rcases AFu hok hj with h|⟨h1,h2⟩
  ·obtain⟨o,o1,ho,_⟩:=pin j i h
   exact⟨⟨o,ho⟩,.inl h⟩
  ·obtain⟨h3,h4⟩:=BL h2
   exact⟨⟨_,h3⟩,.inr ⟨h1,h3,h4⟩⟩
 have gvN:∀ {i:Nat},i∈ids→i∉given (bs.drop np):=by
  intro i hi hg
  obtain⟨j,hj⟩:=Aj0 hi
  obtain⟨k,hk,hb⟩:=gvI hg
  rcases(hids hj).2 with h|⟨_,h,_⟩
  ·obtain⟨h1,h2⟩:=tk h
   have:=inj _ _ _ h2 hb
   omega
  ·obtain⟨o,h1,h2,_⟩:=Eo (giv k i hb)
   rw[h]at h1;cases h1;exact h2 rfl
 have hunf:∀ {j i:Nat},ids[j]? = some i→∀ {o1:Ob},H1[j]? = some o1→∀ {T:TypeId} {t:Ty} {xs:List t.den},o1 = .arr T t xs→fzR.getD i false=false:=by
  intro j i hj o1 ho1 T t xs he
  rcases(hids hj).2 with h|⟨_,_,h⟩
  ·obtain⟨o,o2,ho,_,ho2,hs,_⟩:=pin j i h
   rw[ho1]at ho2;cases ho2
   subst he
   have h2:=pinR (giv j i (tk h).2)
   simp only[owned,Bp]at h2
   rw[ho]at h2
   cases o<;>simp only[sameShape]at hs
   exact h2
  ·exact h
 have hwhole:∀ {j id:Nat},(bs.take np)[j]? = some (.whole id)→ids[j]? = some id:=by
  intro j id hb
  obtain⟨o,o1,_,_,ho1,_⟩:=pin j id hb
  have hl:=Al ho1
  rw[← hlen]at hl
  have hg:ids[j]? = some ids[j]:=AhM hl
  rcases AFu hok hg with h|⟨h,_⟩
  ·rw[hb]at h;cases h;exact hg
  ·exact absurd hb (h id)
 have hgv:∀ {i:Nat},i∈given (bs.drop np)→(C4 (given (bs.drop np)) H)[i]? = some .dead:=by
  intro i hi
  obtain⟨k,_,hb⟩:=gvI hi
  obtain⟨o,ho,_⟩:=Eo (giv k i hb)
  exact AYH hi (Al ho)
 have getIn:∀ {j i:Nat} {o1:Ob},ids[j]? = some i→H1[j]? = some o1→(A8 (ids.zip (H1.map (Da ids))) (C4 (given (bs.drop np)) H))[i]? = some (Da ids o1):=by
  intro j i o1 hj ho1
  obtain⟨⟨o,ho⟩,_⟩:=hids hj
  exact ALc ids _ _ j hnd hj (by rw[Aia,ho1];rfl) (by rw[ABZ];exact Al ho)
 have getOut0:∀ {i:Nat},i∉ids→(A8 (ids.zip (H1.map (Da ids))) (C4 (given (bs.drop np)) H))[i]? = (C4 (given (bs.drop np)) H)[i]? := by
  intro i hi
  exact BW _ _ fun p hp=>by rintro rfl;exact hi (List.of_mem_zip hp).1
 have getOut:∀ {i:Nat},i∉ids→i∉given (bs.drop np)→(A8 (ids.zip (H1.map (Da ids))) (C4 (given (bs.drop np)) H))[i]? = H[i]? := by
  intro i hi hg
  rw[getOut0 hi,ABY hg]
 have getGv:∀ {i:Nat},i∈given (bs.drop np)→(A8 (ids.zip (H1.map (Da ids))) (C4 (given (bs.drop np)) H))[i]? = some .dead:=by
  intro i hg
  rw[getOut0 fun h=>gvN h hg,hgv hg]
 have mIn:∀ {j i:Nat},ids[j]? = some i→mOf ids m3 m i=m3 j:=by
  intro j i hj;simp only[mOf];rw[AYr hnd hj]
 have mOut:∀ {x:Ix},x.id∉ids→mOf ids m3 m x=m x:=by
  intro x hi
  cases x with
  |r i k=>rfl
  |o i=>
   simp only[mOf]
   cases hf:Jk ids i with
   |none=>rfl
   |some j=>exact absurd (AhV (Wp hf)) hi
 have inOut:∀ i:Nat,(∃ j:Nat,ids[j]? = some i)∨i∈given (bs.drop np)∨(i∉ids∧i∉given (bs.drop np)):=by
  intro i
  by_cases h:i∈ids
  ·obtain⟨j,hj⟩:=Aj0 h;exact .inl ⟨j,hj⟩
  ·by_cases h2:i∈given (bs.drop np)
   ·exact .inr (.inl h2)
   ·exact .inr (.inr ⟨h,h2⟩)
 have notGv:∀ {i:Ix},i.id∈given (bs.drop np)→¬ owned (A8 (ids.zip (H1.map (Da ids))) (C4 (given (bs.drop np)) H)) fzR i:=by
  intro i hg ho
  obtain⟨o,h1,_,h3⟩:=C0 ho
  rw[getGv hg]at h1;cases h1;exact h3 rfl
 have has1:∀ {j i:Nat},ids[j]? = some i→∃ o1,H1[j]? = some o1:=by
  intro j i hj
  have hl:=Fc hj
  rw[hlen]at hl
  exact⟨_,AhM hl⟩
 have plR:∀ {o1:Ob},BS o1=true→BS (Da ids o1)=true:=by
  intro o1 h;cases o1<;>first|exact h|rfl
 have cls:∀ x:Ix,owned (A8 (ids.zip (H1.map (Da ids))) (C4 (given (bs.drop np)) H)) fzR x→(∃ i j:Nat,∃ o1,x = .o i∧ids[j]? = some i∧H1[j]? = some o1)∨(x.id∉ids∧x.id∉given (bs.drop np)):=by
  intro x hx
  rcases inOut x.id with⟨j,hj⟩|hg|h
  ·obtain⟨o1,ho1⟩:=has1 hj
   cases x with
   |o i=>exact .inl ⟨i,j,o1,rfl,hj,ho1⟩
   |r i k=>exact absurd hx (Em (getIn hj ho1) (plR (pl1 j o1 ho1)))
  ·exact absurd hx (notGv hg)
  ·exact .inr h
 have own1:∀ {j:Nat} {o1:Ob},H1[j]? = some o1→owned H1 fz1 j:=fun h=>ABB h (al1 _ _ h) (fr1 _)
 have blkNe:∀ {i b c:Nat},i∉ids→i∉given (bs.drop np)→(∃ o,H[i]? = some o∧o≠.free∧o≠.dead)→m i=some (b,c)→∀ {j id c':Nat},bs[j]? = some (.whole id)→m id≠some (b,c'):=by
  intro i b c hi hg ⟨o,ho,h1,h2⟩ hm j id c' hb he
  have hp:=giv j id hb
  have hne:i≠id:=by
   rintro rfl
   rcases Ah2 j np with hj|hj
   ·exact hi (AhV (hwhole (tk' hj hb)))
   ·exact hg (gvO hj hb)
  exact gA.2.ne hp he ho h1 h2 hm hne rfl
 have hcomp:CG H (A8 (ids.zip (H1.map (Da ids))) (C4 (given (bs.drop np)) H)) m (mOf ids m3 m):=by
  intro i o ho hf
  rcases inOut i with⟨j,hj⟩|hg|⟨hi,hg⟩
  ·rcases(hids hj).2 with h|⟨_,h,_⟩
   ·obtain⟨o',o1,ho',ha,ho1,hs,hm⟩:=pin j i h
    rw[ho]at ho';cases ho'
    exact .inr ⟨(AO5 ha).2,_,getIn hj ho1,ADy hs,by rw[mIn hj];exact hm,fun _ _ _=>rfl⟩
   ·rw[ho]at h;cases h;exact absurd rfl hf
  ·exact .inl (getGv hg)
  ·rcases CG.refl H m i o ho hf with h|⟨hd,o',h1,h2,_⟩
   ·exact .inl (by rw[getOut hi hg];exact h)
   ·exact .inr ⟨hd,o',by rw[getOut hi hg];exact h1,h2,mOut (x:=.o i) hi,fun _ _ _=>rfl⟩
 have hmoved:APA ids H1 (A8 (ids.zip (H1.map (Da ids))) (C4 (given (bs.drop np)) H)) m3 (mOf ids m3 m):=by
  intro j o ho
  have hl:=Al ho
  rw[← hlen]at hl
  have hg:ids[j]? = some ids[j]:=AhM hl
  have hd:ids.getD j 0=ids[j]:=by rw[AhK,hg];rfl
  rw[hd]
  exact⟨getIn hg ho,mIn hg⟩
 have hkeepF:∀ b,FB b→w'.heap[b]? = w.heap[b]? := by
  intro b hb
  refine keep b (hiB.lt b hb) fun j id c hj he => ?_
  exact gA.2.off id b c (giv j id hj) he (hB2 b hb)
 have hcell:∀ k,F k→w'.heap[k]? = w.heap[k]? := fun k ha=>hkeepF _ (hFB _ ha)
 have ownOut:∀ {i:Ix},i.id∉ids→i.id∉given (bs.drop np)→owned (A8 (ids.zip (H1.map (Da ids))) (C4 (given (bs.drop np)) H)) fzR i→owned H fzR i:=by
  intro i hi hg h
  exact(CU (getOut hi hg)).1 h
 have blkNe':∀ {x:Ix} {b c:Nat},x.id∉ids→x.id∉given (bs.drop np)→owned H fzR x→m x=some (b,c)→∀ {j id c':Nat},bs[j]? = some (.whole id)→m id≠some (b,c'):=by
  intro x b c hi hg ho hm j id c' hb he
  cases x with
  |o i=>exact blkNe hi hg (Eo ho) hm hb he
  |r i k=>exact gA.2.neX (giv j id hb) he ho.there hm (by simp) rfl
 have bOut:∀ {x:Ix} {b c:Nat},x.id∉ids→x.id∉given (bs.drop np)→owned H fzR x→m x=some (b,c)→∀ {j:Nat} {o1:Ob} {c':Nat},H1[j]? = some o1→m3 j≠some (b,c'):=by
  intro x b c hi hg ho hm j o1 c' ho1 he
  rcases blk j b c' (own1 ho1) he with⟨id,c2,hb,hm2⟩|⟨k,id,c2,_,hb,hm2⟩|hge
  ·exact blkNe' hi hg ho hm (tk hb).2 hm2
  ·exact blkNe' hi hg ho hm hb hm2
  ·have:=hiB.Hu ho hm;omega
 refine⟨⟨⟨os,tape,output,size,fun b hb hn=>keep b hb fun j id c hj he => ?_,fun b h=>hBR b (hFB b h),?_,?_,hcomp⟩,⟨?_,?_,?_,?_,?_,?_,?_,hiC.glo.mono hcell (fun b h=>hBR b (hFB b h)),?_⟩⟩,hmoved⟩
 ·exact hn id c (Cz (giv j id hj)) he
 ·-- what is frozen
  intro b hb
  rcases hR with⟨e1,_,_⟩|⟨e1,_⟩
  ·rw[e1]at hb;exact .inl hb
  ·rw[e1]at hb
   rcases bnd b hb with h|⟨j,id,c,h1,h2⟩|h
   ·exact gA.1.bnd b h
   ·exact .inr (.inl ⟨id,c,Cz (giv j id h1),h2⟩)
   ·exact .inr (.inr h)
 ·intro i b c ho hm
  rcases cls i ho with⟨i,j,o1,rfl,hj,ho1⟩|⟨hi,hg⟩
  ·rw[mIn hj]at hm
   rcases blk j b c (own1 ho1) hm with⟨id,c',h1,h2⟩|⟨k,id,c',_,h1,h2⟩|h
   ·exact .inl ⟨id,c',Cz (giv j id (tk h1).2),h2⟩
   ·exact .inl ⟨id,c',Cz (giv k id h1),h2⟩
   ·exact .inr h
  ·rw[mOut hi]at hm
   exact .inl ⟨i,c,ownR (ownOut hi hg ho),hm⟩
 ·-- objects
  intro i o ho
  rcases inOut i with⟨j,hj⟩|hg|⟨hi,hg⟩
  ·obtain⟨o1,ho1⟩:=has1 hj
   rw[getIn hj ho1]at ho;cases ho
   rw[mIn hj]
   have hob:=hi1.obj j o1 ho1
   cases o1 with
   |free=>trivial
   |dead=>trivial
   |box cs=>
    obtain⟨b,c,vs,T,a1,a2,a3,a4⟩:=hob
    refine⟨b,c,vs,T,a1,a2,Ad.ren hmoved cs ?_,a4⟩
    rcases hR with⟨e1,_,hfl⟩|⟨e1,_⟩
    ·rw[Ahe]at hfl
     exact Ad.flat cs (by simpa [Pg]using hfl _ (AhV ho1)) a3
    ·rw[e1];exact a3
   |arr T t xs=>
    rcases hR with⟨e1,_,hfl⟩|⟨e1,_⟩
    ·rw[Ahe]at hfl
     have hft:t.flat=true:=by simpa [Pg]using hfl _ (AhV ho1)
     obtain⟨h0,h1⟩:=hob
     refine⟨h0,?_⟩
     cases hm3:m3 j with
     |none=>rw[hm3]at h1;exact h1
     |some p=>
      obtain⟨b,cap⟩:=p
      rw[hm3]at h1
      obtain⟨vs,row,a1,a2,a3,a4,a5,a6⟩:=h1
      exact⟨vs,row,a1,a2,a3,a4,BK (fun x _ cs hx=>hx.flat t hft) a5,a6⟩
    ·rw[e1];exact hob
   |map k v es=>
    obtain⟨b,c,ms,clock,a1,a2,a3,a4⟩:=hob
    refine⟨b,c,ms,clock,a1,a2,?_,a4⟩
    rcases hR with⟨e1,_,hfl⟩|⟨e1,_⟩
    ·rw[Ahe]at hfl
     have hft:k.flat=true∧v.flat=true:=by simpa [Pg]using hfl _ (AhV ho1)
     exact AYw hft.1 hft.2 a3
    ·rw[e1];exact a3
   |prs T tgt is=>
    simp only[Da]
    cases hm3:m3 j with
    |none=>rw[hm3]at hob;exact hob
    |some p=>
     obtain⟨b,cap⟩:=p
     rw[hm3]at hob
     obtain⟨vs,us,a1,a2,a3,a4,a5,a6,a7⟩:=hob
     refine⟨vs,us,a1,a2,a3,a4,?_,a6,a7⟩
     rw[← Aat]
     refine Ad.ren hmoved _ ?_
     rcases hR with⟨e1,_,hfl⟩|⟨e1,_⟩
     ·exact Ad.flat _ (AYo tgt is) a5
     ·rw[e1];exact a5
   |rows T e t xs ver out=>exact absurd (pl1 j _ ho1) (by simp[BS])
  ·rw[getGv hg]at ho;cases ho;trivial
  ·rw[getOut hi hg]at ho
   rw[mOut (x:=.o i) hi]
   refine ObI.mono hcell (fun b h=>hBR b (hFB b h)) hcomp (fun h1 h2 b c hm hlt=>keep b hlt fun j id c' hj=>blkNe hi hg ⟨o,ho,h1,h2⟩ hm hj) (hiC.obj i o ho)
 ·-- rows
  intro i
  rcases inOut i with⟨j,hj⟩|hg|⟨hi,hg⟩
  ·obtain⟨o1,ho1⟩:=has1 hj
   exact Bz.plain (getIn hj ho1) (plR (pl1 j o1 ho1))
  ·exact Bz.plain (getGv hg) rfl
  ·refine Bz.mono hcell (fun b h=>hBR b (hFB b h)) hcomp (getOut hi hg) (fun x hx=>mOut (by rw[hx];exact hi))
    (fun x hx hox b c hm hlt=>keep b hlt fun j id c' hj he => ?_) (hiC.row i)
   refine gA.2.neX (giv j id hj) he hox hm ?_ rfl
   rintro rfl
   have hx:id=i:=hx
   subst hx
   rcases Ah2 j np with hj'|hj'
   ·exact hi (AhV (hwhole (tk' hj' hj)))
   ·exact hg (gvO hj' hj)
 ·intro i T e t xs ver out hio hf x hx ht b c hm
  rcases inOut i with⟨j,hj⟩|hg|⟨hi,hg⟩
  ·obtain⟨o1,ho1⟩:=has1 hj
   rw[getIn hj ho1]at hio
   have:=plR (pl1 j o1 ho1)
   rw[AiL hio]at this;cases this
  ·rw[getGv hg]at hio;cases hio
  ·rw[mOut (x:=x) (by rw[hx];exact hi)]at hm
   have h1:=getOut hi hg
   exact hBR b (hiB.rfz i T e t xs ver out (h1▸hio) hf x hx ((CR (by rw[hx];exact h1)).1 ht) b c hm)
 ·-- apart
  intro i j b c b' c' hoi hoj hij hmi hmj
  rcases cls i hoi with⟨i,k,o1,rfl,hk,ho1⟩|⟨hi,hgi⟩
  ·rw[mIn hk]at hmi
   rcases cls j hoj with⟨j,l,o2,rfl,hl,ho2⟩|⟨hj,hgj⟩
   ·rw[mIn hl]at hmj
    have hkl:k≠l:=by rintro rfl;rw[hk]at hl;cases hl;exact hij rfl
    exact hi1.sep k l b c b' c' (own1 ho1) (own1 ho2) (Ael hkl) hmi hmj
   ·rw[mOut hj]at hmj
    rintro rfl
    exact bOut hj hgj (ownOut hj hgj hoj) hmj ho1 hmi
  ·rw[mOut hi]at hmi
   rcases cls j hoj with⟨j,l,o2,rfl,hl,ho2⟩|⟨hj,hgj⟩
   ·rw[mIn hl]at hmj
    rintro rfl
    exact bOut hi hgi (ownOut hi hgi hoi) hmi ho2 hmj
   ·rw[mOut hj]at hmj
    exact hiB.sep i j b c b' c' (ownOut hi hgi hoi) (ownOut hj hgj hoj) hij hmi hmj
 ·-- none of them frozen
  intro i b c hoi hmi hb
  rcases cls i hoi with⟨i,k,o1,rfl,hk,ho1⟩|⟨hi,hg⟩
  ·rw[mIn hk]at hmi
   exact hi1.off k b c (own1 ho1) hmi (FR3 b hb)
  ·rw[mOut hi]at hmi
   have ho:=ownOut hi hg hoi
   rcases hR with⟨e1,e2,_⟩|⟨e1,e2⟩
   ·rw[e1]at hb;exact hiC.off i b c (ownR ho) hmi hb
   ·rw[e1]at hb
    rcases bnd b hb with h|⟨j,id,c',h1,h2⟩|h
    ·rw[e2]at ho;exact gA.2.off i b c ho hmi h
    ·exact blkNe' hi hg ho hmi h1 h2
    ·have:=hiB.Hu ho hmi;omega
 ·intro i T t xs b c hio hf hmi
  rcases inOut i with⟨k,hk⟩|hg|⟨hi,hg⟩
  ·obtain⟨o1,ho1⟩:=has1 hk
   rw[getIn hk ho1]at hio
   have:o1 = .arr T t xs:=by
    cases o1<;>simp only[Da,AhG]at hio<;>first|exact hio|cases hio
   rw[hunf hk ho1 this]at hf;cases hf
  ·rw[getGv hg]at hio;cases hio
  ·rw[getOut hi hg]at hio
   rw[mOut (x:=.o i) hi]at hmi
   exact hBR b (hiB.froz i T t xs b c hio hf hmi)
 ·intro b hb
  exact hi1.lt b (FR3 b hb)
 ·rw[WC,ABZ]
  exact hiB.len
end
end Go.Pev
end
section
namespace Go.Pev
open Go.RowKit
section
variable {P:Program} {w:World} {F:Nat→Prop} {m:Mp} {st:St} {a:Act}
def AH0(tmps:Array Value):ResultVar→Sem Value
 |.tmp t=>pure (tmps.getD t undef)
 |.cell x t=>do loadVar t (← asAddr (tmps.getD x undef))
theorem ALu(hs:SI w F m st a){rv:ResultVar}{v:AV}(h:QY P st rv=some v):
  ∃ u,(AH0 a.tmps rv).run P w = .ok u w∧Rep w F m st.heap v u:=by
 cases rv with
 |tmp t=>
  simp only[QY,AhG]at h;subst h
  exact⟨_,rfl,hs.tmps t⟩
 |cell x T=>
  simp only[QY]at h
  split at h
  ·rename_i id off n ag h1 h2 h3
   split at h
   ·rename_i cs ho
    have hr:=hs.tmps x
    have e1:st.tmps.getD x .junk = .ptr id off:=h1
    rw[e1]at hr
    unfold Rep Gr at hr
    rw[ho]at hr
    obtain⟨b,c,e2,e3⟩:=hr
    obtain⟨b',c',vs,T',e4,e5,e6,e7⟩:=hs.heap.obj id _ ho
    rw[e2]at e4;cases e4
    obtain⟨u,k1,k2⟩:=Ch (P:=P) h2 h3 h (Eu e6 off) (ad:=⟨b,off,none⟩) (fun u hu=>e7 u (Aip hu)) (fun j u hu=>by
     rw[AiH]at hu
     rw[B7]
     simp only[World.cell?,e5]
     simpa using hu)
    refine⟨u,?_,k2⟩
    simp[AH0,e3,asAddr,k1]
   ·cases h
  ·cases h
theorem AHz(hs:SI w F m st a):∀ {rvs:List ResultVar} {vs:List AV},DI P st rvs=some vs →
  ∃ us,(rvs.mapM (AH0 a.tmps)).run P w = .ok us w∧Ad w F m st.heap vs us:=by
 intro rvs
 induction rvs with
 |nil=>
  intro vs h
  simp only[DI,AhG]at h;subst h
  exact⟨[],by simp[List.mapM_nil],NR⟩
 |cons rv rvs ih=>
  intro vs h
  simp only[DI]at h
  split at h
  ·cases h
  ·rename_i v hv
   split at h
   ·cases h
   ·rename_i vs' hvs
    simp only[AhG]at h;subst h
    obtain⟨u,h1,h2⟩:=ALu hs hv
    obtain⟨us,h3,h4⟩:=ih hvs
    refine⟨u::us,?_,by unfold Ad;exact⟨u,us,rfl,h2,h4⟩⟩
    rw[List.mapM_cons]
    simp only[Sem.run_bind]
    rw[h1]
    simp only[Result.andThen_ok]
    rw[h3]
    simp
def ASg(us:List Value):Value:=if h:us.toArray.size=1 then us.toArray[0]else .tuple us.toArray
theorem Z6(hs:SI w F m st a){fn:Func}{vs:List AV}(h:DI P st fn.results.toList=some vs):
  ∃ us,(results fn a.tmps).run P w = .ok (ASg us) w∧Ad w F m st.heap vs us:=by
 obtain⟨us,h1,h2⟩:=AHz hs h
 refine⟨us,?_,h2⟩
 have e:results fn a.tmps=(do
   let vs ← fn.results.mapM (AH0 a.tmps)
   pure (if h:vs.size=1 then vs[0]else .tuple vs)):=by
  unfold results
  congr 2
 rw[e,Aj5]
 simp only[Sem.run_bind,map_eq_pure_bind]
 rw[h1]
 rfl
theorem AE7{H:List Ob}{vs:List AV}{us:List Value}(h:Ad w F m H vs us):Rep w F m H (single vs) (ASg us):=by
 have hl:=Ar h
 unfold ASg
 match vs,us,hl with
 |[],[],_=>
  simp only[single]
  unfold Rep
  exact⟨_,rfl,h⟩
 |[v],[u],_=>
  simp only[single]
  unfold Ad at h
  obtain⟨_,_,e,h1,_⟩:=h
  cases e
  exact h1
 |v::v'::vs,u::u'::us,_=>
  simp only[single]
  unfold Rep
  exact⟨_,rfl,h⟩
def I3:List RS→List Value→List Value
 |.one::r,u::us=>u::I3 r us
 |.agg _::r,u::us=>u.cells.toList++I3 r us
 |_,_=>[]
theorem AQ2{H:List Ob}:∀ {rs:List RS} {vs:List AV} {us:List Value} {tm:List AV},GK rs vs=some tm→Ad w F m H vs us →
  Ad w F m H tm (I3 rs us)∧(I3 rs us).length=cellsOf rs∧∀ (w2:World) (F2:Nat→Prop) (m2:Mp) (H2:List Ob) (ws:List AV),Ad w2 F2 m2 H2 ws (I3 rs us)→Ad w2 F2 m2 H2 (GF rs ws) us:=by
 intro rs
 induction rs with
 |nil=>
  intro vs us tm h hr
  cases vs with
  |nil=>
   simp only[GK,AhG]at h;subst h
   unfold Ad at hr;subst hr
   exact⟨NR,rfl,fun _ _ _ _ _ _=>NR⟩
  |cons v vs=>simp[GK]at h
 |cons r rs ih=>
  intro vs us tm h hr
  cases vs with
  |nil=>cases r<;>simp[GK]at h
  |cons v vs=>
   unfold Ad at hr
   obtain⟨u,us',rfl,hv,hr⟩:=hr
   cases r with
   |one=>
    simp only[GK]at h
    split at h
    ·rename_i l hl
     simp only[AhG]at h;subst h
     obtain⟨h1,h2,h3⟩:=ih hl hr
     refine⟨by simp only[I3];unfold Ad;exact⟨u,_,rfl,hv,h1⟩,by simp[I3,cellsOf,RS.cells,h2];omega,fun w2 F2 m2 H2 ws hw => ?_⟩
     simp only[I3]at hw
     cases ws with
     |nil=>unfold Ad at hw;cases hw
     |cons x ws=>
      unfold Ad at hw
      obtain⟨y,ys,e,q1,q2⟩:=hw
      cases e
      simp only[GF,Aj8,AjK]
      unfold Ad
      exact⟨u,us',rfl,q1,h3 w2 F2 m2 H2 ws q2⟩
    ·cases h
   |agg n=>
    simp only[GK]at h
    split at h
    ·rename_i cs hag hcs
     split at h
     ·rename_i hn
      simp only[AhI]at hn
      split at h
      ·rename_i l hl
       simp only[AhG]at h;subst h
       obtain⟨h1,h2,h3⟩:=ih hl hr
       have hc:=cells?_ok hcs hv
       have ho:=cells?_one hcs hv
       have hcl:=Ar hc
       have hu:u = .agg u.cells:=by
        cases v<;>simp only[Rc]at hag<;>try (cases hag;done)
        ·rename_i t d
         unfold Rep Bg at hv
         rw[AhX hag]at hv
         obtain⟨x,rfl,_⟩:=hv
         rfl
        ·unfold Rep at hv
         obtain⟨x,rfl,_⟩:=hv
         rfl
       refine⟨by simp only[I3];exact Ge hc h1,by simp[I3,cellsOf,RS.cells,h2]at hcl ⊢;omega,fun w2 F2 m2 H2 ws hw => ?_⟩
       simp only[I3]at hw
       have ht:=N7 hw n
       have hd:=Eu hw n
       have hn':u.cells.toList.length=n:=by rw[hcl,hn]
       rw[Aj7 hn']at ht
       rw[List.drop_left' hn']at hd
       simp only[GF]
       unfold Ad
       refine⟨u,us',rfl,?_,h3 w2 F2 m2 H2 _ hd⟩
       unfold Rep
       exact⟨u.cells,hu,ht,ho⟩
      ·cases h
     ·cases h
    ·cases h
end
end Go.Pev
end
section
namespace Go.Pev
open Go.RowKit
theorem NO {P : Program} {g : FuncId} {fn : Func} (hf : P.funcs[g]? = some fn) (hb : fn.body.isSome = true) (hn : (fn.name == "runtime.NumGoroutine") = false) : SB P g := by
 intro args w
 obtain⟨c,hc⟩:=Aih.1 hb
 have hn' : ¬ fn.name = "runtime.NumGoroutine" := by simpa using hn
 simp[callFunc,hf,hn',hc]
theorem AKG{P:Program}{np:Nat}{h:Hints}:∀ (c:Code) (n:Nat),loops c=0→DQ P np h c n:=by
 intro c
 induction c with
 |seq a b iha ihb=>intro n hl;simp only[loops]at hl;exact⟨iha n (by omega),ihb _ (by omega)⟩
 |cond c a b iha ihb=>intro n hl;simp only[loops]at hl;exact⟨iha n (by omega),ihb _ (by omega)⟩
 |block id c ih=>intro n hl;simp only[loops]at hl;exact ih n hl
 |loop c ih=>intro n hl;simp only[loops]at hl;omega
 |_=>intro n _;trivial
section
variable {P:Program} {E:Env} {h:Hints} {g:FuncId} {fn:Func} {c:Code}
theorem AUH{w:World}{F:Nat→Prop}{m:Mp}{H:List Ob}{args:List AV}{vals:List Value}(hr:Ad w F m H args vals)(n:Nat)(t:Nat):
  Rep w F m H ((args++List.replicate n AV.junk).getD t .junk) ((vals.toArray++Array.replicate n undef).getD t undef):=by
 have hl:=Ar hr
 have e:(vals.toArray++Array.replicate n undef).getD t undef=(vals++List.replicate n undef).getD t undef:=by
  rw[Ah4,AhK,← AjV]
  simp
 rw[e,AhK,AhK]
 rcases Ah2 t args.length with ht|ht
 ·rw[Ahn ht,Ahn (by omega)]
  obtain⟨v,hv,hrv⟩:=CL hr (i:=t) (c:=args[t]) (AhM ht)
  rw[hv,AhM ht]
  exact hrv
 ·rw[Aht ht,Ajg]
  split<;>(unfold Rep;trivial)
theorem ANK(hE:∀ g,AR P g (E.spec g))(hL:JE E)(hf:P.funcs[g]? = some fn)(hb:fn.body=some c)(hc:SB P g)(hl:loops c=0):
  AR P g (DF P E h fn):=by
 intro R args H fz slot k r hk
 simp only[DF,hb]at hk
 split at hk
 ·cases hk
 ·rename_i hle
  simp only[AhI]at hle
  obtain⟨e,st',h1,h2,h3⟩:=Kv hE hL (np:=H.length) c 0 (AKG c 0 hl) R _ _ r hk
  have key:∃ vs,DI P st' fn.results.toList=some vs∧k (single vs) { heap:=some (st'.heap,st'.frz) }=some r∧(e = .normal∨e = .ret):=by
   cases e with
   |normal=>
    simp only at h1
    split at h1
    ·rename_i vs hvs;exact⟨vs,hvs,h1,.inl rfl⟩
    ·cases h1
   |ret=>
    simp only at h1
    split at h1
    ·rename_i vs hvs;exact⟨vs,hvs,h1,.inr rfl⟩
    ·cases h1
   |_=>simp at h1
  obtain⟨vs,hvs,h4,he⟩:=key
  refine⟨_,_,h4,fun R' k' => ?_,hc,fun w F m vals hi hr => ?_⟩
  ·simp only[DF,hb,hle,AhS]
   refine(h2 R' _).trans ?_
   rcases he with rfl|rfl<;>simp only[hvs]
  ·have hlv:=Ar hr
   refine calls_of_wp hf hb ?_
   have hsi:SI w F m { tmps:=args++List.replicate (fn.ntmps-args.length) .junk,heap:=H,frz:=fz } { tmps:=vals.toArray++Array.replicate (fn.ntmps-vals.toArray.size) undef,defers:=[] }:=by
    refine⟨fun t => ?_,?_,hi,rfl⟩
    ·have:=AUH hr (fn.ntmps-args.length) t
     simp only[Ail,hlv]
     exact this
    ·simp[hlv]
   refine h3 w F m _ _ hsi fun a' w' F' m' s1 x1 => ?_
   obtain⟨us,r1,r2⟩:=Z6 s1 hvs
   have hgo:Ao w F m H fz w' F' m' st'.heap st'.frz:=⟨⟨x1.os,x1.tape,x1.output,x1.size,x1.keep,x1.sub,x1.bnd,x1.own,fun i o ho hf=>x1.comp i o (Al ho) ho hf⟩,s1.heap⟩
   have hpost:a'.defers=[]∧∃ v,(results fn a'.tmps).run P w' = .ok v w'∧(fun(en:Ending) (w':World)=>∃ u,en = .returned u∧∃ F' m',Ao w F m H fz w' F' m' (CN { heap:=some (st'.heap,st'.frz) } H) (Fy { heap:=some (st'.heap,st'.frz) } fz)∧Rep w' F' m' (CN { heap:=some (st'.heap,st'.frz) } H) (single vs) u) (.returned v) w':=
    ⟨s1.defers,_,r1,_,rfl,F',m',hgo,AE7 r2⟩
   rcases he with rfl|rfl<;>exact hpost
theorem AGF{w:World}{F:Nat→Prop}{m:Mp}{H:List Ob}{fz:List Bool}{bs:List Bnd}{m':Mp}{E:St}{val:Nat→Value}(h:Inv w F m H fz bs m' E val){j:Nat}{o:Ob}(hj:E.heap[j]? = some o):alive o:=by
 have hlt:=Al hj
 rw[h.lenH]at hlt
 have hx:bs[j]? = some bs[j]:=AhM hlt
 have hb:=h.ob j _ hx
 cases hc:bs[j]with
 |none=>rw[hc]at hb;simp only[BM]at hb;obtain⟨_,⟨T,e,e2,_⟩|⟨T,e,e2⟩⟩:=hb<;>(rw[hj]at e2;cases e2;trivial)
 |whole id=>
  rw[hc]at hb;simp only[BM]at hb
  rcases hb.2 with⟨T,t,xs,_,a2,_⟩|⟨k,v,es,_,a2⟩|⟨cs,cs',b,c,vs,T,_,a2,_⟩|⟨_,_,_,_,_,a2,_⟩|⟨_,_,_,_,_,_,a2,_⟩<;>(rw[hj]at a2;cases a2;trivial)
 |cut id=>rw[hc]at hb;simp only[BM]at hb;obtain⟨T,t,xs,n,_,_,a3,_⟩:=hb;rw[hj]at a3;cases a3;trivial
theorem Ei{st:St}(h:st.heap.all BS=true)(v:AV)(l:Loc):(place st v l).heap.all BS=true:=by
 cases l with
 |cell j c=>
  simp only[place]
  split
  ·rw[Ahe]at h ⊢
   intro o ho
   rcases List.mem_or_eq_of_mem_set ho with h1|rfl
   ·exact h o h1
   ·rfl
  ·exact h
 |_=>exact h
theorem J8{st:St}(h:st.heap.all BS=true){o:Ob}(ho:BS o=true):(Dl st o).heap.all BS=true:=by simp[Dl,h,ho]
theorem AXF:∀ (its:AE) (d:B6 (leaves its)) (st:St),Ht its=true→st.heap.all BS=true→(enc its d st).heap.all BS=true:=by
 intro its
 induction its with
 |nil=>intro d st _ h;exact h
 |cons p r ih=>
  intro d st hn h
  obtain⟨l,c⟩:=p
  cases c with
  |rows T e t=>simp[Ht]at hn
  |mrows j e t=>simp[Ht]at hn
  |aptr T e n=>exact ih _ _ hn (Ei (J8 h rfl) _ _)
  |own T e=>exact ih _ _ hn (Ei (J8 h rfl) _ _)
  |box n=>exact ih _ _ hn (Ei (J8 h rfl) _ _)
  |map k v=>exact ih _ _ hn (Ei (J8 h rfl) _ _)
  |prs T j=>exact ih _ _ hn (Ei (J8 h rfl) _ _)
  |_=>exact ih _ _ hn (Ei h _ _)
theorem Np{its:AE}{d:B6 (leaves its)}{n:Nat}(hn:Ht its=true){j:Nat}{o:Ob}(h:(encode n its d).heap[j]? = some o):BS o=true:=
 Ahe.1 (AXF its d (blank n) hn rfl) o (AhV h)
theorem ALw{its:AE}{d:B6 (leaves its)}{n:Nat}(hn:Ht its=true){fz:List Bool}{x:Ix}(h:owned (encode n its d).heap fz x):x = .o x.id:=by
 cases x with
 |o i=>rfl
 |r i k=>
  obtain⟨o,ho,_⟩:=C0 h
  exact absurd h (Em ho (Np hn ho))
theorem AOG{np:Nat}{outs:AE}{rs:List RS}{st:St}{y:B6 (leaves outs)}(h:finish np P fn outs rs st=some y):
  ∃ vs tm bs fr,DI P st fn.results.toList=some vs∧GK rs vs=some tm∧dec tm st.heap outs st.frz []=some (y,bs,fr)∧(pins np 0 bs&&(st.heap.take np).all BS)=true:=by
 unfold finish at h
 split at h
 ·rename_i vs hvs
  split at h
  ·rename_i tm htm
   split at h
   ·rename_i y' bs fr hd
    split at h
    ·rename_i hp
     simp only[AhG]at h;subst h
     exact⟨vs,tm,bs,fr,hvs,htm,hd,hp⟩
    ·cases h
   ·cases h
  ·cases h
 ·cases h
theorem AXo(hE:∀ g,AR P g (E.spec g))(hL:JE E)(hf:P.funcs[g]? = some fn)(hb:fn.body=some c)(hc:SB P g)
  {np na:Nat} (hna:na≤fn.ntmps) {its outs:AE} {rs:List RS} {f:B6 (leaves its)→Option (B6 (leaves outs))} (hfun:∀ x,f x=AP np P E h fn its outs rs x) (hl:DQ P np h c 0) :
  AR P g (AF np na its outs rs f):=by
 intro R args H fz slot k r hk
 simp only[AF]at hk
 split at hk
 ·cases hk
 ·rename_i x bs fr hdec
  split at hk
  ·cases hk
  ·rename_i hchk
   simp only[AhJ,AhI]at hchk
   obtain⟨⟨⟨huncut,hbl⟩,hal⟩,hri,hro⟩:=hchk
   split at hk
   ·cases hk
   ·rename_i y hy
    generalize hids:Ce (C1 outs) (bs.take np) slot=ids at hk
    generalize hgv:given (bs.drop np)=gv at hk
    have key:∃ e,k (single (GF rs (Kt ids (encode (cellsOf rs) outs y).tmps))) e=some r∧e.heap=none∧e.objs=gv.map (fun i=>(i,.dead))++ids.zip ((encode (cellsOf rs) outs y).heap.map (Da ids)) ∧
      (∀ R' (k':AV→Eff→Option R'),Jr R' gv (bs.take np) fr rs (encode (cellsOf rs) outs y) ids H fz k'=k' (single (GF rs (Kt ids (encode (cellsOf rs) outs y).tmps))) e) ∧
      FO H (Ah e.frz fz) ids (bs.take np)=true∧JU ids=true ∧
      ((e.frz=[]∧KP (encode (cellsOf rs) outs y).tmps=true∧(encode (cellsOf rs) outs y).heap.all Pg=true)∨e.frz=fr):=by
     unfold Jr at hk
     split at hk
     ·rename_i hflat
      split at hk
      ·rename_i hok
       simp only[AhJ]at hok hflat
       refine⟨_,hk,rfl,rfl,fun R' k'=>by simp only[Jr,hflat.1,hflat.2,hok.1,hok.2,Aiz],hok.1,hok.2,.inl ⟨rfl,hflat.1,hflat.2⟩⟩
      ·cases hk
     ·rename_i hflat
      split at hk
      ·rename_i hok
       simp only[AhJ]at hok
       refine⟨_,hk,rfl,rfl,fun R' k'=>by simp only[Jr,hflat,hok.1,hok.2,Aiz],hok.1,hok.2,.inr rfl⟩
      ·cases hk
    obtain⟨e,h4,he1,he2,h5,hok,hnd,hfl⟩:=key
    refine⟨_,e,h4,fun R' k' => ?_,hc,fun w F m vals hi hr => ?_⟩
    ·simp only[AF,hdec,huncut,hbl,hal,hri,hro,hy,AhS,Aiz,hids,hgv]
     exact h5 R' k'
    ·have hlv:=Ar hr
     rw[hfun x]at hy
     unfold AP at hy
     rw[hb]at hy
     simp only at hy
     obtain⟨ex,st',g1,_,g3⟩:=Kv hE hL c 0 hl _ _ _ _ hy
     have hfin:finish np P fn outs rs st'=some y∧(ex = .normal∨ex = .ret):=by
      cases ex with
      |normal=>exact⟨g1,.inl rfl⟩
      |ret=>exact⟨g1,.inr rfl⟩
      |_=>simp at g1
     obtain⟨hfin,hex⟩:=hfin
     obtain⟨vs,tm,bs',fr',hvs,htm,hd',hp⟩:=AOG hfin
     rw[AhJ]at hp
     replace hp:=hp.1
     refine calls_of_wp hf hb ?_
     obtain⟨F2,m2,gA,invA,_⟩:=ATS (val:=fun t=>(vals.toArray++Array.replicate (fn.ntmps-vals.toArray.size) undef).getD t undef) its fz [] F (fun _=>none) (blank fn.ntmps) x bs fr hi
      (fun t v ht=>by
       have:=AUH hr (fn.ntmps-vals.toArray.size) t
       rw[AhK,Ahn (Fc ht),ht]at this
       exact this) (Inv.blank fn.ntmps) hdec
     have hsi:SI w F2 m2 (encode fn.ntmps its x) { tmps:=vals.toArray++Array.replicate (fn.ntmps-vals.toArray.size) undef,defers:=[] }:=by
      refine⟨invA.tmps,?_,invA.hi gA.2,rfl⟩
      rw[NA]
      simp[hlv]
      omega
     refine g3 w F2 m2 _ _ hsi fun a' w' F' m' s1 x1 => ?_
     obtain⟨us,r1,r2⟩:=Z6 s1 hvs
     obtain⟨q1,q2,q3⟩:=AQ2 htm r2
     obtain⟨F3,m3,gC,invC,_⟩:=ATS (val:=fun t=>(I3 rs us).getD t undef) outs st'.frz [] F' (fun _=>none) (blank (cellsOf rs)) y bs' fr' s1.heap
      (fun t v ht=>by
       obtain⟨u,hu,hru⟩:=CL q1 ht
       rw[AhK,hu]
       exact hru) (Inv.blank (cellsOf rs)) hd'
     have srcA:∀ {j:Ix} {b c},owned (encode fn.ntmps its x).heap (encode fn.ntmps its x).frz j→m2 j=some (b,c)→∃ id:Nat,bs[j.id]? = some (.whole id)∧owned H (Ah fr fz) id∧m id=some (b,c):=by
      intro j b c ho hm
      have hj:=ALw hri ho
      obtain⟨y,id,k1,k2,k3,k4⟩:=invA.src ho hm
      rw[hj]at k3 k4
      rw[Ahe]at huncut
      have:=huncut y (AhV k1)
      cases y with
      |none=>simp[Bnd.id?]at k2
      |whole i=>simp only[Bnd.id?,AhG]at k2;subst k2;exact⟨_,k1,k3,k4⟩
      |cut i=>simp[Bnd.AZX]at this
     have hinj:∀ (i j id:Nat),bs[i]? = some (.whole id)→bs[j]? = some (.whole id)→i=j:=fun i j id h1 h2=>invA.inj i j _ _ id h1 h2 rfl rfl
     have start:∀ (j id:Nat),bs[j]? = some (.whole id)→m2 j=m id∧∃ o o0,H[id]? = some o∧alive o∧(encode fn.ntmps its x).heap[j]? = some o0∧sameShape o o0∧alive o0∧owned H (Ah fr fz) id:=by
      intro j id hj
      have hA:=invA.ob j _ hj
      simp only[BM]at hA
      obtain⟨eA,hA⟩:=hA
      refine⟨eA,?_⟩
      rcases hA with⟨T,t,xs,a1,a2,a3⟩|⟨k,v,es,a1,a2⟩|⟨cs,cs',b,cc,vs,T,a1,a2,_⟩|⟨_,_,_,_,a1,a2,_⟩|⟨_,_,_,_,_,_,a2,_⟩
      ·exact⟨_,_,a1,trivial,a2,⟨rfl,rfl⟩,trivial,ABB a1 trivial a3⟩
      ·exact⟨_,_,a1,trivial,a2,trivial,trivial,by simp only[owned,Bp];rw[a1];trivial⟩
      rotate_left
      ·exact⟨_,_,a1,trivial,a2,rfl,trivial,by simp only[owned,Bp];rw[a1];trivial⟩
      ·exact absurd (Np hri a2) (by simp[BS])
      ·exact⟨_,_,a1,trivial,a2,trivial,trivial,by simp only[owned,Bp];rw[a1];trivial⟩
     have hpin:∀ (j id:Nat),(bs.take np)[j]? = some (.whole id)→∃ o o1,H[id]? = some o∧alive o∧(encode (cellsOf rs) outs y).heap[j]? = some o1∧sameShape o o1∧m3 j=m id:=by
      intro j id hj0
      rw[Ah5]at hj0
      split at hj0
      case isFalse=>cases hj0
      rename_i hjn
      obtain⟨eA,o,o0,s1,s2,s3,s4,s5,s6⟩:=start j id hj0
      have hC:=invC.ob j _ (by have:=AL3 _ 0 bs' hp j hjn;rw[AiJ]at this;exact this)
      simp only[BM]at hC
      obtain⟨eC,hC⟩:=hC
      have mid:=x1.comp j o0 hjn s3 (AO5 s5).1
      have fin:∃ o2 o1,st'.heap[j]? = some o2∧alive o2∧(encode (cellsOf rs) outs y).heap[j]? = some o1∧sameShape o2 o1:=by
       rcases hC with⟨T,t,xs,a1,a2,a3⟩|⟨k,v,es,a1,a2⟩|⟨cs,cs',b,cc,vs,T,a1,a2,_⟩|⟨_,_,_,_,a1,a2,_⟩|⟨_,_,_,_,_,_,a2,_⟩
       ·exact⟨_,_,a1,trivial,a2,⟨rfl,rfl⟩⟩
       ·exact⟨_,_,a1,trivial,a2,trivial⟩
       rotate_left
       ·exact⟨_,_,a1,trivial,a2,rfl⟩
       ·exact absurd (Np hro a2) (by simp[BS])
       ·exact⟨_,_,a1,trivial,a2,trivial⟩
      obtain⟨o2,o1,t1,t2,t3,t4⟩:=fin
      rcases mid with md|⟨_,o2',md1,md2,md3,_⟩
      ·rw[t1]at md;cases md;exact t2.elim
      ·rw[t1]at md1;cases md1
       exact⟨o,o1,s1,s2,t3,(s4.trans md2).trans t4,by rw[eC,md3,eA]⟩
     have hiC1:=invC.hi gC.2
     have hblk:∀ j b cc:Nat,owned (encode (cellsOf rs) outs y).heap (encode (cellsOf rs) outs y).frz j→m3 j=some (b,cc)→(∃ id c':Nat,(bs.take np)[j]? = some (.whole id)∧m id=some (b,c'))∨(∃ k id c':Nat,np≤k∧bs[k]? = some (.whole id)∧m id=some (b,c'))∨w.heap.size≤b:=by
      intro j b cc ho hm
      obtain⟨_,i',k1,k2,k3,k4⟩:=invC.src ho hm
      rcases x1.own i' b cc (Cz k3) k4 with⟨i,c0,l1,l2⟩|h
      ·obtain⟨id,n1,n2,n3⟩:=srcA l1 l2
       have hio:=ALw hri l1
       generalize i.id=i0 at n1 hio
       subst hio
       rcases Ah2 i0 np with hin|hin
       ·left
        have n1':(bs.take np)[i0]? = some (.whole id):=by rw[Ah5,AhX hin];exact n1
        obtain⟨o,o1,p1,p2,p3,p4,p5⟩:=hpin i0 id n1'
        have hoi:owned (encode (cellsOf rs) outs y).heap (encode (cellsOf rs) outs y).frz i0:=ABB p3 (AGF invC p3) (invC.frz i0)
        by_cases hij:j=i0
        ·subst hij;exact⟨id,c0,n1',n3⟩
        ·exact absurd rfl (hiC1.sep j i0 b cc b c0 ho hoi (Ael hij) hm (by rw[p5];exact n3))
       ·exact .inr (.inl ⟨i0,id,c0,hin,n1,n3⟩)
      ·exact .inr (.inr h)
     have hkeep:∀ b,b<w.heap.size→(∀ (j id:Nat) (c:Nat),bs[j]? = some (.whole id)→m id≠some (b,c))→w'.heap[b]? = w.heap[b]? := by
      intro b hb hn
      refine x1.keep b hb fun i cc ho hm => ?_
      obtain⟨id,n1,_,n3⟩:=srcA ho hm
      exact hn i.id id cc n1 n3
     have hbnd:∀ b,F3 b→F2 b∨(∃ (j id c:Nat),bs[j]? = some (.whole id)∧m id=some (b,c))∨w.heap.size≤b:=by
      have hx:∀ {i:Ix} {b cc:Nat},owned (encode fn.ntmps its x).heap (encode fn.ntmps its x).frz i→m2 i=some (b,cc)→∃ (j id c:Nat),bs[j]? = some (.whole id)∧m id=some (b,c):=by
       intro i b cc ho hm
       obtain⟨id,n1,_,n3⟩:=srcA ho hm
       exact⟨i.id,id,cc,n1,n3⟩
      intro b hb
      rcases gC.1.bnd b hb with h|⟨i,cc,ho,hm⟩|h
      ·rcases x1.bnd b h with h|⟨i,cc,ho,hm⟩|h
       ·exact .inl h
       ·exact .inr (.inl (hx ho hm))
       ·exact .inr (.inr h)
      ·rcases x1.own i b cc ho hm with⟨i',c0,ho,hm⟩|h
       ·exact .inr (.inl (hx ho hm))
       ·exact .inr (.inr h)
      ·exact .inr (.inr (AiP x1.size h))
     have hidl:ids.length=(encode (cellsOf rs) outs y).heap.length:=by
      rw[← hids,AYS];unfold encode;rw[Acr];simp[blank]
     obtain⟨FR,hFR,hRR⟩:∃ FR,((FR=F∧Ah e.frz fz=fz∧(encode (cellsOf rs) outs y).heap.all Pg=true)∨(FR=F3∧Ah e.frz fz=Ah fr fz))∧Ad w' FR m3 (encode (cellsOf rs) outs y).heap (encode (cellsOf rs) outs y).tmps (I3 rs us):=by
      have hrt:Ad w' F3 m3 (encode (cellsOf rs) outs y).heap (encode (cellsOf rs) outs y).tmps (I3 rs us):=by
       refine DP (by rw[NA,q2]) fun i a u ha hu => ?_
       have:=invC.tmps i
       rw[AhK]at this
       have ha':(enc outs y (blank (cellsOf rs))).tmps[i]? = some a:=ha
       rw[ha',AhK,hu]at this
       exact this
      rcases hfl with⟨f1,f2,f3⟩|f1
      ·exact⟨F,.inl ⟨rfl,by rw[f1];rfl,f3⟩,Ad.flat _ f2 hrt⟩
      ·exact⟨F3,.inr ⟨rfl,by rw[f1]⟩,hrt⟩
     obtain⟨hgo,hmv⟩:=AZF (ids:=ids) (np:=np) hi gA (fun j id hj=>(start j id hj).2.elim fun _ h=>h.elim fun _ h=>h.2.2.2.2.2) hinj hpin hblk x1.os x1.tape x1.output x1.size hkeep (fun b h=>gC.1.sub b (x1.sub b h)) hbnd hiC1 (fun j o hj=>AGF invC hj) (fun j o hj=>Np hro hj) invC.frz hidl hok hnd hFR
     rw[hgv]at hgo hmv
     have hH:CN e H=A8 (ids.zip ((encode (cellsOf rs) outs y).heap.map (Da ids))) (C4 gv H):=by rw[CF he1,he2,WD];rfl
     have hZ:Fy e fz=Ah e.frz fz:=CQ he1 fz
     have hpost:a'.defers=[]∧∃ v,(results fn a'.tmps).run P w' = .ok v w'∧(fun(en:Ending) (w':World)=>∃ u,en = .returned u∧∃ F' m',Ao w F m H fz w' F' m' (CN e H) (Fy e fz)∧Rep w' F' m' (CN e H) (single (GF rs (Kt ids (encode (cellsOf rs) outs y).tmps))) u) (.returned v) w':=by
      refine⟨s1.defers,_,r1,_,rfl,FR,mOf ids m3 m,?_,?_⟩
      ·rw[hH,hZ];exact hgo
      ·rw[hH]
       exact AE7 (q3 _ _ _ _ _ (Ad.ren hmv _ hRR))
     rcases hex with rfl|rfl<;>exact hpost
end
end Go.Pev
end
section
namespace Go.Pev
open Go.RowKit
def Kz:Code→Nat→Option Code
 |.seq a b,n=>match Kz a n with
  |some c=>some c
  |none=>Kz b (n-loops a)
 |.cond _ a b,n=>match Kz a n with
  |some c=>some c
  |none=>Kz b (n-loops a)
 |.block _ c,n=>Kz c n
 |.loop c,n=>match n with
  |0=>some c
  |n+1=>Kz c n
 |_,_=>none
def AS(f:Func):Code:=match f.body with
 |some c=>c
 |none=>.skip
def AB(f:Func)(n:Nat):Code:=(Kz (AS f) n).getD .skip
def AD:Code→Nat→List (Nat×Code)
 |.seq a b,n=>AD a n++AD b (n+loops a)
 |.cond _ a b,n=>AD a n++AD b (n+loops a)
 |.block _ c,n=>AD c n
 |.loop c,n=>[(n,c)]
 |_,_=>[]
def AGX(P:Program)(np:Nat)(h:Hints):List (Nat×Code)→Prop
 |[]=>True
 |p::l=>Ab P np (.loop p.2) (h.loop p.1)∧AGX P np h l
theorem AGW{P:Program}{np:Nat}{h:Hints}:∀ {a b:List (Nat×Code)},AGX P np h (a++b)→AGX P np h a∧AGX P np h b:=by
 intro a
 induction a with
 |nil=>exact fun h=>⟨trivial,h⟩
 |cons p a ih=>intro b h;exact⟨⟨h.1,(ih h.2).1⟩,(ih h.2).2⟩
theorem APB{P:Program}{np:Nat}{h:Hints}:∀ (c:Code) (n:Nat),AGX P np h (AD c n)→DQ P np h c n:=by
 intro c
 induction c with
 |seq a b iha ihb=>intro n hl;have:=AGW hl;exact⟨iha n this.1,ihb _ this.2⟩
 |cond c a b iha ihb=>intro n hl;have:=AGW hl;exact⟨iha n this.1,ihb _ this.2⟩
 |block id c ih=>intro n hl;exact ih n hl
 |loop c ih=>intro n hl;exact hl.1
 |_=>intro n _;trivial
theorem AA{P:Program}{np:Nat}{h:Hints}{c:Code}{n:Nat}{l:List (Nat×Code)}(e:AD c n=l)(a:AGX P np h l):DQ P np h c n:=APB c n (by rw[e];exact a)
def Aa(P:Program)(E:Env):Prop:=(∀ g,AR P g (E.spec g))∧JE E
def Env.none:Env:={ spec:=fun _ _ _ _ _ _ _=>Option.none,loc:=fun _=>false,loc2:=fun _=>true }
theorem Env.AIc{P:Program}:Aa P Env.none:=⟨fun g R args H fz slot k r h=>by simp[Env.none]at h,fun g h=>by simp[Env.none]at h,fun g _ R args H H' fz fz' slot k S _ _ _=>rfl⟩
def Env.ext(E:Env)(g:FuncId)(loc loc2:Bool)(s:Spec):Env where
 spec x:=match Nat.beq x g with
  |true=>s
  |false=>E.spec x
 loc x:=match Nat.beq x g with
  |true=>loc
  |false=>E.loc x
 loc2 x:=match Nat.beq x g with
  |true=>loc2
  |false=>E.loc2 x
theorem Env.Af{P:Program}{E:Env}{g:FuncId}{loc loc2:Bool}{s:Spec}(h:Aa P E)(hs:AR P g s)(hl:loc=true→HS s)(hl2:loc2=true→N9 s):Aa P (E.ext g loc loc2 s):=by
 refine⟨?_,?_,?_⟩
 ·intro x
  simp only[Env.ext]
  cases hx:Nat.beq x g with
  |true=>have:=AiY hx;subst this;exact hs
  |false=>exact h.1 x
 ·intro x hx
  simp only[Env.ext]at hx ⊢
  cases hb:Nat.beq x g with
  |true=>rw[hb]at hx;exact hl hx
  |false=>rw[hb]at hx;exact h.2.1 x hx
 ·intro x hx
  simp only[Env.ext]at hx ⊢
  cases hb:Nat.beq x g with
  |true=>rw[hb]at hx;exact hl2 hx
  |false=>rw[hb]at hx;exact h.2.2 x hx
section
variable {P:Program} {E:Env} {h:Hints} {g:FuncId} {fn:Func}
theorem AJ4(hb:fn.body.isSome=true):fn.body=some (AS fn):=by
 unfold AS
 cases h:fn.body with
 |none=>rw[h]at hb;cases hb
 |some c=>rfl
theorem AH (hE : Aa P E) (hf : P.funcs[g]? = some fn) (hb : fn.body.isSome = true) (hn : (fn.name == "runtime.NumGoroutine") = false)
  {np na:Nat} (hna:(Nat.ble na fn.ntmps)=true) {its outs:AE} {rs:List RS} {f:B6 (leaves its)→Option (B6 (leaves outs))} (hfun:∀ x,f x=AP np P E h fn its outs rs x) (hl:DQ P np h (AS fn) 0) :
  AR P g (AF np na its outs rs f):=
 AXo hE.1 hE.2 hf (AJ4 hb) (NO hf hb hn) (Aju hna) hfun hl
theorem AdI (hE : Aa P E) (hf : P.funcs[g]? = some fn) (hb : fn.body.isSome = true) (hn : (fn.name == "runtime.NumGoroutine") = false)
  {np na:Nat} (hna:(Nat.ble na fn.ntmps)=true) {its:AE} {os:Au} {rs:List RS} {f:B6 (leaves its)→Option (OO os)} (hfun:∀ x,f x=ARP np P E h fn its os rs x) (hl:DQ P np h (AS fn) 0) :
  AR P g (ANL np na its os rs f):=by
 intro R args H fz slot k r hk
 simp only[ANL]at hk
 split at hk
 ·cases hk
 ·rename_i x bs fr hdec
  split at hk
  ·cases hk
  ·rename_i hchk
   split at hk
   ·cases hk
   ·rename_i y hy
    have pick:∀ (os':Au) (y':OO os') (R:Type) (k:AV→Eff→Option R) (r:R),GN R np bs fr rs slot H fz k os' y'=some r→∃ (o:Exit×AE) (d:B6 (leaves o.2)),Ht o.2=true ∧
      (∀ R' (k':AV→Eff→Option R'),GN R' np bs fr rs slot H fz k' os' y'=Jr R' (given (bs.drop np)) (bs.take np) fr rs (encode (cellsOf rs) o.2 d) (Ce (C1 o.2) (bs.take np) slot) H fz k') ∧
      ∀ st,HO np P fn rs st os'=some y'→finish np P fn o.2 rs st=some d:=by
     intro os'
     induction os' with
     |nil=>intro y' R k r h;simp[GN]at h
     |cons o os' ih=>
      intro y' R k r h
      cases y' with
      |inl d=>
       simp only[GN]at h
       split at h
       ·rename_i hno
        refine⟨o,d,hno,fun R' k'=>by simp only[GN,hno],fun st hst => ?_⟩
        simp only[HO]at hst
        split at hst
        ·rename_i d' hd'
         simp only[AhG,Sum.inl.injEq]at hst
         rw[hd',hst]
        ·split at hst<;>simp at hst
       ·cases h
      |inr y'=>
       simp only[GN]at h
       obtain⟨o',d,q1,q2,q3⟩:=ih y' R k r h
       refine⟨o',d,q1,fun R' k'=>by simp only[GN];exact q2 R' k',fun st hst => ?_⟩
       simp only[HO]at hst
       split at hst
       ·simp at hst
       ·split at hst
        ·rename_i x' hx'
         simp only[AhG,Sum.inr.injEq]at hst
         exact q3 st (by rw[hx',hst])
        ·cases hst
    obtain⟨o,d,hno,hback,hfin⟩:=pick os y R k r hk
    have hcall:AP np P E h fn its o.2 rs x=some d:=by
     rw[hfun x]at hy
     unfold ARP at hy
     unfold AP
     rw[AJ4 hb]at hy ⊢
     simp only at hy ⊢
     obtain⟨ex,st',g1,g2,_⟩:=Kv hE.1 hE.2 (AS fn) 0 hl _ _ _ _ hy
     refine(g2 _ _).trans ?_
     cases ex with
     |normal=>exact hfin st' g1
     |ret=>exact hfin st' g1
     |_=>simp at g1
    have hs:=AH hE hf hb hn hna (its:=its) (outs:=o.2) (rs:=rs) (f:=AP np P E h fn its o.2 rs) (fun _=>rfl) hl
    simp only[AhJ]at hchk
    have hsame:∀ R' (k':AV→Eff→Option R'),AF np na its o.2 rs (AP np P E h fn its o.2 rs) R' args H fz slot k'=GN R' np bs fr rs slot H fz k' os y:=by
     intro R' k'
     rw[hback R' k']
     simp only[AF,hdec,hchk.1.1.1,hchk.1.1.2,hchk.1.2,hchk.2,hno,Aiz,hcall]
    obtain⟨v,e,h1,h2,h3,h4⟩:=hs R args H fz slot k r (by rw[hsame];exact hk)
    refine⟨v,e,h1,fun R' k' => ?_,h3,h4⟩
    simp only[ANL,hdec,hchk.1.1.1,hchk.1.1.2,hchk.1.2,hchk.2,Aiz,hy]
    rw[← hsame R' k']
    exact h2 R' k'
theorem Cr (hE : Aa P E) (hf : P.funcs[g]? = some fn) (hb : fn.body.isSome = true) (hn : (fn.name == "runtime.NumGoroutine") = false) (hl : loops (AS fn) = 0) : AR P g (DF P E h fn) :=
 ANK hE.1 hE.2 hf (AJ4 hb) (NO hf hb hn) hl
theorem AU{h':Hints}(hE:Aa P E){np nt n:Nat}{body:Code}{its:AE}{os:Au}{stp:B6 (leaves its)→Option (B6 (leaves its)⊕OO os)}
  (hstep:∀ v,stp v=roundOf P E h' n np nt body its os v) (hl:DQ P np h' body n):Ab P np (.loop body) (Ac np nt its os stp):=AX8 hE.1 hE.2 hstep hl
def AF4:AE→Bool
 |[]=>true
 |(.tmp _,.dat _)::r=>AF4 r
 |_::_=>false
theorem AY0{H H':List Ob}{tm:List AV}(ha:∀ id∈BF tm,H[id]? = H'[id]?):∀ (its:AE) (fz fz':List Bool),AF4 its=true→dec tm H its fz []=dec tm H' its fz' []:=by
 intro its
 induction its with
 |nil=>intro fz fz' _;rfl
 |cons p r ih=>
  intro fz fz' hd
  obtain⟨l,c⟩:=p
  cases l<;>cases c<;>simp only[AF4]at hd<;>try (cases hd;done)
  rename_i t ty
  simp only[dec,look]
  cases hv:tm[t]? with
  |none=>rfl
  |some v=>
   have hsub:∀ id∈Am v,H[id]? = H'[id]? := fun id hid=>ha id (by
    clear ih hd ha
    induction tm generalizing t with
    |nil=>simp at hv
    |cons a tm iht=>
     cases t with
     |zero=>simp at hv;subst hv;simp[BF,hid]
     |succ t=>simp only[BF,AhL];exact .inr (iht t (by simpa using hv)))
   simp only
   rw[Ww ty v hsub]
   cases Wx H' ty v with
   |none=>rfl
   |some q=>
    obtain⟨x,f⟩:=q
    simp only
    have hfr:f.all (fresh? [])=true:=by simp[fresh?]
    rw[hfr]
    simp only
    rw[ih (Ah f fz) (Ah f fz') hd]
theorem AYQ:∀ (n slot:Nat),Ce n [] slot=List.range' slot n:=by
 intro n
 induction n with
 |zero=>intro slot;rfl
 |succ n ih=>intro slot;simp only[Ce,AkQ];rw[ih]
theorem Wm{H H':List Ob}{fz fz':List Bool}:∀ (ids:List Nat),(∀ i∈ids,At H fz i=At H' fz' i)→FO H fz ids []=FO H' fz' ids []:=by
 intro ids
 induction ids with
 |nil=>intro _;rfl
 |cons a ids ih=>
  intro h
  simp only[FO,List.tail_nil]
  rw[h a (by simp),ih fun i hi=>h i (by simp[hi])]
theorem ATT{H:List Ob}{tm:List AV}:∀ (its:AE) (fz:List Bool) (bs:List Bnd) (x:B6 (leaves its)) (bs':List Bnd) (fr:List Nat),AF4 its=true→dec tm H its fz bs=some (x,bs',fr)→bs'=bs:=by
 intro its
 induction its with
 |nil=>intro fz bs x bs' fr _ h;simp only[dec,AhG]at h;cases h;rfl
 |cons p r ih=>
  intro fz bs x bs' fr hd h
  obtain⟨l,c⟩:=p
  cases l<;>cases c<;>simp only[AF4]at hd<;>try (cases hd;done)
  simp only[dec]at h
  split at h
  ·split at h
   ·split at h
    ·split at h
     ·rename_i xs bs1 g hdd
      simp only[AhG]at h
      cases h
      exact ih _ _ _ _ _ hd hdd
     ·cases h
    ·cases h
   ·cases h
  ·cases h
theorem AL{np na:Nat}{its outs:AE}{rs:List RS}{f:B6 (leaves its)→Option (B6 (leaves outs))}(hd:AF4 its=true)(hn:Nat.ble (C1 outs) 4=true):HS (AF np na its outs rs f):=by
 intro R args H H' fz fz' slot k ha
 unfold AF
 rw[AY0 ha.heap its fz fz' hd]
 split
 ·rfl
 ·rename_i x bs fr hdec
  have hbs:=ATT its fz' [] x bs fr hd hdec
  subst hbs
  split
  ·rfl
  ·split
   ·rfl
   ·rename_i y hy
    simp only[List.take_nil,List.drop_nil]
    have hfree:∀ (g:List Nat) (i:Nat),i∈Ce (C1 outs) [] slot→At H (Ah g fz) i=At H' (Ah g fz') i:=by
     intro g i hi
     rw[AYQ,List.mem_range'_1]at hi
     have:=Aju hn
     exact Dz ha hi.1 (by omega) g
    unfold Jr
    rw[show FO H fz (Ce (C1 outs) [] slot) []=FO H' fz' (Ce (C1 outs) [] slot) []from Wm _ (hfree []),Wm _ (hfree fr)]
end
end Go.Pev
end
section
namespace Go.Pev
open Go.RowKit
def Lc{α:Type}(xs:List α):Option (List α):=match Oc (AJ xs)with
 |true=>some xs
 |false=>none
def Pt[Lk]{α:Type}(xs:List α):Option (List α):=Lk.f (Lc xs)
theorem AF5{α:Type}(xs:List α):Pt xs=Lc xs:=AG _
noncomputable def HP(e:TypeId)(t:Ty):Spec:=fun R args H fz slot k=>
 match args with
 |[x]=>match Ec H (.slice t) x with
  |some (xs,_)=>match(Pt xs:Option (List t.den))with
   |none=>none
   |some y=>(match At H fz slot with|true=>k (.own slot) { objs:=[(slot,.arr e t y)] }|false=>none)
  |none=>none
 |_=>none
def ABD:Code→Nat→List Oper
 |.region id ops _,n=>if id=n then ops.toList else []
 |.seq a b,n=>ABD a n++ABD b n
 |.cond _ a b,n=>ABD a n++ABD b n
 |.block _ c,n=>ABD c n
 |.loop c,n=>ABD c n
 |_,_=>[]
def Bc(fn:Func)(n i:Nat):Oper:=((ABD (AS fn) n)[i]?).getD default
structure ADi(P:Program)(fn:Func)(T e:TypeId)(t:Ty):Prop where
 body:fn.body=some (.seq (.region 0 #[Bc fn 0 0] false) (.seq (.seq (.region 1 #[Bc fn 1 0,Bc fn 1 1] false) (.cond (.tmp 4) (.seq (.region 2 #[Bc fn 2 0] false) .ret) .skip)) (.seq (.region 3 #[Bc fn 3 0,Bc fn 3 1,Bc fn 3 2,Bc fn 3 3] false) .ret)))
 nt:fn.ntmps=8
 res:fn.results = #[.tmp 2]
 d:(Bc fn 0 0).dst=some 2∧(Bc fn 1 0).dst=some 3∧(Bc fn 1 1).dst=some 4∧(Bc fn 2 0).dst=some 2∧(Bc fn 3 0).dst=some 5∧(Bc fn 3 1).dst=some 6∧(Bc fn 3 2).dst=some 7∧(Bc fn 3 3).dst=some 2
 g:(Bc fn 0 0).guard=none∧(Bc fn 1 0).guard=none∧(Bc fn 1 1).guard=none∧(Bc fn 2 0).guard=none∧(Bc fn 3 0).guard=none∧(Bc fn 3 1).guard=none∧(Bc fn 3 2).guard=none∧(Bc fn 3 3).guard=none
 o00:(Bc fn 0 0).op = .assign (.const (.slice none 0 0))
 o10:(Bc fn 1 0).op = .move (.tmp 0)
 o11:(Bc fn 1 1).op = .binOp .eql T (.tmp 3) (.const (.slice none 0 0)) T
 o20:(Bc fn 2 0).op = .assign (.const (.slice none 0 0))
 o30:(Bc fn 3 0).op = .buildSlice T 0 #[]
 o31:(Bc fn 3 1).op = .move (.tmp 0)
 o32:(Bc fn 3 2).op = .call { callee:=.builtin .append,args:=#[.tmp 5,.tmp 6],argTypes:=#[T,T] }
 o33:(Bc fn 3 3).op = .assign (.tmp 7)
 sl:sliceAt P T=some (e,t)
 z:(zeroAt P e).isSome=true
 by1:(P.info? e).map (fun i=>decide (i.bytes≤1024))=some true
section
variable {P:Program} {g:FuncId}
theorem GW{ops:Array Oper}{Q:Exit→Act→World→Prop}{i:Nat}{rest:List Nat}{a:Act}{w:World}{o:Oper}(ho:ops[i]? = some o)(hg:o.guard=none)(h:o.wp P a w (wpOps P ops Q rest) Q):wpOps P ops Q (i::rest) a w:=by
 simp only[wpOps,ho]
 rw[AhX (by simp[Region.wanted,hg])]
 exact .inl h
theorem GX{o:Oper}{a:Act}{w w':World}{next:Act→World→Prop}{Q:Exit→Act→World→Prop}{u:Value}(h:(execOp a.eval o).run P w = .ok (.value u) w')(hn:next (a.put o.dst u) w'):o.wp P a w next Q:=by
 unfold Oper.wp;rw[h];exact hn
variable {fn:Func} {T e:TypeId} {t:Ty}
theorem AFz{P:Program}{w:World}{ρ:Operand→Value}{o:Oper}{x:Operand}(h:o.op = .move x):(execOp ρ o).run P w = .ok (.value (ρ x)) w:=by simp[execOp,h]
theorem M8{P:Program}{w:World}{ρ:Operand→Value}{o:Oper}{x:Operand}(h:o.op = .assign x):(execOp ρ o).run P w = .ok (.value (ρ x)) w:=by simp[execOp,h]
theorem Ac5 (hs : ADi P fn T e t) (hf : P.funcs[g]? = some fn) (hn : (fn.name == "runtime.NumGoroutine") = false) : AR P g (HP e t) := by
 intro R args H fz slot k r hk
 unfold HP at hk
 split at hk
 ·rename_i x
  split at hk
  ·rename_i xs fr hx
   split at hk
   ·cases hk
   ·rename_i y hy
    split at hk
    ·rename_i hfree
     refine⟨_,_,hk,fun R' k'=>by simp only[HP,hx,hy,hfree],NO hf (by rw[hs.body];rfl) hn,fun w F m vals hi hr => ?_⟩
     rw[AF5]at hy
     unfold Lc at hy
     split at hy
     ·rename_i hfit
      simp only[AhG]at hy;subst hy
      have hr0:=hr
      unfold Ad at hr
      obtain⟨v,vs',rfl,hrv,hnil⟩:=hr
      unfold Ad at hnil;subst hnil
      obtain⟨hu,hty0,hpos⟩:=Br hs.sl
      obtain⟨zz,hzz⟩:=Aih.1 hs.z
      obtain⟨t',cs'⟩:=zz
      obtain⟨hty',hcs',i,z,hi0,hz0,hok,hsz,hza⟩:=Bm hzz
      subst hcs'
      have:t'=t:=by rw[hty0]at hty';exact(AiL hty').symm
      subst this
      have hzs:z.cells.size=i.size:=by
       have hzd:=Bb (w:=default) (F:=fun _=>False) t' _ hok
       rw[hsz,← AhY];exact Dat.length t' hzd
      have hby':i.bytes≤1024:=by simpa [hi0]using hs.by1
      obtain⟨A,c,rfl,q2,q3,news,q4,q5⟩:=Dj hi hx hrv
      have hfit':xs.length≤4294967296:=by
       have:(xs.length:Int)≤4294967296:=(T5 _).1 hfit
       omega
      refine calls_of_wp hf hs.body ?_
      obtain⟨d0,d1,d2,d3,d4,d5,d6,d7⟩:=hs.d
      obtain⟨g0,g1,g2,g3,g4,g5,g6,g7⟩:=hs.g
      have hres:∀ (tm:Array Value) (w0:World),(results fn tm).run P w0 = .ok (tm.getD 2 undef) w0:=fun tm w0=>by simp[results,hs.res]
      refine wp_seq (wp_region ?_)
      simp only[Ail,AhO,Ahi,Aif,List.range_zero,Ahr]
      refine GW (by rfl) g0 (GX (M8 hs.o00) ?_)
      refine wp_seq (wp_seq (wp_region ?_))
      simp only[Ail,AhO,Ahi,Aif,List.range_zero,Ahr,Ahl]
      refine GW (by rfl) g1 (GX (AFz hs.o10) ?_)
      refine GW (by rfl) g2 (GX (u:=.bool A.isNone) (w':=w) (by simp[execOp,hs.o11,Act.eval,Act.put,d0,d1,hs.nt,eqGuard,Lib.run_eql_slice_nil _ _ _ _ _ _ _ _ hu]) ?_)
      cases A with
      |none=>
       have hxs:xs=[]:=by
        cases xs with
        |nil=>rfl
        |cons a b=>exact absurd (q3 (by simp)) (by simp)
       subst hxs
       refine wp_cond_true (by simp[Act.eval,Act.put,d0,d1,d2,hs.nt]) ?_
       refine wp_seq (wp_region ?_)
       simp only[Ail,AhO,Ahi,Aif,List.range_zero,Ahr]
       refine GW (by rfl) g3 (GX (M8 hs.o20) ?_)
       refine wp_ret ?_
       refine⟨by simp[Act.put,d0,d1,d2,d3],_,hres _ _,?_⟩
       obtain⟨m',hg,hrep⟩:=De (w:=w) hi hfree e hpos none
       refine⟨_,rfl,F,m',hg,?_⟩
       show Rep _ _ _ (H.set slot _) _ _
       simpa [Act.put,Act.eval,d0,d1,d2,d3,hs.nt]using hrep
      |some ad=>
       refine wp_cond_false (by simp[Act.eval,Act.put,d0,d1,d2,hs.nt]) ?_
       refine wp_skip ?_
       refine wp_seq (wp_region ?_)
       simp only[Ail,AhO,Ahi,Aif,List.range_zero,Ahr,Ahl]
       refine GW (by rfl) g4 (GX (u:=.slice (some ⟨w.heap.size,0,none⟩) 0 0) (w':=w.alloc (.cells #[] e)) (by
        have:=Hj (P:=P) (w:=w) (len:=0) (parts:=#[]) (us:=#[]) hu hi0 hz0 hsz (by omega) (by simp[Instr.fill])
        simp[execOp,hs.o30,this]) ?_)
       refine GW (by rfl) g5 (GX (AFz hs.o31) ?_)
       have hga:=Ao.grow (w':=w.alloc (.cells #[] e)) hi rfl rfl rfl (by simp) (fun b hb=>Below.heap_alloc w _ b hb)
       obtain⟨v,w',m',hrun,hg,hrep⟩:=FJ (P:=P) (T:=T) (ty:=(Bc fn 3 2).type) hga.2 hfree hu hi0 hz0 hzs hsz hpos hby' hfit' (some ⟨w.heap.size,0,none⟩) (A:=some ad) (c:=c) (ys:=xs) (news:=news) (fun _=>rfl)
        (BK (fun x _ cs hx=>hx.mono (fun a ha=>by simp[World.cell?,Below.heap_alloc w _ _ (hi.lt _ ha)]) (fun _ h=>h) t') q4) (fun ad' h j u hu'=>by
         have:=q5 ad' h j u hu'
         exact Lib.cell?_alloc_some _ this)
       refine GW (by rfl) g6 (GX (u:=v) (w':=w') (by
        simp[execOp,hs.o32,resolve,invoke,builtin,Act.eval,Act.put,d0,d1,d2,d4,d5,hs.nt,hrun]) ?_)
       refine GW (by rfl) g7 (GX (M8 hs.o33) ?_)
       refine wp_ret ?_
       refine⟨by simp[Act.put,d0,d1,d2,d4,d5,d6,d7],_,hres _ _,?_⟩
       refine⟨_,rfl,F,m',hga.trans hg,?_⟩
       show Rep _ _ _ (H.set slot _) _ _
       simpa [Act.put,Act.eval,d0,d1,d2,d4,d5,d6,d7,hs.nt]using hrep
     ·cases hy
    ·cases hk
  ·cases hk
 ·cases hk
theorem L5(e:TypeId)(t:Ty):HS (HP e t):=by
 intro R args H H' fz fz' slot k ha
 unfold HP
 cases args with
 |nil=>rfl
 |cons x r=>cases r with
  |cons y r=>rfl
  |nil=>
   simp only
   rw[Bq (.slice t) x fun id hid=>ha.heap id (by simpa [BF]using hid)]
   have:=Dz ha (s:=slot) (AhQ _) (by omega) []
   simp only[Ah]at this
   rw[this]
end
end Go.Pev
end
section
namespace Go.Pev
noncomputable section
attribute [local irreducible] Oc LS PZ OQ AcE AcF AcG S0 Z7 XO ADv Lc AX many IntKind.wrap AJ BA AY A4 Bn DR ED AK Bl Cm imax AN Ae
abbrev U0:Ty:=(.int .i64)
abbrev U1:=(Int×Int×Unit)
abbrev U2:Ty:=(.prod U0 (.prod U0 .unit))
abbrev U3:=(List Int)
abbrev U4:Ty:=(.slice U0)
abbrev U5:Ty:=(.slice (.prod U0 (.prod U0 (.prod U0 (.prod .bool .unit)))))
abbrev U6:=(Int×Int×Int×Bool×Unit)
abbrev U7:=(List U3×Int×Int×Int×Unit)
abbrev U8:=(List U1×Int×Int×Int×Unit)
abbrev U9:=(Int×Unit)
abbrev Ua:=(Int×(List U1))
abbrev Ub:=(Int×Int)
abbrev Uc:=(List U3×Int×Int×Unit)
abbrev Ud:=(List U1×Int×Int×Unit)
abbrev Ue:=(Bool×Unit)
abbrev Uf:Ty:=(.slice U4)
abbrev Ug:=(List U3×Int×Int×Int×Int×Unit)
abbrev Uh:=(List U1×Int×Int×Int×Int×Unit)
abbrev Ui:=(Int×(List U3)×Unit)
abbrev Uj:Ty:=(.slice U2)
abbrev Uk:=(List U1×Unit)
abbrev Ul:=(List U3×Unit)
abbrev Um:=(List Int×Unit)
abbrev Un:=(Int×(List U6)×Unit)
abbrev Uo:Ty:=(.prod U0 (.prod U5 .unit))
abbrev Up:=(List Int×Int×Int×Unit)
abbrev Uq:Ty:=(.prod U0 (.prod Uf .unit))
abbrev Ur:=(List U3×Int×Int×Int×Int×Int×Unit)
abbrev Us:=(List U1×Int×Int×Int×Int×Int×Unit)
abbrev Ut:=(Int×List U3×List Bool×Int×Int×Int×List Int×Int×List Int×Int×Bool×Int×List Int×Bool×Bool×List Int×List Int×List U3×List Int×List U3×Bool×Bool×List Int×Int×Int×Bool×Unit)
abbrev Uu:=(Int×List U3×List Ub×Int×List U3×Int×Int×List Int×Int×Int×Bool×List Int×Bool×Bool×List Int×Int×List Int×Int×Bool×Int×List Int×Bool×Bool×List Int×Int×Int×Unit)
abbrev Uv:=(Int×List Int×Int×List Int×Int×Bool×Bool×Bool×Bool×Int×Int×Bool×Int×Int×Int×Int×Int×Bool×Int×Int×Int×Int×Int×Int×Int×Int×Int×Bool×Unit)
abbrev Uw:=(List Int×Int×List Int×List Ub×List Ua×Int×Int×Unit)
abbrev Ux:=(List U1×Int×List Int×List Ub×List Ua×Int×Int×Unit)
abbrev Uy:=(Int×List Int×List Ub×List Ua×Int×Unit)
abbrev Uz:=(List Int×Int×Unit)
abbrev V0:=(Int×List Int×List Ub×List Ua×List (U1×Int)×List U1×List Int×Int×Int×Unit)
abbrev V1:=(List Int×Int×List Int×List Ub×List Ua×Int×Unit)
abbrev V2:=(List U1×Int×List Int×List Ub×List Ua×Int×Unit)
abbrev V3:Ty:=(.prod U4 (.prod U4 (.prod Uf .unit)))
abbrev V4:=(Int×List U3×Int×Unit)
abbrev V5:=(List Int×Int×List Int×List Int×List U3×List Int×Int×Int×Unit)
abbrev V6:=(List U1×Int×List Int×List Ub×List Ua×Unit)
abbrev V7:=(List Int×List Int×List Int×Int×Int×Unit)
abbrev V8:=(Int×List U6×List U1×Int×Unit)
abbrev V9:=(List U3×Int×Unit)
abbrev Va:=(Int×Int×List Int×List Ub×List Ua×Int×Int×Int×Bool×List U6×Int×Int×Int×Int×Bool×List Int×Int×Unit)
abbrev Vb:=(U3×U3×(List U3)×Unit)
abbrev Vc:=(List Int×List Int×Unit)
abbrev Vd:=(Int×List Int×List Ub×List Ua×List (U1×Int)×List U1×List Int×Int×Int×List U1×Int×Int×Unit)
abbrev Ve:=(Un×Int×Int×Unit)
abbrev Vf:=(Ui×Int×Unit)
abbrev Vg:=(List Int×List Int×List U3×Int×List Int×List Ub×List Ua×List Bool×List Int×Int×Int×Unit)
abbrev Vh:=(Int×List Int×List U3×List U3×Int×Int×Unit)
abbrev Vi:=(List Int×Int×List Int×List Ub×List Ua×Unit)
abbrev Vj:=(Int×List U6×Int×Int×Unit)
abbrev Vk:=(List Int×Int×List Int×List Int×List U3×List Int×Int×Int×Int×Int×Int×Unit)
abbrev Vl:=(Int×Int×List U6×Int×List Int×List Ub×List Ua×List Int×Int×Int×Unit)
abbrev Vm:=(Bool×Int×Int×Int×Int×Int×List Int×List Ub×List Ua×List Int×Unit)
abbrev Vn:=(Int×List Int×Unit)
abbrev ABc:AE:=[(.tmp 0,.dat U4),(.tmp 1,.dat U4)]
abbrev ABb:AE:=[(.tmp 0,.dat .bool)]
abbrev ABa:List RS:=[.one]
abbrev AFo:AE:=[(.tmp 0,.dat U4),(.tmp 1,.dat U4),(.tmp 5,.di)]
abbrev AFn:Au:=[(.ret,[(.tmp 4,.dat .bool)]),(.exit 0,[])]
def Es[Lk]:(List Int×List Int×Int×Unit)→Option ((List Int×List Int×Int×Unit)⊕Ue⊕(Unit)⊕Unit):=fun(a0,a1,a2,_)=>
 match(ilt a2 (AJ a0))with
 |true=>match idx a0 a2 with|none=>none|some x0=>match idx a1 a2 with|none=>none|some x1=>match(!(ieq x0 x1))with
  |true=>some (.inr (.inl (false,())))
  |false=>some (.inl (a0,a1,(IntKind.wrap .i64 (a2+1)),()))
 |false=>some (.inr (.inr (.inl ())))
def Qs[Lk]:Vc→Option (Ue):=fun(a0,a1,_)=>
 match(!(ieq (AJ a0) (AJ a1)))with
 |true=>some (false,())
 |false=>match AW Es many (a0,a1,0,())with|none=>none|some r=>match r with
 |.inl (o0,_)=>some (o0,())
 |.inr r=>match r with
 |.inl _=>some (true,())
 |.inr _=>none
def LG[Lk]:=fun v=>Lk.f (Qs v)
theorem AFp v:LG v=Qs v:=AG _
abbrev Yt:AE:=[(.tmp 0,.di)]
abbrev Ys:AE:=[(.tmp 0,.dat .bool)]
abbrev Yr:List RS:=[.one]
def QJ[Lk]:U9→Option (Ue):=fun(a0,_)=>
 match(ile 1 a0)with
 |true=>some ((ile a0 64),())
 |false=>some (false,())
def MM[Lk]:=fun v=>Lk.f (QJ v)
theorem AEr v:MM v=QJ v:=AG _
abbrev AZ9:AE:=[(.tmp 0,.di),(.tmp 1,.di)]
abbrev AZ8:AE:=[(.tmp 0,.dat .bool)]
abbrev AZ7:List RS:=[.one]
def AUI[Lk]:U1→Option (Ue):=fun(a0,a1,_)=>
 match MM (a0,())with|none=>none|some (y0,_)=>match y0 with
 |true=>match(ile 0 a1)with
  |true=>some ((ilt a1 a0),())
  |false=>some (false,())
 |false=>some (false,())
def tin[Lk]:=fun v=>Lk.f (AUI v)
theorem AaA v:tin v=AUI v:=AG _
abbrev APs:AE:=[(.tmp 0,.di),(.tmp 1,.di),(.tmp 2,.di)]
abbrev APr:AE:=[(.tmp 0,.di)]
abbrev APq:List RS:=[.one]
def AHD[Lk]:(Int×Int×Int×Unit)→Option (U9):=fun(a0,a1,a2,_)=>
 match(ieq a1 a2)with
 |true=>some ((-1:Int),())
 |false=>match tin (a0,a1,())with|none=>none|some (y0,_)=>match(!y0)with
 |true=>some ((-1:Int),())
 |false=>match tin (a0,a2,())with|none=>none|some (y1,_)=>match(!y1)with
 |true=>some ((-1:Int),())
 |false=>some ((IntKind.wrap .i64 ((IntKind.wrap .i64 (a0*(IntKind.wrap .i64 (a1+1))))+a2)),())
def AWP[Lk]:=fun v=>Lk.f (AHD v)
theorem AUJ v:AWP v=AHD v:=AG _
abbrev Yp:AE:=[(.tmp 0,.di),(.tmp 1,.di)]
abbrev Yo:AE:=[(.tmp 0,.di),(.tmp 1,.di),(.tmp 2,.dat .bool),(.tmp 3,.dat .bool)]
abbrev Yn:List RS:=[.one,.one,.one,.one]
def QI[Lk]:U1→Option ((Int×Int×Bool×Bool×Unit)):=fun(a0,a1,_)=>
 match MM (a0,())with|none=>none|some (y0,_)=>match(!y0)with
 |true=>some (0,0,false,false,())
 |false=>match(ilt a1 0)with
 |true=>some (0,0,false,false,())
 |false=>match(ile (IntKind.wrap .i64 (a0*(IntKind.wrap .i64 (a0+1)))) a1)with
 |true=>some (0,0,false,false,())
 |false=>match(ilt a1 a0)with
 |true=>some (a1,0,false,true,())
 |false=>match quo? .i64 a1 a0 with|none=>none|some x1=>match rem? a1 a0 with|none=>none|some x2=>match(ieq (IntKind.wrap .i64 (x1-1)) x2)with
 |true=>some (0,0,false,false,())
 |false=>some ((IntKind.wrap .i64 (x1-1)),x2,true,true,())
def Yq[Lk]:=fun v=>Lk.f (QI v)
theorem AEq v:Yq v=QI v:=AG _
abbrev AG7:AE:=[(.tmp 0,.di)]
abbrev AG6:AE:=[(.tmp 0,.di),(.tmp 1,.own 43 U4),(.tmp 2,.di)]
abbrev AG5:List RS:=[.agg 2,.one]
abbrev AK7:AE:=[(.tmp 2,.box 2),(.cell 0 0,.di),(.cell 0 1,.nil U4),(.tmp 4,.box 2),(.cell 1 0,.di),(.cell 1 1,.own 43 U4),(.tmp 12,.di),(.tmp 13,.di)]
abbrev AK6:Au:=[(.exit 0,[(.tmp 2,.box 2),(.cell 0 0,.di),(.cell 0 1,.nil U4),(.tmp 4,.box 2),(.cell 1 0,.di),(.cell 1 1,.own 43 U4)])]
def Hc[Lk]:(Int×Int×List U3×Int×Int×Unit)→Option ((Int×Int×List U3×Int×Int×Unit)⊕(Int×Int×List U3×Unit)⊕Unit):=fun(a0,a1,a2,a3,a4,_)=>
 match(ilt a4 a3)with
 |true=>match(fits ((AJ a2)+(AJ ([([a4]:List (Int))]:List U3))))with
  |true=>some (.inl (a0,a1,(A4 a2 ([([a4]:List (Int))]:List U3)),a3,(IntKind.wrap .i64 (a4+1)),()))
  |false=>none
 |false=>some (.inr (.inl (a0,a1,a2,())))
def X4[Lk]:U9→Option (V4):=fun(a0,_)=>
 match MM (a0,())with|none=>none|some (y0,_)=>match(!y0)with
 |true=>some (0,([]:List U3),1,())
 |false=>match AW Hc many (0,a0,([]:List U3),a0,0,())with|none=>none|some r=>match r with
 |.inl (o1,o2,o3,_)=>some (o2,o3,0,())
 |.inr _=>none
def AK9[Lk]:=fun v=>Lk.f (X4 v)
theorem AK8 v:AK9 v=X4 v:=AG _
abbrev ABj:AE:=[(.tmp 0,.dat U4),(.tmp 1,.di)]
abbrev ABi:AE:=[(.tmp 0,.di)]
abbrev ABh:List RS:=[.one]
abbrev AFs:AE:=[(.tmp 0,.dat U4),(.tmp 1,.di),(.tmp 7,.di),(.tmp 8,.di)]
abbrev AFr:Au:=[(.ret,[(.tmp 4,.di)]),(.exit 0,[])]
def Fg[Lk]:(List Int×Int×Int×Int×Unit)→Option ((List Int×Int×Int×Int×Unit)⊕U9⊕(Unit)⊕Unit):=fun(a0,a1,a2,a3,_)=>
 match(ilt a3 a2)with
 |true=>match idx a0 a3 with|none=>none|some x0=>match(ieq a1 x0)with
  |true=>some (.inr (.inl (a3,())))
  |false=>some (.inl (a0,a1,a2,(IntKind.wrap .i64 (a3+1)),()))
 |false=>some (.inr (.inr (.inl ())))
def Qu[Lk]:Uz→Option (U9):=fun(a0,a1,_)=>
 match AW Fg many (a0,a1,(AJ a0),0,())with|none=>none|some r=>match r with
 |.inl (o0,_)=>some (o0,())
 |.inr r=>match r with
 |.inl _=>some ((-1:Int),())
 |.inr _=>none
def PY[Lk]:=fun v=>Lk.f (Qu v)
theorem AFt v:PY v=Qu v:=AG _
abbrev NI:AE:=[(.tmp 0,.dat U4),(.tmp 1,.di)]
abbrev NH:AE:=[(.tmp 0,.dat .bool)]
abbrev NG:List RS:=[.one]
def I9[Lk]:Uz→Option (Ue):=fun(a0,a1,_)=>
 match PY (a0,a1,())with|none=>none|some (y0,_)=>some ((ile 0 y0),())
def Ft[Lk]:=fun v=>Lk.f (I9 v)
theorem RN v:Ft v=I9 v:=AG _
abbrev ASC:AE:=[(.tmp 0,.dat U4)]
abbrev ASB:AE:=[(.tmp 0,.di)]
abbrev ASA:List RS:=[.one]
abbrev AU8:AE:=[(.tmp 0,.dat U4),(.tmp 3,.di),(.tmp 4,.di)]
abbrev AU7:Au:=[(.exit 0,[(.tmp 3,.di)])]
def K7[Lk]:Up→Option (Up⊕U9⊕Unit):=fun(a0,a1,a2,_)=>
 match(ilt a2 (AJ a0))with
 |true=>match idx a0 a2 with|none=>none|some x0=>some (.inl (a0,(Cm a1 x0),(IntKind.wrap .i64 (a2+1)),()))
 |false=>some (.inr (.inl (a1,())))
def AIf[Lk]:Um→Option (U9):=fun(a0,_)=>
 match(ilt (AJ a0) 1)with
 |true=>none
 |false=>match idx a0 0 with|none=>none|some x0=>match AW K7 many (a0,x0,1,())with|none=>none|some r=>match r with
 |.inl (o1,_)=>some (o1,())
 |.inr _=>none
def AXr[Lk]:=fun v=>Lk.f (AIf v)
theorem AU9 v:AXr v=AIf v:=AG _
abbrev AJM:AE:=[(.tmp 0,.nil U0),(.tmp 1,.di)]
abbrev AJL:AE:=[(.tmp 0,.own 3 U0)]
abbrev AJK:List RS:=[.one]
def YG[Lk]:U9→Option (Um):=fun(a0,_)=>
 match(ilt a0 0)with
 |true=>none
 |false=>match(ilt 0 (IntKind.wrap .i64 (a0-(IntKind.wrap .i64 (0-0)))))with
 |true=>match CM ([]:List Unit) 0 0 with|none=>none|some _u0=>match(FP (IntKind.wrap .i64 (a0-(IntKind.wrap .i64 (0-0)))))with
  |true=>match CM (ED (AK (IntKind.wrap .i64 (a0-(IntKind.wrap .i64 ((0:Int)-(0:Int)))))) (0:Int)) (0:Int) (0:Int)with|none=>none|some x1=>some ((Bn (AK (AJ x1)) (ED (AK (IntKind.wrap .i64 (a0-(IntKind.wrap .i64 ((0:Int)-(0:Int)))))) (0:Int))),())
  |false=>none
 |false=>some (([]:List (Int)),())
def AN5[Lk]:=fun v=>Lk.f (YG v)
theorem AN4 v:AN5 v=YG v:=AG _
abbrev US:AE:=[(.tmp 0,.dat Uf)]
abbrev UR:AE:=[(.tmp 0,.own 3 U0)]
abbrev UQ:List RS:=[.one]
abbrev ACi:AE:=[(.tmp 6,.own 3 U0),(.tmp 25,.dat Uf),(.tmp 26,.di),(.tmp 27,.di)]
abbrev ACg:Au:=[(.exit 2,[(.tmp 6,.own 3 U0)])]
def EY[Lk]:(List Int×List U3×Int×Int×Unit)→Option ((List Int×List U3×Int×Int×Unit)⊕Um⊕Unit):=fun(a0,a1,a2,a3,_)=>
 match(ilt a3 a2)with
 |true=>match idx a1 a3 with|none=>none|some x0=>match(fits ((AJ a0)+(AJ x0)))with
  |true=>some (.inl ((A4 a0 x0),a1,a2,(IntKind.wrap .i64 (a3+1)),()))
  |false=>none
 |false=>some (.inr (.inl (a0,())))
abbrev ACj:AE:=[(.tmp 0,.dat Uf),(.tmp 3,.di),(.tmp 9,.dat Uf),(.tmp 10,.di),(.tmp 11,.di)]
abbrev ACh:Au:=[(.exit 0,[(.tmp 0,.dat Uf),(.tmp 3,.di)])]
def EZ[Lk]:(List U3×Int×List U3×Int×Int×Unit)→Option ((List U3×Int×List U3×Int×Int×Unit)⊕V9⊕Unit):=fun(a0,a1,a2,a3,a4,_)=>
 match(ilt a4 a3)with
 |true=>match idx a2 a4 with|none=>none|some x0=>match(ilt (IntKind.wrap .i64 (a1+(AJ x0))) 0)with
  |true=>none
  |false=>some (.inl (a0,(IntKind.wrap .i64 (a1+(AJ x0))),a2,a3,(IntKind.wrap .i64 (a4+1)),()))
 |false=>some (.inr (.inl (a0,a1,())))
def N3[Lk]:Ul→Option (Um):=fun(a0,_)=>
 match AW EZ many (a0,0,a0,(AJ a0),0,())with|none=>none|some r=>match r with
 |.inl (o0,o1,_)=>match AN5 (o1,())with|none=>none|some (y2,_)=>match AW EY many (y2,o0,(AJ o0),0,())with|none=>none|some r=>match r with
  |.inl (o3,_)=>some (o3,())
  |.inr _=>none
 |.inr _=>none
def JA[Lk]:=fun v=>Lk.f (N3 v)
theorem ACk v:JA v=N3 v:=AG _
abbrev H6:AE:=[(.tmp 0,.dat U4),(.tmp 1,.clo 96 [])]
abbrev H5:AE:=[(.tmp 0,.di)]
abbrev H4:List RS:=[.one]
abbrev L0:AE:=[(.tmp 0,.dat U4),(.tmp 1,.clo 96 []),(.tmp 7,.di),(.tmp 8,.di)]
abbrev Lz:Au:=[(.ret,[(.tmp 4,.di)]),(.exit 0,[])]
def B5[Lk]:Up→Option (Up⊕U9⊕(Unit)⊕Unit):=fun(a0,a1,a2,_)=>
 match(ilt a2 a1)with
 |true=>match idx a0 a2 with|none=>none|some x0=>match(ilt x0 0)with
  |true=>some (.inr (.inl (a2,())))
  |false=>match(ilt 10000 x0)with
  |true=>some (.inr (.inl (a2,())))
  |false=>some (.inl (a0,a1,(IntKind.wrap .i64 (a2+1)),()))
 |false=>some (.inr (.inr (.inl ())))
def E7[Lk]:Um→Option (U9):=fun(a0,_)=>
 match AW B5 many (a0,(AJ a0),0,())with|none=>none|some r=>match r with
 |.inl (o0,_)=>some (o0,())
 |.inr r=>match r with
 |.inl _=>some ((-1:Int),())
 |.inr _=>none
def G5[Lk]:=fun v=>Lk.f (E7 v)
theorem L3 v:G5 v=E7 v:=AG _
abbrev Gp:AE:=[(.tmp 0,.dat U4),(.tmp 1,.clo 96 [])]
abbrev Gn:AE:=[(.tmp 0,.dat .bool)]
abbrev Gm:List RS:=[.one]
def EJ[Lk]:Um→Option (Ue):=fun(a0,_)=>
 match G5 (a0,())with|none=>none|some (y0,_)=>some ((ile 0 y0),())
def EE[Lk]:=fun v=>Lk.f (EJ v)
theorem KS v:EE v=EJ v:=AG _
abbrev ARw:AE:=[(.tmp 0,.dat U4)]
abbrev ARv:AE:=[(.tmp 0,.dat .bool)]
abbrev ARu:List RS:=[.one]
abbrev AU1:AE:=[(.tmp 0,.dat U4),(.tmp 3,.map U0 U0),(.tmp 7,.dat U4),(.tmp 8,.di),(.tmp 9,.di)]
abbrev AU0:Au:=[(.exit 0,[(.tmp 0,.dat U4),(.tmp 3,.map U0 U0)])]
def Ky[Lk]:(List Int×List Ub×List Int×Int×Int×Unit)→Option ((List Int×List Ub×List Int×Int×Int×Unit)⊕(List Int×List Ub×Unit)⊕Unit):=fun(a0,a1,a2,a3,a4,_)=>
 match(ilt a4 a3)with
 |true=>match idx a2 a4 with|none=>none|some x0=>some (.inl (a0,(Ae a1 x0 (IntKind.wrap .i64 (((AN a1 x0).getD 0)+1))),a2,a3,(IntKind.wrap .i64 (a4+1)),()))
 |false=>some (.inr (.inl (a0,a1,())))
def AIZ[Lk]:Um→Option (Ue):=fun(a0,_)=>
 match AW Ky many (a0,([]:List Ub),a0,(AJ a0),0,())with|none=>none|some r=>match r with
 |.inl (o0,o1,_)=>some ((ieq (AJ o1) (AJ o0)),())
 |.inr _=>none
def once[Lk]:=fun v=>Lk.f (AIZ v)
theorem AU2 v:once v=AIZ v:=AG _
abbrev Zu:AE:=[(.tmp 0,.dat U4)]
abbrev Zt:AE:=[(.tmp 0,.dat .bool)]
abbrev Zs:List RS:=[.one]
def QR[Lk]:Um→Option (Ue):=fun(a0,_)=>
 match(ilt 1000 (AJ a0))with
 |true=>some (false,())
 |false=>match EE (a0,())with|none=>none|some (y0,_)=>match(!y0)with
 |true=>match once (a0,())with|none=>none|some (y1,_)=>some (y1,())
 |false=>some (false,())
def MY[Lk]:=fun v=>Lk.f (QR v)
theorem AFI v:MY v=QR v:=AG _
abbrev Ym:AE:=[(.tmp 0,.dat U4),(.tmp 1,.di)]
abbrev Yl:AE:=[(.tmp 0,.own 3 U0)]
abbrev Yk:List RS:=[.one]
def QH[Lk]:Uz→Option (Um):=fun(a0,a1,_)=>
 match CM a0 a1 (AJ a0)with|none=>none|some x0=>match CM a0 0 a1 with|none=>none|some x1=>match JA (([x0,x1]:List U3),())with|none=>none|some (y2,_)=>some (y2,())
def SU[Lk]:=fun v=>Lk.f (QH v)
theorem AEp v:SU v=QH v:=AG _
abbrev AAI:AE:=[(.tmp 0,.dat U4),(.tmp 1,.dat U4)]
abbrev AAH:AE:=[(.tmp 0,.own 3 U0),(.tmp 1,.dat .bool)]
abbrev AAG:List RS:=[.one,.one]
abbrev AFS:AE:=[(.tmp 0,.dat U4),(.tmp 6,.own 3 U0),(.tmp 12,.dat U4),(.tmp 13,.di),(.tmp 14,.di)]
abbrev AFR:Au:=[(.exit 0,[(.tmp 6,.own 3 U0)])]
def Ej[Lk]:V7→Option (V7⊕Um⊕Unit):=fun(a0,a1,a2,a3,a4,_)=>
 match(ilt a4 a3)with
 |true=>match idx a2 a4 with|none=>none|some x0=>match PY (a0,x0,())with|none=>none|some (y1,_)=>match(fits ((AJ a1)+(AJ ([y1]:List (Int)))))with
  |true=>some (.inl (a0,(A4 a1 ([y1]:List (Int))),a2,a3,(IntKind.wrap .i64 (a4+1)),()))
  |false=>none
 |false=>some (.inr (.inl (a1,())))
def Qe[Lk]:Vc→Option ((List Int×Bool×Unit)):=fun(a0,a1,_)=>
 match MY (a0,())with|none=>none|some (y0,_)=>match(!y0)with
 |true=>some (([]:List (Int)),false,())
 |false=>match AW Ej many (a0,([]:List (Int)),a1,(AJ a1),0,())with|none=>none|some r=>match r with
 |.inl (o1,_)=>match Ft (o1,(-1:Int),())with|none=>none|some (y2,_)=>some (o1,(!y2),())
 |.inr _=>none
def places[Lk]:=fun v=>Lk.f (Qe v)
theorem AFT v:places v=Qe v:=AG _
abbrev AHy:AE:=[(.tmp 0,.dat U4),(.tmp 1,.di)]
abbrev AHx:AE:=[(.tmp 0,.own 3 U0),(.tmp 1,.dat .bool)]
abbrev AHw:List RS:=[.one,.one]
def X8[Lk]:Uz→Option ((List Int×Bool×Unit)):=fun(a0,a1,_)=>
 match places (a0,([a1]:List (Int)),())with|none=>none|some (y0,y1,_)=>match(!y1)with
 |true=>some (([]:List (Int)),false,())
 |false=>match idx y0 0 with|none=>none|some x2=>match SU (a0,(AY y0 0 0),())with|none=>none|some (y3,_)=>some (y3,true,())
def AFL[Lk]:=fun v=>Lk.f (X8 v)
theorem ALt v:AFL v=X8 v:=AG _
abbrev Zx:AE:=[(.tmp 0,.dat U4)]
abbrev Zw:AE:=[(.tmp 0,.own 3 U0)]
abbrev Zv:List RS:=[.one]
def QS[Lk]:Um→Option (Um):=fun(a0,_)=>
 match MY (a0,())with|none=>none|some (y0,_)=>match(!y0)with
 |true=>some (([]:List (Int)),())
 |false=>match(ieq (AJ a0) 0)with
 |true=>some (([]:List (Int)),())
 |false=>match AXr (a0,())with|none=>none|some (y1,_)=>match PY (a0,y1,())with|none=>none|some (y2,_)=>match SU (a0,y2,())with|none=>none|some (y3,_)=>some (y3,())
def Zy[Lk]:=fun v=>Lk.f (QS v)
theorem AFJ v:Zy v=QS v:=AG _
abbrev Fj:AE:=[(.tmp 0,.dat Uf),(.cap 1 0,.box 1),(.cell 0 0,.di),(.tmp 1,.clo 113 [(0,0)])]
abbrev Fi:AE:=[(.obj 0,.box 1),(.cell 0 0,.di),(.tmp 0,.di)]
abbrev Fh:List RS:=[.one]
abbrev Ir:AE:=[(.obj 0,.box 1),(.cell 0 0,.di),(.tmp 0,.dat Uf),(.tmp 1,.clo 113 [(0,0)]),(.tmp 7,.di),(.tmp 8,.di)]
abbrev Iq:Au:=[(.ret,[(.obj 0,.box 1),(.cell 0 0,.di),(.tmp 4,.di)]),(.exit 0,[(.obj 0,.box 1),(.cell 0 0,.di)])]
def Bj[Lk]:(Int×List U3×Int×Int×Unit)→Option ((Int×List U3×Int×Int×Unit)⊕U1⊕U9⊕Unit):=fun(a0,a1,a2,a3,_)=>
 match(ilt a3 a2)with
 |true=>match idx a1 a3 with|none=>none|some x0=>match Ft (x0,a0,())with|none=>none|some (y1,_)=>match y1 with
  |true=>some (.inr (.inl (a0,a3,())))
  |false=>some (.inl (a0,a1,a2,(IntKind.wrap .i64 (a3+1)),()))
 |false=>some (.inr (.inr (.inl (a0,()))))
def D0[Lk]:V9→Option (U1):=fun(a0,a1,_)=>
 match AW Bj many (a1,a0,(AJ a0),0,())with|none=>none|some r=>match r with
 |.inl (o0,o1,_)=>some (o0,o1,())
 |.inr r=>match r with
 |.inl (o2,_)=>some (o2,(-1:Int),())
 |.inr _=>none
def E5[Lk]:=fun v=>Lk.f (D0 v)
theorem Is v:E5 v=D0 v:=AG _
abbrev Y6:AE:=[(.tmp 0,.dat Uq),(.tmp 1,.di)]
abbrev Y5:AE:=[(.tmp 0,.di)]
abbrev Y4:List RS:=[.one]
def QL[Lk]:Vf→Option (U9):=fun(a0,a1,_)=>
 match E5 (a0.2.1,a1,())with|none=>none|some (y0,y1,_)=>some (y1,())
def Ov[Lk]:=fun v=>Lk.f (QL v)
theorem AEz v:Ov v=QL v:=AG _
abbrev AS4:AE:=[(.tmp 0,.di),(.tmp 1,.dat U4)]
abbrev AS3:AE:=[(.tmp 0,.dat .bool)]
abbrev AS2:List RS:=[.one]
abbrev AVU:AE:=[(.tmp 0,.di),(.tmp 5,.box 3),(.cell 0 0,.own 3 U0),(.cell 0 1,.map U0 U0),(.cell 0 2,.map U0 U0),(.tmp 30,.dat U4),(.tmp 31,.di),(.tmp 32,.di)]
abbrev AVT:Au:=[(.ret,[(.tmp 4,.dat .bool)]),(.exit 0,[(.tmp 5,.box 3),(.cell 0 0,.own 3 U0),(.cell 0 1,.map U0 U0),(.cell 0 2,.map U0 U0)])]
def I0[Lk]:(Int×List Int×List Ub×List Ub×List Int×Int×Int×Unit)→Option ((Int×List Int×List Ub×List Ub×List Int×Int×Int×Unit)⊕Ue⊕(List Int×List Ub×List Ub×Unit)⊕Unit):=fun(a0,a1,a2,a3,a4,a5,a6,_)=>
 match(ilt a6 a5)with
 |true=>match idx a4 a6 with|none=>none|some x0=>match Yq (a0,x0,())with|none=>none|some (y1,y2,y3,y4,_)=>match(!y4)with
  |true=>some (.inr (.inl (false,())))
  |false=>match y3 with
  |true=>match idx a1 (IntKind.wrap .i64 ((AJ a1)-1))with|none=>none|some x5=>match(!(ieq (AY a1 (AK (IntKind.wrap .i64 ((AJ a1)-1))) 0) y1))with
   |true=>some (.inr (.inl (false,())))
   |false=>match(ilt 0 (IntKind.wrap .i64 ((AJ a1)-1)))with
   |true=>match idx a1 (IntKind.wrap .i64 ((IntKind.wrap .i64 ((AJ a1)-1))-1))with|none=>none|some x6=>match(ieq (AY a1 (AK (IntKind.wrap .i64 ((IntKind.wrap .i64 ((AJ a1)-1))-1))) 0) y2)with
    |true=>match CM a1 0 (IntKind.wrap .i64 ((AJ a1)-1))with|none=>none|some x7=>match(!y3)with
     |true=>match idx (DR 0 (AK (AJ x7)) a1) (IntKind.wrap .i64 ((((AK (AJ x7)):Nat):Int)-1))with|none=>none|some x8=>match(!(ieq (AY a1 (0+(AK (IntKind.wrap .i64 ((((AK (AJ x7)):Nat):Int)-1)))) 0) y1))with
      |true=>some (.inr (.inl (false,())))
      |false=>match(!y3)with
      |true=>some (.inl (a0,(Bn (AK (AJ x7)) a1),a2,(Ae a3 y1 (IntKind.wrap .i64 (((AN a3 y1).getD 0)+1))),a4,a5,(IntKind.wrap .i64 (a6+1)),()))
      |false=>some (.inl (a0,(Bn (AK (AJ x7)) a1),a2,a3,a4,a5,(IntKind.wrap .i64 (a6+1)),()))
     |false=>match(!y3)with
     |true=>some (.inl (a0,(Bn (AK (AJ x7)) a1),a2,(Ae a3 y1 (IntKind.wrap .i64 (((AN a3 y1).getD 0)+1))),a4,a5,(IntKind.wrap .i64 (a6+1)),()))
     |false=>some (.inl (a0,(Bn (AK (AJ x7)) a1),a2,a3,a4,a5,(IntKind.wrap .i64 (a6+1)),()))
    |false=>match(ilt 0 ((AN a2 y2).getD 0))with
    |true=>some (.inr (.inl (false,())))
    |false=>match(fits ((AJ a1)+(AJ ([y2]:List (Int)))))with
    |true=>match(!y3)with
     |true=>match idx (A4 a1 ([y2]:List (Int))) (IntKind.wrap .i64 ((AJ (A4 a1 ([y2]:List (Int))))-1))with|none=>none|some x9=>match(!(ieq (AY (A4 a1 ([y2]:List (Int))) (AK (IntKind.wrap .i64 ((AJ (A4 a1 ([y2]:List (Int))))-1))) 0) y1))with
      |true=>some (.inr (.inl (false,())))
      |false=>match(!y3)with
      |true=>some (.inl (a0,(A4 a1 ([y2]:List (Int))),(Ae a2 y2 (IntKind.wrap .i64 (((AN a2 y2).getD 0)+1))),(Ae a3 y1 (IntKind.wrap .i64 (((AN a3 y1).getD 0)+1))),a4,a5,(IntKind.wrap .i64 (a6+1)),()))
      |false=>some (.inl (a0,(A4 a1 ([y2]:List (Int))),(Ae a2 y2 (IntKind.wrap .i64 (((AN a2 y2).getD 0)+1))),a3,a4,a5,(IntKind.wrap .i64 (a6+1)),()))
     |false=>match(!y3)with
     |true=>some (.inl (a0,(A4 a1 ([y2]:List (Int))),(Ae a2 y2 (IntKind.wrap .i64 (((AN a2 y2).getD 0)+1))),(Ae a3 y1 (IntKind.wrap .i64 (((AN a3 y1).getD 0)+1))),a4,a5,(IntKind.wrap .i64 (a6+1)),()))
     |false=>some (.inl (a0,(A4 a1 ([y2]:List (Int))),(Ae a2 y2 (IntKind.wrap .i64 (((AN a2 y2).getD 0)+1))),a3,a4,a5,(IntKind.wrap .i64 (a6+1)),()))
    |false=>none
   |false=>match(ilt 0 ((AN a2 y2).getD 0))with
   |true=>some (.inr (.inl (false,())))
   |false=>match(fits ((AJ a1)+(AJ ([y2]:List (Int)))))with
   |true=>match(!y3)with
    |true=>match idx (A4 a1 ([y2]:List (Int))) (IntKind.wrap .i64 ((AJ (A4 a1 ([y2]:List (Int))))-1))with|none=>none|some x10=>match(!(ieq (AY (A4 a1 ([y2]:List (Int))) (AK (IntKind.wrap .i64 ((AJ (A4 a1 ([y2]:List (Int))))-1))) 0) y1))with
     |true=>some (.inr (.inl (false,())))
     |false=>match(!y3)with
     |true=>some (.inl (a0,(A4 a1 ([y2]:List (Int))),(Ae a2 y2 (IntKind.wrap .i64 (((AN a2 y2).getD 0)+1))),(Ae a3 y1 (IntKind.wrap .i64 (((AN a3 y1).getD 0)+1))),a4,a5,(IntKind.wrap .i64 (a6+1)),()))
     |false=>some (.inl (a0,(A4 a1 ([y2]:List (Int))),(Ae a2 y2 (IntKind.wrap .i64 (((AN a2 y2).getD 0)+1))),a3,a4,a5,(IntKind.wrap .i64 (a6+1)),()))
    |false=>match(!y3)with
    |true=>some (.inl (a0,(A4 a1 ([y2]:List (Int))),(Ae a2 y2 (IntKind.wrap .i64 (((AN a2 y2).getD 0)+1))),(Ae a3 y1 (IntKind.wrap .i64 (((AN a3 y1).getD 0)+1))),a4,a5,(IntKind.wrap .i64 (a6+1)),()))
    |false=>some (.inl (a0,(A4 a1 ([y2]:List (Int))),(Ae a2 y2 (IntKind.wrap .i64 (((AN a2 y2).getD 0)+1))),a3,a4,a5,(IntKind.wrap .i64 (a6+1)),()))
   |false=>none
  |false=>match(!y3)with
  |true=>match idx a1 (IntKind.wrap .i64 ((AJ a1)-1))with|none=>none|some x11=>match(!(ieq (AY a1 (AK (IntKind.wrap .i64 ((AJ a1)-1))) 0) y1))with
   |true=>some (.inr (.inl (false,())))
   |false=>match(!y3)with
   |true=>some (.inl (a0,a1,a2,(Ae a3 y1 (IntKind.wrap .i64 (((AN a3 y1).getD 0)+1))),a4,a5,(IntKind.wrap .i64 (a6+1)),()))
   |false=>some (.inl (a0,a1,a2,a3,a4,a5,(IntKind.wrap .i64 (a6+1)),()))
  |false=>match(!y3)with
  |true=>some (.inl (a0,a1,a2,(Ae a3 y1 (IntKind.wrap .i64 (((AN a3 y1).getD 0)+1))),a4,a5,(IntKind.wrap .i64 (a6+1)),()))
  |false=>some (.inl (a0,a1,a2,a3,a4,a5,(IntKind.wrap .i64 (a6+1)),()))
 |false=>some (.inr (.inr (.inl (a1,a2,a3,()))))
def AJO[Lk]:Vn→Option (Ue):=fun(a0,a1,_)=>
 match idx a1 0 with|none=>none|some x0=>match tin (a0,x0,())with|none=>none|some (y1,_)=>match(!y1)with
 |true=>some (false,())
 |false=>match idx a1 0 with|none=>none|some x2=>match idx a1 0 with|none=>none|some x3=>match AW I0 many (a0,([x2]:List (Int)),(Ae ([]:List Ub) x3 1),([]:List Ub),a1,(AJ a1),0,())with|none=>none|some r=>match r with
 |.inl (o4,_)=>some (o4,())
 |.inr r=>match r with
 |.inl (o5,o6,o7,_)=>match(ieq (AJ o5) 1)with
  |true=>some ((ieq (AJ o7) (AJ o6)),())
  |false=>some (false,())
 |.inr _=>none
def goes[Lk]:=fun v=>Lk.f (AJO v)
theorem AVV v:goes v=AJO v:=AG _
abbrev Yz:AE:=[(.tmp 0,.dat Uq)]
abbrev Yy:AE:=[(.tmp 0,.dat .bool)]
abbrev Yx:List RS:=[.one]
abbrev AEv:AE:=[(.tmp 3,.map U0 U0),(.tmp 78,.di),(.tmp 79,.di)]
abbrev AEs:Au:=[(.ret,[(.tmp 2,.dat .bool)]),(.exit 4,[])]
def Ee[Lk]:(List Ub×Int×Int×Unit)→Option ((List Ub×Int×Int×Unit)⊕Ue⊕(Unit)⊕Unit):=fun(a0,a1,a2,_)=>
 match(ilt a2 a1)with
 |true=>match(ieq ((AN a0 a2).getD 0) 0)with
  |true=>some (.inr (.inl (false,())))
  |false=>some (.inl (a0,a1,(IntKind.wrap .i64 (a2+1)),()))
 |false=>some (.inr (.inr (.inl ())))
abbrev AEw:AE:=[(.tmp 1,.box 2),(.cell 0 0,.di),(.cell 0 1,.dat Uf),(.tmp 3,.map U0 U0),(.tmp 4,.di),(.tmp 16,.dat Uf),(.tmp 17,.di),(.tmp 18,.di),(.tmp 26,.dat U4),(.tmp 28,.di),(.tmp 29,.di),(.tmp 30,.dat .bool),(.tmp 33,.dat U4),(.tmp 34,.dat .bool),(.tmp 35,.dat .bool),(.tmp 38,.dat U4),(.tmp 39,.di),(.tmp 40,.dat U4),(.tmp 42,.di),(.tmp 43,.dat .bool),(.tmp 46,.ptr' 0 0),(.tmp 47,.di),(.tmp 48,.dat U4),(.tmp 49,.dat .bool),(.tmp 50,.dat .bool),(.tmp 55,.dat U4),(.tmp 56,.di),(.tmp 57,.di)]
abbrev AEt:Au:=[(.ret,[(.tmp 2,.dat .bool)]),(.exit 2,[(.tmp 1,.box 2),(.cell 0 0,.di),(.cell 0 1,.dat Uf),(.tmp 3,.map U0 U0),(.tmp 4,.di),(.tmp 16,.dat Uf),(.tmp 17,.di),(.tmp 18,.di),(.tmp 26,.dat U4),(.tmp 28,.di),(.tmp 29,.di),(.tmp 30,.dat .bool),(.tmp 33,.dat U4),(.tmp 34,.dat .bool),(.tmp 35,.dat .bool),(.tmp 38,.dat U4),(.tmp 39,.di),(.tmp 40,.dat U4),(.tmp 42,.di),(.tmp 43,.dat .bool),(.tmp 46,.ptr' 0 0),(.tmp 47,.di),(.tmp 48,.dat U4),(.tmp 49,.dat .bool),(.tmp 50,.dat .bool)])]
def Dn[Lk]:Uu→Option (Uu⊕Ue⊕(Int×List U3×List Ub×Int×List U3×Int×Int×List Int×Int×Int×Bool×List Int×Bool×Bool×List Int×Int×List Int×Int×Bool×Int×List Int×Bool×Bool×Unit)⊕Unit):=fun(a0,a1,a2,a3,a4,a5,a6,a7,a8,a9,a10,a11,a12,a13,a14,a15,a16,a17,a18,a19,a20,a21,a22,a23,a24,a25,_)=>
 match(ilt a25 a24)with
 |true=>match idx a23 a25 with|none=>none|some x0=>match(ilt x0 a0)with
  |true=>match(ilt 0 ((AN a2 x0).getD 0))with
   |true=>some (.inr (.inl (false,())))
   |false=>some (.inl (a0,a1,(Ae a2 x0 (IntKind.wrap .i64 (((AN a2 x0).getD 0)+1))),a3,a4,a5,a6,a7,a8,a9,a10,a11,a12,a13,a14,a15,a16,a17,a18,a19,a20,a21,a22,a23,a24,(IntKind.wrap .i64 (a25+1)),()))
  |false=>some (.inl (a0,a1,(Ae a2 x0 (IntKind.wrap .i64 (((AN a2 x0).getD 0)+1))),a3,a4,a5,a6,a7,a8,a9,a10,a11,a12,a13,a14,a15,a16,a17,a18,a19,a20,a21,a22,a23,a24,(IntKind.wrap .i64 (a25+1)),()))
 |false=>some (.inr (.inr (.inl (a0,a1,a2,a3,a4,a5,a6,a7,a8,a9,a10,a11,a12,a13,a14,a15,a16,a17,a18,a19,a20,a21,a22,()))))
abbrev AEx:AE:=[(.tmp 1,.box 2),(.cell 0 0,.di),(.cell 0 1,.dat Uf),(.tmp 3,.map U0 U0),(.tmp 4,.di),(.tmp 16,.dat Uf),(.tmp 17,.di),(.tmp 18,.di)]
abbrev AEu:Au:=[(.ret,[(.tmp 2,.dat .bool)]),(.exit 0,[(.tmp 1,.box 2),(.cell 0 0,.di),(.cell 0 1,.dat Uf),(.tmp 3,.map U0 U0)])]
def Dp[Lk]:(Int×List U3×List Ub×Int×List U3×Int×Int×Unit)→Option ((Int×List U3×List Ub×Int×List U3×Int×Int×Unit)⊕Ue⊕(Int×List U3×List Ub×Unit)⊕Unit):=fun(a0,a1,a2,a3,a4,a5,a6,_)=>
 match(ilt a6 a5)with
 |true=>match idx a4 a6 with|none=>none|some x0=>match(ieq (AJ x0) 0)with
  |true=>some (.inr (.inl (false,())))
  |false=>match idx x0 0 with|none=>none|some x1=>match(ile x1 a3)with
  |true=>some (.inr (.inl (false,())))
  |false=>match MY (x0,())with|none=>none|some (y2,_)=>match(!y2)with
  |true=>some (.inr (.inl (false,())))
  |false=>match AXr (x0,())with|none=>none|some (y3,_)=>match idx x0 0 with|none=>none|some x4=>match(!(ieq y3 x4))with
  |true=>some (.inr (.inl (false,())))
  |false=>match goes (a0,x0,())with|none=>none|some (y5,_)=>match(!y5)with
  |true=>some (.inr (.inl (false,())))
  |false=>match idx x0 0 with|none=>none|some x6=>match AW Dn many (a0,a1,a2,x6,a4,a5,a6,x0,x1,a3,(ile x1 a3),x0,y2,(!y2),x0,y3,x0,x4,(!(ieq y3 x4)),a0,x0,y5,(!y5),x0,(AJ x0),0,())with|none=>none|some r=>match r with
  |.inl (o7,_)=>some (.inr (.inl (o7,())))
  |.inr r=>match r with
  |.inl (o8,o9,o10,o11,o12,o13,o14,o15,o16,o17,o18,o19,o20,o21,o22,o23,o24,o25,o26,o27,o28,o29,o30,_)=>some (.inl (o8,o9,o10,o11,o12,o13,(IntKind.wrap .i64 (o14+1)),()))
  |.inr _=>none
 |false=>some (.inr (.inr (.inl (a0,a1,a2,()))))
def QK[Lk]:(Ui×Unit)→Option (Ue):=fun(a0,_)=>
 match MM (a0.1,())with|none=>none|some (y0,_)=>match(!y0)with
 |true=>some (false,())
 |false=>match AW Dp many (a0.1,a0.2.1,([]:List Ub),(-1:Int),a0.2.1,(AJ a0.2.1),0,())with|none=>none|some r=>match r with
 |.inl (o1,_)=>some (o1,())
 |.inr r=>match r with
 |.inl (o2,o3,o4,_)=>match AW Ee many (o4,o2,0,())with|none=>none|some r=>match r with
  |.inl (o5,_)=>some (o5,())
  |.inr r=>match r with
  |.inl _=>some (true,())
  |.inr _=>none
 |.inr _=>none
def Ou[Lk]:=fun v=>Lk.f (QK v)
theorem AEy v:Ou v=QK v:=AG _
abbrev AJ9:AE:=[(.tmp 0,.dat Uq),(.tmp 1,.di),(.tmp 2,.di)]
abbrev AJ8:AE:=[(.tmp 0,.di)]
abbrev AJ7:List RS:=[.one]
def YM[Lk]:(Ui×Int×Int×Unit)→Option (U9):=fun(a0,a1,a2,_)=>
 match Ou ((a0.1,(a0.2.1,())),())with|none=>none|some (y0,_)=>match(!y0)with
 |true=>some (1,())
 |false=>match tin (a0.1,a1,())with|none=>none|some (y1,_)=>match(!y1)with
 |true=>some (10,())
 |false=>match tin (a0.1,a2,())with|none=>none|some (y2,_)=>match(!y2)with
 |true=>some (10,())
 |false=>some (0,())
def asked[Lk]:=fun v=>Lk.f (YM v)
theorem AOz v:asked v=YM v:=AG _
abbrev AR7:AE:=[(.tmp 0,.di)]
abbrev AR6:AE:=[(.tmp 0,.dat .bool)]
abbrev AR5:List RS:=[.one]
def K5[Lk]:U9→Option (Ue):=fun(a0,_)=>
 some ((!(ieq a0 a0)),())
def Abn[Lk]:=fun v=>Lk.f (K5 v)
theorem K4 v:Abn v=K5 v:=AG _
abbrev Pr:AE:=[(.tmp 0,.di),(.tmp 1,.di)]
abbrev Pq:AE:=[(.tmp 0,.di)]
abbrev Pp:List RS:=[.one]
def Ea[Lk]:U1→Option (U9):=fun(a0,a1,_)=>
 match Abn (a0,())with|none=>none|some (y0,_)=>match Abn (a1,())with|none=>none|some (y1,_)=>match y0 with
 |true=>match y1 with
  |true=>some (0,())
  |false=>some ((-1:Int),())
 |false=>match y1 with
 |true=>some (1,())
 |false=>match(ilt a0 a1)with
 |true=>some ((-1:Int),())
 |false=>match(ilt a1 a0)with
 |true=>some (1,())
 |false=>some (0,())
def Dh[Lk]:=fun v=>Lk.f (Ea v)
theorem Gd v:Dh v=Ea v:=AG _
abbrev AGc:AE:=[(.tmp 0,.dat U4),(.tmp 1,.dat U4)]
abbrev AGb:AE:=[(.tmp 0,.di)]
abbrev AGa:List RS:=[.one]
def Xy[Lk]:Vc→Option (U9):=fun(a0,a1,_)=>
 match idx a0 0 with|none=>none|some x0=>match idx a1 0 with|none=>none|some x1=>match Dh (x0,x1,())with|none=>none|some (y2,_)=>some (y2,())
def BN[Lk]:=fun v=>Lk.f (Xy v)
theorem AKb v:BN v=Xy v:=AG _
def Gl:List Int:=[0,1,2,2,3,3,3,3,4,4,4,4,4,4,4,4,5,5,5,5,5,5,5,5,5,5,5,5,5,5,5,5,6,6,6,6,6,6,6,6,6,6,6,6,6,6,6,6,6,6,6,6,6,6,6,6,6,6,6,6,6,6,6,6,7,7,7,7,7,7,7,7,7,7,7,7,7,7,7,7,7,7,7,7,7,7,7,7,7,7,7,7,7,7,7,7,7,7,7,7,7,7,7,7,7,7,7,7,7,7,7,7,7,7,7,7,7,7,7,7,7,7,7,7,7,7,7,7,8,8,8,8,8,8,8,8,8,8,8,8,8,8,8,8,8,8,8,8,8,8,8,8,8,8,8,8,8,8,8,8,8,8,8,8,8,8,8,8,8,8,8,8,8,8,8,8,8,8,8,8,8,8,8,8,8,8,8,8,8,8,8,8,8,8,8,8,8,8,8,8,8,8,8,8,8,8,8,8,8,8,8,8,8,8,8,8,8,8,8,8,8,8,8,8,8,8,8,8,8,8,8,8,8,8,8,8,8,8,8,8,8,8,8,8,8,8,8,8,8,8,8,8,8,8,8,8]
abbrev AI1:AE:=[(.tmp 0,.dat (.int .u64))]
abbrev AI0:AE:=[(.tmp 0,.di)]
abbrev AIz:List RS:=[.one]
def YF[Lk]:U9→Option (U9):=fun(a0,_)=>
 match(ile 4294967296 a0)with
 |true=>match shr? .u64 a0 32 with|none=>none|some x0=>match(ile 65536 x0)with
  |true=>match shr? .u64 x0 16 with|none=>none|some x1=>match(ile 256 x1)with
   |true=>match shr? .u64 x1 8 with|none=>none|some x2=>match idx Gl (IntKind.wrap .u8 x2)with|none=>none|some x3=>some ((IntKind.wrap .i64 ((IntKind.wrap .i64 ((IntKind.wrap .i64 (32+16))+8))+(IntKind.wrap .i64 x3))),())
   |false=>match idx Gl (IntKind.wrap .u8 x1)with|none=>none|some x4=>some ((IntKind.wrap .i64 ((IntKind.wrap .i64 (32+16))+(IntKind.wrap .i64 x4))),())
  |false=>match(ile 256 x0)with
  |true=>match shr? .u64 x0 8 with|none=>none|some x5=>match idx Gl (IntKind.wrap .u8 x5)with|none=>none|some x6=>some ((IntKind.wrap .i64 ((IntKind.wrap .i64 (32+8))+(IntKind.wrap .i64 x6))),())
  |false=>match idx Gl (IntKind.wrap .u8 x0)with|none=>none|some x7=>some ((IntKind.wrap .i64 (32+(IntKind.wrap .i64 x7))),())
 |false=>match(ile 65536 a0)with
 |true=>match shr? .u64 a0 16 with|none=>none|some x8=>match(ile 256 x8)with
  |true=>match shr? .u64 x8 8 with|none=>none|some x9=>match idx Gl (IntKind.wrap .u8 x9)with|none=>none|some x10=>some ((IntKind.wrap .i64 ((IntKind.wrap .i64 ((IntKind.wrap .i64 (0+16))+8))+(IntKind.wrap .i64 x10))),())
  |false=>match idx Gl (IntKind.wrap .u8 x8)with|none=>none|some x11=>some ((IntKind.wrap .i64 ((IntKind.wrap .i64 (0+16))+(IntKind.wrap .i64 x11))),())
 |false=>match(ile 256 a0)with
 |true=>match shr? .u64 a0 8 with|none=>none|some x12=>match idx Gl (IntKind.wrap .u8 x12)with|none=>none|some x13=>some ((IntKind.wrap .i64 ((IntKind.wrap .i64 (0+8))+(IntKind.wrap .i64 x13))),())
 |false=>match idx Gl (IntKind.wrap .u8 a0)with|none=>none|some x14=>some ((IntKind.wrap .i64 (0+(IntKind.wrap .i64 x14))),())
def ANe[Lk]:=fun v=>Lk.f (YF v)
theorem ANd v:ANe v=YF v:=AG _
abbrev VE:AE:=[(.tmp 0,.dat (.int .u64))]
abbrev VD:AE:=[(.tmp 0,.di)]
abbrev VC:List RS:=[.one]
def N6[Lk]:U9→Option (U9):=fun(a0,_)=>
 match ANe (a0,())with|none=>none|some (y0,_)=>some (y0,())
def bitsLen[Lk]:=fun v=>Lk.f (N6 v)
theorem AC7 v:bitsLen v=N6 v:=AG _
abbrev SH:AE:=[(.tmp 0,.box 1),(.cell 0 0,.dat (.int .u64))]
abbrev SF:AE:=[(.obj 0,.box 1),(.cell 0 0,.dat (.int .u64)),(.tmp 0,.dat (.int .u64))]
abbrev SD:List RS:=[.one]
def Nd[Lk]:U9→Option (U1):=fun(a0,_)=>
 match shl? .u64 a0 13 with|none=>none|some x0=>match shr? .u64 (IntKind.wrap .u64 ((BitVec.ofInt (IntKind.bits .u64) a0 ^^^ BitVec.ofInt (IntKind.bits .u64) x0).toNat)) 7 with|none=>none|some x1=>match shl? .u64 (IntKind.wrap .u64 ((BitVec.ofInt (IntKind.bits .u64) (IntKind.wrap .u64 ((BitVec.ofInt (IntKind.bits .u64) a0 ^^^ BitVec.ofInt (IntKind.bits .u64) x0).toNat)) ^^^ BitVec.ofInt (IntKind.bits .u64) x1).toNat)) 17 with|none=>none|some x2=>some ((IntKind.wrap .u64 ((BitVec.ofInt (IntKind.bits .u64) (IntKind.wrap .u64 ((BitVec.ofInt (IntKind.bits .u64) (IntKind.wrap .u64 ((BitVec.ofInt (IntKind.bits .u64) a0 ^^^ BitVec.ofInt (IntKind.bits .u64) x0).toNat)) ^^^ BitVec.ofInt (IntKind.bits .u64) x1).toNat)) ^^^ BitVec.ofInt (IntKind.bits .u64) x2).toNat)),(IntKind.wrap .u64 ((BitVec.ofInt (IntKind.bits .u64) (IntKind.wrap .u64 ((BitVec.ofInt (IntKind.bits .u64) (IntKind.wrap .u64 ((BitVec.ofInt (IntKind.bits .u64) a0 ^^^ BitVec.ofInt (IntKind.bits .u64) x0).toNat)) ^^^ BitVec.ofInt (IntKind.bits .u64) x1).toNat)) ^^^ BitVec.ofInt (IntKind.bits .u64) x2).toNat)),())
def xorNext[Lk]:=fun v=>Lk.f (Nd v)
theorem YT v:xorNext v=Nd v:=AG _
abbrev TM:AE:=[(.tmp 0,.di)]
abbrev TL:AE:=[(.tmp 0,.dat (.int .u64))]
abbrev TK:List RS:=[.one]
def Ns[Lk]:U9→Option (U9):=fun(a0,_)=>
 match bitsLen ((IntKind.wrap .u64 a0),())with|none=>none|some (y0,_)=>match shl? .u64 1 y0 with|none=>none|some x1=>some (x1,())
def Ql[Lk]:=fun v=>Lk.f (Ns v)
theorem ABG v:Ql v=Ns v:=AG _
def Nw[Lk]{α:Type}(z:α)(c:α×α×Unit→Option U9):(List α×Int×Int×Int×Int×Unit)→Option ((List α×Int×Int×Int×Int×Unit)⊕(List α×Int×Int×Int×Unit)⊕Unit):=fun(a0,a1,a2,a3,a4,_)=>
 match(ilt a1 a4)with
 |true=>match idx a0 a4 with|none=>none|some x0=>match idx a0 (IntKind.wrap .i64 (a4-1))with|none=>none|some x1=>match c ((AY a0 (AK a4) z),(AY a0 (AK (IntKind.wrap .i64 (a4-1))) z),())with|none=>none|some (y2,_)=>match(ilt y2 0)with
  |true=>match idx a0 (IntKind.wrap .i64 (a4-1))with|none=>none|some x3=>match idx a0 a4 with|none=>none|some x4=>match idx a0 a4 with|none=>none|some x5=>match idx (BA a0 (AK a4) (AY a0 (AK (IntKind.wrap .i64 (a4-1))) z)) (IntKind.wrap .i64 (a4-1))with|none=>none|some x6=>some (.inl ((BA (BA a0 (AK a4) (AY a0 (AK (IntKind.wrap .i64 (a4-1))) z)) (AK (IntKind.wrap .i64 (a4-1))) (AY a0 (AK a4) z)),a1,a2,a3,(IntKind.wrap .i64 (a4-1)),()))
  |false=>some (.inr (.inl (a0,a1,a2,a3,())))
 |false=>some (.inr (.inl (a0,a1,a2,a3,())))
def Nx[Lk]{α:Type}(z:α)(c:α×α×Unit→Option U9):(List α×Int×Int×Int×Unit)→Option ((List α×Int×Int×Int×Unit)⊕(List α×Unit)⊕Unit):=fun(a0,a1,a2,a3,_)=>
 match(ilt a3 a2)with
 |true=>match AW (Nw z c) many (a0,a1,a2,a3,a3,())with|none=>none|some r=>match r with
  |.inl (o0,o1,o2,o3,_)=>some (.inl (o0,o1,o2,(IntKind.wrap .i64 (o3+1)),()))
  |.inr _=>none
 |false=>some (.inr (.inl (a0,())))
def ABf[Lk]{α:Type}(z:α)(c:α×α×Unit→Option U9):(List α×Int×Int×Unit)→Option ((List α×Unit)):=fun(a0,a1,a2,_)=>
 match AW (Nx z c) many (a0,a1,a2,(IntKind.wrap .i64 (a1+1)),())with|none=>none|some r=>match r with
 |.inl (o0,_)=>some (o0,())
 |.inr _=>none
def Ab7[Lk]{α:Type}(z:α)(c:α×α×Unit→Option U9)(v:(List α×Int×Int×Unit)):Option ((List α×Unit)):=Lk.f ((ABf z c) v)
theorem Ae1{α:Type}(z:α)(c:α×α×Unit→Option U9)(v:(List α×Int×Int×Unit)):(Ab7 z c) v=(ABf z c) v:=AG _
def J4[Lk]{α:Type}(z:α)(c:α×α×Unit→Option U9):(List α×Int×Int×Int×Unit)→Option ((List α×Int×Int×Int×Unit)⊕(List α×Unit)⊕(List α×Unit)⊕Unit):=fun(a0,a1,a2,a3,_)=>
 match(ile a1 (IntKind.wrap .i64 ((IntKind.wrap .i64 (2*a3))+1)))with
 |true=>some (.inr (.inl (a0,())))
 |false=>match(ilt (IntKind.wrap .i64 ((IntKind.wrap .i64 ((IntKind.wrap .i64 (2*a3))+1))+1)) a1)with
 |true=>match idx a0 (IntKind.wrap .i64 (a2+(IntKind.wrap .i64 ((IntKind.wrap .i64 (2*a3))+1))))with|none=>none|some x0=>match idx a0 (IntKind.wrap .i64 ((IntKind.wrap .i64 (a2+(IntKind.wrap .i64 ((IntKind.wrap .i64 (2*a3))+1))))+1))with|none=>none|some x1=>match c ((AY a0 (AK (IntKind.wrap .i64 (a2+(IntKind.wrap .i64 ((IntKind.wrap .i64 (2*a3))+1))))) z),(AY a0 (AK (IntKind.wrap .i64 ((IntKind.wrap .i64 (a2+(IntKind.wrap .i64 ((IntKind.wrap .i64 (2*a3))+1))))+1))) z),())with|none=>none|some (y2,_)=>match(ilt y2 0)with
  |true=>match idx a0 (IntKind.wrap .i64 (a2+a3))with|none=>none|some x3=>match idx a0 (IntKind.wrap .i64 (a2+(IntKind.wrap .i64 ((IntKind.wrap .i64 ((IntKind.wrap .i64 (2*a3))+1))+1))))with|none=>none|some x4=>match c ((AY a0 (AK (IntKind.wrap .i64 (a2+a3))) z),(AY a0 (AK (IntKind.wrap .i64 (a2+(IntKind.wrap .i64 ((IntKind.wrap .i64 ((IntKind.wrap .i64 (2*a3))+1))+1))))) z),())with|none=>none|some (y5,_)=>match(!(ilt y5 0))with
   |true=>some (.inr (.inr (.inl (a0,()))))
   |false=>match idx a0 (IntKind.wrap .i64 (a2+(IntKind.wrap .i64 ((IntKind.wrap .i64 ((IntKind.wrap .i64 (2*a3))+1))+1))))with|none=>none|some x6=>match idx a0 (IntKind.wrap .i64 (a2+a3))with|none=>none|some x7=>match idx a0 (IntKind.wrap .i64 (a2+a3))with|none=>none|some x8=>match idx (BA a0 (AK (IntKind.wrap .i64 (a2+a3))) (AY a0 (AK (IntKind.wrap .i64 (a2+(IntKind.wrap .i64 ((IntKind.wrap .i64 ((IntKind.wrap .i64 (2*a3))+1))+1))))) z)) (IntKind.wrap .i64 (a2+(IntKind.wrap .i64 ((IntKind.wrap .i64 ((IntKind.wrap .i64 (2*a3))+1))+1))))with|none=>none|some x9=>some (.inl ((BA (BA a0 (AK (IntKind.wrap .i64 (a2+a3))) (AY a0 (AK (IntKind.wrap .i64 (a2+(IntKind.wrap .i64 ((IntKind.wrap .i64 ((IntKind.wrap .i64 (2*a3))+1))+1))))) z)) (AK (IntKind.wrap .i64 (a2+(IntKind.wrap .i64 ((IntKind.wrap .i64 ((IntKind.wrap .i64 (2*a3))+1))+1))))) (AY a0 (AK (IntKind.wrap .i64 (a2+a3))) z)),a1,a2,(IntKind.wrap .i64 ((IntKind.wrap .i64 ((IntKind.wrap .i64 (2*a3))+1))+1)),()))
  |false=>match idx a0 (IntKind.wrap .i64 (a2+a3))with|none=>none|some x10=>match idx a0 (IntKind.wrap .i64 (a2+(IntKind.wrap .i64 ((IntKind.wrap .i64 (2*a3))+1))))with|none=>none|some x11=>match c ((AY a0 (AK (IntKind.wrap .i64 (a2+a3))) z),(AY a0 (AK (IntKind.wrap .i64 (a2+(IntKind.wrap .i64 ((IntKind.wrap .i64 (2*a3))+1))))) z),())with|none=>none|some (y12,_)=>match(!(ilt y12 0))with
  |true=>some (.inr (.inr (.inl (a0,()))))
  |false=>match idx a0 (IntKind.wrap .i64 (a2+(IntKind.wrap .i64 ((IntKind.wrap .i64 (2*a3))+1))))with|none=>none|some x13=>match idx a0 (IntKind.wrap .i64 (a2+a3))with|none=>none|some x14=>match idx a0 (IntKind.wrap .i64 (a2+a3))with|none=>none|some x15=>match idx (BA a0 (AK (IntKind.wrap .i64 (a2+a3))) (AY a0 (AK (IntKind.wrap .i64 (a2+(IntKind.wrap .i64 ((IntKind.wrap .i64 (2*a3))+1))))) z)) (IntKind.wrap .i64 (a2+(IntKind.wrap .i64 ((IntKind.wrap .i64 (2*a3))+1))))with|none=>none|some x16=>some (.inl ((BA (BA a0 (AK (IntKind.wrap .i64 (a2+a3))) (AY a0 (AK (IntKind.wrap .i64 (a2+(IntKind.wrap .i64 ((IntKind.wrap .i64 (2*a3))+1))))) z)) (AK (IntKind.wrap .i64 (a2+(IntKind.wrap .i64 ((IntKind.wrap .i64 (2*a3))+1))))) (AY a0 (AK (IntKind.wrap .i64 (a2+a3))) z)),a1,a2,(IntKind.wrap .i64 ((IntKind.wrap .i64 (2*a3))+1)),()))
 |false=>match idx a0 (IntKind.wrap .i64 (a2+a3))with|none=>none|some x17=>match idx a0 (IntKind.wrap .i64 (a2+(IntKind.wrap .i64 ((IntKind.wrap .i64 (2*a3))+1))))with|none=>none|some x18=>match c ((AY a0 (AK (IntKind.wrap .i64 (a2+a3))) z),(AY a0 (AK (IntKind.wrap .i64 (a2+(IntKind.wrap .i64 ((IntKind.wrap .i64 (2*a3))+1))))) z),())with|none=>none|some (y19,_)=>match(!(ilt y19 0))with
 |true=>some (.inr (.inr (.inl (a0,()))))
 |false=>match idx a0 (IntKind.wrap .i64 (a2+(IntKind.wrap .i64 ((IntKind.wrap .i64 (2*a3))+1))))with|none=>none|some x20=>match idx a0 (IntKind.wrap .i64 (a2+a3))with|none=>none|some x21=>match idx a0 (IntKind.wrap .i64 (a2+a3))with|none=>none|some x22=>match idx (BA a0 (AK (IntKind.wrap .i64 (a2+a3))) (AY a0 (AK (IntKind.wrap .i64 (a2+(IntKind.wrap .i64 ((IntKind.wrap .i64 (2*a3))+1))))) z)) (IntKind.wrap .i64 (a2+(IntKind.wrap .i64 ((IntKind.wrap .i64 (2*a3))+1))))with|none=>none|some x23=>some (.inl ((BA (BA a0 (AK (IntKind.wrap .i64 (a2+a3))) (AY a0 (AK (IntKind.wrap .i64 (a2+(IntKind.wrap .i64 ((IntKind.wrap .i64 (2*a3))+1))))) z)) (AK (IntKind.wrap .i64 (a2+(IntKind.wrap .i64 ((IntKind.wrap .i64 (2*a3))+1))))) (AY a0 (AK (IntKind.wrap .i64 (a2+a3))) z)),a1,a2,(IntKind.wrap .i64 ((IntKind.wrap .i64 (2*a3))+1)),()))
def QP[Lk]{α:Type}(z:α)(c:α×α×Unit→Option U9):(List α×Int×Int×Int×Unit)→Option ((List α×Unit)):=fun(a0,a1,a2,a3,_)=>
 match AW (J4 z c) many (a0,a2,a3,a1,())with|none=>none|some r=>match r with
 |.inl (o0,_)=>some (o0,())
 |.inr r=>match r with
 |.inl (o1,_)=>some (o1,())
 |.inr _=>none
def AE9[Lk]{α:Type}(z:α)(c:α×α×Unit→Option U9)(v:(List α×Int×Int×Int×Unit)):Option ((List α×Unit)):=Lk.f ((QP z c) v)
theorem AaX{α:Type}(z:α)(c:α×α×Unit→Option U9)(v:(List α×Int×Int×Int×Unit)):(AE9 z c) v=(QP z c) v:=AG _
def KN[Lk]{α:Type}(z:α)(c:α×α×Unit→Option U9):(List α×Int×Int×Int×Unit)→Option ((List α×Int×Int×Int×Unit)⊕(List α×Unit)⊕Unit):=fun(a0,a1,a2,a3,_)=>
 match(ile 0 a3)with
 |true=>match idx a0 (IntKind.wrap .i64 (a1+a3))with|none=>none|some x0=>match idx a0 a1 with|none=>none|some x1=>match idx a0 a1 with|none=>none|some x2=>match idx (BA a0 (AK a1) (AY a0 (AK (IntKind.wrap .i64 (a1+a3))) z)) (IntKind.wrap .i64 (a1+a3))with|none=>none|some x3=>match(AE9 z c) ((BA (BA a0 (AK a1) (AY a0 (AK (IntKind.wrap .i64 (a1+a3))) z)) (AK (IntKind.wrap .i64 (a1+a3))) (AY a0 (AK a1) z)),a2,a3,a1,())with|none=>none|some (y4,_)=>some (.inl (y4,a1,a2,(IntKind.wrap .i64 (a3-1)),()))
 |false=>some (.inr (.inl (a0,())))
def KO[Lk]{α:Type}(z:α)(c:α×α×Unit→Option U9):(List α×Int×Int×Int×Int×Unit)→Option ((List α×Int×Int×Int×Int×Unit)⊕(List α×Int×Int×Int×Unit)⊕Unit):=fun(a0,a1,a2,a3,a4,_)=>
 match(ile 0 a4)with
 |true=>match(AE9 z c) (a0,a4,a3,a1,())with|none=>none|some (y0,_)=>some (.inl (y0,a1,a2,a3,(IntKind.wrap .i64 (a4-1)),()))
 |false=>some (.inr (.inl (a0,a1,a2,a3,())))
def Q7[Lk]{α:Type}(z:α)(c:α×α×Unit→Option U9):(List α×Int×Int×Unit)→Option ((List α×Unit)):=fun(a0,a1,a2,_)=>
 match quo? .i64 (IntKind.wrap .i64 ((IntKind.wrap .i64 (a2-a1))-1)) 2 with|none=>none|some x0=>match AW (KO z c) many (a0,a1,0,(IntKind.wrap .i64 (a2-a1)),x0,())with|none=>none|some r=>match r with
 |.inl (o1,o2,o3,o4,_)=>match AW (KN z c) many (o1,o2,o3,(IntKind.wrap .i64 (o4-1)),())with|none=>none|some r=>match r with
  |.inl (o5,_)=>some (o5,())
  |.inr _=>none
 |.inr _=>none
def ANt[Lk]{α:Type}(z:α)(c:α×α×Unit→Option U9)(v:(List α×Int×Int×Unit)):Option ((List α×Unit)):=Lk.f ((Q7 z c) v)
theorem AcN{α:Type}(z:α)(c:α×α×Unit→Option U9)(v:(List α×Int×Int×Unit)):(ANt z c) v=(Q7 z c) v:=AG _
def Fv[Lk]{α:Type}(z:α)(c:α×α×Unit→Option U9):(List α×Int×Int×Int×Int×Int×Unit)→Option ((List α×Int×Int×Int×Int×Int×Unit)⊕(List α×Unit)⊕Unit):=fun(a0,a1,a2,a3,a4,a5,_)=>
 match quo? .i64 a2 4 with|none=>none|some x0=>match(ile a5 (IntKind.wrap .i64 ((IntKind.wrap .i64 (a1+(IntKind.wrap .i64 (x0*2))))+1)))with
 |true=>match xorNext (a3,())with|none=>none|some (y1,y2,_)=>match(ile a2 (IntKind.wrap .i64 (IntKind.wrap .u64 ((BitVec.ofInt (IntKind.bits .u64) y2 &&& BitVec.ofInt (IntKind.bits .u64) (IntKind.wrap .u64 (a4-1))).toNat))))with
  |true=>match idx a0 (IntKind.wrap .i64 (a1+(IntKind.wrap .i64 ((IntKind.wrap .i64 (IntKind.wrap .u64 ((BitVec.ofInt (IntKind.bits .u64) y2 &&& BitVec.ofInt (IntKind.bits .u64) (IntKind.wrap .u64 (a4-1))).toNat)))-a2))))with|none=>none|some x3=>match idx a0 a5 with|none=>none|some x4=>match idx a0 a5 with|none=>none|some x5=>match idx (BA a0 (AK a5) (AY a0 (AK (IntKind.wrap .i64 (a1+(IntKind.wrap .i64 ((IntKind.wrap .i64 (IntKind.wrap .u64 ((BitVec.ofInt (IntKind.bits .u64) y2 &&& BitVec.ofInt (IntKind.bits .u64) (IntKind.wrap .u64 (a4-1))).toNat)))-a2))))) z)) (IntKind.wrap .i64 (a1+(IntKind.wrap .i64 ((IntKind.wrap .i64 (IntKind.wrap .u64 ((BitVec.ofInt (IntKind.bits .u64) y2 &&& BitVec.ofInt (IntKind.bits .u64) (IntKind.wrap .u64 (a4-1))).toNat)))-a2))))with|none=>none|some x6=>some (.inl ((BA (BA a0 (AK a5) (AY a0 (AK (IntKind.wrap .i64 (a1+(IntKind.wrap .i64 ((IntKind.wrap .i64 (IntKind.wrap .u64 ((BitVec.ofInt (IntKind.bits .u64) y2 &&& BitVec.ofInt (IntKind.bits .u64) (IntKind.wrap .u64 (a4-1))).toNat)))-a2))))) z)) (AK (IntKind.wrap .i64 (a1+(IntKind.wrap .i64 ((IntKind.wrap .i64 (IntKind.wrap .u64 ((BitVec.ofInt (IntKind.bits .u64) y2 &&& BitVec.ofInt (IntKind.bits .u64) (IntKind.wrap .u64 (a4-1))).toNat)))-a2))))) (AY a0 (AK a5) z)),a1,a2,y1,a4,(IntKind.wrap .i64 (a5+1)),()))
  |false=>match idx a0 (IntKind.wrap .i64 (a1+(IntKind.wrap .i64 (IntKind.wrap .u64 ((BitVec.ofInt (IntKind.bits .u64) y2 &&& BitVec.ofInt (IntKind.bits .u64) (IntKind.wrap .u64 (a4-1))).toNat)))))with|none=>none|some x7=>match idx a0 a5 with|none=>none|some x8=>match idx a0 a5 with|none=>none|some x9=>match idx (BA a0 (AK a5) (AY a0 (AK (IntKind.wrap .i64 (a1+(IntKind.wrap .i64 (IntKind.wrap .u64 ((BitVec.ofInt (IntKind.bits .u64) y2 &&& BitVec.ofInt (IntKind.bits .u64) (IntKind.wrap .u64 (a4-1))).toNat)))))) z)) (IntKind.wrap .i64 (a1+(IntKind.wrap .i64 (IntKind.wrap .u64 ((BitVec.ofInt (IntKind.bits .u64) y2 &&& BitVec.ofInt (IntKind.bits .u64) (IntKind.wrap .u64 (a4-1))).toNat)))))with|none=>none|some x10=>some (.inl ((BA (BA a0 (AK a5) (AY a0 (AK (IntKind.wrap .i64 (a1+(IntKind.wrap .i64 (IntKind.wrap .u64 ((BitVec.ofInt (IntKind.bits .u64) y2 &&& BitVec.ofInt (IntKind.bits .u64) (IntKind.wrap .u64 (a4-1))).toNat)))))) z)) (AK (IntKind.wrap .i64 (a1+(IntKind.wrap .i64 (IntKind.wrap .u64 ((BitVec.ofInt (IntKind.bits .u64) y2 &&& BitVec.ofInt (IntKind.bits .u64) (IntKind.wrap .u64 (a4-1))).toNat)))))) (AY a0 (AK a5) z)),a1,a2,y1,a4,(IntKind.wrap .i64 (a5+1)),()))
 |false=>some (.inr (.inl (a0,())))
def NP[Lk]{α:Type}(z:α)(c:α×α×Unit→Option U9):(List α×Int×Int×Unit)→Option ((List α×Unit)):=fun(a0,a1,a2,_)=>
 match(ile 8 (IntKind.wrap .i64 (a2-a1)))with
 |true=>match Ql ((IntKind.wrap .i64 (a2-a1)),())with|none=>none|some (y0,_)=>match quo? .i64 (IntKind.wrap .i64 (a2-a1)) 4 with|none=>none|some x1=>match AW (Fv z c) many (a0,a1,(IntKind.wrap .i64 (a2-a1)),(IntKind.wrap .u64 (IntKind.wrap .i64 (a2-a1))),y0,(IntKind.wrap .i64 ((IntKind.wrap .i64 (a1+(IntKind.wrap .i64 (x1*2))))-1)),())with|none=>none|some r=>match r with
  |.inl (o2,_)=>some (o2,())
  |.inr _=>none
 |false=>some (a0,())
def AC1[Lk]{α:Type}(z:α)(c:α×α×Unit→Option U9)(v:(List α×Int×Int×Unit)):Option ((List α×Unit)):=Lk.f ((NP z c) v)
theorem AZJ{α:Type}(z:α)(c:α×α×Unit→Option U9)(v:(List α×Int×Int×Unit)):(AC1 z c) v=(NP z c) v:=AG _
def KB[Lk]{α:Type}(z:α)(c:α×α×Unit→Option U9):(List α×Int×Int×Int×Unit)→Option ((List α×Int×Int×Int×Unit)):=fun(a0,a1,a2,a3,_)=>
 match idx a0 a2 with|none=>none|some x0=>match idx a0 a1 with|none=>none|some x1=>match c ((AY a0 (AK a2) z),(AY a0 (AK a1) z),())with|none=>none|some (y2,_)=>match(ilt y2 0)with
 |true=>some (a0,(IntKind.wrap .i64 (a3+1)),a2,a1,())
 |false=>some (a0,a3,a1,a2,())
def Kx[Lk]{α:Type}(z:α)(c:α×α×Unit→Option U9)(v:(List α×Int×Int×Int×Unit)):Option ((List α×Int×Int×Int×Unit)):=Lk.f ((KB z c) v)
theorem ARr{α:Type}(z:α)(c:α×α×Unit→Option U9)(v:(List α×Int×Int×Int×Unit)):(Kx z c) v=(KB z c) v:=AG _
def KF[Lk]{α:Type}(z:α)(c:α×α×Unit→Option U9):(List α×Int×Int×Int×Int×Unit)→Option ((List α×Int×Int×Unit)):=fun(a0,a1,a2,a3,a4,_)=>
 match(Kx z c) (a0,a1,a2,a4,())with|none=>none|some (y0,y1,y2,y3,_)=>match(Kx z c) (y0,y3,a3,y1,())with|none=>none|some (y4,y5,y6,y7,_)=>match(Kx z c) (y4,y2,y6,y5,())with|none=>none|some (y8,y9,y10,y11,_)=>some (y8,y9,y11,())
def K8[Lk]{α:Type}(z:α)(c:α×α×Unit→Option U9)(v:(List α×Int×Int×Int×Int×Unit)):Option ((List α×Int×Int×Unit)):=Lk.f ((KF z c) v)
theorem ASG{α:Type}(z:α)(c:α×α×Unit→Option U9)(v:(List α×Int×Int×Int×Int×Unit)):(K8 z c) v=(KF z c) v:=AG _
def KG[Lk]{α:Type}(z:α)(c:α×α×Unit→Option U9):(List α×Int×Int×Unit)→Option ((List α×Int×Int×Unit)):=fun(a0,a1,a2,_)=>
 match(K8 z c) (a0,(IntKind.wrap .i64 (a1-1)),a1,(IntKind.wrap .i64 (a1+1)),a2,())with|none=>none|some (y0,y1,y2,_)=>some (y0,y1,y2,())
def K9[Lk]{α:Type}(z:α)(c:α×α×Unit→Option U9)(v:(List α×Int×Int×Unit)):Option ((List α×Int×Int×Unit)):=Lk.f ((KG z c) v)
theorem ASJ{α:Type}(z:α)(c:α×α×Unit→Option U9)(v:(List α×Int×Int×Unit)):(K9 z c) v=(KG z c) v:=AG _
def Me[Lk]{α:Type}(z:α)(c:α×α×Unit→Option U9):(List α×Int×Int×Unit)→Option ((List α×Int×Int×Unit)):=fun(a0,a1,a2,_)=>
 match quo? .i64 (IntKind.wrap .i64 (a2-a1)) 4 with|none=>none|some x0=>match quo? .i64 (IntKind.wrap .i64 (a2-a1)) 4 with|none=>none|some x1=>match quo? .i64 (IntKind.wrap .i64 (a2-a1)) 4 with|none=>none|some x2=>match(ile 8 (IntKind.wrap .i64 (a2-a1)))with
 |true=>match(ile 50 (IntKind.wrap .i64 (a2-a1)))with
  |true=>match(K9 z c) (a0,(IntKind.wrap .i64 (a1+(IntKind.wrap .i64 (x0*1)))),0,())with|none=>none|some (y3,y4,y5,_)=>match(K9 z c) (y3,(IntKind.wrap .i64 (a1+(IntKind.wrap .i64 (x1*2)))),y4,())with|none=>none|some (y6,y7,y8,_)=>match(K9 z c) (y6,(IntKind.wrap .i64 (a1+(IntKind.wrap .i64 (x2*3)))),y7,())with|none=>none|some (y9,y10,y11,_)=>match(K8 z c) (y9,y5,y8,y11,y10,())with|none=>none|some (y12,y13,y14,_)=>match(ieq y13 0)with
   |true=>some (y12,y14,1,())
   |false=>match(ieq y13 12)with
   |true=>some (y12,y14,2,())
   |false=>some (y12,y14,0,())
  |false=>match(K8 z c) (a0,(IntKind.wrap .i64 (a1+(IntKind.wrap .i64 (x0*1)))),(IntKind.wrap .i64 (a1+(IntKind.wrap .i64 (x1*2)))),(IntKind.wrap .i64 (a1+(IntKind.wrap .i64 (x2*3)))),0,())with|none=>none|some (y15,y16,y17,_)=>match(ieq y16 0)with
  |true=>some (y15,y17,1,())
  |false=>match(ieq y16 12)with
  |true=>some (y15,y17,2,())
  |false=>some (y15,y17,0,())
 |false=>match(ieq 0 0)with
 |true=>some (a0,(IntKind.wrap .i64 (a1+(IntKind.wrap .i64 (x1*2)))),1,())
 |false=>match(ieq 0 12)with
 |true=>some (a0,(IntKind.wrap .i64 (a1+(IntKind.wrap .i64 (x1*2)))),2,())
 |false=>some (a0,(IntKind.wrap .i64 (a1+(IntKind.wrap .i64 (x1*2)))),0,())
def AAN[Lk]{α:Type}(z:α)(c:α×α×Unit→Option U9)(v:(List α×Int×Int×Unit)):Option ((List α×Int×Int×Unit)):=Lk.f ((Me z c) v)
theorem AXJ{α:Type}(z:α)(c:α×α×Unit→Option U9)(v:(List α×Int×Int×Unit)):(AAN z c) v=(Me z c) v:=AG _
def QX[Lk]{α:Type}(z:α)(c:α×α×Unit→Option U9):(List α×Int×Int×Unit)→Option ((List α×Int×Int×Unit)⊕(List α×Unit)⊕Unit):=fun(a0,a1,a2,_)=>
 match(ilt a1 a2)with
 |true=>match idx a0 a2 with|none=>none|some x0=>match idx a0 a1 with|none=>none|some x1=>match idx a0 a1 with|none=>none|some x2=>match idx (BA a0 (AK a1) (AY a0 (AK a2) z)) a2 with|none=>none|some x3=>some (.inl ((BA (BA a0 (AK a1) (AY a0 (AK a2) z)) (AK a2) (AY a0 (AK a1) z)),(IntKind.wrap .i64 (a1+1)),(IntKind.wrap .i64 (a2-1)),()))
 |false=>some (.inr (.inl (a0,())))
def Z5[Lk]{α:Type}(z:α)(c:α×α×Unit→Option U9):(List α×Int×Int×Unit)→Option ((List α×Unit)):=fun(a0,a1,a2,_)=>
 match AW (QX z c) many (a0,a1,(IntKind.wrap .i64 (a2-1)),())with|none=>none|some r=>match r with
 |.inl (o0,_)=>some (o0,())
 |.inr _=>none
def Aaq[Lk]{α:Type}(z:α)(c:α×α×Unit→Option U9)(v:(List α×Int×Int×Unit)):Option ((List α×Unit)):=Lk.f ((Z5 z c) v)
theorem AeL{α:Type}(z:α)(c:α×α×Unit→Option U9)(v:(List α×Int×Int×Unit)):(Aaq z c) v=(Z5 z c) v:=AG _
def Ek[Lk]{α:Type}(z:α)(c:α×α×Unit→Option U9):(List α×Int×Int×Int×Int×Int×Unit)→Option ((List α×Int×Int×Int×Int×Int×Unit)⊕(List α×Int×Int×Int×Int×Unit)⊕Unit):=fun(a0,a1,a2,a3,a4,a5,_)=>
 match(ilt a5 a2)with
 |true=>match idx a0 a5 with|none=>none|some x0=>match idx a0 (IntKind.wrap .i64 (a5-1))with|none=>none|some x1=>match c ((AY a0 (AK a5) z),(AY a0 (AK (IntKind.wrap .i64 (a5-1))) z),())with|none=>none|some (y2,_)=>match(!(ilt y2 0))with
  |true=>some (.inr (.inl (a0,a1,a2,a3,a4,())))
  |false=>match idx a0 (IntKind.wrap .i64 (a5-1))with|none=>none|some x3=>match idx a0 a5 with|none=>none|some x4=>match idx a0 a5 with|none=>none|some x5=>match idx (BA a0 (AK a5) (AY a0 (AK (IntKind.wrap .i64 (a5-1))) z)) (IntKind.wrap .i64 (a5-1))with|none=>none|some x6=>some (.inl ((BA (BA a0 (AK a5) (AY a0 (AK (IntKind.wrap .i64 (a5-1))) z)) (AK (IntKind.wrap .i64 (a5-1))) (AY a0 (AK a5) z)),a1,a2,a3,a4,(IntKind.wrap .i64 (a5+1)),()))
 |false=>some (.inr (.inl (a0,a1,a2,a3,a4,())))
def El[Lk]{α:Type}(z:α)(c:α×α×Unit→Option U9):(List α×Int×Int×Int×Int×Int×Unit)→Option ((List α×Int×Int×Int×Int×Int×Unit)⊕(List α×Int×Int×Int×Int×Unit)⊕Unit):=fun(a0,a1,a2,a3,a4,a5,_)=>
 match(ile 1 a5)with
 |true=>match idx a0 a5 with|none=>none|some x0=>match idx a0 (IntKind.wrap .i64 (a5-1))with|none=>none|some x1=>match c ((AY a0 (AK a5) z),(AY a0 (AK (IntKind.wrap .i64 (a5-1))) z),())with|none=>none|some (y2,_)=>match(!(ilt y2 0))with
  |true=>some (.inr (.inl (a0,a1,a2,a3,a4,())))
  |false=>match idx a0 (IntKind.wrap .i64 (a5-1))with|none=>none|some x3=>match idx a0 a5 with|none=>none|some x4=>match idx a0 a5 with|none=>none|some x5=>match idx (BA a0 (AK a5) (AY a0 (AK (IntKind.wrap .i64 (a5-1))) z)) (IntKind.wrap .i64 (a5-1))with|none=>none|some x6=>some (.inl ((BA (BA a0 (AK a5) (AY a0 (AK (IntKind.wrap .i64 (a5-1))) z)) (AK (IntKind.wrap .i64 (a5-1))) (AY a0 (AK a5) z)),a1,a2,a3,a4,(IntKind.wrap .i64 (a5-1)),()))
 |false=>some (.inr (.inl (a0,a1,a2,a3,a4,())))
def GV[Lk]{α:Type}(z:α)(c:α×α×Unit→Option U9):(List α×Int×Int×Int×Int×Unit)→Option ((List α×Int×Int×Int×Int×Unit)⊕(List α×Int×Int×Int×Int×Unit)⊕Unit):=fun(a0,a1,a2,a3,a4,_)=>
 match(ilt a3 a2)with
 |true=>match idx a0 a3 with|none=>none|some x0=>match idx a0 (IntKind.wrap .i64 (a3-1))with|none=>none|some x1=>match c ((AY a0 (AK a3) z),(AY a0 (AK (IntKind.wrap .i64 (a3-1))) z),())with|none=>none|some (y2,_)=>match(!(ilt y2 0))with
  |true=>some (.inl (a0,a1,a2,(IntKind.wrap .i64 (a3+1)),a4,()))
  |false=>some (.inr (.inl (a0,a1,a2,a3,a4,())))
 |false=>some (.inr (.inl (a0,a1,a2,a3,a4,())))
def CT[Lk]{α:Type}(z:α)(c:α×α×Unit→Option U9):(List α×Int×Int×Int×Int×Unit)→Option ((List α×Int×Int×Int×Int×Unit)⊕(List α×Bool×Unit)⊕(List α×Unit)⊕Unit):=fun(a0,a1,a2,a3,a4,_)=>
 match(ilt a4 5)with
 |true=>match AW (GV z c) many (a0,a1,a2,a3,a4,())with|none=>none|some r=>match r with
  |.inl (o0,o1,o2,o3,o4,_)=>match(ieq o3 o2)with
   |true=>some (.inr (.inl (o0,true,())))
   |false=>match(ilt (IntKind.wrap .i64 (o2-o1)) 50)with
   |true=>some (.inr (.inl (o0,false,())))
   |false=>match idx o0 (IntKind.wrap .i64 (o3-1))with|none=>none|some x5=>match idx o0 o3 with|none=>none|some x6=>match idx o0 o3 with|none=>none|some x7=>match idx (BA o0 (AK o3) (AY o0 (AK (IntKind.wrap .i64 (o3-1))) z)) (IntKind.wrap .i64 (o3-1))with|none=>none|some x8=>match(ile 2 (IntKind.wrap .i64 (o3-o1)))with
   |true=>match AW (El z c) many ((BA (BA o0 (AK o3) (AY o0 (AK (IntKind.wrap .i64 (o3-1))) z)) (AK (IntKind.wrap .i64 (o3-1))) (AY o0 (AK o3) z)),o1,o2,o3,o4,(IntKind.wrap .i64 (o3-1)),())with|none=>none|some r=>match r with
    |.inl (o9,o10,o11,o12,o13,_)=>match(ile 2 (IntKind.wrap .i64 (o11-o12)))with
     |true=>match AW (Ek z c) many (o9,o10,o11,o12,o13,(IntKind.wrap .i64 (o12+1)),())with|none=>none|some r=>match r with
      |.inl (o14,o15,o16,o17,o18,_)=>some (.inl (o14,o15,o16,o17,(IntKind.wrap .i64 (o18+1)),()))
      |.inr _=>none
     |false=>some (.inl (o9,o10,o11,o12,(IntKind.wrap .i64 (o13+1)),()))
    |.inr _=>none
   |false=>match(ile 2 (IntKind.wrap .i64 (o2-o3)))with
   |true=>match AW (Ek z c) many ((BA (BA o0 (AK o3) (AY o0 (AK (IntKind.wrap .i64 (o3-1))) z)) (AK (IntKind.wrap .i64 (o3-1))) (AY o0 (AK o3) z)),o1,o2,o3,o4,(IntKind.wrap .i64 (o3+1)),())with|none=>none|some r=>match r with
    |.inl (o19,o20,o21,o22,o23,_)=>some (.inl (o19,o20,o21,o22,(IntKind.wrap .i64 (o23+1)),()))
    |.inr _=>none
   |false=>some (.inl ((BA (BA o0 (AK o3) (AY o0 (AK (IntKind.wrap .i64 (o3-1))) z)) (AK (IntKind.wrap .i64 (o3-1))) (AY o0 (AK o3) z)),o1,o2,o3,(IntKind.wrap .i64 (o4+1)),()))
  |.inr _=>none
 |false=>some (.inr (.inr (.inl (a0,()))))
def Hp[Lk]{α:Type}(z:α)(c:α×α×Unit→Option U9):(List α×Int×Int×Unit)→Option ((List α×Bool×Unit)):=fun(a0,a1,a2,_)=>
 match AW (CT z c) many (a0,a1,a2,(IntKind.wrap .i64 (a1+1)),0,())with|none=>none|some r=>match r with
 |.inl (o0,o1,_)=>some (o0,o1,())
 |.inr r=>match r with
 |.inl (o2,_)=>some (o2,false,())
 |.inr _=>none
def Mf[Lk]{α:Type}(z:α)(c:α×α×Unit→Option U9)(v:(List α×Int×Int×Unit)):Option ((List α×Bool×Unit)):=Lk.f ((Hp z c) v)
theorem AMb{α:Type}(z:α)(c:α×α×Unit→Option U9)(v:(List α×Int×Int×Unit)):(Mf z c) v=(Hp z c) v:=AG _
def Hq[Lk]{α:Type}(z:α)(c:α×α×Unit→Option U9):(List α×Int×Int×Int×Unit)→Option ((List α×Int×Int×Int×Unit)⊕(List α×Int×Int×Int×Unit)⊕Unit):=fun(a0,a1,a2,a3,_)=>
 match(ile a2 a3)with
 |true=>match idx a0 a1 with|none=>none|some x0=>match idx a0 a3 with|none=>none|some x1=>match c ((AY a0 (AK a1) z),(AY a0 (AK a3) z),())with|none=>none|some (y2,_)=>match(ilt y2 0)with
  |true=>some (.inl (a0,a1,a2,(IntKind.wrap .i64 (a3-1)),()))
  |false=>some (.inr (.inl (a0,a1,a2,a3,())))
 |false=>some (.inr (.inl (a0,a1,a2,a3,())))
def Hr[Lk]{α:Type}(z:α)(c:α×α×Unit→Option U9):(List α×Int×Int×Int×Unit)→Option ((List α×Int×Int×Int×Unit)⊕(List α×Int×Int×Int×Unit)⊕Unit):=fun(a0,a1,a2,a3,_)=>
 match(ile a2 a3)with
 |true=>match idx a0 a1 with|none=>none|some x0=>match idx a0 a2 with|none=>none|some x1=>match c ((AY a0 (AK a1) z),(AY a0 (AK a2) z),())with|none=>none|some (y2,_)=>match(!(ilt y2 0))with
  |true=>some (.inl (a0,a1,(IntKind.wrap .i64 (a2+1)),a3,()))
  |false=>some (.inr (.inl (a0,a1,a2,a3,())))
 |false=>some (.inr (.inl (a0,a1,a2,a3,())))
def Hs[Lk]{α:Type}(z:α)(c:α×α×Unit→Option U9):(List α×Int×Int×Int×Unit)→Option ((List α×Int×Int×Int×Unit)⊕(List α×Int×Unit)⊕Unit):=fun(a0,a1,a2,a3,_)=>
 match AW (Hr z c) many (a0,a1,a2,a3,())with|none=>none|some r=>match r with
 |.inl (o0,o1,o2,o3,_)=>match AW (Hq z c) many (o0,o1,o2,o3,())with|none=>none|some r=>match r with
  |.inl (o4,o5,o6,o7,_)=>match(ilt o7 o6)with
   |true=>some (.inr (.inl (o4,o6,())))
   |false=>match idx o4 o7 with|none=>none|some x8=>match idx o4 o6 with|none=>none|some x9=>match idx o4 o6 with|none=>none|some x10=>match idx (BA o4 (AK o6) (AY o4 (AK o7) z)) o7 with|none=>none|some x11=>some (.inl ((BA (BA o4 (AK o6) (AY o4 (AK o7) z)) (AK o7) (AY o4 (AK o6) z)),o5,(IntKind.wrap .i64 (o6+1)),(IntKind.wrap .i64 (o7-1)),()))
  |.inr _=>none
 |.inr _=>none
def J9[Lk]{α:Type}(z:α)(c:α×α×Unit→Option U9):(List α×Int×Int×Int×Unit)→Option ((List α×Int×Unit)):=fun(a0,a1,a2,a3,_)=>
 match idx a0 a3 with|none=>none|some x0=>match idx a0 a1 with|none=>none|some x1=>match idx a0 a1 with|none=>none|some x2=>match idx (BA a0 (AK a1) (AY a0 (AK a3) z)) a3 with|none=>none|some x3=>match AW (Hs z c) many ((BA (BA a0 (AK a1) (AY a0 (AK a3) z)) (AK a3) (AY a0 (AK a1) z)),a1,(IntKind.wrap .i64 (a1+1)),(IntKind.wrap .i64 (a2-1)),())with|none=>none|some r=>match r with
 |.inl (o4,o5,_)=>some (o4,o5,())
 |.inr _=>none
def Qh[Lk]{α:Type}(z:α)(c:α×α×Unit→Option U9)(v:(List α×Int×Int×Int×Unit)):Option ((List α×Int×Unit)):=Lk.f ((J9 z c) v)
theorem ARh{α:Type}(z:α)(c:α×α×Unit→Option U9)(v:(List α×Int×Int×Int×Unit)):(Qh z c) v=(J9 z c) v:=AG _
def Mg[Lk]{α:Type}(z:α)(c:α×α×Unit→Option U9):(List α×Int×Int×Int×Unit)→Option ((List α×Int×Int×Int×Unit)⊕(List α×Int×Int×Int×Unit)⊕Unit):=fun(a0,a1,a2,a3,_)=>
 match(ile a2 a3)with
 |true=>match idx a0 a3 with|none=>none|some x0=>match idx a0 a1 with|none=>none|some x1=>match c ((AY a0 (AK a3) z),(AY a0 (AK a1) z),())with|none=>none|some (y2,_)=>match(!(ilt y2 0))with
  |true=>some (.inl (a0,a1,a2,(IntKind.wrap .i64 (a3-1)),()))
  |false=>some (.inr (.inl (a0,a1,a2,a3,())))
 |false=>some (.inr (.inl (a0,a1,a2,a3,())))
def Mh[Lk]{α:Type}(z:α)(c:α×α×Unit→Option U9):(List α×Int×Int×Int×Unit)→Option ((List α×Int×Int×Int×Unit)⊕(List α×Int×Int×Int×Unit)⊕Unit):=fun(a0,a1,a2,a3,_)=>
 match(ile a2 a3)with
 |true=>match idx a0 a2 with|none=>none|some x0=>match idx a0 a1 with|none=>none|some x1=>match c ((AY a0 (AK a2) z),(AY a0 (AK a1) z),())with|none=>none|some (y2,_)=>match(ilt y2 0)with
  |true=>some (.inl (a0,a1,(IntKind.wrap .i64 (a2+1)),a3,()))
  |false=>some (.inr (.inl (a0,a1,a2,a3,())))
 |false=>some (.inr (.inl (a0,a1,a2,a3,())))
def Mi[Lk]{α:Type}(z:α)(c:α×α×Unit→Option U9):(List α×Int×Int×Int×Unit)→Option ((List α×Int×Int×Int×Unit)⊕(List α×Int×Int×Unit)⊕Unit):=fun(a0,a1,a2,a3,_)=>
 match AW (Mh z c) many (a0,a1,a2,a3,())with|none=>none|some r=>match r with
 |.inl (o0,o1,o2,o3,_)=>match AW (Mg z c) many (o0,o1,o2,o3,())with|none=>none|some r=>match r with
  |.inl (o4,o5,o6,o7,_)=>match(ilt o7 o6)with
   |true=>some (.inr (.inl (o4,o5,o7,())))
   |false=>match idx o4 o7 with|none=>none|some x8=>match idx o4 o6 with|none=>none|some x9=>match idx o4 o6 with|none=>none|some x10=>match idx (BA o4 (AK o6) (AY o4 (AK o7) z)) o7 with|none=>none|some x11=>some (.inl ((BA (BA o4 (AK o6) (AY o4 (AK o7) z)) (AK o7) (AY o4 (AK o6) z)),o5,(IntKind.wrap .i64 (o6+1)),(IntKind.wrap .i64 (o7-1)),()))
  |.inr _=>none
 |.inr _=>none
def Mj[Lk]{α:Type}(z:α)(c:α×α×Unit→Option U9):(List α×Int×Int×Int×Unit)→Option ((List α×Int×Int×Int×Unit)⊕(List α×Int×Int×Int×Unit)⊕Unit):=fun(a0,a1,a2,a3,_)=>
 match(ile a2 a3)with
 |true=>match idx a0 a3 with|none=>none|some x0=>match idx a0 a1 with|none=>none|some x1=>match c ((AY a0 (AK a3) z),(AY a0 (AK a1) z),())with|none=>none|some (y2,_)=>match(!(ilt y2 0))with
  |true=>some (.inl (a0,a1,a2,(IntKind.wrap .i64 (a3-1)),()))
  |false=>some (.inr (.inl (a0,a1,a2,a3,())))
 |false=>some (.inr (.inl (a0,a1,a2,a3,())))
def Mk[Lk]{α:Type}(z:α)(c:α×α×Unit→Option U9):(List α×Int×Int×Int×Unit)→Option ((List α×Int×Int×Int×Unit)⊕(List α×Int×Int×Int×Unit)⊕Unit):=fun(a0,a1,a2,a3,_)=>
 match(ile a2 a3)with
 |true=>match idx a0 a2 with|none=>none|some x0=>match idx a0 a1 with|none=>none|some x1=>match c ((AY a0 (AK a2) z),(AY a0 (AK a1) z),())with|none=>none|some (y2,_)=>match(ilt y2 0)with
  |true=>some (.inl (a0,a1,(IntKind.wrap .i64 (a2+1)),a3,()))
  |false=>some (.inr (.inl (a0,a1,a2,a3,())))
 |false=>some (.inr (.inl (a0,a1,a2,a3,())))
def Qg[Lk]{α:Type}(z:α)(c:α×α×Unit→Option U9):(List α×Int×Int×Int×Unit)→Option ((List α×Int×Bool×Unit)):=fun(a0,a1,a2,a3,_)=>
 match idx a0 a3 with|none=>none|some x0=>match idx a0 a1 with|none=>none|some x1=>match idx a0 a1 with|none=>none|some x2=>match idx (BA a0 (AK a1) (AY a0 (AK a3) z)) a3 with|none=>none|some x3=>match AW (Mk z c) many ((BA (BA a0 (AK a1) (AY a0 (AK a3) z)) (AK a3) (AY a0 (AK a1) z)),a1,(IntKind.wrap .i64 (a1+1)),(IntKind.wrap .i64 (a2-1)),())with|none=>none|some r=>match r with
 |.inl (o4,o5,o6,o7,_)=>match AW (Mj z c) many (o4,o5,o6,o7,())with|none=>none|some r=>match r with
  |.inl (o8,o9,o10,o11,_)=>match(ilt o11 o10)with
   |true=>match idx o8 o9 with|none=>none|some x12=>match idx o8 o11 with|none=>none|some x13=>match idx o8 o11 with|none=>none|some x14=>match idx (BA o8 (AK o11) (AY o8 (AK o9) z)) o9 with|none=>none|some x15=>some ((BA (BA o8 (AK o11) (AY o8 (AK o9) z)) (AK o9) (AY o8 (AK o11) z)),o11,true,())
   |false=>match idx o8 o11 with|none=>none|some x16=>match idx o8 o10 with|none=>none|some x17=>match idx o8 o10 with|none=>none|some x18=>match idx (BA o8 (AK o10) (AY o8 (AK o11) z)) o11 with|none=>none|some x19=>match AW (Mi z c) many ((BA (BA o8 (AK o10) (AY o8 (AK o11) z)) (AK o11) (AY o8 (AK o10) z)),o9,(IntKind.wrap .i64 (o10+1)),(IntKind.wrap .i64 (o11-1)),())with|none=>none|some r=>match r with
   |.inl (o20,o21,o22,_)=>match idx o20 o21 with|none=>none|some x23=>match idx o20 o22 with|none=>none|some x24=>match idx o20 o22 with|none=>none|some x25=>match idx (BA o20 (AK o22) (AY o20 (AK o21) z)) o21 with|none=>none|some x26=>some ((BA (BA o20 (AK o22) (AY o20 (AK o21) z)) (AK o21) (AY o20 (AK o22) z)),o22,false,())
   |.inr _=>none
  |.inr _=>none
 |.inr _=>none
def AAr[Lk]{α:Type}(z:α)(c:α×α×Unit→Option U9)(v:(List α×Int×Int×Int×Unit)):Option ((List α×Int×Bool×Unit)):=Lk.f ((Qg z c) v)
theorem AbK{α:Type}(z:α)(c:α×α×Unit→Option U9)(v:(List α×Int×Int×Int×Unit)):(AAr z c) v=(Qg z c) v:=AG _
def S5[Lk]{α:Type}(z:α)(c:α×α×Unit→Option U9)(self:(List α×Int×Int×Int×Unit)→Option ((List α×Unit)))(y7:List α)(a1 a2 p l:Int)(a4 a5:Bool):Option ((List α×Int×Int×Int×Bool×Bool×Unit)⊕(List α×Unit)⊕Unit):=
 match(ilt 0 a1)with
 |true=>match idx y7 (IntKind.wrap .i64 (a1-1))with|none=>none|some x9=>match idx y7 p with|none=>none|some x10=>match c ((AY y7 (AK (IntKind.wrap .i64 (a1-1))) z),(AY y7 (AK p) z),())with|none=>none|some (y11,_)=>match(!(ilt y11 0))with
  |true=>match(Qh z c) (y7,a1,a2,p,())with|none=>none|some (y12,y13,_)=>some (.inl (y12,y13,a2,l,a4,a5,()))
  |false=>match(AAr z c) (y7,a1,a2,p,())with|none=>none|some (y14,y15,y16,_)=>match quo? .i64 (IntKind.wrap .i64 (a2-a1)) 8 with|none=>none|some x17=>match(ilt (IntKind.wrap .i64 (y15-a1)) (IntKind.wrap .i64 (a2-y15)))with
  |true=>match self (y14,a1,y15,l,())with|none=>none|some (y18,_)=>some (.inl (y18,(IntKind.wrap .i64 (y15+1)),a2,l,(ile x17 (IntKind.wrap .i64 (y15-a1))),y16,()))
  |false=>match self (y14,(IntKind.wrap .i64 (y15+1)),a2,l,())with|none=>none|some (y19,_)=>some (.inl (y19,a1,y15,l,(ile x17 (IntKind.wrap .i64 (a2-y15))),y16,()))
 |false=>match(AAr z c) (y7,a1,a2,p,())with|none=>none|some (y20,y21,y22,_)=>match quo? .i64 (IntKind.wrap .i64 (a2-a1)) 8 with|none=>none|some x23=>match(ilt (IntKind.wrap .i64 (y21-a1)) (IntKind.wrap .i64 (a2-y21)))with
 |true=>match self (y20,a1,y21,l,())with|none=>none|some (y24,_)=>some (.inl (y24,(IntKind.wrap .i64 (y21+1)),a2,l,(ile x23 (IntKind.wrap .i64 (y21-a1))),y22,()))
 |false=>match self (y20,(IntKind.wrap .i64 (y21+1)),a2,l,())with|none=>none|some (y25,_)=>some (.inl (y25,a1,y21,l,(ile x23 (IntKind.wrap .i64 (a2-y21))),y22,()))
def AID[Lk]{α:Type}(z:α)(c:α×α×Unit→Option U9)(self:(List α×Int×Int×Int×Unit)→Option ((List α×Unit)))(y6:List α)(a1 a2 p h l:Int)(a4 a5:Bool):Option ((List α×Int×Int×Int×Bool×Bool×Unit)⊕(List α×Unit)⊕Unit):=
 match a4 with
 |true=>match a5 with
  |true=>match(ieq h 1)with
   |true=>match(Mf z c) (y6,a1,a2,())with|none=>none|some (y7,y8,_)=>match y8 with
    |true=>some (.inr (.inl (y7,())))
    |false=>(S5 z c) self y7 a1 a2 p l a4 a5
   |false=>(S5 z c) self y6 a1 a2 p l a4 a5
  |false=>(S5 z c) self y6 a1 a2 p l a4 a5
 |false=>(S5 z c) self y6 a1 a2 p l a4 a5
def AIC[Lk]{α:Type}(z:α)(c:α×α×Unit→Option U9)(self:(List α×Int×Int×Int×Unit)→Option ((List α×Unit)))(y2:List α)(a1 a2 l:Int)(a4 a5:Bool):Option ((List α×Int×Int×Int×Bool×Bool×Unit)⊕(List α×Unit)⊕Unit):=
 match(AAN z c) (y2,a1,a2,())with|none=>none|some (y3,y4,y5,_)=>match(ieq y5 2)with
 |true=>match(Aaq z c) (y3,a1,a2,())with|none=>none|some (y6,_)=>(AID z c) self y6 a1 a2 (IntKind.wrap .i64 ((IntKind.wrap .i64 (a2-1))-(IntKind.wrap .i64 (y4-a1)))) 1 l a4 a5
 |false=>(AID z c) self y3 a1 a2 y4 y5 l a4 a5
def Nr[Lk]{α:Type}(z:α)(c:α×α×Unit→Option U9)(self:(List α×Int×Int×Int×Unit)→Option ((List α×Unit))):(List α×Int×Int×Int×Bool×Bool×Unit)→Option ((List α×Int×Int×Int×Bool×Bool×Unit)⊕(List α×Unit)⊕Unit):=fun(a0,a1,a2,a3,a4,a5,_)=>
 match(ile (IntKind.wrap .i64 (a2-a1)) 12)with
 |true=>match(Ab7 z c) (a0,a1,a2,())with|none=>none|some (y0,_)=>some (.inr (.inl (y0,())))
 |false=>match(ieq a3 0)with
 |true=>match(ANt z c) (a0,a1,a2,())with|none=>none|some (y1,_)=>some (.inr (.inl (y1,())))
 |false=>match(!a4)with
 |true=>match(AC1 z c) (a0,a1,a2,())with|none=>none|some (y2,_)=>(AIC z c) self y2 a1 a2 (IntKind.wrap .i64 (a3-1)) a4 a5
 |false=>(AIC z c) self a0 a1 a2 a3 a4 a5
def AAa[Lk]{α:Type}(z:α)(c:α×α×Unit→Option U9)(self:(List α×Int×Int×Int×Unit)→Option ((List α×Unit))):(List α×Int×Int×Int×Unit)→Option ((List α×Unit)):=fun(a0,a1,a2,a3,_)=>
 match AW ((Nr z c) self) many (a0,a1,a2,a3,true,true,())with|none=>none|some r=>match r with
 |.inl (o0,_)=>some (o0,())
 |.inr _=>none
def Kw[Lk]{α:Type}(z:α)(c:α×α×Unit→Option U9):Nat→(List α×Int×Int×Int×Unit)→Option ((List α×Unit))
 |0,_=>none
 |n+1,v=>(AAa z c) ((Kw z c) n) v
def Aa6[Lk]{α:Type}(z:α)(c:α×α×Unit→Option U9)(v:(List α×Int×Int×Int×Unit)):Option ((List α×Unit)):=Lk.f ((Kw z c) 100 v)
theorem AeU{α:Type}(z:α)(c:α×α×Unit→Option U9)(v:(List α×Int×Int×Int×Unit)):(Aa6 z c) v=(Kw z c) 100 v:=AG _
def QN[Lk]{α:Type}(z:α)(c:α×α×Unit→Option U9):(List α×Unit)→Option ((List α×Unit)):=fun(a0,_)=>
 match bitsLen ((IntKind.wrap .u64 (AJ a0)),())with|none=>none|some (y0,_)=>match(Aa6 z c) (a0,0,(AJ a0),y0,())with|none=>none|some (y1,_)=>some (y1,())
def AUO[Lk]{α:Type}(z:α)(c:α×α×Unit→Option U9)(v:(List α×Unit)):Option ((List α×Unit)):=Lk.f ((QN z c) v)
theorem AaP{α:Type}(z:α)(c:α×α×Unit→Option U9)(v:(List α×Unit)):(AUO z c) v=(QN z c) v:=AG _
abbrev ASo:AE:=[(.tmp 0,.own 43 U4),(.tmp 1,.di),(.tmp 2,.di),(.tmp 3,.clo 164 [])]
abbrev ASn:AE:=[(.obj 0,.own 43 U4)]
abbrev ASm:List RS:=[]
abbrev AVF:AE:=[(.obj 0,.own 43 U4),(.tmp 0,.own' 0),(.tmp 1,.di),(.tmp 2,.di),(.tmp 3,.clo 164 []),(.tmp 8,.di),(.tmp 9,.di)]
abbrev AVD:Au:=[(.exit 2,[(.obj 0,.own 43 U4),(.tmp 0,.own' 0),(.tmp 1,.di),(.tmp 2,.di),(.tmp 3,.clo 164 []),(.tmp 8,.di)])]
def AVB[Lk]:Ug→Option (Ug⊕U7⊕Unit):=Nw (([]:List (Int)):U3) BN
abbrev AVG:AE:=[(.obj 0,.own 43 U4),(.tmp 0,.own' 0),(.tmp 1,.di),(.tmp 2,.di),(.tmp 3,.clo 164 []),(.tmp 8,.di)]
abbrev AVE:Au:=[(.exit 0,[(.obj 0,.own 43 U4)])]
def AVC[Lk]:U7→Option (U7⊕Ul⊕Unit):=Nx (([]:List (Int)):U3) BN
def Ab4[Lk]:Uc→Option (Ul):=ABf (([]:List (Int)):U3) BN
def AgY[Lk](v:Uc):Option (Ul):=Ab7 (([]:List (Int)):U3) BN v
theorem Aez v:AgY v=Ab4 v:=AG _
abbrev AHf:AE:=[(.tmp 0,.own 43 U4),(.tmp 1,.di),(.tmp 2,.di),(.tmp 3,.di),(.tmp 4,.clo 164 [])]
abbrev AHe:AE:=[(.obj 0,.own 43 U4)]
abbrev AHd:List RS:=[]
abbrev ALW:AE:=[(.obj 0,.own 43 U4),(.tmp 0,.own' 0),(.tmp 2,.di),(.tmp 3,.di),(.tmp 4,.clo 164 []),(.tmp 10,.di)]
abbrev ALV:Au:=[(.exit 0,[(.obj 0,.own 43 U4)]),(.ret,[(.obj 0,.own 43 U4)])]
def ALU[Lk]:U7→Option (U7⊕Ul⊕Ul⊕Unit):=J4 (([]:List (Int)):U3) BN
def AUV[Lk]:U7→Option (Ul):=QP (([]:List (Int)):U3) BN
def AaW[Lk](v:U7):Option (Ul):=AE9 (([]:List (Int)):U3) BN v
theorem AaV v:AaW v=AUV v:=AG _
abbrev AJE:AE:=[(.tmp 0,.own 43 U4),(.tmp 1,.di),(.tmp 2,.di),(.tmp 3,.clo 164 [])]
abbrev AJD:AE:=[(.obj 0,.own 43 U4)]
abbrev AJC:List RS:=[]
abbrev ANq:AE:=[(.obj 0,.own 43 U4),(.tmp 0,.own' 0),(.tmp 3,.clo 164 []),(.tmp 8,.di),(.tmp 9,.di),(.tmp 12,.di)]
abbrev ANo:Au:=[(.exit 2,[(.obj 0,.own 43 U4)])]
def ANl[Lk]:U7→Option (U7⊕Ul⊕Unit):=KN (([]:List (Int)):U3) BN
abbrev ANr:AE:=[(.obj 0,.own 43 U4),(.tmp 0,.own' 0),(.tmp 3,.clo 164 []),(.tmp 8,.di),(.tmp 9,.di),(.tmp 10,.di),(.tmp 11,.di)]
abbrev ANp:Au:=[(.exit 0,[(.obj 0,.own 43 U4),(.tmp 0,.own' 0),(.tmp 3,.clo 164 []),(.tmp 8,.di),(.tmp 9,.di),(.tmp 10,.di)])]
def ANn[Lk]:Ug→Option (Ug⊕U7⊕Unit):=KO (([]:List (Int)):U3) BN
def AVQ[Lk]:Uc→Option (Ul):=Q7 (([]:List (Int)):U3) BN
def AcM[Lk](v:Uc):Option (Ul):=ANt (([]:List (Int)):U3) BN v
theorem AcL v:AcM v=AVQ v:=AG _
abbrev ACz:AE:=[(.tmp 0,.own 43 U4),(.tmp 1,.di),(.tmp 2,.di),(.tmp 3,.clo 164 [])]
abbrev ACy:AE:=[(.obj 0,.own 43 U4)]
abbrev ACx:List RS:=[]
abbrev AF8:AE:=[(.obj 0,.own 43 U4),(.tmp 0,.own' 0),(.tmp 1,.di),(.tmp 8,.di),(.tmp 9,.box 1),(.cell 1 0,.dat (.int .u64)),(.tmp 10,.dat (.int .u64)),(.tmp 11,.di)]
abbrev AF7:Au:=[(.exit 0,[(.obj 0,.own 43 U4)])]
def AF6[Lk]:Ur→Option (Ur⊕Ul⊕Unit):=Fv (([]:List (Int)):U3) BN
def AOu[Lk]:Uc→Option (Ul):=NP (([]:List (Int)):U3) BN
def ATp[Lk](v:Uc):Option (Ul):=AC1 (([]:List (Int)):U3) BN v
theorem AZI v:ATp v=AOu v:=AG _
abbrev TE:AE:=[(.tmp 0,.own 43 U4),(.tmp 1,.di),(.tmp 2,.di),(.tmp 3,.box 1),(.cell 1 0,.di),(.tmp 4,.clo 164 [])]
abbrev TD:AE:=[(.obj 0,.own 43 U4),(.obj 1,.box 1),(.cell 1 0,.di),(.tmp 0,.di),(.tmp 1,.di)]
abbrev TC:List RS:=[.one,.one]
def AFb[Lk]:U7→Option (U7):=KB (([]:List (Int)):U3) BN
def AIV[Lk](v:U7):Option (U7):=Kx (([]:List (Int)):U3) BN v
theorem ARq v:AIV v=AFb v:=AG _
abbrev TQ:AE:=[(.tmp 0,.own 43 U4),(.tmp 1,.di),(.tmp 2,.di),(.tmp 3,.di),(.tmp 4,.box 1),(.cell 1 0,.di),(.tmp 5,.clo 164 [])]
abbrev TP:AE:=[(.obj 0,.own 43 U4),(.obj 1,.box 1),(.cell 1 0,.di),(.tmp 0,.di)]
abbrev TO:List RS:=[.one]
def AFe[Lk]:Ug→Option (Uc):=KF (([]:List (Int)):U3) BN
def AIj[Lk](v:Ug):Option (Uc):=K8 (([]:List (Int)):U3) BN v
theorem ASF v:AIj v=AFe v:=AG _
abbrev TX:AE:=[(.tmp 0,.own 43 U4),(.tmp 1,.di),(.tmp 2,.box 1),(.cell 1 0,.di),(.tmp 3,.clo 164 [])]
abbrev TW:AE:=[(.obj 0,.own 43 U4),(.obj 1,.box 1),(.cell 1 0,.di),(.tmp 0,.di)]
abbrev TV:List RS:=[.one]
def AFg[Lk]:Uc→Option (Uc):=KG (([]:List (Int)):U3) BN
def AIn[Lk](v:Uc):Option (Uc):=K9 (([]:List (Int)):U3) BN v
theorem ASI v:AIn v=AFg v:=AG _
abbrev AAM:AE:=[(.tmp 0,.own 43 U4),(.tmp 1,.di),(.tmp 2,.di),(.tmp 3,.clo 164 [])]
abbrev AAL:AE:=[(.obj 0,.own 43 U4),(.tmp 0,.di),(.tmp 1,.di)]
abbrev AAK:List RS:=[.one,.one]
def AL0[Lk]:Uc→Option (Uc):=Me (([]:List (Int)):U3) BN
def ARJ[Lk](v:Uc):Option (Uc):=AAN (([]:List (Int)):U3) BN v
theorem AXI v:ARJ v=AL0 v:=AG _
abbrev AQu:AE:=[(.tmp 0,.own 43 U4),(.tmp 1,.di),(.tmp 2,.di),(.tmp 3,.clo 164 [])]
abbrev AQt:AE:=[(.obj 0,.own 43 U4)]
abbrev AQs:List RS:=[]
abbrev AUg:AE:=[(.obj 0,.own 43 U4),(.tmp 0,.own' 0),(.tmp 8,.di),(.tmp 9,.di)]
abbrev AUf:Au:=[(.exit 0,[(.obj 0,.own 43 U4)])]
def AUe[Lk]:Uc→Option (Uc⊕Ul⊕Unit):=QX (([]:List (Int)):U3) BN
def Aao[Lk]:Uc→Option (Ul):=Z5 (([]:List (Int)):U3) BN
def AgB[Lk](v:Uc):Option (Ul):=Aaq (([]:List (Int)):U3) BN v
theorem AeK v:AgB v=Aao v:=AG _
abbrev PD:AE:=[(.tmp 0,.own 43 U4),(.tmp 1,.di),(.tmp 2,.di),(.tmp 3,.clo 164 [])]
abbrev PC:AE:=[(.obj 0,.own 43 U4),(.tmp 0,.dat .bool)]
abbrev PB:List RS:=[.one]
abbrev WQ:AE:=[(.obj 0,.own 43 U4),(.tmp 0,.own' 0),(.tmp 1,.di),(.tmp 2,.di),(.tmp 3,.clo 164 []),(.tmp 9,.di),(.tmp 10,.di),(.tmp 12,.di)]
abbrev WL:Au:=[(.exit 6,[(.obj 0,.own 43 U4),(.tmp 0,.own' 0),(.tmp 1,.di),(.tmp 2,.di),(.tmp 3,.clo 164 []),(.tmp 9,.di),(.tmp 10,.di)])]
def WH[Lk]:Ur→Option (Ur⊕Ug⊕Unit):=Ek (([]:List (Int)):U3) BN
abbrev WR:AE:=[(.obj 0,.own 43 U4),(.tmp 0,.own' 0),(.tmp 1,.di),(.tmp 2,.di),(.tmp 3,.clo 164 []),(.tmp 9,.di),(.tmp 10,.di),(.tmp 11,.di)]
abbrev WM:Au:=[(.exit 4,[(.obj 0,.own 43 U4),(.tmp 0,.own' 0),(.tmp 1,.di),(.tmp 2,.di),(.tmp 3,.clo 164 []),(.tmp 9,.di),(.tmp 10,.di)])]
def WI[Lk]:Ur→Option (Ur⊕Ug⊕Unit):=El (([]:List (Int)):U3) BN
abbrev WS:AE:=[(.obj 0,.own 43 U4),(.tmp 0,.own' 0),(.tmp 1,.di),(.tmp 2,.di),(.tmp 3,.clo 164 []),(.tmp 9,.di),(.tmp 10,.di)]
abbrev WN:Au:=[(.exit 2,[(.obj 0,.own 43 U4),(.tmp 0,.own' 0),(.tmp 1,.di),(.tmp 2,.di),(.tmp 3,.clo 164 []),(.tmp 9,.di),(.tmp 10,.di)])]
def WJ[Lk]:Ug→Option (Ug⊕Ug⊕Unit):=GV (([]:List (Int)):U3) BN
abbrev WT:AE:=[(.obj 0,.own 43 U4),(.tmp 0,.own' 0),(.tmp 1,.di),(.tmp 2,.di),(.tmp 3,.clo 164 []),(.tmp 9,.di),(.tmp 10,.di)]
abbrev WO:Au:=[(.ret,[(.obj 0,.own 43 U4),(.tmp 8,.dat .bool)]),(.exit 0,[(.obj 0,.own 43 U4)])]
def WK[Lk]:Ug→Option (Ug⊕(List U3×Bool×Unit)⊕Ul⊕Unit):=CT (([]:List (Int)):U3) BN
def AAj[Lk]:Uc→Option ((List U3×Bool×Unit)):=Hp (([]:List (Int)):U3) BN
def AAk[Lk](v:Uc):Option ((List U3×Bool×Unit)):=Mf (([]:List (Int)):U3) BN v
theorem AMa v:AAk v=AAj v:=AG _
abbrev S8:AE:=[(.tmp 0,.own 43 U4),(.tmp 1,.di),(.tmp 2,.di),(.tmp 3,.di),(.tmp 4,.clo 164 [])]
abbrev S7:AE:=[(.obj 0,.own 43 U4),(.tmp 0,.di)]
abbrev S6:List RS:=[.one]
abbrev AAy:AE:=[(.obj 0,.own 43 U4),(.tmp 0,.own' 0),(.tmp 1,.di),(.tmp 4,.clo 164 []),(.tmp 11,.di),(.tmp 12,.di)]
abbrev AAv:Au:=[(.exit 4,[(.obj 0,.own 43 U4),(.tmp 0,.own' 0),(.tmp 1,.di),(.tmp 4,.clo 164 []),(.tmp 11,.di),(.tmp 12,.di)])]
def AAs[Lk]:U7→Option (U7⊕U7⊕Unit):=Hq (([]:List (Int)):U3) BN
abbrev AAz:AE:=[(.obj 0,.own 43 U4),(.tmp 0,.own' 0),(.tmp 1,.di),(.tmp 4,.clo 164 []),(.tmp 11,.di),(.tmp 12,.di)]
abbrev AAw:Au:=[(.exit 2,[(.obj 0,.own 43 U4),(.tmp 0,.own' 0),(.tmp 1,.di),(.tmp 4,.clo 164 []),(.tmp 11,.di),(.tmp 12,.di)])]
def AAt[Lk]:U7→Option (U7⊕U7⊕Unit):=Hr (([]:List (Int)):U3) BN
abbrev AA0:AE:=[(.obj 0,.own 43 U4),(.tmp 0,.own' 0),(.tmp 1,.di),(.tmp 4,.clo 164 []),(.tmp 11,.di),(.tmp 12,.di)]
abbrev AAx:Au:=[(.exit 0,[(.obj 0,.own 43 U4),(.tmp 11,.di)])]
def AAu[Lk]:U7→Option (U7⊕V9⊕Unit):=Hs (([]:List (Int)):U3) BN
def AFW[Lk]:U7→Option (V9):=J9 (([]:List (Int)):U3) BN
def AIN[Lk](v:U7):Option (V9):=Qh (([]:List (Int)):U3) BN v
theorem ARg v:AIN v=AFW v:=AG _
end
end Go.Pev
end
section
namespace Go.Pev
noncomputable section
attribute [local irreducible] Oc LS PZ OQ AcE AcF AcG S0 Z7 XO ADv Lc AX many IntKind.wrap AJ BA AY A4 Bn DR ED AK Bl Cm imax AN Ae
abbrev AII:AE:=[(.tmp 0,.own 43 U4),(.tmp 1,.di),(.tmp 2,.di),(.tmp 3,.di),(.tmp 4,.clo 164 [])]
abbrev AIH:AE:=[(.obj 0,.own 43 U4),(.tmp 0,.di),(.tmp 1,.dat .bool)]
abbrev AIF:List RS:=[.one,.one]
abbrev AMN:AE:=[(.obj 0,.own 43 U4),(.tmp 0,.own' 0),(.tmp 1,.di),(.tmp 4,.clo 164 []),(.tmp 12,.di),(.tmp 13,.di)]
abbrev AMI:Au:=[(.exit 8,[(.obj 0,.own 43 U4),(.tmp 0,.own' 0),(.tmp 1,.di),(.tmp 4,.clo 164 []),(.tmp 12,.di),(.tmp 13,.di)])]
def AL9[Lk]:U7→Option (U7⊕U7⊕Unit):=Mg (([]:List (Int)):U3) BN
abbrev AMO:AE:=[(.obj 0,.own 43 U4),(.tmp 0,.own' 0),(.tmp 1,.di),(.tmp 4,.clo 164 []),(.tmp 12,.di),(.tmp 13,.di)]
abbrev AMJ:Au:=[(.exit 6,[(.obj 0,.own 43 U4),(.tmp 0,.own' 0),(.tmp 1,.di),(.tmp 4,.clo 164 []),(.tmp 12,.di),(.tmp 13,.di)])]
def AMB[Lk]:U7→Option (U7⊕U7⊕Unit):=Mh (([]:List (Int)):U3) BN
abbrev AMP:AE:=[(.obj 0,.own 43 U4),(.tmp 0,.own' 0),(.tmp 1,.di),(.tmp 4,.clo 164 []),(.tmp 12,.di),(.tmp 13,.di)]
abbrev AMK:Au:=[(.exit 4,[(.obj 0,.own 43 U4),(.tmp 0,.own' 0),(.tmp 1,.di),(.tmp 13,.di)])]
def AMD[Lk]:U7→Option (U7⊕Uc⊕Unit):=Mi (([]:List (Int)):U3) BN
abbrev AMQ:AE:=[(.obj 0,.own 43 U4),(.tmp 0,.own' 0),(.tmp 1,.di),(.tmp 4,.clo 164 []),(.tmp 12,.di),(.tmp 13,.di)]
abbrev AML:Au:=[(.exit 2,[(.obj 0,.own 43 U4),(.tmp 0,.own' 0),(.tmp 1,.di),(.tmp 4,.clo 164 []),(.tmp 12,.di),(.tmp 13,.di)])]
def AMF[Lk]:U7→Option (U7⊕U7⊕Unit):=Mj (([]:List (Int)):U3) BN
abbrev AMR:AE:=[(.obj 0,.own 43 U4),(.tmp 0,.own' 0),(.tmp 1,.di),(.tmp 4,.clo 164 []),(.tmp 12,.di),(.tmp 13,.di)]
abbrev AMM:Au:=[(.exit 0,[(.obj 0,.own 43 U4),(.tmp 0,.own' 0),(.tmp 1,.di),(.tmp 4,.clo 164 []),(.tmp 12,.di),(.tmp 13,.di)])]
def AMH[Lk]:U7→Option (U7⊕U7⊕Unit):=Mk (([]:List (Int)):U3) BN
def AUw[Lk]:U7→Option ((List U3×Int×Bool×Unit)):=Qg (([]:List (Int)):U3) BN
def AbJ[Lk](v:U7):Option ((List U3×Int×Bool×Unit)):=AAr (([]:List (Int)):U3) BN v
theorem AbI v:AbJ v=AUw v:=AG _
abbrev AAY:AE:=[(.tmp 0,.own 43 U4),(.tmp 1,.di),(.tmp 2,.di),(.tmp 3,.di),(.tmp 4,.clo 164 [])]
abbrev AAX:AE:=[(.obj 0,.own 43 U4)]
abbrev AAW:List RS:=[]
abbrev AUs:AE:=[(.obj 0,.own 43 U4),(.tmp 0,.own' 0),(.tmp 1,.di),(.tmp 2,.di),(.tmp 3,.di),(.tmp 4,.clo 164 []),(.tmp 10,.dat .bool),(.tmp 11,.dat .bool)]
abbrev AUr:Au:=[(.ret,[(.obj 0,.own 43 U4)])]
def AUq[Lk](self:U7→Option (Ul)):(List U3×Int×Int×Int×Bool×Bool×Unit)→Option ((List U3×Int×Int×Int×Bool×Bool×Unit)⊕Ul⊕Unit):=Nr (([]:List (Int)):U3) BN self
def AgH[Lk](self:U7→Option (Ul)):U7→Option (Ul):=AAa (([]:List (Int)):U3) BN self
def AAZ[Lk]:Nat→U7→Option (Ul):=Kw (([]:List (Int)):U3) BN
def AeT[Lk](v:U7):Option (Ul):=Aa6 (([]:List (Int)):U3) BN v
theorem AeS v:AeT v=AAZ 100 v:=AG _
abbrev AHS:AE:=[(.tmp 0,.own 43 U4),(.tmp 1,.clo 164 [])]
abbrev AHR:AE:=[(.obj 0,.own 43 U4)]
abbrev AHQ:List RS:=[]
def AUN[Lk]:Ul→Option (Ul):=QN (([]:List (Int)):U3) BN
def ALM[Lk](v:Ul):Option (Ul):=AUO (([]:List (Int)):U3) BN v
theorem AaO v:ALM v=AUN v:=AG _
abbrev AGk:AE:=[(.tmp 0,.dat Uq),(.tmp 1,.dat U4),(.tmp 2,.dat Uf)]
abbrev AGj:AE:=[(.tmp 0,.di),(.tmp 1,.own 43 U4)]
abbrev AGi:List RS:=[.agg 2]
abbrev AKk:AE:=[(.tmp 3,.box 2),(.cell 0 0,.di),(.cell 0 1,.dat Uf),(.tmp 6,.box 2),(.cell 1 0,.di),(.cell 1 1,.nil U4),(.tmp 7,.own 43 U4),(.tmp 29,.dat Uf),(.tmp 30,.di),(.tmp 31,.di)]
abbrev AKi:Au:=[(.exit 2,[(.tmp 3,.box 2),(.cell 0 0,.di),(.cell 0 1,.dat Uf),(.tmp 6,.box 2),(.cell 1 0,.di),(.cell 1 1,.nil U4),(.tmp 7,.own 43 U4)])]
def HV[Lk]:(Int×List U3×Int×List U3×List U3×Int×Int×Unit)→Option ((Int×List U3×Int×List U3×List U3×Int×Int×Unit)⊕(Int×List U3×Int×List U3×Unit)⊕Unit):=fun(a0,a1,a2,a3,a4,a5,a6,_)=>
 match(ilt a6 a5)with
 |true=>match idx a4 a6 with|none=>none|some x0=>match Zy (x0,())with|none=>none|some (y1,_)=>match(fits ((AJ a3)+(AJ ([y1]:List U3))))with
  |true=>some (.inl (a0,a1,a2,(A4 a3 ([y1]:List U3)),a4,a5,(IntKind.wrap .i64 (a6+1)),()))
  |false=>none
 |false=>some (.inr (.inl (a0,a1,a2,a3,())))
abbrev AKl:AE:=[(.tmp 1,.dat U4),(.tmp 2,.dat Uf),(.tmp 3,.box 2),(.cell 0 0,.di),(.cell 0 1,.dat Uf),(.tmp 6,.box 2),(.cell 1 0,.di),(.cell 1 1,.nil U4),(.tmp 7,.own 43 U4),(.tmp 13,.dat Uf),(.tmp 14,.di),(.tmp 15,.di)]
abbrev AKj:Au:=[(.exit 0,[(.tmp 2,.dat Uf),(.tmp 3,.box 2),(.cell 0 0,.di),(.cell 0 1,.dat Uf),(.tmp 6,.box 2),(.cell 1 0,.di),(.cell 1 1,.nil U4),(.tmp 7,.own 43 U4)])]
def HW[Lk]:(List Int×List U3×Int×List U3×Int×List U3×List U3×Int×Int×Unit)→Option ((List Int×List U3×Int×List U3×Int×List U3×List U3×Int×Int×Unit)⊕(List U3×Int×List U3×Int×List U3×Unit)⊕Unit):=fun(a0,a1,a2,a3,a4,a5,a6,a7,a8,_)=>
 match(ilt a8 a7)with
 |true=>match idx a6 a8 with|none=>none|some x0=>match Ft (a0,a8,())with|none=>none|some (y1,_)=>match(!y1)with
  |true=>match(fits ((AJ a5)+(AJ ([x0]:List U3))))with
   |true=>some (.inl (a0,a1,a2,a3,a4,(A4 a5 ([x0]:List U3)),a6,a7,(IntKind.wrap .i64 (a8+1)),()))
   |false=>none
  |false=>some (.inl (a0,a1,a2,a3,a4,a5,a6,a7,(IntKind.wrap .i64 (a8+1)),()))
 |false=>some (.inr (.inl (a1,a2,a3,a4,a5,())))
def X0[Lk]:(Ui×List Int×List U3×Unit)→Option ((Int×List U3×Unit)):=fun(a0,a1,a2,_)=>
 match AW HW many (a1,a2,a0.1,a0.2.1,0,([]:List U3),a0.2.1,(AJ a0.2.1),0,())with|none=>none|some r=>match r with
 |.inl (o0,o1,o2,o3,o4,_)=>match AW HV many (o1,o2,o3,o4,o0,(AJ o0),0,())with|none=>none|some r=>match r with
  |.inl (o5,o6,o7,o8,_)=>match ALM (o8,())with|none=>none|some (y9,_)=>some (o5,y9,())
  |.inr _=>none
 |.inr _=>none
def AKn[Lk]:=fun v=>Lk.f (X0 v)
theorem AKm v:AKn v=X0 v:=AG _
abbrev AHB:AE:=[(.tmp 0,.dat Uq),(.tmp 1,.di),(.tmp 2,.di)]
abbrev AHA:AE:=[(.tmp 0,.di),(.tmp 1,.dat Uf),(.tmp 2,.di)]
abbrev AG9:List RS:=[.agg 2,.one]
def G1[Lk]:(Ui×Int×Int×Unit)→Option (V4):=fun(a0,a1,a2,_)=>
 match asked ((a0.1,(a0.2.1,())),a1,a2,())with|none=>none|some (y0,_)=>match(!(ieq y0 0))with
 |true=>some (a0.1,a0.2.1,y0,())
 |false=>match Ov ((a0.1,(a0.2.1,())),a1,())with|none=>none|some (y1,_)=>match Ov ((a0.1,(a0.2.1,())),a2,())with|none=>none|some (y2,_)=>match(ieq y1 y2)with
 |true=>some (a0.1,a0.2.1,5,())
 |false=>match idx a0.2.1 y1 with|none=>none|some x3=>match AFL (x3,a1,())with|none=>none|some (y4,y5,_)=>match idx a0.2.1 y2 with|none=>none|some x6=>match AFL (x6,a2,())with|none=>none|some (y7,y8,_)=>match CM y4 0 1 with|none=>none|some x9=>match AWP (a0.1,a1,a2,())with|none=>none|some (y10,_)=>match AWP (a0.1,a2,a1,())with|none=>none|some (y11,_)=>match CM y4 1 (AJ y4)with|none=>none|some x12=>match JA (([(DR 0 (AK (AJ x9)) y4),([y10]:List (Int)),y7,([y11]:List (Int)),(DR 1 (AK (AJ x12)) y4)]:List U3),())with|none=>none|some (y13,_)=>match AKn ((a0.1,(a0.2.1,())),([y1,y2]:List (Int)),([y13]:List U3),())with|none=>none|some (y14,y15,_)=>some (y14,y15,0,())
def MP[Lk]:=fun v=>Lk.f (G1 v)
theorem Hd v:MP v=G1 v:=AG _
abbrev Fp:AE:=[(.tmp 0,.dat U4),(.cap 1 0,.box 2),(.cell 0 0,.di),(.cell 0 1,.dat Uf),(.tmp 1,.clo 158 [(0,0)])]
abbrev Fm:AE:=[(.obj 0,.box 2),(.cell 0 0,.di),(.cell 0 1,.dat Uf),(.tmp 0,.di)]
abbrev Fl:List RS:=[.one]
abbrev Iv:AE:=[(.obj 0,.box 2),(.cell 0 0,.di),(.cell 0 1,.dat Uf),(.tmp 0,.dat U4),(.tmp 1,.clo 158 [(0,0)]),(.tmp 7,.di),(.tmp 8,.di)]
abbrev Iu:Au:=[(.ret,[(.obj 0,.box 2),(.cell 0 0,.di),(.cell 0 1,.dat Uf),(.tmp 4,.di)]),(.exit 0,[(.obj 0,.box 2),(.cell 0 0,.di),(.cell 0 1,.dat Uf)])]
def Bk[Lk]:(Int×List U3×List Int×Int×Int×Unit)→Option ((Int×List U3×List Int×Int×Int×Unit)⊕V4⊕(Int×List U3×Unit)⊕Unit):=fun(a0,a1,a2,a3,a4,_)=>
 match(ilt a4 a3)with
 |true=>match idx a2 a4 with|none=>none|some x0=>match(ilt x0 0)with
  |true=>some (.inr (.inl (a0,a1,a4,())))
  |false=>match(ile a0 x0)with
  |true=>some (.inr (.inl (a0,a1,a4,())))
  |false=>some (.inl (a0,a1,a2,a3,(IntKind.wrap .i64 (a4+1)),()))
 |false=>some (.inr (.inr (.inl (a0,a1,()))))
def D1[Lk]:(List Int×Int×List U3×Unit)→Option (V4):=fun(a0,a1,a2,_)=>
 match AW Bk many (a1,a2,a0,(AJ a0),0,())with|none=>none|some r=>match r with
 |.inl (o0,o1,o2,_)=>some (o0,o1,o2,())
 |.inr r=>match r with
 |.inl (o3,o4,_)=>some (o3,o4,(-1:Int),())
 |.inr _=>none
def E6[Lk]:=fun v=>Lk.f (D1 v)
theorem Iw v:E6 v=D1 v:=AG _
abbrev FG:AE:=[(.tmp 0,.dat U4),(.cap 1 0,.box 2),(.cell 0 0,.di),(.cell 0 1,.dat Uf),(.tmp 1,.clo 158 [(0,0)])]
abbrev FF:AE:=[(.obj 0,.box 2),(.cell 0 0,.di),(.cell 0 1,.dat Uf),(.tmp 0,.dat .bool)]
abbrev FE:List RS:=[.one]
def DO[Lk]:(List Int×Int×List U3×Unit)→Option ((Int×List U3×Bool×Unit)):=fun(a0,a1,a2,_)=>
 match E6 (a0,a1,a2,())with|none=>none|some (y0,y1,y2,_)=>some (y0,y1,(ile 0 y2),())
def DG[Lk]:=fun v=>Lk.f (DO v)
theorem ID v:DG v=DO v:=AG _
abbrev AB4:AE:=[(.tmp 0,.dat Uq),(.tmp 1,.dat U4)]
abbrev AB3:AE:=[(.tmp 0,.di)]
abbrev AB2:List RS:=[.one]
def RA[Lk]:(Ui×List Int×Unit)→Option (U9):=fun(a0,a1,_)=>
 match Ou ((a0.1,(a0.2.1,())),())with|none=>none|some (y0,_)=>match(!y0)with
 |true=>some (1,())
 |false=>match DG (a1,a0.1,a0.2.1,())with|none=>none|some (y1,y2,y3,_)=>match y3 with
 |true=>some (10,())
 |false=>some (0,())
def Pd[Lk]:=fun v=>Lk.f (RA v)
theorem AFx v:Pd v=RA v:=AG _
abbrev ATK:AE:=[(.tmp 0,.dat Uj)]
abbrev ATJ:AE:=[(.tmp 0,.own 3 U0)]
abbrev ATI:List RS:=[.one]
abbrev AVc:AE:=[(.tmp 3,.own 3 U0),(.tmp 6,.dat Uj),(.tmp 7,.di),(.tmp 8,.di)]
abbrev AVb:Au:=[(.exit 0,[(.tmp 3,.own 3 U0)])]
def LU[Lk]:(List Int×List U1×Int×Int×Unit)→Option ((List Int×List U1×Int×Int×Unit)⊕Um⊕Unit):=fun(a0,a1,a2,a3,_)=>
 match(ilt a3 a2)with
 |true=>match idx a1 a3 with|none=>none|some x0=>match(fits ((AJ a0)+(AJ ([x0.1,x0.2.1]:List (Int)))))with
  |true=>some (.inl ((A4 a0 ([x0.1,x0.2.1]:List (Int))),a1,a2,(IntKind.wrap .i64 (a3+1)),()))
  |false=>none
 |false=>some (.inr (.inl (a0,())))
def AJZ[Lk]:Uk→Option (Um):=fun(a0,_)=>
 match AW LU many (([]:List (Int)),a0,(AJ a0),0,())with|none=>none|some r=>match r with
 |.inl (o0,_)=>some (o0,())
 |.inr _=>none
def ends[Lk]:=fun v=>Lk.f (AJZ v)
theorem AVd v:ends v=AJZ v:=AG _
abbrev Pm:AE:=[(.tmp 0,.dat Uq),(.tmp 1,.dat Uj),(.tmp 2,.clo 131 [])]
abbrev Pk:AE:=[(.tmp 0,.dat Uq),(.tmp 1,.own 4 .bool),(.tmp 2,.di)]
abbrev Pj:List RS:=[.one,.one,.one]
abbrev Ws:AE:=[(.tmp 2,.clo 131 []),(.tmp 3,.box 2),(.cell 0 0,.di),(.cell 0 1,.dat Uf),(.tmp 6,.box 2),(.cell 1 0,.di),(.cell 1 1,.nil U4),(.tmp 10,.own 4 .bool),(.tmp 23,.dat Uj),(.tmp 24,.di),(.tmp 25,.di)]
abbrev Wr:Au:=[(.exit 0,[(.tmp 3,.box 2),(.cell 0 0,.di),(.cell 0 1,.dat Uf),(.tmp 6,.box 2),(.cell 1 0,.di),(.cell 1 1,.nil U4),(.tmp 10,.own 4 .bool)])]
def By[Lk]:(Int×List U3×Int×List Bool×List U1×Int×Int×Unit)→Option ((Int×List U3×Int×List Bool×List U1×Int×Int×Unit)⊕(Int×List U3×Int×List Bool×Unit)⊕Unit):=fun(a0,a1,a2,a3,a4,a5,a6,_)=>
 match(ilt a6 a5)with
 |true=>match idx a4 a6 with|none=>none|some x0=>match MP ((a0,(a1,())),x0.1,x0.2.1,())with|none=>none|some (y1,y2,y3,_)=>match(fits ((AJ a3)+(AJ ([(ieq y3 0)]:List (Bool)))))with
  |true=>some (.inl (y1,y2,a2,(A4 a3 ([(ieq y3 0)]:List (Bool))),a4,a5,(IntKind.wrap .i64 (a6+1)),()))
  |false=>none
 |false=>some (.inr (.inl (a0,a1,a2,a3,())))
def IB[Lk]:(Ui×List U1×Unit)→Option ((Ui×List Bool×Int×Unit)):=fun(a0,a1,_)=>
 match ends (a1,())with|none=>none|some (y0,_)=>match Pd ((a0.1,(a0.2.1,())),y0,())with|none=>none|some (y1,_)=>match(!(ieq y1 0))with
 |true=>some ((a0.1,(a0.2.1,())),([]:List (Bool)),y1,())
 |false=>match AW By many (a0.1,a0.2.1,0,([]:List (Bool)),a1,(AJ a1),0,())with|none=>none|some r=>match r with
 |.inl (o2,o3,o4,o5,_)=>some ((o2,(o3,())),o5,0,())
 |.inr _=>none
def RI[Lk]:=fun v=>Lk.f (IB v)
theorem NB v:RI v=IB v:=AG _
abbrev ACB:AE:=[(.tmp 0,.dat Uq),(.tmp 1,.dat Uj)]
abbrev ACA:AE:=[(.tmp 0,.dat Uq),(.tmp 1,.own 4 .bool),(.tmp 2,.di)]
abbrev AB9:List RS:=[.one,.one,.one]
def M7[Lk]:(Ui×List U1×Unit)→Option ((Ui×List Bool×Int×Unit)):=fun(a0,a1,_)=>
 match RI ((a0.1,(a0.2.1,())),a1,())with|none=>none|some (y0,y1,y2,_)=>some ((y0.1,(y0.2.1,())),y1,y2,())
def AJS[Lk]:=fun v=>Lk.f (M7 v)
theorem T4 v:AJS v=M7 v:=AG _
abbrev Acg:AE:=[(.tmp 0,.di),(.tmp 1,.dat Uj)]
abbrev Acf:AE:=[(.tmp 0,.dat Uq),(.tmp 1,.di)]
abbrev Ace:List RS:=[.one,.one]
def AOE[Lk]:(Int×List U1×Unit)→Option (Vf):=fun(a0,a1,_)=>
 match AK9 (a0,())with|none=>none|some (y0,y1,y2,_)=>match(!(ieq y2 0))with
 |true=>some ((0,(([]:List U3),())),y2,())
 |false=>match AJS ((y0,(y1,())),a1,())with|none=>none|some (y3,y4,y5,_)=>match(!(ieq y5 0))with
 |true=>some ((0,(([]:List U3),())),y5,())
 |false=>some ((y3.1,(y3.2.1,())),0,())
def fof[Lk]:=fun v=>Lk.f (AOE v)
theorem AS8 v:fof v=AOE v:=AG _
abbrev Abf:AE:=[(.tmp 0,.dat U4)]
abbrev Abd:AE:=[(.tmp 0,.di)]
abbrev Abb:List RS:=[.one]
abbrev Abe:AE:=[(.tmp 3,.di),(.tmp 6,.dat U4),(.tmp 7,.di),(.tmp 8,.di)]
abbrev Abc:Au:=[(.ret,[(.tmp 2,.di)]),(.exit 0,[(.tmp 3,.di)])]
def Fa[Lk]:(Int×List Int×Int×Int×Unit)→Option ((Int×List Int×Int×Int×Unit)⊕U9⊕U9⊕Unit):=fun(a0,a1,a2,a3,_)=>
 match(ilt a3 a2)with
 |true=>match idx a1 a3 with|none=>none|some x0=>match(!(ieq x0 a0))with
  |true=>some (.inr (.inl (x0,())))
  |false=>some (.inl (a0,a1,a2,(IntKind.wrap .i64 (a3+1)),()))
 |false=>some (.inr (.inr (.inl (a0,()))))
def AFd[Lk]:Um→Option (U9):=fun(a0,_)=>
 match AW Fa many (0,a0,(AJ a0),0,())with|none=>none|some r=>match r with
 |.inl (o0,_)=>some (o0,())
 |.inr r=>match r with
 |.inl (o1,_)=>some (o1,())
 |.inr _=>none
def orI[Lk]:=fun v=>Lk.f (AFd v)
theorem AIY v:orI v=AFd v:=AG _
abbrev ABQ:AE:=[(.tmp 0,.di)]
abbrev ABP:AE:=[(.tmp 0,.dat .bool)]
abbrev ABO:List RS:=[.one]
def Mu[Lk]:U9→Option (Ue):=fun(a0,_)=>
 match(ile 1 a0)with
 |true=>some ((ile a0 64),())
 |false=>some (false,())
def Td[Lk]:=fun v=>Lk.f (Mu v)
theorem Tc v:Td v=Mu v:=AG _
abbrev ASR:AE:=[(.tmp 0,.di)]
abbrev ASQ:AE:=[(.tmp 0,.di)]
abbrev ASP:List RS:=[.one]
def ASS[Lk]:U9→Option (U9):=fun(a0,_)=>
 match Td (a0,())with|none=>none|some (y0,_)=>match(!y0)with
 |true=>some (0,())
 |false=>match bitsLen ((IntKind.wrap .u64 (IntKind.wrap .i64 (a0-1))),())with|none=>none|some (y1,_)=>some (y1,())
def AIt[Lk]:=fun v=>Lk.f (ASS v)
theorem Aer v:AIt v=ASS v:=AG _
abbrev PS:AE:=[(.tmp 0,.dat (.prod U0 (.prod U0 (.prod U0 (.prod .bool .unit))))),(.tmp 1,.dat (.prod U0 (.prod U0 (.prod U0 (.prod .bool .unit)))))]
abbrev PR:AE:=[(.tmp 0,.di)]
abbrev PQ:List RS:=[.one]
def LC[Lk]:(U6×U6×Unit)→Option (U9):=fun(a0,a1,_)=>
 match Dh (a0.1,a1.1,())with|none=>none|some (y0,_)=>match Dh (a0.2.1,a1.2.1,())with|none=>none|some (y1,_)=>match orI (([y0,y1]:List (Int)),())with|none=>none|some (y2,_)=>some (y2,())
def KL[Lk]:=fun v=>Lk.f (LC v)
theorem Wk v:KL v=LC v:=AG _
abbrev ABM:AE:=[(.tmp 0,.dat Uo),(.tmp 1,.di)]
abbrev ABL:AE:=[(.tmp 0,.own 34 U2)]
abbrev ABK:List RS:=[.one]
abbrev AFj:AE:=[(.tmp 1,.di),(.tmp 5,.own 34 U2),(.tmp 9,.dat U5),(.tmp 10,.di),(.tmp 11,.di)]
abbrev AFi:Au:=[(.exit 0,[(.tmp 5,.own 34 U2)])]
def Ck[Lk]:(Int×List U1×List U6×Int×Int×Unit)→Option ((Int×List U1×List U6×Int×Int×Unit)⊕Uk⊕Unit):=fun(a0,a1,a2,a3,a4,_)=>
 match(ilt a4 a3)with
 |true=>match idx a2 a4 with|none=>none|some x0=>match x0.2.2.2.1 with
  |true=>match(ile a0 x0.2.2.1)with
   |true=>match(fits ((AJ a1)+(AJ ([(x0.1,(x0.2.1,()))]:List U1))))with
    |true=>some (.inl (a0,(A4 a1 ([(x0.1,(x0.2.1,()))]:List U1)),a2,a3,(IntKind.wrap .i64 (a4+1)),()))
    |false=>none
   |false=>some (.inl (a0,a1,a2,a3,(IntKind.wrap .i64 (a4+1)),()))
  |false=>some (.inl (a0,a1,a2,a3,(IntKind.wrap .i64 (a4+1)),()))
 |false=>some (.inr (.inl (a1,())))
def Mt[Lk]:(Un×Int×Unit)→Option (Uk):=fun(a0,a1,_)=>
 match AW Ck many (a1,([]:List U1),a0.2.1,(AJ a0.2.1),0,())with|none=>none|some r=>match r with
 |.inl (o0,_)=>some (o0,())
 |.inr _=>none
def PL[Lk]:=fun v=>Lk.f (Mt v)
theorem Tb v:PL v=Mt v:=AG _
abbrev ABT:AE:=[(.tmp 0,.dat Uo)]
abbrev ABS:AE:=[(.tmp 0,.dat .bool)]
abbrev ABR:List RS:=[.one]
abbrev AFl:AE:=[(.tmp 1,.box 2),(.cell 0 0,.di),(.cell 0 1,.dat U5),(.tmp 3,.di),(.tmp 23,.dat U5),(.tmp 24,.di),(.tmp 25,.di)]
abbrev AFk:Au:=[(.ret,[(.tmp 2,.dat .bool)]),(.exit 0,[(.tmp 1,.box 2),(.cell 0 0,.di),(.cell 0 1,.dat U5)])]
def Dw[Lk]:(Int×List U6×Int×List U6×Int×Int×Unit)→Option ((Int×List U6×Int×List U6×Int×Int×Unit)⊕Ue⊕(Int×List U6×Unit)⊕Unit):=fun(a0,a1,a2,a3,a4,a5,_)=>
 match(ilt a5 a4)with
 |true=>match idx a3 a5 with|none=>none|some x0=>match(ilt x0.1 0)with
  |true=>some (.inr (.inl (false,())))
  |false=>match(ile x0.2.1 x0.1)with
  |true=>some (.inr (.inl (false,())))
  |false=>match(ile a0 x0.2.1)with
  |true=>some (.inr (.inl (false,())))
  |false=>match(ilt x0.2.2.1 0)with
  |true=>some (.inr (.inl (false,())))
  |false=>match(ilt a2 x0.2.2.1)with
  |true=>some (.inr (.inl (false,())))
  |false=>match(ilt 0 a5)with
  |true=>match idx a1 (IntKind.wrap .i64 (a5-1))with|none=>none|some x1=>match KL ((x1.1,(x1.2.1,(x1.2.2.1,(x1.2.2.2.1,())))),(x0.1,(x0.2.1,(x0.2.2.1,(x0.2.2.2.1,())))),())with|none=>none|some (y2,_)=>match(ile 0 y2)with
   |true=>some (.inr (.inl (false,())))
   |false=>some (.inl (a0,a1,a2,a3,a4,(IntKind.wrap .i64 (a5+1)),()))
  |false=>some (.inl (a0,a1,a2,a3,a4,(IntKind.wrap .i64 (a5+1)),()))
 |false=>some (.inr (.inr (.inl (a0,a1,()))))
def Hv[Lk]:(Un×Unit)→Option (Ue):=fun(a0,_)=>
 match Td (a0.1,())with|none=>none|some (y0,_)=>match(!y0)with
 |true=>some (false,())
 |false=>match(ilt 400 (AJ a0.2.1))with
 |true=>some (false,())
 |false=>match AIt (a0.1,())with|none=>none|some (y1,_)=>match AW Dw many (a0.1,a0.2.1,y1,a0.2.1,(AJ a0.2.1),0,())with|none=>none|some r=>match r with
 |.inl (o2,_)=>some (o2,())
 |.inr r=>match r with
 |.inl (o3,o4,_)=>match PL ((o3,(o4,())),0,())with|none=>none|some (y5,_)=>match fof (o3,y5,())with|none=>none|some (y6,y7,_)=>match(ieq y7 0)with
  |true=>some ((ieq (AJ y6.2.1) (IntKind.wrap .i64 (o3-(AJ y5)))),())
  |false=>some (false,())
 |.inr _=>none
def PM[Lk]:=fun v=>Lk.f (Hv v)
theorem KI v:PM v=Hv v:=AG _
abbrev NN:AE:=[(.tmp 0,.di),(.tmp 1,.dat Uj)]
abbrev NM:AE:=[(.tmp 0,.own 3 U0)]
abbrev NL:List RS:=[.one]
abbrev RX:AE:=[(.tmp 0,.di),(.tmp 1,.dat Uj),(.tmp 5,.own 3 U0),(.tmp 7,.dat .bool),(.tmp 8,.di)]
abbrev RU:Au:=[(.exit 4,[(.tmp 0,.di),(.tmp 1,.dat Uj),(.tmp 5,.own 3 U0),(.tmp 7,.dat .bool)])]
def C7[Lk]:(Int×List U1×List Int×Bool×Int×Unit)→Option ((Int×List U1×List Int×Bool×Int×Unit)⊕(Int×List U1×List Int×Bool×Unit)⊕Unit):=fun(a0,a1,a2,a3,a4,_)=>
 match(ilt a4 (AJ a1))with
 |true=>match idx a1 a4 with|none=>none|some x0=>match idx a1 a4 with|none=>none|some x1=>match(ilt x0.1 0)with
  |true=>some (.inl (a0,a1,a2,a3,(IntKind.wrap .i64 (a4+1)),()))
  |false=>match(ilt x1.2.1 0)with
  |true=>some (.inl (a0,a1,a2,a3,(IntKind.wrap .i64 (a4+1)),()))
  |false=>match(ile a0 x0.1)with
  |true=>some (.inl (a0,a1,a2,a3,(IntKind.wrap .i64 (a4+1)),()))
  |false=>match(ile a0 x1.2.1)with
  |true=>some (.inl (a0,a1,a2,a3,(IntKind.wrap .i64 (a4+1)),()))
  |false=>match idx a2 x0.1 with|none=>none|some x2=>match idx a2 x1.2.1 with|none=>none|some x3=>match(ieq (AY a2 (AK x0.1) 0) (AY a2 (AK x1.2.1) 0))with
  |true=>some (.inl (a0,a1,a2,a3,(IntKind.wrap .i64 (a4+1)),()))
  |false=>match idx a2 x0.1 with|none=>none|some x4=>match idx a2 x1.2.1 with|none=>none|some x5=>match idx a2 x0.1 with|none=>none|some x6=>match idx (BA a2 (AK x0.1) (Cm (AY a2 (AK x0.1) 0) (AY a2 (AK x1.2.1) 0))) x1.2.1 with|none=>none|some x7=>some (.inl (a0,a1,(BA (BA a2 (AK x0.1) (Cm (AY a2 (AK x0.1) 0) (AY a2 (AK x1.2.1) 0))) (AK x1.2.1) (Cm (AY a2 (AK x0.1) 0) (AY a2 (AK x1.2.1) 0))),true,(IntKind.wrap .i64 (a4+1)),()))
 |false=>some (.inr (.inl (a0,a1,a2,a3,())))
abbrev RY:AE:=[(.tmp 0,.di),(.tmp 1,.dat Uj),(.tmp 5,.own 3 U0),(.tmp 7,.dat .bool)]
abbrev RV:Au:=[(.exit 2,[(.tmp 5,.own 3 U0)])]
def D3[Lk]:(Int×List U1×List Int×Bool×Unit)→Option ((Int×List U1×List Int×Bool×Unit)⊕Um⊕Unit):=fun(a0,a1,a2,a3,_)=>
 match a3 with
 |true=>match AW C7 many (a0,a1,a2,false,0,())with|none=>none|some r=>match r with
  |.inl (o0,o1,o2,o3,_)=>some (.inl (o0,o1,o2,o3,()))
  |.inr _=>none
 |false=>some (.inr (.inl (a2,())))
abbrev RZ:AE:=[(.tmp 0,.di),(.tmp 1,.dat Uj),(.tmp 5,.own 3 U0),(.tmp 6,.di)]
abbrev RW:Au:=[(.exit 0,[(.tmp 0,.di),(.tmp 1,.dat Uj),(.tmp 5,.own 3 U0)])]
def C8[Lk]:(Int×List U1×List Int×Int×Unit)→Option ((Int×List U1×List Int×Int×Unit)⊕(Int×List U1×List Int×Unit)⊕Unit):=fun(a0,a1,a2,a3,_)=>
 match(ilt a3 a0)with
 |true=>match(fits ((AJ a2)+(AJ ([a3]:List (Int)))))with
  |true=>some (.inl (a0,a1,(A4 a2 ([a3]:List (Int))),(IntKind.wrap .i64 (a3+1)),()))
  |false=>none
 |false=>some (.inr (.inl (a0,a1,a2,())))
def JB[Lk]:(Int×List U1×Unit)→Option (Um):=fun(a0,a1,_)=>
 match AW C8 many (a0,a1,([]:List (Int)),0,())with|none=>none|some r=>match r with
 |.inl (o0,o1,o2,_)=>match AW D3 many (o0,o1,o2,true,())with|none=>none|some r=>match r with
  |.inl (o3,_)=>some (o3,())
  |.inr _=>none
 |.inr _=>none
def DM[Lk]:=fun v=>Lk.f (JB v)
theorem Ra v:DM v=JB v:=AG _
abbrev AG1:AE:=[(.tmp 0,.di)]
abbrev AG0:AE:=[(.tmp 0,.di)]
abbrev AGz:List RS:=[.one]
abbrev AK3:AE:=[(.tmp 3,.di),(.tmp 4,.di)]
abbrev AK2:Au:=[(.exit 0,[(.tmp 3,.di)])]
def Y8[Lk]:U1→Option (U1⊕U9⊕Unit):=fun(a0,a1,_)=>
 match(ilt 0 a1)with
 |true=>match quo? .i64 a1 2 with|none=>none|some x0=>some (.inl ((IntKind.wrap .i64 (a0+1)),x0,()))
 |false=>some (.inr (.inl (a0,())))
def AG3[Lk]:U9→Option (U9):=fun(a0,_)=>
 match(ilt a0 1)with
 |true=>some (0,())
 |false=>match(ilt 64 a0)with
 |true=>some (0,())
 |false=>match AW Y8 many (0,(IntKind.wrap .i64 (a0-1)),())with|none=>none|some r=>match r with
 |.inl (o0,_)=>some (o0,())
 |.inr _=>none
def MO[Lk]:=fun v=>Lk.f (AG3 v)
theorem AZx v:MO v=AG3 v:=AG _
abbrev Sv:AE:=[(.tmp 0,.dat Uo)]
abbrev Su:AE:=[(.tmp 0,.dat .bool)]
abbrev Ss:List RS:=[.one]
abbrev Z3:AE:=[(.tmp 1,.box 2),(.cell 0 0,.di),(.cell 0 1,.dat U5),(.tmp 3,.own 34 U2),(.tmp 6,.own 3 U0),(.tmp 7,.di),(.tmp 8,.di)]
abbrev Z1:Au:=[(.exit 2,[(.tmp 1,.box 2),(.cell 0 0,.di),(.cell 0 1,.dat U5),(.tmp 3,.own 34 U2),(.tmp 7,.di)])]
def DZ[Lk]:(Int×List U6×List U1×List Int×Int×Int×Unit)→Option ((Int×List U6×List U1×List Int×Int×Int×Unit)⊕V8⊕Unit):=fun(a0,a1,a2,a3,a4,a5,_)=>
 match(ilt a5 a0)with
 |true=>match idx a3 a5 with|none=>none|some x0=>match(ieq (AY a3 (AK a5) 0) a5)with
  |true=>some (.inl (a0,a1,a2,a3,(IntKind.wrap .i64 (a4+1)),(IntKind.wrap .i64 (a5+1)),()))
  |false=>some (.inl (a0,a1,a2,a3,a4,(IntKind.wrap .i64 (a5+1)),()))
 |false=>some (.inr (.inl (a0,a1,a2,a4,())))
abbrev Z4:AE:=[(.tmp 1,.box 2),(.cell 0 0,.di),(.cell 0 1,.dat U5),(.tmp 3,.own 34 U2),(.tmp 4,.di)]
abbrev Z2:Au:=[(.ret,[(.tmp 2,.dat .bool)]),(.exit 0,[(.tmp 1,.box 2),(.cell 0 0,.di),(.cell 0 1,.dat U5),(.tmp 3,.own 34 U2)])]
def Cv[Lk]:V8→Option (V8⊕Ue⊕(Int×List U6×List U1×Unit)⊕Unit):=fun(a0,a1,a2,a3,_)=>
 match(ilt a3 (AJ a1))with
 |true=>match idx a1 a3 with|none=>none|some x0=>match(ilt x0.1 0)with
  |true=>some (.inr (.inl (false,())))
  |false=>match(ile x0.2.1 x0.1)with
  |true=>some (.inr (.inl (false,())))
  |false=>match(ile a0 x0.2.1)with
  |true=>some (.inr (.inl (false,())))
  |false=>match(ilt x0.2.2.1 0)with
  |true=>some (.inr (.inl (false,())))
  |false=>match MO (a0,())with|none=>none|some (y1,_)=>match(ilt y1 x0.2.2.1)with
  |true=>some (.inr (.inl (false,())))
  |false=>match(ilt 0 a3)with
  |true=>match idx a1 (IntKind.wrap .i64 (a3-1))with|none=>none|some x2=>match(ilt x0.1 x2.1)with
   |true=>some (.inr (.inl (false,())))
   |false=>match idx a1 (IntKind.wrap .i64 (a3-1))with|none=>none|some x3=>match(ieq x3.1 x0.1)with
   |true=>match idx a1 (IntKind.wrap .i64 (a3-1))with|none=>none|some x4=>match(ile x0.2.1 x4.2.1)with
    |true=>some (.inr (.inl (false,())))
    |false=>match x0.2.2.2.1 with
    |true=>match(fits ((AJ a2)+(AJ ([(x0.1,(x0.2.1,()))]:List U1))))with
     |true=>some (.inl (a0,a1,(A4 a2 ([(x0.1,(x0.2.1,()))]:List U1)),(IntKind.wrap .i64 (a3+1)),()))
     |false=>none
    |false=>some (.inl (a0,a1,a2,(IntKind.wrap .i64 (a3+1)),()))
   |false=>match x0.2.2.2.1 with
   |true=>match(fits ((AJ a2)+(AJ ([(x0.1,(x0.2.1,()))]:List U1))))with
    |true=>some (.inl (a0,a1,(A4 a2 ([(x0.1,(x0.2.1,()))]:List U1)),(IntKind.wrap .i64 (a3+1)),()))
    |false=>none
   |false=>some (.inl (a0,a1,a2,(IntKind.wrap .i64 (a3+1)),()))
  |false=>match x0.2.2.2.1 with
  |true=>match(fits ((AJ a2)+(AJ ([(x0.1,(x0.2.1,()))]:List U1))))with
   |true=>some (.inl (a0,a1,(A4 a2 ([(x0.1,(x0.2.1,()))]:List U1)),(IntKind.wrap .i64 (a3+1)),()))
   |false=>none
  |false=>some (.inl (a0,a1,a2,(IntKind.wrap .i64 (a3+1)),()))
 |false=>some (.inr (.inr (.inl (a0,a1,a2,()))))
def Eg[Lk]:(Un×Unit)→Option (Ue):=fun(a0,_)=>
 match(ilt a0.1 1)with
 |true=>some (false,())
 |false=>match(ilt 64 a0.1)with
 |true=>some (false,())
 |false=>match(ilt 400 (AJ a0.2.1))with
 |true=>some (false,())
 |false=>match AW Cv many (a0.1,a0.2.1,([]:List U1),0,())with|none=>none|some r=>match r with
 |.inl (o0,_)=>some (o0,())
 |.inr r=>match r with
 |.inl (o1,o2,o3,_)=>match DM (o1,o3,())with|none=>none|some (y4,_)=>match AW DZ many (o1,o2,o3,y4,0,0,())with|none=>none|some r=>match r with
  |.inl (o5,o6,o7,o8,_)=>some ((ieq o8 (IntKind.wrap .i64 (o5-(AJ o7)))),())
  |.inr _=>none
 |.inr _=>none
def Du[Lk]:=fun v=>Lk.f (Eg v)
theorem FU v:Du v=Eg v:=AG _
abbrev UI:AE:=[(.tmp 0,.dat Uo)]
abbrev UH:AE:=[(.tmp 0,.own 34 U2)]
abbrev UG:List RS:=[.one]
abbrev ACR:AE:=[(.tmp 1,.box 2),(.cell 0 0,.di),(.cell 0 1,.dat U5),(.tmp 3,.own 34 U2),(.tmp 4,.di)]
abbrev ACQ:Au:=[(.exit 0,[(.tmp 3,.own 34 U2)])]
def EW[Lk]:V8→Option (V8⊕Uk⊕Unit):=fun(a0,a1,a2,a3,_)=>
 match(ilt a3 (AJ a1))with
 |true=>match idx a1 a3 with|none=>none|some x0=>match idx a1 a3 with|none=>none|some x1=>match(fits ((AJ a2)+(AJ ([(x0.1,(x1.2.1,()))]:List U1))))with
  |true=>some (.inl (a0,a1,(A4 a2 ([(x0.1,(x1.2.1,()))]:List U1)),(IntKind.wrap .i64 (a3+1)),()))
  |false=>none
 |false=>some (.inr (.inl (a2,())))
def N2[Lk]:(Un×Unit)→Option (Uk):=fun(a0,_)=>
 match Du ((a0.1,(a0.2.1,())),())with|none=>none|some (y0,_)=>match(!y0)with
 |true=>some (([]:List U1),())
 |false=>match AW EW many (a0.1,a0.2.1,([]:List U1),0,())with|none=>none|some r=>match r with
 |.inl (o1,_)=>some (o1,())
 |.inr _=>none
def RH[Lk]:=fun v=>Lk.f (N2 v)
theorem ACS v:RH v=N2 v:=AG _
def ASv[Lk]:U1→Option (Ue):=fun(a0,a1,_)=>
 match(ile 1 a0)with
 |true=>match(ile a0 64)with
  |true=>match(ile 0 a1)with
   |true=>some ((ilt a1 a0),())
   |false=>some (false,())
  |false=>some (false,())
 |false=>some (false,())
def AI7[Lk]:=fun v=>Lk.f (ASv v)
theorem Ae7 v:AI7 v=ASv v:=AG _
def Sb[Lk]:U1→Option ((Int×Int×Bool×Bool×Unit)):=fun(a0,a1,_)=>
 match AI7 (a0,a1,())with|none=>none|some (y0,_)=>match y0 with
 |true=>some (a1,0,false,true,())
 |false=>match(ilt a0 1)with
 |true=>some (0,0,false,false,())
 |false=>match(ilt 64 a0)with
 |true=>some (0,0,false,false,())
 |false=>match(ilt a1 a0)with
 |true=>some (0,0,false,false,())
 |false=>match(ile (IntKind.wrap .i64 (a0+(IntKind.wrap .i64 (a0*a0)))) a1)with
 |true=>some (0,0,false,false,())
 |false=>match quo? .i64 (IntKind.wrap .i64 (a1-a0)) a0 with|none=>none|some x1=>match rem? (IntKind.wrap .i64 (a1-a0)) a0 with|none=>none|some x2=>match(ieq x1 x2)with
 |true=>some (0,0,false,false,())
 |false=>some (x1,x2,true,true,())
def X3[Lk]:=fun v=>Lk.f (Sb v)
theorem APl v:X3 v=Sb v:=AG _
def AKC[Lk]:(Int×Int×Int×Unit)→Option (U9):=fun(a0,a1,a2,_)=>
 match AI7 (a0,a1,())with|none=>none|some (y0,_)=>match(!y0)with
 |true=>some ((-1:Int),())
 |false=>match AI7 (a0,a2,())with|none=>none|some (y1,_)=>match(!y1)with
 |true=>some ((-1:Int),())
 |false=>match(ieq a1 a2)with
 |true=>some ((-1:Int),())
 |false=>some ((IntKind.wrap .i64 ((IntKind.wrap .i64 (a0+(IntKind.wrap .i64 (a1*a0))))+a2)),())
def AO1[Lk]:=fun v=>Lk.f (AKC v)
theorem AdH v:AO1 v=AKC v:=AG _
def KH[Lk]:(Int×Int×Int×List U3×Int×Unit)→Option ((Int×Int×Int×List U3×Int×Unit)⊕(Int×Int×List U3×Unit)⊕Unit):=fun(a0,a1,a2,a3,a4,_)=>
 match(ilt a4 a0)with
 |true=>match(fits ((AJ a3)+(AJ ([([a4]:List (Int))]:List U3))))with
  |true=>some (.inl (a0,a1,a2,(A4 a3 ([([a4]:List (Int))]:List U3)),(IntKind.wrap .i64 (a4+1)),()))
  |false=>none
 |false=>some (.inr (.inl (a1,a2,a3,())))
def ABJ[Lk]:U9→Option (V4):=fun(a0,_)=>
 match(ilt a0 1)with
 |true=>some (0,([]:List U3),1,())
 |false=>match(ilt 64 a0)with
 |true=>some (0,([]:List U3),1,())
 |false=>match AW KH many (a0,0,a0,([]:List U3),0,())with|none=>none|some r=>match r with
 |.inl (o0,o1,o2,_)=>some (o1,o2,0,())
 |.inr _=>none
def AIr[Lk]:=fun v=>Lk.f (ABJ v)
theorem AX1 v:AIr v=ABJ v:=AG _
def Ox[Lk]:(Int×Int×Int×Unit)→Option (Ue):=fun(a0,a1,a2,_)=>
 match X3 (a0,a1,())with|none=>none|some (y0,y1,y2,y3,_)=>match y3 with
 |true=>match(!y2)with
  |true=>match(ieq y0 a2)with
   |true=>some (true,())
   |false=>match y2 with
   |true=>some ((ieq y1 a2),())
   |false=>some (false,())
  |false=>match y2 with
  |true=>some ((ieq y1 a2),())
  |false=>some (false,())
 |false=>some (false,())
def ZI[Lk]:=fun v=>Lk.f (Ox v)
theorem ALE v:ZI v=Ox v:=AG _
def Jz[Lk]:Uv→Option (Uv⊕(Int×Int×List Int×Bool×Bool×Bool×Bool×Int×Int×Bool×Int×Int×Int×Int×Int×Bool×Int×List Int×Int×Int×Int×Int×Int×Int×Int×Int×Bool×Unit)⊕Unit):=fun(a0,a1,a2,a3,a4,a5,a6,a7,a8,a9,a10,a11,a12,a13,a14,a15,a16,a17,a18,a19,a20,a21,a22,a23,a24,a25,a26,a27,_)=>
 match(ilt a4 (AJ a1))with
 |true=>match rem? (IntKind.wrap .i64 (a2+a4)) (AJ a1)with|none=>none|some x0=>match idx a1 x0 with|none=>none|some x1=>match(fits ((AJ a3)+(AJ ([(AY a1 (AK x0) 0)]:List (Int)))))with
  |true=>some (.inl (a0,a1,a2,(A4 a3 ([(AY a1 (AK x0) 0)]:List (Int))),(IntKind.wrap .i64 (a4+1)),a5,a6,a7,a8,a9,a10,a11,a12,a13,a14,a15,a16,a17,a18,a19,a20,a21,a22,a23,a24,a25,a26,a27,()))
  |false=>none
 |false=>some (.inr (.inl (a0,a2,a3,a5,a6,a7,a8,a9,a10,a11,a12,a13,a14,a15,a16,a17,a18,a1,a19,a20,a21,a22,a23,a24,a25,a26,a27,())))
def Dq[Lk]:(Int×List Int×Bool×Int×Unit)→Option ((Int×List Int×Bool×Int×Unit)⊕(Int×List Int×Bool×Unit)⊕Unit):=fun(a0,a1,a2,a3,_)=>
 match(ilt a3 (AJ a1))with
 |true=>match(!a2)with
  |true=>match idx a1 a3 with|none=>none|some x0=>match rem? (IntKind.wrap .i64 (a3+1)) (AJ a1)with|none=>none|some x1=>match idx a1 x1 with|none=>none|some x2=>match rem? (IntKind.wrap .i64 (a3+2)) (AJ a1)with|none=>none|some x3=>match idx a1 x3 with|none=>none|some x4=>match X3 (a0,(AY a1 (AK a3) 0),())with|none=>none|some (y5,y6,y7,y8,_)=>match(ile 4 (AJ a1))with
   |true=>match y8 with
    |true=>match y7 with
     |true=>match(ieq (AY a1 (AK x1) 0) y6)with
      |true=>match AO1 (a0,y6,y5,())with|none=>none|some (y9,_)=>match(ieq (AY a1 (AK x3) 0) y9)with
       |true=>match rem? (IntKind.wrap .i64 ((IntKind.wrap .i64 (a3+(AJ a1)))-1)) (AJ a1)with|none=>none|some x10=>match idx a1 x10 with|none=>none|some x11=>match ZI (a0,(AY a1 (AK x10) 0),y5,())with|none=>none|some (y12,_)=>match y12 with
        |true=>match AW Jz many (a0,a1,a3,([]:List (Int)),3,a2,(!a2),y8,y7,(AY a1 (AK x1) 0),y6,(ieq (AY a1 (AK x1) 0) y6),(AY a1 (AK x3) 0),a0,y6,y5,y9,(ieq (AY a1 (AK x3) 0) y9),a0,a3,(AJ a1),(IntKind.wrap .i64 (a3+(AJ a1))),(IntKind.wrap .i64 ((IntKind.wrap .i64 (a3+(AJ a1)))-1)),(AJ a1),x10,(AY a1 (AK x10) 0),y5,y12,())with|none=>none|some r=>match r with
         |.inl (o13,o14,o15,o16,o17,o18,o19,o20,o21,o22,o23,o24,o25,o26,o27,o28,o29,o30,o31,o32,o33,o34,o35,o36,o37,o38,o39,_)=>some (.inl (o13,o15,true,(IntKind.wrap .i64 (o14+1)),()))
         |.inr _=>none
        |false=>some (.inl (a0,a1,a2,(IntKind.wrap .i64 (a3+1)),()))
       |false=>some (.inl (a0,a1,a2,(IntKind.wrap .i64 (a3+1)),()))
      |false=>some (.inl (a0,a1,a2,(IntKind.wrap .i64 (a3+1)),()))
     |false=>some (.inl (a0,a1,a2,(IntKind.wrap .i64 (a3+1)),()))
    |false=>some (.inl (a0,a1,a2,(IntKind.wrap .i64 (a3+1)),()))
   |false=>some (.inl (a0,a1,a2,(IntKind.wrap .i64 (a3+1)),()))
  |false=>some (.inr (.inl (a0,a1,a2,())))
 |false=>some (.inr (.inl (a0,a1,a2,())))
def Nk[Lk]:Vn→Option (Vn⊕Ue⊕Vn⊕Unit):=fun(a0,a1,_)=>
 match(ilt 1 (AJ a1))with
 |true=>match AW Dq many (a0,a1,false,0,())with|none=>none|some r=>match r with
  |.inl (o0,o1,o2,_)=>match(!o2)with
   |true=>some (.inr (.inl (false,())))
   |false=>some (.inl (o0,o1,()))
  |.inr _=>none
 |false=>some (.inr (.inr (.inl (a0,a1,()))))
def Y3[Lk]:Vn→Option (Ue):=fun(a0,a1,_)=>
 match(fits ((AJ ([]:List (Int)))+(AJ a1)))with
 |true=>match AW Nk many (a0,(A4 ([]:List (Int)) a1),())with|none=>none|some r=>match r with
  |.inl (o0,_)=>some (o0,())
  |.inr r=>match r with
  |.inl (o1,o2,_)=>match(ieq (AJ o2) 1)with
   |true=>match idx o2 0 with|none=>none|some x3=>match AI7 (o1,(AY o2 0 0),())with|none=>none|some (y4,_)=>some (y4,())
   |false=>some (false,())
  |.inr _=>none
 |false=>none
def APi[Lk]:=fun v=>Lk.f (Y3 v)
theorem AWG v:APi v=Y3 v:=AG _
def Ho[Lk]:Up→Option (Up⊕U9⊕(Unit)⊕Unit):=fun(a0,a1,a2,_)=>
 match(ilt a2 (AJ a0))with
 |true=>match idx a0 a2 with|none=>none|some x0=>match(ieq x0 a1)with
  |true=>some (.inr (.inl (a2,())))
  |false=>some (.inl (a0,a1,(IntKind.wrap .i64 (a2+1)),()))
 |false=>some (.inr (.inr (.inl ())))
def S3[Lk]:Uz→Option (U9):=fun(a0,a1,_)=>
 match AW Ho many (a0,a1,0,())with|none=>none|some r=>match r with
 |.inl (o0,_)=>some (o0,())
 |.inr r=>match r with
 |.inl _=>some ((-1:Int),())
 |.inr _=>none
def Nq[Lk]:=fun v=>Lk.f (S3 v)
theorem ARH v:Nq v=S3 v:=AG _
def FV[Lk]:Uz→Option (Uz⊕Ue⊕(Unit)⊕Unit):=fun(a0,a1,_)=>
 match(ilt a1 (AJ a0))with
 |true=>match idx a0 a1 with|none=>none|some x0=>match(ilt x0 0)with
  |true=>some (.inr (.inl (false,())))
  |false=>match idx a0 a1 with|none=>none|some x1=>match(ilt 10000 x1)with
  |true=>some (.inr (.inl (false,())))
  |false=>match CM a0 0 a1 with|none=>none|some x2=>match idx a0 a1 with|none=>none|some x3=>match Nq (x2,x3,())with|none=>none|some (y4,_)=>match(ile 0 y4)with
  |true=>some (.inr (.inl (false,())))
  |false=>some (.inl (a0,(IntKind.wrap .i64 (a1+1)),()))
 |false=>some (.inr (.inr (.inl ())))
def Sx[Lk]:Um→Option (Ue):=fun(a0,_)=>
 match(ilt 1000 (AJ a0))with
 |true=>some (false,())
 |false=>match AW FV many (a0,0,())with|none=>none|some r=>match r with
 |.inl (o0,_)=>some (o0,())
 |.inr r=>match r with
 |.inl _=>some (true,())
 |.inr _=>none
def QW[Lk]:=fun v=>Lk.f (Sx v)
theorem AQp v:QW v=Sx v:=AG _
def AB5[Lk]:Uz→Option ((List Int×Bool×Unit)):=fun(a0,a1,_)=>
 match Nq (a0,a1,())with|none=>none|some (y0,_)=>match QW (a0,())with|none=>none|some (y1,_)=>match(!y1)with
 |true=>some (([]:List (Int)),false,())
 |false=>match(ilt y0 0)with
 |true=>some (([]:List (Int)),false,())
 |false=>match CM a0 y0 (AJ a0)with|none=>none|some x2=>match(fits ((AJ ([]:List (Int)))+(AJ x2)))with
 |true=>match CM a0 0 y0 with|none=>none|some x3=>match(fits ((AJ (A4 ([]:List (Int)) x2))+(AJ x3)))with
  |true=>some ((A4 (A4 ([]:List (Int)) x2) x3),true,())
  |false=>none
 |false=>none
def AB6[Lk]:=fun v=>Lk.f (AB5 v)
theorem AYl v:AB6 v=AB5 v:=AG _
def Hm[Lk]:Up→Option (Up⊕Uz⊕Unit):=fun(a0,a1,a2,_)=>
 match(ilt a2 (AJ a0))with
 |true=>match idx a0 a2 with|none=>none|some x0=>some (.inl (a0,(Cm a1 x0),(IntKind.wrap .i64 (a2+1)),()))
 |false=>some (.inr (.inl (a0,a1,())))
def S1[Lk]:Um→Option (Um):=fun(a0,_)=>
 match QW (a0,())with|none=>none|some (y0,_)=>match(!y0)with
 |true=>some (([]:List (Int)),())
 |false=>match(ieq (AJ a0) 0)with
 |true=>some (([]:List (Int)),())
 |false=>match idx a0 0 with|none=>none|some x1=>match AW Hm many (a0,x1,0,())with|none=>none|some r=>match r with
 |.inl (o2,o3,_)=>match AB6 (o2,o3,())with|none=>none|some (y4,y5,_)=>some (y4,())
 |.inr _=>none
def YB[Lk]:=fun v=>Lk.f (S1 v)
theorem ARC v:YB v=S1 v:=AG _
def Fe[Lk]:(List U3×List U3×Int×Unit)→Option ((List U3×List U3×Int×Unit)⊕Ue⊕(Unit)⊕Unit):=fun(a0,a1,a2,_)=>
 match(ilt a2 (AJ a0))with
 |true=>match idx a0 a2 with|none=>none|some x0=>match idx a1 a2 with|none=>none|some x1=>match LG (x0,x1,())with|none=>none|some (y2,_)=>match(!y2)with
  |true=>some (.inr (.inl (false,())))
  |false=>some (.inl (a0,a1,(IntKind.wrap .i64 (a2+1)),()))
 |false=>some (.inr (.inr (.inl ())))
def Tf[Lk]:(List U3×List U3×Unit)→Option (Ue):=fun(a0,a1,_)=>
 match(!(ieq (AJ a0) (AJ a1)))with
 |true=>some (false,())
 |false=>match AW Fe many (a0,a1,0,())with|none=>none|some r=>match r with
 |.inl (o0,_)=>some (o0,())
 |.inr r=>match r with
 |.inl _=>some (true,())
 |.inr _=>none
def AIw[Lk]:=fun v=>Lk.f (Tf v)
theorem ASW v:AIw v=Tf v:=AG _
def ER[Lk]:Ut→Option (Ut⊕Ue⊕(Int×List U3×List Bool×Int×Int×Int×List Int×Int×Bool×Int×List Int×Bool×Bool×List Int×List Int×List U3×List Int×List U3×Bool×Bool×List Int×Int×Int×Bool×Unit)⊕Unit):=fun(a0,a1,a2,a3,a4,a5,a6,a7,a8,a9,a10,a11,a12,a13,a14,a15,a16,a17,a18,a19,a20,a21,a22,a23,a24,a25,_)=>
 match(ilt a7 (AJ a6))with
 |true=>match idx a6 a7 with|none=>none|some x0=>match(ilt x0 a0)with
  |true=>match idx a6 a7 with|none=>none|some x1=>match idx a2 x1 with|none=>none|some x2=>match(AY a2 (AK x1) false)with
   |true=>some (.inr (.inl (false,())))
   |false=>match idx a6 a7 with|none=>none|some x3=>match idx a2 x3 with|none=>none|some x4=>some (.inl (a0,a1,(BA a2 (AK x3) true),a3,(IntKind.wrap .i64 (a4+1)),a5,a6,(IntKind.wrap .i64 (a7+1)),a8,a9,a10,a11,a12,a13,a14,a15,a16,a17,a18,a19,a20,a21,a22,a23,a24,a25,()))
  |false=>some (.inl (a0,a1,a2,a3,a4,a5,a6,(IntKind.wrap .i64 (a7+1)),a8,a9,a10,a11,a12,a13,a14,a15,a16,a17,a18,a19,a20,a21,a22,a23,a24,a25,()))
 |false=>some (.inr (.inr (.inl (a0,a1,a2,a3,a4,a5,a8,a9,a10,a11,a12,a13,a14,a15,a16,a17,a18,a19,a20,a21,a22,a23,a24,a25,()))))
def ES[Lk]:(Int×List U3×List Bool×Int×Int×Int×Unit)→Option ((Int×List U3×List Bool×Int×Int×Int×Unit)⊕Ue⊕V4⊕Unit):=fun(a0,a1,a2,a3,a4,a5,_)=>
 match(ilt a5 (AJ a1))with
 |true=>match idx a1 a5 with|none=>none|some x0=>match QW (x0,())with|none=>none|some (y1,_)=>match(!y1)with
  |true=>some (.inr (.inl (false,())))
  |false=>match(ieq (AJ x0) 0)with
  |true=>some (.inr (.inl (false,())))
  |false=>match APi (a0,x0,())with|none=>none|some (y2,_)=>match(!y2)with
  |true=>some (.inr (.inl (false,())))
  |false=>match YB (x0,())with|none=>none|some (y3,_)=>match AIw (([y3]:List U3),([x0]:List U3),())with|none=>none|some (y4,_)=>match(!y4)with
  |true=>some (.inr (.inl (false,())))
  |false=>match idx x0 0 with|none=>none|some x5=>match(ile x5 a3)with
  |true=>some (.inr (.inl (false,())))
  |false=>match idx x0 0 with|none=>none|some x6=>match AW ER many (a0,a1,a2,x6,a4,a5,x0,0,x0,(AJ x0),(ieq (AJ x0) 0),a0,x0,y2,(!y2),x0,y3,([y3]:List U3),x0,([x0]:List U3),y4,(!y4),x0,x5,a3,(ile x5 a3),())with|none=>none|some r=>match r with
  |.inl (o7,_)=>some (.inr (.inl (o7,())))
  |.inr r=>match r with
  |.inl (o8,o9,o10,o11,o12,o13,o14,o15,o16,o17,o18,o19,o20,o21,o22,o23,o24,o25,o26,o27,o28,o29,o30,o31,_)=>some (.inl (o8,o9,o10,o11,o12,(IntKind.wrap .i64 (o13+1)),()))
  |.inr _=>none
 |false=>some (.inr (.inr (.inl (a0,a1,a4,()))))
def Sw[Lk]:(Ui×Unit)→Option (Ue):=fun(a0,_)=>
 match(ilt a0.1 1)with
 |true=>some (false,())
 |false=>match(ilt 64 a0.1)with
 |true=>some (false,())
 |false=>match(ilt a0.1 (AJ a0.2.1))with
 |true=>some (false,())
 |false=>match(FP a0.1&&FP a0.1&&ile a0.1 a0.1&&true)with
 |true=>match AW ES many (a0.1,a0.2.1,(ED (AK a0.1) false),(-1:Int),(0:Int),(0:Int),())with|none=>none|some r=>match r with
  |.inl (o0,_)=>some (o0,())
  |.inr r=>match r with
  |.inl (o1,o2,o3,_)=>some ((ieq o3 o1),())
  |.inr _=>none
 |false=>none
def QV[Lk]:=fun v=>Lk.f (Sw v)
theorem AQo v:QV v=Sw v:=AG _
def Hn[Lk]:(Int×Int×List U3×Int×Unit)→Option ((Int×Int×List U3×Int×Unit)⊕U9⊕(Unit)⊕Unit):=fun(a0,a1,a2,a3,_)=>
 match(ilt a3 (AJ a2))with
 |true=>match idx a2 a3 with|none=>none|some x0=>match Nq (x0,a0,())with|none=>none|some (y1,_)=>match(ile 0 y1)with
  |true=>some (.inr (.inl (a3,())))
  |false=>some (.inl (a0,a1,a2,(IntKind.wrap .i64 (a3+1)),()))
 |false=>some (.inr (.inr (.inl ())))
def S2[Lk]:Vf→Option (U9):=fun(a0,a1,_)=>
 match AW Hn many (a1,a0.1,a0.2.1,0,())with|none=>none|some r=>match r with
 |.inl (o0,_)=>some (o0,())
 |.inr r=>match r with
 |.inl _=>some ((-1:Int),())
 |.inr _=>none
def Ku[Lk]:=fun v=>Lk.f (S2 v)
theorem ARG v:Ku v=S2 v:=AG _
def Ma[Lk]:(List U3×List Int×Int×Unit)→Option ((List U3×List Int×Int×Unit)⊕(List U3×List Int×Int×Unit)⊕Unit):=fun(a0,a1,a2,_)=>
 match(ilt a2 (AJ a0))with
 |true=>match idx a0 a2 with|none=>none|some x0=>match idx x0 0 with|none=>none|some x1=>match idx a1 0 with|none=>none|some x2=>match(ilt x1 (AY a1 0 0))with
  |true=>some (.inl (a0,a1,(IntKind.wrap .i64 (a2+1)),()))
  |false=>some (.inr (.inl (a0,a1,a2,())))
 |false=>some (.inr (.inl (a0,a1,a2,())))
def AH4[Lk]:(List U3×List Int×Unit)→Option (Ul):=fun(a0,a1,_)=>
 match YB (a1,())with|none=>none|some (y0,_)=>match AW Ma many (a0,y0,0,())with|none=>none|some r=>match r with
 |.inl (o1,o2,o3,_)=>match CM o1 0 o3 with|none=>none|some x4=>match(fits ((AJ ([]:List U3))+(AJ x4)))with
  |true=>match(fits ((AJ (A4 ([]:List U3) x4))+(AJ ([o2]:List U3))))with
   |true=>match CM o1 o3 (AJ o1)with|none=>none|some x5=>match(fits ((AJ (A4 (A4 ([]:List U3) x4) ([o2]:List U3)))+(AJ x5)))with
    |true=>some ((A4 (A4 (A4 ([]:List U3) x4) ([o2]:List U3)) x5),())
    |false=>none
   |false=>none
  |false=>none
 |.inr _=>none
def AUn[Lk]:=fun v=>Lk.f (AH4 v)
theorem Aaw v:AUn v=AH4 v:=AG _
def MD[Lk]:V9→Option (Ul):=fun(a0,a1,_)=>
 match CM a0 0 a1 with|none=>none|some x0=>match(fits ((AJ ([]:List U3))+(AJ x0)))with
 |true=>match CM a0 (IntKind.wrap .i64 (a1+1)) (AJ a0)with|none=>none|some x1=>match(fits ((AJ (A4 ([]:List U3) x0))+(AJ x1)))with
  |true=>some ((A4 (A4 ([]:List U3) x0) x1),())
  |false=>none
 |false=>none
def HG[Lk]:=fun v=>Lk.f (MD v)
theorem AGZ v:HG v=MD v:=AG _
def KJ[Lk]:(Ui×Int×Int×Unit)→Option (V4):=fun(a0,a1,a2,_)=>
 match QV ((a0.1,(a0.2.1,())),())with|none=>none|some (y0,_)=>match(!y0)with
 |true=>some (a0.1,a0.2.1,1,())
 |false=>match AI7 (a0.1,a1,())with|none=>none|some (y1,_)=>match(!y1)with
 |true=>some (a0.1,a0.2.1,10,())
 |false=>match AI7 (a0.1,a2,())with|none=>none|some (y2,_)=>match(!y2)with
 |true=>some (a0.1,a0.2.1,10,())
 |false=>match Ku ((a0.1,(a0.2.1,())),a1,())with|none=>none|some (y3,_)=>match Ku ((a0.1,(a0.2.1,())),a2,())with|none=>none|some (y4,_)=>match(ieq y3 y4)with
 |true=>some (a0.1,a0.2.1,5,())
 |false=>match Ku ((a0.1,(a0.2.1,())),a1,())with|none=>none|some (y5,_)=>match Ku ((a0.1,(a0.2.1,())),a2,())with|none=>none|some (y6,_)=>match idx a0.2.1 y5 with|none=>none|some x7=>match AB6 (x7,a1,())with|none=>none|some (y8,y9,_)=>match idx a0.2.1 y6 with|none=>none|some x10=>match AB6 (x10,a2,())with|none=>none|some (y11,y12,_)=>match AO1 (a0.1,a1,a2,())with|none=>none|some (y13,_)=>match(fits ((AJ ([a1,y13]:List (Int)))+(AJ y11)))with
 |true=>match AO1 (a0.1,a2,a1,())with|none=>none|some (y14,_)=>match(fits ((AJ (A4 ([a1,y13]:List (Int)) y11))+(AJ ([y14]:List (Int)))))with
  |true=>match CM y8 1 (AJ y8)with|none=>none|some x15=>match(fits ((AJ (A4 (A4 ([a1,y13]:List (Int)) y11) ([y14]:List (Int))))+(AJ (DR 1 (AK (AJ x15)) y8))))with
   |true=>match HG (a0.2.1,(imax y5 y6),())with|none=>none|some (y16,_)=>match HG (y16,(Cm y5 y6),())with|none=>none|some (y17,_)=>match AUn (y17,(A4 (A4 (A4 ([a1,y13]:List (Int)) y11) ([y14]:List (Int))) (DR 1 (AK (AJ x15)) y8)),())with|none=>none|some (y18,_)=>some (a0.1,y18,0,())
   |false=>none
  |false=>none
 |false=>none
def Th[Lk]:=fun v=>Lk.f (KJ v)
theorem Nu v:Th v=KJ v:=AG _
abbrev Zk:AE:=[(.tmp 0,.dat Uj),(.tmp 1,.dat Uj)]
abbrev Zj:AE:=[(.tmp 0,.dat .bool)]
abbrev Zi:List RS:=[.one]
abbrev AFH:AE:=[(.tmp 0,.dat Uj),(.tmp 1,.dat Uj),(.tmp 5,.di)]
abbrev AFG:Au:=[(.ret,[(.tmp 4,.dat .bool)]),(.exit 0,[])]
def Sr[Lk]:(List U1×List U1×Int×Unit)→Option ((List U1×List U1×Int×Unit)⊕Ue⊕(Unit)⊕Unit):=fun(a0,a1,a2,_)=>
 match(ilt a2 (AJ a0))with
 |true=>match idx a0 a2 with|none=>none|some x0=>match idx a1 a2 with|none=>none|some x1=>match(!(ieq x0.1 x1.1&&(ieq x0.2.1 x1.2.1&&true)))with
  |true=>some (.inr (.inl (false,())))
  |false=>some (.inl (a0,a1,(IntKind.wrap .i64 (a2+1)),()))
 |false=>some (.inr (.inr (.inl ())))
def Zm[Lk]:(List U1×List U1×Unit)→Option (Ue):=fun(a0,a1,_)=>
 match(!(ieq (AJ a0) (AJ a1)))with
 |true=>some (false,())
 |false=>match AW Sr many (a0,a1,0,())with|none=>none|some r=>match r with
 |.inl (o0,_)=>some (o0,())
 |.inr r=>match r with
 |.inl _=>some (true,())
 |.inr _=>none
def Zn[Lk]:=fun v=>Lk.f (Zm v)
theorem AWz v:Zn v=Zm v:=AG _
abbrev AZ1:AE:=[(.tmp 0,.dat Uq),(.tmp 1,.di)]
abbrev AZ0:AE:=[(.tmp 0,.di)]
abbrev AZz:List RS:=[.one]
def AUG[Lk]:Vf→Option (U9):=fun(a0,a1,_)=>
 match tin (a0.1,a1,())with|none=>none|some (y0,_)=>match(!y0)with
 |true=>some ((-1:Int),())
 |false=>match Ou ((a0.1,(a0.2.1,())),())with|none=>none|some (y1,_)=>match(!y1)with
 |true=>some ((-1:Int),())
 |false=>match Ov ((a0.1,(a0.2.1,())),a1,())with|none=>none|some (y2,_)=>some (y2,())
def tof[Lk]:=fun v=>Lk.f (AUG v)
theorem AZ2 v:tof v=AUG v:=AG _
def He[Lk]:(List U1×Int×List U3×Int×Unit)→Option ((List U1×Int×List U3×Int×Unit)⊕U9⊕(Unit)⊕Unit):=fun(a0,a1,a2,a3,_)=>
 match(ilt a3 (AJ a0))with
 |true=>match idx a0 a3 with|none=>none|some x0=>match(ilt x0.1 0)with
  |true=>some (.inr (.inl (10,())))
  |false=>match idx a0 a3 with|none=>none|some x1=>match(ile a1 x1.1)with
  |true=>some (.inr (.inl (10,())))
  |false=>match idx a0 a3 with|none=>none|some x2=>match(ilt x2.2.1 0)with
  |true=>some (.inr (.inl (10,())))
  |false=>match idx a0 a3 with|none=>none|some x3=>match(ile a1 x3.2.1)with
  |true=>some (.inr (.inl (10,())))
  |false=>some (.inl (a0,a1,a2,(IntKind.wrap .i64 (a3+1)),()))
 |false=>some (.inr (.inr (.inl ())))
def Sc[Lk]:(Ui×List U1×Unit)→Option (U9):=fun(a0,a1,_)=>
 match QV ((a0.1,(a0.2.1,())),())with|none=>none|some (y0,_)=>match(!y0)with
 |true=>some (1,())
 |false=>match AW He many (a1,a0.1,a0.2.1,0,())with|none=>none|some r=>match r with
 |.inl (o1,_)=>some (o1,())
 |.inr r=>match r with
 |.inl _=>some (0,())
 |.inr _=>none
def AHC[Lk]:=fun v=>Lk.f (Sc v)
theorem APp v:AHC v=Sc v:=AG _
def Hx[Lk]:(List U1×Int×List U3×Int×List Bool×Int×Unit)→Option ((List U1×Int×List U3×Int×List Bool×Int×Unit)⊕(Int×List U3×Int×List Bool×Unit)⊕Unit):=fun(a0,a1,a2,a3,a4,a5,_)=>
 match(ilt a5 (AJ a0))with
 |true=>match idx a0 a5 with|none=>none|some x0=>match idx a0 a5 with|none=>none|some x1=>match Th ((a1,(a2,())),x0.1,x1.2.1,())with|none=>none|some (y2,y3,y4,_)=>match(fits ((AJ a4)+(AJ ([(ieq y4 0)]:List (Bool)))))with
  |true=>some (.inl (a0,y2,y3,a3,(A4 a4 ([(ieq y4 0)]:List (Bool))),(IntKind.wrap .i64 (a5+1)),()))
  |false=>none
 |false=>some (.inr (.inl (a1,a2,a3,a4,())))
def Tg[Lk]:(Ui×List U1×Unit)→Option ((Ui×List Bool×Int×Unit)):=fun(a0,a1,_)=>
 match AHC ((a0.1,(a0.2.1,())),a1,())with|none=>none|some (y0,_)=>match(!(ieq y0 0))with
 |true=>some ((a0.1,(a0.2.1,())),([]:List (Bool)),y0,())
 |false=>match AW Hx many (a1,a0.1,a0.2.1,0,([]:List (Bool)),0,())with|none=>none|some r=>match r with
 |.inl (o1,o2,o3,o4,_)=>some ((o1,(o2,())),o4,0,())
 |.inr _=>none
def AIx[Lk]:=fun v=>Lk.f (Tg v)
theorem ASY v:AIx v=Tg v:=AG _
def AR1[Lk]:(Int×List U1×Unit)→Option (Vf):=fun(a0,a1,_)=>
 match AIr (a0,())with|none=>none|some (y0,y1,y2,_)=>match(!(ieq y2 0))with
 |true=>some ((0,(([]:List U3),())),y2,())
 |false=>match AIx ((y0,(y1,())),a1,())with|none=>none|some (y3,y4,y5,_)=>match(!(ieq y5 0))with
 |true=>some ((0,(([]:List U3),())),y5,())
 |false=>some ((y3.1,(y3.2.1,())),0,())
def AgO[Lk]:=fun v=>Lk.f (AR1 v)
theorem Aej v:AgO v=AR1 v:=AG _
abbrev SY:AE:=[(.tmp 0,.dat Uo),(.tmp 1,.di)]
abbrev SX:AE:=[(.tmp 0,.own 34 U2)]
abbrev SW:List RS:=[.one]
abbrev Y1:AE:=[(.tmp 1,.di),(.tmp 2,.box 2),(.cell 0 0,.di),(.cell 0 1,.dat U5),(.tmp 5,.own 34 U2),(.tmp 6,.di)]
abbrev Y0:Au:=[(.exit 0,[(.tmp 5,.own 34 U2)])]
def EN[Lk]:(Int×Int×List U6×List U1×Int×Unit)→Option ((Int×Int×List U6×List U1×Int×Unit)⊕Uk⊕Unit):=fun(a0,a1,a2,a3,a4,_)=>
 match(ilt a4 (AJ a2))with
 |true=>match idx a2 a4 with|none=>none|some x0=>match x0.2.2.2.1 with
  |true=>match idx a2 a4 with|none=>none|some x1=>match(ile a0 x1.2.2.1)with
   |true=>match idx a2 a4 with|none=>none|some x2=>match idx a2 a4 with|none=>none|some x3=>match(fits ((AJ a3)+(AJ ([(x2.1,(x3.2.1,()))]:List U1))))with
    |true=>some (.inl (a0,a1,a2,(A4 a3 ([(x2.1,(x3.2.1,()))]:List U1)),(IntKind.wrap .i64 (a4+1)),()))
    |false=>none
   |false=>some (.inl (a0,a1,a2,a3,(IntKind.wrap .i64 (a4+1)),()))
  |false=>some (.inl (a0,a1,a2,a3,(IntKind.wrap .i64 (a4+1)),()))
 |false=>some (.inr (.inl (a3,())))
def Nj[Lk]:(Un×Int×Unit)→Option (Uk):=fun(a0,a1,_)=>
 match AW EN many (a1,a0.1,a0.2.1,([]:List U1),0,())with|none=>none|some r=>match r with
 |.inl (o0,_)=>some (o0,())
 |.inr _=>none
def Ia[Lk]:=fun v=>Lk.f (Nj v)
theorem Y2 v:Ia v=Nj v:=AG _
def Pf[Lk]:(Un×Int×Unit)→Option (Vf):=fun(a0,a1,_)=>
 match Du ((a0.1,(a0.2.1,())),())with|none=>none|some (y0,_)=>match(!y0)with
 |true=>some ((0,(([]:List U3),())),1,())
 |false=>match Ia ((a0.1,(a0.2.1,())),a1,())with|none=>none|some (y1,_)=>match AgO (a0.1,y1,())with|none=>none|some (y2,y3,_)=>some ((y2.1,(y2.2.1,())),y3,())
def AB7[Lk]:=fun v=>Lk.f (Pf v)
theorem AOC v:AB7 v=Pf v:=AG _
abbrev Tk:AE:=[(.tmp 0,.dat Uo),(.tmp 1,.di)]
abbrev Tj:AE:=[(.tmp 0,.dat Uq),(.tmp 1,.di)]
abbrev Ti:List RS:=[.one,.one]
def KK[Lk]:(Un×Int×Unit)→Option (Vf):=fun(a0,a1,_)=>
 match PM ((a0.1,(a0.2.1,())),())with|none=>none|some (y0,_)=>match(!y0)with
 |true=>some ((0,(([]:List U3),())),1,())
 |false=>match PL ((a0.1,(a0.2.1,())),a1,())with|none=>none|some (y1,_)=>match fof (a0.1,y1,())with|none=>none|some (y2,y3,_)=>some ((y2.1,(y2.2.1,())),y3,())
def Nv[Lk]:=fun v=>Lk.f (KK v)
theorem PO v:Nv v=KK v:=AG _
def AR2[Lk]:Vf→Option (U9):=fun(a0,a1,_)=>
 match QV ((a0.1,(a0.2.1,())),())with|none=>none|some (y0,_)=>match(!y0)with
 |true=>some ((-1:Int),())
 |false=>match AI7 (a0.1,a1,())with|none=>none|some (y1,_)=>match(!y1)with
 |true=>some ((-1:Int),())
 |false=>match Ku ((a0.1,(a0.2.1,())),a1,())with|none=>none|some (y2,_)=>some (y2,())
def AgP[Lk]:=fun v=>Lk.f (AR2 v)
theorem Aek v:AgP v=AR2 v:=AG _
abbrev Mo:AE:=[(.tmp 0,.dat Uo),(.tmp 1,.di),(.tmp 2,.di)]
abbrev Mn:AE:=[(.tmp 0,.own 3 U0)]
abbrev Mm:List RS:=[.one]
abbrev Qn:AE:=[(.tmp 1,.di),(.tmp 3,.box 2),(.cell 0 0,.di),(.cell 0 1,.dat U5),(.tmp 7,.own 3 U0),(.tmp 8,.own 3 U0),(.tmp 9,.di)]
abbrev Qm:Au:=[(.exit 0,[(.tmp 8,.own 3 U0)])]
def C2[Lk]:(Int×Int×List U6×List Int×List Int×Int×Unit)→Option ((Int×Int×List U6×List Int×List Int×Int×Unit)⊕Um⊕Unit):=fun(a0,a1,a2,a3,a4,a5,_)=>
 match(ilt a5 a1)with
 |true=>match idx a3 a5 with|none=>none|some x0=>match idx a3 a0 with|none=>none|some x1=>match(ieq (AY a3 (AK a5) 0) (AY a3 (AK a0) 0))with
  |true=>match(fits ((AJ a4)+(AJ ([a5]:List (Int)))))with
   |true=>some (.inl (a0,a1,a2,a3,(A4 a4 ([a5]:List (Int))),(IntKind.wrap .i64 (a5+1)),()))
   |false=>none
  |false=>some (.inl (a0,a1,a2,a3,a4,(IntKind.wrap .i64 (a5+1)),()))
 |false=>some (.inr (.inl (a4,())))
def Im[Lk]:Ve→Option (Um):=fun(a0,a1,a2,_)=>
 match Ia ((a0.1,(a0.2.1,())),a2,())with|none=>none|some (y0,_)=>match DM (a0.1,y0,())with|none=>none|some (y1,_)=>match AW C2 many (a1,a0.1,a0.2.1,y1,([]:List (Int)),0,())with|none=>none|some r=>match r with
 |.inl (o2,_)=>some (o2,())
 |.inr _=>none
def KE[Lk]:=fun v=>Lk.f (Im v)
theorem Qo v:KE v=Im v:=AG _
end
end Go.Pev
end
