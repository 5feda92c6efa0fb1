/- A part of the proofs of this seat: PevFlow2 PevCall PevCall2 PevCall3 PevCall4 PevTop PevClone G28M1 G28M2 G28M3. -/
import Derived.Test.YtbnaceonlbiheaaGreatDoorP7f8d3a2751
import Derived.LoopN
import Derived.Laws.Sem
import Derived.KernelRfl
import Derived.Lib.SliceRun
set_option linter.unusedVariables false
set_option linter.unusedSimpArgs false
set_option linter.unusedSectionVars false
set_option maxRecDepth 100000
section
namespace Go.Pev
open Go.RowKit
section
variable [DfI] {P:Program} {E:Env} {h:Hints}
theorem Xa(hE:∀ g,Ak P g (E.spec g)){R:Type}{r:R}{all:List Oper}:∀ (ops:List Oper) (slot:Nat) (st:St) (k:St→Option R),E7 P E R all ops slot st k=some r →
  ∃ st',k st'=some r∧∀ (R':Type) (k':St→Option R'),E7 P E R' all ops slot st k'=k' st':=by
 intro ops;induction ops with
  |nil=>intro slot st k h;exact⟨st,h,fun _ _=>rfl⟩
  |cons o ops ih=>
   intro slot st k h;simp only[E7]at h;obtain⟨st1,h1⟩:=MP h;rcases h1 with⟨h1,h2⟩|⟨h1,h2⟩
   obtain⟨v,e,h3,h4,_⟩:=ED hE o.op _ _ _ _ _ _ _ r h1;obtain⟨st2,h5,h6⟩:=ih _ _ _ h3;exact⟨st2,h5,fun R' k'=>by simp only[E7];grind⟩;obtain⟨st2,h5,h6⟩:=ih _ _ _ h1;exact⟨st2,h5,fun R' k'=>by simp only[E7];grind⟩
theorem AJ0(hE:∀ g,Ak P g (E.spec g)){R:Type}{r:R}{all:List Oper}:∀ (ops:List Oper) (fp:List (List Nat)) (slot:Nat) (st:St) (k:St→Option R),I7 P E R all ops fp slot st k=some r →
  ∃ st',k st'=some r∧∀ (R':Type) (k':St→Option R'),I7 P E R' all ops fp slot st k'=k' st':=by
 intro ops;induction ops with
  |nil=>intro fp slot st k h;exact⟨st,h,fun _ _=>rfl⟩
  |cons o ops ih=>intro fp slot st k h;simp only[I7]at h;obtain⟨st1,h1,h2⟩:=ABs hE h;obtain⟨st2,h5,h6⟩:=ih _ _ _ _ h1;exact⟨st2,h5,fun R' k'=>by simp only[I7];grind⟩
def ApX(P:Program)(np:Nat)(c:Code)(st:St)(e:Exit)(st':St):Prop:=
 ∀ (w:World) (F:Nat→Prop) (m:Mp) (a:Act) (Q:Exit→Act→World→Prop),SI w F m st a →
  (∀ a' w' F' m',SI w' F' m' st' a'→Hg np w F m st.heap st.frz w' F' m' st'.heap st'.frz→Q e a' w')→c.wp P Q a w
def Iv(P:Program)(np:Nat)(c:Code)(go:(R:Type)→St→(Exit→St→Option R)→Option R):Prop:=
 ∀ (R:Type) (st:St) (k:Exit→St→Option R) (r:R),go R st k=some r→∃ e st',k e st'=some r∧(∀ (R':Type) (k':Exit→St→Option R'),go R' st k'=k' e st')∧ApX P np c st e st'
def BB(P:Program)(np:Nat)(h:Hints):Code→Nat→Prop
 |.seq a b,n=>BB P np h a n∧BB P np h b (n+loops a)
 |.cond _ a b,n=>BB P np h a n∧BB P np h b (n+loops a)
 |.block _ c,n=>BB P np h c n
 |.loop c,n=>Iv P np (.loop c) (h.loop n)
 |_,_=>True
theorem AWM{w:World}{F:Nat→Prop}{m:Mp}{st:St}{a:Act}(hs:SI w F m st a){c:Operand}{x:Bool}(hc:An st.tmps c = .data .bool x):
  a.eval c = .bool x∧SI w F m { st with tmps:=OQ st.tmps c x } a:=by
 have h1:Rep w F m st.heap (An st.tmps c) (a.eval c):=EW hs.tmps c;rw[hc]at h1;refine⟨?_,?_⟩;unfold Rep Bn at h1;simp only[Ty.isAgg,AqC,AqB]at h1;simpa [Dat]using h1;cases c with
  |tmp t=>exact hs.lit (d:=t) (b:=x) hc
  |const v=>exact hs
  |func f=>exact hs
  |global g=>exact hs
theorem CT(hE:∀ g,Ak P g (E.spec g))(hL:D1 E)(hP:Fb P E){np:Nat}:∀ (c:Code) (n:Nat),BB P np h c n→Iv P np c (fun R=>Az P E h R c n):=by
 intro c;induction c with
  |skip=>intro n _ R st k r hk;simp only[Az]at hk;exact⟨_,_,hk,fun _ _=>rfl,fun w F m a Q hs hq=>wp_skip (hq a w F m hs (Hg.refl ..))⟩
  |region id ops draw=>
   intro n _ R st k r hk;have hk0:=hk;simp only[Az]at hk;split at hk;rename_i hpan;obtain⟨e,st',h1,h2,h3⟩:=AAD hE hL hP (id:=id) hk;exact⟨e,st',h1,fun R' k'=>by simp only[Az,hpan];grind,fun w F m a Q hs hq=>h3 w F m a Q hs fun a' w' F' m' q1 q2=>hq a' w' F' m' q1 (q2.toN np)⟩;rename_i hpan;cases draw with
    |false=>
     simp only[Fw,N3]at hk;obtain⟨st',h1,h2⟩:=Xa hE _ _ _ _ hk;refine⟨.normal,st',h1,fun R' k'=>by simp only[Az,hpan,Fw,N3];grind,fun w F m a Q hs hq => ?_⟩;have h3:Fw P E St ops.toList st some=some st':=by simp only[Fw,N3];grind
     refine AFT hE h3 hs fun a' w' hp => ?_;obtain⟨st1,F',m',e1,e2,e3⟩:=hp;cases e1;exact hq a' w' F' m' e2 (e3.toN np)
    |true=>
     simp only at hk;have hk':=hk;unfold Ej at hk;rw[N3]at hk;split at hk;rename_i hok;obtain⟨st',h1,h2⟩:=AJ0 hE _ _ _ _ _ hk;refine⟨.normal,st',h1,fun R' k'=>by simp only[Az,hpan,Ej,N3,hok];grind,fun w F m a Q hs hq => ?_⟩;have h3:Ej P E St (h.fp id) ops.toList st some=some st':=by simp only[Ej,N3,hok];grind
     refine AAE hE hL h3 hs fun a' w' hp => ?_;obtain⟨st1,F',m',e1,e2,e3⟩:=hp;cases e1;exact hq a' w' F' m' e2 (e3.toN np);grind
  |seq a b iha ihb=>
   intro n hl R st k r hk;simp only[Az]at hk;obtain⟨e,st1,h1,h2',h3⟩:=iha n hl.1 R st _ r hk;have h2:∀ (R':Type) (k':Exit→St→Option R'),Az P E h R' a n st k'=k' e st1:=h2';by_cases he:e = .normal;subst he;simp only at h1;obtain⟨e2,st2,k1,k2,k3⟩:=ihb _ hl.2 R st1 _ r h1;refine⟨e2,st2,k1,fun R' k' => ?_,fun w F m act Q hs hq=>wp_seq ?_⟩;simp only[Az];grind;refine h3 w F m act _ hs fun a' w' F' m' s1 x1 => ?_;exact k3 w' F' m' a' Q s1 fun a2 w2 F2 m2 s2 x2=>hq a2 w2 F2 m2 s2 (x1.trans x2);have h1':k e st1=some r:=by grind
   refine⟨e,st1,h1',fun R' k' => ?_,fun w F m act Q hs hq=>wp_seq ?_⟩;simp only[Az];grind;refine h3 w F m act _ hs fun a' w' F' m' s1 x1 => ?_;have:=hq a' w' F' m' s1 x1;cases e<;>first|grind|exact this
  |cond c a b iha ihb=>
   intro n hl R st k r hk;simp only[Az]at hk;split at hk;rename_i x hc;cases x with
    |true=>obtain⟨e,st1,h1,h2,h3⟩:=iha _ hl.1 R _ _ r hk;refine⟨e,st1,h1,fun R' k'=>by simp only[Az,hc];grind,fun w F m act Q hs hq => ?_⟩;obtain⟨q1,q2⟩:=AWM hs hc;exact wp_cond_true q1 (h3 w F m act Q q2 hq)
    |false=>obtain⟨e,st1,h1,h2,h3⟩:=ihb _ hl.2 R _ _ r hk;refine⟨e,st1,h1,fun R' k'=>by simp only[Az,hc];grind,fun w F m act Q hs hq => ?_⟩;obtain⟨q1,q2⟩:=AWM hs hc;exact wp_cond_false q1 (h3 w F m act Q q2 hq)
   grind
  |block id c ih=>
   intro n hl R st k r hk;simp only[Az]at hk;obtain⟨e,st1,h1,h2',h3⟩:=ih n hl R st _ r hk;have h2:∀ (R':Type) (k':Exit→St→Option R'),Az P E h R' c n st k'=k' e st1:=h2';have key:∃ e',k e' st1=some r∧(∀ (R':Type) (k':Exit→St→Option R'),Az P E h R' (.block id c) n st k'=k' e' st1)∧∀ (Q:Exit→Act→World→Prop) a' w',Q e' a' w'→Exit.inBlock id Q e a' w':=by
    cases e with
     |exit id'=>simp only at h1;by_cases hid:id'=id;subst hid;simp only[Apy]at h1;exact⟨.normal,h1,fun R' k'=>by simp only[Az];grind,fun Q a' w' hq=>by simp[Exit.inBlock,hq]⟩;simp only[hid,AqA]at h1;exact⟨.exit id',h1,fun R' k'=>by simp only[Az];grind,fun Q a' w' hq=>by simp[Exit.inBlock,hid,hq]⟩
     |normal=>exact⟨_,h1,fun R' k'=>by simp only[Az];rw[h2],fun Q a' w' hq=>hq⟩
     |goto l=>exact⟨_,h1,fun R' k'=>by simp only[Az];rw[h2],fun Q a' w' hq=>hq⟩
     |ret=>exact⟨_,h1,fun R' k'=>by simp only[Az];rw[h2],fun Q a' w' hq=>hq⟩
     |panic l=>exact⟨_,h1,fun R' k'=>by simp only[Az];rw[h2],fun Q a' w' hq=>hq⟩
     |outgrown=>exact⟨_,h1,fun R' k'=>by simp only[Az];rw[h2],fun Q a' w' hq=>hq⟩
   obtain⟨e',k1,k2,k3⟩:=key;exact⟨e',st1,k1,k2,fun w F m act Q hs hq=>wp_block (h3 w F m act _ hs fun a' w' F' m' s1 x1=>k3 Q a' w' (hq a' w' F' m' s1 x1))⟩
  |loop c ih=>intro n hl R st k r hk;exact hl R st k r hk
  |exit id=>intro n _ R st k r hk;simp only[Az]at hk;exact⟨_,_,hk,fun _ _=>rfl,fun w F m a Q hs hq=>wp_exit (hq a w F m hs (Hg.refl ..))⟩
  |ret=>intro n _ R st k r hk;simp only[Az]at hk;exact⟨_,_,hk,fun _ _=>rfl,fun w F m a Q hs hq=>wp_ret (hq a w F m hs (Hg.refl ..))⟩
  |_=>intro n _ R st k r hk;simp[Az]at hk
theorem ACw{R:Type}{r:R}{nt:Nat}{k:Exit→St→Option R}:∀ (os:AW) (x:ZB os),YS nt k os x=some r→∃ e st',k e st'=some r∧∀ (R':Type) (k':Exit→St→Option R'),YS nt k' os x=k' e st':=by
 intro os;induction os with
  |nil=>intro x h;simp[YS]at h
  |cons o os ih=>
   intro x h;cases x with
    |inl d=>exact⟨_,_,h,fun _ _=>rfl⟩
    |inr x=>obtain⟨e,st',h1,h2⟩:=ih x h;exact⟨e,st',h1,fun R' k'=>h2 R' k'⟩
theorem AJG{e e':Exit}(h:XG e e'=true):e=e':=by cases e<;>cases e'<;>simp_all [XG]
theorem AKh{np nt:Nat}{e:Exit}{st:St}:∀ (os:AW) (x:ZB os),Tb np nt e st os=some x→∃ its d,decode np nt st its=some d∧∀ (R':Type) (k':Exit→St→Option R'),YS nt k' os x=k' e (encode nt its d):=by
 intro os;induction os with
  |nil=>intro x h;simp[Tb]at h
  |cons o os ih=>intro x h;simp only[Tb]at h;split at h;rename_i hs;split at h;rename_i d hd;simp only[Apq]at h;subst h;exact⟨o.2,d,hd,fun R' k'=>by rw[AJG hs];rfl⟩;grind;split at h;rename_i y hy;simp only[Apq]at h;subst h;obtain⟨its,d,h1,h2⟩:=ih y hy;exact⟨its,d,h1,fun R' k'=>h2 R' k'⟩;grind
theorem AaL{h':Hints}(hE:∀ g,Ak P g (E.spec g))(hL:D1 E)(hP:Fb P E){np nt n:Nat}{body:Code}{its:AD}{os:AW}{stp:Au (leaves its)→Option (Au (leaves its)⊕ZB os)}
  (hstep:∀ v,stp v=roundOf P E h' n np nt body its os v) (hl:BB P np h' body n):Iv P np (.loop body) (Kw np nt its os stp):=by
 intro R st k r hk;unfold Kw at hk;split at hk;cases hk;rename_i v hv;split at hk;cases hk;rename_i x hx;obtain⟨e,st',h1,h2⟩:=ACw os x hk;refine⟨e,st',h1,fun R' k'=>by simp only[Kw,hv,hx];grind,?_⟩
 have key:∀ (fuel:Nat) (v:Au (leaves its)),AU stp fuel v=some x→∀ (w:World) (F:Nat→Prop) (m:Mp) (a:Act) (Q:Exit→Act→World→Prop),SI w F m (encode nt its v) a →
   (∀ a' w' F' m',SI w' F' m' st' a'→Hg np w F m (encode nt its v).heap (encode nt its v).frz w' F' m' st'.heap st'.frz→Q e a' w')→Code.rounds P body Q fuel a w:=by
  intro fuel
  induction fuel with
  |zero=>intro v h;simp[AU]at h
  |succ fuel ih=>
   intro v h w F m a Q hs hq
   simp only[AU]at h
   rw[hstep v]at h
   cases hr:roundOf P E h' n np nt body its os v with
   |none=>grind
   |some y=>
    rw[hr]at h
    unfold roundOf at hr
    obtain⟨e1,st1,g1,_,g3⟩:=CT hE hL hP body n hl _ _ _ _ hr
    show body.wp P (Exit.then (Code.rounds P body Q fuel) Q) a w
    refine g3 w F m a _ hs fun a' w' F' m' s1 x1 => ?_
    by_cases he:e1 = .normal
    ·subst he
     simp only[AJV]at g1
     split at g1
     ·rename_i d hd
      simp only[Apq]at g1;subst g1
      obtain⟨F2,m2,s2,x2⟩:=GF s1 hd
      show Code.rounds P body Q fuel a' w'
      exact ih d h w' F2 m2 a' Q s2 fun a3 w3 F3 m3 s3 x3=>hq a3 w3 F3 m3 s3 (x1.trans (x2.trans x3))
     grind
    ·have g1':(match Tb np nt e1 st1 os with
      |some x=>some (Sum.inr x)
      |none=>none)=some y:=by
      cases e1<;>first|grind|exact g1
     split at g1'
     ·rename_i z hz
      simp only[Apq]at g1';subst g1'
      simp only[Apq]at h;subst h
      obtain⟨its',d,o1,o2⟩:=AKh os _ hz
      obtain⟨F2,m2,s2,x2⟩:=GF s1 o1
      have e3:=(h2 (Exit×St) fun e st=>some (e,st)).symm.trans (o2 (Exit×St) fun e st=>some (e,st))
      simp only[Apq,Ap9]at e3
      obtain⟨rfl,rfl⟩:=e3
      have:=hq a' w' F2 m2 s2 (x1.trans x2)
      cases e<;>first|grind|exact this
     grind
 intro w F m a Q hs hq;obtain⟨F2,m2,s2,x2⟩:=GF hs hv;exact wp_loop_rounds many (key many v (by rw[← At];exact hx) w F2 m2 a Q s2 fun a3 w3 F3 m3 s3 x3=>hq a3 w3 F3 m3 s3 (x2.trans x3))
end
end Go.Pev
end
section
namespace Go.Pev
open Go.RowKit
section
variable {w:World} {F F0:Nat→Prop} {m m2:Mp} {H H2:List Ob} {ids:List Nat}
theorem Dat.flat:∀ (t:Ty),t.flat=true→∀ {d:t.den} {cs:List Value} {w0:World},Dat w F t d cs→Dat w0 F0 t d cs:=by
 intro t;induction t with
  |unit=>exact fun _ _ _ _ h=>h
  |bool=>exact fun _ _ _ _ h=>h
  |int k=>exact fun _ _ _ _ h=>h
  |slice e _=>intro h;simp[Ty.flat]at h
  |mapi j e _=>intro h;simp[Ty.flat]at h
  |nul e=>exact fun _ _ _ _ h=>h
  |prod a b iha ihb=>intro h d cs w0 hd;simp only[Ty.flat,Apt]at h;obtain⟨c1,c2,h1,h2,h3⟩:=hd;exact⟨c1,c2,h1,iha h.1 h2,ihb h.2 h3⟩
  |arr n e ih=>intro h d cs w0 hd;obtain⟨h1,h2⟩:=hd;exact⟨h1,BL (fun x _ cs hx=>ih (by simpa [Ty.flat]using h) hx) h2⟩
theorem Bn.flat{t:Ty}(ht:t.flat=true){d:t.den}{v:Value}{w0:World}(h:Bn w F t d v):Bn w0 F0 t d v:=by unfold Bn at *;split;rename_i hg;simp only[hg,AqP]at h;obtain⟨vs,e,hd⟩:=h;exact⟨vs,e,hd.flat t ht⟩;rename_i hg;simp only[hg]at h;exact Dat.flat t ht h
theorem AbA{k v:Ty}(hk:k.flat=true)(hv:v.flat=true){w0:World}:∀ {es:List (k.den×v.den)} {ms:List MapEntry},Iy w F k v es ms→Iy w0 F0 k v es ms:=by
 intro es;induction es with
  |nil=>exact fun h=>h
  |cons e es ih=>rintro ms ⟨me,ms',e1,⟨h1,h2⟩,h3⟩;exact⟨me,ms',e1,⟨h1.flat hk,h2.flat hv⟩,ih h3⟩
mutual
theorem Rep.flat:∀ (a:AV) {v:Value},Jf a=true→Rep w F m H a v→Rep w F0 m H a v
 |.CA,_,_,_=>by unfold Rep;trivial
 |.data t d,v,hf,h=>by unfold Rep at *;exact h.flat (by simpa [Jf]using hf)
 |.nils _,v,_,h=>by unfold Rep at *;exact h
 |.agg cs,v,hf,h=>by unfold Rep at *;obtain⟨vs,e,h,h1⟩:=h;exact⟨vs,e,AT.flat cs (by simpa [Jf]using hf) h,h1⟩
 |.own id,v,_,h=>by unfold Rep at *;exact h
 |.win id off n,v,_,h=>by unfold Rep at *;exact h
 |.ptr id off,v,_,h=>by unfold Rep at *;exact h
 |.eptr id i sub,v,_,h=>by unfold Rep at *;exact h
 |.dptr cs,v,hf,h=>by simp[Jf]at hf
 |.clo f caps,v,hf,h=>by unfold Rep at *;obtain⟨cs,e,h⟩:=h;exact⟨cs,e,AT.flat caps (by simpa [Jf]using hf) h⟩
 |.bnd f caps,v,hf,h=>by unfold Rep at *;obtain⟨cs,e,h⟩:=h;exact⟨cs,e,AT.flat caps (by simpa [Jf]using hf) h⟩
 |.str _,v,_,h=>by unfold Rep at *;exact h
 |.clip _ _,v,hf,h=>by simp[Jf]at hf
 |.mp id,v,_,h=>by unfold Rep at *;exact h
 |.rowp _ _ _,v,_,h=>by unfold Rep at *;exact h
 |.glob _,v,_,h=>by unfold Rep at *;exact h
 |.nilp,v,_,h=>by unfold Rep at *;exact h
 |.ifc _,v,_,h=>by unfold Rep at *;exact h
 |.aptr _ _,v,_,h=>by unfold Rep at *;exact h
 |.tup vs,v,hf,h=>by unfold Rep at *;obtain⟨us,e,h⟩:=h;exact⟨us,e,AT.flat vs (by simpa [Jf]using hf) h⟩
theorem AT.flat:∀ (cs:List AV) {vs:List Value},JQ cs=true→AT w F m H cs vs→AT w F0 m H cs vs
 |[],vs,_,h=>by unfold AT at *;exact h
 |c::cs,vs,hf,h=>by unfold AT at *;simp only[JQ,Apt]at hf;obtain⟨v,vs',e,h1,h2⟩:=h;exact⟨v,vs',e,Rep.flat c hf.1 h1,AT.flat cs hf.2 h2⟩
end
def AMm(ids:List Nat)(H H2:List Ob)(m m2:Mp):Prop:=∀ j o,H[j]? = some o→H2[ids.getD j 0]? = some (Dc ids o)∧m2 (ids.getD j 0)=m j
theorem Ev(hm:AMm ids H H2 m m2)(Q:Option Ob→Option (Nat×Nat)→Prop)(hnone:∀ l,¬ Q none l)(hbox:∀ cs l,Q (some (.box cs)) l→Q (some (.box (Iw ids cs))) l)(hprs:∀ T t t' is l,Q (some (.prs T t is)) l→Q (some (.prs T t' is)) l)(j:Nat)(h:Q H[j]? (m j)):Q H2[ids.getD j 0]? (m2 (ids.getD j 0)):=by
 cases ho:H[j]? with
  |none=>grind
  |some o=>rw[ho]at h;obtain⟨h1,h2⟩:=hm j o ho;rw[h1,h2];cases o<;>first|exact h|exact hbox _ _ h|exact hprs _ _ _ _ _ h
mutual
theorem Rep.ren(hm:AMm ids H H2 m m2):∀ (a:AV) {v:Value},Rep w F m H a v→Rep w F m2 H2 (Di ids a) v
 |.CA,_,_=>by simp only[Di];unfold Rep;trivial
 |.rowp _ _ _,_,_=>by simp only[Di];unfold Rep;trivial
 |.glob g,v,h=>by simp only[Di];unfold Rep at *;exact h
 |.nilp,v,h=>by simp only[Di];unfold Rep at *;exact h
 |.ifc _,v,h=>by simp only[Di];unfold Rep at *;exact h
 |.aptr id n,v,h=>by simp only[Di];unfold Rep at *;exact Ev hm (fun o l=>FZ o l n v) (fun l h=>h) (fun cs l h=>h) (fun _ _ _ _ l h=>h) id h
 |.data t d,v,h=>by simp only[Di];unfold Rep at *;exact h
 |.nils _,v,h=>by simp only[Di];unfold Rep at *;exact h
 |.agg cs,v,h=>by simp only[Di];unfold Rep at *;obtain⟨vs,e,h,h1⟩:=h;exact⟨vs,e,AT.ren hm cs h,h1⟩
 |.own id,v,h=>by simp only[Di];unfold Rep at *;exact Ev hm (fun o l=>A4 o l v) (fun l h=>h) (fun cs l h=>h) (fun _ _ _ _ l h=>h) id h
 |.win id off n,v,h=>by simp only[Di];unfold Rep at *;exact Ev hm (fun o l=>HJ o l off n v) (fun l h=>h) (fun cs l h=>h) (fun _ _ _ _ l h=>h) id h
 |.ptr id off,v,h=>by simp only[Di];unfold Rep at *;exact Ev hm (fun o l=>GM o l off v) (fun l h=>h) (fun cs l h=>h) (fun _ _ _ _ l h=>h) id h
 |.eptr id i sub,v,h=>by simp only[Di];unfold Rep at *;exact Ev hm (fun o l=>Cv o l i sub v) (fun l h=>h) (fun cs l h=>h) (fun _ _ _ _ l h=>h) id h
 |.dptr cs,v,h=>by simp only[Di];unfold Rep at *;obtain⟨ad,us,e,h1,h2,h4,h3⟩:=h;refine⟨ad,us,e,fun hne=>h1 (by rintro rfl;exact hne rfl),AT.ren hm cs h2,h4,h3⟩
 |.clo f caps,v,h=>by simp only[Di];unfold Rep at *;obtain⟨cs,e,h⟩:=h;exact⟨cs,e,AT.ren hm caps h⟩
 |.bnd f caps,v,h=>by simp only[Di];unfold Rep at *;obtain⟨cs,e,h⟩:=h;exact⟨cs,e,AT.ren hm caps h⟩
 |.str _,v,h=>by simp only[Di];unfold Rep at *;exact h
 |.clip _ _,v,h=>by simp only[Di];unfold Rep at *;exact h
 |.mp id,v,h=>by simp only[Di];unfold Rep at *;exact Ev hm (fun o l=>La o l v) (fun l h=>h) (fun cs l h=>h) (fun _ _ _ _ l h=>h) id h
 |.tup vs,v,h=>by simp only[Di];unfold Rep at *;obtain⟨us,e,h⟩:=h;exact⟨us,e,AT.ren hm vs h⟩
theorem AT.ren(hm:AMm ids H H2 m m2):∀ (cs:List AV) {vs:List Value},AT w F m H cs vs→AT w F m2 H2 (Iw ids cs) vs
 |[],vs,h=>by simp only[Iw];unfold AT at *;exact h
 |c::cs,vs,h=>by simp only[Iw];unfold AT at *;obtain⟨v,vs',e,h1,h2⟩:=h;exact⟨v,vs',e,Rep.ren hm c h1,AT.ren hm cs h2⟩
end
theorem Aea(tgt:Nat)(is:List Int):Iw ids (Fv tgt is)=Fv (ids.getD tgt 0) is:=by
 induction is with
  |nil=>rfl
  |cons x xs ih=>have:Iw ids (Fv tgt (x::xs))=Di ids (.eptr tgt x.toNat 0)::Iw ids (Fv tgt xs):=rfl;rw[this,ih];rfl
theorem Aa3(tgt:Nat)(is:List Int):JQ (Fv tgt is)=true:=by
 induction is with
  |nil=>rfl
  |cons x xs ih=>have:JQ (Fv tgt (x::xs))=(Jf (.eptr tgt x.toNat 0)&&JQ (Fv tgt xs)):=rfl;rw[this,ih];rfl
theorem ARJ{i j k:Nat}:∀ {ids:List Nat},IT ids=true→ids[i]? = some k→ids[j]? = some k→i=j:=by
 intro ids h;have:ids.Nodup:=by
  induction ids with
   |nil=>simp
   |cons a ids ih=>simp only[IT,Apt,Aqz,List.contains_eq_mem,Aqc]at h;grind
 intro h1 h2;exact(List.getElem?_inj (ARb h1) this).1 (h1.trans h2.symm)
theorem AI1{i:Nat}{o:Ob}:∀ (ids:List Nat) (os:List Ob) (H:List Ob) (j:Nat),IT ids=true→ids[j]? = some i→os[j]? = some o→i<H.length→(A5 (ids.zip os) H)[i]? = some o:=by
 intro ids;induction ids with
  |nil=>simp
  |cons a ids ih=>
   intro os H j hn h1 h2 hl;cases os with
    |nil=>grind
    |cons x os=>
     simp only[IT,Apt,Aqz,List.contains_eq_mem,Aqc]at hn;simp only[List.zip_cons_cons,A5];cases j with
      |zero=>simp only[Aqd,Apq]at h1 h2;subst h1;subst h2;rw[Bf _ _ fun p hp => ?_,List.getElem?_set_self hl];rintro rfl;exact hn.1 (List.of_mem_zip hp).1
      |succ j=>grind
def Jg:List Nat→Nat→Option Nat
 |[],_=>none
 |x::xs,i=>if x=i then some 0 else(Jg xs i).map (· + 1)
theorem Tq{i j:Nat}:∀ {ids:List Nat},Jg ids i=some j→ids[j]? = some i:=by
 intro ids;induction ids generalizing j with
  |nil=>intro h;simp[Jg]at h
  |cons a ids ih=>intro h;simp only[Jg]at h;split at h;grind;rw[Ap2]at h;grind
theorem ALT{i:Nat}:∀ {ids:List Nat},Jg ids i=none→i∉ids:=by
 intro ids;induction ids with
  |nil=>simp
  |cons a ids ih=>intro h;simp only[Jg]at h;split at h;cases h;rename_i hne;rw[Option.map_eq_none_iff]at h;grind
theorem Aa6{i j:Nat}{ids:List Nat}(hn:IT ids=true)(h:ids[j]? = some i):Jg ids i=some j:=by
 cases hf:Jg ids i with
  |none=>exact absurd (Ap0 h) (ALT hf)
  |some k=>rw[ARJ hn h (Tq hf)]
def mOf(ids:List Nat)(m3 m:Mp):Mp
 |.o i=>match Jg ids i with
  |some j=>m3 j
  |none=>m i
 |.r i k=>m (.r i k)
theorem ACs{fz:List Bool}:∀ {ids:List Nat} {bs:List Bnd},FI H fz ids bs=true→∀ {j i:Nat},ids[j]? = some i→bs[j]? = some (.whole i)∨((∀ id,bs[j]?≠some (.whole id))∧Aq H fz i=true):=by
 intro ids;induction ids with
  |nil=>simp
  |cons a ids ih=>
   intro bs h j i hj;simp only[FI,Apt]at h;obtain⟨h1,h2⟩:=h;cases j with
    |zero=>
     simp only[Aqd,Apq]at hj;subst hj;split at h1;grind;rename_i hne;refine .inr ⟨fun id he => ?_,h1⟩;cases bs with
      |nil=>grind
      |cons b bs=>simp_all
    |succ j=>grind
theorem Aaj:∀ (n:Nat) (bs:List Bnd) (slot:Nat),(CY n bs slot).length=n:=by
 intro n;induction n with
  |zero=>intro bs slot;cases bs<;>rfl
  |succ n ih=>
   intro bs slot;cases bs with
    |nil=>simp[CY,ih]
    |cons b bs=>cases b<;>simp[CY,ih]
theorem BQ(st:St)(v:AV)(l:Loc):(place st v l).heap.length=st.heap.length:=by
 cases l with
  |tmp t=>rfl
  |cell j c=>simp only[place];grind
  |cap t i=>rfl
  |obj j=>rfl
theorem AhT:∀ (its:AD) (d:Au (leaves its)) (st:St),(enc its d st).heap.length=st.heap.length+Cq its:=by
 intro its;induction its with
  |nil=>intro d st;rfl
  |cons p r ih=>
   intro d st;obtain⟨l,c⟩:=p;cases c with
    |dat t=>exact(ih _ _).trans (by rw[BQ];rfl)
    |own T e=>exact(ih _ _).trans (by rw[BQ];simp[Dz,Cq];omega)
    |box n=>exact(ih _ _).trans (by rw[BQ];simp[Dz,Cq];omega)
    |map k v=>exact(ih _ _).trans (by rw[BQ];simp[Dz,Cq];omega)
    |prs T j=>exact(ih _ _).trans (by rw[BQ];simp[Dz,Cq];omega)
    |rows T e t=>exact(ih _ _).trans (by rw[BQ];simp[Dz,Cq];omega)
    |mrows j e t=>exact(ih _ _).trans (by rw[BQ];simp[Dz,Cq];omega)
    |aptr T e n=>exact(ih _ _).trans (by rw[BQ];simp[Dz,Cq];omega)
    |aptr' j n=>exact(ih _ _).trans (by rw[BQ];rfl)
    |bndp f j=>exact(ih _ _).trans (by rw[BQ];rfl)
    |nilp=>exact(ih _ _).trans (by rw[BQ];rfl)
    |own' j=>exact(ih _ _).trans (by rw[BQ];rfl)
    |ptr' j o=>exact(ih _ _).trans (by rw[BQ];rfl)
    |map' j=>exact(ih _ _).trans (by rw[BQ];rfl)
    |win' j=>exact(ih _ _).trans (by rw[BQ];rfl)
    |sub' j=>exact(ih _ _).trans (by rw[BQ];rfl)
    |clo f ps=>exact(ih _ _).trans (by rw[BQ];rfl)
    |bnd f j=>exact(ih _ _).trans (by rw[BQ];rfl)
    |nil e=>exact(ih _ _).trans (by rw[BQ];rfl)
end
end Go.Pev
end
section
namespace Go.Pev
open Go.RowKit
theorem Xp{H:List Ob}{fz:List Bool}{i:Nat}{o:Ob}(h:H[i]? = some o)(ha:alive o)(hf:fz.getD i false=false):owned H fz i:=by
 simp only[owned,Bv];rw[h];cases o with
  |free=>exact ha.elim
  |dead=>exact ha.elim
  |box cs=>trivial
  |arr T t xs=>exact hf
  |map k v es=>trivial
  |prs T t is=>trivial
  |rows T e t xs ver out=>exact hf
theorem AMf{o:Ob}(h:alive o):o≠.free∧o≠.dead:=by constructor<;>rintro rfl<;>exact h
theorem Kq{H:List Ob}{fz:List Bool}{ids:List Nat}{i:Ix}(h:owned H (AY ids fz) i):owned H fz i:=N2 h
theorem Z7{o o1:Ob}{ids:List Nat}(h:sameShape o o1):sameShape o (Dc ids o1):=by cases o<;>cases o1<;>simp only[sameShape,Dc]at *<;>exact h
theorem Sd{i:Nat}:∀ {bs:List Bnd},i∈given bs↔∃ j:Nat,bs[j]? = some (.whole i):=by
 intro bs;induction bs with
  |nil=>simp[given]
  |cons b bs ih=>
   have step:(∃ j:Nat,(b::bs)[j]? = some (.whole i))↔b = .whole i∨∃ j:Nat,bs[j]? = some (.whole i):=by constructor;grind;rintro (h|⟨j,hj⟩);exact⟨0,by grind⟩;exact⟨j+1,by grind⟩
   rw[step];cases b with
    |whole id=>simp only[given,Apv,ih,Bnd.whole.injEq];grind
    |none=>simp[given,ih]
    |cut id=>simp[given,ih]
theorem TL(a b:List (Nat×Ob)):∀ H,A5 (a++b) H=A5 b (A5 a H):=by
 induction a with
  |nil=>intro H;rfl
  |cons p a ih=>intro H;obtain⟨i,o⟩:=p;simp only[AqJ,A5];grind
def DE(gv:List Nat)(H:List Ob):List Ob:=A5 (gv.map fun i=>(i,.dead)) H
theorem X6{gv:List Nat}{i:Nat}{H:List Ob}(h:i∉gv):(DE gv H)[i]? = H[i]? :=
 Bf _ _ fun p hp=>by grind
theorem AaY:∀ {gv:List Nat} {i:Nat} {H:List Ob},i∈gv→i<H.length→(DE gv H)[i]? = some .dead:=by
 intro gv;induction gv with
  |nil=>simp
  |cons a gv ih=>intro i H h hl;by_cases hg:i∈gv;exact ih (H:=H.set a .dead) hg (by grind);have:(DE gv (H.set a .dead))[i]? = (H.set a .dead)[i]? := X6 hg;rcases Apv.1 h with rfl|h;show(DE gv (H.set i .dead))[i]? = _;grind;grind
theorem X7(gv:List Nat)(H:List Ob):(DE gv H).length=H.length:=TK ..
section
variable {w w':World} {F F2 F3 FR:Nat→Prop} {m m3:Mp} {H H1:List Ob} {fz fz1 fzR:List Bool} {bs:List Bnd} {ids fr:List Nat} {np:Nat}
theorem Ab4(hiC:HI w F m H fz)(gA:Af w F m H fz w F2 m H (AY fr fz))
  (giv:∀ (j id:Nat),bs[j]? = some (.whole id)→owned H (AY fr fz) id)
  (inj:∀ (i j id:Nat),bs[i]? = some (.whole id)→bs[j]? = some (.whole id)→i=j)
  (pin:∀ (j id:Nat),(bs.take np)[j]? = some (.whole id)→∃ o o1,H[id]? = some o∧alive o∧H1[j]? = some o1∧sameShape o o1∧m3 j=m id)
  (blk:∀ (j b c:Nat),owned H1 fz1 j→m3 j=some (b,c)→(∃ id c':Nat,(bs.take np)[j]? = some (.whole id)∧m id=some (b,c'))∨(∃ k id c':Nat,np≤k∧bs[k]? = some (.whole id)∧m id=some (b,c'))∨w.heap.size≤b)
  (os:w'.os=w.os) (tape:w'.tape=w.tape) (output:w'.output=w.output) (size:w.heap.size≤w'.heap.size)
  (keep:∀ b,b<w.heap.size→(∀ (j id:Nat) (c:Nat),bs[j]? = some (.whole id)→m id≠some (b,c))→w'.heap[b]? = w.heap[b]?)
  (sub:∀ b,F2 b→F3 b) (bnd:∀ b,F3 b→F2 b∨(∃ (j id c:Nat),bs[j]? = some (.whole id)∧m id=some (b,c))∨w.heap.size≤b)
  (hi1:HI w' F3 m3 H1 fz1) (al1:∀ (j:Nat) (o:Ob),H1[j]? = some o→alive o) (pl1:∀ (j:Nat) (o:Ob),H1[j]? = some o→BP o=true) (fr1:∀ j,fz1.getD j false=false)
  (hlen:ids.length=H1.length) (hok:FI H fzR ids (bs.take np)=true) (hnd:IT ids=true)
  (hR:(FR=F∧fzR=fz∧H1.all MR=true)∨(FR=F3∧fzR=AY fr fz)) :
  Af w F m H fz w' FR (mOf ids m3 m) (A5 (ids.zip (H1.map (Dc ids))) (DE (given (bs.drop np)) H)) fzR∧AMm ids H1 (A5 (ids.zip (H1.map (Dc ids))) (DE (given (bs.drop np)) H)) m3 (mOf ids m3 m):=by
 have hiR:∃ FB,HI w FB m H fzR∧(∀ b,F b→FB b)∧(∀ b,FB b→FR b)∧(∀ b,FB b→F2 b):=by
  rcases hR with⟨e1,e2,_⟩|⟨e1,e2⟩
  exact⟨F,by grind,fun _ h=>h,fun _ h=>by grind,gA.1.sub⟩;exact⟨F2,by rw[e2];exact gA.2,gA.1.sub,fun b h=>by grind,fun _ h=>h⟩
 obtain⟨FB,hiB,hFB,hBR,hB2⟩:=hiR;have ownR:∀ {i},owned H fzR i→owned H fz i:=by
  intro i h;rcases hR with⟨_,e2,_⟩|⟨_,e2⟩
  grind;rw[e2]at h;exact Kq h
 have pinR:∀ {id},owned H (AY fr fz) id→owned H fzR id:=by
  intro id h;rcases hR with⟨_,e2,_⟩|⟨_,e2⟩
  rw[e2];exact Kq h;grind
 have FR3:∀ b,FR b→F3 b:=by grind
 have tk:∀ {j id:Nat},(bs.take np)[j]? = some (.whole id)→j<np∧bs[j]? = some (.whole id):=by grind
 have tk':∀ {j id:Nat},j<np→bs[j]? = some (.whole id)→(bs.take np)[j]? = some (.whole id):=by grind
 have gvI:∀ {i:Nat},i∈given (bs.drop np)→∃ k,np≤k∧bs[k]? = some (.whole i):=by intro i h;obtain⟨j,hj⟩:=Sd.1 h;grind
 have gvO:∀ {i k:Nat},np≤k→bs[k]? = some (.whole i)→i∈given (bs.drop np):=by intro i k hk h;refine Sd.2 ⟨k-np,?_⟩;grind
 have hids:∀ {j i:Nat},ids[j]? = some i→(∃ o,H[i]? = some o)∧((bs.take np)[j]? = some (.whole i)∨((∀ (id:Nat),(bs.take np)[j]?≠some (.whole id))∧H[i]? = some .free∧fzR.getD i false=false)):=by
  intro j i hj;rcases ACs hok hj with h|⟨h1,h2⟩
  grind;obtain⟨h3,h4⟩:=BM h2;grind
 have gvN:∀ {i:Nat},i∈ids→i∉given (bs.drop np):=by
  intro i hi hg;obtain⟨j,hj⟩:=List.getElem?_of_mem hi;obtain⟨k,hk,hb⟩:=gvI hg;rcases(hids hj).2 with h|⟨_,h,_⟩
  grind;obtain⟨o,h1,h2,_⟩:=Eu (giv k i hb);grind
 have hunf:∀ {j i:Nat},ids[j]? = some i→∀ {o1:Ob},H1[j]? = some o1→∀ {T:TypeId} {t:Ty} {xs:List t.den},o1 = .arr T t xs→fzR.getD i false=false:=by
  intro j i hj o1 ho1 T t xs he;rcases(hids hj).2 with h|⟨_,_,h⟩
  obtain⟨o,o2,ho,_,ho2,hs,_⟩:=pin j i h;rw[ho1]at ho2;cases ho2;subst he;have h2:=pinR (giv j i (tk h).2);simp only[owned,Bv]at h2;rw[ho]at h2;cases o<;>simp only[sameShape]at hs;exact h2;omega
 have hwhole:∀ {j id:Nat},(bs.take np)[j]? = some (.whole id)→ids[j]? = some id:=by
  intro j id hb;obtain⟨o,o1,_,_,ho1,_⟩:=pin j id hb;have hl:=Aj ho1;rw[← hlen]at hl;have hg:ids[j]? = some ids[j]:=Apz hl;rcases ACs hok hg with h|⟨h,_⟩
  all_goals grind
 have hgv:∀ {i:Nat},i∈given (bs.drop np)→(DE (given (bs.drop np)) H)[i]? = some .dead:=by intro i hi;obtain⟨k,_,hb⟩:=gvI hi;obtain⟨o,ho,_⟩:=Eu (giv k i hb);exact AaY hi (Aj ho)
 have getIn:∀ {j i:Nat} {o1:Ob},ids[j]? = some i→H1[j]? = some o1→(A5 (ids.zip (H1.map (Dc ids))) (DE (given (bs.drop np)) H))[i]? = some (Dc ids o1):=by intro j i o1 hj ho1;obtain⟨⟨o,ho⟩,_⟩:=hids hj;exact AI1 ids _ _ j hnd hj (by grind) (by rw[X7];grind)
 have getOut0:∀ {i:Nat},i∉ids→(A5 (ids.zip (H1.map (Dc ids))) (DE (given (bs.drop np)) H))[i]? = (DE (given (bs.drop np)) H)[i]? := by intro i hi;exact Bf _ _ fun p hp=>by rintro rfl;exact hi (List.of_mem_zip hp).1
 have getOut:∀ {i:Nat},i∉ids→i∉given (bs.drop np)→(A5 (ids.zip (H1.map (Dc ids))) (DE (given (bs.drop np)) H))[i]? = H[i]? := by intro i hi hg;rw[getOut0 hi,X6 hg]
 have getGv:∀ {i:Nat},i∈given (bs.drop np)→(A5 (ids.zip (H1.map (Dc ids))) (DE (given (bs.drop np)) H))[i]? = some .dead:=by grind
 have mIn:∀ {j i:Nat},ids[j]? = some i→mOf ids m3 m i=m3 j:=by intro j i hj;simp only[mOf];rw[Aa6 hnd hj]
 have mOut:∀ {x:Ix},x.id∉ids→mOf ids m3 m x=m x:=by
  intro x hi;cases x with
   |r i k=>rfl
   |o i=>
    simp only[mOf];cases hf:Jg ids i with
     |none=>rfl
     |some j=>exact absurd (Ap0 (Tq hf)) hi
 have inOut:∀ i:Nat,(∃ j:Nat,ids[j]? = some i)∨i∈given (bs.drop np)∨(i∉ids∧i∉given (bs.drop np)):=by intro i;by_cases h:i∈ids;obtain⟨j,hj⟩:=List.getElem?_of_mem h;grind;grind
 have notGv:∀ {i:Ix},i.id∈given (bs.drop np)→¬ owned (A5 (ids.zip (H1.map (Dc ids))) (DE (given (bs.drop np)) H)) fzR i:=by intro i hg ho;obtain⟨o,h1,_,h3⟩:=DD ho;grind
 have has1:∀ {j i:Nat},ids[j]? = some i→∃ o1,H1[j]? = some o1:=by grind
 have plR:∀ {o1:Ob},BP o1=true→BP (Dc ids o1)=true:=by intro o1 h;cases o1<;>first|exact h|rfl
 have cls:∀ x:Ix,owned (A5 (ids.zip (H1.map (Dc ids))) (DE (given (bs.drop np)) H)) fzR x→(∃ i j:Nat,∃ o1,x = .o i∧ids[j]? = some i∧H1[j]? = some o1)∨(x.id∉ids∧x.id∉given (bs.drop np)):=by
  intro x hx;rcases inOut x.id with⟨j,hj⟩|hg|h;obtain⟨o1,ho1⟩:=has1 hj;cases x with
   |o i=>exact .inl ⟨i,j,o1,rfl,hj,ho1⟩
   |r i k=>exact absurd hx (Es (getIn hj ho1) (plR (pl1 j o1 ho1)))
  all_goals grind
 have own1:∀ {j:Nat} {o1:Ob},H1[j]? = some o1→owned H1 fz1 j:=fun h=>Xp h (al1 _ _ h) (fr1 _);have blkNe:∀ {i b c:Nat},i∉ids→i∉given (bs.drop np)→(∃ o,H[i]? = some o∧o≠.free∧o≠.dead)→m i=some (b,c)→∀ {j id c':Nat},bs[j]? = some (.whole id)→m id≠some (b,c'):=by
  intro i b c hi hg ⟨o,ho,h1,h2⟩ hm j id c' hb he;have hp:=giv j id hb;have hne:i≠id:=by grind
  exact gA.2.ne hp he ho h1 h2 hm hne rfl
 have hcomp:CQ H (A5 (ids.zip (H1.map (Dc ids))) (DE (given (bs.drop np)) H)) m (mOf ids m3 m):=by
  intro i o ho hf;rcases inOut i with⟨j,hj⟩|hg|⟨hi,hg⟩
  rcases(hids hj).2 with h|⟨_,h,_⟩
  obtain⟨o',o1,ho',ha,ho1,hs,hm⟩:=pin j i h;rw[ho]at ho';cases ho';exact .inr ⟨(AMf ha).2,_,getIn hj ho1,Z7 hs,by grind,fun _ _ _=>rfl⟩;grind;grind;rcases CQ.refl H m i o ho hf with h|⟨hd,o',h1,h2,_⟩
  grind;exact .inr ⟨hd,o',by grind,h2,mOut (x:=.o i) hi,fun _ _ _=>rfl⟩
 have hmoved:AMm ids H1 (A5 (ids.zip (H1.map (Dc ids))) (DE (given (bs.drop np)) H)) m3 (mOf ids m3 m):=by intro j o ho;grind
 have hkeepF:∀ b,FB b→w'.heap[b]? = w.heap[b]? := by intro b hb;refine keep b (hiB.lt b hb) fun j id c hj he => ?_;exact gA.2.off id b c (giv j id hj) he (hB2 b hb)
 have hcell:∀ k,F k→w'.heap[k]? = w.heap[k]? := fun k ha=>hkeepF _ (hFB _ ha);have ownOut:∀ {i:Ix},i.id∉ids→i.id∉given (bs.drop np)→owned (A5 (ids.zip (H1.map (Dc ids))) (DE (given (bs.drop np)) H)) fzR i→owned H fzR i:=by intro i hi hg h;exact(Cg (getOut hi hg)).1 h
 have blkNe':∀ {x:Ix} {b c:Nat},x.id∉ids→x.id∉given (bs.drop np)→owned H fzR x→m x=some (b,c)→∀ {j id c':Nat},bs[j]? = some (.whole id)→m id≠some (b,c'):=by
  intro x b c hi hg ho hm j id c' hb he;cases x with
   |o i=>exact blkNe hi hg (Eu ho) hm hb he
   |r i k=>exact gA.2.neX (giv j id hb) he ho.there hm (by simp) rfl
 have bOut:∀ {x:Ix} {b c:Nat},x.id∉ids→x.id∉given (bs.drop np)→owned H fzR x→m x=some (b,c)→∀ {j:Nat} {o1:Ob} {c':Nat},H1[j]? = some o1→m3 j≠some (b,c'):=by intro x b c hi hg ho hm j o1 c' ho1 he;rcases blk j b c' (own1 ho1) he with⟨id,c2,hb,hm2⟩|⟨k,id,c2,_,hb,hm2⟩|hge;grind;grind;have:=hiB.IU ho hm;omega
 refine⟨⟨⟨os,tape,output,size,fun b hb hn=>keep b hb fun j id c hj he => ?_,fun b h=>hBR b (hFB b h),?_,?_,hcomp⟩,⟨?_,?_,?_,?_,?_,?_,?_,hiC.glo.mono hcell (fun b h=>hBR b (hFB b h)),?_⟩⟩,hmoved⟩;grind
 ·-- what is frozen
  intro b hb;rcases hR with⟨e1,_,_⟩|⟨e1,_⟩
  grind;·rw[e1]at hb;rcases bnd b hb with h|⟨j,id,c,h1,h2⟩|h;exact gA.1.bnd b h;all_goals grind
 intro i b c ho hm;rcases cls i ho with⟨i,j,o1,rfl,hj,ho1⟩|⟨hi,hg⟩
 rw[mIn hj]at hm;rcases blk j b c (own1 ho1) hm with⟨id,c',h1,h2⟩|⟨k,id,c',_,h1,h2⟩|h;grind;grind;omega;grind;-- objects
 intro i o ho;rcases inOut i with⟨j,hj⟩|hg|⟨hi,hg⟩
 obtain⟨o1,ho1⟩:=has1 hj;rw[getIn hj ho1]at ho;cases ho;rw[mIn hj];have hob:=hi1.obj j o1 ho1;cases o1 with
  |free=>trivial
  |dead=>trivial
  |box cs=>
   obtain⟨b,c,vs,T,a1,a2,a3,a4⟩:=hob;refine⟨b,c,vs,T,a1,a2,AT.ren hmoved cs ?_,a4⟩;rcases hR with⟨e1,_,hfl⟩|⟨e1,_⟩
   rw[AqE]at hfl;exact AT.flat cs (by simpa [MR]using hfl _ (Ap0 ho1)) a3;grind
  |arr T t xs=>
   rcases hR with⟨e1,_,hfl⟩|⟨e1,_⟩
   rw[AqE]at hfl;have hft:t.flat=true:=by simpa [MR]using hfl _ (Ap0 ho1)
   obtain⟨h0,h1⟩:=hob;refine⟨h0,?_⟩;cases hm3:m3 j with
    |none=>grind
    |some p=>obtain⟨b,cap⟩:=p;rw[hm3]at h1;obtain⟨vs,row,a1,a2,a3,a4,a5,a6⟩:=h1;exact⟨vs,row,a1,a2,a3,a4,BL (fun x _ cs hx=>hx.flat t hft) a5,a6⟩
   rw[e1];exact hob
  |map k v es=>
   obtain⟨b,c,ms,clock,a1,a2,a3,a4⟩:=hob;refine⟨b,c,ms,clock,a1,a2,?_,a4⟩;rcases hR with⟨e1,_,hfl⟩|⟨e1,_⟩
   rw[AqE]at hfl;have hft:k.flat=true∧v.flat=true:=by simpa [MR]using hfl _ (Ap0 ho1)
   exact AbA hft.1 hft.2 a3;grind
  |prs T tgt is=>
   simp only[Dc];cases hm3:m3 j with
    |none=>rw[hm3]at hob;exact hob
    |some p=>
     obtain⟨b,cap⟩:=p;rw[hm3]at hob;obtain⟨vs,us,a1,a2,a3,a4,a5,a6,a7⟩:=hob;refine⟨vs,us,a1,a2,a3,a4,?_,a6,a7⟩;rw[← Aea];refine AT.ren hmoved _ ?_;rcases hR with⟨e1,_,hfl⟩|⟨e1,_⟩
     exact AT.flat _ (Aa3 tgt is) a5;grind
  |rows T e t xs ver out=>exact absurd (pl1 j _ ho1) (by simp[BP])
 rw[getGv hg]at ho;cases ho;trivial;rw[getOut hi hg]at ho;rw[mOut (x:=.o i) hi];refine ObI.mono hcell (fun b h=>hBR b (hFB b h)) hcomp (fun h1 h2 b c hm hlt=>keep b hlt fun j id c' hj=>blkNe hi hg ⟨o,ho,h1,h2⟩ hm hj) (hiC.obj i o ho);-- rows
 intro i;rcases inOut i with⟨j,hj⟩|hg|⟨hi,hg⟩
 obtain⟨o1,ho1⟩:=has1 hj;exact B7.plain (getIn hj ho1) (plR (pl1 j o1 ho1));exact B7.plain (getGv hg) rfl
 refine B7.mono hcell (fun b h=>hBR b (hFB b h)) hcomp (getOut hi hg) (fun x hx=>mOut (by grind))
  (fun x hx hox b c hm hlt=>keep b hlt fun j id c' hj he => ?_) (hiC.row i)
 refine gA.2.neX (giv j id hj) he hox hm ?_ rfl;grind;intro i T e t xs ver out hio hf x hx ht b c hm;rcases inOut i with⟨j,hj⟩|hg|⟨hi,hg⟩
 obtain⟨o1,ho1⟩:=has1 hj;rw[getIn hj ho1]at hio;have:=plR (pl1 j o1 ho1);rw[Arf hio]at this;cases this;grind;rw[mOut (x:=x) (by grind)]at hm;have h1:=getOut hi hg;exact hBR b (hiB.rfz i T e t xs ver out (h1▸hio) hf x hx ((Ce (by grind)).1 ht) b c hm);-- apart
 intro i j b c b' c' hoi hoj hij hmi hmj;rcases cls i hoi with⟨i,k,o1,rfl,hk,ho1⟩|⟨hi,hgi⟩
 rw[mIn hk]at hmi;rcases cls j hoj with⟨j,l,o2,rfl,hl,ho2⟩|⟨hj,hgj⟩
 rw[mIn hl]at hmj;have hkl:k≠l:=by grind
 exact hi1.sep k l b c b' c' (own1 ho1) (own1 ho2) (Akl hkl) hmi hmj;grind;rw[mOut hi]at hmi;rcases cls j hoj with⟨j,l,o2,rfl,hl,ho2⟩|⟨hj,hgj⟩
 grind;rw[mOut hj]at hmj;exact hiB.sep i j b c b' c' (ownOut hi hgi hoi) (ownOut hj hgj hoj) hij hmi hmj;-- none of them frozen
 intro i b c hoi hmi hb;rcases cls i hoi with⟨i,k,o1,rfl,hk,ho1⟩|⟨hi,hg⟩
 rw[mIn hk]at hmi;exact hi1.off k b c (own1 ho1) hmi (FR3 b hb);rw[mOut hi]at hmi;have ho:=ownOut hi hg hoi;rcases hR with⟨e1,e2,_⟩|⟨e1,e2⟩
 rw[e1]at hb;exact hiC.off i b c (ownR ho) hmi hb;rw[e1]at hb;rcases bnd b hb with h|⟨j,id,c',h1,h2⟩|h;rw[e2]at ho;exact gA.2.off i b c ho hmi h;grind;have:=hiB.IU ho hmi;omega;intro i T t xs b c hio hf hmi;rcases inOut i with⟨k,hk⟩|hg|⟨hi,hg⟩
 obtain⟨o1,ho1⟩:=has1 hk;rw[getIn hk ho1]at hio;have:o1 = .arr T t xs:=by cases o1<;>simp only[Dc,Apq]at hio<;>first|exact hio|cases hio
 grind;grind;rw[getOut hi hg]at hio;rw[mOut (x:=.o i) hi]at hmi;exact hBR b (hiB.froz i T t xs b c hio hf hmi);intro b hb;exact hi1.lt b (FR3 b hb);rw[TK,X7];exact hiB.len
end
end Go.Pev
end
section
namespace Go.Pev
open Go.RowKit
section
variable [DfI] {P:Program} {w:World} {F:Nat→Prop} {m:Mp} {st:St} {a:Act}
def AFJ(tmps:Array Value):ResultVar→Sem Value
 |.tmp t=>pure (tmps.getD t undef)
 |.cell x t=>do loadVar t (← asAddr (tmps.getD x undef))
theorem AJa(hs:SI w F m st a){rv:ResultVar}{v:AV}(h:Pw P st rv=some v):
  ∃ u,(AFJ a.tmps rv).run P w = .ok u w∧Rep w F m st.heap v u:=by
 cases rv with
  |tmp t=>simp only[Pw,Apq]at h;subst h;exact⟨_,rfl,hs.tmps t⟩
  |cell x T=>
   simp only[Pw]at h;split at h;rename_i id off n ag h1 h2 h3;split at h;rename_i cs ho;have hr:=hs.tmps x;have e1:st.tmps.f x = .ptr id off:=h1;rw[e1]at hr;unfold Rep GM at hr;rw[ho]at hr;obtain⟨b,c,e2,e3⟩:=hr;obtain⟨b',c',vs,T',e4,e5,e6,e7⟩:=hs.heap.obj id _ ho;rw[e2]at e4;cases e4;obtain⟨u,k1,k2⟩:=Cw (P:=P) h2 h3 h (Ez e6 off) (ad:=⟨b,off,none⟩) (fun u hu=>e7 u (ArT hu)) (fun j u hu=>by rw[AsP]at hu;rw[CB];simp only[World.cell?,e5];grind)
   refine⟨u,?_,k2⟩;simp[AFJ,e3,asAddr,k1];grind;grind
theorem AFI(hs:SI w F m st a):∀ {rvs:List ResultVar} {vs:List AV},DW P st rvs=some vs →
  ∃ us,(rvs.mapM (AFJ a.tmps)).run P w = .ok us w∧AT w F m st.heap vs us:=by
 intro rvs;induction rvs with
  |nil=>intro vs h;simp only[DW,Apq]at h;subst h;exact⟨[],by simp,KL⟩
  |cons rv rvs ih=>intro vs h;simp only[DW]at h;split at h;cases h;rename_i v hv;split at h;cases h;rename_i vs' hvs;simp only[Apq]at h;subst h;obtain⟨u,h1,h2⟩:=AJa hs hv;obtain⟨us,h3,h4⟩:=ih hvs;refine⟨u::us,?_,by unfold AT;grind⟩;simp_all
def AFo(us:List Value):Value:=if h:us.toArray.size=1 then us.toArray[0]else .tuple us.toArray
theorem Kj(hs:SI w F m st a){fn:Func}{vs:List AV}(h:DW P st fn.results.toList=some vs):
  ∃ us,(results fn a.tmps).run P w = .ok (AFo us) w∧AT w F m st.heap vs us:=by
 obtain⟨us,h1,h2⟩:=AFI hs h;refine⟨us,?_,h2⟩
 have e:results fn a.tmps=(do
   let vs ← fn.results.mapM (AFJ a.tmps)
   pure (if h:vs.size=1 then vs[0]else .tuple vs)):=by
  unfold results
  congr 2
 rw[e,AsK];simp only[Sem.run_bind,map_eq_pure_bind];rw[h1];rfl
theorem ABw{H:List Ob}{vs:List AV}{us:List Value}(h:AT w F m H vs us):Rep w F m H (single vs) (AFo us):=by
 have hl:=Ap h;unfold AFo;match vs,us,hl with
 |[],[],_=>
  simp only[single]
  unfold Rep
  simp_all
 |[v],[u],_=>
  simp only[single]
  unfold AT at h
  grind
 |v::v'::vs,u::u'::us,_=>
  simp only[single]
  unfold Rep
  simp_all
def JP:List RS→List Value→List Value
 |.one::r,u::us=>u::JP r us
 |.agg _::r,u::us=>u.cells.toList++JP r us
 |_,_=>[]
theorem AP7{H:List Ob}:∀ {rs:List RS} {vs:List AV} {us:List Value} {tm:List AV},FM rs vs=some tm→AT w F m H vs us →
  AT w F m H tm (JP rs us)∧(JP rs us).length=cellsOf rs∧∀ (w2:World) (F2:Nat→Prop) (m2:Mp) (H2:List Ob) (ws:List AV),AT w2 F2 m2 H2 ws (JP rs us)→AT w2 F2 m2 H2 (D6 rs ws) us:=by
 intro rs;induction rs with
  |nil=>
   intro vs us tm h hr;cases vs with
    |nil=>simp only[FM,Apq]at h;subst h;unfold AT at hr;subst hr;exact⟨KL,rfl,fun _ _ _ _ _ _=>KL⟩
    |cons v vs=>simp[FM]at h
  |cons r rs ih=>
   intro vs us tm h hr;cases vs with
    |nil=>cases r<;>simp[FM]at h
    |cons v vs=>
     unfold AT at hr;obtain⟨u,us',rfl,hv,hr⟩:=hr;cases r with
      |one=>
       simp only[FM]at h;split at h;rename_i l hl;simp only[Apq]at h;subst h;obtain⟨h1,h2,h3⟩:=ih hl hr;refine⟨by simp only[JP];unfold AT;grind,by simp[JP,cellsOf,RS.cells,h2];omega,fun w2 F2 m2 H2 ws hw => ?_⟩;simp only[JP]at hw;cases ws with
        |nil=>unfold AT at hw;cases hw
        |cons x ws=>unfold AT at hw;obtain⟨y,ys,e,q1,q2⟩:=hw;cases e;simp only[D6,AsO,ArQ];unfold AT;grind
       grind
      |agg n=>
       simp only[FM]at h;split at h;rename_i cs hag hcs;split at h;rename_i hn;simp only[Aps]at hn;split at h;rename_i l hl;simp only[Apq]at h;subst h;obtain⟨h1,h2,h3⟩:=ih hl hr;have hc:=cells?_ok hcs hv;have ho:=cells?_one hcs hv;have hcl:=Ap hc;have hu:u = .agg u.cells:=by
        cases v<;>simp only[OC]at hag<;>try grind
        rename_i t d;unfold Rep Bn at hv;rw[Ap5 hag]at hv;obtain⟨x,rfl,_⟩:=hv;rfl;unfold Rep at hv;obtain⟨x,rfl,_⟩:=hv;rfl
       refine⟨by simp only[JP];exact Gx hc h1,by simp[JP,cellsOf,RS.cells,h2]at hcl ⊢;omega,fun w2 F2 m2 H2 ws hw => ?_⟩;simp only[JP]at hw;have ht:=No hw n;have hd:=Ez hw n;have hn':u.cells.toList.length=n:=by omega
       rw[AsN hn']at ht;rw[List.drop_left' hn']at hd;simp only[D6];unfold AT;refine⟨u,us',rfl,?_,h3 w2 F2 m2 H2 _ hd⟩;unfold Rep;grind;grind;grind;grind
end
end Go.Pev
end
section
namespace Go.Pev
open Go.RowKit
theorem Bm {P : Program} {g : FuncId} {fn : Func} (hf : P.funcs[g]? = some fn) (hb : fn.body.isSome = true) (hn : (fn.name == "runtime.NumGoroutine") = false) : G4 P g := by
 intro args w;obtain⟨c,hc⟩:=Aqs.1 hb;have hn' : ¬ fn.name = "runtime.NumGoroutine" := by grind
 simp[callFunc,hf,hn',hc]
theorem LQ{P:Program}{np:Nat}{h:Hints}:∀ (c:Code) (n:Nat),loops c=0→BB P np h c n:=by
 intro c;induction c with
  |seq a b iha ihb=>intro n hl;simp only[loops]at hl;exact⟨iha n (by omega),ihb _ (by omega)⟩
  |cond c a b iha ihb=>intro n hl;simp only[loops]at hl;exact⟨iha n (by omega),ihb _ (by omega)⟩
  |block id c ih=>intro n hl;simp only[loops]at hl;exact ih n hl
  |loop c ih=>intro n hl;simp only[loops]at hl;omega
  |_=>intro n _;trivial
section
variable {P:Program} {E:Env} {h:Hints} {g:FuncId} {fn:Func} {c:Code}
theorem AEm{w:World}{F:Nat→Prop}{m:Mp}{H:List Ob}{args:List AV}{vals:List Value}(hr:AT w F m H args vals)(n:Nat)(t:Nat):
  Rep w F m H (args.getD t .CA) ((vals.toArray++Array.replicate n undef).getD t undef):=by
 have hl:=Ap hr;have e:(vals.toArray++Array.replicate n undef).getD t undef=(vals++List.replicate n undef).getD t undef:=by rw[AqM,Apu,← Aqo];simp
 rw[e,Apu,Apu];rcases Aru t args.length with ht|ht;rw[ArA (by omega)];obtain⟨v,hv,hrv⟩:=CW hr (i:=t) (c:=args[t]) (Apz ht);grind;rw[List.getElem?_eq_none ht];exact(by unfold Rep;trivial:Rep w F m H .CA _)
theorem AKl(hE:∀ g,Ak P g (E.spec g))(hL:D1 E)(hP:Fb P E)(hf:P.funcs[g]? = some fn)(hb:fn.body=some c)(hc:G4 P g)(hl:loops c=0):
  Ak P g (Bb P E h fn):=by
 intro R args H fz slot k r hk;simp only[Bb,hb]at hk;split at hk;cases hk;rename_i hle;simp only[Aps]at hle;obtain⟨e,st',h1,h2,h3⟩:=CT hE hL hP (np:=H.length) c 0 (LQ c 0 hl) R _ _ r hk;have key:∃ vs,DW P st' fn.results.toList=some vs∧k (single vs) { heap:=some (st'.heap,st'.frz) }=some r∧(e = .normal∨e = .ret):=by grind
 obtain⟨vs,hvs,h4,he⟩:=key;refine⟨_,_,h4,fun R' k' => ?_,hc,fun w F m vals hi hr => ?_⟩;simp only[Bb,hb,hle,Apy];grind;have hlv:=Ap hr;refine calls_of_wp hf hb ?_;have hsi:SI w F m { tmps:=.of args fn.ntmps,heap:=H,frz:=fz } { tmps:=vals.toArray++Array.replicate (fn.ntmps-vals.toArray.size) undef,defers:=[] }:=by refine⟨fun t => ?_,?_,hi,rfl⟩;have:=AEm hr (fn.ntmps-args.length) t;simp only[Aq0,hlv];exact this;simp[hlv,Tm.of];omega
 refine h3 w F m _ _ hsi fun a' w' F' m' s1 x1 => ?_;obtain⟨us,r1,r2⟩:=Kj s1 hvs;have hgo:Af w F m H fz w' F' m' st'.heap st'.frz:=⟨⟨x1.os,x1.tape,x1.output,x1.size,x1.keep,x1.sub,x1.bnd,x1.own,fun i o ho hf=>x1.comp i o (Aj ho) ho hf⟩,s1.heap⟩
 have hpost:a'.defers=[]∧∃ v,(results fn a'.tmps).run P w' = .ok v w'∧(fun(en:Ending) (w':World)=>∃ u,en = .returned u∧∃ F' m',Af w F m H fz w' F' m' (CH { heap:=some (st'.heap,st'.frz) } H) (EY { heap:=some (st'.heap,st'.frz) } fz)∧Rep w' F' m' (CH { heap:=some (st'.heap,st'.frz) } H) (single vs) u) (.returned v) w':=
  ⟨s1.defers,_,r1,_,rfl,F',m',hgo,ABw r2⟩
 rcases he with rfl|rfl<;>exact hpost
theorem ADM{w:World}{F:Nat→Prop}{m:Mp}{H:List Ob}{fz:List Bool}{bs:List Bnd}{m':Mp}{E:St}{val:Nat→Value}(h:Inv w F m H fz bs m' E val){j:Nat}{o:Ob}(hj:E.heap[j]? = some o):alive o:=by
 have hlt:=Aj hj;rw[h.lenH]at hlt;have hx:bs[j]? = some bs[j]:=Apz hlt;have hb:=h.ob j _ hx;cases hc:bs[j]with
  |none=>rw[hc]at hb;simp only[BN]at hb;obtain⟨_,⟨T,e,e2,_⟩|⟨T,e,e2⟩⟩:=hb<;>(rw[hj]at e2;cases e2;trivial)
  |whole id=>rw[hc]at hb;simp only[BN]at hb;rcases hb.2 with⟨T,t,xs,_,a2,_⟩|⟨k,v,es,_,a2⟩|⟨cs,cs',b,c,vs,T,_,a2,_⟩|⟨_,_,_,_,_,a2,_⟩|⟨_,_,_,_,_,_,a2,_⟩<;>(rw[hj]at a2;cases a2;trivial)
  |cut id=>rw[hc]at hb;simp only[BN]at hb;obtain⟨T,t,xs,n,_,_,a3,_⟩:=hb;rw[hj]at a3;cases a3;trivial
theorem Er{st:St}(h:st.heap.all BP=true)(v:AV)(l:Loc):(place st v l).heap.all BP=true:=by
 cases l with
  |cell j c=>simp only[place];split;rw[AqE]at h ⊢;intro o ho;rcases List.mem_or_eq_of_mem_set ho with h1|rfl;grind;rfl;omega
  |_=>exact h
theorem Jr{st:St}(h:st.heap.all BP=true){o:Ob}(ho:BP o=true):(Dz st o).heap.all BP=true:=by simp[Dz,h,ho]
theorem AZE:∀ (its:AD) (d:Au (leaves its)) (st:St),Fy its=true→st.heap.all BP=true→(enc its d st).heap.all BP=true:=by
 intro its;induction its with
  |nil=>intro d st _ h;exact h
  |cons p r ih=>
   intro d st hn h;obtain⟨l,c⟩:=p;cases c with
    |rows T e t=>simp[Fy]at hn
    |mrows j e t=>simp[Fy]at hn
    |aptr T e n=>exact ih _ _ hn (Er (Jr h rfl) _ _)
    |own T e=>exact ih _ _ hn (Er (Jr h rfl) _ _)
    |box n=>exact ih _ _ hn (Er (Jr h rfl) _ _)
    |map k v=>exact ih _ _ hn (Er (Jr h rfl) _ _)
    |prs T j=>exact ih _ _ hn (Er (Jr h rfl) _ _)
    |_=>exact ih _ _ hn (Er h _ _)
theorem NN{its:AD}{d:Au (leaves its)}{n:Nat}(hn:Fy its=true){j:Nat}{o:Ob}(h:(encode n its d).heap[j]? = some o):BP o=true:=
 AqE.1 (AZE its d (blank n) hn rfl) o (Ap0 h)
theorem AJp{its:AD}{d:Au (leaves its)}{n:Nat}(hn:Fy its=true){fz:List Bool}{x:Ix}(h:owned (encode n its d).heap fz x):x = .o x.id:=by
 cases x with
  |o i=>rfl
  |r i k=>obtain⟨o,ho,_⟩:=DD h;exact absurd h (Es ho (NN hn ho))
theorem Tp{np:Nat}{outs:AD}{rs:List RS}{st:St}{y:Au (leaves outs)}(h:finish np P fn outs rs st=some y):
  ∃ vs tm bs fr,DW P st fn.results.toList=some vs∧FM rs vs=some tm∧dec (lk tm) st.heap outs st.frz []=some (y,bs,fr)∧(pins np 0 bs&&(st.heap.take np).all BP)=true:=by unfold finish at h;grind
theorem RD{R:Type}{r:R}{gv:List Nat}{bs:List Bnd}{fr:List Nat}{rs:List RS}{X:St}{ids:List Nat}{H:List Ob}{fz:List Bool}{k:AV→Eff→Option R}(hk:Ir R gv bs fr rs X ids H fz k=some r):
  ∃ e,k (single (D6 rs (Iw ids X.tmps.list))) e=some r∧e.heap=none∧e.objs=gv.map (fun i=>(i,.dead))++ids.zip (X.heap.map (Dc ids)) ∧
   (∀ R' (k':AV→Eff→Option R'),Ir R' gv bs fr rs X ids H fz k'=k' (single (D6 rs (Iw ids X.tmps.list))) e) ∧
   FI H (AY e.frz fz) ids bs=true∧IT ids=true ∧
   ((e.frz=[]∧JQ X.tmps.list=true∧X.heap.all MR=true)∨e.frz=fr):=by unfold Ir at hk;split at hk;rename_i hflat;split at hk;rename_i hok;simp only[Apt]at hok hflat;refine⟨_,hk,rfl,rfl,fun R' k'=>by simp only[Ir,hflat.1,hflat.2,hok.1,hok.2,Aqr],hok.1,hok.2,.inl ⟨rfl,hflat.1,hflat.2⟩⟩;grind;rename_i hflat;split at hk;rename_i hok;simp only[Apt]at hok;refine⟨_,hk,rfl,rfl,fun R' k'=>by simp only[Ir,hflat,hok.1,hok.2,Aqr],hok.1,hok.2,.inr rfl⟩;grind
theorem PH{w:World}{F:Nat→Prop}{m:Mp}{H:List Ob}{fz:List Bool}{args:List AV}{vals:List Value}{na:Nat}{its:AD}{x:Au (leaves its)}{bs:List Bnd}{fr:List Nat}(hi:HI w F m H fz)(hr:AT w F m H args vals)(hal:args.length=na)(hna:na≤fn.ntmps)(hdec:dec (lk args) H its fz []=some (x,bs,fr)):
  ∃ F2 m2,Af w F m H fz w F2 m H (AY fr fz)∧Inv w F2 m H (AY fr fz) bs m2 (encode fn.ntmps its x) (fun t=>(vals.toArray++Array.replicate (fn.ntmps-vals.toArray.size) undef).getD t undef) ∧
   SI w F2 m2 (encode fn.ntmps its x) { tmps:=vals.toArray++Array.replicate (fn.ntmps-vals.toArray.size) undef,defers:=[] }:=by
 have hlv:=Ap hr
 obtain⟨F2,m2,gA,invA,_⟩:=ASY (val:=fun t=>(vals.toArray++Array.replicate (fn.ntmps-vals.toArray.size) undef).getD t undef) its fz [] F (fun _=>none) (blank fn.ntmps) x bs fr hi
  (fun t v ht=>by
   have:=AEm hr (fn.ntmps-vals.toArray.size) t
   rw[Apu,show args[t]? = some v from ht]at this
   grind) (Inv.blank fn.ntmps) hdec
 have hsi:SI w F2 m2 (encode fn.ntmps its x) { tmps:=vals.toArray++Array.replicate (fn.ntmps-vals.toArray.size) undef,defers:=[] }:=by refine⟨invA.tmps,?_,invA.hi gA.2,rfl⟩;rw[MV];grind
 exact⟨F2,m2,gA,invA,hsi⟩
theorem Yx{w:World}{F:Nat→Prop}{m:Mp}{H:List Ob}{fz:List Bool}{val:Nat→Value}{np n:Nat}{its outs:AD}{rs:List RS}{x:Au (leaves its)}{y:Au (leaves outs)}{bs bs':List Bnd}{fr fr':List Nat}{F2:Nat→Prop}{m2:Mp}{slot:Nat}{e:Eff}{ids gv:List Nat}
  (hi:HI w F m H fz) (gA:Af w F m H fz w F2 m H (AY fr fz)) (invA:Inv w F2 m H (AY fr fz) bs m2 (encode n its x) val)
  (huncut:bs.all Bnd.AUH=true) (hri:Fy its=true) (hro:Fy outs=true) (hids:CY (Cq outs) (bs.take np) slot=ids) (hgv:given (bs.drop np)=gv)
  (he1:e.heap=none) (he2:e.objs=gv.map (fun i=>(i,.dead))++ids.zip ((encode (cellsOf rs) outs y).heap.map (Dc ids))) (hok:FI H (AY e.frz fz) ids (bs.take np)=true) (hnd:IT ids=true)
  (hfl:(e.frz=[]∧JQ (encode (cellsOf rs) outs y).tmps.list=true∧(encode (cellsOf rs) outs y).heap.all MR=true)∨e.frz=fr)
  {w':World} {F':Nat→Prop} {m':Mp} {st':St} (s1h:HI w' F' m' st'.heap st'.frz) (x1:Hg np w F2 m2 (encode n its x).heap (encode n its x).frz w' F' m' st'.heap st'.frz)
  {vs:List AV} {us:List Value} {tm:List AV} (r2:AT w' F' m' st'.heap vs us) (htm:FM rs vs=some tm) (hd':dec (lk tm) st'.heap outs st'.frz []=some (y,bs',fr')) (hp:pins np 0 bs'=true) :
  ∃ F' m',Af w F m H fz w' F' m' (CH e H) (EY e fz)∧Rep w' F' m' (CH e H) (single (D6 rs (Iw ids (encode (cellsOf rs) outs y).tmps.list))) (AFo us):=by
 obtain⟨q1,q2,q3⟩:=AP7 htm r2
 obtain⟨F3,m3,gC,invC,_⟩:=ASY (val:=fun t=>(JP rs us).getD t undef) outs st'.frz [] F' (fun _=>none) (blank (cellsOf rs)) y bs' fr' s1h
  (fun t v ht=>by
   obtain⟨u,hu,hru⟩:=CW q1 ht
   grind) (Inv.blank (cellsOf rs)) hd'
 have srcA:∀ {j:Ix} {b c},owned (encode n its x).heap (encode n its x).frz j→m2 j=some (b,c)→∃ id:Nat,bs[j.id]? = some (.whole id)∧owned H (AY fr fz) id∧m id=some (b,c):=by
  intro j b c ho hm;have hj:=AJp hri ho;obtain⟨y,id,k1,k2,k3,k4⟩:=invA.src ho hm;rw[hj]at k3 k4;rw[AqE]at huncut;have:=huncut y (Ap0 k1);cases y with
   |none=>simp[Bnd.id?]at k2
   |whole i=>simp only[Bnd.id?,Apq]at k2;subst k2;exact⟨_,k1,k3,k4⟩
   |cut i=>simp[Bnd.AUH]at this
 have hinj:∀ (i j id:Nat),bs[i]? = some (.whole id)→bs[j]? = some (.whole id)→i=j:=fun i j id h1 h2=>invA.inj i j _ _ id h1 h2 rfl rfl;have start:∀ (j id:Nat),bs[j]? = some (.whole id)→m2 j=m id∧∃ o o0,H[id]? = some o∧alive o∧(encode n its x).heap[j]? = some o0∧sameShape o o0∧alive o0∧owned H (AY fr fz) id:=by
  intro j id hj;have hA:=invA.ob j _ hj;simp only[BN]at hA;obtain⟨eA,hA⟩:=hA;refine⟨eA,?_⟩;rcases hA with⟨T,t,xs,a1,a2,a3⟩|⟨k,v,es,a1,a2⟩|⟨cs,cs',b,cc,vs,T,a1,a2,_⟩|⟨_,_,_,_,a1,a2,_⟩|⟨_,_,_,_,_,_,a2,_⟩
  exact⟨_,_,a1,trivial,a2,⟨rfl,rfl⟩,trivial,Xp a1 trivial a3⟩;exact⟨_,_,a1,trivial,a2,trivial,trivial,by simp only[owned,Bv];grind⟩;rotate_left;exact⟨_,_,a1,trivial,a2,rfl,trivial,by simp only[owned,Bv];grind⟩;exact absurd (NN hri a2) (by simp[BP]);exact⟨_,_,a1,trivial,a2,trivial,trivial,by simp only[owned,Bv];grind⟩
 have hpin:∀ (j id:Nat),(bs.take np)[j]? = some (.whole id)→∃ o o1,H[id]? = some o∧alive o∧(encode (cellsOf rs) outs y).heap[j]? = some o1∧sameShape o o1∧m3 j=m id:=by
  intro j id hj0;rw[Ar1]at hj0;split at hj0;case isFalse=>cases hj0
  rename_i hjn;obtain⟨eA,o,o0,s1,s2,s3,s4,s5,s6⟩:=start j id hj0;have hC:=invC.ob j _ (by have:=AJv _ 0 bs' hp j hjn;rw[Aqg]at this;exact this);simp only[BN]at hC;obtain⟨eC,hC⟩:=hC;have mid:=x1.comp j o0 hjn s3 (AMf s5).1;have fin:∃ o2 o1,st'.heap[j]? = some o2∧alive o2∧(encode (cellsOf rs) outs y).heap[j]? = some o1∧sameShape o2 o1:=by
   rcases hC with⟨T,t,xs,a1,a2,a3⟩|⟨k,v,es,a1,a2⟩|⟨cs,cs',b,cc,vs,T,a1,a2,_⟩|⟨_,_,_,_,a1,a2,_⟩|⟨_,_,_,_,_,_,a2,_⟩
   exact⟨_,_,a1,trivial,a2,⟨rfl,rfl⟩⟩;exact⟨_,_,a1,trivial,a2,trivial⟩;rotate_left;exact⟨_,_,a1,trivial,a2,rfl⟩;exact absurd (NN hro a2) (by simp[BP]);exact⟨_,_,a1,trivial,a2,trivial⟩
  obtain⟨o2,o1,t1,t2,t3,t4⟩:=fin;rcases mid with md|⟨_,o2',md1,md2,md3,_⟩
  grind;rw[t1]at md1;cases md1;exact⟨o,o1,s1,s2,t3,(s4.trans md2).trans t4,by grind⟩
 have hiC1:=invC.hi gC.2;have hblk:∀ j b cc:Nat,owned (encode (cellsOf rs) outs y).heap (encode (cellsOf rs) outs y).frz j→m3 j=some (b,cc)→(∃ id c':Nat,(bs.take np)[j]? = some (.whole id)∧m id=some (b,c'))∨(∃ k id c':Nat,np≤k∧bs[k]? = some (.whole id)∧m id=some (b,c'))∨w.heap.size≤b:=by
  intro j b cc ho hm;obtain⟨_,i',k1,k2,k3,k4⟩:=invC.src ho hm;rcases x1.own i' b cc (Kq k3) k4 with⟨i,c0,l1,l2⟩|h;obtain⟨id,n1,n2,n3⟩:=srcA l1 l2;have hio:=AJp hri l1;generalize i.id=i0 at n1 hio;subst hio;rcases Aru i0 np with hin|hin;left;have n1':(bs.take np)[i0]? = some (.whole id):=by grind
  obtain⟨o,o1,p1,p2,p3,p4,p5⟩:=hpin i0 id n1';have hoi:owned (encode (cellsOf rs) outs y).heap (encode (cellsOf rs) outs y).frz i0:=Xp p3 (ADM invC p3) (invC.frz i0);by_cases hij:j=i0;grind;exact absurd rfl (hiC1.sep j i0 b cc b c0 ho hoi (Akl hij) hm (by grind));grind;omega
 have hkeep:∀ b,b<w.heap.size→(∀ (j id:Nat) (c:Nat),bs[j]? = some (.whole id)→m id≠some (b,c))→w'.heap[b]? = w.heap[b]? := by intro b hb hn;refine x1.keep b hb fun i cc ho hm => ?_;grind
 have hbnd:∀ b,F3 b→F2 b∨(∃ (j id c:Nat),bs[j]? = some (.whole id)∧m id=some (b,c))∨w.heap.size≤b:=by
  have hx:∀ {i:Ix} {b cc:Nat},owned (encode n its x).heap (encode n its x).frz i→m2 i=some (b,cc)→∃ (j id c:Nat),bs[j]? = some (.whole id)∧m id=some (b,c):=by grind
  intro b hb;rcases gC.1.bnd b hb with h|⟨i,cc,ho,hm⟩|h;·rcases x1.bnd b h with h|⟨i,cc,ho,hm⟩|h;all_goals grind
  ·rcases x1.own i b cc ho hm with⟨i',c0,ho,hm⟩|h;all_goals grind
  grind
 have hidl:ids.length=(encode (cellsOf rs) outs y).heap.length:=by rw[← hids,Aaj];unfold encode;rw[AhT];simp[blank]
 obtain⟨FR,hFR,hRR⟩:∃ FR,((FR=F∧AY e.frz fz=fz∧(encode (cellsOf rs) outs y).heap.all MR=true)∨(FR=F3∧AY e.frz fz=AY fr fz))∧AT w' FR m3 (encode (cellsOf rs) outs y).heap (encode (cellsOf rs) outs y).tmps.list (JP rs us):=by
  have hrt:AT w' F3 m3 (encode (cellsOf rs) outs y).heap (encode (cellsOf rs) outs y).tmps.list (JP rs us):=by refine DL (by rw[Tm.Af8,MV,q2]) fun i a u ha hu => ?_;have:=invC.tmps i;rw[Apu,hu]at this;rw[Tm.Af9 ha];exact this
  rcases hfl with⟨f1,f2,f3⟩|f1;exact⟨F,.inl ⟨rfl,by rw[f1];rfl,f3⟩,AT.flat _ f2 hrt⟩;grind
 obtain⟨hgo,hmv⟩:=Ab4 (ids:=ids) (np:=np) hi gA (fun j id hj=>(start j id hj).2.elim fun _ h=>h.elim fun _ h=>h.2.2.2.2.2) hinj hpin hblk x1.os x1.tape x1.output x1.size hkeep (fun b h=>gC.1.sub b (x1.sub b h)) hbnd hiC1 (fun j o hj=>ADM invC hj) (fun j o hj=>NN hro hj) invC.frz hidl hok hnd hFR;rw[hgv]at hgo hmv;have hH:CH e H=A5 (ids.zip ((encode (cellsOf rs) outs y).heap.map (Dc ids))) (DE gv H):=by rw[CP he1,he2,TL];rfl
 have hZ:EY e fz=AY e.frz fz:=Cd he1 fz;refine⟨FR,mOf ids m3 m,?_,?_⟩;grind;rw[hH];exact ABw (q3 _ _ _ _ _ (AT.ren hmv _ hRR))
theorem AZx(hE:∀ g,Ak P g (E.spec g))(hL:D1 E)(hP:Fb P E)(hf:P.funcs[g]? = some fn)(hb:fn.body=some c)(hc:G4 P g)
  {np na:Nat} (hna:na≤fn.ntmps) {its outs:AD} {rs:List RS} {f:Au (leaves its)→Option (Au (leaves outs))} (hfun:∀ x,f x=DC np P E h fn its outs rs x) (hl:BB P np h c 0) :
  Ak P g (AG np na its outs rs f):=by
 intro R args H fz slot k r hk;simp only[AG]at hk;split at hk;cases hk;rename_i x bs fr hdec;split at hk;cases hk;rename_i hchk;simp only[Apt,Aps]at hchk;obtain⟨⟨⟨huncut,hbl⟩,hal⟩,hri,hro⟩:=hchk;split at hk;cases hk;rename_i y hy;generalize hids:CY (Cq outs) (bs.take np) slot=ids at hk;generalize hgv:given (bs.drop np)=gv at hk;obtain⟨e,h4,he1,he2,h5,hok,hnd,hfl⟩:=RD hk;refine⟨_,e,h4,fun R' k' => ?_,hc,fun w F m vals hi hr => ?_⟩;simp only[AG,hdec,huncut,hbl,hal,hri,hro,hy,Apy,Aqr,hids,hgv];grind;have hlv:=Ap hr;rw[hfun x]at hy;unfold DC at hy;rw[hb]at hy;simp only at hy;obtain⟨ex,st',g1,_,g3⟩:=CT hE hL hP c 0 hl _ _ _ _ hy;have hfin:finish np P fn outs rs st'=some y∧(ex = .normal∨ex = .ret):=by grind
 obtain⟨hfin,hex⟩:=hfin;obtain⟨vs,tm,bs',fr',hvs,htm,hd',hp⟩:=Tp hfin;rw[Apt]at hp;replace hp:=hp.1;refine calls_of_wp hf hb ?_;obtain⟨F2,m2,gA,invA,hsi⟩:=PH hi hr hal hna hdec;refine g3 w F2 m2 _ _ hsi fun a' w' F' m' s1 x1 => ?_;obtain⟨us,r1,r2⟩:=Kj s1 hvs;have hend:=Yx hi gA invA huncut hri hro hids hgv he1 he2 hok hnd hfl s1.heap x1 r2 htm hd' hp
 have hpost:a'.defers=[]∧∃ v,(results fn a'.tmps).run P w' = .ok v w'∧(fun(en:Ending) (w':World)=>∃ u,en = .returned u∧∃ F' m',Af w F m H fz w' F' m' (CH e H) (EY e fz)∧Rep w' F' m' (CH e H) (single (D6 rs (Iw ids (encode (cellsOf rs) outs y).tmps.list))) u) (.returned v) w':=
  ⟨s1.defers,_,r1,_,rfl,hend⟩
 rcases hex with rfl|rfl<;>exact hpost
end
end Go.Pev
end
section
namespace Go.Pev
open Go.RowKit
def Kr:Code→Nat→Option Code
 |.seq a b,n=>match Kr a n with
  |some c=>some c
  |none=>Kr b (n-loops a)
 |.cond _ a b,n=>match Kr a n with
  |some c=>some c
  |none=>Kr b (n-loops a)
 |.block _ c,n=>Kr c n
 |.loop c,n=>match n with
  |0=>some c
  |n+1=>Kr c n
 |_,_=>none
def BU(f:Func):Code:=match f.body with
 |some c=>c
 |none=>.skip
def CZ(f:Func)(n:Nat):Code:=(Kr (BU f) n).getD .skip
def B5:Code→Nat→List (Nat×Code)
 |.seq a b,n=>B5 a n++B5 b (n+loops a)
 |.cond _ a b,n=>B5 a n++B5 b (n+loops a)
 |.block _ c,n=>B5 c n
 |.loop c,n=>[(n,c)]
 |_,_=>[]
def AEW(P:Program)(np:Nat)(h:Hints):List (Nat×Code)→Prop
 |[]=>True
 |p::l=>Iv P np (.loop p.2) (h.loop p.1)∧AEW P np h l
theorem AEV{P:Program}{np:Nat}{h:Hints}:∀ {a b:List (Nat×Code)},AEW P np h (a++b)→AEW P np h a∧AEW P np h b:=by
 intro a;induction a with
  |nil=>exact fun h=>⟨trivial,h⟩
  |cons p a ih=>intro b h;exact⟨⟨h.1,(ih h.2).1⟩,(ih h.2).2⟩
theorem AMn{P:Program}{np:Nat}{h:Hints}:∀ (c:Code) (n:Nat),AEW P np h (B5 c n)→BB P np h c n:=by
 intro c;induction c with
  |seq a b iha ihb=>intro n hl;have:=AEV hl;exact⟨iha n this.1,ihb _ this.2⟩
  |cond c a b iha ihb=>intro n hl;have:=AEV hl;exact⟨iha n this.1,ihb _ this.2⟩
  |block id c ih=>intro n hl;exact ih n hl
  |loop c ih=>intro n hl;exact hl.1
  |_=>intro n _;trivial
theorem D0{P:Program}{np:Nat}{h:Hints}{c:Code}{n:Nat}{l:List (Nat×Code)}(e:B5 c n=l)(a:AEW P np h l):BB P np h c n:=AMn c n (by grind)
def AI(P:Program)(E:Env):Prop:=(∀ g,Ak P g (E.spec g))∧D1 E∧Fb P E
def Env.none:Env:={ spec:=fun _ _ _ _ _ _ _=>Option.none,loc:=fun _=>false,F7:=fun _=>true }
theorem Env.Akm{P:Program}:AI P Env.none:=⟨fun g R args H fz slot k r h=>by simp[Env.none]at h,⟨fun g h=>by simp[Env.none]at h,fun g _ R args H H' fz fz' slot k S _ _ _=>rfl⟩,fun g s h=>by cases h⟩
def Env.ext(E:Env)(g:FuncId)(loc F7:Bool)(s:Spec):Env where
 spec x:=match Nat.beq x g with
  |true=>s
  |false=>E.spec x
 loc x:=match Nat.beq x g with
  |true=>loc
  |false=>E.loc x
 F7 x:=match Nat.beq x g with
  |true=>F7
  |false=>E.F7 x
 pan x:=match Nat.beq x g with
  |true=>.none
  |false=>E.pan x
theorem Env.Bi{P:Program}{E:Env}{g:FuncId}{loc F7:Bool}{s:Spec}(h:AI P E)(hs:Ak P g s)(hl:loc=true→GN s)(hl2:F7=true→Hf s):AI P (E.ext g loc F7 s):=by
 refine⟨?_,⟨?_,?_⟩,fun x s' hx => ?_⟩;intro x;simp only[Env.ext];cases hx:Nat.beq x g with
  |true=>simp_all
  |false=>exact h.1 x
 intro x hx;simp only[Env.ext]at hx ⊢;cases hb:Nat.beq x g with
  |true=>grind
  |false=>rw[hb]at hx;exact h.2.1.1 x hx
 intro x hx;simp only[Env.ext]at hx ⊢;cases hb:Nat.beq x g with
  |true=>grind
  |false=>rw[hb]at hx;exact h.2.1.2 x hx
 simp only[Env.ext]at hx ⊢;cases hb:Nat.beq x g with
  |true=>grind
  |false=>rw[hb]at hx;exact h.2.2 x s' hx
section
variable {P:Program} {E:Env} {h:Hints} {g:FuncId} {fn:Func}
theorem FW(hb:fn.body.isSome=true):fn.body=some (BU fn):=by unfold BU;grind
theorem H0 (hE : AI P E) (hf : P.funcs[g]? = some fn) (hb : fn.body.isSome = true) (hn : (fn.name == "runtime.NumGoroutine") = false)
  {np na:Nat} (hna:(Nat.ble na fn.ntmps)=true) {its outs:AD} {rs:List RS} {f:Au (leaves its)→Option (Au (leaves outs))} (hfun:∀ x,f x=DC np P E h fn its outs rs x) (hl:BB P np h (BU fn) 0) :
  Ak P g (AG np na its outs rs f):=
 AZx hE.1 hE.2.1 hE.2.2 hf (FW hb) (Bm hf hb hn) (AqT hna) hfun hl
theorem BI (hE : AI P E) (hf : P.funcs[g]? = some fn) (hb : fn.body.isSome = true) (hn : (fn.name == "runtime.NumGoroutine") = false) (hl : loops (BU fn) = 0) : Ak P g (Bb P E h fn) :=
 AKl hE.1 hE.2.1 hE.2.2 hf (FW hb) (Bm hf hb hn) hl
theorem QJ{h':Hints}(hE:AI P E){np nt n:Nat}{body:Code}{its:AD}{os:AW}{stp:Au (leaves its)→Option (Au (leaves its)⊕ZB os)}
  (hstep:∀ v,stp v=roundOf P E h' n np nt body its os v) (hl:BB P np h' body n):Iv P np (.loop body) (Kw np nt its os stp):=AaL hE.1 hE.2.1 hE.2.2 hstep hl
def Yk:AD→Bool
 |[]=>true
 |(.tmp _,.dat _)::r=>Yk r
 |_::_=>false
theorem AbR{H H':List Ob}{tm:List AV}(ha:∀ id∈BF tm,H[id]? = H'[id]?):∀ (its:AD) (fz fz':List Bool),Yk its=true→dec (lk tm) H its fz []=dec (lk tm) H' its fz' []:=by
 intro its;induction its with
  |nil=>intro fz fz' _;rfl
  |cons p r ih=>
   intro fz fz' hd;obtain⟨l,c⟩:=p;cases l<;>cases c<;>simp only[Yk]at hd<;>try (cases hd;done)
   rename_i t ty;simp only[dec,look];cases hv:lk tm t with
    |none=>rfl
    |some v=>
     have hsub:∀ id∈Ag v,H[id]? = H'[id]? := fun id hid=>ha id (by
      clear ih hd ha;unfold lk at hv;induction tm generalizing t with
       |nil=>grind
       |cons a tm iht=>
        cases t with
         |zero=>simp at hv;subst hv;simp[BF,hid]
         |succ t=>simp only[BF,Ap6];grind)
     simp only;rw[Tw ty v hsub];grind
theorem Aah:∀ (n slot:Nat),CY n [] slot=List.range' slot n:=by
 intro n;induction n with
  |zero=>intro slot;rfl
  |succ n ih=>intro slot;simp only[CY,ArF];rw[ih]
theorem Tj{H H':List Ob}{fz fz':List Bool}:∀ (ids:List Nat),(∀ i∈ids,Aq H fz i=Aq H' fz' i)→FI H fz ids []=FI H' fz' ids []:=by
 intro ids;induction ids with
  |nil=>intro _;rfl
  |cons a ids ih=>intro h;simp only[FI,List.tail_nil];grind
theorem ASZ{H:List Ob}{tm:List AV}:∀ (its:AD) (fz:List Bool) (bs:List Bnd) (x:Au (leaves its)) (bs':List Bnd) (fr:List Nat),Yk its=true→dec (lk tm) H its fz bs=some (x,bs',fr)→bs'=bs:=by
 intro its;induction its with
  |nil=>intro fz bs x bs' fr _ h;simp only[dec,Apq]at h;grind
  |cons p r ih=>
   intro fz bs x bs' fr hd h;obtain⟨l,c⟩:=p;cases l<;>cases c<;>simp only[Yk]at hd<;>try (cases hd;done)
   simp only[dec]at h;grind
theorem Kt{np na:Nat}{its outs:AD}{rs:List RS}{f:Au (leaves its)→Option (Au (leaves outs))}(hd:Yk its=true)(hn:Nat.ble (Cq outs) 4=true):GN (AG np na its outs rs f):=by
 intro R args H H' fz fz' slot k ha;unfold AG;rw[AbR ha.heap its fz fz' hd];split;rfl;rename_i x bs fr hdec;have hbs:=ASZ its fz' [] x bs fr hd hdec;subst hbs;split;rfl;split;rfl;rename_i y hy;simp only[List.take_nil,List.drop_nil];have hfree:∀ (g:List Nat) (i:Nat),i∈CY (Cq outs) [] slot→Aq H (AY g fz) i=Aq H' (AY g fz') i:=by intro g i hi;rw[Aah,List.mem_range'_1]at hi;have:=AqT hn;exact EA ha hi.1 (by omega) g
 unfold Ir;rw[show FI H fz (CY (Cq outs) [] slot) []=FI H' fz' (CY (Cq outs) [] slot) []from Tj _ (hfree []),Tj _ (hfree fr)]
end
end Go.Pev
end
section
namespace Go.Pev
open Go.RowKit
def AGe{α:Type}(xs:List α):Option (List α):=match ALS (AH xs)with
 |true=>some xs
 |false=>none
def HH[Lk]{α:Type}(xs:List α):Option (List α):=Lk.f (AGe xs)
theorem ADE{α:Type}(xs:List α):HH xs=AGe xs:=AB _
noncomputable def Da[Lk](e:TypeId)(t:Ty):Spec:=fun R args H fz slot k=>
 match args with
 |[x]=>match E0 H (.slice t) x with
  |some (xs,_)=>match(HH xs:Option (List t.den))with
   |none=>none
   |some y=>(match Aq H fz slot with|true=>k (.own slot) { objs:=[(slot,.arr e t y)] }|false=>none)
  |none=>none
 |_=>none
def Xr:Code→Nat→List Oper
 |.region id ops _,n=>if id=n then ops.toList else []
 |.seq a b,n=>Xr a n++Xr b n
 |.cond _ a b,n=>Xr a n++Xr b n
 |.block _ c,n=>Xr c n
 |.loop c,n=>Xr c n
 |_,_=>[]
def Bh(fn:Func)(n i:Nat):Oper:=((Xr (BU fn) n)[i]?).getD default
structure GO(P:Program)(fn:Func)(T e:TypeId)(t:Ty):Prop where
 body:fn.body=some (.seq (.region 0 #[Bh fn 0 0] false) (.seq (.seq (.region 1 #[Bh fn 1 0,Bh fn 1 1] false) (.cond (.tmp 4) (.seq (.region 2 #[Bh fn 2 0] false) .ret) .skip)) (.seq (.region 3 #[Bh fn 3 0,Bh fn 3 1,Bh fn 3 2,Bh fn 3 3] false) .ret)))
 nt:fn.ntmps=8
 res:fn.results = #[.tmp 2]
 d:(Bh fn 0 0).dst=some 2∧(Bh fn 1 0).dst=some 3∧(Bh fn 1 1).dst=some 4∧(Bh fn 2 0).dst=some 2∧(Bh fn 3 0).dst=some 5∧(Bh fn 3 1).dst=some 6∧(Bh fn 3 2).dst=some 7∧(Bh fn 3 3).dst=some 2
 g:(Bh fn 0 0).guard=none∧(Bh fn 1 0).guard=none∧(Bh fn 1 1).guard=none∧(Bh fn 2 0).guard=none∧(Bh fn 3 0).guard=none∧(Bh fn 3 1).guard=none∧(Bh fn 3 2).guard=none∧(Bh fn 3 3).guard=none
 o00:(Bh fn 0 0).op = .assign (.const (.slice none 0 0))
 o10:(Bh fn 1 0).op = .move (.tmp 0)
 o11:(Bh fn 1 1).op = .binOp .eql T (.tmp 3) (.const (.slice none 0 0)) T
 o20:(Bh fn 2 0).op = .assign (.const (.slice none 0 0))
 o30:(Bh fn 3 0).op = .buildSlice T 0 #[]
 o31:(Bh fn 3 1).op = .move (.tmp 0)
 o32:(Bh fn 3 2).op = .call { callee:=.builtin .append,args:=#[.tmp 5,.tmp 6],argTypes:=#[T,T] }
 o33:(Bh fn 3 3).op = .assign (.tmp 7)
 sl:sliceAt P T=some (e,t)
 z:(zeroAt P e).isSome=true
 by1:(P.info? e).map (fun i=>decide (i.bytes≤1024))=some true
section
variable {P:Program} {g:FuncId}
theorem CF{ops:Array Oper}{Q:Exit→Act→World→Prop}{i:Nat}{rest:List Nat}{a:Act}{w:World}{o:Oper}(ho:ops[i]? = some o)(hg:o.guard=none)(h:o.wp P a w (wpOps P ops Q rest) Q):wpOps P ops Q (i::rest) a w:=by simp only[wpOps,ho];rw[Ap5 (by simp[Region.wanted,hg])];grind
theorem B4{o:Oper}{a:Act}{w w':World}{next:Act→World→Prop}{Q:Exit→Act→World→Prop}{u:Value}(h:(execOp a.eval o).run P w = .ok (.value u) w')(hn:next (a.put o.dst u) w'):o.wp P a w next Q:=by unfold Oper.wp;rw[h];exact hn
variable {fn:Func} {T e:TypeId} {t:Ty}
theorem KB{P:Program}{w:World}{ρ:Operand→Value}{o:Oper}{x:Operand}(h:o.op = .move x):(execOp ρ o).run P w = .ok (.value (ρ x)) w:=by simp[execOp,h]
theorem Gu{P:Program}{w:World}{ρ:Operand→Value}{o:Oper}{x:Operand}(h:o.op = .assign x):(execOp ρ o).run P w = .ok (.value (ρ x)) w:=by simp[execOp,h]
theorem Mj (hs : GO P fn T e t) (hf : P.funcs[g]? = some fn) (hn : (fn.name == "runtime.NumGoroutine") = false) : Ak P g (Da e t) := by
 intro R args H fz slot k r hk;unfold Da at hk;split at hk;rename_i x;split at hk;rename_i xs fr hx;split at hk;cases hk;rename_i y hy;split at hk;rename_i hfree;refine⟨_,_,hk,fun R' k'=>by simp only[Da,hx,hy,hfree],Bm hf (by rw[hs.body];rfl) hn,fun w F m vals hi hr => ?_⟩;rw[ADE]at hy;unfold AGe at hy;split at hy;rename_i hfit;simp only[Apq]at hy;subst hy;have hr0:=hr;unfold AT at hr;obtain⟨v,vs',rfl,hrv,hnil⟩:=hr;unfold AT at hnil;subst hnil;obtain⟨hu,hty0,hpos⟩:=By hs.sl;obtain⟨zz,hzz⟩:=Aqs.1 hs.z;obtain⟨t',cs'⟩:=zz;obtain⟨hty',hcs',i,z,hi0,hz0,hok,hsz,hza⟩:=Bl hzz;subst hcs';have:t'=t:=by grind
 subst this;have hzs:z.cells.size=i.size:=by have hzd:=Be (w:=default) (F:=fun _=>False) t' _ hok;rw[hsz,← AqG];exact Dat.length t' hzd
 have hby':i.bytes≤1024:=by simpa [hi0]using hs.by1
 obtain⟨A,c,rfl,q2,q3,news,q4,q5⟩:=Dx hi hx hrv;have hfit':xs.length≤4294967296:=by have:(xs.length:Int)≤4294967296:=(Sg _).1 hfit;omega
 refine calls_of_wp hf hs.body ?_;obtain⟨d0,d1,d2,d3,d4,d5,d6,d7⟩:=hs.d;obtain⟨g0,g1,g2,g3,g4,g5,g6,g7⟩:=hs.g;have hres:∀ (tm:Array Value) (w0:World),(results fn tm).run P w0 = .ok (tm.getD 2 undef) w0:=fun tm w0=>by simp[results,hs.res]
 refine wp_seq (wp_region ?_);simp only[Aq0,Apw,Ap8,Aqp,Ar4,AqI];refine CF (by rfl) g0 (B4 (Gu hs.o00) ?_);refine wp_seq (wp_seq (wp_region ?_));simp only[Aq0,Apw,Ap8,Aqp,Ar4,AqI,AqJ];refine CF (by rfl) g1 (B4 (KB hs.o10) ?_);refine CF (by rfl) g2 (B4 (u:=.bool A.isNone) (w':=w) (by simp[execOp,hs.o11,Act.eval,Act.put,d0,d1,hs.nt,eqGuard,Lib.run_eql_slice_nil _ _ _ _ _ _ _ _ hu]) ?_);cases A with
  |none=>
   have hxs:xs=[]:=by grind
   subst hxs;refine wp_cond_true (by simp[Act.eval,Act.put,d0,d1,d2,hs.nt]) ?_;refine wp_seq (wp_region ?_);simp only[Aq0,Apw,Ap8,Aqp,Ar4,AqI];refine CF (by rfl) g3 (B4 (Gu hs.o20) ?_);refine wp_ret ?_;refine⟨by simp[Act.put,d0,d1,d2,d3],_,hres _ _,?_⟩;obtain⟨m',hg,hrep⟩:=Dr (w:=w) hi hfree e hpos none;refine⟨_,rfl,F,m',hg,?_⟩;show Rep _ _ _ (H.set slot _) _ _;simpa [Act.put,Act.eval,d0,d1,d2,d3,hs.nt]using hrep
  |some ad=>
   refine wp_cond_false (by simp[Act.eval,Act.put,d0,d1,d2,hs.nt]) ?_;refine wp_skip ?_;refine wp_seq (wp_region ?_);simp only[Aq0,Apw,Ap8,Aqp,Ar4,AqI,AqJ];refine CF (by rfl) g4 (B4 (u:=.slice (some ⟨w.heap.size,0,none⟩) 0 0) (w':=w.alloc (.cells #[] e)) (by have:=II (P:=P) (w:=w) (len:=0) (parts:=#[]) (us:=#[]) hu hi0 hz0 hsz (by omega) (by simp[Instr.fill]);simp[execOp,hs.o30,this]) ?_)
   refine CF (by rfl) g5 (B4 (KB hs.o31) ?_);have hga:=Af.grow (w':=w.alloc (.cells #[] e)) hi rfl rfl rfl (by simp) (fun b hb=>Below.heap_alloc w _ b hb)
   obtain⟨v,w',m',hrun,hg,hrep⟩:=FY (P:=P) (T:=T) (ty:=(Bh fn 3 2).type) hga.2 hfree hu hi0 hz0 hzs hsz hpos hby' hfit' (some ⟨w.heap.size,0,none⟩) (A:=some ad) (c:=c) (ys:=xs) (news:=news) (fun _=>rfl)
    (BL (fun x _ cs hx=>hx.mono (fun a ha=>by simp[World.cell?,Below.heap_alloc w _ _ (hi.lt _ ha)]) (fun _ h=>h) t') q4) (fun ad' h j u hu'=>by
     have:=q5 ad' h j u hu'
     exact Lib.cell?_alloc_some _ this)
   refine CF (by rfl) g6 (B4 (u:=v) (w':=w') (by simp[execOp,hs.o32,resolve,invoke,builtin,Act.eval,Act.put,d0,d1,d2,d4,d5,hs.nt,hrun]) ?_)
   refine CF (by rfl) g7 (B4 (Gu hs.o33) ?_);refine wp_ret ?_;refine⟨by simp[Act.put,d0,d1,d2,d4,d5,d6,d7],_,hres _ _,?_⟩;refine⟨_,rfl,F,m',hga.trans hg,?_⟩;show Rep _ _ _ (H.set slot _) _ _;simpa [Act.put,Act.eval,d0,d1,d2,d4,d5,d6,d7,hs.nt]using hrep
 grind;grind;grind;grind
theorem BZ(e:TypeId)(t:Ty):GN (Da e t):=by
 intro R args H H' fz fz' slot k ha;unfold Da;cases args with
  |nil=>rfl
  |cons x r=>cases r with
   |cons y r=>rfl
   |nil=>
    simp only
    rw[Bx (.slice t) x fun id hid=>ha.heap id (by simpa [BF]using hid)]
    have:=EA ha (s:=slot) (Ap1 _) (by omega) []
    simp only[AY]at this
    rw[this]
end
end Go.Pev
end
section
namespace Go.Pev
noncomputable section
abbrev U0:Ty:=(.int .i64)
abbrev U1:=(Int×Int×Int×Bool×Unit)
abbrev U2:Ty:=(.prod U0 (.prod U0 (.prod U0 (.prod .bool .unit))))
abbrev U3:=(Int×Int×Unit)
abbrev U4:Ty:=(.prod U0 (.prod U0 .unit))
abbrev U5:=(List Int)
abbrev U6:Ty:=(.slice U0)
abbrev U7:=(Int×Int×Int×Int×Unit)
abbrev U8:=(Int×Unit)
abbrev U9:=(List Int×Int×Int×Int×Unit)
abbrev Ua:=(List Int×Unit)
abbrev Ub:=(List Int×Int×Int×Unit)
abbrev Uc:=(Bool×Unit)
abbrev Ud:Ty:=(.prod U0 (.prod U0 U4))
abbrev Ue:Ty:=(.slice U6)
abbrev Uf:=(Int×(List U1)×Unit)
abbrev Ug:=(Int×Int×Int×Unit)
abbrev Uh:=(List Int×Int×Unit)
abbrev Ui:=(Int×Int×U5×Unit)
abbrev Uj:Ty:=(.int .u32)
abbrev Uk:=(U5×U5×(List U5)×Unit)
abbrev Ul:=(List U3×Int×Int×Unit)
abbrev Um:Ty:=(.prod U0 (.prod (.slice U2) .unit))
abbrev Un:=(List U7×Int×List Bool×List U5×Bool×Int×Int×List U1×Int×Unit)
abbrev Uo:=(Int×(List U5)×Unit)
abbrev Up:=(List Int×Int×Int×Int×Int×Unit)
abbrev Uq:=(List U5×Int×Int×Unit)
abbrev Ur:=(List U1×Int×Int×Unit)
abbrev Us:Ty:=(.prod U0 (.prod U0 (.prod (.slice (.arr 2 U0)) .unit)))
abbrev Ut:Ty:=(.prod U0 (.prod U0 (.prod U6 .unit)))
abbrev Uu:=(List U5×Int×Int×Int×Unit)
abbrev Uv:=(List U3×Int×Int×Int×Unit)
abbrev Uw:=(List U1×Int×Int×Int×Unit)
abbrev Ux:=(List U3×Unit)
abbrev Uy:Ty:=(.slice U2)
abbrev Uz:=(Int×Int)
abbrev V0:=(Int×Int×(List U5)×Unit)
abbrev V1:Ty:=(.slice .bool)
abbrev V2:=(Uf×Int×Int×Unit)
abbrev V3:=(List U5×Unit)
abbrev V4:=(List U1×Unit)
abbrev V5:=(Int×List U1×Bool×Bool×Int×Int×Int×Int×Int×List Uz×List Int×Int×Int×Unit)
abbrev V6:Ty:=(.slice Uj)
abbrev V7:Ty:=(.prod U6 (.prod U6 (.prod Ue .unit)))
abbrev V8:=(List U7×Int×List Bool×List U5×Bool×Int×Int×Int×Int×Int×Bool×Int×Unit)
abbrev V9:=(Bool×Bool×U3×Int×Unit)
abbrev Va:=(List Int×List Int×Int×Int×Unit)
abbrev Vb:Ty:=(.slice U4)
abbrev Vc:=(List Int×List Int×Unit)
abbrev Vd:=(List Int×List Int×List Int×Int×Int×Unit)
abbrev Ve:Ty:=(.slice Ud)
abbrev Vf:=(List Int×Int×Int×Int×Int×Int×Unit)
abbrev Vg:=(Int×List U5×List Bool×Int×Int×Int×List Int×Int×List Int×Int×Bool×Int×List Int×Bool×Bool×List Int×List Int×List U5×List Int×List U5×Bool×Bool×List Int×Int×Int×Bool×Unit)
abbrev Vh:=(List Int×List Int×Int×Int×List Int×List Int×Int×Int×Unit)
abbrev Vi:=(Int×List U5×List Uz×Int×List U5×Int×Int×List Int×Int×Int×Bool×List Int×Bool×Bool×List Int×Int×List Int×Int×Bool×Int×List Int×Bool×Bool×List Int×Int×Int×Unit)
abbrev Vj:=(Int×List Int×Int×List Int×Int×Bool×Bool×Bool×Bool×Int×Int×Bool×Int×Int×Int×Int×Int×Bool×Int×Int×Int×Int×Int×Int×Int×Int×Int×Bool×Unit)
abbrev Vk:=(List Int×Int×Int×Int×Bool×Bool×Unit)
abbrev Vl:Ty:=(.prod (.prod Ve (.prod U0 (.prod V1 .unit))) (.prod Ue (.prod .bool U4)))
abbrev Vm:=(List U7×Int×List Bool×List U5×Bool×Int×Int×List Uz×List U5×Int×Int×Unit)
abbrev Vn:Ty:=(.prod .bool (.prod .bool (.prod U4 (.prod U0 .unit))))
abbrev CX:AD:=[(.tmp 0,.dat Uj)]
abbrev AP:AD:=[(.tmp 0,.di)]
abbrev AA:List RS:=[.one]
def AVi[Lk]:U8→Option (U8):=fun(a0,_)=>
 match(ile 65536 a0)with
 |true=>match shr? .u32 a0 16 with|none=>none|some x0=>match(ile 256 x0)with
  |true=>match shr? .u32 x0 8 with|none=>none|some x1=>match idx ([0,1,2,2,3,3,3,3,4,4,4,4,4,4,4,4,5,5,5,5,5,5,5,5,5,5,5,5,5,5,5,5,6,6,6,6,6,6,6,6,6,6,6,6,6,6,6,6,6,6,6,6,6,6,6,6,6,6,6,6,6,6,6,6,7,7,7,7,7,7,7,7,7,7,7,7,7,7,7,7,7,7,7,7,7,7,7,7,7,7,7,7,7,7,7,7,7,7,7,7,7,7,7,7,7,7,7,7,7,7,7,7,7,7,7,7,7,7,7,7,7,7,7,7,7,7,7,7,8,8,8,8,8,8,8,8,8,8,8,8,8,8,8,8,8,8,8,8,8,8,8,8,8,8,8,8,8,8,8,8,8,8,8,8,8,8,8,8,8,8,8,8,8,8,8,8,8,8,8,8,8,8,8,8,8,8,8,8,8,8,8,8,8,8,8,8,8,8,8,8,8,8,8,8,8,8,8,8,8,8,8,8,8,8,8,8,8,8,8,8,8,8,8,8,8,8,8,8,8,8,8,8,8,8,8,8,8,8,8,8,8,8,8,8,8,8,8,8,8,8,8,8,8,8,8,8]:List (Int)) (IntKind.wrap .u8 x1)with|none=>none|some x2=>some ((IntKind.wrap .i64 ((IntKind.wrap .i64 (16+8))+(IntKind.wrap .i64 x2))),())
  |false=>match idx ([0,1,2,2,3,3,3,3,4,4,4,4,4,4,4,4,5,5,5,5,5,5,5,5,5,5,5,5,5,5,5,5,6,6,6,6,6,6,6,6,6,6,6,6,6,6,6,6,6,6,6,6,6,6,6,6,6,6,6,6,6,6,6,6,7,7,7,7,7,7,7,7,7,7,7,7,7,7,7,7,7,7,7,7,7,7,7,7,7,7,7,7,7,7,7,7,7,7,7,7,7,7,7,7,7,7,7,7,7,7,7,7,7,7,7,7,7,7,7,7,7,7,7,7,7,7,7,7,8,8,8,8,8,8,8,8,8,8,8,8,8,8,8,8,8,8,8,8,8,8,8,8,8,8,8,8,8,8,8,8,8,8,8,8,8,8,8,8,8,8,8,8,8,8,8,8,8,8,8,8,8,8,8,8,8,8,8,8,8,8,8,8,8,8,8,8,8,8,8,8,8,8,8,8,8,8,8,8,8,8,8,8,8,8,8,8,8,8,8,8,8,8,8,8,8,8,8,8,8,8,8,8,8,8,8,8,8,8,8,8,8,8,8,8,8,8,8,8,8,8,8,8,8,8,8,8]:List (Int)) (IntKind.wrap .u8 x0)with|none=>none|some x3=>some ((IntKind.wrap .i64 (16+(IntKind.wrap .i64 x3))),())
 |false=>match(ile 256 a0)with
 |true=>match shr? .u32 a0 8 with|none=>none|some x4=>match idx ([0,1,2,2,3,3,3,3,4,4,4,4,4,4,4,4,5,5,5,5,5,5,5,5,5,5,5,5,5,5,5,5,6,6,6,6,6,6,6,6,6,6,6,6,6,6,6,6,6,6,6,6,6,6,6,6,6,6,6,6,6,6,6,6,7,7,7,7,7,7,7,7,7,7,7,7,7,7,7,7,7,7,7,7,7,7,7,7,7,7,7,7,7,7,7,7,7,7,7,7,7,7,7,7,7,7,7,7,7,7,7,7,7,7,7,7,7,7,7,7,7,7,7,7,7,7,7,7,8,8,8,8,8,8,8,8,8,8,8,8,8,8,8,8,8,8,8,8,8,8,8,8,8,8,8,8,8,8,8,8,8,8,8,8,8,8,8,8,8,8,8,8,8,8,8,8,8,8,8,8,8,8,8,8,8,8,8,8,8,8,8,8,8,8,8,8,8,8,8,8,8,8,8,8,8,8,8,8,8,8,8,8,8,8,8,8,8,8,8,8,8,8,8,8,8,8,8,8,8,8,8,8,8,8,8,8,8,8,8,8,8,8,8,8,8,8,8,8,8,8,8,8,8,8,8,8]:List (Int)) (IntKind.wrap .u8 x4)with|none=>none|some x5=>some ((IntKind.wrap .i64 ((IntKind.wrap .i64 (0+8))+(IntKind.wrap .i64 x5))),())
 |false=>match idx ([0,1,2,2,3,3,3,3,4,4,4,4,4,4,4,4,5,5,5,5,5,5,5,5,5,5,5,5,5,5,5,5,6,6,6,6,6,6,6,6,6,6,6,6,6,6,6,6,6,6,6,6,6,6,6,6,6,6,6,6,6,6,6,6,7,7,7,7,7,7,7,7,7,7,7,7,7,7,7,7,7,7,7,7,7,7,7,7,7,7,7,7,7,7,7,7,7,7,7,7,7,7,7,7,7,7,7,7,7,7,7,7,7,7,7,7,7,7,7,7,7,7,7,7,7,7,7,7,8,8,8,8,8,8,8,8,8,8,8,8,8,8,8,8,8,8,8,8,8,8,8,8,8,8,8,8,8,8,8,8,8,8,8,8,8,8,8,8,8,8,8,8,8,8,8,8,8,8,8,8,8,8,8,8,8,8,8,8,8,8,8,8,8,8,8,8,8,8,8,8,8,8,8,8,8,8,8,8,8,8,8,8,8,8,8,8,8,8,8,8,8,8,8,8,8,8,8,8,8,8,8,8,8,8,8,8,8,8,8,8,8,8,8,8,8,8,8,8,8,8,8,8,8,8,8,8]:List (Int)) (IntKind.wrap .u8 a0)with|none=>none|some x6=>some ((IntKind.wrap .i64 (0+(IntKind.wrap .i64 x6))),())
def Ami[Lk]:=fun v=>Lk.f (AVi v)
theorem AgF v:Ami v=AVi v:=AB _
abbrev DO:AD:=[(.tmp 0,.dat U6),(.tmp 1,.dat U6)]
abbrev AM:AD:=[(.tmp 0,.dat .bool)]
abbrev Aac:AD:=[(.tmp 0,.dat U6),(.tmp 1,.dat U6),(.tmp 5,.di)]
abbrev Hx:AW:=[(.ret,[(.tmp 4,.dat .bool)]),(.exit 0,[])]
def Hw[Lk]:(List Int×List Int×Int×Unit)→Option ((List Int×List Int×Int×Unit)⊕Uc⊕(Unit)⊕Unit):=fun(a0,a1,a2,_)=>
 match(ilt a2 (AH a0))with
 |true=>match idx a0 a2 with|none=>none|some x0=>match idx a1 a2 with|none=>none|some x1=>match(!(ieq x0 x1))with
  |true=>some (.inr (.inl (false,())))
  |false=>some (.inl (a0,a1,(IntKind.wrap .i64 (a2+1)),()))
 |false=>some (.inr (.inr (.inl ())))
def YB[Lk]:Vc→Option (Uc):=fun(a0,a1,_)=>
 match(!(ieq (AH a0) (AH a1)))with
 |true=>some (false,())
 |false=>match AL Hw many (a0,a1,0,())with|none=>none|some r=>match r with
 |.inl (o0,_)=>some (o0,())
 |.inr r=>match r with
 |.inl _=>some (true,())
 |.inr _=>none
def Ov[Lk]:=fun v=>Lk.f (YB v)
theorem ACo v:Ov v=YB v:=AB _
def Wm[Lk]:U8→Option (Uc):=fun(a0,_)=>
 match(ile 1 a0)with
 |true=>some ((ile a0 64),())
 |false=>some (false,())
def OK[Lk]:=fun v=>Lk.f (Wm v)
theorem ABc v:OK v=Wm v:=AB _
abbrev C5:AD:=[(.tmp 0,.di),(.tmp 1,.di)]
def AdS[Lk]:U3→Option (Uc):=fun(a0,a1,_)=>
 match OK (a0,())with|none=>none|some (y0,_)=>match y0 with
 |true=>match(ile 0 a1)with
  |true=>some ((ilt a1 a0),())
  |false=>some (false,())
 |false=>some (false,())
def tin[Lk]:=fun v=>Lk.f (AdS v)
theorem AdR v:tin v=AdS v:=AB _
abbrev Lr:AD:=[(.tmp 0,.di),(.tmp 1,.di),(.tmp 2,.di)]
def APJ[Lk]:Ug→Option (U8):=fun(a0,a1,a2,_)=>
 match(ieq a1 a2)with
 |true=>some ((-1:Int),())
 |false=>match tin (a0,a1,())with|none=>none|some (y0,_)=>match(!y0)with
 |true=>some ((-1:Int),())
 |false=>match tin (a0,a2,())with|none=>none|some (y1,_)=>match(!y1)with
 |true=>some ((-1:Int),())
 |false=>some ((IntKind.wrap .i64 ((IntKind.wrap .i64 (a0*(IntKind.wrap .i64 (a1+1))))+a2)),())
def AdW[Lk]:=fun v=>Lk.f (APJ v)
theorem AUR v:AdW v=APJ v:=AB _
abbrev Pa:AD:=[(.tmp 0,.di),(.tmp 1,.di),(.tmp 2,.dat .bool),(.tmp 3,.dat .bool)]
abbrev EN:List RS:=[.one,.one,.one,.one]
def Wl[Lk]:U3→Option ((Int×Int×Bool×Bool×Unit)):=fun(a0,a1,_)=>
 match OK (a0,())with|none=>none|some (y0,_)=>match(!y0)with
 |true=>some (0,0,false,false,())
 |false=>match(ilt a1 0)with
 |true=>some (0,0,false,false,())
 |false=>match(ile (IntKind.wrap .i64 (a0*(IntKind.wrap .i64 (a0+1)))) a1)with
 |true=>some (0,0,false,false,())
 |false=>match(ilt a1 a0)with
 |true=>some (a1,0,false,true,())
 |false=>match quo? .i64 a1 a0 with|none=>none|some x1=>match rem? a1 a0 with|none=>none|some x2=>match(ieq (IntKind.wrap .i64 (x1-1)) x2)with
 |true=>some (0,0,false,false,())
 |false=>some ((IntKind.wrap .i64 (x1-1)),x2,true,true,())
def AEg[Lk]:=fun v=>Lk.f (Wl v)
theorem ABb v:AEg v=Wl v:=AB _
abbrev Vu:AD:=[(.tmp 0,.di),(.tmp 1,.own 36 U6),(.tmp 2,.di)]
abbrev I2:List RS:=[.agg 2,.one]
abbrev AdN:AD:=[(.tmp 2,.box 2),(.cell 0 0,.di),(.cell 0 1,.nil U6),(.tmp 4,.box 2),(.cell 1 0,.di),(.cell 1 1,.own 36 U6),(.tmp 12,.di),(.tmp 13,.di)]
abbrev AIg:AW:=[(.exit 0,[(.tmp 2,.box 2),(.cell 0 0,.di),(.cell 0 1,.nil U6),(.tmp 4,.box 2),(.cell 1 0,.di),(.cell 1 1,.own 36 U6)])]
def Lq[Lk]:(Int×Int×List U5×Int×Int×Unit)→Option ((Int×Int×List U5×Int×Int×Unit)⊕(Int×Int×List U5×Unit)⊕Unit):=fun(a0,a1,a2,a3,a4,_)=>
 match(ilt a4 a3)with
 |true=>match(fits ((AH a2)+(AH ([([a4]:List (Int))]:List U5))))with
  |true=>some (.inl (a0,a1,(Ai a2 ([([a4]:List (Int))]:List U5)),a3,(IntKind.wrap .i64 (a4+1)),()))
  |false=>none
 |false=>some (.inr (.inl (a0,a1,a2,())))
def AEn[Lk]:U8→Option ((Int×List U5×Int×Unit)):=fun(a0,_)=>
 match OK (a0,())with|none=>none|some (y0,_)=>match(!y0)with
 |true=>some (0,([]:List U5),1,())
 |false=>match AL Lq many (0,a0,([]:List U5),a0,0,())with|none=>none|some r=>match r with
 |.inl (o1,o2,o3,_)=>some (o2,o3,0,())
 |.inr _=>none
def AUQ[Lk]:=fun v=>Lk.f (AEn v)
theorem AIh v:AUQ v=AEn v:=AB _
abbrev Ci:AD:=[(.tmp 0,.dat U6),(.tmp 1,.di)]
abbrev Aae:AD:=[(.tmp 0,.dat U6),(.tmp 1,.di),(.tmp 7,.di),(.tmp 8,.di)]
abbrev DY:AW:=[(.ret,[(.tmp 4,.di)]),(.exit 0,[])]
def J5[Lk]:U9→Option (U9⊕U8⊕(Unit)⊕Unit):=fun(a0,a1,a2,a3,_)=>
 match(ilt a3 a2)with
 |true=>match idx a0 a3 with|none=>none|some x0=>match(ieq a1 x0)with
  |true=>some (.inr (.inl (a3,())))
  |false=>some (.inl (a0,a1,a2,(IntKind.wrap .i64 (a3+1)),()))
 |false=>some (.inr (.inr (.inl ())))
def YF[Lk]:Uh→Option (U8):=fun(a0,a1,_)=>
 match AL J5 many (a0,a1,(AH a0),0,())with|none=>none|some r=>match r with
 |.inl (o0,_)=>some (o0,())
 |.inr r=>match r with
 |.inl _=>some ((-1:Int),())
 |.inr _=>none
def SY[Lk]:=fun v=>Lk.f (YF v)
theorem ACq v:SY v=YF v:=AB _
def Me[Lk]:Uh→Option (Uc):=fun(a0,a1,_)=>
 match SY (a0,a1,())with|none=>none|some (y0,_)=>some ((ile 0 y0),())
def GG[Lk]:=fun v=>Lk.f (Me v)
theorem Q6 v:GG v=Me v:=AB _
abbrev E9:AD:=[(.tmp 0,.dat U6)]
abbrev AVU:AD:=[(.tmp 0,.dat U6),(.tmp 3,.di),(.tmp 4,.di)]
abbrev AFi:AW:=[(.exit 0,[(.tmp 3,.di)])]
def QC[Lk]:Ub→Option (Ub⊕U8⊕Unit):=fun(a0,a1,a2,_)=>
 match(ilt a2 (AH a0))with
 |true=>match idx a0 a2 with|none=>none|some x0=>some (.inl (a0,(Bs a1 x0),(IntKind.wrap .i64 (a2+1)),()))
 |false=>some (.inr (.inl (a1,())))
def ARK[Lk]:Ua→Option (U8):=fun(a0,_)=>
 match(ilt (AH a0) 1)with
 |true=>none
 |false=>match idx a0 0 with|none=>none|some x0=>match AL QC many (a0,x0,1,())with|none=>none|some r=>match r with
 |.inl (o1,_)=>some (o1,())
 |.inr _=>none
def Afx[Lk]:=fun v=>Lk.f (ARK v)
theorem AVV v:Afx v=ARK v:=AB _
abbrev AVu:AD:=[(.tmp 0,.nil U0),(.tmp 1,.di)]
abbrev BX:AD:=[(.tmp 0,.own 3 U0)]
def WL[Lk]:U8→Option (Ua):=fun(a0,_)=>
 match(ilt a0 0)with
 |true=>none
 |false=>match(ilt 0 (IntKind.wrap .i64 (a0-(IntKind.wrap .i64 (0-0)))))with
 |true=>match CE ([]:List Unit) 0 0 with|none=>none|some _u0=>match(Bq (IntKind.wrap .i64 (a0-(IntKind.wrap .i64 (0-0)))))with
  |true=>match CE (Cb (AF (IntKind.wrap .i64 (a0-(IntKind.wrap .i64 ((0:Int)-(0:Int)))))) (0:Int)) (0:Int) (0:Int)with|none=>none|some x1=>some ((CL (AF (AH x1)) (Cb (AF (IntKind.wrap .i64 (a0-(IntKind.wrap .i64 ((0:Int)-(0:Int)))))) (0:Int))),())
  |false=>none
 |false=>some (([]:List (Int)),())
def ALE[Lk]:=fun v=>Lk.f (WL v)
theorem YQ v:ALE v=WL v:=AB _
abbrev ADC:AD:=[(.tmp 0,.dat Ue)]
abbrev ASq:AD:=[(.tmp 6,.own 3 U0),(.tmp 25,.dat Ue),(.tmp 26,.di),(.tmp 27,.di)]
abbrev ASo:AW:=[(.exit 2,[(.tmp 6,.own 3 U0)])]
def DH[Lk]:(List Int×List U5×Int×Int×Unit)→Option ((List Int×List U5×Int×Int×Unit)⊕Ua⊕Unit):=fun(a0,a1,a2,a3,_)=>
 match(ilt a3 a2)with
 |true=>match idx a1 a3 with|none=>none|some x0=>match(fits ((AH a0)+(AH x0)))with
  |true=>some (.inl ((Ai a0 x0),a1,a2,(IntKind.wrap .i64 (a3+1)),()))
  |false=>none
 |false=>some (.inr (.inl (a0,())))
abbrev ASr:AD:=[(.tmp 0,.dat Ue),(.tmp 3,.di),(.tmp 9,.dat Ue),(.tmp 10,.di),(.tmp 11,.di)]
abbrev ASp:AW:=[(.exit 0,[(.tmp 0,.dat Ue),(.tmp 3,.di)])]
def DI[Lk]:(List U5×Int×List U5×Int×Int×Unit)→Option ((List U5×Int×List U5×Int×Int×Unit)⊕(List U5×Int×Unit)⊕Unit):=fun(a0,a1,a2,a3,a4,_)=>
 match(ilt a4 a3)with
 |true=>match idx a2 a4 with|none=>none|some x0=>match(ilt (IntKind.wrap .i64 (a1+(AH x0))) 0)with
  |true=>none
  |false=>some (.inl (a0,(IntKind.wrap .i64 (a1+(AH x0))),a2,a3,(IntKind.wrap .i64 (a4+1)),()))
 |false=>some (.inr (.inl (a0,a1,())))
def Ni[Lk]:V3→Option (Ua):=fun(a0,_)=>
 match AL DI many (a0,0,a0,(AH a0),0,())with|none=>none|some r=>match r with
 |.inl (o0,o1,_)=>match ALE (o1,())with|none=>none|some (y2,_)=>match AL DH many (y2,o0,(AH o0),0,())with|none=>none|some r=>match r with
  |.inl (o3,_)=>some (o3,())
  |.inr _=>none
 |.inr _=>none
def Hc[Lk]:=fun v=>Lk.f (Ni v)
theorem PE v:Hc v=Ni v:=AB _
abbrev FF:AD:=[(.tmp 0,.dat U6),(.tmp 1,.clo 207 [])]
abbrev UZ:AD:=[(.tmp 0,.dat U6),(.tmp 1,.clo 207 []),(.tmp 7,.di),(.tmp 8,.di)]
def DP[Lk]:Ub→Option (Ub⊕U8⊕(Unit)⊕Unit):=fun(a0,a1,a2,_)=>
 match(ilt a2 a1)with
 |true=>match idx a0 a2 with|none=>none|some x0=>match(ilt x0 0)with
  |true=>some (.inr (.inl (a2,())))
  |false=>match(ilt 10000 x0)with
  |true=>some (.inr (.inl (a2,())))
  |false=>some (.inl (a0,a1,(IntKind.wrap .i64 (a2+1)),()))
 |false=>some (.inr (.inr (.inl ())))
def Ic[Lk]:Ua→Option (U8):=fun(a0,_)=>
 match AL DP many (a0,(AH a0),0,())with|none=>none|some r=>match r with
 |.inl (o0,_)=>some (o0,())
 |.inr r=>match r with
 |.inl _=>some ((-1:Int),())
 |.inr _=>none
def K9[Lk]:=fun v=>Lk.f (Ic v)
theorem LV v:K9 v=Ic v:=AB _
abbrev Akj:AD:=[(.tmp 0,.dat U6),(.tmp 3,.map U0 U0),(.tmp 7,.dat U6),(.tmp 8,.di),(.tmp 9,.di)]
abbrev Aki:AW:=[(.exit 0,[(.tmp 0,.dat U6),(.tmp 3,.map U0 U0)])]
def P7[Lk]:(List Int×List Uz×List Int×Int×Int×Unit)→Option ((List Int×List Uz×List Int×Int×Int×Unit)⊕(List Int×List Uz×Unit)⊕Unit):=fun(a0,a1,a2,a3,a4,_)=>
 match(ilt a4 a3)with
 |true=>match idx a2 a4 with|none=>none|some x0=>some (.inl (a0,(Ae a1 x0 (IntKind.wrap .i64 (((AR a1 x0).getD 0)+1))),a2,a3,(IntKind.wrap .i64 (a4+1)),()))
 |false=>some (.inr (.inl (a0,a1,())))
def ARF[Lk]:Ua→Option (Uc):=fun(a0,_)=>
 match AL P7 many (a0,([]:List Uz),a0,(AH a0),0,())with|none=>none|some r=>match r with
 |.inl (o0,o1,_)=>some ((ieq (AH o1) (AH o0)),())
 |.inr _=>none
def once[Lk]:=fun v=>Lk.f (ARF v)
theorem AVO v:once v=ARF v:=AB _
def Wj[Lk]:Uh→Option (Ua):=fun(a0,a1,_)=>
 match CE a0 a1 (AH a0)with|none=>none|some x0=>match CE a0 0 a1 with|none=>none|some x1=>match Hc (([x0,x1]:List U5),())with|none=>none|some (y2,_)=>some (y2,())
def Wk[Lk]:=fun v=>Lk.f (Wj v)
theorem ABa v:Wk v=Wj v:=AB _
abbrev J8:AD:=[(.tmp 0,.dat Ue),(.cap 1 0,.box 1),(.cell 0 0,.di),(.tmp 1,.clo 230 [(0,0)])]
abbrev J7:AD:=[(.obj 0,.box 1),(.cell 0 0,.di),(.tmp 0,.di)]
abbrev QX:AD:=[(.obj 0,.box 1),(.cell 0 0,.di),(.tmp 0,.dat Ue),(.tmp 1,.clo 230 [(0,0)]),(.tmp 7,.di),(.tmp 8,.di)]
abbrev QW:AW:=[(.ret,[(.obj 0,.box 1),(.cell 0 0,.di),(.tmp 4,.di)]),(.exit 0,[(.obj 0,.box 1),(.cell 0 0,.di)])]
def Cj[Lk]:(Int×List U5×Int×Int×Unit)→Option ((Int×List U5×Int×Int×Unit)⊕U3⊕U8⊕Unit):=fun(a0,a1,a2,a3,_)=>
 match(ilt a3 a2)with
 |true=>match idx a1 a3 with|none=>none|some x0=>match GG (x0,a0,())with|none=>none|some (y1,_)=>match y1 with
  |true=>some (.inr (.inl (a0,a3,())))
  |false=>some (.inl (a0,a1,a2,(IntKind.wrap .i64 (a3+1)),()))
 |false=>some (.inr (.inr (.inl (a0,()))))
def GA[Lk]:(List U5×Int×Unit)→Option (U3):=fun(a0,a1,_)=>
 match AL Cj many (a1,a0,(AH a0),0,())with|none=>none|some r=>match r with
 |.inl (o0,o1,_)=>some (o0,o1,())
 |.inr r=>match r with
 |.inl (o2,_)=>some (o2,(-1:Int),())
 |.inr _=>none
def Ia[Lk]:=fun v=>Lk.f (GA v)
theorem JJ v:Ia v=GA v:=AB _
abbrev Bt:AD:=[(.tmp 0,.dat (.prod U0 (.prod Ue .unit))),(.tmp 1,.di)]
def Wt[Lk]:(Uo×Int×Unit)→Option (U8):=fun(a0,a1,_)=>
 match Ia (a0.2.1,a1,())with|none=>none|some (y0,y1,_)=>some (y1,())
def Rm[Lk]:=fun v=>Lk.f (Wt v)
theorem ABf v:Rm v=Wt v:=AB _
abbrev AGA:AD:=[(.tmp 0,.di),(.tmp 1,.dat U6)]
abbrev Ald:AD:=[(.tmp 0,.di),(.tmp 5,.box 3),(.cell 0 0,.own 3 U0),(.cell 0 1,.map U0 U0),(.cell 0 2,.map U0 U0),(.tmp 30,.dat U6),(.tmp 31,.di),(.tmp 32,.di)]
abbrev Alc:AW:=[(.ret,[(.tmp 4,.dat .bool)]),(.exit 0,[(.tmp 5,.box 3),(.cell 0 0,.own 3 U0),(.cell 0 1,.map U0 U0),(.cell 0 2,.map U0 U0)])]
def Nd[Lk]:(Int×List Int×List Uz×List Uz×List Int×Int×Int×Unit)→Option ((Int×List Int×List Uz×List Uz×List Int×Int×Int×Unit)⊕Uc⊕(List Int×List Uz×List Uz×Unit)⊕Unit):=fun(a0,a1,a2,a3,a4,a5,a6,_)=>
 match(ilt a6 a5)with
 |true=>match idx a4 a6 with|none=>none|some x0=>match AEg (a0,x0,())with|none=>none|some (y1,y2,y3,y4,_)=>match(!y4)with
  |true=>some (.inr (.inl (false,())))
  |false=>match y3 with
  |true=>match idx a1 (IntKind.wrap .i64 ((AH a1)-1))with|none=>none|some x5=>match(!(ieq (AJ a1 (AF (IntKind.wrap .i64 ((AH a1)-1))) 0) y1))with
   |true=>some (.inr (.inl (false,())))
   |false=>match(ilt 0 (IntKind.wrap .i64 ((AH a1)-1)))with
   |true=>match idx a1 (IntKind.wrap .i64 ((IntKind.wrap .i64 ((AH a1)-1))-1))with|none=>none|some x6=>match(ieq (AJ a1 (AF (IntKind.wrap .i64 ((IntKind.wrap .i64 ((AH a1)-1))-1))) 0) y2)with
    |true=>match CE a1 0 (IntKind.wrap .i64 ((AH a1)-1))with|none=>none|some x7=>match(!y3)with
     |true=>match idx (Eo 0 (AF (AH x7)) a1) (IntKind.wrap .i64 ((((AF (AH x7)):Nat):Int)-1))with|none=>none|some x8=>match(!(ieq (AJ a1 (0+(AF (IntKind.wrap .i64 ((((AF (AH x7)):Nat):Int)-1)))) 0) y1))with
      |true=>some (.inr (.inl (false,())))
      |false=>match(!y3)with
      |true=>some (.inl (a0,(CL (AF (AH x7)) a1),a2,(Ae a3 y1 (IntKind.wrap .i64 (((AR a3 y1).getD 0)+1))),a4,a5,(IntKind.wrap .i64 (a6+1)),()))
      |false=>some (.inl (a0,(CL (AF (AH x7)) a1),a2,a3,a4,a5,(IntKind.wrap .i64 (a6+1)),()))
     |false=>match(!y3)with
     |true=>some (.inl (a0,(CL (AF (AH x7)) a1),a2,(Ae a3 y1 (IntKind.wrap .i64 (((AR a3 y1).getD 0)+1))),a4,a5,(IntKind.wrap .i64 (a6+1)),()))
     |false=>some (.inl (a0,(CL (AF (AH x7)) a1),a2,a3,a4,a5,(IntKind.wrap .i64 (a6+1)),()))
    |false=>match(ilt 0 ((AR a2 y2).getD 0))with
    |true=>some (.inr (.inl (false,())))
    |false=>match(fits ((AH a1)+(AH ([y2]:List (Int)))))with
    |true=>match(!y3)with
     |true=>match idx (Ai a1 ([y2]:List (Int))) (IntKind.wrap .i64 ((AH (Ai a1 ([y2]:List (Int))))-1))with|none=>none|some x9=>match(!(ieq (AJ (Ai a1 ([y2]:List (Int))) (AF (IntKind.wrap .i64 ((AH (Ai a1 ([y2]:List (Int))))-1))) 0) y1))with
      |true=>some (.inr (.inl (false,())))
      |false=>match(!y3)with
      |true=>some (.inl (a0,(Ai a1 ([y2]:List (Int))),(Ae a2 y2 (IntKind.wrap .i64 (((AR a2 y2).getD 0)+1))),(Ae a3 y1 (IntKind.wrap .i64 (((AR a3 y1).getD 0)+1))),a4,a5,(IntKind.wrap .i64 (a6+1)),()))
      |false=>some (.inl (a0,(Ai a1 ([y2]:List (Int))),(Ae a2 y2 (IntKind.wrap .i64 (((AR a2 y2).getD 0)+1))),a3,a4,a5,(IntKind.wrap .i64 (a6+1)),()))
     |false=>match(!y3)with
     |true=>some (.inl (a0,(Ai a1 ([y2]:List (Int))),(Ae a2 y2 (IntKind.wrap .i64 (((AR a2 y2).getD 0)+1))),(Ae a3 y1 (IntKind.wrap .i64 (((AR a3 y1).getD 0)+1))),a4,a5,(IntKind.wrap .i64 (a6+1)),()))
     |false=>some (.inl (a0,(Ai a1 ([y2]:List (Int))),(Ae a2 y2 (IntKind.wrap .i64 (((AR a2 y2).getD 0)+1))),a3,a4,a5,(IntKind.wrap .i64 (a6+1)),()))
    |false=>none
   |false=>match(ilt 0 ((AR a2 y2).getD 0))with
   |true=>some (.inr (.inl (false,())))
   |false=>match(fits ((AH a1)+(AH ([y2]:List (Int)))))with
   |true=>match(!y3)with
    |true=>match idx (Ai a1 ([y2]:List (Int))) (IntKind.wrap .i64 ((AH (Ai a1 ([y2]:List (Int))))-1))with|none=>none|some x10=>match(!(ieq (AJ (Ai a1 ([y2]:List (Int))) (AF (IntKind.wrap .i64 ((AH (Ai a1 ([y2]:List (Int))))-1))) 0) y1))with
     |true=>some (.inr (.inl (false,())))
     |false=>match(!y3)with
     |true=>some (.inl (a0,(Ai a1 ([y2]:List (Int))),(Ae a2 y2 (IntKind.wrap .i64 (((AR a2 y2).getD 0)+1))),(Ae a3 y1 (IntKind.wrap .i64 (((AR a3 y1).getD 0)+1))),a4,a5,(IntKind.wrap .i64 (a6+1)),()))
     |false=>some (.inl (a0,(Ai a1 ([y2]:List (Int))),(Ae a2 y2 (IntKind.wrap .i64 (((AR a2 y2).getD 0)+1))),a3,a4,a5,(IntKind.wrap .i64 (a6+1)),()))
    |false=>match(!y3)with
    |true=>some (.inl (a0,(Ai a1 ([y2]:List (Int))),(Ae a2 y2 (IntKind.wrap .i64 (((AR a2 y2).getD 0)+1))),(Ae a3 y1 (IntKind.wrap .i64 (((AR a3 y1).getD 0)+1))),a4,a5,(IntKind.wrap .i64 (a6+1)),()))
    |false=>some (.inl (a0,(Ai a1 ([y2]:List (Int))),(Ae a2 y2 (IntKind.wrap .i64 (((AR a2 y2).getD 0)+1))),a3,a4,a5,(IntKind.wrap .i64 (a6+1)),()))
   |false=>none
  |false=>match(!y3)with
  |true=>match idx a1 (IntKind.wrap .i64 ((AH a1)-1))with|none=>none|some x11=>match(!(ieq (AJ a1 (AF (IntKind.wrap .i64 ((AH a1)-1))) 0) y1))with
   |true=>some (.inr (.inl (false,())))
   |false=>match(!y3)with
   |true=>some (.inl (a0,a1,a2,(Ae a3 y1 (IntKind.wrap .i64 (((AR a3 y1).getD 0)+1))),a4,a5,(IntKind.wrap .i64 (a6+1)),()))
   |false=>some (.inl (a0,a1,a2,a3,a4,a5,(IntKind.wrap .i64 (a6+1)),()))
  |false=>match(!y3)with
  |true=>some (.inl (a0,a1,a2,(Ae a3 y1 (IntKind.wrap .i64 (((AR a3 y1).getD 0)+1))),a4,a5,(IntKind.wrap .i64 (a6+1)),()))
  |false=>some (.inl (a0,a1,a2,a3,a4,a5,(IntKind.wrap .i64 (a6+1)),()))
 |false=>some (.inr (.inr (.inl (a1,a2,a3,()))))
def ARu[Lk]:(Int×List Int×Unit)→Option (Uc):=fun(a0,a1,_)=>
 match idx a1 0 with|none=>none|some x0=>match tin (a0,x0,())with|none=>none|some (y1,_)=>match(!y1)with
 |true=>some (false,())
 |false=>match idx a1 0 with|none=>none|some x2=>match idx a1 0 with|none=>none|some x3=>match AL Nd many (a0,([x2]:List (Int)),(Ae ([]:List Uz) x3 1),([]:List Uz),a1,(AH a1),0,())with|none=>none|some r=>match r with
 |.inl (o4,_)=>some (o4,())
 |.inr r=>match r with
 |.inl (o5,o6,o7,_)=>match(ieq (AH o5) 1)with
  |true=>some ((ieq (AH o7) (AH o6)),())
  |false=>some (false,())
 |.inr _=>none
def goes[Lk]:=fun v=>Lk.f (ARu v)
theorem AVw v:goes v=ARu v:=AB _
def AFg[Lk]:U8→Option (Uc):=fun(a0,_)=>
 some ((!(ieq a0 a0)),())
def AZv[Lk]:=fun v=>Lk.f (AFg v)
theorem AFf v:AZv v=AFg v:=AB _
def LO[Lk]:U3→Option (U8):=fun(a0,a1,_)=>
 match AZv (a0,())with|none=>none|some (y0,_)=>match AZv (a1,())with|none=>none|some (y1,_)=>match y0 with
 |true=>match y1 with
  |true=>some (0,())
  |false=>some ((-1:Int),())
 |false=>match y1 with
 |true=>some (1,())
 |false=>match(ilt a0 a1)with
 |true=>some ((-1:Int),())
 |false=>match(ilt a1 a0)with
 |true=>some (1,())
 |false=>some (0,())
def EX[Lk]:=fun v=>Lk.f (LO v)
theorem Mi v:EX v=LO v:=AB _
def AEY[Lk]:Vc→Option (U8):=fun(a0,a1,_)=>
 match idx a0 0 with|none=>none|some x0=>match idx a1 0 with|none=>none|some x1=>match EX (x0,x1,())with|none=>none|some (y2,_)=>some (y2,())
def B8[Lk]:=fun v=>Lk.f (AEY v)
theorem AIR v:B8 v=AEY v:=AB _
def G9:List Int:=[0,1,2,2,3,3,3,3,4,4,4,4,4,4,4,4,5,5,5,5,5,5,5,5,5,5,5,5,5,5,5,5,6,6,6,6,6,6,6,6,6,6,6,6,6,6,6,6,6,6,6,6,6,6,6,6,6,6,6,6,6,6,6,6,7,7,7,7,7,7,7,7,7,7,7,7,7,7,7,7,7,7,7,7,7,7,7,7,7,7,7,7,7,7,7,7,7,7,7,7,7,7,7,7,7,7,7,7,7,7,7,7,7,7,7,7,7,7,7,7,7,7,7,7,7,7,7,7,8,8,8,8,8,8,8,8,8,8,8,8,8,8,8,8,8,8,8,8,8,8,8,8,8,8,8,8,8,8,8,8,8,8,8,8,8,8,8,8,8,8,8,8,8,8,8,8,8,8,8,8,8,8,8,8,8,8,8,8,8,8,8,8,8,8,8,8,8,8,8,8,8,8,8,8,8,8,8,8,8,8,8,8,8,8,8,8,8,8,8,8,8,8,8,8,8,8,8,8,8,8,8,8,8,8,8,8,8,8,8,8,8,8,8,8,8,8,8,8,8,8,8,8,8,8,8,8]
abbrev NY:AD:=[(.tmp 0,.dat (.int .u64))]
def AFm[Lk]:U8→Option (U8):=fun(a0,_)=>
 match(ile 4294967296 a0)with
 |true=>match shr? .u64 a0 32 with|none=>none|some x0=>match(ile 65536 x0)with
  |true=>match shr? .u64 x0 16 with|none=>none|some x1=>match(ile 256 x1)with
   |true=>match shr? .u64 x1 8 with|none=>none|some x2=>match idx G9 (IntKind.wrap .u8 x2)with|none=>none|some x3=>some ((IntKind.wrap .i64 ((IntKind.wrap .i64 ((IntKind.wrap .i64 (32+16))+8))+(IntKind.wrap .i64 x3))),())
   |false=>match idx G9 (IntKind.wrap .u8 x1)with|none=>none|some x4=>some ((IntKind.wrap .i64 ((IntKind.wrap .i64 (32+16))+(IntKind.wrap .i64 x4))),())
  |false=>match(ile 256 x0)with
  |true=>match shr? .u64 x0 8 with|none=>none|some x5=>match idx G9 (IntKind.wrap .u8 x5)with|none=>none|some x6=>some ((IntKind.wrap .i64 ((IntKind.wrap .i64 (32+8))+(IntKind.wrap .i64 x6))),())
  |false=>match idx G9 (IntKind.wrap .u8 x0)with|none=>none|some x7=>some ((IntKind.wrap .i64 (32+(IntKind.wrap .i64 x7))),())
 |false=>match(ile 65536 a0)with
 |true=>match shr? .u64 a0 16 with|none=>none|some x8=>match(ile 256 x8)with
  |true=>match shr? .u64 x8 8 with|none=>none|some x9=>match idx G9 (IntKind.wrap .u8 x9)with|none=>none|some x10=>some ((IntKind.wrap .i64 ((IntKind.wrap .i64 ((IntKind.wrap .i64 (0+16))+8))+(IntKind.wrap .i64 x10))),())
  |false=>match idx G9 (IntKind.wrap .u8 x8)with|none=>none|some x11=>some ((IntKind.wrap .i64 ((IntKind.wrap .i64 (0+16))+(IntKind.wrap .i64 x11))),())
 |false=>match(ile 256 a0)with
 |true=>match shr? .u64 a0 8 with|none=>none|some x12=>match idx G9 (IntKind.wrap .u8 x12)with|none=>none|some x13=>some ((IntKind.wrap .i64 ((IntKind.wrap .i64 (0+8))+(IntKind.wrap .i64 x13))),())
 |false=>match idx G9 (IntKind.wrap .u8 a0)with|none=>none|some x14=>some ((IntKind.wrap .i64 (0+(IntKind.wrap .i64 x14))),())
def AVh[Lk]:=fun v=>Lk.f (AFm v)
theorem AKv v:AVh v=AFm v:=AB _
def Sw[Lk]:U8→Option (U8):=fun(a0,_)=>
 match AVh (a0,())with|none=>none|some (y0,_)=>some (y0,())
def bitsLen[Lk]:=fun v=>Lk.f (Sw v)
theorem Y2 v:bitsLen v=Sw v:=AB _
abbrev ABM:AD:=[(.tmp 0,.box 1),(.cell 0 0,.dat (.int .u64))]
abbrev ABL:AD:=[(.obj 0,.box 1),(.cell 0 0,.dat (.int .u64)),(.tmp 0,.dat (.int .u64))]
def Rf[Lk]:U8→Option (U3):=fun(a0,_)=>
 match shl? .u64 a0 13 with|none=>none|some x0=>match shr? .u64 (IntKind.wrap .u64 ((BitVec.ofInt (IntKind.bits .u64) a0 ^^^ BitVec.ofInt (IntKind.bits .u64) x0).toNat)) 7 with|none=>none|some x1=>match shl? .u64 (IntKind.wrap .u64 ((BitVec.ofInt (IntKind.bits .u64) (IntKind.wrap .u64 ((BitVec.ofInt (IntKind.bits .u64) a0 ^^^ BitVec.ofInt (IntKind.bits .u64) x0).toNat)) ^^^ BitVec.ofInt (IntKind.bits .u64) x1).toNat)) 17 with|none=>none|some x2=>some ((IntKind.wrap .u64 ((BitVec.ofInt (IntKind.bits .u64) (IntKind.wrap .u64 ((BitVec.ofInt (IntKind.bits .u64) (IntKind.wrap .u64 ((BitVec.ofInt (IntKind.bits .u64) a0 ^^^ BitVec.ofInt (IntKind.bits .u64) x0).toNat)) ^^^ BitVec.ofInt (IntKind.bits .u64) x1).toNat)) ^^^ BitVec.ofInt (IntKind.bits .u64) x2).toNat)),(IntKind.wrap .u64 ((BitVec.ofInt (IntKind.bits .u64) (IntKind.wrap .u64 ((BitVec.ofInt (IntKind.bits .u64) (IntKind.wrap .u64 ((BitVec.ofInt (IntKind.bits .u64) a0 ^^^ BitVec.ofInt (IntKind.bits .u64) x0).toNat)) ^^^ BitVec.ofInt (IntKind.bits .u64) x1).toNat)) ^^^ BitVec.ofInt (IntKind.bits .u64) x2).toNat)),())
def xorNext[Lk]:=fun v=>Lk.f (Rf v)
theorem WY v:xorNext v=Rf v:=AB _
def SF[Lk]:U8→Option (U8):=fun(a0,_)=>
 match bitsLen ((IntKind.wrap .u64 a0),())with|none=>none|some (y0,_)=>match shl? .u64 1 y0 with|none=>none|some x1=>some (x1,())
def QB[Lk]:=fun v=>Lk.f (SF v)
theorem Xv v:QB v=SF v:=AB _
def WI[Lk]{α:Type}(z:α)(c:α×α×Unit→Option U8):(List α×Int×Int×Int×Int×Unit)→Option ((List α×Int×Int×Int×Int×Unit)⊕(List α×Int×Int×Int×Unit)⊕Unit):=fun(a0,a1,a2,a3,a4,_)=>
 match(ilt a1 a4)with
 |true=>match idx a0 a4 with|none=>none|some x0=>match idx a0 (IntKind.wrap .i64 (a4-1))with|none=>none|some x1=>match c ((AJ a0 (AF a4) z),(AJ a0 (AF (IntKind.wrap .i64 (a4-1))) z),())with|none=>none|some (y2,_)=>match(ilt y2 0)with
  |true=>match idx a0 (IntKind.wrap .i64 (a4-1))with|none=>none|some x3=>match idx a0 a4 with|none=>none|some x4=>match idx a0 a4 with|none=>none|some x5=>match idx (AX a0 (AF a4) (AJ a0 (AF (IntKind.wrap .i64 (a4-1))) z)) (IntKind.wrap .i64 (a4-1))with|none=>none|some x6=>some (.inl ((AX (AX a0 (AF a4) (AJ a0 (AF (IntKind.wrap .i64 (a4-1))) z)) (AF (IntKind.wrap .i64 (a4-1))) (AJ a0 (AF a4) z)),a1,a2,a3,(IntKind.wrap .i64 (a4-1)),()))
  |false=>some (.inr (.inl (a0,a1,a2,a3,())))
 |false=>some (.inr (.inl (a0,a1,a2,a3,())))
def WJ[Lk]{α:Type}(z:α)(c:α×α×Unit→Option U8):(List α×Int×Int×Int×Unit)→Option ((List α×Int×Int×Int×Unit)⊕(List α×Unit)⊕Unit):=fun(a0,a1,a2,a3,_)=>
 match(ilt a3 a2)with
 |true=>match AL (WI z c) many (a0,a1,a2,a3,a3,())with|none=>none|some r=>match r with
  |.inl (o0,o1,o2,o3,_)=>some (.inl (o0,o1,o2,(IntKind.wrap .i64 (o3+1)),()))
  |.inr _=>none
 |false=>some (.inr (.inl (a0,())))
def SV[Lk]{α:Type}(z:α)(c:α×α×Unit→Option U8):(List α×Int×Int×Unit)→Option ((List α×Unit)):=fun(a0,a1,a2,_)=>
 match AL (WJ z c) many (a0,a1,a2,(IntKind.wrap .i64 (a1+1)),())with|none=>none|some r=>match r with
 |.inl (o0,_)=>some (o0,())
 |.inr _=>none
def Aad[Lk]{α:Type}(z:α)(c:α×α×Unit→Option U8)(v:(List α×Int×Int×Unit)):Option ((List α×Unit)):=Lk.f ((SV z c) v)
theorem AlH{α:Type}(z:α)(c:α×α×Unit→Option U8)(v:(List α×Int×Int×Unit)):(Aad z c) v=(SV z c) v:=AB _
def Pn[Lk]{α:Type}(z:α)(c:α×α×Unit→Option U8):(List α×Int×Int×Int×Unit)→Option ((List α×Int×Int×Int×Unit)⊕(List α×Unit)⊕(List α×Unit)⊕Unit):=fun(a0,a1,a2,a3,_)=>
 match(ile a1 (IntKind.wrap .i64 ((IntKind.wrap .i64 (2*a3))+1)))with
 |true=>some (.inr (.inl (a0,())))
 |false=>match(ilt (IntKind.wrap .i64 ((IntKind.wrap .i64 ((IntKind.wrap .i64 (2*a3))+1))+1)) a1)with
 |true=>match idx a0 (IntKind.wrap .i64 (a2+(IntKind.wrap .i64 ((IntKind.wrap .i64 (2*a3))+1))))with|none=>none|some x0=>match idx a0 (IntKind.wrap .i64 ((IntKind.wrap .i64 (a2+(IntKind.wrap .i64 ((IntKind.wrap .i64 (2*a3))+1))))+1))with|none=>none|some x1=>match c ((AJ a0 (AF (IntKind.wrap .i64 (a2+(IntKind.wrap .i64 ((IntKind.wrap .i64 (2*a3))+1))))) z),(AJ a0 (AF (IntKind.wrap .i64 ((IntKind.wrap .i64 (a2+(IntKind.wrap .i64 ((IntKind.wrap .i64 (2*a3))+1))))+1))) z),())with|none=>none|some (y2,_)=>match(ilt y2 0)with
  |true=>match idx a0 (IntKind.wrap .i64 (a2+a3))with|none=>none|some x3=>match idx a0 (IntKind.wrap .i64 (a2+(IntKind.wrap .i64 ((IntKind.wrap .i64 ((IntKind.wrap .i64 (2*a3))+1))+1))))with|none=>none|some x4=>match c ((AJ a0 (AF (IntKind.wrap .i64 (a2+a3))) z),(AJ a0 (AF (IntKind.wrap .i64 (a2+(IntKind.wrap .i64 ((IntKind.wrap .i64 ((IntKind.wrap .i64 (2*a3))+1))+1))))) z),())with|none=>none|some (y5,_)=>match(!(ilt y5 0))with
   |true=>some (.inr (.inr (.inl (a0,()))))
   |false=>match idx a0 (IntKind.wrap .i64 (a2+(IntKind.wrap .i64 ((IntKind.wrap .i64 ((IntKind.wrap .i64 (2*a3))+1))+1))))with|none=>none|some x6=>match idx a0 (IntKind.wrap .i64 (a2+a3))with|none=>none|some x7=>match idx a0 (IntKind.wrap .i64 (a2+a3))with|none=>none|some x8=>match idx (AX a0 (AF (IntKind.wrap .i64 (a2+a3))) (AJ a0 (AF (IntKind.wrap .i64 (a2+(IntKind.wrap .i64 ((IntKind.wrap .i64 ((IntKind.wrap .i64 (2*a3))+1))+1))))) z)) (IntKind.wrap .i64 (a2+(IntKind.wrap .i64 ((IntKind.wrap .i64 ((IntKind.wrap .i64 (2*a3))+1))+1))))with|none=>none|some x9=>some (.inl ((AX (AX a0 (AF (IntKind.wrap .i64 (a2+a3))) (AJ a0 (AF (IntKind.wrap .i64 (a2+(IntKind.wrap .i64 ((IntKind.wrap .i64 ((IntKind.wrap .i64 (2*a3))+1))+1))))) z)) (AF (IntKind.wrap .i64 (a2+(IntKind.wrap .i64 ((IntKind.wrap .i64 ((IntKind.wrap .i64 (2*a3))+1))+1))))) (AJ a0 (AF (IntKind.wrap .i64 (a2+a3))) z)),a1,a2,(IntKind.wrap .i64 ((IntKind.wrap .i64 ((IntKind.wrap .i64 (2*a3))+1))+1)),()))
  |false=>match idx a0 (IntKind.wrap .i64 (a2+a3))with|none=>none|some x10=>match idx a0 (IntKind.wrap .i64 (a2+(IntKind.wrap .i64 ((IntKind.wrap .i64 (2*a3))+1))))with|none=>none|some x11=>match c ((AJ a0 (AF (IntKind.wrap .i64 (a2+a3))) z),(AJ a0 (AF (IntKind.wrap .i64 (a2+(IntKind.wrap .i64 ((IntKind.wrap .i64 (2*a3))+1))))) z),())with|none=>none|some (y12,_)=>match(!(ilt y12 0))with
  |true=>some (.inr (.inr (.inl (a0,()))))
  |false=>match idx a0 (IntKind.wrap .i64 (a2+(IntKind.wrap .i64 ((IntKind.wrap .i64 (2*a3))+1))))with|none=>none|some x13=>match idx a0 (IntKind.wrap .i64 (a2+a3))with|none=>none|some x14=>match idx a0 (IntKind.wrap .i64 (a2+a3))with|none=>none|some x15=>match idx (AX a0 (AF (IntKind.wrap .i64 (a2+a3))) (AJ a0 (AF (IntKind.wrap .i64 (a2+(IntKind.wrap .i64 ((IntKind.wrap .i64 (2*a3))+1))))) z)) (IntKind.wrap .i64 (a2+(IntKind.wrap .i64 ((IntKind.wrap .i64 (2*a3))+1))))with|none=>none|some x16=>some (.inl ((AX (AX a0 (AF (IntKind.wrap .i64 (a2+a3))) (AJ a0 (AF (IntKind.wrap .i64 (a2+(IntKind.wrap .i64 ((IntKind.wrap .i64 (2*a3))+1))))) z)) (AF (IntKind.wrap .i64 (a2+(IntKind.wrap .i64 ((IntKind.wrap .i64 (2*a3))+1))))) (AJ a0 (AF (IntKind.wrap .i64 (a2+a3))) z)),a1,a2,(IntKind.wrap .i64 ((IntKind.wrap .i64 (2*a3))+1)),()))
 |false=>match idx a0 (IntKind.wrap .i64 (a2+a3))with|none=>none|some x17=>match idx a0 (IntKind.wrap .i64 (a2+(IntKind.wrap .i64 ((IntKind.wrap .i64 (2*a3))+1))))with|none=>none|some x18=>match c ((AJ a0 (AF (IntKind.wrap .i64 (a2+a3))) z),(AJ a0 (AF (IntKind.wrap .i64 (a2+(IntKind.wrap .i64 ((IntKind.wrap .i64 (2*a3))+1))))) z),())with|none=>none|some (y19,_)=>match(!(ilt y19 0))with
 |true=>some (.inr (.inr (.inl (a0,()))))
 |false=>match idx a0 (IntKind.wrap .i64 (a2+(IntKind.wrap .i64 ((IntKind.wrap .i64 (2*a3))+1))))with|none=>none|some x20=>match idx a0 (IntKind.wrap .i64 (a2+a3))with|none=>none|some x21=>match idx a0 (IntKind.wrap .i64 (a2+a3))with|none=>none|some x22=>match idx (AX a0 (AF (IntKind.wrap .i64 (a2+a3))) (AJ a0 (AF (IntKind.wrap .i64 (a2+(IntKind.wrap .i64 ((IntKind.wrap .i64 (2*a3))+1))))) z)) (IntKind.wrap .i64 (a2+(IntKind.wrap .i64 ((IntKind.wrap .i64 (2*a3))+1))))with|none=>none|some x23=>some (.inl ((AX (AX a0 (AF (IntKind.wrap .i64 (a2+a3))) (AJ a0 (AF (IntKind.wrap .i64 (a2+(IntKind.wrap .i64 ((IntKind.wrap .i64 (2*a3))+1))))) z)) (AF (IntKind.wrap .i64 (a2+(IntKind.wrap .i64 ((IntKind.wrap .i64 (2*a3))+1))))) (AJ a0 (AF (IntKind.wrap .i64 (a2+a3))) z)),a1,a2,(IntKind.wrap .i64 ((IntKind.wrap .i64 (2*a3))+1)),()))
def NI[Lk]{α:Type}(z:α)(c:α×α×Unit→Option U8):(List α×Int×Int×Int×Unit)→Option ((List α×Unit)):=fun(a0,a1,a2,a3,_)=>
 match AL (Pn z c) many (a0,a2,a3,a1,())with|none=>none|some r=>match r with
 |.inl (o0,_)=>some (o0,())
 |.inr r=>match r with
 |.inl (o1,_)=>some (o1,())
 |.inr _=>none
def W7[Lk]{α:Type}(z:α)(c:α×α×Unit→Option U8)(v:(List α×Int×Int×Int×Unit)):Option ((List α×Unit)):=Lk.f ((NI z c) v)
theorem Ad2{α:Type}(z:α)(c:α×α×Unit→Option U8)(v:(List α×Int×Int×Int×Unit)):(W7 z c) v=(NI z c) v:=AB _
def Qk[Lk]{α:Type}(z:α)(c:α×α×Unit→Option U8):(List α×Int×Int×Int×Unit)→Option ((List α×Int×Int×Int×Unit)⊕(List α×Unit)⊕Unit):=fun(a0,a1,a2,a3,_)=>
 match(ile 0 a3)with
 |true=>match idx a0 (IntKind.wrap .i64 (a1+a3))with|none=>none|some x0=>match idx a0 a1 with|none=>none|some x1=>match idx a0 a1 with|none=>none|some x2=>match idx (AX a0 (AF a1) (AJ a0 (AF (IntKind.wrap .i64 (a1+a3))) z)) (IntKind.wrap .i64 (a1+a3))with|none=>none|some x3=>match(W7 z c) ((AX (AX a0 (AF a1) (AJ a0 (AF (IntKind.wrap .i64 (a1+a3))) z)) (AF (IntKind.wrap .i64 (a1+a3))) (AJ a0 (AF a1) z)),a2,a3,a1,())with|none=>none|some (y4,_)=>some (.inl (y4,a1,a2,(IntKind.wrap .i64 (a3-1)),()))
 |false=>some (.inr (.inl (a0,())))
def Ql[Lk]{α:Type}(z:α)(c:α×α×Unit→Option U8):(List α×Int×Int×Int×Int×Unit)→Option ((List α×Int×Int×Int×Int×Unit)⊕(List α×Int×Int×Int×Unit)⊕Unit):=fun(a0,a1,a2,a3,a4,_)=>
 match(ile 0 a4)with
 |true=>match(W7 z c) (a0,a4,a3,a1,())with|none=>none|some (y0,_)=>some (.inl (y0,a1,a2,a3,(IntKind.wrap .i64 (a4-1)),()))
 |false=>some (.inr (.inl (a0,a1,a2,a3,())))
def Nc[Lk]{α:Type}(z:α)(c:α×α×Unit→Option U8):(List α×Int×Int×Unit)→Option ((List α×Unit)):=fun(a0,a1,a2,_)=>
 match quo? .i64 (IntKind.wrap .i64 ((IntKind.wrap .i64 (a2-a1))-1)) 2 with|none=>none|some x0=>match AL (Ql z c) many (a0,a1,0,(IntKind.wrap .i64 (a2-a1)),x0,())with|none=>none|some r=>match r with
 |.inl (o1,o2,o3,o4,_)=>match AL (Qk z c) many (o1,o2,o3,(IntKind.wrap .i64 (o4-1)),())with|none=>none|some r=>match r with
  |.inl (o5,_)=>some (o5,())
  |.inr _=>none
 |.inr _=>none
def ACu[Lk]{α:Type}(z:α)(c:α×α×Unit→Option U8)(v:(List α×Int×Int×Unit)):Option ((List α×Unit)):=Lk.f ((Nc z c) v)
theorem Agx{α:Type}(z:α)(c:α×α×Unit→Option U8)(v:(List α×Int×Int×Unit)):(ACu z c) v=(Nc z c) v:=AB _
def KH[Lk]{α:Type}(z:α)(c:α×α×Unit→Option U8):(List α×Int×Int×Int×Int×Int×Unit)→Option ((List α×Int×Int×Int×Int×Int×Unit)⊕(List α×Unit)⊕Unit):=fun(a0,a1,a2,a3,a4,a5,_)=>
 match quo? .i64 a2 4 with|none=>none|some x0=>match(ile a5 (IntKind.wrap .i64 ((IntKind.wrap .i64 (a1+(IntKind.wrap .i64 (x0*2))))+1)))with
 |true=>match xorNext (a3,())with|none=>none|some (y1,y2,_)=>match(ile a2 (IntKind.wrap .i64 (IntKind.wrap .u64 ((BitVec.ofInt (IntKind.bits .u64) y2 &&& BitVec.ofInt (IntKind.bits .u64) (IntKind.wrap .u64 (a4-1))).toNat))))with
  |true=>match idx a0 (IntKind.wrap .i64 (a1+(IntKind.wrap .i64 ((IntKind.wrap .i64 (IntKind.wrap .u64 ((BitVec.ofInt (IntKind.bits .u64) y2 &&& BitVec.ofInt (IntKind.bits .u64) (IntKind.wrap .u64 (a4-1))).toNat)))-a2))))with|none=>none|some x3=>match idx a0 a5 with|none=>none|some x4=>match idx a0 a5 with|none=>none|some x5=>match idx (AX a0 (AF a5) (AJ a0 (AF (IntKind.wrap .i64 (a1+(IntKind.wrap .i64 ((IntKind.wrap .i64 (IntKind.wrap .u64 ((BitVec.ofInt (IntKind.bits .u64) y2 &&& BitVec.ofInt (IntKind.bits .u64) (IntKind.wrap .u64 (a4-1))).toNat)))-a2))))) z)) (IntKind.wrap .i64 (a1+(IntKind.wrap .i64 ((IntKind.wrap .i64 (IntKind.wrap .u64 ((BitVec.ofInt (IntKind.bits .u64) y2 &&& BitVec.ofInt (IntKind.bits .u64) (IntKind.wrap .u64 (a4-1))).toNat)))-a2))))with|none=>none|some x6=>some (.inl ((AX (AX a0 (AF a5) (AJ a0 (AF (IntKind.wrap .i64 (a1+(IntKind.wrap .i64 ((IntKind.wrap .i64 (IntKind.wrap .u64 ((BitVec.ofInt (IntKind.bits .u64) y2 &&& BitVec.ofInt (IntKind.bits .u64) (IntKind.wrap .u64 (a4-1))).toNat)))-a2))))) z)) (AF (IntKind.wrap .i64 (a1+(IntKind.wrap .i64 ((IntKind.wrap .i64 (IntKind.wrap .u64 ((BitVec.ofInt (IntKind.bits .u64) y2 &&& BitVec.ofInt (IntKind.bits .u64) (IntKind.wrap .u64 (a4-1))).toNat)))-a2))))) (AJ a0 (AF a5) z)),a1,a2,y1,a4,(IntKind.wrap .i64 (a5+1)),()))
  |false=>match idx a0 (IntKind.wrap .i64 (a1+(IntKind.wrap .i64 (IntKind.wrap .u64 ((BitVec.ofInt (IntKind.bits .u64) y2 &&& BitVec.ofInt (IntKind.bits .u64) (IntKind.wrap .u64 (a4-1))).toNat)))))with|none=>none|some x7=>match idx a0 a5 with|none=>none|some x8=>match idx a0 a5 with|none=>none|some x9=>match idx (AX a0 (AF a5) (AJ a0 (AF (IntKind.wrap .i64 (a1+(IntKind.wrap .i64 (IntKind.wrap .u64 ((BitVec.ofInt (IntKind.bits .u64) y2 &&& BitVec.ofInt (IntKind.bits .u64) (IntKind.wrap .u64 (a4-1))).toNat)))))) z)) (IntKind.wrap .i64 (a1+(IntKind.wrap .i64 (IntKind.wrap .u64 ((BitVec.ofInt (IntKind.bits .u64) y2 &&& BitVec.ofInt (IntKind.bits .u64) (IntKind.wrap .u64 (a4-1))).toNat)))))with|none=>none|some x10=>some (.inl ((AX (AX a0 (AF a5) (AJ a0 (AF (IntKind.wrap .i64 (a1+(IntKind.wrap .i64 (IntKind.wrap .u64 ((BitVec.ofInt (IntKind.bits .u64) y2 &&& BitVec.ofInt (IntKind.bits .u64) (IntKind.wrap .u64 (a4-1))).toNat)))))) z)) (AF (IntKind.wrap .i64 (a1+(IntKind.wrap .i64 (IntKind.wrap .u64 ((BitVec.ofInt (IntKind.bits .u64) y2 &&& BitVec.ofInt (IntKind.bits .u64) (IntKind.wrap .u64 (a4-1))).toNat)))))) (AJ a0 (AF a5) z)),a1,a2,y1,a4,(IntKind.wrap .i64 (a5+1)),()))
 |false=>some (.inr (.inl (a0,())))
def KI[Lk]{α:Type}(z:α)(c:α×α×Unit→Option U8):(List α×Int×Int×Unit)→Option ((List α×Unit)):=fun(a0,a1,a2,_)=>
 match(ile 8 (IntKind.wrap .i64 (a2-a1)))with
 |true=>match QB ((IntKind.wrap .i64 (a2-a1)),())with|none=>none|some (y0,_)=>match quo? .i64 (IntKind.wrap .i64 (a2-a1)) 4 with|none=>none|some x1=>match AL (KH z c) many (a0,a1,(IntKind.wrap .i64 (a2-a1)),(IntKind.wrap .u64 (IntKind.wrap .i64 (a2-a1))),y0,(IntKind.wrap .i64 ((IntKind.wrap .i64 (a1+(IntKind.wrap .i64 (x1*2))))-1)),())with|none=>none|some r=>match r with
  |.inl (o2,_)=>some (o2,())
  |.inr _=>none
 |false=>some (a0,())
def Sv[Lk]{α:Type}(z:α)(c:α×α×Unit→Option U8)(v:(List α×Int×Int×Unit)):Option ((List α×Unit)):=Lk.f ((KI z c) v)
theorem AcD{α:Type}(z:α)(c:α×α×Unit→Option U8)(v:(List α×Int×Int×Unit)):(Sv z c) v=(KI z c) v:=AB _
def Hq[Lk]{α:Type}(z:α)(c:α×α×Unit→Option U8):(List α×Int×Int×Int×Unit)→Option ((List α×Int×Int×Int×Unit)):=fun(a0,a1,a2,a3,_)=>
 match idx a0 a2 with|none=>none|some x0=>match idx a0 a1 with|none=>none|some x1=>match c ((AJ a0 (AF a2) z),(AJ a0 (AF a1) z),())with|none=>none|some (y2,_)=>match(ilt y2 0)with
 |true=>some (a0,(IntKind.wrap .i64 (a3+1)),a2,a1,())
 |false=>some (a0,a3,a1,a2,())
def JA[Lk]{α:Type}(z:α)(c:α×α×Unit→Option U8)(v:(List α×Int×Int×Int×Unit)):Option ((List α×Int×Int×Int×Unit)):=Lk.f ((Hq z c) v)
theorem ARD{α:Type}(z:α)(c:α×α×Unit→Option U8)(v:(List α×Int×Int×Int×Unit)):(JA z c) v=(Hq z c) v:=AB _
def Hr[Lk]{α:Type}(z:α)(c:α×α×Unit→Option U8):(List α×Int×Int×Int×Int×Unit)→Option ((List α×Int×Int×Unit)):=fun(a0,a1,a2,a3,a4,_)=>
 match(JA z c) (a0,a1,a2,a4,())with|none=>none|some (y0,y1,y2,y3,_)=>match(JA z c) (y0,y3,a3,y1,())with|none=>none|some (y4,y5,y6,y7,_)=>match(JA z c) (y4,y2,y6,y5,())with|none=>none|some (y8,y9,y10,y11,_)=>some (y8,y9,y11,())
def JC[Lk]{α:Type}(z:α)(c:α×α×Unit→Option U8)(v:(List α×Int×Int×Int×Int×Unit)):Option ((List α×Int×Int×Unit)):=Lk.f ((Hr z c) v)
theorem ARR{α:Type}(z:α)(c:α×α×Unit→Option U8)(v:(List α×Int×Int×Int×Int×Unit)):(JC z c) v=(Hr z c) v:=AB _
def Hs[Lk]{α:Type}(z:α)(c:α×α×Unit→Option U8):(List α×Int×Int×Unit)→Option ((List α×Int×Int×Unit)):=fun(a0,a1,a2,_)=>
 match(JC z c) (a0,(IntKind.wrap .i64 (a1-1)),a1,(IntKind.wrap .i64 (a1+1)),a2,())with|none=>none|some (y0,y1,y2,_)=>some (y0,y1,y2,())
def JD[Lk]{α:Type}(z:α)(c:α×α×Unit→Option U8)(v:(List α×Int×Int×Unit)):Option ((List α×Int×Int×Unit)):=Lk.f ((Hs z c) v)
theorem ARW{α:Type}(z:α)(c:α×α×Unit→Option U8)(v:(List α×Int×Int×Unit)):(JD z c) v=(Hs z c) v:=AB _
def Js[Lk]{α:Type}(z:α)(c:α×α×Unit→Option U8):(List α×Int×Int×Unit)→Option ((List α×Int×Int×Unit)):=fun(a0,a1,a2,_)=>
 match quo? .i64 (IntKind.wrap .i64 (a2-a1)) 4 with|none=>none|some x0=>match quo? .i64 (IntKind.wrap .i64 (a2-a1)) 4 with|none=>none|some x1=>match quo? .i64 (IntKind.wrap .i64 (a2-a1)) 4 with|none=>none|some x2=>match(ile 8 (IntKind.wrap .i64 (a2-a1)))with
 |true=>match(ile 50 (IntKind.wrap .i64 (a2-a1)))with
  |true=>match(JD z c) (a0,(IntKind.wrap .i64 (a1+(IntKind.wrap .i64 (x0*1)))),0,())with|none=>none|some (y3,y4,y5,_)=>match(JD z c) (y3,(IntKind.wrap .i64 (a1+(IntKind.wrap .i64 (x1*2)))),y4,())with|none=>none|some (y6,y7,y8,_)=>match(JD z c) (y6,(IntKind.wrap .i64 (a1+(IntKind.wrap .i64 (x2*3)))),y7,())with|none=>none|some (y9,y10,y11,_)=>match(JC z c) (y9,y5,y8,y11,y10,())with|none=>none|some (y12,y13,y14,_)=>match(ieq y13 0)with
   |true=>some (y12,y14,1,())
   |false=>match(ieq y13 12)with
   |true=>some (y12,y14,2,())
   |false=>some (y12,y14,0,())
  |false=>match(JC z c) (a0,(IntKind.wrap .i64 (a1+(IntKind.wrap .i64 (x0*1)))),(IntKind.wrap .i64 (a1+(IntKind.wrap .i64 (x1*2)))),(IntKind.wrap .i64 (a1+(IntKind.wrap .i64 (x2*3)))),0,())with|none=>none|some (y15,y16,y17,_)=>match(ieq y16 0)with
  |true=>some (y15,y17,1,())
  |false=>match(ieq y16 12)with
  |true=>some (y15,y17,2,())
  |false=>some (y15,y17,0,())
 |false=>match(ieq 0 0)with
 |true=>some (a0,(IntKind.wrap .i64 (a1+(IntKind.wrap .i64 (x1*2)))),1,())
 |false=>match(ieq 0 12)with
 |true=>some (a0,(IntKind.wrap .i64 (a1+(IntKind.wrap .i64 (x1*2)))),2,())
 |false=>some (a0,(IntKind.wrap .i64 (a1+(IntKind.wrap .i64 (x1*2)))),0,())
def R8[Lk]{α:Type}(z:α)(c:α×α×Unit→Option U8)(v:(List α×Int×Int×Unit)):Option ((List α×Int×Int×Unit)):=Lk.f ((Js z c) v)
theorem AZN{α:Type}(z:α)(c:α×α×Unit→Option U8)(v:(List α×Int×Int×Unit)):(R8 z c) v=(Js z c) v:=AB _
def AFH[Lk]{α:Type}(z:α)(c:α×α×Unit→Option U8):(List α×Int×Int×Unit)→Option ((List α×Int×Int×Unit)⊕(List α×Unit)⊕Unit):=fun(a0,a1,a2,_)=>
 match(ilt a1 a2)with
 |true=>match idx a0 a2 with|none=>none|some x0=>match idx a0 a1 with|none=>none|some x1=>match idx a0 a1 with|none=>none|some x2=>match idx (AX a0 (AF a1) (AJ a0 (AF a2) z)) a2 with|none=>none|some x3=>some (.inl ((AX (AX a0 (AF a1) (AJ a0 (AF a2) z)) (AF a2) (AJ a0 (AF a1) z)),(IntKind.wrap .i64 (a1+1)),(IntKind.wrap .i64 (a2-1)),()))
 |false=>some (.inr (.inl (a0,())))
def R3[Lk]{α:Type}(z:α)(c:α×α×Unit→Option U8):(List α×Int×Int×Unit)→Option ((List α×Unit)):=fun(a0,a1,a2,_)=>
 match AL (AFH z c) many (a0,a1,(IntKind.wrap .i64 (a2-1)),())with|none=>none|some r=>match r with
 |.inl (o0,_)=>some (o0,())
 |.inr _=>none
def AY2[Lk]{α:Type}(z:α)(c:α×α×Unit→Option U8)(v:(List α×Int×Int×Unit)):Option ((List α×Unit)):=Lk.f ((R3 z c) v)
theorem Aj6{α:Type}(z:α)(c:α×α×Unit→Option U8)(v:(List α×Int×Int×Unit)):(AY2 z c) v=(R3 z c) v:=AB _
def I8[Lk]{α:Type}(z:α)(c:α×α×Unit→Option U8):(List α×Int×Int×Int×Int×Int×Unit)→Option ((List α×Int×Int×Int×Int×Int×Unit)⊕(List α×Int×Int×Int×Int×Unit)⊕Unit):=fun(a0,a1,a2,a3,a4,a5,_)=>
 match(ilt a5 a2)with
 |true=>match idx a0 a5 with|none=>none|some x0=>match idx a0 (IntKind.wrap .i64 (a5-1))with|none=>none|some x1=>match c ((AJ a0 (AF a5) z),(AJ a0 (AF (IntKind.wrap .i64 (a5-1))) z),())with|none=>none|some (y2,_)=>match(!(ilt y2 0))with
  |true=>some (.inr (.inl (a0,a1,a2,a3,a4,())))
  |false=>match idx a0 (IntKind.wrap .i64 (a5-1))with|none=>none|some x3=>match idx a0 a5 with|none=>none|some x4=>match idx a0 a5 with|none=>none|some x5=>match idx (AX a0 (AF a5) (AJ a0 (AF (IntKind.wrap .i64 (a5-1))) z)) (IntKind.wrap .i64 (a5-1))with|none=>none|some x6=>some (.inl ((AX (AX a0 (AF a5) (AJ a0 (AF (IntKind.wrap .i64 (a5-1))) z)) (AF (IntKind.wrap .i64 (a5-1))) (AJ a0 (AF a5) z)),a1,a2,a3,a4,(IntKind.wrap .i64 (a5+1)),()))
 |false=>some (.inr (.inl (a0,a1,a2,a3,a4,())))
def I9[Lk]{α:Type}(z:α)(c:α×α×Unit→Option U8):(List α×Int×Int×Int×Int×Int×Unit)→Option ((List α×Int×Int×Int×Int×Int×Unit)⊕(List α×Int×Int×Int×Int×Unit)⊕Unit):=fun(a0,a1,a2,a3,a4,a5,_)=>
 match(ile 1 a5)with
 |true=>match idx a0 a5 with|none=>none|some x0=>match idx a0 (IntKind.wrap .i64 (a5-1))with|none=>none|some x1=>match c ((AJ a0 (AF a5) z),(AJ a0 (AF (IntKind.wrap .i64 (a5-1))) z),())with|none=>none|some (y2,_)=>match(!(ilt y2 0))with
  |true=>some (.inr (.inl (a0,a1,a2,a3,a4,())))
  |false=>match idx a0 (IntKind.wrap .i64 (a5-1))with|none=>none|some x3=>match idx a0 a5 with|none=>none|some x4=>match idx a0 a5 with|none=>none|some x5=>match idx (AX a0 (AF a5) (AJ a0 (AF (IntKind.wrap .i64 (a5-1))) z)) (IntKind.wrap .i64 (a5-1))with|none=>none|some x6=>some (.inl ((AX (AX a0 (AF a5) (AJ a0 (AF (IntKind.wrap .i64 (a5-1))) z)) (AF (IntKind.wrap .i64 (a5-1))) (AJ a0 (AF a5) z)),a1,a2,a3,a4,(IntKind.wrap .i64 (a5-1)),()))
 |false=>some (.inr (.inl (a0,a1,a2,a3,a4,())))
def L6[Lk]{α:Type}(z:α)(c:α×α×Unit→Option U8):(List α×Int×Int×Int×Int×Unit)→Option ((List α×Int×Int×Int×Int×Unit)⊕(List α×Int×Int×Int×Int×Unit)⊕Unit):=fun(a0,a1,a2,a3,a4,_)=>
 match(ilt a3 a2)with
 |true=>match idx a0 a3 with|none=>none|some x0=>match idx a0 (IntKind.wrap .i64 (a3-1))with|none=>none|some x1=>match c ((AJ a0 (AF a3) z),(AJ a0 (AF (IntKind.wrap .i64 (a3-1))) z),())with|none=>none|some (y2,_)=>match(!(ilt y2 0))with
  |true=>some (.inl (a0,a1,a2,(IntKind.wrap .i64 (a3+1)),a4,()))
  |false=>some (.inr (.inl (a0,a1,a2,a3,a4,())))
 |false=>some (.inr (.inl (a0,a1,a2,a3,a4,())))
def Dk[Lk]{α:Type}(z:α)(c:α×α×Unit→Option U8):(List α×Int×Int×Int×Int×Unit)→Option ((List α×Int×Int×Int×Int×Unit)⊕(List α×Bool×Unit)⊕(List α×Unit)⊕Unit):=fun(a0,a1,a2,a3,a4,_)=>
 match(ilt a4 5)with
 |true=>match AL (L6 z c) many (a0,a1,a2,a3,a4,())with|none=>none|some r=>match r with
  |.inl (o0,o1,o2,o3,o4,_)=>match(ieq o3 o2)with
   |true=>some (.inr (.inl (o0,true,())))
   |false=>match(ilt (IntKind.wrap .i64 (o2-o1)) 50)with
   |true=>some (.inr (.inl (o0,false,())))
   |false=>match idx o0 (IntKind.wrap .i64 (o3-1))with|none=>none|some x5=>match idx o0 o3 with|none=>none|some x6=>match idx o0 o3 with|none=>none|some x7=>match idx (AX o0 (AF o3) (AJ o0 (AF (IntKind.wrap .i64 (o3-1))) z)) (IntKind.wrap .i64 (o3-1))with|none=>none|some x8=>match(ile 2 (IntKind.wrap .i64 (o3-o1)))with
   |true=>match AL (I9 z c) many ((AX (AX o0 (AF o3) (AJ o0 (AF (IntKind.wrap .i64 (o3-1))) z)) (AF (IntKind.wrap .i64 (o3-1))) (AJ o0 (AF o3) z)),o1,o2,o3,o4,(IntKind.wrap .i64 (o3-1)),())with|none=>none|some r=>match r with
    |.inl (o9,o10,o11,o12,o13,_)=>match(ile 2 (IntKind.wrap .i64 (o11-o12)))with
     |true=>match AL (I8 z c) many (o9,o10,o11,o12,o13,(IntKind.wrap .i64 (o12+1)),())with|none=>none|some r=>match r with
      |.inl (o14,o15,o16,o17,o18,_)=>some (.inl (o14,o15,o16,o17,(IntKind.wrap .i64 (o18+1)),()))
      |.inr _=>none
     |false=>some (.inl (o9,o10,o11,o12,(IntKind.wrap .i64 (o13+1)),()))
    |.inr _=>none
   |false=>match(ile 2 (IntKind.wrap .i64 (o2-o3)))with
   |true=>match AL (I8 z c) many ((AX (AX o0 (AF o3) (AJ o0 (AF (IntKind.wrap .i64 (o3-1))) z)) (AF (IntKind.wrap .i64 (o3-1))) (AJ o0 (AF o3) z)),o1,o2,o3,o4,(IntKind.wrap .i64 (o3+1)),())with|none=>none|some r=>match r with
    |.inl (o19,o20,o21,o22,o23,_)=>some (.inl (o19,o20,o21,o22,(IntKind.wrap .i64 (o23+1)),()))
    |.inr _=>none
   |false=>some (.inl ((AX (AX o0 (AF o3) (AJ o0 (AF (IntKind.wrap .i64 (o3-1))) z)) (AF (IntKind.wrap .i64 (o3-1))) (AJ o0 (AF o3) z)),o1,o2,o3,(IntKind.wrap .i64 (o4+1)),()))
  |.inr _=>none
 |false=>some (.inr (.inr (.inl (a0,()))))
def Fx[Lk]{α:Type}(z:α)(c:α×α×Unit→Option U8):(List α×Int×Int×Unit)→Option ((List α×Bool×Unit)):=fun(a0,a1,a2,_)=>
 match AL (Dk z c) many (a0,a1,a2,(IntKind.wrap .i64 (a1+1)),0,())with|none=>none|some r=>match r with
 |.inl (o0,o1,_)=>some (o0,o1,())
 |.inr r=>match r with
 |.inl (o2,_)=>some (o2,false,())
 |.inr _=>none
def Jt[Lk]{α:Type}(z:α)(c:α×α×Unit→Option U8)(v:(List α×Int×Int×Unit)):Option ((List α×Bool×Unit)):=Lk.f ((Fx z c) v)
theorem AKT{α:Type}(z:α)(c:α×α×Unit→Option U8)(v:(List α×Int×Int×Unit)):(Jt z c) v=(Fx z c) v:=AB _
def OZ[Lk]{α:Type}(z:α)(c:α×α×Unit→Option U8):(List α×Int×Int×Int×Unit)→Option ((List α×Int×Int×Int×Unit)⊕(List α×Int×Int×Int×Unit)⊕Unit):=fun(a0,a1,a2,a3,_)=>
 match(ile a2 a3)with
 |true=>match idx a0 a1 with|none=>none|some x0=>match idx a0 a3 with|none=>none|some x1=>match c ((AJ a0 (AF a1) z),(AJ a0 (AF a3) z),())with|none=>none|some (y2,_)=>match(ilt y2 0)with
  |true=>some (.inl (a0,a1,a2,(IntKind.wrap .i64 (a3-1)),()))
  |false=>some (.inr (.inl (a0,a1,a2,a3,())))
 |false=>some (.inr (.inl (a0,a1,a2,a3,())))
def Oa[Lk]{α:Type}(z:α)(c:α×α×Unit→Option U8):(List α×Int×Int×Int×Unit)→Option ((List α×Int×Int×Int×Unit)⊕(List α×Int×Int×Int×Unit)⊕Unit):=fun(a0,a1,a2,a3,_)=>
 match(ile a2 a3)with
 |true=>match idx a0 a1 with|none=>none|some x0=>match idx a0 a2 with|none=>none|some x1=>match c ((AJ a0 (AF a1) z),(AJ a0 (AF a2) z),())with|none=>none|some (y2,_)=>match(!(ilt y2 0))with
  |true=>some (.inl (a0,a1,(IntKind.wrap .i64 (a2+1)),a3,()))
  |false=>some (.inr (.inl (a0,a1,a2,a3,())))
 |false=>some (.inr (.inl (a0,a1,a2,a3,())))
def Oc[Lk]{α:Type}(z:α)(c:α×α×Unit→Option U8):(List α×Int×Int×Int×Unit)→Option ((List α×Int×Int×Int×Unit)⊕(List α×Int×Unit)⊕Unit):=fun(a0,a1,a2,a3,_)=>
 match AL (Oa z c) many (a0,a1,a2,a3,())with|none=>none|some r=>match r with
 |.inl (o0,o1,o2,o3,_)=>match AL (OZ z c) many (o0,o1,o2,o3,())with|none=>none|some r=>match r with
  |.inl (o4,o5,o6,o7,_)=>match(ilt o7 o6)with
   |true=>some (.inr (.inl (o4,o6,())))
   |false=>match idx o4 o7 with|none=>none|some x8=>match idx o4 o6 with|none=>none|some x9=>match idx o4 o6 with|none=>none|some x10=>match idx (AX o4 (AF o6) (AJ o4 (AF o7) z)) o7 with|none=>none|some x11=>some (.inl ((AX (AX o4 (AF o6) (AJ o4 (AF o7) z)) (AF o7) (AJ o4 (AF o6) z)),o5,(IntKind.wrap .i64 (o6+1)),(IntKind.wrap .i64 (o7-1)),()))
  |.inr _=>none
 |.inr _=>none
def Hp[Lk]{α:Type}(z:α)(c:α×α×Unit→Option U8):(List α×Int×Int×Int×Unit)→Option ((List α×Int×Unit)):=fun(a0,a1,a2,a3,_)=>
 match idx a0 a3 with|none=>none|some x0=>match idx a0 a1 with|none=>none|some x1=>match idx a0 a1 with|none=>none|some x2=>match idx (AX a0 (AF a1) (AJ a0 (AF a3) z)) a3 with|none=>none|some x3=>match AL (Oc z c) many ((AX (AX a0 (AF a1) (AJ a0 (AF a3) z)) (AF a3) (AJ a0 (AF a1) z)),a1,(IntKind.wrap .i64 (a1+1)),(IntKind.wrap .i64 (a2-1)),())with|none=>none|some r=>match r with
 |.inl (o4,o5,_)=>some (o4,o5,())
 |.inr _=>none
def NQ[Lk]{α:Type}(z:α)(c:α×α×Unit→Option U8)(v:(List α×Int×Int×Int×Unit)):Option ((List α×Int×Unit)):=Lk.f ((Hp z c) v)
theorem AQ5{α:Type}(z:α)(c:α×α×Unit→Option U8)(v:(List α×Int×Int×Int×Unit)):(NQ z c) v=(Hp z c) v:=AB _
def Xj[Lk]{α:Type}(z:α)(c:α×α×Unit→Option U8):(List α×Int×Int×Int×Unit)→Option ((List α×Int×Int×Int×Unit)⊕(List α×Int×Int×Int×Unit)⊕Unit):=fun(a0,a1,a2,a3,_)=>
 match(ile a2 a3)with
 |true=>match idx a0 a3 with|none=>none|some x0=>match idx a0 a1 with|none=>none|some x1=>match c ((AJ a0 (AF a3) z),(AJ a0 (AF a1) z),())with|none=>none|some (y2,_)=>match(!(ilt y2 0))with
  |true=>some (.inl (a0,a1,a2,(IntKind.wrap .i64 (a3-1)),()))
  |false=>some (.inr (.inl (a0,a1,a2,a3,())))
 |false=>some (.inr (.inl (a0,a1,a2,a3,())))
def Xk[Lk]{α:Type}(z:α)(c:α×α×Unit→Option U8):(List α×Int×Int×Int×Unit)→Option ((List α×Int×Int×Int×Unit)⊕(List α×Int×Int×Int×Unit)⊕Unit):=fun(a0,a1,a2,a3,_)=>
 match(ile a2 a3)with
 |true=>match idx a0 a2 with|none=>none|some x0=>match idx a0 a1 with|none=>none|some x1=>match c ((AJ a0 (AF a2) z),(AJ a0 (AF a1) z),())with|none=>none|some (y2,_)=>match(ilt y2 0)with
  |true=>some (.inl (a0,a1,(IntKind.wrap .i64 (a2+1)),a3,()))
  |false=>some (.inr (.inl (a0,a1,a2,a3,())))
 |false=>some (.inr (.inl (a0,a1,a2,a3,())))
def Xl[Lk]{α:Type}(z:α)(c:α×α×Unit→Option U8):(List α×Int×Int×Int×Unit)→Option ((List α×Int×Int×Int×Unit)⊕(List α×Int×Int×Unit)⊕Unit):=fun(a0,a1,a2,a3,_)=>
 match AL (Xk z c) many (a0,a1,a2,a3,())with|none=>none|some r=>match r with
 |.inl (o0,o1,o2,o3,_)=>match AL (Xj z c) many (o0,o1,o2,o3,())with|none=>none|some r=>match r with
  |.inl (o4,o5,o6,o7,_)=>match(ilt o7 o6)with
   |true=>some (.inr (.inl (o4,o5,o7,())))
   |false=>match idx o4 o7 with|none=>none|some x8=>match idx o4 o6 with|none=>none|some x9=>match idx o4 o6 with|none=>none|some x10=>match idx (AX o4 (AF o6) (AJ o4 (AF o7) z)) o7 with|none=>none|some x11=>some (.inl ((AX (AX o4 (AF o6) (AJ o4 (AF o7) z)) (AF o7) (AJ o4 (AF o6) z)),o5,(IntKind.wrap .i64 (o6+1)),(IntKind.wrap .i64 (o7-1)),()))
  |.inr _=>none
 |.inr _=>none
def Xm[Lk]{α:Type}(z:α)(c:α×α×Unit→Option U8):(List α×Int×Int×Int×Unit)→Option ((List α×Int×Int×Int×Unit)⊕(List α×Int×Int×Int×Unit)⊕Unit):=fun(a0,a1,a2,a3,_)=>
 match(ile a2 a3)with
 |true=>match idx a0 a3 with|none=>none|some x0=>match idx a0 a1 with|none=>none|some x1=>match c ((AJ a0 (AF a3) z),(AJ a0 (AF a1) z),())with|none=>none|some (y2,_)=>match(!(ilt y2 0))with
  |true=>some (.inl (a0,a1,a2,(IntKind.wrap .i64 (a3-1)),()))
  |false=>some (.inr (.inl (a0,a1,a2,a3,())))
 |false=>some (.inr (.inl (a0,a1,a2,a3,())))
def Xn[Lk]{α:Type}(z:α)(c:α×α×Unit→Option U8):(List α×Int×Int×Int×Unit)→Option ((List α×Int×Int×Int×Unit)⊕(List α×Int×Int×Int×Unit)⊕Unit):=fun(a0,a1,a2,a3,_)=>
 match(ile a2 a3)with
 |true=>match idx a0 a2 with|none=>none|some x0=>match idx a0 a1 with|none=>none|some x1=>match c ((AJ a0 (AF a2) z),(AJ a0 (AF a1) z),())with|none=>none|some (y2,_)=>match(ilt y2 0)with
  |true=>some (.inl (a0,a1,(IntKind.wrap .i64 (a2+1)),a3,()))
  |false=>some (.inr (.inl (a0,a1,a2,a3,())))
 |false=>some (.inr (.inl (a0,a1,a2,a3,())))
def NP[Lk]{α:Type}(z:α)(c:α×α×Unit→Option U8):(List α×Int×Int×Int×Unit)→Option ((List α×Int×Bool×Unit)):=fun(a0,a1,a2,a3,_)=>
 match idx a0 a3 with|none=>none|some x0=>match idx a0 a1 with|none=>none|some x1=>match idx a0 a1 with|none=>none|some x2=>match idx (AX a0 (AF a1) (AJ a0 (AF a3) z)) a3 with|none=>none|some x3=>match AL (Xn z c) many ((AX (AX a0 (AF a1) (AJ a0 (AF a3) z)) (AF a3) (AJ a0 (AF a1) z)),a1,(IntKind.wrap .i64 (a1+1)),(IntKind.wrap .i64 (a2-1)),())with|none=>none|some r=>match r with
 |.inl (o4,o5,o6,o7,_)=>match AL (Xm z c) many (o4,o5,o6,o7,())with|none=>none|some r=>match r with
  |.inl (o8,o9,o10,o11,_)=>match(ilt o11 o10)with
   |true=>match idx o8 o9 with|none=>none|some x12=>match idx o8 o11 with|none=>none|some x13=>match idx o8 o11 with|none=>none|some x14=>match idx (AX o8 (AF o11) (AJ o8 (AF o9) z)) o9 with|none=>none|some x15=>some ((AX (AX o8 (AF o11) (AJ o8 (AF o9) z)) (AF o9) (AJ o8 (AF o11) z)),o11,true,())
   |false=>match idx o8 o11 with|none=>none|some x16=>match idx o8 o10 with|none=>none|some x17=>match idx o8 o10 with|none=>none|some x18=>match idx (AX o8 (AF o10) (AJ o8 (AF o11) z)) o11 with|none=>none|some x19=>match AL (Xl z c) many ((AX (AX o8 (AF o10) (AJ o8 (AF o11) z)) (AF o11) (AJ o8 (AF o10) z)),o9,(IntKind.wrap .i64 (o10+1)),(IntKind.wrap .i64 (o11-1)),())with|none=>none|some r=>match r with
   |.inl (o20,o21,o22,_)=>match idx o20 o21 with|none=>none|some x23=>match idx o20 o22 with|none=>none|some x24=>match idx o20 o22 with|none=>none|some x25=>match idx (AX o20 (AF o22) (AJ o20 (AF o21) z)) o21 with|none=>none|some x26=>some ((AX (AX o20 (AF o22) (AJ o20 (AF o21) z)) (AF o21) (AJ o20 (AF o22) z)),o22,false,())
   |.inr _=>none
  |.inr _=>none
 |.inr _=>none
def TY[Lk]{α:Type}(z:α)(c:α×α×Unit→Option U8)(v:(List α×Int×Int×Int×Unit)):Option ((List α×Int×Bool×Unit)):=Lk.f ((NP z c) v)
theorem Afj{α:Type}(z:α)(c:α×α×Unit→Option U8)(v:(List α×Int×Int×Int×Unit)):(TY z c) v=(NP z c) v:=AB _
def SB[Lk]{α:Type}(z:α)(c:α×α×Unit→Option U8)(self:(List α×Int×Int×Int×Unit)→Option ((List α×Unit)))(y7:List α)(a1 a2 p l:Int)(a4 a5:Bool):Option ((List α×Int×Int×Int×Bool×Bool×Unit)⊕(List α×Unit)⊕Unit):=
 match(ilt 0 a1)with
 |true=>match idx y7 (IntKind.wrap .i64 (a1-1))with|none=>none|some x9=>match idx y7 p with|none=>none|some x10=>match c ((AJ y7 (AF (IntKind.wrap .i64 (a1-1))) z),(AJ y7 (AF p) z),())with|none=>none|some (y11,_)=>match(!(ilt y11 0))with
  |true=>match(NQ z c) (y7,a1,a2,p,())with|none=>none|some (y12,y13,_)=>some (.inl (y12,y13,a2,l,a4,a5,()))
  |false=>match(TY z c) (y7,a1,a2,p,())with|none=>none|some (y14,y15,y16,_)=>match quo? .i64 (IntKind.wrap .i64 (a2-a1)) 8 with|none=>none|some x17=>match(ilt (IntKind.wrap .i64 (y15-a1)) (IntKind.wrap .i64 (a2-y15)))with
  |true=>match self (y14,a1,y15,l,())with|none=>none|some (y18,_)=>some (.inl (y18,(IntKind.wrap .i64 (y15+1)),a2,l,(ile x17 (IntKind.wrap .i64 (y15-a1))),y16,()))
  |false=>match self (y14,(IntKind.wrap .i64 (y15+1)),a2,l,())with|none=>none|some (y19,_)=>some (.inl (y19,a1,y15,l,(ile x17 (IntKind.wrap .i64 (a2-y15))),y16,()))
 |false=>match(TY z c) (y7,a1,a2,p,())with|none=>none|some (y20,y21,y22,_)=>match quo? .i64 (IntKind.wrap .i64 (a2-a1)) 8 with|none=>none|some x23=>match(ilt (IntKind.wrap .i64 (y21-a1)) (IntKind.wrap .i64 (a2-y21)))with
 |true=>match self (y20,a1,y21,l,())with|none=>none|some (y24,_)=>some (.inl (y24,(IntKind.wrap .i64 (y21+1)),a2,l,(ile x23 (IntKind.wrap .i64 (y21-a1))),y22,()))
 |false=>match self (y20,(IntKind.wrap .i64 (y21+1)),a2,l,())with|none=>none|some (y25,_)=>some (.inl (y25,a1,y21,l,(ile x23 (IntKind.wrap .i64 (a2-y21))),y22,()))
def AFa[Lk]{α:Type}(z:α)(c:α×α×Unit→Option U8)(self:(List α×Int×Int×Int×Unit)→Option ((List α×Unit)))(y6:List α)(a1 a2 p h l:Int)(a4 a5:Bool):Option ((List α×Int×Int×Int×Bool×Bool×Unit)⊕(List α×Unit)⊕Unit):=
 match a4 with
 |true=>match a5 with
  |true=>match(ieq h 1)with
   |true=>match(Jt z c) (y6,a1,a2,())with|none=>none|some (y7,y8,_)=>match y8 with
    |true=>some (.inr (.inl (y7,())))
    |false=>(SB z c) self y7 a1 a2 p l a4 a5
   |false=>(SB z c) self y6 a1 a2 p l a4 a5
  |false=>(SB z c) self y6 a1 a2 p l a4 a5
 |false=>(SB z c) self y6 a1 a2 p l a4 a5
def AFZ[Lk]{α:Type}(z:α)(c:α×α×Unit→Option U8)(self:(List α×Int×Int×Int×Unit)→Option ((List α×Unit)))(y2:List α)(a1 a2 l:Int)(a4 a5:Bool):Option ((List α×Int×Int×Int×Bool×Bool×Unit)⊕(List α×Unit)⊕Unit):=
 match(R8 z c) (y2,a1,a2,())with|none=>none|some (y3,y4,y5,_)=>match(ieq y5 2)with
 |true=>match(AY2 z c) (y3,a1,a2,())with|none=>none|some (y6,_)=>(AFa z c) self y6 a1 a2 (IntKind.wrap .i64 ((IntKind.wrap .i64 (a2-1))-(IntKind.wrap .i64 (y4-a1)))) 1 l a4 a5
 |false=>(AFa z c) self y3 a1 a2 y4 y5 l a4 a5
def Kp[Lk]{α:Type}(z:α)(c:α×α×Unit→Option U8)(self:(List α×Int×Int×Int×Unit)→Option ((List α×Unit))):(List α×Int×Int×Int×Bool×Bool×Unit)→Option ((List α×Int×Int×Int×Bool×Bool×Unit)⊕(List α×Unit)⊕Unit):=fun(a0,a1,a2,a3,a4,a5,_)=>
 match(ile (IntKind.wrap .i64 (a2-a1)) 12)with
 |true=>match(Aad z c) (a0,a1,a2,())with|none=>none|some (y0,_)=>some (.inr (.inl (y0,())))
 |false=>match(ieq a3 0)with
 |true=>match(ACu z c) (a0,a1,a2,())with|none=>none|some (y1,_)=>some (.inr (.inl (y1,())))
 |false=>match(!a4)with
 |true=>match(Sv z c) (a0,a1,a2,())with|none=>none|some (y2,_)=>(AFZ z c) self y2 a1 a2 (IntKind.wrap .i64 (a3-1)) a4 a5
 |false=>(AFZ z c) self a0 a1 a2 a3 a4 a5
def SC[Lk]{α:Type}(z:α)(c:α×α×Unit→Option U8)(self:(List α×Int×Int×Int×Unit)→Option ((List α×Unit))):(List α×Int×Int×Int×Unit)→Option ((List α×Unit)):=fun(a0,a1,a2,a3,_)=>
 match AL ((Kp z c) self) many (a0,a1,a2,a3,true,true,())with|none=>none|some r=>match r with
 |.inl (o0,_)=>some (o0,())
 |.inr _=>none
def Jb[Lk]{α:Type}(z:α)(c:α×α×Unit→Option U8):Nat→(List α×Int×Int×Int×Unit)→Option ((List α×Unit))
 |0,_=>none
 |n+1,v=>(SC z c) ((Jb z c) n) v
def AZZ[Lk]{α:Type}(z:α)(c:α×α×Unit→Option U8)(v:(List α×Int×Int×Int×Unit)):Option ((List α×Unit)):=Lk.f ((Jb z c) 100 v)
theorem AkU{α:Type}(z:α)(c:α×α×Unit→Option U8)(v:(List α×Int×Int×Int×Unit)):(AZZ z c) v=(Jb z c) 100 v:=AB _
def NH[Lk]{α:Type}(z:α)(c:α×α×Unit→Option U8):(List α×Unit)→Option ((List α×Unit)):=fun(a0,_)=>
 match bitsLen ((IntKind.wrap .u64 (AH a0)),())with|none=>none|some (y0,_)=>match(AZZ z c) (a0,0,(AH a0),y0,())with|none=>none|some (y1,_)=>some (y1,())
def AIv[Lk]{α:Type}(z:α)(c:α×α×Unit→Option U8)(v:(List α×Unit)):Option ((List α×Unit)):=Lk.f ((NH z c) v)
theorem Adl{α:Type}(z:α)(c:α×α×Unit→Option U8)(v:(List α×Unit)):(AIv z c) v=(NH z c) v:=AB _
abbrev HC:AD:=[(.tmp 0,.own 36 U6),(.tmp 1,.di),(.tmp 2,.di),(.tmp 3,.clo 321 [])]
abbrev Dm:AD:=[(.obj 0,.own 36 U6)]
abbrev Ah:List RS:=[]
abbrev Ak7:AD:=[(.obj 0,.own 36 U6),(.tmp 0,.own' 0),(.tmp 1,.di),(.tmp 2,.di),(.tmp 3,.clo 321 []),(.tmp 8,.di),(.tmp 9,.di)]
abbrev Ak6:AW:=[(.exit 2,[(.obj 0,.own 36 U6),(.tmp 0,.own' 0),(.tmp 1,.di),(.tmp 2,.di),(.tmp 3,.clo 321 []),(.tmp 8,.di)])]
abbrev Ak8:AD:=[(.obj 0,.own 36 U6),(.tmp 0,.own' 0),(.tmp 1,.di),(.tmp 2,.di),(.tmp 3,.clo 321 []),(.tmp 8,.di)]
abbrev AFu:AW:=[(.exit 0,[(.obj 0,.own 36 U6)])]
def AoB[Lk]:Uq→Option (V3):=SV (([]:List (Int)):U5) B8
def ApC[Lk](v:Uq):Option (V3):=Aad (([]:List (Int)):U5) B8 v
theorem Ak9 v:ApC v=AoB v:=AB _
abbrev E3:AD:=[(.tmp 0,.own 36 U6),(.tmp 1,.di),(.tmp 2,.di),(.tmp 3,.di),(.tmp 4,.clo 321 [])]
abbrev Adw:AD:=[(.obj 0,.own 36 U6),(.tmp 0,.own' 0),(.tmp 2,.di),(.tmp 3,.di),(.tmp 4,.clo 321 []),(.tmp 10,.di)]
abbrev Adv:AW:=[(.exit 0,[(.obj 0,.own 36 U6)]),(.ret,[(.obj 0,.own 36 U6)])]
def Ajp[Lk]:Uu→Option (V3):=NI (([]:List (Int)):U5) B8
def AmW[Lk](v:Uu):Option (V3):=W7 (([]:List (Int)):U5) B8 v
theorem Adx v:AmW v=Ajp v:=AB _
abbrev Agm:AD:=[(.obj 0,.own 36 U6),(.tmp 0,.own' 0),(.tmp 3,.clo 321 []),(.tmp 8,.di),(.tmp 9,.di),(.tmp 12,.di)]
abbrev Agk:AW:=[(.exit 2,[(.obj 0,.own 36 U6)])]
abbrev Agn:AD:=[(.obj 0,.own 36 U6),(.tmp 0,.own' 0),(.tmp 3,.clo 321 []),(.tmp 8,.di),(.tmp 9,.di),(.tmp 10,.di),(.tmp 11,.di)]
abbrev Agl:AW:=[(.exit 0,[(.obj 0,.own 36 U6),(.tmp 0,.own' 0),(.tmp 3,.clo 321 []),(.tmp 8,.di),(.tmp 9,.di),(.tmp 10,.di)])]
def AlR[Lk]:Uq→Option (V3):=Nc (([]:List (Int)):U5) B8
def Aml[Lk](v:Uq):Option (V3):=ACu (([]:List (Int)):U5) B8 v
theorem Ago v:Aml v=AlR v:=AB _
abbrev Ab8:AD:=[(.obj 0,.own 36 U6),(.tmp 0,.own' 0),(.tmp 1,.di),(.tmp 8,.di),(.tmp 9,.box 1),(.cell 1 0,.dat (.int .u64)),(.tmp 10,.dat (.int .u64)),(.tmp 11,.di)]
def AiA[Lk]:Uq→Option (V3):=KI (([]:List (Int)):U5) B8
def AiC[Lk](v:Uq):Option (V3):=Sv (([]:List (Int)):U5) B8 v
theorem Ab9 v:AiC v=AiA v:=AB _
abbrev ACO:AD:=[(.tmp 0,.own 36 U6),(.tmp 1,.di),(.tmp 2,.di),(.tmp 3,.box 1),(.cell 1 0,.di),(.tmp 4,.clo 321 [])]
abbrev ACN:AD:=[(.obj 0,.own 36 U6),(.obj 1,.box 1),(.cell 1 0,.di),(.tmp 0,.di),(.tmp 1,.di)]
abbrev AQ:List RS:=[.one,.one]
def AZm[Lk]:Uu→Option (Uu):=Hq (([]:List (Int)):U5) B8
def AVL[Lk](v:Uu):Option (Uu):=JA (([]:List (Int)):U5) B8 v
theorem ARB v:AVL v=AZm v:=AB _
abbrev ACV:AD:=[(.tmp 0,.own 36 U6),(.tmp 1,.di),(.tmp 2,.di),(.tmp 3,.di),(.tmp 4,.box 1),(.cell 1 0,.di),(.tmp 5,.clo 321 [])]
abbrev NS:AD:=[(.obj 0,.own 36 U6),(.obj 1,.box 1),(.cell 1 0,.di),(.tmp 0,.di)]
def AZ1[Lk]:(List U5×Int×Int×Int×Int×Unit)→Option (Uq):=Hr (([]:List (Int)):U5) B8
def AVX[Lk](v:(List U5×Int×Int×Int×Int×Unit)):Option (Uq):=JC (([]:List (Int)):U5) B8 v
theorem ARP v:AVX v=AZ1 v:=AB _
abbrev ACa:AD:=[(.tmp 0,.own 36 U6),(.tmp 1,.di),(.tmp 2,.box 1),(.cell 1 0,.di),(.tmp 3,.clo 321 [])]
def AZ8[Lk]:Uq→Option (Uq):=Hs (([]:List (Int)):U5) B8
def AVa[Lk](v:Uq):Option (Uq):=JD (([]:List (Int)):U5) B8 v
theorem ARU v:AVa v=AZ8 v:=AB _
abbrev AJr:AD:=[(.obj 0,.own 36 U6),(.tmp 0,.di),(.tmp 1,.di)]
def Aey[Lk]:Uq→Option (Uq):=Js (([]:List (Int)):U5) B8
def Ae0[Lk](v:Uq):Option (Uq):=R8 (([]:List (Int)):U5) B8 v
theorem AZL v:Ae0 v=Aey v:=AB _
abbrev Aj1:AD:=[(.obj 0,.own 36 U6),(.tmp 0,.own' 0),(.tmp 8,.di),(.tmp 9,.di)]
def AnF[Lk]:Uq→Option (V3):=R3 (([]:List (Int)):U5) B8
def Aoz[Lk](v:Uq):Option (V3):=AY2 (([]:List (Int)):U5) B8 v
theorem Aj2 v:Aoz v=AnF v:=AB _
abbrev Xf:AD:=[(.obj 0,.own 36 U6),(.tmp 0,.dat .bool)]
abbrev AKF:AD:=[(.obj 0,.own 36 U6),(.tmp 0,.own' 0),(.tmp 1,.di),(.tmp 2,.di),(.tmp 3,.clo 321 []),(.tmp 9,.di),(.tmp 10,.di),(.tmp 12,.di)]
abbrev AKB:AW:=[(.exit 6,[(.obj 0,.own 36 U6),(.tmp 0,.own' 0),(.tmp 1,.di),(.tmp 2,.di),(.tmp 3,.clo 321 []),(.tmp 9,.di),(.tmp 10,.di)])]
abbrev AKG:AD:=[(.obj 0,.own 36 U6),(.tmp 0,.own' 0),(.tmp 1,.di),(.tmp 2,.di),(.tmp 3,.clo 321 []),(.tmp 9,.di),(.tmp 10,.di),(.tmp 11,.di)]
abbrev AKC:AW:=[(.exit 4,[(.obj 0,.own 36 U6),(.tmp 0,.own' 0),(.tmp 1,.di),(.tmp 2,.di),(.tmp 3,.clo 321 []),(.tmp 9,.di),(.tmp 10,.di)])]
abbrev TT:AD:=[(.obj 0,.own 36 U6),(.tmp 0,.own' 0),(.tmp 1,.di),(.tmp 2,.di),(.tmp 3,.clo 321 []),(.tmp 9,.di),(.tmp 10,.di)]
abbrev AKD:AW:=[(.exit 2,[(.obj 0,.own 36 U6),(.tmp 0,.own' 0),(.tmp 1,.di),(.tmp 2,.di),(.tmp 3,.clo 321 []),(.tmp 9,.di),(.tmp 10,.di)])]
abbrev AKE:AW:=[(.ret,[(.obj 0,.own 36 U6),(.tmp 8,.dat .bool)]),(.exit 0,[(.obj 0,.own 36 U6)])]
def AQk[Lk]:Uq→Option ((List U5×Bool×Unit)):=Fx (([]:List (Int)):U5) B8
def AKI[Lk](v:Uq):Option ((List U5×Bool×Unit)):=Jt (([]:List (Int)):U5) B8 v
theorem AKH v:AKI v=AQk v:=AB _
abbrev ACG:AD:=[(.obj 0,.own 36 U6),(.tmp 0,.di)]
abbrev OX:AD:=[(.obj 0,.own 36 U6),(.tmp 0,.own' 0),(.tmp 1,.di),(.tmp 4,.clo 321 []),(.tmp 11,.di),(.tmp 12,.di)]
abbrev AQu:AW:=[(.exit 4,[(.obj 0,.own 36 U6),(.tmp 0,.own' 0),(.tmp 1,.di),(.tmp 4,.clo 321 []),(.tmp 11,.di),(.tmp 12,.di)])]
abbrev AQv:AW:=[(.exit 2,[(.obj 0,.own 36 U6),(.tmp 0,.own' 0),(.tmp 1,.di),(.tmp 4,.clo 321 []),(.tmp 11,.di),(.tmp 12,.di)])]
abbrev AQw:AW:=[(.exit 0,[(.obj 0,.own 36 U6),(.tmp 11,.di)])]
def AZe[Lk]:Uu→Option ((List U5×Int×Unit)):=Hp (([]:List (Int)):U5) B8
def AVH[Lk](v:Uu):Option ((List U5×Int×Unit)):=NQ (([]:List (Int)):U5) B8 v
theorem AQx v:AVH v=AZe v:=AB _
end
end Go.Pev
end
section
namespace Go.Pev
noncomputable section
abbrev AVC:AD:=[(.obj 0,.own 36 U6),(.tmp 0,.di),(.tmp 1,.dat .bool)]
abbrev L5:AD:=[(.obj 0,.own 36 U6),(.tmp 0,.own' 0),(.tmp 1,.di),(.tmp 4,.clo 321 []),(.tmp 12,.di),(.tmp 13,.di)]
abbrev AfS:AW:=[(.exit 8,[(.obj 0,.own 36 U6),(.tmp 0,.own' 0),(.tmp 1,.di),(.tmp 4,.clo 321 []),(.tmp 12,.di),(.tmp 13,.di)])]
abbrev AfT:AW:=[(.exit 6,[(.obj 0,.own 36 U6),(.tmp 0,.own' 0),(.tmp 1,.di),(.tmp 4,.clo 321 []),(.tmp 12,.di),(.tmp 13,.di)])]
abbrev AfU:AW:=[(.exit 4,[(.obj 0,.own 36 U6),(.tmp 0,.own' 0),(.tmp 1,.di),(.tmp 13,.di)])]
abbrev AfV:AW:=[(.exit 2,[(.obj 0,.own 36 U6),(.tmp 0,.own' 0),(.tmp 1,.di),(.tmp 4,.clo 321 []),(.tmp 12,.di),(.tmp 13,.di)])]
abbrev AfW:AW:=[(.exit 0,[(.obj 0,.own 36 U6),(.tmp 0,.own' 0),(.tmp 1,.di),(.tmp 4,.clo 321 []),(.tmp 12,.di),(.tmp 13,.di)])]
def Akb[Lk]:Uu→Option ((List U5×Int×Bool×Unit)):=NP (([]:List (Int)):U5) B8
def Amg[Lk](v:Uu):Option ((List U5×Int×Bool×Unit)):=TY (([]:List (Int)):U5) B8 v
theorem AfX v:Amg v=Akb v:=AB _
abbrev AU5:AD:=[(.obj 0,.own 36 U6),(.tmp 0,.own' 0),(.tmp 1,.di),(.tmp 2,.di),(.tmp 3,.di),(.tmp 4,.clo 321 []),(.tmp 10,.dat .bool),(.tmp 11,.dat .bool)]
abbrev AU4:AW:=[(.ret,[(.obj 0,.own 36 U6)])]
def AU3[Lk](self:Uu→Option (V3)):(List U5×Int×Int×Int×Bool×Bool×Unit)→Option ((List U5×Int×Int×Int×Bool×Bool×Unit)⊕V3⊕Unit):=Kp (([]:List (Int)):U5) B8 self
def Ani[Lk](self:Uu→Option (V3)):Uu→Option (V3):=SC (([]:List (Int)):U5) B8 self
def Xc[Lk]:Nat→Uu→Option (V3):=Jb (([]:List (Int)):U5) B8
def AkQ[Lk](v:Uu):Option (V3):=AZZ (([]:List (Int)):U5) B8 v
theorem AkP v:AkQ v=Xc 100 v:=AB _
abbrev AUa:AD:=[(.tmp 0,.own 36 U6),(.tmp 1,.clo 321 [])]
def Ajh[Lk]:V3→Option (V3):=NH (([]:List (Int)):U5) B8
def AUb[Lk](v:V3):Option (V3):=AIv (([]:List (Int)):U5) B8 v
theorem Adi v:AUb v=Ajh v:=AB _
abbrev EB:AD:=[(.tmp 0,.dat U6),(.cap 1 0,.box 2),(.cell 0 0,.di),(.cell 0 1,.dat Ue),(.tmp 1,.clo 172 [(0,0)])]
abbrev J9:AD:=[(.obj 0,.box 2),(.cell 0 0,.di),(.cell 0 1,.dat Ue),(.tmp 0,.di)]
abbrev QZ:AD:=[(.obj 0,.box 2),(.cell 0 0,.di),(.cell 0 1,.dat Ue),(.tmp 0,.dat U6),(.tmp 1,.clo 172 [(0,0)]),(.tmp 7,.di),(.tmp 8,.di)]
abbrev QY:AW:=[(.ret,[(.obj 0,.box 2),(.cell 0 0,.di),(.cell 0 1,.dat Ue),(.tmp 4,.di)]),(.exit 0,[(.obj 0,.box 2),(.cell 0 0,.di),(.cell 0 1,.dat Ue)])]
def Ck[Lk]:(Int×List U5×List Int×Int×Int×Unit)→Option ((Int×List U5×List Int×Int×Int×Unit)⊕(Int×List U5×Int×Unit)⊕(Int×List U5×Unit)⊕Unit):=fun(a0,a1,a2,a3,a4,_)=>
 match(ilt a4 a3)with
 |true=>match idx a2 a4 with|none=>none|some x0=>match(ilt x0 0)with
  |true=>some (.inr (.inl (a0,a1,a4,())))
  |false=>match(ile a0 x0)with
  |true=>some (.inr (.inl (a0,a1,a4,())))
  |false=>some (.inl (a0,a1,a2,a3,(IntKind.wrap .i64 (a4+1)),()))
 |false=>some (.inr (.inr (.inl (a0,a1,()))))
def GB[Lk]:(List Int×Int×List U5×Unit)→Option ((Int×List U5×Int×Unit)):=fun(a0,a1,a2,_)=>
 match AL Ck many (a1,a2,a0,(AH a0),0,())with|none=>none|some r=>match r with
 |.inl (o0,o1,o2,_)=>some (o0,o1,o2,())
 |.inr r=>match r with
 |.inl (o3,o4,_)=>some (o3,o4,(-1:Int),())
 |.inr _=>none
def Ib[Lk]:=fun v=>Lk.f (GB v)
theorem JK v:Ib v=GB v:=AB _
abbrev AhR:AD:=[(.tmp 0,.dat Vb)]
abbrev Alv:AD:=[(.tmp 3,.own 3 U0),(.tmp 6,.dat Vb),(.tmp 7,.di),(.tmp 8,.di)]
abbrev AV5:AW:=[(.exit 0,[(.tmp 3,.own 3 U0)])]
def Qy[Lk]:(List Int×List U3×Int×Int×Unit)→Option ((List Int×List U3×Int×Int×Unit)⊕Ua⊕Unit):=fun(a0,a1,a2,a3,_)=>
 match(ilt a3 a2)with
 |true=>match idx a1 a3 with|none=>none|some x0=>match(fits ((AH a0)+(AH ([x0.1,x0.2.1]:List (Int)))))with
  |true=>some (.inl ((Ai a0 ([x0.1,x0.2.1]:List (Int))),a1,a2,(IntKind.wrap .i64 (a3+1)),()))
  |false=>none
 |false=>some (.inr (.inl (a0,())))
def AR7[Lk]:Ux→Option (Ua):=fun(a0,_)=>
 match AL Qy many (([]:List (Int)),a0,(AH a0),0,())with|none=>none|some r=>match r with
 |.inl (o0,_)=>some (o0,())
 |.inr _=>none
def ends[Lk]:=fun v=>Lk.f (AR7 v)
theorem AV6 v:ends v=AR7 v:=AB _
abbrev An1:AD:=[(.tmp 3,.di),(.tmp 6,.dat U6),(.tmp 7,.di),(.tmp 8,.di)]
abbrev An0:AW:=[(.ret,[(.tmp 2,.di)]),(.exit 0,[(.tmp 3,.di)])]
def Xq[Lk]:(Int×List Int×Int×Int×Unit)→Option ((Int×List Int×Int×Int×Unit)⊕U8⊕U8⊕Unit):=fun(a0,a1,a2,a3,_)=>
 match(ilt a3 a2)with
 |true=>match idx a1 a3 with|none=>none|some x0=>match(!(ieq x0 a0))with
  |true=>some (.inr (.inl (x0,())))
  |false=>some (.inl (a0,a1,a2,(IntKind.wrap .i64 (a3+1)),()))
 |false=>some (.inr (.inr (.inl (a0,()))))
def Afu[Lk]:Ua→Option (U8):=fun(a0,_)=>
 match AL Xq many (0,a0,(AH a0),0,())with|none=>none|some r=>match r with
 |.inl (o0,_)=>some (o0,())
 |.inr r=>match r with
 |.inl (o1,_)=>some (o1,())
 |.inr _=>none
def orI[Lk]:=fun v=>Lk.f (Afu v)
theorem Aft v:orI v=Afu v:=AB _
def QH[Lk]:U8→Option (Uc):=fun(a0,_)=>
 match(ile 1 a0)with
 |true=>some ((ile a0 64),())
 |false=>some (false,())
def Xy[Lk]:=fun v=>Lk.f (QH v)
theorem SK v:Xy v=QH v:=AB _
def Af1[Lk]:U8→Option (U8):=fun(a0,_)=>
 match Xy (a0,())with|none=>none|some (y0,_)=>match(!y0)with
 |true=>some (0,())
 |false=>match bitsLen ((IntKind.wrap .u64 (IntKind.wrap .i64 (a0-1))),())with|none=>none|some (y1,_)=>some (y1,())
def AFk[Lk]:=fun v=>Lk.f (Af1 v)
theorem Akp v:AFk v=Af1 v:=AB _
abbrev Kz:AD:=[(.tmp 0,.dat U2),(.tmp 1,.dat U2)]
def Oi[Lk]:(U1×U1×Unit)→Option (U8):=fun(a0,a1,_)=>
 match EX (a0.1,a1.1,())with|none=>none|some (y0,_)=>match EX (a0.2.1,a1.2.1,())with|none=>none|some (y1,_)=>match orI (([y0,y1]:List (Int)),())with|none=>none|some (y2,_)=>some (y2,())
def IX[Lk]:=fun v=>Lk.f (Oi v)
theorem Tg v:IX v=Oi v:=AB _
abbrev EU:AD:=[(.tmp 0,.dat Um),(.tmp 1,.di)]
abbrev Jy:AD:=[(.tmp 0,.own 88 U4)]
abbrev AaG:AD:=[(.tmp 1,.di),(.tmp 5,.own 88 U4),(.tmp 9,.dat Uy),(.tmp 10,.di),(.tmp 11,.di)]
abbrev ACf:AW:=[(.exit 0,[(.tmp 5,.own 88 U4)])]
def D8[Lk]:(Int×List U3×List U1×Int×Int×Unit)→Option ((Int×List U3×List U1×Int×Int×Unit)⊕Ux⊕Unit):=fun(a0,a1,a2,a3,a4,_)=>
 match(ilt a4 a3)with
 |true=>match idx a2 a4 with|none=>none|some x0=>match x0.2.2.2.1 with
  |true=>match(ile a0 x0.2.2.1)with
   |true=>match(fits ((AH a1)+(AH ([(x0.1,(x0.2.1,()))]:List U3))))with
    |true=>some (.inl (a0,(Ai a1 ([(x0.1,(x0.2.1,()))]:List U3)),a2,a3,(IntKind.wrap .i64 (a4+1)),()))
    |false=>none
   |false=>some (.inl (a0,a1,a2,a3,(IntKind.wrap .i64 (a4+1)),()))
  |false=>some (.inl (a0,a1,a2,a3,(IntKind.wrap .i64 (a4+1)),()))
 |false=>some (.inr (.inl (a1,())))
def QG[Lk]:(Uf×Int×Unit)→Option (Ux):=fun(a0,a1,_)=>
 match AL D8 many (a1,([]:List U3),a0.2.1,(AH a0.2.1),0,())with|none=>none|some r=>match r with
 |.inl (o0,_)=>some (o0,())
 |.inr _=>none
def SJ[Lk]:=fun v=>Lk.f (QG v)
theorem SH v:SJ v=QG v:=AB _
abbrev CM:AD:=[(.tmp 0,.di),(.tmp 1,.dat Vb)]
abbrev AGl:AD:=[(.tmp 0,.di),(.tmp 1,.dat Vb),(.tmp 5,.own 3 U0),(.tmp 7,.dat .bool),(.tmp 8,.di)]
abbrev AGi:AW:=[(.exit 4,[(.tmp 0,.di),(.tmp 1,.dat Vb),(.tmp 5,.own 3 U0),(.tmp 7,.dat .bool)])]
def FT[Lk]:(Int×List U3×List Int×Bool×Int×Unit)→Option ((Int×List U3×List Int×Bool×Int×Unit)⊕(Int×List U3×List Int×Bool×Unit)⊕Unit):=fun(a0,a1,a2,a3,a4,_)=>
 match(ilt a4 (AH a1))with
 |true=>match idx a1 a4 with|none=>none|some x0=>match idx a1 a4 with|none=>none|some x1=>match(ilt x0.1 0)with
  |true=>some (.inl (a0,a1,a2,a3,(IntKind.wrap .i64 (a4+1)),()))
  |false=>match(ilt x1.2.1 0)with
  |true=>some (.inl (a0,a1,a2,a3,(IntKind.wrap .i64 (a4+1)),()))
  |false=>match(ile a0 x0.1)with
  |true=>some (.inl (a0,a1,a2,a3,(IntKind.wrap .i64 (a4+1)),()))
  |false=>match(ile a0 x1.2.1)with
  |true=>some (.inl (a0,a1,a2,a3,(IntKind.wrap .i64 (a4+1)),()))
  |false=>match idx a2 x0.1 with|none=>none|some x2=>match idx a2 x1.2.1 with|none=>none|some x3=>match(ieq (AJ a2 (AF x0.1) 0) (AJ a2 (AF x1.2.1) 0))with
  |true=>some (.inl (a0,a1,a2,a3,(IntKind.wrap .i64 (a4+1)),()))
  |false=>match idx a2 x0.1 with|none=>none|some x4=>match idx a2 x1.2.1 with|none=>none|some x5=>match idx a2 x0.1 with|none=>none|some x6=>match idx (AX a2 (AF x0.1) (Bs (AJ a2 (AF x0.1) 0) (AJ a2 (AF x1.2.1) 0))) x1.2.1 with|none=>none|some x7=>some (.inl (a0,a1,(AX (AX a2 (AF x0.1) (Bs (AJ a2 (AF x0.1) 0) (AJ a2 (AF x1.2.1) 0))) (AF x1.2.1) (Bs (AJ a2 (AF x0.1) 0) (AJ a2 (AF x1.2.1) 0))),true,(IntKind.wrap .i64 (a4+1)),()))
 |false=>some (.inr (.inl (a0,a1,a2,a3,())))
abbrev AGm:AD:=[(.tmp 0,.di),(.tmp 1,.dat Vb),(.tmp 5,.own 3 U0),(.tmp 7,.dat .bool)]
abbrev AGj:AW:=[(.exit 2,[(.tmp 5,.own 3 U0)])]
def Hd[Lk]:(Int×List U3×List Int×Bool×Unit)→Option ((Int×List U3×List Int×Bool×Unit)⊕Ua⊕Unit):=fun(a0,a1,a2,a3,_)=>
 match a3 with
 |true=>match AL FT many (a0,a1,a2,false,0,())with|none=>none|some r=>match r with
  |.inl (o0,o1,o2,o3,_)=>some (.inl (o0,o1,o2,o3,()))
  |.inr _=>none
 |false=>some (.inr (.inl (a2,())))
abbrev AGn:AD:=[(.tmp 0,.di),(.tmp 1,.dat Vb),(.tmp 5,.own 3 U0),(.tmp 6,.di)]
abbrev AGk:AW:=[(.exit 0,[(.tmp 0,.di),(.tmp 1,.dat Vb),(.tmp 5,.own 3 U0)])]
def FU[Lk]:(Int×List U3×List Int×Int×Unit)→Option ((Int×List U3×List Int×Int×Unit)⊕(Int×List U3×List Int×Unit)⊕Unit):=fun(a0,a1,a2,a3,_)=>
 match(ilt a3 a0)with
 |true=>match(fits ((AH a2)+(AH ([a3]:List (Int)))))with
  |true=>some (.inl (a0,a1,(Ai a2 ([a3]:List (Int))),(IntKind.wrap .i64 (a3+1)),()))
  |false=>none
 |false=>some (.inr (.inl (a0,a1,a2,())))
def Mm[Lk]:(Int×List U3×Unit)→Option (Ua):=fun(a0,a1,_)=>
 match AL FU many (a0,a1,([]:List (Int)),0,())with|none=>none|some r=>match r with
 |.inl (o0,o1,o2,_)=>match AL Hd many (o0,o1,o2,true,())with|none=>none|some r=>match r with
  |.inl (o3,_)=>some (o3,())
  |.inr _=>none
 |.inr _=>none
def Nm[Lk]:=fun v=>Lk.f (Mm v)
theorem RA v:Nm v=Mm v:=AB _
abbrev AdK:AD:=[(.tmp 3,.di),(.tmp 4,.di)]
def AdJ[Lk]:U3→Option (U3⊕U8⊕Unit):=fun(a0,a1,_)=>
 match(ilt 0 a1)with
 |true=>match quo? .i64 a1 2 with|none=>none|some x0=>some (.inl ((IntKind.wrap .i64 (a0+1)),x0,()))
 |false=>some (.inr (.inl (a0,())))
def AUP[Lk]:U8→Option (U8):=fun(a0,_)=>
 match(ilt a0 1)with
 |true=>some (0,())
 |false=>match(ilt 64 a0)with
 |true=>some (0,())
 |false=>match AL AdJ many (0,(IntKind.wrap .i64 (a0-1)),())with|none=>none|some r=>match r with
 |.inl (o0,_)=>some (o0,())
 |.inr _=>none
def Pd[Lk]:=fun v=>Lk.f (AUP v)
theorem AdL v:Pd v=AUP v:=AB _
abbrev DV:AD:=[(.tmp 0,.dat Um)]
abbrev APv:AD:=[(.tmp 1,.box 2),(.cell 0 0,.di),(.cell 0 1,.dat Uy),(.tmp 3,.own 88 U4),(.tmp 6,.own 3 U0),(.tmp 7,.di),(.tmp 8,.di)]
abbrev APt:AW:=[(.exit 2,[(.tmp 1,.box 2),(.cell 0 0,.di),(.cell 0 1,.dat Uy),(.tmp 3,.own 88 U4),(.tmp 7,.di)])]
def Fl[Lk]:(Int×List U1×List U3×List Int×Int×Int×Unit)→Option ((Int×List U1×List U3×List Int×Int×Int×Unit)⊕(Int×List U1×List U3×Int×Unit)⊕Unit):=fun(a0,a1,a2,a3,a4,a5,_)=>
 match(ilt a5 a0)with
 |true=>match idx a3 a5 with|none=>none|some x0=>match(ieq (AJ a3 (AF a5) 0) a5)with
  |true=>some (.inl (a0,a1,a2,a3,(IntKind.wrap .i64 (a4+1)),(IntKind.wrap .i64 (a5+1)),()))
  |false=>some (.inl (a0,a1,a2,a3,a4,(IntKind.wrap .i64 (a5+1)),()))
 |false=>some (.inr (.inl (a0,a1,a2,a4,())))
abbrev APw:AD:=[(.tmp 1,.box 2),(.cell 0 0,.di),(.cell 0 1,.dat Uy),(.tmp 3,.own 88 U4),(.tmp 4,.di)]
abbrev APu:AW:=[(.ret,[(.tmp 2,.dat .bool)]),(.exit 0,[(.tmp 1,.box 2),(.cell 0 0,.di),(.cell 0 1,.dat Uy),(.tmp 3,.own 88 U4)])]
def Eg[Lk]:(Int×List U1×List U3×Int×Unit)→Option ((Int×List U1×List U3×Int×Unit)⊕Uc⊕(Int×List U1×List U3×Unit)⊕Unit):=fun(a0,a1,a2,a3,_)=>
 match(ilt a3 (AH a1))with
 |true=>match idx a1 a3 with|none=>none|some x0=>match(ilt x0.1 0)with
  |true=>some (.inr (.inl (false,())))
  |false=>match(ile x0.2.1 x0.1)with
  |true=>some (.inr (.inl (false,())))
  |false=>match(ile a0 x0.2.1)with
  |true=>some (.inr (.inl (false,())))
  |false=>match(ilt x0.2.2.1 0)with
  |true=>some (.inr (.inl (false,())))
  |false=>match Pd (a0,())with|none=>none|some (y1,_)=>match(ilt y1 x0.2.2.1)with
  |true=>some (.inr (.inl (false,())))
  |false=>match(ilt 0 a3)with
  |true=>match idx a1 (IntKind.wrap .i64 (a3-1))with|none=>none|some x2=>match(ilt x0.1 x2.1)with
   |true=>some (.inr (.inl (false,())))
   |false=>match idx a1 (IntKind.wrap .i64 (a3-1))with|none=>none|some x3=>match(ieq x3.1 x0.1)with
   |true=>match idx a1 (IntKind.wrap .i64 (a3-1))with|none=>none|some x4=>match(ile x0.2.1 x4.2.1)with
    |true=>some (.inr (.inl (false,())))
    |false=>match x0.2.2.2.1 with
    |true=>match(fits ((AH a2)+(AH ([(x0.1,(x0.2.1,()))]:List U3))))with
     |true=>some (.inl (a0,a1,(Ai a2 ([(x0.1,(x0.2.1,()))]:List U3)),(IntKind.wrap .i64 (a3+1)),()))
     |false=>none
    |false=>some (.inl (a0,a1,a2,(IntKind.wrap .i64 (a3+1)),()))
   |false=>match x0.2.2.2.1 with
   |true=>match(fits ((AH a2)+(AH ([(x0.1,(x0.2.1,()))]:List U3))))with
    |true=>some (.inl (a0,a1,(Ai a2 ([(x0.1,(x0.2.1,()))]:List U3)),(IntKind.wrap .i64 (a3+1)),()))
    |false=>none
   |false=>some (.inl (a0,a1,a2,(IntKind.wrap .i64 (a3+1)),()))
  |false=>match x0.2.2.2.1 with
  |true=>match(fits ((AH a2)+(AH ([(x0.1,(x0.2.1,()))]:List U3))))with
   |true=>some (.inl (a0,a1,(Ai a2 ([(x0.1,(x0.2.1,()))]:List U3)),(IntKind.wrap .i64 (a3+1)),()))
   |false=>none
  |false=>some (.inl (a0,a1,a2,(IntKind.wrap .i64 (a3+1)),()))
 |false=>some (.inr (.inr (.inl (a0,a1,a2,()))))
def Fp[Lk]:(Uf×Unit)→Option (Uc):=fun(a0,_)=>
 match(ilt a0.1 1)with
 |true=>some (false,())
 |false=>match(ilt 64 a0.1)with
 |true=>some (false,())
 |false=>match(ilt 400 (AH a0.2.1))with
 |true=>some (false,())
 |false=>match AL Eg many (a0.1,a0.2.1,([]:List U3),0,())with|none=>none|some r=>match r with
 |.inl (o0,_)=>some (o0,())
 |.inr r=>match r with
 |.inl (o1,o2,o3,_)=>match Nm (o1,o3,())with|none=>none|some (y4,_)=>match AL Fl many (o1,o2,o3,y4,0,0,())with|none=>none|some r=>match r with
  |.inl (o5,o6,o7,o8,_)=>some ((ieq o8 (IntKind.wrap .i64 (o5-(AH o7)))),())
  |.inr _=>none
 |.inr _=>none
def HQ[Lk]:=fun v=>Lk.f (Fp v)
theorem Fm v:HQ v=Fp v:=AB _
def ARq[Lk]:U3→Option (Uc):=fun(a0,a1,_)=>
 match(ile 1 a0)with
 |true=>match(ile a0 64)with
  |true=>match(ile 0 a1)with
   |true=>some ((ilt a1 a0),())
   |false=>some (false,())
  |false=>some (false,())
 |false=>some (false,())
def AFx[Lk]:=fun v=>Lk.f (ARq v)
theorem AVm v:AFx v=ARq v:=AB _
def Ro[Lk]:U3→Option ((Int×Int×Bool×Bool×Unit)):=fun(a0,a1,_)=>
 match AFx (a0,a1,())with|none=>none|some (y0,_)=>match y0 with
 |true=>some (a1,0,false,true,())
 |false=>match(ilt a0 1)with
 |true=>some (0,0,false,false,())
 |false=>match(ilt 64 a0)with
 |true=>some (0,0,false,false,())
 |false=>match(ilt a1 a0)with
 |true=>some (0,0,false,false,())
 |false=>match(ile (IntKind.wrap .i64 (a0+(IntKind.wrap .i64 (a0*a0)))) a1)with
 |true=>some (0,0,false,false,())
 |false=>match quo? .i64 (IntKind.wrap .i64 (a1-a0)) a0 with|none=>none|some x1=>match rem? (IntKind.wrap .i64 (a1-a0)) a0 with|none=>none|some x2=>match(ieq x1 x2)with
 |true=>some (0,0,false,false,())
 |false=>some (x1,x2,true,true,())
def Pe[Lk]:=fun v=>Lk.f (Ro v)
theorem Wu v:Pe v=Ro v:=AB _
def AG0[Lk]:Ug→Option (U8):=fun(a0,a1,a2,_)=>
 match AFx (a0,a1,())with|none=>none|some (y0,_)=>match(!y0)with
 |true=>some ((-1:Int),())
 |false=>match AFx (a0,a2,())with|none=>none|some (y1,_)=>match(!y1)with
 |true=>some ((-1:Int),())
 |false=>match(ieq a1 a2)with
 |true=>some ((-1:Int),())
 |false=>some ((IntKind.wrap .i64 ((IntKind.wrap .i64 (a0+(IntKind.wrap .i64 (a1*a0))))+a2)),())
def ADL[Lk]:=fun v=>Lk.f (AG0 v)
theorem AMY v:ADL v=AG0 v:=AB _
abbrev AaE:AD:=[(.tmp 0,.di),(.tmp 2,.box 2),(.cell 0 0,.di),(.cell 0 1,.nil U6),(.tmp 4,.box 2),(.cell 1 0,.di),(.cell 1 1,.own 36 U6),(.tmp 5,.di)]
def Jx[Lk]:(Int×Int×Int×List U5×Int×Unit)→Option ((Int×Int×Int×List U5×Int×Unit)⊕(Int×Int×List U5×Unit)⊕Unit):=fun(a0,a1,a2,a3,a4,_)=>
 match(ilt a4 a0)with
 |true=>match(fits ((AH a3)+(AH ([([a4]:List (Int))]:List U5))))with
  |true=>some (.inl (a0,a1,a2,(Ai a3 ([([a4]:List (Int))]:List U5)),(IntKind.wrap .i64 (a4+1)),()))
  |false=>none
 |false=>some (.inr (.inl (a1,a2,a3,())))
def Xw[Lk]:U8→Option ((Int×List U5×Int×Unit)):=fun(a0,_)=>
 match(ilt a0 1)with
 |true=>some (0,([]:List U5),1,())
 |false=>match(ilt 64 a0)with
 |true=>some (0,([]:List U5),1,())
 |false=>match AL Jx many (a0,0,a0,([]:List U5),0,())with|none=>none|some r=>match r with
 |.inl (o0,o1,o2,_)=>some (o1,o2,0,())
 |.inr _=>none
def Xx[Lk]:=fun v=>Lk.f (Xw v)
theorem ACe v:Xx v=Xw v:=AB _
def OP[Lk]:Ug→Option (Uc):=fun(a0,a1,a2,_)=>
 match Pe (a0,a1,())with|none=>none|some (y0,y1,y2,y3,_)=>match y3 with
 |true=>match(!y2)with
  |true=>match(ieq y0 a2)with
   |true=>some (true,())
   |false=>match y2 with
   |true=>some ((ieq y1 a2),())
   |false=>some (false,())
  |false=>match y2 with
  |true=>some ((ieq y1 a2),())
  |false=>some (false,())
 |false=>some (false,())
def Ph[Lk]:=fun v=>Lk.f (OP v)
theorem TE v:Ph v=OP v:=AB _
abbrev AX1:AD:=[(.tmp 0,.di),(.tmp 1,.own 3 U0),(.tmp 6,.di),(.tmp 14,.own 3 U0),(.tmp 15,.di),(.tmp 27,.dat .bool),(.tmp 28,.dat .bool),(.tmp 64,.dat .bool),(.tmp 67,.dat .bool),(.tmp 70,.di),(.tmp 71,.di),(.tmp 72,.dat .bool),(.tmp 75,.di),(.tmp 76,.di),(.tmp 77,.di),(.tmp 78,.di),(.tmp 79,.di),(.tmp 80,.dat .bool),(.tmp 83,.di),(.tmp 84,.own' 0),(.tmp 85,.di),(.tmp 86,.own' 0),(.tmp 87,.di),(.tmp 88,.di),(.tmp 89,.di),(.tmp 90,.own' 0),(.tmp 91,.di),(.tmp 92,.di),(.tmp 94,.di),(.tmp 95,.di),(.tmp 96,.dat .bool)]
abbrev AXy:AW:=[(.exit 4,[(.tmp 0,.di),(.tmp 6,.di),(.tmp 14,.own 3 U0),(.tmp 27,.dat .bool),(.tmp 28,.dat .bool),(.tmp 64,.dat .bool),(.tmp 67,.dat .bool),(.tmp 70,.di),(.tmp 71,.di),(.tmp 72,.dat .bool),(.tmp 75,.di),(.tmp 76,.di),(.tmp 77,.di),(.tmp 78,.di),(.tmp 79,.di),(.tmp 80,.dat .bool),(.tmp 83,.di),(.tmp 84,.own 3 U0),(.tmp 85,.di),(.tmp 86,.own' 1),(.tmp 87,.di),(.tmp 88,.di),(.tmp 89,.di),(.tmp 90,.own' 1),(.tmp 91,.di),(.tmp 92,.di),(.tmp 94,.di),(.tmp 95,.di),(.tmp 96,.dat .bool)])]
def Jn[Lk]:Vj→Option (Vj⊕(Int×Int×List Int×Bool×Bool×Bool×Bool×Int×Int×Bool×Int×Int×Int×Int×Int×Bool×Int×List Int×Int×Int×Int×Int×Int×Int×Int×Int×Bool×Unit)⊕Unit):=fun(a0,a1,a2,a3,a4,a5,a6,a7,a8,a9,a10,a11,a12,a13,a14,a15,a16,a17,a18,a19,a20,a21,a22,a23,a24,a25,a26,a27,_)=>
 match(ilt a4 (AH a1))with
 |true=>match rem? (IntKind.wrap .i64 (a2+a4)) (AH a1)with|none=>none|some x0=>match idx a1 x0 with|none=>none|some x1=>match(fits ((AH a3)+(AH ([(AJ a1 (AF x0) 0)]:List (Int)))))with
  |true=>some (.inl (a0,a1,a2,(Ai a3 ([(AJ a1 (AF x0) 0)]:List (Int))),(IntKind.wrap .i64 (a4+1)),a5,a6,a7,a8,a9,a10,a11,a12,a13,a14,a15,a16,a17,a18,a19,a20,a21,a22,a23,a24,a25,a26,a27,()))
  |false=>none
 |false=>some (.inr (.inl (a0,a2,a3,a5,a6,a7,a8,a9,a10,a11,a12,a13,a14,a15,a16,a17,a18,a1,a19,a20,a21,a22,a23,a24,a25,a26,a27,())))
abbrev AX2:AD:=[(.tmp 0,.di),(.tmp 1,.own 3 U0),(.tmp 5,.dat .bool),(.tmp 6,.di)]
abbrev AXz:AW:=[(.exit 2,[(.tmp 0,.di),(.tmp 1,.own 3 U0),(.tmp 5,.dat .bool)])]
def D3[Lk]:(Int×List Int×Bool×Int×Unit)→Option ((Int×List Int×Bool×Int×Unit)⊕(Int×List Int×Bool×Unit)⊕Unit):=fun(a0,a1,a2,a3,_)=>
 match(ilt a3 (AH a1))with
 |true=>match(!a2)with
  |true=>match idx a1 a3 with|none=>none|some x0=>match rem? (IntKind.wrap .i64 (a3+1)) (AH a1)with|none=>none|some x1=>match idx a1 x1 with|none=>none|some x2=>match rem? (IntKind.wrap .i64 (a3+2)) (AH a1)with|none=>none|some x3=>match idx a1 x3 with|none=>none|some x4=>match Pe (a0,(AJ a1 (AF a3) 0),())with|none=>none|some (y5,y6,y7,y8,_)=>match(ile 4 (AH a1))with
   |true=>match y8 with
    |true=>match y7 with
     |true=>match(ieq (AJ a1 (AF x1) 0) y6)with
      |true=>match ADL (a0,y6,y5,())with|none=>none|some (y9,_)=>match(ieq (AJ a1 (AF x3) 0) y9)with
       |true=>match rem? (IntKind.wrap .i64 ((IntKind.wrap .i64 (a3+(AH a1)))-1)) (AH a1)with|none=>none|some x10=>match idx a1 x10 with|none=>none|some x11=>match Ph (a0,(AJ a1 (AF x10) 0),y5,())with|none=>none|some (y12,_)=>match y12 with
        |true=>match AL Jn many (a0,a1,a3,([]:List (Int)),3,a2,(!a2),y8,y7,(AJ a1 (AF x1) 0),y6,(ieq (AJ a1 (AF x1) 0) y6),(AJ a1 (AF x3) 0),a0,y6,y5,y9,(ieq (AJ a1 (AF x3) 0) y9),a0,a3,(AH a1),(IntKind.wrap .i64 (a3+(AH a1))),(IntKind.wrap .i64 ((IntKind.wrap .i64 (a3+(AH a1)))-1)),(AH a1),x10,(AJ a1 (AF x10) 0),y5,y12,())with|none=>none|some r=>match r with
         |.inl (o13,o14,o15,o16,o17,o18,o19,o20,o21,o22,o23,o24,o25,o26,o27,o28,o29,o30,o31,o32,o33,o34,o35,o36,o37,o38,o39,_)=>some (.inl (o13,o15,true,(IntKind.wrap .i64 (o14+1)),()))
         |.inr _=>none
        |false=>some (.inl (a0,a1,a2,(IntKind.wrap .i64 (a3+1)),()))
       |false=>some (.inl (a0,a1,a2,(IntKind.wrap .i64 (a3+1)),()))
      |false=>some (.inl (a0,a1,a2,(IntKind.wrap .i64 (a3+1)),()))
     |false=>some (.inl (a0,a1,a2,(IntKind.wrap .i64 (a3+1)),()))
    |false=>some (.inl (a0,a1,a2,(IntKind.wrap .i64 (a3+1)),()))
   |false=>some (.inl (a0,a1,a2,(IntKind.wrap .i64 (a3+1)),()))
  |false=>some (.inr (.inl (a0,a1,a2,())))
 |false=>some (.inr (.inl (a0,a1,a2,())))
abbrev AX3:AD:=[(.tmp 0,.di),(.tmp 1,.own 3 U0)]
abbrev AX0:AW:=[(.ret,[(.tmp 4,.dat .bool)]),(.exit 0,[(.tmp 0,.di),(.tmp 1,.own 3 U0)])]
def NB[Lk]:(Int×List Int×Unit)→Option ((Int×List Int×Unit)⊕Uc⊕(Int×List Int×Unit)⊕Unit):=fun(a0,a1,_)=>
 match(ilt 1 (AH a1))with
 |true=>match AL D3 many (a0,a1,false,0,())with|none=>none|some r=>match r with
  |.inl (o0,o1,o2,_)=>match(!o2)with
   |true=>some (.inr (.inl (false,())))
   |false=>some (.inl (o0,o1,()))
  |.inr _=>none
 |false=>some (.inr (.inr (.inl (a0,a1,()))))
def Ws[Lk]:(Int×List Int×Unit)→Option (Uc):=fun(a0,a1,_)=>
 match(fits ((AH ([]:List (Int)))+(AH a1)))with
 |true=>match AL NB many (a0,(Ai ([]:List (Int)) a1),())with|none=>none|some r=>match r with
  |.inl (o0,_)=>some (o0,())
  |.inr r=>match r with
  |.inl (o1,o2,_)=>match(ieq (AH o2) 1)with
   |true=>match idx o2 0 with|none=>none|some x3=>match AFx (o1,(AJ o2 0 0),())with|none=>none|some (y4,_)=>some (y4,())
   |false=>some (false,())
  |.inr _=>none
 |false=>none
def AEj[Lk]:=fun v=>Lk.f (Ws v)
theorem ABe v:AEj v=Ws v:=AB _
abbrev AQR:AD:=[(.tmp 0,.dat U6),(.tmp 1,.di),(.tmp 5,.di)]
def IP[Lk]:Ub→Option (Ub⊕U8⊕(Unit)⊕Unit):=fun(a0,a1,a2,_)=>
 match(ilt a2 (AH a0))with
 |true=>match idx a0 a2 with|none=>none|some x0=>match(ieq x0 a1)with
  |true=>some (.inr (.inl (a2,())))
  |false=>some (.inl (a0,a1,(IntKind.wrap .i64 (a2+1)),()))
 |false=>some (.inr (.inr (.inl ())))
def R7[Lk]:Uh→Option (U8):=fun(a0,a1,_)=>
 match AL IP many (a0,a1,0,())with|none=>none|some r=>match r with
 |.inl (o0,_)=>some (o0,())
 |.inr r=>match r with
 |.inl _=>some ((-1:Int),())
 |.inr _=>none
def Km[Lk]:=fun v=>Lk.f (R7 v)
theorem XZ v:Km v=R7 v:=AB _
abbrev AP1:AD:=[(.tmp 0,.dat U6),(.tmp 3,.di)]
abbrev OR:AW:=[(.ret,[(.tmp 2,.dat .bool)]),(.exit 0,[])]
def Fq[Lk]:Uh→Option (Uh⊕Uc⊕(Unit)⊕Unit):=fun(a0,a1,_)=>
 match(ilt a1 (AH a0))with
 |true=>match idx a0 a1 with|none=>none|some x0=>match(ilt x0 0)with
  |true=>some (.inr (.inl (false,())))
  |false=>match idx a0 a1 with|none=>none|some x1=>match(ilt 10000 x1)with
  |true=>some (.inr (.inl (false,())))
  |false=>match CE a0 0 a1 with|none=>none|some x2=>match idx a0 a1 with|none=>none|some x3=>match Km (x2,x3,())with|none=>none|some (y4,_)=>match(ile 0 y4)with
  |true=>some (.inr (.inl (false,())))
  |false=>some (.inl (a0,(IntKind.wrap .i64 (a1+1)),()))
 |false=>some (.inr (.inr (.inl ())))
def R2[Lk]:Ua→Option (Uc):=fun(a0,_)=>
 match(ilt 1000 (AH a0))with
 |true=>some (false,())
 |false=>match AL Fq many (a0,0,())with|none=>none|some r=>match r with
 |.inl (o0,_)=>some (o0,())
 |.inr r=>match r with
 |.inl _=>some (true,())
 |.inr _=>none
def I5[Lk]:=fun v=>Lk.f (R2 v)
theorem XR v:I5 v=R2 v:=AB _
abbrev Gt:AD:=[(.tmp 0,.own 3 U0),(.tmp 1,.dat .bool)]
def YX[Lk]:Uh→Option ((List Int×Bool×Unit)):=fun(a0,a1,_)=>
 match Km (a0,a1,())with|none=>none|some (y0,_)=>match I5 (a0,())with|none=>none|some (y1,_)=>match(!y1)with
 |true=>some (([]:List (Int)),false,())
 |false=>match(ilt y0 0)with
 |true=>some (([]:List (Int)),false,())
 |false=>match CE a0 y0 (AH a0)with|none=>none|some x2=>match(fits ((AH ([]:List (Int)))+(AH x2)))with
 |true=>match CE a0 0 y0 with|none=>none|some x3=>match(fits ((AH (Ai ([]:List (Int)) x2))+(AH x3)))with
  |true=>some ((Ai (Ai ([]:List (Int)) x2) x3),true,())
  |false=>none
 |false=>none
def Se[Lk]:=fun v=>Lk.f (YX v)
theorem ACy v:Se v=YX v:=AB _
abbrev AQN:AW:=[(.exit 0,[(.tmp 0,.dat U6),(.tmp 3,.di)])]
def IM[Lk]:Ub→Option (Ub⊕Uh⊕Unit):=fun(a0,a1,a2,_)=>
 match(ilt a2 (AH a0))with
 |true=>match idx a0 a2 with|none=>none|some x0=>some (.inl (a0,(Bs a1 x0),(IntKind.wrap .i64 (a2+1)),()))
 |false=>some (.inr (.inl (a0,a1,())))
def R5[Lk]:Ua→Option (Ua):=fun(a0,_)=>
 match I5 (a0,())with|none=>none|some (y0,_)=>match(!y0)with
 |true=>some (([]:List (Int)),())
 |false=>match(ieq (AH a0) 0)with
 |true=>some (([]:List (Int)),())
 |false=>match idx a0 0 with|none=>none|some x1=>match AL IM many (a0,x1,0,())with|none=>none|some r=>match r with
 |.inl (o2,o3,_)=>match Se (o2,o3,())with|none=>none|some (y4,y5,_)=>some (y4,())
 |.inr _=>none
def P1[Lk]:=fun v=>Lk.f (R5 v)
theorem XW v:P1 v=R5 v:=AB _
abbrev ACh:AD:=[(.tmp 0,.dat Ue),(.tmp 1,.dat Ue)]
abbrev ARd:AD:=[(.tmp 0,.dat Ue),(.tmp 1,.dat Ue),(.tmp 5,.di)]
def F8[Lk]:(List U5×List U5×Int×Unit)→Option ((List U5×List U5×Int×Unit)⊕Uc⊕(Unit)⊕Unit):=fun(a0,a1,a2,_)=>
 match(ilt a2 (AH a0))with
 |true=>match idx a0 a2 with|none=>none|some x0=>match idx a1 a2 with|none=>none|some x1=>match Ov (x0,x1,())with|none=>none|some (y2,_)=>match(!y2)with
  |true=>some (.inr (.inl (false,())))
  |false=>some (.inl (a0,a1,(IntKind.wrap .i64 (a2+1)),()))
 |false=>some (.inr (.inr (.inl ())))
def SN[Lk]:(List U5×List U5×Unit)→Option (Uc):=fun(a0,a1,_)=>
 match(!(ieq (AH a0) (AH a1)))with
 |true=>some (false,())
 |false=>match AL F8 many (a0,a1,0,())with|none=>none|some r=>match r with
 |.inl (o0,_)=>some (o0,())
 |.inr r=>match r with
 |.inl _=>some (true,())
 |.inr _=>none
def QK[Lk]:=fun v=>Lk.f (SN v)
theorem X1 v:QK v=SN v:=AB _
abbrev NL:AD:=[(.tmp 0,.dat (.prod U0 (.prod Ue .unit)))]
abbrev APz:AD:=[(.tmp 1,.box 2),(.cell 0 0,.di),(.cell 0 1,.dat Ue),(.tmp 3,.own 4 .bool),(.tmp 4,.di),(.tmp 5,.di),(.tmp 6,.di),(.tmp 7,.dat U6),(.tmp 8,.di),(.tmp 44,.dat U6),(.tmp 45,.di),(.tmp 46,.dat .bool),(.tmp 49,.ptr' 0 0),(.tmp 50,.di),(.tmp 51,.dat U6),(.tmp 52,.dat .bool),(.tmp 53,.dat .bool),(.tmp 56,.dat U6),(.tmp 57,.dat U6),(.tmp 58,.own 36 U6),(.tmp 59,.dat U6),(.tmp 60,.own 36 U6),(.tmp 61,.dat .bool),(.tmp 62,.dat .bool),(.tmp 65,.dat U6),(.tmp 67,.di),(.tmp 68,.di),(.tmp 69,.dat .bool)]
abbrev APx:AW:=[(.ret,[(.tmp 2,.dat .bool)]),(.exit 2,[(.tmp 1,.box 2),(.cell 0 0,.di),(.cell 0 1,.dat Ue),(.tmp 3,.own 4 .bool),(.tmp 4,.di),(.tmp 5,.di),(.tmp 6,.di),(.tmp 44,.dat U6),(.tmp 45,.di),(.tmp 46,.dat .bool),(.tmp 49,.ptr' 0 0),(.tmp 50,.di),(.tmp 51,.dat U6),(.tmp 52,.dat .bool),(.tmp 53,.dat .bool),(.tmp 56,.dat U6),(.tmp 57,.dat U6),(.tmp 58,.own 36 U6),(.tmp 59,.dat U6),(.tmp 60,.own 36 U6),(.tmp 61,.dat .bool),(.tmp 62,.dat .bool),(.tmp 65,.dat U6),(.tmp 67,.di),(.tmp 68,.di),(.tmp 69,.dat .bool)])]
def Eh[Lk]:Vg→Option (Vg⊕Uc⊕(Int×List U5×List Bool×Int×Int×Int×List Int×Int×Bool×Int×List Int×Bool×Bool×List Int×List Int×List U5×List Int×List U5×Bool×Bool×List Int×Int×Int×Bool×Unit)⊕Unit):=fun(a0,a1,a2,a3,a4,a5,a6,a7,a8,a9,a10,a11,a12,a13,a14,a15,a16,a17,a18,a19,a20,a21,a22,a23,a24,a25,_)=>
 match(ilt a7 (AH a6))with
 |true=>match idx a6 a7 with|none=>none|some x0=>match(ilt x0 a0)with
  |true=>match idx a6 a7 with|none=>none|some x1=>match idx a2 x1 with|none=>none|some x2=>match(AJ a2 (AF x1) false)with
   |true=>some (.inr (.inl (false,())))
   |false=>match idx a6 a7 with|none=>none|some x3=>match idx a2 x3 with|none=>none|some x4=>some (.inl (a0,a1,(AX a2 (AF x3) true),a3,(IntKind.wrap .i64 (a4+1)),a5,a6,(IntKind.wrap .i64 (a7+1)),a8,a9,a10,a11,a12,a13,a14,a15,a16,a17,a18,a19,a20,a21,a22,a23,a24,a25,()))
  |false=>some (.inl (a0,a1,a2,a3,a4,a5,a6,(IntKind.wrap .i64 (a7+1)),a8,a9,a10,a11,a12,a13,a14,a15,a16,a17,a18,a19,a20,a21,a22,a23,a24,a25,()))
 |false=>some (.inr (.inr (.inl (a0,a1,a2,a3,a4,a5,a8,a9,a10,a11,a12,a13,a14,a15,a16,a17,a18,a19,a20,a21,a22,a23,a24,a25,()))))
abbrev AP0:AD:=[(.tmp 1,.box 2),(.cell 0 0,.di),(.cell 0 1,.dat Ue),(.tmp 3,.own 4 .bool),(.tmp 4,.di),(.tmp 5,.di),(.tmp 6,.di)]
abbrev APy:AW:=[(.ret,[(.tmp 2,.dat .bool)]),(.exit 0,[(.tmp 1,.box 2),(.cell 0 0,.di),(.cell 0 1,.dat Ue),(.tmp 5,.di)])]
def Ei[Lk]:(Int×List U5×List Bool×Int×Int×Int×Unit)→Option ((Int×List U5×List Bool×Int×Int×Int×Unit)⊕Uc⊕(Int×List U5×Int×Unit)⊕Unit):=fun(a0,a1,a2,a3,a4,a5,_)=>
 match(ilt a5 (AH a1))with
 |true=>match idx a1 a5 with|none=>none|some x0=>match I5 (x0,())with|none=>none|some (y1,_)=>match(!y1)with
  |true=>some (.inr (.inl (false,())))
  |false=>match(ieq (AH x0) 0)with
  |true=>some (.inr (.inl (false,())))
  |false=>match AEj (a0,x0,())with|none=>none|some (y2,_)=>match(!y2)with
  |true=>some (.inr (.inl (false,())))
  |false=>match P1 (x0,())with|none=>none|some (y3,_)=>match QK (([y3]:List U5),([x0]:List U5),())with|none=>none|some (y4,_)=>match(!y4)with
  |true=>some (.inr (.inl (false,())))
  |false=>match idx x0 0 with|none=>none|some x5=>match(ile x5 a3)with
  |true=>some (.inr (.inl (false,())))
  |false=>match idx x0 0 with|none=>none|some x6=>match AL Eh many (a0,a1,a2,x6,a4,a5,x0,0,x0,(AH x0),(ieq (AH x0) 0),a0,x0,y2,(!y2),x0,y3,([y3]:List U5),x0,([x0]:List U5),y4,(!y4),x0,x5,a3,(ile x5 a3),())with|none=>none|some r=>match r with
  |.inl (o7,_)=>some (.inr (.inl (o7,())))
  |.inr r=>match r with
  |.inl (o8,o9,o10,o11,o12,o13,o14,o15,o16,o17,o18,o19,o20,o21,o22,o23,o24,o25,o26,o27,o28,o29,o30,o31,_)=>some (.inl (o8,o9,o10,o11,o12,(IntKind.wrap .i64 (o13+1)),()))
  |.inr _=>none
 |false=>some (.inr (.inr (.inl (a0,a1,a4,()))))
def R1[Lk]:(Uo×Unit)→Option (Uc):=fun(a0,_)=>
 match(ilt a0.1 1)with
 |true=>some (false,())
 |false=>match(ilt 64 a0.1)with
 |true=>some (false,())
 |false=>match(ilt a0.1 (AH a0.2.1))with
 |true=>some (false,())
 |false=>match(Bq a0.1&&Bq a0.1&&ile a0.1 a0.1&&true)with
 |true=>match AL Ei many (a0.1,a0.2.1,(Cb (AF a0.1) false),(-1:Int),(0:Int),(0:Int),())with|none=>none|some r=>match r with
  |.inl (o0,_)=>some (o0,())
  |.inr r=>match r with
  |.inl (o1,o2,o3,_)=>some ((ieq o3 o1),())
  |.inr _=>none
 |false=>none
def Pv[Lk]:=fun v=>Lk.f (R1 v)
theorem XQ v:Pv v=R1 v:=AB _
abbrev AQQ:AD:=[(.tmp 1,.di),(.tmp 2,.box 2),(.cell 0 0,.di),(.cell 0 1,.dat Ue),(.tmp 5,.di)]
def IN[Lk]:(Int×Int×List U5×Int×Unit)→Option ((Int×Int×List U5×Int×Unit)⊕U8⊕(Unit)⊕Unit):=fun(a0,a1,a2,a3,_)=>
 match(ilt a3 (AH a2))with
 |true=>match idx a2 a3 with|none=>none|some x0=>match Km (x0,a0,())with|none=>none|some (y1,_)=>match(ile 0 y1)with
  |true=>some (.inr (.inl (a3,())))
  |false=>some (.inl (a0,a1,a2,(IntKind.wrap .i64 (a3+1)),()))
 |false=>some (.inr (.inr (.inl ())))
def R6[Lk]:(Uo×Int×Unit)→Option (U8):=fun(a0,a1,_)=>
 match AL IN many (a1,a0.1,a0.2.1,0,())with|none=>none|some r=>match r with
 |.inl (o0,_)=>some (o0,())
 |.inr r=>match r with
 |.inl _=>some ((-1:Int),())
 |.inr _=>none
def Kl[Lk]:=fun v=>Lk.f (R6 v)
theorem XY v:Kl v=R6 v:=AB _
abbrev AUq:AD:=[(.tmp 0,.dat Ue),(.tmp 1,.dat U6)]
abbrev WD:AD:=[(.tmp 0,.own 36 U6)]
abbrev Aeh:AD:=[(.tmp 0,.dat Ue),(.tmp 1,.own 3 U0),(.tmp 5,.di)]
abbrev Aeg:AW:=[(.exit 0,[(.tmp 0,.dat Ue),(.tmp 1,.own 3 U0),(.tmp 5,.di)])]
def L0[Lk]:(List U5×List Int×Int×Unit)→Option ((List U5×List Int×Int×Unit)⊕(List U5×List Int×Int×Unit)⊕Unit):=fun(a0,a1,a2,_)=>
 match(ilt a2 (AH a0))with
 |true=>match idx a0 a2 with|none=>none|some x0=>match idx x0 0 with|none=>none|some x1=>match idx a1 0 with|none=>none|some x2=>match(ilt x1 (AJ a1 0 0))with
  |true=>some (.inl (a0,a1,(IntKind.wrap .i64 (a2+1)),()))
  |false=>some (.inr (.inl (a0,a1,a2,())))
 |false=>some (.inr (.inl (a0,a1,a2,())))
def AFN[Lk]:(List U5×List Int×Unit)→Option (V3):=fun(a0,a1,_)=>
 match P1 (a1,())with|none=>none|some (y0,_)=>match AL L0 many (a0,y0,0,())with|none=>none|some r=>match r with
 |.inl (o1,o2,o3,_)=>match CE o1 0 o3 with|none=>none|some x4=>match(fits ((AH ([]:List U5))+(AH x4)))with
  |true=>match(fits ((AH (Ai ([]:List U5) x4))+(AH ([o2]:List U5))))with
   |true=>match CE o1 o3 (AH o1)with|none=>none|some x5=>match(fits ((AH (Ai (Ai ([]:List U5) x4) ([o2]:List U5)))+(AH x5)))with
    |true=>some ((Ai (Ai (Ai ([]:List U5) x4) ([o2]:List U5)) x5),())
    |false=>none
   |false=>none
  |false=>none
 |.inr _=>none
def AJi[Lk]:=fun v=>Lk.f (AFN v)
theorem AJh v:AJi v=AFN v:=AB _
abbrev TA:AD:=[(.tmp 0,.dat Ue),(.tmp 1,.di)]
def Lh[Lk]:(List U5×Int×Unit)→Option (V3):=fun(a0,a1,_)=>
 match CE a0 0 a1 with|none=>none|some x0=>match(fits ((AH ([]:List U5))+(AH x0)))with
 |true=>match CE a0 (IntKind.wrap .i64 (a1+1)) (AH a0)with|none=>none|some x1=>match(fits ((AH (Ai ([]:List U5) x0))+(AH x1)))with
  |true=>some ((Ai (Ai ([]:List U5) x0) x1),())
  |false=>none
 |false=>none
def Fg[Lk]:=fun v=>Lk.f (Lh v)
theorem PT v:Fg v=Lh v:=AB _
abbrev J1:AD:=[(.tmp 0,.dat (.prod U0 (.prod Ue .unit))),(.tmp 1,.di),(.tmp 2,.di)]
abbrev QL:AD:=[(.tmp 0,.di),(.tmp 1,.dat Ue),(.tmp 2,.di)]
def J3[Lk]:(Uo×Int×Int×Unit)→Option ((Int×List U5×Int×Unit)):=fun(a0,a1,a2,_)=>
 match Pv ((a0.1,(a0.2.1,())),())with|none=>none|some (y0,_)=>match(!y0)with
 |true=>some (a0.1,a0.2.1,1,())
 |false=>match AFx (a0.1,a1,())with|none=>none|some (y1,_)=>match(!y1)with
 |true=>some (a0.1,a0.2.1,10,())
 |false=>match AFx (a0.1,a2,())with|none=>none|some (y2,_)=>match(!y2)with
 |true=>some (a0.1,a0.2.1,10,())
 |false=>match Kl ((a0.1,(a0.2.1,())),a1,())with|none=>none|some (y3,_)=>match Kl ((a0.1,(a0.2.1,())),a2,())with|none=>none|some (y4,_)=>match(ieq y3 y4)with
 |true=>some (a0.1,a0.2.1,5,())
 |false=>match Kl ((a0.1,(a0.2.1,())),a1,())with|none=>none|some (y5,_)=>match Kl ((a0.1,(a0.2.1,())),a2,())with|none=>none|some (y6,_)=>match idx a0.2.1 y5 with|none=>none|some x7=>match Se (x7,a1,())with|none=>none|some (y8,y9,_)=>match idx a0.2.1 y6 with|none=>none|some x10=>match Se (x10,a2,())with|none=>none|some (y11,y12,_)=>match ADL (a0.1,a1,a2,())with|none=>none|some (y13,_)=>match(fits ((AH ([a1,y13]:List (Int)))+(AH y11)))with
 |true=>match ADL (a0.1,a2,a1,())with|none=>none|some (y14,_)=>match(fits ((AH (Ai ([a1,y13]:List (Int)) y11))+(AH ([y14]:List (Int)))))with
  |true=>match CE y8 1 (AH y8)with|none=>none|some x15=>match(fits ((AH (Ai (Ai ([a1,y13]:List (Int)) y11) ([y14]:List (Int))))+(AH (Eo 1 (AF (AH x15)) y8))))with
   |true=>match Fg (a0.2.1,(imax y5 y6),())with|none=>none|some (y16,_)=>match Fg (y16,(Bs y5 y6),())with|none=>none|some (y17,_)=>match AJi (y17,(Ai (Ai (Ai ([a1,y13]:List (Int)) y11) ([y14]:List (Int))) (Eo 1 (AF (AH x15)) y8)),())with|none=>none|some (y18,_)=>some (a0.1,y18,0,())
   |false=>none
  |false=>none
 |false=>none
def Oh[Lk]:=fun v=>Lk.f (J3 v)
theorem J2 v:Oh v=J3 v:=AB _
abbrev DT:AD:=[(.tmp 0,.dat (.prod U0 (.prod Ue .unit))),(.tmp 1,.dat Vb)]
abbrev API:AD:=[(.tmp 1,.dat Vb),(.tmp 2,.box 2),(.cell 0 0,.di),(.cell 0 1,.dat Ue),(.tmp 5,.di)]
def ID[Lk]:(List U3×Int×List U5×Int×Unit)→Option ((List U3×Int×List U5×Int×Unit)⊕U8⊕(Unit)⊕Unit):=fun(a0,a1,a2,a3,_)=>
 match(ilt a3 (AH a0))with
 |true=>match idx a0 a3 with|none=>none|some x0=>match(ilt x0.1 0)with
  |true=>some (.inr (.inl (10,())))
  |false=>match idx a0 a3 with|none=>none|some x1=>match(ile a1 x1.1)with
  |true=>some (.inr (.inl (10,())))
  |false=>match idx a0 a3 with|none=>none|some x2=>match(ilt x2.2.1 0)with
  |true=>some (.inr (.inl (10,())))
  |false=>match idx a0 a3 with|none=>none|some x3=>match(ile a1 x3.2.1)with
  |true=>some (.inr (.inl (10,())))
  |false=>some (.inl (a0,a1,a2,(IntKind.wrap .i64 (a3+1)),()))
 |false=>some (.inr (.inr (.inl ())))
def Rp[Lk]:(Uo×List U3×Unit)→Option (U8):=fun(a0,a1,_)=>
 match Pv ((a0.1,(a0.2.1,())),())with|none=>none|some (y0,_)=>match(!y0)with
 |true=>some (1,())
 |false=>match AL ID many (a1,a0.1,a0.2.1,0,())with|none=>none|some r=>match r with
 |.inl (o1,_)=>some (o1,())
 |.inr r=>match r with
 |.inl _=>some (0,())
 |.inr _=>none
def Vx[Lk]:=fun v=>Lk.f (Rp v)
theorem Wz v:Vx v=Rp v:=AB _
abbrev Hu:AD:=[(.tmp 0,.dat (.prod U0 (.prod Ue .unit))),(.tmp 1,.own 4 .bool),(.tmp 2,.di)]
abbrev BE:List RS:=[.one,.one,.one]
abbrev ARg:AD:=[(.tmp 1,.dat Vb),(.tmp 2,.box 2),(.cell 0 0,.di),(.cell 0 1,.dat Ue),(.tmp 4,.box 2),(.cell 1 0,.di),(.cell 1 1,.nil U6),(.tmp 8,.own 4 .bool),(.tmp 9,.di)]
abbrev ARf:AW:=[(.exit 0,[(.tmp 2,.box 2),(.cell 0 0,.di),(.cell 0 1,.dat Ue),(.tmp 4,.box 2),(.cell 1 0,.di),(.cell 1 1,.nil U6),(.tmp 8,.own 4 .bool)])]
def IW[Lk]:(List U3×Int×List U5×Int×List Bool×Int×Unit)→Option ((List U3×Int×List U5×Int×List Bool×Int×Unit)⊕(Int×List U5×Int×List Bool×Unit)⊕Unit):=fun(a0,a1,a2,a3,a4,a5,_)=>
 match(ilt a5 (AH a0))with
 |true=>match idx a0 a5 with|none=>none|some x0=>match idx a0 a5 with|none=>none|some x1=>match Oh ((a1,(a2,())),x0.1,x1.2.1,())with|none=>none|some (y2,y3,y4,_)=>match(fits ((AH a4)+(AH ([(ieq y4 0)]:List (Bool)))))with
  |true=>some (.inl (a0,y2,y3,a3,(Ai a4 ([(ieq y4 0)]:List (Bool))),(IntKind.wrap .i64 (a5+1)),()))
  |false=>none
 |false=>some (.inr (.inl (a1,a2,a3,a4,())))
def SO[Lk]:(Uo×List U3×Unit)→Option ((Uo×List Bool×Int×Unit)):=fun(a0,a1,_)=>
 match Vx ((a0.1,(a0.2.1,())),a1,())with|none=>none|some (y0,_)=>match(!(ieq y0 0))with
 |true=>some ((a0.1,(a0.2.1,())),([]:List (Bool)),y0,())
 |false=>match AL IW many (a1,a0.1,a0.2.1,0,([]:List (Bool)),0,())with|none=>none|some r=>match r with
 |.inl (o1,o2,o3,o4,_)=>some ((o1,(o2,())),o4,0,())
 |.inr _=>none
def WH[Lk]:=fun v=>Lk.f (SO v)
theorem X2 v:WH v=SO v:=AB _
def ARI[Lk]:(Int×List U3×Unit)→Option ((Uo×Int×Unit)):=fun(a0,a1,_)=>
 match Xx (a0,())with|none=>none|some (y0,y1,y2,_)=>match(!(ieq y2 0))with
 |true=>some ((0,(([]:List U5),())),y2,())
 |false=>match WH ((y0,(y1,())),a1,())with|none=>none|some (y3,y4,y5,_)=>match(!(ieq y5 0))with
 |true=>some ((0,(([]:List U5),())),y5,())
 |false=>some ((y3.1,(y3.2.1,())),0,())
def Akk[Lk]:=fun v=>Lk.f (ARI v)
theorem AVT v:Akk v=ARI v:=AB _
abbrev AO4:AD:=[(.tmp 1,.di),(.tmp 2,.box 2),(.cell 0 0,.di),(.cell 0 1,.dat Uy),(.tmp 5,.own 88 U4),(.tmp 6,.di)]
def IA[Lk]:(Int×Int×List U1×List U3×Int×Unit)→Option ((Int×Int×List U1×List U3×Int×Unit)⊕Ux⊕Unit):=fun(a0,a1,a2,a3,a4,_)=>
 match(ilt a4 (AH a2))with
 |true=>match idx a2 a4 with|none=>none|some x0=>match x0.2.2.2.1 with
  |true=>match idx a2 a4 with|none=>none|some x1=>match(ile a0 x1.2.2.1)with
   |true=>match idx a2 a4 with|none=>none|some x2=>match idx a2 a4 with|none=>none|some x3=>match(fits ((AH a3)+(AH ([(x2.1,(x3.2.1,()))]:List U3))))with
    |true=>some (.inl (a0,a1,a2,(Ai a3 ([(x2.1,(x3.2.1,()))]:List U3)),(IntKind.wrap .i64 (a4+1)),()))
    |false=>none
   |false=>some (.inl (a0,a1,a2,a3,(IntKind.wrap .i64 (a4+1)),()))
  |false=>some (.inl (a0,a1,a2,a3,(IntKind.wrap .i64 (a4+1)),()))
 |false=>some (.inr (.inl (a3,())))
def Rl[Lk]:(Uf×Int×Unit)→Option (Ux):=fun(a0,a1,_)=>
 match AL IA many (a1,a0.1,a0.2.1,([]:List U3),0,())with|none=>none|some r=>match r with
 |.inl (o0,_)=>some (o0,())
 |.inr _=>none
def Vt[Lk]:=fun v=>Lk.f (Rl v)
theorem Wr v:Vt v=Rl v:=AB _
def PA[Lk]:(Uf×Int×Unit)→Option ((Uo×Int×Unit)):=fun(a0,a1,_)=>
 match HQ ((a0.1,(a0.2.1,())),())with|none=>none|some (y0,_)=>match(!y0)with
 |true=>some ((0,(([]:List U5),())),1,())
 |false=>match Vt ((a0.1,(a0.2.1,())),a1,())with|none=>none|some (y1,_)=>match Akk (a0.1,y1,())with|none=>none|some (y2,y3,_)=>some ((y2.1,(y2.2.1,())),y3,())
def Qp[Lk]:=fun v=>Lk.f (PA v)
theorem Tn v:Qp v=PA v:=AB _
abbrev Q8:AD:=[(.tmp 0,.dat V6),(.tmp 1,.di)]
def Q9[Lk]:Uh→Option (U8):=fun(a0,a1,_)=>
 match(ilt a1 0)with
 |true=>some (0,())
 |false=>match(ieq (AH a0) 0)with
 |true=>some (0,())
 |false=>match rem? a1 (AH a0)with|none=>none|some x0=>match idx a0 x0 with|none=>none|some x1=>some (x1,())
def Sn[Lk]:=fun v=>Lk.f (Q9 v)
theorem Sm v:Sn v=Q9 v:=AB _
def AOt[Lk]:U8→Option (U8):=fun(a0,_)=>
 match(ieq a0 0)with
 |true=>some (32,())
 |false=>match shr? .u32 (IntKind.wrap .u32 ((IntKind.wrap .u32 ((BitVec.ofInt (IntKind.bits .u32) a0 &&& BitVec.ofInt (IntKind.bits .u32) (IntKind.wrap .u32 (0-a0))).toNat))*125613361)) 27 with|none=>none|some x0=>match(ile 0 x0&&(ilt x0 32&&ilt x0 (AH ALI)))with
 |true=>some ((IntKind.wrap .i64 (AJ ALI (AF x0) 0)),())
 |false=>none
def AXo[Lk]:=fun v=>Lk.f (AOt v)
theorem AUJ v:AXo v=AOt v:=AB _
def Ss[Lk]:U8→Option (U8):=fun(a0,_)=>
 match AXo (a0,())with|none=>none|some (y0,_)=>some ((Bs (IntKind.wrap .i64 (y0+1)) 8),())
def WS[Lk]:=fun v=>Lk.f (Ss v)
theorem Yv v:WS v=Ss v:=AB _
def Wg[Lk]:U8→Option (Uc):=fun(a0,_)=>
 match(ile 1 a0)with
 |true=>some ((ile a0 8),())
 |false=>some (false,())
def AEe[Lk]:=fun v=>Lk.f (Wg v)
theorem ABZ v:AEe v=Wg v:=AB _
abbrev GV:AD:=[(.tmp 0,.dat U6),(.tmp 1,.clo 129 [])]
abbrev YJ:AD:=[(.tmp 0,.dat U6),(.tmp 1,.clo 129 []),(.tmp 7,.di),(.tmp 8,.di)]
def Dq[Lk]:Ub→Option (Ub⊕U8⊕(Unit)⊕Unit):=fun(a0,a1,a2,_)=>
 match(ilt a2 a1)with
 |true=>match idx a0 a2 with|none=>none|some x0=>match AEe (x0,())with|none=>none|some (y1,_)=>match(!y1)with
  |true=>some (.inr (.inl (a2,())))
  |false=>some (.inl (a0,a1,(IntKind.wrap .i64 (a2+1)),()))
 |false=>some (.inr (.inr (.inl ())))
def Je[Lk]:Ua→Option (U8):=fun(a0,_)=>
 match AL Dq many (a0,(AH a0),0,())with|none=>none|some r=>match r with
 |.inl (o0,_)=>some (o0,())
 |.inr r=>match r with
 |.inl _=>some ((-1:Int),())
 |.inr _=>none
def MK[Lk]:=fun v=>Lk.f (Je v)
theorem MJ v:MK v=Je v:=AB _
abbrev I1:AD:=[(.tmp 0,.dat U6),(.tmp 1,.dat V6)]
abbrev AEf:AD:=[(.tmp 1,.dat V6),(.tmp 5,.own 3 U0),(.tmp 8,.dat U6),(.tmp 9,.di),(.tmp 10,.di)]
abbrev PY:AW:=[(.exit 0,[(.tmp 5,.own 3 U0)])]
def E1[Lk]:Vd→Option (Vd⊕Ua⊕Unit):=fun(a0,a1,a2,a3,a4,_)=>
 match(ilt a4 a3)with
 |true=>match idx a2 a4 with|none=>none|some x0=>match(ilt x0 0)with
  |true=>match(fits ((AH a1)+(AH ([1]:List (Int)))))with
   |true=>some (.inl (a0,(Ai a1 ([1]:List (Int))),a2,a3,(IntKind.wrap .i64 (a4+1)),()))
   |false=>none
  |false=>match Sn (a0,x0,())with|none=>none|some (y1,_)=>match WS (y1,())with|none=>none|some (y2,_)=>match(fits ((AH a1)+(AH ([y2]:List (Int)))))with
  |true=>some (.inl (a0,(Ai a1 ([y2]:List (Int))),a2,a3,(IntKind.wrap .i64 (a4+1)),()))
  |false=>none
 |false=>some (.inr (.inl (a1,())))
def Lo[Lk]:Vc→Option (Ua):=fun(a0,a1,_)=>
 match AL E1 many (a1,([]:List (Int)),a0,(AH a0),0,())with|none=>none|some r=>match r with
 |.inl (o0,_)=>some (o0,())
 |.inr _=>none
def NA[Lk]:=fun v=>Lk.f (Lo v)
theorem PZ v:NA v=Lo v:=AB _
def ATH[Lk]:Uh→Option (U8):=fun(a0,a1,_)=>
 match(ilt a1 0)with
 |true=>some (0,())
 |false=>match(ieq (AH a0) 0)with
 |true=>some (0,())
 |false=>match rem? a1 (AH a0)with|none=>none|some x0=>match idx a0 x0 with|none=>none|some x1=>some (x1,())
def AmG[Lk]:=fun v=>Lk.f (ATH v)
theorem AWR v:AmG v=ATH v:=AB _
abbrev AWO:AD:=[(.tmp 0,.dat Uj),(.tmp 1,.di)]
def AGw[Lk]:U3→Option (U8):=fun(a0,a1,_)=>
 match(ilt a1 0)with
 |true=>some (0,())
 |false=>match(ilt 31 a1)with
 |true=>some (0,())
 |false=>match shr? .u32 a0 (IntKind.wrap .u64 a1)with|none=>none|some x0=>some ((IntKind.wrap .u32 ((BitVec.ofInt (IntKind.bits .u32) x0 &&& BitVec.ofInt (IntKind.bits .u32) 1).toNat)),())
def AWP[Lk]:=fun v=>Lk.f (AGw v)
theorem AMV v:AWP v=AGw v:=AB _
abbrev ALB:AD:=[(.tmp 0,.dat Uj),(.tmp 3,.di)]
def C7[Lk]:U3→Option (U3⊕U8⊕Unit):=fun(a0,a1,_)=>
 match(ilt a1 8)with
 |true=>match AWP (a0,(IntKind.wrap .i64 (a1-1)),())with|none=>none|some (y0,_)=>match(ieq y0 0)with
  |true=>some (.inl (a0,(IntKind.wrap .i64 (a1+1)),()))
  |false=>some (.inr (.inl (a1,())))
 |false=>some (.inr (.inl (a1,())))
def O7[Lk]:U8→Option (U8):=fun(a0,_)=>
 match AL C7 many (a0,1,())with|none=>none|some r=>match r with
 |.inl (o0,_)=>some (o0,())
 |.inr _=>none
def Qj[Lk]:=fun v=>Lk.f (O7 v)
theorem Tl v:Qj v=O7 v:=AB _
abbrev AF6:AD:=[(.tmp 0,.dat U6),(.tmp 1,.dat V6),(.tmp 5,.own 3 U0),(.tmp 6,.di)]
def FJ[Lk]:(List Int×List Int×List Int×Int×Unit)→Option ((List Int×List Int×List Int×Int×Unit)⊕Ua⊕Unit):=fun(a0,a1,a2,a3,_)=>
 match(ilt a3 (AH a0))with
 |true=>match idx a0 a3 with|none=>none|some x0=>match(ile 0 x0)with
  |true=>match idx a0 a3 with|none=>none|some x1=>match AmG (a1,x1,())with|none=>none|some (y2,_)=>match Qj (y2,())with|none=>none|some (y3,_)=>match(fits ((AH a2)+(AH ([y3]:List (Int)))))with
   |true=>some (.inl (a0,a1,(Ai a2 ([y3]:List (Int))),(IntKind.wrap .i64 (a3+1)),()))
   |false=>none
  |false=>match(fits ((AH a2)+(AH ([1]:List (Int)))))with
  |true=>some (.inl (a0,a1,(Ai a2 ([1]:List (Int))),(IntKind.wrap .i64 (a3+1)),()))
  |false=>none
 |false=>some (.inr (.inl (a2,())))
def MO[Lk]:Vc→Option (Ua):=fun(a0,a1,_)=>
 match AL FJ many (a0,a1,([]:List (Int)),0,())with|none=>none|some r=>match r with
 |.inl (o0,_)=>some (o0,())
 |.inr _=>none
def Nb[Lk]:=fun v=>Lk.f (MO v)
theorem Qi v:Nb v=MO v:=AB _
abbrev Nn:AD:=[(.tmp 0,.own 3 U0),(.tmp 1,.own 3 U0),(.tmp 2,.own 36 U6),(.tmp 3,.di)]
abbrev H3:List RS:=[.agg 3,.one]
abbrev AS9:AD:=[(.tmp 1,.dat U6),(.tmp 4,.box 3),(.cell 0 0,.nil U0),(.cell 0 1,.nil U0),(.cell 0 2,.nil U6),(.tmp 6,.di),(.tmp 8,.box 3),(.cell 1 0,.own 3 U0),(.cell 1 1,.own 3 U0),(.cell 1 2,.own 36 U6),(.tmp 9,.di),(.tmp 10,.own 3 U0),(.tmp 11,.di),(.tmp 12,.di)]
abbrev AS5:AW:=[(.exit 6,[(.tmp 1,.dat U6),(.tmp 4,.box 3),(.cell 0 0,.nil U0),(.cell 0 1,.nil U0),(.cell 0 2,.nil U6),(.tmp 6,.di),(.tmp 8,.box 3),(.cell 1 0,.own 3 U0),(.cell 1 1,.own 3 U0),(.cell 1 2,.own 36 U6),(.tmp 9,.di),(.tmp 10,.own 3 U0),(.tmp 11,.di),(.tmp 12,.di)])]
def Io[Lk]:(List Int×Int×List Int×List Int×List U5×Int×List Int×Int×Int×Unit)→Option ((List Int×Int×List Int×List Int×List U5×Int×List Int×Int×Int×Unit)⊕(List Int×Int×List Int×List Int×List U5×Int×List Int×Int×Int×Unit)⊕Unit):=fun(a0,a1,a2,a3,a4,a5,a6,a7,a8,_)=>
 match rem? (IntKind.wrap .i64 (a5+a8)) a1 with|none=>none|some x0=>match idx a0 x0 with|none=>none|some x1=>match(ile x1 a7)with
 |true=>some (.inl (a0,a1,a2,a3,a4,a5,a6,a7,(IntKind.wrap .i64 (a8+1)),()))
 |false=>some (.inr (.inl (a0,a1,a2,a3,a4,a5,a6,a7,a8,())))
abbrev ATA:AD:=[(.tmp 1,.dat U6),(.tmp 4,.box 3),(.cell 0 0,.nil U0),(.cell 0 1,.nil U0),(.cell 0 2,.nil U6),(.tmp 6,.di),(.tmp 8,.box 3),(.cell 1 0,.own 3 U0),(.cell 1 1,.own 3 U0),(.cell 1 2,.own 36 U6),(.tmp 9,.di),(.tmp 10,.own 3 U0),(.tmp 11,.di)]
abbrev AS6:AW:=[(.exit 4,[(.tmp 1,.dat U6),(.tmp 4,.box 3),(.cell 0 0,.nil U0),(.cell 0 1,.nil U0),(.cell 0 2,.nil U6),(.tmp 6,.di),(.tmp 8,.box 3),(.cell 1 0,.own 3 U0),(.cell 1 1,.own 3 U0),(.cell 1 2,.own 36 U6),(.tmp 9,.di),(.tmp 10,.own 3 U0)])]
def GK[Lk]:(List Int×Int×List Int×List Int×List U5×Int×List Int×Int×Unit)→Option ((List Int×Int×List Int×List Int×List U5×Int×List Int×Int×Unit)⊕(List Int×Int×List Int×List Int×List U5×Int×List Int×Unit)⊕Unit):=fun(a0,a1,a2,a3,a4,a5,a6,a7,_)=>
 match idx a0 a5 with|none=>none|some x0=>match(ilt a7 x0)with
 |true=>match AL Io many (a0,a1,a2,a3,a4,a5,a6,a7,1,())with|none=>none|some r=>match r with
  |.inl (o1,o2,o3,o4,o5,o6,o7,o8,o9,_)=>match rem? (IntKind.wrap .i64 (o6+o9)) o2 with|none=>none|some x10=>match(fits ((AH o7)+(AH ([x10]:List (Int)))))with
   |true=>some (.inl (o1,o2,o3,o4,o5,o6,(Ai o7 ([x10]:List (Int))),(IntKind.wrap .i64 (o8+1)),()))
   |false=>none
  |.inr _=>none
 |false=>some (.inr (.inl (a0,a1,a2,a3,a4,a5,a6,())))
abbrev ATB:AD:=[(.tmp 1,.dat U6),(.tmp 4,.box 3),(.cell 0 0,.nil U0),(.cell 0 1,.nil U0),(.cell 0 2,.nil U6),(.tmp 6,.di),(.tmp 8,.box 3),(.cell 1 0,.own 3 U0),(.cell 1 1,.own 3 U0),(.cell 1 2,.own 36 U6),(.tmp 9,.di)]
abbrev AS7:AW:=[(.exit 2,[(.tmp 4,.box 3),(.cell 0 0,.nil U0),(.cell 0 1,.nil U0),(.cell 0 2,.nil U6),(.tmp 8,.box 3),(.cell 1 0,.own 3 U0),(.cell 1 1,.own 3 U0),(.cell 1 2,.own 36 U6)])]
def Ip[Lk]:(List Int×Int×List Int×List Int×List U5×Int×Unit)→Option ((List Int×Int×List Int×List Int×List U5×Int×Unit)⊕(List Int×List Int×List U5×Unit)⊕Unit):=fun(a0,a1,a2,a3,a4,a5,_)=>
 match(ilt a5 a1)with
 |true=>match AL GK many (a0,a1,a2,a3,a4,a5,([]:List (Int)),0,())with|none=>none|some r=>match r with
  |.inl (o0,o1,o2,o3,o4,o5,o6,_)=>match(fits ((AH o4)+(AH ([o6]:List U5))))with
   |true=>some (.inl (o0,o1,o2,o3,(Ai o4 ([o6]:List U5)),(IntKind.wrap .i64 (o5+1)),()))
   |false=>none
  |.inr _=>none
 |false=>some (.inr (.inl (a2,a3,a4,())))
abbrev ATC:AD:=[(.tmp 0,.dat U6),(.tmp 1,.dat U6),(.tmp 4,.box 3),(.cell 0 0,.nil U0),(.cell 0 1,.nil U0),(.cell 0 2,.nil U6),(.tmp 6,.di),(.tmp 7,.di)]
abbrev AS8:AW:=[(.ret,[(.tmp 4,.box 3),(.cell 0 0,.nil U0),(.cell 0 1,.nil U0),(.cell 0 2,.nil U6),(.tmp 5,.di)]),(.exit 0,[(.tmp 0,.dat U6),(.tmp 1,.dat U6),(.tmp 4,.box 3),(.cell 0 0,.nil U0),(.cell 0 1,.nil U0),(.cell 0 2,.nil U6),(.tmp 6,.di)])]
def Iq[Lk]:Va→Option (Va⊕U8⊕(List Int×List Int×Int×Unit)⊕Unit):=fun(a0,a1,a2,a3,_)=>
 match(ilt a3 a2)with
 |true=>match idx a1 a3 with|none=>none|some x0=>match(ilt x0 1)with
  |true=>some (.inr (.inl (1,())))
  |false=>match idx a1 a3 with|none=>none|some x1=>match(ilt 8 x1)with
  |true=>some (.inr (.inl (1,())))
  |false=>some (.inl (a0,a1,a2,(IntKind.wrap .i64 (a3+1)),()))
 |false=>some (.inr (.inr (.inl (a0,a1,a2,()))))
def Su[Lk]:Vc→Option ((List Int×List Int×List U5×Int×Unit)):=fun(a0,a1,_)=>
 match I5 (a0,())with|none=>none|some (y0,_)=>match(!y0)with
 |true=>some (([]:List (Int)),([]:List (Int)),([]:List U5),1,())
 |false=>match(ieq (AH a0) 0)with
 |true=>some (([]:List (Int)),([]:List (Int)),([]:List U5),1,())
 |false=>match(!(ieq (AH a1) (AH a0)))with
 |true=>some (([]:List (Int)),([]:List (Int)),([]:List U5),1,())
 |false=>match AL Iq many (a0,a1,(AH a0),0,())with|none=>none|some r=>match r with
 |.inl (o1,_)=>some (([]:List (Int)),([]:List (Int)),([]:List U5),o1,())
 |.inr r=>match r with
 |.inl (o2,o3,o4,_)=>match(fits ((AH ([]:List (Int)))+(AH o2)))with
  |true=>match(fits ((AH ([]:List (Int)))+(AH o3)))with
   |true=>match AL Ip many (o3,o4,(Ai ([]:List (Int)) o2),(Ai ([]:List (Int)) o3),([]:List U5),0,())with|none=>none|some r=>match r with
    |.inl (o5,o6,o7,_)=>some (o5,o6,o7,0,())
    |.inr _=>none
   |false=>none
  |false=>none
 |.inr _=>none
def WU[Lk]:=fun v=>Lk.f (Su v)
theorem Yy v:WU v=Su v:=AB _
abbrev AJL:AD:=[(.tmp 0,.dat V7),(.tmp 1,.dat V7)]
def XI[Lk]:(Uk×Uk×Unit)→Option (Uc):=fun(a0,a1,_)=>
 match Ov (a0.1,a1.1,())with|none=>none|some (y0,_)=>match y0 with
 |true=>match Ov (a0.2.1,a1.2.1,())with|none=>none|some (y1,_)=>match y1 with
  |true=>match QK (a0.2.2.1,a1.2.2.1,())with|none=>none|some (y2,_)=>some (y2,())
  |false=>some (false,())
 |false=>some (false,())
def AFB[Lk]:=fun v=>Lk.f (XI v)
theorem AB3 v:AFB v=XI v:=AB _
abbrev HX:AD:=[(.tmp 0,.own 88 U4),(.cap 1 0,.box 1),(.cell 1 0,.map U4 U0),(.tmp 1,.clo 191 [(1,0)])]
abbrev Qe:AD:=[(.obj 0,.own 88 U4),(.obj 1,.box 1),(.cell 1 0,.map U4 U0),(.obj 2,.map' 2),(.tmp 0,.di)]
abbrev AAa:AD:=[(.obj 0,.own 88 U4),(.obj 1,.box 1),(.cell 1 0,.map U4 U0),(.obj 2,.map' 2),(.tmp 0,.own' 0),(.tmp 1,.clo 191 [(1,0)]),(.tmp 7,.di),(.tmp 8,.di)]
abbrev AAZ:AW:=[(.ret,[(.obj 0,.own 88 U4),(.obj 1,.box 1),(.cell 1 0,.map U4 U0),(.obj 2,.map' 2),(.tmp 4,.di)]),(.exit 0,[(.obj 0,.own 88 U4),(.obj 1,.box 1),(.cell 1 0,.map U4 U0),(.obj 2,.map' 2)])]
def AAY[Lk]:(List U3×List (U3×Int)×Int×Int×Unit)→Option ((List U3×List (U3×Int)×Int×Int×Unit)⊕(List U3×List (U3×Int)×Int×Unit)⊕(List U3×List (U3×Int)×Unit)⊕Unit):=fun(a0,a1,a2,a3,_)=>
 match(ilt a3 a2)with
 |true=>match idx a0 a3 with|none=>none|some x0=>match(ieq ((AR a1 ((AJ a0 (AF a3) (0,(0,()))).1,((AJ a0 (AF a3) (0,(0,()))).2.1,()))).getD 0) 0)with
  |true=>some (.inr (.inl (a0,a1,a3,())))
  |false=>some (.inl (a0,a1,a2,(IntKind.wrap .i64 (a3+1)),()))
 |false=>some (.inr (.inr (.inl (a0,a1,()))))
def Qf[Lk]:(List U3×List (U3×Int)×Unit)→Option ((List U3×List (U3×Int)×Int×Unit)):=fun(a0,a1,_)=>
 match AL AAY many (a0,a1,(AH a0),0,())with|none=>none|some r=>match r with
 |.inl (o0,o1,o2,_)=>some (o0,o1,o2,())
 |.inr r=>match r with
 |.inl (o3,o4,_)=>some (o3,o4,(-1:Int),())
 |.inr _=>none
def O4[Lk]:=fun v=>Lk.f (Qf v)
theorem AAb v:O4 v=Qf v:=AB _
abbrev YT:AD:=[(.tmp 0,.dat U4),(.tmp 1,.dat U4)]
def YU[Lk]:(U3×U3×Unit)→Option (U8):=fun(a0,a1,_)=>
 match EX (a0.1,a1.1,())with|none=>none|some (y0,_)=>match EX (a0.2.1,a1.2.1,())with|none=>none|some (y1,_)=>match orI (([y0,y1]:List (Int)),())with|none=>none|some (y2,_)=>some (y2,())
def Ay[Lk]:=fun v=>Lk.f (YU v)
theorem ALJ v:Ay v=YU v:=AB _
abbrev HD:AD:=[(.tmp 0,.own 88 U4),(.tmp 1,.di),(.tmp 2,.di),(.tmp 3,.clo 108 [])]
abbrev Dp:AD:=[(.obj 0,.own 88 U4)]
abbrev AlJ:AD:=[(.obj 0,.own 88 U4),(.tmp 0,.own' 0),(.tmp 1,.di),(.tmp 2,.di),(.tmp 3,.clo 108 []),(.tmp 8,.di),(.tmp 9,.di)]
abbrev AlI:AW:=[(.exit 2,[(.obj 0,.own 88 U4),(.tmp 0,.own' 0),(.tmp 1,.di),(.tmp 2,.di),(.tmp 3,.clo 108 []),(.tmp 8,.di)])]
abbrev AlK:AD:=[(.obj 0,.own 88 U4),(.tmp 0,.own' 0),(.tmp 1,.di),(.tmp 2,.di),(.tmp 3,.clo 108 []),(.tmp 8,.di)]
abbrev AFw:AW:=[(.exit 0,[(.obj 0,.own 88 U4)])]
def AoF[Lk]:Ul→Option (Ux):=SV ((0,(0,())):U3) Ay
def ApD[Lk](v:Ul):Option (Ux):=Aad ((0,(0,())):U3) Ay v
theorem AlL v:ApD v=AoF v:=AB _
abbrev E5:AD:=[(.tmp 0,.own 88 U4),(.tmp 1,.di),(.tmp 2,.di),(.tmp 3,.di),(.tmp 4,.clo 108 [])]
abbrev Ad4:AD:=[(.obj 0,.own 88 U4),(.tmp 0,.own' 0),(.tmp 2,.di),(.tmp 3,.di),(.tmp 4,.clo 108 []),(.tmp 10,.di)]
abbrev Ad3:AW:=[(.exit 0,[(.obj 0,.own 88 U4)]),(.ret,[(.obj 0,.own 88 U4)])]
def Ajs[Lk]:Uv→Option (Ux):=NI ((0,(0,())):U3) Ay
def AmX[Lk](v:Uv):Option (Ux):=W7 ((0,(0,())):U3) Ay v
theorem Ad5 v:AmX v=Ajs v:=AB _
abbrev Ag0:AD:=[(.obj 0,.own 88 U4),(.tmp 0,.own' 0),(.tmp 3,.clo 108 []),(.tmp 8,.di),(.tmp 9,.di),(.tmp 12,.di)]
abbrev Agy:AW:=[(.exit 2,[(.obj 0,.own 88 U4)])]
abbrev Ag1:AD:=[(.obj 0,.own 88 U4),(.tmp 0,.own' 0),(.tmp 3,.clo 108 []),(.tmp 8,.di),(.tmp 9,.di),(.tmp 10,.di),(.tmp 11,.di)]
abbrev Agz:AW:=[(.exit 0,[(.obj 0,.own 88 U4),(.tmp 0,.own' 0),(.tmp 3,.clo 108 []),(.tmp 8,.di),(.tmp 9,.di),(.tmp 10,.di)])]
def AlU[Lk]:Ul→Option (Ux):=Nc ((0,(0,())):U3) Ay
def Amm[Lk](v:Ul):Option (Ux):=ACu ((0,(0,())):U3) Ay v
theorem Ag2 v:Amm v=AlU v:=AB _
abbrev AcE:AD:=[(.obj 0,.own 88 U4),(.tmp 0,.own' 0),(.tmp 1,.di),(.tmp 8,.di),(.tmp 9,.box 1),(.cell 1 0,.dat (.int .u64)),(.tmp 10,.dat (.int .u64)),(.tmp 11,.di)]
def AiE[Lk]:Ul→Option (Ux):=KI ((0,(0,())):U3) Ay
def AiG[Lk](v:Ul):Option (Ux):=Sv ((0,(0,())):U3) Ay v
theorem AcF v:AiG v=AiE v:=AB _
abbrev ACT:AD:=[(.tmp 0,.own 88 U4),(.tmp 1,.di),(.tmp 2,.di),(.tmp 3,.box 1),(.cell 1 0,.di),(.tmp 4,.clo 108 [])]
abbrev ACS:AD:=[(.obj 0,.own 88 U4),(.obj 1,.box 1),(.cell 1 0,.di),(.tmp 0,.di),(.tmp 1,.di)]
def AZp[Lk]:Uv→Option (Uv):=Hq ((0,(0,())):U3) Ay
def AVM[Lk](v:Uv):Option (Uv):=JA ((0,(0,())):U3) Ay v
theorem ARE v:AVM v=AZp v:=AB _
abbrev ACY:AD:=[(.tmp 0,.own 88 U4),(.tmp 1,.di),(.tmp 2,.di),(.tmp 3,.di),(.tmp 4,.box 1),(.cell 1 0,.di),(.tmp 5,.clo 108 [])]
abbrev NU:AD:=[(.obj 0,.own 88 U4),(.obj 1,.box 1),(.cell 1 0,.di),(.tmp 0,.di)]
def AZ4[Lk]:(List U3×Int×Int×Int×Int×Unit)→Option (Ul):=Hr ((0,(0,())):U3) Ay
def AVY[Lk](v:(List U3×Int×Int×Int×Int×Unit)):Option (Ul):=JC ((0,(0,())):U3) Ay v
theorem ARS v:AVY v=AZ4 v:=AB _
abbrev ACd:AD:=[(.tmp 0,.own 88 U4),(.tmp 1,.di),(.tmp 2,.box 1),(.cell 1 0,.di),(.tmp 3,.clo 108 [])]
def AaB[Lk]:Ul→Option (Ul):=Hs ((0,(0,())):U3) Ay
def AVb[Lk](v:Ul):Option (Ul):=JD ((0,(0,())):U3) Ay v
theorem ARX v:AVb v=AaB v:=AB _
abbrev AJu:AD:=[(.obj 0,.own 88 U4),(.tmp 0,.di),(.tmp 1,.di)]
def Ae2[Lk]:Ul→Option (Ul):=Js ((0,(0,())):U3) Ay
def Ae4[Lk](v:Ul):Option (Ul):=R8 ((0,(0,())):U3) Ay v
theorem AZO v:Ae4 v=Ae2 v:=AB _
abbrev Aj7:AD:=[(.obj 0,.own 88 U4),(.tmp 0,.own' 0),(.tmp 8,.di),(.tmp 9,.di)]
def AnJ[Lk]:Ul→Option (Ux):=R3 ((0,(0,())):U3) Ay
def Ao0[Lk](v:Ul):Option (Ux):=AY2 ((0,(0,())):U3) Ay v
theorem Aj8 v:Ao0 v=AnJ v:=AB _
abbrev Xi:AD:=[(.obj 0,.own 88 U4),(.tmp 0,.dat .bool)]
abbrev AKY:AD:=[(.obj 0,.own 88 U4),(.tmp 0,.own' 0),(.tmp 1,.di),(.tmp 2,.di),(.tmp 3,.clo 108 []),(.tmp 9,.di),(.tmp 10,.di),(.tmp 12,.di)]
abbrev AKU:AW:=[(.exit 6,[(.obj 0,.own 88 U4),(.tmp 0,.own' 0),(.tmp 1,.di),(.tmp 2,.di),(.tmp 3,.clo 108 []),(.tmp 9,.di),(.tmp 10,.di)])]
abbrev AKZ:AD:=[(.obj 0,.own 88 U4),(.tmp 0,.own' 0),(.tmp 1,.di),(.tmp 2,.di),(.tmp 3,.clo 108 []),(.tmp 9,.di),(.tmp 10,.di),(.tmp 11,.di)]
abbrev AKV:AW:=[(.exit 4,[(.obj 0,.own 88 U4),(.tmp 0,.own' 0),(.tmp 1,.di),(.tmp 2,.di),(.tmp 3,.clo 108 []),(.tmp 9,.di),(.tmp 10,.di)])]
abbrev TX:AD:=[(.obj 0,.own 88 U4),(.tmp 0,.own' 0),(.tmp 1,.di),(.tmp 2,.di),(.tmp 3,.clo 108 []),(.tmp 9,.di),(.tmp 10,.di)]
abbrev AKW:AW:=[(.exit 2,[(.obj 0,.own 88 U4),(.tmp 0,.own' 0),(.tmp 1,.di),(.tmp 2,.di),(.tmp 3,.clo 108 []),(.tmp 9,.di),(.tmp 10,.di)])]
abbrev AKX:AW:=[(.ret,[(.obj 0,.own 88 U4),(.tmp 8,.dat .bool)]),(.exit 0,[(.obj 0,.own 88 U4)])]
def AQn[Lk]:Ul→Option ((List U3×Bool×Unit)):=Fx ((0,(0,())):U3) Ay
def AKb[Lk](v:Ul):Option ((List U3×Bool×Unit)):=Jt ((0,(0,())):U3) Ay v
theorem AKa v:AKb v=AQn v:=AB _
abbrev ACI:AD:=[(.obj 0,.own 88 U4),(.tmp 0,.di)]
abbrev Od:AD:=[(.obj 0,.own 88 U4),(.tmp 0,.own' 0),(.tmp 1,.di),(.tmp 4,.clo 108 []),(.tmp 11,.di),(.tmp 12,.di)]
abbrev AQ6:AW:=[(.exit 4,[(.obj 0,.own 88 U4),(.tmp 0,.own' 0),(.tmp 1,.di),(.tmp 4,.clo 108 []),(.tmp 11,.di),(.tmp 12,.di)])]
abbrev AQ7:AW:=[(.exit 2,[(.obj 0,.own 88 U4),(.tmp 0,.own' 0),(.tmp 1,.di),(.tmp 4,.clo 108 []),(.tmp 11,.di),(.tmp 12,.di)])]
abbrev AQ8:AW:=[(.exit 0,[(.obj 0,.own 88 U4),(.tmp 11,.di)])]
def AZh[Lk]:Uv→Option ((List U3×Int×Unit)):=Hp ((0,(0,())):U3) Ay
def AVI[Lk](v:Uv):Option ((List U3×Int×Unit)):=NQ ((0,(0,())):U3) Ay v
theorem AQ9 v:AVI v=AZh v:=AB _
end
end Go.Pev
end
section
namespace Go.Pev
noncomputable section
abbrev AVJ:AD:=[(.obj 0,.own 88 U4),(.tmp 0,.di),(.tmp 1,.dat .bool)]
abbrev L8:AD:=[(.obj 0,.own 88 U4),(.tmp 0,.own' 0),(.tmp 1,.di),(.tmp 4,.clo 108 []),(.tmp 12,.di),(.tmp 13,.di)]
abbrev Afk:AW:=[(.exit 8,[(.obj 0,.own 88 U4),(.tmp 0,.own' 0),(.tmp 1,.di),(.tmp 4,.clo 108 []),(.tmp 12,.di),(.tmp 13,.di)])]
abbrev Afl:AW:=[(.exit 6,[(.obj 0,.own 88 U4),(.tmp 0,.own' 0),(.tmp 1,.di),(.tmp 4,.clo 108 []),(.tmp 12,.di),(.tmp 13,.di)])]
abbrev Afm:AW:=[(.exit 4,[(.obj 0,.own 88 U4),(.tmp 0,.own' 0),(.tmp 1,.di),(.tmp 13,.di)])]
abbrev Afn:AW:=[(.exit 2,[(.obj 0,.own 88 U4),(.tmp 0,.own' 0),(.tmp 1,.di),(.tmp 4,.clo 108 []),(.tmp 12,.di),(.tmp 13,.di)])]
abbrev Afo:AW:=[(.exit 0,[(.obj 0,.own 88 U4),(.tmp 0,.own' 0),(.tmp 1,.di),(.tmp 4,.clo 108 []),(.tmp 12,.di),(.tmp 13,.di)])]
def Ake[Lk]:Uv→Option ((List U3×Int×Bool×Unit)):=NP ((0,(0,())):U3) Ay
def Amh[Lk](v:Uv):Option ((List U3×Int×Bool×Unit)):=TY ((0,(0,())):U3) Ay v
theorem Afp v:Amh v=Ake v:=AB _
abbrev AVA:AD:=[(.obj 0,.own 88 U4),(.tmp 0,.own' 0),(.tmp 1,.di),(.tmp 2,.di),(.tmp 3,.di),(.tmp 4,.clo 108 []),(.tmp 10,.dat .bool),(.tmp 11,.dat .bool)]
abbrev AU9:AW:=[(.ret,[(.obj 0,.own 88 U4)])]
def AU8[Lk](self:Uv→Option (Ux)):(List U3×Int×Int×Int×Bool×Bool×Unit)→Option ((List U3×Int×Int×Int×Bool×Bool×Unit)⊕Ux⊕Unit):=Kp ((0,(0,())):U3) Ay self
def Anl[Lk](self:Uv→Option (Ux)):Uv→Option (Ux):=SC ((0,(0,())):U3) Ay self
def Xd[Lk]:Nat→Uv→Option (Ux):=Jb ((0,(0,())):U3) Ay
def AkY[Lk](v:Uv):Option (Ux):=AZZ ((0,(0,())):U3) Ay v
theorem AkX v:AkY v=Xd 100 v:=AB _
abbrev AUd:AD:=[(.tmp 0,.own 88 U4),(.tmp 1,.clo 108 [])]
def Ajk[Lk]:Ux→Option (Ux):=NH ((0,(0,())):U3) Ay
def Adn[Lk](v:Ux):Option (Ux):=AIv ((0,(0,())):U3) Ay v
theorem Adm v:Adn v=Ajk v:=AB _
def AUD[Lk]:U8→Option (Uc):=fun(a0,_)=>
 some ((ieq a0 (IntKind.wrap .i64 (IntKind.wrap .u16 a0))),())
def ABT[Lk]:=fun v=>Lk.f (AUD v)
theorem Ac4 v:ABT v=AUD v:=AB _
def AIO[Lk]:U8→Option (Uc):=fun(a0,_)=>
 match(ile 1 a0)with
 |true=>some ((ile a0 4),())
 |false=>some (false,())
def AOq[Lk]:=fun v=>Lk.f (AIO v)
theorem AXe v:AOq v=AIO v:=AB _
abbrev HW:AD:=[(.tmp 0,.dat Vb),(.tmp 1,.clo 160 [])]
abbrev AAW:AD:=[(.tmp 0,.dat Vb),(.tmp 1,.clo 160 []),(.tmp 7,.di),(.tmp 8,.di)]
def AAV[Lk]:Ul→Option (Ul⊕U8⊕(Unit)⊕Unit):=fun(a0,a1,a2,_)=>
 match(ilt a2 a1)with
 |true=>match idx a0 a2 with|none=>none|some x0=>match ABT (x0.1,())with|none=>none|some (y1,_)=>match(!y1)with
  |true=>some (.inr (.inl (a2,())))
  |false=>match ABT (x0.2.1,())with|none=>none|some (y2,_)=>match(!y2)with
  |true=>some (.inr (.inl (a2,())))
  |false=>some (.inl (a0,a1,(IntKind.wrap .i64 (a2+1)),()))
 |false=>some (.inr (.inr (.inl ())))
def Qd[Lk]:Ux→Option (U8):=fun(a0,_)=>
 match AL AAV many (a0,(AH a0),0,())with|none=>none|some r=>match r with
 |.inl (o0,_)=>some (o0,())
 |.inr r=>match r with
 |.inl _=>some ((-1:Int),())
 |.inr _=>none
def O3[Lk]:=fun v=>Lk.f (Qd v)
theorem AAX v:O3 v=Qd v:=AB _
def OA[Lk]:Ux→Option (Uc):=fun(a0,_)=>
 match O3 (a0,())with|none=>none|some (y0,_)=>some ((ile 0 y0),())
def JV[Lk]:=fun v=>Lk.f (OA v)
theorem Yo v:JV v=OA v:=AB _
abbrev HY:AD:=[(.tmp 0,.dat (.slice (.prod U0 U4))),(.tmp 1,.clo 163 [])]
abbrev AAd:AD:=[(.tmp 0,.dat (.slice (.prod U0 U4))),(.tmp 1,.clo 163 []),(.tmp 7,.di),(.tmp 8,.di)]
def AAc[Lk]:(List Ug×Int×Int×Unit)→Option ((List Ug×Int×Int×Unit)⊕U8⊕(Unit)⊕Unit):=fun(a0,a1,a2,_)=>
 match(ilt a2 a1)with
 |true=>match idx a0 a2 with|none=>none|some x0=>match AOq (x0.1,())with|none=>none|some (y1,_)=>match(!y1)with
  |true=>some (.inr (.inl (a2,())))
  |false=>match ABT (x0.2.1,())with|none=>none|some (y2,_)=>match(!y2)with
  |true=>some (.inr (.inl (a2,())))
  |false=>match ABT (x0.2.2.1,())with|none=>none|some (y3,_)=>match(!y3)with
  |true=>some (.inr (.inl (a2,())))
  |false=>some (.inl (a0,a1,(IntKind.wrap .i64 (a2+1)),()))
 |false=>some (.inr (.inr (.inl ())))
def Qg[Lk]:(List Ug×Unit)→Option (U8):=fun(a0,_)=>
 match AL AAc many (a0,(AH a0),0,())with|none=>none|some r=>match r with
 |.inl (o0,_)=>some (o0,())
 |.inr r=>match r with
 |.inl _=>some ((-1:Int),())
 |.inr _=>none
def O5[Lk]:=fun v=>Lk.f (Qg v)
theorem AAe v:O5 v=Qg v:=AB _
def OB[Lk]:(List Ug×Unit)→Option (Uc):=fun(a0,_)=>
 match O5 (a0,())with|none=>none|some (y0,_)=>some ((ile 0 y0),())
def Mg[Lk]:=fun v=>Lk.f (OB v)
theorem Yp v:Mg v=OB v:=AB _
abbrev PO:AD:=[(.tmp 0,.dat (.prod U0 (.prod Vb (.prod (.slice (.prod U0 U4)) .unit))))]
def AIM[Lk]:((Int×(List U3)×(List Ug)×Unit)×Unit)→Option (Uc):=fun(a0,_)=>
 match(ieq a0.1 1)with
 |true=>match(ieq (AH a0.2.2.1) 0)with
  |true=>match(ile (AH a0.2.1) 60)with
   |true=>match JV (a0.2.1,())with|none=>none|some (y0,_)=>some ((!y0),())
   |false=>some (false,())
  |false=>some (false,())
 |false=>match(ieq a0.1 2)with
 |true=>match(ieq (AH a0.2.2.1) 0)with
  |true=>match(ile (AH a0.2.1) 60)with
   |true=>match JV (a0.2.1,())with|none=>none|some (y1,_)=>some ((!y1),())
   |false=>some (false,())
  |false=>some (false,())
 |false=>match(ieq a0.1 3)with
 |true=>match(ieq (AH a0.2.1) 0)with
  |true=>match(ile (AH a0.2.2.1) 60)with
   |true=>match Mg (a0.2.2.1,())with|none=>none|some (y2,_)=>some ((!y2),())
   |false=>some (false,())
  |false=>some (false,())
 |false=>some (false,())
def AOo[Lk]:=fun v=>Lk.f (AIM v)
theorem AXU v:AOo v=AIM v:=AB _
abbrev AMc:AD:=[(.tmp 0,.dat (.prod U0 U4))]
def AMd[Lk]:(Ug×Unit)→Option (Ua):=fun(a0,_)=>
 match(ieq a0.1 1)with
 |true=>some (([a0.2.1,a0.2.2.1]:List (Int)),())
 |false=>match(ieq a0.1 2)with
 |true=>some (([a0.2.1]:List (Int)),())
 |false=>match(ieq a0.1 3)with
 |true=>some (([a0.2.1]:List (Int)),())
 |false=>some (([]:List (Int)),())
def ATJ[Lk]:=fun v=>Lk.f (AMd v)
theorem AcK v:ATJ v=AMd v:=AB _
abbrev AiN:AD:=[(.tmp 3,.own 3 U0),(.tmp 24,.dat (.slice (.prod U0 U4))),(.tmp 25,.di),(.tmp 26,.di)]
abbrev AiL:AW:=[(.exit 2,[(.tmp 3,.own 3 U0)])]
def AiJ[Lk]:(List Int×List Ug×Int×Int×Unit)→Option ((List Int×List Ug×Int×Int×Unit)⊕Ua⊕Unit):=fun(a0,a1,a2,a3,_)=>
 match(ilt a3 a2)with
 |true=>match idx a1 a3 with|none=>none|some x0=>match ATJ ((x0.1,(x0.2.1,(x0.2.2.1,()))),())with|none=>none|some (y1,_)=>match(fits ((AH a0)+(AH y1)))with
  |true=>some (.inl ((Ai a0 y1),a1,a2,(IntKind.wrap .i64 (a3+1)),()))
  |false=>none
 |false=>some (.inr (.inl (a0,())))
abbrev AiO:AD:=[(.tmp 1,.box 3),(.cell 0 0,.di),(.cell 0 1,.dat Vb),(.cell 0 2,.dat (.slice (.prod U0 U4))),(.tmp 3,.own 3 U0),(.tmp 9,.dat Vb),(.tmp 10,.di),(.tmp 11,.di)]
abbrev AiM:AW:=[(.exit 0,[(.tmp 1,.box 3),(.cell 0 0,.di),(.cell 0 1,.dat Vb),(.cell 0 2,.dat (.slice (.prod U0 U4))),(.tmp 3,.own 3 U0)])]
def AiK[Lk]:(Int×List U3×List Ug×List Int×List U3×Int×Int×Unit)→Option ((Int×List U3×List Ug×List Int×List U3×Int×Int×Unit)⊕(Int×List U3×List Ug×List Int×Unit)⊕Unit):=fun(a0,a1,a2,a3,a4,a5,a6,_)=>
 match(ilt a6 a5)with
 |true=>match idx a4 a6 with|none=>none|some x0=>match(fits ((AH a3)+(AH ([x0.1,x0.2.1]:List (Int)))))with
  |true=>some (.inl (a0,a1,a2,(Ai a3 ([x0.1,x0.2.1]:List (Int))),a4,a5,(IntKind.wrap .i64 (a6+1)),()))
  |false=>none
 |false=>some (.inr (.inl (a0,a1,a2,a3,())))
def AWQ[Lk]:((Int×(List U3)×(List Ug)×Unit)×Unit)→Option (Ua):=fun(a0,_)=>
 match AL AiK many (a0.1,a0.2.1,a0.2.2.1,([]:List (Int)),a0.2.1,(AH a0.2.1),0,())with|none=>none|some r=>match r with
 |.inl (o0,o1,o2,o3,_)=>match AL AiJ many (o3,o2,(AH o2),0,())with|none=>none|some r=>match r with
  |.inl (o4,_)=>some (o4,())
  |.inr _=>none
 |.inr _=>none
def AiQ[Lk]:=fun v=>Lk.f (AWQ v)
theorem AiP v:AiQ v=AWQ v:=AB _
def AWE[Lk]:U8→Option (Uc):=fun(a0,_)=>
 match(ile 0 a0)with
 |true=>some ((ilt a0 65536),())
 |false=>some (false,())
def AWF[Lk]:=fun v=>Lk.f (AWE v)
theorem Ahd v:AWF v=AWE v:=AB _
abbrev AGQ:AD:=[(.tmp 0,.dat U4)]
abbrev Aha:AD:=[(.tmp 0,.dat Uj),(.tmp 1,.dat .bool)]
def Ahb[Lk]:(U3×Unit)→Option ((Int×Bool×Unit)):=fun(a0,_)=>
 match AWF (a0.1,())with|none=>none|some (y0,_)=>match(!y0)with
 |true=>some (0,false,())
 |false=>match AWF (a0.2.1,())with|none=>none|some (y1,_)=>match(!y1)with
 |true=>some (0,false,())
 |false=>match shl? .u32 (IntKind.wrap .u32 (Bs a0.1 a0.2.1)) 16 with|none=>none|some x2=>some ((IntKind.wrap .u32 ((BitVec.ofInt (IntKind.bits .u32) x2 ||| BitVec.ofInt (IntKind.bits .u32) (IntKind.wrap .u32 (imax a0.1 a0.2.1))).toNat)),true,())
def AoU[Lk]:=fun v=>Lk.f (Ahb v)
theorem Aly v:AoU v=Ahb v:=AB _
def AWG[Lk]:U8→Option ((U3×Unit)):=fun(a0,_)=>
 match shr? .u32 a0 16 with|none=>none|some x0=>some (((IntKind.wrap .i64 x0),((IntKind.wrap .i64 (IntKind.wrap .u16 a0)),())),())
def Ahg[Lk]:=fun v=>Lk.f (AWG v)
theorem Ahf v:Ahg v=AWG v:=AB _
abbrev Nh:AD:=[(.tmp 0,.dat V6)]
abbrev AC8:AD:=[(.tmp 0,.own 4 .bool)]
abbrev ASV:AD:=[(.tmp 0,.dat V6),(.tmp 3,.own 4 .bool),(.tmp 9,.dat V6),(.tmp 10,.di),(.tmp 11,.di)]
abbrev ASU:AW:=[(.exit 0,[(.tmp 3,.own 4 .bool)])]
def AST[Lk]:(List Int×List Bool×List Int×Int×Int×Unit)→Option ((List Int×List Bool×List Int×Int×Int×Unit)⊕(List Bool×Unit)⊕Unit):=fun(a0,a1,a2,a3,a4,_)=>
 match(ilt a4 a3)with
 |true=>match idx a2 a4 with|none=>none|some x0=>match(ieq a4 0)with
  |true=>match idx a1 a4 with|none=>none|some x1=>some (.inl (a0,(AX a1 (AF a4) true),a2,a3,(IntKind.wrap .i64 (a4+1)),()))
  |false=>match idx a0 (IntKind.wrap .i64 (a4-1))with|none=>none|some x2=>match idx a1 a4 with|none=>none|some x3=>some (.inl (a0,(AX a1 (AF a4) (!(ieq x2 x0))),a2,a3,(IntKind.wrap .i64 (a4+1)),()))
 |false=>some (.inr (.inl (a1,())))
def AC9[Lk]:Ua→Option ((List Bool×Unit)):=fun(a0,_)=>
 match(Bq (AH a0)&&Bq (AH a0)&&ile (AH a0) (AH a0)&&true)with
 |true=>match AL AST many (a0,(Cb (AF (AH a0)) false),a0,(AH a0),(0:Int),())with|none=>none|some r=>match r with
  |.inl (o0,_)=>some (o0,())
  |.inr _=>none
 |false=>none
def AGS[Lk]:=fun v=>Lk.f (AC9 v)
theorem ASW v:AGS v=AC9 v:=AB _
def AB9[Lk]:U8→Option (U8):=fun(a0,_)=>
 match(ilt a0 1)with
 |true=>some (0,())
 |false=>match(ilt 16 a0)with
 |true=>some (0,())
 |false=>match quo? .i64 (IntKind.wrap .i64 ((IntKind.wrap .i64 (32+a0))-1)) a0 with|none=>none|some x0=>some (x0,())
def WB[Lk]:=fun v=>Lk.f (AB9 v)
theorem APr v:WB v=AB9 v:=AB _
def AJR[Lk]:U3→Option (Uc):=fun(a0,a1,_)=>
 match(ile 0 a0)with
 |true=>match WB (a1,())with|none=>none|some (y0,_)=>some ((ilt a0 y0),())
 |false=>some (false,())
def APl[Lk]:=fun v=>Lk.f (AJR v)
theorem AYp v:APl v=AJR v:=AB _
abbrev AJb:AD:=[(.tmp 0,.dat Uj),(.tmp 1,.di),(.tmp 2,.di)]
def AJc[Lk]:Ug→Option (U8):=fun(a0,a1,a2,_)=>
 match APl (a1,a2,())with|none=>none|some (y0,_)=>match(!y0)with
 |true=>some (0,())
 |false=>match shr? .u32 a0 (IntKind.wrap .u64 (IntKind.wrap .i64 (a1*a2)))with|none=>none|some x1=>match shl? .u32 1 (IntKind.wrap .u64 a2)with|none=>none|some x2=>some ((IntKind.wrap .u32 ((BitVec.ofInt (IntKind.bits .u32) x1 &&& BitVec.ofInt (IntKind.bits .u32) (IntKind.wrap .u32 (x2-1))).toNat)),())
def AFL[Lk]:=fun v=>Lk.f (AJc v)
theorem AY6 v:AFL v=AJc v:=AB _
abbrev AeU:AD:=[(.tmp 0,.dat U6),(.tmp 1,.di),(.tmp 5,.map U0 U0),(.tmp 9,.dat U6),(.tmp 10,.di),(.tmp 11,.di)]
abbrev AeT:AW:=[(.ret,[(.tmp 4,.dat .bool)]),(.exit 0,[(.tmp 0,.dat U6),(.tmp 1,.di)])]
def AeS[Lk]:(List Int×Int×List Uz×List Int×Int×Int×Unit)→Option ((List Int×Int×List Uz×List Int×Int×Int×Unit)⊕Uc⊕Uh⊕Unit):=fun(a0,a1,a2,a3,a4,a5,_)=>
 match(ilt a5 a4)with
 |true=>match idx a3 a5 with|none=>none|some x0=>match(ilt x0 0)with
  |true=>some (.inr (.inl (false,())))
  |false=>match(ile a1 x0)with
  |true=>some (.inr (.inl (false,())))
  |false=>match(ilt 1 ((AR (Ae a2 x0 (IntKind.wrap .i64 (((AR a2 x0).getD 0)+1))) x0).getD 0))with
  |true=>some (.inr (.inl (false,())))
  |false=>some (.inl (a0,a1,(Ae a2 x0 (IntKind.wrap .i64 (((AR a2 x0).getD 0)+1))),a3,a4,(IntKind.wrap .i64 (a5+1)),()))
 |false=>some (.inr (.inr (.inl (a0,a1,()))))
def AUm[Lk]:Uh→Option (Uc):=fun(a0,a1,_)=>
 match AL AeS many (a0,a1,([]:List Uz),a0,(AH a0),0,())with|none=>none|some r=>match r with
 |.inl (o0,_)=>some (o0,())
 |.inr r=>match r with
 |.inl (o1,o2,_)=>some ((ieq (AH o1) o2),())
 |.inr _=>none
def AeW[Lk]:=fun v=>Lk.f (AUm v)
theorem AeV v:AeW v=AUm v:=AB _
abbrev AmZ:AD:=[(.tmp 0,.dat V6),(.tmp 1,.dat U6),(.tmp 2,.di),(.tmp 3,.di)]
abbrev AnU:AD:=[(.tmp 0,.dat V6),(.tmp 2,.di),(.tmp 3,.di),(.tmp 9,.own 3 U0),(.tmp 13,.own 3 U0),(.tmp 63,.dat U6),(.tmp 64,.di),(.tmp 65,.di)]
abbrev AnR:AW:=[(.exit 4,[(.tmp 13,.own 3 U0)])]
def AnO[Lk]:(List Int×Int×Int×List Int×List Int×List Int×Int×Int×Unit)→Option ((List Int×Int×Int×List Int×List Int×List Int×Int×Int×Unit)⊕Ua⊕Unit):=fun(a0,a1,a2,a3,a4,a5,a6,a7,_)=>
 match(ilt a7 a6)with
 |true=>match idx a5 a7 with|none=>none|some x0=>match idx a0 x0 with|none=>none|some x1=>match AFL (x1,a1,a2,())with|none=>none|some (y2,_)=>match idx a3 y2 with|none=>none|some x3=>match idx a4 (AJ a3 (AF y2) 0)with|none=>none|some x4=>match idx a3 y2 with|none=>none|some x5=>match idx a3 y2 with|none=>none|some x6=>some (.inl (a0,a1,a2,(AX a3 (AF y2) (IntKind.wrap .i64 ((AJ a3 (AF y2) 0)+1))),(AX a4 (AF (AJ a3 (AF y2) 0)) x0),a5,a6,(IntKind.wrap .i64 (a7+1)),()))
 |false=>some (.inr (.inl (a4,())))
abbrev AnV:AD:=[(.tmp 0,.dat V6),(.tmp 1,.dat U6),(.tmp 2,.di),(.tmp 3,.di),(.tmp 9,.own 3 U0),(.tmp 44,.di),(.tmp 45,.di)]
abbrev AnS:AW:=[(.exit 2,[(.tmp 0,.dat V6),(.tmp 1,.dat U6),(.tmp 2,.di),(.tmp 3,.di),(.tmp 9,.own 3 U0)])]
def AnP[Lk]:(List Int×List Int×Int×Int×List Int×Int×Int×Unit)→Option ((List Int×List Int×Int×Int×List Int×Int×Int×Unit)⊕(List Int×List Int×Int×Int×List Int×Unit)⊕Unit):=fun(a0,a1,a2,a3,a4,a5,a6,_)=>
 match(ilt a6 a5)with
 |true=>match idx a4 (IntKind.wrap .i64 (a6+1))with|none=>none|some x0=>match idx a4 a6 with|none=>none|some x1=>match idx a4 (IntKind.wrap .i64 (a6+1))with|none=>none|some x2=>some (.inl (a0,a1,a2,a3,(AX a4 (AF (IntKind.wrap .i64 (a6+1))) (IntKind.wrap .i64 ((AJ a4 (AF (IntKind.wrap .i64 (a6+1))) 0)+(AJ a4 (AF a6) 0)))),a5,(IntKind.wrap .i64 (a6+1)),()))
 |false=>some (.inr (.inl (a0,a1,a2,a3,a4,())))
abbrev AnW:AD:=[(.tmp 0,.dat V6),(.tmp 1,.dat U6),(.tmp 2,.di),(.tmp 3,.di),(.tmp 9,.own 3 U0),(.tmp 22,.dat U6),(.tmp 23,.di),(.tmp 24,.di)]
abbrev AnT:AW:=[(.exit 0,[(.tmp 0,.dat V6),(.tmp 1,.dat U6),(.tmp 2,.di),(.tmp 3,.di),(.tmp 9,.own 3 U0)])]
def AnQ[Lk]:Vh→Option (Vh⊕(List Int×List Int×Int×Int×List Int×Unit)⊕Unit):=fun(a0,a1,a2,a3,a4,a5,a6,a7,_)=>
 match(ilt a7 a6)with
 |true=>match idx a5 a7 with|none=>none|some x0=>match idx a0 x0 with|none=>none|some x1=>match AFL (x1,a2,a3,())with|none=>none|some (y2,_)=>match idx a4 (IntKind.wrap .u32 (y2+1))with|none=>none|some x3=>match idx a4 (IntKind.wrap .u32 (y2+1))with|none=>none|some x4=>some (.inl (a0,a1,a2,a3,(AX a4 (AF (IntKind.wrap .u32 (y2+1))) (IntKind.wrap .i64 ((AJ a4 (AF (IntKind.wrap .u32 (y2+1))) 0)+1))),a5,a6,(IntKind.wrap .i64 (a7+1)),()))
 |false=>some (.inr (.inl (a0,a1,a2,a3,a4,())))
def Ama[Lk]:Va→Option (Ua):=fun(a0,a1,a2,a3,_)=>
 match shl? .i64 1 (IntKind.wrap .u64 a3)with|none=>none|some x0=>match(Bq (IntKind.wrap .i64 (x0+1))&&Bq (IntKind.wrap .i64 (x0+1))&&ile (IntKind.wrap .i64 (x0+1)) (IntKind.wrap .i64 (x0+1))&&true)with
 |true=>match AL AnQ many (a0,a1,a2,a3,(Cb (AF (IntKind.wrap .i64 (x0+(1:Int)))) (0:Int)),a1,(AH a1),(0:Int),())with|none=>none|some r=>match r with
  |.inl (o1,o2,o3,o4,o5,_)=>match AL AnP many (o1,o2,o3,o4,o5,(IntKind.wrap .i64 ((AH o5)-1)),0,())with|none=>none|some r=>match r with
   |.inl (o6,o7,o8,o9,o10,_)=>match(Bq (AH o7)&&Bq (AH o7)&&ile (AH o7) (AH o7)&&true)with
    |true=>match AL AnO many (o6,o8,o9,o10,(Cb (AF (AH o7)) (0:Int)),o7,(AH o7),(0:Int),())with|none=>none|some r=>match r with
     |.inl (o11,_)=>some (o11,())
     |.inr _=>none
    |false=>none
   |.inr _=>none
  |.inr _=>none
 |false=>none
def rby[Lk]:=fun v=>Lk.f (Ama v)
theorem AnX v:rby v=Ama v:=AB _
def TD[Lk]:U3→Option (Uc):=fun(a0,a1,_)=>
 match(ile 1 a0)with
 |true=>match(ile a0 1000)with
  |true=>match(ile 1 a1)with
   |true=>some ((ile a1 100),())
   |false=>some (false,())
  |false=>some (false,())
 |false=>some (false,())
def ND[Lk]:=fun v=>Lk.f (TD v)
theorem AEp v:ND v=TD v:=AB _
abbrev ABk:AD:=[(.tmp 0,.dat (.prod Ve (.prod U0 (.prod V1 .unit))))]
abbrev APC:AD:=[(.tmp 1,.box 3),(.cell 0 0,.dat Ve),(.cell 0 1,.di),(.cell 0 2,.dat V1),(.tmp 25,.dat Ve),(.tmp 26,.di),(.tmp 27,.di)]
def APB[Lk]:(List U7×Int×List Bool×List U7×Int×Int×Unit)→Option ((List U7×Int×List Bool×List U7×Int×Int×Unit)⊕Uc⊕(Unit)⊕Unit):=fun(a0,a1,a2,a3,a4,a5,_)=>
 match(ilt a5 a4)with
 |true=>match idx a3 a5 with|none=>none|some x0=>match(ilt x0.1 0)with
  |true=>some (.inr (.inl (false,())))
  |false=>match(ile x0.2.1 x0.1)with
  |true=>some (.inr (.inl (false,())))
  |false=>match(ilt (AH a2) x0.2.1)with
  |true=>some (.inr (.inl (false,())))
  |false=>match(ilt x0.2.2.1 (-1:Int))with
  |true=>some (.inr (.inl (false,())))
  |false=>match(ile a5 x0.2.2.1)with
  |true=>some (.inr (.inl (false,())))
  |false=>match(ilt x0.2.2.2.1 0)with
  |true=>some (.inr (.inl (false,())))
  |false=>match(ilt 2 x0.2.2.2.1)with
  |true=>some (.inr (.inl (false,())))
  |false=>some (.inl (a0,a1,a2,a3,a4,(IntKind.wrap .i64 (a5+1)),()))
 |false=>some (.inr (.inr (.inl ())))
def ABl[Lk]:(((List U7)×Int×(List Bool)×Unit)×Unit)→Option (Uc):=fun(a0,_)=>
 match ND ((AH a0.2.2.1),a0.2.1,())with|none=>none|some (y0,_)=>match(!y0)with
 |true=>some (false,())
 |false=>match(ieq (AH a0.1) 0)with
 |true=>some (false,())
 |false=>match(ilt 2000 (AH a0.1))with
 |true=>some (false,())
 |false=>match AL APB many (a0.1,a0.2.1,a0.2.2.1,a0.1,(AH a0.1),0,())with|none=>none|some r=>match r with
 |.inl (o1,_)=>some (o1,())
 |.inr r=>match r with
 |.inl _=>some (true,())
 |.inr _=>none
def Vv[Lk]:=fun v=>Lk.f (ABl v)
theorem APD v:Vv v=ABl v:=AB _
abbrev DS:AD:=[(.tmp 0,.dat (.prod Ve (.prod U0 (.prod V1 .unit)))),(.tmp 1,.di)]
def ABj[Lk]:(((List U7)×Int×(List Bool)×Unit)×Int×Unit)→Option (U8):=fun(a0,a1,_)=>
 match Vv ((a0.1,(a0.2.1,(a0.2.2.1,()))),())with|none=>none|some (y0,_)=>match(!y0)with
 |true=>some (1,())
 |false=>match(ilt a1 0)with
 |true=>some (6,())
 |false=>match(ile (AH a0.1) a1)with
 |true=>some (6,())
 |false=>some (0,())
def Pf[Lk]:=fun v=>Lk.f (ABj v)
theorem APA v:Pf v=ABj v:=AB _
abbrev ABh:AD:=[(.tmp 0,.dat Ud)]
def ABi[Lk]:(U7×Unit)→Option (U8):=fun(a0,_)=>
 some ((IntKind.wrap .i64 (a0.2.1-a0.1)),())
def NC[Lk]:=fun v=>Lk.f (ABi v)
theorem AO9 v:NC v=ABi v:=AB _
def ABm[Lk]:(((List U7)×Int×(List Bool)×Unit)×Int×Unit)→Option (Uc):=fun(a0,a1,_)=>
 match Pf ((a0.1,(a0.2.1,(a0.2.2.1,()))),a1,())with|none=>none|some (y0,_)=>match(ieq y0 0)with
 |true=>match idx a0.1 a1 with|none=>none|some x1=>match NC ((x1.1,(x1.2.1,(x1.2.2.1,(x1.2.2.2.1,())))),())with|none=>none|some (y2,_)=>some ((ilt a0.2.1 y2),())
 |false=>some (false,())
def Vw[Lk]:=fun v=>Lk.f (ABm v)
theorem APF v:Vw v=ABm v:=AB _
abbrev ABn:AD:=[(.tmp 0,.own 212 Ud),(.tmp 1,.di),(.tmp 2,.own 4 .bool),(.tmp 3,.di)]
def ABo[Lk]:U3→Option ((List U7×Int×List Bool×Int×Unit)):=fun(a0,a1,_)=>
 match ND (a0,a1,())with|none=>none|some (y0,_)=>match(!y0)with
 |true=>some (([]:List U7),0,([]:List (Bool)),1,())
 |false=>match(Bq a0&&Bq a0&&ile a0 a0&&true)with
 |true=>some (([((0:Int),(a0,((-1:Int),((0:Int),()))))]:List U7),a1,(Cb (AF a0) false),(0:Int),())
 |false=>none
def AEq[Lk]:=fun v=>Lk.f (ABo v)
theorem APH v:AEq v=ABo v:=AB _
abbrev AIj:AD:=[(.tmp 0,.dat Ve),(.tmp 1,.di),(.tmp 2,.dat V1),(.tmp 3,.di),(.tmp 4,.di),(.tmp 5,.di)]
abbrev AIi:List RS:=[.agg 3,.one,.one,.one]
def AIk[Lk]:(((List U7)×Int×(List Bool)×Unit)×Int×Unit)→Option ((List U7×Int×List Bool×Int×Int×Int×Unit)):=fun(a0,a1,_)=>
 match Pf ((a0.1,(a0.2.1,(a0.2.2.1,()))),a1,())with|none=>none|some (y0,_)=>match(!(ieq y0 0))with
 |true=>some (a0.1,a0.2.1,a0.2.2.1,0,0,y0,())
 |false=>match idx a0.1 a1 with|none=>none|some x1=>match NC ((x1.1,(x1.2.1,(x1.2.2.1,(x1.2.2.2.1,())))),())with|none=>none|some (y2,_)=>match(ile y2 a0.2.1)with
 |true=>some (a0.1,a0.2.1,a0.2.2.1,0,0,5,())
 |false=>match(ilt 0 x1.2.2.2.1)with
 |true=>some (a0.1,a0.2.1,a0.2.2.1,0,0,5,())
 |false=>match(ilt 2000 (IntKind.wrap .i64 ((AH a0.1)+2)))with
 |true=>some (a0.1,a0.2.1,a0.2.2.1,0,0,2,())
 |false=>match NC ((x1.1,(x1.2.1,(x1.2.2.1,(x1.2.2.2.1,())))),())with|none=>none|some (y3,_)=>match quo? .i64 y3 2 with|none=>none|some x4=>match HH a0.1 with|none=>none|some x5=>match(fits ((AH x5)+(AH ([(x1.1,((IntKind.wrap .i64 (x1.1+x4)),(a1,(0,())))),((IntKind.wrap .i64 (x1.1+x4)),(x1.2.1,(a1,(0,()))))]:List U7))))with
 |true=>match idx (Ai x5 ([(x1.1,((IntKind.wrap .i64 (x1.1+x4)),(a1,(0,())))),((IntKind.wrap .i64 (x1.1+x4)),(x1.2.1,(a1,(0,()))))]:List U7)) a1 with|none=>none|some x6=>some ((AX (Ai x5 ([(x1.1,((IntKind.wrap .i64 (x1.1+x4)),(a1,(0,())))),((IntKind.wrap .i64 (x1.1+x4)),(x1.2.1,(a1,(0,()))))]:List U7)) (AF a1) ((AJ (Ai x5 ([(x1.1,((IntKind.wrap .i64 (x1.1+x4)),(a1,(0,())))),((IntKind.wrap .i64 (x1.1+x4)),(x1.2.1,(a1,(0,()))))]:List U7)) (AF a1) (0,(0,(0,(0,()))))).1,((AJ (Ai x5 ([(x1.1,((IntKind.wrap .i64 (x1.1+x4)),(a1,(0,())))),((IntKind.wrap .i64 (x1.1+x4)),(x1.2.1,(a1,(0,()))))]:List U7)) (AF a1) (0,(0,(0,(0,()))))).2.1,((AJ (Ai x5 ([(x1.1,((IntKind.wrap .i64 (x1.1+x4)),(a1,(0,())))),((IntKind.wrap .i64 (x1.1+x4)),(x1.2.1,(a1,(0,()))))]:List U7)) (AF a1) (0,(0,(0,(0,()))))).2.2.1,(2,()))))),a0.2.1,a0.2.2.1,(AH a0.1),(IntKind.wrap .i64 ((AH a0.1)+1)),0,())
 |false=>none
def APE[Lk]:=fun v=>Lk.f (AIk v)
theorem AYD v:APE v=AIk v:=AB _
abbrev Ww:AD:=[(.tmp 0,.own 212 Ud),(.tmp 1,.di)]
abbrev Wv:AD:=[(.obj 0,.own 212 Ud),(.tmp 0,.dat .bool)]
abbrev AIn:AD:=[(.obj 0,.own 212 Ud),(.tmp 0,.own' 0),(.tmp 1,.di)]
abbrev AIm:AW:=[(.ret,[(.obj 0,.own 212 Ud),(.tmp 4,.dat .bool)]),(.exit 0,[(.obj 0,.own 212 Ud)])]
def AIl[Lk]:(List U7×Int×Unit)→Option ((List U7×Int×Unit)⊕(List U7×Bool×Unit)⊕(List U7×Unit)⊕Unit):=fun(a0,a1,_)=>
 match(!(ieq a1 (-1:Int)))with
 |true=>match idx a0 a1 with|none=>none|some x0=>match(ieq (AJ a0 (AF a1) (0,(0,(0,(0,()))))).2.2.2.1 0)with
  |true=>some (.inr (.inl (a0,false,())))
  |false=>match(ilt 0 (AJ (AX a0 (AF a1) ((AJ a0 (AF a1) (0,(0,(0,(0,()))))).1,((AJ a0 (AF a1) (0,(0,(0,(0,()))))).2.1,((AJ a0 (AF a1) (0,(0,(0,(0,()))))).2.2.1,((IntKind.wrap .i64 ((AJ a0 (AF a1) (0,(0,(0,(0,()))))).2.2.2.1-1)),()))))) (AF a1) (0,(0,(0,(0,()))))).2.2.2.1)with
  |true=>some (.inr (.inl ((AX a0 (AF a1) ((AJ a0 (AF a1) (0,(0,(0,(0,()))))).1,((AJ a0 (AF a1) (0,(0,(0,(0,()))))).2.1,((AJ a0 (AF a1) (0,(0,(0,(0,()))))).2.2.1,((IntKind.wrap .i64 ((AJ a0 (AF a1) (0,(0,(0,(0,()))))).2.2.2.1-1)),()))))),false,())))
  |false=>some (.inl ((AX a0 (AF a1) ((AJ a0 (AF a1) (0,(0,(0,(0,()))))).1,((AJ a0 (AF a1) (0,(0,(0,(0,()))))).2.1,((AJ a0 (AF a1) (0,(0,(0,(0,()))))).2.2.1,((IntKind.wrap .i64 ((AJ a0 (AF a1) (0,(0,(0,(0,()))))).2.2.2.1-1)),()))))),(AJ (AX a0 (AF a1) ((AJ a0 (AF a1) (0,(0,(0,(0,()))))).1,((AJ a0 (AF a1) (0,(0,(0,(0,()))))).2.1,((AJ a0 (AF a1) (0,(0,(0,(0,()))))).2.2.1,((IntKind.wrap .i64 ((AJ a0 (AF a1) (0,(0,(0,(0,()))))).2.2.2.1-1)),()))))) (AF a1) (0,(0,(0,(0,()))))).2.2.1,()))
 |false=>some (.inr (.inr (.inl (a0,()))))
def Wx[Lk]:(List U7×Int×Unit)→Option ((List U7×Bool×Unit)):=fun(a0,a1,_)=>
 match AL AIl many (a0,a1,())with|none=>none|some r=>match r with
 |.inl (o0,o1,_)=>some (o0,o1,())
 |.inr r=>match r with
 |.inl (o2,_)=>some (o2,true,())
 |.inr _=>none
def Wy[Lk]:=fun v=>Lk.f (Wx v)
theorem AIo v:Wy v=Wx v:=AB _
abbrev AdP:AD:=[(.tmp 0,.dat Ve),(.tmp 1,.di),(.tmp 2,.dat V1),(.tmp 3,.dat .bool),(.tmp 4,.di)]
abbrev AEo:List RS:=[.agg 3,.one,.one]
abbrev Aja:AD:=[(.tmp 2,.box 3),(.cell 0 0,.own 212 Ud),(.cell 0 1,.di),(.cell 0 2,.own 4 .bool),(.tmp 4,.box 3),(.cell 3 0,.nil Ud),(.cell 3 1,.di),(.cell 3 2,.nil .bool),(.tmp 8,.box 4),(.cell 4 0,.di),(.cell 4 1,.di),(.cell 4 2,.di),(.cell 4 3,.di),(.tmp 9,.di)]
abbrev AjZ:AW:=[(.exit 0,[(.tmp 2,.box 3),(.cell 0 0,.own 212 Ud),(.cell 0 1,.di),(.cell 0 2,.own 4 .bool),(.tmp 4,.box 3),(.cell 3 0,.nil Ud),(.cell 3 1,.di),(.cell 3 2,.nil .bool),(.tmp 8,.box 4),(.cell 4 0,.di),(.cell 4 1,.di),(.cell 4 2,.di),(.cell 4 3,.di)])]
def AjY[Lk]:(List U7×Int×List Bool×Int×Int×Int×Int×Int×Int×Unit)→Option ((List U7×Int×List Bool×Int×Int×Int×Int×Int×Int×Unit)⊕(List U7×Int×List Bool×Int×Int×Int×Int×Int×Unit)⊕Unit):=fun(a0,a1,a2,a3,a4,a5,a6,a7,a8,_)=>
 match(ilt a8 a5)with
 |true=>match idx a2 a8 with|none=>none|some x0=>some (.inl (a0,a1,(AX a2 (AF a8) true),a3,a4,a5,a6,a7,(IntKind.wrap .i64 (a8+1)),()))
 |false=>some (.inr (.inl (a0,a1,a2,a3,a4,a5,a6,a7,())))
def AdQ[Lk]:(((List U7)×Int×(List Bool)×Unit)×Int×Unit)→Option ((List U7×Int×List Bool×Bool×Int×Unit)):=fun(a0,a1,_)=>
 match Pf ((a0.1,(a0.2.1,(a0.2.2.1,()))),a1,())with|none=>none|some (y0,_)=>match(!(ieq y0 0))with
 |true=>some (a0.1,a0.2.1,a0.2.2.1,false,y0,())
 |false=>match idx a0.1 a1 with|none=>none|some x1=>match NC ((x1.1,(x1.2.1,(x1.2.2.1,(x1.2.2.2.1,())))),())with|none=>none|some (y2,_)=>match(ilt a0.2.1 y2)with
 |true=>some (a0.1,a0.2.1,a0.2.2.1,false,5,())
 |false=>match(ilt 0 x1.2.2.2.1)with
 |true=>some (a0.1,a0.2.1,a0.2.2.1,false,5,())
 |false=>match idx a0.2.2.1 x1.1 with|none=>none|some x3=>match x3 with
 |true=>some (a0.1,a0.2.1,a0.2.2.1,false,5,())
 |false=>match HH a0.1 with|none=>none|some x4=>match HH a0.2.2.1 with|none=>none|some x5=>match AL AjY many (x4,a0.2.1,x5,0,x1.1,x1.2.1,x1.2.2.1,x1.2.2.2.1,x1.1,())with|none=>none|some r=>match r with
 |.inl (o6,o7,o8,o9,o10,o11,o12,o13,_)=>match Wy (o6,o12,())with|none=>none|some (y14,y15,_)=>some (y14,o7,o8,y15,0,())
 |.inr _=>none
def Am8[Lk]:=fun v=>Lk.f (AdQ v)
theorem Ajb v:Am8 v=AdQ v:=AB _
def Yw[Lk]:U8→Option (Uc):=fun(a0,_)=>
 match(ile 0 a0)with
 |true=>some ((ile a0 100000),())
 |false=>some (false,())
def RB[Lk]:=fun v=>Lk.f (Yw v)
theorem AMN v:RB v=Yw v:=AB _
def AMH[Lk]:(((List U7)×Int×(List Bool)×Unit)×Int×Unit)→Option (Uc):=fun(a0,a1,_)=>
 match(ile 0 a1)with
 |true=>match(ilt a1 (AH a0.1))with
  |true=>match idx a0.1 a1 with|none=>none|some x0=>match(ieq x0.2.2.2.1 0)with
   |true=>match Vw ((a0.1,(a0.2.1,(a0.2.2.1,()))),a1,())with|none=>none|some (y1,_)=>match y1 with
    |true=>some (true,())
    |false=>match idx a0.1 a1 with|none=>none|some x2=>match idx a0.2.2.1 x2.1 with|none=>none|some x3=>some ((!x3),())
   |false=>some (false,())
  |false=>some (false,())
 |false=>some (false,())
def AS0[Lk]:=fun v=>Lk.f (AMH v)
theorem Abx v:AS0 v=AMH v:=AB _
abbrev Q4:AD:=[(.tmp 0,.dat Vl)]
abbrev Aba:AD:=[(.tmp 1,.box 7),(.cell 0 0,.dat Ve),(.cell 0 1,.di),(.cell 0 2,.dat V1),(.cell 0 3,.dat Ue),(.cell 0 4,.dat .bool),(.cell 0 5,.di),(.cell 0 6,.di),(.tmp 3,.map U0 U0),(.tmp 38,.dat Ue),(.tmp 39,.di),(.tmp 40,.di),(.tmp 44,.dat U6),(.tmp 45,.di),(.tmp 46,.di)]
abbrev AbZ:AW:=[(.ret,[(.tmp 2,.dat .bool)]),(.exit 2,[(.tmp 1,.box 7),(.cell 0 0,.dat Ve),(.cell 0 1,.di),(.cell 0 2,.dat V1),(.cell 0 3,.dat Ue),(.cell 0 4,.dat .bool),(.cell 0 5,.di),(.cell 0 6,.di),(.tmp 3,.map U0 U0),(.tmp 38,.dat Ue),(.tmp 39,.di),(.tmp 40,.di)])]
def AbX[Lk]:(List U7×Int×List Bool×List U5×Bool×Int×Int×List Uz×List U5×Int×Int×List Int×Int×Int×Unit)→Option ((List U7×Int×List Bool×List U5×Bool×Int×Int×List Uz×List U5×Int×Int×List Int×Int×Int×Unit)⊕Uc⊕Vm⊕Unit):=fun(a0,a1,a2,a3,a4,a5,a6,a7,a8,a9,a10,a11,a12,a13,_)=>
 match(ilt a13 a12)with
 |true=>match idx a11 a13 with|none=>none|some x0=>match(ilt 1 ((AR (Ae a7 x0 (IntKind.wrap .i64 (((AR a7 x0).getD 0)+1))) x0).getD 0))with
  |true=>some (.inr (.inl (false,())))
  |false=>match AS0 ((a0,(a1,(a2,()))),x0,())with|none=>none|some (y1,_)=>match(!y1)with
  |true=>some (.inr (.inl (false,())))
  |false=>some (.inl (a0,a1,a2,a3,a4,a5,a6,(Ae a7 x0 (IntKind.wrap .i64 (((AR a7 x0).getD 0)+1))),a8,a9,a10,a11,a12,(IntKind.wrap .i64 (a13+1)),()))
 |false=>some (.inr (.inr (.inl (a0,a1,a2,a3,a4,a5,a6,a7,a8,a9,a10,()))))
abbrev Abb:AD:=[(.tmp 1,.box 7),(.cell 0 0,.dat Ve),(.cell 0 1,.di),(.cell 0 2,.dat V1),(.cell 0 3,.dat Ue),(.cell 0 4,.dat .bool),(.cell 0 5,.di),(.cell 0 6,.di),(.tmp 3,.map U0 U0),(.tmp 38,.dat Ue),(.tmp 39,.di),(.tmp 40,.di)]
def AbY[Lk]:Vm→Option (Vm⊕Uc⊕(Unit)⊕Unit):=fun(a0,a1,a2,a3,a4,a5,a6,a7,a8,a9,a10,_)=>
 match(ilt a10 a9)with
 |true=>match idx a8 a10 with|none=>none|some x0=>match AL AbX many (a0,a1,a2,a3,a4,a5,a6,a7,a8,a9,a10,x0,(AH x0),0,())with|none=>none|some r=>match r with
  |.inl (o1,_)=>some (.inr (.inl (o1,())))
  |.inr r=>match r with
  |.inl (o2,o3,o4,o5,o6,o7,o8,o9,o10,o11,o12,_)=>some (.inl (o2,o3,o4,o5,o6,o7,o8,o9,o10,o11,(IntKind.wrap .i64 (o12+1)),()))
  |.inr _=>none
 |false=>some (.inr (.inr (.inl ())))
def ALw[Lk]:((((List U7)×Int×(List Bool)×Unit)×(List U5)×Bool×Int×Int×Unit)×Unit)→Option (Uc):=fun(a0,_)=>
 match Vv ((a0.1.1,(a0.1.2.1,(a0.1.2.2.1,()))),())with|none=>none|some (y0,_)=>match(!y0)with
 |true=>some (false,())
 |false=>match(ieq (AH a0.2.1) 0)with
 |true=>some (false,())
 |false=>match(ilt 8 (AH a0.2.1))with
 |true=>some (false,())
 |false=>match RB (a0.2.2.2.1,())with|none=>none|some (y1,_)=>match(!y1)with
 |true=>some (false,())
 |false=>match RB (a0.2.2.2.2.1,())with|none=>none|some (y2,_)=>match(!y2)with
 |true=>some (false,())
 |false=>match AL AbY many (a0.1.1,a0.1.2.1,a0.1.2.2.1,a0.2.1,a0.2.2.1,a0.2.2.2.1,a0.2.2.2.2.1,([]:List Uz),a0.2.1,(AH a0.2.1),0,())with|none=>none|some r=>match r with
 |.inl (o3,_)=>some (o3,())
 |.inr r=>match r with
 |.inl _=>some (true,())
 |.inr _=>none
def ASc[Lk]:=fun v=>Lk.f (ALw v)
theorem Abc v:ASc v=ALw v:=AB _
abbrev AMP:AD:=[(.tmp 0,.own 212 Ud),(.tmp 1,.di),(.tmp 2,.own 4 .bool),(.tmp 3,.own 36 U6),(.tmp 4,.dat .bool),(.tmp 5,.di),(.tmp 6,.di),(.tmp 7,.di)]
abbrev AMO:List RS:=[.agg 7,.one]
def AMQ[Lk]:Ug→Option ((List U7×Int×List Bool×List U5×Bool×Int×Int×Int×Unit)):=fun(a0,a1,a2,_)=>
 match(ilt a2 1)with
 |true=>some (([]:List U7),0,([]:List (Bool)),([]:List U5),false,0,0,1,())
 |false=>match(ilt 8 a2)with
 |true=>some (([]:List U7),0,([]:List (Bool)),([]:List U5),false,0,0,1,())
 |false=>match AEq (a0,a1,())with|none=>none|some (y0,y1,y2,y3,_)=>match(!(ieq y3 0))with
 |true=>some (([]:List U7),0,([]:List (Bool)),([]:List U5),false,0,0,y3,())
 |false=>match(Bq a2&&Bq a2&&ile a2 a2&&true)with
 |true=>match idx (Cb (AF a2) ()) (0:Int)with|none=>none|some x4=>match(fits (AH ([0]:List (Int))))with
  |true=>match idx (Cb (AF a2) ()) (0:Int)with|none=>none|some x5=>some (y0,y1,y2,(AX (Cb (List.length (Cb (AF a2) ())) []) 0 ([(0:Int)]:List (Int))),false,(0:Int),(0:Int),(0:Int),())
  |false=>none
 |false=>none
def AS3[Lk]:=fun v=>Lk.f (AMQ v)
theorem Ab1 v:AS3 v=AMQ v:=AB _
abbrev Ah1:AD:=[(.tmp 2,.di),(.tmp 6,.dat Ue),(.tmp 7,.di),(.tmp 8,.di)]
abbrev Ah0:AW:=[(.exit 0,[(.tmp 2,.di)])]
def Ahz[Lk]:(Int×List U5×Int×Int×Unit)→Option ((Int×List U5×Int×Int×Unit)⊕U8⊕Unit):=fun(a0,a1,a2,a3,_)=>
 match(ilt a3 a2)with
 |true=>match idx a1 a3 with|none=>none|some x0=>some (.inl ((IntKind.wrap .i64 (a0+(AH x0))),a1,a2,(IntKind.wrap .i64 (a3+1)),()))
 |false=>some (.inr (.inl (a0,())))
def AWN[Lk]:((((List U7)×Int×(List Bool)×Unit)×(List U5)×Bool×Int×Int×Unit)×Unit)→Option (U8):=fun(a0,_)=>
 match AL Ahz many (0,a0.2.1,(AH a0.2.1),0,())with|none=>none|some r=>match r with
 |.inl (o0,_)=>some (o0,())
 |.inr _=>none
def Ah3[Lk]:=fun v=>Lk.f (AWN v)
theorem Ah2 v:Ah3 v=AWN v:=AB _
abbrev Nk:AD:=[(.tmp 0,.box 11),(.cell 0 0,.dat Ve),(.cell 0 1,.di),(.cell 0 2,.dat V1),(.cell 0 3,.own 36 U6),(.cell 0 4,.dat .bool),(.cell 0 5,.di),(.cell 0 6,.di),(.cell 0 7,.di),(.cell 0 8,.di),(.cell 0 9,.di),(.cell 0 10,.dat .bool),(.tmp 1,.di)]
abbrev Nj:AD:=[(.obj 0,.box 11),(.cell 0 0,.dat Ve),(.cell 0 1,.di),(.cell 0 2,.dat V1),(.cell 0 3,.own 36 U6),(.cell 0 4,.dat .bool),(.cell 0 5,.di),(.cell 0 6,.di),(.cell 0 7,.di),(.cell 0 8,.di),(.cell 0 9,.di),(.cell 0 10,.dat .bool),(.obj 1,.own' 1),(.tmp 0,.di)]
def ADD[Lk]:V8→Option (V8):=fun(a0,a1,a2,a3,a4,a5,a6,a7,a8,a9,a10,a11,_)=>
 match rem? a11 (AH a3)with|none=>none|some x0=>match rem? (IntKind.wrap .i64 (x0+(AH a3))) (AH a3)with|none=>none|some x1=>some (a0,a1,a2,a3,a4,a5,a6,a7,a8,a9,a10,x1,())
def WR[Lk]:=fun v=>Lk.f (ADD v)
theorem ASt v:WR v=ADD v:=AB _
abbrev AML:AD:=[(.tmp 0,.box 11),(.cell 0 0,.dat Ve),(.cell 0 1,.di),(.cell 0 2,.dat V1),(.cell 0 3,.own 36 U6),(.cell 0 4,.dat .bool),(.cell 0 5,.di),(.cell 0 6,.di),(.cell 0 7,.di),(.cell 0 8,.di),(.cell 0 9,.di),(.cell 0 10,.dat .bool),(.tmp 1,.di),(.tmp 2,.di)]
abbrev AMK:AD:=[(.obj 0,.box 11),(.cell 0 0,.dat Ve),(.cell 0 1,.di),(.cell 0 2,.dat V1),(.cell 0 3,.own 36 U6),(.cell 0 4,.dat .bool),(.cell 0 5,.di),(.cell 0 6,.di),(.cell 0 7,.di),(.cell 0 8,.di),(.cell 0 9,.di),(.cell 0 10,.dat .bool),(.obj 1,.own' 1),(.tmp 0,.dat .bool)]
def AMM[Lk]:(List U7×Int×List Bool×List U5×Bool×Int×Int×Int×Int×Int×Bool×Int×Int×Unit)→Option ((List U7×Int×List Bool×List U5×Bool×Int×Int×Int×Int×Int×Bool×Bool×Unit)):=fun(a0,a1,a2,a3,a4,a5,a6,a7,a8,a9,a10,a11,a12,_)=>
 match idx a3 a11 with|none=>none|some x0=>match idx a3 a12 with|none=>none|some x1=>match(ile 0 (IntKind.wrap .i64 ((AH (AJ a3 (AF a11) ([]:List (Int))))-1)))with
 |true=>match idx (AJ a3 (AF a11) ([]:List (Int))) (IntKind.wrap .i64 ((AH (AJ a3 (AF a11) ([]:List (Int))))-1))with|none=>none|some x2=>match(ieq (IntKind.wrap .i64 ((AH (AJ a3 (AF a11) ([]:List (Int))))-1)) (IntKind.wrap .i64 ((AH (AJ a3 (AF a11) ([]:List (Int))))-1)))with
  |true=>match CE (AJ a3 (AF a11) ([]:List (Int))) 0 (IntKind.wrap .i64 ((AH (AJ a3 (AF a11) ([]:List (Int))))-1))with|none=>none|some x3=>match idx a3 a11 with|none=>none|some x4=>some (a0,a1,a2,(AX a3 (AF a11) x3),a4,a5,a6,a7,a11,x2,a10,true,())
  |false=>none
 |false=>match(ilt 0 (AH (AJ a3 (AF a12) ([]:List (Int)))))with
 |true=>match idx (AJ a3 (AF a12) ([]:List (Int))) 0 with|none=>none|some x5=>match CE (AJ a3 (AF a12) ([]:List (Int))) 1 (AH (AJ a3 (AF a12) ([]:List (Int))))with|none=>none|some x6=>match idx a3 a12 with|none=>none|some x7=>some (a0,a1,a2,(AX a3 (AF a12) x6),a4,a5,a6,a7,a12,x5,a10,true,())
 |false=>some (a0,a1,a2,a3,a4,a5,a6,a7,a8,a9,a10,false,())
def AS1[Lk]:=fun v=>Lk.f (AMM v)
theorem Ab0 v:AS1 v=AMM v:=AB _
def Amo[Lk]:V8→Option (V8):=fun(a0,a1,a2,a3,a4,a5,a6,a7,a8,a9,a10,a11,_)=>
 match Vw ((a0,(a1,(a2,()))),a9,())with|none=>none|some (y0,_)=>match y0 with
 |true=>match APE ((a0,(a1,(a2,()))),a9,())with|none=>none|some (y1,y2,y3,y4,y5,y6,_)=>match(ieq y6 0)with
  |true=>match idx a3 a11 with|none=>none|some x7=>match(fits ((AH (AJ a3 (AF a11) ([]:List (Int))))+(AH ([y5,y4]:List (Int)))))with
   |true=>match idx a3 a11 with|none=>none|some x8=>some (y1,y2,y3,(AX a3 (AF a11) (Ai (AJ a3 (AF a11) ([]:List (Int))) ([y5,y4]:List (Int)))),a4,a5,a6,a7,a8,a9,true,y6,())
   |false=>none
  |false=>some (y1,y2,y3,a3,a4,a5,a6,a7,a8,a9,a10,y6,())
 |false=>match Am8 ((a0,(a1,(a2,()))),a9,())with|none=>none|some (y9,y10,y11,y12,y13,_)=>match a4 with
 |true=>some (y9,y10,y11,a3,true,a5,a6,a7,a8,a9,a10,y13,())
 |false=>some (y9,y10,y11,a3,y12,a5,a6,a7,a8,a9,a10,y13,())
def cgo[Lk]:=fun v=>Lk.f (Amo v)
theorem AoW v:cgo v=Amo v:=AB _
abbrev AWK:AD:=[(.tmp 0,.dat Vl),(.tmp 1,.di),(.tmp 2,.di)]
abbrev AWJ:AD:=[(.tmp 0,.dat Ve),(.tmp 1,.di),(.tmp 2,.dat V1),(.tmp 3,.dat Ue),(.tmp 4,.dat .bool),(.tmp 5,.di),(.tmp 6,.di),(.tmp 7,.dat U2),(.tmp 8,.di)]
abbrev AWI:List RS:=[.agg 7,.one,.one]
def AWL[Lk]:((((List U7)×Int×(List Bool)×Unit)×(List U5)×Bool×Int×Int×Unit)×Int×Int×Unit)→Option ((List U7×Int×List Bool×List U5×Bool×Int×Int×U1×Int×Unit)):=fun(a0,a1,a2,_)=>
 match ASc (((a0.1.1,(a0.1.2.1,(a0.1.2.2.1,()))),(a0.2.1,(a0.2.2.1,(a0.2.2.2.1,(a0.2.2.2.2.1,()))))),())with|none=>none|some (y0,_)=>match(!y0)with
 |true=>some (a0.1.1,a0.1.2.1,a0.1.2.2.1,a0.2.1,a0.2.2.1,a0.2.2.2.1,a0.2.2.2.2.1,(0,(0,(0,(false,())))),1,())
 |false=>match(ieq a0.2.2.2.1 100000)with
 |true=>some (a0.1.1,a0.1.2.1,a0.1.2.2.1,a0.2.1,a0.2.2.1,a0.2.2.2.1,a0.2.2.2.2.1,(0,(0,(0,(false,())))),2,())
 |false=>match HH a0.2.1 with|none=>none|some x1=>match WR (a0.1.1,a0.1.2.1,a0.1.2.2.1,x1,a0.2.2.1,a0.2.2.2.1,a0.2.2.2.2.1,0,(-1:Int),(-1:Int),false,a1,())with|none=>none|some (y2,y3,y4,y5,y6,y7,y8,y9,y10,y11,y12,y13,_)=>match WR (y2,y3,y4,y5,y6,y7,y8,y9,y10,y11,y12,a2,())with|none=>none|some (y14,y15,y16,y17,y18,y19,y20,y21,y22,y23,y24,y25,_)=>match AS1 (y14,y15,y16,y17,y18,(IntKind.wrap .i64 (y19+1)),y20,y13,y22,y23,y24,y13,y25,())with|none=>none|some (y26,y27,y28,y29,y30,y31,y32,y33,y34,y35,y36,y37,_)=>match y37 with
 |true=>match cgo (y26,y27,y28,y29,y30,y31,y32,y33,y34,y35,y36,y13,())with|none=>none|some (y38,y39,y40,y41,y42,y43,y44,y45,y46,y47,y48,y49,_)=>match(!(ieq y49 0))with
  |true=>some (a0.1.1,a0.1.2.1,a0.1.2.2.1,a0.2.1,a0.2.2.1,a0.2.2.2.1,a0.2.2.2.2.1,(0,(0,(0,(false,())))),y49,())
  |false=>some (y38,y39,y40,y41,y42,y43,y44,(y45,(y46,(y47,(y48,())))),0,())
 |false=>match(ieq y32 100000)with
 |true=>some (a0.1.1,a0.1.2.1,a0.1.2.2.1,a0.2.1,a0.2.2.1,a0.2.2.2.1,a0.2.2.2.2.1,(0,(0,(0,(false,())))),2,())
 |false=>some (y26,y27,y28,y29,y30,y31,(IntKind.wrap .i64 (y32+1)),(y33,(y34,(y35,(y36,())))),0,())
def Ahm[Lk]:=fun v=>Lk.f (AWL v)
theorem Ahl v:Ahm v=AWL v:=AB _
abbrev AV8:AD:=[(.tmp 0,.box 8),(.cell 0 0,.dat Ve),(.cell 0 1,.di),(.cell 0 2,.dat V1),(.cell 0 3,.dat Ue),(.cell 0 4,.dat .bool),(.cell 0 5,.di),(.cell 0 6,.di),(.cell 0 7,.own 278 U2),(.tmp 1,.di),(.tmp 2,.di)]
abbrev WQ:AD:=[(.obj 0,.box 8),(.cell 0 0,.dat Ve),(.cell 0 1,.di),(.cell 0 2,.dat V1),(.cell 0 3,.dat Ue),(.cell 0 4,.dat .bool),(.cell 0 5,.di),(.cell 0 6,.di),(.cell 0 7,.own 278 U2),(.tmp 0,.di)]
def AV9[Lk]:(List U7×Int×List Bool×List U5×Bool×Int×Int×List U1×Int×Int×Unit)→Option (Un):=fun(a0,a1,a2,a3,a4,a5,a6,a7,a8,a9,_)=>
 match Ahm (((a0,(a1,(a2,()))),(a3,(a4,(a5,(a6,()))))),a8,a9,())with|none=>none|some (y0,y1,y2,y3,y4,y5,y6,y7,y8,_)=>match(ieq y8 0)with
 |true=>match(fits ((AH a7)+(AH ([(y7.1,(y7.2.1,(y7.2.2.1,(y7.2.2.2.1,()))))]:List U1))))with
  |true=>some (y0,y1,y2,y3,y4,y5,y6,(Ai a7 ([(y7.1,(y7.2.1,(y7.2.2.1,(y7.2.2.2.1,()))))]:List U1)),y8,())
  |false=>none
 |false=>some (a0,a1,a2,a3,a4,a5,a6,a7,y8,())
def AWA[Lk]:=fun v=>Lk.f (AV9 v)
theorem AhV v:AWA v=AV9 v:=AB _
abbrev AC0:AD:=[(.tmp 0,.box 8),(.cell 0 0,.dat Ve),(.cell 0 1,.di),(.cell 0 2,.dat V1),(.cell 0 3,.dat Ue),(.cell 0 4,.dat .bool),(.cell 0 5,.di),(.cell 0 6,.di),(.cell 0 7,.own 278 U2)]
abbrev ASG:AD:=[(.obj 0,.box 8),(.cell 0 0,.dat Ve),(.cell 0 1,.di),(.cell 0 2,.dat V1),(.cell 0 3,.dat Ue),(.cell 0 4,.dat .bool),(.cell 0 5,.di),(.cell 0 6,.di),(.cell 0 7,.own 278 U2),(.tmp 0,.ptr' 0 0),(.tmp 3,.di),(.tmp 13,.di),(.tmp 14,.di)]
abbrev ASE:AW:=[(.ret,[(.obj 0,.box 8),(.cell 0 0,.dat Ve),(.cell 0 1,.di),(.cell 0 2,.dat V1),(.cell 0 3,.dat Ue),(.cell 0 4,.dat .bool),(.cell 0 5,.di),(.cell 0 6,.di),(.cell 0 7,.own 278 U2),(.tmp 2,.di)]),(.exit 2,[(.obj 0,.box 8),(.cell 0 0,.dat Ve),(.cell 0 1,.di),(.cell 0 2,.dat V1),(.cell 0 3,.dat Ue),(.cell 0 4,.dat .bool),(.cell 0 5,.di),(.cell 0 6,.di),(.cell 0 7,.own 278 U2),(.tmp 0,.ptr' 0 0),(.tmp 3,.di)])]
def ASC[Lk]:(List U7×Int×List Bool×List U5×Bool×Int×Int×List U1×Int×Int×Int×Unit)→Option ((List U7×Int×List Bool×List U5×Bool×Int×Int×List U1×Int×Int×Int×Unit)⊕Un⊕Un⊕Unit):=fun(a0,a1,a2,a3,a4,a5,a6,a7,a8,a9,a10,_)=>
 match(ilt a10 a9)with
 |true=>match a4 with
  |true=>some (.inr (.inl (a0,a1,a2,a3,a4,a5,a6,a7,0,())))
  |false=>match Ah3 (((a0,(a1,(a2,()))),(a3,(a4,(a5,(a6,()))))),())with|none=>none|some (y0,_)=>match(ieq y0 0)with
  |true=>some (.inr (.inl (a0,a1,a2,a3,a4,a5,a6,a7,4,())))
  |false=>match AWA (a0,a1,a2,a3,a4,a5,a6,a7,a10,(IntKind.wrap .i64 ((IntKind.wrap .i64 (a10+1))+a8)),())with|none=>none|some (y1,y2,y3,y4,y5,y6,y7,y8,y9,_)=>match(!(ieq y9 0))with
  |true=>some (.inr (.inl (y1,y2,y3,y4,y5,y6,y7,y8,y9,())))
  |false=>some (.inl (y1,y2,y3,y4,y5,y6,y7,y8,a8,a9,(IntKind.wrap .i64 (a10+1)),()))
 |false=>some (.inr (.inr (.inl (a0,a1,a2,a3,a4,a5,a6,a7,a8,()))))
abbrev ASH:AD:=[(.obj 0,.box 8),(.cell 0 0,.dat Ve),(.cell 0 1,.di),(.cell 0 2,.dat V1),(.cell 0 3,.dat Ue),(.cell 0 4,.dat .bool),(.cell 0 5,.di),(.cell 0 6,.di),(.cell 0 7,.own 278 U2),(.tmp 0,.ptr' 0 0),(.tmp 3,.di)]
abbrev ASF:AW:=[(.ret,[(.obj 0,.box 8),(.cell 0 0,.dat Ve),(.cell 0 1,.di),(.cell 0 2,.dat V1),(.cell 0 3,.dat Ue),(.cell 0 4,.dat .bool),(.cell 0 5,.di),(.cell 0 6,.di),(.cell 0 7,.own 278 U2),(.tmp 2,.di)])]
def ASD[Lk]:Un→Option (Un⊕Un⊕Unit):=fun(a0,a1,a2,a3,a4,a5,a6,a7,a8,_)=>
 match AL ASC many (a0,a1,a2,a3,a4,a5,a6,a7,a8,(AH a3),0,())with|none=>none|some r=>match r with
 |.inl (o0,o1,o2,o3,o4,o5,o6,o7,o8,_)=>some (.inr (.inl (o0,o1,o2,o3,o4,o5,o6,o7,o8,())))
 |.inr r=>match r with
 |.inl (o9,o10,o11,o12,o13,o14,o15,o16,o17,_)=>some (.inl (o9,o10,o11,o12,o13,o14,o15,o16,(IntKind.wrap .i64 (o17+1)),()))
 |.inr _=>none
def AC1[Lk]:(List U7×Int×List Bool×List U5×Bool×Int×Int×List U1×Unit)→Option (Un):=fun(a0,a1,a2,a3,a4,a5,a6,a7,_)=>
 match AL ASD many (a0,a1,a2,a3,a4,a5,a6,a7,0,())with|none=>none|some r=>match r with
 |.inl (o0,o1,o2,o3,o4,o5,o6,o7,o8,_)=>some (o0,o1,o2,o3,o4,o5,o6,o7,o8,())
 |.inr _=>none
def AGO[Lk]:=fun v=>Lk.f (AC1 v)
theorem ASI v:AGO v=AC1 v:=AB _
abbrev ALm:AD:=[(.tmp 0,.di),(.tmp 1,.di),(.tmp 2,.di),(.tmp 3,.dat (.slice (.arr 2 U0)))]
abbrev ALl:AD:=[(.tmp 0,.dat Vl),(.tmp 1,.own 278 U2),(.tmp 2,.di)]
abbrev AbE:AD:=[(.tmp 8,.box 7),(.cell 0 0,.nil Ud),(.cell 0 1,.di),(.cell 0 2,.nil .bool),(.cell 0 3,.nil U6),(.cell 0 4,.dat .bool),(.cell 0 5,.di),(.cell 0 6,.di),(.tmp 13,.box 8),(.cell 1 0,.dat Ve),(.cell 1 1,.di),(.cell 1 2,.dat V1),(.cell 1 3,.dat Ue),(.cell 1 4,.dat .bool),(.cell 1 5,.di),(.cell 1 6,.di),(.cell 1 7,.own 278 U2),(.tmp 31,.dat (.slice (.arr 2 U0))),(.tmp 32,.di),(.tmp 33,.di)]
abbrev AbD:AW:=[(.exit 0,[(.tmp 8,.box 7),(.cell 0 0,.nil Ud),(.cell 0 1,.di),(.cell 0 2,.nil .bool),(.cell 0 3,.nil U6),(.cell 0 4,.dat .bool),(.cell 0 5,.di),(.cell 0 6,.di),(.tmp 13,.box 8),(.cell 1 0,.dat Ve),(.cell 1 1,.di),(.cell 1 2,.dat V1),(.cell 1 3,.dat Ue),(.cell 1 4,.dat .bool),(.cell 1 5,.di),(.cell 1 6,.di),(.cell 1 7,.own 278 U2)]),(.ret,[(.tmp 8,.box 7),(.cell 0 0,.dat Ve),(.cell 0 1,.di),(.cell 0 2,.dat V1),(.cell 0 3,.dat Ue),(.cell 0 4,.dat .bool),(.cell 0 5,.di),(.cell 0 6,.di),(.tmp 9,.own 278 U2),(.tmp 10,.di)])]
def AbC[Lk]:(Int×Bool×Int×Int×List U7×Int×List Bool×List U5×Bool×Int×Int×List U1×List U5×Int×Int×Unit)→Option ((Int×Bool×Int×Int×List U7×Int×List Bool×List U5×Bool×Int×Int×List U1×List U5×Int×Int×Unit)⊕(Int×Bool×Int×Int×List U7×Int×List Bool×List U5×Bool×Int×Int×List U1×Unit)⊕Un⊕Unit):=fun(a0,a1,a2,a3,a4,a5,a6,a7,a8,a9,a10,a11,a12,a13,a14,_)=>
 match(ilt a14 a13)with
 |true=>match idx a12 a14 with|none=>none|some x0=>match a8 with
  |true=>some (.inr (.inl (a0,a1,a2,a3,a4,a5,a6,a7,a8,a9,a10,a11,())))
  |false=>match AWA (a4,a5,a6,a7,a8,a9,a10,a11,(AJ x0 0 0),(AJ x0 1 0),())with|none=>none|some (y1,y2,y3,y4,y5,y6,y7,y8,y9,_)=>match(!(ieq y9 0))with
  |true=>some (.inr (.inr (.inl (y1,y2,y3,y4,y5,y6,y7,y8,y9,()))))
  |false=>some (.inl (a0,a1,a2,a3,y1,y2,y3,y4,y5,y6,y7,y8,a12,a13,(IntKind.wrap .i64 (a14+1)),()))
 |false=>some (.inr (.inl (a0,a1,a2,a3,a4,a5,a6,a7,a8,a9,a10,a11,())))
def ALn[Lk]:(Int×Int×Int×List U5×Unit)→Option (((((List U7)×Int×(List Bool)×Unit)×(List U5)×Bool×Int×Int×Unit)×List U1×Int×Unit)):=fun(a0,a1,a2,a3,_)=>
 match AS3 (a0,a1,a2,())with|none=>none|some (y0,y1,y2,y3,y4,y5,y6,y7,_)=>match(!(ieq y7 0))with
 |true=>some (((([]:List U7),(0,(([]:List (Bool)),()))),(([]:List U5),(false,(0,(0,()))))),([]:List U1),y7,())
 |false=>match AL AbC many (0,false,0,0,y0,y1,y2,y3,y4,y5,y6,([]:List U1),a3,(AH a3),0,())with|none=>none|some r=>match r with
 |.inl (o8,o9,o10,o11,o12,o13,o14,o15,o16,o17,o18,o19,_)=>match AGO (o12,o13,o14,o15,o16,o17,o18,o19,())with|none=>none|some (y20,y21,y22,y23,y24,y25,y26,y27,y28,_)=>some (((y20,(y21,(y22,()))),(y23,(y24,(y25,(y26,()))))),y27,y28,())
 |.inr r=>match r with
 |.inl (o29,o30,o31,o32,o33,o34,o35,o36,o37,_)=>some (((o29,(o30,(o31,()))),(o32,(o33,(o34,(o35,()))))),o36,o37,())
 |.inr _=>none
def ASB[Lk]:=fun v=>Lk.f (ALn v)
theorem AbF v:ASB v=ALn v:=AB _
abbrev AC3:AD:=[(.tmp 0,.dat Vl),(.tmp 1,.dat Uy)]
abbrev AC2:AD:=[(.tmp 0,.own 206 U4)]
abbrev ASN:AD:=[(.tmp 2,.box 7),(.cell 0 0,.dat Ve),(.cell 0 1,.di),(.cell 0 2,.dat V1),(.cell 0 3,.dat Ue),(.cell 0 4,.dat .bool),(.cell 0 5,.di),(.cell 0 6,.di),(.tmp 5,.own 206 U4),(.tmp 9,.dat Uy),(.tmp 10,.di),(.tmp 11,.di)]
abbrev ASM:AW:=[(.exit 0,[(.tmp 5,.own 206 U4)])]
def ASL[Lk]:(List U7×Int×List Bool×List U5×Bool×Int×Int×List U3×List U1×Int×Int×Unit)→Option ((List U7×Int×List Bool×List U5×Bool×Int×Int×List U3×List U1×Int×Int×Unit)⊕Ux⊕Unit):=fun(a0,a1,a2,a3,a4,a5,a6,a7,a8,a9,a10,_)=>
 match(ilt a10 a9)with
 |true=>match idx a8 a10 with|none=>none|some x0=>match x0.2.2.2.1 with
  |true=>some (.inl (a0,a1,a2,a3,a4,a5,a6,a7,a8,a9,(IntKind.wrap .i64 (a10+1)),()))
  |false=>match(ilt x0.2.2.1 0)with
  |true=>some (.inl (a0,a1,a2,a3,a4,a5,a6,a7,a8,a9,(IntKind.wrap .i64 (a10+1)),()))
  |false=>match(ile (AH a0) x0.2.2.1)with
  |true=>some (.inl (a0,a1,a2,a3,a4,a5,a6,a7,a8,a9,(IntKind.wrap .i64 (a10+1)),()))
  |false=>match idx a0 x0.2.2.1 with|none=>none|some x1=>match(fits ((AH a7)+(AH ([(x1.1,(x1.2.1,()))]:List U3))))with
  |true=>some (.inl (a0,a1,a2,a3,a4,a5,a6,(Ai a7 ([(x1.1,(x1.2.1,()))]:List U3)),a8,a9,(IntKind.wrap .i64 (a10+1)),()))
  |false=>none
 |false=>some (.inr (.inl (a7,())))
def AC4[Lk]:((((List U7)×Int×(List Bool)×Unit)×(List U5)×Bool×Int×Int×Unit)×List U1×Unit)→Option (Ux):=fun(a0,a1,_)=>
 match AL ASL many (a0.1.1,a0.1.2.1,a0.1.2.2.1,a0.2.1,a0.2.2.1,a0.2.2.2.1,a0.2.2.2.2.1,([]:List U3),a1,(AH a1),0,())with|none=>none|some r=>match r with
 |.inl (o0,_)=>some (o0,())
 |.inr _=>none
def AGP[Lk]:=fun v=>Lk.f (AC4 v)
theorem ASO v:AGP v=AC4 v:=AB _
abbrev ALL:AD:=[(.tmp 0,.dat Us)]
def ALM[Lk]:(V0×Unit)→Option (Uc):=fun(a0,_)=>
 match(ile 1 a0.1)with
 |true=>match(ile a0.1 100)with
  |true=>match(ile 1 a0.2.1)with
   |true=>match(ile a0.2.1 8)with
    |true=>some ((ile (AH a0.2.2.1) 4000),())
    |false=>some (false,())
   |false=>some (false,())
  |false=>some (false,())
 |false=>some (false,())
def ARx[Lk]:=fun v=>Lk.f (ALM v)
theorem Aau v:ARx v=ALM v:=AB _
abbrev ALO:AD:=[(.tmp 0,.di),(.tmp 1,.dat Us)]
abbrev Bc:AD:=[(.tmp 0,.own 3 U0),(.tmp 1,.di),(.tmp 2,.di)]
abbrev Aaz:AD:=[(.tmp 8,.own 278 U2),(.tmp 10,.own 3 U0),(.tmp 12,.box 2),(.cell 2 0,.di),(.cell 2 1,.di),(.tmp 44,.own 206 U4),(.tmp 45,.di),(.tmp 46,.di),(.tmp 54,.di),(.tmp 55,.di)]
abbrev Aax:AW:=[(.exit 2,[(.tmp 8,.own 278 U2),(.tmp 10,.own 3 U0),(.tmp 44,.own 206 U4),(.tmp 45,.di),(.tmp 46,.di)])]
def Aav[Lk]:(List U1×List Int×Int×Int×List U3×Int×Int×Int×Int×Unit)→Option ((List U1×List Int×Int×Int×List U3×Int×Int×Int×Int×Unit)⊕(List U1×List Int×List U3×Int×Int×Unit)⊕Unit):=fun(a0,a1,a2,a3,a4,a5,a6,a7,a8,_)=>
 match(ilt a8 a7)with
 |true=>match(fits ((AH a1)+(AH ([(IntKind.wrap .i64 (a2+a8))]:List (Int)))))with
  |true=>some (.inl (a0,(Ai a1 ([(IntKind.wrap .i64 (a2+a8))]:List (Int))),a2,a3,a4,a5,a6,a7,(IntKind.wrap .i64 (a8+1)),()))
  |false=>none
 |false=>some (.inr (.inl (a0,a1,a4,a5,a6,())))
abbrev Aa0:AD:=[(.tmp 8,.own 278 U2),(.tmp 10,.own 3 U0),(.tmp 44,.own 206 U4),(.tmp 45,.di),(.tmp 46,.di)]
abbrev Aay:AW:=[(.exit 0,[(.tmp 8,.own 278 U2),(.tmp 10,.own 3 U0)])]
def Aaw[Lk]:(List U1×List Int×List U3×Int×Int×Unit)→Option ((List U1×List Int×List U3×Int×Int×Unit)⊕(List U1×List Int×Unit)⊕Unit):=fun(a0,a1,a2,a3,a4,_)=>
 match(ilt a4 a3)with
 |true=>match idx a2 a4 with|none=>none|some x0=>match AL Aav many (a0,a1,(AJ a2 (AF a4) (0,(0,()))).1,(AJ a2 (AF a4) (0,(0,()))).2.1,a2,a3,a4,(IntKind.wrap .i64 ((AJ a2 (AF a4) (0,(0,()))).2.1-(AJ a2 (AF a4) (0,(0,()))).1)),0,())with|none=>none|some r=>match r with
  |.inl (o1,o2,o3,o4,o5,_)=>some (.inl (o1,o2,o3,o4,(IntKind.wrap .i64 (o5+1)),()))
  |.inr _=>none
 |false=>some (.inr (.inl (a0,a1,())))
def ALP[Lk]:(Int×V0×Unit)→Option (Ub):=fun(a0,a1,_)=>
 match(ilt a0 0)with
 |true=>some (([]:List (Int)),0,1,())
 |false=>match(ilt 1000 a0)with
 |true=>some (([]:List (Int)),0,1,())
 |false=>match ARx ((a1.1,(a1.2.1,(a1.2.2.1,()))),())with|none=>none|some (y0,_)=>match(!y0)with
 |true=>some (([]:List (Int)),0,1,())
 |false=>match(ieq a0 0)with
 |true=>some (([]:List (Int)),0,0,())
 |false=>match ASB (a0,a1.1,a1.2.1,a1.2.2.1,())with|none=>none|some (y1,y2,y3,_)=>match(!(ieq y3 0))with
 |true=>some (([]:List (Int)),0,y3,())
 |false=>match AGP (((y1.1.1,(y1.1.2.1,(y1.1.2.2.1,()))),(y1.2.1,(y1.2.2.1,(y1.2.2.2.1,(y1.2.2.2.2.1,()))))),y2,())with|none=>none|some (y4,_)=>match AL Aaw many (y2,([]:List (Int)),y4,(AH y4),0,())with|none=>none|some r=>match r with
 |.inl (o5,o6,_)=>some (o6,(AH o5),0,())
 |.inr _=>none
def AGE[Lk]:=fun v=>Lk.f (ALP v)
theorem Aa1 v:AGE v=ALP v:=AB _
def AIu[Lk]:U8→Option (Uc):=fun(a0,_)=>
 match(ile 1 a0)with
 |true=>some ((ile a0 100),())
 |false=>some (false,())
def AEv[Lk]:=fun v=>Lk.f (AIu v)
theorem AYI v:AEv v=AIu v:=AB _
def AB1[Lk]:U3→Option (U8):=fun(a0,a1,_)=>
 match(ilt a0 0)with
 |true=>some (0,())
 |false=>match(ilt 1000 a0)with
 |true=>some (0,())
 |false=>match AEv (a1,())with|none=>none|some (y0,_)=>match(!y0)with
 |true=>some (0,())
 |false=>match quo? .i64 (IntKind.wrap .i64 ((IntKind.wrap .i64 (a0+a1))-1)) a1 with|none=>none|some x1=>some (x1,())
def AE9[Lk]:=fun v=>Lk.f (AB1 v)
theorem APg v:AE9 v=AB1 v:=AB _
abbrev AUW:AD:=[(.tmp 0,.dat V6),(.tmp 1,.di),(.tmp 2,.di)]
def AUX[Lk]:Ub→Option (Ua):=fun(a0,a1,a2,_)=>
 match CE a0 (IntKind.wrap .i64 (a1*a2)) (Bs (AH a0) (IntKind.wrap .i64 ((IntKind.wrap .i64 (a1+1))*a2)))with|none=>none|some x0=>some (x0,())
def AUY[Lk]:=fun v=>Lk.f (AUX v)
theorem Adf v:AUY v=AUX v:=AB _
abbrev AJO:AD:=[(.tmp 0,.dat V6),(.tmp 1,.clo 327 [])]
abbrev AJN:AD:=[(.tmp 0,.own 96 Uj),(.tmp 1,.dat Uj)]
abbrev AYn:AD:=[(.tmp 1,.clo 327 []),(.tmp 6,.own 96 Uj),(.tmp 7,.dat Uj),(.tmp 13,.dat V6),(.tmp 14,.di),(.tmp 15,.di)]
abbrev AYm:AW:=[(.exit 0,[(.tmp 6,.own 96 Uj),(.tmp 7,.dat Uj)])]
def AYl[Lk]:(List Int×Int×List Int×Int×Int×Unit)→Option ((List Int×Int×List Int×Int×Int×Unit)⊕Uh⊕Unit):=fun(a0,a1,a2,a3,a4,_)=>
 match(ilt a4 a3)with
 |true=>match idx a2 a4 with|none=>none|some x0=>match idx a0 a4 with|none=>none|some x1=>some (.inl ((AX a0 (AF a4) a1),(IntKind.wrap .u32 (a1+x0)),a2,a3,(IntKind.wrap .i64 (a4+1)),()))
 |false=>some (.inr (.inl (a0,a1,())))
def AJP[Lk]:Ua→Option (Uh):=fun(a0,_)=>
 match(Bq (AH a0)&&Bq (AH a0)&&ile (AH a0) (AH a0)&&true)with
 |true=>match AL AYl many ((Cb (AF (AH a0)) (0:Int)),(0:Int),a0,(AH a0),(0:Int),())with|none=>none|some r=>match r with
  |.inl (o0,o1,_)=>some (o0,o1,())
  |.inr _=>none
 |false=>none
def XJ[Lk]:=fun v=>Lk.f (AJP v)
theorem AYo v:XJ v=AJP v:=AB _
abbrev ABt:AD:=[(.tmp 0,.dat V6),(.tmp 1,.di),(.tmp 2,.dat Us),(.tmp 3,.clo 327 [])]
abbrev NG:AD:=[(.tmp 0,.own 96 Uj),(.tmp 1,.dat Uj),(.tmp 2,.di),(.tmp 3,.di)]
abbrev APW:AD:=[(.tmp 0,.dat V6),(.tmp 1,.di),(.tmp 3,.clo 327 []),(.tmp 8,.own 96 Uj),(.tmp 9,.dat Uj),(.tmp 10,.di),(.tmp 17,.own 96 Uj),(.tmp 19,.di),(.tmp 76,.own 3 U0),(.tmp 77,.di),(.tmp 78,.di),(.tmp 91,.own 96 Uj),(.tmp 92,.di),(.tmp 93,.di)]
abbrev APT:AW:=[(.exit 4,[(.tmp 0,.dat V6),(.tmp 1,.di),(.tmp 3,.clo 327 []),(.tmp 8,.own 96 Uj),(.tmp 9,.dat Uj),(.tmp 10,.di),(.tmp 17,.own 96 Uj),(.tmp 76,.own 3 U0),(.tmp 77,.di),(.tmp 78,.di)])]
def APQ[Lk]:(List Int×Int×List Int×Int×Int×List Int×Int×List Int×Int×Int×List Int×Int×Int×Unit)→Option ((List Int×Int×List Int×Int×Int×List Int×Int×List Int×Int×Int×List Int×Int×Int×Unit)⊕(List Int×Int×List Int×Int×Int×List Int×List Int×Int×Int×Unit)⊕Unit):=fun(a0,a1,a2,a3,a4,a5,a6,a7,a8,a9,a10,a11,a12,_)=>
 match(ilt a12 a11)with
 |true=>match idx a10 a12 with|none=>none|some x0=>match idx a5 a6 with|none=>none|some x1=>match idx a2 (IntKind.wrap .i64 ((IntKind.wrap .i64 (a6*a1))+a12))with|none=>none|some x2=>some (.inl (a0,a1,(AX a2 (AF (IntKind.wrap .i64 ((IntKind.wrap .i64 (a6*a1))+a12))) (IntKind.wrap .u32 ((AJ a5 (AF a6) 0)+(AJ a10 (AF a12) 0)))),a3,a4,a5,a6,a7,a8,a9,a10,a11,(IntKind.wrap .i64 (a12+1)),()))
 |false=>some (.inr (.inl (a0,a1,a2,a3,a4,a5,a7,a8,a9,())))
abbrev APX:AD:=[(.tmp 0,.dat V6),(.tmp 1,.di),(.tmp 3,.clo 327 []),(.tmp 8,.own 96 Uj),(.tmp 9,.dat Uj),(.tmp 10,.di),(.tmp 17,.own 96 Uj),(.tmp 76,.own 3 U0),(.tmp 77,.di),(.tmp 78,.di)]
abbrev APU:AW:=[(.exit 2,[(.tmp 8,.own 96 Uj),(.tmp 9,.dat Uj),(.tmp 10,.di)])]
def APR[Lk]:(List Int×Int×List Int×Int×Int×List Int×List Int×Int×Int×Unit)→Option ((List Int×Int×List Int×Int×Int×List Int×List Int×Int×Int×Unit)⊕Ub⊕Unit):=fun(a0,a1,a2,a3,a4,a5,a6,a7,a8,_)=>
 match(ilt a8 a7)with
 |true=>match idx a6 a8 with|none=>none|some x0=>match AUY (a0,(AJ a6 (AF a8) 0),a1,())with|none=>none|some (y1,_)=>match XJ (y1,())with|none=>none|some (y2,y3,_)=>match AL APQ many (a0,a1,a2,a3,a4,a5,(AJ a6 (AF a8) 0),a6,a7,a8,y2,(AH y2),0,())with|none=>none|some r=>match r with
  |.inl (o4,o5,o6,o7,o8,o9,o10,o11,o12,_)=>some (.inl (o4,o5,o6,o7,o8,o9,o10,o11,(IntKind.wrap .i64 (o12+1)),()))
  |.inr _=>none
 |false=>some (.inr (.inl (a2,a3,a4,())))
abbrev APY:AD:=[(.tmp 0,.dat V6),(.tmp 1,.di),(.tmp 3,.clo 327 []),(.tmp 10,.di),(.tmp 13,.own 3 U0),(.tmp 14,.own 96 Uj),(.tmp 48,.own' 0),(.tmp 49,.di),(.tmp 50,.di)]
abbrev APV:AW:=[(.exit 0,[(.tmp 0,.dat V6),(.tmp 1,.di),(.tmp 3,.clo 327 []),(.tmp 10,.di),(.tmp 13,.own 3 U0),(.tmp 14,.own 96 Uj)])]
def APS[Lk]:(List Int×Int×Int×List Int×List Int×Int×Int×Unit)→Option ((List Int×Int×Int×List Int×List Int×Int×Int×Unit)⊕(List Int×Int×Int×List Int×List Int×Unit)⊕Unit):=fun(a0,a1,a2,a3,a4,a5,a6,_)=>
 match(ilt a6 a5)with
 |true=>match idx a3 a6 with|none=>none|some x0=>match AUY (a0,(AJ a3 (AF a6) 0),a1,())with|none=>none|some (y1,_)=>match XJ (y1,())with|none=>none|some (y2,y3,_)=>match idx a4 (AJ a3 (AF a6) 0)with|none=>none|some x4=>some (.inl (a0,a1,a2,a3,(AX a4 (AF (AJ a3 (AF a6) 0)) y3),a5,(IntKind.wrap .i64 (a6+1)),()))
 |false=>some (.inr (.inl (a0,a1,a2,a3,a4,())))
def ABu[Lk]:(List Int×Int×V0×Unit)→Option (U9):=fun(a0,a1,a2,_)=>
 match AEv (a1,())with|none=>none|some (y0,_)=>match(!y0)with
 |true=>some (([]:List (Int)),0,0,1,())
 |false=>match(ilt 1000 (AH a0))with
 |true=>some (([]:List (Int)),0,0,1,())
 |false=>match AE9 ((AH a0),a1,())with|none=>none|some (y1,_)=>match AGE (y1,(a2.1,(a2.2.1,(a2.2.2.1,()))),())with|none=>none|some (y2,y3,y4,_)=>match(!(ieq y4 0))with
 |true=>some (([]:List (Int)),0,0,y4,())
 |false=>match(Bq y1&&Bq y1&&ile y1 y1&&true)with
 |true=>match AL APS many (a0,a1,y3,y2,(Cb (AF y1) (0:Int)),(AH y2),(0:Int),())with|none=>none|some r=>match r with
  |.inl (o5,o6,o7,o8,o9,_)=>match XJ (o9,())with|none=>none|some (y10,y11,_)=>match(Bq (AH o5)&&Bq (AH o5)&&ile (AH o5) (AH o5)&&true)with
   |true=>match AL APR many (o5,o6,(Cb (AF (AH o5)) (0:Int)),y11,o7,y10,o8,(AH o8),(0:Int),())with|none=>none|some r=>match r with
    |.inl (o12,o13,o14,_)=>some (o12,o13,(IntKind.wrap .i64 (2*o14)),0,())
    |.inr _=>none
   |false=>none
  |.inr _=>none
 |false=>none
def AEw[Lk]:=fun v=>Lk.f (ABu v)
theorem APZ v:AEw v=ABu v:=AB _
abbrev Vy:AD:=[(.tmp 0,.dat V6),(.tmp 1,.di),(.tmp 2,.dat Us)]
def AUU[Lk]:(List Int×Int×V0×Unit)→Option (U9):=fun(a0,a1,a2,_)=>
 match AEw (a0,a1,(a2.1,(a2.2.1,(a2.2.2.1,()))),())with|none=>none|some (y0,y1,y2,y3,_)=>some (y0,y1,y2,y3,())
def AUV[Lk]:=fun v=>Lk.f (AUU v)
theorem AdY v:AUV v=AUU v:=AB _
abbrev AJn:AD:=[(.tmp 0,.dat V1),(.tmp 1,.dat .bool)]
abbrev AJm:AD:=[(.tmp 0,.own 96 Uj)]
abbrev AZC:AD:=[(.tmp 1,.dat .bool),(.tmp 5,.own 96 Uj),(.tmp 11,.dat V1),(.tmp 12,.di),(.tmp 13,.di)]
abbrev AZB:AW:=[(.exit 0,[(.tmp 5,.own 96 Uj)])]
def AZA[Lk]:(Bool×List Int×List Bool×Int×Int×Unit)→Option ((Bool×List Int×List Bool×Int×Int×Unit)⊕Ua⊕Unit):=fun(a0,a1,a2,a3,a4,_)=>
 match(ilt a4 a3)with
 |true=>match idx a2 a4 with|none=>none|some x0=>match(!(x0==a0))with
  |true=>match idx a1 a4 with|none=>none|some x1=>some (.inl (a0,(AX a1 (AF a4) 1),a2,a3,(IntKind.wrap .i64 (a4+1)),()))
  |false=>some (.inl (a0,a1,a2,a3,(IntKind.wrap .i64 (a4+1)),()))
 |false=>some (.inr (.inl (a1,())))
def AJo[Lk]:(List Bool×Bool×Unit)→Option (Ua):=fun(a0,a1,_)=>
 match(Bq (AH a0)&&Bq (AH a0)&&ile (AH a0) (AH a0)&&true)with
 |true=>match AL AZA many (a1,(Cb (AF (AH a0)) (0:Int)),a0,(AH a0),(0:Int),())with|none=>none|some r=>match r with
  |.inl (o0,_)=>some (o0,())
  |.inr _=>none
 |false=>none
def AQK[Lk]:=fun v=>Lk.f (AJo v)
theorem AZD v:AQK v=AJo v:=AB _
abbrev AQI:AD:=[(.tmp 0,.dat V6),(.tmp 9,.own 96 Uj),(.tmp 11,.di),(.tmp 14,.di),(.tmp 15,.own 3 U0),(.tmp 43,.own 3 U0),(.tmp 44,.di),(.tmp 45,.di)]
abbrev AQH:AW:=[(.exit 0,[(.tmp 11,.di),(.tmp 14,.di),(.tmp 15,.own 3 U0)])]
def AQG[Lk]:Vh→Option (Vh⊕(Int×Int×List Int×Unit)⊕Unit):=fun(a0,a1,a2,a3,a4,a5,a6,a7,_)=>
 match(ilt a7 a6)with
 |true=>match idx a5 a7 with|none=>none|some x0=>match idx a0 (AJ a5 (AF a7) 0)with|none=>none|some x1=>match(ieq x1 1)with
  |true=>match idx a1 (AJ a5 (AF a7) 0)with|none=>none|some x2=>match idx a4 (AJ a1 (AF (AJ a5 (AF a7) 0)) 0)with|none=>none|some x3=>some (.inl (a0,a1,a2,a3,(AX a4 (AF (AJ a1 (AF (AJ a5 (AF a7) 0)) 0)) (AJ a5 (AF a7) 0)),a5,a6,(IntKind.wrap .i64 (a7+1)),()))
  |false=>some (.inl (a0,a1,a2,a3,a4,a5,a6,(IntKind.wrap .i64 (a7+1)),()))
 |false=>some (.inr (.inl (a2,a3,a4,())))
def ACD[Lk]:(List Int×Int×V0×Unit)→Option (Ub):=fun(a0,a1,a2,_)=>
 match AUV (a0,a1,(a2.1,(a2.2.1,(a2.2.2.1,()))),())with|none=>none|some (y0,y1,y2,y3,_)=>match(!(ieq y3 0))with
 |true=>some (([]:List (Int)),0,y3,())
 |false=>match AGE ((AH a0),(a2.1,(a2.2.1,(a2.2.2.1,()))),())with|none=>none|some (y4,y5,y6,_)=>match(!(ieq y6 0))with
 |true=>some (([]:List (Int)),0,y6,())
 |false=>match(Bq y1&&Bq y1&&ile y1 y1&&true)with
 |true=>match AL AQG many (a0,y0,y2,y5,(Cb (AF y1) (0:Int)),y4,(AH y4),(0:Int),())with|none=>none|some r=>match r with
  |.inl (o7,o8,o9,_)=>some (o9,(IntKind.wrap .i64 (o7+o8)),0,())
  |.inr _=>none
 |false=>none
def AFO[Lk]:=fun v=>Lk.f (ACD v)
theorem AQJ v:AFO v=ACD v:=AB _
abbrev AJe:AD:=[(.tmp 0,.dat V1),(.tmp 1,.di),(.tmp 2,.dat Us)]
def AJf[Lk]:(List Bool×Int×V0×Unit)→Option (Ub):=fun(a0,a1,a2,_)=>
 match AQK (a0,false,())with|none=>none|some (y0,_)=>match AFO (y0,a1,(a2.1,(a2.2.1,(a2.2.2.1,()))),())with|none=>none|some (y1,y2,y3,_)=>some (y1,y2,y3,())
def AQD[Lk]:=fun v=>Lk.f (AJf v)
theorem AY7 v:AQD v=AJf v:=AB _
end
end Go.Pev
end
