/- A part of the proofs of this seat: PevFlow2 PevCall PevCall2 PevCall3 PevCall4 PevTop PevClone G28M1 G28M2 G28M3 G28M4 G28M5. -/
import Derived.Test.YtbnaceonlbiheaaGreatDoorP1363283cf2
import Derived.LoopN
import Derived.Laws.Sem
import Derived.KernelRfl
import Derived.Lib.SliceRun
set_option linter.unusedVariables false
set_option linter.unusedSimpArgs false
set_option linter.unusedSectionVars false
set_option maxRecDepth 100000
section
namespace Go.Pev
open Go.RowKit
section
variable [DfI] {P:Program} {E:Env} {h:Hints}
theorem XY(hE:∀ g,BV P g (E.spec g)){R:Type}{r:R}{all:List Oper}:∀ (ops:List Oper) (slot:Nat) (st:St) (k:St→Option R),FQ P E R all ops slot st k=some r →
  ∃ st',k st'=some r∧∀ (R':Type) (k':St→Option R'),FQ P E R' all ops slot st k'=k' st':=by
 intro ops;induction ops with
  |nil=>intro slot st k h;exact⟨st,h,fun _ _=>rfl⟩
  |cons o ops ih=>
   intro slot st k h;simp only[FQ]at h;obtain⟨st1,h1⟩:=MY h;rcases h1 with⟨h1,h2⟩|⟨h1,h2⟩
   obtain⟨v,e,h3,h4,_⟩:=Eg hE o.op _ _ _ _ _ _ _ r h1;obtain⟨st2,h5,h6⟩:=ih _ _ _ h3;exact⟨st2,h5,fun R' k'=>by simp only[FQ];grind⟩;obtain⟨st2,h5,h6⟩:=ih _ _ _ h1;exact⟨st2,h5,fun R' k'=>by simp only[FQ];grind⟩
theorem qM(hE:∀ g,BV P g (E.spec g)){R:Type}{r:R}{all:List Oper}:∀ (ops:List Oper) (fp:List (List Nat)) (slot:Nat) (st:St) (k:St→Option R),JA P E R all ops fp slot st k=some r →
  ∃ st',k st'=some r∧∀ (R':Type) (k':St→Option R'),JA P E R' all ops fp slot st k'=k' st':=by
 intro ops;induction ops with
  |nil=>intro fp slot st k h;exact⟨st,h,fun _ _=>rfl⟩
  |cons o ops ih=>intro fp slot st k h;simp only[JA]at h;obtain⟨st1,h1,h2⟩:=cq hE h;obtain⟨st2,h5,h6⟩:=ih _ _ _ _ h1;exact⟨st2,h5,fun R' k'=>by simp only[JA];grind⟩
def AXJ(P:Program)(np:Nat)(c:Code)(st:St)(e:Exit)(st':St):Prop:=
 ∀ (w:World) (F:Nat→Prop) (m:Mp) (a:Act) (Q:Exit→Act→World→Prop),SI w F m st a →
  (∀ a' w' F' m',SI w' F' m' st' a'→Hi np w F m st.heap st.frz w' F' m' st'.heap st'.frz→Q e a' w')→c.wp P Q a w
def I0(P:Program)(np:Nat)(c:Code)(go:(R:Type)→St→(Exit→St→Option R)→Option R):Prop:=
 ∀ (R:Type) (st:St) (k:Exit→St→Option R) (r:R),go R st k=some r→∃ e st',k e st'=some r∧(∀ (R':Type) (k':Exit→St→Option R'),go R' st k'=k' e st')∧AXJ P np c st e st'
def By(P:Program)(np:Nat)(h:Hints):Code→Nat→Prop
 |.seq a b,n=>By P np h a n∧By P np h b (n+loops a)
 |.cond _ a b,n=>By P np h a n∧By P np h b (n+loops a)
 |.block _ c,n=>By P np h c n
 |.loop c,n=>I0 P np (.loop c) (h.loop n)
 |_,_=>True
theorem AFO{w:World}{F:Nat→Prop}{m:Mp}{st:St}{a:Act}(hs:SI w F m st a){c:Operand}{x:Bool}(hc:BY st.tmps c = .data .bool x):
  a.eval c = .bool x∧SI w F m { st with tmps:=ON st.tmps c x } a:=by
 have h1:Rep w F m st.heap (BY st.tmps c) (a.eval c):=Et hs.tmps c;rw[hc]at h1;refine⟨?_,?_⟩;unfold Rep CW at h1;simp only[Ty.isAgg,AXw,AXv]at h1;simpa [Dat]using h1;cases c with
  |tmp t=>exact hs.lit (d:=t) (b:=x) hc
  |const v=>exact hs
  |func f=>exact hs
  |global g=>exact hs
theorem C8(hE:∀ g,BV P g (E.spec g))(hL:EV E)(hP:Fs P E){np:Nat}:∀ (c:Code) (n:Nat),By P np h c n→I0 P np c (fun R=>Bl P E h R c n):=by
 intro c;induction c with
  |skip=>intro n _ R st k r hk;simp only[Bl]at hk;exact⟨_,_,hk,fun _ _=>rfl,fun w F m a Q hs hq=>wp_skip (hq a w F m hs (Hi.refl ..))⟩
  |region id ops draw=>
   intro n _ R st k r hk;have hk0:=hk;simp only[Bl]at hk;split at hk;rename_i hpan;obtain⟨e,st',h1,h2,h3⟩:=aU hE hL hP (id:=id) hk;exact⟨e,st',h1,fun R' k'=>by simp only[Bl,hpan];grind,fun w F m a Q hs hq=>h3 w F m a Q hs fun a' w' F' m' q1 q2=>hq a' w' F' m' q1 (q2.toN np)⟩;rename_i hpan;cases draw with
    |false=>
     simp only[GF,Nx]at hk;obtain⟨st',h1,h2⟩:=XY hE _ _ _ _ hk;refine⟨.normal,st',h1,fun R' k'=>by simp only[Bl,hpan,GF,Nx];grind,fun w F m a Q hs hq => ?_⟩;have h3:GF P E St ops.toList st some=some st':=by simp only[GF,Nx];grind
     refine jg hE h3 hs fun a' w' hp => ?_;obtain⟨st1,F',m',e1,e2,e3⟩:=hp;cases e1;exact hq a' w' F' m' e2 (e3.toN np)
    |true=>
     simp only at hk;have hk':=hk;unfold E6 at hk;rw[Nx]at hk;split at hk;rename_i hok;obtain⟨st',h1,h2⟩:=qM hE _ _ _ _ _ hk;refine⟨.normal,st',h1,fun R' k'=>by simp only[Bl,hpan,E6,Nx,hok];grind,fun w F m a Q hs hq => ?_⟩;have h3:E6 P E St (h.fp id) ops.toList st some=some st':=by simp only[E6,Nx,hok];grind
     refine aV hE hL h3 hs fun a' w' hp => ?_;obtain⟨st1,F',m',e1,e2,e3⟩:=hp;cases e1;exact hq a' w' F' m' e2 (e3.toN np);grind
  |seq a b iha ihb=>
   intro n hl R st k r hk;simp only[Bl]at hk;obtain⟨e,st1,h1,h2',h3⟩:=iha n hl.1 R st _ r hk;have h2:∀ (R':Type) (k':Exit→St→Option R'),Bl P E h R' a n st k'=k' e st1:=h2';by_cases he:e = .normal;subst he;simp only at h1;obtain⟨e2,st2,k1,k2,k3⟩:=ihb _ hl.2 R st1 _ r h1;refine⟨e2,st2,k1,fun R' k' => ?_,fun w F m act Q hs hq=>wp_seq ?_⟩;simp only[Bl];grind;refine h3 w F m act _ hs fun a' w' F' m' s1 x1 => ?_;exact k3 w' F' m' a' Q s1 fun a2 w2 F2 m2 s2 x2=>hq a2 w2 F2 m2 s2 (x1.trans x2);have h1':k e st1=some r:=by grind
   refine⟨e,st1,h1',fun R' k' => ?_,fun w F m act Q hs hq=>wp_seq ?_⟩;simp only[Bl];grind;refine h3 w F m act _ hs fun a' w' F' m' s1 x1 => ?_;have:=hq a' w' F' m' s1 x1;cases e<;>first|grind|exact this
  |cond c a b iha ihb=>
   intro n hl R st k r hk;simp only[Bl]at hk;split at hk;rename_i x hc;cases x with
    |true=>obtain⟨e,st1,h1,h2,h3⟩:=iha _ hl.1 R _ _ r hk;refine⟨e,st1,h1,fun R' k'=>by simp only[Bl,hc];grind,fun w F m act Q hs hq => ?_⟩;obtain⟨q1,q2⟩:=AFO hs hc;exact wp_cond_true q1 (h3 w F m act Q q2 hq)
    |false=>obtain⟨e,st1,h1,h2,h3⟩:=ihb _ hl.2 R _ _ r hk;refine⟨e,st1,h1,fun R' k'=>by simp only[Bl,hc];grind,fun w F m act Q hs hq => ?_⟩;obtain⟨q1,q2⟩:=AFO hs hc;exact wp_cond_false q1 (h3 w F m act Q q2 hq)
   grind
  |block id c ih=>
   intro n hl R st k r hk;simp only[Bl]at hk;obtain⟨e,st1,h1,h2',h3⟩:=ih n hl R st _ r hk;have h2:∀ (R':Type) (k':Exit→St→Option R'),Bl P E h R' c n st k'=k' e st1:=h2';have key:∃ e',k e' st1=some r∧(∀ (R':Type) (k':Exit→St→Option R'),Bl P E h R' (.block id c) n st k'=k' e' st1)∧∀ (Q:Exit→Act→World→Prop) a' w',Q e' a' w'→Exit.inBlock id Q e a' w':=by
    cases e with
     |exit id'=>simp only at h1;by_cases hid:id'=id;subst hid;simp only[AXi]at h1;exact⟨.normal,h1,fun R' k'=>by simp only[Bl];grind,fun Q a' w' hq=>by simp[Exit.inBlock,hq]⟩;simp only[hid,AXu]at h1;exact⟨.exit id',h1,fun R' k'=>by simp only[Bl];grind,fun Q a' w' hq=>by simp[Exit.inBlock,hid,hq]⟩
     |normal=>exact⟨_,h1,fun R' k'=>by simp only[Bl];rw[h2],fun Q a' w' hq=>hq⟩
     |goto l=>exact⟨_,h1,fun R' k'=>by simp only[Bl];rw[h2],fun Q a' w' hq=>hq⟩
     |ret=>exact⟨_,h1,fun R' k'=>by simp only[Bl];rw[h2],fun Q a' w' hq=>hq⟩
     |panic l=>exact⟨_,h1,fun R' k'=>by simp only[Bl];rw[h2],fun Q a' w' hq=>hq⟩
     |outgrown=>exact⟨_,h1,fun R' k'=>by simp only[Bl];rw[h2],fun Q a' w' hq=>hq⟩
   obtain⟨e',k1,k2,k3⟩:=key;exact⟨e',st1,k1,k2,fun w F m act Q hs hq=>wp_block (h3 w F m act _ hs fun a' w' F' m' s1 x1=>k3 Q a' w' (hq a' w' F' m' s1 x1))⟩
  |loop c ih=>intro n hl R st k r hk;exact hl R st k r hk
  |exit id=>intro n _ R st k r hk;simp only[Bl]at hk;exact⟨_,_,hk,fun _ _=>rfl,fun w F m a Q hs hq=>wp_exit (hq a w F m hs (Hi.refl ..))⟩
  |ret=>intro n _ R st k r hk;simp only[Bl]at hk;exact⟨_,_,hk,fun _ _=>rfl,fun w F m a Q hs hq=>wp_ret (hq a w F m hs (Hi.refl ..))⟩
  |_=>intro n _ R st k r hk;simp[Bl]at hk
theorem ei{R:Type}{r:R}{nt:Nat}{k:Exit→St→Option R}:∀ (os:BF) (x:ZU os),Yh nt k os x=some r→∃ e st',k e st'=some r∧∀ (R':Type) (k':Exit→St→Option R'),Yh nt k' os x=k' e st':=by
 intro os;induction os with
  |nil=>intro x h;simp[Yh]at h
  |cons o os ih=>
   intro x h;cases x with
    |inl d=>exact⟨_,_,h,fun _ _=>rfl⟩
    |inr x=>obtain⟨e,st',h1,h2⟩:=ih x h;exact⟨e,st',h1,fun R' k'=>h2 R' k'⟩
theorem pG{e e':Exit}(h:XE e e'=true):e=e':=by cases e<;>cases e'<;>simp_all [XE]
theorem rD{np nt:Nat}{e:Exit}{st:St}:∀ (os:BF) (x:ZU os),Ta np nt e st os=some x→∃ its d,decode np nt st its=some d∧∀ (R':Type) (k':Exit→St→Option R'),Yh nt k' os x=k' e (encode nt its d):=by
 intro os;induction os with
  |nil=>intro x h;simp[Ta]at h
  |cons o os ih=>intro x h;simp only[Ta]at h;split at h;rename_i hs;split at h;rename_i d hd;simp only[AXa]at h;subst h;exact⟨o.2,d,hd,fun R' k'=>by rw[pG hs];rfl⟩;grind;split at h;rename_i y hy;simp only[AXa]at h;subst h;obtain⟨its,d,h1,h2⟩:=ih y hy;exact⟨its,d,h1,fun R' k'=>h2 R' k'⟩;grind
theorem AJE{h':Hints}(hE:∀ g,BV P g (E.spec g))(hL:EV E)(hP:Fs P E){np nt n:Nat}{body:Code}{its:A1}{os:BF}{stp:Bg (leaves its)→Option (Bg (leaves its)⊕ZU os)}
  (hstep:∀ v,stp v=roundOf P E h' n np nt body its os v) (hl:By P np h' body n):I0 P np (.loop body) (K0 np nt its os stp):=by
 intro R st k r hk;unfold K0 at hk;split at hk;cases hk;rename_i v hv;split at hk;cases hk;rename_i x hx;obtain⟨e,st',h1,h2⟩:=ei os x hk;refine⟨e,st',h1,fun R' k'=>by simp only[K0,hv,hx];grind,?_⟩
 have key:∀ (fuel:Nat) (v:Bg (leaves its)),BE stp fuel v=some x→∀ (w:World) (F:Nat→Prop) (m:Mp) (a:Act) (Q:Exit→Act→World→Prop),SI w F m (encode nt its v) a →
   (∀ a' w' F' m',SI w' F' m' st' a'→Hi np w F m (encode nt its v).heap (encode nt its v).frz w' F' m' st'.heap st'.frz→Q e a' w')→Code.rounds P body Q fuel a w:=by
  intro fuel
  induction fuel with
  |zero=>intro v h;simp[BE]at h
  |succ fuel ih=>
   intro v h w F m a Q hs hq
   simp only[BE]at h
   rw[hstep v]at h
   cases hr:roundOf P E h' n np nt body its os v with
   |none=>grind
   |some y=>
    rw[hr]at h
    unfold roundOf at hr
    obtain⟨e1,st1,g1,_,g3⟩:=C8 hE hL hP body n hl _ _ _ _ hr
    show body.wp P (Exit.then (Code.rounds P body Q fuel) Q) a w
    refine g3 w F m a _ hs fun a' w' F' m' s1 x1 => ?_
    by_cases he:e1 = .normal
    ·subst he
     simp only[pc]at g1
     split at g1
     ·rename_i d hd
      simp only[AXa]at g1;subst g1
      obtain⟨F2,m2,s2,x2⟩:=GS s1 hd
      show Code.rounds P body Q fuel a' w'
      exact ih d h w' F2 m2 a' Q s2 fun a3 w3 F3 m3 s3 x3=>hq a3 w3 F3 m3 s3 (x1.trans (x2.trans x3))
     grind
    ·have g1':(match Ta np nt e1 st1 os with
      |some x=>some (Sum.inr x)
      |none=>none)=some y:=by
      cases e1<;>first|grind|exact g1
     split at g1'
     ·rename_i z hz
      simp only[AXa]at g1';subst g1'
      simp only[AXa]at h;subst h
      obtain⟨its',d,o1,o2⟩:=rD os _ hz
      obtain⟨F2,m2,s2,x2⟩:=GS s1 o1
      have e3:=(h2 (Exit×St) fun e st=>some (e,st)).symm.trans (o2 (Exit×St) fun e st=>some (e,st))
      simp only[AXa,AXt]at e3
      obtain⟨rfl,rfl⟩:=e3
      have:=hq a' w' F2 m2 s2 (x1.trans x2)
      cases e<;>first|grind|exact this
     grind
 intro w F m a Q hs hq;obtain⟨F2,m2,s2,x2⟩:=GS hs hv;exact wp_loop_rounds many (key many v (by rw[← Bf];exact hx) w F2 m2 a Q s2 fun a3 w3 F3 m3 s3 x3=>hq a3 w3 F3 m3 s3 (x2.trans x3))
end
end Go.Pev
end
section
namespace Go.Pev
open Go.RowKit
section
variable {w:World} {F F0:Nat→Prop} {m m2:Mp} {H H2:List Ob} {ids:List Nat}
theorem Dat.flat:∀ (t:Ty),t.flat=true→∀ {d:t.den} {cs:List Value} {w0:World},Dat w F t d cs→Dat w0 F0 t d cs:=by
 intro t;induction t with
  |unit=>exact fun _ _ _ _ h=>h
  |bool=>exact fun _ _ _ _ h=>h
  |int k=>exact fun _ _ _ _ h=>h
  |slice e _=>intro h;simp[Ty.flat]at h
  |mapi j e _=>intro h;simp[Ty.flat]at h
  |nul e=>exact fun _ _ _ _ h=>h
  |prod a b iha ihb=>intro h d cs w0 hd;simp only[Ty.flat,AXd]at h;obtain⟨c1,c2,h1,h2,h3⟩:=hd;exact⟨c1,c2,h1,iha h.1 h2,ihb h.2 h3⟩
  |arr n e ih=>intro h d cs w0 hd;obtain⟨h1,h2⟩:=hd;exact⟨h1,B8 (fun x _ cs hx=>ih (by simpa [Ty.flat]using h) hx) h2⟩
theorem CW.flat{t:Ty}(ht:t.flat=true){d:t.den}{v:Value}{w0:World}(h:CW w F t d v):CW w0 F0 t d v:=by unfold CW at *;split;rename_i hg;simp only[hg,AX9]at h;obtain⟨vs,e,hd⟩:=h;exact⟨vs,e,hd.flat t ht⟩;rename_i hg;simp only[hg]at h;exact Dat.flat t ht h
theorem AJ0{k v:Ty}(hk:k.flat=true)(hv:v.flat=true){w0:World}:∀ {es:List (k.den×v.den)} {ms:List MapEntry},I2 w F k v es ms→I2 w0 F0 k v es ms:=by
 intro es;induction es with
  |nil=>exact fun h=>h
  |cons e es ih=>rintro ms ⟨me,ms',e1,⟨h1,h2⟩,h3⟩;exact⟨me,ms',e1,⟨h1.flat hk,h2.flat hv⟩,ih h3⟩
mutual
theorem Rep.flat:∀ (a:AV) {v:Value},Jk a=true→Rep w F m H a v→Rep w F0 m H a v
 |.Cr,_,_,_=>by unfold Rep;trivial
 |.data t d,v,hf,h=>by unfold Rep at *;exact h.flat (by simpa [Jk]using hf)
 |.nils _,v,_,h=>by unfold Rep at *;exact h
 |.agg cs,v,hf,h=>by unfold Rep at *;obtain⟨vs,e,h,h1⟩:=h;exact⟨vs,e,BD.flat cs (by simpa [Jk]using hf) h,h1⟩
 |.own id,v,_,h=>by unfold Rep at *;exact h
 |.win id off n,v,_,h=>by unfold Rep at *;exact h
 |.ptr id off,v,_,h=>by unfold Rep at *;exact h
 |.eptr id i sub,v,_,h=>by unfold Rep at *;exact h
 |.dptr cs,v,hf,h=>by simp[Jk]at hf
 |.clo f caps,v,hf,h=>by unfold Rep at *;obtain⟨cs,e,h⟩:=h;exact⟨cs,e,BD.flat caps (by simpa [Jk]using hf) h⟩
 |.bnd f caps,v,hf,h=>by unfold Rep at *;obtain⟨cs,e,h⟩:=h;exact⟨cs,e,BD.flat caps (by simpa [Jk]using hf) h⟩
 |.str _,v,_,h=>by unfold Rep at *;exact h
 |.clip _ _,v,hf,h=>by simp[Jk]at hf
 |.mp id,v,_,h=>by unfold Rep at *;exact h
 |.rowp _ _ _,v,_,h=>by unfold Rep at *;exact h
 |.glob _,v,_,h=>by unfold Rep at *;exact h
 |.nilp,v,_,h=>by unfold Rep at *;exact h
 |.ifc _,v,_,h=>by unfold Rep at *;exact h
 |.aptr _ _,v,_,h=>by unfold Rep at *;exact h
 |.tup vs,v,hf,h=>by unfold Rep at *;obtain⟨us,e,h⟩:=h;exact⟨us,e,BD.flat vs (by simpa [Jk]using hf) h⟩
theorem BD.flat:∀ (cs:List AV) {vs:List Value},JU cs=true→BD w F m H cs vs→BD w F0 m H cs vs
 |[],vs,_,h=>by unfold BD at *;exact h
 |c::cs,vs,hf,h=>by unfold BD at *;simp only[JU,AXd]at hf;obtain⟨v,vs',e,h1,h2⟩:=h;exact⟨v,vs',e,Rep.flat c hf.1 h1,BD.flat cs hf.2 h2⟩
end
def uR(ids:List Nat)(H H2:List Ob)(m m2:Mp):Prop:=∀ j o,H[j]? = some o→H2[ids.getD j 0]? = some (D' ids o)∧m2 (ids.getD j 0)=m j
theorem FH(hm:uR ids H H2 m m2)(Q:Option Ob→Option (Nat×Nat)→Prop)(hnone:∀ l,¬ Q none l)(hbox:∀ cs l,Q (some (.box cs)) l→Q (some (.box (I1 ids cs))) l)(hprs:∀ T t t' is l,Q (some (.prs T t is)) l→Q (some (.prs T t' is)) l)(j:Nat)(h:Q H[j]? (m j)):Q H2[ids.getD j 0]? (m2 (ids.getD j 0)):=by
 cases ho:H[j]? with
  |none=>grind
  |some o=>rw[ho]at h;obtain⟨h1,h2⟩:=hm j o ho;rw[h1,h2];cases o<;>first|exact h|exact hbox _ _ h|exact hprs _ _ _ _ _ h
mutual
theorem Rep.ren(hm:uR ids H H2 m m2):∀ (a:AV) {v:Value},Rep w F m H a v→Rep w F m2 H2 (EF ids a) v
 |.Cr,_,_=>by simp only[EF];unfold Rep;trivial
 |.rowp _ _ _,_,_=>by simp only[EF];unfold Rep;trivial
 |.glob g,v,h=>by simp only[EF];unfold Rep at *;exact h
 |.nilp,v,h=>by simp only[EF];unfold Rep at *;exact h
 |.ifc _,v,h=>by simp only[EF];unfold Rep at *;exact h
 |.aptr id n,v,h=>by simp only[EF];unfold Rep at *;exact FH hm (fun o l=>Fp o l n v) (fun l h=>h) (fun cs l h=>h) (fun _ _ _ _ l h=>h) id h
 |.data t d,v,h=>by simp only[EF];unfold Rep at *;exact h
 |.nils _,v,h=>by simp only[EF];unfold Rep at *;exact h
 |.agg cs,v,h=>by simp only[EF];unfold Rep at *;obtain⟨vs,e,h,h1⟩:=h;exact⟨vs,e,BD.ren hm cs h,h1⟩
 |.own id,v,h=>by simp only[EF];unfold Rep at *;exact FH hm (fun o l=>Bq o l v) (fun l h=>h) (fun cs l h=>h) (fun _ _ _ _ l h=>h) id h
 |.win id off n,v,h=>by simp only[EF];unfold Rep at *;exact FH hm (fun o l=>HQ o l off n v) (fun l h=>h) (fun cs l h=>h) (fun _ _ _ _ l h=>h) id h
 |.ptr id off,v,h=>by simp only[EF];unfold Rep at *;exact FH hm (fun o l=>GZ o l off v) (fun l h=>h) (fun cs l h=>h) (fun _ _ _ _ l h=>h) id h
 |.eptr id i sub,v,h=>by simp only[EF];unfold Rep at *;exact FH hm (fun o l=>DY o l i sub v) (fun l h=>h) (fun cs l h=>h) (fun _ _ _ _ l h=>h) id h
 |.dptr cs,v,h=>by simp only[EF];unfold Rep at *;obtain⟨ad,us,e,h1,h2,h4,h3⟩:=h;refine⟨ad,us,e,fun hne=>h1 (by rintro rfl;exact hne rfl),BD.ren hm cs h2,h4,h3⟩
 |.clo f caps,v,h=>by simp only[EF];unfold Rep at *;obtain⟨cs,e,h⟩:=h;exact⟨cs,e,BD.ren hm caps h⟩
 |.bnd f caps,v,h=>by simp only[EF];unfold Rep at *;obtain⟨cs,e,h⟩:=h;exact⟨cs,e,BD.ren hm caps h⟩
 |.str _,v,h=>by simp only[EF];unfold Rep at *;exact h
 |.clip _ _,v,h=>by simp only[EF];unfold Rep at *;exact h
 |.mp id,v,h=>by simp only[EF];unfold Rep at *;exact FH hm (fun o l=>Ld o l v) (fun l h=>h) (fun cs l h=>h) (fun _ _ _ _ l h=>h) id h
 |.tup vs,v,h=>by simp only[EF];unfold Rep at *;obtain⟨us,e,h⟩:=h;exact⟨us,e,BD.ren hm vs h⟩
theorem BD.ren(hm:uR ids H H2 m m2):∀ (cs:List AV) {vs:List Value},BD w F m H cs vs→BD w F m2 H2 (I1 ids cs) vs
 |[],vs,h=>by simp only[I1];unfold BD at *;exact h
 |c::cs,vs,h=>by simp only[I1];unfold BD at *;obtain⟨v,vs',e,h1,h2⟩:=h;exact⟨v,vs',e,Rep.ren hm c h1,BD.ren hm cs h2⟩
end
theorem ANB(tgt:Nat)(is:List Int):I1 ids (GD tgt is)=GD (ids.getD tgt 0) is:=by
 induction is with
  |nil=>rfl
  |cons x xs ih=>have:I1 ids (GD tgt (x::xs))=EF ids (.eptr tgt x.toNat 0)::I1 ids (GD tgt xs):=rfl;rw[this,ih];rfl
theorem AJt(tgt:Nat)(is:List Int):JU (GD tgt is)=true:=by
 induction is with
  |nil=>rfl
  |cons x xs ih=>have:JU (GD tgt (x::xs))=(Jk (.eptr tgt x.toNat 0)&&JU (GD tgt xs)):=rfl;rw[this,ih];rfl
theorem zt{i j k:Nat}:∀ {ids:List Nat},IS ids=true→ids[i]? = some k→ids[j]? = some k→i=j:=by
 intro ids h;have:ids.Nodup:=by
  induction ids with
   |nil=>simp
   |cons a ids ih=>simp only[IS,AXd,AYj,List.contains_eq_mem,AYM]at h;grind
 intro h1 h2;exact(List.getElem?_inj (AAE h1) this).1 (h1.trans h2.symm)
theorem oh{i:Nat}{o:Ob}:∀ (ids:List Nat) (os:List Ob) (H:List Ob) (j:Nat),IS ids=true→ids[j]? = some i→os[j]? = some o→i<H.length→(Br (ids.zip os) H)[i]? = some o:=by
 intro ids;induction ids with
  |nil=>simp
  |cons a ids ih=>
   intro os H j hn h1 h2 hl;cases os with
    |nil=>grind
    |cons x os=>
     simp only[IS,AXd,AYj,List.contains_eq_mem,AYM]at hn;simp only[List.zip_cons_cons,Br];cases j with
      |zero=>simp only[AYN,AXa]at h1 h2;subst h1;subst h2;rw[CO _ _ fun p hp => ?_,List.getElem?_set_self hl];rintro rfl;exact hn.1 (List.of_mem_zip hp).1
      |succ j=>grind
def Jl:List Nat→Nat→Option Nat
 |[],_=>none
 |x::xs,i=>if x=i then some 0 else(Jl xs i).map (· + 1)
theorem Tq{i j:Nat}:∀ {ids:List Nat},Jl ids i=some j→ids[j]? = some i:=by
 intro ids;induction ids generalizing j with
  |nil=>intro h;simp[Jl]at h
  |cons a ids ih=>intro h;simp only[Jl]at h;split at h;grind;rw[AXm]at h;grind
theorem sX{i:Nat}:∀ {ids:List Nat},Jl ids i=none→i∉ids:=by
 intro ids;induction ids with
  |nil=>simp
  |cons a ids ih=>intro h;simp only[Jl]at h;split at h;cases h;rename_i hne;rw[Option.map_eq_none_iff]at h;grind
theorem AJw{i j:Nat}{ids:List Nat}(hn:IS ids=true)(h:ids[j]? = some i):Jl ids i=some j:=by
 cases hf:Jl ids i with
  |none=>exact absurd (AXk h) (sX hf)
  |some k=>rw[zt hn h (Tq hf)]
def mOf(ids:List Nat)(m3 m:Mp):Mp
 |.o i=>match Jl ids i with
  |some j=>m3 j
  |none=>m i
 |.r i k=>m (.r i k)
theorem ec{fz:List Bool}:∀ {ids:List Nat} {bs:List Bnd},FX H fz ids bs=true→∀ {j i:Nat},ids[j]? = some i→bs[j]? = some (.whole i)∨((∀ id,bs[j]?≠some (.whole id))∧Bc H fz i=true):=by
 intro ids;induction ids with
  |nil=>simp
  |cons a ids ih=>
   intro bs h j i hj;simp only[FX,AXd]at h;obtain⟨h1,h2⟩:=h;cases j with
    |zero=>
     simp only[AYN,AXa]at hj;subst hj;split at h1;grind;rename_i hne;refine .inr ⟨fun id he => ?_,h1⟩;cases bs with
      |nil=>grind
      |cons b bs=>simp_all
    |succ j=>grind
theorem AJZ:∀ (n:Nat) (bs:List Bnd) (slot:Nat),(DA n bs slot).length=n:=by
 intro n;induction n with
  |zero=>intro bs slot;cases bs<;>rfl
  |succ n ih=>
   intro bs slot;cases bs with
    |nil=>simp[DA,ih]
    |cons b bs=>cases b<;>simp[DA,ih]
theorem CB(st:St)(v:AV)(l:Loc):(place st v l).heap.length=st.heap.length:=by
 cases l with
  |tmp t=>rfl
  |cell j c=>simp only[place];grind
  |cap t i=>rfl
  |obj j=>rfl
theorem AP2:∀ (its:A1) (d:Bg (leaves its)) (st:St),(enc its d st).heap.length=st.heap.length+DS its:=by
 intro its;induction its with
  |nil=>intro d st;rfl
  |cons p r ih=>
   intro d st;obtain⟨l,c⟩:=p;cases c with
    |dat t=>exact(ih _ _).trans (by rw[CB];rfl)
    |own T e=>exact(ih _ _).trans (by rw[CB];simp[ET,DS];omega)
    |box n=>exact(ih _ _).trans (by rw[CB];simp[ET,DS];omega)
    |map k v=>exact(ih _ _).trans (by rw[CB];simp[ET,DS];omega)
    |prs T j=>exact(ih _ _).trans (by rw[CB];simp[ET,DS];omega)
    |rows T e t=>exact(ih _ _).trans (by rw[CB];simp[ET,DS];omega)
    |mrows j e t=>exact(ih _ _).trans (by rw[CB];simp[ET,DS];omega)
    |aptr T e n=>exact(ih _ _).trans (by rw[CB];simp[ET,DS];omega)
    |aptr' j n=>exact(ih _ _).trans (by rw[CB];rfl)
    |bndp f j=>exact(ih _ _).trans (by rw[CB];rfl)
    |nilp=>exact(ih _ _).trans (by rw[CB];rfl)
    |own' j=>exact(ih _ _).trans (by rw[CB];rfl)
    |ptr' j o=>exact(ih _ _).trans (by rw[CB];rfl)
    |map' j=>exact(ih _ _).trans (by rw[CB];rfl)
    |win' j=>exact(ih _ _).trans (by rw[CB];rfl)
    |sub' j=>exact(ih _ _).trans (by rw[CB];rfl)
    |clo f ps=>exact(ih _ _).trans (by rw[CB];rfl)
    |bnd f j=>exact(ih _ _).trans (by rw[CB];rfl)
    |nil e=>exact(ih _ _).trans (by rw[CB];rfl)
end
end Go.Pev
end
section
namespace Go.Pev
open Go.RowKit
theorem Xo{H:List Ob}{fz:List Bool}{i:Nat}{o:Ob}(h:H[i]? = some o)(ha:alive o)(hf:fz.getD i false=false):owned H fz i:=by
 simp only[owned,Cd];rw[h];cases o with
  |free=>exact ha.elim
  |dead=>exact ha.elim
  |box cs=>trivial
  |arr T t xs=>exact hf
  |map k v es=>trivial
  |prs T t is=>trivial
  |rows T e t xs ver out=>exact hf
theorem uL{o:Ob}(h:alive o):o≠.free∧o≠.dead:=by constructor<;>rintro rfl<;>exact h
theorem Ku{H:List Ob}{fz:List Bool}{ids:List Nat}{i:Ix}(h:owned H (BI ids fz) i):owned H fz i:=Nw h
theorem aO{o o1:Ob}{ids:List Nat}(h:sameShape o o1):sameShape o (D' ids o1):=by cases o<;>cases o1<;>simp only[sameShape,D']at *<;>exact h
theorem Sa{i:Nat}:∀ {bs:List Bnd},i∈given bs↔∃ j:Nat,bs[j]? = some (.whole i):=by
 intro bs;induction bs with
  |nil=>simp[given]
  |cons b bs ih=>
   have step:(∃ j:Nat,(b::bs)[j]? = some (.whole i))↔b = .whole i∨∃ j:Nat,bs[j]? = some (.whole i):=by constructor;grind;rintro (h|⟨j,hj⟩);exact⟨0,by grind⟩;exact⟨j+1,by grind⟩
   rw[step];cases b with
    |whole id=>simp only[given,AXf,ih,Bnd.whole.injEq];grind
    |none=>simp[given,ih]
    |cut id=>simp[given,ih]
theorem TJ(a b:List (Nat×Ob)):∀ H,Br (a++b) H=Br b (Br a H):=by
 induction a with
  |nil=>intro H;rfl
  |cons p a ih=>intro H;obtain⟨i,o⟩:=p;simp only[AX3,Br];grind
def Dr(gv:List Nat)(H:List Ob):List Ob:=Br (gv.map fun i=>(i,.dead)) H
theorem X9{gv:List Nat}{i:Nat}{H:List Ob}(h:i∉gv):(Dr gv H)[i]? = H[i]? :=
 CO _ _ fun p hp=>by grind
theorem AJP:∀ {gv:List Nat} {i:Nat} {H:List Ob},i∈gv→i<H.length→(Dr gv H)[i]? = some .dead:=by
 intro gv;induction gv with
  |nil=>simp
  |cons a gv ih=>intro i H h hl;by_cases hg:i∈gv;exact ih (H:=H.set a .dead) hg (by grind);have:(Dr gv (H.set a .dead))[i]? = (H.set a .dead)[i]? := X9 hg;rcases AXf.1 h with rfl|h;show(Dr gv (H.set i .dead))[i]? = _;grind;grind
theorem X_(gv:List Nat)(H:List Ob):(Dr gv H).length=H.length:=TH ..
section
variable {w w':World} {F F2 F3 FR:Nat→Prop} {m m3:Mp} {H H1:List Ob} {fz fz1 fzR:List Bool} {bs:List Bnd} {ids fr:List Nat} {np:Nat}
theorem AKt(hiC:HI w F m H fz)(gA:BQ w F m H fz w F2 m H (BI fr fz))
  (giv:∀ (j id:Nat),bs[j]? = some (.whole id)→owned H (BI fr fz) id)
  (inj:∀ (i j id:Nat),bs[i]? = some (.whole id)→bs[j]? = some (.whole id)→i=j)
  (pin:∀ (j id:Nat),(bs.take np)[j]? = some (.whole id)→∃ o o1,H[id]? = some o∧alive o∧H1[j]? = some o1∧sameShape o o1∧m3 j=m id)
  (blk:∀ (j b c:Nat),owned H1 fz1 j→m3 j=some (b,c)→(∃ id c':Nat,(bs.take np)[j]? = some (.whole id)∧m id=some (b,c'))∨(∃ k id c':Nat,np≤k∧bs[k]? = some (.whole id)∧m id=some (b,c'))∨w.heap.size≤b)
  (os:w'.os=w.os) (tape:w'.tape=w.tape) (output:w'.output=w.output) (size:w.heap.size≤w'.heap.size)
  (keep:∀ b,b<w.heap.size→(∀ (j id:Nat) (c:Nat),bs[j]? = some (.whole id)→m id≠some (b,c))→w'.heap[b]? = w.heap[b]?)
  (sub:∀ b,F2 b→F3 b) (bnd:∀ b,F3 b→F2 b∨(∃ (j id c:Nat),bs[j]? = some (.whole id)∧m id=some (b,c))∨w.heap.size≤b)
  (hi1:HI w' F3 m3 H1 fz1) (al1:∀ (j:Nat) (o:Ob),H1[j]? = some o→alive o) (pl1:∀ (j:Nat) (o:Ob),H1[j]? = some o→CA o=true) (fr1:∀ j,fz1.getD j false=false)
  (hlen:ids.length=H1.length) (hok:FX H fzR ids (bs.take np)=true) (hnd:IS ids=true)
  (hR:(FR=F∧fzR=fz∧H1.all Mb=true)∨(FR=F3∧fzR=BI fr fz)) :
  BQ w F m H fz w' FR (mOf ids m3 m) (Br (ids.zip (H1.map (D' ids))) (Dr (given (bs.drop np)) H)) fzR∧uR ids H1 (Br (ids.zip (H1.map (D' ids))) (Dr (given (bs.drop np)) H)) m3 (mOf ids m3 m):=by
 have hiR:∃ FB,HI w FB m H fzR∧(∀ b,F b→FB b)∧(∀ b,FB b→FR b)∧(∀ b,FB b→F2 b):=by
  rcases hR with⟨e1,e2,_⟩|⟨e1,e2⟩
  exact⟨F,by grind,fun _ h=>h,fun _ h=>by grind,gA.1.sub⟩;exact⟨F2,by rw[e2];exact gA.2,gA.1.sub,fun b h=>by grind,fun _ h=>h⟩
 obtain⟨FB,hiB,hFB,hBR,hB2⟩:=hiR;have ownR:∀ {i},owned H fzR i→owned H fz i:=by
  intro i h;rcases hR with⟨_,e2,_⟩|⟨_,e2⟩
  grind;rw[e2]at h;exact Ku h
 have pinR:∀ {id},owned H (BI fr fz) id→owned H fzR id:=by
  intro id h;rcases hR with⟨_,e2,_⟩|⟨_,e2⟩
  rw[e2];exact Ku h;grind
 have FR3:∀ b,FR b→F3 b:=by grind
 have tk:∀ {j id:Nat},(bs.take np)[j]? = some (.whole id)→j<np∧bs[j]? = some (.whole id):=by grind
 have tk':∀ {j id:Nat},j<np→bs[j]? = some (.whole id)→(bs.take np)[j]? = some (.whole id):=by grind
 have gvI:∀ {i:Nat},i∈given (bs.drop np)→∃ k,np≤k∧bs[k]? = some (.whole i):=by intro i h;obtain⟨j,hj⟩:=Sa.1 h;grind
 have gvO:∀ {i k:Nat},np≤k→bs[k]? = some (.whole i)→i∈given (bs.drop np):=by intro i k hk h;refine Sa.2 ⟨k-np,?_⟩;grind
 have hids:∀ {j i:Nat},ids[j]? = some i→(∃ o,H[i]? = some o)∧((bs.take np)[j]? = some (.whole i)∨((∀ (id:Nat),(bs.take np)[j]?≠some (.whole id))∧H[i]? = some .free∧fzR.getD i false=false)):=by
  intro j i hj;rcases ec hok hj with h|⟨h1,h2⟩
  grind;obtain⟨h3,h4⟩:=B9 h2;grind
 have gvN:∀ {i:Nat},i∈ids→i∉given (bs.drop np):=by
  intro i hi hg;obtain⟨j,hj⟩:=List.getElem?_of_mem hi;obtain⟨k,hk,hb⟩:=gvI hg;rcases(hids hj).2 with h|⟨_,h,_⟩
  grind;obtain⟨o,h1,h2,_⟩:=FG (giv k i hb);grind
 have hunf:∀ {j i:Nat},ids[j]? = some i→∀ {o1:Ob},H1[j]? = some o1→∀ {T:TypeId} {t:Ty} {xs:List t.den},o1 = .arr T t xs→fzR.getD i false=false:=by
  intro j i hj o1 ho1 T t xs he;rcases(hids hj).2 with h|⟨_,_,h⟩
  obtain⟨o,o2,ho,_,ho2,hs,_⟩:=pin j i h;rw[ho1]at ho2;cases ho2;subst he;have h2:=pinR (giv j i (tk h).2);simp only[owned,Cd]at h2;rw[ho]at h2;cases o<;>simp only[sameShape]at hs;exact h2;omega
 have hwhole:∀ {j id:Nat},(bs.take np)[j]? = some (.whole id)→ids[j]? = some id:=by
  intro j id hb;obtain⟨o,o1,_,_,ho1,_⟩:=pin j id hb;have hl:=BU ho1;rw[← hlen]at hl;have hg:ids[j]? = some ids[j]:=AXj hl;rcases ec hok hg with h|⟨h,_⟩
  all_goals grind
 have hgv:∀ {i:Nat},i∈given (bs.drop np)→(Dr (given (bs.drop np)) H)[i]? = some .dead:=by intro i hi;obtain⟨k,_,hb⟩:=gvI hi;obtain⟨o,ho,_⟩:=FG (giv k i hb);exact AJP hi (BU ho)
 have getIn:∀ {j i:Nat} {o1:Ob},ids[j]? = some i→H1[j]? = some o1→(Br (ids.zip (H1.map (D' ids))) (Dr (given (bs.drop np)) H))[i]? = some (D' ids o1):=by intro j i o1 hj ho1;obtain⟨⟨o,ho⟩,_⟩:=hids hj;exact oh ids _ _ j hnd hj (by grind) (by rw[X_];grind)
 have getOut0:∀ {i:Nat},i∉ids→(Br (ids.zip (H1.map (D' ids))) (Dr (given (bs.drop np)) H))[i]? = (Dr (given (bs.drop np)) H)[i]? := by intro i hi;exact CO _ _ fun p hp=>by rintro rfl;exact hi (List.of_mem_zip hp).1
 have getOut:∀ {i:Nat},i∉ids→i∉given (bs.drop np)→(Br (ids.zip (H1.map (D' ids))) (Dr (given (bs.drop np)) H))[i]? = H[i]? := by intro i hi hg;rw[getOut0 hi,X9 hg]
 have getGv:∀ {i:Nat},i∈given (bs.drop np)→(Br (ids.zip (H1.map (D' ids))) (Dr (given (bs.drop np)) H))[i]? = some .dead:=by grind
 have mIn:∀ {j i:Nat},ids[j]? = some i→mOf ids m3 m i=m3 j:=by intro j i hj;simp only[mOf];rw[AJw hnd hj]
 have mOut:∀ {x:Ix},x.id∉ids→mOf ids m3 m x=m x:=by
  intro x hi;cases x with
   |r i k=>rfl
   |o i=>
    simp only[mOf];cases hf:Jl ids i with
     |none=>rfl
     |some j=>exact absurd (AXk (Tq hf)) hi
 have inOut:∀ i:Nat,(∃ j:Nat,ids[j]? = some i)∨i∈given (bs.drop np)∨(i∉ids∧i∉given (bs.drop np)):=by intro i;by_cases h:i∈ids;obtain⟨j,hj⟩:=List.getElem?_of_mem h;grind;grind
 have notGv:∀ {i:Ix},i.id∈given (bs.drop np)→¬ owned (Br (ids.zip (H1.map (D' ids))) (Dr (given (bs.drop np)) H)) fzR i:=by intro i hg ho;obtain⟨o,h1,_,h3⟩:=Dq ho;grind
 have has1:∀ {j i:Nat},ids[j]? = some i→∃ o1,H1[j]? = some o1:=by grind
 have plR:∀ {o1:Ob},CA o1=true→CA (D' ids o1)=true:=by intro o1 h;cases o1<;>first|exact h|rfl
 have cls:∀ x:Ix,owned (Br (ids.zip (H1.map (D' ids))) (Dr (given (bs.drop np)) H)) fzR x→(∃ i j:Nat,∃ o1,x = .o i∧ids[j]? = some i∧H1[j]? = some o1)∨(x.id∉ids∧x.id∉given (bs.drop np)):=by
  intro x hx;rcases inOut x.id with⟨j,hj⟩|hg|h;obtain⟨o1,ho1⟩:=has1 hj;cases x with
   |o i=>exact .inl ⟨i,j,o1,rfl,hj,ho1⟩
   |r i k=>exact absurd hx (FE (getIn hj ho1) (plR (pl1 j o1 ho1)))
  all_goals grind
 have own1:∀ {j:Nat} {o1:Ob},H1[j]? = some o1→owned H1 fz1 j:=fun h=>Xo h (al1 _ _ h) (fr1 _);have blkNe:∀ {i b c:Nat},i∉ids→i∉given (bs.drop np)→(∃ o,H[i]? = some o∧o≠.free∧o≠.dead)→m i=some (b,c)→∀ {j id c':Nat},bs[j]? = some (.whole id)→m id≠some (b,c'):=by
  intro i b c hi hg ⟨o,ho,h1,h2⟩ hm j id c' hb he;have hp:=giv j id hb;have hne:i≠id:=by grind
  exact gA.2.ne hp he ho h1 h2 hm hne rfl
 have hcomp:C5 H (Br (ids.zip (H1.map (D' ids))) (Dr (given (bs.drop np)) H)) m (mOf ids m3 m):=by
  intro i o ho hf;rcases inOut i with⟨j,hj⟩|hg|⟨hi,hg⟩
  rcases(hids hj).2 with h|⟨_,h,_⟩
  obtain⟨o',o1,ho',ha,ho1,hs,hm⟩:=pin j i h;rw[ho]at ho';cases ho';exact .inr ⟨(uL ha).2,_,getIn hj ho1,aO hs,by grind,fun _ _ _=>rfl⟩;grind;grind;rcases C5.refl H m i o ho hf with h|⟨hd,o',h1,h2,_⟩
  grind;exact .inr ⟨hd,o',by grind,h2,mOut (x:=.o i) hi,fun _ _ _=>rfl⟩
 have hmoved:uR ids H1 (Br (ids.zip (H1.map (D' ids))) (Dr (given (bs.drop np)) H)) m3 (mOf ids m3 m):=by intro j o ho;grind
 have hkeepF:∀ b,FB b→w'.heap[b]? = w.heap[b]? := by intro b hb;refine keep b (hiB.lt b hb) fun j id c hj he => ?_;exact gA.2.off id b c (giv j id hj) he (hB2 b hb)
 have hcell:∀ k,F k→w'.heap[k]? = w.heap[k]? := fun k ha=>hkeepF _ (hFB _ ha);have ownOut:∀ {i:Ix},i.id∉ids→i.id∉given (bs.drop np)→owned (Br (ids.zip (H1.map (D' ids))) (Dr (given (bs.drop np)) H)) fzR i→owned H fzR i:=by intro i hi hg h;exact(DJ (getOut hi hg)).1 h
 have blkNe':∀ {x:Ix} {b c:Nat},x.id∉ids→x.id∉given (bs.drop np)→owned H fzR x→m x=some (b,c)→∀ {j id c':Nat},bs[j]? = some (.whole id)→m id≠some (b,c'):=by
  intro x b c hi hg ho hm j id c' hb he;cases x with
   |o i=>exact blkNe hi hg (FG ho) hm hb he
   |r i k=>exact gA.2.neX (giv j id hb) he ho.there hm (by simp) rfl
 have bOut:∀ {x:Ix} {b c:Nat},x.id∉ids→x.id∉given (bs.drop np)→owned H fzR x→m x=some (b,c)→∀ {j:Nat} {o1:Ob} {c':Nat},H1[j]? = some o1→m3 j≠some (b,c'):=by intro x b c hi hg ho hm j o1 c' ho1 he;rcases blk j b c' (own1 ho1) he with⟨id,c2,hb,hm2⟩|⟨k,id,c2,_,hb,hm2⟩|hge;grind;grind;have:=hiB.IT ho hm;omega
 refine⟨⟨⟨os,tape,output,size,fun b hb hn=>keep b hb fun j id c hj he => ?_,fun b h=>hBR b (hFB b h),?_,?_,hcomp⟩,⟨?_,?_,?_,?_,?_,?_,?_,hiC.glo.mono hcell (fun b h=>hBR b (hFB b h)),?_⟩⟩,hmoved⟩;grind
 ·-- what is frozen
  intro b hb;rcases hR with⟨e1,_,_⟩|⟨e1,_⟩
  grind;·rw[e1]at hb;rcases bnd b hb with h|⟨j,id,c,h1,h2⟩|h;exact gA.1.bnd b h;all_goals grind
 intro i b c ho hm;rcases cls i ho with⟨i,j,o1,rfl,hj,ho1⟩|⟨hi,hg⟩
 rw[mIn hj]at hm;rcases blk j b c (own1 ho1) hm with⟨id,c',h1,h2⟩|⟨k,id,c',_,h1,h2⟩|h;grind;grind;omega;grind;-- objects
 intro i o ho;rcases inOut i with⟨j,hj⟩|hg|⟨hi,hg⟩
 obtain⟨o1,ho1⟩:=has1 hj;rw[getIn hj ho1]at ho;cases ho;rw[mIn hj];have hob:=hi1.obj j o1 ho1;cases o1 with
  |free=>trivial
  |dead=>trivial
  |box cs=>
   obtain⟨b,c,vs,T,a1,a2,a3,a4⟩:=hob;refine⟨b,c,vs,T,a1,a2,BD.ren hmoved cs ?_,a4⟩;rcases hR with⟨e1,_,hfl⟩|⟨e1,_⟩
   rw[AXy]at hfl;exact BD.flat cs (by simpa [Mb]using hfl _ (AXk ho1)) a3;grind
  |arr T t xs=>
   rcases hR with⟨e1,_,hfl⟩|⟨e1,_⟩
   rw[AXy]at hfl;have hft:t.flat=true:=by simpa [Mb]using hfl _ (AXk ho1)
   obtain⟨h0,h1⟩:=hob;refine⟨h0,?_⟩;cases hm3:m3 j with
    |none=>grind
    |some p=>obtain⟨b,cap⟩:=p;rw[hm3]at h1;obtain⟨vs,row,a1,a2,a3,a4,a5,a6⟩:=h1;exact⟨vs,row,a1,a2,a3,a4,B8 (fun x _ cs hx=>hx.flat t hft) a5,a6⟩
   rw[e1];exact hob
  |map k v es=>
   obtain⟨b,c,ms,clock,a1,a2,a3,a4⟩:=hob;refine⟨b,c,ms,clock,a1,a2,?_,a4⟩;rcases hR with⟨e1,_,hfl⟩|⟨e1,_⟩
   rw[AXy]at hfl;have hft:k.flat=true∧v.flat=true:=by simpa [Mb]using hfl _ (AXk ho1)
   exact AJ0 hft.1 hft.2 a3;grind
  |prs T tgt is=>
   simp only[D'];cases hm3:m3 j with
    |none=>rw[hm3]at hob;exact hob
    |some p=>
     obtain⟨b,cap⟩:=p;rw[hm3]at hob;obtain⟨vs,us,a1,a2,a3,a4,a5,a6,a7⟩:=hob;refine⟨vs,us,a1,a2,a3,a4,?_,a6,a7⟩;rw[← ANB];refine BD.ren hmoved _ ?_;rcases hR with⟨e1,_,hfl⟩|⟨e1,_⟩
     exact BD.flat _ (AJt tgt is) a5;grind
  |rows T e t xs ver out=>exact absurd (pl1 j _ ho1) (by simp[CA])
 rw[getGv hg]at ho;cases ho;trivial;rw[getOut hi hg]at ho;rw[mOut (x:=.o i) hi];refine ObI.mono hcell (fun b h=>hBR b (hFB b h)) hcomp (fun h1 h2 b c hm hlt=>keep b hlt fun j id c' hj=>blkNe hi hg ⟨o,ho,h1,h2⟩ hm hj) (hiC.obj i o ho);-- rows
 intro i;rcases inOut i with⟨j,hj⟩|hg|⟨hi,hg⟩
 obtain⟨o1,ho1⟩:=has1 hj;exact Co.plain (getIn hj ho1) (plR (pl1 j o1 ho1));exact Co.plain (getGv hg) rfl
 refine Co.mono hcell (fun b h=>hBR b (hFB b h)) hcomp (getOut hi hg) (fun x hx=>mOut (by grind))
  (fun x hx hox b c hm hlt=>keep b hlt fun j id c' hj he => ?_) (hiC.row i)
 refine gA.2.neX (giv j id hj) he hox hm ?_ rfl;grind;intro i T e t xs ver out hio hf x hx ht b c hm;rcases inOut i with⟨j,hj⟩|hg|⟨hi,hg⟩
 obtain⟨o1,ho1⟩:=has1 hj;rw[getIn hj ho1]at hio;have:=plR (pl1 j o1 ho1);rw[AZP hio]at this;cases this;grind;rw[mOut (x:=x) (by grind)]at hm;have h1:=getOut hi hg;exact hBR b (hiB.rfz i T e t xs ver out (h1▸hio) hf x hx ((DH (by grind)).1 ht) b c hm);-- apart
 intro i j b c b' c' hoi hoj hij hmi hmj;rcases cls i hoi with⟨i,k,o1,rfl,hk,ho1⟩|⟨hi,hgi⟩
 rw[mIn hk]at hmi;rcases cls j hoj with⟨j,l,o2,rfl,hl,ho2⟩|⟨hj,hgj⟩
 rw[mIn hl]at hmj;have hkl:k≠l:=by grind
 exact hi1.sep k l b c b' c' (own1 ho1) (own1 ho2) (AS7 hkl) hmi hmj;grind;rw[mOut hi]at hmi;rcases cls j hoj with⟨j,l,o2,rfl,hl,ho2⟩|⟨hj,hgj⟩
 grind;rw[mOut hj]at hmj;exact hiB.sep i j b c b' c' (ownOut hi hgi hoi) (ownOut hj hgj hoj) hij hmi hmj;-- none of them frozen
 intro i b c hoi hmi hb;rcases cls i hoi with⟨i,k,o1,rfl,hk,ho1⟩|⟨hi,hg⟩
 rw[mIn hk]at hmi;exact hi1.off k b c (own1 ho1) hmi (FR3 b hb);rw[mOut hi]at hmi;have ho:=ownOut hi hg hoi;rcases hR with⟨e1,e2,_⟩|⟨e1,e2⟩
 rw[e1]at hb;exact hiC.off i b c (ownR ho) hmi hb;rw[e1]at hb;rcases bnd b hb with h|⟨j,id,c',h1,h2⟩|h;rw[e2]at ho;exact gA.2.off i b c ho hmi h;grind;have:=hiB.IT ho hmi;omega;intro i T t xs b c hio hf hmi;rcases inOut i with⟨k,hk⟩|hg|⟨hi,hg⟩
 obtain⟨o1,ho1⟩:=has1 hk;rw[getIn hk ho1]at hio;have:o1 = .arr T t xs:=by cases o1<;>simp only[D',AXa]at hio<;>first|exact hio|cases hio
 grind;grind;rw[getOut hi hg]at hio;rw[mOut (x:=.o i) hi]at hmi;exact hBR b (hiB.froz i T t xs b c hio hf hmi);intro b hb;exact hi1.lt b (FR3 b hb);rw[TH,X_];exact hiB.len
end
end Go.Pev
end
section
namespace Go.Pev
open Go.RowKit
section
variable [DfI] {P:Program} {w:World} {F:Nat→Prop} {m:Mp} {st:St} {a:Act}
def jW(tmps:Array Value):ResultVar→Sem Value
 |.tmp t=>pure (tmps.getD t undef)
 |.cell x t=>do loadVar t (← asAddr (tmps.getD x undef))
theorem ph(hs:SI w F m st a){rv:ResultVar}{v:AV}(h:Po P st rv=some v):
  ∃ u,(jW a.tmps rv).run P w = .ok u w∧Rep w F m st.heap v u:=by
 cases rv with
  |tmp t=>simp only[Po,AXa]at h;subst h;exact⟨_,rfl,hs.tmps t⟩
  |cell x T=>
   simp only[Po]at h;split at h;rename_i id off n ag h1 h2 h3;split at h;rename_i cs ho;have hr:=hs.tmps x;have e1:st.tmps.f x = .ptr id off:=h1;rw[e1]at hr;unfold Rep GZ at hr;rw[ho]at hr;obtain⟨b,c,e2,e3⟩:=hr;obtain⟨b',c',vs,T',e4,e5,e6,e7⟩:=hs.heap.obj id _ ho;rw[e2]at e4;cases e4;obtain⟨u,k1,k2⟩:=DZ (P:=P) h2 h3 h (FL e6 off) (ad:=⟨b,off,none⟩) (fun u hu=>e7 u (AZD hu)) (fun j u hu=>by rw[AZ8]at hu;rw[Cs];simp only[World.cell?,e5];grind)
   refine⟨u,?_,k2⟩;simp[jW,e3,asAddr,k1];grind;grind
theorem jV(hs:SI w F m st a):∀ {rvs:List ResultVar} {vs:List AV},D5 P st rvs=some vs →
  ∃ us,(rvs.mapM (jW a.tmps)).run P w = .ok us w∧BD w F m st.heap vs us:=by
 intro rvs;induction rvs with
  |nil=>intro vs h;simp only[D5,AXa]at h;subst h;exact⟨[],by simp,KR⟩
  |cons rv rvs ih=>intro vs h;simp only[D5]at h;split at h;cases h;rename_i v hv;split at h;cases h;rename_i vs' hvs;simp only[AXa]at h;subst h;obtain⟨u,h1,h2⟩:=ph hs hv;obtain⟨us,h3,h4⟩:=ih hvs;refine⟨u::us,?_,by unfold BD;grind⟩;simp_all
def kA(us:List Value):Value:=if h:us.toArray.size=1 then us.toArray[0]else .tuple us.toArray
theorem Ko(hs:SI w F m st a){fn:Func}{vs:List AV}(h:D5 P st fn.results.toList=some vs):
  ∃ us,(results fn a.tmps).run P w = .ok (kA us) w∧BD w F m st.heap vs us:=by
 obtain⟨us,h1,h2⟩:=jV hs h;refine⟨us,?_,h2⟩
 have e:results fn a.tmps=(do
   let vs ← fn.results.mapM (jW a.tmps)
   pure (if h:vs.size=1 then vs[0]else .tuple vs)):=by
  unfold results
  congr 2
 rw[e,AZ4];simp only[Sem.run_bind,map_eq_pure_bind];rw[h1];rfl
theorem cy{H:List Ob}{vs:List AV}{us:List Value}(h:BD w F m H vs us):Rep w F m H (single vs) (kA us):=by
 have hl:=Ba h;unfold kA;match vs,us,hl with
 |[],[],_=>
  simp only[single]
  unfold Rep
  simp_all
 |[v],[u],_=>
  simp only[single]
  unfold BD at h
  grind
 |v::v'::vs,u::u'::us,_=>
  simp only[single]
  unfold Rep
  simp_all
def JT:List RS→List Value→List Value
 |.one::r,u::us=>u::JT r us
 |.agg _::r,u::us=>u.cells.toList++JT r us
 |_,_=>[]
theorem yV{H:List Ob}:∀ {rs:List RS} {vs:List AV} {us:List Value} {tm:List AV},Fb rs vs=some tm→BD w F m H vs us →
  BD w F m H tm (JT rs us)∧(JT rs us).length=cellsOf rs∧∀ (w2:World) (F2:Nat→Prop) (m2:Mp) (H2:List Ob) (ws:List AV),BD w2 F2 m2 H2 ws (JT rs us)→BD w2 F2 m2 H2 (Ea rs ws) us:=by
 intro rs;induction rs with
  |nil=>
   intro vs us tm h hr;cases vs with
    |nil=>simp only[Fb,AXa]at h;subst h;unfold BD at hr;subst hr;exact⟨KR,rfl,fun _ _ _ _ _ _=>KR⟩
    |cons v vs=>simp[Fb]at h
  |cons r rs ih=>
   intro vs us tm h hr;cases vs with
    |nil=>cases r<;>simp[Fb]at h
    |cons v vs=>
     unfold BD at hr;obtain⟨u,us',rfl,hv,hr⟩:=hr;cases r with
      |one=>
       simp only[Fb]at h;split at h;rename_i l hl;simp only[AXa]at h;subst h;obtain⟨h1,h2,h3⟩:=ih hl hr;refine⟨by simp only[JT];unfold BD;grind,by simp[JT,cellsOf,RS.cells,h2];omega,fun w2 F2 m2 H2 ws hw => ?_⟩;simp only[JT]at hw;cases ws with
        |nil=>unfold BD at hw;cases hw
        |cons x ws=>unfold BD at hw;obtain⟨y,ys,e,q1,q2⟩:=hw;cases e;simp only[Ea,AZn,AY2];unfold BD;grind
       grind
      |agg n=>
       simp only[Fb]at h;split at h;rename_i cs hag hcs;split at h;rename_i hn;simp only[AXc]at hn;split at h;rename_i l hl;simp only[AXa]at h;subst h;obtain⟨h1,h2,h3⟩:=ih hl hr;have hc:=cells?_ok hcs hv;have ho:=cells?_one hcs hv;have hcl:=Ba hc;have hu:u = .agg u.cells:=by
        cases v<;>simp only[N']at hag<;>try grind
        rename_i t d;unfold Rep CW at hv;rw[AXp hag]at hv;obtain⟨x,rfl,_⟩:=hv;rfl;unfold Rep at hv;obtain⟨x,rfl,_⟩:=hv;rfl
       refine⟨by simp only[JT];exact G8 hc h1,by simp[JT,cellsOf,RS.cells,h2]at hcl ⊢;omega,fun w2 F2 m2 H2 ws hw => ?_⟩;simp only[JT]at hw;have ht:=Ni hw n;have hd:=FL hw n;have hn':u.cells.toList.length=n:=by omega
       rw[AZ7 hn']at ht;rw[List.drop_left' hn']at hd;simp only[Ea];unfold BD;refine⟨u,us',rfl,?_,h3 w2 F2 m2 H2 _ hd⟩;unfold Rep;grind;grind;grind;grind
end
end Go.Pev
end
section
namespace Go.Pev
open Go.RowKit
theorem CV {P : Program} {g : FuncId} {fn : Func} (hf : P.funcs[g]? = some fn) (hb : fn.body.isSome = true) (hn : (fn.name == "runtime.NumGoroutine") = false) : HD P g := by
 intro args w;obtain⟨c,hc⟩:=AYc.1 hb;have hn' : ¬ fn.name = "runtime.NumGoroutine" := by grind
 simp[callFunc,hf,hn',hc]
theorem LR{P:Program}{np:Nat}{h:Hints}:∀ (c:Code) (n:Nat),loops c=0→By P np h c n:=by
 intro c;induction c with
  |seq a b iha ihb=>intro n hl;simp only[loops]at hl;exact⟨iha n (by omega),ihb _ (by omega)⟩
  |cond c a b iha ihb=>intro n hl;simp only[loops]at hl;exact⟨iha n (by omega),ihb _ (by omega)⟩
  |block id c ih=>intro n hl;simp only[loops]at hl;exact ih n hl
  |loop c ih=>intro n hl;simp only[loops]at hl;omega
  |_=>intro n _;trivial
section
variable {P:Program} {E:Env} {h:Hints} {g:FuncId} {fn:Func} {c:Code}
theorem iZ{w:World}{F:Nat→Prop}{m:Mp}{H:List Ob}{args:List AV}{vals:List Value}(hr:BD w F m H args vals)(n:Nat)(t:Nat):
  Rep w F m H (args.getD t .Cr) ((vals.toArray++Array.replicate n undef).getD t undef):=by
 have hl:=Ba hr;have e:(vals.toArray++Array.replicate n undef).getD t undef=(vals++List.replicate n undef).getD t undef:=by rw[AX6,AXe,← AYY];simp
 rw[e,AXe,AXe];rcases AZd t args.length with ht|ht;rw[AYu (by omega)];obtain⟨v,hv,hrv⟩:=C' hr (i:=t) (c:=args[t]) (AXj ht);grind;rw[List.getElem?_eq_none ht];exact(by unfold Rep;trivial:Rep w F m H .Cr _)
theorem rH(hE:∀ g,BV P g (E.spec g))(hL:EV E)(hP:Fs P E)(hf:P.funcs[g]? = some fn)(hb:fn.body=some c)(hc:HD P g)(hl:loops c=0):
  BV P g (CL P E h fn):=by
 intro R args H fz slot k r hk;simp only[CL,hb]at hk;split at hk;cases hk;rename_i hle;simp only[AXc]at hle;obtain⟨e,st',h1,h2,h3⟩:=C8 hE hL hP (np:=H.length) c 0 (LR c 0 hl) R _ _ r hk;have key:∃ vs,D5 P st' fn.results.toList=some vs∧k (single vs) { heap:=some (st'.heap,st'.frz) }=some r∧(e = .normal∨e = .ret):=by grind
 obtain⟨vs,hvs,h4,he⟩:=key;refine⟨_,_,h4,fun R' k' => ?_,hc,fun w F m vals hi hr => ?_⟩;simp only[CL,hb,hle,AXi];grind;have hlv:=Ba hr;refine calls_of_wp hf hb ?_;have hsi:SI w F m { tmps:=.of args fn.ntmps,heap:=H,frz:=fz } { tmps:=vals.toArray++Array.replicate (fn.ntmps-vals.toArray.size) undef,defers:=[] }:=by refine⟨fun t => ?_,?_,hi,rfl⟩;have:=iZ hr (fn.ntmps-args.length) t;simp only[AYk,hlv];exact this;simp[hlv,Tm.of];omega
 refine h3 w F m _ _ hsi fun a' w' F' m' s1 x1 => ?_;obtain⟨us,r1,r2⟩:=Ko s1 hvs;have hgo:BQ w F m H fz w' F' m' st'.heap st'.frz:=⟨⟨x1.os,x1.tape,x1.output,x1.size,x1.keep,x1.sub,x1.bnd,x1.own,fun i o ho hf=>x1.comp i o (BU ho) ho hf⟩,s1.heap⟩
 have hpost:a'.defers=[]∧∃ v,(results fn a'.tmps).run P w' = .ok v w'∧(fun(en:Ending) (w':World)=>∃ u,en = .returned u∧∃ F' m',BQ w F m H fz w' F' m' (Cy { heap:=some (st'.heap,st'.frz) } H) (Ev { heap:=some (st'.heap,st'.frz) } fz)∧Rep w' F' m' (Cy { heap:=some (st'.heap,st'.frz) } H) (single vs) u) (.returned v) w':=
  ⟨s1.defers,_,r1,_,rfl,F',m',hgo,cy r2⟩
 rcases he with rfl|rfl<;>exact hpost
theorem fe{w:World}{F:Nat→Prop}{m:Mp}{H:List Ob}{fz:List Bool}{bs:List Bnd}{m':Mp}{E:St}{val:Nat→Value}(h:Inv w F m H fz bs m' E val){j:Nat}{o:Ob}(hj:E.heap[j]? = some o):alive o:=by
 have hlt:=BU hj;rw[h.lenH]at hlt;have hx:bs[j]? = some bs[j]:=AXj hlt;have hb:=h.ob j _ hx;cases hc:bs[j]with
  |none=>rw[hc]at hb;simp only[B_]at hb;obtain⟨_,⟨T,e,e2,_⟩|⟨T,e,e2⟩⟩:=hb<;>(rw[hj]at e2;cases e2;trivial)
  |whole id=>rw[hc]at hb;simp only[B_]at hb;rcases hb.2 with⟨T,t,xs,_,a2,_⟩|⟨k,v,es,_,a2⟩|⟨cs,cs',b,c,vs,T,_,a2,_⟩|⟨_,_,_,_,_,a2,_⟩|⟨_,_,_,_,_,_,a2,_⟩<;>(rw[hj]at a2;cases a2;trivial)
  |cut id=>rw[hc]at hb;simp only[B_]at hb;obtain⟨T,t,xs,n,_,_,a3,_⟩:=hb;rw[hj]at a3;cases a3;trivial
theorem FD{st:St}(h:st.heap.all CA=true)(v:AV)(l:Loc):(place st v l).heap.all CA=true:=by
 cases l with
  |cell j c=>simp only[place];split;rw[AXy]at h ⊢;intro o ho;rcases List.mem_or_eq_of_mem_set ho with h1|rfl;grind;rfl;omega
  |_=>exact h
theorem J0{st:St}(h:st.heap.all CA=true){o:Ob}(ho:CA o=true):(ET st o).heap.all CA=true:=by simp[ET,h,ho]
theorem AH7:∀ (its:A1) (d:Bg (leaves its)) (st:St),GH its=true→st.heap.all CA=true→(enc its d st).heap.all CA=true:=by
 intro its;induction its with
  |nil=>intro d st _ h;exact h
  |cons p r ih=>
   intro d st hn h;obtain⟨l,c⟩:=p;cases c with
    |rows T e t=>simp[GH]at hn
    |mrows j e t=>simp[GH]at hn
    |aptr T e n=>exact ih _ _ hn (FD (J0 h rfl) _ _)
    |own T e=>exact ih _ _ hn (FD (J0 h rfl) _ _)
    |box n=>exact ih _ _ hn (FD (J0 h rfl) _ _)
    |map k v=>exact ih _ _ hn (FD (J0 h rfl) _ _)
    |prs T j=>exact ih _ _ hn (FD (J0 h rfl) _ _)
    |_=>exact ih _ _ hn (FD h _ _)
theorem NS{its:A1}{d:Bg (leaves its)}{n:Nat}(hn:GH its=true){j:Nat}{o:Ob}(h:(encode n its d).heap[j]? = some o):CA o=true:=
 AXy.1 (AH7 its d (blank n) hn rfl) o (AXk h)
theorem p9{its:A1}{d:Bg (leaves its)}{n:Nat}(hn:GH its=true){fz:List Bool}{x:Ix}(h:owned (encode n its d).heap fz x):x = .o x.id:=by
 cases x with
  |o i=>rfl
  |r i k=>obtain⟨o,ho,_⟩:=Dq h;exact absurd h (FE ho (NS hn ho))
theorem Tp{np:Nat}{outs:A1}{rs:List RS}{st:St}{y:Bg (leaves outs)}(h:finish np P fn outs rs st=some y):
  ∃ vs tm bs fr,D5 P st fn.results.toList=some vs∧Fb rs vs=some tm∧dec (lk tm) st.heap outs st.frz []=some (y,bs,fr)∧(pins np 0 bs&&(st.heap.take np).all CA)=true:=by unfold finish at h;grind
theorem Q8{R:Type}{r:R}{gv:List Nat}{bs:List Bnd}{fr:List Nat}{rs:List RS}{X:St}{ids:List Nat}{H:List Ob}{fz:List Bool}{k:AV→Eff→Option R}(hk:Iv R gv bs fr rs X ids H fz k=some r):
  ∃ e,k (single (Ea rs (I1 ids X.tmps.list))) e=some r∧e.heap=none∧e.objs=gv.map (fun i=>(i,.dead))++ids.zip (X.heap.map (D' ids)) ∧
   (∀ R' (k':AV→Eff→Option R'),Iv R' gv bs fr rs X ids H fz k'=k' (single (Ea rs (I1 ids X.tmps.list))) e) ∧
   FX H (BI e.frz fz) ids bs=true∧IS ids=true ∧
   ((e.frz=[]∧JU X.tmps.list=true∧X.heap.all Mb=true)∨e.frz=fr):=by unfold Iv at hk;split at hk;rename_i hflat;split at hk;rename_i hok;simp only[AXd]at hok hflat;refine⟨_,hk,rfl,rfl,fun R' k'=>by simp only[Iv,hflat.1,hflat.2,hok.1,hok.2,AYb],hok.1,hok.2,.inl ⟨rfl,hflat.1,hflat.2⟩⟩;grind;rename_i hflat;split at hk;rename_i hok;simp only[AXd]at hok;refine⟨_,hk,rfl,rfl,fun R' k'=>by simp only[Iv,hflat,hok.1,hok.2,AYb],hok.1,hok.2,.inr rfl⟩;grind
theorem PD{w:World}{F:Nat→Prop}{m:Mp}{H:List Ob}{fz:List Bool}{args:List AV}{vals:List Value}{na:Nat}{its:A1}{x:Bg (leaves its)}{bs:List Bnd}{fr:List Nat}(hi:HI w F m H fz)(hr:BD w F m H args vals)(hal:args.length=na)(hna:na≤fn.ntmps)(hdec:dec (lk args) H its fz []=some (x,bs,fr)):
  ∃ F2 m2,BQ w F m H fz w F2 m H (BI fr fz)∧Inv w F2 m H (BI fr fz) bs m2 (encode fn.ntmps its x) (fun t=>(vals.toArray++Array.replicate (fn.ntmps-vals.toArray.size) undef).getD t undef) ∧
   SI w F2 m2 (encode fn.ntmps its x) { tmps:=vals.toArray++Array.replicate (fn.ntmps-vals.toArray.size) undef,defers:=[] }:=by
 have hlv:=Ba hr
 obtain⟨F2,m2,gA,invA,_⟩:=AA5 (val:=fun t=>(vals.toArray++Array.replicate (fn.ntmps-vals.toArray.size) undef).getD t undef) its fz [] F (fun _=>none) (blank fn.ntmps) x bs fr hi
  (fun t v ht=>by
   have:=iZ hr (fn.ntmps-vals.toArray.size) t
   rw[AXe,show args[t]? = some v from ht]at this
   grind) (Inv.blank fn.ntmps) hdec
 have hsi:SI w F2 m2 (encode fn.ntmps its x) { tmps:=vals.toArray++Array.replicate (fn.ntmps-vals.toArray.size) undef,defers:=[] }:=by refine⟨invA.tmps,?_,invA.hi gA.2,rfl⟩;rw[Mf];grind
 exact⟨F2,m2,gA,invA,hsi⟩
theorem ZG{w:World}{F:Nat→Prop}{m:Mp}{H:List Ob}{fz:List Bool}{val:Nat→Value}{np n:Nat}{its outs:A1}{rs:List RS}{x:Bg (leaves its)}{y:Bg (leaves outs)}{bs bs':List Bnd}{fr fr':List Nat}{F2:Nat→Prop}{m2:Mp}{slot:Nat}{e:Eff}{ids gv:List Nat}
  (hi:HI w F m H fz) (gA:BQ w F m H fz w F2 m H (BI fr fz)) (invA:Inv w F2 m H (BI fr fz) bs m2 (encode n its x) val)
  (huncut:bs.all Bnd.ACq=true) (hri:GH its=true) (hro:GH outs=true) (hids:DA (DS outs) (bs.take np) slot=ids) (hgv:given (bs.drop np)=gv)
  (he1:e.heap=none) (he2:e.objs=gv.map (fun i=>(i,.dead))++ids.zip ((encode (cellsOf rs) outs y).heap.map (D' ids))) (hok:FX H (BI e.frz fz) ids (bs.take np)=true) (hnd:IS ids=true)
  (hfl:(e.frz=[]∧JU (encode (cellsOf rs) outs y).tmps.list=true∧(encode (cellsOf rs) outs y).heap.all Mb=true)∨e.frz=fr)
  {w':World} {F':Nat→Prop} {m':Mp} {st':St} (s1h:HI w' F' m' st'.heap st'.frz) (x1:Hi np w F2 m2 (encode n its x).heap (encode n its x).frz w' F' m' st'.heap st'.frz)
  {vs:List AV} {us:List Value} {tm:List AV} (r2:BD w' F' m' st'.heap vs us) (htm:Fb rs vs=some tm) (hd':dec (lk tm) st'.heap outs st'.frz []=some (y,bs',fr')) (hp:pins np 0 bs'=true) :
  ∃ F' m',BQ w F m H fz w' F' m' (Cy e H) (Ev e fz)∧Rep w' F' m' (Cy e H) (single (Ea rs (I1 ids (encode (cellsOf rs) outs y).tmps.list))) (kA us):=by
 obtain⟨q1,q2,q3⟩:=yV htm r2
 obtain⟨F3,m3,gC,invC,_⟩:=AA5 (val:=fun t=>(JT rs us).getD t undef) outs st'.frz [] F' (fun _=>none) (blank (cellsOf rs)) y bs' fr' s1h
  (fun t v ht=>by
   obtain⟨u,hu,hru⟩:=C' q1 ht
   grind) (Inv.blank (cellsOf rs)) hd'
 have srcA:∀ {j:Ix} {b c},owned (encode n its x).heap (encode n its x).frz j→m2 j=some (b,c)→∃ id:Nat,bs[j.id]? = some (.whole id)∧owned H (BI fr fz) id∧m id=some (b,c):=by
  intro j b c ho hm;have hj:=p9 hri ho;obtain⟨y,id,k1,k2,k3,k4⟩:=invA.src ho hm;rw[hj]at k3 k4;rw[AXy]at huncut;have:=huncut y (AXk k1);cases y with
   |none=>simp[Bnd.id?]at k2
   |whole i=>simp only[Bnd.id?,AXa]at k2;subst k2;exact⟨_,k1,k3,k4⟩
   |cut i=>simp[Bnd.ACq]at this
 have hinj:∀ (i j id:Nat),bs[i]? = some (.whole id)→bs[j]? = some (.whole id)→i=j:=fun i j id h1 h2=>invA.inj i j _ _ id h1 h2 rfl rfl;have start:∀ (j id:Nat),bs[j]? = some (.whole id)→m2 j=m id∧∃ o o0,H[id]? = some o∧alive o∧(encode n its x).heap[j]? = some o0∧sameShape o o0∧alive o0∧owned H (BI fr fz) id:=by
  intro j id hj;have hA:=invA.ob j _ hj;simp only[B_]at hA;obtain⟨eA,hA⟩:=hA;refine⟨eA,?_⟩;rcases hA with⟨T,t,xs,a1,a2,a3⟩|⟨k,v,es,a1,a2⟩|⟨cs,cs',b,cc,vs,T,a1,a2,_⟩|⟨_,_,_,_,a1,a2,_⟩|⟨_,_,_,_,_,_,a2,_⟩
  exact⟨_,_,a1,trivial,a2,⟨rfl,rfl⟩,trivial,Xo a1 trivial a3⟩;exact⟨_,_,a1,trivial,a2,trivial,trivial,by simp only[owned,Cd];grind⟩;rotate_left;exact⟨_,_,a1,trivial,a2,rfl,trivial,by simp only[owned,Cd];grind⟩;exact absurd (NS hri a2) (by simp[CA]);exact⟨_,_,a1,trivial,a2,trivial,trivial,by simp only[owned,Cd];grind⟩
 have hpin:∀ (j id:Nat),(bs.take np)[j]? = some (.whole id)→∃ o o1,H[id]? = some o∧alive o∧(encode (cellsOf rs) outs y).heap[j]? = some o1∧sameShape o o1∧m3 j=m id:=by
  intro j id hj0;rw[AZk]at hj0;split at hj0;case isFalse=>cases hj0
  rename_i hjn;obtain⟨eA,o,o0,s1,s2,s3,s4,s5,s6⟩:=start j id hj0;have hC:=invC.ob j _ (by have:=qG _ 0 bs' hp j hjn;rw[AYQ]at this;exact this);simp only[B_]at hC;obtain⟨eC,hC⟩:=hC;have mid:=x1.comp j o0 hjn s3 (uL s5).1;have fin:∃ o2 o1,st'.heap[j]? = some o2∧alive o2∧(encode (cellsOf rs) outs y).heap[j]? = some o1∧sameShape o2 o1:=by
   rcases hC with⟨T,t,xs,a1,a2,a3⟩|⟨k,v,es,a1,a2⟩|⟨cs,cs',b,cc,vs,T,a1,a2,_⟩|⟨_,_,_,_,a1,a2,_⟩|⟨_,_,_,_,_,_,a2,_⟩
   exact⟨_,_,a1,trivial,a2,⟨rfl,rfl⟩⟩;exact⟨_,_,a1,trivial,a2,trivial⟩;rotate_left;exact⟨_,_,a1,trivial,a2,rfl⟩;exact absurd (NS hro a2) (by simp[CA]);exact⟨_,_,a1,trivial,a2,trivial⟩
  obtain⟨o2,o1,t1,t2,t3,t4⟩:=fin;rcases mid with md|⟨_,o2',md1,md2,md3,_⟩
  grind;rw[t1]at md1;cases md1;exact⟨o,o1,s1,s2,t3,(s4.trans md2).trans t4,by grind⟩
 have hiC1:=invC.hi gC.2;have hblk:∀ j b cc:Nat,owned (encode (cellsOf rs) outs y).heap (encode (cellsOf rs) outs y).frz j→m3 j=some (b,cc)→(∃ id c':Nat,(bs.take np)[j]? = some (.whole id)∧m id=some (b,c'))∨(∃ k id c':Nat,np≤k∧bs[k]? = some (.whole id)∧m id=some (b,c'))∨w.heap.size≤b:=by
  intro j b cc ho hm;obtain⟨_,i',k1,k2,k3,k4⟩:=invC.src ho hm;rcases x1.own i' b cc (Ku k3) k4 with⟨i,c0,l1,l2⟩|h;obtain⟨id,n1,n2,n3⟩:=srcA l1 l2;have hio:=p9 hri l1;generalize i.id=i0 at n1 hio;subst hio;rcases AZd i0 np with hin|hin;left;have n1':(bs.take np)[i0]? = some (.whole id):=by grind
  obtain⟨o,o1,p1,p2,p3,p4,p5⟩:=hpin i0 id n1';have hoi:owned (encode (cellsOf rs) outs y).heap (encode (cellsOf rs) outs y).frz i0:=Xo p3 (fe invC p3) (invC.frz i0);by_cases hij:j=i0;grind;exact absurd rfl (hiC1.sep j i0 b cc b c0 ho hoi (AS7 hij) hm (by grind));grind;omega
 have hkeep:∀ b,b<w.heap.size→(∀ (j id:Nat) (c:Nat),bs[j]? = some (.whole id)→m id≠some (b,c))→w'.heap[b]? = w.heap[b]? := by intro b hb hn;refine x1.keep b hb fun i cc ho hm => ?_;grind
 have hbnd:∀ b,F3 b→F2 b∨(∃ (j id c:Nat),bs[j]? = some (.whole id)∧m id=some (b,c))∨w.heap.size≤b:=by
  have hx:∀ {i:Ix} {b cc:Nat},owned (encode n its x).heap (encode n its x).frz i→m2 i=some (b,cc)→∃ (j id c:Nat),bs[j]? = some (.whole id)∧m id=some (b,c):=by grind
  intro b hb;rcases gC.1.bnd b hb with h|⟨i,cc,ho,hm⟩|h;·rcases x1.bnd b h with h|⟨i,cc,ho,hm⟩|h;all_goals grind
  ·rcases x1.own i b cc ho hm with⟨i',c0,ho,hm⟩|h;all_goals grind
  grind
 have hidl:ids.length=(encode (cellsOf rs) outs y).heap.length:=by rw[← hids,AJZ];unfold encode;rw[AP2];simp[blank]
 obtain⟨FR,hFR,hRR⟩:∃ FR,((FR=F∧BI e.frz fz=fz∧(encode (cellsOf rs) outs y).heap.all Mb=true)∨(FR=F3∧BI e.frz fz=BI fr fz))∧BD w' FR m3 (encode (cellsOf rs) outs y).heap (encode (cellsOf rs) outs y).tmps.list (JT rs us):=by
  have hrt:BD w' F3 m3 (encode (cellsOf rs) outs y).heap (encode (cellsOf rs) outs y).tmps.list (JT rs us):=by refine Dy (by rw[Tm.AOj,Mf,q2]) fun i a u ha hu => ?_;have:=invC.tmps i;rw[AXe,hu]at this;rw[Tm.AOk ha];exact this
  rcases hfl with⟨f1,f2,f3⟩|f1;exact⟨F,.inl ⟨rfl,by rw[f1];rfl,f3⟩,BD.flat _ f2 hrt⟩;grind
 obtain⟨hgo,hmv⟩:=AKt (ids:=ids) (np:=np) hi gA (fun j id hj=>(start j id hj).2.elim fun _ h=>h.elim fun _ h=>h.2.2.2.2.2) hinj hpin hblk x1.os x1.tape x1.output x1.size hkeep (fun b h=>gC.1.sub b (x1.sub b h)) hbnd hiC1 (fun j o hj=>fe invC hj) (fun j o hj=>NS hro hj) invC.frz hidl hok hnd hFR;rw[hgv]at hgo hmv;have hH:Cy e H=Br (ids.zip ((encode (cellsOf rs) outs y).heap.map (D' ids))) (Dr gv H):=by rw[C4 he1,he2,TJ];rfl
 have hZ:Ev e fz=BI e.frz fz:=DG he1 fz;refine⟨FR,mOf ids m3 m,?_,?_⟩;grind;rw[hH];exact cy (q3 _ _ _ _ _ (BD.ren hmv _ hRR))
theorem AIq(hE:∀ g,BV P g (E.spec g))(hL:EV E)(hP:Fs P E)(hf:P.funcs[g]? = some fn)(hb:fn.body=some c)(hc:HD P g)
  {np na:Nat} (hna:na≤fn.ntmps) {its outs:A1} {rs:List RS} {f:Bg (leaves its)→Option (Bg (leaves outs))} (hfun:∀ x,f x=Dp np P E h fn its outs rs x) (hl:By P np h c 0) :
  BV P g (Bb np na its outs rs f):=by
 intro R args H fz slot k r hk;simp only[Bb]at hk;split at hk;cases hk;rename_i x bs fr hdec;split at hk;cases hk;rename_i hchk;simp only[AXd,AXc]at hchk;obtain⟨⟨⟨huncut,hbl⟩,hal⟩,hri,hro⟩:=hchk;split at hk;cases hk;rename_i y hy;generalize hids:DA (DS outs) (bs.take np) slot=ids at hk;generalize hgv:given (bs.drop np)=gv at hk;obtain⟨e,h4,he1,he2,h5,hok,hnd,hfl⟩:=Q8 hk;refine⟨_,e,h4,fun R' k' => ?_,hc,fun w F m vals hi hr => ?_⟩;simp only[Bb,hdec,huncut,hbl,hal,hri,hro,hy,AXi,AYb,hids,hgv];grind;have hlv:=Ba hr;rw[hfun x]at hy;unfold Dp at hy;rw[hb]at hy;simp only at hy;obtain⟨ex,st',g1,_,g3⟩:=C8 hE hL hP c 0 hl _ _ _ _ hy;have hfin:finish np P fn outs rs st'=some y∧(ex = .normal∨ex = .ret):=by grind
 obtain⟨hfin,hex⟩:=hfin;obtain⟨vs,tm,bs',fr',hvs,htm,hd',hp⟩:=Tp hfin;rw[AXd]at hp;replace hp:=hp.1;refine calls_of_wp hf hb ?_;obtain⟨F2,m2,gA,invA,hsi⟩:=PD hi hr hal hna hdec;refine g3 w F2 m2 _ _ hsi fun a' w' F' m' s1 x1 => ?_;obtain⟨us,r1,r2⟩:=Ko s1 hvs;have hend:=ZG hi gA invA huncut hri hro hids hgv he1 he2 hok hnd hfl s1.heap x1 r2 htm hd' hp
 have hpost:a'.defers=[]∧∃ v,(results fn a'.tmps).run P w' = .ok v w'∧(fun(en:Ending) (w':World)=>∃ u,en = .returned u∧∃ F' m',BQ w F m H fz w' F' m' (Cy e H) (Ev e fz)∧Rep w' F' m' (Cy e H) (single (Ea rs (I1 ids (encode (cellsOf rs) outs y).tmps.list))) u) (.returned v) w':=
  ⟨s1.defers,_,r1,_,rfl,hend⟩
 rcases hex with rfl|rfl<;>exact hpost
end
end Go.Pev
end
section
namespace Go.Pev
open Go.RowKit
def Kv:Code→Nat→Option Code
 |.seq a b,n=>match Kv a n with
  |some c=>some c
  |none=>Kv b (n-loops a)
 |.cond _ a b,n=>match Kv a n with
  |some c=>some c
  |none=>Kv b (n-loops a)
 |.block _ c,n=>Kv c n
 |.loop c,n=>match n with
  |0=>some c
  |n+1=>Kv c n
 |_,_=>none
def CE(f:Func):Code:=match f.body with
 |some c=>c
 |none=>.skip
def DB(f:Func)(n:Nat):Code:=(Kv (CE f) n).getD .skip
def Cm:Code→Nat→List (Nat×Code)
 |.seq a b,n=>Cm a n++Cm b (n+loops a)
 |.cond _ a b,n=>Cm a n++Cm b (n+loops a)
 |.block _ c,n=>Cm c n
 |.loop c,n=>[(n,c)]
 |_,_=>[]
def iJ(P:Program)(np:Nat)(h:Hints):List (Nat×Code)→Prop
 |[]=>True
 |p::l=>I0 P np (.loop p.2) (h.loop p.1)∧iJ P np h l
theorem iI{P:Program}{np:Nat}{h:Hints}:∀ {a b:List (Nat×Code)},iJ P np h (a++b)→iJ P np h a∧iJ P np h b:=by
 intro a;induction a with
  |nil=>exact fun h=>⟨trivial,h⟩
  |cons p a ih=>intro b h;exact⟨⟨h.1,(ih h.2).1⟩,(ih h.2).2⟩
theorem uS{P:Program}{np:Nat}{h:Hints}:∀ (c:Code) (n:Nat),iJ P np h (Cm c n)→By P np h c n:=by
 intro c;induction c with
  |seq a b iha ihb=>intro n hl;have:=iI hl;exact⟨iha n this.1,ihb _ this.2⟩
  |cond c a b iha ihb=>intro n hl;have:=iI hl;exact⟨iha n this.1,ihb _ this.2⟩
  |block id c ih=>intro n hl;exact ih n hl
  |loop c ih=>intro n hl;exact hl.1
  |_=>intro n _;trivial
theorem EU{P:Program}{np:Nat}{h:Hints}{c:Code}{n:Nat}{l:List (Nat×Code)}(e:Cm c n=l)(a:iJ P np h l):By P np h c n:=uS c n (by grind)
def A5(P:Program)(E:Env):Prop:=(∀ g,BV P g (E.spec g))∧EV E∧Fs P E
def Env.none:Env:={ spec:=fun _ _ _ _ _ _ _=>Option.none,loc:=fun _=>false,GL:=fun _=>true }
theorem Env.AS8{P:Program}:A5 P Env.none:=⟨fun g R args H fz slot k r h=>by simp[Env.none]at h,⟨fun g h=>by simp[Env.none]at h,fun g _ R args H H' fz fz' slot k S _ _ _=>rfl⟩,fun g s h=>by cases h⟩
def Env.ext(E:Env)(g:FuncId)(loc GL:Bool)(s:Spec):Env where
 spec x:=match Nat.beq x g with
  |true=>s
  |false=>E.spec x
 loc x:=match Nat.beq x g with
  |true=>loc
  |false=>E.loc x
 GL x:=match Nat.beq x g with
  |true=>GL
  |false=>E.GL x
 pan x:=match Nat.beq x g with
  |true=>.none
  |false=>E.pan x
theorem Env.CR{P:Program}{E:Env}{g:FuncId}{loc GL:Bool}{s:Spec}(h:A5 P E)(hs:BV P g s)(hl:loc=true→Ga s)(hl2:GL=true→Hh s):A5 P (E.ext g loc GL s):=by
 refine⟨?_,⟨?_,?_⟩,fun x s' hx => ?_⟩;intro x;simp only[Env.ext];cases hx:Nat.beq x g with
  |true=>simp_all
  |false=>exact h.1 x
 intro x hx;simp only[Env.ext]at hx ⊢;cases hb:Nat.beq x g with
  |true=>grind
  |false=>rw[hb]at hx;exact h.2.1.1 x hx
 intro x hx;simp only[Env.ext]at hx ⊢;cases hb:Nat.beq x g with
  |true=>grind
  |false=>rw[hb]at hx;exact h.2.1.2 x hx
 simp only[Env.ext]at hx ⊢;cases hb:Nat.beq x g with
  |true=>grind
  |false=>rw[hb]at hx;exact h.2.2 x s' hx
section
variable {P:Program} {E:Env} {h:Hints} {g:FuncId} {fn:Func}
theorem Fk(hb:fn.body.isSome=true):fn.body=some (CE fn):=by unfold CE;grind
theorem H3 (hE : A5 P E) (hf : P.funcs[g]? = some fn) (hb : fn.body.isSome = true) (hn : (fn.name == "runtime.NumGoroutine") = false)
  {np na:Nat} (hna:(Nat.ble na fn.ntmps)=true) {its outs:A1} {rs:List RS} {f:Bg (leaves its)→Option (Bg (leaves outs))} (hfun:∀ x,f x=Dp np P E h fn its outs rs x) (hl:By P np h (CE fn) 0) :
  BV P g (Bb np na its outs rs f):=
 AIq hE.1 hE.2.1 hE.2.2 hf (Fk hb) (CV hf hb hn) (AYD hna) hfun hl
theorem B5 (hE : A5 P E) (hf : P.funcs[g]? = some fn) (hb : fn.body.isSome = true) (hn : (fn.name == "runtime.NumGoroutine") = false) (hl : loops (CE fn) = 0) : BV P g (CL P E h fn) :=
 rH hE.1 hE.2.1 hE.2.2 hf (Fk hb) (CV hf hb hn) hl
theorem QB{h':Hints}(hE:A5 P E){np nt n:Nat}{body:Code}{its:A1}{os:BF}{stp:Bg (leaves its)→Option (Bg (leaves its)⊕ZU os)}
  (hstep:∀ v,stp v=roundOf P E h' n np nt body its os v) (hl:By P np h' body n):I0 P np (.loop body) (K0 np nt its os stp):=AJE hE.1 hE.2.1 hE.2.2 hstep hl
def Y4:A1→Bool
 |[]=>true
 |(.tmp _,.dat _)::r=>Y4 r
 |_::_=>false
theorem AKI{H H':List Ob}{tm:List AV}(ha:∀ id∈B1 tm,H[id]? = H'[id]?):∀ (its:A1) (fz fz':List Bool),Y4 its=true→dec (lk tm) H its fz []=dec (lk tm) H' its fz' []:=by
 intro its;induction its with
  |nil=>intro fz fz' _;rfl
  |cons p r ih=>
   intro fz fz' hd;obtain⟨l,c⟩:=p;cases l<;>cases c<;>simp only[Y4]at hd<;>try (cases hd;done)
   rename_i t ty;simp only[dec,look];cases hv:lk tm t with
    |none=>rfl
    |some v=>
     have hsub:∀ id∈BS v,H[id]? = H'[id]? := fun id hid=>ha id (by
      clear ih hd ha;unfold lk at hv;induction tm generalizing t with
       |nil=>grind
       |cons a tm iht=>
        cases t with
         |zero=>simp at hv;subst hv;simp[B1,hid]
         |succ t=>simp only[B1,AXq];grind)
     simp only;rw[T3 ty v hsub];grind
theorem AJX:∀ (n slot:Nat),DA n [] slot=List.range' slot n:=by
 intro n;induction n with
  |zero=>intro slot;rfl
  |succ n ih=>intro slot;simp only[DA,AYz];rw[ih]
theorem Ti{H H':List Ob}{fz fz':List Bool}:∀ (ids:List Nat),(∀ i∈ids,Bc H fz i=Bc H' fz' i)→FX H fz ids []=FX H' fz' ids []:=by
 intro ids;induction ids with
  |nil=>intro _;rfl
  |cons a ids ih=>intro h;simp only[FX,List.tail_nil];grind
theorem AA6{H:List Ob}{tm:List AV}:∀ (its:A1) (fz:List Bool) (bs:List Bnd) (x:Bg (leaves its)) (bs':List Bnd) (fr:List Nat),Y4 its=true→dec (lk tm) H its fz bs=some (x,bs',fr)→bs'=bs:=by
 intro its;induction its with
  |nil=>intro fz bs x bs' fr _ h;simp only[dec,AXa]at h;grind
  |cons p r ih=>
   intro fz bs x bs' fr hd h;obtain⟨l,c⟩:=p;cases l<;>cases c<;>simp only[Y4]at hd<;>try (cases hd;done)
   simp only[dec]at h;grind
theorem Kx{np na:Nat}{its outs:A1}{rs:List RS}{f:Bg (leaves its)→Option (Bg (leaves outs))}(hd:Y4 its=true)(hn:Nat.ble (DS outs) 4=true):Ga (Bb np na its outs rs f):=by
 intro R args H H' fz fz' slot k ha;unfold Bb;rw[AKI ha.heap its fz fz' hd];split;rfl;rename_i x bs fr hdec;have hbs:=AA6 its fz' [] x bs fr hd hdec;subst hbs;split;rfl;split;rfl;rename_i y hy;simp only[List.take_nil,List.drop_nil];have hfree:∀ (g:List Nat) (i:Nat),i∈DA (DS outs) [] slot→Bc H (BI g fz) i=Bc H' (BI g fz') i:=by intro g i hi;rw[AJX,List.mem_range'_1]at hi;have:=AYD hn;exact Ee ha hi.1 (by omega) g
 unfold Iv;rw[show FX H fz (DA (DS outs) [] slot) []=FX H' fz' (DA (DS outs) [] slot) []from Ti _ (hfree []),Ti _ (hfree fr)]
end
end Go.Pev
end
section
namespace Go.Pev
open Go.RowKit
def lG{α:Type}(xs:List α):Option (List α):=match sW (A4 xs)with
 |true=>some xs
 |false=>none
def HP[Lk]{α:Type}(xs:List α):Option (List α):=Lk.f (lG xs)
theorem fR{α:Type}(xs:List α):HP xs=lG xs:=A0 _
noncomputable def D9[Lk](e:TypeId)(t:Ty):Spec:=fun R args H fz slot k=>
 match args with
 |[x]=>match FM H (.slice t) x with
  |some (xs,_)=>match(HP xs:Option (List t.den))with
   |none=>none
   |some y=>(match Bc H fz slot with|true=>k (.own slot) { objs:=[(slot,.arr e t y)] }|false=>none)
  |none=>none
 |_=>none
def Xq:Code→Nat→List Oper
 |.region id ops _,n=>if id=n then ops.toList else []
 |.seq a b,n=>Xq a n++Xq b n
 |.cond _ a b,n=>Xq a n++Xq b n
 |.block _ c,n=>Xq c n
 |.loop c,n=>Xq c n
 |_,_=>[]
def CQ(fn:Func)(n i:Nat):Oper:=((Xq (CE fn) n)[i]?).getD default
structure Gb(P:Program)(fn:Func)(T e:TypeId)(t:Ty):Prop where
 body:fn.body=some (.seq (.region 0 #[CQ fn 0 0] false) (.seq (.seq (.region 1 #[CQ fn 1 0,CQ fn 1 1] false) (.cond (.tmp 4) (.seq (.region 2 #[CQ fn 2 0] false) .ret) .skip)) (.seq (.region 3 #[CQ fn 3 0,CQ fn 3 1,CQ fn 3 2,CQ fn 3 3] false) .ret)))
 nt:fn.ntmps=8
 res:fn.results = #[.tmp 2]
 d:(CQ fn 0 0).dst=some 2∧(CQ fn 1 0).dst=some 3∧(CQ fn 1 1).dst=some 4∧(CQ fn 2 0).dst=some 2∧(CQ fn 3 0).dst=some 5∧(CQ fn 3 1).dst=some 6∧(CQ fn 3 2).dst=some 7∧(CQ fn 3 3).dst=some 2
 g:(CQ fn 0 0).guard=none∧(CQ fn 1 0).guard=none∧(CQ fn 1 1).guard=none∧(CQ fn 2 0).guard=none∧(CQ fn 3 0).guard=none∧(CQ fn 3 1).guard=none∧(CQ fn 3 2).guard=none∧(CQ fn 3 3).guard=none
 o00:(CQ fn 0 0).op = .assign (.const (.slice none 0 0))
 o10:(CQ fn 1 0).op = .move (.tmp 0)
 o11:(CQ fn 1 1).op = .binOp .eql T (.tmp 3) (.const (.slice none 0 0)) T
 o20:(CQ fn 2 0).op = .assign (.const (.slice none 0 0))
 o30:(CQ fn 3 0).op = .buildSlice T 0 #[]
 o31:(CQ fn 3 1).op = .move (.tmp 0)
 o32:(CQ fn 3 2).op = .call { callee:=.builtin .append,args:=#[.tmp 5,.tmp 6],argTypes:=#[T,T] }
 o33:(CQ fn 3 3).op = .assign (.tmp 7)
 sl:sliceAt P T=some (e,t)
 z:(zeroAt P e).isSome=true
 by1:(P.info? e).map (fun i=>decide (i.bytes≤1024))=some true
section
variable {P:Program} {g:FuncId}
theorem Cw{ops:Array Oper}{Q:Exit→Act→World→Prop}{i:Nat}{rest:List Nat}{a:Act}{w:World}{o:Oper}(ho:ops[i]? = some o)(hg:o.guard=none)(h:o.wp P a w (wpOps P ops Q rest) Q):wpOps P ops Q (i::rest) a w:=by simp only[wpOps,ho];rw[AXp (by simp[Region.wanted,hg])];grind
theorem Cl{o:Oper}{a:Act}{w w':World}{next:Act→World→Prop}{Q:Exit→Act→World→Prop}{u:Value}(h:(execOp a.eval o).run P w = .ok (.value u) w')(hn:next (a.put o.dst u) w'):o.wp P a w next Q:=by unfold Oper.wp;rw[h];exact hn
variable {fn:Func} {T e:TypeId} {t:Ty}
theorem KH{P:Program}{w:World}{ρ:Operand→Value}{o:Oper}{x:Operand}(h:o.op = .move x):(execOp ρ o).run P w = .ok (.value (ρ x)) w:=by simp[execOp,h]
theorem G4{P:Program}{w:World}{ρ:Operand→Value}{o:Oper}{x:Operand}(h:o.op = .assign x):(execOp ρ o).run P w = .ok (.value (ρ x)) w:=by simp[execOp,h]
theorem Mu (hs : Gb P fn T e t) (hf : P.funcs[g]? = some fn) (hn : (fn.name == "runtime.NumGoroutine") = false) : BV P g (D9 e t) := by
 intro R args H fz slot k r hk;unfold D9 at hk;split at hk;rename_i x;split at hk;rename_i xs fr hx;split at hk;cases hk;rename_i y hy;split at hk;rename_i hfree;refine⟨_,_,hk,fun R' k'=>by simp only[D9,hx,hy,hfree],CV hf (by rw[hs.body];rfl) hn,fun w F m vals hi hr => ?_⟩;rw[fR]at hy;unfold lG at hy;split at hy;rename_i hfit;simp only[AXa]at hy;subst hy;have hr0:=hr;unfold BD at hr;obtain⟨v,vs',rfl,hrv,hnil⟩:=hr;unfold BD at hnil;subst hnil;obtain⟨hu,hty0,hpos⟩:=Cg hs.sl;obtain⟨zz,hzz⟩:=AYc.1 hs.z;obtain⟨t',cs'⟩:=zz;obtain⟨hty',hcs',i,z,hi0,hz0,hok,hsz,hza⟩:=CU hzz;subst hcs';have:t'=t:=by grind
 subst this;have hzs:z.cells.size=i.size:=by have hzd:=CN (w:=default) (F:=fun _=>False) t' _ hok;rw[hsz,← AX0];exact Dat.length t' hzd
 have hby':i.bytes≤1024:=by simpa [hi0]using hs.by1
 obtain⟨A,c,rfl,q2,q3,news,q4,q5⟩:=ER hi hx hrv;have hfit':xs.length≤4294967296:=by have:(xs.length:Int)≤4294967296:=(Sd _).1 hfit;omega
 refine calls_of_wp hf hs.body ?_;obtain⟨d0,d1,d2,d3,d4,d5,d6,d7⟩:=hs.d;obtain⟨g0,g1,g2,g3,g4,g5,g6,g7⟩:=hs.g;have hres:∀ (tm:Array Value) (w0:World),(results fn tm).run P w0 = .ok (tm.getD 2 undef) w0:=fun tm w0=>by simp[results,hs.res]
 refine wp_seq (wp_region ?_);simp only[AYk,AXg,AXs,AYZ,AZo,AX2];refine Cw (by rfl) g0 (Cl (G4 hs.o00) ?_);refine wp_seq (wp_seq (wp_region ?_));simp only[AYk,AXg,AXs,AYZ,AZo,AX2,AX3];refine Cw (by rfl) g1 (Cl (KH hs.o10) ?_);refine Cw (by rfl) g2 (Cl (u:=.bool A.isNone) (w':=w) (by simp[execOp,hs.o11,Act.eval,Act.put,d0,d1,hs.nt,eqGuard,Lib.run_eql_slice_nil _ _ _ _ _ _ _ _ hu]) ?_);cases A with
  |none=>
   have hxs:xs=[]:=by grind
   subst hxs;refine wp_cond_true (by simp[Act.eval,Act.put,d0,d1,d2,hs.nt]) ?_;refine wp_seq (wp_region ?_);simp only[AYk,AXg,AXs,AYZ,AZo,AX2];refine Cw (by rfl) g3 (Cl (G4 hs.o20) ?_);refine wp_ret ?_;refine⟨by simp[Act.put,d0,d1,d2,d3],_,hres _ _,?_⟩;obtain⟨m',hg,hrep⟩:=EJ (w:=w) hi hfree e hpos none;refine⟨_,rfl,F,m',hg,?_⟩;show Rep _ _ _ (H.set slot _) _ _;simpa [Act.put,Act.eval,d0,d1,d2,d3,hs.nt]using hrep
  |some ad=>
   refine wp_cond_false (by simp[Act.eval,Act.put,d0,d1,d2,hs.nt]) ?_;refine wp_skip ?_;refine wp_seq (wp_region ?_);simp only[AYk,AXg,AXs,AYZ,AZo,AX2,AX3];refine Cw (by rfl) g4 (Cl (u:=.slice (some ⟨w.heap.size,0,none⟩) 0 0) (w':=w.alloc (.cells #[] e)) (by have:=IH (P:=P) (w:=w) (len:=0) (parts:=#[]) (us:=#[]) hu hi0 hz0 hsz (by omega) (by simp[Instr.fill]);simp[execOp,hs.o30,this]) ?_)
   refine Cw (by rfl) g5 (Cl (KH hs.o31) ?_);have hga:=BQ.grow (w':=w.alloc (.cells #[] e)) hi rfl rfl rfl (by simp) (fun b hb=>Below.heap_alloc w _ b hb)
   obtain⟨v,w',m',hrun,hg,hrep⟩:=Fm (P:=P) (T:=T) (ty:=(CQ fn 3 2).type) hga.2 hfree hu hi0 hz0 hzs hsz hpos hby' hfit' (some ⟨w.heap.size,0,none⟩) (A:=some ad) (c:=c) (ys:=xs) (news:=news) (fun _=>rfl)
    (B8 (fun x _ cs hx=>hx.mono (fun a ha=>by simp[World.cell?,Below.heap_alloc w _ _ (hi.lt _ ha)]) (fun _ h=>h) t') q4) (fun ad' h j u hu'=>by
     have:=q5 ad' h j u hu'
     exact Lib.cell?_alloc_some _ this)
   refine Cw (by rfl) g6 (Cl (u:=v) (w':=w') (by simp[execOp,hs.o32,resolve,invoke,builtin,Act.eval,Act.put,d0,d1,d2,d4,d5,hs.nt,hrun]) ?_)
   refine Cw (by rfl) g7 (Cl (G4 hs.o33) ?_);refine wp_ret ?_;refine⟨by simp[Act.put,d0,d1,d2,d4,d5,d6,d7],_,hres _ _,?_⟩;refine⟨_,rfl,F,m',hga.trans hg,?_⟩;show Rep _ _ _ (H.set slot _) _ _;simpa [Act.put,Act.eval,d0,d1,d2,d4,d5,d6,d7,hs.nt]using hrep
 grind;grind;grind;grind
theorem CJ(e:TypeId)(t:Ty):Ga (D9 e t):=by
 intro R args H H' fz fz' slot k ha;unfold D9;cases args with
  |nil=>rfl
  |cons x r=>cases r with
   |cons y r=>rfl
   |nil=>
    simp only
    rw[Cf (.slice t) x fun id hid=>ha.heap id (by simpa [B1]using hid)]
    have:=Ee ha (s:=slot) (AXl _) (by omega) []
    simp only[BI]at this
    rw[this]
end
end Go.Pev
end
section
namespace Go.Pev
noncomputable section
abbrev U0:Ty:=(.int .i64)
abbrev U1:=(Int×Int×Int×Bool×Unit)
abbrev U2:Ty:=(.prod U0 (.prod U0 (.prod U0 (.prod .bool .unit))))
abbrev U3:=(Int×Int×Unit)
abbrev U4:Ty:=(.prod U0 (.prod U0 .unit))
abbrev U5:=(List Int)
abbrev U6:Ty:=(.slice U0)
abbrev U7:=(Int×Int×Int×Int×Unit)
abbrev U8:=(Int×Unit)
abbrev U9:=(List Int×Int×Int×Int×Unit)
abbrev Ua:=(List Int×Unit)
abbrev Ub:=(List Int×Int×Int×Unit)
abbrev Uc:=(Bool×Unit)
abbrev Ud:Ty:=(.prod U0 (.prod U0 U4))
abbrev Ue:Ty:=(.slice U6)
abbrev Uf:=(Int×(List U1)×Unit)
abbrev Ug:=(Int×Int×Int×Unit)
abbrev Uh:=(List Int×Int×Unit)
abbrev Ui:=(Int×Int×U5×Unit)
abbrev Uj:Ty:=(.int .u32)
abbrev Uk:=(U5×U5×(List U5)×Unit)
abbrev Ul:=(List U3×Int×Int×Unit)
abbrev Um:Ty:=(.prod U0 (.prod (.slice U2) .unit))
abbrev Un:=(List U7×Int×List Bool×List U5×Bool×Int×Int×List U1×Int×Unit)
abbrev Uo:=(Int×(List U5)×Unit)
abbrev Up:=(List Int×Int×Int×Int×Int×Unit)
abbrev Uq:=(List U5×Int×Int×Unit)
abbrev Ur:=(List U1×Int×Int×Unit)
abbrev Us:Ty:=(.prod U0 (.prod U0 (.prod (.slice (.arr 2 U0)) .unit)))
abbrev Ut:Ty:=(.prod U0 (.prod U0 (.prod U6 .unit)))
abbrev Uu:=(List U5×Int×Int×Int×Unit)
abbrev Uv:=(List U3×Int×Int×Int×Unit)
abbrev Uw:=(List U1×Int×Int×Int×Unit)
abbrev Ux:=(List U3×Unit)
abbrev Uy:Ty:=(.slice U2)
abbrev Uz:=(Int×Int)
abbrev V0:=(Int×Int×(List U5)×Unit)
abbrev V1:Ty:=(.slice .bool)
abbrev V2:=(Uf×Int×Int×Unit)
abbrev V3:=(List U5×Unit)
abbrev V4:=(List U1×Unit)
abbrev V5:=(Int×List U1×Bool×Bool×Int×Int×Int×Int×Int×List Uz×List Int×Int×Int×Unit)
abbrev V6:Ty:=(.slice Uj)
abbrev V7:Ty:=(.prod U6 (.prod U6 (.prod Ue .unit)))
abbrev V8:=(List U7×Int×List Bool×List U5×Bool×Int×Int×Int×Int×Int×Bool×Int×Unit)
abbrev V9:=(Bool×Bool×U3×Int×Unit)
abbrev Va:=(List Int×List Int×Int×Int×Unit)
abbrev Vb:Ty:=(.slice U4)
abbrev Vc:=(List Int×List Int×Unit)
abbrev Vd:=(List Int×List Int×List Int×Int×Int×Unit)
abbrev Ve:Ty:=(.slice Ud)
abbrev Vf:=(List Int×Int×Int×Int×Int×Int×Unit)
abbrev Vg:=(Int×List U5×List Bool×Int×Int×Int×List Int×Int×List Int×Int×Bool×Int×List Int×Bool×Bool×List Int×List Int×List U5×List Int×List U5×Bool×Bool×List Int×Int×Int×Bool×Unit)
abbrev Vh:=(List Int×List Int×Int×Int×List Int×List Int×Int×Int×Unit)
abbrev Vi:=(Int×List U5×List Uz×Int×List U5×Int×Int×List Int×Int×Int×Bool×List Int×Bool×Bool×List Int×Int×List Int×Int×Bool×Int×List Int×Bool×Bool×List Int×Int×Int×Unit)
abbrev Vj:=(Int×List Int×Int×List Int×Int×Bool×Bool×Bool×Bool×Int×Int×Bool×Int×Int×Int×Int×Int×Bool×Int×Int×Int×Int×Int×Int×Int×Int×Int×Bool×Unit)
abbrev Vk:=(List Int×Int×Int×Int×Bool×Bool×Unit)
abbrev Vl:Ty:=(.prod (.prod Ve (.prod U0 (.prod V1 .unit))) (.prod Ue (.prod .bool U4)))
abbrev Vm:=(List U7×Int×List Bool×List U5×Bool×Int×Int×List Uz×List U5×Int×Int×Unit)
abbrev Vn:Ty:=(.prod .bool (.prod .bool (.prod U4 (.prod U0 .unit))))
abbrev AA:Loc×Con:=(.tmp 0,.dat Uj)
abbrev Gg:A1:=[AA]
abbrev AB:Loc×Con:=(.tmp 0,.di)
abbrev BL:A1:=[AB]
abbrev A6:List RS:=[.one]
def AEc[Lk]:U8→Option (U8):=fun(a,_)=>
 match(ile 65536 a)with
 |true=>match shr? .u32 a 16 with|none=>none|some b=>match(ile 256 b)with
  |true=>match shr? .u32 b 8 with|none=>none|some c=>match idx ([0,1,2,2,3,3,3,3,4,4,4,4,4,4,4,4,5,5,5,5,5,5,5,5,5,5,5,5,5,5,5,5,6,6,6,6,6,6,6,6,6,6,6,6,6,6,6,6,6,6,6,6,6,6,6,6,6,6,6,6,6,6,6,6,7,7,7,7,7,7,7,7,7,7,7,7,7,7,7,7,7,7,7,7,7,7,7,7,7,7,7,7,7,7,7,7,7,7,7,7,7,7,7,7,7,7,7,7,7,7,7,7,7,7,7,7,7,7,7,7,7,7,7,7,7,7,7,7,8,8,8,8,8,8,8,8,8,8,8,8,8,8,8,8,8,8,8,8,8,8,8,8,8,8,8,8,8,8,8,8,8,8,8,8,8,8,8,8,8,8,8,8,8,8,8,8,8,8,8,8,8,8,8,8,8,8,8,8,8,8,8,8,8,8,8,8,8,8,8,8,8,8,8,8,8,8,8,8,8,8,8,8,8,8,8,8,8,8,8,8,8,8,8,8,8,8,8,8,8,8,8,8,8,8,8,8,8,8,8,8,8,8,8,8,8,8,8,8,8,8,8,8,8,8,8,8]:List (Int)) (IntKind.wrap .u8 c)with|none=>none|some d=>some ((w64 ((w64 (16+8))+(w64 d))),())
  |false=>match idx ([0,1,2,2,3,3,3,3,4,4,4,4,4,4,4,4,5,5,5,5,5,5,5,5,5,5,5,5,5,5,5,5,6,6,6,6,6,6,6,6,6,6,6,6,6,6,6,6,6,6,6,6,6,6,6,6,6,6,6,6,6,6,6,6,7,7,7,7,7,7,7,7,7,7,7,7,7,7,7,7,7,7,7,7,7,7,7,7,7,7,7,7,7,7,7,7,7,7,7,7,7,7,7,7,7,7,7,7,7,7,7,7,7,7,7,7,7,7,7,7,7,7,7,7,7,7,7,7,8,8,8,8,8,8,8,8,8,8,8,8,8,8,8,8,8,8,8,8,8,8,8,8,8,8,8,8,8,8,8,8,8,8,8,8,8,8,8,8,8,8,8,8,8,8,8,8,8,8,8,8,8,8,8,8,8,8,8,8,8,8,8,8,8,8,8,8,8,8,8,8,8,8,8,8,8,8,8,8,8,8,8,8,8,8,8,8,8,8,8,8,8,8,8,8,8,8,8,8,8,8,8,8,8,8,8,8,8,8,8,8,8,8,8,8,8,8,8,8,8,8,8,8,8,8,8,8]:List (Int)) (IntKind.wrap .u8 b)with|none=>none|some e=>some ((w64 (16+(w64 e))),())
 |false=>match(ile 256 a)with
 |true=>match shr? .u32 a 8 with|none=>none|some f=>match idx ([0,1,2,2,3,3,3,3,4,4,4,4,4,4,4,4,5,5,5,5,5,5,5,5,5,5,5,5,5,5,5,5,6,6,6,6,6,6,6,6,6,6,6,6,6,6,6,6,6,6,6,6,6,6,6,6,6,6,6,6,6,6,6,6,7,7,7,7,7,7,7,7,7,7,7,7,7,7,7,7,7,7,7,7,7,7,7,7,7,7,7,7,7,7,7,7,7,7,7,7,7,7,7,7,7,7,7,7,7,7,7,7,7,7,7,7,7,7,7,7,7,7,7,7,7,7,7,7,8,8,8,8,8,8,8,8,8,8,8,8,8,8,8,8,8,8,8,8,8,8,8,8,8,8,8,8,8,8,8,8,8,8,8,8,8,8,8,8,8,8,8,8,8,8,8,8,8,8,8,8,8,8,8,8,8,8,8,8,8,8,8,8,8,8,8,8,8,8,8,8,8,8,8,8,8,8,8,8,8,8,8,8,8,8,8,8,8,8,8,8,8,8,8,8,8,8,8,8,8,8,8,8,8,8,8,8,8,8,8,8,8,8,8,8,8,8,8,8,8,8,8,8,8,8,8,8]:List (Int)) (IntKind.wrap .u8 f)with|none=>none|some g=>some ((w64 ((w64 (0+8))+(w64 g))),())
 |false=>match idx ([0,1,2,2,3,3,3,3,4,4,4,4,4,4,4,4,5,5,5,5,5,5,5,5,5,5,5,5,5,5,5,5,6,6,6,6,6,6,6,6,6,6,6,6,6,6,6,6,6,6,6,6,6,6,6,6,6,6,6,6,6,6,6,6,7,7,7,7,7,7,7,7,7,7,7,7,7,7,7,7,7,7,7,7,7,7,7,7,7,7,7,7,7,7,7,7,7,7,7,7,7,7,7,7,7,7,7,7,7,7,7,7,7,7,7,7,7,7,7,7,7,7,7,7,7,7,7,7,8,8,8,8,8,8,8,8,8,8,8,8,8,8,8,8,8,8,8,8,8,8,8,8,8,8,8,8,8,8,8,8,8,8,8,8,8,8,8,8,8,8,8,8,8,8,8,8,8,8,8,8,8,8,8,8,8,8,8,8,8,8,8,8,8,8,8,8,8,8,8,8,8,8,8,8,8,8,8,8,8,8,8,8,8,8,8,8,8,8,8,8,8,8,8,8,8,8,8,8,8,8,8,8,8,8,8,8,8,8,8,8,8,8,8,8,8,8,8,8,8,8,8,8,8,8,8,8]:List (Int)) (IntKind.wrap .u8 a)with|none=>none|some h=>some ((w64 (0+(w64 h))),())
def AUr[Lk]:=fun v=>Lk.f (AEc v)
theorem AOp v:AUr v=AEc v:=A0 _
abbrev AD:Loc×Con:=(.tmp 1,.dat U6)
abbrev AE:Loc×Con:=(.tmp 0,.dat U6)
abbrev KA:A1:=[AE,AD]
abbrev AF:Loc×Con:=(.tmp 0,.dat .bool)
abbrev BG:A1:=[AF]
abbrev AG:Loc×Con:=(.tmp 5,.di)
abbrev AJS:A1:=[AE,AD,AG]
abbrev AH:Loc×Con:=(.tmp 4,.dat .bool)
abbrev Hy:BF:=[(.ret,[AH]),(.exit 0,[])]
def Hx[Lk]:(List Int×List Int×Int×Unit)→Option ((List Int×List Int×Int×Unit)⊕Uc⊕(Unit)⊕Unit):=fun(b,c,a,_)=>
 match(ilt a (A4 b))with
 |true=>match idx b a with|none=>none|some d=>match idx c a with|none=>none|some e=>match(!(ieq d e))with
  |true=>some (.inr (.inl (false,())))
  |false=>some (.inl (b,c,(w64 (a+1)),()))
 |false=>some (.inr (.inr (.inl ())))
def YD[Lk]:Vc→Option (Uc):=fun(a,b,_)=>
 match(!(ieq (A4 a) (A4 b)))with
 |true=>some (false,())
 |false=>match A9 Hx many (a,b,0,())with|none=>none|some r=>match r with
 |.inl (c,_)=>some (c,())
 |.inr r=>match r with
 |.inl _=>some (true,())
 |.inr _=>none
def Ot[Lk]:=fun v=>Lk.f (YD v)
theorem eY v:Ot v=YD v:=A0 _
def Wh[Lk]:U8→Option (Uc):=fun(a,_)=>
 match(ile 1 a)with
 |true=>some ((ile a 64),())
 |false=>some (false,())
def OH[Lk]:=fun v=>Lk.f (Wh v)
theorem cP v:OH v=Wh v:=A0 _
abbrev AI:Loc×Con:=(.tmp 1,.di)
abbrev Jv:A1:=[AB,AI]
def AL6[Lk]:U3→Option (Uc):=fun(a,b,_)=>
 match OH (a,())with|none=>none|some (c,_)=>match c with
 |true=>match(ile 0 b)with
  |true=>some ((ilt b a),())
  |false=>some (false,())
 |false=>some (false,())
def tin[Lk]:=fun v=>Lk.f (AL6 v)
theorem AL5 v:tin v=AL6 v:=A0 _
abbrev AJ:Loc×Con:=(.tmp 2,.di)
abbrev im:A1:=[AB,AI,AJ]
def xY[Lk]:Ug→Option (U8):=fun(a,b,c,_)=>
 match(ieq b c)with
 |true=>some ((-1:Int),())
 |false=>match tin (a,b,())with|none=>none|some (d,_)=>match(!d)with
 |true=>some ((-1:Int),())
 |false=>match tin (a,c,())with|none=>none|some (e,_)=>match(!e)with
 |true=>some ((-1:Int),())
 |false=>some ((w64 ((w64 (a*(w64 (b+1))))+c)),())
def AMB[Lk]:=fun v=>Lk.f (xY v)
theorem AC2 v:AMB v=xY v:=A0 _
abbrev AK:Loc×Con:=(.tmp 2,.dat .bool)
abbrev n8:A1:=[AB,AI,AK,(.tmp 3,.dat .bool)]
abbrev Ls:List RS:=[.one,.one,.one,.one]
def Wg[Lk]:U3→Option ((Int×Int×Bool×Bool×Unit)):=fun(a,b,_)=>
 match OH (a,())with|none=>none|some (e,_)=>match(!e)with
 |true=>some (0,0,false,false,())
 |false=>match(ilt b 0)with
 |true=>some (0,0,false,false,())
 |false=>match(ile (w64 (a*(w64 (a+1)))) b)with
 |true=>some (0,0,false,false,())
 |false=>match(ilt b a)with
 |true=>some (b,0,false,true,())
 |false=>match quo? .i64 b a with|none=>none|some c=>match rem? b a with|none=>none|some d=>match(ieq (w64 (c-1)) d)with
 |true=>some (0,0,false,false,())
 |false=>some ((w64 (c-1)),d,true,true,())
def iT[Lk]:=fun v=>Lk.f (Wg v)
theorem cO v:iT v=Wg v:=A0 _
abbrev ACy:A1:=[AB,(.tmp 1,.own 36 U6),AJ]
abbrev Vu:List RS:=[.agg 2,.one]
abbrev AL:Loc×Con:=(.cell 1 1,.own 36 U6)
abbrev AM:Loc×Con:=(.cell 0 1,.nil U6)
abbrev AN:Loc×Con:=(.tmp 4,.box 2)
abbrev AO:Loc×Con:=(.cell 0 0,.di)
abbrev AP:Loc×Con:=(.tmp 2,.box 2)
abbrev AQ:Loc×Con:=(.cell 1 0,.di)
abbrev AR:Loc×Con:=(.tmp 12,.di)
abbrev AS:Loc×Con:=(.tmp 13,.di)
abbrev ALz:A1:=[AP,AO,AM,AN,AQ,AL,AR,AS]
abbrev oJ:BF:=[(.exit 0,[AP,AO,AM,AN,AQ,AL])]
def Lu[Lk]:(Int×Int×List U5×Int×Int×Unit)→Option ((Int×Int×List U5×Int×Int×Unit)⊕(Int×Int×List U5×Unit)⊕Unit):=fun(c,d,b,e,a,_)=>
 match(ilt a e)with
 |true=>match(fits ((A4 b)+(A4 ([([a]:List (Int))]:List U5))))with
  |true=>some (.inl (c,d,(BT b ([([a]:List (Int))]:List U5)),e,(w64 (a+1)),()))
  |false=>none
 |false=>some (.inr (.inl (c,d,b,())))
def ic[Lk]:U8→Option ((Int×List U5×Int×Unit)):=fun(a,_)=>
 match OH (a,())with|none=>none|some (b,_)=>match(!b)with
 |true=>some (0,([]:List U5),1,())
 |false=>match A9 Lu many (0,a,([]:List U5),a,0,())with|none=>none|some r=>match r with
 |.inl (e,c,d,_)=>some (c,d,0,())
 |.inr _=>none
def AC0[Lk]:=fun v=>Lk.f (ic v)
theorem oK v:AC0 v=ic v:=A0 _
abbrev Ie:A1:=[AE,AI]
abbrev AT:Loc×Con:=(.tmp 8,.di)
abbrev AU:Loc×Con:=(.tmp 7,.di)
abbrev AJU:A1:=[AE,AI,AU,AT]
abbrev AW:Loc×Con:=(.tmp 4,.di)
abbrev D7:BF:=[(.ret,[AW]),(.exit 0,[])]
def KB[Lk]:U9→Option (U9⊕U8⊕(Unit)⊕Unit):=fun(b,c,d,a,_)=>
 match(ilt a d)with
 |true=>match idx b a with|none=>none|some e=>match(ieq c e)with
  |true=>some (.inr (.inl (a,())))
  |false=>some (.inl (b,c,d,(w64 (a+1)),()))
 |false=>some (.inr (.inr (.inl ())))
def YU[Lk]:Uh→Option (U8):=fun(a,b,_)=>
 match A9 KB many (a,b,(A4 a),0,())with|none=>none|some r=>match r with
 |.inl (c,_)=>some (c,())
 |.inr r=>match r with
 |.inl _=>some ((-1:Int),())
 |.inr _=>none
def SU[Lk]:=fun v=>Lk.f (YU v)
theorem ea v:SU v=YU v:=A0 _
def Mn[Lk]:Uh→Option (Uc):=fun(a,b,_)=>
 match SU (a,b,())with|none=>none|some (c,_)=>some ((ile 0 c),())
def GU[Lk]:=fun v=>Lk.f (Mn v)
theorem Q2 v:GU v=Mn v:=A0 _
abbrev Oc:A1:=[AE]
abbrev AX:Loc×Con:=(.tmp 3,.di)
abbrev AEK:A1:=[AE,AX,AW]
abbrev jz:BF:=[(.exit 0,[AX])]
def P2[Lk]:Ub→Option (Ub⊕U8⊕Unit):=fun(a,c,b,_)=>
 match(ilt b (A4 a))with
 |true=>match idx a b with|none=>none|some d=>some (.inl (a,(Cb c d),(w64 (b+1)),()))
 |false=>some (.inr (.inl (c,())))
def zu[Lk]:Ua→Option (U8):=fun(a,_)=>
 match(ilt (A4 a) 1)with
 |true=>none
 |false=>match idx a 0 with|none=>none|some b=>match A9 P2 many (a,b,1,())with|none=>none|some r=>match r with
 |.inl (c,_)=>some (c,())
 |.inr _=>none
def AOc[Lk]:=fun v=>Lk.f (zu v)
theorem AEL v:AOc v=zu v:=A0 _
abbrev ATl:A1:=[(.tmp 0,.nil U0),AI]
abbrev AY:Loc×Con:=(.tmp 0,.own 3 U0)
abbrev EB:A1:=[AY]
def WH[Lk]:U8→Option (Ua):=fun(a,_)=>
 match(ilt a 0)with
 |true=>none
 |false=>match(ilt 0 (w64 (a-(w64 (0-0)))))with
 |true=>match Cv ([]:List Unit) 0 0 with|none=>none|some _u0=>match(CZ (w64 (a-(w64 (0-0)))))with
  |true=>match Cv (DD (A3 (w64 (a-(w64 ((0:Int)-(0:Int)))))) (0:Int)) (0:Int) (0:Int)with|none=>none|some b=>some ((C1 (A3 (A4 b)) (DD (A3 (w64 (a-(w64 ((0:Int)-(0:Int)))))) (0:Int))),())
  |false=>none
 |false=>some (([]:List (Int)),())
def sF[Lk]:=fun v=>Lk.f (WH v)
theorem Yf v:sF v=WH v:=A0 _
abbrev AZ:Loc×Con:=(.tmp 0,.dat Ue)
abbrev AKd:A1:=[AZ]
abbrev Aa:Loc×Con:=(.tmp 6,.own 3 U0)
abbrev Ab:Loc×Con:=(.tmp 27,.di)
abbrev Ac:Loc×Con:=(.tmp 26,.di)
abbrev ABN:A1:=[Aa,(.tmp 25,.dat Ue),Ac,Ab]
abbrev ABL:BF:=[(.exit 2,[Aa])]
def Du[Lk]:(List Int×List U5×Int×Int×Unit)→Option ((List Int×List U5×Int×Int×Unit)⊕Ua⊕Unit):=fun(a,c,d,b,_)=>
 match(ilt b d)with
 |true=>match idx c b with|none=>none|some e=>match(fits ((A4 a)+(A4 e)))with
  |true=>some (.inl ((BT a e),c,d,(w64 (b+1)),()))
  |false=>none
 |false=>some (.inr (.inl (a,())))
abbrev Ad:Loc×Con:=(.tmp 10,.di)
abbrev Ae:Loc×Con:=(.tmp 11,.di)
abbrev ABO:A1:=[AZ,AX,(.tmp 9,.dat Ue),Ad,Ae]
abbrev ABM:BF:=[(.exit 0,[AZ,AX])]
def Dv[Lk]:(List U5×Int×List U5×Int×Int×Unit)→Option ((List U5×Int×List U5×Int×Int×Unit)⊕(List U5×Int×Unit)⊕Unit):=fun(c,a,d,e,b,_)=>
 match(ilt b e)with
 |true=>match idx d b with|none=>none|some f=>match(ilt (w64 (a+(A4 f))) 0)with
  |true=>none
  |false=>some (.inl (c,(w64 (a+(A4 f))),d,e,(w64 (b+1)),()))
 |false=>some (.inr (.inl (c,a,())))
def Nf[Lk]:V3→Option (Ua):=fun(a,_)=>
 match A9 Dv many (a,0,a,(A4 a),0,())with|none=>none|some r=>match r with
 |.inl (b,c,_)=>match sF (c,())with|none=>none|some (d,_)=>match A9 Du many (d,b,(A4 b),0,())with|none=>none|some r=>match r with
  |.inl (e,_)=>some (e,())
  |.inr _=>none
 |.inr _=>none
def He[Lk]:=fun v=>Lk.f (Nf v)
theorem PA v:He v=Nf v:=A0 _
abbrev MP:A1:=[AE,(.tmp 1,.clo 207 [])]
abbrev VB:A1:=[AE,(.tmp 1,.clo 207 []),AU,AT]
def D1[Lk]:Ub→Option (Ub⊕U8⊕(Unit)⊕Unit):=fun(b,c,a,_)=>
 match(ilt a c)with
 |true=>match idx b a with|none=>none|some d=>match(ilt d 0)with
  |true=>some (.inr (.inl (a,())))
  |false=>match(ilt 10000 d)with
  |true=>some (.inr (.inl (a,())))
  |false=>some (.inl (b,c,(w64 (a+1)),()))
 |false=>some (.inr (.inr (.inl ())))
def Ii[Lk]:Ua→Option (U8):=fun(a,_)=>
 match A9 D1 many (a,(A4 a),0,())with|none=>none|some r=>match r with
 |.inl (b,_)=>some (b,())
 |.inr r=>match r with
 |.inl _=>some ((-1:Int),())
 |.inr _=>none
def LB[Lk]:=fun v=>Lk.f (Ii v)
theorem LW v:LB v=Ii v:=A0 _
abbrev Af:Loc×Con:=(.tmp 3,.map U0 U0)
abbrev Ag:Loc×Con:=(.tmp 7,.dat U6)
abbrev Ah:Loc×Con:=(.tmp 9,.di)
abbrev AS5:A1:=[AE,Af,Ag,AT,Ah]
abbrev AS4:BF:=[(.exit 0,[AE,Af])]
def Pw[Lk]:(List Int×List Uz×List Int×Int×Int×Unit)→Option ((List Int×List Uz×List Int×Int×Int×Unit)⊕(List Int×List Uz×Unit)⊕Unit):=fun(c,a,d,e,b,_)=>
 match(ilt b e)with
 |true=>match idx d b with|none=>none|some f=>some (.inl (c,(BP a f (w64 (((BA a f).getD 0)+1))),d,e,(w64 (b+1)),()))
 |false=>some (.inr (.inl (c,a,())))
def zo[Lk]:Ua→Option (Uc):=fun(a,_)=>
 match A9 Pw many (a,([]:List Uz),a,(A4 a),0,())with|none=>none|some r=>match r with
 |.inl (b,c,_)=>some ((ieq (A4 c) (A4 b)),())
 |.inr _=>none
def once[Lk]:=fun v=>Lk.f (zo v)
theorem AEE v:once v=zo v:=A0 _
def We[Lk]:Uh→Option (Ua):=fun(a,b,_)=>
 match Cv a b (A4 a)with|none=>none|some c=>match Cv a 0 b with|none=>none|some d=>match He (([c,d]:List U5),())with|none=>none|some (e,_)=>some (e,())
def Wf[Lk]:=fun v=>Lk.f (We v)
theorem cM v:Wf v=We v:=A0 _
abbrev SW:A1:=[AZ,(.cap 1 0,.box 1),AO,(.tmp 1,.clo 230 [(0,0)])]
abbrev Ai:Loc×Con:=(.obj 0,.box 1)
abbrev SV:A1:=[Ai,AO,AB]
abbrev QN:A1:=[Ai,AO,AZ,(.tmp 1,.clo 230 [(0,0)]),AU,AT]
abbrev QM:BF:=[(.ret,[Ai,AO,AW]),(.exit 0,[Ai,AO])]
def DL[Lk]:(Int×List U5×Int×Int×Unit)→Option ((Int×List U5×Int×Int×Unit)⊕U3⊕U8⊕Unit):=fun(a,c,d,b,_)=>
 match(ilt b d)with
 |true=>match idx c b with|none=>none|some e=>match GU (e,a,())with|none=>none|some (f,_)=>match f with
  |true=>some (.inr (.inl (a,b,())))
  |false=>some (.inl (a,c,d,(w64 (b+1)),()))
 |false=>some (.inr (.inr (.inl (a,()))))
def GO[Lk]:(List U5×Int×Unit)→Option (U3):=fun(a,b,_)=>
 match A9 DL many (b,a,(A4 a),0,())with|none=>none|some r=>match r with
 |.inl (c,d,_)=>some (c,d,())
 |.inr r=>match r with
 |.inl (e,_)=>some (e,(-1:Int),())
 |.inr _=>none
def Ig[Lk]:=fun v=>Lk.f (GO v)
theorem JM v:Ig v=GO v:=A0 _
abbrev Aj:Loc×Con:=(.tmp 0,.dat (.prod U0 (.prod Ue .unit)))
abbrev FO:A1:=[Aj,AI]
def Wo[Lk]:(Uo×Int×Unit)→Option (U8):=fun(a,b,_)=>
 match Ig (a.2.1,b,())with|none=>none|some (d,c,_)=>some (c,())
def Rf[Lk]:=fun v=>Lk.f (Wo v)
theorem cT v:Rf v=Wo v:=A0 _
abbrev APi:A1:=[AB,AD]
abbrev ATq:A1:=[AB,(.tmp 5,.box 3),(.cell 0 0,.own 3 U0),(.cell 0 1,.map U0 U0),(.cell 0 2,.map U0 U0),(.tmp 30,.dat U6),(.tmp 31,.di),(.tmp 32,.di)]
abbrev ATp:BF:=[(.ret,[AH]),(.exit 0,[(.tmp 5,.box 3),(.cell 0 0,.own 3 U0),(.cell 0 1,.map U0 U0),(.cell 0 2,.map U0 U0)])]
def Nc[Lk]:(Int×List Int×List Uz×List Uz×List Int×Int×Int×Unit)→Option ((Int×List Int×List Uz×List Uz×List Int×Int×Int×Unit)⊕Uc⊕(List Int×List Uz×List Uz×Unit)⊕Unit):=fun(g,a,c,d,h,i,f,_)=>
 match(ilt f i)with
 |true=>match idx h f with|none=>none|some l=>match iT (g,l,())with|none=>none|some (e,b,j,m,_)=>match(!m)with
  |true=>some (.inr (.inl (false,())))
  |false=>match j with
  |true=>match idx a (w64 ((A4 a)-1))with|none=>none|some n=>match(!(ieq (A7 a (A3 (w64 ((A4 a)-1))) 0) e))with
   |true=>some (.inr (.inl (false,())))
   |false=>match(ilt 0 (w64 ((A4 a)-1)))with
   |true=>match idx a (w64 ((w64 ((A4 a)-1))-1))with|none=>none|some o=>match(ieq (A7 a (A3 (w64 ((w64 ((A4 a)-1))-1))) 0) b)with
    |true=>match Cv a 0 (w64 ((A4 a)-1))with|none=>none|some k=>match(!j)with
     |true=>match idx (E' 0 (A3 (A4 k)) a) (w64 ((((A3 (A4 k)):Nat):Int)-1))with|none=>none|some p=>match(!(ieq (A7 a (0+(A3 (w64 ((((A3 (A4 k)):Nat):Int)-1)))) 0) e))with
      |true=>some (.inr (.inl (false,())))
      |false=>match(!j)with
      |true=>some (.inl (g,(C1 (A3 (A4 k)) a),c,(BP d e (w64 (((BA d e).getD 0)+1))),h,i,(w64 (f+1)),()))
      |false=>some (.inl (g,(C1 (A3 (A4 k)) a),c,d,h,i,(w64 (f+1)),()))
     |false=>match(!j)with
     |true=>some (.inl (g,(C1 (A3 (A4 k)) a),c,(BP d e (w64 (((BA d e).getD 0)+1))),h,i,(w64 (f+1)),()))
     |false=>some (.inl (g,(C1 (A3 (A4 k)) a),c,d,h,i,(w64 (f+1)),()))
    |false=>match(ilt 0 ((BA c b).getD 0))with
    |true=>some (.inr (.inl (false,())))
    |false=>match(fits ((A4 a)+(A4 ([b]:List (Int)))))with
    |true=>match(!j)with
     |true=>match idx (BT a ([b]:List (Int))) (w64 ((A4 (BT a ([b]:List (Int))))-1))with|none=>none|some q=>match(!(ieq (A7 (BT a ([b]:List (Int))) (A3 (w64 ((A4 (BT a ([b]:List (Int))))-1))) 0) e))with
      |true=>some (.inr (.inl (false,())))
      |false=>match(!j)with
      |true=>some (.inl (g,(BT a ([b]:List (Int))),(BP c b (w64 (((BA c b).getD 0)+1))),(BP d e (w64 (((BA d e).getD 0)+1))),h,i,(w64 (f+1)),()))
      |false=>some (.inl (g,(BT a ([b]:List (Int))),(BP c b (w64 (((BA c b).getD 0)+1))),d,h,i,(w64 (f+1)),()))
     |false=>match(!j)with
     |true=>some (.inl (g,(BT a ([b]:List (Int))),(BP c b (w64 (((BA c b).getD 0)+1))),(BP d e (w64 (((BA d e).getD 0)+1))),h,i,(w64 (f+1)),()))
     |false=>some (.inl (g,(BT a ([b]:List (Int))),(BP c b (w64 (((BA c b).getD 0)+1))),d,h,i,(w64 (f+1)),()))
    |false=>none
   |false=>match(ilt 0 ((BA c b).getD 0))with
   |true=>some (.inr (.inl (false,())))
   |false=>match(fits ((A4 a)+(A4 ([b]:List (Int)))))with
   |true=>match(!j)with
    |true=>match idx (BT a ([b]:List (Int))) (w64 ((A4 (BT a ([b]:List (Int))))-1))with|none=>none|some r=>match(!(ieq (A7 (BT a ([b]:List (Int))) (A3 (w64 ((A4 (BT a ([b]:List (Int))))-1))) 0) e))with
     |true=>some (.inr (.inl (false,())))
     |false=>match(!j)with
     |true=>some (.inl (g,(BT a ([b]:List (Int))),(BP c b (w64 (((BA c b).getD 0)+1))),(BP d e (w64 (((BA d e).getD 0)+1))),h,i,(w64 (f+1)),()))
     |false=>some (.inl (g,(BT a ([b]:List (Int))),(BP c b (w64 (((BA c b).getD 0)+1))),d,h,i,(w64 (f+1)),()))
    |false=>match(!j)with
    |true=>some (.inl (g,(BT a ([b]:List (Int))),(BP c b (w64 (((BA c b).getD 0)+1))),(BP d e (w64 (((BA d e).getD 0)+1))),h,i,(w64 (f+1)),()))
    |false=>some (.inl (g,(BT a ([b]:List (Int))),(BP c b (w64 (((BA c b).getD 0)+1))),d,h,i,(w64 (f+1)),()))
   |false=>none
  |false=>match(!j)with
  |true=>match idx a (w64 ((A4 a)-1))with|none=>none|some s=>match(!(ieq (A7 a (A3 (w64 ((A4 a)-1))) 0) e))with
   |true=>some (.inr (.inl (false,())))
   |false=>match(!j)with
   |true=>some (.inl (g,a,c,(BP d e (w64 (((BA d e).getD 0)+1))),h,i,(w64 (f+1)),()))
   |false=>some (.inl (g,a,c,d,h,i,(w64 (f+1)),()))
  |false=>match(!j)with
  |true=>some (.inl (g,a,c,(BP d e (w64 (((BA d e).getD 0)+1))),h,i,(w64 (f+1)),()))
  |false=>some (.inl (g,a,c,d,h,i,(w64 (f+1)),()))
 |false=>some (.inr (.inr (.inl (a,c,d,()))))
def AAU[Lk]:(Int×List Int×Unit)→Option (Uc):=fun(b,a,_)=>
 match idx a 0 with|none=>none|some c=>match tin (b,c,())with|none=>none|some (d,_)=>match(!d)with
 |true=>some (false,())
 |false=>match idx a 0 with|none=>none|some e=>match idx a 0 with|none=>none|some f=>match A9 Nc many (b,([e]:List (Int)),(BP ([]:List Uz) f 1),([]:List Uz),a,(A4 a),0,())with|none=>none|some r=>match r with
 |.inl (g,_)=>some (g,())
 |.inr r=>match r with
 |.inl (h,i,j,_)=>match(ieq (A4 h) 1)with
  |true=>some ((ieq (A4 j) (A4 i)),())
  |false=>some (false,())
 |.inr _=>none
def goes[Lk]:=fun v=>Lk.f (AAU v)
theorem AEw v:goes v=AAU v:=A0 _
def jx[Lk]:U8→Option (Uc):=fun(a,_)=>
 some ((!(ieq a a)),())
def AIo[Lk]:=fun v=>Lk.f (jx v)
theorem jw v:AIo v=jx v:=A0 _
def LP[Lk]:U3→Option (U8):=fun(a,b,_)=>
 match AIo (a,())with|none=>none|some (d,_)=>match AIo (b,())with|none=>none|some (c,_)=>match d with
 |true=>match c with
  |true=>some (0,())
  |false=>some ((-1:Int),())
 |false=>match c with
 |true=>some (1,())
 |false=>match(ilt a b)with
 |true=>some ((-1:Int),())
 |false=>match(ilt b a)with
 |true=>some (1,())
 |false=>some (0,())
def Eu[Lk]:=fun v=>Lk.f (LP v)
theorem Mt v:Eu v=LP v:=A0 _
def iL[Lk]:Vc→Option (U8):=fun(a,b,_)=>
 match idx a 0 with|none=>none|some c=>match idx b 0 with|none=>none|some d=>match Eu (c,d,())with|none=>none|some (e,_)=>some (e,())
def Cp[Lk]:=fun v=>Lk.f (iL v)
theorem nr v:Cp v=iL v:=A0 _
def HJ:List Int:=[0,1,2,2,3,3,3,3,4,4,4,4,4,4,4,4,5,5,5,5,5,5,5,5,5,5,5,5,5,5,5,5,6,6,6,6,6,6,6,6,6,6,6,6,6,6,6,6,6,6,6,6,6,6,6,6,6,6,6,6,6,6,6,6,7,7,7,7,7,7,7,7,7,7,7,7,7,7,7,7,7,7,7,7,7,7,7,7,7,7,7,7,7,7,7,7,7,7,7,7,7,7,7,7,7,7,7,7,7,7,7,7,7,7,7,7,7,7,7,7,7,7,7,7,7,7,7,7,8,8,8,8,8,8,8,8,8,8,8,8,8,8,8,8,8,8,8,8,8,8,8,8,8,8,8,8,8,8,8,8,8,8,8,8,8,8,8,8,8,8,8,8,8,8,8,8,8,8,8,8,8,8,8,8,8,8,8,8,8,8,8,8,8,8,8,8,8,8,8,8,8,8,8,8,8,8,8,8,8,8,8,8,8,8,8,8,8,8,8,8,8,8,8,8,8,8,8,8,8,8,8,8,8,8,8,8,8,8,8,8,8,8,8,8,8,8,8,8,8,8,8,8,8,8,8,8]
abbrev j7:A1:=[(.tmp 0,.dat (.int .u64))]
def j8[Lk]:U8→Option (U8):=fun(a,_)=>
 match(ile 4294967296 a)with
 |true=>match shr? .u64 a 32 with|none=>none|some b=>match(ile 65536 b)with
  |true=>match shr? .u64 b 16 with|none=>none|some c=>match(ile 256 c)with
   |true=>match shr? .u64 c 8 with|none=>none|some e=>match idx HJ (IntKind.wrap .u8 e)with|none=>none|some f=>some ((w64 ((w64 ((w64 (32+16))+8))+(w64 f))),())
   |false=>match idx HJ (IntKind.wrap .u8 c)with|none=>none|some g=>some ((w64 ((w64 (32+16))+(w64 g))),())
  |false=>match(ile 256 b)with
  |true=>match shr? .u64 b 8 with|none=>none|some h=>match idx HJ (IntKind.wrap .u8 h)with|none=>none|some i=>some ((w64 ((w64 (32+8))+(w64 i))),())
  |false=>match idx HJ (IntKind.wrap .u8 b)with|none=>none|some j=>some ((w64 (32+(w64 j))),())
 |false=>match(ile 65536 a)with
 |true=>match shr? .u64 a 16 with|none=>none|some d=>match(ile 256 d)with
  |true=>match shr? .u64 d 8 with|none=>none|some k=>match idx HJ (IntKind.wrap .u8 k)with|none=>none|some l=>some ((w64 ((w64 ((w64 (0+16))+8))+(w64 l))),())
  |false=>match idx HJ (IntKind.wrap .u8 d)with|none=>none|some m=>some ((w64 ((w64 (0+16))+(w64 m))),())
 |false=>match(ile 256 a)with
 |true=>match shr? .u64 a 8 with|none=>none|some n=>match idx HJ (IntKind.wrap .u8 n)with|none=>none|some o=>some ((w64 ((w64 (0+8))+(w64 o))),())
 |false=>match idx HJ (IntKind.wrap .u8 a)with|none=>none|some p=>some ((w64 (0+(w64 p))),())
def AEb[Lk]:=fun v=>Lk.f (j8 v)
theorem rY v:AEb v=j8 v:=A0 _
def Su[Lk]:U8→Option (U8):=fun(a,_)=>
 match AEb (a,())with|none=>none|some (b,_)=>some (b,())
def bitsLen[Lk]:=fun v=>Lk.f (Su v)
theorem ZL v:bitsLen v=Su v:=A0 _
abbrev AGb:A1:=[(.tmp 0,.box 1),(.cell 0 0,.dat (.int .u64))]
abbrev AGa:A1:=[Ai,(.cell 0 0,.dat (.int .u64)),(.tmp 0,.dat (.int .u64))]
def RY[Lk]:U8→Option (U3):=fun(a,_)=>
 match shl? .u64 a 13 with|none=>none|some b=>match shr? .u64 (IntKind.wrap .u64 ((BitVec.ofInt (IntKind.bits .u64) a ^^^ BitVec.ofInt (IntKind.bits .u64) b).toNat)) 7 with|none=>none|some c=>match shl? .u64 (IntKind.wrap .u64 ((BitVec.ofInt (IntKind.bits .u64) (IntKind.wrap .u64 ((BitVec.ofInt (IntKind.bits .u64) a ^^^ BitVec.ofInt (IntKind.bits .u64) b).toNat)) ^^^ BitVec.ofInt (IntKind.bits .u64) c).toNat)) 17 with|none=>none|some d=>some ((IntKind.wrap .u64 ((BitVec.ofInt (IntKind.bits .u64) (IntKind.wrap .u64 ((BitVec.ofInt (IntKind.bits .u64) (IntKind.wrap .u64 ((BitVec.ofInt (IntKind.bits .u64) a ^^^ BitVec.ofInt (IntKind.bits .u64) b).toNat)) ^^^ BitVec.ofInt (IntKind.bits .u64) c).toNat)) ^^^ BitVec.ofInt (IntKind.bits .u64) d).toNat)),(IntKind.wrap .u64 ((BitVec.ofInt (IntKind.bits .u64) (IntKind.wrap .u64 ((BitVec.ofInt (IntKind.bits .u64) (IntKind.wrap .u64 ((BitVec.ofInt (IntKind.bits .u64) a ^^^ BitVec.ofInt (IntKind.bits .u64) b).toNat)) ^^^ BitVec.ofInt (IntKind.bits .u64) c).toNat)) ^^^ BitVec.ofInt (IntKind.bits .u64) d).toNat)),())
def xorNext[Lk]:=fun v=>Lk.f (RY v)
theorem WT v:xorNext v=RY v:=A0 _
def R7[Lk]:U8→Option (U8):=fun(a,_)=>
 match bitsLen ((IntKind.wrap .u64 a),())with|none=>none|some (b,_)=>match shl? .u64 1 b with|none=>none|some c=>some (c,())
def P1[Lk]:=fun v=>Lk.f (R7 v)
theorem Xu v:P1 v=R7 v:=A0 _
def WE[Lk]{α:Type}(z:α)(c:α×α×Unit→Option U8):(List α×Int×Int×Int×Int×Unit)→Option ((List α×Int×Int×Int×Int×Unit)⊕(List α×Int×Int×Int×Unit)⊕Unit):=fun(b,d,e,f,a,_)=>
 match(ilt d a)with
 |true=>match idx b a with|none=>none|some h=>match idx b (w64 (a-1))with|none=>none|some i=>match c ((A7 b (A3 a) z),(A7 b (A3 (w64 (a-1))) z),())with|none=>none|some (g,_)=>match(ilt g 0)with
  |true=>match idx b (w64 (a-1))with|none=>none|some j=>match idx b a with|none=>none|some k=>match idx b a with|none=>none|some l=>match idx (BH b (A3 a) (A7 b (A3 (w64 (a-1))) z)) (w64 (a-1))with|none=>none|some m=>some (.inl ((BH (BH b (A3 a) (A7 b (A3 (w64 (a-1))) z)) (A3 (w64 (a-1))) (A7 b (A3 a) z)),d,e,f,(w64 (a-1)),()))
  |false=>some (.inr (.inl (b,d,e,f,())))
 |false=>some (.inr (.inl (b,d,e,f,())))
def WG[Lk]{α:Type}(z:α)(c:α×α×Unit→Option U8):(List α×Int×Int×Int×Unit)→Option ((List α×Int×Int×Int×Unit)⊕(List α×Unit)⊕Unit):=fun(b,e,d,a,_)=>
 match(ilt a d)with
 |true=>match A9 (WE z c) many (b,e,d,a,a,())with|none=>none|some r=>match r with
  |.inl (f,g,h,i,_)=>some (.inl (f,g,h,(w64 (i+1)),()))
  |.inr _=>none
 |false=>some (.inr (.inl (b,())))
def SN[Lk]{α:Type}(z:α)(c:α×α×Unit→Option U8):(List α×Int×Int×Unit)→Option ((List α×Unit)):=fun(b,a,d,_)=>
 match A9 (WG z c) many (b,a,d,(w64 (a+1)),())with|none=>none|some r=>match r with
 |.inl (e,_)=>some (e,())
 |.inr _=>none
def AJT[Lk]{α:Type}(z:α)(c:α×α×Unit→Option U8)(v:(List α×Int×Int×Unit)):Option ((List α×Unit)):=Lk.f ((SN z c) v)
theorem ATZ{α:Type}(z:α)(c:α×α×Unit→Option U8)(v:(List α×Int×Int×Unit)):(AJT z c) v=(SN z c) v:=A0 _
def Pe[Lk]{α:Type}(z:α)(c:α×α×Unit→Option U8):(List α×Int×Int×Int×Unit)→Option ((List α×Int×Int×Int×Unit)⊕(List α×Unit)⊕(List α×Unit)⊕Unit):=fun(d,e,b,a,_)=>
 match(ile e (w64 ((w64 (2*a))+1)))with
 |true=>some (.inr (.inl (d,())))
 |false=>match(ilt (w64 ((w64 ((w64 (2*a))+1))+1)) e)with
 |true=>match idx d (w64 (b+(w64 ((w64 (2*a))+1))))with|none=>none|some j=>match idx d (w64 ((w64 (b+(w64 ((w64 (2*a))+1))))+1))with|none=>none|some k=>match c ((A7 d (A3 (w64 (b+(w64 ((w64 (2*a))+1))))) z),(A7 d (A3 (w64 ((w64 (b+(w64 ((w64 (2*a))+1))))+1))) z),())with|none=>none|some (f,_)=>match(ilt f 0)with
  |true=>match idx d (w64 (b+a))with|none=>none|some l=>match idx d (w64 (b+(w64 ((w64 ((w64 (2*a))+1))+1))))with|none=>none|some m=>match c ((A7 d (A3 (w64 (b+a))) z),(A7 d (A3 (w64 (b+(w64 ((w64 ((w64 (2*a))+1))+1))))) z),())with|none=>none|some (g,_)=>match(!(ilt g 0))with
   |true=>some (.inr (.inr (.inl (d,()))))
   |false=>match idx d (w64 (b+(w64 ((w64 ((w64 (2*a))+1))+1))))with|none=>none|some n=>match idx d (w64 (b+a))with|none=>none|some o=>match idx d (w64 (b+a))with|none=>none|some p=>match idx (BH d (A3 (w64 (b+a))) (A7 d (A3 (w64 (b+(w64 ((w64 ((w64 (2*a))+1))+1))))) z)) (w64 (b+(w64 ((w64 ((w64 (2*a))+1))+1))))with|none=>none|some q=>some (.inl ((BH (BH d (A3 (w64 (b+a))) (A7 d (A3 (w64 (b+(w64 ((w64 ((w64 (2*a))+1))+1))))) z)) (A3 (w64 (b+(w64 ((w64 ((w64 (2*a))+1))+1))))) (A7 d (A3 (w64 (b+a))) z)),e,b,(w64 ((w64 ((w64 (2*a))+1))+1)),()))
  |false=>match idx d (w64 (b+a))with|none=>none|some r=>match idx d (w64 (b+(w64 ((w64 (2*a))+1))))with|none=>none|some s=>match c ((A7 d (A3 (w64 (b+a))) z),(A7 d (A3 (w64 (b+(w64 ((w64 (2*a))+1))))) z),())with|none=>none|some (h,_)=>match(!(ilt h 0))with
  |true=>some (.inr (.inr (.inl (d,()))))
  |false=>match idx d (w64 (b+(w64 ((w64 (2*a))+1))))with|none=>none|some t=>match idx d (w64 (b+a))with|none=>none|some u=>match idx d (w64 (b+a))with|none=>none|some v=>match idx (BH d (A3 (w64 (b+a))) (A7 d (A3 (w64 (b+(w64 ((w64 (2*a))+1))))) z)) (w64 (b+(w64 ((w64 (2*a))+1))))with|none=>none|some w=>some (.inl ((BH (BH d (A3 (w64 (b+a))) (A7 d (A3 (w64 (b+(w64 ((w64 (2*a))+1))))) z)) (A3 (w64 (b+(w64 ((w64 (2*a))+1))))) (A7 d (A3 (w64 (b+a))) z)),e,b,(w64 ((w64 (2*a))+1)),()))
 |false=>match idx d (w64 (b+a))with|none=>none|some x=>match idx d (w64 (b+(w64 ((w64 (2*a))+1))))with|none=>none|some y=>match c ((A7 d (A3 (w64 (b+a))) z),(A7 d (A3 (w64 (b+(w64 ((w64 (2*a))+1))))) z),())with|none=>none|some (i,_)=>match(!(ilt i 0))with
 |true=>some (.inr (.inr (.inl (d,()))))
 |false=>match idx d (w64 (b+(w64 ((w64 (2*a))+1))))with|none=>none|some A=>match idx d (w64 (b+a))with|none=>none|some B=>match idx d (w64 (b+a))with|none=>none|some C=>match idx (BH d (A3 (w64 (b+a))) (A7 d (A3 (w64 (b+(w64 ((w64 (2*a))+1))))) z)) (w64 (b+(w64 ((w64 (2*a))+1))))with|none=>none|some D=>some (.inl ((BH (BH d (A3 (w64 (b+a))) (A7 d (A3 (w64 (b+(w64 ((w64 (2*a))+1))))) z)) (A3 (w64 (b+(w64 ((w64 (2*a))+1))))) (A7 d (A3 (w64 (b+a))) z)),e,b,(w64 ((w64 (2*a))+1)),()))
def NP[Lk]{α:Type}(z:α)(c:α×α×Unit→Option U8):(List α×Int×Int×Int×Unit)→Option ((List α×Unit)):=fun(a,b,d,e,_)=>
 match A9 (Pe z c) many (a,d,e,b,())with|none=>none|some r=>match r with
 |.inl (f,_)=>some (f,())
 |.inr r=>match r with
 |.inl (g,_)=>some (g,())
 |.inr _=>none
def W5[Lk]{α:Type}(z:α)(c:α×α×Unit→Option U8)(v:(List α×Int×Int×Int×Unit)):Option ((List α×Unit)):=Lk.f ((NP z c) v)
theorem AMe{α:Type}(z:α)(c:α×α×Unit→Option U8)(v:(List α×Int×Int×Int×Unit)):(W5 z c) v=(NP z c) v:=A0 _
def Qg[Lk]{α:Type}(z:α)(c:α×α×Unit→Option U8):(List α×Int×Int×Int×Unit)→Option ((List α×Int×Int×Int×Unit)⊕(List α×Unit)⊕Unit):=fun(b,a,e,d,_)=>
 match(ile 0 d)with
 |true=>match idx b (w64 (a+d))with|none=>none|some g=>match idx b a with|none=>none|some h=>match idx b a with|none=>none|some i=>match idx (BH b (A3 a) (A7 b (A3 (w64 (a+d))) z)) (w64 (a+d))with|none=>none|some j=>match(W5 z c) ((BH (BH b (A3 a) (A7 b (A3 (w64 (a+d))) z)) (A3 (w64 (a+d))) (A7 b (A3 a) z)),e,d,a,())with|none=>none|some (f,_)=>some (.inl (f,a,e,(w64 (d-1)),()))
 |false=>some (.inr (.inl (b,())))
def Qh[Lk]{α:Type}(z:α)(c:α×α×Unit→Option U8):(List α×Int×Int×Int×Int×Unit)→Option ((List α×Int×Int×Int×Int×Unit)⊕(List α×Int×Int×Int×Unit)⊕Unit):=fun(e,a,f,b,d,_)=>
 match(ile 0 d)with
 |true=>match(W5 z c) (e,d,b,a,())with|none=>none|some (g,_)=>some (.inl (g,a,f,b,(w64 (d-1)),()))
 |false=>some (.inr (.inl (e,a,f,b,())))
def Nb[Lk]{α:Type}(z:α)(c:α×α×Unit→Option U8):(List α×Int×Int×Unit)→Option ((List α×Unit)):=fun(d,a,b,_)=>
 match quo? .i64 (w64 ((w64 (b-a))-1)) 2 with|none=>none|some e=>match A9 (Qh z c) many (d,a,0,(w64 (b-a)),e,())with|none=>none|some r=>match r with
 |.inl (f,g,h,i,_)=>match A9 (Qg z c) many (f,g,h,(w64 (i-1)),())with|none=>none|some r=>match r with
  |.inl (j,_)=>some (j,())
  |.inr _=>none
 |.inr _=>none
def eg[Lk]{α:Type}(z:α)(c:α×α×Unit→Option U8)(v:(List α×Int×Int×Unit)):Option ((List α×Unit)):=Lk.f ((Nb z c) v)
theorem APW{α:Type}(z:α)(c:α×α×Unit→Option U8)(v:(List α×Int×Int×Unit)):(eg z c) v=(Nb z c) v:=A0 _
def KN[Lk]{α:Type}(z:α)(c:α×α×Unit→Option U8):(List α×Int×Int×Int×Int×Int×Unit)→Option ((List α×Int×Int×Int×Int×Int×Unit)⊕(List α×Unit)⊕Unit):=fun(a,b,g,i,d,e,_)=>
 match quo? .i64 g 4 with|none=>none|some j=>match(ile e (w64 ((w64 (b+(w64 (j*2))))+1)))with
 |true=>match xorNext (i,())with|none=>none|some (h,f,_)=>match(ile g (w64 (IntKind.wrap .u64 ((BitVec.ofInt (IntKind.bits .u64) f &&& BitVec.ofInt (IntKind.bits .u64) (IntKind.wrap .u64 (d-1))).toNat))))with
  |true=>match idx a (w64 (b+(w64 ((w64 (IntKind.wrap .u64 ((BitVec.ofInt (IntKind.bits .u64) f &&& BitVec.ofInt (IntKind.bits .u64) (IntKind.wrap .u64 (d-1))).toNat)))-g))))with|none=>none|some k=>match idx a e with|none=>none|some l=>match idx a e with|none=>none|some m=>match idx (BH a (A3 e) (A7 a (A3 (w64 (b+(w64 ((w64 (IntKind.wrap .u64 ((BitVec.ofInt (IntKind.bits .u64) f &&& BitVec.ofInt (IntKind.bits .u64) (IntKind.wrap .u64 (d-1))).toNat)))-g))))) z)) (w64 (b+(w64 ((w64 (IntKind.wrap .u64 ((BitVec.ofInt (IntKind.bits .u64) f &&& BitVec.ofInt (IntKind.bits .u64) (IntKind.wrap .u64 (d-1))).toNat)))-g))))with|none=>none|some n=>some (.inl ((BH (BH a (A3 e) (A7 a (A3 (w64 (b+(w64 ((w64 (IntKind.wrap .u64 ((BitVec.ofInt (IntKind.bits .u64) f &&& BitVec.ofInt (IntKind.bits .u64) (IntKind.wrap .u64 (d-1))).toNat)))-g))))) z)) (A3 (w64 (b+(w64 ((w64 (IntKind.wrap .u64 ((BitVec.ofInt (IntKind.bits .u64) f &&& BitVec.ofInt (IntKind.bits .u64) (IntKind.wrap .u64 (d-1))).toNat)))-g))))) (A7 a (A3 e) z)),b,g,h,d,(w64 (e+1)),()))
  |false=>match idx a (w64 (b+(w64 (IntKind.wrap .u64 ((BitVec.ofInt (IntKind.bits .u64) f &&& BitVec.ofInt (IntKind.bits .u64) (IntKind.wrap .u64 (d-1))).toNat)))))with|none=>none|some o=>match idx a e with|none=>none|some p=>match idx a e with|none=>none|some q=>match idx (BH a (A3 e) (A7 a (A3 (w64 (b+(w64 (IntKind.wrap .u64 ((BitVec.ofInt (IntKind.bits .u64) f &&& BitVec.ofInt (IntKind.bits .u64) (IntKind.wrap .u64 (d-1))).toNat)))))) z)) (w64 (b+(w64 (IntKind.wrap .u64 ((BitVec.ofInt (IntKind.bits .u64) f &&& BitVec.ofInt (IntKind.bits .u64) (IntKind.wrap .u64 (d-1))).toNat)))))with|none=>none|some r=>some (.inl ((BH (BH a (A3 e) (A7 a (A3 (w64 (b+(w64 (IntKind.wrap .u64 ((BitVec.ofInt (IntKind.bits .u64) f &&& BitVec.ofInt (IntKind.bits .u64) (IntKind.wrap .u64 (d-1))).toNat)))))) z)) (A3 (w64 (b+(w64 (IntKind.wrap .u64 ((BitVec.ofInt (IntKind.bits .u64) f &&& BitVec.ofInt (IntKind.bits .u64) (IntKind.wrap .u64 (d-1))).toNat)))))) (A7 a (A3 e) z)),b,g,h,d,(w64 (e+1)),()))
 |false=>some (.inr (.inl (a,())))
def KO[Lk]{α:Type}(z:α)(c:α×α×Unit→Option U8):(List α×Int×Int×Unit)→Option ((List α×Unit)):=fun(d,a,b,_)=>
 match(ile 8 (w64 (b-a)))with
 |true=>match P1 ((w64 (b-a)),())with|none=>none|some (e,_)=>match quo? .i64 (w64 (b-a)) 4 with|none=>none|some f=>match A9 (KN z c) many (d,a,(w64 (b-a)),(IntKind.wrap .u64 (w64 (b-a))),e,(w64 ((w64 (a+(w64 (f*2))))-1)),())with|none=>none|some r=>match r with
  |.inl (g,_)=>some (g,())
  |.inr _=>none
 |false=>some (d,())
def Ss[Lk]{α:Type}(z:α)(c:α×α×Unit→Option U8)(v:(List α×Int×Int×Unit)):Option ((List α×Unit)):=Lk.f ((KO z c) v)
theorem AK1{α:Type}(z:α)(c:α×α×Unit→Option U8)(v:(List α×Int×Int×Unit)):(Ss z c) v=(KO z c) v:=A0 _
def Hs[Lk]{α:Type}(z:α)(c:α×α×Unit→Option U8):(List α×Int×Int×Int×Unit)→Option ((List α×Int×Int×Int×Unit)):=fun(a,b,d,e,_)=>
 match idx a d with|none=>none|some g=>match idx a b with|none=>none|some h=>match c ((A7 a (A3 d) z),(A7 a (A3 b) z),())with|none=>none|some (f,_)=>match(ilt f 0)with
 |true=>some (a,(w64 (e+1)),d,b,())
 |false=>some (a,e,b,d,())
def JD[Lk]{α:Type}(z:α)(c:α×α×Unit→Option U8)(v:(List α×Int×Int×Int×Unit)):Option ((List α×Int×Int×Int×Unit)):=Lk.f ((Hs z c) v)
theorem zm{α:Type}(z:α)(c:α×α×Unit→Option U8)(v:(List α×Int×Int×Int×Unit)):(JD z c) v=(Hs z c) v:=A0 _
def Ht[Lk]{α:Type}(z:α)(c:α×α×Unit→Option U8):(List α×Int×Int×Int×Int×Unit)→Option ((List α×Int×Int×Unit)):=fun(a,b,d,e,f,_)=>
 match(JD z c) (a,b,d,f,())with|none=>none|some (g,h,i,j,_)=>match(JD z c) (g,j,e,h,())with|none=>none|some (k,l,m,q,_)=>match(JD z c) (k,i,m,l,())with|none=>none|some (n,o,r,p,_)=>some (n,o,p,())
def JF[Lk]{α:Type}(z:α)(c:α×α×Unit→Option U8)(v:(List α×Int×Int×Int×Int×Unit)):Option ((List α×Int×Int×Unit)):=Lk.f ((Ht z c) v)
theorem z4{α:Type}(z:α)(c:α×α×Unit→Option U8)(v:(List α×Int×Int×Int×Int×Unit)):(JF z c) v=(Ht z c) v:=A0 _
def Hu[Lk]{α:Type}(z:α)(c:α×α×Unit→Option U8):(List α×Int×Int×Unit)→Option ((List α×Int×Int×Unit)):=fun(b,a,d,_)=>
 match(JF z c) (b,(w64 (a-1)),a,(w64 (a+1)),d,())with|none=>none|some (e,f,g,_)=>some (e,f,g,())
def JG[Lk]{α:Type}(z:α)(c:α×α×Unit→Option U8)(v:(List α×Int×Int×Unit)):Option ((List α×Int×Int×Unit)):=Lk.f ((Hu z c) v)
theorem z9{α:Type}(z:α)(c:α×α×Unit→Option U8)(v:(List α×Int×Int×Unit)):(JG z c) v=(Hu z c) v:=A0 _
def J1[Lk]{α:Type}(z:α)(c:α×α×Unit→Option U8):(List α×Int×Int×Unit)→Option ((List α×Int×Int×Unit)):=fun(b,a,d,_)=>
 match quo? .i64 (w64 (d-a)) 4 with|none=>none|some j=>match quo? .i64 (w64 (d-a)) 4 with|none=>none|some e=>match quo? .i64 (w64 (d-a)) 4 with|none=>none|some k=>match(ile 8 (w64 (d-a)))with
 |true=>match(ile 50 (w64 (d-a)))with
  |true=>match(JG z c) (b,(w64 (a+(w64 (j*1)))),0,())with|none=>none|some (n,o,p,_)=>match(JG z c) (n,(w64 (a+(w64 (e*2)))),o,())with|none=>none|some (q,r,s,_)=>match(JG z c) (q,(w64 (a+(w64 (k*3)))),r,())with|none=>none|some (t,u,v,_)=>match(JF z c) (t,p,s,v,u,())with|none=>none|some (f,l,g,_)=>match(ieq l 0)with
   |true=>some (f,g,1,())
   |false=>match(ieq l 12)with
   |true=>some (f,g,2,())
   |false=>some (f,g,0,())
  |false=>match(JF z c) (b,(w64 (a+(w64 (j*1)))),(w64 (a+(w64 (e*2)))),(w64 (a+(w64 (k*3)))),0,())with|none=>none|some (h,m,i,_)=>match(ieq m 0)with
  |true=>some (h,i,1,())
  |false=>match(ieq m 12)with
  |true=>some (h,i,2,())
  |false=>some (h,i,0,())
 |false=>match(ieq 0 0)with
 |true=>some (b,(w64 (a+(w64 (e*2)))),1,())
 |false=>match(ieq 0 12)with
 |true=>some (b,(w64 (a+(w64 (e*2)))),2,())
 |false=>some (b,(w64 (a+(w64 (e*2)))),0,())
def R1[Lk]{α:Type}(z:α)(c:α×α×Unit→Option U8)(v:(List α×Int×Int×Unit)):Option ((List α×Int×Int×Unit)):=Lk.f ((J1 z c) v)
theorem AID{α:Type}(z:α)(c:α×α×Unit→Option U8)(v:(List α×Int×Int×Unit)):(R1 z c) v=(J1 z c) v:=A0 _
def jU[Lk]{α:Type}(z:α)(c:α×α×Unit→Option U8):(List α×Int×Int×Unit)→Option ((List α×Int×Int×Unit)⊕(List α×Unit)⊕Unit):=fun(a,b,d,_)=>
 match(ilt b d)with
 |true=>match idx a d with|none=>none|some e=>match idx a b with|none=>none|some f=>match idx a b with|none=>none|some g=>match idx (BH a (A3 b) (A7 a (A3 d) z)) d with|none=>none|some h=>some (.inl ((BH (BH a (A3 b) (A7 a (A3 d) z)) (A3 d) (A7 a (A3 b) z)),(w64 (b+1)),(w64 (d-1)),()))
 |false=>some (.inr (.inl (a,())))
def Rw[Lk]{α:Type}(z:α)(c:α×α×Unit→Option U8):(List α×Int×Int×Unit)→Option ((List α×Unit)):=fun(a,b,d,_)=>
 match A9 (jU z c) many (a,b,(w64 (d-1)),())with|none=>none|some r=>match r with
 |.inl (e,_)=>some (e,())
 |.inr _=>none
def AHx[Lk]{α:Type}(z:α)(c:α×α×Unit→Option U8)(v:(List α×Int×Int×Unit)):Option ((List α×Unit)):=Lk.f ((Rw z c) v)
theorem AST{α:Type}(z:α)(c:α×α×Unit→Option U8)(v:(List α×Int×Int×Unit)):(AHx z c) v=(Rw z c) v:=A0 _
def JB[Lk]{α:Type}(z:α)(c:α×α×Unit→Option U8):(List α×Int×Int×Int×Int×Int×Unit)→Option ((List α×Int×Int×Int×Int×Int×Unit)⊕(List α×Int×Int×Int×Int×Unit)⊕Unit):=fun(b,e,d,f,g,a,_)=>
 match(ilt a d)with
 |true=>match idx b a with|none=>none|some i=>match idx b (w64 (a-1))with|none=>none|some j=>match c ((A7 b (A3 a) z),(A7 b (A3 (w64 (a-1))) z),())with|none=>none|some (h,_)=>match(!(ilt h 0))with
  |true=>some (.inr (.inl (b,e,d,f,g,())))
  |false=>match idx b (w64 (a-1))with|none=>none|some k=>match idx b a with|none=>none|some l=>match idx b a with|none=>none|some m=>match idx (BH b (A3 a) (A7 b (A3 (w64 (a-1))) z)) (w64 (a-1))with|none=>none|some n=>some (.inl ((BH (BH b (A3 a) (A7 b (A3 (w64 (a-1))) z)) (A3 (w64 (a-1))) (A7 b (A3 a) z)),e,d,f,g,(w64 (a+1)),()))
 |false=>some (.inr (.inl (b,e,d,f,g,())))
def JC[Lk]{α:Type}(z:α)(c:α×α×Unit→Option U8):(List α×Int×Int×Int×Int×Int×Unit)→Option ((List α×Int×Int×Int×Int×Int×Unit)⊕(List α×Int×Int×Int×Int×Unit)⊕Unit):=fun(b,d,e,f,g,a,_)=>
 match(ile 1 a)with
 |true=>match idx b a with|none=>none|some i=>match idx b (w64 (a-1))with|none=>none|some j=>match c ((A7 b (A3 a) z),(A7 b (A3 (w64 (a-1))) z),())with|none=>none|some (h,_)=>match(!(ilt h 0))with
  |true=>some (.inr (.inl (b,d,e,f,g,())))
  |false=>match idx b (w64 (a-1))with|none=>none|some k=>match idx b a with|none=>none|some l=>match idx b a with|none=>none|some m=>match idx (BH b (A3 a) (A7 b (A3 (w64 (a-1))) z)) (w64 (a-1))with|none=>none|some n=>some (.inl ((BH (BH b (A3 a) (A7 b (A3 (w64 (a-1))) z)) (A3 (w64 (a-1))) (A7 b (A3 a) z)),d,e,f,g,(w64 (a-1)),()))
 |false=>some (.inr (.inl (b,d,e,f,g,())))
def L_[Lk]{α:Type}(z:α)(c:α×α×Unit→Option U8):(List α×Int×Int×Int×Int×Unit)→Option ((List α×Int×Int×Int×Int×Unit)⊕(List α×Int×Int×Int×Int×Unit)⊕Unit):=fun(b,e,d,a,f,_)=>
 match(ilt a d)with
 |true=>match idx b a with|none=>none|some h=>match idx b (w64 (a-1))with|none=>none|some i=>match c ((A7 b (A3 a) z),(A7 b (A3 (w64 (a-1))) z),())with|none=>none|some (g,_)=>match(!(ilt g 0))with
  |true=>some (.inl (b,e,d,(w64 (a+1)),f,()))
  |false=>some (.inr (.inl (b,e,d,a,f,())))
 |false=>some (.inr (.inl (b,e,d,a,f,())))
def EH[Lk]{α:Type}(z:α)(c:α×α×Unit→Option U8):(List α×Int×Int×Int×Int×Unit)→Option ((List α×Int×Int×Int×Int×Unit)⊕(List α×Bool×Unit)⊕(List α×Unit)⊕Unit):=fun(i,n,o,p,j,_)=>
 match(ilt j 5)with
 |true=>match A9 (L_ z c) many (i,n,o,p,j,())with|none=>none|some r=>match r with
  |.inl (b,e,d,a,g,_)=>match(ieq a d)with
   |true=>some (.inr (.inl (b,true,())))
   |false=>match(ilt (w64 (d-e)) 50)with
   |true=>some (.inr (.inl (b,false,())))
   |false=>match idx b (w64 (a-1))with|none=>none|some C=>match idx b a with|none=>none|some D=>match idx b a with|none=>none|some E=>match idx (BH b (A3 a) (A7 b (A3 (w64 (a-1))) z)) (w64 (a-1))with|none=>none|some F=>match(ile 2 (w64 (a-e)))with
   |true=>match A9 (JC z c) many ((BH (BH b (A3 a) (A7 b (A3 (w64 (a-1))) z)) (A3 (w64 (a-1))) (A7 b (A3 a) z)),e,d,a,g,(w64 (a-1)),())with|none=>none|some r=>match r with
    |.inl (k,l,h,f,m,_)=>match(ile 2 (w64 (h-f)))with
     |true=>match A9 (JB z c) many (k,l,h,f,m,(w64 (f+1)),())with|none=>none|some r=>match r with
      |.inl (q,s,t,u,v,_)=>some (.inl (q,s,t,u,(w64 (v+1)),()))
      |.inr _=>none
     |false=>some (.inl (k,l,h,f,(w64 (m+1)),()))
    |.inr _=>none
   |false=>match(ile 2 (w64 (d-a)))with
   |true=>match A9 (JB z c) many ((BH (BH b (A3 a) (A7 b (A3 (w64 (a-1))) z)) (A3 (w64 (a-1))) (A7 b (A3 a) z)),e,d,a,g,(w64 (a+1)),())with|none=>none|some r=>match r with
    |.inl (w,x,y,A,B,_)=>some (.inl (w,x,y,A,(w64 (B+1)),()))
    |.inr _=>none
   |false=>some (.inl ((BH (BH b (A3 a) (A7 b (A3 (w64 (a-1))) z)) (A3 (w64 (a-1))) (A7 b (A3 a) z)),e,d,a,(w64 (g+1)),()))
  |.inr _=>none
 |false=>some (.inr (.inr (.inl (i,()))))
def GG[Lk]{α:Type}(z:α)(c:α×α×Unit→Option U8):(List α×Int×Int×Unit)→Option ((List α×Bool×Unit)):=fun(b,a,d,_)=>
 match A9 (EH z c) many (b,a,d,(w64 (a+1)),0,())with|none=>none|some r=>match r with
 |.inl (e,f,_)=>some (e,f,())
 |.inr r=>match r with
 |.inl (g,_)=>some (g,false,())
 |.inr _=>none
def J2[Lk]{α:Type}(z:α)(c:α×α×Unit→Option U8)(v:(List α×Int×Int×Unit)):Option ((List α×Bool×Unit)):=Lk.f ((GG z c) v)
theorem qp{α:Type}(z:α)(c:α×α×Unit→Option U8)(v:(List α×Int×Int×Unit)):(J2 z c) v=(GG z c) v:=A0 _
def OW[Lk]{α:Type}(z:α)(c:α×α×Unit→Option U8):(List α×Int×Int×Int×Unit)→Option ((List α×Int×Int×Int×Unit)⊕(List α×Int×Int×Int×Unit)⊕Unit):=fun(a,d,e,b,_)=>
 match(ile e b)with
 |true=>match idx a d with|none=>none|some g=>match idx a b with|none=>none|some h=>match c ((A7 a (A3 d) z),(A7 a (A3 b) z),())with|none=>none|some (f,_)=>match(ilt f 0)with
  |true=>some (.inl (a,d,e,(w64 (b-1)),()))
  |false=>some (.inr (.inl (a,d,e,b,())))
 |false=>some (.inr (.inl (a,d,e,b,())))
def OX[Lk]{α:Type}(z:α)(c:α×α×Unit→Option U8):(List α×Int×Int×Int×Unit)→Option ((List α×Int×Int×Int×Unit)⊕(List α×Int×Int×Int×Unit)⊕Unit):=fun(a,d,b,e,_)=>
 match(ile b e)with
 |true=>match idx a d with|none=>none|some g=>match idx a b with|none=>none|some h=>match c ((A7 a (A3 d) z),(A7 a (A3 b) z),())with|none=>none|some (f,_)=>match(!(ilt f 0))with
  |true=>some (.inl (a,d,(w64 (b+1)),e,()))
  |false=>some (.inr (.inl (a,d,b,e,())))
 |false=>some (.inr (.inl (a,d,b,e,())))
def OY[Lk]{α:Type}(z:α)(c:α×α×Unit→Option U8):(List α×Int×Int×Int×Unit)→Option ((List α×Int×Int×Int×Unit)⊕(List α×Int×Unit)⊕Unit):=fun(e,f,g,h,_)=>
 match A9 (OX z c) many (e,f,g,h,())with|none=>none|some r=>match r with
 |.inl (i,j,k,l,_)=>match A9 (OW z c) many (i,j,k,l,())with|none=>none|some r=>match r with
  |.inl (a,m,b,d,_)=>match(ilt d b)with
   |true=>some (.inr (.inl (a,b,())))
   |false=>match idx a d with|none=>none|some n=>match idx a b with|none=>none|some o=>match idx a b with|none=>none|some p=>match idx (BH a (A3 b) (A7 a (A3 d) z)) d with|none=>none|some q=>some (.inl ((BH (BH a (A3 b) (A7 a (A3 d) z)) (A3 d) (A7 a (A3 b) z)),m,(w64 (b+1)),(w64 (d-1)),()))
  |.inr _=>none
 |.inr _=>none
def Hr[Lk]{α:Type}(z:α)(c:α×α×Unit→Option U8):(List α×Int×Int×Int×Unit)→Option ((List α×Int×Unit)):=fun(a,b,e,d,_)=>
 match idx a d with|none=>none|some h=>match idx a b with|none=>none|some i=>match idx a b with|none=>none|some j=>match idx (BH a (A3 b) (A7 a (A3 d) z)) d with|none=>none|some k=>match A9 (OY z c) many ((BH (BH a (A3 b) (A7 a (A3 d) z)) (A3 d) (A7 a (A3 b) z)),b,(w64 (b+1)),(w64 (e-1)),())with|none=>none|some r=>match r with
 |.inl (f,g,_)=>some (f,g,())
 |.inr _=>none
def NU[Lk]{α:Type}(z:α)(c:α×α×Unit→Option U8)(v:(List α×Int×Int×Int×Unit)):Option ((List α×Int×Unit)):=Lk.f ((Hr z c) v)
theorem ze{α:Type}(z:α)(c:α×α×Unit→Option U8)(v:(List α×Int×Int×Int×Unit)):(NU z c) v=(Hr z c) v:=A0 _
def Xi[Lk]{α:Type}(z:α)(c:α×α×Unit→Option U8):(List α×Int×Int×Int×Unit)→Option ((List α×Int×Int×Int×Unit)⊕(List α×Int×Int×Int×Unit)⊕Unit):=fun(a,d,e,b,_)=>
 match(ile e b)with
 |true=>match idx a b with|none=>none|some g=>match idx a d with|none=>none|some h=>match c ((A7 a (A3 b) z),(A7 a (A3 d) z),())with|none=>none|some (f,_)=>match(!(ilt f 0))with
  |true=>some (.inl (a,d,e,(w64 (b-1)),()))
  |false=>some (.inr (.inl (a,d,e,b,())))
 |false=>some (.inr (.inl (a,d,e,b,())))
def Xj[Lk]{α:Type}(z:α)(c:α×α×Unit→Option U8):(List α×Int×Int×Int×Unit)→Option ((List α×Int×Int×Int×Unit)⊕(List α×Int×Int×Int×Unit)⊕Unit):=fun(a,d,b,e,_)=>
 match(ile b e)with
 |true=>match idx a b with|none=>none|some g=>match idx a d with|none=>none|some h=>match c ((A7 a (A3 b) z),(A7 a (A3 d) z),())with|none=>none|some (f,_)=>match(ilt f 0)with
  |true=>some (.inl (a,d,(w64 (b+1)),e,()))
  |false=>some (.inr (.inl (a,d,b,e,())))
 |false=>some (.inr (.inl (a,d,b,e,())))
def Xk[Lk]{α:Type}(z:α)(c:α×α×Unit→Option U8):(List α×Int×Int×Int×Unit)→Option ((List α×Int×Int×Int×Unit)⊕(List α×Int×Int×Unit)⊕Unit):=fun(f,g,h,i,_)=>
 match A9 (Xj z c) many (f,g,h,i,())with|none=>none|some r=>match r with
 |.inl (j,k,l,m,_)=>match A9 (Xi z c) many (j,k,l,m,())with|none=>none|some r=>match r with
  |.inl (a,e,d,b,_)=>match(ilt b d)with
   |true=>some (.inr (.inl (a,e,b,())))
   |false=>match idx a b with|none=>none|some n=>match idx a d with|none=>none|some o=>match idx a d with|none=>none|some p=>match idx (BH a (A3 d) (A7 a (A3 b) z)) b with|none=>none|some q=>some (.inl ((BH (BH a (A3 d) (A7 a (A3 b) z)) (A3 b) (A7 a (A3 d) z)),e,(w64 (d+1)),(w64 (b-1)),()))
  |.inr _=>none
 |.inr _=>none
def Xl[Lk]{α:Type}(z:α)(c:α×α×Unit→Option U8):(List α×Int×Int×Int×Unit)→Option ((List α×Int×Int×Int×Unit)⊕(List α×Int×Int×Int×Unit)⊕Unit):=fun(a,d,e,b,_)=>
 match(ile e b)with
 |true=>match idx a b with|none=>none|some g=>match idx a d with|none=>none|some h=>match c ((A7 a (A3 b) z),(A7 a (A3 d) z),())with|none=>none|some (f,_)=>match(!(ilt f 0))with
  |true=>some (.inl (a,d,e,(w64 (b-1)),()))
  |false=>some (.inr (.inl (a,d,e,b,())))
 |false=>some (.inr (.inl (a,d,e,b,())))
def Xm[Lk]{α:Type}(z:α)(c:α×α×Unit→Option U8):(List α×Int×Int×Int×Unit)→Option ((List α×Int×Int×Int×Unit)⊕(List α×Int×Int×Int×Unit)⊕Unit):=fun(a,d,b,e,_)=>
 match(ile b e)with
 |true=>match idx a b with|none=>none|some g=>match idx a d with|none=>none|some h=>match c ((A7 a (A3 b) z),(A7 a (A3 d) z),())with|none=>none|some (f,_)=>match(ilt f 0)with
  |true=>some (.inl (a,d,(w64 (b+1)),e,()))
  |false=>some (.inr (.inl (a,d,b,e,())))
 |false=>some (.inr (.inl (a,d,b,e,())))
def NT[Lk]{α:Type}(z:α)(c:α×α×Unit→Option U8):(List α×Int×Int×Int×Unit)→Option ((List α×Int×Bool×Unit)):=fun(d,f,l,j,_)=>
 match idx d j with|none=>none|some q=>match idx d f with|none=>none|some s=>match idx d f with|none=>none|some t=>match idx (BH d (A3 f) (A7 d (A3 j) z)) j with|none=>none|some u=>match A9 (Xm z c) many ((BH (BH d (A3 f) (A7 d (A3 j) z)) (A3 j) (A7 d (A3 f) z)),f,(w64 (f+1)),(w64 (l-1)),())with|none=>none|some r=>match r with
 |.inl (m,n,o,p,_)=>match A9 (Xl z c) many (m,n,o,p,())with|none=>none|some r=>match r with
  |.inl (a,h,g,b,_)=>match(ilt b g)with
   |true=>match idx a h with|none=>none|some v=>match idx a b with|none=>none|some w=>match idx a b with|none=>none|some x=>match idx (BH a (A3 b) (A7 a (A3 h) z)) h with|none=>none|some y=>some ((BH (BH a (A3 b) (A7 a (A3 h) z)) (A3 h) (A7 a (A3 b) z)),b,true,())
   |false=>match idx a b with|none=>none|some A=>match idx a g with|none=>none|some B=>match idx a g with|none=>none|some C=>match idx (BH a (A3 g) (A7 a (A3 b) z)) b with|none=>none|some D=>match A9 (Xk z c) many ((BH (BH a (A3 g) (A7 a (A3 b) z)) (A3 b) (A7 a (A3 g) z)),h,(w64 (g+1)),(w64 (b-1)),())with|none=>none|some r=>match r with
   |.inl (e,k,i,_)=>match idx e k with|none=>none|some E=>match idx e i with|none=>none|some F=>match idx e i with|none=>none|some G=>match idx (BH e (A3 i) (A7 e (A3 k) z)) k with|none=>none|some H=>some ((BH (BH e (A3 i) (A7 e (A3 k) z)) (A3 k) (A7 e (A3 i) z)),i,false,())
   |.inr _=>none
  |.inr _=>none
 |.inr _=>none
def TX[Lk]{α:Type}(z:α)(c:α×α×Unit→Option U8)(v:(List α×Int×Int×Int×Unit)):Option ((List α×Int×Bool×Unit)):=Lk.f ((NT z c) v)
theorem AOK{α:Type}(z:α)(c:α×α×Unit→Option U8)(v:(List α×Int×Int×Int×Unit)):(TX z c) v=(NT z c) v:=A0 _
def R4[Lk]{α:Type}(z:α)(c:α×α×Unit→Option U8)(self:(List α×Int×Int×Int×Unit)→Option ((List α×Unit)))(f:List α)(a b p l:Int)(n o:Bool):Option ((List α×Int×Int×Int×Bool×Bool×Unit)⊕(List α×Unit)⊕Unit):=
 match(ilt 0 a)with
 |true=>match idx f (w64 (a-1))with|none=>none|some x=>match idx f p with|none=>none|some y=>match c ((A7 f (A3 (w64 (a-1))) z),(A7 f (A3 p) z),())with|none=>none|some (q,_)=>match(!(ilt q 0))with
  |true=>match(NU z c) (f,a,b,p,())with|none=>none|some (r,s,_)=>some (.inl (r,s,b,l,n,o,()))
  |false=>match(TX z c) (f,a,b,p,())with|none=>none|some (g,d,h,_)=>match quo? .i64 (w64 (b-a)) 8 with|none=>none|some i=>match(ilt (w64 (d-a)) (w64 (b-d)))with
  |true=>match self (g,a,d,l,())with|none=>none|some (t,_)=>some (.inl (t,(w64 (d+1)),b,l,(ile i (w64 (d-a))),h,()))
  |false=>match self (g,(w64 (d+1)),b,l,())with|none=>none|some (u,_)=>some (.inl (u,a,d,l,(ile i (w64 (b-d))),h,()))
 |false=>match(TX z c) (f,a,b,p,())with|none=>none|some (j,e,k,_)=>match quo? .i64 (w64 (b-a)) 8 with|none=>none|some m=>match(ilt (w64 (e-a)) (w64 (b-e)))with
 |true=>match self (j,a,e,l,())with|none=>none|some (v,_)=>some (.inl (v,(w64 (e+1)),b,l,(ile m (w64 (e-a))),k,()))
 |false=>match self (j,(w64 (e+1)),b,l,())with|none=>none|some (w,_)=>some (.inl (w,a,e,l,(ile m (w64 (b-e))),k,()))
def jq[Lk]{α:Type}(z:α)(c:α×α×Unit→Option U8)(self:(List α×Int×Int×Int×Unit)→Option ((List α×Unit)))(f:List α)(a b p h l:Int)(d e:Bool):Option ((List α×Int×Int×Int×Bool×Bool×Unit)⊕(List α×Unit)⊕Unit):=
 match d with
 |true=>match e with
  |true=>match(ieq h 1)with
   |true=>match(J2 z c) (f,a,b,())with|none=>none|some (g,i,_)=>match i with
    |true=>some (.inr (.inl (g,())))
    |false=>(R4 z c) self g a b p l d e
   |false=>(R4 z c) self f a b p l d e
  |false=>(R4 z c) self f a b p l d e
 |false=>(R4 z c) self f a b p l d e
def jo[Lk]{α:Type}(z:α)(c:α×α×Unit→Option U8)(self:(List α×Int×Int×Int×Unit)→Option ((List α×Unit)))(i:List α)(a b l:Int)(d e:Bool):Option ((List α×Int×Int×Int×Bool×Bool×Unit)⊕(List α×Unit)⊕Unit):=
 match(R1 z c) (i,a,b,())with|none=>none|some (f,g,h,_)=>match(ieq h 2)with
 |true=>match(AHx z c) (f,a,b,())with|none=>none|some (j,_)=>(jq z c) self j a b (w64 ((w64 (b-1))-(w64 (g-a)))) 1 l d e
 |false=>(jq z c) self f a b g h l d e
def Kt[Lk]{α:Type}(z:α)(c:α×α×Unit→Option U8)(self:(List α×Int×Int×Int×Unit)→Option ((List α×Unit))):(List α×Int×Int×Int×Bool×Bool×Unit)→Option ((List α×Int×Int×Int×Bool×Bool×Unit)⊕(List α×Unit)⊕Unit):=fun(d,a,b,e,f,g,_)=>
 match(ile (w64 (b-a)) 12)with
 |true=>match(AJT z c) (d,a,b,())with|none=>none|some (h,_)=>some (.inr (.inl (h,())))
 |false=>match(ieq e 0)with
 |true=>match(eg z c) (d,a,b,())with|none=>none|some (i,_)=>some (.inr (.inl (i,())))
 |false=>match(!f)with
 |true=>match(Ss z c) (d,a,b,())with|none=>none|some (j,_)=>(jo z c) self j a b (w64 (e-1)) f g
 |false=>(jo z c) self d a b e f g
def R5[Lk]{α:Type}(z:α)(c:α×α×Unit→Option U8)(self:(List α×Int×Int×Int×Unit)→Option ((List α×Unit))):(List α×Int×Int×Int×Unit)→Option ((List α×Unit)):=fun(a,b,d,e,_)=>
 match A9 ((Kt z c) self) many (a,b,d,e,true,true,())with|none=>none|some r=>match r with
 |.inl (f,_)=>some (f,())
 |.inr _=>none
def Jf[Lk]{α:Type}(z:α)(c:α×α×Unit→Option U8):Nat→(List α×Int×Int×Int×Unit)→Option ((List α×Unit))
 |0,_=>none
 |n+1,v=>(R5 z c) ((Jf z c) n) v
def AIQ[Lk]{α:Type}(z:α)(c:α×α×Unit→Option U8)(v:(List α×Int×Int×Int×Unit)):Option ((List α×Unit)):=Lk.f ((Jf z c) 100 v)
theorem ASq{α:Type}(z:α)(c:α×α×Unit→Option U8)(v:(List α×Int×Int×Int×Unit)):(AIQ z c) v=(Jf z c) 100 v:=A0 _
def NO[Lk]{α:Type}(z:α)(c:α×α×Unit→Option U8):(List α×Unit)→Option ((List α×Unit)):=fun(a,_)=>
 match bitsLen ((IntKind.wrap .u64 (A4 a)),())with|none=>none|some (b,_)=>match(AIQ z c) (a,0,(A4 a),b,())with|none=>none|some (d,_)=>some (d,())
def oX[Lk]{α:Type}(z:α)(c:α×α×Unit→Option U8)(v:(List α×Unit)):Option ((List α×Unit)):=Lk.f ((NO z c) v)
theorem AMO{α:Type}(z:α)(c:α×α×Unit→Option U8)(v:(List α×Unit)):(oX z c) v=(NO z c) v:=A0 _
abbrev Ak:Loc×Con:=(.tmp 3,.clo 321 [])
abbrev Al:Loc×Con:=(.tmp 0,.own 36 U6)
abbrev SM:A1:=[Al,AI,AJ,Ak]
abbrev Am:Loc×Con:=(.obj 0,.own 36 U6)
abbrev Ia:A1:=[Am]
abbrev Bx:List RS:=[]
abbrev An:Loc×Con:=(.tmp 0,.own' 0)
abbrev ATP:A1:=[Am,An,AI,AJ,Ak,AT,Ah]
abbrev ATO:BF:=[(.exit 2,[Am,An,AI,AJ,Ak,AT])]
abbrev ATQ:A1:=[Am,An,AI,AJ,Ak,AT]
abbrev kG:BF:=[(.exit 0,[Am])]
def AV9[Lk]:Uq→Option (V3):=SN (([]:List (Int)):U5) Cp
def AW0[Lk](v:Uq):Option (V3):=AJT (([]:List (Int)):U5) Cp v
theorem ATR v:AW0 v=AV9 v:=A0 _
abbrev Ao:Loc×Con:=(.tmp 4,.clo 321 [])
abbrev I7:A1:=[Al,AI,AJ,AX,Ao]
abbrev AMY:A1:=[Am,An,AJ,AX,Ao,Ad]
abbrev AMX:BF:=[(.exit 0,[Am]),(.ret,[Am])]
def ASJ[Lk]:Uu→Option (V3):=NP (([]:List (Int)):U5) Cp
def AUf[Lk](v:Uu):Option (V3):=W5 (([]:List (Int)):U5) Cp v
theorem AMZ v:AUf v=ASJ v:=A0 _
abbrev APL:A1:=[Am,An,Ak,AT,Ah,AR]
abbrev APJ:BF:=[(.exit 2,[Am])]
abbrev APM:A1:=[Am,An,Ak,AT,Ah,Ad,Ae]
abbrev APK:BF:=[(.exit 0,[Am,An,Ak,AT,Ah,Ad])]
def ATi[Lk]:Uq→Option (V3):=Nb (([]:List (Int)):U5) Cp
def AUu[Lk](v:Uq):Option (V3):=eg (([]:List (Int)):U5) Cp v
theorem APN v:AUu v=ATi v:=A0 _
abbrev Ap:Loc×Con:=(.cell 1 0,.dat (.int .u64))
abbrev Aq:Loc×Con:=(.tmp 10,.dat (.int .u64))
abbrev AKw:A1:=[Am,An,AI,AT,(.tmp 9,.box 1),Ap,Aq,Ae]
def AQk[Lk]:Uq→Option (V3):=KO (([]:List (Int)):U5) Cp
def AQl[Lk](v:Uq):Option (V3):=Ss (([]:List (Int)):U5) Cp v
theorem AKx v:AQl v=AQk v:=A0 _
abbrev Ar:Loc×Con:=(.tmp 3,.box 1)
abbrev AIe:A1:=[Al,AI,AJ,Ar,AQ,Ao]
abbrev As:Loc×Con:=(.obj 1,.box 1)
abbrev AId:A1:=[Am,As,AQ,AB,AI]
abbrev BO:List RS:=[.one,.one]
def AIf[Lk]:Uu→Option (Uu):=Hs (([]:List (Int)):U5) Cp
def AEB[Lk](v:Uu):Option (Uu):=JD (([]:List (Int)):U5) Cp v
theorem zk v:AEB v=AIf v:=A0 _
abbrev At:Loc×Con:=(.tmp 4,.box 1)
abbrev AIu:A1:=[Al,AI,AJ,AX,At,AQ,(.tmp 5,.clo 321 [])]
abbrev dv:A1:=[Am,As,AQ,AB]
def AIv[Lk]:(List U5×Int×Int×Int×Int×Unit)→Option (Uq):=Ht (([]:List (Int)):U5) Cp
def AEN[Lk](v:(List U5×Int×Int×Int×Int×Unit)):Option (Uq):=JF (([]:List (Int)):U5) Cp v
theorem z0 v:AEN v=AIv v:=A0 _
abbrev Au:Loc×Con:=(.tmp 2,.box 1)
abbrev AI1:A1:=[Al,AI,Au,AQ,Ak]
def AI2[Lk]:Uq→Option (Uq):=Hu (([]:List (Int)):U5) Cp
def AEQ[Lk](v:Uq):Option (Uq):=JG (([]:List (Int)):U5) Cp v
theorem z7 v:AEQ v=AI2 v:=A0 _
abbrev ANa:A1:=[Am,AB,AI]
def ANb[Lk]:Uq→Option (Uq):=J1 (([]:List (Int)):U5) Cp
def ANc[Lk](v:Uq):Option (Uq):=R1 (([]:List (Int)):U5) Cp v
theorem AIB v:ANc v=ANb v:=A0 _
abbrev ASO:A1:=[Am,An,AT,Ah]
def AVN[Lk]:Uq→Option (V3):=Rw (([]:List (Int)):U5) Cp
def AWn[Lk](v:Uq):Option (V3):=AHx (([]:List (Int)):U5) Cp v
theorem ASP v:AWn v=AVN v:=A0 _
abbrev zJ:A1:=[Am,AF]
abbrev qb:A1:=[Am,An,AI,AJ,Ak,Ah,Ad,AR]
abbrev qX:BF:=[(.exit 6,[Am,An,AI,AJ,Ak,Ah,Ad])]
abbrev qc:A1:=[Am,An,AI,AJ,Ak,Ah,Ad,Ae]
abbrev qY:BF:=[(.exit 4,[Am,An,AI,AJ,Ak,Ah,Ad])]
abbrev TR:A1:=[Am,An,AI,AJ,Ak,Ah,Ad]
abbrev qZ:BF:=[(.exit 2,[Am,An,AI,AJ,Ak,Ah,Ad])]
abbrev Av:Loc×Con:=(.tmp 8,.dat .bool)
abbrev qa:BF:=[(.ret,[Am,Av]),(.exit 0,[Am])]
def zK[Lk]:Uq→Option ((List U5×Bool×Unit)):=GG (([]:List (Int)):U5) Cp
def qe[Lk](v:Uq):Option ((List U5×Bool×Unit)):=J2 (([]:List (Int)):U5) Cp v
theorem qd v:qe v=zK v:=A0 _
abbrev AIV:A1:=[Am,AB]
abbrev OU:A1:=[Am,An,AI,Ao,Ae,AR]
abbrev zS:BF:=[(.exit 4,[Am,An,AI,Ao,Ae,AR])]
abbrev zU:BF:=[(.exit 2,[Am,An,AI,Ao,Ae,AR])]
abbrev zV:BF:=[(.exit 0,[Am,Ae])]
def AIW[Lk]:Uu→Option ((List U5×Int×Unit)):=Hr (([]:List (Int)):U5) Cp
def AD7[Lk](v:Uu):Option ((List U5×Int×Unit)):=NU (([]:List (Int)):U5) Cp v
theorem zW v:AD7 v=AIW v:=A0 _
abbrev Aw:Loc×Con:=(.tmp 1,.dat .bool)
abbrev ASx:A1:=[Am,AB,Aw]
abbrev L9:A1:=[Am,An,AI,Ao,AR,AS]
abbrev AN3:BF:=[(.exit 8,[Am,An,AI,Ao,AR,AS])]
abbrev AN4:BF:=[(.exit 6,[Am,An,AI,Ao,AR,AS])]
abbrev AN5:BF:=[(.exit 4,[Am,An,AI,AS])]
abbrev AN6:BF:=[(.exit 2,[Am,An,AI,Ao,AR,AS])]
abbrev AN7:BF:=[(.exit 0,[Am,An,AI,Ao,AR,AS])]
def ASy[Lk]:Uu→Option ((List U5×Int×Bool×Unit)):=NT (([]:List (Int)):U5) Cp
def AUo[Lk](v:Uu):Option ((List U5×Int×Bool×Unit)):=TX (([]:List (Int)):U5) Cp v
theorem AN8 v:AUo v=ASy v:=A0 _
abbrev Ax:Loc×Con:=(.tmp 10,.dat .bool)
abbrev Ay:Loc×Con:=(.tmp 11,.dat .bool)
abbrev ADv:A1:=[Am,An,AI,AJ,AX,Ao,Ax,Ay]
abbrev ADu:BF:=[(.ret,[Am])]
def ADt[Lk](self:Uu→Option (V3)):(List U5×Int×Int×Int×Bool×Bool×Unit)→Option ((List U5×Int×Int×Int×Bool×Bool×Unit)⊕V3⊕Unit):=Kt (([]:List (Int)):U5) Cp self
def AVm[Lk](self:Uu→Option (V3)):Uu→Option (V3):=R5 (([]:List (Int)):U5) Cp self
def Xa[Lk]:Nat→Uu→Option (V3):=Jf (([]:List (Int)):U5) Cp
def ASm[Lk](v:Uu):Option (V3):=AIQ (([]:List (Int)):U5) Cp v
theorem ASl v:ASm v=Xa 100 v:=A0 _
abbrev ASE:A1:=[Al,(.tmp 1,.clo 321 [])]
def ASF[Lk]:V3→Option (V3):=NO (([]:List (Int)):U5) Cp
def ADE[Lk](v:V3):Option (V3):=oX (([]:List (Int)):U5) Cp v
theorem AML v:ADE v=ASF v:=A0 _
end
end Go.Pev
end
section
namespace Go.Pev
noncomputable section
abbrev Az:Loc×Con:=(.cell 0 1,.dat Ue)
abbrev KE:A1:=[AE,(.cap 1 0,.box 2),AO,Az,(.tmp 1,.clo 172 [(0,0)])]
abbrev AaS:Loc×Con:=(.obj 0,.box 2)
abbrev SX:A1:=[AaS,AO,Az,AB]
abbrev QP:A1:=[AaS,AO,Az,AE,(.tmp 1,.clo 172 [(0,0)]),AU,AT]
abbrev QO:BF:=[(.ret,[AaS,AO,Az,AW]),(.exit 0,[AaS,AO,Az])]
def DM[Lk]:(Int×List U5×List Int×Int×Int×Unit)→Option ((Int×List U5×List Int×Int×Int×Unit)⊕(Int×List U5×Int×Unit)⊕(Int×List U5×Unit)⊕Unit):=fun(a,c,d,e,b,_)=>
 match(ilt b e)with
 |true=>match idx d b with|none=>none|some f=>match(ilt f 0)with
  |true=>some (.inr (.inl (a,c,b,())))
  |false=>match(ile a f)with
  |true=>some (.inr (.inl (a,c,b,())))
  |false=>some (.inl (a,c,d,e,(w64 (b+1)),()))
 |false=>some (.inr (.inr (.inl (a,c,()))))
def GP[Lk]:(List Int×Int×List U5×Unit)→Option ((Int×List U5×Int×Unit)):=fun(a,b,c,_)=>
 match A9 DM many (b,c,a,(A4 a),0,())with|none=>none|some r=>match r with
 |.inl (d,e,f,_)=>some (d,e,f,())
 |.inr r=>match r with
 |.inl (g,h,_)=>some (g,h,(-1:Int),())
 |.inr _=>none
def Ih[Lk]:=fun v=>Lk.f (GP v)
theorem JN v:Ih v=GP v:=A0 _
abbrev AaT:Loc×Con:=(.tmp 0,.dat Vb)
abbrev AWG:A1:=[AaT]
abbrev AaU:Loc×Con:=(.tmp 3,.own 3 U0)
abbrev AT6:A1:=[AaU,(.tmp 6,.dat Vb),AU,AT]
abbrev AE6:BF:=[(.exit 0,[AaU])]
def Qv[Lk]:(List Int×List U3×Int×Int×Unit)→Option ((List Int×List U3×Int×Int×Unit)⊕Ua⊕Unit):=fun(b,d,e,c,_)=>
 match(ilt c e)with
 |true=>match idx d c with|none=>none|some a=>match(fits ((A4 b)+(A4 ([a.1,a.2.1]:List (Int)))))with
  |true=>some (.inl ((BT b ([a.1,a.2.1]:List (Int))),d,e,(w64 (c+1)),()))
  |false=>none
 |false=>some (.inr (.inl (b,())))
def AAf[Lk]:Ux→Option (Ua):=fun(a,_)=>
 match A9 Qv many (([]:List (Int)),a,(A4 a),0,())with|none=>none|some r=>match r with
 |.inl (b,_)=>some (b,())
 |.inr _=>none
def ends[Lk]:=fun v=>Lk.f (AAf v)
theorem AE7 v:ends v=AAf v:=A0 _
abbrev AV4:A1:=[AX,(.tmp 6,.dat U6),AU,AT]
abbrev AV3:BF:=[(.ret,[AJ]),(.exit 0,[AX])]
def Xp[Lk]:(Int×List Int×Int×Int×Unit)→Option ((Int×List Int×Int×Int×Unit)⊕U8⊕U8⊕Unit):=fun(a,c,d,b,_)=>
 match(ilt b d)with
 |true=>match idx c b with|none=>none|some e=>match(!(ieq e a))with
  |true=>some (.inr (.inl (e,())))
  |false=>some (.inl (a,c,d,(w64 (b+1)),()))
 |false=>some (.inr (.inr (.inl (a,()))))
def AOV[Lk]:Ua→Option (U8):=fun(a,_)=>
 match A9 Xp many (0,a,(A4 a),0,())with|none=>none|some r=>match r with
 |.inl (b,_)=>some (b,())
 |.inr r=>match r with
 |.inl (c,_)=>some (c,())
 |.inr _=>none
def orI[Lk]:=fun v=>Lk.f (AOV v)
theorem AOU v:orI v=AOV v:=A0 _
def P9[Lk]:U8→Option (Uc):=fun(a,_)=>
 match(ile 1 a)with
 |true=>some ((ile a 64),())
 |false=>some (false,())
def Xy[Lk]:=fun v=>Lk.f (P9 v)
theorem R_ v:Xy v=P9 v:=A0 _
def AOe[Lk]:U8→Option (U8):=fun(a,_)=>
 match Xy (a,())with|none=>none|some (b,_)=>match(!b)with
 |true=>some (0,())
 |false=>match bitsLen ((IntKind.wrap .u64 (w64 (a-1))),())with|none=>none|some (c,_)=>some (c,())
def j5[Lk]:=fun v=>Lk.f (AOe v)
theorem ATB v:j5 v=AOe v:=A0 _
abbrev X6:A1:=[(.tmp 0,.dat U2),(.tmp 1,.dat U2)]
def Og[Lk]:(U1×U1×Unit)→Option (U8):=fun(a,b,_)=>
 match Eu (a.1,b.1,())with|none=>none|some (c,_)=>match Eu (a.2.1,b.2.1,())with|none=>none|some (d,_)=>match orI (([c,d]:List (Int)),())with|none=>none|some (e,_)=>some (e,())
def IW[Lk]:=fun v=>Lk.f (Og v)
theorem Tf v:IW v=Og v:=A0 _
abbrev AaV:Loc×Con:=(.tmp 0,.dat Um)
abbrev MG:A1:=[AaV,AI]
abbrev AaW:Loc×Con:=(.tmp 0,.own 88 U4)
abbrev Xx:A1:=[AaW]
abbrev AaX:Loc×Con:=(.tmp 5,.own 88 U4)
abbrev AI9:A1:=[AI,AaX,(.tmp 9,.dat Uy),Ad,Ae]
abbrev eM:BF:=[(.exit 0,[AaX])]
def Ec[Lk]:(Int×List U3×List U1×Int×Int×Unit)→Option ((Int×List U3×List U1×Int×Int×Unit)⊕Ux⊕Unit):=fun(d,b,e,f,c,_)=>
 match(ilt c f)with
 |true=>match idx e c with|none=>none|some a=>match a.2.2.2.1 with
  |true=>match(ile d a.2.2.1)with
   |true=>match(fits ((A4 b)+(A4 ([(a.1,(a.2.1,()))]:List U3))))with
    |true=>some (.inl (d,(BT b ([(a.1,(a.2.1,()))]:List U3)),e,f,(w64 (c+1)),()))
    |false=>none
   |false=>some (.inl (d,b,e,f,(w64 (c+1)),()))
  |false=>some (.inl (d,b,e,f,(w64 (c+1)),()))
 |false=>some (.inr (.inl (b,())))
def P8[Lk]:(Uf×Int×Unit)→Option (Ux):=fun(a,b,_)=>
 match A9 Ec many (b,([]:List U3),a.2.1,(A4 a.2.1),0,())with|none=>none|some r=>match r with
 |.inl (c,_)=>some (c,())
 |.inr _=>none
def R9[Lk]:=fun v=>Lk.f (P8 v)
theorem R8 v:R9 v=P8 v:=A0 _
abbrev AaY:Loc×Con:=(.tmp 1,.dat Vb)
abbrev G7:A1:=[AB,AaY]
abbrev AaZ:Loc×Con:=(.tmp 7,.dat .bool)
abbrev Aaa:Loc×Con:=(.tmp 5,.own 3 U0)
abbrev lN:A1:=[AB,AaY,Aaa,AaZ,AT]
abbrev lK:BF:=[(.exit 4,[AB,AaY,Aaa,AaZ])]
def Fh[Lk]:(Int×List U3×List Int×Bool×Int×Unit)→Option ((Int×List U3×List Int×Bool×Int×Unit)⊕(Int×List U3×List Int×Bool×Unit)⊕Unit):=fun(e,c,a,g,f,_)=>
 match(ilt f (A4 c))with
 |true=>match idx c f with|none=>none|some b=>match idx c f with|none=>none|some d=>match(ilt b.1 0)with
  |true=>some (.inl (e,c,a,g,(w64 (f+1)),()))
  |false=>match(ilt d.2.1 0)with
  |true=>some (.inl (e,c,a,g,(w64 (f+1)),()))
  |false=>match(ile e b.1)with
  |true=>some (.inl (e,c,a,g,(w64 (f+1)),()))
  |false=>match(ile e d.2.1)with
  |true=>some (.inl (e,c,a,g,(w64 (f+1)),()))
  |false=>match idx a b.1 with|none=>none|some h=>match idx a d.2.1 with|none=>none|some i=>match(ieq (A7 a (A3 b.1) 0) (A7 a (A3 d.2.1) 0))with
  |true=>some (.inl (e,c,a,g,(w64 (f+1)),()))
  |false=>match idx a b.1 with|none=>none|some j=>match idx a d.2.1 with|none=>none|some k=>match idx a b.1 with|none=>none|some l=>match idx (BH a (A3 b.1) (Cb (A7 a (A3 b.1) 0) (A7 a (A3 d.2.1) 0))) d.2.1 with|none=>none|some m=>some (.inl (e,c,(BH (BH a (A3 b.1) (Cb (A7 a (A3 b.1) 0) (A7 a (A3 d.2.1) 0))) (A3 d.2.1) (Cb (A7 a (A3 b.1) 0) (A7 a (A3 d.2.1) 0))),true,(w64 (f+1)),()))
 |false=>some (.inr (.inl (e,c,a,g,())))
abbrev lO:A1:=[AB,AaY,Aaa,AaZ]
abbrev lL:BF:=[(.exit 2,[Aaa])]
def Hf[Lk]:(Int×List U3×List Int×Bool×Unit)→Option ((Int×List U3×List Int×Bool×Unit)⊕Ua⊕Unit):=fun(b,c,a,d,_)=>
 match d with
 |true=>match A9 Fh many (b,c,a,false,0,())with|none=>none|some r=>match r with
  |.inl (e,f,g,h,_)=>some (.inl (e,f,g,h,()))
  |.inr _=>none
 |false=>some (.inr (.inl (a,())))
abbrev Aab:Loc×Con:=(.tmp 6,.di)
abbrev lP:A1:=[AB,AaY,Aaa,Aab]
abbrev lM:BF:=[(.exit 0,[AB,AaY,Aaa])]
def Fi[Lk]:(Int×List U3×List Int×Int×Unit)→Option ((Int×List U3×List Int×Int×Unit)⊕(Int×List U3×List Int×Unit)⊕Unit):=fun(b,d,c,a,_)=>
 match(ilt a b)with
 |true=>match(fits ((A4 c)+(A4 ([a]:List (Int)))))with
  |true=>some (.inl (b,d,(BT c ([a]:List (Int))),(w64 (a+1)),()))
  |false=>none
 |false=>some (.inr (.inl (b,d,c,())))
def Mx[Lk]:(Int×List U3×Unit)→Option (Ua):=fun(a,b,_)=>
 match A9 Fi many (a,b,([]:List (Int)),0,())with|none=>none|some r=>match r with
 |.inl (c,d,e,_)=>match A9 Hf many (c,d,e,true,())with|none=>none|some r=>match r with
  |.inl (f,_)=>some (f,())
  |.inr _=>none
 |.inr _=>none
def Nh[Lk]:=fun v=>Lk.f (Mx v)
theorem Q5 v:Nh v=Mx v:=A0 _
abbrev ALw:A1:=[AX,AW]
def ALv[Lk]:U3→Option (U3⊕U8⊕Unit):=fun(a,b,_)=>
 match(ilt 0 b)with
 |true=>match quo? .i64 b 2 with|none=>none|some c=>some (.inl ((w64 (a+1)),c,()))
 |false=>some (.inr (.inl (a,())))
def ACw[Lk]:U8→Option (U8):=fun(a,_)=>
 match(ilt a 1)with
 |true=>some (0,())
 |false=>match(ilt 64 a)with
 |true=>some (0,())
 |false=>match A9 ALv many (0,(w64 (a-1)),())with|none=>none|some r=>match r with
 |.inl (b,_)=>some (b,())
 |.inr _=>none
def PX[Lk]:=fun v=>Lk.f (ACw v)
theorem ALx v:PX v=ACw v:=A0 _
abbrev Jy:A1:=[AaV]
abbrev Aac:Loc×Con:=(.tmp 3,.own 88 U4)
abbrev Aad:Loc×Con:=(.cell 0 1,.dat Uy)
abbrev Aae:Loc×Con:=(.tmp 1,.box 2)
abbrev yJ:A1:=[Aae,AO,Aad,Aac,Aa,AU,AT]
abbrev yH:BF:=[(.exit 2,[Aae,AO,Aad,Aac,AU])]
def F7[Lk]:(Int×List U1×List U3×List Int×Int×Int×Unit)→Option ((Int×List U1×List U3×List Int×Int×Int×Unit)⊕(Int×List U1×List U3×Int×Unit)⊕Unit):=fun(b,d,e,c,f,a,_)=>
 match(ilt a b)with
 |true=>match idx c a with|none=>none|some g=>match(ieq (A7 c (A3 a) 0) a)with
  |true=>some (.inl (b,d,e,c,(w64 (f+1)),(w64 (a+1)),()))
  |false=>some (.inl (b,d,e,c,f,(w64 (a+1)),()))
 |false=>some (.inr (.inl (b,d,e,f,())))
abbrev yK:A1:=[Aae,AO,Aad,Aac,AW]
abbrev yI:BF:=[(.ret,[AK]),(.exit 0,[Aae,AO,Aad,Aac])]
def E3[Lk]:(Int×List U1×List U3×Int×Unit)→Option ((Int×List U1×List U3×Int×Unit)⊕Uc⊕(Int×List U1×List U3×Unit)⊕Unit):=fun(e,b,d,c,_)=>
 match(ilt c (A4 b))with
 |true=>match idx b c with|none=>none|some a=>match(ilt a.1 0)with
  |true=>some (.inr (.inl (false,())))
  |false=>match(ile a.2.1 a.1)with
  |true=>some (.inr (.inl (false,())))
  |false=>match(ile e a.2.1)with
  |true=>some (.inr (.inl (false,())))
  |false=>match(ilt a.2.2.1 0)with
  |true=>some (.inr (.inl (false,())))
  |false=>match PX (e,())with|none=>none|some (f,_)=>match(ilt f a.2.2.1)with
  |true=>some (.inr (.inl (false,())))
  |false=>match(ilt 0 c)with
  |true=>match idx b (w64 (c-1))with|none=>none|some g=>match(ilt a.1 g.1)with
   |true=>some (.inr (.inl (false,())))
   |false=>match idx b (w64 (c-1))with|none=>none|some h=>match(ieq h.1 a.1)with
   |true=>match idx b (w64 (c-1))with|none=>none|some i=>match(ile a.2.1 i.2.1)with
    |true=>some (.inr (.inl (false,())))
    |false=>match a.2.2.2.1 with
    |true=>match(fits ((A4 d)+(A4 ([(a.1,(a.2.1,()))]:List U3))))with
     |true=>some (.inl (e,b,(BT d ([(a.1,(a.2.1,()))]:List U3)),(w64 (c+1)),()))
     |false=>none
    |false=>some (.inl (e,b,d,(w64 (c+1)),()))
   |false=>match a.2.2.2.1 with
   |true=>match(fits ((A4 d)+(A4 ([(a.1,(a.2.1,()))]:List U3))))with
    |true=>some (.inl (e,b,(BT d ([(a.1,(a.2.1,()))]:List U3)),(w64 (c+1)),()))
    |false=>none
   |false=>some (.inl (e,b,d,(w64 (c+1)),()))
  |false=>match a.2.2.2.1 with
  |true=>match(fits ((A4 d)+(A4 ([(a.1,(a.2.1,()))]:List U3))))with
   |true=>some (.inl (e,b,(BT d ([(a.1,(a.2.1,()))]:List U3)),(w64 (c+1)),()))
   |false=>none
  |false=>some (.inl (e,b,d,(w64 (c+1)),()))
 |false=>some (.inr (.inr (.inl (e,b,d,()))))
def F9[Lk]:(Uf×Unit)→Option (Uc):=fun(a,_)=>
 match(ilt a.1 1)with
 |true=>some (false,())
 |false=>match(ilt 64 a.1)with
 |true=>some (false,())
 |false=>match(ilt 400 (A4 a.2.1))with
 |true=>some (false,())
 |false=>match A9 E3 many (a.1,a.2.1,([]:List U3),0,())with|none=>none|some r=>match r with
 |.inl (d,_)=>some (d,())
 |.inr r=>match r with
 |.inl (b,e,c,_)=>match Nh (b,c,())with|none=>none|some (f,_)=>match A9 F7 many (b,e,c,f,0,0,())with|none=>none|some r=>match r with
  |.inl (g,j,h,i,_)=>some ((ieq i (w64 (g-(A4 h)))),())
  |.inr _=>none
 |.inr _=>none
def HW[Lk]:=fun v=>Lk.f (F9 v)
theorem F8 v:HW v=F9 v:=A0 _
def AAS[Lk]:U3→Option (Uc):=fun(a,b,_)=>
 match(ile 1 a)with
 |true=>match(ile a 64)with
  |true=>match(ile 0 b)with
   |true=>some ((ilt b a),())
   |false=>some (false,())
  |false=>some (false,())
 |false=>some (false,())
def kJ[Lk]:=fun v=>Lk.f (AAS v)
theorem AEg v:kJ v=AAS v:=A0 _
def Rg[Lk]:U3→Option ((Int×Int×Bool×Bool×Unit)):=fun(a,b,_)=>
 match kJ (a,b,())with|none=>none|some (e,_)=>match e with
 |true=>some (b,0,false,true,())
 |false=>match(ilt a 1)with
 |true=>some (0,0,false,false,())
 |false=>match(ilt 64 a)with
 |true=>some (0,0,false,false,())
 |false=>match(ilt b a)with
 |true=>some (0,0,false,false,())
 |false=>match(ile (w64 (a+(w64 (a*a)))) b)with
 |true=>some (0,0,false,false,())
 |false=>match quo? .i64 (w64 (b-a)) a with|none=>none|some c=>match rem? (w64 (b-a)) a with|none=>none|some d=>match(ieq c d)with
 |true=>some (0,0,false,false,())
 |false=>some (c,d,true,true,())
def PY[Lk]:=fun v=>Lk.f (Rg v)
theorem Ws v:PY v=Rg v:=A0 _
def lh[Lk]:Ug→Option (U8):=fun(a,b,c,_)=>
 match kJ (a,b,())with|none=>none|some (d,_)=>match(!d)with
 |true=>some ((-1:Int),())
 |false=>match kJ (a,c,())with|none=>none|some (e,_)=>match(!e)with
 |true=>some ((-1:Int),())
 |false=>match(ieq b c)with
 |true=>some ((-1:Int),())
 |false=>some ((w64 ((w64 (a+(w64 (b*a))))+c)),())
def fc[Lk]:=fun v=>Lk.f (lh v)
theorem uE v:fc v=lh v:=A0 _
abbrev AI7:A1:=[AB,AP,AO,AM,AN,AQ,AL,AG]
def J6[Lk]:(Int×Int×Int×List U5×Int×Unit)→Option ((Int×Int×Int×List U5×Int×Unit)⊕(Int×Int×List U5×Unit)⊕Unit):=fun(c,d,e,b,a,_)=>
 match(ilt a c)with
 |true=>match(fits ((A4 b)+(A4 ([([a]:List (Int))]:List U5))))with
  |true=>some (.inl (c,d,e,(BT b ([([a]:List (Int))]:List U5)),(w64 (a+1)),()))
  |false=>none
 |false=>some (.inr (.inl (d,e,b,())))
def Xv[Lk]:U8→Option ((Int×List U5×Int×Unit)):=fun(a,_)=>
 match(ilt a 1)with
 |true=>some (0,([]:List U5),1,())
 |false=>match(ilt 64 a)with
 |true=>some (0,([]:List U5),1,())
 |false=>match A9 J6 many (a,0,a,([]:List U5),0,())with|none=>none|some r=>match r with
 |.inl (d,b,c,_)=>some (b,c,0,())
 |.inr _=>none
def Xw[Lk]:=fun v=>Lk.f (Xv v)
theorem eL v:Xw v=Xv v:=A0 _
def OM[Lk]:Ug→Option (Uc):=fun(d,e,a,_)=>
 match PY (d,e,())with|none=>none|some (f,c,b,g,_)=>match g with
 |true=>match(!b)with
  |true=>match(ieq f a)with
   |true=>some (true,())
   |false=>match b with
   |true=>some ((ieq c a),())
   |false=>some (false,())
  |false=>match b with
  |true=>some ((ieq c a),())
  |false=>some (false,())
 |false=>some (false,())
def Pb[Lk]:=fun v=>Lk.f (OM v)
theorem TC v:Pb v=OM v:=A0 _
abbrev Aaf:Loc×Con:=(.tmp 1,.own 3 U0)
abbrev Aag:Loc×Con:=(.tmp 15,.di)
abbrev Aah:Loc×Con:=(.tmp 78,.di)
abbrev Aai:Loc×Con:=(.tmp 77,.di)
abbrev AG7:A1:=[AB,Aaf,Aab,(.tmp 14,.own 3 U0),Aag,(.tmp 27,.dat .bool),(.tmp 28,.dat .bool),(.tmp 64,.dat .bool),(.tmp 67,.dat .bool),(.tmp 70,.di),(.tmp 71,.di),(.tmp 72,.dat .bool),(.tmp 75,.di),(.tmp 76,.di),Aai,Aah,(.tmp 79,.di),(.tmp 80,.dat .bool),(.tmp 83,.di),(.tmp 84,.own' 0),(.tmp 85,.di),(.tmp 86,.own' 0),(.tmp 87,.di),(.tmp 88,.di),(.tmp 89,.di),(.tmp 90,.own' 0),(.tmp 91,.di),(.tmp 92,.di),(.tmp 94,.di),(.tmp 95,.di),(.tmp 96,.dat .bool)]
abbrev AG4:BF:=[(.exit 4,[AB,Aab,(.tmp 14,.own 3 U0),(.tmp 27,.dat .bool),(.tmp 28,.dat .bool),(.tmp 64,.dat .bool),(.tmp 67,.dat .bool),(.tmp 70,.di),(.tmp 71,.di),(.tmp 72,.dat .bool),(.tmp 75,.di),(.tmp 76,.di),Aai,Aah,(.tmp 79,.di),(.tmp 80,.dat .bool),(.tmp 83,.di),(.tmp 84,.own 3 U0),(.tmp 85,.di),(.tmp 86,.own' 1),(.tmp 87,.di),(.tmp 88,.di),(.tmp 89,.di),(.tmp 90,.own' 1),(.tmp 91,.di),(.tmp 92,.di),(.tmp 94,.di),(.tmp 95,.di),(.tmp 96,.dat .bool)])]
def Js[Lk]:Vj→Option (Vj⊕(Int×Int×List Int×Bool×Bool×Bool×Bool×Int×Int×Bool×Int×Int×Int×Int×Int×Bool×Int×List Int×Int×Int×Int×Int×Int×Int×Int×Int×Bool×Unit)⊕Unit):=fun(f,a,b,c,d,g,h,i,j,k,l,m,n,o,p,q,r,s,t,u,v,w,x,y,z,A,B,C,_)=>
 match(ilt d (A4 a))with
 |true=>match rem? (w64 (b+d)) (A4 a)with|none=>none|some e=>match idx a e with|none=>none|some D=>match(fits ((A4 c)+(A4 ([(A7 a (A3 e) 0)]:List (Int)))))with
  |true=>some (.inl (f,a,b,(BT c ([(A7 a (A3 e) 0)]:List (Int))),(w64 (d+1)),g,h,i,j,k,l,m,n,o,p,q,r,s,t,u,v,w,x,y,z,A,B,C,()))
  |false=>none
 |false=>some (.inr (.inl (f,b,c,g,h,i,j,k,l,m,n,o,p,q,r,s,t,a,u,v,w,x,y,z,A,B,C,())))
abbrev AG8:A1:=[AB,Aaf,(.tmp 5,.dat .bool),Aab]
abbrev AG5:BF:=[(.exit 2,[AB,Aaf,(.tmp 5,.dat .bool)])]
def EX[Lk]:(Int×List Int×Bool×Int×Unit)→Option ((Int×List Int×Bool×Int×Unit)⊕(Int×List Int×Bool×Unit)⊕Unit):=fun(c,a,d,b,_)=>
 match(ilt b (A4 a))with
 |true=>match(!d)with
  |true=>match idx a b with|none=>none|some q=>match rem? (w64 (b+1)) (A4 a)with|none=>none|some f=>match idx a f with|none=>none|some s=>match rem? (w64 (b+2)) (A4 a)with|none=>none|some g=>match idx a g with|none=>none|some t=>match PY (c,(A7 a (A3 b) 0),())with|none=>none|some (h,e,k,l,_)=>match(ile 4 (A4 a))with
   |true=>match l with
    |true=>match k with
     |true=>match(ieq (A7 a (A3 f) 0) e)with
      |true=>match fc (c,e,h,())with|none=>none|some (j,_)=>match(ieq (A7 a (A3 g) 0) j)with
       |true=>match rem? (w64 ((w64 (b+(A4 a)))-1)) (A4 a)with|none=>none|some i=>match idx a i with|none=>none|some u=>match Pb (c,(A7 a (A3 i) 0),h,())with|none=>none|some (m,_)=>match m with
        |true=>match A9 Js many (c,a,b,([]:List (Int)),3,d,(!d),l,k,(A7 a (A3 f) 0),e,(ieq (A7 a (A3 f) 0) e),(A7 a (A3 g) 0),c,e,h,j,(ieq (A7 a (A3 g) 0) j),c,b,(A4 a),(w64 (b+(A4 a))),(w64 ((w64 (b+(A4 a)))-1)),(A4 a),i,(A7 a (A3 i) 0),h,m,())with|none=>none|some r=>match r with
         |.inl (n,o,p,v,w,x,y,z,A,B,C,D,E,F,G,H,I,J,K,L,M,N,O,P,Q,R,S,_)=>some (.inl (n,p,true,(w64 (o+1)),()))
         |.inr _=>none
        |false=>some (.inl (c,a,d,(w64 (b+1)),()))
       |false=>some (.inl (c,a,d,(w64 (b+1)),()))
      |false=>some (.inl (c,a,d,(w64 (b+1)),()))
     |false=>some (.inl (c,a,d,(w64 (b+1)),()))
    |false=>some (.inl (c,a,d,(w64 (b+1)),()))
   |false=>some (.inl (c,a,d,(w64 (b+1)),()))
  |false=>some (.inr (.inl (c,a,d,())))
 |false=>some (.inr (.inl (c,a,d,())))
abbrev AG9:A1:=[AB,Aaf]
abbrev AG6:BF:=[(.ret,[AH]),(.exit 0,[AB,Aaf])]
def NK[Lk]:(Int×List Int×Unit)→Option ((Int×List Int×Unit)⊕Uc⊕(Int×List Int×Unit)⊕Unit):=fun(b,a,_)=>
 match(ilt 1 (A4 a))with
 |true=>match A9 EX many (b,a,false,0,())with|none=>none|some r=>match r with
  |.inl (c,d,e,_)=>match(!e)with
   |true=>some (.inr (.inl (false,())))
   |false=>some (.inl (c,d,()))
  |.inr _=>none
 |false=>some (.inr (.inr (.inl (b,a,()))))
def Wn[Lk]:(Int×List Int×Unit)→Option (Uc):=fun(c,b,_)=>
 match(fits ((A4 ([]:List (Int)))+(A4 b)))with
 |true=>match A9 NK many (c,(BT ([]:List (Int)) b),())with|none=>none|some r=>match r with
  |.inl (d,_)=>some (d,())
  |.inr r=>match r with
  |.inl (e,a,_)=>match(ieq (A4 a) 1)with
   |true=>match idx a 0 with|none=>none|some g=>match kJ (e,(A7 a 0 0),())with|none=>none|some (f,_)=>some (f,())
   |false=>some (false,())
  |.inr _=>none
 |false=>none
def iW[Lk]:=fun v=>Lk.f (Wn v)
theorem cS v:iW v=Wn v:=A0 _
abbrev yp:A1:=[AE,AI,AG]
def IN[Lk]:Ub→Option (Ub⊕U8⊕(Unit)⊕Unit):=fun(b,c,a,_)=>
 match(ilt a (A4 b))with
 |true=>match idx b a with|none=>none|some d=>match(ieq d c)with
  |true=>some (.inr (.inl (a,())))
  |false=>some (.inl (b,c,(w64 (a+1)),()))
 |false=>some (.inr (.inr (.inl ())))
def R0[Lk]:Uh→Option (U8):=fun(a,b,_)=>
 match A9 IN many (a,b,0,())with|none=>none|some r=>match r with
 |.inl (c,_)=>some (c,())
 |.inr r=>match r with
 |.inl _=>some ((-1:Int),())
 |.inr _=>none
def Kr[Lk]:=fun v=>Lk.f (R0 v)
theorem XX v:Kr v=R0 v:=A0 _
abbrev yP:A1:=[AE,AX]
abbrev OO:BF:=[(.ret,[AK]),(.exit 0,[])]
def F_[Lk]:Uh→Option (Uh⊕Uc⊕(Unit)⊕Unit):=fun(a,b,_)=>
 match(ilt b (A4 a))with
 |true=>match idx a b with|none=>none|some c=>match(ilt c 0)with
  |true=>some (.inr (.inl (false,())))
  |false=>match idx a b with|none=>none|some d=>match(ilt 10000 d)with
  |true=>some (.inr (.inl (false,())))
  |false=>match Cv a 0 b with|none=>none|some e=>match idx a b with|none=>none|some f=>match Kr (e,f,())with|none=>none|some (g,_)=>match(ile 0 g)with
  |true=>some (.inr (.inl (false,())))
  |false=>some (.inl (a,(w64 (b+1)),()))
 |false=>some (.inr (.inr (.inl ())))
def Rv[Lk]:Ua→Option (Uc):=fun(a,_)=>
 match(ilt 1000 (A4 a))with
 |true=>some (false,())
 |false=>match A9 F_ many (a,0,())with|none=>none|some r=>match r with
 |.inl (b,_)=>some (b,())
 |.inr r=>match r with
 |.inl _=>some (true,())
 |.inr _=>none
def I'[Lk]:=fun v=>Lk.f (Rv v)
theorem XP v:I' v=Rv v:=A0 _
abbrev Qk:A1:=[AY,Aw]
def Ym[Lk]:Uh→Option ((List Int×Bool×Unit)):=fun(a,e,_)=>
 match Kr (a,e,())with|none=>none|some (b,_)=>match I' (a,())with|none=>none|some (f,_)=>match(!f)with
 |true=>some (([]:List (Int)),false,())
 |false=>match(ilt b 0)with
 |true=>some (([]:List (Int)),false,())
 |false=>match Cv a b (A4 a)with|none=>none|some c=>match(fits ((A4 ([]:List (Int)))+(A4 c)))with
 |true=>match Cv a 0 b with|none=>none|some d=>match(fits ((A4 (BT ([]:List (Int)) c))+(A4 d)))with
  |true=>some ((BT (BT ([]:List (Int)) c) d),true,())
  |false=>none
 |false=>none
def Sb[Lk]:=fun v=>Lk.f (Ym v)
theorem ep v:Sb v=Ym v:=A0 _
abbrev yl:BF:=[(.exit 0,[AE,AX])]
def IL[Lk]:Ub→Option (Ub⊕Uh⊕Unit):=fun(a,c,b,_)=>
 match(ilt b (A4 a))with
 |true=>match idx a b with|none=>none|some d=>some (.inl (a,(Cb c d),(w64 (b+1)),()))
 |false=>some (.inr (.inl (a,c,())))
def Ry[Lk]:Ua→Option (Ua):=fun(a,_)=>
 match I' (a,())with|none=>none|some (b,_)=>match(!b)with
 |true=>some (([]:List (Int)),())
 |false=>match(ieq (A4 a) 0)with
 |true=>some (([]:List (Int)),())
 |false=>match idx a 0 with|none=>none|some c=>match A9 IL many (a,c,0,())with|none=>none|some r=>match r with
 |.inl (d,e,_)=>match Sb (d,e,())with|none=>none|some (f,g,_)=>some (f,())
 |.inr _=>none
def Ps[Lk]:=fun v=>Lk.f (Ry v)
theorem XU v:Ps v=Ry v:=A0 _
abbrev AJG:A1:=[AZ,(.tmp 1,.dat Ue)]
abbrev AAG:A1:=[AZ,(.tmp 1,.dat Ue),AG]
def GM[Lk]:(List U5×List U5×Int×Unit)→Option ((List U5×List U5×Int×Unit)⊕Uc⊕(Unit)⊕Unit):=fun(b,c,a,_)=>
 match(ilt a (A4 b))with
 |true=>match idx b a with|none=>none|some d=>match idx c a with|none=>none|some e=>match Ot (d,e,())with|none=>none|some (f,_)=>match(!f)with
  |true=>some (.inr (.inl (false,())))
  |false=>some (.inl (b,c,(w64 (a+1)),()))
 |false=>some (.inr (.inr (.inl ())))
def SB[Lk]:(List U5×List U5×Unit)→Option (Uc):=fun(a,b,_)=>
 match(!(ieq (A4 a) (A4 b)))with
 |true=>some (false,())
 |false=>match A9 GM many (a,b,0,())with|none=>none|some r=>match r with
 |.inl (c,_)=>some (c,())
 |.inr r=>match r with
 |.inl _=>some (true,())
 |.inr _=>none
def QC[Lk]:=fun v=>Lk.f (SB v)
theorem X1 v:QC v=SB v:=A0 _
abbrev dN:A1:=[Aj]
abbrev Aaj:Loc×Con:=(.tmp 3,.own 4 .bool)
abbrev Aak:Loc×Con:=(.tmp 45,.di)
abbrev Aal:Loc×Con:=(.tmp 50,.di)
abbrev yN:A1:=[Aae,AO,Az,Aaj,AW,AG,Aab,Ag,AT,(.tmp 44,.dat U6),Aak,(.tmp 46,.dat .bool),(.tmp 49,.ptr' 0 0),Aal,(.tmp 51,.dat U6),(.tmp 52,.dat .bool),(.tmp 53,.dat .bool),(.tmp 56,.dat U6),(.tmp 57,.dat U6),(.tmp 58,.own 36 U6),(.tmp 59,.dat U6),(.tmp 60,.own 36 U6),(.tmp 61,.dat .bool),(.tmp 62,.dat .bool),(.tmp 65,.dat U6),(.tmp 67,.di),(.tmp 68,.di),(.tmp 69,.dat .bool)]
abbrev yL:BF:=[(.ret,[AK]),(.exit 2,[Aae,AO,Az,Aaj,AW,AG,Aab,(.tmp 44,.dat U6),Aak,(.tmp 46,.dat .bool),(.tmp 49,.ptr' 0 0),Aal,(.tmp 51,.dat U6),(.tmp 52,.dat .bool),(.tmp 53,.dat .bool),(.tmp 56,.dat U6),(.tmp 57,.dat U6),(.tmp 58,.own 36 U6),(.tmp 59,.dat U6),(.tmp 60,.own 36 U6),(.tmp 61,.dat .bool),(.tmp 62,.dat .bool),(.tmp 65,.dat U6),(.tmp 67,.di),(.tmp 68,.di),(.tmp 69,.dat .bool)])]
def E4[Lk]:Vg→Option (Vg⊕Uc⊕(Int×List U5×List Bool×Int×Int×Int×List Int×Int×Bool×Int×List Int×Bool×Bool×List Int×List Int×List U5×List Int×List U5×Bool×Bool×List Int×Int×Int×Bool×Unit)⊕Unit):=fun(d,e,a,f,g,h,b,c,i,j,k,l,m,n,o,p,q,r,s,t,u,v,w,x,y,z,_)=>
 match(ilt c (A4 b))with
 |true=>match idx b c with|none=>none|some C=>match(ilt C d)with
  |true=>match idx b c with|none=>none|some A=>match idx a A with|none=>none|some D=>match(A7 a (A3 A) false)with
   |true=>some (.inr (.inl (false,())))
   |false=>match idx b c with|none=>none|some B=>match idx a B with|none=>none|some E=>some (.inl (d,e,(BH a (A3 B) true),f,(w64 (g+1)),h,b,(w64 (c+1)),i,j,k,l,m,n,o,p,q,r,s,t,u,v,w,x,y,z,()))
  |false=>some (.inl (d,e,a,f,g,h,b,(w64 (c+1)),i,j,k,l,m,n,o,p,q,r,s,t,u,v,w,x,y,z,()))
 |false=>some (.inr (.inr (.inl (d,e,a,f,g,h,i,j,k,l,m,n,o,p,q,r,s,t,u,v,w,x,y,z,()))))
abbrev yO:A1:=[Aae,AO,Az,Aaj,AW,AG,Aab]
abbrev yM:BF:=[(.ret,[AK]),(.exit 0,[Aae,AO,Az,AG])]
def E5[Lk]:(Int×List U5×List Bool×Int×Int×Int×Unit)→Option ((Int×List U5×List Bool×Int×Int×Int×Unit)⊕Uc⊕(Int×List U5×Int×Unit)⊕Unit):=fun(b,c,k,d,j,e,_)=>
 match(ilt e (A4 c))with
 |true=>match idx c e with|none=>none|some a=>match I' (a,())with|none=>none|some (l,_)=>match(!l)with
  |true=>some (.inr (.inl (false,())))
  |false=>match(ieq (A4 a) 0)with
  |true=>some (.inr (.inl (false,())))
  |false=>match iW (b,a,())with|none=>none|some (f,_)=>match(!f)with
  |true=>some (.inr (.inl (false,())))
  |false=>match Ps (a,())with|none=>none|some (g,_)=>match QC (([g]:List U5),([a]:List U5),())with|none=>none|some (h,_)=>match(!h)with
  |true=>some (.inr (.inl (false,())))
  |false=>match idx a 0 with|none=>none|some i=>match(ile i d)with
  |true=>some (.inr (.inl (false,())))
  |false=>match idx a 0 with|none=>none|some m=>match A9 E4 many (b,c,k,m,j,e,a,0,a,(A4 a),(ieq (A4 a) 0),b,a,f,(!f),a,g,([g]:List U5),a,([a]:List U5),h,(!h),a,i,d,(ile i d),())with|none=>none|some r=>match r with
  |.inl (n,_)=>some (.inr (.inl (n,())))
  |.inr r=>match r with
  |.inl (o,p,q,s,t,u,v,w,x,y,z,A,B,C,D,E,F,G,H,I,J,K,L,M,_)=>some (.inl (o,p,q,s,t,(w64 (u+1)),()))
  |.inr _=>none
 |false=>some (.inr (.inr (.inl (b,c,j,()))))
def Ru[Lk]:(Uo×Unit)→Option (Uc):=fun(a,_)=>
 match(ilt a.1 1)with
 |true=>some (false,())
 |false=>match(ilt 64 a.1)with
 |true=>some (false,())
 |false=>match(ilt a.1 (A4 a.2.1))with
 |true=>some (false,())
 |false=>match(CZ a.1&&CZ a.1&&ile a.1 a.1&&true)with
 |true=>match A9 E5 many (a.1,a.2.1,(DD (A3 a.1) false),(-1:Int),(0:Int),(0:Int),())with|none=>none|some r=>match r with
  |.inl (b,_)=>some (b,())
  |.inr r=>match r with
  |.inl (c,e,d,_)=>some ((ieq d c),())
  |.inr _=>none
 |false=>none
def Pn[Lk]:=fun v=>Lk.f (Ru v)
theorem XO v:Pn v=Ru v:=A0 _
abbrev yo:A1:=[AI,AP,AO,Az,AG]
def IM[Lk]:(Int×Int×List U5×Int×Unit)→Option ((Int×Int×List U5×Int×Unit)⊕U8⊕(Unit)⊕Unit):=fun(c,d,b,a,_)=>
 match(ilt a (A4 b))with
 |true=>match idx b a with|none=>none|some e=>match Kr (e,c,())with|none=>none|some (f,_)=>match(ile 0 f)with
  |true=>some (.inr (.inl (a,())))
  |false=>some (.inl (c,d,b,(w64 (a+1)),()))
 |false=>some (.inr (.inr (.inl ())))
def Rz[Lk]:(Uo×Int×Unit)→Option (U8):=fun(a,b,_)=>
 match A9 IM many (b,a.1,a.2.1,0,())with|none=>none|some r=>match r with
 |.inl (c,_)=>some (c,())
 |.inr r=>match r with
 |.inl _=>some ((-1:Int),())
 |.inr _=>none
def Kq[Lk]:=fun v=>Lk.f (Rz v)
theorem XW v:Kq v=Rz v:=A0 _
abbrev ASX:A1:=[AZ,AD]
abbrev ADe:A1:=[Al]
abbrev ANI:A1:=[AZ,Aaf,AG]
abbrev ANH:BF:=[(.exit 0,[AZ,Aaf,AG])]
def L6[Lk]:(List U5×List Int×Int×Unit)→Option ((List U5×List Int×Int×Unit)⊕(List U5×List Int×Int×Unit)⊕Unit):=fun(a,b,c,_)=>
 match(ilt c (A4 a))with
 |true=>match idx a c with|none=>none|some d=>match idx d 0 with|none=>none|some e=>match idx b 0 with|none=>none|some f=>match(ilt e (A7 b 0 0))with
  |true=>some (.inl (a,b,(w64 (c+1)),()))
  |false=>some (.inr (.inl (a,b,c,())))
 |false=>some (.inr (.inl (a,b,c,())))
def ja[Lk]:(List U5×List Int×Unit)→Option (V3):=fun(f,g,_)=>
 match Ps (g,())with|none=>none|some (h,_)=>match A9 L6 many (f,h,0,())with|none=>none|some r=>match r with
 |.inl (b,c,d,_)=>match Cv b 0 d with|none=>none|some a=>match(fits ((A4 ([]:List U5))+(A4 a)))with
  |true=>match(fits ((A4 (BT ([]:List U5) a))+(A4 ([c]:List U5))))with
   |true=>match Cv b d (A4 b)with|none=>none|some e=>match(fits ((A4 (BT (BT ([]:List U5) a) ([c]:List U5)))+(A4 e)))with
    |true=>some ((BT (BT (BT ([]:List U5) a) ([c]:List U5)) e),())
    |false=>none
   |false=>none
  |false=>none
 |.inr _=>none
def pw[Lk]:=fun v=>Lk.f (ja v)
theorem pt v:pw v=ja v:=A0 _
abbrev nn:A1:=[AZ,AI]
def Ll[Lk]:(List U5×Int×Unit)→Option (V3):=fun(a,c,_)=>
 match Cv a 0 c with|none=>none|some b=>match(fits ((A4 ([]:List U5))+(A4 b)))with
 |true=>match Cv a (w64 (c+1)) (A4 a)with|none=>none|some d=>match(fits ((A4 (BT ([]:List U5) b))+(A4 d)))with
  |true=>some ((BT (BT ([]:List U5) b) d),())
  |false=>none
 |false=>none
def Fw[Lk]:=fun v=>Lk.f (Ll v)
theorem PN v:Fw v=Ll v:=A0 _
abbrev X3:A1:=[Aj,AI,AJ]
abbrev rW:A1:=[AB,(.tmp 1,.dat Ue),AJ]
def J_[Lk]:(Uo×Int×Int×Unit)→Option ((Int×List U5×Int×Unit)):=fun(a,b,c,_)=>
 match Pn ((a.1,(a.2.1,())),())with|none=>none|some (k,_)=>match(!k)with
 |true=>some (a.1,a.2.1,1,())
 |false=>match kJ (a.1,b,())with|none=>none|some (l,_)=>match(!l)with
 |true=>some (a.1,a.2.1,10,())
 |false=>match kJ (a.1,c,())with|none=>none|some (m,_)=>match(!m)with
 |true=>some (a.1,a.2.1,10,())
 |false=>match Kq ((a.1,(a.2.1,())),b,())with|none=>none|some (n,_)=>match Kq ((a.1,(a.2.1,())),c,())with|none=>none|some (o,_)=>match(ieq n o)with
 |true=>some (a.1,a.2.1,5,())
 |false=>match Kq ((a.1,(a.2.1,())),b,())with|none=>none|some (g,_)=>match Kq ((a.1,(a.2.1,())),c,())with|none=>none|some (h,_)=>match idx a.2.1 g with|none=>none|some p=>match Sb (p,b,())with|none=>none|some (d,u,_)=>match idx a.2.1 h with|none=>none|some q=>match Sb (q,c,())with|none=>none|some (e,v,_)=>match fc (a.1,b,c,())with|none=>none|some (f,_)=>match(fits ((A4 ([b,f]:List (Int)))+(A4 e)))with
 |true=>match fc (a.1,c,b,())with|none=>none|some (i,_)=>match(fits ((A4 (BT ([b,f]:List (Int)) e))+(A4 ([i]:List (Int)))))with
  |true=>match Cv d 1 (A4 d)with|none=>none|some j=>match(fits ((A4 (BT (BT ([b,f]:List (Int)) e) ([i]:List (Int))))+(A4 (E' 1 (A3 (A4 j)) d))))with
   |true=>match Fw (a.2.1,(imax g h),())with|none=>none|some (r,_)=>match Fw (r,(Cb g h),())with|none=>none|some (s,_)=>match pw (s,(BT (BT (BT ([b,f]:List (Int)) e) ([i]:List (Int))) (E' 1 (A3 (A4 j)) d)),())with|none=>none|some (t,_)=>some (a.1,t,0,())
   |false=>none
  |false=>none
 |false=>none
def Of[Lk]:=fun v=>Lk.f (J_ v)
theorem J9 v:Of v=J_ v:=A0 _
abbrev Jw:A1:=[Aj,AaY]
abbrev xX:A1:=[AaY,AP,AO,Az,AG]
def IC[Lk]:(List U3×Int×List U5×Int×Unit)→Option ((List U3×Int×List U5×Int×Unit)⊕U8⊕(Unit)⊕Unit):=fun(a,c,d,b,_)=>
 match(ilt b (A4 a))with
 |true=>match idx a b with|none=>none|some e=>match(ilt e.1 0)with
  |true=>some (.inr (.inl (10,())))
  |false=>match idx a b with|none=>none|some f=>match(ile c f.1)with
  |true=>some (.inr (.inl (10,())))
  |false=>match idx a b with|none=>none|some g=>match(ilt g.2.1 0)with
  |true=>some (.inr (.inl (10,())))
  |false=>match idx a b with|none=>none|some h=>match(ile c h.2.1)with
  |true=>some (.inr (.inl (10,())))
  |false=>some (.inl (a,c,d,(w64 (b+1)),()))
 |false=>some (.inr (.inr (.inl ())))
def Rh[Lk]:(Uo×List U3×Unit)→Option (U8):=fun(a,b,_)=>
 match Pn ((a.1,(a.2.1,())),())with|none=>none|some (c,_)=>match(!c)with
 |true=>some (1,())
 |false=>match A9 IC many (b,a.1,a.2.1,0,())with|none=>none|some r=>match r with
 |.inl (d,_)=>some (d,())
 |.inr r=>match r with
 |.inl _=>some (0,())
 |.inr _=>none
def Vx[Lk]:=fun v=>Lk.f (Rh v)
theorem Ww v:Vx v=Rh v:=A0 _
abbrev SC:A1:=[Aj,(.tmp 1,.own 4 .bool),AJ]
abbrev DF:List RS:=[.one,.one,.one]
abbrev Aam:Loc×Con:=(.cell 1 1,.nil U6)
abbrev AAJ:A1:=[AaY,AP,AO,Az,AN,AQ,Aam,(.tmp 8,.own 4 .bool),Ah]
abbrev AAI:BF:=[(.exit 0,[AP,AO,Az,AN,AQ,Aam,(.tmp 8,.own 4 .bool)])]
def IV[Lk]:(List U3×Int×List U5×Int×List Bool×Int×Unit)→Option ((List U3×Int×List U5×Int×List Bool×Int×Unit)⊕(Int×List U5×Int×List Bool×Unit)⊕Unit):=fun(a,d,e,f,c,b,_)=>
 match(ilt b (A4 a))with
 |true=>match idx a b with|none=>none|some h=>match idx a b with|none=>none|some i=>match Of ((d,(e,())),h.1,i.2.1,())with|none=>none|some (j,k,g,_)=>match(fits ((A4 c)+(A4 ([(ieq g 0)]:List (Bool)))))with
  |true=>some (.inl (a,j,k,f,(BT c ([(ieq g 0)]:List (Bool))),(w64 (b+1)),()))
  |false=>none
 |false=>some (.inr (.inl (d,e,f,c,())))
def SD[Lk]:(Uo×List U3×Unit)→Option ((Uo×List Bool×Int×Unit)):=fun(a,b,_)=>
 match Vx ((a.1,(a.2.1,())),b,())with|none=>none|some (c,_)=>match(!(ieq c 0))with
 |true=>some ((a.1,(a.2.1,())),([]:List (Bool)),c,())
 |false=>match A9 IV many (b,a.1,a.2.1,0,([]:List (Bool)),0,())with|none=>none|some r=>match r with
 |.inl (d,e,g,f,_)=>some ((d,(e,())),f,0,())
 |.inr _=>none
def WD[Lk]:=fun v=>Lk.f (SD v)
theorem X2 v:WD v=SD v:=A0 _
def zr[Lk]:(Int×List U3×Unit)→Option ((Uo×Int×Unit)):=fun(d,e,_)=>
 match Xw (d,())with|none=>none|some (f,g,a,_)=>match(!(ieq a 0))with
 |true=>some ((0,(([]:List U5),())),a,())
 |false=>match WD ((f,(g,())),e,())with|none=>none|some (b,h,c,_)=>match(!(ieq c 0))with
 |true=>some ((0,(([]:List U5),())),c,())
 |false=>some ((b.1,(b.2.1,())),0,())
def AS6[Lk]:=fun v=>Lk.f (zr v)
theorem AEJ v:AS6 v=zr v:=A0 _
abbrev xJ:A1:=[AI,AP,AO,Aad,AaX,Aab]
def H_[Lk]:(Int×Int×List U1×List U3×Int×Unit)→Option ((Int×Int×List U1×List U3×Int×Unit)⊕Ux⊕Unit):=fun(d,e,a,c,b,_)=>
 match(ilt b (A4 a))with
 |true=>match idx a b with|none=>none|some h=>match h.2.2.2.1 with
  |true=>match idx a b with|none=>none|some i=>match(ile d i.2.2.1)with
   |true=>match idx a b with|none=>none|some f=>match idx a b with|none=>none|some g=>match(fits ((A4 c)+(A4 ([(f.1,(g.2.1,()))]:List U3))))with
    |true=>some (.inl (d,e,a,(BT c ([(f.1,(g.2.1,()))]:List U3)),(w64 (b+1)),()))
    |false=>none
   |false=>some (.inl (d,e,a,c,(w64 (b+1)),()))
  |false=>some (.inl (d,e,a,c,(w64 (b+1)),()))
 |false=>some (.inr (.inl (c,())))
def Re[Lk]:(Uf×Int×Unit)→Option (Ux):=fun(a,b,_)=>
 match A9 H_ many (b,a.1,a.2.1,([]:List U3),0,())with|none=>none|some r=>match r with
 |.inl (c,_)=>some (c,())
 |.inr _=>none
def Vt[Lk]:=fun v=>Lk.f (Re v)
theorem Wm v:Vt v=Re v:=A0 _
def O8[Lk]:(Uf×Int×Unit)→Option ((Uo×Int×Unit)):=fun(a,c,_)=>
 match HW ((a.1,(a.2.1,())),())with|none=>none|some (d,_)=>match(!d)with
 |true=>some ((0,(([]:List U5),())),1,())
 |false=>match Vt ((a.1,(a.2.1,())),c,())with|none=>none|some (e,_)=>match AS6 (a.1,e,())with|none=>none|some (b,f,_)=>some ((b.1,(b.2.1,())),f,())
def Qm[Lk]:=fun v=>Lk.f (O8 v)
theorem Tn v:Qm v=O8 v:=A0 _
abbrev Aan:Loc×Con:=(.tmp 0,.dat V6)
abbrev tO:A1:=[Aan,AI]
def Q4[Lk]:Uh→Option (U8):=fun(a,b,_)=>
 match(ilt b 0)with
 |true=>some (0,())
 |false=>match(ieq (A4 a) 0)with
 |true=>some (0,())
 |false=>match rem? b (A4 a)with|none=>none|some c=>match idx a c with|none=>none|some d=>some (d,())
def Sk[Lk]:=fun v=>Lk.f (Q4 v)
theorem Sj v:Sk v=Q4 v:=A0 _
def w8[Lk]:U8→Option (U8):=fun(b,_)=>
 match(ieq b 0)with
 |true=>some (32,())
 |false=>match shr? .u32 (IntKind.wrap .u32 ((IntKind.wrap .u32 ((BitVec.ofInt (IntKind.bits .u32) b &&& BitVec.ofInt (IntKind.bits .u32) (IntKind.wrap .u32 (0-b))).toNat))*125613361)) 27 with|none=>none|some a=>match(ile 0 a&&(ilt a 32&&ilt a (A4 sJ)))with
 |true=>some ((w64 (A7 sJ (A3 a) 0)),())
 |false=>none
def AGw[Lk]:=fun v=>Lk.f (w8 v)
theorem ACs v:AGw v=w8 v:=A0 _
def Sp[Lk]:U8→Option (U8):=fun(a,_)=>
 match AGw (a,())with|none=>none|some (b,_)=>some ((Cb (w64 (b+1)) 8),())
def WL[Lk]:=fun v=>Lk.f (Sp v)
theorem ZD v:WL v=Sp v:=A0 _
def Wb[Lk]:U8→Option (Uc):=fun(a,_)=>
 match(ile 1 a)with
 |true=>some ((ile a 8),())
 |false=>some (false,())
def iR[Lk]:=fun v=>Lk.f (Wb v)
theorem cK v:iR v=Wb v:=A0 _
abbrev N0:A1:=[AE,(.tmp 1,.clo 129 [])]
abbrev YY:A1:=[AE,(.tmp 1,.clo 129 []),AU,AT]
def EI[Lk]:Ub→Option (Ub⊕U8⊕(Unit)⊕Unit):=fun(b,c,a,_)=>
 match(ilt a c)with
 |true=>match idx b a with|none=>none|some d=>match iR (d,())with|none=>none|some (e,_)=>match(!e)with
  |true=>some (.inr (.inl (a,())))
  |false=>some (.inl (b,c,(w64 (a+1)),()))
 |false=>some (.inr (.inr (.inl ())))
def Jj[Lk]:Ua→Option (U8):=fun(a,_)=>
 match A9 EI many (a,(A4 a),0,())with|none=>none|some r=>match r with
 |.inl (b,_)=>some (b,())
 |.inr r=>match r with
 |.inl _=>some ((-1:Int),())
 |.inr _=>none
def MO[Lk]:=fun v=>Lk.f (Jj v)
theorem MN v:MO v=Jj v:=A0 _
abbrev Aao:Loc×Con:=(.tmp 1,.dat V6)
abbrev S8:A1:=[AE,Aao]
abbrev iS:A1:=[Aao,Aaa,(.tmp 8,.dat U6),Ah,Ad]
abbrev PS:BF:=[(.exit 0,[Aaa])]
def FN[Lk]:Vd→Option (Vd⊕Ua⊕Unit):=fun(c,a,d,e,b,_)=>
 match(ilt b e)with
 |true=>match idx d b with|none=>none|some f=>match(ilt f 0)with
  |true=>match(fits ((A4 a)+(A4 ([1]:List (Int)))))with
   |true=>some (.inl (c,(BT a ([1]:List (Int))),d,e,(w64 (b+1)),()))
   |false=>none
  |false=>match Sk (c,f,())with|none=>none|some (h,_)=>match WL (h,())with|none=>none|some (g,_)=>match(fits ((A4 a)+(A4 ([g]:List (Int)))))with
  |true=>some (.inl (c,(BT a ([g]:List (Int))),d,e,(w64 (b+1)),()))
  |false=>none
 |false=>some (.inr (.inl (a,())))
def Lr[Lk]:Vc→Option (Ua):=fun(a,b,_)=>
 match A9 FN many (b,([]:List (Int)),a,(A4 a),0,())with|none=>none|some r=>match r with
 |.inl (c,_)=>some (c,())
 |.inr _=>none
def NJ[Lk]:=fun v=>Lk.f (Lr v)
theorem PT v:NJ v=Lr v:=A0 _
def ABn[Lk]:Uh→Option (U8):=fun(a,b,_)=>
 match(ilt b 0)with
 |true=>some (0,())
 |false=>match(ieq (A4 a) 0)with
 |true=>some (0,())
 |false=>match rem? b (A4 a)with|none=>none|some c=>match idx a c with|none=>none|some d=>some (d,())
def AUP[Lk]:=fun v=>Lk.f (ABn v)
theorem AFV v:AUP v=ABn v:=A0 _
abbrev AUJ:A1:=[AA,AI]
def lY[Lk]:U3→Option (U8):=fun(b,a,_)=>
 match(ilt a 0)with
 |true=>some (0,())
 |false=>match(ilt 31 a)with
 |true=>some (0,())
 |false=>match shr? .u32 b (IntKind.wrap .u64 a)with|none=>none|some c=>some ((IntKind.wrap .u32 ((BitVec.ofInt (IntKind.bits .u32) c &&& BitVec.ofInt (IntKind.bits .u32) 1).toNat)),())
def AFS[Lk]:=fun v=>Lk.f (lY v)
theorem uB v:AFS v=lY v:=A0 _
abbrev sC:A1:=[AA,AX]
def Dj[Lk]:U3→Option (U3⊕U8⊕Unit):=fun(b,a,_)=>
 match(ilt a 8)with
 |true=>match AFS (b,(w64 (a-1)),())with|none=>none|some (c,_)=>match(ieq c 0)with
  |true=>some (.inl (b,(w64 (a+1)),()))
  |false=>some (.inr (.inl (a,())))
 |false=>some (.inr (.inl (a,())))
def O5[Lk]:U8→Option (U8):=fun(a,_)=>
 match A9 Dj many (a,1,())with|none=>none|some r=>match r with
 |.inl (b,_)=>some (b,())
 |.inr _=>none
def Qf[Lk]:=fun v=>Lk.f (O5 v)
theorem Tl v:Qf v=O5 v:=A0 _
abbrev kQ:A1:=[AE,Aao,Aaa,Aab]
def FY[Lk]:(List Int×List Int×List Int×Int×Unit)→Option ((List Int×List Int×List Int×Int×Unit)⊕Ua⊕Unit):=fun(a,d,b,c,_)=>
 match(ilt c (A4 a))with
 |true=>match idx a c with|none=>none|some f=>match(ile 0 f)with
  |true=>match idx a c with|none=>none|some g=>match AUP (d,g,())with|none=>none|some (h,_)=>match Qf (h,())with|none=>none|some (e,_)=>match(fits ((A4 b)+(A4 ([e]:List (Int)))))with
   |true=>some (.inl (a,d,(BT b ([e]:List (Int))),(w64 (c+1)),()))
   |false=>none
  |false=>match(fits ((A4 b)+(A4 ([1]:List (Int)))))with
  |true=>some (.inl (a,d,(BT b ([1]:List (Int))),(w64 (c+1)),()))
  |false=>none
 |false=>some (.inr (.inl (b,())))
def MX[Lk]:Vc→Option (Ua):=fun(a,b,_)=>
 match A9 FY many (a,b,([]:List (Int)),0,())with|none=>none|some r=>match r with
 |.inl (c,_)=>some (c,())
 |.inr _=>none
def Na[Lk]:=fun v=>Lk.f (MX v)
theorem Qe v:Na v=MX v:=A0 _
abbrev fW:A1:=[AY,Aaf,(.tmp 2,.own 36 U6),AX]
abbrev Sq:List RS:=[.agg 3,.one]
abbrev Aap:Loc×Con:=(.cell 1 2,.own 36 U6)
abbrev Aaq:Loc×Con:=(.cell 1 1,.own 3 U0)
abbrev Aar:Loc×Con:=(.cell 1 0,.own 3 U0)
abbrev Aas:Loc×Con:=(.tmp 10,.own 3 U0)
abbrev Aat:Loc×Con:=(.cell 0 1,.nil U0)
abbrev Aau:Loc×Con:=(.cell 0 2,.nil U6)
abbrev Aav:Loc×Con:=(.cell 0 0,.nil U0)
abbrev Aaw:Loc×Con:=(.tmp 8,.box 3)
abbrev Aax:Loc×Con:=(.tmp 4,.box 3)
abbrev ABe:A1:=[AD,Aax,Aav,Aat,Aau,Aab,Aaw,Aar,Aaq,Aap,Ah,Aas,Ae,AR]
abbrev ABa:BF:=[(.exit 6,[AD,Aax,Aav,Aat,Aau,Aab,Aaw,Aar,Aaq,Aap,Ah,Aas,Ae,AR])]
def Is[Lk]:(List Int×Int×List Int×List Int×List U5×Int×List Int×Int×Int×Unit)→Option ((List Int×Int×List Int×List Int×List U5×Int×List Int×Int×Int×Unit)⊕(List Int×Int×List Int×List Int×List U5×Int×List Int×Int×Int×Unit)⊕Unit):=fun(a,b,f,g,h,c,i,d,e,_)=>
 match rem? (w64 (c+e)) b with|none=>none|some j=>match idx a j with|none=>none|some k=>match(ile k d)with
 |true=>some (.inl (a,b,f,g,h,c,i,d,(w64 (e+1)),()))
 |false=>some (.inr (.inl (a,b,f,g,h,c,i,d,e,())))
abbrev ABf:A1:=[AD,Aax,Aav,Aat,Aau,Aab,Aaw,Aar,Aaq,Aap,Ah,Aas,Ae]
abbrev ABb:BF:=[(.exit 4,[AD,Aax,Aav,Aat,Aau,Aab,Aaw,Aar,Aaq,Aap,Ah,Aas])]
def GX[Lk]:(List Int×Int×List Int×List Int×List U5×Int×List Int×Int×Unit)→Option ((List Int×Int×List Int×List Int×List U5×Int×List Int×Int×Unit)⊕(List Int×Int×List Int×List Int×List U5×Int×List Int×Unit)⊕Unit):=fun(a,c,d,e,f,b,g,h,_)=>
 match idx a b with|none=>none|some m=>match(ilt h m)with
 |true=>match A9 Is many (a,c,d,e,f,b,g,h,1,())with|none=>none|some r=>match r with
  |.inl (n,i,o,p,q,j,k,s,t,_)=>match rem? (w64 (j+t)) i with|none=>none|some l=>match(fits ((A4 k)+(A4 ([l]:List (Int)))))with
   |true=>some (.inl (n,i,o,p,q,j,(BT k ([l]:List (Int))),(w64 (s+1)),()))
   |false=>none
  |.inr _=>none
 |false=>some (.inr (.inl (a,c,d,e,f,b,g,())))
abbrev ABg:A1:=[AD,Aax,Aav,Aat,Aau,Aab,Aaw,Aar,Aaq,Aap,Ah]
abbrev ABc:BF:=[(.exit 2,[Aax,Aav,Aat,Aau,Aaw,Aar,Aaq,Aap])]
def It[Lk]:(List Int×Int×List Int×List Int×List U5×Int×Unit)→Option ((List Int×Int×List Int×List Int×List U5×Int×Unit)⊕(List Int×List Int×List U5×Unit)⊕Unit):=fun(h,a,b,c,d,e,_)=>
 match(ilt e a)with
 |true=>match A9 GX many (h,a,b,c,d,e,([]:List (Int)),0,())with|none=>none|some r=>match r with
  |.inl (i,j,k,l,f,m,g,_)=>match(fits ((A4 f)+(A4 ([g]:List U5))))with
   |true=>some (.inl (i,j,k,l,(BT f ([g]:List U5)),(w64 (m+1)),()))
   |false=>none
  |.inr _=>none
 |false=>some (.inr (.inl (b,c,d,())))
abbrev ABh:A1:=[AE,AD,Aax,Aav,Aat,Aau,Aab,AU]
abbrev ABd:BF:=[(.ret,[Aax,Aav,Aat,Aau,AG]),(.exit 0,[AE,AD,Aax,Aav,Aat,Aau,Aab])]
def Iu[Lk]:Va→Option (Va⊕U8⊕(List Int×List Int×Int×Unit)⊕Unit):=fun(d,a,c,b,_)=>
 match(ilt b c)with
 |true=>match idx a b with|none=>none|some e=>match(ilt e 1)with
  |true=>some (.inr (.inl (1,())))
  |false=>match idx a b with|none=>none|some f=>match(ilt 8 f)with
  |true=>some (.inr (.inl (1,())))
  |false=>some (.inl (d,a,c,(w64 (b+1)),()))
 |false=>some (.inr (.inr (.inl (d,a,c,()))))
def Sr[Lk]:Vc→Option ((List Int×List Int×List U5×Int×Unit)):=fun(a,c,_)=>
 match I' (a,())with|none=>none|some (e,_)=>match(!e)with
 |true=>some (([]:List (Int)),([]:List (Int)),([]:List U5),1,())
 |false=>match(ieq (A4 a) 0)with
 |true=>some (([]:List (Int)),([]:List (Int)),([]:List U5),1,())
 |false=>match(!(ieq (A4 c) (A4 a)))with
 |true=>some (([]:List (Int)),([]:List (Int)),([]:List U5),1,())
 |false=>match A9 Iu many (a,c,(A4 a),0,())with|none=>none|some r=>match r with
 |.inl (f,_)=>some (([]:List (Int)),([]:List (Int)),([]:List U5),f,())
 |.inr r=>match r with
 |.inl (d,b,g,_)=>match(fits ((A4 ([]:List (Int)))+(A4 d)))with
  |true=>match(fits ((A4 ([]:List (Int)))+(A4 b)))with
   |true=>match A9 It many (b,g,(BT ([]:List (Int)) d),(BT ([]:List (Int)) b),([]:List U5),0,())with|none=>none|some r=>match r with
    |.inl (h,i,j,_)=>some (h,i,j,0,())
    |.inr _=>none
   |false=>none
  |false=>none
 |.inr _=>none
def WN[Lk]:=fun v=>Lk.f (Sr v)
theorem ZH v:WN v=Sr v:=A0 _
abbrev AMn:A1:=[(.tmp 0,.dat V7),(.tmp 1,.dat V7)]
def XG[Lk]:(Uk×Uk×Unit)→Option (Uc):=fun(a,b,_)=>
 match Ot (a.1,b.1,())with|none=>none|some (c,_)=>match c with
 |true=>match Ot (a.2.1,b.2.1,())with|none=>none|some (d,_)=>match d with
  |true=>match QC (a.2.2.1,b.2.2.1,())with|none=>none|some (e,_)=>some (e,())
  |false=>some (false,())
 |false=>some (false,())
def jO[Lk]:=fun v=>Lk.f (XG v)
theorem dE v:jO v=XG v:=A0 _
abbrev Aay:Loc×Con:=(.tmp 1,.clo 191 [(1,0)])
abbrev Aaz:Loc×Con:=(.cell 1 0,.map U4 U0)
abbrev QX:A1:=[AaW,(.cap 1 0,.box 1),Aaz,Aay]
abbrev Aa0:Loc×Con:=(.obj 0,.own 88 U4)
abbrev Aa1:Loc×Con:=(.obj 2,.map' 2)
abbrev kO:A1:=[Aa0,As,Aaz,Aa1,AB]
abbrev ay:A1:=[Aa0,As,Aaz,Aa1,An,Aay,AU,AT]
abbrev aw:BF:=[(.ret,[Aa0,As,Aaz,Aa1,AW]),(.exit 0,[Aa0,As,Aaz,Aa1])]
def av[Lk]:(List U3×List (U3×Int)×Int×Int×Unit)→Option ((List U3×List (U3×Int)×Int×Int×Unit)⊕(List U3×List (U3×Int)×Int×Unit)⊕(List U3×List (U3×Int)×Unit)⊕Unit):=fun(a,c,d,b,_)=>
 match(ilt b d)with
 |true=>match idx a b with|none=>none|some e=>match(ieq ((BA c ((A7 a (A3 b) (0,(0,()))).1,((A7 a (A3 b) (0,(0,()))).2.1,()))).getD 0) 0)with
  |true=>some (.inr (.inl (a,c,b,())))
  |false=>some (.inl (a,c,d,(w64 (b+1)),()))
 |false=>some (.inr (.inr (.inl (a,c,()))))
def QY[Lk]:(List U3×List (U3×Int)×Unit)→Option ((List U3×List (U3×Int)×Int×Unit)):=fun(a,b,_)=>
 match A9 av many (a,b,(A4 a),0,())with|none=>none|some r=>match r with
 |.inl (c,d,e,_)=>some (c,d,e,())
 |.inr r=>match r with
 |.inl (f,g,_)=>some (f,g,(-1:Int),())
 |.inr _=>none
def O2[Lk]:=fun v=>Lk.f (QY v)
theorem az v:O2 v=QY v:=A0 _
abbrev AAW:A1:=[(.tmp 0,.dat U4),(.tmp 1,.dat U4)]
def Yi[Lk]:(U3×U3×Unit)→Option (U8):=fun(a,b,_)=>
 match Eu (a.1,b.1,())with|none=>none|some (c,_)=>match Eu (a.2.1,b.2.1,())with|none=>none|some (d,_)=>match orI (([c,d]:List (Int)),())with|none=>none|some (e,_)=>some (e,())
def Bk[Lk]:=fun v=>Lk.f (Yi v)
theorem sK v:Bk v=Yi v:=A0 _
abbrev Aa2:Loc×Con:=(.tmp 3,.clo 108 [])
abbrev SO:A1:=[AaW,AI,AJ,Aa2]
abbrev Ic:A1:=[Aa0]
abbrev ATb:A1:=[Aa0,An,AI,AJ,Aa2,AT,Ah]
abbrev ATa:BF:=[(.exit 2,[Aa0,An,AI,AJ,Aa2,AT])]
abbrev ATc:A1:=[Aa0,An,AI,AJ,Aa2,AT]
abbrev kI:BF:=[(.exit 0,[Aa0])]
def AWB[Lk]:Ul→Option (Ux):=SN ((0,(0,())):U3) Bk
def AW1[Lk](v:Ul):Option (Ux):=AJT ((0,(0,())):U3) Bk v
theorem ATd v:AW1 v=AWB v:=A0 _
abbrev Aa3:Loc×Con:=(.tmp 4,.clo 108 [])
abbrev I9:A1:=[AaW,AI,AJ,AX,Aa3]
abbrev AMg:A1:=[Aa0,An,AJ,AX,Aa3,Ad]
abbrev AMf:BF:=[(.exit 0,[Aa0]),(.ret,[Aa0])]
def ASK[Lk]:Uv→Option (Ux):=NP ((0,(0,())):U3) Bk
def AUg[Lk](v:Uv):Option (Ux):=W5 ((0,(0,())):U3) Bk v
theorem AMh v:AUg v=ASK v:=A0 _
abbrev APZ:A1:=[Aa0,An,Aa2,AT,Ah,AR]
abbrev APX:BF:=[(.exit 2,[Aa0])]
abbrev APa:A1:=[Aa0,An,Aa2,AT,Ah,Ad,Ae]
abbrev APY:BF:=[(.exit 0,[Aa0,An,Aa2,AT,Ah,Ad])]
def ATj[Lk]:Ul→Option (Ux):=Nb ((0,(0,())):U3) Bk
def AUv[Lk](v:Ul):Option (Ux):=eg ((0,(0,())):U3) Bk v
theorem APb v:AUv v=ATj v:=A0 _
abbrev AK2:A1:=[Aa0,An,AI,AT,(.tmp 9,.box 1),Ap,Aq,Ae]
def AQm[Lk]:Ul→Option (Ux):=KO ((0,(0,())):U3) Bk
def AQn[Lk](v:Ul):Option (Ux):=Ss ((0,(0,())):U3) Bk v
theorem AK3 v:AQn v=AQm v:=A0 _
abbrev AIj:A1:=[AaW,AI,AJ,Ar,AQ,Aa3]
abbrev AIi:A1:=[Aa0,As,AQ,AB,AI]
def AIk[Lk]:Uv→Option (Uv):=Hs ((0,(0,())):U3) Bk
def AEC[Lk](v:Uv):Option (Uv):=JD ((0,(0,())):U3) Bk v
theorem zn v:AEC v=AIk v:=A0 _
abbrev AIx:A1:=[AaW,AI,AJ,AX,At,AQ,(.tmp 5,.clo 108 [])]
abbrev eB:A1:=[Aa0,As,AQ,AB]
def AIy[Lk]:(List U3×Int×Int×Int×Int×Unit)→Option (Ul):=Ht ((0,(0,())):U3) Bk
def AEO[Lk](v:(List U3×Int×Int×Int×Int×Unit)):Option (Ul):=JF ((0,(0,())):U3) Bk v
theorem z5 v:AEO v=AIy v:=A0 _
abbrev AI4:A1:=[AaW,AI,Au,AQ,Aa2]
def AI5[Lk]:Ul→Option (Ul):=Hu ((0,(0,())):U3) Bk
def AER[Lk](v:Ul):Option (Ul):=JG ((0,(0,())):U3) Bk v
theorem AAA v:AER v=AI5 v:=A0 _
abbrev ANe:A1:=[Aa0,AB,AI]
def ANf[Lk]:Ul→Option (Ul):=J1 ((0,(0,())):U3) Bk
def ANg[Lk](v:Ul):Option (Ul):=R1 ((0,(0,())):U3) Bk v
theorem AIE v:ANg v=ANf v:=A0 _
abbrev ASU:A1:=[Aa0,An,AT,Ah]
def AVP[Lk]:Ul→Option (Ux):=Rw ((0,(0,())):U3) Bk
def AWo[Lk](v:Ul):Option (Ux):=AHx ((0,(0,())):U3) Bk v
theorem ASV v:AWo v=AVP v:=A0 _
abbrev zL:A1:=[Aa0,AF]
abbrev qv:A1:=[Aa0,An,AI,AJ,Aa2,Ah,Ad,AR]
abbrev qq:BF:=[(.exit 6,[Aa0,An,AI,AJ,Aa2,Ah,Ad])]
abbrev qw:A1:=[Aa0,An,AI,AJ,Aa2,Ah,Ad,Ae]
abbrev qs:BF:=[(.exit 4,[Aa0,An,AI,AJ,Aa2,Ah,Ad])]
abbrev TW:A1:=[Aa0,An,AI,AJ,Aa2,Ah,Ad]
abbrev qt:BF:=[(.exit 2,[Aa0,An,AI,AJ,Aa2,Ah,Ad])]
abbrev qu:BF:=[(.ret,[Aa0,Av]),(.exit 0,[Aa0])]
def zM[Lk]:Ul→Option ((List U3×Bool×Unit)):=GG ((0,(0,())):U3) Bk
def qy[Lk](v:Ul):Option ((List U3×Bool×Unit)):=J2 ((0,(0,())):U3) Bk v
theorem qx v:qy v=zM v:=A0 _
abbrev AIX:A1:=[Aa0,AB]
abbrev OZ:A1:=[Aa0,An,AI,Aa3,Ae,AR]
abbrev zf:BF:=[(.exit 4,[Aa0,An,AI,Aa3,Ae,AR])]
abbrev zg:BF:=[(.exit 2,[Aa0,An,AI,Aa3,Ae,AR])]
abbrev zh:BF:=[(.exit 0,[Aa0,Ae])]
def AIY[Lk]:Uv→Option ((List U3×Int×Unit)):=Hr ((0,(0,())):U3) Bk
def AD8[Lk](v:Uv):Option ((List U3×Int×Unit)):=NU ((0,(0,())):U3) Bk v
theorem zi v:AD8 v=AIY v:=A0 _
abbrev AS0:A1:=[Aa0,AB,Aw]
abbrev MC:A1:=[Aa0,An,AI,Aa3,AR,AS]
abbrev AOL:BF:=[(.exit 8,[Aa0,An,AI,Aa3,AR,AS])]
abbrev AOM:BF:=[(.exit 6,[Aa0,An,AI,Aa3,AR,AS])]
abbrev AON:BF:=[(.exit 4,[Aa0,An,AI,AS])]
abbrev AOO:BF:=[(.exit 2,[Aa0,An,AI,Aa3,AR,AS])]
abbrev AOP:BF:=[(.exit 0,[Aa0,An,AI,Aa3,AR,AS])]
def AS1[Lk]:Uv→Option ((List U3×Int×Bool×Unit)):=NT ((0,(0,())):U3) Bk
def AUp[Lk](v:Uv):Option ((List U3×Int×Bool×Unit)):=TX ((0,(0,())):U3) Bk v
theorem AOQ v:AUp v=AS1 v:=A0 _
abbrev AD0:A1:=[Aa0,An,AI,AJ,AX,Aa3,Ax,Ay]
abbrev ADz:BF:=[(.ret,[Aa0])]
def ADy[Lk](self:Uv→Option (Ux)):(List U3×Int×Int×Int×Bool×Bool×Unit)→Option ((List U3×Int×Int×Int×Bool×Bool×Unit)⊕Ux⊕Unit):=Kt ((0,(0,())):U3) Bk self
def AVp[Lk](self:Uv→Option (Ux)):Uv→Option (Ux):=R5 ((0,(0,())):U3) Bk self
def Xb[Lk]:Nat→Uv→Option (Ux):=Jf ((0,(0,())):U3) Bk
def ASu[Lk](v:Uv):Option (Ux):=AIQ ((0,(0,())):U3) Bk v
theorem ASt v:ASu v=Xb 100 v:=A0 _
abbrev ASG:A1:=[AaW,(.tmp 1,.clo 108 [])]
def ASH[Lk]:Ux→Option (Ux):=NO ((0,(0,())):U3) Bk
def AMQ[Lk](v:Ux):Option (Ux):=oX ((0,(0,())):U3) Bk v
theorem AMP v:AMQ v=ASH v:=A0 _
def ACl[Lk]:U8→Option (Uc):=fun(a,_)=>
 some ((ieq a (w64 (IntKind.wrap .u16 a))),())
def cE[Lk]:=fun v=>Lk.f (ACl v)
theorem ALm v:cE v=ACl v:=A0 _
def nj[Lk]:U8→Option (Uc):=fun(a,_)=>
 match(ile 1 a)with
 |true=>some ((ile a 4),())
 |false=>some (false,())
def wz[Lk]:=fun v=>Lk.f (nj v)
theorem AGm v:wz v=nj v:=A0 _
end
end Go.Pev
end
section
namespace Go.Pev
noncomputable section
abbrev QU:A1:=[AaT,(.tmp 1,.clo 160 [])]
abbrev ar:A1:=[AaT,(.tmp 1,.clo 160 []),AU,AT]
def aq[Lk]:Ul→Option (Ul⊕U8⊕(Unit)⊕Unit):=fun(b,c,a,_)=>
 match(ilt a c)with
 |true=>match idx b a with|none=>none|some d=>match cE (d.1,())with|none=>none|some (e,_)=>match(!e)with
  |true=>some (.inr (.inl (a,())))
  |false=>match cE (d.2.1,())with|none=>none|some (f,_)=>match(!f)with
  |true=>some (.inr (.inl (a,())))
  |false=>some (.inl (b,c,(w64 (a+1)),()))
 |false=>some (.inr (.inr (.inl ())))
def QV[Lk]:Ux→Option (U8):=fun(a,_)=>
 match A9 aq many (a,(A4 a),0,())with|none=>none|some r=>match r with
 |.inl (b,_)=>some (b,())
 |.inr r=>match r with
 |.inl _=>some ((-1:Int),())
 |.inr _=>none
def O1[Lk]:=fun v=>Lk.f (QV v)
theorem au v:O1 v=QV v:=A0 _
def N7[Lk]:Ux→Option (Uc):=fun(a,_)=>
 match O1 (a,())with|none=>none|some (b,_)=>some ((ile 0 b),())
def JZ[Lk]:=fun v=>Lk.f (N7 v)
theorem Y7 v:JZ v=N7 v:=A0 _
abbrev Aa4:Loc×Con:=(.tmp 0,.dat (.slice (.prod U0 U4)))
abbrev Qa:A1:=[Aa4,(.tmp 1,.clo 163 [])]
abbrev bB:A1:=[Aa4,(.tmp 1,.clo 163 []),AU,AT]
def bA[Lk]:(List Ug×Int×Int×Unit)→Option ((List Ug×Int×Int×Unit)⊕U8⊕(Unit)⊕Unit):=fun(c,d,a,_)=>
 match(ilt a d)with
 |true=>match idx c a with|none=>none|some b=>match wz (b.1,())with|none=>none|some (e,_)=>match(!e)with
  |true=>some (.inr (.inl (a,())))
  |false=>match cE (b.2.1,())with|none=>none|some (f,_)=>match(!f)with
  |true=>some (.inr (.inl (a,())))
  |false=>match cE (b.2.2.1,())with|none=>none|some (g,_)=>match(!g)with
  |true=>some (.inr (.inl (a,())))
  |false=>some (.inl (c,d,(w64 (a+1)),()))
 |false=>some (.inr (.inr (.inl ())))
def Qb[Lk]:(List Ug×Unit)→Option (U8):=fun(a,_)=>
 match A9 bA many (a,(A4 a),0,())with|none=>none|some r=>match r with
 |.inl (b,_)=>some (b,())
 |.inr r=>match r with
 |.inl _=>some ((-1:Int),())
 |.inr _=>none
def O3[Lk]:=fun v=>Lk.f (Qb v)
theorem bC v:O3 v=Qb v:=A0 _
def N9[Lk]:(List Ug×Unit)→Option (Uc):=fun(a,_)=>
 match O3 (a,())with|none=>none|some (b,_)=>some ((ile 0 b),())
def Mr[Lk]:=fun v=>Lk.f (N9 v)
theorem Y8 v:Mr v=N9 v:=A0 _
abbrev nd:A1:=[(.tmp 0,.dat (.prod U0 (.prod Vb (.prod (.slice (.prod U0 U4)) .unit))))]
def ng[Lk]:((Int×(List U3)×(List Ug)×Unit)×Unit)→Option (Uc):=fun(a,_)=>
 match(ieq a.1 1)with
 |true=>match(ieq (A4 a.2.2.1) 0)with
  |true=>match(ile (A4 a.2.1) 60)with
   |true=>match JZ (a.2.1,())with|none=>none|some (b,_)=>some ((!b),())
   |false=>some (false,())
  |false=>some (false,())
 |false=>match(ieq a.1 2)with
 |true=>match(ieq (A4 a.2.2.1) 0)with
  |true=>match(ile (A4 a.2.1) 60)with
   |true=>match JZ (a.2.1,())with|none=>none|some (c,_)=>some ((!c),())
   |false=>some (false,())
  |false=>some (false,())
 |false=>match(ieq a.1 3)with
 |true=>match(ieq (A4 a.2.1) 0)with
  |true=>match(ile (A4 a.2.2.1) 60)with
   |true=>match Mr (a.2.2.1,())with|none=>none|some (d,_)=>some ((!d),())
   |false=>some (false,())
  |false=>some (false,())
 |false=>some (false,())
def wx[Lk]:=fun v=>Lk.f (ng v)
theorem AGc v:wx v=ng v:=A0 _
abbrev AQ2:A1:=[(.tmp 0,.dat (.prod U0 U4))]
def uI[Lk]:(Ug×Unit)→Option (Ua):=fun(a,_)=>
 match(ieq a.1 1)with
 |true=>some (([a.2.1,a.2.2.1]:List (Int)),())
 |false=>match(ieq a.1 2)with
 |true=>some (([a.2.1]:List (Int)),())
 |false=>match(ieq a.1 3)with
 |true=>some (([a.2.1]:List (Int)),())
 |false=>some (([]:List (Int)),())
def ABp[Lk]:=fun v=>Lk.f (uI v)
theorem AK7 v:ABp v=uI v:=A0 _
abbrev Aa5:Loc×Con:=(.tmp 25,.di)
abbrev AQu:A1:=[AaU,(.tmp 24,.dat (.slice (.prod U0 U4))),Aa5,Ac]
abbrev AQs:BF:=[(.exit 2,[AaU])]
def AQq[Lk]:(List Int×List Ug×Int×Int×Unit)→Option ((List Int×List Ug×Int×Int×Unit)⊕Ua⊕Unit):=fun(a,d,e,b,_)=>
 match(ilt b e)with
 |true=>match idx d b with|none=>none|some c=>match ABp ((c.1,(c.2.1,(c.2.2.1,()))),())with|none=>none|some (f,_)=>match(fits ((A4 a)+(A4 f)))with
  |true=>some (.inl ((BT a f),d,e,(w64 (b+1)),()))
  |false=>none
 |false=>some (.inr (.inl (a,())))
abbrev Aa6:Loc×Con:=(.cell 0 2,.dat (.slice (.prod U0 U4)))
abbrev Aa7:Loc×Con:=(.tmp 1,.box 3)
abbrev AQv:A1:=[Aa7,AO,(.cell 0 1,.dat Vb),Aa6,AaU,(.tmp 9,.dat Vb),Ad,Ae]
abbrev AQt:BF:=[(.exit 0,[Aa7,AO,(.cell 0 1,.dat Vb),Aa6,AaU])]
def AQr[Lk]:(Int×List U3×List Ug×List Int×List U3×Int×Int×Unit)→Option ((Int×List U3×List Ug×List Int×List U3×Int×Int×Unit)⊕(Int×List U3×List Ug×List Int×Unit)⊕Unit):=fun(d,e,f,b,g,h,c,_)=>
 match(ilt c h)with
 |true=>match idx g c with|none=>none|some a=>match(fits ((A4 b)+(A4 ([a.1,a.2.1]:List (Int)))))with
  |true=>some (.inl (d,e,f,(BT b ([a.1,a.2.1]:List (Int))),g,h,(w64 (c+1)),()))
  |false=>none
 |false=>some (.inr (.inl (d,e,f,b,())))
def AFT[Lk]:((Int×(List U3)×(List Ug)×Unit)×Unit)→Option (Ua):=fun(a,_)=>
 match A9 AQr many (a.1,a.2.1,a.2.2.1,([]:List (Int)),a.2.1,(A4 a.2.1),0,())with|none=>none|some r=>match r with
 |.inl (e,f,b,c,_)=>match A9 AQq many (c,b,(A4 b),0,())with|none=>none|some r=>match r with
  |.inl (d,_)=>some (d,())
  |.inr _=>none
 |.inr _=>none
def AQx[Lk]:=fun v=>Lk.f (AFT v)
theorem AQw v:AQx v=AFT v:=A0 _
def AFG[Lk]:U8→Option (Uc):=fun(a,_)=>
 match(ile 0 a)with
 |true=>some ((ilt a 65536),())
 |false=>some (false,())
def AFI[Lk]:=fun v=>Lk.f (AFG v)
theorem AQE v:AFI v=AFG v:=A0 _
abbrev AQA:A1:=[(.tmp 0,.dat U4)]
abbrev AWL:A1:=[AA,Aw]
def AQB[Lk]:(U3×Unit)→Option ((Int×Bool×Unit)):=fun(a,_)=>
 match AFI (a.1,())with|none=>none|some (b,_)=>match(!b)with
 |true=>some (0,false,())
 |false=>match AFI (a.2.1,())with|none=>none|some (c,_)=>match(!c)with
 |true=>some (0,false,())
 |false=>match shl? .u32 (IntKind.wrap .u32 (Cb a.1 a.2.1)) 16 with|none=>none|some d=>some ((IntKind.wrap .u32 ((BitVec.ofInt (IntKind.bits .u32) d ||| BitVec.ofInt (IntKind.bits .u32) (IntKind.wrap .u32 (imax a.1 a.2.1))).toNat)),true,())
def AWM[Lk]:=fun v=>Lk.f (AQB v)
theorem AT9 v:AWM v=AQB v:=A0 _
def AFJ[Lk]:U8→Option ((U3×Unit)):=fun(a,_)=>
 match shr? .u32 a 16 with|none=>none|some b=>some (((w64 b),((w64 (IntKind.wrap .u16 a)),())),())
def AQI[Lk]:=fun v=>Lk.f (AFJ v)
theorem AQH v:AQI v=AFJ v:=A0 _
abbrev fH:A1:=[Aan]
abbrev Aa8:Loc×Con:=(.tmp 0,.own 4 .bool)
abbrev AKA:A1:=[Aa8]
abbrev AA2:A1:=[Aan,Aaj,(.tmp 9,.dat V6),Ad,Ae]
abbrev AA1:BF:=[(.exit 0,[Aaj])]
def AA0[Lk]:(List Int×List Bool×List Int×Int×Int×Unit)→Option ((List Int×List Bool×List Int×Int×Int×Unit)⊕(List Bool×Unit)⊕Unit):=fun(c,b,d,e,a,_)=>
 match(ilt a e)with
 |true=>match idx d a with|none=>none|some f=>match(ieq a 0)with
  |true=>match idx b a with|none=>none|some h=>some (.inl (c,(BH b (A3 a) true),d,e,(w64 (a+1)),()))
  |false=>match idx c (w64 (a-1))with|none=>none|some g=>match idx b a with|none=>none|some i=>some (.inl (c,(BH b (A3 a) (!(ieq g f))),d,e,(w64 (a+1)),()))
 |false=>some (.inr (.inl (b,())))
def fI[Lk]:Ua→Option ((List Bool×Unit)):=fun(a,_)=>
 match(CZ (A4 a)&&CZ (A4 a)&&ile (A4 a) (A4 a)&&true)with
 |true=>match A9 AA0 many (a,(DD (A3 (A4 a)) false),a,(A4 a),(0:Int),())with|none=>none|some r=>match r with
  |.inl (b,_)=>some (b,())
  |.inr _=>none
 |false=>none
def kv[Lk]:=fun v=>Lk.f (fI v)
theorem AA3 v:kv v=fI v:=A0 _
def dJ[Lk]:U8→Option (U8):=fun(a,_)=>
 match(ilt a 1)with
 |true=>some (0,())
 |false=>match(ilt 16 a)with
 |true=>some (0,())
 |false=>match quo? .i64 (w64 ((w64 (32+a))-1)) a with|none=>none|some b=>some (b,())
def Vz[Lk]:=fun v=>Lk.f (dJ v)
theorem yF v:Vz v=dJ v:=A0 _
def pT[Lk]:U3→Option (Uc):=fun(a,b,_)=>
 match(ile 0 a)with
 |true=>match Vz (b,())with|none=>none|some (c,_)=>some ((ilt a c),())
 |false=>some (false,())
def xz[Lk]:=fun v=>Lk.f (pT v)
theorem AHo v:xz v=pT v:=A0 _
abbrev ANC:A1:=[AA,AI,AJ]
def pj[Lk]:Ug→Option (U8):=fun(c,b,a,_)=>
 match xz (b,a,())with|none=>none|some (d,_)=>match(!d)with
 |true=>some (0,())
 |false=>match shr? .u32 c (IntKind.wrap .u64 (w64 (b*a)))with|none=>none|some e=>match shl? .u32 1 (IntKind.wrap .u64 a)with|none=>none|some f=>some ((IntKind.wrap .u32 ((BitVec.ofInt (IntKind.bits .u32) e &&& BitVec.ofInt (IntKind.bits .u32) (IntKind.wrap .u32 (f-1))).toNat)),())
def jY[Lk]:=fun v=>Lk.f (pj v)
theorem AH0 v:jY v=pj v:=A0 _
abbrev AM1:A1:=[AE,AI,(.tmp 5,.map U0 U0),(.tmp 9,.dat U6),Ad,Ae]
abbrev AM0:BF:=[(.ret,[AH]),(.exit 0,[AE,AI])]
def AMz[Lk]:(List Int×Int×List Uz×List Int×Int×Int×Unit)→Option ((List Int×Int×List Uz×List Int×Int×Int×Unit)⊕Uc⊕Uh⊕Unit):=fun(e,c,b,f,g,d,_)=>
 match(ilt d g)with
 |true=>match idx f d with|none=>none|some a=>match(ilt a 0)with
  |true=>some (.inr (.inl (false,())))
  |false=>match(ile c a)with
  |true=>some (.inr (.inl (false,())))
  |false=>match(ilt 1 ((BA (BP b a (w64 (((BA b a).getD 0)+1))) a).getD 0))with
  |true=>some (.inr (.inl (false,())))
  |false=>some (.inl (e,c,(BP b a (w64 (((BA b a).getD 0)+1))),f,g,(w64 (d+1)),()))
 |false=>some (.inr (.inr (.inl (e,c,()))))
def ADY[Lk]:Uh→Option (Uc):=fun(a,b,_)=>
 match A9 AMz many (a,b,([]:List Uz),a,(A4 a),0,())with|none=>none|some r=>match r with
 |.inl (c,_)=>some (c,())
 |.inr r=>match r with
 |.inl (d,e,_)=>some ((ieq (A4 d) e),())
 |.inr _=>none
def AM3[Lk]:=fun v=>Lk.f (ADY v)
theorem AM2 v:AM3 v=ADY v:=A0 _
abbrev AWp:A1:=[Aan,AD,AJ,AX]
abbrev Aa9:Loc×Con:=(.tmp 13,.own 3 U0)
abbrev AbA:Loc×Con:=(.tmp 9,.own 3 U0)
abbrev AVZ:A1:=[Aan,AJ,AX,AbA,Aa9,(.tmp 63,.dat U6),(.tmp 64,.di),(.tmp 65,.di)]
abbrev AVW:BF:=[(.exit 4,[Aa9])]
def AVT[Lk]:(List Int×Int×Int×List Int×List Int×List Int×Int×Int×Unit)→Option ((List Int×Int×Int×List Int×List Int×List Int×Int×Int×Unit)⊕Ua⊕Unit):=fun(e,f,g,a,c,h,i,d,_)=>
 match(ilt d i)with
 |true=>match idx h d with|none=>none|some j=>match idx e j with|none=>none|some k=>match jY (k,f,g,())with|none=>none|some (b,_)=>match idx a b with|none=>none|some l=>match idx c (A7 a (A3 b) 0)with|none=>none|some m=>match idx a b with|none=>none|some n=>match idx a b with|none=>none|some o=>some (.inl (e,f,g,(BH a (A3 b) (w64 ((A7 a (A3 b) 0)+1))),(BH c (A3 (A7 a (A3 b) 0)) j),h,i,(w64 (d+1)),()))
 |false=>some (.inr (.inl (c,())))
abbrev AVa:A1:=[Aan,AD,AJ,AX,AbA,(.tmp 44,.di),Aak]
abbrev AVX:BF:=[(.exit 2,[Aan,AD,AJ,AX,AbA])]
def AVU[Lk]:(List Int×List Int×Int×Int×List Int×Int×Int×Unit)→Option ((List Int×List Int×Int×Int×List Int×Int×Int×Unit)⊕(List Int×List Int×Int×Int×List Int×Unit)⊕Unit):=fun(c,d,e,f,b,g,a,_)=>
 match(ilt a g)with
 |true=>match idx b (w64 (a+1))with|none=>none|some h=>match idx b a with|none=>none|some i=>match idx b (w64 (a+1))with|none=>none|some j=>some (.inl (c,d,e,f,(BH b (A3 (w64 (a+1))) (w64 ((A7 b (A3 (w64 (a+1))) 0)+(A7 b (A3 a) 0)))),g,(w64 (a+1)),()))
 |false=>some (.inr (.inl (c,d,e,f,b,())))
abbrev AbB:Loc×Con:=(.tmp 24,.di)
abbrev AVb:A1:=[Aan,AD,AJ,AX,AbA,(.tmp 22,.dat U6),(.tmp 23,.di),AbB]
abbrev AVY:BF:=[(.exit 0,[Aan,AD,AJ,AX,AbA])]
def AVV[Lk]:Vh→Option (Vh⊕(List Int×List Int×Int×Int×List Int×Unit)⊕Unit):=fun(c,g,d,e,a,h,i,f,_)=>
 match(ilt f i)with
 |true=>match idx h f with|none=>none|some j=>match idx c j with|none=>none|some k=>match jY (k,d,e,())with|none=>none|some (b,_)=>match idx a (IntKind.wrap .u32 (b+1))with|none=>none|some l=>match idx a (IntKind.wrap .u32 (b+1))with|none=>none|some m=>some (.inl (c,g,d,e,(BH a (A3 (IntKind.wrap .u32 (b+1))) (w64 ((A7 a (A3 (IntKind.wrap .u32 (b+1))) 0)+1))),h,i,(w64 (f+1)),()))
 |false=>some (.inr (.inl (c,g,d,e,a,())))
def AUi[Lk]:Va→Option (Ua):=fun(f,c,g,d,_)=>
 match shl? .i64 1 (IntKind.wrap .u64 d)with|none=>none|some b=>match(CZ (w64 (b+1))&&CZ (w64 (b+1))&&ile (w64 (b+1)) (w64 (b+1))&&true)with
 |true=>match A9 AVV many (f,c,g,d,(DD (A3 (w64 (b+(1:Int)))) (0:Int)),c,(A4 c),(0:Int),())with|none=>none|some r=>match r with
  |.inl (h,i,j,k,e,_)=>match A9 AVU many (h,i,j,k,e,(w64 ((A4 e)-1)),0,())with|none=>none|some r=>match r with
   |.inl (l,a,m,n,o,_)=>match(CZ (A4 a)&&CZ (A4 a)&&ile (A4 a) (A4 a)&&true)with
    |true=>match A9 AVT many (l,m,n,o,(DD (A3 (A4 a)) (0:Int)),a,(A4 a),(0:Int),())with|none=>none|some r=>match r with
     |.inl (p,_)=>some (p,())
     |.inr _=>none
    |false=>none
   |.inr _=>none
  |.inr _=>none
 |false=>none
def rby[Lk]:=fun v=>Lk.f (AUi v)
theorem AVc v:rby v=AUi v:=A0 _
def TA[Lk]:U3→Option (Uc):=fun(a,b,_)=>
 match(ile 1 a)with
 |true=>match(ile a 1000)with
  |true=>match(ile 1 b)with
   |true=>some ((ile b 100),())
   |false=>some (false,())
  |false=>some (false,())
 |false=>some (false,())
def NM[Lk]:=fun v=>Lk.f (TA v)
theorem ig v:NM v=TA v:=A0 _
abbrev AbC:Loc×Con:=(.tmp 0,.dat (.prod Ve (.prod U0 (.prod V1 .unit))))
abbrev AHG:A1:=[AbC]
abbrev AbD:Loc×Con:=(.cell 0 2,.dat V1)
abbrev AbE:Loc×Con:=(.cell 0 0,.dat Ve)
abbrev AbF:Loc×Con:=(.cell 0 1,.di)
abbrev xQ:A1:=[Aa7,AbE,AbF,AbD,(.tmp 25,.dat Ve),Ac,Ab]
def xP[Lk]:(List U7×Int×List Bool×List U7×Int×Int×Unit)→Option ((List U7×Int×List Bool×List U7×Int×Int×Unit)⊕Uc⊕(Unit)⊕Unit):=fun(f,g,c,d,e,b,_)=>
 match(ilt b e)with
 |true=>match idx d b with|none=>none|some a=>match(ilt a.1 0)with
  |true=>some (.inr (.inl (false,())))
  |false=>match(ile a.2.1 a.1)with
  |true=>some (.inr (.inl (false,())))
  |false=>match(ilt (A4 c) a.2.1)with
  |true=>some (.inr (.inl (false,())))
  |false=>match(ilt a.2.2.1 (-1:Int))with
  |true=>some (.inr (.inl (false,())))
  |false=>match(ile b a.2.2.1)with
  |true=>some (.inr (.inl (false,())))
  |false=>match(ilt a.2.2.2.1 0)with
  |true=>some (.inr (.inl (false,())))
  |false=>match(ilt 2 a.2.2.2.1)with
  |true=>some (.inr (.inl (false,())))
  |false=>some (.inl (f,g,c,d,e,(w64 (b+1)),()))
 |false=>some (.inr (.inr (.inl ())))
def ca[Lk]:(((List U7)×Int×(List Bool)×Unit)×Unit)→Option (Uc):=fun(a,_)=>
 match NM ((A4 a.2.2.1),a.2.1,())with|none=>none|some (b,_)=>match(!b)with
 |true=>some (false,())
 |false=>match(ieq (A4 a.1) 0)with
 |true=>some (false,())
 |false=>match(ilt 2000 (A4 a.1))with
 |true=>some (false,())
 |false=>match A9 xP many (a.1,a.2.1,a.2.2.1,a.1,(A4 a.1),0,())with|none=>none|some r=>match r with
 |.inl (c,_)=>some (c,())
 |.inr r=>match r with
 |.inl _=>some (true,())
 |.inr _=>none
def Vv[Lk]:=fun v=>Lk.f (ca v)
theorem xR v:Vv v=ca v:=A0 _
abbrev Ju:A1:=[AbC,AI]
def cY[Lk]:(((List U7)×Int×(List Bool)×Unit)×Int×Unit)→Option (U8):=fun(a,b,_)=>
 match Vv ((a.1,(a.2.1,(a.2.2.1,()))),())with|none=>none|some (c,_)=>match(!c)with
 |true=>some (1,())
 |false=>match(ilt b 0)with
 |true=>some (6,())
 |false=>match(ile (A4 a.1) b)with
 |true=>some (6,())
 |false=>some (0,())
def PZ[Lk]:=fun v=>Lk.f (cY v)
theorem xO v:PZ v=cY v:=A0 _
abbrev AHF:A1:=[(.tmp 0,.dat Ud)]
def cW[Lk]:(U7×Unit)→Option (U8):=fun(a,_)=>
 some ((w64 (a.2.1-a.1)),())
def NL[Lk]:=fun v=>Lk.f (cW v)
theorem xN v:NL v=cW v:=A0 _
def cd[Lk]:(((List U7)×Int×(List Bool)×Unit)×Int×Unit)→Option (Uc):=fun(a,c,_)=>
 match PZ ((a.1,(a.2.1,(a.2.2.1,()))),c,())with|none=>none|some (d,_)=>match(ieq d 0)with
 |true=>match idx a.1 c with|none=>none|some b=>match NL ((b.1,(b.2.1,(b.2.2.1,(b.2.2.2.1,())))),())with|none=>none|some (e,_)=>some ((ilt a.2.1 e),())
 |false=>some (false,())
def Vw[Lk]:=fun v=>Lk.f (cd v)
theorem xT v:Vw v=cd v:=A0 _
abbrev AbG:Loc×Con:=(.tmp 0,.own 212 Ud)
abbrev AHI:A1:=[AbG,AI,(.tmp 2,.own 4 .bool),AX]
def cg[Lk]:U3→Option ((List U7×Int×List Bool×Int×Unit)):=fun(a,b,_)=>
 match NM (a,b,())with|none=>none|some (c,_)=>match(!c)with
 |true=>some (([]:List U7),0,([]:List (Bool)),1,())
 |false=>match(CZ a&&CZ a&&ile a a&&true)with
 |true=>some (([((0:Int),(a,((-1:Int),((0:Int),()))))]:List U7),b,(DD (A3 a) false),(0:Int),())
 |false=>none
def ij[Lk]:=fun v=>Lk.f (cg v)
theorem xW v:ij v=cg v:=A0 _
abbrev AL1:A1:=[(.tmp 0,.dat Ve),AI,(.tmp 2,.dat V1),AX,AW,AG]
abbrev AL0:List RS:=[.agg 3,.one,.one,.one]
def oL[Lk]:(((List U7)×Int×(List Bool)×Unit)×Int×Unit)→Option ((List U7×Int×List Bool×Int×Int×Int×Unit)):=fun(b,c,_)=>
 match PZ ((b.1,(b.2.1,(b.2.2.1,()))),c,())with|none=>none|some (f,_)=>match(!(ieq f 0))with
 |true=>some (b.1,b.2.1,b.2.2.1,0,0,f,())
 |false=>match idx b.1 c with|none=>none|some a=>match NL ((a.1,(a.2.1,(a.2.2.1,(a.2.2.2.1,())))),())with|none=>none|some (g,_)=>match(ile g b.2.1)with
 |true=>some (b.1,b.2.1,b.2.2.1,0,0,5,())
 |false=>match(ilt 0 a.2.2.2.1)with
 |true=>some (b.1,b.2.1,b.2.2.1,0,0,5,())
 |false=>match(ilt 2000 (w64 ((A4 b.1)+2)))with
 |true=>some (b.1,b.2.1,b.2.2.1,0,0,2,())
 |false=>match NL ((a.1,(a.2.1,(a.2.2.1,(a.2.2.2.1,())))),())with|none=>none|some (h,_)=>match quo? .i64 h 2 with|none=>none|some d=>match HP b.1 with|none=>none|some e=>match(fits ((A4 e)+(A4 ([(a.1,((w64 (a.1+d)),(c,(0,())))),((w64 (a.1+d)),(a.2.1,(c,(0,()))))]:List U7))))with
 |true=>match idx (BT e ([(a.1,((w64 (a.1+d)),(c,(0,())))),((w64 (a.1+d)),(a.2.1,(c,(0,()))))]:List U7)) c with|none=>none|some i=>some ((BH (BT e ([(a.1,((w64 (a.1+d)),(c,(0,())))),((w64 (a.1+d)),(a.2.1,(c,(0,()))))]:List U7)) (A3 c) ((A7 (BT e ([(a.1,((w64 (a.1+d)),(c,(0,())))),((w64 (a.1+d)),(a.2.1,(c,(0,()))))]:List U7)) (A3 c) (0,(0,(0,(0,()))))).1,((A7 (BT e ([(a.1,((w64 (a.1+d)),(c,(0,())))),((w64 (a.1+d)),(a.2.1,(c,(0,()))))]:List U7)) (A3 c) (0,(0,(0,(0,()))))).2.1,((A7 (BT e ([(a.1,((w64 (a.1+d)),(c,(0,())))),((w64 (a.1+d)),(a.2.1,(c,(0,()))))]:List U7)) (A3 c) (0,(0,(0,(0,()))))).2.2.1,(2,()))))),b.2.1,b.2.2.1,(A4 b.1),(w64 ((A4 b.1)+1)),0,())
 |false=>none
def xS[Lk]:=fun v=>Lk.f (oL v)
theorem AHH v:xS v=oL v:=A0 _
abbrev xV:A1:=[AbG,AI]
abbrev AbH:Loc×Con:=(.obj 0,.own 212 Ud)
abbrev xU:A1:=[AbH,AF]
abbrev oP:A1:=[AbH,An,AI]
abbrev oO:BF:=[(.ret,[AbH,AH]),(.exit 0,[AbH])]
def oN[Lk]:(List U7×Int×Unit)→Option ((List U7×Int×Unit)⊕(List U7×Bool×Unit)⊕(List U7×Unit)⊕Unit):=fun(b,a,_)=>
 match(!(ieq a (-1:Int)))with
 |true=>match idx b a with|none=>none|some c=>match(ieq (A7 b (A3 a) (0,(0,(0,(0,()))))).2.2.2.1 0)with
  |true=>some (.inr (.inl (b,false,())))
  |false=>match(ilt 0 (A7 (BH b (A3 a) ((A7 b (A3 a) (0,(0,(0,(0,()))))).1,((A7 b (A3 a) (0,(0,(0,(0,()))))).2.1,((A7 b (A3 a) (0,(0,(0,(0,()))))).2.2.1,((w64 ((A7 b (A3 a) (0,(0,(0,(0,()))))).2.2.2.1-1)),()))))) (A3 a) (0,(0,(0,(0,()))))).2.2.2.1)with
  |true=>some (.inr (.inl ((BH b (A3 a) ((A7 b (A3 a) (0,(0,(0,(0,()))))).1,((A7 b (A3 a) (0,(0,(0,(0,()))))).2.1,((A7 b (A3 a) (0,(0,(0,(0,()))))).2.2.1,((w64 ((A7 b (A3 a) (0,(0,(0,(0,()))))).2.2.2.1-1)),()))))),false,())))
  |false=>some (.inl ((BH b (A3 a) ((A7 b (A3 a) (0,(0,(0,(0,()))))).1,((A7 b (A3 a) (0,(0,(0,(0,()))))).2.1,((A7 b (A3 a) (0,(0,(0,(0,()))))).2.2.1,((w64 ((A7 b (A3 a) (0,(0,(0,(0,()))))).2.2.2.1-1)),()))))),(A7 (BH b (A3 a) ((A7 b (A3 a) (0,(0,(0,(0,()))))).1,((A7 b (A3 a) (0,(0,(0,(0,()))))).2.1,((A7 b (A3 a) (0,(0,(0,(0,()))))).2.2.1,((w64 ((A7 b (A3 a) (0,(0,(0,(0,()))))).2.2.2.1-1)),()))))) (A3 a) (0,(0,(0,(0,()))))).2.2.1,()))
 |false=>some (.inr (.inr (.inl (b,()))))
def Wt[Lk]:(List U7×Int×Unit)→Option ((List U7×Bool×Unit)):=fun(a,b,_)=>
 match A9 oN many (a,b,())with|none=>none|some r=>match r with
 |.inl (c,d,_)=>some (c,d,())
 |.inr r=>match r with
 |.inl (e,_)=>some (e,true,())
 |.inr _=>none
def Wv[Lk]:=fun v=>Lk.f (Wt v)
theorem oQ v:Wv v=Wt v:=A0 _
abbrev AVH:A1:=[(.tmp 0,.dat Ve),AI,(.tmp 2,.dat V1),(.tmp 3,.dat .bool),AW]
abbrev AL2:List RS:=[.agg 3,.one,.one]
abbrev AbI:Loc×Con:=(.tmp 2,.box 3)
abbrev AR8:A1:=[AbI,(.cell 0 0,.own 212 Ud),AbF,(.cell 0 2,.own 4 .bool),Aax,(.cell 3 0,.nil Ud),(.cell 3 1,.di),(.cell 3 2,.nil .bool),(.tmp 8,.box 4),(.cell 4 0,.di),(.cell 4 1,.di),(.cell 4 2,.di),(.cell 4 3,.di),Ah]
abbrev AR7:BF:=[(.exit 0,[AbI,(.cell 0 0,.own 212 Ud),AbF,(.cell 0 2,.own 4 .bool),Aax,(.cell 3 0,.nil Ud),(.cell 3 1,.di),(.cell 3 2,.nil .bool),(.tmp 8,.box 4),(.cell 4 0,.di),(.cell 4 1,.di),(.cell 4 2,.di),(.cell 4 3,.di)])]
def AR6[Lk]:(List U7×Int×List Bool×Int×Int×Int×Int×Int×Int×Unit)→Option ((List U7×Int×List Bool×Int×Int×Int×Int×Int×Int×Unit)⊕(List U7×Int×List Bool×Int×Int×Int×Int×Int×Unit)⊕Unit):=fun(d,e,b,f,g,c,h,i,a,_)=>
 match(ilt a c)with
 |true=>match idx b a with|none=>none|some j=>some (.inl (d,e,(BH b (A3 a) true),f,g,c,h,i,(w64 (a+1)),()))
 |false=>some (.inr (.inl (d,e,b,f,g,c,h,i,())))
def AL3[Lk]:(((List U7)×Int×(List Bool)×Unit)×Int×Unit)→Option ((List U7×Int×List Bool×Bool×Int×Unit)):=fun(a,c,_)=>
 match PZ ((a.1,(a.2.1,(a.2.2.1,()))),c,())with|none=>none|some (d,_)=>match(!(ieq d 0))with
 |true=>some (a.1,a.2.1,a.2.2.1,false,d,())
 |false=>match idx a.1 c with|none=>none|some b=>match NL ((b.1,(b.2.1,(b.2.2.1,(b.2.2.2.1,())))),())with|none=>none|some (e,_)=>match(ilt a.2.1 e)with
 |true=>some (a.1,a.2.1,a.2.2.1,false,5,())
 |false=>match(ilt 0 b.2.2.2.1)with
 |true=>some (a.1,a.2.1,a.2.2.1,false,5,())
 |false=>match idx a.2.2.1 b.1 with|none=>none|some f=>match f with
 |true=>some (a.1,a.2.1,a.2.2.1,false,5,())
 |false=>match HP a.1 with|none=>none|some g=>match HP a.2.2.1 with|none=>none|some h=>match A9 AR6 many (g,a.2.1,h,0,b.1,b.2.1,b.2.2.1,b.2.2.2.1,b.1,())with|none=>none|some r=>match r with
 |.inl (i,j,k,o,p,q,l,s,_)=>match Wv (i,l,())with|none=>none|some (m,n,_)=>some (m,j,k,n,0,())
 |.inr _=>none
def AVI[Lk]:=fun v=>Lk.f (AL3 v)
theorem AR9 v:AVI v=AL3 v:=A0 _
def ZE[Lk]:U8→Option (Uc):=fun(a,_)=>
 match(ile 0 a)with
 |true=>some ((ile a 100000),())
 |false=>some (false,())
def Q6[Lk]:=fun v=>Lk.f (ZE v)
theorem tj v:Q6 v=ZE v:=A0 _
def tc[Lk]:(((List U7)×Int×(List Bool)×Unit)×Int×Unit)→Option (Uc):=fun(a,b,_)=>
 match(ile 0 b)with
 |true=>match(ilt b (A4 a.1))with
  |true=>match idx a.1 b with|none=>none|some c=>match(ieq c.2.2.2.1 0)with
   |true=>match Vw ((a.1,(a.2.1,(a.2.2.1,()))),b,())with|none=>none|some (d,_)=>match d with
    |true=>some (true,())
    |false=>match idx a.1 b with|none=>none|some e=>match idx a.2.2.1 e.1 with|none=>none|some f=>some ((!f),())
   |false=>some (false,())
  |false=>some (false,())
 |false=>some (false,())
def ABW[Lk]:=fun v=>Lk.f (tc v)
theorem AKn v:ABW v=tc v:=A0 _
abbrev AbJ:Loc×Con:=(.tmp 0,.dat Vl)
abbrev tF:A1:=[AbJ]
abbrev AbK:Loc×Con:=(.cell 0 4,.dat .bool)
abbrev AbL:Loc×Con:=(.cell 0 3,.dat Ue)
abbrev AbM:Loc×Con:=(.cell 0 6,.di)
abbrev AbN:Loc×Con:=(.cell 0 5,.di)
abbrev AbO:Loc×Con:=(.tmp 39,.di)
abbrev AbP:Loc×Con:=(.tmp 46,.di)
abbrev AKR:A1:=[(.tmp 1,.box 7),AbE,AbF,AbD,AbL,AbK,AbN,AbM,Af,(.tmp 38,.dat Ue),AbO,(.tmp 40,.di),(.tmp 44,.dat U6),Aak,AbP]
abbrev AKQ:BF:=[(.ret,[AK]),(.exit 2,[(.tmp 1,.box 7),AbE,AbF,AbD,AbL,AbK,AbN,AbM,Af,(.tmp 38,.dat Ue),AbO,(.tmp 40,.di)])]
def AKO[Lk]:(List U7×Int×List Bool×List U5×Bool×Int×Int×List Uz×List U5×Int×Int×List Int×Int×Int×Unit)→Option ((List U7×Int×List Bool×List U5×Bool×Int×Int×List Uz×List U5×Int×Int×List Int×Int×Int×Unit)⊕Uc⊕Vm⊕Unit):=fun(c,d,e,g,h,i,j,b,k,l,m,n,o,f,_)=>
 match(ilt f o)with
 |true=>match idx n f with|none=>none|some a=>match(ilt 1 ((BA (BP b a (w64 (((BA b a).getD 0)+1))) a).getD 0))with
  |true=>some (.inr (.inl (false,())))
  |false=>match ABW ((c,(d,(e,()))),a,())with|none=>none|some (p,_)=>match(!p)with
  |true=>some (.inr (.inl (false,())))
  |false=>some (.inl (c,d,e,g,h,i,j,(BP b a (w64 (((BA b a).getD 0)+1))),k,l,m,n,o,(w64 (f+1)),()))
 |false=>some (.inr (.inr (.inl (c,d,e,g,h,i,j,b,k,l,m,()))))
abbrev AKS:A1:=[(.tmp 1,.box 7),AbE,AbF,AbD,AbL,AbK,AbN,AbM,Af,(.tmp 38,.dat Ue),AbO,(.tmp 40,.di)]
def AKP[Lk]:Vm→Option (Vm⊕Uc⊕(Unit)⊕Unit):=fun(e,f,g,h,i,j,k,l,b,c,a,_)=>
 match(ilt a c)with
 |true=>match idx b a with|none=>none|some d=>match A9 AKO many (e,f,g,h,i,j,k,l,b,c,a,d,(A4 d),0,())with|none=>none|some r=>match r with
  |.inl (m,_)=>some (.inr (.inl (m,())))
  |.inr r=>match r with
  |.inl (n,o,p,q,s,t,u,v,w,x,y,_)=>some (.inl (n,o,p,q,s,t,u,v,w,x,(w64 (y+1)),()))
  |.inr _=>none
 |false=>some (.inr (.inr (.inl ())))
def tG[Lk]:((((List U7)×Int×(List Bool)×Unit)×(List U5)×Bool×Int×Int×Unit)×Unit)→Option (Uc):=fun(a,_)=>
 match Vv ((a.1.1,(a.1.2.1,(a.1.2.2.1,()))),())with|none=>none|some (b,_)=>match(!b)with
 |true=>some (false,())
 |false=>match(ieq (A4 a.2.1) 0)with
 |true=>some (false,())
 |false=>match(ilt 8 (A4 a.2.1))with
 |true=>some (false,())
 |false=>match Q6 (a.2.2.2.1,())with|none=>none|some (c,_)=>match(!c)with
 |true=>some (false,())
 |false=>match Q6 (a.2.2.2.2.1,())with|none=>none|some (d,_)=>match(!d)with
 |true=>some (false,())
 |false=>match A9 AKP many (a.1.1,a.1.2.1,a.1.2.2.1,a.2.1,a.2.2.1,a.2.2.2.1,a.2.2.2.2.1,([]:List Uz),a.2.1,(A4 a.2.1),0,())with|none=>none|some r=>match r with
 |.inl (e,_)=>some (e,())
 |.inr r=>match r with
 |.inl _=>some (true,())
 |.inr _=>none
def AA9[Lk]:=fun v=>Lk.f (tG v)
theorem AKT v:AA9 v=tG v:=A0 _
abbrev AQg:A1:=[AbG,AI,(.tmp 2,.own 4 .bool),(.tmp 3,.own 36 U6),AH,AG,Aab,AU]
abbrev AQf:List RS:=[.agg 7,.one]
def tn[Lk]:Ug→Option ((List U7×Int×List Bool×List U5×Bool×Int×Int×Int×Unit)):=fun(c,d,a,_)=>
 match(ilt a 1)with
 |true=>some (([]:List U7),0,([]:List (Bool)),([]:List U5),false,0,0,1,())
 |false=>match(ilt 8 a)with
 |true=>some (([]:List U7),0,([]:List (Bool)),([]:List U5),false,0,0,1,())
 |false=>match ij (c,d,())with|none=>none|some (e,f,g,b,_)=>match(!(ieq b 0))with
 |true=>some (([]:List U7),0,([]:List (Bool)),([]:List U5),false,0,0,b,())
 |false=>match(CZ a&&CZ a&&ile a a&&true)with
 |true=>match idx (DD (A3 a) ()) (0:Int)with|none=>none|some h=>match(fits (A4 ([0]:List (Int))))with
  |true=>match idx (DD (A3 a) ()) (0:Int)with|none=>none|some i=>some (e,f,g,(BH (DD (List.length (DD (A3 a) ())) []) 0 ([(0:Int)]:List (Int))),false,(0:Int),(0:Int),(0:Int),())
  |false=>none
 |false=>none
def ABY[Lk]:=fun v=>Lk.f (tn v)
theorem AKq v:ABY v=tn v:=A0 _
abbrev AQa:A1:=[AJ,(.tmp 6,.dat Ue),AU,AT]
abbrev AQZ:BF:=[(.exit 0,[AJ])]
def AQY[Lk]:(Int×List U5×Int×Int×Unit)→Option ((Int×List U5×Int×Int×Unit)⊕U8⊕Unit):=fun(b,c,d,a,_)=>
 match(ilt a d)with
 |true=>match idx c a with|none=>none|some e=>some (.inl ((w64 (b+(A4 e))),c,d,(w64 (a+1)),()))
 |false=>some (.inr (.inl (b,())))
def AFP[Lk]:((((List U7)×Int×(List Bool)×Unit)×(List U5)×Bool×Int×Int×Unit)×Unit)→Option (U8):=fun(a,_)=>
 match A9 AQY many (0,a.2.1,(A4 a.2.1),0,())with|none=>none|some r=>match r with
 |.inl (b,_)=>some (b,())
 |.inr _=>none
def AQc[Lk]:=fun v=>Lk.f (AFP v)
theorem AQb v:AQc v=AFP v:=A0 _
abbrev AbQ:Loc×Con:=(.cell 0 10,.dat .bool)
abbrev AbR:Loc×Con:=(.cell 0 3,.own 36 U6)
abbrev AbS:Loc×Con:=(.cell 0 8,.di)
abbrev AbT:Loc×Con:=(.cell 0 9,.di)
abbrev AbU:Loc×Con:=(.cell 0 7,.di)
abbrev fO:A1:=[(.tmp 0,.box 11),AbE,AbF,AbD,AbR,AbK,AbN,AbM,AbU,AbS,AbT,AbQ,AI]
abbrev AbV:Loc×Con:=(.obj 1,.own' 1)
abbrev fN:A1:=[(.obj 0,.box 11),AbE,AbF,AbD,AbR,AbK,AbN,AbM,AbU,AbS,AbT,AbQ,AbV,AB]
def fP[Lk]:V8→Option (V8):=fun(b,c,d,a,e,f,g,h,i,j,k,l,_)=>
 match rem? l (A4 a)with|none=>none|some m=>match rem? (w64 (m+(A4 a))) (A4 a)with|none=>none|some n=>some (b,c,d,a,e,f,g,h,i,j,k,n,())
def WK[Lk]:=fun v=>Lk.f (fP v)
theorem ABP v:WK v=fP v:=A0 _
abbrev AQe:A1:=[(.tmp 0,.box 11),AbE,AbF,AbD,AbR,AbK,AbN,AbM,AbU,AbS,AbT,AbQ,AI,AJ]
abbrev AQd:A1:=[(.obj 0,.box 11),AbE,AbF,AbD,AbR,AbK,AbN,AbM,AbU,AbS,AbT,AbQ,AbV,AF]
def th[Lk]:(List U7×Int×List Bool×List U5×Bool×Int×Int×Int×Int×Int×Bool×Int×Int×Unit)→Option ((List U7×Int×List Bool×List U5×Bool×Int×Int×Int×Int×Int×Bool×Bool×Unit)):=fun(d,e,f,a,g,h,i,j,l,m,k,b,c,_)=>
 match idx a b with|none=>none|some r=>match idx a c with|none=>none|some s=>match(ile 0 (w64 ((A4 (A7 a (A3 b) ([]:List (Int))))-1)))with
 |true=>match idx (A7 a (A3 b) ([]:List (Int))) (w64 ((A4 (A7 a (A3 b) ([]:List (Int))))-1))with|none=>none|some n=>match(ieq (w64 ((A4 (A7 a (A3 b) ([]:List (Int))))-1)) (w64 ((A4 (A7 a (A3 b) ([]:List (Int))))-1)))with
  |true=>match Cv (A7 a (A3 b) ([]:List (Int))) 0 (w64 ((A4 (A7 a (A3 b) ([]:List (Int))))-1))with|none=>none|some o=>match idx a b with|none=>none|some t=>some (d,e,f,(BH a (A3 b) o),g,h,i,j,b,n,k,true,())
  |false=>none
 |false=>match(ilt 0 (A4 (A7 a (A3 c) ([]:List (Int)))))with
 |true=>match idx (A7 a (A3 c) ([]:List (Int))) 0 with|none=>none|some p=>match Cv (A7 a (A3 c) ([]:List (Int))) 1 (A4 (A7 a (A3 c) ([]:List (Int))))with|none=>none|some q=>match idx a c with|none=>none|some u=>some (d,e,f,(BH a (A3 c) q),g,h,i,j,c,p,k,true,())
 |false=>some (d,e,f,a,g,h,i,j,l,m,k,false,())
def ABX[Lk]:=fun v=>Lk.f (th v)
theorem AKp v:ABX v=th v:=A0 _
def AUy[Lk]:V8→Option (V8):=fun(h,i,j,a,k,d,e,f,g,b,l,c,_)=>
 match Vw ((h,(i,(j,()))),b,())with|none=>none|some (w,_)=>match w with
 |true=>match xS ((h,(i,(j,()))),b,())with|none=>none|some (n,o,p,q,r,m,_)=>match(ieq m 0)with
  |true=>match idx a c with|none=>none|some y=>match(fits ((A4 (A7 a (A3 c) ([]:List (Int))))+(A4 ([r,q]:List (Int)))))with
   |true=>match idx a c with|none=>none|some z=>some (n,o,p,(BH a (A3 c) (BT (A7 a (A3 c) ([]:List (Int))) ([r,q]:List (Int)))),k,d,e,f,g,b,true,m,())
   |false=>none
  |false=>some (n,o,p,a,k,d,e,f,g,b,l,m,())
 |false=>match AVI ((h,(i,(j,()))),b,())with|none=>none|some (s,t,u,x,v,_)=>match k with
 |true=>some (s,t,u,a,true,d,e,f,g,b,l,v,())
 |false=>some (s,t,u,a,x,d,e,f,g,b,l,v,())
def cgo[Lk]:=fun v=>Lk.f (AUy v)
theorem AWO v:cgo v=AUy v:=A0 _
abbrev AUC:A1:=[AbJ,AI,AJ]
abbrev AUB:A1:=[(.tmp 0,.dat Ve),AI,(.tmp 2,.dat V1),(.tmp 3,.dat Ue),AH,AG,Aab,(.tmp 7,.dat U2),AT]
abbrev AUA:List RS:=[.agg 7,.one,.one]
def AFM[Lk]:((((List U7)×Int×(List Bool)×Unit)×(List U5)×Bool×Int×Int×Unit)×Int×Int×Unit)→Option ((List U7×Int×List Bool×List U5×Bool×Int×Int×U1×Int×Unit)):=fun(a,o,p,_)=>
 match AA9 (((a.1.1,(a.1.2.1,(a.1.2.2.1,()))),(a.2.1,(a.2.2.1,(a.2.2.2.1,(a.2.2.2.2.1,()))))),())with|none=>none|some (q,_)=>match(!q)with
 |true=>some (a.1.1,a.1.2.1,a.1.2.2.1,a.2.1,a.2.2.1,a.2.2.2.1,a.2.2.2.2.1,(0,(0,(0,(false,())))),1,())
 |false=>match(ieq a.2.2.2.1 100000)with
 |true=>some (a.1.1,a.1.2.1,a.1.2.2.1,a.2.1,a.2.2.1,a.2.2.2.1,a.2.2.2.2.1,(0,(0,(0,(false,())))),2,())
 |false=>match HP a.2.1 with|none=>none|some r=>match WK (a.1.1,a.1.2.1,a.1.2.2.1,r,a.2.2.1,a.2.2.2.1,a.2.2.2.2.1,0,(-1:Int),(-1:Int),false,o,())with|none=>none|some (s,t,u,v,w,x,y,z,A,B,C,b,_)=>match WK (s,t,u,v,w,x,y,z,A,B,C,p,())with|none=>none|some (D,E,F,G,H,I,J,y21,K,L,M,N,_)=>match ABX (D,E,F,G,H,(w64 (I+1)),J,b,K,L,M,b,N,())with|none=>none|some (d,e,f,g,h,i,c,j,k,l,m,O,_)=>match O with
 |true=>match cgo (d,e,f,g,h,i,c,j,k,l,m,b,())with|none=>none|some (P,Q,R,S,T,U,V,W,X,Y,Z,n,_)=>match(!(ieq n 0))with
  |true=>some (a.1.1,a.1.2.1,a.1.2.2.1,a.2.1,a.2.2.1,a.2.2.2.1,a.2.2.2.2.1,(0,(0,(0,(false,())))),n,())
  |false=>some (P,Q,R,S,T,U,V,(W,(X,(Y,(Z,())))),0,())
 |false=>match(ieq c 100000)with
 |true=>some (a.1.1,a.1.2.1,a.1.2.2.1,a.2.1,a.2.2.1,a.2.2.2.1,a.2.2.2.2.1,(0,(0,(0,(false,())))),2,())
 |false=>some (d,e,f,g,h,i,(w64 (c+1)),(j,(k,(l,(m,())))),0,())
def AQN[Lk]:=fun v=>Lk.f (AFM v)
theorem AQM v:AQN v=AFM v:=A0 _
abbrev AbW:Loc×Con:=(.cell 0 7,.own 278 U2)
abbrev AT7:A1:=[(.tmp 0,.box 8),AbE,AbF,AbD,AbL,AbK,AbN,AbM,AbW,AI,AJ]
abbrev AbX:Loc×Con:=(.obj 0,.box 8)
abbrev AE9:A1:=[AbX,AbE,AbF,AbD,AbL,AbK,AbN,AbM,AbW,AB]
def AFA[Lk]:(List U7×Int×List Bool×List U5×Bool×Int×Int×List U1×Int×Int×Unit)→Option (Un):=fun(d,e,f,g,h,i,j,b,k,l,_)=>
 match AQN (((d,(e,(f,()))),(g,(h,(i,(j,()))))),k,l,())with|none=>none|some (m,n,o,p,q,r,s,a,c,_)=>match(ieq c 0)with
 |true=>match(fits ((A4 b)+(A4 ([(a.1,(a.2.1,(a.2.2.1,(a.2.2.2.1,()))))]:List U1))))with
  |true=>some (m,n,o,p,q,r,s,(BT b ([(a.1,(a.2.1,(a.2.2.1,(a.2.2.2.1,()))))]:List U1)),c,())
  |false=>none
 |false=>some (d,e,f,g,h,i,j,b,c,())
def AFC[Lk]:=fun v=>Lk.f (AFA v)
theorem AP5 v:AFC v=AFA v:=A0 _
abbrev AJ6:A1:=[(.tmp 0,.box 8),AbE,AbF,AbD,AbL,AbK,AbN,AbM,AbW]
abbrev AbY:Loc×Con:=(.tmp 0,.ptr' 0 0)
abbrev AbZ:Loc×Con:=(.tmp 14,.di)
abbrev AAn:A1:=[AbX,AbE,AbF,AbD,AbL,AbK,AbN,AbM,AbW,AbY,AX,AS,AbZ]
abbrev AAl:BF:=[(.ret,[AbX,AbE,AbF,AbD,AbL,AbK,AbN,AbM,AbW,AJ]),(.exit 2,[AbX,AbE,AbF,AbD,AbL,AbK,AbN,AbM,AbW,AbY,AX])]
def AAj[Lk]:(List U7×Int×List Bool×List U5×Bool×Int×Int×List U1×Int×Int×Int×Unit)→Option ((List U7×Int×List Bool×List U5×Bool×Int×Int×List U1×Int×Int×Int×Unit)⊕Un⊕Un⊕Unit):=fun(b,c,d,e,a,f,g,h,j,k,i,_)=>
 match(ilt i k)with
 |true=>match a with
  |true=>some (.inr (.inl (b,c,d,e,a,f,g,h,0,())))
  |false=>match AQc (((b,(c,(d,()))),(e,(a,(f,(g,()))))),())with|none=>none|some (u,_)=>match(ieq u 0)with
  |true=>some (.inr (.inl (b,c,d,e,a,f,g,h,4,())))
  |false=>match AFC (b,c,d,e,a,f,g,h,i,(w64 ((w64 (i+1))+j)),())with|none=>none|some (l,m,n,o,p,q,r,s,t,_)=>match(!(ieq t 0))with
  |true=>some (.inr (.inl (l,m,n,o,p,q,r,s,t,())))
  |false=>some (.inl (l,m,n,o,p,q,r,s,j,k,(w64 (i+1)),()))
 |false=>some (.inr (.inr (.inl (b,c,d,e,a,f,g,h,j,()))))
abbrev AAo:A1:=[AbX,AbE,AbF,AbD,AbL,AbK,AbN,AbM,AbW,AbY,AX]
abbrev AAm:BF:=[(.ret,[AbX,AbE,AbF,AbD,AbL,AbK,AbN,AbM,AbW,AJ])]
def AAk[Lk]:Un→Option (Un⊕Un⊕Unit):=fun(b,c,d,a,e,f,g,h,i,_)=>
 match A9 AAj many (b,c,d,a,e,f,g,h,i,(A4 a),0,())with|none=>none|some r=>match r with
 |.inl (j,k,l,m,n,o,p,q,s,_)=>some (.inr (.inl (j,k,l,m,n,o,p,q,s,())))
 |.inr r=>match r with
 |.inl (t,u,v,w,x,y,z,A,B,_)=>some (.inl (t,u,v,w,x,y,z,A,(w64 (B+1)),()))
 |.inr _=>none
def ez[Lk]:(List U7×Int×List Bool×List U5×Bool×Int×Int×List U1×Unit)→Option (Un):=fun(a,b,c,d,e,f,g,h,_)=>
 match A9 AAk many (a,b,c,d,e,f,g,h,0,())with|none=>none|some r=>match r with
 |.inl (i,j,k,l,m,n,o,p,q,_)=>some (i,j,k,l,m,n,o,p,q,())
 |.inr _=>none
def kq[Lk]:=fun v=>Lk.f (ez v)
theorem AAp v:kq v=ez v:=A0 _
abbrev AP4:A1:=[AB,AI,AJ,(.tmp 3,.dat (.slice (.arr 2 U0)))]
abbrev AP3:A1:=[AbJ,(.tmp 1,.own 278 U2),AJ]
abbrev Aba:Loc×Con:=(.cell 1 1,.di)
abbrev AJ4:A1:=[(.tmp 8,.box 7),(.cell 0 0,.nil Ud),AbF,(.cell 0 2,.nil .bool),(.cell 0 3,.nil U6),AbK,AbN,AbM,(.tmp 13,.box 8),(.cell 1 0,.dat Ve),Aba,(.cell 1 2,.dat V1),(.cell 1 3,.dat Ue),(.cell 1 4,.dat .bool),(.cell 1 5,.di),(.cell 1 6,.di),(.cell 1 7,.own 278 U2),(.tmp 31,.dat (.slice (.arr 2 U0))),(.tmp 32,.di),(.tmp 33,.di)]
abbrev AJ3:BF:=[(.exit 0,[(.tmp 8,.box 7),(.cell 0 0,.nil Ud),AbF,(.cell 0 2,.nil .bool),(.cell 0 3,.nil U6),AbK,AbN,AbM,(.tmp 13,.box 8),(.cell 1 0,.dat Ve),Aba,(.cell 1 2,.dat V1),(.cell 1 3,.dat Ue),(.cell 1 4,.dat .bool),(.cell 1 5,.di),(.cell 1 6,.di),(.cell 1 7,.own 278 U2)]),(.ret,[(.tmp 8,.box 7),AbE,AbF,AbD,AbL,AbK,AbN,AbM,(.tmp 9,.own 278 U2),Ad])]
def AJ2[Lk]:(Int×Bool×Int×Int×List U7×Int×List Bool×List U5×Bool×Int×Int×List U1×List U5×Int×Int×Unit)→Option ((Int×Bool×Int×Int×List U7×Int×List Bool×List U5×Bool×Int×Int×List U1×List U5×Int×Int×Unit)⊕(Int×Bool×Int×Int×List U7×Int×List Bool×List U5×Bool×Int×Int×List U1×Unit)⊕Un⊕Unit):=fun(b,c,d,e,f,g,h,i,a,j,k,l,n,o,m,_)=>
 match(ilt m o)with
 |true=>match idx n m with|none=>none|some p=>match a with
  |true=>some (.inr (.inl (b,c,d,e,f,g,h,i,a,j,k,l,())))
  |false=>match AFC (f,g,h,i,a,j,k,l,(A7 p 0 0),(A7 p 1 0),())with|none=>none|some (q,r,s,t,u,v,w,x,y,_)=>match(!(ieq y 0))with
  |true=>some (.inr (.inr (.inl (q,r,s,t,u,v,w,x,y,()))))
  |false=>some (.inl (b,c,d,e,q,r,s,t,u,v,w,x,n,o,(w64 (m+1)),()))
 |false=>some (.inr (.inl (b,c,d,e,f,g,h,i,a,j,k,l,())))
def sw[Lk]:(Int×Int×Int×List U5×Unit)→Option (((((List U7)×Int×(List Bool)×Unit)×(List U5)×Bool×Int×Int×Unit)×List U1×Int×Unit)):=fun(c,d,e,a,_)=>
 match ABY (c,d,e,())with|none=>none|some (f,g,h,i,j,k,l,b,_)=>match(!(ieq b 0))with
 |true=>some (((([]:List U7),(0,(([]:List (Bool)),()))),(([]:List U5),(false,(0,(0,()))))),([]:List U1),b,())
 |false=>match A9 AJ2 many (0,false,0,0,f,g,h,i,j,k,l,([]:List U1),a,(A4 a),0,())with|none=>none|some r=>match r with
 |.inl (N,O,P,Q,m,n,o,p,q,s,t,u,_)=>match kq (m,n,o,p,q,s,t,u,())with|none=>none|some (v,w,x,y,z,A,B,C,D,_)=>some (((v,(w,(x,()))),(y,(z,(A,(B,()))))),C,D,())
 |.inr r=>match r with
 |.inl (E,F,G,H,I,J,K,L,M,_)=>some (((E,(F,(G,()))),(H,(I,(J,(K,()))))),L,M,())
 |.inr _=>none
def AAi[Lk]:=fun v=>Lk.f (sw v)
theorem AJ5 v:AAi v=sw v:=A0 _
abbrev Abb:Loc×Con:=(.tmp 1,.dat Uy)
abbrev AJ8:A1:=[AbJ,Abb]
abbrev AJ7:A1:=[(.tmp 0,.own 206 U4)]
abbrev AAu:A1:=[(.tmp 2,.box 7),AbE,AbF,AbD,AbL,AbK,AbN,AbM,(.tmp 5,.own 206 U4),(.tmp 9,.dat Uy),Ad,Ae]
abbrev AAt:BF:=[(.exit 0,[(.tmp 5,.own 206 U4)])]
def AAs[Lk]:(List U7×Int×List Bool×List U5×Bool×Int×Int×List U3×List U1×Int×Int×Unit)→Option ((List U7×Int×List Bool×List U5×Bool×Int×Int×List U3×List U1×Int×Int×Unit)⊕Ux⊕Unit):=fun(a,f,g,h,i,j,k,b,d,e,c,_)=>
 match(ilt c e)with
 |true=>match idx d c with|none=>none|some l=>match l.2.2.2.1 with
  |true=>some (.inl (a,f,g,h,i,j,k,b,d,e,(w64 (c+1)),()))
  |false=>match(ilt l.2.2.1 0)with
  |true=>some (.inl (a,f,g,h,i,j,k,b,d,e,(w64 (c+1)),()))
  |false=>match(ile (A4 a) l.2.2.1)with
  |true=>some (.inl (a,f,g,h,i,j,k,b,d,e,(w64 (c+1)),()))
  |false=>match idx a l.2.2.1 with|none=>none|some m=>match(fits ((A4 b)+(A4 ([(m.1,(m.2.1,()))]:List U3))))with
  |true=>some (.inl (a,f,g,h,i,j,k,(BT b ([(m.1,(m.2.1,()))]:List U3)),d,e,(w64 (c+1)),()))
  |false=>none
 |false=>some (.inr (.inl (b,())))
def fB[Lk]:((((List U7)×Int×(List Bool)×Unit)×(List U5)×Bool×Int×Int×Unit)×List U1×Unit)→Option (Ux):=fun(a,b,_)=>
 match A9 AAs many (a.1.1,a.1.2.1,a.1.2.2.1,a.2.1,a.2.2.1,a.2.2.2.1,a.2.2.2.2.1,([]:List U3),b,(A4 b),0,())with|none=>none|some r=>match r with
 |.inl (c,_)=>some (c,())
 |.inr _=>none
def kr[Lk]:=fun v=>Lk.f (fB v)
theorem AAv v:kr v=fB v:=A0 _
abbrev APr:A1:=[(.tmp 0,.dat Us)]
def sN[Lk]:(V0×Unit)→Option (Uc):=fun(a,_)=>
 match(ile 1 a.1)with
 |true=>match(ile a.1 100)with
  |true=>match(ile 1 a.2.1)with
   |true=>match(ile a.2.1 8)with
    |true=>some ((ile (A4 a.2.2.1) 4000),())
    |false=>some (false,())
   |false=>some (false,())
  |false=>some (false,())
 |false=>some (false,())
def AAX[Lk]:=fun v=>Lk.f (sN v)
theorem AJk v:AAX v=sN v:=A0 _
abbrev APs:A1:=[AB,(.tmp 1,.dat Us)]
abbrev EK:A1:=[AY,AI,AJ]
abbrev Abc:Loc×Con:=(.tmp 44,.own 206 U4)
abbrev Abd:Loc×Con:=(.tmp 8,.own 278 U2)
abbrev Abe:Loc×Con:=(.cell 2 0,.di)
abbrev Abf:Loc×Con:=(.cell 2 1,.di)
abbrev AJp:A1:=[Abd,Aas,(.tmp 12,.box 2),Abe,Abf,Abc,Aak,AbP,(.tmp 54,.di),(.tmp 55,.di)]
abbrev AJn:BF:=[(.exit 2,[Abd,Aas,Abc,Aak,AbP])]
def AJl[Lk]:(List U1×List Int×Int×Int×List U3×Int×Int×Int×Int×Unit)→Option ((List U1×List Int×Int×Int×List U3×Int×Int×Int×Int×Unit)⊕(List U1×List Int×List U3×Int×Int×Unit)⊕Unit):=fun(d,b,c,i,e,f,g,h,a,_)=>
 match(ilt a h)with
 |true=>match(fits ((A4 b)+(A4 ([(w64 (c+a))]:List (Int)))))with
  |true=>some (.inl (d,(BT b ([(w64 (c+a))]:List (Int))),c,i,e,f,g,h,(w64 (a+1)),()))
  |false=>none
 |false=>some (.inr (.inl (d,b,e,f,g,())))
abbrev AJq:A1:=[Abd,Aas,Abc,Aak,AbP]
abbrev AJo:BF:=[(.exit 0,[Abd,Aas])]
def AJm[Lk]:(List U1×List Int×List U3×Int×Int×Unit)→Option ((List U1×List Int×List U3×Int×Int×Unit)⊕(List U1×List Int×Unit)⊕Unit):=fun(c,d,b,e,a,_)=>
 match(ilt a e)with
 |true=>match idx b a with|none=>none|some k=>match A9 AJl many (c,d,(A7 b (A3 a) (0,(0,()))).1,(A7 b (A3 a) (0,(0,()))).2.1,b,e,a,(w64 ((A7 b (A3 a) (0,(0,()))).2.1-(A7 b (A3 a) (0,(0,()))).1)),0,())with|none=>none|some r=>match r with
  |.inl (f,g,h,i,j,_)=>some (.inl (f,g,h,i,(w64 (j+1)),()))
  |.inr _=>none
 |false=>some (.inr (.inl (c,d,())))
def sQ[Lk]:(Int×V0×Unit)→Option (Ub):=fun(c,b,_)=>
 match(ilt c 0)with
 |true=>some (([]:List (Int)),0,1,())
 |false=>match(ilt 1000 c)with
 |true=>some (([]:List (Int)),0,1,())
 |false=>match AAX ((b.1,(b.2.1,(b.2.2.1,()))),())with|none=>none|some (g,_)=>match(!g)with
 |true=>some (([]:List (Int)),0,1,())
 |false=>match(ieq c 0)with
 |true=>some (([]:List (Int)),0,0,())
 |false=>match AAi (c,b.1,b.2.1,b.2.2.1,())with|none=>none|some (a,d,e,_)=>match(!(ieq e 0))with
 |true=>some (([]:List (Int)),0,e,())
 |false=>match kr (((a.1.1,(a.1.2.1,(a.1.2.2.1,()))),(a.2.1,(a.2.2.1,(a.2.2.2.1,(a.2.2.2.2.1,()))))),d,())with|none=>none|some (f,_)=>match A9 AJm many (d,([]:List (Int)),f,(A4 f),0,())with|none=>none|some r=>match r with
 |.inl (h,i,_)=>some (i,(A4 h),0,())
 |.inr _=>none
def kX[Lk]:=fun v=>Lk.f (sQ v)
theorem AJr v:kX v=sQ v:=A0 _
def oV[Lk]:U8→Option (Uc):=fun(a,_)=>
 match(ile 1 a)with
 |true=>some ((ile a 100),())
 |false=>some (false,())
def iy[Lk]:=fun v=>Lk.f (oV v)
theorem AHK v:iy v=oV v:=A0 _
def dB[Lk]:U3→Option (U8):=fun(a,b,_)=>
 match(ilt a 0)with
 |true=>some (0,())
 |false=>match(ilt 1000 a)with
 |true=>some (0,())
 |false=>match iy (b,())with|none=>none|some (c,_)=>match(!c)with
 |true=>some (0,())
 |false=>match quo? .i64 (w64 ((w64 (a+b))-1)) b with|none=>none|some d=>some (d,())
def jM[Lk]:=fun v=>Lk.f (dB v)
theorem xu v:jM v=dB v:=A0 _
abbrev ASB:A1:=[Aan,AI,AJ]
def AC9[Lk]:Ub→Option (Ua):=fun(a,b,c,_)=>
 match Cv a (w64 (b*c)) (Cb (A4 a) (w64 ((w64 (b+1))*c)))with|none=>none|some d=>some (d,())
def ADB[Lk]:=fun v=>Lk.f (AC9 v)
theorem AMI v:ADB v=AC9 v:=A0 _
abbrev AMp:A1:=[Aan,(.tmp 1,.clo 327 [])]
abbrev Abg:Loc×Con:=(.tmp 0,.own 96 Uj)
abbrev AMo:A1:=[Abg,(.tmp 1,.dat Uj)]
abbrev Abh:Loc×Con:=(.tmp 6,.own 96 Uj)
abbrev AHm:A1:=[(.tmp 1,.clo 327 []),Abh,(.tmp 7,.dat Uj),(.tmp 13,.dat V6),AbZ,Aag]
abbrev AHl:BF:=[(.exit 0,[Abh,(.tmp 7,.dat Uj)])]
def AHk[Lk]:(List Int×Int×List Int×Int×Int×Unit)→Option ((List Int×Int×List Int×Int×Int×Unit)⊕Uh⊕Unit):=fun(b,c,d,e,a,_)=>
 match(ilt a e)with
 |true=>match idx d a with|none=>none|some f=>match idx b a with|none=>none|some g=>some (.inl ((BH b (A3 a) c),(IntKind.wrap .u32 (c+f)),d,e,(w64 (a+1)),()))
 |false=>some (.inr (.inl (b,c,())))
def pQ[Lk]:Ua→Option (Uh):=fun(a,_)=>
 match(CZ (A4 a)&&CZ (A4 a)&&ile (A4 a) (A4 a)&&true)with
 |true=>match A9 AHk many ((DD (A3 (A4 a)) (0:Int)),(0:Int),a,(A4 a),(0:Int),())with|none=>none|some r=>match r with
  |.inl (b,c,_)=>some (b,c,())
  |.inr _=>none
 |false=>none
def XH[Lk]:=fun v=>Lk.f (pQ v)
theorem AHn v:XH v=pQ v:=A0 _
abbrev Abi:Loc×Con:=(.tmp 3,.clo 327 [])
abbrev AHL:A1:=[Aan,AI,(.tmp 2,.dat Us),Abi]
abbrev cr:A1:=[Abg,(.tmp 1,.dat Uj),AJ,AX]
abbrev Abj:Loc×Con:=(.tmp 17,.own 96 Uj)
abbrev Abk:Loc×Con:=(.tmp 76,.own 3 U0)
abbrev Abl:Loc×Con:=(.tmp 8,.own 96 Uj)
abbrev Abm:Loc×Con:=(.tmp 9,.dat Uj)
abbrev Abn:Loc×Con:=(.tmp 19,.di)
abbrev xk:A1:=[Aan,AI,Abi,Abl,Abm,Ad,Abj,Abn,Abk,Aai,Aah,(.tmp 91,.own 96 Uj),(.tmp 92,.di),(.tmp 93,.di)]
abbrev xh:BF:=[(.exit 4,[Aan,AI,Abi,Abl,Abm,Ad,Abj,Abk,Aai,Aah])]
def xe[Lk]:(List Int×Int×List Int×Int×Int×List Int×Int×List Int×Int×Int×List Int×Int×Int×Unit)→Option ((List Int×Int×List Int×Int×Int×List Int×Int×List Int×Int×Int×List Int×Int×Int×Unit)⊕(List Int×Int×List Int×Int×Int×List Int×List Int×Int×Int×Unit)⊕Unit):=fun(g,c,e,h,i,d,b,j,k,l,f,m,a,_)=>
 match(ilt a m)with
 |true=>match idx f a with|none=>none|some n=>match idx d b with|none=>none|some o=>match idx e (w64 ((w64 (b*c))+a))with|none=>none|some p=>some (.inl (g,c,(BH e (A3 (w64 ((w64 (b*c))+a))) (IntKind.wrap .u32 ((A7 d (A3 b) 0)+(A7 f (A3 a) 0)))),h,i,d,b,j,k,l,f,m,(w64 (a+1)),()))
 |false=>some (.inr (.inl (g,c,e,h,i,d,j,k,l,())))
abbrev xl:A1:=[Aan,AI,Abi,Abl,Abm,Ad,Abj,Abk,Aai,Aah]
abbrev xi:BF:=[(.exit 2,[Abl,Abm,Ad])]
def xf[Lk]:(List Int×Int×List Int×Int×Int×List Int×List Int×Int×Int×Unit)→Option ((List Int×Int×List Int×Int×Int×List Int×List Int×Int×Int×Unit)⊕Ub⊕Unit):=fun(c,d,e,f,g,j,b,h,a,_)=>
 match(ilt a h)with
 |true=>match idx b a with|none=>none|some v=>match ADB (c,(A7 b (A3 a) 0),d,())with|none=>none|some (k,_)=>match XH (k,())with|none=>none|some (i,w,_)=>match A9 xe many (c,d,e,f,g,j,(A7 b (A3 a) 0),b,h,a,i,(A4 i),0,())with|none=>none|some r=>match r with
  |.inl (l,m,n,o,p,q,s,t,u,_)=>some (.inl (l,m,n,o,p,q,s,t,(w64 (u+1)),()))
  |.inr _=>none
 |false=>some (.inr (.inl (e,f,g,())))
abbrev xm:A1:=[Aan,AI,Abi,Ad,Aa9,(.tmp 14,.own 96 Uj),(.tmp 48,.own' 0),(.tmp 49,.di),Aal]
abbrev xj:BF:=[(.exit 0,[Aan,AI,Abi,Ad,Aa9,(.tmp 14,.own 96 Uj)])]
def xg[Lk]:(List Int×Int×Int×List Int×List Int×Int×Int×Unit)→Option ((List Int×Int×Int×List Int×List Int×Int×Int×Unit)⊕(List Int×Int×Int×List Int×List Int×Unit)⊕Unit):=fun(c,d,f,a,e,g,b,_)=>
 match(ilt b g)with
 |true=>match idx a b with|none=>none|some j=>match ADB (c,(A7 a (A3 b) 0),d,())with|none=>none|some (h,_)=>match XH (h,())with|none=>none|some (k,i,_)=>match idx e (A7 a (A3 b) 0)with|none=>none|some l=>some (.inl (c,d,f,a,(BH e (A3 (A7 a (A3 b) 0)) i),g,(w64 (b+1)),()))
 |false=>some (.inr (.inl (c,d,f,a,e,())))
def ct[Lk]:(List Int×Int×V0×Unit)→Option (U9):=fun(c,d,e,_)=>
 match iy (d,())with|none=>none|some (i,_)=>match(!i)with
 |true=>some (([]:List (Int)),0,0,1,())
 |false=>match(ilt 1000 (A4 c))with
 |true=>some (([]:List (Int)),0,0,1,())
 |false=>match jM ((A4 c),d,())with|none=>none|some (a,_)=>match kX (a,(e.1,(e.2.1,(e.2.2.1,()))),())with|none=>none|some (f,j,g,_)=>match(!(ieq g 0))with
 |true=>some (([]:List (Int)),0,0,g,())
 |false=>match(CZ a&&CZ a&&ile a a&&true)with
 |true=>match A9 xg many (c,d,j,f,(DD (A3 a) (0:Int)),(A4 f),(0:Int),())with|none=>none|some r=>match r with
  |.inl (b,k,l,h,m,_)=>match XH (m,())with|none=>none|some (n,o,_)=>match(CZ (A4 b)&&CZ (A4 b)&&ile (A4 b) (A4 b)&&true)with
   |true=>match A9 xf many (b,k,(DD (A3 (A4 b)) (0:Int)),o,l,n,h,(A4 h),(0:Int),())with|none=>none|some r=>match r with
    |.inl (p,q,s,_)=>some (p,q,(w64 (2*s)),0,())
    |.inr _=>none
   |false=>none
  |.inr _=>none
 |false=>none
def iz[Lk]:=fun v=>Lk.f (ct v)
theorem xn v:iz v=ct v:=A0 _
abbrev AC5:A1:=[Aan,AI,(.tmp 2,.dat Us)]
def AC6[Lk]:(List Int×Int×V0×Unit)→Option (U9):=fun(b,c,a,_)=>
 match iz (b,c,(a.1,(a.2.1,(a.2.2.1,()))),())with|none=>none|some (d,e,f,g,_)=>some (d,e,f,g,())
def AC8[Lk]:=fun v=>Lk.f (AC6 v)
theorem AMD v:AC8 v=AC6 v:=A0 _
abbrev ANW:A1:=[(.tmp 0,.dat V1),Aw]
abbrev ANV:A1:=[Abg]
abbrev AH5:A1:=[Aw,(.tmp 5,.own 96 Uj),(.tmp 11,.dat V1),AR,AS]
abbrev AH4:BF:=[(.exit 0,[(.tmp 5,.own 96 Uj)])]
def AH3[Lk]:(Bool×List Int×List Bool×Int×Int×Unit)→Option ((Bool×List Int×List Bool×Int×Int×Unit)⊕Ua⊕Unit):=fun(c,b,d,e,a,_)=>
 match(ilt a e)with
 |true=>match idx d a with|none=>none|some f=>match(!(f==c))with
  |true=>match idx b a with|none=>none|some g=>some (.inl (c,(BH b (A3 a) 1),d,e,(w64 (a+1)),()))
  |false=>some (.inl (c,b,d,e,(w64 (a+1)),()))
 |false=>some (.inr (.inl (b,())))
def p7[Lk]:(List Bool×Bool×Unit)→Option (Ua):=fun(a,b,_)=>
 match(CZ (A4 a)&&CZ (A4 a)&&ile (A4 a) (A4 a)&&true)with
 |true=>match A9 AH3 many (b,(DD (A3 (A4 a)) (0:Int)),a,(A4 a),(0:Int),())with|none=>none|some r=>match r with
  |.inl (c,_)=>some (c,())
  |.inr _=>none
 |false=>none
def yi[Lk]:=fun v=>Lk.f (p7 v)
theorem AH6 v:yi v=p7 v:=A0 _
abbrev yg:A1:=[Aan,(.tmp 9,.own 96 Uj),Ae,AbZ,(.tmp 15,.own 3 U0),(.tmp 43,.own 3 U0),(.tmp 44,.di),Aak]
abbrev yf:BF:=[(.exit 0,[Ae,AbZ,(.tmp 15,.own 3 U0)])]
def ye[Lk]:Vh→Option (Vh⊕(Int×Int×List Int×Unit)⊕Unit):=fun(e,c,f,g,d,b,h,a,_)=>
 match(ilt a h)with
 |true=>match idx b a with|none=>none|some j=>match idx e (A7 b (A3 a) 0)with|none=>none|some i=>match(ieq i 1)with
  |true=>match idx c (A7 b (A3 a) 0)with|none=>none|some k=>match idx d (A7 c (A3 (A7 b (A3 a) 0)) 0)with|none=>none|some l=>some (.inl (e,c,f,g,(BH d (A3 (A7 c (A3 (A7 b (A3 a) 0)) 0)) (A7 b (A3 a) 0)),b,h,(w64 (a+1)),()))
  |false=>some (.inl (e,c,f,g,d,b,h,(w64 (a+1)),()))
 |false=>some (.inr (.inl (f,g,d,())))
def dV[Lk]:(List Int×Int×V0×Unit)→Option (Ub):=fun(c,g,a,_)=>
 match AC8 (c,g,(a.1,(a.2.1,(a.2.2.1,()))),())with|none=>none|some (h,b,i,d,_)=>match(!(ieq d 0))with
 |true=>some (([]:List (Int)),0,d,())
 |false=>match kX ((A4 c),(a.1,(a.2.1,(a.2.2.1,()))),())with|none=>none|some (e,j,f,_)=>match(!(ieq f 0))with
 |true=>some (([]:List (Int)),0,f,())
 |false=>match(CZ b&&CZ b&&ile b b&&true)with
 |true=>match A9 ye many (c,h,i,j,(DD (A3 b) (0:Int)),e,(A4 e),(0:Int),())with|none=>none|some r=>match r with
  |.inl (k,l,m,_)=>some (m,(w64 (k+l)),0,())
  |.inr _=>none
 |false=>none
def jb[Lk]:=fun v=>Lk.f (dV v)
theorem yh v:jb v=dV v:=A0 _
abbrev ANF:A1:=[(.tmp 0,.dat V1),AI,(.tmp 2,.dat Us)]
def po[Lk]:(List Bool×Int×V0×Unit)→Option (Ub):=fun(b,c,a,_)=>
 match yi (b,false,())with|none=>none|some (d,_)=>match jb (d,c,(a.1,(a.2.1,(a.2.2.1,()))),())with|none=>none|some (e,f,g,_)=>some (e,f,g,())
def yb[Lk]:=fun v=>Lk.f (po v)
theorem AH1 v:yb v=po v:=A0 _
abbrev ASL:A1:=[Aan,AI,AJ,(.tmp 3,.dat Us)]
abbrev Abo:Loc×Con:=(.tmp 16,.own 3 U0)
abbrev AMv:A1:=[Aan,AI,Ae,AbZ,Abo,Aak,AbP]
abbrev AMt:BF:=[(.exit 2,[Ae,AbZ,Abo])]
def AMr[Lk]:(List Int×Int×Int×Int×List Int×Int×Int×Unit)→Option ((List Int×Int×Int×Int×List Int×Int×Int×Unit)⊕(Int×Int×List Int×Unit)⊕Unit):=fun(b,c,d,e,f,g,a,_)=>
 match(ilt a g)with
 |true=>match rby (b,f,a,c,())with|none=>none|some (h,_)=>some (.inl (b,c,d,e,h,g,(w64 (a+1)),()))
 |false=>some (.inr (.inl (d,e,f,())))
abbrev AMw:A1:=[Aan,AI,Ae,AbZ,Abo,(.tmp 36,.di),(.tmp 37,.di)]
abbrev AMu:BF:=[(.exit 0,[Aan,AI,Ae,AbZ,Abo])]
def AMs[Lk]:(List Int×Int×Int×Int×List Int×Int×Int×Unit)→Option ((List Int×Int×Int×Int×List Int×Int×Int×Unit)⊕(List Int×Int×Int×Int×List Int×Unit)⊕Unit):=fun(c,d,e,f,b,g,a,_)=>
 match(ilt a g)with
 |true=>match(fits ((A4 b)+(A4 ([a]:List (Int)))))with
  |true=>some (.inl (c,d,e,f,(BT b ([a]:List (Int))),g,(w64 (a+1)),()))
  |false=>none
 |false=>some (.inr (.inl (c,d,e,f,b,())))
def ADV[Lk]:(List Int×Int×Int×V0×Unit)→Option (Ub):=fun(a,c,g,b,_)=>
 match Vz (c,())with|none=>none|some (d,_)=>match(ieq d 0)with
 |true=>some (([]:List (Int)),0,1,())
 |false=>match AC8 (a,g,(b.1,(b.2.1,(b.2.2.1,()))),())with|none=>none|some (p,q,h,e,_)=>match(!(ieq e 0))with
 |true=>some (([]:List (Int)),0,e,())
 |false=>match A9 AMs many (a,c,d,h,([]:List (Int)),(A4 a),0,())with|none=>none|some r=>match r with
 |.inl (i,j,f,k,l,_)=>match A9 AMr many (i,j,f,k,l,f,0,())with|none=>none|some r=>match r with
  |.inl (m,n,o,_)=>some (o,(w64 (n*m)),0,())
  |.inr _=>none
 |.inr _=>none
def AMy[Lk]:=fun v=>Lk.f (ADV v)
theorem AMx v:AMy v=ADV v:=A0 _
abbrev AHq:A1:=[Aan,AD]
abbrev AHp:A1:=[Abg,Aw]
abbrev yC:A1:=[Aan,Abh,(.tmp 14,.dat U6),Aag,(.tmp 16,.di)]
abbrev yB:BF:=[(.exit 0,[Abh])]
def yA[Lk]:Vd→Option (Vd⊕Ua⊕Unit):=fun(c,a,d,e,b,_)=>
 match(ilt b e)with
 |true=>match idx d b with|none=>none|some g=>match idx c g with|none=>none|some f=>match(fits ((A4 a)+(A4 ([f]:List (Int)))))with
  |true=>some (.inl (c,(BT a ([f]:List (Int))),d,e,(w64 (b+1)),()))
  |false=>none
 |false=>some (.inr (.inl (a,())))
def dF[Lk]:Vc→Option ((List Int×Bool×Unit)):=fun(b,a,_)=>
 match AM3 (a,(A4 b),())with|none=>none|some (c,_)=>match(!c)with
 |true=>some (([]:List (Int)),false,())
 |false=>match A9 yA many (b,([]:List (Int)),a,(A4 a),0,())with|none=>none|some r=>match r with
 |.inl (d,_)=>some (d,true,())
 |.inr _=>none
def jQ[Lk]:=fun v=>Lk.f (dF v)
theorem yD v:jQ v=dF v:=A0 _
abbrev Abp:Loc×Con:=(.tmp 1,.dat (.prod U0 (.prod U0 (.prod Us .unit))))
abbrev fD:A1:=[Aan,Abp]
abbrev AJ9:A1:=[Abg,Aaf,AJ,AX]
abbrev AAy:A1:=[Ah,(.tmp 11,.own 96 Uj),Aa9,AbZ,(.tmp 15,.own 96 Uj),Abo,(.tmp 55,.own' 1),(.tmp 56,.di),(.tmp 57,.di)]
abbrev AAx:BF:=[(.exit 0,[Ah,AbZ,(.tmp 15,.own 96 Uj),Abo])]
def AAw[Lk]:(Int×List Int×List Int×Int×List Int×List Int×Int×Int×Unit)→Option ((Int×List Int×List Int×Int×List Int×List Int×Int×Int×Unit)⊕(Int×Int×List Int×List Int×Unit)⊕Unit):=fun(f,c,b,g,d,e,h,a,_)=>
 match(ilt a h)with
 |true=>match idx b a with|none=>none|some i=>match(ilt (w64 (a+1)) (A4 b))with
  |true=>match idx b (w64 (a+1))with|none=>none|some j=>match idx c (A7 b (A3 a) 0)with|none=>none|some k=>match(fits ((A4 d)+(A4 ([(A7 c (A3 (A7 b (A3 a) 0)) 0)]:List (Int)))))with
   |true=>match(fits ((A4 e)+(A4 ([(w64 ((A7 b (A3 (w64 (a+1))) 0)-(A7 b (A3 a) 0)))]:List (Int)))))with
    |true=>some (.inl (f,c,b,g,(BT d ([(A7 c (A3 (A7 b (A3 a) 0)) 0)]:List (Int))),(BT e ([(w64 ((A7 b (A3 (w64 (a+1))) 0)-(A7 b (A3 a) 0)))]:List (Int))),h,(w64 (a+1)),()))
    |false=>none
   |false=>none
  |false=>match idx c (A7 b (A3 a) 0)with|none=>none|some l=>match(fits ((A4 d)+(A4 ([(A7 c (A3 (A7 b (A3 a) 0)) 0)]:List (Int)))))with
  |true=>match(fits ((A4 e)+(A4 ([(w64 ((A4 c)-(A7 b (A3 a) 0)))]:List (Int)))))with
   |true=>some (.inl (f,c,b,g,(BT d ([(A7 c (A3 (A7 b (A3 a) 0)) 0)]:List (Int))),(BT e ([(w64 ((A4 c)-(A7 b (A3 a) 0)))]:List (Int))),h,(w64 (a+1)),()))
   |false=>none
  |false=>none
 |false=>some (.inr (.inl (f,g,d,e,())))
def fE[Lk]:(List Int×(Int×Int×V0×Unit)×Unit)→Option (Va):=fun(b,a,_)=>
 match AMy (b,a.1,a.2.1,(a.2.2.1.1,(a.2.2.1.2.1,(a.2.2.1.2.2.1,()))),())with|none=>none|some (g,h,c,_)=>match(!(ieq c 0))with
 |true=>some (([]:List (Int)),([]:List (Int)),0,c,())
 |false=>match jQ (b,g,())with|none=>none|some (d,o,_)=>match kv (d,())with|none=>none|some (i,_)=>match yb (i,a.2.1,(a.2.2.1.1,(a.2.2.1.2.1,(a.2.2.1.2.2.1,()))),())with|none=>none|some (e,j,f,_)=>match(!(ieq f 0))with
 |true=>some (([]:List (Int)),([]:List (Int)),0,f,())
 |false=>match A9 AAw many (h,d,e,j,([]:List (Int)),([]:List (Int)),(A4 e),0,())with|none=>none|some r=>match r with
 |.inl (k,l,m,n,_)=>some (m,n,(w64 (k+l)),0,())
 |.inr _=>none
def ku[Lk]:=fun v=>Lk.f (fE v)
theorem AAz v:ku v=fE v:=A0 _
end
end Go.Pev
end
section
namespace Go.Pev
noncomputable section
abbrev AT8:A1:=[Abg,AI,AJ]
def AFD[Lk]:(List Int×(Int×Int×V0×Unit)×Unit)→Option (Ub):=fun(b,a,_)=>
 match ku (b,(a.1,(a.2.1,((a.2.2.1.1,(a.2.2.1.2.1,(a.2.2.1.2.2.1,()))),()))),())with|none=>none|some (c,f,d,e,_)=>some (c,d,e,())
def AP9[Lk]:=fun v=>Lk.f (AFD v)
theorem AP8 v:AP9 v=AFD v:=A0 _
abbrev AQG:A1:=[AaT,Abp]
abbrev AQF:A1:=[AaW,AI,AJ]
abbrev AKF:A1:=[AS,AbZ,(.tmp 15,.own 88 U4),(.tmp 48,.own 96 Uj),(.tmp 49,.di),Aal]
abbrev AKD:BF:=[(.exit 2,[AS,AbZ,(.tmp 15,.own 88 U4)])]
def AKB[Lk]:(Int×Int×List U3×List Int×Int×Int×Unit)→Option ((Int×Int×List U3×List Int×Int×Int×Unit)⊕(Int×Int×List U3×Unit)⊕Unit):=fun(d,e,b,c,f,a,_)=>
 match(ilt a f)with
 |true=>match idx c a with|none=>none|some h=>match AQI ((A7 c (A3 a) 0),())with|none=>none|some (g,_)=>match(fits ((A4 b)+(A4 ([g]:List U3))))with
  |true=>some (.inl (d,e,(BT b ([g]:List U3)),c,f,(w64 (a+1)),()))
  |false=>none
 |false=>some (.inr (.inl (d,e,b,())))
abbrev Abq:Loc×Con:=(.cell 0 4,.dat (.slice (.arr 2 U0)))
abbrev Abr:Loc×Con:=(.cell 0 3,.di)
abbrev Abs:Loc×Con:=(.cell 0 2,.di)
abbrev AKG:A1:=[(.tmp 3,.box 5),AO,AbF,Abs,Abr,Abq,(.tmp 7,.own 96 Uj),(.tmp 18,.dat Vb),Abn,(.tmp 20,.di)]
abbrev AKE:BF:=[(.ret,[(.tmp 4,.nil U4),AG,Aab]),(.exit 0,[(.tmp 3,.box 5),AO,AbF,Abs,Abr,Abq,(.tmp 7,.own 96 Uj)])]
def AKC[Lk]:(Int×Int×Int×Int×List U5×List Int×List U3×Int×Int×Unit)→Option ((Int×Int×Int×Int×List U5×List Int×List U3×Int×Int×Unit)⊕U3⊕(Int×Int×Int×Int×List U5×List Int×Unit)⊕Unit):=fun(d,e,f,g,h,a,i,j,b,_)=>
 match(ilt b j)with
 |true=>match idx i b with|none=>none|some c=>match AWM ((c.1,(c.2.1,())),())with|none=>none|some (k,l,_)=>match(!l)with
  |true=>some (.inr (.inl (0,10,())))
  |false=>match(!(ieq c.1 c.2.1))with
  |true=>match(fits ((A4 a)+(A4 ([k]:List (Int)))))with
   |true=>some (.inl (d,e,f,g,h,(BT a ([k]:List (Int))),i,j,(w64 (b+1)),()))
   |false=>none
  |false=>some (.inl (d,e,f,g,h,a,i,j,(w64 (b+1)),()))
 |false=>some (.inr (.inr (.inl (d,e,f,g,h,a,()))))
def s9[Lk]:(List U3×(Int×Int×V0×Unit)×Unit)→Option (Ul):=fun(b,a,_)=>
 match A9 AKC many (a.1,a.2.1,a.2.2.1.1,a.2.2.1.2.1,a.2.2.1.2.2.1,([]:List (Int)),b,(A4 b),0,())with|none=>none|some r=>match r with
 |.inl (d,e,_)=>some (([]:List U3),d,e,())
 |.inr r=>match r with
 |.inl (f,g,h,i,j,k,_)=>match AP9 (k,(f,(g,((h,(i,(j,()))),()))),())with|none=>none|some (c,l,m,_)=>match A9 AKB many (l,m,([]:List U3),c,(A4 c),0,())with|none=>none|some r=>match r with
  |.inl (n,o,p,_)=>some (p,n,o,())
  |.inr _=>none
 |.inr _=>none
def AA4[Lk]:=fun v=>Lk.f (s9 v)
theorem AKH v:AA4 v=s9 v:=A0 _
abbrev QR:A1:=[AE,(.cap 1 0,.box 2),AO,Aad,(.tmp 1,.clo 115 [(0,0)])]
abbrev kN:A1:=[AaS,AO,Aad,AB]
abbrev al:A1:=[AaS,AO,Aad,AE,(.tmp 1,.clo 115 [(0,0)]),AU,AT]
abbrev ak:BF:=[(.ret,[AaS,AO,Aad,AW]),(.exit 0,[AaS,AO,Aad])]
def aj[Lk]:(Int×List U1×List Int×Int×Int×Unit)→Option ((Int×List U1×List Int×Int×Int×Unit)⊕(Int×List U1×Int×Unit)⊕(Int×List U1×Unit)⊕Unit):=fun(a,c,d,e,b,_)=>
 match(ilt b e)with
 |true=>match idx d b with|none=>none|some f=>match(ile a f)with
  |true=>some (.inr (.inl (a,c,b,())))
  |false=>some (.inl (a,c,d,e,(w64 (b+1)),()))
 |false=>some (.inr (.inr (.inl (a,c,()))))
def QS[Lk]:(List Int×Int×List U1×Unit)→Option ((Int×List U1×Int×Unit)):=fun(a,b,c,_)=>
 match A9 aj many (b,c,a,(A4 a),0,())with|none=>none|some r=>match r with
 |.inl (d,e,f,_)=>some (d,e,f,())
 |.inr r=>match r with
 |.inl (g,h,_)=>some (g,h,(-1:Int),())
 |.inr _=>none
def O0[Lk]:=fun v=>Lk.f (QS v)
theorem ao v:O0 v=QS v:=A0 _
abbrev AHa:A1:=[AB,(.tmp 13,.dat Vb),AbZ,Aag]
def AHZ[Lk]:(Int×List U3×Int×Int×Unit)→Option ((Int×List U3×Int×Int×Unit)⊕U8⊕(Unit)⊕Unit):=fun(c,d,e,b,_)=>
 match(ilt b e)with
 |true=>match idx d b with|none=>none|some a=>match(ilt (Cb a.1 a.2.1) 0)with
  |true=>some (.inr (.inl (10,())))
  |false=>match(ile c (imax a.1 a.2.1))with
  |true=>some (.inr (.inl (10,())))
  |false=>some (.inl (c,d,e,(w64 (b+1)),()))
 |false=>some (.inr (.inr (.inl ())))
def ox[Lk]:(Int×List U3×Unit)→Option (U8):=fun(a,b,_)=>
 match(ilt a 1)with
 |true=>some (1,())
 |false=>match(ilt 64 a)with
 |true=>some (1,())
 |false=>match A9 AHZ many (a,b,(A4 b),0,())with|none=>none|some r=>match r with
 |.inl (c,_)=>some (c,())
 |.inr r=>match r with
 |.inl _=>some (0,())
 |.inr _=>none
def jN[Lk]:=fun v=>Lk.f (ox v)
theorem AHb v:jN v=ox v:=A0 _
abbrev AHi:A1:=[AaU,AT,Ah]
def AHh[Lk]:Ub→Option (Ub⊕Ua⊕Unit):=fun(b,c,a,_)=>
 match(ilt a c)with
 |true=>match idx b a with|none=>none|some d=>some (.inl ((BH b (A3 a) a),c,(w64 (a+1)),()))
 |false=>some (.inr (.inl (b,())))
def pO[Lk]:U8→Option (Ua):=fun(a,_)=>
 match(CZ a&&CZ a&&ile a a&&true)with
 |true=>match A9 AHh many ((DD (A3 a) (0:Int)),(A4 (DD (A3 a) (0:Int))),(0:Int),())with|none=>none|some r=>match r with
  |.inl (b,_)=>some (b,())
  |.inr _=>none
 |false=>none
def jP[Lk]:=fun v=>Lk.f (pO v)
theorem AHj v:jP v=pO v:=A0 _
abbrev Lv:A1:=[AY,AI]
abbrev Abt:Loc×Con:=(.obj 0,.own 3 U0)
abbrev oY:A1:=[Abt,AB]
abbrev AHP:A1:=[Abt,An,AI]
abbrev AHO:BF:=[(.exit 0,[Abt,AI])]
def AHN[Lk]:Uh→Option (Uh⊕Uh⊕Unit):=fun(a,b,_)=>
 match idx a b with|none=>none|some c=>match(!(ieq (A7 a (A3 b) 0) b))with
 |true=>match idx a b with|none=>none|some d=>match idx a (A7 a (A3 b) 0)with|none=>none|some e=>match idx a b with|none=>none|some f=>match idx (BH a (A3 b) (A7 a (A3 (A7 a (A3 b) 0)) 0)) b with|none=>none|some g=>some (.inl ((BH a (A3 b) (A7 a (A3 (A7 a (A3 b) 0)) 0)),(A7 (BH a (A3 b) (A7 a (A3 (A7 a (A3 b) 0)) 0)) (A3 b) 0),()))
 |false=>some (.inr (.inl (a,b,())))
def oZ[Lk]:Uh→Option (Uh):=fun(a,b,_)=>
 match A9 AHN many (a,b,())with|none=>none|some r=>match r with
 |.inl (c,d,_)=>some (c,d,())
 |.inr _=>none
def W3[Lk]:=fun v=>Lk.f (oZ v)
theorem AHQ v:W3 v=oZ v:=A0 _
abbrev ADI:A1:=[Abt,AF]
def ADJ[Lk]:Ub→Option ((List Int×Bool×Unit)):=fun(d,e,f,_)=>
 match W3 (d,e,())with|none=>none|some (g,a,_)=>match W3 (g,f,())with|none=>none|some (c,b,_)=>match idx c (imax a b)with|none=>none|some h=>some ((BH c (A3 (imax a b)) (Cb a b)),(!(ieq a b)),())
def AMT[Lk]:=fun v=>Lk.f (ADJ v)
theorem AMS v:AMT v=ADJ v:=A0 _
abbrev AAh:A1:=[AaT,(.cap 1 0,.own 3 U0),(.tmp 1,.bnd 176 0)]
abbrev Yy:A1:=[Abt,Aa8]
abbrev su:A1:=[Abt,(.tmp 1,.bnd 176 0),(.tmp 5,.own 4 .bool),(.tmp 8,.dat Vb),Ah,Ad]
abbrev ss:BF:=[(.exit 0,[Abt,(.tmp 5,.own 4 .bool)])]
def sr[Lk]:(List Int×List Bool×List U3×Int×Int×Unit)→Option ((List Int×List Bool×List U3×Int×Int×Unit)⊕(List Int×List Bool×Unit)⊕Unit):=fun(c,a,d,e,b,_)=>
 match(ilt b e)with
 |true=>match idx d b with|none=>none|some f=>match AMT (c,f.1,f.2.1,())with|none=>none|some (h,g,_)=>match(fits ((A4 a)+(A4 ([g]:List (Bool)))))with
  |true=>some (.inl (h,(BT a ([g]:List (Bool))),d,e,(w64 (b+1)),()))
  |false=>none
 |false=>some (.inr (.inl (c,a,())))
def Yz[Lk]:(List U3×List Int×Unit)→Option ((List Int×List Bool×Unit)):=fun(a,b,_)=>
 match A9 sr many (b,([]:List (Bool)),a,(A4 a),0,())with|none=>none|some r=>match r with
 |.inl (c,d,_)=>some (c,d,())
 |.inr _=>none
def Y1[Lk]:=fun v=>Lk.f (Yz v)
theorem sv v:Y1 v=Yz v:=A0 _
abbrev AMR:A1:=[AY,AaY]
def oc[Lk]:(List Int×List U3×Unit)→Option ((List Int×List Bool×Unit)):=fun(a,b,_)=>
 match Y1 (b,a,())with|none=>none|some (c,d,_)=>some (c,d,())
def jA[Lk]:=fun v=>Lk.f (oc v)
theorem AHR v:jA v=oc v:=A0 _
abbrev ot:A1:=[(.tmp 7,.own 3 U0),(.tmp 21,.di),(.tmp 22,.di)]
abbrev oq:BF:=[(.exit 0,[(.tmp 7,.own 3 U0)])]
def oo[Lk]:Ub→Option (Ub⊕Ua⊕Unit):=fun(b,c,a,_)=>
 match(ilt a c)with
 |true=>match W3 (b,a,())with|none=>none|some (d,e,_)=>match idx d a with|none=>none|some f=>some (.inl ((BH d (A3 a) e),c,(w64 (a+1)),()))
 |false=>some (.inr (.inl (b,())))
def W8[Lk]:(Int×List U3×Unit)→Option (Uh):=fun(a,b,_)=>
 match jN (a,b,())with|none=>none|some (c,_)=>match(!(ieq c 0))with
 |true=>some (([]:List (Int)),c,())
 |false=>match jP (a,())with|none=>none|some (e,_)=>match jA (e,b,())with|none=>none|some (d,g,_)=>match A9 oo many (d,(A4 d),0,())with|none=>none|some r=>match r with
 |.inl (f,_)=>some (f,0,())
 |.inr _=>none
def W_[Lk]:=fun v=>Lk.f (W8 v)
theorem ou v:W_ v=W8 v:=A0 _
def AEY[Lk]:U3→Option (Uc):=fun(a,b,_)=>
 match AIo (a,())with|none=>none|some (c,_)=>match c with
 |true=>match AIo (b,())with|none=>none|some (d,_)=>match(!d)with
  |true=>some (true,())
  |false=>some ((ilt a b),())
 |false=>some ((ilt a b),())
def Fu[Lk]:=fun v=>Lk.f (AEY v)
theorem AOo v:Fu v=AEY v:=A0 _
abbrev Ib:A1:=[Abt]
abbrev ATV:A1:=[Abt,An,AI,AJ,Aab,AU]
abbrev ATU:BF:=[(.exit 2,[Abt,An,AI,AJ,Aab])]
def ATS[Lk]:Up→Option (Up⊕U9⊕Unit):=fun(b,c,d,e,a,_)=>
 match(ilt c a)with
 |true=>match idx b a with|none=>none|some g=>match idx b (w64 (a-1))with|none=>none|some h=>match Fu ((A7 b (A3 a) 0),(A7 b (A3 (w64 (a-1))) 0),())with|none=>none|some (f,_)=>match f with
  |true=>match idx b (w64 (a-1))with|none=>none|some i=>match idx b a with|none=>none|some j=>match idx b a with|none=>none|some k=>match idx (BH b (A3 a) (A7 b (A3 (w64 (a-1))) 0)) (w64 (a-1))with|none=>none|some l=>some (.inl ((BH (BH b (A3 a) (A7 b (A3 (w64 (a-1))) 0)) (A3 (w64 (a-1))) (A7 b (A3 a) 0)),c,d,e,(w64 (a-1)),()))
  |false=>some (.inr (.inl (b,c,d,e,())))
 |false=>some (.inr (.inl (b,c,d,e,())))
abbrev ATW:A1:=[Abt,An,AI,AJ,Aab]
abbrev kH:BF:=[(.exit 0,[Abt])]
def ATT[Lk]:U9→Option (U9⊕Ua⊕Unit):=fun(b,d,c,a,_)=>
 match(ilt a c)with
 |true=>match A9 ATS many (b,d,c,a,a,())with|none=>none|some r=>match r with
  |.inl (e,f,g,h,_)=>some (.inl (e,f,g,(w64 (h+1)),()))
  |.inr _=>none
 |false=>some (.inr (.inl (b,())))
def AO2[Lk]:Ub→Option (Ua):=fun(b,a,c,_)=>
 match A9 ATT many (b,a,c,(w64 (a+1)),())with|none=>none|some r=>match r with
 |.inl (d,_)=>some (d,())
 |.inr _=>none
def AWA[Lk]:=fun v=>Lk.f (AO2 v)
theorem ATX v:AWA v=AO2 v:=A0 _
abbrev I8:A1:=[AY,AI,AJ,AX]
abbrev AMc:A1:=[Abt,An,AJ,AX,AT]
abbrev AMb:BF:=[(.exit 0,[Abt]),(.ret,[Abt])]
def AMa[Lk]:U9→Option (U9⊕Ua⊕Ua⊕Unit):=fun(c,d,b,a,_)=>
 match(ile d (w64 ((w64 (2*a))+1)))with
 |true=>some (.inr (.inl (c,())))
 |false=>match(ilt (w64 ((w64 ((w64 (2*a))+1))+1)) d)with
 |true=>match idx c (w64 (b+(w64 ((w64 (2*a))+1))))with|none=>none|some i=>match idx c (w64 ((w64 (b+(w64 ((w64 (2*a))+1))))+1))with|none=>none|some j=>match Fu ((A7 c (A3 (w64 (b+(w64 ((w64 (2*a))+1))))) 0),(A7 c (A3 (w64 ((w64 (b+(w64 ((w64 (2*a))+1))))+1))) 0),())with|none=>none|some (e,_)=>match e with
  |true=>match idx c (w64 (b+a))with|none=>none|some k=>match idx c (w64 (b+(w64 ((w64 ((w64 (2*a))+1))+1))))with|none=>none|some l=>match Fu ((A7 c (A3 (w64 (b+a))) 0),(A7 c (A3 (w64 (b+(w64 ((w64 ((w64 (2*a))+1))+1))))) 0),())with|none=>none|some (f,_)=>match(!f)with
   |true=>some (.inr (.inr (.inl (c,()))))
   |false=>match idx c (w64 (b+(w64 ((w64 ((w64 (2*a))+1))+1))))with|none=>none|some m=>match idx c (w64 (b+a))with|none=>none|some n=>match idx c (w64 (b+a))with|none=>none|some o=>match idx (BH c (A3 (w64 (b+a))) (A7 c (A3 (w64 (b+(w64 ((w64 ((w64 (2*a))+1))+1))))) 0)) (w64 (b+(w64 ((w64 ((w64 (2*a))+1))+1))))with|none=>none|some p=>some (.inl ((BH (BH c (A3 (w64 (b+a))) (A7 c (A3 (w64 (b+(w64 ((w64 ((w64 (2*a))+1))+1))))) 0)) (A3 (w64 (b+(w64 ((w64 ((w64 (2*a))+1))+1))))) (A7 c (A3 (w64 (b+a))) 0)),d,b,(w64 ((w64 ((w64 (2*a))+1))+1)),()))
  |false=>match idx c (w64 (b+a))with|none=>none|some q=>match idx c (w64 (b+(w64 ((w64 (2*a))+1))))with|none=>none|some r=>match Fu ((A7 c (A3 (w64 (b+a))) 0),(A7 c (A3 (w64 (b+(w64 ((w64 (2*a))+1))))) 0),())with|none=>none|some (g,_)=>match(!g)with
  |true=>some (.inr (.inr (.inl (c,()))))
  |false=>match idx c (w64 (b+(w64 ((w64 (2*a))+1))))with|none=>none|some s=>match idx c (w64 (b+a))with|none=>none|some t=>match idx c (w64 (b+a))with|none=>none|some u=>match idx (BH c (A3 (w64 (b+a))) (A7 c (A3 (w64 (b+(w64 ((w64 (2*a))+1))))) 0)) (w64 (b+(w64 ((w64 (2*a))+1))))with|none=>none|some v=>some (.inl ((BH (BH c (A3 (w64 (b+a))) (A7 c (A3 (w64 (b+(w64 ((w64 (2*a))+1))))) 0)) (A3 (w64 (b+(w64 ((w64 (2*a))+1))))) (A7 c (A3 (w64 (b+a))) 0)),d,b,(w64 ((w64 (2*a))+1)),()))
 |false=>match idx c (w64 (b+a))with|none=>none|some w=>match idx c (w64 (b+(w64 ((w64 (2*a))+1))))with|none=>none|some x=>match Fu ((A7 c (A3 (w64 (b+a))) 0),(A7 c (A3 (w64 (b+(w64 ((w64 (2*a))+1))))) 0),())with|none=>none|some (h,_)=>match(!h)with
 |true=>some (.inr (.inr (.inl (c,()))))
 |false=>match idx c (w64 (b+(w64 ((w64 (2*a))+1))))with|none=>none|some y=>match idx c (w64 (b+a))with|none=>none|some z=>match idx c (w64 (b+a))with|none=>none|some A=>match idx (BH c (A3 (w64 (b+a))) (A7 c (A3 (w64 (b+(w64 ((w64 (2*a))+1))))) 0)) (w64 (b+(w64 ((w64 (2*a))+1))))with|none=>none|some B=>some (.inl ((BH (BH c (A3 (w64 (b+a))) (A7 c (A3 (w64 (b+(w64 ((w64 (2*a))+1))))) 0)) (A3 (w64 (b+(w64 ((w64 (2*a))+1))))) (A7 c (A3 (w64 (b+a))) 0)),d,b,(w64 ((w64 (2*a))+1)),()))
def ADN[Lk]:U9→Option (Ua):=fun(a,b,c,d,_)=>
 match A9 AMa many (a,c,d,b,())with|none=>none|some r=>match r with
 |.inl (e,_)=>some (e,())
 |.inr r=>match r with
 |.inl (f,_)=>some (f,())
 |.inr _=>none
def ADP[Lk]:=fun v=>Lk.f (ADN v)
theorem AMd v:ADP v=ADN v:=A0 _
abbrev APS:A1:=[Abt,An,Aab,AU,Ad]
abbrev APQ:BF:=[(.exit 2,[Abt])]
def APO[Lk]:U9→Option (U9⊕Ua⊕Unit):=fun(b,a,d,c,_)=>
 match(ile 0 c)with
 |true=>match idx b (w64 (a+c))with|none=>none|some f=>match idx b a with|none=>none|some g=>match idx b a with|none=>none|some h=>match idx (BH b (A3 a) (A7 b (A3 (w64 (a+c))) 0)) (w64 (a+c))with|none=>none|some i=>match ADP ((BH (BH b (A3 a) (A7 b (A3 (w64 (a+c))) 0)) (A3 (w64 (a+c))) (A7 b (A3 a) 0)),d,c,a,())with|none=>none|some (e,_)=>some (.inl (e,a,d,(w64 (c-1)),()))
 |false=>some (.inr (.inl (b,())))
abbrev APT:A1:=[Abt,An,Aab,AU,AT,Ah]
abbrev APR:BF:=[(.exit 0,[Abt,An,Aab,AU,AT])]
def APP[Lk]:Up→Option (Up⊕U9⊕Unit):=fun(d,a,e,b,c,_)=>
 match(ile 0 c)with
 |true=>match ADP (d,c,b,a,())with|none=>none|some (f,_)=>some (.inl (f,a,e,b,(w64 (c-1)),()))
 |false=>some (.inr (.inl (d,a,e,b,())))
def AEn[Lk]:Ub→Option (Ua):=fun(c,a,b,_)=>
 match quo? .i64 (w64 ((w64 (b-a))-1)) 2 with|none=>none|some d=>match A9 APP many (c,a,0,(w64 (b-a)),d,())with|none=>none|some r=>match r with
 |.inl (e,f,g,h,_)=>match A9 APO many (e,f,g,(w64 (h-1)),())with|none=>none|some r=>match r with
  |.inl (i,_)=>some (i,())
  |.inr _=>none
 |.inr _=>none
def APV[Lk]:=fun v=>Lk.f (AEn v)
theorem APU v:APV v=AEn v:=A0 _
abbrev AKz:A1:=[Abt,An,AI,Aab,(.tmp 7,.box 1),Ap,(.tmp 8,.dat (.int .u64)),Ah]
def AKy[Lk]:Vf→Option (Vf⊕Ua⊕Unit):=fun(a,b,f,h,c,d,_)=>
 match quo? .i64 f 4 with|none=>none|some i=>match(ile d (w64 ((w64 (b+(w64 (i*2))))+1)))with
 |true=>match xorNext (h,())with|none=>none|some (g,e,_)=>match(ile f (w64 (IntKind.wrap .u64 ((BitVec.ofInt (IntKind.bits .u64) e &&& BitVec.ofInt (IntKind.bits .u64) (IntKind.wrap .u64 (c-1))).toNat))))with
  |true=>match idx a (w64 (b+(w64 ((w64 (IntKind.wrap .u64 ((BitVec.ofInt (IntKind.bits .u64) e &&& BitVec.ofInt (IntKind.bits .u64) (IntKind.wrap .u64 (c-1))).toNat)))-f))))with|none=>none|some j=>match idx a d with|none=>none|some k=>match idx a d with|none=>none|some l=>match idx (BH a (A3 d) (A7 a (A3 (w64 (b+(w64 ((w64 (IntKind.wrap .u64 ((BitVec.ofInt (IntKind.bits .u64) e &&& BitVec.ofInt (IntKind.bits .u64) (IntKind.wrap .u64 (c-1))).toNat)))-f))))) 0)) (w64 (b+(w64 ((w64 (IntKind.wrap .u64 ((BitVec.ofInt (IntKind.bits .u64) e &&& BitVec.ofInt (IntKind.bits .u64) (IntKind.wrap .u64 (c-1))).toNat)))-f))))with|none=>none|some m=>some (.inl ((BH (BH a (A3 d) (A7 a (A3 (w64 (b+(w64 ((w64 (IntKind.wrap .u64 ((BitVec.ofInt (IntKind.bits .u64) e &&& BitVec.ofInt (IntKind.bits .u64) (IntKind.wrap .u64 (c-1))).toNat)))-f))))) 0)) (A3 (w64 (b+(w64 ((w64 (IntKind.wrap .u64 ((BitVec.ofInt (IntKind.bits .u64) e &&& BitVec.ofInt (IntKind.bits .u64) (IntKind.wrap .u64 (c-1))).toNat)))-f))))) (A7 a (A3 d) 0)),b,f,g,c,(w64 (d+1)),()))
  |false=>match idx a (w64 (b+(w64 (IntKind.wrap .u64 ((BitVec.ofInt (IntKind.bits .u64) e &&& BitVec.ofInt (IntKind.bits .u64) (IntKind.wrap .u64 (c-1))).toNat)))))with|none=>none|some n=>match idx a d with|none=>none|some o=>match idx a d with|none=>none|some p=>match idx (BH a (A3 d) (A7 a (A3 (w64 (b+(w64 (IntKind.wrap .u64 ((BitVec.ofInt (IntKind.bits .u64) e &&& BitVec.ofInt (IntKind.bits .u64) (IntKind.wrap .u64 (c-1))).toNat)))))) 0)) (w64 (b+(w64 (IntKind.wrap .u64 ((BitVec.ofInt (IntKind.bits .u64) e &&& BitVec.ofInt (IntKind.bits .u64) (IntKind.wrap .u64 (c-1))).toNat)))))with|none=>none|some q=>some (.inl ((BH (BH a (A3 d) (A7 a (A3 (w64 (b+(w64 (IntKind.wrap .u64 ((BitVec.ofInt (IntKind.bits .u64) e &&& BitVec.ofInt (IntKind.bits .u64) (IntKind.wrap .u64 (c-1))).toNat)))))) 0)) (A3 (w64 (b+(w64 (IntKind.wrap .u64 ((BitVec.ofInt (IntKind.bits .u64) e &&& BitVec.ofInt (IntKind.bits .u64) (IntKind.wrap .u64 (c-1))).toNat)))))) (A7 a (A3 d) 0)),b,f,g,c,(w64 (d+1)),()))
 |false=>some (.inr (.inl (a,())))
def tv[Lk]:Ub→Option (Ua):=fun(c,a,b,_)=>
 match(ile 8 (w64 (b-a)))with
 |true=>match P1 ((w64 (b-a)),())with|none=>none|some (d,_)=>match quo? .i64 (w64 (b-a)) 4 with|none=>none|some e=>match A9 AKy many (c,a,(w64 (b-a)),(IntKind.wrap .u64 (w64 (b-a))),d,(w64 ((w64 (a+(w64 (e*2))))-1)),())with|none=>none|some r=>match r with
  |.inl (f,_)=>some (f,())
  |.inr _=>none
 |false=>some (c,())
def ABi[Lk]:=fun v=>Lk.f (tv v)
theorem AK0 v:ABi v=tv v:=A0 _
abbrev AIh:A1:=[AY,AI,AJ,Ar,AQ]
abbrev AIg:A1:=[Abt,As,AQ,AB,AI]
def dm[Lk]:U9→Option (U9):=fun(a,b,c,d,_)=>
 match idx a c with|none=>none|some f=>match idx a b with|none=>none|some g=>match Fu ((A7 a (A3 c) 0),(A7 a (A3 b) 0),())with|none=>none|some (e,_)=>match e with
 |true=>some (a,(w64 (d+1)),c,b,())
 |false=>some (a,d,b,c,())
def Pv[Lk]:=fun v=>Lk.f (dm v)
theorem zl v:Pv v=dm v:=A0 _
abbrev AIw:A1:=[AY,AI,AJ,AX,At,AQ]
abbrev dx:A1:=[Abt,As,AQ,AB]
def dy[Lk]:Up→Option (Ub):=fun(a,b,c,d,e,_)=>
 match Pv (a,b,c,e,())with|none=>none|some (f,g,h,i,_)=>match Pv (f,i,d,g,())with|none=>none|some (j,k,l,p,_)=>match Pv (j,h,l,k,())with|none=>none|some (m,n,q,o,_)=>some (m,n,o,())
def P6[Lk]:=fun v=>Lk.f (dy v)
theorem z3 v:P6 v=dy v:=A0 _
abbrev AI3:A1:=[AY,AI,Au,AQ]
def eI[Lk]:Ub→Option (Ub):=fun(b,a,c,_)=>
 match P6 (b,(w64 (a-1)),a,(w64 (a+1)),c,())with|none=>none|some (d,e,f,_)=>some (d,e,f,())
def P7[Lk]:=fun v=>Lk.f (eI v)
theorem z8 v:P7 v=eI v:=A0 _
abbrev ANd:A1:=[Abt,AB,AI]
def qD[Lk]:Ub→Option (Ub):=fun(b,a,c,_)=>
 match quo? .i64 (w64 (c-a)) 4 with|none=>none|some i=>match quo? .i64 (w64 (c-a)) 4 with|none=>none|some d=>match quo? .i64 (w64 (c-a)) 4 with|none=>none|some j=>match(ile 8 (w64 (c-a)))with
 |true=>match(ile 50 (w64 (c-a)))with
  |true=>match P7 (b,(w64 (a+(w64 (i*1)))),0,())with|none=>none|some (m,n,o,_)=>match P7 (m,(w64 (a+(w64 (d*2)))),n,())with|none=>none|some (p,q,r,_)=>match P7 (p,(w64 (a+(w64 (j*3)))),q,())with|none=>none|some (s,t,u,_)=>match P6 (s,o,r,u,t,())with|none=>none|some (e,k,f,_)=>match(ieq k 0)with
   |true=>some (e,f,1,())
   |false=>match(ieq k 12)with
   |true=>some (e,f,2,())
   |false=>some (e,f,0,())
  |false=>match P6 (b,(w64 (a+(w64 (i*1)))),(w64 (a+(w64 (d*2)))),(w64 (a+(w64 (j*3)))),0,())with|none=>none|some (g,l,h,_)=>match(ieq l 0)with
  |true=>some (g,h,1,())
  |false=>match(ieq l 12)with
  |true=>some (g,h,2,())
  |false=>some (g,h,0,())
 |false=>match(ieq 0 0)with
 |true=>some (b,(w64 (a+(w64 (d*2)))),1,())
 |false=>match(ieq 0 12)with
 |true=>some (b,(w64 (a+(w64 (d*2)))),2,())
 |false=>some (b,(w64 (a+(w64 (d*2)))),0,())
def yq[Lk]:=fun v=>Lk.f (qD v)
theorem AIC v:yq v=qD v:=A0 _
abbrev ASR:A1:=[Abt,An,Aab,AU]
def ASQ[Lk]:Ub→Option (Ub⊕Ua⊕Unit):=fun(a,b,c,_)=>
 match(ilt b c)with
 |true=>match idx a c with|none=>none|some d=>match idx a b with|none=>none|some e=>match idx a b with|none=>none|some f=>match idx (BH a (A3 b) (A7 a (A3 c) 0)) c with|none=>none|some g=>some (.inl ((BH (BH a (A3 b) (A7 a (A3 c) 0)) (A3 c) (A7 a (A3 b) 0)),(w64 (b+1)),(w64 (c-1)),()))
 |false=>some (.inr (.inl (a,())))
def AM6[Lk]:Ub→Option (Ua):=fun(a,b,c,_)=>
 match A9 ASQ many (a,b,(w64 (c-1)),())with|none=>none|some r=>match r with
 |.inl (d,_)=>some (d,())
 |.inr _=>none
def AVO[Lk]:=fun v=>Lk.f (AM6 v)
theorem ASS v:AVO v=AM6 v:=A0 _
abbrev qm:A1:=[Abt,An,AI,AJ,AU,AT,Ad]
abbrev qi:BF:=[(.exit 6,[Abt,An,AI,AJ,AU,AT])]
def TT[Lk]:Vf→Option (Vf⊕Up⊕Unit):=fun(b,d,c,e,f,a,_)=>
 match(ilt a c)with
 |true=>match idx b a with|none=>none|some h=>match idx b (w64 (a-1))with|none=>none|some i=>match Fu ((A7 b (A3 a) 0),(A7 b (A3 (w64 (a-1))) 0),())with|none=>none|some (g,_)=>match(!g)with
  |true=>some (.inr (.inl (b,d,c,e,f,())))
  |false=>match idx b (w64 (a-1))with|none=>none|some j=>match idx b a with|none=>none|some k=>match idx b a with|none=>none|some l=>match idx (BH b (A3 a) (A7 b (A3 (w64 (a-1))) 0)) (w64 (a-1))with|none=>none|some m=>some (.inl ((BH (BH b (A3 a) (A7 b (A3 (w64 (a-1))) 0)) (A3 (w64 (a-1))) (A7 b (A3 a) 0)),d,c,e,f,(w64 (a+1)),()))
 |false=>some (.inr (.inl (b,d,c,e,f,())))
abbrev qn:A1:=[Abt,An,AI,AJ,AU,AT,Ah]
abbrev qj:BF:=[(.exit 4,[Abt,An,AI,AJ,AU,AT])]
def qf[Lk]:Vf→Option (Vf⊕Up⊕Unit):=fun(b,c,d,e,f,a,_)=>
 match(ile 1 a)with
 |true=>match idx b a with|none=>none|some h=>match idx b (w64 (a-1))with|none=>none|some i=>match Fu ((A7 b (A3 a) 0),(A7 b (A3 (w64 (a-1))) 0),())with|none=>none|some (g,_)=>match(!g)with
  |true=>some (.inr (.inl (b,c,d,e,f,())))
  |false=>match idx b (w64 (a-1))with|none=>none|some j=>match idx b a with|none=>none|some k=>match idx b a with|none=>none|some l=>match idx (BH b (A3 a) (A7 b (A3 (w64 (a-1))) 0)) (w64 (a-1))with|none=>none|some m=>some (.inl ((BH (BH b (A3 a) (A7 b (A3 (w64 (a-1))) 0)) (A3 (w64 (a-1))) (A7 b (A3 a) 0)),c,d,e,f,(w64 (a-1)),()))
 |false=>some (.inr (.inl (b,c,d,e,f,())))
abbrev TU:A1:=[Abt,An,AI,AJ,AU,AT]
abbrev qk:BF:=[(.exit 2,[Abt,An,AI,AJ,AU,AT])]
def qg[Lk]:Up→Option (Up⊕Up⊕Unit):=fun(b,d,c,a,e,_)=>
 match(ilt a c)with
 |true=>match idx b a with|none=>none|some g=>match idx b (w64 (a-1))with|none=>none|some h=>match Fu ((A7 b (A3 a) 0),(A7 b (A3 (w64 (a-1))) 0),())with|none=>none|some (f,_)=>match(!f)with
  |true=>some (.inl (b,d,c,(w64 (a+1)),e,()))
  |false=>some (.inr (.inl (b,d,c,a,e,())))
 |false=>some (.inr (.inl (b,d,c,a,e,())))
abbrev ql:BF:=[(.ret,[Abt,(.tmp 6,.dat .bool)]),(.exit 0,[Abt])]
def qh[Lk]:Up→Option (Up⊕(List Int×Bool×Unit)⊕Ua⊕Unit):=fun(h,m,n,o,i,_)=>
 match(ilt i 5)with
 |true=>match A9 qg many (h,m,n,o,i,())with|none=>none|some r=>match r with
  |.inl (b,d,c,a,f,_)=>match(ieq a c)with
   |true=>some (.inr (.inl (b,true,())))
   |false=>match(ilt (w64 (c-d)) 50)with
   |true=>some (.inr (.inl (b,false,())))
   |false=>match idx b (w64 (a-1))with|none=>none|some A=>match idx b a with|none=>none|some B=>match idx b a with|none=>none|some C=>match idx (BH b (A3 a) (A7 b (A3 (w64 (a-1))) 0)) (w64 (a-1))with|none=>none|some D=>match(ile 2 (w64 (a-d)))with
   |true=>match A9 qf many ((BH (BH b (A3 a) (A7 b (A3 (w64 (a-1))) 0)) (A3 (w64 (a-1))) (A7 b (A3 a) 0)),d,c,a,f,(w64 (a-1)),())with|none=>none|some r=>match r with
    |.inl (j,k,g,e,l,_)=>match(ile 2 (w64 (g-e)))with
     |true=>match A9 TT many (j,k,g,e,l,(w64 (e+1)),())with|none=>none|some r=>match r with
      |.inl (p,q,s,t,u,_)=>some (.inl (p,q,s,t,(w64 (u+1)),()))
      |.inr _=>none
     |false=>some (.inl (j,k,g,e,(w64 (l+1)),()))
    |.inr _=>none
   |false=>match(ile 2 (w64 (c-a)))with
   |true=>match A9 TT many ((BH (BH b (A3 a) (A7 b (A3 (w64 (a-1))) 0)) (A3 (w64 (a-1))) (A7 b (A3 a) 0)),d,c,a,f,(w64 (a+1)),())with|none=>none|some r=>match r with
    |.inl (v,w,x,y,z,_)=>some (.inl (v,w,x,y,(w64 (z+1)),()))
    |.inr _=>none
   |false=>some (.inl ((BH (BH b (A3 a) (A7 b (A3 (w64 (a-1))) 0)) (A3 (w64 (a-1))) (A7 b (A3 a) 0)),d,c,a,(w64 (f+1)),()))
  |.inr _=>none
 |false=>some (.inr (.inr (.inl (h,()))))
def Xe[Lk]:Ub→Option ((List Int×Bool×Unit)):=fun(b,a,c,_)=>
 match A9 qh many (b,a,c,(w64 (a+1)),0,())with|none=>none|some r=>match r with
 |.inl (d,e,_)=>some (d,e,())
 |.inr r=>match r with
 |.inl (f,_)=>some (f,false,())
 |.inr _=>none
def Xg[Lk]:=fun v=>Lk.f (Xe v)
theorem qo v:Xg v=Xe v:=A0 _
abbrev OV:A1:=[Abt,An,AI,Ah,Ad]
abbrev za:BF:=[(.exit 4,[Abt,An,AI,Ah,Ad])]
def zX[Lk]:U9→Option (U9⊕U9⊕Unit):=fun(a,c,d,b,_)=>
 match(ile d b)with
 |true=>match idx a c with|none=>none|some f=>match idx a b with|none=>none|some g=>match Fu ((A7 a (A3 c) 0),(A7 a (A3 b) 0),())with|none=>none|some (e,_)=>match e with
  |true=>some (.inl (a,c,d,(w64 (b-1)),()))
  |false=>some (.inr (.inl (a,c,d,b,())))
 |false=>some (.inr (.inl (a,c,d,b,())))
abbrev zb:BF:=[(.exit 2,[Abt,An,AI,Ah,Ad])]
def zY[Lk]:U9→Option (U9⊕U9⊕Unit):=fun(a,c,b,d,_)=>
 match(ile b d)with
 |true=>match idx a c with|none=>none|some f=>match idx a b with|none=>none|some g=>match Fu ((A7 a (A3 c) 0),(A7 a (A3 b) 0),())with|none=>none|some (e,_)=>match(!e)with
  |true=>some (.inl (a,c,(w64 (b+1)),d,()))
  |false=>some (.inr (.inl (a,c,b,d,())))
 |false=>some (.inr (.inl (a,c,b,d,())))
abbrev zc:BF:=[(.exit 0,[Abt,Ah])]
def zZ[Lk]:U9→Option (U9⊕Uh⊕Unit):=fun(d,e,f,g,_)=>
 match A9 zY many (d,e,f,g,())with|none=>none|some r=>match r with
 |.inl (h,i,j,k,_)=>match A9 zX many (h,i,j,k,())with|none=>none|some r=>match r with
  |.inl (a,l,b,c,_)=>match(ilt c b)with
   |true=>some (.inr (.inl (a,b,())))
   |false=>match idx a c with|none=>none|some m=>match idx a b with|none=>none|some n=>match idx a b with|none=>none|some o=>match idx (BH a (A3 b) (A7 a (A3 c) 0)) c with|none=>none|some p=>some (.inl ((BH (BH a (A3 b) (A7 a (A3 c) 0)) (A3 c) (A7 a (A3 b) 0)),l,(w64 (b+1)),(w64 (c-1)),()))
  |.inr _=>none
 |.inr _=>none
def de[Lk]:U9→Option (Uh):=fun(a,b,d,c,_)=>
 match idx a c with|none=>none|some g=>match idx a b with|none=>none|some h=>match idx a b with|none=>none|some i=>match idx (BH a (A3 b) (A7 a (A3 c) 0)) c with|none=>none|some j=>match A9 zZ many ((BH (BH a (A3 b) (A7 a (A3 c) 0)) (A3 c) (A7 a (A3 b) 0)),b,(w64 (b+1)),(w64 (d-1)),())with|none=>none|some r=>match r with
 |.inl (e,f,_)=>some (e,f,())
 |.inr _=>none
def ju[Lk]:=fun v=>Lk.f (de v)
theorem zd v:ju v=de v:=A0 _
abbrev ASz:A1:=[Abt,AB,Aw]
abbrev MA:A1:=[Abt,An,AI,Ad,Ae]
abbrev AOE:BF:=[(.exit 8,[Abt,An,AI,Ad,Ae])]
def AN9[Lk]:U9→Option (U9⊕U9⊕Unit):=fun(a,c,d,b,_)=>
 match(ile d b)with
 |true=>match idx a b with|none=>none|some f=>match idx a c with|none=>none|some g=>match Fu ((A7 a (A3 b) 0),(A7 a (A3 c) 0),())with|none=>none|some (e,_)=>match(!e)with
  |true=>some (.inl (a,c,d,(w64 (b-1)),()))
  |false=>some (.inr (.inl (a,c,d,b,())))
 |false=>some (.inr (.inl (a,c,d,b,())))
abbrev AOF:BF:=[(.exit 6,[Abt,An,AI,Ad,Ae])]
def AOA[Lk]:U9→Option (U9⊕U9⊕Unit):=fun(a,c,b,d,_)=>
 match(ile b d)with
 |true=>match idx a b with|none=>none|some f=>match idx a c with|none=>none|some g=>match Fu ((A7 a (A3 b) 0),(A7 a (A3 c) 0),())with|none=>none|some (e,_)=>match e with
  |true=>some (.inl (a,c,(w64 (b+1)),d,()))
  |false=>some (.inr (.inl (a,c,b,d,())))
 |false=>some (.inr (.inl (a,c,b,d,())))
abbrev AOG:BF:=[(.exit 4,[Abt,An,AI,Ae])]
def AOB[Lk]:U9→Option (U9⊕Ub⊕Unit):=fun(e,f,g,h,_)=>
 match A9 AOA many (e,f,g,h,())with|none=>none|some r=>match r with
 |.inl (i,j,k,l,_)=>match A9 AN9 many (i,j,k,l,())with|none=>none|some r=>match r with
  |.inl (a,d,c,b,_)=>match(ilt b c)with
   |true=>some (.inr (.inl (a,d,b,())))
   |false=>match idx a b with|none=>none|some m=>match idx a c with|none=>none|some n=>match idx a c with|none=>none|some o=>match idx (BH a (A3 c) (A7 a (A3 b) 0)) b with|none=>none|some p=>some (.inl ((BH (BH a (A3 c) (A7 a (A3 b) 0)) (A3 b) (A7 a (A3 c) 0)),d,(w64 (c+1)),(w64 (b-1)),()))
  |.inr _=>none
 |.inr _=>none
abbrev AOH:BF:=[(.exit 2,[Abt,An,AI,Ad,Ae])]
def AOC[Lk]:U9→Option (U9⊕U9⊕Unit):=fun(a,c,d,b,_)=>
 match(ile d b)with
 |true=>match idx a b with|none=>none|some f=>match idx a c with|none=>none|some g=>match Fu ((A7 a (A3 b) 0),(A7 a (A3 c) 0),())with|none=>none|some (e,_)=>match(!e)with
  |true=>some (.inl (a,c,d,(w64 (b-1)),()))
  |false=>some (.inr (.inl (a,c,d,b,())))
 |false=>some (.inr (.inl (a,c,d,b,())))
abbrev AOI:BF:=[(.exit 0,[Abt,An,AI,Ad,Ae])]
def AOD[Lk]:U9→Option (U9⊕U9⊕Unit):=fun(a,c,b,d,_)=>
 match(ile b d)with
 |true=>match idx a b with|none=>none|some f=>match idx a c with|none=>none|some g=>match Fu ((A7 a (A3 b) 0),(A7 a (A3 c) 0),())with|none=>none|some (e,_)=>match e with
  |true=>some (.inl (a,c,(w64 (b+1)),d,()))
  |false=>some (.inr (.inl (a,c,b,d,())))
 |false=>some (.inr (.inl (a,c,b,d,())))
def AD3[Lk]:U9→Option ((List Int×Int×Bool×Unit)):=fun(c,e,k,i,_)=>
 match idx c i with|none=>none|some p=>match idx c e with|none=>none|some q=>match idx c e with|none=>none|some s=>match idx (BH c (A3 e) (A7 c (A3 i) 0)) i with|none=>none|some t=>match A9 AOD many ((BH (BH c (A3 e) (A7 c (A3 i) 0)) (A3 i) (A7 c (A3 e) 0)),e,(w64 (e+1)),(w64 (k-1)),())with|none=>none|some r=>match r with
 |.inl (l,m,n,o,_)=>match A9 AOC many (l,m,n,o,())with|none=>none|some r=>match r with
  |.inl (a,g,f,b,_)=>match(ilt b f)with
   |true=>match idx a g with|none=>none|some u=>match idx a b with|none=>none|some v=>match idx a b with|none=>none|some w=>match idx (BH a (A3 b) (A7 a (A3 g) 0)) g with|none=>none|some x=>some ((BH (BH a (A3 b) (A7 a (A3 g) 0)) (A3 g) (A7 a (A3 b) 0)),b,true,())
   |false=>match idx a b with|none=>none|some y=>match idx a f with|none=>none|some z=>match idx a f with|none=>none|some A=>match idx (BH a (A3 f) (A7 a (A3 b) 0)) b with|none=>none|some B=>match A9 AOB many ((BH (BH a (A3 f) (A7 a (A3 b) 0)) (A3 b) (A7 a (A3 f) 0)),g,(w64 (f+1)),(w64 (b-1)),())with|none=>none|some r=>match r with
   |.inl (d,j,h,_)=>match idx d j with|none=>none|some C=>match idx d h with|none=>none|some D=>match idx d h with|none=>none|some E=>match idx (BH d (A3 h) (A7 d (A3 j) 0)) j with|none=>none|some F=>some ((BH (BH d (A3 h) (A7 d (A3 j) 0)) (A3 j) (A7 d (A3 h) 0)),h,false,())
   |.inr _=>none
  |.inr _=>none
 |.inr _=>none
def AD5[Lk]:=fun v=>Lk.f (AD3 v)
theorem AOJ v:AD5 v=AD3 v:=A0 _
abbrev ADx:A1:=[Abt,An,AI,AJ,AX,Av,(.tmp 9,.dat .bool)]
abbrev ADw:BF:=[(.ret,[Abt])]
def jl[Lk](self:U9→Option (Ua))(e:List Int)(a b p l:Int)(m n:Bool):Option (Vk⊕Ua⊕Unit):=
 match(ilt 0 a)with
 |true=>match idx e (w64 (a-1))with|none=>none|some w=>match idx e p with|none=>none|some x=>match Fu ((A7 e (A3 (w64 (a-1))) 0),(A7 e (A3 p) 0),())with|none=>none|some (o,_)=>match(!o)with
  |true=>match ju (e,a,b,p,())with|none=>none|some (q,r,_)=>some (.inl (q,r,b,l,m,n,()))
  |false=>match AD5 (e,a,b,p,())with|none=>none|some (f,c,g,_)=>match quo? .i64 (w64 (b-a)) 8 with|none=>none|some h=>match(ilt (w64 (c-a)) (w64 (b-c)))with
  |true=>match self (f,a,c,l,())with|none=>none|some (s,_)=>some (.inl (s,(w64 (c+1)),b,l,(ile h (w64 (c-a))),g,()))
  |false=>match self (f,(w64 (c+1)),b,l,())with|none=>none|some (t,_)=>some (.inl (t,a,c,l,(ile h (w64 (b-c))),g,()))
 |false=>match AD5 (e,a,b,p,())with|none=>none|some (i,d,j,_)=>match quo? .i64 (w64 (b-a)) 8 with|none=>none|some k=>match(ilt (w64 (d-a)) (w64 (b-d)))with
 |true=>match self (i,a,d,l,())with|none=>none|some (u,_)=>some (.inl (u,(w64 (d+1)),b,l,(ile k (w64 (d-a))),j,()))
 |false=>match self (i,(w64 (d+1)),b,l,())with|none=>none|some (v,_)=>some (.inl (v,a,d,l,(ile k (w64 (b-d))),j,()))
def ANt[Lk](self:U9→Option (Ua))(e:List Int)(a b p h l:Int)(c d:Bool):Option (Vk⊕Ua⊕Unit):=
 match c with
 |true=>match d with
  |true=>match(ieq h 1)with
   |true=>match Xg (e,a,b,())with|none=>none|some (f,g,_)=>match g with
    |true=>some (.inr (.inl (f,())))
    |false=>jl self f a b p l c d
   |false=>jl self e a b p l c d
  |false=>jl self e a b p l c d
 |false=>jl self e a b p l c d
def ANs[Lk](self:U9→Option (Ua))(h:List Int)(a b l:Int)(c d:Bool):Option (Vk⊕Ua⊕Unit):=
 match yq (h,a,b,())with|none=>none|some (e,f,g,_)=>match(ieq g 2)with
 |true=>match AVO (e,a,b,())with|none=>none|some (i,_)=>ANt self i a b (w64 ((w64 (b-1))-(w64 (f-a)))) 1 l c d
 |false=>ANt self e a b f g l c d
def jm[Lk](self:U9→Option (Ua)):Vk→Option (Vk⊕Ua⊕Unit):=fun(c,a,b,d,e,f,_)=>
 match(ile (w64 (b-a)) 12)with
 |true=>match AWA (c,a,b,())with|none=>none|some (g,_)=>some (.inr (.inl (g,())))
 |false=>match(ieq d 0)with
 |true=>match APV (c,a,b,())with|none=>none|some (h,_)=>some (.inr (.inl (h,())))
 |false=>match(!e)with
 |true=>match ABi (c,a,b,())with|none=>none|some (i,_)=>ANs self i a b (w64 (d-1)) e f
 |false=>ANs self c a b d e f
def ANu[Lk](self:U9→Option (Ua)):U9→Option (Ua):=fun(a,b,c,d,_)=>
 match A9 (jm self) many (a,b,c,d,true,true,())with|none=>none|some r=>match r with
 |.inl (e,_)=>some (e,())
 |.inr _=>none
def OS[Lk]:Nat→U9→Option (Ua)
 |0,_=>none
 |n+1,v=>ANu (OS n) v
def ANv[Lk]:=fun v=>Lk.f (OS 100 v)
theorem ASp v:ANv v=OS 100 v:=A0 _
def ADF[Lk]:Ua→Option (Ua):=fun(a,_)=>
 match bitsLen ((IntKind.wrap .u64 (A4 a)),())with|none=>none|some (b,_)=>match ANv (a,0,(A4 a),b,())with|none=>none|some (c,_)=>some (c,())
def AMN[Lk]:=fun v=>Lk.f (ADF v)
theorem AMM v:AMN v=ADF v:=A0 _
abbrev Abu:Loc×Con:=(.tmp 2,.clo 169 [])
abbrev Abv:Loc×Con:=(.tmp 0,.dat Uy)
abbrev AWP:A1:=[Abv,(.tmp 1,.dat U2),Abu]
abbrev ABl:A1:=[AB,Aw]
abbrev Abw:Loc×Con:=(.cell 0 3,.dat .bool)
abbrev AUM:A1:=[Abv,Abu,(.tmp 4,.box 4),AO,AbF,Abs,Abw,AT,Ah,Ad]
abbrev AUL:BF:=[(.exit 0,[Abv,Abu,(.tmp 4,.box 4),AO,AbF,Abs,Abw,AT,Ah])]
def AUK[Lk]:(List U1×Int×Int×Int×Bool×Int×Int×Int×Unit)→Option ((List U1×Int×Int×Int×Bool×Int×Int×Int×Unit)⊕(List U1×Int×Int×Int×Bool×Int×Int×Unit)⊕Unit):=fun(a,b,c,d,e,h,f,i,_)=>
 match(ilt f i)with
 |true=>match shr? .u64 (IntKind.wrap .u64 (w64 (f+i))) 1 with|none=>none|some j=>match idx a (w64 j)with|none=>none|some g=>match IW ((g.1,(g.2.1,(g.2.2.1,(g.2.2.2.1,())))),(b,(c,(d,(e,())))),())with|none=>none|some (k,_)=>match(ilt k 0)with
  |true=>some (.inl (a,b,c,d,e,h,(w64 ((w64 j)+1)),i,()))
  |false=>some (.inl (a,b,c,d,e,h,f,(w64 j),()))
 |false=>some (.inr (.inl (a,b,c,d,e,h,f,())))
def AQo[Lk]:(List U1×U1×Unit)→Option ((Int×Bool×Unit)):=fun(d,a,_)=>
 match A9 AUK many (d,a.1,a.2.1,a.2.2.1,a.2.2.2.1,(A4 d),0,(A4 d),())with|none=>none|some r=>match r with
 |.inl (e,f,g,h,i,j,b,_)=>match(ilt b j)with
  |true=>match idx e b with|none=>none|some c=>match IW ((c.1,(c.2.1,(c.2.2.1,(c.2.2.2.1,())))),(f,(g,(h,(i,())))),())with|none=>none|some (k,_)=>some (b,(ieq k 0),())
  |false=>some (b,false,())
 |.inr _=>none
def AWQ[Lk]:=fun v=>Lk.f (AQo v)
theorem AUN v:AWQ v=AQo v:=A0 _
abbrev P_:A1:=[AaV,AI,AJ]
def rT[Lk]:V2→Option ((Int×Bool×Unit)):=fun(c,a,b,_)=>
 match AWQ (c.2.1,((Cb a b),((imax a b),(0,(false,())))),())with|none=>none|some (d,e,_)=>some (d,e,())
def AAF[Lk]:=fun v=>Lk.f (rT v)
theorem AJC v:AAF v=rT v:=A0 _
abbrev Abx:Loc×Con:=(.tmp 1,.clo 335 [(1,0)])
abbrev Aby:Loc×Con:=(.cell 1 1,.dat Ue)
abbrev MR:A1:=[AY,(.cap 1 0,.box 2),AQ,Aby,Abx]
abbrev Abz:Loc×Con:=(.obj 1,.box 2)
abbrev YZ:A1:=[Abt,Abz,AQ,Aby,AB]
abbrev VE:A1:=[Abt,Abz,AQ,Aby,An,Abx,AU,AT]
abbrev VD:BF:=[(.ret,[Abt,Abz,AQ,Aby,AW]),(.exit 0,[Abt,Abz,AQ,Aby])]
def VC[Lk]:(List Int×Int×List U5×Int×Int×Unit)→Option ((List Int×Int×List U5×Int×Int×Unit)⊕(List Int×Int×List U5×Int×Unit)⊕(List Int×Int×List U5×Unit)⊕Unit):=fun(a,c,d,e,b,_)=>
 match(ilt b e)with
 |true=>match idx a b with|none=>none|some f=>match(ile c (A7 a (A3 b) 0))with
  |true=>some (.inr (.inl (a,c,d,b,())))
  |false=>some (.inl (a,c,d,e,(w64 (b+1)),()))
 |false=>some (.inr (.inr (.inl (a,c,d,()))))
def MS[Lk]:(List Int×Int×List U5×Unit)→Option ((List Int×Int×List U5×Int×Unit)):=fun(a,b,c,_)=>
 match A9 VC many (a,b,c,(A4 a),0,())with|none=>none|some r=>match r with
 |.inl (d,e,f,g,_)=>some (d,e,f,g,())
 |.inr r=>match r with
 |.inl (h,i,j,_)=>some (h,i,j,(-1:Int),())
 |.inr _=>none
def LC[Lk]:=fun v=>Lk.f (MS v)
theorem VF v:LC v=MS v:=A0 _
abbrev ATk:A1:=[(.tmp 0,.nil U2),AI]
abbrev Ab0:Loc×Con:=(.tmp 0,.own 152 U2)
abbrev AEq:A1:=[Ab0]
def AEr[Lk]:U8→Option (V4):=fun(a,_)=>
 match(ilt a 0)with
 |true=>none
 |false=>match(ilt 0 (w64 (a-(w64 (0-0)))))with
 |true=>match Cv ([]:List Unit) 0 0 with|none=>none|some _u0=>match(CZ (w64 (a-(w64 (0-0)))))with
  |true=>match Cv (DD (A3 (w64 (a-(w64 ((0:Int)-(0:Int)))))) ((0:Int),((0:Int),((0:Int),(false,()))))) (0:Int) (0:Int)with|none=>none|some b=>some ((C1 (A3 (A4 b)) (DD (A3 (w64 (a-(w64 ((0:Int)-(0:Int)))))) ((0:Int),((0:Int),((0:Int),(false,())))))),())
  |false=>none
 |false=>some (([]:List U1),())
def APd[Lk]:=fun v=>Lk.f (AEr v)
theorem APc v:APd v=AEr v:=A0 _
abbrev Ab1:Loc×Con:=(.tmp 0,.dat (.slice Uy))
abbrev AKc:A1:=[Ab1]
abbrev ABH:A1:=[(.tmp 6,.own 152 U2),(.tmp 25,.dat (.slice Uy)),Ac,Ab]
abbrev ABF:BF:=[(.exit 2,[(.tmp 6,.own 152 U2)])]
def ABD[Lk]:(List U1×List (List U1)×Int×Int×Unit)→Option ((List U1×List (List U1)×Int×Int×Unit)⊕V4⊕Unit):=fun(a,c,d,b,_)=>
 match(ilt b d)with
 |true=>match idx c b with|none=>none|some e=>match(fits ((A4 a)+(A4 e)))with
  |true=>some (.inl ((BT a e),c,d,(w64 (b+1)),()))
  |false=>none
 |false=>some (.inr (.inl (a,())))
abbrev ABI:A1:=[Ab1,AX,(.tmp 9,.dat (.slice Uy)),Ad,Ae]
abbrev ABG:BF:=[(.exit 0,[Ab1,AX])]
def ABE[Lk]:(List (List U1)×Int×List (List U1)×Int×Int×Unit)→Option ((List (List U1)×Int×List (List U1)×Int×Int×Unit)⊕(List (List U1)×Int×Unit)⊕Unit):=fun(c,a,d,e,b,_)=>
 match(ilt b e)with
 |true=>match idx d b with|none=>none|some f=>match(ilt (w64 (a+(A4 f))) 0)with
  |true=>none
  |false=>some (.inl (c,(w64 (a+(A4 f))),d,e,(w64 (b+1)),()))
 |false=>some (.inr (.inl (c,a,())))
def fK[Lk]:(List (List U1)×Unit)→Option (V4):=fun(a,_)=>
 match A9 ABE many (a,0,a,(A4 a),0,())with|none=>none|some r=>match r with
 |.inl (b,c,_)=>match APd (c,())with|none=>none|some (d,_)=>match A9 ABD many (d,b,(A4 b),0,())with|none=>none|some r=>match r with
  |.inl (e,_)=>some (e,())
  |.inr _=>none
 |.inr _=>none
def lC[Lk]:=fun v=>Lk.f (fK v)
theorem ABJ v:lC v=fK v:=A0 _
abbrev Ab2:Loc×Con:=(.cell 0 0,.dat U6)
abbrev JO:A1:=[AE,(.cap 1 0,.box 1),Ab2,(.tmp 1,.clo 212 [(0,0)])]
abbrev QQ:A1:=[Ai,Ab2,AB]
abbrev Oy:A1:=[Ai,Ab2,AE,(.tmp 1,.clo 212 [(0,0)]),AU,AT]
abbrev Ox:BF:=[(.ret,[Ai,Ab2,AW]),(.exit 0,[Ai,Ab2])]
def Ow[Lk]:Va→Option (Va⊕Uh⊕Ua⊕Unit):=fun(a,c,d,b,_)=>
 match(ilt b d)with
 |true=>match idx c b with|none=>none|some e=>match(ilt e 0)with
  |true=>some (.inr (.inl (a,b,())))
  |false=>match(ile (A4 a) e)with
  |true=>some (.inr (.inl (a,b,())))
  |false=>some (.inl (a,c,d,(w64 (b+1)),()))
 |false=>some (.inr (.inr (.inl (a,()))))
def JP[Lk]:Vc→Option (Uh):=fun(a,b,_)=>
 match A9 Ow many (b,a,(A4 a),0,())with|none=>none|some r=>match r with
 |.inl (c,d,_)=>some (c,d,())
 |.inr r=>match r with
 |.inl (e,_)=>some (e,(-1:Int),())
 |.inr _=>none
def HL[Lk]:=fun v=>Lk.f (JP v)
theorem Oz v:HL v=JP v:=A0 _
abbrev Ab3:Loc×Con:=(.cell 1 2,.di)
abbrev AQQ:A1:=[AE,(.cap 1 0,.box 1),Ab2,(.cap 1 1,.box 3),AQ,Aba,Ab3,(.tmp 1,.clo 141 [(0,0),(1,0)])]
abbrev AQP:A1:=[Ai,Ab2,(.obj 1,.box 3),AQ,Aba,Ab3,AB]
abbrev AKa:A1:=[Ai,Ab2,(.obj 1,.box 3),AQ,Aba,Ab3,(.tmp 1,.clo 141 [(0,0),(1,0)]),AW,Ag,AT,Ah]
abbrev AKZ:BF:=[(.exit 0,[Ai,Ab2,(.obj 1,.box 3),AQ,Aba,Ab3,AW])]
def AKY[Lk]:(List Int×Int×Int×Int×Int×List Int×Int×Int×Unit)→Option ((List Int×Int×Int×Int×Int×List Int×Int×Int×Unit)⊕Up⊕Unit):=fun(a,d,b,e,f,g,h,c,_)=>
 match(ilt c h)with
 |true=>match idx g c with|none=>none|some i=>match idx a b with|none=>none|some j=>match(ieq i j)with
  |true=>some (.inl (a,d,b,e,(w64 (f+1)),g,h,(w64 (c+1)),()))
  |false=>some (.inl (a,d,b,e,f,g,h,(w64 (c+1)),()))
 |false=>some (.inr (.inl (a,d,b,e,f,())))
def tK[Lk]:(List Int×List Int×Int×Int×Int×Unit)→Option (Up):=fun(a,b,c,d,e,_)=>
 match A9 AKY many (b,c,d,e,0,a,(A4 a),0,())with|none=>none|some r=>match r with
 |.inl (f,g,h,i,j,_)=>some (f,g,h,i,j,())
 |.inr _=>none
def k8[Lk]:=fun v=>Lk.f (tK v)
theorem AKb v:k8 v=tK v:=A0 _
abbrev AQO:A1:=[AE,(.tmp 1,.clo 142 [])]
abbrev AKW:A1:=[(.tmp 1,.clo 142 []),AW,Ag,AT,Ah]
abbrev AKV:BF:=[(.exit 0,[AW])]
def AKU[Lk]:(Int×List Int×Int×Int×Unit)→Option ((Int×List Int×Int×Int×Unit)⊕U8⊕Unit):=fun(b,c,d,a,_)=>
 match(ilt a d)with
 |true=>match idx c a with|none=>none|some e=>match(ieq a e)with
  |true=>some (.inl ((w64 (b+1)),c,d,(w64 (a+1)),()))
  |false=>some (.inl (b,c,d,(w64 (a+1)),()))
 |false=>some (.inr (.inl (b,())))
def tI[Lk]:Ua→Option (U8):=fun(a,_)=>
 match A9 AKU many (0,a,(A4 a),0,())with|none=>none|some r=>match r with
 |.inl (b,_)=>some (b,())
 |.inr _=>none
def ABA[Lk]:=fun v=>Lk.f (tI v)
theorem AKX v:ABA v=tI v:=A0 _
abbrev Ab4:Loc×Con:=(.tmp 0,.dat (.slice (.int .u8)))
abbrev AGl:A1:=[Ab4,AI]
def cA[Lk]:Uh→Option ((Int×Bool×Unit)):=fun(b,a,_)=>
 match(ilt a 0)with
 |true=>some (0,false,())
 |false=>match(ilt (w64 ((A4 b)-2)) a)with
 |true=>some (0,false,())
 |false=>match idx b a with|none=>none|some c=>match shl? .i64 (w64 c) 8 with|none=>none|some d=>match idx b (w64 (a+1))with|none=>none|some e=>some ((w64 ((BitVec.ofInt (IntKind.bits .i64) d ||| BitVec.ofInt (IntKind.bits .i64) (w64 e)).toNat)),true,())
def ACj[Lk]:=fun v=>Lk.f (cA v)
theorem wy v:ACj v=cA v:=A0 _
def AEy[Lk]:(U1×U1×Unit)→Option (U8):=fun(a,b,_)=>
 match Bk ((a.1,(a.2.1,())),(b.1,(b.2.1,())),())with|none=>none|some (c,_)=>some (c,())
def C0[Lk]:=fun v=>Lk.f (AEy v)
theorem APo v:C0 v=AEy v:=A0 _
abbrev Ab5:Loc×Con:=(.tmp 3,.clo 107 [])
abbrev SK:A1:=[Ab0,AI,AJ,Ab5]
abbrev Ab6:Loc×Con:=(.obj 0,.own 152 U2)
abbrev IZ:A1:=[Ab6]
abbrev ATL:A1:=[Ab6,An,AI,AJ,Ab5,AT,Ah]
abbrev ATK:BF:=[(.exit 2,[Ab6,An,AI,AJ,Ab5,AT])]
abbrev ATM:A1:=[Ab6,An,AI,AJ,Ab5,AT]
abbrev kF:BF:=[(.exit 0,[Ab6])]
def AV8[Lk]:Ur→Option (V4):=SN ((0,(0,(0,(false,())))):U1) C0
def AWz[Lk](v:Ur):Option (V4):=AJT ((0,(0,(0,(false,())))):U1) C0 v
theorem ATN v:AWz v=AV8 v:=A0 _
abbrev Ab7:Loc×Con:=(.tmp 4,.clo 107 [])
abbrev I6:A1:=[Ab0,AI,AJ,AX,Ab7]
abbrev AMV:A1:=[Ab6,An,AJ,AX,Ab7,Ad]
abbrev AMU:BF:=[(.exit 0,[Ab6]),(.ret,[Ab6])]
def ASI[Lk]:Uw→Option (V4):=NP ((0,(0,(0,(false,())))):U1) C0
def AUe[Lk](v:Uw):Option (V4):=W5 ((0,(0,(0,(false,())))):U1) C0 v
theorem AMW v:AUe v=ASI v:=A0 _
abbrev APG:A1:=[Ab6,An,Ab5,AT,Ah,AR]
abbrev APE:BF:=[(.exit 2,[Ab6])]
abbrev APH:A1:=[Ab6,An,Ab5,AT,Ah,Ad,Ae]
abbrev APF:BF:=[(.exit 0,[Ab6,An,Ab5,AT,Ah,Ad])]
def ATh[Lk]:Ur→Option (V4):=Nb ((0,(0,(0,(false,())))):U1) C0
def AUt[Lk](v:Ur):Option (V4):=eg ((0,(0,(0,(false,())))):U1) C0 v
theorem API v:AUt v=ATh v:=A0 _
abbrev AKu:A1:=[Ab6,An,AI,AT,(.tmp 9,.box 1),Ap,Aq,Ae]
def AQj[Lk]:Ur→Option (V4):=KO ((0,(0,(0,(false,())))):U1) C0
def breakT[Lk](v:Ur):Option (V4):=Ss ((0,(0,(0,(false,())))):U1) C0 v
theorem AKv v:breakT v=AQj v:=A0 _
abbrev AIb:A1:=[Ab0,AI,AJ,Ar,AQ,Ab7]
abbrev AIa:A1:=[Ab6,As,AQ,AB,AI]
def AIc[Lk]:Uw→Option (Uw):=Hs ((0,(0,(0,(false,())))):U1) C0
def AEA[Lk](v:Uw):Option (Uw):=JD ((0,(0,(0,(false,())))):U1) C0 v
theorem zj v:AEA v=AIc v:=A0 _
abbrev AIs:A1:=[Ab0,AI,AJ,AX,At,AQ,(.tmp 5,.clo 107 [])]
abbrev dt:A1:=[Ab6,As,AQ,AB]
def AIt[Lk]:(List U1×Int×Int×Int×Int×Unit)→Option (Ur):=Ht ((0,(0,(0,(false,())))):U1) C0
def AEM[Lk](v:(List U1×Int×Int×Int×Int×Unit)):Option (Ur):=JF ((0,(0,(0,(false,())))):U1) C0 v
theorem zy v:AEM v=AIt v:=A0 _
abbrev AIz:A1:=[Ab0,AI,Au,AQ,Ab5]
def AI0[Lk]:Ur→Option (Ur):=Hu ((0,(0,(0,(false,())))):U1) C0
def AEP[Lk](v:Ur):Option (Ur):=JG ((0,(0,(0,(false,())))):U1) C0 v
theorem z6 v:AEP v=AI0 v:=A0 _
abbrev ANX:A1:=[Ab6,AB,AI]
def ANY[Lk]:Ur→Option (Ur):=J1 ((0,(0,(0,(false,())))):U1) C0
def ANZ[Lk](v:Ur):Option (Ur):=R1 ((0,(0,(0,(false,())))):U1) C0 v
theorem AIA v:ANZ v=ANY v:=A0 _
abbrev ASM:A1:=[Ab6,An,AT,Ah]
def AVM[Lk]:Ur→Option (V4):=Rw ((0,(0,(0,(false,())))):U1) C0
def AWm[Lk](v:Ur):Option (V4):=AHx ((0,(0,(0,(false,())))):U1) C0 v
theorem ASN v:AWm v=AVM v:=A0 _
abbrev zH:A1:=[Ab6,AF]
abbrev qT:A1:=[Ab6,An,AI,AJ,Ab5,Ah,Ad,AR]
abbrev qP:BF:=[(.exit 6,[Ab6,An,AI,AJ,Ab5,Ah,Ad])]
abbrev qU:A1:=[Ab6,An,AI,AJ,Ab5,Ah,Ad,Ae]
abbrev qQ:BF:=[(.exit 4,[Ab6,An,AI,AJ,Ab5,Ah,Ad])]
abbrev TQ:A1:=[Ab6,An,AI,AJ,Ab5,Ah,Ad]
abbrev qR:BF:=[(.exit 2,[Ab6,An,AI,AJ,Ab5,Ah,Ad])]
abbrev qS:BF:=[(.ret,[Ab6,Av]),(.exit 0,[Ab6])]
def zI[Lk]:Ur→Option ((List U1×Bool×Unit)):=GG ((0,(0,(0,(false,())))):U1) C0
def qW[Lk](v:Ur):Option ((List U1×Bool×Unit)):=J2 ((0,(0,(0,(false,())))):U1) C0 v
theorem qV v:qW v=zI v:=A0 _
abbrev AIT:A1:=[Ab6,AB]
abbrev OT:A1:=[Ab6,An,AI,Ab7,Ae,AR]
abbrev zO:BF:=[(.exit 4,[Ab6,An,AI,Ab7,Ae,AR])]
abbrev zP:BF:=[(.exit 2,[Ab6,An,AI,Ab7,Ae,AR])]
abbrev zQ:BF:=[(.exit 0,[Ab6,Ae])]
def AIU[Lk]:Uw→Option ((List U1×Int×Unit)):=Hr ((0,(0,(0,(false,())))):U1) C0
def AD6[Lk](v:Uw):Option ((List U1×Int×Unit)):=NU ((0,(0,(0,(false,())))):U1) C0 v
theorem zR v:AD6 v=AIU v:=A0 _
abbrev ASv:A1:=[Ab6,AB,Aw]
abbrev L8:A1:=[Ab6,An,AI,Ab7,AR,AS]
abbrev ANx:BF:=[(.exit 8,[Ab6,An,AI,Ab7,AR,AS])]
abbrev ANy:BF:=[(.exit 6,[Ab6,An,AI,Ab7,AR,AS])]
abbrev ANz:BF:=[(.exit 4,[Ab6,An,AI,AS])]
abbrev AN0:BF:=[(.exit 2,[Ab6,An,AI,Ab7,AR,AS])]
abbrev AN1:BF:=[(.exit 0,[Ab6,An,AI,Ab7,AR,AS])]
def ASw[Lk]:Uw→Option ((List U1×Int×Bool×Unit)):=NT ((0,(0,(0,(false,())))):U1) C0
def AUn[Lk](v:Uw):Option ((List U1×Int×Bool×Unit)):=TX ((0,(0,(0,(false,())))):U1) C0 v
theorem AN2 v:AUn v=ASw v:=A0 _
abbrev ADs:A1:=[Ab6,An,AI,AJ,AX,Ab7,Ax,Ay]
abbrev ADr:BF:=[(.ret,[Ab6])]
def ADq[Lk](self:Uw→Option (V4)):(List U1×Int×Int×Int×Bool×Bool×Unit)→Option ((List U1×Int×Int×Int×Bool×Bool×Unit)⊕V4⊕Unit):=Kt ((0,(0,(0,(false,())))):U1) C0 self
def AVk[Lk](self:Uw→Option (V4)):Uw→Option (V4):=R5 ((0,(0,(0,(false,())))):U1) C0 self
def XZ[Lk]:Nat→Uw→Option (V4):=Jf ((0,(0,(0,(false,())))):U1) C0
def ASi[Lk](v:Uw):Option (V4):=AIQ ((0,(0,(0,(false,())))):U1) C0 v
theorem ASh v:ASi v=XZ 100 v:=A0 _
abbrev ASC:A1:=[Ab0,(.tmp 1,.clo 107 [])]
def ASD[Lk]:V4→Option (V4):=NO ((0,(0,(0,(false,())))):U1) C0
def AMK[Lk](v:V4):Option (V4):=oX ((0,(0,(0,(false,())))):U1) C0 v
theorem AMJ v:AMK v=ASD v:=A0 _
def AEu[Lk]:(Uf×Int×Unit)→Option (Uc):=fun(a,b,_)=>
 some ((ile (w64 ((A4 a.2.1)+b)) 400),())
def APg[Lk]:=fun v=>Lk.f (AEu v)
theorem APf v:APg v=AEu v:=A0 _
end
end Go.Pev
end
section
namespace Go.Pev
noncomputable section
abbrev kz:A1:=[Aa0,As,Aaz,Aa1,(.tmp 0,.win' 0)]
abbrev bI:A1:=[Aa0,As,Aaz,Aa1,An,Aay,AG,Aab]
abbrev bH:BF:=[(.exit 0,[Aa0,As,Aaz,Aa1,An,AG])]
def bG[Lk]:(List U3×List (U3×Int)×Int×Int×Unit)→Option ((List U3×List (U3×Int)×Int×Int×Unit)⊕(List U3×List (U3×Int)×Int×Unit)⊕Unit):=fun(a,d,c,b,_)=>
 match(ilt b (A4 a))with
 |true=>match idx a b with|none=>none|some e=>match(!(ieq ((BA d ((A7 a (A3 b) (0,(0,()))).1,((A7 a (A3 b) (0,(0,()))).2.1,()))).getD 0) 0))with
  |true=>match idx a c with|none=>none|some f=>some (.inl ((BH a (A3 c) ((A7 a (A3 b) (0,(0,()))).1,((A7 a (A3 b) (0,(0,()))).2.1,()))),d,(w64 (c+1)),(w64 (b+1)),()))
  |false=>some (.inl (a,d,c,(w64 (b+1)),()))
 |false=>some (.inr (.inl (a,d,c,())))
def Qy[Lk]:(List U3×List (U3×Int)×Unit)→Option ((List U3×List (U3×Int)×Int×Unit)):=fun(g,h,_)=>
 match O2 (g,h,())with|none=>none|some (c,e,d,_)=>match(ieq d (-1:Int))with
 |true=>some (c,e,(A4 c),())
 |false=>match A9 bG many (c,e,d,(w64 (d+1)),())with|none=>none|some r=>match r with
 |.inl (a,i,b,_)=>match Cv a b (A4 a)with|none=>none|some f=>match Cv (Dg (A3 b) (A3 (A4 f)) (0,(0,())) a) 0 b with|none=>none|some j=>some ((Dg (A3 b) (A3 (A4 f)) (0,(0,())) a),i,(((A3 (A4 j)):Nat):Int),())
 |.inr _=>none
def O_[Lk]:=fun v=>Lk.f (Qy v)
theorem bJ v:O_ v=Qy v:=A0 _
def O4[Lk]:U8→Option (Uc):=fun(a,_)=>
 match(ile 0 a)with
 |true=>some ((ile a 1099511627776),())
 |false=>some (false,())
def MW[Lk]:=fun v=>Lk.f (O4 v)
theorem Tj v:MW v=O4 v:=A0 _
def AUY[Lk]:U8→Option (Uc):=fun(a,_)=>
 match(ile 1 a)with
 |true=>some ((ile a 3),())
 |false=>some (false,())
def wb1[Lk]:=fun v=>Lk.f (AUY v)
theorem AVE v:wb1 v=AUY v:=A0 _
end
end Go.Pev
end
