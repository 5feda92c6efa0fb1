/- A part of the proofs of this seat: PevFlow2 PevCall PevCall2 PevCall3 PevCall4 PevTop PevClone G24M1 G24M2 G24M3 G24M4. -/
import Derived.Test.YtaamkoofmojajaaGreatP593ca238bf
import Derived.LoopN
import Derived.Laws.Sem
import Derived.KernelRfl
import Derived.Lib.SliceRun
set_option linter.unusedVariables false
set_option linter.unusedSimpArgs false
set_option linter.unusedSectionVars false
section
namespace Go.Pev
open Go.RowKit
theorem T6 {R : Type} {all : List Oper} {g : Option (Nat × Bool)} {st : St} {yes no : St → Option R} {r : R} (h : guarded R all g st yes no = some r) :
  ∃ st', (yes st' = some r ∧ ∀ (R' : Type) (yes' no' : St → Option R'), guarded R' all g st yes' no' = yes' st') ∨ (no st' = some r ∧ ∀ (R' : Type) (yes' no' : St → Option R'), guarded R' all g st yes' no' = no' st') := by
 unfold guarded at h
 split at h
 ·exact ⟨st, .inl ⟨h, fun _ _ _ => by simp [guarded]⟩⟩
 ·rename_i j want
  split at h
  ·cases h
  ·rename_i d hj
   split at h
   ·rename_i b hd
    cases b with
    | true =>
     cases want with
     | true => exact ⟨_, .inl ⟨h, fun _ _ _ => by simp only [guarded, hj, hd]⟩⟩
     | false => exact ⟨_, .inr ⟨h, fun _ _ _ => by simp only [guarded, hj, hd]⟩⟩
    | false =>
     cases want with
     | true => exact ⟨_, .inr ⟨h, fun _ _ _ => by simp only [guarded, hj, hd]⟩⟩
     | false => exact ⟨_, .inl ⟨h, fun _ _ _ => by simp only [guarded, hj, hd]⟩⟩
   ·rename_i hd
    exact ⟨_, .inr ⟨h, fun _ _ _ => by simp only [guarded, hj, hd]⟩⟩
   ·cases h
section
variable {P : Program} {E : Env} {h : Hints}
theorem AOV (hE : ∀ g, AQ P g (E.spec g)) {R : Type} {r : R} {all : List Oper} : ∀ (ops : List Oper) (slot : Nat) (st : St) (k : St → Option R), IE P E R all ops slot st k = some r →
  ∃ st', k st' = some r ∧ ∀ (R' : Type) (k' : St → Option R'), IE P E R' all ops slot st k' = k' st' := by
 intro ops
 induction ops with
 | nil => intro slot st k h; exact ⟨st, h, fun _ _ => rfl⟩
 | cons o ops ih =>
  intro slot st k h
  simp only [IE] at h
  obtain ⟨st1, h1⟩ := T6 h
  rcases h1 with ⟨h1, h2⟩ | ⟨h1, h2⟩
  ·obtain ⟨v, e, h3, h4, _⟩ := Ik hE o.op _ _ _ _ _ _ _ r h1
   obtain ⟨st2, h5, h6⟩ := ih _ _ _ h3
   exact ⟨st2, h5, fun R' k' => by simp only [IE]; rw [h2, h4]; exact h6 R' k'⟩
  ·obtain ⟨st2, h5, h6⟩ := ih _ _ _ h1
   exact ⟨st2, h5, fun R' k' => by simp only [IE]; rw [h2]; exact h6 R' k'⟩
theorem ATU (hE : ∀ g, AQ P g (E.spec g)) {R : Type} {r : R} {all : List Oper} {o : Oper} {φ : List Nat} {slot : Nat} {st : St} {k : St → Option R} (h : TM P E R all o φ slot st k = some r) :
  ∃ st', k st' = some r ∧ ∀ (R' : Type) (k' : St → Option R'), TM P E R' all o φ slot st k' = k' st' := by
 unfold TM at h
 obtain ⟨st1, h1⟩ := T6 h
 rcases h1 with ⟨h1, h2⟩ | ⟨h1, h2⟩
 ·split at h1
  ·rename_i hw
   obtain ⟨v, e, h3, h4, _⟩ := Ik hE o.op _ _ _ _ _ _ _ r h1
   split at h3
   ·rename_i hok
    exact ⟨_, h3, fun R' k' => by unfold TM; rw [h2]; simp only [hw]; rw [h4]; simp only [hok]⟩
   ·cases h3
  ·cases h1
 ·exact ⟨_, h1, fun R' k' => by unfold TM; rw [h2]⟩
theorem AJm (hE : ∀ g, AQ P g (E.spec g)) {R : Type} {r : R} {all : List Oper} : ∀ (ops : List Oper) (fp : List (List Nat)) (slot : Nat) (st : St) (k : St → Option R), Hi P E R all ops fp slot st k = some r →
  ∃ st', k st' = some r ∧ ∀ (R' : Type) (k' : St → Option R'), Hi P E R' all ops fp slot st k' = k' st' := by
 intro ops
 induction ops with
 | nil => intro fp slot st k h; exact ⟨st, h, fun _ _ => rfl⟩
 | cons o ops ih =>
  intro fp slot st k h
  simp only [Hi] at h
  obtain ⟨st1, h1, h2⟩ := ATU hE h
  obtain ⟨st2, h5, h6⟩ := ih _ _ _ _ h1
  exact ⟨st2, h5, fun R' k' => by simp only [Hi]; rw [h2]; exact h6 R' k'⟩
def Acw (P : Program) (np : Nat) (c : Code) (st : St) (e : Exit) (st' : St) : Prop :=
 ∀ (w : World) (F : Nat → Prop) (m : Mp) (a : Act) (Q : Exit → Act → World → Prop), SI w F m st a →
  (∀ a' w' F' m', SI w' F' m' st' a' → Su np w F m st.heap st.frz w' F' m' st'.heap st'.frz → Q e a' w') → c.wp P Q a w
def Aa (P : Program) (np : Nat) (c : Code) (go : (R : Type) → St → (Exit → St → Option R) → Option R) : Prop :=
 ∀ (R : Type) (st : St) (k : Exit → St → Option R) (r : R), go R st k = some r → ∃ e st', k e st' = some r ∧ (∀ (R' : Type) (k' : Exit → St → Option R'), go R' st k' = k' e st') ∧ Acw P np c st e st'
def DW (P : Program) (np : Nat) (h : Hints) : Code → Nat → Prop
 | .seq a b, n => DW P np h a n ∧ DW P np h b (n + loops a)
 | .cond _ a b, n => DW P np h a n ∧ DW P np h b (n + loops a)
 | .block _ c, n => DW P np h c n
 | .loop c, n => Aa P np (.loop c) (h.loop n)
 | _, _ => True
theorem ASi {w : World} {F : Nat → Prop} {m : Mp} {st : St} {a : Act} (hs : SI w F m st a) {c : Operand} {x : Bool} (hc : BG st.tmps c = .data .bool x) :
  a.eval c = .bool x ∧ SI w F m { st with tmps := Mt st.tmps c x } a := by
 have h1 : Rep w F m st.heap (BG st.tmps c) (a.eval c) := Zl hs.tmps c
 rw [hc] at h1
 refine ⟨?_, ?_⟩
 ·unfold Rep Bd at h1
  simp only [Ty.isAgg, Bool.false_eq_true, if_false] at h1
  simpa [Dat] using h1
 ·cases c with
  | tmp t =>
   simp only [BG, List.getD_eq_getElem?_getD] at hc
   exact hs.lit (d := t) (b := x) (by
    cases ht : st.tmps[t]? with
    | none => rw [ht] at hc; simp at hc
    | some v => rw [ht] at hc; simp at hc; rw [hc])
  | const v => exact hs
  | func f => exact hs
  | global g => exact hs
theorem Mz (hE : ∀ g, AQ P g (E.spec g)) (hL : H6 E) {np : Nat} : ∀ (c : Code) (n : Nat), DW P np h c n → Aa P np c (fun R => A6 P E h R c n) := by
 intro c
 induction c with
 | skip =>
  intro n _ R st k r hk
  simp only [A6] at hk
  exact ⟨_, _, hk, fun _ _ => rfl, fun w F m a Q hs hq => wp_skip (hq a w F m hs (Su.refl ..))⟩
 | region id ops draw =>
  intro n _ R st k r hk
  cases draw with
  | false =>
   simp only [A6, Ge] at hk
   obtain ⟨st', h1, h2⟩ := AOV hE _ _ _ _ hk
   refine ⟨.normal, st', h1, fun R' k' => by simp only [A6, Ge]; exact h2 R' _, fun w F m a Q hs hq => ?_⟩
   have h3 : Ge P E St ops.toList st some = some st' := by simp only [Ge]; exact h2 St some
   refine AFh hE h3 hs fun a' w' hp => ?_
   obtain ⟨st1, F', m', e1, e2, e3⟩ := hp
   cases e1
   exact hq a' w' F' m' e2 (e3.toN np)
  | true =>
   simp only [A6] at hk
   have hk' := hk
   unfold Dx at hk
   split at hk
   ·rename_i hok
    obtain ⟨st', h1, h2⟩ := AJm hE _ _ _ _ _ hk
    refine ⟨.normal, st', h1, fun R' k' => by simp only [A6, Dx, hok]; exact h2 R' _, fun w F m a Q hs hq => ?_⟩
    have h3 : Dx P E St (h.fp id) ops.toList st some = some st' := by simp only [Dx, hok]; exact h2 St some
    refine ABV hE hL h3 hs fun a' w' hp => ?_
    obtain ⟨st1, F', m', e1, e2, e3⟩ := hp
    cases e1
    exact hq a' w' F' m' e2 (e3.toN np)
   ·cases hk
 | seq a b iha ihb =>
  intro n hl R st k r hk
  simp only [A6] at hk
  obtain ⟨e, st1, h1, h2', h3⟩ := iha n hl.1 R st _ r hk
  have h2 : ∀ (R' : Type) (k' : Exit → St → Option R'), A6 P E h R' a n st k' = k' e st1 := h2'
  by_cases he : e = .normal
  ·subst he
   simp only at h1
   obtain ⟨e2, st2, k1, k2, k3⟩ := ihb _ hl.2 R st1 _ r h1
   refine ⟨e2, st2, k1, fun R' k' => ?_, fun w F m act Q hs hq => wp_seq ?_⟩
   ·simp only [A6]; rw [h2]; exact k2 R' k'
   ·refine h3 w F m act _ hs fun a' w' F' m' s1 x1 => ?_
    exact k3 w' F' m' a' Q s1 fun a2 w2 F2 m2 s2 x2 => hq a2 w2 F2 m2 s2 (x1.trans x2)
  ·have h1' : k e st1 = some r := by cases e <;> first | exact absurd rfl he | exact h1
   refine ⟨e, st1, h1', fun R' k' => ?_, fun w F m act Q hs hq => wp_seq ?_⟩
   ·simp only [A6]; rw [h2]; cases e <;> first | exact absurd rfl he | rfl
   ·refine h3 w F m act _ hs fun a' w' F' m' s1 x1 => ?_
    have := hq a' w' F' m' s1 x1
    cases e <;> first | exact absurd rfl he | exact this
 | cond c a b iha ihb =>
  intro n hl R st k r hk
  simp only [A6] at hk
  split at hk
  ·rename_i x hc
   cases x with
   | true =>
    obtain ⟨e, st1, h1, h2, h3⟩ := iha _ hl.1 R _ _ r hk
    refine ⟨e, st1, h1, fun R' k' => by simp only [A6, hc]; exact h2 R' k', fun w F m act Q hs hq => ?_⟩
    obtain ⟨q1, q2⟩ := ASi hs hc
    exact wp_cond_true q1 (h3 w F m act Q q2 hq)
   | false =>
    obtain ⟨e, st1, h1, h2, h3⟩ := ihb _ hl.2 R _ _ r hk
    refine ⟨e, st1, h1, fun R' k' => by simp only [A6, hc]; exact h2 R' k', fun w F m act Q hs hq => ?_⟩
    obtain ⟨q1, q2⟩ := ASi hs hc
    exact wp_cond_false q1 (h3 w F m act Q q2 hq)
  ·cases hk
 | block id c ih =>
  intro n hl R st k r hk
  simp only [A6] at hk
  obtain ⟨e, st1, h1, h2', h3⟩ := ih n hl R st _ r hk
  have h2 : ∀ (R' : Type) (k' : Exit → St → Option R'), A6 P E h R' c n st k' = k' e st1 := h2'
  have key : ∃ e', k e' st1 = some r ∧ (∀ (R' : Type) (k' : Exit → St → Option R'), A6 P E h R' (.block id c) n st k' = k' e' st1) ∧ ∀ (Q : Exit → Act → World → Prop) a' w', Q e' a' w' → Exit.inBlock id Q e a' w' := by
   cases e with
   | exit id' =>
    simp only at h1
    by_cases hid : id' = id
    ·subst hid
     simp only [decide_true] at h1
     exact ⟨.normal, h1, fun R' k' => by simp only [A6]; rw [h2]; simp, fun Q a' w' hq => by simp [Exit.inBlock, hq]⟩
    ·simp only [hid, decide_false] at h1
     exact ⟨.exit id', h1, fun R' k' => by simp only [A6]; rw [h2]; simp [hid], fun Q a' w' hq => by simp [Exit.inBlock, hid, hq]⟩
   | normal => exact ⟨_, h1, fun R' k' => by simp only [A6]; rw [h2], fun Q a' w' hq => hq⟩
   | goto l => exact ⟨_, h1, fun R' k' => by simp only [A6]; rw [h2], fun Q a' w' hq => hq⟩
   | ret => exact ⟨_, h1, fun R' k' => by simp only [A6]; rw [h2], fun Q a' w' hq => hq⟩
   | panic l => exact ⟨_, h1, fun R' k' => by simp only [A6]; rw [h2], fun Q a' w' hq => hq⟩
   | outgrown => exact ⟨_, h1, fun R' k' => by simp only [A6]; rw [h2], fun Q a' w' hq => hq⟩
  obtain ⟨e', k1, k2, k3⟩ := key
  exact ⟨e', st1, k1, k2, fun w F m act Q hs hq => wp_block (h3 w F m act _ hs fun a' w' F' m' s1 x1 => k3 Q a' w' (hq a' w' F' m' s1 x1))⟩
 | loop c ih =>
  intro n hl R st k r hk
  exact hl R st k r hk
 | exit id =>
  intro n _ R st k r hk
  simp only [A6] at hk
  exact ⟨_, _, hk, fun _ _ => rfl, fun w F m a Q hs hq => wp_exit (hq a w F m hs (Su.refl ..))⟩
 | ret =>
  intro n _ R st k r hk
  simp only [A6] at hk
  exact ⟨_, _, hk, fun _ _ => rfl, fun w F m a Q hs hq => wp_ret (hq a w F m hs (Su.refl ..))⟩
 | _ => intro n _ R st k r hk; simp [A6] at hk
theorem AVg {R : Type} {r : R} {nt : Nat} {k : Exit → St → Option R} : ∀ (os : At) (x : ACJ os), ADh nt k os x = some r → ∃ e st', k e st' = some r ∧ ∀ (R' : Type) (k' : Exit → St → Option R'), ADh nt k' os x = k' e st' := by
 intro os
 induction os with
 | nil => intro x h; simp [ADh] at h
 | cons o os ih =>
  intro x h
  cases x with
  | inl d => exact ⟨_, _, h, fun _ _ => rfl⟩
  | inr x =>
   obtain ⟨e, st', h1, h2⟩ := ih x h
   exact ⟨e, st', h1, fun R' k' => h2 R' k'⟩
theorem AJH {e e' : Exit} (h : W1 e e' = true) : e = e' := by
 cases e <;> cases e' <;> simp_all [W1]
theorem AX4 {np nt : Nat} {e : Exit} {st : St} : ∀ (os : At) (x : ACJ os), ADF np nt e st os = some x → ∃ its d, decode np nt st its = some d ∧ ∀ (R' : Type) (k' : Exit → St → Option R'), ADh nt k' os x = k' e (encode nt its d) := by
 intro os
 induction os with
 | nil => intro x h; simp [ADF] at h
 | cons o os ih =>
  intro x h
  simp only [ADF] at h
  split at h
  ·rename_i hs
   split at h
   ·rename_i d hd
    simp only [Option.some.injEq] at h; subst h
    exact ⟨o.2, d, hd, fun R' k' => by rw [AJH hs]; rfl⟩
   ·cases h
  ·split at h
   ·rename_i y hy
    simp only [Option.some.injEq] at h; subst h
    obtain ⟨its, d, h1, h2⟩ := ih y hy
    exact ⟨its, d, h1, fun R' k' => h2 R' k'⟩
   ·cases h
theorem AUu {h' : Hints} (hE : ∀ g, AQ P g (E.spec g)) (hL : H6 E) {np nt n : Nat} {body : Code} {its : AE} {os : At} {stp : CO (leaves its) → Option (CO (leaves its) ⊕ ACJ os)}
  (hstep : ∀ v, stp v = roundOf P E h' n np nt body its os v) (hl : DW P np h' body n) : Aa P np (.loop body) (Ac np nt its os stp) := by
 intro R st k r hk
 unfold Ac at hk
 split at hk
 ·cases hk
 ·rename_i v hv
  split at hk
  ·cases hk
  ·rename_i x hx
   obtain ⟨e, st', h1, h2⟩ := AVg os x hk
   refine ⟨e, st', h1, fun R' k' => by simp only [Ac, hv, hx]; exact h2 R' k', ?_⟩
   have key : ∀ (fuel : Nat) (v : CO (leaves its)), AS stp fuel v = some x → ∀ (w : World) (F : Nat → Prop) (m : Mp) (a : Act) (Q : Exit → Act → World → Prop), SI w F m (encode nt its v) a →
     (∀ a' w' F' m', SI w' F' m' st' a' → Su np w F m (encode nt its v).heap (encode nt its v).frz w' F' m' st'.heap st'.frz → Q e a' w') → Code.rounds P body Q fuel a w := by
    intro fuel
    induction fuel with
    | zero => intro v h; simp [AS] at h
    | succ fuel ih =>
     intro v h w F m a Q hs hq
     simp only [AS] at h
     rw [hstep v] at h
     cases hr : roundOf P E h' n np nt body its os v with
     | none => rw [hr] at h; cases h
     | some y =>
      rw [hr] at h
      unfold roundOf at hr
      obtain ⟨e1, st1, g1, _, g3⟩ := Mz hE hL body n hl _ _ _ _ hr
      show body.wp P (Exit.then (Code.rounds P body Q fuel) Q) a w
      refine g3 w F m a _ hs fun a' w' F' m' s1 x1 => ?_
      by_cases he : e1 = .normal
      ·subst he
       simp only [AJP] at g1
       split at g1
       ·rename_i d hd
        simp only [Option.some.injEq] at g1; subst g1
        obtain ⟨F2, m2, s2, x2⟩ := Sa s1 hd
        show Code.rounds P body Q fuel a' w'
        exact ih d h w' F2 m2 a' Q s2 fun a3 w3 F3 m3 s3 x3 => hq a3 w3 F3 m3 s3 (x1.trans (x2.trans x3))
       ·cases g1
      ·have g1' : (match ADF np nt e1 st1 os with
        | some x => some (Sum.inr x)
        | none => none) = some y := by
        cases e1 <;> first | exact absurd rfl he | exact g1
       split at g1'
       ·rename_i z hz
        simp only [Option.some.injEq] at g1'; subst g1'
        simp only [Option.some.injEq] at h; subst h
        obtain ⟨its', d, o1, o2⟩ := AX4 os _ hz
        obtain ⟨F2, m2, s2, x2⟩ := Sa s1 o1
        have e3 := (h2 (Exit × St) fun e st => some (e, st)).symm.trans (o2 (Exit × St) fun e st => some (e, st))
        simp only [Option.some.injEq, Prod.mk.injEq] at e3
        obtain ⟨rfl, rfl⟩ := e3
        have := hq a' w' F2 m2 s2 (x1.trans x2)
        cases e <;> first | exact absurd rfl he | exact this
       ·cases g1'
   intro w F m a Q hs hq
   obtain ⟨F2, m2, s2, x2⟩ := Sa hs hv
   exact wp_loop_rounds many (key many v (by rw [← Ai]; exact hx) w F2 m2 a Q s2 fun a3 w3 F3 m3 s3 x3 => hq a3 w3 F3 m3 s3 (x2.trans x3))
end
end Go.Pev
end
section
namespace Go.Pev
open Go.RowKit
section
variable {w : World} {F F0 : Nat → Prop} {m m2 : Mp} {H H2 : List Ob} {ids : List Nat}
theorem Dat.flat : ∀ (t : Ty), t.flat = true → ∀ {d : t.den} {cs : List Value} {w0 : World}, Dat w F t d cs → Dat w0 F0 t d cs := by
 intro t
 induction t with
 | unit => exact fun _ _ _ _ h => h
 | bool => exact fun _ _ _ _ h => h
 | int k => exact fun _ _ _ _ h => h
 | slice e _ => intro h; simp [Ty.flat] at h
 | prod a b iha ihb =>
  intro h d cs w0 hd
  simp only [Ty.flat, Bool.and_eq_true] at h
  obtain ⟨c1, c2, h1, h2, h3⟩ := hd
  exact ⟨c1, c2, h1, iha h.1 h2, ihb h.2 h3⟩
 | arr n e ih =>
  intro h d cs w0 hd
  obtain ⟨h1, h2⟩ := hd
  exact ⟨h1, BP (fun x _ cs hx => ih (by simpa [Ty.flat] using h) hx) h2⟩
theorem Bd.flat {t : Ty} (ht : t.flat = true) {d : t.den} {v : Value} {w0 : World} (h : Bd w F t d v) : Bd w0 F0 t d v := by
 unfold Bd at *
 split
 ·rename_i hg
  simp only [hg, if_true] at h
  obtain ⟨vs, e, hd⟩ := h
  exact ⟨vs, e, hd.flat t ht⟩
 ·rename_i hg
  simp only [hg] at h
  exact Dat.flat t ht h
theorem AVs {k v : Ty} (hk : k.flat = true) (hv : v.flat = true) {w0 : World} : ∀ {es : List (k.den × v.den)} {ms : List MapEntry}, Hc w F k v es ms → Hc w0 F0 k v es ms := by
 intro es
 induction es with
 | nil => exact fun h => h
 | cons e es ih =>
  rintro ms ⟨me, ms', e1, ⟨h1, h2⟩, h3⟩
  exact ⟨me, ms', e1, ⟨h1.flat hk, h2.flat hv⟩, ih h3⟩
mutual
theorem Rep.flat : ∀ (a : AV) {v : Value}, JR a = true → Rep w F m H a v → Rep w F0 m H a v
 | .junk, _, _, _ => by unfold Rep; trivial
 | .data t d, v, hf, h => by unfold Rep at *; exact h.flat (by simpa [JR] using hf)
 | .nils _, v, _, h => by unfold Rep at *; exact h
 | .agg cs, v, hf, h => by
  unfold Rep at *
  obtain ⟨vs, e, h, h1⟩ := h
  exact ⟨vs, e, Ae.flat cs (by simpa [JR] using hf) h, h1⟩
 | .own id, v, _, h => by unfold Rep at *; exact h
 | .win id off n, v, _, h => by unfold Rep at *; exact h
 | .ptr id off, v, _, h => by unfold Rep at *; exact h
 | .eptr id i sub, v, _, h => by unfold Rep at *; exact h
 | .dptr cs, v, hf, h => by simp [JR] at hf
 | .clo f caps, v, hf, h => by
  unfold Rep at *
  obtain ⟨cs, e, h⟩ := h
  exact ⟨cs, e, Ae.flat caps (by simpa [JR] using hf) h⟩
 | .bnd f caps, v, hf, h => by
  unfold Rep at *
  obtain ⟨cs, e, h⟩ := h
  exact ⟨cs, e, Ae.flat caps (by simpa [JR] using hf) h⟩
 | .str _, v, _, h => by unfold Rep at *; exact h
 | .mp id, v, _, h => by unfold Rep at *; exact h
 | .tup vs, v, hf, h => by
  unfold Rep at *
  obtain ⟨us, e, h⟩ := h
  exact ⟨us, e, Ae.flat vs (by simpa [JR] using hf) h⟩
theorem Ae.flat : ∀ (cs : List AV) {vs : List Value}, Ii cs = true → Ae w F m H cs vs → Ae w F0 m H cs vs
 | [], vs, _, h => by unfold Ae at *; exact h
 | c :: cs, vs, hf, h => by
  unfold Ae at *
  simp only [Ii, Bool.and_eq_true] at hf
  obtain ⟨v, vs', e, h1, h2⟩ := h
  exact ⟨v, vs', e, Rep.flat c hf.1 h1, Ae.flat cs hf.2 h2⟩
end
def AMp (ids : List Nat) (H H2 : List Ob) (m m2 : Mp) : Prop := ∀ j o, H[j]? = some o → H2[ids.getD j 0]? = some (Fl ids o) ∧ m2 (ids.getD j 0) = m j
theorem Ft (hm : AMp ids H H2 m m2) (Q : Option Ob → Option (Nat × Nat) → Prop) (hnone : ∀ l, ¬ Q none l) (hbox : ∀ cs l, Q (some (.box cs)) l → Q (some (.box (I7 ids cs))) l) (hprs : ∀ T t t' is l, Q (some (.prs T t is)) l → Q (some (.prs T t' is)) l) (j : Nat) (h : Q H[j]? (m j)) : Q H2[ids.getD j 0]? (m2 (ids.getD j 0)) := by
 cases ho : H[j]? with
 | none => rw [ho] at h; exact absurd h (hnone _)
 | some o =>
  rw [ho] at h
  obtain ⟨h1, h2⟩ := hm j o ho
  rw [h1, h2]
  cases o <;> first | exact h | exact hbox _ _ h | exact hprs _ _ _ _ _ h
mutual
theorem Rep.ren (hm : AMp ids H H2 m m2) : ∀ (a : AV) {v : Value}, Rep w F m H a v → Rep w F m2 H2 (Fm ids a) v
 | .junk, _, _ => by simp only [Fm]; unfold Rep; trivial
 | .data t d, v, h => by simp only [Fm]; unfold Rep at *; exact h
 | .nils _, v, h => by simp only [Fm]; unfold Rep at *; exact h
 | .agg cs, v, h => by
  simp only [Fm]; unfold Rep at *
  obtain ⟨vs, e, h, h1⟩ := h
  exact ⟨vs, e, Ae.ren hm cs h, h1⟩
 | .own id, v, h => by
  simp only [Fm]; unfold Rep at *
  exact Ft hm (fun o l => Bb o l v) (fun l h => h) (fun cs l h => h) (fun _ _ _ _ l h => h) id h
 | .win id off n, v, h => by
  simp only [Fm]; unfold Rep at *
  exact Ft hm (fun o l => GK o l off n v) (fun l h => h) (fun cs l h => h) (fun _ _ _ _ l h => h) id h
 | .ptr id off, v, h => by
  simp only [Fm]; unfold Rep at *
  exact Ft hm (fun o l => GL o l off v) (fun l h => h) (fun cs l h => h) (fun _ _ _ _ l h => h) id h
 | .eptr id i sub, v, h => by
  simp only [Fm]; unfold Rep at *
  exact Ft hm (fun o l => DV o l i sub v) (fun l h => h) (fun cs l h => h) (fun _ _ _ _ l h => h) id h
 | .dptr cs, v, h => by
  simp only [Fm]; unfold Rep at *
  obtain ⟨ad, us, e, h1, h2, h4, h3⟩ := h
  refine ⟨ad, us, e, fun hne => h1 (by rintro rfl; exact hne rfl), Ae.ren hm cs h2, h4, h3⟩
 | .clo f caps, v, h => by
  simp only [Fm]; unfold Rep at *
  obtain ⟨cs, e, h⟩ := h
  exact ⟨cs, e, Ae.ren hm caps h⟩
 | .bnd f caps, v, h => by
  simp only [Fm]; unfold Rep at *
  obtain ⟨cs, e, h⟩ := h
  exact ⟨cs, e, Ae.ren hm caps h⟩
 | .str _, v, h => by simp only [Fm]; unfold Rep at *; exact h
 | .mp id, v, h => by
  simp only [Fm]; unfold Rep at *
  exact Ft hm (fun o l => Mf o l v) (fun l h => h) (fun cs l h => h) (fun _ _ _ _ l h => h) id h
 | .tup vs, v, h => by
  simp only [Fm]; unfold Rep at *
  obtain ⟨us, e, h⟩ := h
  exact ⟨us, e, Ae.ren hm vs h⟩
theorem Ae.ren (hm : AMp ids H H2 m m2) : ∀ (cs : List AV) {vs : List Value}, Ae w F m H cs vs → Ae w F m2 H2 (I7 ids cs) vs
 | [], vs, h => by simp only [I7]; unfold Ae at *; exact h
 | c :: cs, vs, h => by
  simp only [I7]; unfold Ae at *
  obtain ⟨v, vs', e, h1, h2⟩ := h
  exact ⟨v, vs', e, Rep.ren hm c h1, Ae.ren hm cs h2⟩
end
theorem AXO (tgt : Nat) (is : List Int) : I7 ids (Ez tgt is) = Ez (ids.getD tgt 0) is := by
 induction is with
 | nil => rfl
 | cons x xs ih =>
  have : I7 ids (Ez tgt (x :: xs)) = Fm ids (.eptr tgt x.toNat 0) :: I7 ids (Ez tgt xs) := rfl
  rw [this, ih]
  rfl
theorem AVj (tgt : Nat) (is : List Int) : Ii (Ez tgt is) = true := by
 induction is with
 | nil => rfl
 | cons x xs ih =>
  have : Ii (Ez tgt (x :: xs)) = (JR (.eptr tgt x.toNat 0) && Ii (Ez tgt xs)) := rfl
  rw [this, ih]
  rfl
theorem AO9 {i j k : Nat} : ∀ {ids : List Nat}, IF ids = true → ids[i]? = some k → ids[j]? = some k → i = j := by
 intro ids h
 have : ids.Nodup := by
  induction ids with
  | nil => exact List.nodup_nil
  | cons a ids ih =>
   simp only [IF, Bool.and_eq_true, Bool.not_eq_true', List.contains_eq_mem, decide_eq_false_iff_not] at h
   exact List.nodup_cons.2 ⟨h.1, ih h.2⟩
 intro h1 h2
 exact (List.getElem?_inj (Dy h1) this).1 (h1.trans h2.symm)
theorem AJE {i : Nat} {o : Ob} : ∀ (ids : List Nat) (os : List Ob) (H : List Ob) (j : Nat), IF ids = true → ids[j]? = some i → os[j]? = some o → i < H.length → (BI (ids.zip os) H)[i]? = some o := by
 intro ids
 induction ids with
 | nil => intro os H j _ h; simp at h
 | cons a ids ih =>
  intro os H j hn h1 h2 hl
  cases os with
  | nil => simp at h2
  | cons x os =>
   simp only [IF, Bool.and_eq_true, Bool.not_eq_true', List.contains_eq_mem, decide_eq_false_iff_not] at hn
   simp only [List.zip_cons_cons, BI]
   cases j with
   | zero =>
    simp only [List.getElem?_cons_zero, Option.some.injEq] at h1 h2
    subst h1; subst h2
    rw [BU _ _ fun p hp => ?_, List.getElem?_set_self hl]
    rintro rfl
    exact hn.1 (List.of_mem_zip hp).1
   | succ j =>
    simp only [List.getElem?_cons_succ] at h1 h2
    exact ih os _ j hn.2 h1 h2 (by simpa using hl)
def IH : List Nat → Nat → Option Nat
 | [], _ => none
 | x :: xs, i => if x = i then some 0 else (IH xs i).map (· + 1)
theorem T9 {i j : Nat} : ∀ {ids : List Nat}, IH ids i = some j → ids[j]? = some i := by
 intro ids
 induction ids generalizing j with
 | nil => intro h; simp [IH] at h
 | cons a ids ih =>
  intro h
  simp only [IH] at h
  split at h
  ·rename_i e; simp only [Option.some.injEq] at h; subst h; simp [e]
  ·rw [Option.map_eq_some_iff] at h
   obtain ⟨k, h1, rfl⟩ := h
   simpa using ih h1
theorem AL0 {i : Nat} : ∀ {ids : List Nat}, IH ids i = none → i ∉ ids := by
 intro ids
 induction ids with
 | nil => intro _; simp
 | cons a ids ih =>
  intro h
  simp only [IH] at h
  split at h
  ·cases h
  ·rename_i hne
   rw [Option.map_eq_none_iff] at h
   simp only [List.mem_cons, not_or]
   exact ⟨fun e => hne e.symm, ih h⟩
theorem AVm {i j : Nat} {ids : List Nat} (hn : IF ids = true) (h : ids[j]? = some i) : IH ids i = some j := by
 cases hf : IH ids i with
 | none => exact absurd (List.mem_of_getElem? h) (AL0 hf)
 | some k => rw [AO9 hn h (T9 hf)]
def mOf (ids : List Nat) (m3 m : Mp) : Mp := fun i => match IH ids i with
 | some j => m3 j
 | none => m i
theorem ADe {fz : List Bool} : ∀ {ids : List Nat} {bs : List Bnd}, Ep H fz ids bs = true → ∀ {j i : Nat}, ids[j]? = some i → bs[j]? = some (.whole i) ∨ ((∀ id, bs[j]? ≠ some (.whole id)) ∧ A3 H fz i = true) := by
 intro ids
 induction ids with
 | nil => intro bs _ j i h; simp at h
 | cons a ids ih =>
  intro bs h j i hj
  simp only [Ep, Bool.and_eq_true] at h
  obtain ⟨h1, h2⟩ := h
  cases j with
  | zero =>
   simp only [List.getElem?_cons_zero, Option.some.injEq] at hj; subst hj
   split at h1
   ·rename_i id _
    simp only [decide_eq_true_eq] at h1; subst h1
    exact .inl (by simp)
   ·rename_i hne
    refine .inr ⟨fun id he => ?_, h1⟩
    cases bs with
    | nil => simp at he
    | cons b bs => simp at he; subst he; exact hne id bs rfl
  | succ j =>
   simp only [List.getElem?_cons_succ] at hj
   have := ih h2 hj
   cases bs with
   | nil => simpa using this
   | cons b bs => simpa using this
theorem AVP : ∀ (n : Nat) (bs : List Bnd) (slot : Nat), (By n bs slot).length = n := by
 intro n
 induction n with
 | zero => intro bs slot; cases bs <;> rfl
 | succ n ih =>
  intro bs slot
  cases bs with
  | nil => simp [By, ih]
  | cons b bs => cases b <;> simp [By, ih]
theorem Be (st : St) (v : AV) (l : Loc) : (place st v l).heap.length = st.heap.length := by
 cases l with
 | tmp t => rfl
 | cell j c => simp only [place]; split <;> simp
 | cap t i => rfl
 | obj j => rfl
theorem AZU : ∀ (its : AE) (d : CO (leaves its)) (st : St), (enc its d st).heap.length = st.heap.length + CX its := by
 intro its
 induction its with
 | nil => intro d st; rfl
 | cons p r ih =>
  intro d st
  obtain ⟨l, c⟩ := p
  cases c with
  | dat t => exact (ih _ _).trans (by rw [Be]; rfl)
  | own T e => exact (ih _ _).trans (by rw [Be]; simp [Iu, CX]; omega)
  | box n => exact (ih _ _).trans (by rw [Be]; simp [Iu, CX]; omega)
  | map k v => exact (ih _ _).trans (by rw [Be]; simp [Iu, CX]; omega)
  | prs T j => exact (ih _ _).trans (by rw [Be]; simp [Iu, CX]; omega)
  | own' j => exact (ih _ _).trans (by rw [Be]; rfl)
  | ptr' j o => exact (ih _ _).trans (by rw [Be]; rfl)
  | map' j => exact (ih _ _).trans (by rw [Be]; rfl)
  | win' j => exact (ih _ _).trans (by rw [Be]; rfl)
  | sub' j => exact (ih _ _).trans (by rw [Be]; rfl)
  | clo f ps => exact (ih _ _).trans (by rw [Be]; rfl)
  | bnd f j => exact (ih _ _).trans (by rw [Be]; rfl)
  | nil e => exact (ih _ _).trans (by rw [Be]; rfl)
end
end Go.Pev
end
section
namespace Go.Pev
open Go.RowKit
theorem Yb {H : List Ob} {fz : List Bool} {i : Nat} {o : Ob} (h : H[i]? = some o) (ha : alive o) (hf : fz.getD i false = false) : owned H fz i := by
 unfold owned
 rw [h]
 cases o with
 | free => exact ha.elim
 | dead => exact ha.elim
 | box cs => trivial
 | arr T t xs => exact hf
 | map k v es => trivial
 | prs T t is => trivial
theorem AMl {o : Ob} (h : alive o) : o ≠ .free ∧ o ≠ .dead := by
 constructor <;> rintro rfl <;> exact h
theorem DK {H : List Ob} {fz : List Bool} {ids : List Nat} {i : Nat} (h : owned H (Ak ids fz) i) : owned H fz i := by
 unfold owned at *
 cases ho : H[i]? with
 | none => rw [ho] at h; exact h.elim
 | some o =>
  rw [ho] at h
  cases o with
  | free => exact h.elim
  | dead => exact h.elim
  | box cs => trivial
  | map k v es => trivial
  | prs T t is => trivial
  | arr T t xs =>
   simp only at h ⊢
   rw [A1] at h
   simp only [Bool.or_eq_false_iff] at h
   exact h.1
theorem ABJ {o o1 : Ob} {ids : List Nat} (h : sameShape o o1) : sameShape o (Fl ids o1) := by
 cases o <;> cases o1 <;> simp only [sameShape, Fl] at * <;> exact h
section
variable {w w' : World} {F F2 F3 FR : Nat → Prop} {m m3 : Mp} {H H1 : List Ob} {fz fz1 fzR : List Bool} {bs : List Bnd} {ids fr : List Nat}
theorem AV8 (hiC : HI w F m H fz) (gA : Ax w F m H fz w F2 m H (Ak fr fz)) 
  (pin : ∀ j id, bs[j]? = some (.whole id) → owned H (Ak fr fz) id ∧ ∃ o o1, H[id]? = some o ∧ alive o ∧ H1[j]? = some o1 ∧ sameShape o o1 ∧ m3 j = m id)
  (blk : ∀ j b c, owned H1 fz1 j → m3 j = some (b, c) → (∃ id c', bs[j]? = some (.whole id) ∧ m id = some (b, c')) ∨ w.heap.size ≤ b)
  (os : w'.os = w.os) (tape : w'.tape = w.tape) (output : w'.output = w.output) (size : w.heap.size ≤ w'.heap.size)
  (keep : ∀ b, b < w.heap.size → (∀ (j id : Nat) (c : Nat), bs[j]? = some (.whole id) → m id ≠ some (b, c)) → w'.heap[b]? = w.heap[b]?)
  (sub : ∀ b, F2 b → F3 b) (bnd : ∀ b, F3 b → F2 b ∨ (∃ (j id c : Nat), bs[j]? = some (.whole id) ∧ m id = some (b, c)) ∨ w.heap.size ≤ b)
  (hi1 : HI w' F3 m3 H1 fz1) (al1 : ∀ (j : Nat) (o : Ob), H1[j]? = some o → alive o) (fr1 : ∀ j, fz1.getD j false = false)
  (hlen : ids.length = H1.length) (hok : Ep H fzR ids bs = true) (hnd : IF ids = true)
  (hR : (FR = F ∧ fzR = fz ∧ H1.all NZ = true) ∨ (FR = F3 ∧ fzR = Ak fr fz)) :
  Ax w F m H fz w' FR (mOf ids m3 m) (BI (ids.zip (H1.map (Fl ids))) H) fzR ∧ AMp ids H1 (BI (ids.zip (H1.map (Fl ids))) H) m3 (mOf ids m3 m) := by
 have hiR : ∃ FB, HI w FB m H fzR ∧ (∀ b, F b → FB b) ∧ (∀ b, FB b → FR b) ∧ (∀ b, FB b → F2 b) := by
  rcases hR with ⟨e1, e2, _⟩ | ⟨e1, e2⟩
  ·exact ⟨F, by rw [e2]; exact hiC, fun _ h => h, fun _ h => by rw [e1]; exact h, gA.1.sub⟩
  ·exact ⟨F2, by rw [e2]; exact gA.2, gA.1.sub, fun b h => by rw [e1]; exact sub b h, fun _ h => h⟩
 obtain ⟨FB, hiB, hFB, hBR, hB2⟩ := hiR
 have ownR : ∀ {i}, owned H fzR i → owned H fz i := by
  intro i h
  rcases hR with ⟨_, e2, _⟩ | ⟨_, e2⟩
  ·rw [e2] at h; exact h
  ·rw [e2] at h; exact DK h
 have pinR : ∀ {id}, owned H (Ak fr fz) id → owned H fzR id := by
  intro id h
  rcases hR with ⟨_, e2, _⟩ | ⟨_, e2⟩
  ·rw [e2]; exact DK h
  ·rw [e2]; exact h
 have FR3 : ∀ b, FR b → F3 b := by
  rcases hR with ⟨e1, _, _⟩ | ⟨e1, _⟩
  ·rw [e1]; exact fun b h => sub b (gA.1.sub b h)
  ·rw [e1]; exact fun _ h => h
 have hids : ∀ {j i : Nat}, ids[j]? = some i → (∃ o, H[i]? = some o) ∧ (bs[j]? = some (.whole i) ∨ ((∀ (id : Nat), bs[j]? ≠ some (.whole id)) ∧ H[i]? = some .free ∧ fzR.getD i false = false)) := by
  intro j i hj
  rcases ADe hok hj with h | ⟨h1, h2⟩
  ·obtain ⟨_, o, o1, ho, _⟩ := pin j i h
   exact ⟨⟨o, ho⟩, .inl h⟩
  ·obtain ⟨h3, h4⟩ := BW h2
   exact ⟨⟨_, h3⟩, .inr ⟨h1, h3, h4⟩⟩
 have hunf : ∀ {j i : Nat}, ids[j]? = some i → ∀ {o1 : Ob}, H1[j]? = some o1 → ∀ {T : TypeId} {t : Ty} {xs : List t.den}, o1 = .arr T t xs → fzR.getD i false = false := by
  intro j i hj o1 ho1 T t xs he
  rcases (hids hj).2 with h | ⟨_, _, h⟩
  ·obtain ⟨h1, o, o2, ho, _, ho2, hs, _⟩ := pin j i h
   rw [ho1] at ho2; cases ho2
   subst he
   have h2 := pinR h1
   unfold owned at h2
   rw [ho] at h2
   cases o <;> simp only [sameShape] at hs
   exact h2
  ·exact h
 have hwhole : ∀ {j id : Nat}, bs[j]? = some (.whole id) → ids[j]? = some id := by
  intro j id hb
  obtain ⟨_, o, o1, _, _, ho1, _⟩ := pin j id hb
  have hl := Av ho1
  rw [← hlen] at hl
  have hg : ids[j]? = some ids[j] := List.getElem?_eq_getElem hl
  rcases ADe hok hg with h | ⟨h, _⟩
  ·rw [hb] at h; cases h; exact hg
  ·exact absurd hb (h id)
 have getIn : ∀ {j i : Nat} {o1 : Ob}, ids[j]? = some i → H1[j]? = some o1 → (BI (ids.zip (H1.map (Fl ids))) H)[i]? = some (Fl ids o1) := by
  intro j i o1 hj ho1
  obtain ⟨⟨o, ho⟩, _⟩ := hids hj
  exact AJE ids _ H j hnd hj (by rw [List.getElem?_map, ho1]; rfl) (Av ho)
 have getOut : ∀ {i : Nat}, i ∉ ids → (BI (ids.zip (H1.map (Fl ids))) H)[i]? = H[i]? := by
  intro i hi
  exact BU _ _ fun p hp => by rintro rfl; exact hi (List.of_mem_zip hp).1
 have mIn : ∀ {j i : Nat}, ids[j]? = some i → mOf ids m3 m i = m3 j := by
  intro j i hj; unfold mOf; rw [AVm hnd hj]
 have mOut : ∀ {i : Nat}, i ∉ ids → mOf ids m3 m i = m i := by
  intro i hi
  unfold mOf
  cases hf : IH ids i with
  | none => rfl
  | some j => exact absurd (List.mem_of_getElem? (T9 hf)) hi
 have inOut : ∀ i : Nat, (∃ j : Nat, ids[j]? = some i) ∨ i ∉ ids := by
  intro i
  by_cases h : i ∈ ids
  ·obtain ⟨j, hj⟩ := List.getElem?_of_mem h; exact .inl ⟨j, hj⟩
  ·exact .inr h
 have has1 : ∀ {j i : Nat}, ids[j]? = some i → ∃ o1, H1[j]? = some o1 := by
  intro j i hj
  have hl := Dy hj
  rw [hlen] at hl
  exact ⟨_, List.getElem?_eq_getElem hl⟩
 have own1 : ∀ {j : Nat} {o1 : Ob}, H1[j]? = some o1 → owned H1 fz1 j := fun h => Yb h (al1 _ _ h) (fr1 _)
 have blkNe : ∀ {i b c : Nat}, i ∉ ids → (∃ o, H[i]? = some o ∧ o ≠ .free ∧ o ≠ .dead) → m i = some (b, c) → ∀ {j id c' : Nat}, bs[j]? = some (.whole id) → m id ≠ some (b, c') := by
  intro i b c hi ⟨o, ho, h1, h2⟩ hm j id c' hb he
  obtain ⟨hp, _⟩ := pin j id hb
  have hne : i ≠ id := by rintro rfl; exact hi (List.mem_of_getElem? (hwhole hb))
  exact gA.2.ne hp he ho h1 h2 hm hne rfl
 have hcomp : Ck H (BI (ids.zip (H1.map (Fl ids))) H) m (mOf ids m3 m) := by
  intro i o ho hf
  rcases inOut i with ⟨j, hj⟩ | hi
  ·rcases (hids hj).2 with h | ⟨_, h, _⟩
   ·obtain ⟨_, o', o1, ho', ha, ho1, hs, hm⟩ := pin j i h
    rw [ho] at ho'; cases ho'
    exact .inr ⟨(AMl ha).2, _, getIn hj ho1, ABJ hs, by rw [mIn hj]; exact hm⟩
   ·rw [ho] at h; cases h; exact absurd rfl hf
  ·rcases Ck.refl H m i o ho hf with h | ⟨hd, o', h1, h2, _⟩
   ·exact .inl (by rw [getOut hi]; exact h)
   ·exact .inr ⟨hd, o', by rw [getOut hi]; exact h1, h2, mOut hi⟩
 have hmoved : AMp ids H1 (BI (ids.zip (H1.map (Fl ids))) H) m3 (mOf ids m3 m) := by
  intro j o ho
  have hl := Av ho
  rw [← hlen] at hl
  have hg : ids[j]? = some ids[j] := List.getElem?_eq_getElem hl
  have hd : ids.getD j 0 = ids[j] := by rw [List.getD_eq_getElem?_getD, hg]; rfl
  rw [hd]
  exact ⟨getIn hg ho, mIn hg⟩
 have hkeepF : ∀ b, FB b → w'.heap[b]? = w.heap[b]? := by
  intro b hb
  refine keep b (hiB.lt b hb) fun j id c hj he => ?_
  obtain ⟨hp, _⟩ := pin j id hj
  exact gA.2.off id b c hp he (hB2 b hb)
 have hcell : ∀ a : Addr, F a.block → w'.cell? a = w.cell? a := fun a ha => by simp [World.cell?, hkeepF _ (hFB _ ha)]
 have ownOut : ∀ {i}, i ∉ ids → owned (BI (ids.zip (H1.map (Fl ids))) H) fzR i → owned H fzR i := by
  intro i hi h
  unfold owned at *; rw [getOut hi] at h; exact h
 have bOut : ∀ {i b c : Nat}, i ∉ ids → owned H fzR i → m i = some (b, c) → ∀ {j : Nat} {o1 : Ob} {c' : Nat}, H1[j]? = some o1 → m3 j ≠ some (b, c') := by
  intro i b c hi ho hm j o1 c' ho1 he
  obtain ⟨o, h1, h2, h3⟩ := C5 ho
  rcases blk j b c' (own1 ho1) he with ⟨id, c2, hb, hm2⟩ | hge
  ·exact blkNe hi ⟨o, h1, h2, h3⟩ hm hb hm2
  ·have := hiB.KY ho hm; omega
 refine ⟨⟨⟨os, tape, output, size, fun b hb hn => keep b hb fun j id c hj he => ?_, fun b h => hBR b (hFB b h), ?_, ?_, hcomp⟩, ⟨?_, ?_, ?_, ?_, ?_, ?_⟩⟩, hmoved⟩
 ·exact hn id c (DK (pin j id hj).1) he
 ·-- what is frozen
  intro b hb
  rcases hR with ⟨e1, _, _⟩ | ⟨e1, _⟩
  ·rw [e1] at hb; exact .inl hb
  ·rw [e1] at hb
   rcases bnd b hb with h | ⟨j, id, c, h1, h2⟩ | h
   ·exact gA.1.bnd b h
   ·exact .inr (.inl ⟨id, c, DK (pin j id h1).1, h2⟩)
   ·exact .inr (.inr h)
 ·intro i b c ho hm
  rcases inOut i with ⟨j, hj⟩ | hi
  ·obtain ⟨o1, ho1⟩ := has1 hj
   rw [mIn hj] at hm
   rcases blk j b c (own1 ho1) hm with ⟨id, c', h1, h2⟩ | h
   ·exact .inl ⟨id, c', DK (pin j id h1).1, h2⟩
   ·exact .inr h
  ·rw [mOut hi] at hm
   exact .inl ⟨i, c, ownR (ownOut hi ho), hm⟩
 ·-- objects
  intro i o ho
  rcases inOut i with ⟨j, hj⟩ | hi
  ·obtain ⟨o1, ho1⟩ := has1 hj
   rw [getIn hj ho1] at ho; cases ho
   rw [mIn hj]
   have hob := hi1.obj j o1 ho1
   cases o1 with
   | free => trivial
   | dead => trivial
   | box cs =>
    obtain ⟨b, c, vs, T, a1, a2, a3, a4⟩ := hob
    refine ⟨b, c, vs, T, a1, a2, Ae.ren hmoved cs ?_, a4⟩
    rcases hR with ⟨e1, _, hfl⟩ | ⟨e1, _⟩
    ·rw [List.all_eq_true] at hfl
     exact Ae.flat cs (by simpa [NZ] using hfl _ (List.mem_of_getElem? ho1)) a3
    ·rw [e1]; exact a3
   | arr T t xs =>
    rcases hR with ⟨e1, _, hfl⟩ | ⟨e1, _⟩
    ·rw [List.all_eq_true] at hfl
     have hft : t.flat = true := by simpa [NZ] using hfl _ (List.mem_of_getElem? ho1)
     obtain ⟨h0, h1⟩ := hob
     refine ⟨h0, ?_⟩
     cases hm3 : m3 j with
     | none => rw [hm3] at h1; exact h1
     | some p =>
      obtain ⟨b, cap⟩ := p
      rw [hm3] at h1
      obtain ⟨vs, row, a1, a2, a3, a4, a5, a6⟩ := h1
      exact ⟨vs, row, a1, a2, a3, a4, BP (fun x _ cs hx => hx.flat t hft) a5, a6⟩
    ·rw [e1]; exact hob
   | map k v es =>
    obtain ⟨b, c, ms, clock, a1, a2, a3, a4⟩ := hob
    refine ⟨b, c, ms, clock, a1, a2, ?_, a4⟩
    rcases hR with ⟨e1, _, hfl⟩ | ⟨e1, _⟩
    ·rw [List.all_eq_true] at hfl
     have hft : k.flat = true ∧ v.flat = true := by simpa [NZ] using hfl _ (List.mem_of_getElem? ho1)
     exact AVs hft.1 hft.2 a3
    ·rw [e1]; exact a3
   | prs T tgt is =>
    simp only [Fl]
    cases hm3 : m3 j with
    | none => rw [hm3] at hob; exact hob
    | some p =>
     obtain ⟨b, cap⟩ := p
     rw [hm3] at hob
     obtain ⟨vs, us, a1, a2, a3, a4, a5, a6, a7⟩ := hob
     refine ⟨vs, us, a1, a2, a3, a4, ?_, a6, a7⟩
     rw [← AXO]
     refine Ae.ren hmoved _ ?_
     rcases hR with ⟨e1, _, hfl⟩ | ⟨e1, _⟩
     ·exact Ae.flat _ (AVj tgt is) a5
     ·rw [e1]; exact a5
  ·rw [getOut hi] at ho
   rw [mOut hi]
   refine ObI.mono hcell (fun b h => hBR b (hFB b h)) hcomp (fun h1 h2 b c hm hlt => keep b hlt fun j id c' hj => blkNe hi ⟨o, ho, h1, h2⟩ hm hj) (hiC.obj i o ho)
 ·-- apart
  intro i j b c b' c' hoi hoj hij hmi hmj
  rcases inOut i with ⟨k, hk⟩ | hi
  ·obtain ⟨o1, ho1⟩ := has1 hk
   rw [mIn hk] at hmi
   rcases inOut j with ⟨l, hl⟩ | hj
   ·obtain ⟨o2, ho2⟩ := has1 hl
    rw [mIn hl] at hmj
    have hkl : k ≠ l := by rintro rfl; rw [hk] at hl; cases hl; exact hij rfl
    exact hi1.sep k l b c b' c' (own1 ho1) (own1 ho2) hkl hmi hmj
   ·rw [mOut hj] at hmj
    rintro rfl
    exact bOut hj (ownOut hj hoj) hmj ho1 hmi
  ·rw [mOut hi] at hmi
   rcases inOut j with ⟨l, hl⟩ | hj
   ·obtain ⟨o2, ho2⟩ := has1 hl
    rw [mIn hl] at hmj
    rintro rfl
    exact bOut hi (ownOut hi hoi) hmi ho2 hmj
   ·rw [mOut hj] at hmj
    exact hiB.sep i j b c b' c' (ownOut hi hoi) (ownOut hj hoj) hij hmi hmj
 ·-- none of them frozen
  intro i b c hoi hmi hb
  rcases inOut i with ⟨k, hk⟩ | hi
  ·obtain ⟨o1, ho1⟩ := has1 hk
   rw [mIn hk] at hmi
   exact hi1.off k b c (own1 ho1) hmi (FR3 b hb)
  ·rw [mOut hi] at hmi
   have ho := ownOut hi hoi
   rcases hR with ⟨e1, e2, _⟩ | ⟨e1, e2⟩
   ·rw [e1] at hb; exact hiC.off i b c (ownR ho) hmi hb
   ·rw [e1] at hb
    rcases bnd b hb with h | ⟨j, id, c', h1, h2⟩ | h
    ·rw [e2] at ho; exact gA.2.off i b c ho hmi h
    ·obtain ⟨o, q1, q2, q3⟩ := C5 ho
     exact blkNe hi ⟨o, q1, q2, q3⟩ hmi h1 h2
    ·have := hiB.KY ho hmi; omega
 ·intro i T t xs b c hio hf hmi
  rcases inOut i with ⟨k, hk⟩ | hi
  ·obtain ⟨o1, ho1⟩ := has1 hk
   rw [getIn hk ho1] at hio
   have : o1 = .arr T t xs := by
    cases o1 <;> simp only [Fl, Option.some.injEq] at hio <;> first | exact hio | cases hio
   rw [hunf hk ho1 this] at hf; cases hf
  ·rw [getOut hi] at hio
   rw [mOut hi] at hmi
   exact hBR b (hiB.froz i T t xs b c hio hf hmi)
 ·intro b hb
  exact hi1.lt b (FR3 b hb)
 ·rw [AJF]
  exact hiB.len
end
end Go.Pev
end
section
namespace Go.Pev
open Go.RowKit
section
variable {P : Program} {w : World} {F : Nat → Prop} {m : Mp} {st : St} {a : Act}
def AFR (tmps : Array Value) : ResultVar → Sem Value
 | .tmp t => pure (tmps.getD t undef)
 | .cell x t => do loadVar t (← asAddr (tmps.getD x undef))
theorem AJX (hs : SI w F m st a) {rv : ResultVar} {v : AV} (h : OQ P st rv = some v) :
  ∃ u, (AFR a.tmps rv).run P w = .ok u w ∧ Rep w F m st.heap v u := by
 cases rv with
 | tmp t =>
  simp only [OQ, Option.some.injEq] at h; subst h
  exact ⟨_, rfl, hs.tmps t⟩
 | cell x T =>
  simp only [OQ] at h
  split at h
  ·rename_i id off n ag h1 h2 h3
   split at h
   ·rename_i cs ho
    have hr := hs.tmps x
    have e1 : st.tmps.getD x .junk = .ptr id off := h1
    rw [e1] at hr
    unfold Rep GL at hr
    rw [ho] at hr
    obtain ⟨b, c, e2, e3⟩ := hr
    obtain ⟨b', c', vs, T', e4, e5, e6, e7⟩ := hs.heap.obj id _ ho
    rw [e2] at e4; cases e4
    obtain ⟨u, k1, k2⟩ := Cz (P := P) h2 h3 h (EO e6 off) (ad := ⟨b, off, none⟩) (fun u hu => e7 u (List.mem_of_mem_drop hu)) (fun j u hu => by
     rw [List.getElem?_drop] at hu
     rw [Cq]
     simp only [World.cell?, e5]
     simpa using hu)
    refine ⟨u, ?_, k2⟩
    simp [AFR, e3, asAddr, k1]
   ·cases h
  ·cases h
theorem AFQ (hs : SI w F m st a) : ∀ {rvs : List ResultVar} {vs : List AV}, Cm P st rvs = some vs →
  ∃ us, (rvs.mapM (AFR a.tmps)).run P w = .ok us w ∧ Ae w F m st.heap vs us := by
 intro rvs
 induction rvs with
 | nil =>
  intro vs h
  simp only [Cm, Option.some.injEq] at h; subst h
  exact ⟨[], by simp [List.mapM_nil], K0⟩
 | cons rv rvs ih =>
  intro vs h
  simp only [Cm] at h
  split at h
  ·cases h
  ·rename_i v hv
   split at h
   ·cases h
   ·rename_i vs' hvs
    simp only [Option.some.injEq] at h; subst h
    obtain ⟨u, h1, h2⟩ := AJX hs hv
    obtain ⟨us, h3, h4⟩ := ih hvs
    refine ⟨u :: us, ?_, by unfold Ae; exact ⟨u, us, rfl, h2, h4⟩⟩
    rw [List.mapM_cons]
    simp only [Sem.run_bind]
    rw [h1]
    simp only [Result.andThen_ok]
    rw [h3]
    simp
def AP1 (us : List Value) : Value := if h : us.toArray.size = 1 then us.toArray[0] else .tuple us.toArray
theorem Xc (hs : SI w F m st a) {fn : Func} {vs : List AV} (h : Cm P st fn.results.toList = some vs) :
  ∃ us, (results fn a.tmps).run P w = .ok (AP1 us) w ∧ Ae w F m st.heap vs us := by
 obtain ⟨us, h1, h2⟩ := AFQ hs h
 refine ⟨us, ?_, h2⟩
 have e : results fn a.tmps = (do
   let vs ← fn.results.mapM (AFR a.tmps)
   pure (if h : vs.size = 1 then vs[0] else .tuple vs)) := by
  unfold results
  congr 2
 rw [e, Array.mapM_eq_mapM_toList]
 simp only [Sem.run_bind, map_eq_pure_bind]
 rw [h1]
 rfl
theorem ACl {H : List Ob} {vs : List AV} {us : List Value} (h : Ae w F m H vs us) : Rep w F m H (single vs) (AP1 us) := by
 have hl := Ar h
 unfold AP1
 match vs, us, hl with
 | [], [], _ =>
  simp only [single]
  unfold Rep
  exact ⟨_, rfl, h⟩
 | [v], [u], _ =>
  simp only [single]
  unfold Ae at h
  obtain ⟨_, _, e, h1, _⟩ := h
  cases e
  exact h1
 | v :: v' :: vs, u :: u' :: us, _ =>
  simp only [single]
  unfold Rep
  exact ⟨_, rfl, h⟩
def Hw : List RS → List Value → List Value
 | .one :: r, u :: us => u :: Hw r us
 | .agg _ :: r, u :: us => u.cells.toList ++ Hw r us
 | _, _ => []
theorem AN6 {H : List Ob} : ∀ {rs : List RS} {vs : List AV} {us : List Value} {tm : List AV}, Ff rs vs = some tm → Ae w F m H vs us →
  Ae w F m H tm (Hw rs us) ∧ (Hw rs us).length = cellsOf rs ∧ ∀ (w2 : World) (F2 : Nat → Prop) (m2 : Mp) (H2 : List Ob) (ws : List AV), Ae w2 F2 m2 H2 ws (Hw rs us) → Ae w2 F2 m2 H2 (Fb rs ws) us := by
 intro rs
 induction rs with
 | nil =>
  intro vs us tm h hr
  cases vs with
  | nil =>
   simp only [Ff, Option.some.injEq] at h; subst h
   unfold Ae at hr; subst hr
   exact ⟨K0, rfl, fun _ _ _ _ _ _ => K0⟩
  | cons v vs => simp [Ff] at h
 | cons r rs ih =>
  intro vs us tm h hr
  cases vs with
  | nil => cases r <;> simp [Ff] at h
  | cons v vs =>
   unfold Ae at hr
   obtain ⟨u, us', rfl, hv, hr⟩ := hr
   cases r with
   | one =>
    simp only [Ff] at h
    split at h
    ·rename_i l hl
     simp only [Option.some.injEq] at h; subst h
     obtain ⟨h1, h2, h3⟩ := ih hl hr
     refine ⟨by simp only [Hw]; unfold Ae; exact ⟨u, _, rfl, hv, h1⟩, by simp [Hw, cellsOf, RS.cells, h2]; omega, fun w2 F2 m2 H2 ws hw => ?_⟩
     simp only [Hw] at hw
     cases ws with
     | nil => unfold Ae at hw; cases hw
     | cons x ws =>
      unfold Ae at hw
      obtain ⟨y, ys, e, q1, q2⟩ := hw
      cases e
      simp only [Fb, List.headD_cons, List.tail_cons]
      unfold Ae
      exact ⟨u, us', rfl, q1, h3 w2 F2 m2 H2 ws q2⟩
    ·cases h
   | agg n =>
    simp only [Ff] at h
    split at h
    ·rename_i cs hag hcs
     split at h
     ·rename_i hn
      simp only [decide_eq_true_eq] at hn
      split at h
      ·rename_i l hl
       simp only [Option.some.injEq] at h; subst h
       obtain ⟨h1, h2, h3⟩ := ih hl hr
       have hc := cells?_ok hcs hv
       have ho := cells?_one hcs hv
       have hcl := Ar hc
       have hu : u = .agg u.cells := by
        cases v <;> simp only [UK] at hag <;> try (cases hag; done)
        ·rename_i t d
         unfold Rep Bd at hv
         rw [if_pos hag] at hv
         obtain ⟨x, rfl, _⟩ := hv
         rfl
        ·unfold Rep at hv
         obtain ⟨x, rfl, _⟩ := hv
         rfl
       refine ⟨by simp only [Hw]; exact F5 hc h1, by simp [Hw, cellsOf, RS.cells, h2] at hcl ⊢; omega, fun w2 F2 m2 H2 ws hw => ?_⟩
       simp only [Hw] at hw
       have ht := MC hw n
       have hd := EO hw n
       have hn' : u.cells.toList.length = n := by rw [hcl, hn]
       rw [List.take_left' hn'] at ht
       rw [List.drop_left' hn'] at hd
       simp only [Fb]
       unfold Ae
       refine ⟨u, us', rfl, ?_, h3 w2 F2 m2 H2 _ hd⟩
       unfold Rep
       exact ⟨u.cells, hu, ht, ho⟩
      ·cases h
     ·cases h
    ·cases h
end
end Go.Pev
end
section
namespace Go.Pev
open Go.RowKit
theorem UI {P : Program} {g : FuncId} {fn : Func} (hf : P.funcs[g]? = some fn) (hb : fn.body.isSome = true) (hn : (fn.name == "runtime.NumGoroutine") = false) : QN P g := by
 intro args w
 obtain ⟨c, hc⟩ := Option.isSome_iff_exists.1 hb
 have hn' : ¬ fn.name = "runtime.NumGoroutine" := by simpa using hn
 simp [callFunc, hf, hn', hc]
theorem AH4 {P : Program} {np : Nat} {h : Hints} : ∀ (c : Code) (n : Nat), loops c = 0 → DW P np h c n := by
 intro c
 induction c with
 | seq a b iha ihb => intro n hl; simp only [loops] at hl; exact ⟨iha n (by omega), ihb _ (by omega)⟩
 | cond c a b iha ihb => intro n hl; simp only [loops] at hl; exact ⟨iha n (by omega), ihb _ (by omega)⟩
 | block id c ih => intro n hl; simp only [loops] at hl; exact ih n hl
 | loop c ih => intro n hl; simp only [loops] at hl; omega
 | _ => intro n _; trivial
section
variable {P : Program} {E : Env} {h : Hints} {g : FuncId} {fn : Func} {c : Code}
theorem ARc {w : World} {F : Nat → Prop} {m : Mp} {H : List Ob} {args : List AV} {vals : List Value} (hr : Ae w F m H args vals) (n : Nat) (t : Nat) :
  Rep w F m H ((args ++ List.replicate n AV.junk).getD t .junk) ((vals.toArray ++ Array.replicate n undef).getD t undef) := by
 have hl := Ar hr
 have e : (vals.toArray ++ Array.replicate n undef).getD t undef = (vals ++ List.replicate n undef).getD t undef := by
  rw [Array.getD_eq_getD_getElem?, List.getD_eq_getElem?_getD, ← Array.getElem?_toList]
  simp
 rw [e, List.getD_eq_getElem?_getD, List.getD_eq_getElem?_getD]
 rcases Nat.lt_or_ge t args.length with ht | ht
 ·rw [List.getElem?_append_left ht, List.getElem?_append_left (by omega)]
  obtain ⟨v, hv, hrv⟩ := B0 hr (i := t) (c := args[t]) (List.getElem?_eq_getElem ht)
  rw [hv, List.getElem?_eq_getElem ht]
  exact hrv
 ·rw [List.getElem?_append_right ht, List.getElem?_replicate]
  split <;> (unfold Rep; trivial)
theorem AKz (hE : ∀ g, AQ P g (E.spec g)) (hL : H6 E) (hf : P.funcs[g]? = some fn) (hb : fn.body = some c) (hc : QN P g) (hl : loops c = 0) :
  AQ P g (Fu P E h fn) := by
 intro R args H fz slot k r hk
 simp only [Fu, hb] at hk
 split at hk
 ·cases hk
 ·rename_i hle
  simp only [decide_eq_true_eq] at hle
  obtain ⟨e, st', h1, h2, h3⟩ := Mz hE hL (np := H.length) c 0 (AH4 c 0 hl) R _ _ r hk
  have key : ∃ vs, Cm P st' fn.results.toList = some vs ∧ k (single vs) { heap := some (st'.heap, st'.frz) } = some r ∧ (e = .normal ∨ e = .ret) := by
   cases e with
   | normal =>
    simp only at h1
    split at h1
    ·rename_i vs hvs; exact ⟨vs, hvs, h1, .inl rfl⟩
    ·cases h1
   | ret =>
    simp only at h1
    split at h1
    ·rename_i vs hvs; exact ⟨vs, hvs, h1, .inr rfl⟩
    ·cases h1
   | _ => simp at h1
  obtain ⟨vs, hvs, h4, he⟩ := key
  refine ⟨_, _, h4, fun R' k' => ?_, hc, fun w F m vals hi hr => ?_⟩
  ·simp only [Fu, hb, hle, decide_true]
   refine (h2 R' _).trans ?_
   rcases he with rfl | rfl <;> simp only [hvs]
  ·have hlv := Ar hr
   refine calls_of_wp hf hb ?_
   have hsi : SI w F m { tmps := args ++ List.replicate (fn.ntmps - args.length) .junk, heap := H, frz := fz } { tmps := vals.toArray ++ Array.replicate (fn.ntmps - vals.toArray.size) undef, defers := [] } := by
    refine ⟨fun t => ?_, ?_, hi, rfl⟩
    ·have := ARc hr (fn.ntmps - args.length) t
     simp only [List.size_toArray, hlv]
     exact this
    ·simp [hlv]
   refine h3 w F m _ _ hsi fun a' w' F' m' s1 x1 => ?_
   obtain ⟨us, r1, r2⟩ := Xc s1 hvs
   have hgo : Ax w F m H fz w' F' m' st'.heap st'.frz := ⟨⟨x1.os, x1.tape, x1.output, x1.size, x1.keep, x1.sub, x1.bnd, x1.own, fun i o ho hf => x1.comp i o (Av ho) ho hf⟩, s1.heap⟩
   have hpost : a'.defers = [] ∧ ∃ v, (results fn a'.tmps).run P w' = .ok v w' ∧ (fun (en : Ending) (w' : World) => ∃ u, en = .returned u ∧ ∃ F' m', Ax w F m H fz w' F' m' (D7 { heap := some (st'.heap, st'.frz) } H) (Ja { heap := some (st'.heap, st'.frz) } fz) ∧ Rep w' F' m' (D7 { heap := some (st'.heap, st'.frz) } H) (single vs) u) (.returned v) w' :=
    ⟨s1.defers, _, r1, _, rfl, F', m', hgo, ACl r2⟩
   rcases he with rfl | rfl <;> exact hpost
theorem AD3 {w : World} {F : Nat → Prop} {m : Mp} {H : List Ob} {fz : List Bool} {bs : List Bnd} {m' : Mp} {E : St} {val : Nat → Value} (h : Inv w F m H fz bs m' E val) {j : Nat} {o : Ob} (hj : E.heap[j]? = some o) : alive o := by
 have hlt := Av hj
 rw [h.lenH] at hlt
 have hx : bs[j]? = some bs[j] := List.getElem?_eq_getElem hlt
 have hb := h.ob j _ hx
 cases hc : bs[j] with
 | none => rw [hc] at hb; simp only [BN] at hb; obtain ⟨_, ⟨T, e, e2, _⟩ | ⟨T, e, e2⟩⟩ := hb <;> (rw [hj] at e2; cases e2; trivial)
 | whole id =>
  rw [hc] at hb; simp only [BN] at hb
  rcases hb.2 with ⟨T, t, xs, _, a2, _⟩ | ⟨k, v, es, _, a2⟩ | ⟨cs, cs', b, c, vs, T, _, a2, _⟩ | ⟨_, _, _, _, _, a2, _⟩ <;> (rw [hj] at a2; cases a2; trivial)
 | cut id => rw [hc] at hb; simp only [BN] at hb; obtain ⟨T, t, xs, n, _, _, a3, _⟩ := hb; rw [hj] at a3; cases a3; trivial
theorem ALz {np : Nat} {outs : AE} {rs : List RS} {st : St} {y : CO (leaves outs)} (h : finish np P fn outs rs st = some y) :
  ∃ vs tm bs fr, Cm P st fn.results.toList = some vs ∧ Ff rs vs = some tm ∧ dec tm st.heap outs st.frz [] = some (y, bs, fr) ∧ pins np 0 bs = true := by
 unfold finish at h
 split at h
 ·rename_i vs hvs
  split at h
  ·rename_i tm htm
   split at h
   ·rename_i y' bs fr hd
    split at h
    ·rename_i hp
     simp only [Option.some.injEq] at h; subst h
     exact ⟨vs, tm, bs, fr, hvs, htm, hd, hp⟩
    ·cases h
   ·cases h
  ·cases h
 ·cases h
theorem AUZ (hE : ∀ g, AQ P g (E.spec g)) (hL : H6 E) (hf : P.funcs[g]? = some fn) (hb : fn.body = some c) (hc : QN P g)
  {na : Nat} (hna : na ≤ fn.ntmps) {its outs : AE} {rs : List RS} {f : CO (leaves its) → Option (CO (leaves outs))} (hfun : ∀ x, f x = AP P E h fn its outs rs x) (hl : DW P (CX its) h c 0) :
  AQ P g (AF na its outs rs f) := by
 intro R args H fz slot k r hk
 simp only [AF] at hk
 split at hk
 ·cases hk
 ·rename_i x bs fr hdec
  split at hk
  ·cases hk
  ·rename_i hchk
   simp only [Bool.and_eq_true, decide_eq_true_eq] at hchk
   obtain ⟨⟨huncut, hbl⟩, hal⟩ := hchk
   split at hk
   ·cases hk
   ·rename_i y hy
    have key : ∃ e, k (single (Fb rs (I7 (By (CX outs) bs slot) (encode (cellsOf rs) outs y).tmps))) e = some r ∧ e.heap = none ∧ e.objs = (By (CX outs) bs slot).zip ((encode (cellsOf rs) outs y).heap.map (Fl (By (CX outs) bs slot))) ∧
      (∀ R' (k' : AV → Eff → Option R'), Nr R' bs fr rs (encode (cellsOf rs) outs y) (By (CX outs) bs slot) H fz k' = k' (single (Fb rs (I7 (By (CX outs) bs slot) (encode (cellsOf rs) outs y).tmps))) e) ∧
      Ep H (Ak e.frz fz) (By (CX outs) bs slot) bs = true ∧ IF (By (CX outs) bs slot) = true ∧
      ((e.frz = [] ∧ Ii (encode (cellsOf rs) outs y).tmps = true ∧ (encode (cellsOf rs) outs y).heap.all NZ = true) ∨ e.frz = fr) := by
     unfold Nr at hk
     split at hk
     ·rename_i hflat
      split at hk
      ·rename_i hok
       simp only [Bool.and_eq_true] at hok hflat
       refine ⟨_, hk, rfl, rfl, fun R' k' => by simp only [Nr, hflat.1, hflat.2, hok.1, hok.2, Bool.and_self], hok.1, hok.2, .inl ⟨rfl, hflat.1, hflat.2⟩⟩
      ·cases hk
     ·rename_i hflat
      split at hk
      ·rename_i hok
       simp only [Bool.and_eq_true] at hok
       refine ⟨_, hk, rfl, rfl, fun R' k' => by simp only [Nr, hflat, hok.1, hok.2, Bool.and_self], hok.1, hok.2, .inr rfl⟩
      ·cases hk
    obtain ⟨e, h4, he1, he2, h5, hok, hnd, hfl⟩ := key
    refine ⟨_, e, h4, fun R' k' => ?_, hc, fun w F m vals hi hr => ?_⟩
    ·simp only [AF, hdec, huncut, hbl, hal, hy, decide_true, Bool.and_self]
     exact h5 R' k'
    ·have hlv := Ar hr
     rw [hfun x] at hy
     unfold AP at hy
     rw [hb] at hy
     simp only at hy
     obtain ⟨ex, st', g1, _, g3⟩ := Mz hE hL c 0 hl _ _ _ _ hy
     have hfin : finish (CX its) P fn outs rs st' = some y ∧ (ex = .normal ∨ ex = .ret) := by
      cases ex with
      | normal => exact ⟨g1, .inl rfl⟩
      | ret => exact ⟨g1, .inr rfl⟩
      | _ => simp at g1
     obtain ⟨hfin, hex⟩ := hfin
     obtain ⟨vs, tm, bs', fr', hvs, htm, hd', hp⟩ := ALz hfin
     refine calls_of_wp hf hb ?_
     obtain ⟨F2, m2, gA, invA, _⟩ := AQo (val := fun t => (vals.toArray ++ Array.replicate (fn.ntmps - vals.toArray.size) undef).getD t undef) its fz [] F (fun _ => none) (blank fn.ntmps) x bs fr hi
      (fun t v ht => by
       have := ARc hr (fn.ntmps - vals.toArray.size) t
       rw [List.getD_eq_getElem?_getD, List.getElem?_append_left (Dy ht), ht] at this
       exact this) (Inv.blank fn.ntmps) hdec
     have hsi : SI w F2 m2 (encode fn.ntmps its x) { tmps := vals.toArray ++ Array.replicate (fn.ntmps - vals.toArray.size) undef, defers := [] } := by
      refine ⟨invA.tmps, ?_, invA.hi gA.2, rfl⟩
      rw [Kl]
      simp [hlv]
      omega
     refine g3 w F2 m2 _ _ hsi fun a' w' F' m' s1 x1 => ?_
     obtain ⟨us, r1, r2⟩ := Xc s1 hvs
     obtain ⟨q1, q2, q3⟩ := AN6 htm r2
     obtain ⟨F3, m3, gC, invC, _⟩ := AQo (val := fun t => (Hw rs us).getD t undef) outs st'.frz [] F' (fun _ => none) (blank (cellsOf rs)) y bs' fr' s1.heap
      (fun t v ht => by
       obtain ⟨u, hu, hru⟩ := B0 q1 ht
       rw [List.getD_eq_getElem?_getD, hu]
       exact hru) (Inv.blank (cellsOf rs)) hd'
     have hnb : ∀ j id, bs[j]? = some (.whole id) → j < CX its := fun j id hj => by rw [← hbl]; exact Dy hj
     have srcA : ∀ {j b c}, owned (encode fn.ntmps its x).heap (encode fn.ntmps its x).frz j → m2 j = some (b, c) → ∃ id, bs[j]? = some (.whole id) ∧ owned H (Ak fr fz) id ∧ m id = some (b, c) := by
      intro j b c ho hm
      obtain ⟨y, id, k1, k2, k3, k4⟩ := invA.src ho hm
      rw [List.all_eq_true] at huncut
      have := huncut y (List.mem_of_getElem? k1)
      cases y with
      | none => simp [Bnd.id?] at k2
      | whole i => simp only [Bnd.id?, Option.some.injEq] at k2; subst k2; exact ⟨_, k1, k3, k4⟩
      | cut i => simp [Bnd.Abi] at this
     have hpin : ∀ j id, bs[j]? = some (.whole id) → owned H (Ak fr fz) id ∧ ∃ o o1, H[id]? = some o ∧ alive o ∧ (encode (cellsOf rs) outs y).heap[j]? = some o1 ∧ sameShape o o1 ∧ m3 j = m id := by
      intro j id hj
      have hA := invA.ob j _ hj
      simp only [BN] at hA
      obtain ⟨eA, hA⟩ := hA
      have hjn := hnb j id hj
      have hC := invC.ob j _ (by have := AJl _ 0 bs' hp j hjn; rw [Nat.zero_add] at this; exact this)
      simp only [BN] at hC
      obtain ⟨eC, hC⟩ := hC
      have start : ∃ o o0, H[id]? = some o ∧ alive o ∧ (encode fn.ntmps its x).heap[j]? = some o0 ∧ sameShape o o0 ∧ alive o0 ∧ owned H (Ak fr fz) id := by
       rcases hA with ⟨T, t, xs, a1, a2, a3⟩ | ⟨k, v, es, a1, a2⟩ | ⟨cs, cs', b, cc, vs, T, a1, a2, _⟩ | ⟨_, _, _, _, a1, a2, _⟩
       ·exact ⟨_, _, a1, trivial, a2, ⟨rfl, rfl⟩, trivial, Yb a1 trivial a3⟩
       ·exact ⟨_, _, a1, trivial, a2, trivial, trivial, by unfold owned; rw [a1]; trivial⟩
       rotate_left
       ·exact ⟨_, _, a1, trivial, a2, rfl, trivial, by unfold owned; rw [a1]; trivial⟩
       ·exact ⟨_, _, a1, trivial, a2, trivial, trivial, by unfold owned; rw [a1]; trivial⟩
      obtain ⟨o, o0, s1, s2, s3, s4, s5, s6⟩ := start
      have mid := x1.comp j o0 hjn s3 (AMl s5).1
      have fin : ∃ o2 o1, st'.heap[j]? = some o2 ∧ alive o2 ∧ (encode (cellsOf rs) outs y).heap[j]? = some o1 ∧ sameShape o2 o1 := by
       rcases hC with ⟨T, t, xs, a1, a2, a3⟩ | ⟨k, v, es, a1, a2⟩ | ⟨cs, cs', b, cc, vs, T, a1, a2, _⟩ | ⟨_, _, _, _, a1, a2, _⟩
       ·exact ⟨_, _, a1, trivial, a2, ⟨rfl, rfl⟩⟩
       ·exact ⟨_, _, a1, trivial, a2, trivial⟩
       rotate_left
       ·exact ⟨_, _, a1, trivial, a2, rfl⟩
       ·exact ⟨_, _, a1, trivial, a2, trivial⟩
      obtain ⟨o2, o1, t1, t2, t3, t4⟩ := fin
      rcases mid with md | ⟨_, o2', md1, md2, md3⟩
      ·rw [t1] at md; cases md; exact t2.elim
      ·rw [t1] at md1; cases md1
       exact ⟨s6, o, o1, s1, s2, t3, (s4.trans md2).trans t4, by rw [eC, md3, eA]⟩
     have hiC1 := invC.hi gC.2
     have hblk : ∀ j b cc, owned (encode (cellsOf rs) outs y).heap (encode (cellsOf rs) outs y).frz j → m3 j = some (b, cc) → (∃ id c', bs[j]? = some (.whole id) ∧ m id = some (b, c')) ∨ w.heap.size ≤ b := by
      intro j b cc ho hm
      obtain ⟨_, i', k1, k2, k3, k4⟩ := invC.src ho hm
      rcases x1.own i' b cc (DK k3) k4 with ⟨i, c0, l1, l2⟩ | h
      ·left
       obtain ⟨id, n1, n2, n3⟩ := srcA l1 l2
       obtain ⟨_, o, o1, p1, p2, p3, p4, p5⟩ := hpin i id n1
       have hoi : owned (encode (cellsOf rs) outs y).heap (encode (cellsOf rs) outs y).frz i := Yb p3 (AD3 invC p3) (invC.frz i)
       by_cases hij : j = i
       ·subst hij; exact ⟨id, c0, n1, n3⟩
       ·exact absurd rfl (hiC1.sep j i b cc b c0 ho hoi hij hm (by rw [p5]; exact n3))
      ·exact .inr h
     have hkeep : ∀ b, b < w.heap.size → (∀ (j id : Nat) (c : Nat), bs[j]? = some (.whole id) → m id ≠ some (b, c)) → w'.heap[b]? = w.heap[b]? := by
      intro b hb hn
      refine x1.keep b hb fun i cc ho hm => ?_
      obtain ⟨id, n1, _, n3⟩ := srcA ho hm
      exact hn i id cc n1 n3
     have hbnd : ∀ b, F3 b → F2 b ∨ (∃ (j id c : Nat), bs[j]? = some (.whole id) ∧ m id = some (b, c)) ∨ w.heap.size ≤ b := by
      have hx : ∀ {i b cc}, owned (encode fn.ntmps its x).heap (encode fn.ntmps its x).frz i → m2 i = some (b, cc) → ∃ (j id c : Nat), bs[j]? = some (.whole id) ∧ m id = some (b, c) := by
       intro i b cc ho hm
       obtain ⟨id, n1, _, n3⟩ := srcA ho hm
       exact ⟨i, id, cc, n1, n3⟩
      intro b hb
      rcases gC.1.bnd b hb with h | ⟨i, cc, ho, hm⟩ | h
      ·rcases x1.bnd b h with h | ⟨i, cc, ho, hm⟩ | h
       ·exact .inl h
       ·exact .inr (.inl (hx ho hm))
       ·exact .inr (.inr h)
      ·rcases x1.own i b cc ho hm with ⟨i', c0, ho, hm⟩ | h
       ·exact .inr (.inl (hx ho hm))
       ·exact .inr (.inr h)
      ·exact .inr (.inr (Nat.le_trans x1.size h))
     have hidl : (By (CX outs) bs slot).length = (encode (cellsOf rs) outs y).heap.length := by
      rw [AVP]; unfold encode; rw [AZU]; simp [blank]
     obtain ⟨FR, hFR, hRR⟩ : ∃ FR, ((FR = F ∧ Ak e.frz fz = fz ∧ (encode (cellsOf rs) outs y).heap.all NZ = true) ∨ (FR = F3 ∧ Ak e.frz fz = Ak fr fz)) ∧ Ae w' FR m3 (encode (cellsOf rs) outs y).heap (encode (cellsOf rs) outs y).tmps (Hw rs us) := by
      have hrt : Ae w' F3 m3 (encode (cellsOf rs) outs y).heap (encode (cellsOf rs) outs y).tmps (Hw rs us) := by
       refine DU (by rw [Kl, q2]) fun i a u ha hu => ?_
       have := invC.tmps i
       rw [List.getD_eq_getElem?_getD] at this
       have ha' : (enc outs y (blank (cellsOf rs))).tmps[i]? = some a := ha
       rw [ha', List.getD_eq_getElem?_getD, hu] at this
       exact this
      rcases hfl with ⟨f1, f2, f3⟩ | f1
      ·exact ⟨F, .inl ⟨rfl, by rw [f1]; rfl, f3⟩, Ae.flat _ f2 hrt⟩
      ·exact ⟨F3, .inr ⟨rfl, by rw [f1]⟩, hrt⟩
     obtain ⟨hgo, hmv⟩ := AV8 (ids := By (CX outs) bs slot) hi gA hpin hblk x1.os x1.tape x1.output x1.size hkeep (fun b h => gC.1.sub b (x1.sub b h)) hbnd hiC1 (fun j o hj => AD3 invC hj) invC.frz hidl hok hnd hFR
     have hH : D7 e H = BI ((By (CX outs) bs slot).zip ((encode (cellsOf rs) outs y).heap.map (Fl (By (CX outs) bs slot)))) H := by rw [FT he1, he2]
     have hZ : Ja e fz = Ak e.frz fz := Gk he1 fz
     have hpost : a'.defers = [] ∧ ∃ v, (results fn a'.tmps).run P w' = .ok v w' ∧ (fun (en : Ending) (w' : World) => ∃ u, en = .returned u ∧ ∃ F' m', Ax w F m H fz w' F' m' (D7 e H) (Ja e fz) ∧ Rep w' F' m' (D7 e H) (single (Fb rs (I7 (By (CX outs) bs slot) (encode (cellsOf rs) outs y).tmps))) u) (.returned v) w' := by
      refine ⟨s1.defers, _, r1, _, rfl, FR, mOf (By (CX outs) bs slot) m3 m, ?_, ?_⟩
      ·rw [hH, hZ]; exact hgo
      ·rw [hH]
       exact ACl (q3 _ _ _ _ _ (Ae.ren hmv _ hRR))
     rcases hex with rfl | rfl <;> exact hpost
end
end Go.Pev
end
section
namespace Go.Pev
open Go.RowKit
def JF : Code → Nat → Option Code
 | .seq a b, n => match JF a n with
  | some c => some c
  | none => JF b (n - loops a)
 | .cond _ a b, n => match JF a n with
  | some c => some c
  | none => JF b (n - loops a)
 | .block _ c, n => JF c n
 | .loop c, n => match n with
  | 0 => some c
  | n + 1 => JF c n
 | _, _ => none
def AU (f : Func) : Code := match f.body with
 | some c => c
 | none => .skip
def AB (f : Func) (n : Nat) : Code := (JF (AU f) n).getD .skip
def AD : Code → Nat → List (Nat × Code)
 | .seq a b, n => AD a n ++ AD b (n + loops a)
 | .cond _ a b, n => AD a n ++ AD b (n + loops a)
 | .block _ c, n => AD c n
 | .loop c, n => [(n, c)]
 | _, _ => []
def AEI (P : Program) (np : Nat) (h : Hints) : List (Nat × Code) → Prop
 | [] => True
 | p :: l => Aa P np (.loop p.2) (h.loop p.1) ∧ AEI P np h l
theorem AEH {P : Program} {np : Nat} {h : Hints} : ∀ {a b : List (Nat × Code)}, AEI P np h (a ++ b) → AEI P np h a ∧ AEI P np h b := by
 intro a
 induction a with
 | nil => exact fun h => ⟨trivial, h⟩
 | cons p a ih => intro b h; exact ⟨⟨h.1, (ih h.2).1⟩, (ih h.2).2⟩
theorem AMq {P : Program} {np : Nat} {h : Hints} : ∀ (c : Code) (n : Nat), AEI P np h (AD c n) → DW P np h c n := by
 intro c
 induction c with
 | seq a b iha ihb => intro n hl; have := AEH hl; exact ⟨iha n this.1, ihb _ this.2⟩
 | cond c a b iha ihb => intro n hl; have := AEH hl; exact ⟨iha n this.1, ihb _ this.2⟩
 | block id c ih => intro n hl; exact ih n hl
 | loop c ih => intro n hl; exact hl.1
 | _ => intro n _; trivial
theorem AA {P : Program} {np : Nat} {h : Hints} {c : Code} {n : Nat} {l : List (Nat × Code)} (e : AD c n = l) (a : AEI P np h l) : DW P np h c n := AMq c n (by rw [e]; exact a)
def Ab (P : Program) (E : Env) : Prop := (∀ g, AQ P g (E.spec g)) ∧ H6 E
def Env.none : Env := { spec := fun _ _ _ _ _ _ _ => Option.none, loc := fun _ => false, loc2 := fun _ => true }
theorem Env.AGD {P : Program} : Ab P Env.none := ⟨fun g R args H fz slot k r h => by simp [Env.none] at h, fun g h => by simp [Env.none] at h, fun g _ R args H H' fz fz' slot k S _ _ _ => rfl⟩
def Env.ext (E : Env) (g : FuncId) (loc loc2 : Bool) (s : Spec) : Env where
 spec x := match Nat.beq x g with
  | true => s
  | false => E.spec x
 loc x := match Nat.beq x g with
  | true => loc
  | false => E.loc x
 loc2 x := match Nat.beq x g with
  | true => loc2
  | false => E.loc2 x
theorem Env.AZ {P : Program} {E : Env} {g : FuncId} {loc loc2 : Bool} {s : Spec} (h : Ab P E) (hs : AQ P g s) (hl : loc = true → Ss s) (hl2 : loc2 = true → WE s) : Ab P (E.ext g loc loc2 s) := by
 refine ⟨?_, ?_, ?_⟩
 ·intro x
  simp only [Env.ext]
  cases hx : Nat.beq x g with
  | true => have := Nat.eq_of_beq_eq_true hx; subst this; exact hs
  | false => exact h.1 x
 ·intro x hx
  simp only [Env.ext] at hx ⊢
  cases hb : Nat.beq x g with
  | true => rw [hb] at hx; exact hl hx
  | false => rw [hb] at hx; exact h.2.1 x hx
 ·intro x hx
  simp only [Env.ext] at hx ⊢
  cases hb : Nat.beq x g with
  | true => rw [hb] at hx; exact hl2 hx
  | false => rw [hb] at hx; exact h.2.2 x hx
section
variable {P : Program} {E : Env} {h : Hints} {g : FuncId} {fn : Func}
theorem ASl (hb : fn.body.isSome = true) : fn.body = some (AU fn) := by
 unfold AU
 cases h : fn.body with
 | none => rw [h] at hb; cases hb
 | some c => rfl
theorem AI (hE : Ab P E) (hf : P.funcs[g]? = some fn) (hb : fn.body.isSome = true) (hn : (fn.name == "runtime.NumGoroutine") = false)
  {na : Nat} (hna : (Nat.ble na fn.ntmps) = true) {its outs : AE} {rs : List RS} {f : CO (leaves its) → Option (CO (leaves outs))} (hfun : ∀ x, f x = AP P E h fn its outs rs x) (hl : DW P (CX its) h (AU fn) 0) :
  AQ P g (AF na its outs rs f) :=
 AUZ hE.1 hE.2 hf (ASl hb) (UI hf hb hn) (Nat.le_of_ble_eq_true hna) hfun hl
theorem Hm (hE : Ab P E) (hf : P.funcs[g]? = some fn) (hb : fn.body.isSome = true) (hn : (fn.name == "runtime.NumGoroutine") = false) (hl : loops (AU fn) = 0) : AQ P g (Fu P E h fn) :=
 AKz hE.1 hE.2 hf (ASl hb) (UI hf hb hn) hl
theorem AW {h' : Hints} (hE : Ab P E) {np nt n : Nat} {body : Code} {its : AE} {os : At} {stp : CO (leaves its) → Option (CO (leaves its) ⊕ ACJ os)}
  (hstep : ∀ v, stp v = roundOf P E h' n np nt body its os v) (hl : DW P np h' body n) : Aa P np (.loop body) (Ac np nt its os stp) := AUu hE.1 hE.2 hstep hl
def ADr : AE → Bool
 | [] => true
 | (.tmp _, .dat _) :: r => ADr r
 | _ :: _ => false
theorem AVv {H H' : List Ob} {tm : List AV} (ha : ∀ id ∈ BC tm, H[id]? = H'[id]?) : ∀ (its : AE) (fz fz' : List Bool), ADr its = true → dec tm H its fz [] = dec tm H' its fz' [] := by
 intro its
 induction its with
 | nil => intro fz fz' _; rfl
 | cons p r ih =>
  intro fz fz' hd
  obtain ⟨l, c⟩ := p
  cases l <;> cases c <;> simp only [ADr] at hd <;> try (cases hd; done)
  rename_i t ty
  simp only [dec, look]
  cases hv : tm[t]? with
  | none => rfl
  | some v =>
   have hsub : ∀ id ∈ Az v, H[id]? = H'[id]? := fun id hid => ha id (by
    clear ih hd ha
    induction tm generalizing t with
    | nil => simp at hv
    | cons a tm iht =>
     cases t with
     | zero => simp at hv; subst hv; simp [BC, hid]
     | succ t => simp only [BC, List.mem_append]; exact .inr (iht t (by simpa using hv)))
   simp only
   rw [Bf ty v hsub]
   cases FP H' ty v with
   | none => rfl
   | some q =>
    obtain ⟨x, f⟩ := q
    simp only
    have hfr : f.all (fresh? []) = true := by simp [fresh?]
    rw [hfr]
    simp only
    rw [ih (Ak f fz) (Ak f fz') hd]
theorem AVO : ∀ (n slot : Nat), By n [] slot = List.range' slot n := by
 intro n
 induction n with
 | zero => intro slot; rfl
 | succ n ih => intro slot; simp only [By, List.range'_succ]; rw [ih]
theorem T5 {H H' : List Ob} {fz fz' : List Bool} : ∀ (ids : List Nat), (∀ i ∈ ids, A3 H fz i = A3 H' fz' i) → Ep H fz ids [] = Ep H' fz' ids [] := by
 intro ids
 induction ids with
 | nil => intro _; rfl
 | cons a ids ih =>
  intro h
  simp only [Ep, List.tail_nil]
  rw [h a (by simp), ih fun i hi => h i (by simp [hi])]
theorem AQp {H : List Ob} {tm : List AV} : ∀ (its : AE) (fz : List Bool) (bs : List Bnd) (x : CO (leaves its)) (bs' : List Bnd) (fr : List Nat), ADr its = true → dec tm H its fz bs = some (x, bs', fr) → bs' = bs := by
 intro its
 induction its with
 | nil => intro fz bs x bs' fr _ h; simp only [dec, Option.some.injEq] at h; cases h; rfl
 | cons p r ih =>
  intro fz bs x bs' fr hd h
  obtain ⟨l, c⟩ := p
  cases l <;> cases c <;> simp only [ADr] at hd <;> try (cases hd; done)
  simp only [dec] at h
  split at h
  ·split at h
   ·split at h
    ·split at h
     ·rename_i xs bs1 g hdd
      simp only [Option.some.injEq] at h
      cases h
      exact ih _ _ _ _ _ hd hdd
     ·cases h
    ·cases h
   ·cases h
  ·cases h
theorem AJ {na : Nat} {its outs : AE} {rs : List RS} {f : CO (leaves its) → Option (CO (leaves outs))} (hd : ADr its = true) (hn : Nat.ble (CX outs) 4 = true) : Ss (AF na its outs rs f) := by
 intro R args H H' fz fz' slot k ha
 unfold AF
 rw [AVv ha.heap its fz fz' hd]
 split
 ·rfl
 ·rename_i x bs fr hdec
  have hbs := AQp its fz' [] x bs fr hd hdec
  subst hbs
  split
  ·rfl
  ·split
   ·rfl
   ·rename_i y hy
    have hfree : ∀ (g : List Nat) (i : Nat), i ∈ By (CX outs) [] slot → A3 H (Ak g fz) i = A3 H' (Ak g fz') i := by
     intro g i hi
     rw [AVO, List.mem_range'_1] at hi
     have := Nat.le_of_ble_eq_true hn
     exact GU ha hi.1 (by omega) g
    unfold Nr
    rw [show Ep H fz (By (CX outs) [] slot) [] = Ep H' fz' (By (CX outs) [] slot) [] from T5 _ (hfree []), T5 _ (hfree fr)]
end
end Go.Pev
end
section
namespace Go.Pev
open Go.RowKit
def AAP {α : Type} (xs : List α) : Option (List α) := match Mc (AN xs) with
 | true => some xs
 | false => none
def Ye : Code → Nat → List Oper
 | .region id ops _, n => if id = n then ops.toList else []
 | .seq a b, n => Ye a n ++ Ye b n
 | .cond _ a b, n => Ye a n ++ Ye b n
 | .block _ c, n => Ye c n
 | .loop c, n => Ye c n
 | _, _ => []
def Dg (fn : Func) (n i : Nat) : Oper := ((Ye (AU fn) n)[i]?).getD default
structure Acb (P : Program) (fn : Func) (T e : TypeId) (t : Ty) : Prop where
 body : fn.body = some (.seq (.region 0 #[Dg fn 0 0] false) (.seq (.seq (.region 1 #[Dg fn 1 0, Dg fn 1 1] false) (.cond (.tmp 4) (.seq (.region 2 #[Dg fn 2 0] false) .ret) .skip)) (.seq (.region 3 #[Dg fn 3 0, Dg fn 3 1, Dg fn 3 2, Dg fn 3 3] false) .ret)))
 nt : fn.ntmps = 8
 res : fn.results = #[.tmp 2]
 d : (Dg fn 0 0).dst = some 2 ∧ (Dg fn 1 0).dst = some 3 ∧ (Dg fn 1 1).dst = some 4 ∧ (Dg fn 2 0).dst = some 2 ∧ (Dg fn 3 0).dst = some 5 ∧ (Dg fn 3 1).dst = some 6 ∧ (Dg fn 3 2).dst = some 7 ∧ (Dg fn 3 3).dst = some 2
 g : (Dg fn 0 0).guard = none ∧ (Dg fn 1 0).guard = none ∧ (Dg fn 1 1).guard = none ∧ (Dg fn 2 0).guard = none ∧ (Dg fn 3 0).guard = none ∧ (Dg fn 3 1).guard = none ∧ (Dg fn 3 2).guard = none ∧ (Dg fn 3 3).guard = none
 o00 : (Dg fn 0 0).op = .assign (.const (.slice none 0 0))
 o10 : (Dg fn 1 0).op = .move (.tmp 0)
 o11 : (Dg fn 1 1).op = .binOp .eql T (.tmp 3) (.const (.slice none 0 0)) T
 o20 : (Dg fn 2 0).op = .assign (.const (.slice none 0 0))
 o30 : (Dg fn 3 0).op = .buildSlice T 0 #[]
 o31 : (Dg fn 3 1).op = .move (.tmp 0)
 o32 : (Dg fn 3 2).op = .call { callee := .builtin .append, args := #[.tmp 5, .tmp 6], argTypes := #[T, T] }
 o33 : (Dg fn 3 3).op = .assign (.tmp 7)
 sl : sliceAt P T = some (e, t)
 z : (zeroAt P e).isSome = true
 by1 : (P.info? e).map (fun i => decide (i.bytes ≤ 1024)) = some true
section
variable {P : Program} {g : FuncId}
variable {fn : Func} {T e : TypeId} {t : Ty}
end
end Go.Pev
end
section
namespace Go.Pev
set_option maxRecDepth 100000
noncomputable section
attribute [local irreducible] Mc JS NP MV AYt AYu AYv Qy VH W0 ABI AAP AS many IntKind.wrap AN Al AT A8 DB DQ Im AG Cc Ci imax AR Ag
abbrev U0 : Ty := (.int .i64)
abbrev U1 : Ty := (.slice (.prod U0 (.prod U0 (.prod U0 (.prod .bool .unit)))))
abbrev U2 := (Int × Int × Int × Bool × Unit)
abbrev U3 := (List Int)
abbrev U4 : Ty := (.slice U0)
abbrev U5 := (Int × Int × Unit)
abbrev U6 := (List Int × Int × Int × Int × Unit)
abbrev U7 := (List U3 × Int × Int × Int × Unit)
abbrev U8 := (Int × Unit)
abbrev U9 : Ty := (.prod U0 (.prod U0 .unit))
abbrev Ua := (List Int × Unit)
abbrev Ub : Ty := (.prod U0 (.prod (.slice U4) .unit))
abbrev Uc := (List U3 × Int × Int × Unit)
abbrev Ud := (List Int × Int × Int × Unit)
abbrev Ue : Ty := (.prod U0 (.prod U1 .unit))
abbrev Uf := (List U3 × Int × Int × Int × Int × Unit)
abbrev Ug := (Bool × Unit)
abbrev Uh := (Int × (List U3) × Unit)
abbrev Ui := (Int × (List U2) × Unit)
abbrev Uj := (List Int × Int × Int × Int × Int × Unit)
abbrev Uk : Ty := (.slice U4)
abbrev Ul := (List U3 × Unit)
abbrev Um := (List Int × Int × Unit)
abbrev Un := (List Int × Int × Int × Int × Int × Int × Unit)
abbrev Uo := (List U3 × Int × Int × Int × Int × Int × Unit)
abbrev Up := (Int × List U3 × List Bool × Int × Int × Int × List Int × Int × List Int × Int × Bool × Int × List Int × Bool × Bool × List Int × List Int × List U3 × List Int × List U3 × Bool × Bool × List Int × Int × Int × Bool × Unit)
abbrev Uq := (Int × List U3 × List (Int × Int) × Int × List U3 × Int × Int × List Int × Int × Int × Bool × List Int × Bool × Bool × List Int × Int × List Int × Int × Bool × Int × List Int × Bool × Bool × List Int × Int × Int × Unit)
abbrev Ur := (Int × List Int × Int × List Int × Int × Bool × Bool × Bool × Bool × Int × Int × Bool × Int × Int × Int × Int × Int × Bool × Int × Int × Int × Int × Int × Int × Int × Int × Int × Bool × Unit)
abbrev Us := (List Int × Int × Int × Int × Bool × Bool × Unit)
abbrev Ut := (Int × Int)
abbrev Uu : Ty := (.slice U9)
abbrev Uv := (Int × List U3 × Int × Unit)
abbrev Uw := (List Int × List Int × Unit)
abbrev Ux := (Int × List U2 × List U5 × Int × Unit)
abbrev Uy := (List U5 × Unit)
abbrev Uz := (List U3 × Int × Unit)
abbrev V0 := (List Int × Bool × Unit)
abbrev V1 : Ty := (.prod U0 (.prod U0 (.prod U0 (.prod .bool .unit))))
abbrev V2 := (Int × List Int × Unit)
abbrev V3 := (U7 ⊕ U7 ⊕ Unit)
abbrev V4 := (U6 ⊕ U6 ⊕ Unit)
abbrev V5 := (List Int × List U3 × Int × List U3 × Int × List U3 × List U3 × Int × Int × Unit)
abbrev V6 := (Uh × Int × Unit)
abbrev V7 := (Int × List U5 × List Int × Bool × Unit)
abbrev ZZ : AE := [(.tmp 0, .dat U4), (.tmp 1, .dat U4)]
abbrev ZY : AE := [(.tmp 0, .dat .bool)]
abbrev ZX : List RS := [.one]
abbrev ADZ : AE := [(.tmp 0, .dat U4), (.tmp 1, .dat U4), (.tmp 5, .di)]
abbrev ADY : At := [(.ret, [(.tmp 4, .dat .bool)]), (.exit 0, [])]
def EM [Lk] : (List Int × List Int × Int × Unit) → Option ((List Int × List Int × Int × Unit) ⊕ Ug ⊕ (Unit) ⊕ Unit) := fun (a0, a1, a2, _) =>
 match (ilt a2 (AN a0)) with
 | true => match idx a0 a2 with
  | none => none
  | some x0 => match idx a1 a2 with
  | none => none
  | some x1 => match (!(ieq x0 x1)) with
  | true => some (.inr (.inl (false, ())))
  | false => some (.inl (a0, a1, (IntKind.wrap .i64 (a2 + 1)), ()))
 | false => some (.inr (.inr (.inl ())))
def Oz [Lk] : Uw → Option (Ug) := fun (a0, a1, _) =>
 match (!(ieq (AN a0) (AN a1))) with
 | true => some (false, ())
 | false => match AX EM many (a0, a1, 0, ()) with
 | none => none
 | some r => match r with
 | .inl (o0, _) => some (o0, ())
 | .inr r => match r with
 | .inl _ => some (true, ())
 | .inr _ => none
def GD [Lk] := fun v => Lk.f (Oz v)
theorem ADa v : GD v = Oz v := AK _
abbrev Wa : AE := [(.tmp 0, .di)]
abbrev WZ : AE := [(.tmp 0, .dat .bool)]
abbrev WY : List RS := [.one]
def OB [Lk] : U8 → Option (Ug) := fun (a0, _) =>
 match (ile 1 a0) with
 | true => some ((ile a0 64), ())
 | false => some (false, ())
def J6 [Lk] := fun v => Lk.f (OB v)
theorem ACR v : J6 v = OB v := AK _
abbrev AWr : AE := [(.tmp 0, .di), (.tmp 1, .di)]
abbrev AWq : AE := [(.tmp 0, .dat .bool)]
abbrev AWp : List RS := [.one]
def ARd [Lk] : U5 → Option (Ug) := fun (a0, a1, _) =>
 match J6 (a0, ()) with
 | none => none
 | some (y0, _) => match y0 with
 | true => match (ile 0 a1) with
  | true => some ((ilt a1 a0), ())
  | false => some (false, ())
 | false => some (false, ())
def tin [Lk] := fun v => Lk.f (ARd v)
theorem AWs v : tin v = ARd v := AK _
abbrev ANI : AE := [(.tmp 0, .di), (.tmp 1, .di), (.tmp 2, .di)]
abbrev ANH : AE := [(.tmp 0, .di)]
abbrev ANG : List RS := [.one]
def AEs [Lk] : (Int × Int × Int × Unit) → Option (U8) := fun (a0, a1, a2, _) =>
 match (ieq a1 a2) with
 | true => some ((-1 : Int), ())
 | false => match tin (a0, a1, ()) with
 | none => none
 | some (y0, _) => match (!y0) with
 | true => some ((-1 : Int), ())
 | false => match tin (a0, a2, ()) with
 | none => none
 | some (y1, _) => match (!y1) with
 | true => some ((-1 : Int), ())
 | false => some ((IntKind.wrap .i64 ((IntKind.wrap .i64 (a0 * (IntKind.wrap .i64 (a1 + 1)))) + a2)), ())
def ATS [Lk] := fun v => Lk.f (AEs v)
theorem ARe v : ATS v = AEs v := AK _
abbrev WW : AE := [(.tmp 0, .di), (.tmp 1, .di)]
abbrev WV : AE := [(.tmp 0, .di), (.tmp 1, .di), (.tmp 2, .dat .bool), (.tmp 3, .dat .bool)]
abbrev WU : List RS := [.one, .one, .one, .one]
def OA [Lk] : U5 → Option ((Int × Int × Bool × Bool × Unit)) := fun (a0, a1, _) =>
 match J6 (a0, ()) with
 | none => none
 | some (y0, _) => match (!y0) with
 | true => some (0, 0, false, false, ())
 | false => match (ilt a1 0) with
 | true => some (0, 0, false, false, ())
 | false => match (ile (IntKind.wrap .i64 (a0 * (IntKind.wrap .i64 (a0 + 1)))) a1) with
 | true => some (0, 0, false, false, ())
 | false => match (ilt a1 a0) with
 | true => some (a1, 0, false, true, ())
 | false => match quo? .i64 a1 a0 with
 | none => none
 | some x1 => match rem? a1 a0 with
 | none => none
 | some x2 => match (ieq (IntKind.wrap .i64 (x1 - 1)) x2) with
 | true => some (0, 0, false, false, ())
 | false => some ((IntKind.wrap .i64 (x1 - 1)), x2, true, true, ())
def WX [Lk] := fun v => Lk.f (OA v)
theorem ACQ v : WX v = OA v := AK _
abbrev AEl : AE := [(.tmp 0, .di)]
abbrev AEk : AE := [(.tmp 0, .di), (.tmp 1, .own 55 U4), (.tmp 2, .di)]
abbrev AEj : List RS := [.agg 2, .one]
abbrev AIu : AE := [(.tmp 2, .box 2), (.cell 0 0, .di), (.cell 0 1, .nil U4), (.tmp 4, .box 2), (.cell 1 0, .di), (.cell 1 1, .own 55 U4), (.tmp 12, .di), (.tmp 13, .di)]
abbrev AIt : At := [(.exit 0, [(.tmp 2, .box 2), (.cell 0 0, .di), (.cell 0 1, .nil U4), (.tmp 4, .box 2), (.cell 1 0, .di), (.cell 1 1, .own 55 U4)])]
def Gv [Lk] : (Int × Int × List U3 × Int × Int × Unit) → Option ((Int × Int × List U3 × Int × Int × Unit) ⊕ (Int × Int × List U3 × Unit) ⊕ Unit) := fun (a0, a1, a2, a3, a4, _) =>
 match (ilt a4 a3) with
 | true => match (fits ((AN a2) + (AN ([([a4] : List (Int))] : List U3)))) with
  | true => some (.inl (a0, a1, (A8 a2 ([([a4] : List (Int))] : List U3)), a3, (IntKind.wrap .i64 (a4 + 1)), ()))
  | false => none
 | false => some (.inr (.inl (a0, a1, a2, ())))
def Ve [Lk] : U8 → Option (Uv) := fun (a0, _) =>
 match J6 (a0, ()) with
 | none => none
 | some (y0, _) => match (!y0) with
 | true => some (0, ([] : List U3), 1, ())
 | false => match AX Gv many (0, a0, ([] : List U3), a0, 0, ()) with
 | none => none
 | some r => match r with
 | .inl (o1, o2, o3, _) => some (o2, o3, 0, ())
 | .inr _ => none
def AIw [Lk] := fun v => Lk.f (Ve v)
theorem AIv v : AIw v = Ve v := AK _
abbrev Zg : AE := [(.tmp 0, .dat U4), (.tmp 1, .di)]
abbrev Zf : AE := [(.tmp 0, .di)]
abbrev Ze : List RS := [.one]
abbrev ADc : AE := [(.tmp 0, .dat U4), (.tmp 1, .di), (.tmp 7, .di), (.tmp 8, .di)]
abbrev ADb : At := [(.ret, [(.tmp 4, .di)]), (.exit 0, [])]
def E6 [Lk] : U6 → Option (U6 ⊕ U8 ⊕ (Unit) ⊕ Unit) := fun (a0, a1, a2, a3, _) =>
 match (ilt a3 a2) with
 | true => match idx a0 a3 with
  | none => none
  | some x0 => match (ieq a1 x0) with
  | true => some (.inr (.inl (a3, ())))
  | false => some (.inl (a0, a1, a2, (IntKind.wrap .i64 (a3 + 1)), ()))
 | false => some (.inr (.inr (.inl ())))
def O3 [Lk] : Um → Option (U8) := fun (a0, a1, _) =>
 match AX E6 many (a0, a1, (AN a0), 0, ()) with
 | none => none
 | some r => match r with
 | .inl (o0, _) => some (o0, ())
 | .inr r => match r with
 | .inl _ => some ((-1 : Int), ())
 | .inr _ => none
def NO [Lk] := fun v => Lk.f (O3 v)
theorem ADd v : NO v = O3 v := AK _
abbrev Kr : AE := [(.tmp 0, .dat U4), (.tmp 1, .di)]
abbrev Kq : AE := [(.tmp 0, .dat .bool)]
abbrev Kp : List RS := [.one]
def Hz [Lk] : Um → Option (Ug) := fun (a0, a1, _) =>
 match NO (a0, a1, ()) with
 | none => none
 | some (y0, _) => some ((ile 0 y0), ())
def FL [Lk] := fun v => Lk.f (Hz v)
theorem PQ v : FL v = Hz v := AK _
abbrev APM : AE := [(.tmp 0, .dat U4)]
abbrev APL : AE := [(.tmp 0, .di)]
abbrev APK : List RS := [.one]
abbrev ASB : AE := [(.tmp 0, .dat U4), (.tmp 3, .di), (.tmp 4, .di)]
abbrev ASA : At := [(.exit 0, [(.tmp 3, .di)])]
def JI [Lk] : Ud → Option (Ud ⊕ U8 ⊕ Unit) := fun (a0, a1, a2, _) =>
 match (ilt a2 (AN a0)) with
 | true => match idx a0 a2 with
  | none => none
  | some x0 => some (.inl (a0, (Ci a1 x0), (IntKind.wrap .i64 (a2 + 1)), ()))
 | false => some (.inr (.inl (a1, ())))
def AGH [Lk] : Ua → Option (U8) := fun (a0, _) =>
 match (ilt (AN a0) 1) with
 | true => none
 | false => match idx a0 0 with
 | none => none
 | some x0 => match AX JI many (a0, x0, 1, ()) with
 | none => none
 | some r => match r with
 | .inl (o1, _) => some (o1, ())
 | .inr _ => none
def AUc [Lk] := fun v => Lk.f (AGH v)
theorem ASC v : AUc v = AGH v := AK _
abbrev AHC : AE := [(.tmp 0, .nil U0), (.tmp 1, .di)]
abbrev AHB : AE := [(.tmp 0, .own 3 U0)]
abbrev AHA : List RS := [.one]
def V8 [Lk] : U8 → Option (Ua) := fun (a0, _) =>
 match (ilt a0 0) with
 | true => none
 | false => match (ilt 0 (IntKind.wrap .i64 (a0 - (IntKind.wrap .i64 (0 - 0))))) with
 | true => match Df ([] : List Unit) 0 0 with
  | none => none
  | some _u0 => match (GM (IntKind.wrap .i64 (a0 - (IntKind.wrap .i64 (0 - 0))))) with
  | true => match Df (Im (AG (IntKind.wrap .i64 (a0 - (IntKind.wrap .i64 ((0 : Int) - (0 : Int)))))) (0 : Int)) (0 : Int) (0 : Int) with
   | none => none
   | some x1 => some ((DB (AG (AN x1)) (Im (AG (IntKind.wrap .i64 (a0 - (IntKind.wrap .i64 ((0 : Int) - (0 : Int)))))) (0 : Int))), ())
  | false => none
 | false => some (([] : List (Int)), ())
def ALr [Lk] := fun v => Lk.f (V8 v)
theorem ALq v : ALr v = V8 v := AK _
abbrev Sd : AE := [(.tmp 0, .dat Uk)]
abbrev Sc : AE := [(.tmp 0, .own 3 U0)]
abbrev Sb : List RS := [.one]
abbrev AAK : AE := [(.tmp 6, .own 3 U0), (.tmp 25, .dat Uk), (.tmp 26, .di), (.tmp 27, .di)]
abbrev AAI : At := [(.exit 2, [(.tmp 6, .own 3 U0)])]
def D3 [Lk] : (List Int × List U3 × Int × Int × Unit) → Option ((List Int × List U3 × Int × Int × Unit) ⊕ Ua ⊕ Unit) := fun (a0, a1, a2, a3, _) =>
 match (ilt a3 a2) with
 | true => match idx a1 a3 with
  | none => none
  | some x0 => match (fits ((AN a0) + (AN x0))) with
  | true => some (.inl ((A8 a0 x0), a1, a2, (IntKind.wrap .i64 (a3 + 1)), ()))
  | false => none
 | false => some (.inr (.inl (a0, ())))
abbrev AAL : AE := [(.tmp 0, .dat Uk), (.tmp 3, .di), (.tmp 9, .dat Uk), (.tmp 10, .di), (.tmp 11, .di)]
abbrev AAJ : At := [(.exit 0, [(.tmp 0, .dat Uk), (.tmp 3, .di)])]
def D4 [Lk] : (List U3 × Int × List U3 × Int × Int × Unit) → Option ((List U3 × Int × List U3 × Int × Int × Unit) ⊕ Uz ⊕ Unit) := fun (a0, a1, a2, a3, a4, _) =>
 match (ilt a4 a3) with
 | true => match idx a2 a4 with
  | none => none
  | some x0 => match (ilt (IntKind.wrap .i64 (a1 + (AN x0))) 0) with
  | true => none
  | false => some (.inl (a0, (IntKind.wrap .i64 (a1 + (AN x0))), a2, a3, (IntKind.wrap .i64 (a4 + 1)), ()))
 | false => some (.inr (.inl (a0, a1, ())))
def L5 [Lk] : Ul → Option (Ua) := fun (a0, _) =>
 match AX D4 many (a0, 0, a0, (AN a0), 0, ()) with
 | none => none
 | some r => match r with
 | .inl (o0, o1, _) => match ALr (o1, ()) with
  | none => none
  | some (y2, _) => match AX D3 many (y2, o0, (AN o0), 0, ()) with
  | none => none
  | some r => match r with
  | .inl (o3, _) => some (o3, ())
  | .inr _ => none
 | .inr _ => none
def H0 [Lk] := fun v => Lk.f (L5 v)
theorem AAM v : H0 v = L5 v := AK _
abbrev HF : AE := [(.tmp 0, .dat U4), (.tmp 1, .clo 195 [])]
abbrev HE : AE := [(.tmp 0, .di)]
abbrev HD : List RS := [.one]
abbrev Jw : AE := [(.tmp 0, .dat U4), (.tmp 1, .clo 195 []), (.tmp 7, .di), (.tmp 8, .di)]
abbrev Jv : At := [(.ret, [(.tmp 4, .di)]), (.exit 0, [])]
def Br [Lk] : Ud → Option (Ud ⊕ U8 ⊕ (Unit) ⊕ Unit) := fun (a0, a1, a2, _) =>
 match (ilt a2 a1) with
 | true => match idx a0 a2 with
  | none => none
  | some x0 => match (ilt x0 0) with
  | true => some (.inr (.inl (a2, ())))
  | false => match (ilt 10000 x0) with
  | true => some (.inr (.inl (a2, ())))
  | false => some (.inl (a0, a1, (IntKind.wrap .i64 (a2 + 1)), ()))
 | false => some (.inr (.inr (.inl ())))
def Ef [Lk] : Ua → Option (U8) := fun (a0, _) =>
 match AX Br many (a0, (AN a0), 0, ()) with
 | none => none
 | some r => match r with
 | .inl (o0, _) => some (o0, ())
 | .inr r => match r with
 | .inl _ => some ((-1 : Int), ())
 | .inr _ => none
def GV [Lk] := fun v => Lk.f (Ef v)
theorem Jx v : GV v = Ef v := AK _
abbrev GJ : AE := [(.tmp 0, .dat U4), (.tmp 1, .clo 195 [])]
abbrev GH : AE := [(.tmp 0, .dat .bool)]
abbrev GG : List RS := [.one]
def Dn [Lk] : Ua → Option (Ug) := fun (a0, _) =>
 match GV (a0, ()) with
 | none => none
 | some (y0, _) => some ((ile 0 y0), ())
def Di [Lk] := fun v => Lk.f (Dn v)
theorem Iq v : Di v = Dn v := AK _
abbrev AO2 : AE := [(.tmp 0, .dat U4)]
abbrev AO1 : AE := [(.tmp 0, .dat .bool)]
abbrev AO0 : List RS := [.one]
abbrev AR2 : AE := [(.tmp 0, .dat U4), (.tmp 3, .map U0 U0), (.tmp 7, .dat U4), (.tmp 8, .di), (.tmp 9, .di)]
abbrev AR1 : At := [(.exit 0, [(.tmp 0, .dat U4), (.tmp 3, .map U0 U0)])]
def JE [Lk] : (List Int × List Ut × List Int × Int × Int × Unit) → Option ((List Int × List Ut × List Int × Int × Int × Unit) ⊕ (List Int × List Ut × Unit) ⊕ Unit) := fun (a0, a1, a2, a3, a4, _) =>
 match (ilt a4 a3) with
 | true => match idx a2 a4 with
  | none => none
  | some x0 => some (.inl (a0, (Ag a1 x0 (IntKind.wrap .i64 (((AR a1 x0).getD 0) + 1))), a2, a3, (IntKind.wrap .i64 (a4 + 1)), ()))
 | false => some (.inr (.inl (a0, a1, ())))
def AF9 [Lk] : Ua → Option (Ug) := fun (a0, _) =>
 match AX JE many (a0, ([] : List Ut), a0, (AN a0), 0, ()) with
 | none => none
 | some r => match r with
 | .inl (o0, o1, _) => some ((ieq (AN o1) (AN o0)), ())
 | .inr _ => none
def once [Lk] := fun v => Lk.f (AF9 v)
theorem AR3 v : once v = AF9 v := AK _
abbrev XI : AE := [(.tmp 0, .dat U4)]
abbrev XH : AE := [(.tmp 0, .dat .bool)]
abbrev XG : List RS := [.one]
def OM [Lk] : Ua → Option (Ug) := fun (a0, _) =>
 match (ilt 1000 (AN a0)) with
 | true => some (false, ())
 | false => match Di (a0, ()) with
 | none => none
 | some (y0, _) => match (!y0) with
 | true => match once (a0, ()) with
  | none => none
  | some (y1, _) => some (y1, ())
 | false => some (false, ())
def Mv [Lk] := fun v => Lk.f (OM v)
theorem ACx v : Mv v = OM v := AK _
abbrev WT : AE := [(.tmp 0, .dat U4), (.tmp 1, .di)]
abbrev WS : AE := [(.tmp 0, .own 3 U0)]
abbrev WR : List RS := [.one]
def N9 [Lk] : Um → Option (Ua) := fun (a0, a1, _) =>
 match Df a0 a1 (AN a0) with
 | none => none
 | some x0 => match Df a0 0 a1 with
 | none => none
 | some x1 => match H0 (([x0, x1] : List U3), ()) with
 | none => none
 | some (y2, _) => some (y2, ())
def QT [Lk] := fun v => Lk.f (N9 v)
theorem ACP v : QT v = N9 v := AK _
abbrev Xq : AE := [(.tmp 0, .dat U4), (.tmp 1, .dat U4)]
abbrev Xp : AE := [(.tmp 0, .own 3 U0), (.tmp 1, .dat .bool)]
abbrev Xo : List RS := [.one, .one]
abbrev AC9 : AE := [(.tmp 0, .dat U4), (.tmp 6, .own 3 U0), (.tmp 12, .dat U4), (.tmp 13, .di), (.tmp 14, .di)]
abbrev AC8 : At := [(.exit 0, [(.tmp 6, .own 3 U0)])]
def EF [Lk] : (List Int × List Int × List Int × Int × Int × Unit) → Option ((List Int × List Int × List Int × Int × Int × Unit) ⊕ Ua ⊕ Unit) := fun (a0, a1, a2, a3, a4, _) =>
 match (ilt a4 a3) with
 | true => match idx a2 a4 with
  | none => none
  | some x0 => match NO (a0, x0, ()) with
  | none => none
  | some (y1, _) => match (fits ((AN a1) + (AN ([y1] : List (Int))))) with
  | true => some (.inl (a0, (A8 a1 ([y1] : List (Int))), a2, a3, (IntKind.wrap .i64 (a4 + 1)), ()))
  | false => none
 | false => some (.inr (.inl (a1, ())))
def OS [Lk] : Uw → Option (V0) := fun (a0, a1, _) =>
 match Mv (a0, ()) with
 | none => none
 | some (y0, _) => match (!y0) with
 | true => some (([] : List (Int)), false, ())
 | false => match AX EF many (a0, ([] : List (Int)), a1, (AN a1), 0, ()) with
 | none => none
 | some r => match r with
 | .inl (o1, _) => match FL (o1, (-1 : Int), ()) with
  | none => none
  | some (y2, _) => some (o1, (!y2), ())
 | .inr _ => none
def AFd [Lk] := fun v => Lk.f (OS v)
theorem ADA v : AFd v = OS v := AK _
abbrev AFN : AE := [(.tmp 0, .dat U4), (.tmp 1, .di)]
abbrev AFM : AE := [(.tmp 0, .own 3 U0), (.tmp 1, .dat .bool)]
abbrev AFL : List RS := [.one, .one]
def Vl [Lk] : Um → Option (V0) := fun (a0, a1, _) =>
 match AFd (a0, ([a1] : List (Int)), ()) with
 | none => none
 | some (y0, y1, _) => match (!y1) with
 | true => some (([] : List (Int)), false, ())
 | false => match idx y0 0 with
 | none => none
 | some x2 => match QT (a0, (AT y0 0 0), ()) with
 | none => none
 | some (y3, _) => some (y3, true, ())
def AC0 [Lk] := fun v => Lk.f (Vl v)
theorem AJW v : AC0 v = Vl v := AK _
abbrev XL : AE := [(.tmp 0, .dat U4)]
abbrev XK : AE := [(.tmp 0, .own 3 U0)]
abbrev XJ : List RS := [.one]
def ON [Lk] : Ua → Option (Ua) := fun (a0, _) =>
 match Mv (a0, ()) with
 | none => none
 | some (y0, _) => match (!y0) with
 | true => some (([] : List (Int)), ())
 | false => match (ieq (AN a0) 0) with
 | true => some (([] : List (Int)), ())
 | false => match AUc (a0, ()) with
 | none => none
 | some (y1, _) => match NO (a0, y1, ()) with
 | none => none
 | some (y2, _) => match QT (a0, y2, ()) with
 | none => none
 | some (y3, _) => some (y3, ())
def XM [Lk] := fun v => Lk.f (ON v)
theorem ACy v : XM v = ON v := AK _
abbrev FA : AE := [(.tmp 0, .dat Uk), (.cap 1 0, .box 1), (.cell 0 0, .di), (.tmp 1, .clo 180 [(0, 0)])]
abbrev E9 : AE := [(.obj 0, .box 1), (.cell 0 0, .di), (.tmp 0, .di)]
abbrev E8 : List RS := [.one]
abbrev Ho : AE := [(.obj 0, .box 1), (.cell 0 0, .di), (.tmp 0, .dat Uk), (.tmp 1, .clo 180 [(0, 0)]), (.tmp 7, .di), (.tmp 8, .di)]
abbrev Hn : At := [(.ret, [(.obj 0, .box 1), (.cell 0 0, .di), (.tmp 4, .di)]), (.exit 0, [(.obj 0, .box 1), (.cell 0 0, .di)])]
def BX [Lk] : (Int × List U3 × Int × Int × Unit) → Option ((Int × List U3 × Int × Int × Unit) ⊕ U5 ⊕ U8 ⊕ Unit) := fun (a0, a1, a2, a3, _) =>
 match (ilt a3 a2) with
 | true => match idx a1 a3 with
  | none => none
  | some x0 => match FL (x0, a0, ()) with
  | none => none
  | some (y1, _) => match y1 with
  | true => some (.inr (.inl (a0, a3, ())))
  | false => some (.inl (a0, a1, a2, (IntKind.wrap .i64 (a3 + 1)), ()))
 | false => some (.inr (.inr (.inl (a0, ()))))
def DO [Lk] : Uz → Option (U5) := fun (a0, a1, _) =>
 match AX BX many (a1, a0, (AN a0), 0, ()) with
 | none => none
 | some r => match r with
 | .inl (o0, o1, _) => some (o0, o1, ())
 | .inr r => match r with
 | .inl (o2, _) => some (o2, (-1 : Int), ())
 | .inr _ => none
def Ed [Lk] := fun v => Lk.f (DO v)
theorem Hp v : Ed v = DO v := AK _
abbrev Wr : AE := [(.tmp 0, .dat Ub), (.tmp 1, .di)]
abbrev Wq : AE := [(.tmp 0, .di)]
abbrev Wp : List RS := [.one]
def OF [Lk] : V6 → Option (U8) := fun (a0, a1, _) =>
 match Ed (a0.2.1, a1, ()) with
 | none => none
 | some (y0, y1, _) => some (y1, ())
def Qa [Lk] := fun v => Lk.f (OF v)
theorem ACg v : Qa v = OF v := AK _
abbrev AQP : AE := [(.tmp 0, .di), (.tmp 1, .dat U4)]
abbrev AQO : AE := [(.tmp 0, .dat .bool)]
abbrev AQN : List RS := [.one]
abbrev ASY : AE := [(.tmp 0, .di), (.tmp 5, .box 3), (.cell 0 0, .own 3 U0), (.cell 0 1, .map U0 U0), (.cell 0 2, .map U0 U0), (.tmp 30, .dat U4), (.tmp 31, .di), (.tmp 32, .di)]
abbrev ASX : At := [(.ret, [(.tmp 4, .dat .bool)]), (.exit 0, [(.tmp 5, .box 3), (.cell 0 0, .own 3 U0), (.cell 0 1, .map U0 U0), (.cell 0 2, .map U0 U0)])]
def Ht [Lk] : (Int × List Int × List Ut × List Ut × List Int × Int × Int × Unit) → Option ((Int × List Int × List Ut × List Ut × List Int × Int × Int × Unit) ⊕ Ug ⊕ (List Int × List Ut × List Ut × Unit) ⊕ Unit) := fun (a0, a1, a2, a3, a4, a5, a6, _) =>
 match (ilt a6 a5) with
 | true => match idx a4 a6 with
  | none => none
  | some x0 => match WX (a0, x0, ()) with
  | none => none
  | some (y1, y2, y3, y4, _) => match (!y4) with
  | true => some (.inr (.inl (false, ())))
  | false => match y3 with
  | true => match idx a1 (IntKind.wrap .i64 ((AN a1) - 1)) with
   | none => none
   | some x5 => match (!(ieq (AT a1 (AG (IntKind.wrap .i64 ((AN a1) - 1))) 0) y1)) with
   | true => some (.inr (.inl (false, ())))
   | false => match (ilt 0 (IntKind.wrap .i64 ((AN a1) - 1))) with
   | true => match idx a1 (IntKind.wrap .i64 ((IntKind.wrap .i64 ((AN a1) - 1)) - 1)) with
    | none => none
    | some x6 => match (ieq (AT a1 (AG (IntKind.wrap .i64 ((IntKind.wrap .i64 ((AN a1) - 1)) - 1))) 0) y2) with
    | true => match Df a1 0 (IntKind.wrap .i64 ((AN a1) - 1)) with
     | none => none
     | some x7 => match (!y3) with
     | true => match idx (DQ 0 (AG (AN x7)) a1) (IntKind.wrap .i64 ((((AG (AN x7)) : Nat) : Int) - 1)) with
      | none => none
      | some x8 => match (!(ieq (AT a1 (0 + (AG (IntKind.wrap .i64 ((((AG (AN x7)) : Nat) : Int) - 1)))) 0) y1)) with
      | true => some (.inr (.inl (false, ())))
      | false => match (!y3) with
      | true => some (.inl (a0, (DB (AG (AN x7)) a1), a2, (Ag a3 y1 (IntKind.wrap .i64 (((AR a3 y1).getD 0) + 1))), a4, a5, (IntKind.wrap .i64 (a6 + 1)), ()))
      | false => some (.inl (a0, (DB (AG (AN x7)) a1), a2, a3, a4, a5, (IntKind.wrap .i64 (a6 + 1)), ()))
     | false => match (!y3) with
     | true => some (.inl (a0, (DB (AG (AN x7)) a1), a2, (Ag a3 y1 (IntKind.wrap .i64 (((AR a3 y1).getD 0) + 1))), a4, a5, (IntKind.wrap .i64 (a6 + 1)), ()))
     | false => some (.inl (a0, (DB (AG (AN x7)) a1), a2, a3, a4, a5, (IntKind.wrap .i64 (a6 + 1)), ()))
    | false => match (ilt 0 ((AR a2 y2).getD 0)) with
    | true => some (.inr (.inl (false, ())))
    | false => match (fits ((AN a1) + (AN ([y2] : List (Int))))) with
    | true => match (!y3) with
     | true => match idx (A8 a1 ([y2] : List (Int))) (IntKind.wrap .i64 ((AN (A8 a1 ([y2] : List (Int)))) - 1)) with
      | none => none
      | some x9 => match (!(ieq (AT (A8 a1 ([y2] : List (Int))) (AG (IntKind.wrap .i64 ((AN (A8 a1 ([y2] : List (Int)))) - 1))) 0) y1)) with
      | true => some (.inr (.inl (false, ())))
      | false => match (!y3) with
      | true => some (.inl (a0, (A8 a1 ([y2] : List (Int))), (Ag a2 y2 (IntKind.wrap .i64 (((AR a2 y2).getD 0) + 1))), (Ag a3 y1 (IntKind.wrap .i64 (((AR a3 y1).getD 0) + 1))), a4, a5, (IntKind.wrap .i64 (a6 + 1)), ()))
      | false => some (.inl (a0, (A8 a1 ([y2] : List (Int))), (Ag a2 y2 (IntKind.wrap .i64 (((AR a2 y2).getD 0) + 1))), a3, a4, a5, (IntKind.wrap .i64 (a6 + 1)), ()))
     | false => match (!y3) with
     | true => some (.inl (a0, (A8 a1 ([y2] : List (Int))), (Ag a2 y2 (IntKind.wrap .i64 (((AR a2 y2).getD 0) + 1))), (Ag a3 y1 (IntKind.wrap .i64 (((AR a3 y1).getD 0) + 1))), a4, a5, (IntKind.wrap .i64 (a6 + 1)), ()))
     | false => some (.inl (a0, (A8 a1 ([y2] : List (Int))), (Ag a2 y2 (IntKind.wrap .i64 (((AR a2 y2).getD 0) + 1))), a3, a4, a5, (IntKind.wrap .i64 (a6 + 1)), ()))
    | false => none
   | false => match (ilt 0 ((AR a2 y2).getD 0)) with
   | true => some (.inr (.inl (false, ())))
   | false => match (fits ((AN a1) + (AN ([y2] : List (Int))))) with
   | true => match (!y3) with
    | true => match idx (A8 a1 ([y2] : List (Int))) (IntKind.wrap .i64 ((AN (A8 a1 ([y2] : List (Int)))) - 1)) with
     | none => none
     | some x10 => match (!(ieq (AT (A8 a1 ([y2] : List (Int))) (AG (IntKind.wrap .i64 ((AN (A8 a1 ([y2] : List (Int)))) - 1))) 0) y1)) with
     | true => some (.inr (.inl (false, ())))
     | false => match (!y3) with
     | true => some (.inl (a0, (A8 a1 ([y2] : List (Int))), (Ag a2 y2 (IntKind.wrap .i64 (((AR a2 y2).getD 0) + 1))), (Ag a3 y1 (IntKind.wrap .i64 (((AR a3 y1).getD 0) + 1))), a4, a5, (IntKind.wrap .i64 (a6 + 1)), ()))
     | false => some (.inl (a0, (A8 a1 ([y2] : List (Int))), (Ag a2 y2 (IntKind.wrap .i64 (((AR a2 y2).getD 0) + 1))), a3, a4, a5, (IntKind.wrap .i64 (a6 + 1)), ()))
    | false => match (!y3) with
    | true => some (.inl (a0, (A8 a1 ([y2] : List (Int))), (Ag a2 y2 (IntKind.wrap .i64 (((AR a2 y2).getD 0) + 1))), (Ag a3 y1 (IntKind.wrap .i64 (((AR a3 y1).getD 0) + 1))), a4, a5, (IntKind.wrap .i64 (a6 + 1)), ()))
    | false => some (.inl (a0, (A8 a1 ([y2] : List (Int))), (Ag a2 y2 (IntKind.wrap .i64 (((AR a2 y2).getD 0) + 1))), a3, a4, a5, (IntKind.wrap .i64 (a6 + 1)), ()))
   | false => none
  | false => match (!y3) with
  | true => match idx a1 (IntKind.wrap .i64 ((AN a1) - 1)) with
   | none => none
   | some x11 => match (!(ieq (AT a1 (AG (IntKind.wrap .i64 ((AN a1) - 1))) 0) y1)) with
   | true => some (.inr (.inl (false, ())))
   | false => match (!y3) with
   | true => some (.inl (a0, a1, a2, (Ag a3 y1 (IntKind.wrap .i64 (((AR a3 y1).getD 0) + 1))), a4, a5, (IntKind.wrap .i64 (a6 + 1)), ()))
   | false => some (.inl (a0, a1, a2, a3, a4, a5, (IntKind.wrap .i64 (a6 + 1)), ()))
  | false => match (!y3) with
  | true => some (.inl (a0, a1, a2, (Ag a3 y1 (IntKind.wrap .i64 (((AR a3 y1).getD 0) + 1))), a4, a5, (IntKind.wrap .i64 (a6 + 1)), ()))
  | false => some (.inl (a0, a1, a2, a3, a4, a5, (IntKind.wrap .i64 (a6 + 1)), ()))
 | false => some (.inr (.inr (.inl (a1, a2, a3, ()))))
def AHE [Lk] : V2 → Option (Ug) := fun (a0, a1, _) =>
 match idx a1 0 with
 | none => none
 | some x0 => match tin (a0, x0, ()) with
 | none => none
 | some (y1, _) => match (!y1) with
 | true => some (false, ())
 | false => match idx a1 0 with
 | none => none
 | some x2 => match idx a1 0 with
 | none => none
 | some x3 => match AX Ht many (a0, ([x2] : List (Int)), (Ag ([] : List Ut) x3 1), ([] : List Ut), a1, (AN a1), 0, ()) with
 | none => none
 | some r => match r with
 | .inl (o4, _) => some (o4, ())
 | .inr r => match r with
 | .inl (o5, o6, o7, _) => match (ieq (AN o5) 1) with
  | true => some ((ieq (AN o7) (AN o6)), ())
  | false => some (false, ())
 | .inr _ => none
def AZB [Lk] := fun v => Lk.f (AHE v)
theorem ASZ v : AZB v = AHE v := AK _
abbrev Wh : AE := [(.tmp 0, .dat Ub)]
abbrev Wg : AE := [(.tmp 0, .dat .bool)]
abbrev Wf : List RS := [.one]
abbrev ACV : AE := [(.tmp 3, .map U0 U0), (.tmp 78, .di), (.tmp 79, .di)]
abbrev ACS : At := [(.ret, [(.tmp 2, .dat .bool)]), (.exit 4, [])]
def EB [Lk] : (List Ut × Int × Int × Unit) → Option ((List Ut × Int × Int × Unit) ⊕ Ug ⊕ (Unit) ⊕ Unit) := fun (a0, a1, a2, _) =>
 match (ilt a2 a1) with
 | true => match (ieq ((AR a0 a2).getD 0) 0) with
  | true => some (.inr (.inl (false, ())))
  | false => some (.inl (a0, a1, (IntKind.wrap .i64 (a2 + 1)), ()))
 | false => some (.inr (.inr (.inl ())))
abbrev ACW : AE := [(.tmp 1, .box 2), (.cell 0 0, .di), (.cell 0 1, .dat Uk), (.tmp 3, .map U0 U0), (.tmp 4, .di), (.tmp 16, .dat Uk), (.tmp 17, .di), (.tmp 18, .di), (.tmp 26, .dat U4), (.tmp 28, .di), (.tmp 29, .di), (.tmp 30, .dat .bool), (.tmp 33, .dat U4), (.tmp 34, .dat .bool), (.tmp 35, .dat .bool), (.tmp 38, .dat U4), (.tmp 39, .di), (.tmp 40, .dat U4), (.tmp 42, .di), (.tmp 43, .dat .bool), (.tmp 46, .ptr' 0 0), (.tmp 47, .di), (.tmp 48, .dat U4), (.tmp 49, .dat .bool), (.tmp 50, .dat .bool), (.tmp 55, .dat U4), (.tmp 56, .di), (.tmp 57, .di)]
abbrev ACT : At := [(.ret, [(.tmp 2, .dat .bool)]), (.exit 2, [(.tmp 1, .box 2), (.cell 0 0, .di), (.cell 0 1, .dat Uk), (.tmp 3, .map U0 U0), (.tmp 4, .di), (.tmp 16, .dat Uk), (.tmp 17, .di), (.tmp 18, .di), (.tmp 26, .dat U4), (.tmp 28, .di), (.tmp 29, .di), (.tmp 30, .dat .bool), (.tmp 33, .dat U4), (.tmp 34, .dat .bool), (.tmp 35, .dat .bool), (.tmp 38, .dat U4), (.tmp 39, .di), (.tmp 40, .dat U4), (.tmp 42, .di), (.tmp 43, .dat .bool), (.tmp 46, .ptr' 0 0), (.tmp 47, .di), (.tmp 48, .dat U4), (.tmp 49, .dat .bool), (.tmp 50, .dat .bool)])]
def DE [Lk] : Uq → Option (Uq ⊕ Ug ⊕ (Int × List U3 × List Ut × Int × List U3 × Int × Int × List Int × Int × Int × Bool × List Int × Bool × Bool × List Int × Int × List Int × Int × Bool × Int × List Int × Bool × Bool × Unit) ⊕ Unit) := fun (a0, a1, a2, a3, a4, a5, a6, a7, a8, a9, a10, a11, a12, a13, a14, a15, a16, a17, a18, a19, a20, a21, a22, a23, a24, a25, _) =>
 match (ilt a25 a24) with
 | true => match idx a23 a25 with
  | none => none
  | some x0 => match (ilt x0 a0) with
  | true => match (ilt 0 ((AR a2 x0).getD 0)) with
   | true => some (.inr (.inl (false, ())))
   | false => some (.inl (a0, a1, (Ag a2 x0 (IntKind.wrap .i64 (((AR a2 x0).getD 0) + 1))), a3, a4, a5, a6, a7, a8, a9, a10, a11, a12, a13, a14, a15, a16, a17, a18, a19, a20, a21, a22, a23, a24, (IntKind.wrap .i64 (a25 + 1)), ()))
  | false => some (.inl (a0, a1, (Ag a2 x0 (IntKind.wrap .i64 (((AR a2 x0).getD 0) + 1))), a3, a4, a5, a6, a7, a8, a9, a10, a11, a12, a13, a14, a15, a16, a17, a18, a19, a20, a21, a22, a23, a24, (IntKind.wrap .i64 (a25 + 1)), ()))
 | false => some (.inr (.inr (.inl (a0, a1, a2, a3, a4, a5, a6, a7, a8, a9, a10, a11, a12, a13, a14, a15, a16, a17, a18, a19, a20, a21, a22, ()))))
abbrev ACX : AE := [(.tmp 1, .box 2), (.cell 0 0, .di), (.cell 0 1, .dat Uk), (.tmp 3, .map U0 U0), (.tmp 4, .di), (.tmp 16, .dat Uk), (.tmp 17, .di), (.tmp 18, .di)]
abbrev ACU : At := [(.ret, [(.tmp 2, .dat .bool)]), (.exit 0, [(.tmp 1, .box 2), (.cell 0 0, .di), (.cell 0 1, .dat Uk), (.tmp 3, .map U0 U0)])]
def DF [Lk] : (Int × List U3 × List Ut × Int × List U3 × Int × Int × Unit) → Option ((Int × List U3 × List Ut × Int × List U3 × Int × Int × Unit) ⊕ Ug ⊕ (Int × List U3 × List Ut × Unit) ⊕ Unit) := fun (a0, a1, a2, a3, a4, a5, a6, _) =>
 match (ilt a6 a5) with
 | true => match idx a4 a6 with
  | none => none
  | some x0 => match (ieq (AN x0) 0) with
  | true => some (.inr (.inl (false, ())))
  | false => match idx x0 0 with
  | none => none
  | some x1 => match (ile x1 a3) with
  | true => some (.inr (.inl (false, ())))
  | false => match Mv (x0, ()) with
  | none => none
  | some (y2, _) => match (!y2) with
  | true => some (.inr (.inl (false, ())))
  | false => match AUc (x0, ()) with
  | none => none
  | some (y3, _) => match idx x0 0 with
  | none => none
  | some x4 => match (!(ieq y3 x4)) with
  | true => some (.inr (.inl (false, ())))
  | false => match AZB (a0, x0, ()) with
  | none => none
  | some (y5, _) => match (!y5) with
  | true => some (.inr (.inl (false, ())))
  | false => match idx x0 0 with
  | none => none
  | some x6 => match AX DE many (a0, a1, a2, x6, a4, a5, a6, x0, x1, a3, (ile x1 a3), x0, y2, (!y2), x0, y3, x0, x4, (!(ieq y3 x4)), a0, x0, y5, (!y5), x0, (AN x0), 0, ()) with
  | none => none
  | some r => match r with
  | .inl (o7, _) => some (.inr (.inl (o7, ())))
  | .inr r => match r with
  | .inl (o8, o9, o10, o11, o12, o13, o14, o15, o16, o17, o18, o19, o20, o21, o22, o23, o24, o25, o26, o27, o28, o29, o30, _) => some (.inl (o8, o9, o10, o11, o12, o13, (IntKind.wrap .i64 (o14 + 1)), ()))
  | .inr _ => none
 | false => some (.inr (.inr (.inl (a0, a1, a2, ()))))
def OC [Lk] : (Uh × Unit) → Option (Ug) := fun (a0, _) =>
 match J6 (a0.1, ()) with
 | none => none
 | some (y0, _) => match (!y0) with
 | true => some (false, ())
 | false => match AX DF many (a0.1, a0.2.1, ([] : List Ut), (-1 : Int), a0.2.1, (AN a0.2.1), 0, ()) with
 | none => none
 | some r => match r with
 | .inl (o1, _) => some (o1, ())
 | .inr r => match r with
 | .inl (o2, o3, o4, _) => match AX EB many (o4, o2, 0, ()) with
  | none => none
  | some r => match r with
  | .inl (o5, _) => some (o5, ())
  | .inr r => match r with
  | .inl _ => some (true, ())
  | .inr _ => none
 | .inr _ => none
def QV [Lk] := fun v => Lk.f (OC v)
theorem ACY v : QV v = OC v := AK _
abbrev AHv : AE := [(.tmp 0, .dat Ub), (.tmp 1, .di), (.tmp 2, .di)]
abbrev AHu : AE := [(.tmp 0, .di)]
abbrev AHt : List RS := [.one]
def WC [Lk] : (Uh × Int × Int × Unit) → Option (U8) := fun (a0, a1, a2, _) =>
 match QV ((a0.1, (a0.2.1, ())), ()) with
 | none => none
 | some (y0, _) => match (!y0) with
 | true => some (1, ())
 | false => match tin (a0.1, a1, ()) with
 | none => none
 | some (y1, _) => match (!y1) with
 | true => some (10, ())
 | false => match tin (a0.1, a2, ()) with
 | none => none
 | some (y2, _) => match (!y2) with
 | true => some (10, ())
 | false => some (0, ())
def asked [Lk] := fun v => Lk.f (WC v)
theorem AMg v : asked v = WC v := AK _
abbrev APG : AE := [(.tmp 0, .di)]
abbrev APF : AE := [(.tmp 0, .dat .bool)]
abbrev APE : List RS := [.one]
def RZ [Lk] : U8 → Option (Ug) := fun (a0, _) =>
 some ((!(ieq a0 a0)), ())
def APH [Lk] := fun v => Lk.f (RZ v)
theorem Vt v : APH v = RZ v := AK _
abbrev Np : AE := [(.tmp 0, .di), (.tmp 1, .di)]
abbrev No : AE := [(.tmp 0, .di)]
abbrev Nn : List RS := [.one]
def HR [Lk] : U5 → Option (U8) := fun (a0, a1, _) =>
 match APH (a0, ()) with
 | none => none
 | some (y0, _) => match APH (a1, ()) with
 | none => none
 | some (y1, _) => match y0 with
 | true => match y1 with
  | true => some (0, ())
  | false => some ((-1 : Int), ())
 | false => match y1 with
 | true => some (1, ())
 | false => match (ilt a0 a1) with
 | true => some ((-1 : Int), ())
 | false => match (ilt a1 a0) with
 | true => some (1, ())
 | false => some (0, ())
def HS [Lk] := fun v => Lk.f (HR v)
theorem Ku v : HS v = HR v := AK _
abbrev AEM : AE := [(.tmp 0, .dat U4), (.tmp 1, .dat U4)]
abbrev AEL : AE := [(.tmp 0, .di)]
abbrev AEK : List RS := [.one]
def VZ [Lk] : Uw → Option (U8) := fun (a0, a1, _) =>
 match idx a0 0 with
 | none => none
 | some x0 => match idx a1 0 with
 | none => none
 | some x1 => match HS (x0, x1, ()) with
 | none => none
 | some (y2, _) => some (y2, ())
def A9 [Lk] := fun v => Lk.f (VZ v)
theorem AIS v : A9 v = VZ v := AK _
def GC : List Int := [0, 1, 2, 2, 3, 3, 3, 3, 4, 4, 4, 4, 4, 4, 4, 4, 5, 5, 5, 5, 5, 5, 5, 5, 5, 5, 5, 5, 5, 5, 5, 5, 6, 6, 6, 6, 6, 6, 6, 6, 6, 6, 6, 6, 6, 6, 6, 6, 6, 6, 6, 6, 6, 6, 6, 6, 6, 6, 6, 6, 6, 6, 6, 6, 7, 7, 7, 7, 7, 7, 7, 7, 7, 7, 7, 7, 7, 7, 7, 7, 7, 7, 7, 7, 7, 7, 7, 7, 7, 7, 7, 7, 7, 7, 7, 7, 7, 7, 7, 7, 7, 7, 7, 7, 7, 7, 7, 7, 7, 7, 7, 7, 7, 7, 7, 7, 7, 7, 7, 7, 7, 7, 7, 7, 7, 7, 7, 7, 8, 8, 8, 8, 8, 8, 8, 8, 8, 8, 8, 8, 8, 8, 8, 8, 8, 8, 8, 8, 8, 8, 8, 8, 8, 8, 8, 8, 8, 8, 8, 8, 8, 8, 8, 8, 8, 8, 8, 8, 8, 8, 8, 8, 8, 8, 8, 8, 8, 8, 8, 8, 8, 8, 8, 8, 8, 8, 8, 8, 8, 8, 8, 8, 8, 8, 8, 8, 8, 8, 8, 8, 8, 8, 8, 8, 8, 8, 8, 8, 8, 8, 8, 8, 8, 8, 8, 8, 8, 8, 8, 8, 8, 8, 8, 8, 8, 8, 8, 8, 8, 8, 8, 8, 8, 8, 8, 8, 8, 8, 8, 8, 8, 8, 8, 8, 8, 8, 8, 8, 8, 8, 8, 8, 8, 8, 8, 8]
abbrev AGn : AE := [(.tmp 0, .dat (.int .u64))]
abbrev AGm : AE := [(.tmp 0, .di)]
abbrev AGl : List RS := [.one]
def Vx [Lk] : U8 → Option (U8) := fun (a0, _) =>
 match (ile 4294967296 a0) with
 | true => match shr? .u64 a0 32 with
  | none => none
  | some x0 => match (ile 65536 x0) with
  | true => match shr? .u64 x0 16 with
   | none => none
   | some x1 => match (ile 256 x1) with
   | true => match shr? .u64 x1 8 with
    | none => none
    | some x2 => match idx GC (IntKind.wrap .u8 x2) with
    | none => none
    | some x3 => some ((IntKind.wrap .i64 ((IntKind.wrap .i64 ((IntKind.wrap .i64 (32 + 16)) + 8)) + (IntKind.wrap .i64 x3))), ())
   | false => match idx GC (IntKind.wrap .u8 x1) with
   | none => none
   | some x4 => some ((IntKind.wrap .i64 ((IntKind.wrap .i64 (32 + 16)) + (IntKind.wrap .i64 x4))), ())
  | false => match (ile 256 x0) with
  | true => match shr? .u64 x0 8 with
   | none => none
   | some x5 => match idx GC (IntKind.wrap .u8 x5) with
   | none => none
   | some x6 => some ((IntKind.wrap .i64 ((IntKind.wrap .i64 (32 + 8)) + (IntKind.wrap .i64 x6))), ())
  | false => match idx GC (IntKind.wrap .u8 x0) with
  | none => none
  | some x7 => some ((IntKind.wrap .i64 (32 + (IntKind.wrap .i64 x7))), ())
 | false => match (ile 65536 a0) with
 | true => match shr? .u64 a0 16 with
  | none => none
  | some x8 => match (ile 256 x8) with
  | true => match shr? .u64 x8 8 with
   | none => none
   | some x9 => match idx GC (IntKind.wrap .u8 x9) with
   | none => none
   | some x10 => some ((IntKind.wrap .i64 ((IntKind.wrap .i64 ((IntKind.wrap .i64 (0 + 16)) + 8)) + (IntKind.wrap .i64 x10))), ())
  | false => match idx GC (IntKind.wrap .u8 x8) with
  | none => none
  | some x11 => some ((IntKind.wrap .i64 ((IntKind.wrap .i64 (0 + 16)) + (IntKind.wrap .i64 x11))), ())
 | false => match (ile 256 a0) with
 | true => match shr? .u64 a0 8 with
  | none => none
  | some x12 => match idx GC (IntKind.wrap .u8 x12) with
  | none => none
  | some x13 => some ((IntKind.wrap .i64 ((IntKind.wrap .i64 (0 + 8)) + (IntKind.wrap .i64 x13))), ())
 | false => match idx GC (IntKind.wrap .u8 a0) with
 | none => none
 | some x14 => some ((IntKind.wrap .i64 (0 + (IntKind.wrap .i64 x14))), ())
def ALP [Lk] := fun v => Lk.f (Vx v)
theorem ALO v : ALP v = Vx v := AK _
abbrev Sm : AE := [(.tmp 0, .dat (.int .u64))]
abbrev Sl : AE := [(.tmp 0, .di)]
abbrev Sk : List RS := [.one]
def L8 [Lk] : U8 → Option (U8) := fun (a0, _) =>
 match ALP (a0, ()) with
 | none => none
 | some (y0, _) => some (y0, ())
def bitsLen [Lk] := fun v => Lk.f (L8 v)
theorem AAf v : bitsLen v = L8 v := AK _
abbrev QS : AE := [(.tmp 0, .box 1), (.cell 0 0, .dat (.int .u64))]
abbrev QR : AE := [(.obj 0, .box 1), (.cell 0 0, .dat (.int .u64)), (.tmp 0, .dat (.int .u64))]
abbrev QQ : List RS := [.one]
def LM [Lk] : U8 → Option (U5) := fun (a0, _) =>
 match shl? .u64 a0 13 with
 | none => none
 | some x0 => match shr? .u64 (IntKind.wrap .u64 ((BitVec.ofInt (IntKind.bits .u64) a0 ^^^ BitVec.ofInt (IntKind.bits .u64) x0).toNat)) 7 with
 | none => none
 | some x1 => match shl? .u64 (IntKind.wrap .u64 ((BitVec.ofInt (IntKind.bits .u64) (IntKind.wrap .u64 ((BitVec.ofInt (IntKind.bits .u64) a0 ^^^ BitVec.ofInt (IntKind.bits .u64) x0).toNat)) ^^^ BitVec.ofInt (IntKind.bits .u64) x1).toNat)) 17 with
 | none => none
 | some x2 => some ((IntKind.wrap .u64 ((BitVec.ofInt (IntKind.bits .u64) (IntKind.wrap .u64 ((BitVec.ofInt (IntKind.bits .u64) (IntKind.wrap .u64 ((BitVec.ofInt (IntKind.bits .u64) a0 ^^^ BitVec.ofInt (IntKind.bits .u64) x0).toNat)) ^^^ BitVec.ofInt (IntKind.bits .u64) x1).toNat)) ^^^ BitVec.ofInt (IntKind.bits .u64) x2).toNat)), (IntKind.wrap .u64 ((BitVec.ofInt (IntKind.bits .u64) (IntKind.wrap .u64 ((BitVec.ofInt (IntKind.bits .u64) (IntKind.wrap .u64 ((BitVec.ofInt (IntKind.bits .u64) a0 ^^^ BitVec.ofInt (IntKind.bits .u64) x0).toNat)) ^^^ BitVec.ofInt (IntKind.bits .u64) x1).toNat)) ^^^ BitVec.ofInt (IntKind.bits .u64) x2).toNat)), ())
def xorNext [Lk] := fun v => Lk.f (LM v)
theorem WM v : xorNext v = LM v := AK _
abbrev RW : AE := [(.tmp 0, .di)]
abbrev RV : AE := [(.tmp 0, .dat (.int .u64))]
abbrev RU : List RS := [.one]
def Ll [Lk] : U8 → Option (U8) := fun (a0, _) =>
 match bitsLen ((IntKind.wrap .u64 a0), ()) with
 | none => none
 | some (y0, _) => match shl? .u64 1 y0 with
 | none => none
 | some x1 => some (x1, ())
def Lm [Lk] := fun v => Lk.f (Ll v)
theorem Yh v : Lm v = Ll v := AK _
def O1 [Lk] {α : Type} (z : α) (c : α × α × Unit → Option U8) : (List α × Int × Int × Int × Int × Unit) → Option ((List α × Int × Int × Int × Int × Unit) ⊕ (List α × Int × Int × Int × Unit) ⊕ Unit) := fun (a0, a1, a2, a3, a4, _) =>
 match (ilt a1 a4) with
 | true => match idx a0 a4 with
  | none => none
  | some x0 => match idx a0 (IntKind.wrap .i64 (a4 - 1)) with
  | none => none
  | some x1 => match c ((AT a0 (AG a4) z), (AT a0 (AG (IntKind.wrap .i64 (a4 - 1))) z), ()) with
  | none => none
  | some (y2, _) => match (ilt y2 0) with
  | true => match idx a0 (IntKind.wrap .i64 (a4 - 1)) with
   | none => none
   | some x3 => match idx a0 a4 with
   | none => none
   | some x4 => match idx a0 a4 with
   | none => none
   | some x5 => match idx (Al a0 (AG a4) (AT a0 (AG (IntKind.wrap .i64 (a4 - 1))) z)) (IntKind.wrap .i64 (a4 - 1)) with
   | none => none
   | some x6 => some (.inl ((Al (Al a0 (AG a4) (AT a0 (AG (IntKind.wrap .i64 (a4 - 1))) z)) (AG (IntKind.wrap .i64 (a4 - 1))) (AT a0 (AG a4) z)), a1, a2, a3, (IntKind.wrap .i64 (a4 - 1)), ()))
  | false => some (.inr (.inl (a0, a1, a2, a3, ())))
 | false => some (.inr (.inl (a0, a1, a2, a3, ())))
def O2 [Lk] {α : Type} (z : α) (c : α × α × Unit → Option U8) : (List α × Int × Int × Int × Unit) → Option ((List α × Int × Int × Int × Unit) ⊕ (List α × Unit) ⊕ Unit) := fun (a0, a1, a2, a3, _) =>
 match (ilt a3 a2) with
 | true => match AX (O1 z c) many (a0, a1, a2, a3, a3, ()) with
  | none => none
  | some r => match r with
  | .inl (o0, o1, o2, o3, _) => some (.inl (o0, o1, o2, (IntKind.wrap .i64 (o3 + 1)), ()))
  | .inr _ => none
 | false => some (.inr (.inl (a0, ())))
def AGw [Lk] {α : Type} (z : α) (c : α × α × Unit → Option U8) : (List α × Int × Int × Unit) → Option ((List α × Unit)) := fun (a0, a1, a2, _) =>
 match AX (O2 z c) many (a0, a1, a2, (IntKind.wrap .i64 (a1 + 1)), ()) with
 | none => none
 | some r => match r with
 | .inl (o0, _) => some (o0, ())
 | .inr _ => none
def AbB [Lk] {α : Type} (z : α) (c : α × α × Unit → Option U8) (v : (List α × Int × Int × Unit)) : Option ((List α × Unit)) := Lk.f ((AGw z c) v)
theorem AbA {α : Type} (z : α) (c : α × α × Unit → Option U8) (v : (List α × Int × Int × Unit)) : (AbB z c) v = (AGw z c) v := AK _
def KA [Lk] {α : Type} (z : α) (c : α × α × Unit → Option U8) : (List α × Int × Int × Int × Unit) → Option ((List α × Int × Int × Int × Unit) ⊕ (List α × Unit) ⊕ (List α × Unit) ⊕ Unit) := fun (a0, a1, a2, a3, _) =>
 match (ile a1 (IntKind.wrap .i64 ((IntKind.wrap .i64 (2 * a3)) + 1))) with
 | true => some (.inr (.inl (a0, ())))
 | false => match (ilt (IntKind.wrap .i64 ((IntKind.wrap .i64 ((IntKind.wrap .i64 (2 * a3)) + 1)) + 1)) a1) with
 | true => match idx a0 (IntKind.wrap .i64 (a2 + (IntKind.wrap .i64 ((IntKind.wrap .i64 (2 * a3)) + 1)))) with
  | none => none
  | some x0 => match idx a0 (IntKind.wrap .i64 ((IntKind.wrap .i64 (a2 + (IntKind.wrap .i64 ((IntKind.wrap .i64 (2 * a3)) + 1)))) + 1)) with
  | none => none
  | some x1 => match c ((AT a0 (AG (IntKind.wrap .i64 (a2 + (IntKind.wrap .i64 ((IntKind.wrap .i64 (2 * a3)) + 1))))) z), (AT a0 (AG (IntKind.wrap .i64 ((IntKind.wrap .i64 (a2 + (IntKind.wrap .i64 ((IntKind.wrap .i64 (2 * a3)) + 1)))) + 1))) z), ()) with
  | none => none
  | some (y2, _) => match (ilt y2 0) with
  | true => match idx a0 (IntKind.wrap .i64 (a2 + a3)) with
   | none => none
   | some x3 => match idx a0 (IntKind.wrap .i64 (a2 + (IntKind.wrap .i64 ((IntKind.wrap .i64 ((IntKind.wrap .i64 (2 * a3)) + 1)) + 1)))) with
   | none => none
   | some x4 => match c ((AT a0 (AG (IntKind.wrap .i64 (a2 + a3))) z), (AT a0 (AG (IntKind.wrap .i64 (a2 + (IntKind.wrap .i64 ((IntKind.wrap .i64 ((IntKind.wrap .i64 (2 * a3)) + 1)) + 1))))) z), ()) with
   | none => none
   | some (y5, _) => match (!(ilt y5 0)) with
   | true => some (.inr (.inr (.inl (a0, ()))))
   | false => match idx a0 (IntKind.wrap .i64 (a2 + (IntKind.wrap .i64 ((IntKind.wrap .i64 ((IntKind.wrap .i64 (2 * a3)) + 1)) + 1)))) with
   | none => none
   | some x6 => match idx a0 (IntKind.wrap .i64 (a2 + a3)) with
   | none => none
   | some x7 => match idx a0 (IntKind.wrap .i64 (a2 + a3)) with
   | none => none
   | some x8 => match idx (Al a0 (AG (IntKind.wrap .i64 (a2 + a3))) (AT a0 (AG (IntKind.wrap .i64 (a2 + (IntKind.wrap .i64 ((IntKind.wrap .i64 ((IntKind.wrap .i64 (2 * a3)) + 1)) + 1))))) z)) (IntKind.wrap .i64 (a2 + (IntKind.wrap .i64 ((IntKind.wrap .i64 ((IntKind.wrap .i64 (2 * a3)) + 1)) + 1)))) with
   | none => none
   | some x9 => some (.inl ((Al (Al a0 (AG (IntKind.wrap .i64 (a2 + a3))) (AT a0 (AG (IntKind.wrap .i64 (a2 + (IntKind.wrap .i64 ((IntKind.wrap .i64 ((IntKind.wrap .i64 (2 * a3)) + 1)) + 1))))) z)) (AG (IntKind.wrap .i64 (a2 + (IntKind.wrap .i64 ((IntKind.wrap .i64 ((IntKind.wrap .i64 (2 * a3)) + 1)) + 1))))) (AT a0 (AG (IntKind.wrap .i64 (a2 + a3))) z)), a1, a2, (IntKind.wrap .i64 ((IntKind.wrap .i64 ((IntKind.wrap .i64 (2 * a3)) + 1)) + 1)), ()))
  | false => match idx a0 (IntKind.wrap .i64 (a2 + a3)) with
  | none => none
  | some x10 => match idx a0 (IntKind.wrap .i64 (a2 + (IntKind.wrap .i64 ((IntKind.wrap .i64 (2 * a3)) + 1)))) with
  | none => none
  | some x11 => match c ((AT a0 (AG (IntKind.wrap .i64 (a2 + a3))) z), (AT a0 (AG (IntKind.wrap .i64 (a2 + (IntKind.wrap .i64 ((IntKind.wrap .i64 (2 * a3)) + 1))))) z), ()) with
  | none => none
  | some (y12, _) => match (!(ilt y12 0)) with
  | true => some (.inr (.inr (.inl (a0, ()))))
  | false => match idx a0 (IntKind.wrap .i64 (a2 + (IntKind.wrap .i64 ((IntKind.wrap .i64 (2 * a3)) + 1)))) with
  | none => none
  | some x13 => match idx a0 (IntKind.wrap .i64 (a2 + a3)) with
  | none => none
  | some x14 => match idx a0 (IntKind.wrap .i64 (a2 + a3)) with
  | none => none
  | some x15 => match idx (Al a0 (AG (IntKind.wrap .i64 (a2 + a3))) (AT a0 (AG (IntKind.wrap .i64 (a2 + (IntKind.wrap .i64 ((IntKind.wrap .i64 (2 * a3)) + 1))))) z)) (IntKind.wrap .i64 (a2 + (IntKind.wrap .i64 ((IntKind.wrap .i64 (2 * a3)) + 1)))) with
  | none => none
  | some x16 => some (.inl ((Al (Al a0 (AG (IntKind.wrap .i64 (a2 + a3))) (AT a0 (AG (IntKind.wrap .i64 (a2 + (IntKind.wrap .i64 ((IntKind.wrap .i64 (2 * a3)) + 1))))) z)) (AG (IntKind.wrap .i64 (a2 + (IntKind.wrap .i64 ((IntKind.wrap .i64 (2 * a3)) + 1))))) (AT a0 (AG (IntKind.wrap .i64 (a2 + a3))) z)), a1, a2, (IntKind.wrap .i64 ((IntKind.wrap .i64 (2 * a3)) + 1)), ()))
 | false => match idx a0 (IntKind.wrap .i64 (a2 + a3)) with
 | none => none
 | some x17 => match idx a0 (IntKind.wrap .i64 (a2 + (IntKind.wrap .i64 ((IntKind.wrap .i64 (2 * a3)) + 1)))) with
 | none => none
 | some x18 => match c ((AT a0 (AG (IntKind.wrap .i64 (a2 + a3))) z), (AT a0 (AG (IntKind.wrap .i64 (a2 + (IntKind.wrap .i64 ((IntKind.wrap .i64 (2 * a3)) + 1))))) z), ()) with
 | none => none
 | some (y19, _) => match (!(ilt y19 0)) with
 | true => some (.inr (.inr (.inl (a0, ()))))
 | false => match idx a0 (IntKind.wrap .i64 (a2 + (IntKind.wrap .i64 ((IntKind.wrap .i64 (2 * a3)) + 1)))) with
 | none => none
 | some x20 => match idx a0 (IntKind.wrap .i64 (a2 + a3)) with
 | none => none
 | some x21 => match idx a0 (IntKind.wrap .i64 (a2 + a3)) with
 | none => none
 | some x22 => match idx (Al a0 (AG (IntKind.wrap .i64 (a2 + a3))) (AT a0 (AG (IntKind.wrap .i64 (a2 + (IntKind.wrap .i64 ((IntKind.wrap .i64 (2 * a3)) + 1))))) z)) (IntKind.wrap .i64 (a2 + (IntKind.wrap .i64 ((IntKind.wrap .i64 (2 * a3)) + 1)))) with
 | none => none
 | some x23 => some (.inl ((Al (Al a0 (AG (IntKind.wrap .i64 (a2 + a3))) (AT a0 (AG (IntKind.wrap .i64 (a2 + (IntKind.wrap .i64 ((IntKind.wrap .i64 (2 * a3)) + 1))))) z)) (AG (IntKind.wrap .i64 (a2 + (IntKind.wrap .i64 ((IntKind.wrap .i64 (2 * a3)) + 1))))) (AT a0 (AG (IntKind.wrap .i64 (a2 + a3))) z)), a1, a2, (IntKind.wrap .i64 ((IntKind.wrap .i64 (2 * a3)) + 1)), ()))
def Vj [Lk] {α : Type} (z : α) (c : α × α × Unit → Option U8) : (List α × Int × Int × Int × Unit) → Option ((List α × Unit)) := fun (a0, a1, a2, a3, _) =>
 match AX (KA z c) many (a0, a2, a3, a1, ()) with
 | none => none
 | some r => match r with
 | .inl (o0, _) => some (o0, ())
 | .inr r => match r with
 | .inl (o1, _) => some (o1, ())
 | .inr _ => none
def AJC [Lk] {α : Type} (z : α) (c : α × α × Unit → Option U8) (v : (List α × Int × Int × Int × Unit)) : Option ((List α × Unit)) := Lk.f ((Vj z c) v)
theorem AW7 {α : Type} (z : α) (c : α × α × Unit → Option U8) (v : (List α × Int × Int × Int × Unit)) : (AJC z c) v = (Vj z c) v := AK _
def Kg [Lk] {α : Type} (z : α) (c : α × α × Unit → Option U8) : (List α × Int × Int × Int × Unit) → Option ((List α × Int × Int × Int × Unit) ⊕ (List α × Unit) ⊕ Unit) := fun (a0, a1, a2, a3, _) =>
 match (ile 0 a3) with
 | true => match idx a0 (IntKind.wrap .i64 (a1 + a3)) with
  | none => none
  | some x0 => match idx a0 a1 with
  | none => none
  | some x1 => match idx a0 a1 with
  | none => none
  | some x2 => match idx (Al a0 (AG a1) (AT a0 (AG (IntKind.wrap .i64 (a1 + a3))) z)) (IntKind.wrap .i64 (a1 + a3)) with
  | none => none
  | some x3 => match (AJC z c) ((Al (Al a0 (AG a1) (AT a0 (AG (IntKind.wrap .i64 (a1 + a3))) z)) (AG (IntKind.wrap .i64 (a1 + a3))) (AT a0 (AG a1) z)), a2, a3, a1, ()) with
  | none => none
  | some (y4, _) => some (.inl (y4, a1, a2, (IntKind.wrap .i64 (a3 - 1)), ()))
 | false => some (.inr (.inl (a0, ())))
def Kh [Lk] {α : Type} (z : α) (c : α × α × Unit → Option U8) : (List α × Int × Int × Int × Int × Unit) → Option ((List α × Int × Int × Int × Int × Unit) ⊕ (List α × Int × Int × Int × Unit) ⊕ Unit) := fun (a0, a1, a2, a3, a4, _) =>
 match (ile 0 a4) with
 | true => match (AJC z c) (a0, a4, a3, a1, ()) with
  | none => none
  | some (y0, _) => some (.inl (y0, a1, a2, a3, (IntKind.wrap .i64 (a4 - 1)), ()))
 | false => some (.inr (.inl (a0, a1, a2, a3, ())))
def Vz [Lk] {α : Type} (z : α) (c : α × α × Unit → Option U8) : (List α × Int × Int × Unit) → Option ((List α × Unit)) := fun (a0, a1, a2, _) =>
 match quo? .i64 (IntKind.wrap .i64 ((IntKind.wrap .i64 (a2 - a1)) - 1)) 2 with
 | none => none
 | some x0 => match AX (Kh z c) many (a0, a1, 0, (IntKind.wrap .i64 (a2 - a1)), x0, ()) with
 | none => none
 | some r => match r with
 | .inl (o1, o2, o3, o4, _) => match AX (Kg z c) many (o1, o2, o3, (IntKind.wrap .i64 (o4 - 1)), ()) with
  | none => none
  | some r => match r with
  | .inl (o5, _) => some (o5, ())
  | .inr _ => none
 | .inr _ => none
def ASV [Lk] {α : Type} (z : α) (c : α × α × Unit → Option U8) (v : (List α × Int × Int × Unit)) : Option ((List α × Unit)) := Lk.f ((Vz z c) v)
theorem AY6 {α : Type} (z : α) (c : α × α × Unit → Option U8) (v : (List α × Int × Int × Unit)) : (ASV z c) v = (Vz z c) v := AK _
def Gi [Lk] {α : Type} (z : α) (c : α × α × Unit → Option U8) : (List α × Int × Int × Int × Int × Int × Unit) → Option ((List α × Int × Int × Int × Int × Int × Unit) ⊕ (List α × Unit) ⊕ Unit) := fun (a0, a1, a2, a3, a4, a5, _) =>
 match quo? .i64 a2 4 with
 | none => none
 | some x0 => match (ile a5 (IntKind.wrap .i64 ((IntKind.wrap .i64 (a1 + (IntKind.wrap .i64 (x0 * 2)))) + 1))) with
 | true => match xorNext (a3, ()) with
  | none => none
  | some (y1, y2, _) => match (ile a2 (IntKind.wrap .i64 (IntKind.wrap .u64 ((BitVec.ofInt (IntKind.bits .u64) y2 &&& BitVec.ofInt (IntKind.bits .u64) (IntKind.wrap .u64 (a4 - 1))).toNat)))) with
  | true => match idx a0 (IntKind.wrap .i64 (a1 + (IntKind.wrap .i64 ((IntKind.wrap .i64 (IntKind.wrap .u64 ((BitVec.ofInt (IntKind.bits .u64) y2 &&& BitVec.ofInt (IntKind.bits .u64) (IntKind.wrap .u64 (a4 - 1))).toNat))) - a2)))) with
   | none => none
   | some x3 => match idx a0 a5 with
   | none => none
   | some x4 => match idx a0 a5 with
   | none => none
   | some x5 => match idx (Al a0 (AG a5) (AT a0 (AG (IntKind.wrap .i64 (a1 + (IntKind.wrap .i64 ((IntKind.wrap .i64 (IntKind.wrap .u64 ((BitVec.ofInt (IntKind.bits .u64) y2 &&& BitVec.ofInt (IntKind.bits .u64) (IntKind.wrap .u64 (a4 - 1))).toNat))) - a2))))) z)) (IntKind.wrap .i64 (a1 + (IntKind.wrap .i64 ((IntKind.wrap .i64 (IntKind.wrap .u64 ((BitVec.ofInt (IntKind.bits .u64) y2 &&& BitVec.ofInt (IntKind.bits .u64) (IntKind.wrap .u64 (a4 - 1))).toNat))) - a2)))) with
   | none => none
   | some x6 => some (.inl ((Al (Al a0 (AG a5) (AT a0 (AG (IntKind.wrap .i64 (a1 + (IntKind.wrap .i64 ((IntKind.wrap .i64 (IntKind.wrap .u64 ((BitVec.ofInt (IntKind.bits .u64) y2 &&& BitVec.ofInt (IntKind.bits .u64) (IntKind.wrap .u64 (a4 - 1))).toNat))) - a2))))) z)) (AG (IntKind.wrap .i64 (a1 + (IntKind.wrap .i64 ((IntKind.wrap .i64 (IntKind.wrap .u64 ((BitVec.ofInt (IntKind.bits .u64) y2 &&& BitVec.ofInt (IntKind.bits .u64) (IntKind.wrap .u64 (a4 - 1))).toNat))) - a2))))) (AT a0 (AG a5) z)), a1, a2, y1, a4, (IntKind.wrap .i64 (a5 + 1)), ()))
  | false => match idx a0 (IntKind.wrap .i64 (a1 + (IntKind.wrap .i64 (IntKind.wrap .u64 ((BitVec.ofInt (IntKind.bits .u64) y2 &&& BitVec.ofInt (IntKind.bits .u64) (IntKind.wrap .u64 (a4 - 1))).toNat))))) with
  | none => none
  | some x7 => match idx a0 a5 with
  | none => none
  | some x8 => match idx a0 a5 with
  | none => none
  | some x9 => match idx (Al a0 (AG a5) (AT a0 (AG (IntKind.wrap .i64 (a1 + (IntKind.wrap .i64 (IntKind.wrap .u64 ((BitVec.ofInt (IntKind.bits .u64) y2 &&& BitVec.ofInt (IntKind.bits .u64) (IntKind.wrap .u64 (a4 - 1))).toNat)))))) z)) (IntKind.wrap .i64 (a1 + (IntKind.wrap .i64 (IntKind.wrap .u64 ((BitVec.ofInt (IntKind.bits .u64) y2 &&& BitVec.ofInt (IntKind.bits .u64) (IntKind.wrap .u64 (a4 - 1))).toNat))))) with
  | none => none
  | some x10 => some (.inl ((Al (Al a0 (AG a5) (AT a0 (AG (IntKind.wrap .i64 (a1 + (IntKind.wrap .i64 (IntKind.wrap .u64 ((BitVec.ofInt (IntKind.bits .u64) y2 &&& BitVec.ofInt (IntKind.bits .u64) (IntKind.wrap .u64 (a4 - 1))).toNat)))))) z)) (AG (IntKind.wrap .i64 (a1 + (IntKind.wrap .i64 (IntKind.wrap .u64 ((BitVec.ofInt (IntKind.bits .u64) y2 &&& BitVec.ofInt (IntKind.bits .u64) (IntKind.wrap .u64 (a4 - 1))).toNat)))))) (AT a0 (AG a5) z)), a1, a2, y1, a4, (IntKind.wrap .i64 (a5 + 1)), ()))
 | false => some (.inr (.inl (a0, ())))
def Pe [Lk] {α : Type} (z : α) (c : α × α × Unit → Option U8) : (List α × Int × Int × Unit) → Option ((List α × Unit)) := fun (a0, a1, a2, _) =>
 match (ile 8 (IntKind.wrap .i64 (a2 - a1))) with
 | true => match Lm ((IntKind.wrap .i64 (a2 - a1)), ()) with
  | none => none
  | some (y0, _) => match quo? .i64 (IntKind.wrap .i64 (a2 - a1)) 4 with
  | none => none
  | some x1 => match AX (Gi z c) many (a0, a1, (IntKind.wrap .i64 (a2 - a1)), (IntKind.wrap .u64 (IntKind.wrap .i64 (a2 - a1))), y0, (IntKind.wrap .i64 ((IntKind.wrap .i64 (a1 + (IntKind.wrap .i64 (x1 * 2)))) - 1)), ()) with
  | none => none
  | some r => match r with
  | .inl (o2, _) => some (o2, ())
  | .inr _ => none
 | false => some (a0, ())
def AHq [Lk] {α : Type} (z : α) (c : α × α × Unit → Option U8) (v : (List α × Int × Int × Unit)) : Option ((List α × Unit)) := Lk.f ((Pe z c) v)
theorem AWE {α : Type} (z : α) (c : α × α × Unit → Option U8) (v : (List α × Int × Int × Unit)) : (AHq z c) v = (Pe z c) v := AK _
def Li [Lk] {α : Type} (z : α) (c : α × α × Unit → Option U8) : (List α × Int × Int × Int × Unit) → Option ((List α × Int × Int × Int × Unit)) := fun (a0, a1, a2, a3, _) =>
 match idx a0 a2 with
 | none => none
 | some x0 => match idx a0 a1 with
 | none => none
 | some x1 => match c ((AT a0 (AG a2) z), (AT a0 (AG a1) z), ()) with
 | none => none
 | some (y2, _) => match (ilt y2 0) with
 | true => some (a0, (IntKind.wrap .i64 (a3 + 1)), a2, a1, ())
 | false => some (a0, a3, a1, a2, ())
def Lj [Lk] {α : Type} (z : α) (c : α × α × Unit → Option U8) (v : (List α × Int × Int × Int × Unit)) : Option ((List α × Int × Int × Int × Unit)) := Lk.f ((Li z c) v)
theorem AOy {α : Type} (z : α) (c : α × α × Unit → Option U8) (v : (List α × Int × Int × Int × Unit)) : (Lj z c) v = (Li z c) v := AK _
def Lo [Lk] {α : Type} (z : α) (c : α × α × Unit → Option U8) : (List α × Int × Int × Int × Int × Unit) → Option ((List α × Int × Int × Unit)) := fun (a0, a1, a2, a3, a4, _) =>
 match (Lj z c) (a0, a1, a2, a4, ()) with
 | none => none
 | some (y0, y1, y2, y3, _) => match (Lj z c) (y0, y3, a3, y1, ()) with
 | none => none
 | some (y4, y5, y6, y7, _) => match (Lj z c) (y4, y2, y6, y5, ()) with
 | none => none
 | some (y8, y9, y10, y11, _) => some (y8, y9, y11, ())
def Lp [Lk] {α : Type} (z : α) (c : α × α × Unit → Option U8) (v : (List α × Int × Int × Int × Int × Unit)) : Option ((List α × Int × Int × Unit)) := Lk.f ((Lo z c) v)
theorem APQ {α : Type} (z : α) (c : α × α × Unit → Option U8) (v : (List α × Int × Int × Int × Int × Unit)) : (Lp z c) v = (Lo z c) v := AK _
def Lr [Lk] {α : Type} (z : α) (c : α × α × Unit → Option U8) : (List α × Int × Int × Unit) → Option ((List α × Int × Int × Unit)) := fun (a0, a1, a2, _) =>
 match (Lp z c) (a0, (IntKind.wrap .i64 (a1 - 1)), a1, (IntKind.wrap .i64 (a1 + 1)), a2, ()) with
 | none => none
 | some (y0, y1, y2, _) => some (y0, y1, y2, ())
def Ls [Lk] {α : Type} (z : α) (c : α × α × Unit → Option U8) (v : (List α × Int × Int × Unit)) : Option ((List α × Int × Int × Unit)) := Lk.f ((Lr z c) v)
theorem APS {α : Type} (z : α) (c : α × α × Unit → Option U8) (v : (List α × Int × Int × Unit)) : (Ls z c) v = (Lr z c) v := AK _
def OU [Lk] {α : Type} (z : α) (c : α × α × Unit → Option U8) : (List α × Int × Int × Unit) → Option ((List α × Int × Int × Unit)) := fun (a0, a1, a2, _) =>
 match quo? .i64 (IntKind.wrap .i64 (a2 - a1)) 4 with
 | none => none
 | some x0 => match quo? .i64 (IntKind.wrap .i64 (a2 - a1)) 4 with
 | none => none
 | some x1 => match quo? .i64 (IntKind.wrap .i64 (a2 - a1)) 4 with
 | none => none
 | some x2 => match (ile 8 (IntKind.wrap .i64 (a2 - a1))) with
 | true => match (ile 50 (IntKind.wrap .i64 (a2 - a1))) with
  | true => match (Ls z c) (a0, (IntKind.wrap .i64 (a1 + (IntKind.wrap .i64 (x0 * 1)))), 0, ()) with
   | none => none
   | some (y3, y4, y5, _) => match (Ls z c) (y3, (IntKind.wrap .i64 (a1 + (IntKind.wrap .i64 (x1 * 2)))), y4, ()) with
   | none => none
   | some (y6, y7, y8, _) => match (Ls z c) (y6, (IntKind.wrap .i64 (a1 + (IntKind.wrap .i64 (x2 * 3)))), y7, ()) with
   | none => none
   | some (y9, y10, y11, _) => match (Lp z c) (y9, y5, y8, y11, y10, ()) with
   | none => none
   | some (y12, y13, y14, _) => match (ieq y13 0) with
   | true => some (y12, y14, 1, ())
   | false => match (ieq y13 12) with
   | true => some (y12, y14, 2, ())
   | false => some (y12, y14, 0, ())
  | false => match (Lp z c) (a0, (IntKind.wrap .i64 (a1 + (IntKind.wrap .i64 (x0 * 1)))), (IntKind.wrap .i64 (a1 + (IntKind.wrap .i64 (x1 * 2)))), (IntKind.wrap .i64 (a1 + (IntKind.wrap .i64 (x2 * 3)))), 0, ()) with
  | none => none
  | some (y15, y16, y17, _) => match (ieq y16 0) with
  | true => some (y15, y17, 1, ())
  | false => match (ieq y16 12) with
  | true => some (y15, y17, 2, ())
  | false => some (y15, y17, 0, ())
 | false => match (ieq 0 0) with
 | true => some (a0, (IntKind.wrap .i64 (a1 + (IntKind.wrap .i64 (x1 * 2)))), 1, ())
 | false => match (ieq 0 12) with
 | true => some (a0, (IntKind.wrap .i64 (a1 + (IntKind.wrap .i64 (x1 * 2)))), 2, ())
 | false => some (a0, (IntKind.wrap .i64 (a1 + (IntKind.wrap .i64 (x1 * 2)))), 0, ())
def AFg [Lk] {α : Type} (z : α) (c : α × α × Unit → Option U8) (v : (List α × Int × Int × Unit)) : Option ((List α × Int × Int × Unit)) := Lk.f ((OU z c) v)
theorem AT5 {α : Type} (z : α) (c : α × α × Unit → Option U8) (v : (List α × Int × Int × Unit)) : (AFg z c) v = (OU z c) v := AK _
def Vm [Lk] {α : Type} (z : α) (c : α × α × Unit → Option U8) : (List α × Int × Int × Unit) → Option ((List α × Int × Int × Unit) ⊕ (List α × Unit) ⊕ Unit) := fun (a0, a1, a2, _) =>
 match (ilt a1 a2) with
 | true => match idx a0 a2 with
  | none => none
  | some x0 => match idx a0 a1 with
  | none => none
  | some x1 => match idx a0 a1 with
  | none => none
  | some x2 => match idx (Al a0 (AG a1) (AT a0 (AG a2) z)) a2 with
  | none => none
  | some x3 => some (.inl ((Al (Al a0 (AG a1) (AT a0 (AG a2) z)) (AG a2) (AT a0 (AG a1) z)), (IntKind.wrap .i64 (a1 + 1)), (IntKind.wrap .i64 (a2 - 1)), ()))
 | false => some (.inr (.inl (a0, ())))
def AFP [Lk] {α : Type} (z : α) (c : α × α × Unit → Option U8) : (List α × Int × Int × Unit) → Option ((List α × Unit)) := fun (a0, a1, a2, _) =>
 match AX (Vm z c) many (a0, a1, (IntKind.wrap .i64 (a2 - 1)), ()) with
 | none => none
 | some r => match r with
 | .inl (o0, _) => some (o0, ())
 | .inr _ => none
def AaR [Lk] {α : Type} (z : α) (c : α × α × Unit → Option U8) (v : (List α × Int × Int × Unit)) : Option ((List α × Unit)) := Lk.f ((AFP z c) v)
theorem AaQ {α : Type} (z : α) (c : α × α × Unit → Option U8) (v : (List α × Int × Int × Unit)) : (AaR z c) v = (AFP z c) v := AK _
def Fq [Lk] {α : Type} (z : α) (c : α × α × Unit → Option U8) : (List α × Int × Int × Int × Int × Int × Unit) → Option ((List α × Int × Int × Int × Int × Int × Unit) ⊕ (List α × Int × Int × Int × Int × Unit) ⊕ Unit) := fun (a0, a1, a2, a3, a4, a5, _) =>
 match (ilt a5 a2) with
 | true => match idx a0 a5 with
  | none => none
  | some x0 => match idx a0 (IntKind.wrap .i64 (a5 - 1)) with
  | none => none
  | some x1 => match c ((AT a0 (AG a5) z), (AT a0 (AG (IntKind.wrap .i64 (a5 - 1))) z), ()) with
  | none => none
  | some (y2, _) => match (!(ilt y2 0)) with
  | true => some (.inr (.inl (a0, a1, a2, a3, a4, ())))
  | false => match idx a0 (IntKind.wrap .i64 (a5 - 1)) with
  | none => none
  | some x3 => match idx a0 a5 with
  | none => none
  | some x4 => match idx a0 a5 with
  | none => none
  | some x5 => match idx (Al a0 (AG a5) (AT a0 (AG (IntKind.wrap .i64 (a5 - 1))) z)) (IntKind.wrap .i64 (a5 - 1)) with
  | none => none
  | some x6 => some (.inl ((Al (Al a0 (AG a5) (AT a0 (AG (IntKind.wrap .i64 (a5 - 1))) z)) (AG (IntKind.wrap .i64 (a5 - 1))) (AT a0 (AG a5) z)), a1, a2, a3, a4, (IntKind.wrap .i64 (a5 + 1)), ()))
 | false => some (.inr (.inl (a0, a1, a2, a3, a4, ())))
def Fs [Lk] {α : Type} (z : α) (c : α × α × Unit → Option U8) : (List α × Int × Int × Int × Int × Int × Unit) → Option ((List α × Int × Int × Int × Int × Int × Unit) ⊕ (List α × Int × Int × Int × Int × Unit) ⊕ Unit) := fun (a0, a1, a2, a3, a4, a5, _) =>
 match (ile 1 a5) with
 | true => match idx a0 a5 with
  | none => none
  | some x0 => match idx a0 (IntKind.wrap .i64 (a5 - 1)) with
  | none => none
  | some x1 => match c ((AT a0 (AG a5) z), (AT a0 (AG (IntKind.wrap .i64 (a5 - 1))) z), ()) with
  | none => none
  | some (y2, _) => match (!(ilt y2 0)) with
  | true => some (.inr (.inl (a0, a1, a2, a3, a4, ())))
  | false => match idx a0 (IntKind.wrap .i64 (a5 - 1)) with
  | none => none
  | some x3 => match idx a0 a5 with
  | none => none
  | some x4 => match idx a0 a5 with
  | none => none
  | some x5 => match idx (Al a0 (AG a5) (AT a0 (AG (IntKind.wrap .i64 (a5 - 1))) z)) (IntKind.wrap .i64 (a5 - 1)) with
  | none => none
  | some x6 => some (.inl ((Al (Al a0 (AG a5) (AT a0 (AG (IntKind.wrap .i64 (a5 - 1))) z)) (AG (IntKind.wrap .i64 (a5 - 1))) (AT a0 (AG a5) z)), a1, a2, a3, a4, (IntKind.wrap .i64 (a5 - 1)), ()))
 | false => some (.inr (.inl (a0, a1, a2, a3, a4, ())))
def Hj [Lk] {α : Type} (z : α) (c : α × α × Unit → Option U8) : (List α × Int × Int × Int × Int × Unit) → Option ((List α × Int × Int × Int × Int × Unit) ⊕ (List α × Int × Int × Int × Int × Unit) ⊕ Unit) := fun (a0, a1, a2, a3, a4, _) =>
 match (ilt a3 a2) with
 | true => match idx a0 a3 with
  | none => none
  | some x0 => match idx a0 (IntKind.wrap .i64 (a3 - 1)) with
  | none => none
  | some x1 => match c ((AT a0 (AG a3) z), (AT a0 (AG (IntKind.wrap .i64 (a3 - 1))) z), ()) with
  | none => none
  | some (y2, _) => match (!(ilt y2 0)) with
  | true => some (.inl (a0, a1, a2, (IntKind.wrap .i64 (a3 + 1)), a4, ()))
  | false => some (.inr (.inl (a0, a1, a2, a3, a4, ())))
 | false => some (.inr (.inl (a0, a1, a2, a3, a4, ())))
def CP [Lk] {α : Type} (z : α) (c : α × α × Unit → Option U8) : (List α × Int × Int × Int × Int × Unit) → Option ((List α × Int × Int × Int × Int × Unit) ⊕ (List α × Bool × Unit) ⊕ (List α × Unit) ⊕ Unit) := fun (a0, a1, a2, a3, a4, _) =>
 match (ilt a4 5) with
 | true => match AX (Hj z c) many (a0, a1, a2, a3, a4, ()) with
  | none => none
  | some r => match r with
  | .inl (o0, o1, o2, o3, o4, _) => match (ieq o3 o2) with
   | true => some (.inr (.inl (o0, true, ())))
   | false => match (ilt (IntKind.wrap .i64 (o2 - o1)) 50) with
   | true => some (.inr (.inl (o0, false, ())))
   | false => match idx o0 (IntKind.wrap .i64 (o3 - 1)) with
   | none => none
   | some x5 => match idx o0 o3 with
   | none => none
   | some x6 => match idx o0 o3 with
   | none => none
   | some x7 => match idx (Al o0 (AG o3) (AT o0 (AG (IntKind.wrap .i64 (o3 - 1))) z)) (IntKind.wrap .i64 (o3 - 1)) with
   | none => none
   | some x8 => match (ile 2 (IntKind.wrap .i64 (o3 - o1))) with
   | true => match AX (Fs z c) many ((Al (Al o0 (AG o3) (AT o0 (AG (IntKind.wrap .i64 (o3 - 1))) z)) (AG (IntKind.wrap .i64 (o3 - 1))) (AT o0 (AG o3) z)), o1, o2, o3, o4, (IntKind.wrap .i64 (o3 - 1)), ()) with
    | none => none
    | some r => match r with
    | .inl (o9, o10, o11, o12, o13, _) => match (ile 2 (IntKind.wrap .i64 (o11 - o12))) with
     | true => match AX (Fq z c) many (o9, o10, o11, o12, o13, (IntKind.wrap .i64 (o12 + 1)), ()) with
      | none => none
      | some r => match r with
      | .inl (o14, o15, o16, o17, o18, _) => some (.inl (o14, o15, o16, o17, (IntKind.wrap .i64 (o18 + 1)), ()))
      | .inr _ => none
     | false => some (.inl (o9, o10, o11, o12, (IntKind.wrap .i64 (o13 + 1)), ()))
    | .inr _ => none
   | false => match (ile 2 (IntKind.wrap .i64 (o2 - o3))) with
   | true => match AX (Fq z c) many ((Al (Al o0 (AG o3) (AT o0 (AG (IntKind.wrap .i64 (o3 - 1))) z)) (AG (IntKind.wrap .i64 (o3 - 1))) (AT o0 (AG o3) z)), o1, o2, o3, o4, (IntKind.wrap .i64 (o3 + 1)), ()) with
    | none => none
    | some r => match r with
    | .inl (o19, o20, o21, o22, o23, _) => some (.inl (o19, o20, o21, o22, (IntKind.wrap .i64 (o23 + 1)), ()))
    | .inr _ => none
   | false => some (.inl ((Al (Al o0 (AG o3) (AT o0 (AG (IntKind.wrap .i64 (o3 - 1))) z)) (AG (IntKind.wrap .i64 (o3 - 1))) (AT o0 (AG o3) z)), o1, o2, o3, (IntKind.wrap .i64 (o4 + 1)), ()))
  | .inr _ => none
 | false => some (.inr (.inr (.inl (a0, ()))))
def I9 [Lk] {α : Type} (z : α) (c : α × α × Unit → Option U8) : (List α × Int × Int × Unit) → Option ((List α × Bool × Unit)) := fun (a0, a1, a2, _) =>
 match AX (CP z c) many (a0, a1, a2, (IntKind.wrap .i64 (a1 + 1)), 0, ()) with
 | none => none
 | some r => match r with
 | .inl (o0, o1, _) => some (o0, o1, ())
 | .inr r => match r with
 | .inl (o2, _) => some (o2, false, ())
 | .inr _ => none
def OY [Lk] {α : Type} (z : α) (c : α × α × Unit → Option U8) (v : (List α × Int × Int × Unit)) : Option ((List α × Bool × Unit)) := Lk.f ((I9 z c) v)
theorem AKP {α : Type} (z : α) (c : α × α × Unit → Option U8) (v : (List α × Int × Int × Unit)) : (OY z c) v = (I9 z c) v := AK _
def JA [Lk] {α : Type} (z : α) (c : α × α × Unit → Option U8) : (List α × Int × Int × Int × Unit) → Option ((List α × Int × Int × Int × Unit) ⊕ (List α × Int × Int × Int × Unit) ⊕ Unit) := fun (a0, a1, a2, a3, _) =>
 match (ile a2 a3) with
 | true => match idx a0 a1 with
  | none => none
  | some x0 => match idx a0 a3 with
  | none => none
  | some x1 => match c ((AT a0 (AG a1) z), (AT a0 (AG a3) z), ()) with
  | none => none
  | some (y2, _) => match (ilt y2 0) with
  | true => some (.inl (a0, a1, a2, (IntKind.wrap .i64 (a3 - 1)), ()))
  | false => some (.inr (.inl (a0, a1, a2, a3, ())))
 | false => some (.inr (.inl (a0, a1, a2, a3, ())))
def JB [Lk] {α : Type} (z : α) (c : α × α × Unit → Option U8) : (List α × Int × Int × Int × Unit) → Option ((List α × Int × Int × Int × Unit) ⊕ (List α × Int × Int × Int × Unit) ⊕ Unit) := fun (a0, a1, a2, a3, _) =>
 match (ile a2 a3) with
 | true => match idx a0 a1 with
  | none => none
  | some x0 => match idx a0 a2 with
  | none => none
  | some x1 => match c ((AT a0 (AG a1) z), (AT a0 (AG a2) z), ()) with
  | none => none
  | some (y2, _) => match (!(ilt y2 0)) with
  | true => some (.inl (a0, a1, (IntKind.wrap .i64 (a2 + 1)), a3, ()))
  | false => some (.inr (.inl (a0, a1, a2, a3, ())))
 | false => some (.inr (.inl (a0, a1, a2, a3, ())))
def JC [Lk] {α : Type} (z : α) (c : α × α × Unit → Option U8) : (List α × Int × Int × Int × Unit) → Option ((List α × Int × Int × Int × Unit) ⊕ (List α × Int × Unit) ⊕ Unit) := fun (a0, a1, a2, a3, _) =>
 match AX (JB z c) many (a0, a1, a2, a3, ()) with
 | none => none
 | some r => match r with
 | .inl (o0, o1, o2, o3, _) => match AX (JA z c) many (o0, o1, o2, o3, ()) with
  | none => none
  | some r => match r with
  | .inl (o4, o5, o6, o7, _) => match (ilt o7 o6) with
   | true => some (.inr (.inl (o4, o6, ())))
   | false => match idx o4 o7 with
   | none => none
   | some x8 => match idx o4 o6 with
   | none => none
   | some x9 => match idx o4 o6 with
   | none => none
   | some x10 => match idx (Al o4 (AG o6) (AT o4 (AG o7) z)) o7 with
   | none => none
   | some x11 => some (.inl ((Al (Al o4 (AG o6) (AT o4 (AG o7) z)) (AG o7) (AT o4 (AG o6) z)), o5, (IntKind.wrap .i64 (o6 + 1)), (IntKind.wrap .i64 (o7 - 1)), ()))
  | .inr _ => none
 | .inr _ => none
def Lg [Lk] {α : Type} (z : α) (c : α × α × Unit → Option U8) : (List α × Int × Int × Int × Unit) → Option ((List α × Int × Unit)) := fun (a0, a1, a2, a3, _) =>
 match idx a0 a3 with
 | none => none
 | some x0 => match idx a0 a1 with
 | none => none
 | some x1 => match idx a0 a1 with
 | none => none
 | some x2 => match idx (Al a0 (AG a1) (AT a0 (AG a3) z)) a3 with
 | none => none
 | some x3 => match AX (JC z c) many ((Al (Al a0 (AG a1) (AT a0 (AG a3) z)) (AG a3) (AT a0 (AG a1) z)), a1, (IntKind.wrap .i64 (a1 + 1)), (IntKind.wrap .i64 (a2 - 1)), ()) with
 | none => none
 | some r => match r with
 | .inl (o4, o5, _) => some (o4, o5, ())
 | .inr _ => none
def Vr [Lk] {α : Type} (z : α) (c : α × α × Unit → Option U8) (v : (List α × Int × Int × Int × Unit)) : Option ((List α × Int × Unit)) := Lk.f ((Lg z c) v)
theorem AOv {α : Type} (z : α) (c : α × α × Unit → Option U8) (v : (List α × Int × Int × Int × Unit)) : (Vr z c) v = (Lg z c) v := AK _
def Oa [Lk] {α : Type} (z : α) (c : α × α × Unit → Option U8) : (List α × Int × Int × Int × Unit) → Option ((List α × Int × Int × Int × Unit) ⊕ (List α × Int × Int × Int × Unit) ⊕ Unit) := fun (a0, a1, a2, a3, _) =>
 match (ile a2 a3) with
 | true => match idx a0 a3 with
  | none => none
  | some x0 => match idx a0 a1 with
  | none => none
  | some x1 => match c ((AT a0 (AG a3) z), (AT a0 (AG a1) z), ()) with
  | none => none
  | some (y2, _) => match (!(ilt y2 0)) with
  | true => some (.inl (a0, a1, a2, (IntKind.wrap .i64 (a3 - 1)), ()))
  | false => some (.inr (.inl (a0, a1, a2, a3, ())))
 | false => some (.inr (.inl (a0, a1, a2, a3, ())))
def Oc [Lk] {α : Type} (z : α) (c : α × α × Unit → Option U8) : (List α × Int × Int × Int × Unit) → Option ((List α × Int × Int × Int × Unit) ⊕ (List α × Int × Int × Int × Unit) ⊕ Unit) := fun (a0, a1, a2, a3, _) =>
 match (ile a2 a3) with
 | true => match idx a0 a2 with
  | none => none
  | some x0 => match idx a0 a1 with
  | none => none
  | some x1 => match c ((AT a0 (AG a2) z), (AT a0 (AG a1) z), ()) with
  | none => none
  | some (y2, _) => match (ilt y2 0) with
  | true => some (.inl (a0, a1, (IntKind.wrap .i64 (a2 + 1)), a3, ()))
  | false => some (.inr (.inl (a0, a1, a2, a3, ())))
 | false => some (.inr (.inl (a0, a1, a2, a3, ())))
def Od [Lk] {α : Type} (z : α) (c : α × α × Unit → Option U8) : (List α × Int × Int × Int × Unit) → Option ((List α × Int × Int × Int × Unit) ⊕ (List α × Int × Int × Unit) ⊕ Unit) := fun (a0, a1, a2, a3, _) =>
 match AX (Oc z c) many (a0, a1, a2, a3, ()) with
 | none => none
 | some r => match r with
 | .inl (o0, o1, o2, o3, _) => match AX (Oa z c) many (o0, o1, o2, o3, ()) with
  | none => none
  | some r => match r with
  | .inl (o4, o5, o6, o7, _) => match (ilt o7 o6) with
   | true => some (.inr (.inl (o4, o5, o7, ())))
   | false => match idx o4 o7 with
   | none => none
   | some x8 => match idx o4 o6 with
   | none => none
   | some x9 => match idx o4 o6 with
   | none => none
   | some x10 => match idx (Al o4 (AG o6) (AT o4 (AG o7) z)) o7 with
   | none => none
   | some x11 => some (.inl ((Al (Al o4 (AG o6) (AT o4 (AG o7) z)) (AG o7) (AT o4 (AG o6) z)), o5, (IntKind.wrap .i64 (o6 + 1)), (IntKind.wrap .i64 (o7 - 1)), ()))
  | .inr _ => none
 | .inr _ => none
def Oe [Lk] {α : Type} (z : α) (c : α × α × Unit → Option U8) : (List α × Int × Int × Int × Unit) → Option ((List α × Int × Int × Int × Unit) ⊕ (List α × Int × Int × Int × Unit) ⊕ Unit) := fun (a0, a1, a2, a3, _) =>
 match (ile a2 a3) with
 | true => match idx a0 a3 with
  | none => none
  | some x0 => match idx a0 a1 with
  | none => none
  | some x1 => match c ((AT a0 (AG a3) z), (AT a0 (AG a1) z), ()) with
  | none => none
  | some (y2, _) => match (!(ilt y2 0)) with
  | true => some (.inl (a0, a1, a2, (IntKind.wrap .i64 (a3 - 1)), ()))
  | false => some (.inr (.inl (a0, a1, a2, a3, ())))
 | false => some (.inr (.inl (a0, a1, a2, a3, ())))
def Of [Lk] {α : Type} (z : α) (c : α × α × Unit → Option U8) : (List α × Int × Int × Int × Unit) → Option ((List α × Int × Int × Int × Unit) ⊕ (List α × Int × Int × Int × Unit) ⊕ Unit) := fun (a0, a1, a2, a3, _) =>
 match (ile a2 a3) with
 | true => match idx a0 a2 with
  | none => none
  | some x0 => match idx a0 a1 with
  | none => none
  | some x1 => match c ((AT a0 (AG a2) z), (AT a0 (AG a1) z), ()) with
  | none => none
  | some (y2, _) => match (ilt y2 0) with
  | true => some (.inl (a0, a1, (IntKind.wrap .i64 (a2 + 1)), a3, ()))
  | false => some (.inr (.inl (a0, a1, a2, a3, ())))
 | false => some (.inr (.inl (a0, a1, a2, a3, ())))
def Vq [Lk] {α : Type} (z : α) (c : α × α × Unit → Option U8) : (List α × Int × Int × Int × Unit) → Option ((List α × Int × Bool × Unit)) := fun (a0, a1, a2, a3, _) =>
 match idx a0 a3 with
 | none => none
 | some x0 => match idx a0 a1 with
 | none => none
 | some x1 => match idx a0 a1 with
 | none => none
 | some x2 => match idx (Al a0 (AG a1) (AT a0 (AG a3) z)) a3 with
 | none => none
 | some x3 => match AX (Of z c) many ((Al (Al a0 (AG a1) (AT a0 (AG a3) z)) (AG a3) (AT a0 (AG a1) z)), a1, (IntKind.wrap .i64 (a1 + 1)), (IntKind.wrap .i64 (a2 - 1)), ()) with
 | none => none
 | some r => match r with
 | .inl (o4, o5, o6, o7, _) => match AX (Oe z c) many (o4, o5, o6, o7, ()) with
  | none => none
  | some r => match r with
  | .inl (o8, o9, o10, o11, _) => match (ilt o11 o10) with
   | true => match idx o8 o9 with
    | none => none
    | some x12 => match idx o8 o11 with
    | none => none
    | some x13 => match idx o8 o11 with
    | none => none
    | some x14 => match idx (Al o8 (AG o11) (AT o8 (AG o9) z)) o9 with
    | none => none
    | some x15 => some ((Al (Al o8 (AG o11) (AT o8 (AG o9) z)) (AG o9) (AT o8 (AG o11) z)), o11, true, ())
   | false => match idx o8 o11 with
   | none => none
   | some x16 => match idx o8 o10 with
   | none => none
   | some x17 => match idx o8 o10 with
   | none => none
   | some x18 => match idx (Al o8 (AG o10) (AT o8 (AG o11) z)) o11 with
   | none => none
   | some x19 => match AX (Od z c) many ((Al (Al o8 (AG o10) (AT o8 (AG o11) z)) (AG o11) (AT o8 (AG o10) z)), o9, (IntKind.wrap .i64 (o10 + 1)), (IntKind.wrap .i64 (o11 - 1)), ()) with
   | none => none
   | some r => match r with
   | .inl (o20, o21, o22, _) => match idx o20 o21 with
    | none => none
    | some x23 => match idx o20 o22 with
    | none => none
    | some x24 => match idx o20 o22 with
    | none => none
    | some x25 => match idx (Al o20 (AG o22) (AT o20 (AG o21) z)) o21 with
    | none => none
    | some x26 => some ((Al (Al o20 (AG o22) (AT o20 (AG o21) z)) (AG o21) (AT o20 (AG o22) z)), o22, false, ())
   | .inr _ => none
  | .inr _ => none
 | .inr _ => none
def ADC [Lk] {α : Type} (z : α) (c : α × α × Unit → Option U8) (v : (List α × Int × Int × Int × Unit)) : Option ((List α × Int × Bool × Unit)) := Lk.f ((Vq z c) v)
theorem AX2 {α : Type} (z : α) (c : α × α × Unit → Option U8) (v : (List α × Int × Int × Int × Unit)) : (ADC z c) v = (Vq z c) v := AK _
def RE [Lk] {α : Type} (z : α) (c : α × α × Unit → Option U8) (self : (List α × Int × Int × Int × Unit) → Option ((List α × Unit))) (y7 : List α) (a1 a2 p l : Int) (a4 a5 : Bool) : Option ((List α × Int × Int × Int × Bool × Bool × Unit) ⊕ (List α × Unit) ⊕ Unit) :=
 match (ilt 0 a1) with
 | true => match idx y7 (IntKind.wrap .i64 (a1 - 1)) with
  | none => none
  | some x9 => match idx y7 p with
  | none => none
  | some x10 => match c ((AT y7 (AG (IntKind.wrap .i64 (a1 - 1))) z), (AT y7 (AG p) z), ()) with
  | none => none
  | some (y11, _) => match (!(ilt y11 0)) with
  | true => match (Vr z c) (y7, a1, a2, p, ()) with
   | none => none
   | some (y12, y13, _) => some (.inl (y12, y13, a2, l, a4, a5, ()))
  | false => match (ADC z c) (y7, a1, a2, p, ()) with
  | none => none
  | some (y14, y15, y16, _) => match quo? .i64 (IntKind.wrap .i64 (a2 - a1)) 8 with
  | none => none
  | some x17 => match (ilt (IntKind.wrap .i64 (y15 - a1)) (IntKind.wrap .i64 (a2 - y15))) with
  | true => match self (y14, a1, y15, l, ()) with
   | none => none
   | some (y18, _) => some (.inl (y18, (IntKind.wrap .i64 (y15 + 1)), a2, l, (ile x17 (IntKind.wrap .i64 (y15 - a1))), y16, ()))
  | false => match self (y14, (IntKind.wrap .i64 (y15 + 1)), a2, l, ()) with
  | none => none
  | some (y19, _) => some (.inl (y19, a1, y15, l, (ile x17 (IntKind.wrap .i64 (a2 - y15))), y16, ()))
 | false => match (ADC z c) (y7, a1, a2, p, ()) with
 | none => none
 | some (y20, y21, y22, _) => match quo? .i64 (IntKind.wrap .i64 (a2 - a1)) 8 with
 | none => none
 | some x23 => match (ilt (IntKind.wrap .i64 (y21 - a1)) (IntKind.wrap .i64 (a2 - y21))) with
 | true => match self (y20, a1, y21, l, ()) with
  | none => none
  | some (y24, _) => some (.inl (y24, (IntKind.wrap .i64 (y21 + 1)), a2, l, (ile x23 (IntKind.wrap .i64 (y21 - a1))), y22, ()))
 | false => match self (y20, (IntKind.wrap .i64 (y21 + 1)), a2, l, ()) with
 | none => none
 | some (y25, _) => some (.inl (y25, a1, y21, l, (ile x23 (IntKind.wrap .i64 (a2 - y21))), y22, ()))
def AFo [Lk] {α : Type} (z : α) (c : α × α × Unit → Option U8) (self : (List α × Int × Int × Int × Unit) → Option ((List α × Unit))) (y6 : List α) (a1 a2 p h l : Int) (a4 a5 : Bool) : Option ((List α × Int × Int × Int × Bool × Bool × Unit) ⊕ (List α × Unit) ⊕ Unit) :=
 match a4 with
 | true => match a5 with
  | true => match (ieq h 1) with
   | true => match (OY z c) (y6, a1, a2, ()) with
    | none => none
    | some (y7, y8, _) => match y8 with
    | true => some (.inr (.inl (y7, ())))
    | false => (RE z c) self y7 a1 a2 p l a4 a5
   | false => (RE z c) self y6 a1 a2 p l a4 a5
  | false => (RE z c) self y6 a1 a2 p l a4 a5
 | false => (RE z c) self y6 a1 a2 p l a4 a5
def AFn [Lk] {α : Type} (z : α) (c : α × α × Unit → Option U8) (self : (List α × Int × Int × Int × Unit) → Option ((List α × Unit))) (y2 : List α) (a1 a2 l : Int) (a4 a5 : Bool) : Option ((List α × Int × Int × Int × Bool × Bool × Unit) ⊕ (List α × Unit) ⊕ Unit) :=
 match (AFg z c) (y2, a1, a2, ()) with
 | none => none
 | some (y3, y4, y5, _) => match (ieq y5 2) with
 | true => match (AaR z c) (y3, a1, a2, ()) with
  | none => none
  | some (y6, _) => (AFo z c) self y6 a1 a2 (IntKind.wrap .i64 ((IntKind.wrap .i64 (a2 - 1)) - (IntKind.wrap .i64 (y4 - a1)))) 1 l a4 a5
 | false => (AFo z c) self y3 a1 a2 y4 y5 l a4 a5
def OX [Lk] {α : Type} (z : α) (c : α × α × Unit → Option U8) (self : (List α × Int × Int × Int × Unit) → Option ((List α × Unit))) : (List α × Int × Int × Int × Bool × Bool × Unit) → Option ((List α × Int × Int × Int × Bool × Bool × Unit) ⊕ (List α × Unit) ⊕ Unit) := fun (a0, a1, a2, a3, a4, a5, _) =>
 match (ile (IntKind.wrap .i64 (a2 - a1)) 12) with
 | true => match (AbB z c) (a0, a1, a2, ()) with
  | none => none
  | some (y0, _) => some (.inr (.inl (y0, ())))
 | false => match (ieq a3 0) with
 | true => match (ASV z c) (a0, a1, a2, ()) with
  | none => none
  | some (y1, _) => some (.inr (.inl (y1, ())))
 | false => match (!a4) with
 | true => match (AHq z c) (a0, a1, a2, ()) with
  | none => none
  | some (y2, _) => (AFn z c) self y2 a1 a2 (IntKind.wrap .i64 (a3 - 1)) a4 a5
 | false => (AFn z c) self a0 a1 a2 a3 a4 a5
def AFp [Lk] {α : Type} (z : α) (c : α × α × Unit → Option U8) (self : (List α × Int × Int × Int × Unit) → Option ((List α × Unit))) : (List α × Int × Int × Int × Unit) → Option ((List α × Unit)) := fun (a0, a1, a2, a3, _) =>
 match AX ((OX z c) self) many (a0, a1, a2, a3, true, true, ()) with
 | none => none
 | some r => match r with
 | .inl (o0, _) => some (o0, ())
 | .inr _ => none
def KK [Lk] {α : Type} (z : α) (c : α × α × Unit → Option U8) : Nat → (List α × Int × Int × Int × Unit) → Option ((List α × Unit))
 | 0, _ => none
 | n + 1, v => (AFp z c) ((KK z c) n) v
def Aac [Lk] {α : Type} (z : α) (c : α × α × Unit → Option U8) (v : (List α × Int × Int × Int × Unit)) : Option ((List α × Unit)) := Lk.f ((KK z c) 100 v)
theorem Aab {α : Type} (z : α) (c : α × α × Unit → Option U8) (v : (List α × Int × Int × Int × Unit)) : (Aac z c) v = (KK z c) 100 v := AK _
def Vh [Lk] {α : Type} (z : α) (c : α × α × Unit → Option U8) : (List α × Unit) → Option ((List α × Unit)) := fun (a0, _) =>
 match bitsLen ((IntKind.wrap .u64 (AN a0)), ()) with
 | none => none
 | some (y0, _) => match (Aac z c) (a0, 0, (AN a0), y0, ()) with
 | none => none
 | some (y1, _) => some (y1, ())
def AW0 [Lk] {α : Type} (z : α) (c : α × α × Unit → Option U8) (v : (List α × Unit)) : Option ((List α × Unit)) := Lk.f ((Vh z c) v)
theorem AWz {α : Type} (z : α) (c : α × α × Unit → Option U8) (v : (List α × Unit)) : (AW0 z c) v = (Vh z c) v := AK _
abbrev AP7 : AE := [(.tmp 0, .own 55 U4), (.tmp 1, .di), (.tmp 2, .di), (.tmp 3, .clo 204 [])]
abbrev AP6 : AE := [(.obj 0, .own 55 U4)]
abbrev AP5 : List RS := []
abbrev ASJ : AE := [(.obj 0, .own 55 U4), (.tmp 0, .own' 0), (.tmp 1, .di), (.tmp 2, .di), (.tmp 3, .clo 204 []), (.tmp 8, .di), (.tmp 9, .di)]
abbrev ASH : At := [(.exit 2, [(.obj 0, .own 55 U4), (.tmp 0, .own' 0), (.tmp 1, .di), (.tmp 2, .di), (.tmp 3, .clo 204 []), (.tmp 8, .di)])]
def ASF [Lk] : Uf → Option (Uf ⊕ U7 ⊕ Unit) := O1 (([] : List (Int)) : U3) A9
abbrev ASK : AE := [(.obj 0, .own 55 U4), (.tmp 0, .own' 0), (.tmp 1, .di), (.tmp 2, .di), (.tmp 3, .clo 204 []), (.tmp 8, .di)]
abbrev ASI : At := [(.exit 0, [(.obj 0, .own 55 U4)])]
def ASG [Lk] : U7 → Option (U7 ⊕ Ul ⊕ Unit) := O2 (([] : List (Int)) : U3) A9
def AYj [Lk] : Uc → Option (Ul) := AGw (([] : List (Int)) : U3) A9
def AcK [Lk] (v : Uc) : Option (Ul) := AbB (([] : List (Int)) : U3) A9 v
theorem Aa3 v : AcK v = AYj v := AK _
abbrev AE4 : AE := [(.tmp 0, .own 55 U4), (.tmp 1, .di), (.tmp 2, .di), (.tmp 3, .di), (.tmp 4, .clo 204 [])]
abbrev AE3 : AE := [(.obj 0, .own 55 U4)]
abbrev AE2 : List RS := []
abbrev AI7 : AE := [(.obj 0, .own 55 U4), (.tmp 0, .own' 0), (.tmp 2, .di), (.tmp 3, .di), (.tmp 4, .clo 204 []), (.tmp 10, .di)]
abbrev AI6 : At := [(.exit 0, [(.obj 0, .own 55 U4)]), (.ret, [(.obj 0, .own 55 U4)])]
def AI5 [Lk] : U7 → Option (U7 ⊕ Ul ⊕ Ul ⊕ Unit) := KA (([] : List (Int)) : U3) A9
def ARi [Lk] : U7 → Option (Ul) := Vj (([] : List (Int)) : U3) A9
def AW4 [Lk] (v : U7) : Option (Ul) := AJC (([] : List (Int)) : U3) A9 v
theorem AW3 v : AW4 v = ARi v := AK _
abbrev AG4 : AE := [(.tmp 0, .own 55 U4), (.tmp 1, .di), (.tmp 2, .di), (.tmp 3, .clo 204 [])]
abbrev AG3 : AE := [(.obj 0, .own 55 U4)]
abbrev AG2 : List RS := []
abbrev ALd : AE := [(.obj 0, .own 55 U4), (.tmp 0, .own' 0), (.tmp 3, .clo 204 []), (.tmp 8, .di), (.tmp 9, .di), (.tmp 12, .di)]
abbrev ALb : At := [(.exit 2, [(.obj 0, .own 55 U4)])]
def ALY [Lk] : U7 → Option (U7 ⊕ Ul ⊕ Unit) := Kg (([] : List (Int)) : U3) A9
abbrev ALe : AE := [(.obj 0, .own 55 U4), (.tmp 0, .own' 0), (.tmp 3, .clo 204 []), (.tmp 8, .di), (.tmp 9, .di), (.tmp 10, .di), (.tmp 11, .di)]
abbrev ALc : At := [(.exit 0, [(.obj 0, .own 55 U4), (.tmp 0, .own' 0), (.tmp 3, .clo 204 []), (.tmp 8, .di), (.tmp 9, .di), (.tmp 10, .di)])]
def ALa [Lk] : Uf → Option (Uf ⊕ U7 ⊕ Unit) := Kh (([] : List (Int)) : U3) A9
def ASU [Lk] : Uc → Option (Ul) := Vz (([] : List (Int)) : U3) A9
def AY1 [Lk] (v : Uc) : Option (Ul) := ASV (([] : List (Int)) : U3) A9 v
theorem AY0 v : AY1 v = ASU v := AK _
abbrev AAY : AE := [(.tmp 0, .own 55 U4), (.tmp 1, .di), (.tmp 2, .di), (.tmp 3, .clo 204 [])]
abbrev AAX : AE := [(.obj 0, .own 55 U4)]
abbrev AAW : List RS := []
abbrev ADw : AE := [(.obj 0, .own 55 U4), (.tmp 0, .own' 0), (.tmp 1, .di), (.tmp 8, .di), (.tmp 9, .box 1), (.cell 1 0, .dat (.int .u64)), (.tmp 10, .dat (.int .u64)), (.tmp 11, .di)]
abbrev ADv : At := [(.exit 0, [(.obj 0, .own 55 U4)])]
def ADu [Lk] : Uo → Option (Uo ⊕ Ul ⊕ Unit) := Gi (([] : List (Int)) : U3) A9
def AMb [Lk] : Uc → Option (Ul) := Pe (([] : List (Int)) : U3) A9
def ARA [Lk] (v : Uc) : Option (Ul) := AHq (([] : List (Int)) : U3) A9 v
theorem AWB v : ARA v = AMb v := AK _
abbrev RP : AE := [(.tmp 0, .own 55 U4), (.tmp 1, .di), (.tmp 2, .di), (.tmp 3, .box 1), (.cell 1 0, .di), (.tmp 4, .clo 204 [])]
abbrev RO : AE := [(.obj 0, .own 55 U4), (.obj 1, .box 1), (.cell 1 0, .di), (.tmp 0, .di), (.tmp 1, .di)]
abbrev RN : List RS := [.one, .one]
def ADG [Lk] : U7 → Option (U7) := Li (([] : List (Int)) : U3) A9
def AF7 [Lk] (v : U7) : Option (U7) := Lj (([] : List (Int)) : U3) A9 v
theorem AOx v : AF7 v = ADG v := AK _
abbrev Rd : AE := [(.tmp 0, .own 55 U4), (.tmp 1, .di), (.tmp 2, .di), (.tmp 3, .di), (.tmp 4, .box 1), (.cell 1 0, .di), (.tmp 5, .clo 204 [])]
abbrev Rc : AE := [(.obj 0, .own 55 U4), (.obj 1, .box 1), (.cell 1 0, .di), (.tmp 0, .di)]
abbrev Rb : List RS := [.one]
def ADJ [Lk] : Uf → Option (Uc) := Lo (([] : List (Int)) : U3) A9
def AGJ [Lk] (v : Uf) : Option (Uc) := Lp (([] : List (Int)) : U3) A9 v
theorem APP v : AGJ v = ADJ v := AK _
abbrev Rj : AE := [(.tmp 0, .own 55 U4), (.tmp 1, .di), (.tmp 2, .box 1), (.cell 1 0, .di), (.tmp 3, .clo 204 [])]
abbrev Ri : AE := [(.obj 0, .own 55 U4), (.obj 1, .box 1), (.cell 1 0, .di), (.tmp 0, .di)]
abbrev Rh : List RS := [.one]
def ADK [Lk] : Uc → Option (Uc) := Lr (([] : List (Int)) : U3) A9
def AGM [Lk] (v : Uc) : Option (Uc) := Ls (([] : List (Int)) : U3) A9 v
theorem APR v : AGM v = ADK v := AK _
abbrev X0 : AE := [(.tmp 0, .own 55 U4), (.tmp 1, .di), (.tmp 2, .di), (.tmp 3, .clo 204 [])]
abbrev Xz : AE := [(.obj 0, .own 55 U4), (.tmp 0, .di), (.tmp 1, .di)]
abbrev Xy : List RS := [.one, .one]
def AJj [Lk] : Uc → Option (Uc) := OU (([] : List (Int)) : U3) A9
def AOR [Lk] (v : Uc) : Option (Uc) := AFg (([] : List (Int)) : U3) A9 v
theorem AT4 v : AOR v = AJj v := AK _
abbrev ANy : AE := [(.tmp 0, .own 55 U4), (.tmp 1, .di), (.tmp 2, .di), (.tmp 3, .clo 204 [])]
abbrev ANx : AE := [(.obj 0, .own 55 U4)]
abbrev ANw : List RS := []
abbrev ARm : AE := [(.obj 0, .own 55 U4), (.tmp 0, .own' 0), (.tmp 8, .di), (.tmp 9, .di)]
abbrev ARl : At := [(.exit 0, [(.obj 0, .own 55 U4)])]
def ARk [Lk] : Uc → Option (Uc ⊕ Ul ⊕ Unit) := Vm (([] : List (Int)) : U3) A9
def AXJ [Lk] : Uc → Option (Ul) := AFP (([] : List (Int)) : U3) A9
def Ab0 [Lk] (v : Uc) : Option (Ul) := AaR (([] : List (Int)) : U3) A9 v
theorem AaN v : Ab0 v = AXJ v := AK _
abbrev M4 : AE := [(.tmp 0, .own 55 U4), (.tmp 1, .di), (.tmp 2, .di), (.tmp 3, .clo 204 [])]
abbrev M3 : AE := [(.obj 0, .own 55 U4), (.tmp 0, .dat .bool)]
abbrev M0 : List RS := [.one]
abbrev Te : AE := [(.obj 0, .own 55 U4), (.tmp 0, .own' 0), (.tmp 1, .di), (.tmp 2, .di), (.tmp 3, .clo 204 []), (.tmp 9, .di), (.tmp 10, .di), (.tmp 12, .di)]
abbrev Ta : At := [(.exit 6, [(.obj 0, .own 55 U4), (.tmp 0, .own' 0), (.tmp 1, .di), (.tmp 2, .di), (.tmp 3, .clo 204 []), (.tmp 9, .di), (.tmp 10, .di)])]
def TW [Lk] : Uo → Option (Uo ⊕ Uf ⊕ Unit) := Fq (([] : List (Int)) : U3) A9
abbrev Tf : AE := [(.obj 0, .own 55 U4), (.tmp 0, .own' 0), (.tmp 1, .di), (.tmp 2, .di), (.tmp 3, .clo 204 []), (.tmp 9, .di), (.tmp 10, .di), (.tmp 11, .di)]
abbrev Tb : At := [(.exit 4, [(.obj 0, .own 55 U4), (.tmp 0, .own' 0), (.tmp 1, .di), (.tmp 2, .di), (.tmp 3, .clo 204 []), (.tmp 9, .di), (.tmp 10, .di)])]
def TX [Lk] : Uo → Option (Uo ⊕ Uf ⊕ Unit) := Fs (([] : List (Int)) : U3) A9
abbrev Tg : AE := [(.obj 0, .own 55 U4), (.tmp 0, .own' 0), (.tmp 1, .di), (.tmp 2, .di), (.tmp 3, .clo 204 []), (.tmp 9, .di), (.tmp 10, .di)]
abbrev Tc : At := [(.exit 2, [(.obj 0, .own 55 U4), (.tmp 0, .own' 0), (.tmp 1, .di), (.tmp 2, .di), (.tmp 3, .clo 204 []), (.tmp 9, .di), (.tmp 10, .di)])]
def TY [Lk] : Uf → Option (Uf ⊕ Uf ⊕ Unit) := Hj (([] : List (Int)) : U3) A9
abbrev Th : AE := [(.obj 0, .own 55 U4), (.tmp 0, .own' 0), (.tmp 1, .di), (.tmp 2, .di), (.tmp 3, .clo 204 []), (.tmp 9, .di), (.tmp 10, .di)]
abbrev Td : At := [(.ret, [(.obj 0, .own 55 U4), (.tmp 8, .dat .bool)]), (.exit 0, [(.obj 0, .own 55 U4)])]
def TZ [Lk] : Uf → Option (Uf ⊕ (List U3 × Bool × Unit) ⊕ Ul ⊕ Unit) := CP (([] : List (Int)) : U3) A9
def YF [Lk] : Uc → Option ((List U3 × Bool × Unit)) := I9 (([] : List (Int)) : U3) A9
def YG [Lk] (v : Uc) : Option ((List U3 × Bool × Unit)) := OY (([] : List (Int)) : U3) A9 v
theorem AKG v : YG v = YF v := AK _
abbrev RJ : AE := [(.tmp 0, .own 55 U4), (.tmp 1, .di), (.tmp 2, .di), (.tmp 3, .di), (.tmp 4, .clo 204 [])]
abbrev RI : AE := [(.obj 0, .own 55 U4), (.tmp 0, .di)]
abbrev RH : List RS := [.one]
abbrev YR : AE := [(.obj 0, .own 55 U4), (.tmp 0, .own' 0), (.tmp 1, .di), (.tmp 4, .clo 204 []), (.tmp 11, .di), (.tmp 12, .di)]
abbrev YO : At := [(.exit 4, [(.obj 0, .own 55 U4), (.tmp 0, .own' 0), (.tmp 1, .di), (.tmp 4, .clo 204 []), (.tmp 11, .di), (.tmp 12, .di)])]
def YL [Lk] : U7 → Option V3 := JA (([] : List (Int)) : U3) A9
abbrev YS : AE := [(.obj 0, .own 55 U4), (.tmp 0, .own' 0), (.tmp 1, .di), (.tmp 4, .clo 204 []), (.tmp 11, .di), (.tmp 12, .di)]
abbrev YP : At := [(.exit 2, [(.obj 0, .own 55 U4), (.tmp 0, .own' 0), (.tmp 1, .di), (.tmp 4, .clo 204 []), (.tmp 11, .di), (.tmp 12, .di)])]
def YM [Lk] : U7 → Option V3 := JB (([] : List (Int)) : U3) A9
abbrev YT : AE := [(.obj 0, .own 55 U4), (.tmp 0, .own' 0), (.tmp 1, .di), (.tmp 4, .clo 204 []), (.tmp 11, .di), (.tmp 12, .di)]
abbrev YQ : At := [(.exit 0, [(.obj 0, .own 55 U4), (.tmp 11, .di)])]
def YN [Lk] : U7 → Option (U7 ⊕ Uz ⊕ Unit) := JC (([] : List (Int)) : U3) A9
def ADD [Lk] : U7 → Option (Uz) := Lg (([] : List (Int)) : U3) A9
def AF2 [Lk] (v : U7) : Option (Uz) := Vr (([] : List (Int)) : U3) A9 v
theorem AOo v : AF2 v = ADD v := AK _
end
end Go.Pev
end
section
namespace Go.Pev
set_option maxRecDepth 100000
noncomputable section
attribute [local irreducible] Mc JS NP MV AYt AYu AYv Qy VH W0 ABI AAP AS many IntKind.wrap AN Al AT A8 DB DQ Im AG Cc Ci imax AR Ag
abbrev AFt : AE := [(.tmp 0, .own 55 U4), (.tmp 1, .di), (.tmp 2, .di), (.tmp 3, .di), (.tmp 4, .clo 204 [])]
abbrev AFs : AE := [(.obj 0, .own 55 U4), (.tmp 0, .di), (.tmp 1, .dat .bool)]
abbrev AFr : List RS := [.one, .one]
abbrev AJ3 : AE := [(.obj 0, .own 55 U4), (.tmp 0, .own' 0), (.tmp 1, .di), (.tmp 4, .clo 204 []), (.tmp 12, .di), (.tmp 13, .di)]
abbrev AJy : At := [(.exit 8, [(.obj 0, .own 55 U4), (.tmp 0, .own' 0), (.tmp 1, .di), (.tmp 4, .clo 204 []), (.tmp 12, .di), (.tmp 13, .di)])]
def AJp [Lk] : U7 → Option V3 := Oa (([] : List (Int)) : U3) A9
abbrev AJ4 : AE := [(.obj 0, .own 55 U4), (.tmp 0, .own' 0), (.tmp 1, .di), (.tmp 4, .clo 204 []), (.tmp 12, .di), (.tmp 13, .di)]
abbrev AJz : At := [(.exit 6, [(.obj 0, .own 55 U4), (.tmp 0, .own' 0), (.tmp 1, .di), (.tmp 4, .clo 204 []), (.tmp 12, .di), (.tmp 13, .di)])]
def AJr [Lk] : U7 → Option V3 := Oc (([] : List (Int)) : U3) A9
abbrev AJ5 : AE := [(.obj 0, .own 55 U4), (.tmp 0, .own' 0), (.tmp 1, .di), (.tmp 4, .clo 204 []), (.tmp 12, .di), (.tmp 13, .di)]
abbrev AJ0 : At := [(.exit 4, [(.obj 0, .own 55 U4), (.tmp 0, .own' 0), (.tmp 1, .di), (.tmp 13, .di)])]
def AJt [Lk] : U7 → Option (U7 ⊕ Uc ⊕ Unit) := Od (([] : List (Int)) : U3) A9
abbrev AJ6 : AE := [(.obj 0, .own 55 U4), (.tmp 0, .own' 0), (.tmp 1, .di), (.tmp 4, .clo 204 []), (.tmp 12, .di), (.tmp 13, .di)]
abbrev AJ1 : At := [(.exit 2, [(.obj 0, .own 55 U4), (.tmp 0, .own' 0), (.tmp 1, .di), (.tmp 4, .clo 204 []), (.tmp 12, .di), (.tmp 13, .di)])]
def AJv [Lk] : U7 → Option V3 := Oe (([] : List (Int)) : U3) A9
abbrev AJ7 : AE := [(.obj 0, .own 55 U4), (.tmp 0, .own' 0), (.tmp 1, .di), (.tmp 4, .clo 204 []), (.tmp 12, .di), (.tmp 13, .di)]
abbrev AJ2 : At := [(.exit 0, [(.obj 0, .own 55 U4), (.tmp 0, .own' 0), (.tmp 1, .di), (.tmp 4, .clo 204 []), (.tmp 12, .di), (.tmp 13, .di)])]
def AJx [Lk] : U7 → Option V3 := Of (([] : List (Int)) : U3) A9
def ARx [Lk] : U7 → Option ((List U3 × Int × Bool × Unit)) := Vq (([] : List (Int)) : U3) A9
def AXr [Lk] (v : U7) : Option ((List U3 × Int × Bool × Unit)) := ADC (([] : List (Int)) : U3) A9 v
theorem AXq v : AXr v = ARx v := AK _
abbrev X6 : AE := [(.tmp 0, .own 55 U4), (.tmp 1, .di), (.tmp 2, .di), (.tmp 3, .di), (.tmp 4, .clo 204 [])]
abbrev X5 : AE := [(.obj 0, .own 55 U4)]
abbrev X4 : List RS := []
abbrev ARt : AE := [(.obj 0, .own 55 U4), (.tmp 0, .own' 0), (.tmp 1, .di), (.tmp 2, .di), (.tmp 3, .di), (.tmp 4, .clo 204 []), (.tmp 10, .dat .bool), (.tmp 11, .dat .bool)]
abbrev ARs : At := [(.ret, [(.obj 0, .own 55 U4)])]
def ARr [Lk] (self : U7 → Option (Ul)) : (List U3 × Int × Int × Int × Bool × Bool × Unit) → Option ((List U3 × Int × Int × Int × Bool × Bool × Unit) ⊕ Ul ⊕ Unit) := OX (([] : List (Int)) : U3) A9 self
def Ab5 [Lk] (self : U7 → Option (Ul)) : U7 → Option (Ul) := AFp (([] : List (Int)) : U3) A9 self
def X7 [Lk] : Nat → U7 → Option (Ul) := KK (([] : List (Int)) : U3) A9
def AaY [Lk] (v : U7) : Option (Ul) := Aac (([] : List (Int)) : U3) A9 v
theorem AaX v : AaY v = X7 100 v := AK _
abbrev AEy : AE := [(.tmp 0, .own 55 U4), (.tmp 1, .clo 204 [])]
abbrev AEx : AE := [(.obj 0, .own 55 U4)]
abbrev AEw : List RS := []
def ARh [Lk] : Ul → Option (Ul) := Vh (([] : List (Int)) : U3) A9
def AI0 [Lk] (v : Ul) : Option (Ul) := AW0 (([] : List (Int)) : U3) A9 v
theorem AWy v : AI0 v = ARh v := AK _
abbrev AEQ : AE := [(.tmp 0, .dat Ub), (.tmp 1, .dat U4), (.tmp 2, .dat Uk)]
abbrev AEP : AE := [(.tmp 0, .di), (.tmp 1, .own 55 U4)]
abbrev AEO : List RS := [.agg 2]
abbrev AIZ : AE := [(.tmp 3, .box 2), (.cell 0 0, .di), (.cell 0 1, .dat Uk), (.tmp 6, .box 2), (.cell 1 0, .di), (.cell 1 1, .nil U4), (.tmp 7, .own 55 U4), (.tmp 29, .dat Uk), (.tmp 30, .di), (.tmp 31, .di)]
abbrev AIX : At := [(.exit 2, [(.tmp 3, .box 2), (.cell 0 0, .di), (.cell 0 1, .dat Uk), (.tmp 6, .box 2), (.cell 1 0, .di), (.cell 1 1, .nil U4), (.tmp 7, .own 55 U4)])]
def Gn [Lk] : (Int × List U3 × Int × List U3 × List U3 × Int × Int × Unit) → Option ((Int × List U3 × Int × List U3 × List U3 × Int × Int × Unit) ⊕ (Int × List U3 × Int × List U3 × Unit) ⊕ Unit) := fun (a0, a1, a2, a3, a4, a5, a6, _) =>
 match (ilt a6 a5) with
 | true => match idx a4 a6 with
  | none => none
  | some x0 => match XM (x0, ()) with
  | none => none
  | some (y1, _) => match (fits ((AN a3) + (AN ([y1] : List U3)))) with
  | true => some (.inl (a0, a1, a2, (A8 a3 ([y1] : List U3)), a4, a5, (IntKind.wrap .i64 (a6 + 1)), ()))
  | false => none
 | false => some (.inr (.inl (a0, a1, a2, a3, ())))
abbrev AIa : AE := [(.tmp 1, .dat U4), (.tmp 2, .dat Uk), (.tmp 3, .box 2), (.cell 0 0, .di), (.cell 0 1, .dat Uk), (.tmp 6, .box 2), (.cell 1 0, .di), (.cell 1 1, .nil U4), (.tmp 7, .own 55 U4), (.tmp 13, .dat Uk), (.tmp 14, .di), (.tmp 15, .di)]
abbrev AIY : At := [(.exit 0, [(.tmp 2, .dat Uk), (.tmp 3, .box 2), (.cell 0 0, .di), (.cell 0 1, .dat Uk), (.tmp 6, .box 2), (.cell 1 0, .di), (.cell 1 1, .nil U4), (.tmp 7, .own 55 U4)])]
def Gp [Lk] : V5 → Option (V5 ⊕ (List U3 × Int × List U3 × Int × List U3 × Unit) ⊕ Unit) := fun (a0, a1, a2, a3, a4, a5, a6, a7, a8, _) =>
 match (ilt a8 a7) with
 | true => match idx a6 a8 with
  | none => none
  | some x0 => match FL (a0, a8, ()) with
  | none => none
  | some (y1, _) => match (!y1) with
  | true => match (fits ((AN a5) + (AN ([x0] : List U3)))) with
   | true => some (.inl (a0, a1, a2, a3, a4, (A8 a5 ([x0] : List U3)), a6, a7, (IntKind.wrap .i64 (a8 + 1)), ()))
   | false => none
  | false => some (.inl (a0, a1, a2, a3, a4, a5, a6, a7, (IntKind.wrap .i64 (a8 + 1)), ()))
 | false => some (.inr (.inl (a1, a2, a3, a4, a5, ())))
def Va [Lk] : (Uh × List Int × List U3 × Unit) → Option ((Int × List U3 × Unit)) := fun (a0, a1, a2, _) =>
 match AX Gp many (a1, a2, a0.1, a0.2.1, 0, ([] : List U3), a0.2.1, (AN a0.2.1), 0, ()) with
 | none => none
 | some r => match r with
 | .inl (o0, o1, o2, o3, o4, _) => match AX Gn many (o1, o2, o3, o4, o0, (AN o0), 0, ()) with
  | none => none
  | some r => match r with
  | .inl (o5, o6, o7, o8, _) => match AI0 (o8, ()) with
   | none => none
   | some (y9, _) => some (o5, y9, ())
  | .inr _ => none
 | .inr _ => none
def AIc [Lk] := fun v => Lk.f (Va v)
theorem AIb v : AIc v = Va v := AK _
abbrev AEp : AE := [(.tmp 0, .dat Ub), (.tmp 1, .di), (.tmp 2, .di)]
abbrev AEo : AE := [(.tmp 0, .di), (.tmp 1, .dat Uk), (.tmp 2, .di)]
abbrev AEn : List RS := [.agg 2, .one]
def GP [Lk] : (Uh × Int × Int × Unit) → Option (Uv) := fun (a0, a1, a2, _) =>
 match asked ((a0.1, (a0.2.1, ())), a1, a2, ()) with
 | none => none
 | some (y0, _) => match (!(ieq y0 0)) with
 | true => some (a0.1, a0.2.1, y0, ())
 | false => match Qa ((a0.1, (a0.2.1, ())), a1, ()) with
 | none => none
 | some (y1, _) => match Qa ((a0.1, (a0.2.1, ())), a2, ()) with
 | none => none
 | some (y2, _) => match (ieq y1 y2) with
 | true => some (a0.1, a0.2.1, 5, ())
 | false => match idx a0.2.1 y1 with
 | none => none
 | some x3 => match AC0 (x3, a1, ()) with
 | none => none
 | some (y4, y5, _) => match idx a0.2.1 y2 with
 | none => none
 | some x6 => match AC0 (x6, a2, ()) with
 | none => none
 | some (y7, y8, _) => match Df y4 0 1 with
 | none => none
 | some x9 => match ATS (a0.1, a1, a2, ()) with
 | none => none
 | some (y10, _) => match ATS (a0.1, a2, a1, ()) with
 | none => none
 | some (y11, _) => match Df y4 1 (AN y4) with
 | none => none
 | some x12 => match H0 (([(DQ 0 (AG (AN x9)) y4), ([y10] : List (Int)), y7, ([y11] : List (Int)), (DQ 1 (AG (AN x12)) y4)] : List U3), ()) with
 | none => none
 | some (y13, _) => match AIc ((a0.1, (a0.2.1, ())), ([y1, y2] : List (Int)), ([y13] : List U3), ()) with
 | none => none
 | some (y14, y15, _) => some (y14, y15, 0, ())
def J8 [Lk] := fun v => Lk.f (GP v)
theorem Gw v : J8 v = GP v := AK _
abbrev FG : AE := [(.tmp 0, .dat U4), (.cap 1 0, .box 2), (.cell 0 0, .di), (.cell 0 1, .dat Uk), (.tmp 1, .clo 155 [(0, 0)])]
abbrev FF : AE := [(.obj 0, .box 2), (.cell 0 0, .di), (.cell 0 1, .dat Uk), (.tmp 0, .di)]
abbrev FE : List RS := [.one]
abbrev Hr : AE := [(.obj 0, .box 2), (.cell 0 0, .di), (.cell 0 1, .dat Uk), (.tmp 0, .dat U4), (.tmp 1, .clo 155 [(0, 0)]), (.tmp 7, .di), (.tmp 8, .di)]
abbrev Hq : At := [(.ret, [(.obj 0, .box 2), (.cell 0 0, .di), (.cell 0 1, .dat Uk), (.tmp 4, .di)]), (.exit 0, [(.obj 0, .box 2), (.cell 0 0, .di), (.cell 0 1, .dat Uk)])]
def BY [Lk] : (Int × List U3 × List Int × Int × Int × Unit) → Option ((Int × List U3 × List Int × Int × Int × Unit) ⊕ Uv ⊕ (Int × List U3 × Unit) ⊕ Unit) := fun (a0, a1, a2, a3, a4, _) =>
 match (ilt a4 a3) with
 | true => match idx a2 a4 with
  | none => none
  | some x0 => match (ilt x0 0) with
  | true => some (.inr (.inl (a0, a1, a4, ())))
  | false => match (ile a0 x0) with
  | true => some (.inr (.inl (a0, a1, a4, ())))
  | false => some (.inl (a0, a1, a2, a3, (IntKind.wrap .i64 (a4 + 1)), ()))
 | false => some (.inr (.inr (.inl (a0, a1, ()))))
def DP [Lk] : (List Int × Int × List U3 × Unit) → Option (Uv) := fun (a0, a1, a2, _) =>
 match AX BY many (a1, a2, a0, (AN a0), 0, ()) with
 | none => none
 | some r => match r with
 | .inl (o0, o1, o2, _) => some (o0, o1, o2, ())
 | .inr r => match r with
 | .inl (o3, o4, _) => some (o3, o4, (-1 : Int), ())
 | .inr _ => none
def Ee [Lk] := fun v => Lk.f (DP v)
theorem Hs v : Ee v = DP v := AK _
abbrev Ek : AE := [(.tmp 0, .dat U4), (.cap 1 0, .box 2), (.cell 0 0, .di), (.cell 0 1, .dat Uk), (.tmp 1, .clo 155 [(0, 0)])]
abbrev Ej : AE := [(.obj 0, .box 2), (.cell 0 0, .di), (.cell 0 1, .dat Uk), (.tmp 0, .dat .bool)]
abbrev Ei : List RS := [.one]
def Cs [Lk] : (List Int × Int × List U3 × Unit) → Option ((Int × List U3 × Bool × Unit)) := fun (a0, a1, a2, _) =>
 match Ee (a0, a1, a2, ()) with
 | none => none
 | some (y0, y1, y2, _) => some (y0, y1, (ile 0 y2), ())
def Cj [Lk] := fun v => Lk.f (Cs v)
theorem HP v : Cj v = Cs v := AK _
abbrev Zp : AE := [(.tmp 0, .dat Ub), (.tmp 1, .dat U4)]
abbrev Zo : AE := [(.tmp 0, .di)]
abbrev Zn : List RS := [.one]
def PF [Lk] : (Uh × List Int × Unit) → Option (U8) := fun (a0, a1, _) =>
 match QV ((a0.1, (a0.2.1, ())), ()) with
 | none => none
 | some (y0, _) => match (!y0) with
 | true => some (1, ())
 | false => match Cj (a1, a0.1, a0.2.1, ()) with
 | none => none
 | some (y1, y2, y3, _) => match y3 with
 | true => some (10, ())
 | false => some (0, ())
def NT [Lk] := fun v => Lk.f (PF v)
theorem ADi v : NT v = PF v := AK _
abbrev AQg : AE := [(.tmp 0, .dat Uu)]
abbrev AQf : AE := [(.tmp 0, .own 3 U0)]
abbrev AQe : List RS := [.one]
abbrev ASf : AE := [(.tmp 3, .own 3 U0), (.tmp 6, .dat Uu), (.tmp 7, .di), (.tmp 8, .di)]
abbrev ASe : At := [(.exit 0, [(.tmp 3, .own 3 U0)])]
def JT [Lk] : (List Int × List U5 × Int × Int × Unit) → Option ((List Int × List U5 × Int × Int × Unit) ⊕ Ua ⊕ Unit) := fun (a0, a1, a2, a3, _) =>
 match (ilt a3 a2) with
 | true => match idx a1 a3 with
  | none => none
  | some x0 => match (fits ((AN a0) + (AN ([x0.1, x0.2.1] : List (Int))))) with
  | true => some (.inl ((A8 a0 ([x0.1, x0.2.1] : List (Int))), a1, a2, (IntKind.wrap .i64 (a3 + 1)), ()))
  | false => none
 | false => some (.inr (.inl (a0, ())))
def AHO [Lk] : Uy → Option (Ua) := fun (a0, _) =>
 match AX JT many (([] : List (Int)), a0, (AN a0), 0, ()) with
 | none => none
 | some r => match r with
 | .inl (o0, _) => some (o0, ())
 | .inr _ => none
def ends [Lk] := fun v => Lk.f (AHO v)
theorem ASg v : ends v = AHO v := AK _
abbrev Ng : AE := [(.tmp 0, .dat Ub), (.tmp 1, .dat Uu), (.tmp 2, .clo 161 [])]
abbrev Nf : AE := [(.tmp 0, .dat Ub), (.tmp 1, .own 4 .bool), (.tmp 2, .di)]
abbrev Nd : List RS := [.one, .one, .one]
abbrev UC : AE := [(.tmp 2, .clo 161 []), (.tmp 3, .box 2), (.cell 0 0, .di), (.cell 0 1, .dat Uk), (.tmp 6, .box 2), (.cell 1 0, .di), (.cell 1 1, .nil U4), (.tmp 10, .own 4 .bool), (.tmp 23, .dat Uu), (.tmp 24, .di), (.tmp 25, .di)]
abbrev UB : At := [(.exit 0, [(.tmp 3, .box 2), (.cell 0 0, .di), (.cell 0 1, .dat Uk), (.tmp 6, .box 2), (.cell 1 0, .di), (.cell 1 1, .nil U4), (.tmp 10, .own 4 .bool)])]
def Bk [Lk] : (Int × List U3 × Int × List Bool × List U5 × Int × Int × Unit) → Option ((Int × List U3 × Int × List Bool × List U5 × Int × Int × Unit) ⊕ (Int × List U3 × Int × List Bool × Unit) ⊕ Unit) := fun (a0, a1, a2, a3, a4, a5, a6, _) =>
 match (ilt a6 a5) with
 | true => match idx a4 a6 with
  | none => none
  | some x0 => match J8 ((a0, (a1, ())), x0.1, x0.2.1, ()) with
  | none => none
  | some (y1, y2, y3, _) => match (fits ((AN a3) + (AN ([(ieq y3 0)] : List (Bool))))) with
  | true => some (.inl (y1, y2, a2, (A8 a3 ([(ieq y3 0)] : List (Bool))), a4, a5, (IntKind.wrap .i64 (a6 + 1)), ()))
  | false => none
 | false => some (.inr (.inl (a0, a1, a2, a3, ())))
def HN [Lk] : (Uh × List U5 × Unit) → Option ((Uh × List Bool × Int × Unit)) := fun (a0, a1, _) =>
 match ends (a1, ()) with
 | none => none
 | some (y0, _) => match NT ((a0.1, (a0.2.1, ())), y0, ()) with
 | none => none
 | some (y1, _) => match (!(ieq y1 0)) with
 | true => some ((a0.1, (a0.2.1, ())), ([] : List (Bool)), y1, ())
 | false => match AX Bk many (a0.1, a0.2.1, 0, ([] : List (Bool)), a1, (AN a1), 0, ()) with
 | none => none
 | some r => match r with
 | .inl (o2, o3, o4, o5, _) => some ((o2, (o3, ())), o5, 0, ())
 | .inr _ => none
def PM [Lk] := fun v => Lk.f (HN v)
theorem Km v : PM v = HN v := AK _
abbrev Zv : AE := [(.tmp 0, .dat Ub), (.tmp 1, .dat Uu)]
abbrev Zu : AE := [(.tmp 0, .dat Ub), (.tmp 1, .own 4 .bool), (.tmp 2, .di)]
abbrev Zt : List RS := [.one, .one, .one]
def Kj [Lk] : (Uh × List U5 × Unit) → Option ((Uh × List Bool × Int × Unit)) := fun (a0, a1, _) =>
 match PM ((a0.1, (a0.2.1, ())), a1, ()) with
 | none => none
 | some (y0, y1, y2, _) => some ((y0.1, (y0.2.1, ())), y1, y2, ())
def AHH [Lk] := fun v => Lk.f (Kj v)
theorem SQ v : AHH v = Kj v := AK _
abbrev AZK : AE := [(.tmp 0, .di), (.tmp 1, .dat Uu)]
abbrev AZJ : AE := [(.tmp 0, .dat Ub), (.tmp 1, .di)]
abbrev AZI : List RS := [.one, .one]
def ALx [Lk] : (Int × List U5 × Unit) → Option (V6) := fun (a0, a1, _) =>
 match AIw (a0, ()) with
 | none => none
 | some (y0, y1, y2, _) => match (!(ieq y2 0)) with
 | true => some ((0, (([] : List U3), ())), y2, ())
 | false => match AHH ((y0, (y1, ())), a1, ()) with
 | none => none
 | some (y3, y4, y5, _) => match (!(ieq y5 0)) with
 | true => some ((0, (([] : List U3), ())), y5, ())
 | false => some ((y3.1, (y3.2.1, ())), 0, ())
def fof [Lk] := fun v => Lk.f (ALx v)
theorem AQW v : fof v = ALx v := AK _
abbrev AYB : AE := [(.tmp 0, .dat U4)]
abbrev AX9 : AE := [(.tmp 0, .di)]
abbrev AX7 : List RS := [.one]
abbrev AYA : AE := [(.tmp 3, .di), (.tmp 6, .dat U4), (.tmp 7, .di), (.tmp 8, .di)]
abbrev AX8 : At := [(.ret, [(.tmp 2, .di)]), (.exit 0, [(.tmp 3, .di)])]
def M8 [Lk] : (Int × List Int × Int × Int × Unit) → Option ((Int × List Int × Int × Int × Unit) ⊕ U8 ⊕ U8 ⊕ Unit) := fun (a0, a1, a2, a3, _) =>
 match (ilt a3 a2) with
 | true => match idx a1 a3 with
  | none => none
  | some x0 => match (!(ieq x0 a0)) with
  | true => some (.inr (.inl (x0, ())))
  | false => some (.inl (a0, a1, a2, (IntKind.wrap .i64 (a3 + 1)), ()))
 | false => some (.inr (.inr (.inl (a0, ()))))
def ARz [Lk] : Ua → Option (U8) := fun (a0, _) =>
 match AX M8 many (0, a0, (AN a0), 0, ()) with
 | none => none
 | some r => match r with
 | .inl (o0, _) => some (o0, ())
 | .inr r => match r with
 | .inl (o1, _) => some (o1, ())
 | .inr _ => none
def orI [Lk] := fun v => Lk.f (ARz v)
theorem AYD v : orI v = ARz v := AK _
abbrev Yz : AE := [(.tmp 0, .di)]
abbrev Yy : AE := [(.tmp 0, .dat .bool)]
abbrev Yx : List RS := [.one]
def IV [Lk] : U8 → Option (Ug) := fun (a0, _) =>
 match (ile 1 a0) with
 | true => some ((ile a0 64), ())
 | false => some (false, ())
def NC [Lk] := fun v => Lk.f (IV v)
theorem Lt v : NC v = IV v := AK _
abbrev APZ : AE := [(.tmp 0, .di)]
abbrev APY : AE := [(.tmp 0, .di)]
abbrev APX : List RS := [.one]
def AGR [Lk] : U8 → Option (U8) := fun (a0, _) =>
 match NC (a0, ()) with
 | none => none
 | some (y0, _) => match (!y0) with
 | true => some (0, ())
 | false => match bitsLen ((IntKind.wrap .u64 (IntKind.wrap .i64 (a0 - 1))), ()) with
 | none => none
 | some (y1, _) => some (y1, ())
def Rp [Lk] := fun v => Lk.f (AGR v)
theorem ASD v : Rp v = AGR v := AK _
abbrev NI : AE := [(.tmp 0, .dat V1), (.tmp 1, .dat V1)]
abbrev NH : AE := [(.tmp 0, .di)]
abbrev NG : List RS := [.one]
def HC [Lk] : (U2 × U2 × Unit) → Option (U8) := fun (a0, a1, _) =>
 match HS (a0.1, a1.1, ()) with
 | none => none
 | some (y0, _) => match HS (a0.2.1, a1.2.1, ()) with
 | none => none
 | some (y1, _) => match orI (([y0, y1] : List (Int)), ()) with
 | none => none
 | some (y2, _) => some (y2, ())
def C9 [Lk] := fun v => Lk.f (HC v)
theorem Kb v : C9 v = HC v := AK _
abbrev Yv : AE := [(.tmp 0, .dat Ue), (.tmp 1, .di)]
abbrev Yu : AE := [(.tmp 0, .own 42 U9)]
abbrev Yt : List RS := [.one]
abbrev ADP : AE := [(.tmp 1, .di), (.tmp 5, .own 42 U9), (.tmp 9, .dat U1), (.tmp 10, .di), (.tmp 11, .di)]
abbrev ADO : At := [(.exit 0, [(.tmp 5, .own 42 U9)])]
def CK [Lk] : (Int × List U5 × List U2 × Int × Int × Unit) → Option ((Int × List U5 × List U2 × Int × Int × Unit) ⊕ Uy ⊕ Unit) := fun (a0, a1, a2, a3, a4, _) =>
 match (ilt a4 a3) with
 | true => match idx a2 a4 with
  | none => none
  | some x0 => match x0.2.2.2.1 with
  | true => match (ile a0 x0.2.2.1) with
   | true => match (fits ((AN a1) + (AN ([(x0.1, (x0.2.1, ()))] : List U5)))) with
    | true => some (.inl (a0, (A8 a1 ([(x0.1, (x0.2.1, ()))] : List U5)), a2, a3, (IntKind.wrap .i64 (a4 + 1)), ()))
    | false => none
   | false => some (.inl (a0, a1, a2, a3, (IntKind.wrap .i64 (a4 + 1)), ()))
  | false => some (.inl (a0, a1, a2, a3, (IntKind.wrap .i64 (a4 + 1)), ()))
 | false => some (.inr (.inl (a1, ())))
def KX [Lk] : (Ui × Int × Unit) → Option (Uy) := fun (a0, a1, _) =>
 match AX CK many (a1, ([] : List U5), a0.2.1, (AN a0.2.1), 0, ()) with
 | none => none
 | some r => match r with
 | .inl (o0, _) => some (o0, ())
 | .inr _ => none
def NB [Lk] := fun v => Lk.f (KX v)
theorem Ro v : NB v = KX v := AK _
abbrev Y3 : AE := [(.tmp 0, .dat Ue)]
abbrev Y2 : AE := [(.tmp 0, .dat .bool)]
abbrev Y1 : List RS := [.one]
abbrev ADS : AE := [(.tmp 1, .box 2), (.cell 0 0, .di), (.cell 0 1, .dat U1), (.tmp 3, .di), (.tmp 23, .dat U1), (.tmp 24, .di), (.tmp 25, .di)]
abbrev ADR : At := [(.ret, [(.tmp 2, .dat .bool)]), (.exit 0, [(.tmp 1, .box 2), (.cell 0 0, .di), (.cell 0 1, .dat U1)])]
def DL [Lk] : (Int × List U2 × Int × List U2 × Int × Int × Unit) → Option ((Int × List U2 × Int × List U2 × Int × Int × Unit) ⊕ Ug ⊕ (Int × List U2 × Unit) ⊕ Unit) := fun (a0, a1, a2, a3, a4, a5, _) =>
 match (ilt a5 a4) with
 | true => match idx a3 a5 with
  | none => none
  | some x0 => match (ilt x0.1 0) with
  | true => some (.inr (.inl (false, ())))
  | false => match (ile x0.2.1 x0.1) with
  | true => some (.inr (.inl (false, ())))
  | false => match (ile a0 x0.2.1) with
  | true => some (.inr (.inl (false, ())))
  | false => match (ilt x0.2.2.1 0) with
  | true => some (.inr (.inl (false, ())))
  | false => match (ilt a2 x0.2.2.1) with
  | true => some (.inr (.inl (false, ())))
  | false => match (ilt 0 a5) with
  | true => match idx a1 (IntKind.wrap .i64 (a5 - 1)) with
   | none => none
   | some x1 => match C9 ((x1.1, (x1.2.1, (x1.2.2.1, (x1.2.2.2.1, ())))), (x0.1, (x0.2.1, (x0.2.2.1, (x0.2.2.2.1, ())))), ()) with
   | none => none
   | some (y2, _) => match (ile 0 y2) with
   | true => some (.inr (.inl (false, ())))
   | false => some (.inl (a0, a1, a2, a3, a4, (IntKind.wrap .i64 (a5 + 1)), ()))
  | false => some (.inl (a0, a1, a2, a3, a4, (IntKind.wrap .i64 (a5 + 1)), ()))
 | false => some (.inr (.inr (.inl (a0, a1, ()))))
def G6 [Lk] : (Ui × Unit) → Option (Ug) := fun (a0, _) =>
 match NC (a0.1, ()) with
 | none => none
 | some (y0, _) => match (!y0) with
 | true => some (false, ())
 | false => match (ilt 400 (AN a0.2.1)) with
 | true => some (false, ())
 | false => match Rp (a0.1, ()) with
 | none => none
 | some (y1, _) => match AX DL many (a0.1, a0.2.1, y1, a0.2.1, (AN a0.2.1), 0, ()) with
 | none => none
 | some r => match r with
 | .inl (o2, _) => some (o2, ())
 | .inr r => match r with
 | .inl (o3, o4, _) => match NB ((o3, (o4, ())), 0, ()) with
  | none => none
  | some (y5, _) => match fof (o3, y5, ()) with
  | none => none
  | some (y6, y7, _) => match (ieq y7 0) with
  | true => some ((ieq (AN y6.2.1) (IntKind.wrap .i64 (o3 - (AN y5)))), ())
  | false => some (false, ())
 | .inr _ => none
def CZ [Lk] := fun v => Lk.f (G6 v)
theorem IW v : CZ v = G6 v := AK _
abbrev ZQ : AE := [(.tmp 0, .dat Ue)]
abbrev ZP : AE := [(.tmp 0, .own 42 U9)]
abbrev ZO : List RS := [.one]
abbrev ADW : AE := [(.tmp 3, .own 42 U9), (.tmp 10, .dat U1), (.tmp 11, .di), (.tmp 12, .di)]
abbrev ADV : At := [(.exit 0, [(.tmp 3, .own 42 U9)])]
def E4 [Lk] : (List U5 × List U2 × Int × Int × Unit) → Option ((List U5 × List U2 × Int × Int × Unit) ⊕ Uy ⊕ Unit) := fun (a0, a1, a2, a3, _) =>
 match (ilt a3 a2) with
 | true => match idx a1 a3 with
  | none => none
  | some x0 => match (fits ((AN a0) + (AN ([(x0.1, (x0.2.1, ()))] : List U5)))) with
  | true => some (.inl ((A8 a0 ([(x0.1, (x0.2.1, ()))] : List U5)), a1, a2, (IntKind.wrap .i64 (a3 + 1)), ()))
  | false => none
 | false => some (.inr (.inl (a0, ())))
def Ka [Lk] : (Ui × Unit) → Option (Uy) := fun (a0, _) =>
 match CZ ((a0.1, (a0.2.1, ())), ()) with
 | none => none
 | some (y0, _) => match (!y0) with
 | true => some (([] : List U5), ())
 | false => match AX E4 many (([] : List U5), a0.2.1, (AN a0.2.1), 0, ()) with
 | none => none
 | some r => match r with
 | .inl (o1, _) => some (o1, ())
 | .inr _ => none
def ND [Lk] := fun v => Lk.f (Ka v)
theorem R9 v : ND v = Ka v := AK _
abbrev Kx : AE := [(.tmp 0, .di), (.tmp 1, .dat Uu)]
abbrev Kw : AE := [(.tmp 0, .own 3 U0)]
abbrev Kv : List RS := [.one]
abbrev PZ : AE := [(.tmp 0, .di), (.tmp 1, .dat Uu), (.tmp 5, .own 3 U0), (.tmp 7, .dat .bool), (.tmp 8, .di)]
abbrev PW : At := [(.exit 4, [(.tmp 0, .di), (.tmp 1, .dat Uu), (.tmp 5, .own 3 U0), (.tmp 7, .dat .bool)])]
def Cd [Lk] : (Int × List U5 × List Int × Bool × Int × Unit) → Option ((Int × List U5 × List Int × Bool × Int × Unit) ⊕ V7 ⊕ Unit) := fun (a0, a1, a2, a3, a4, _) =>
 match (ilt a4 (AN a1)) with
 | true => match idx a1 a4 with
  | none => none
  | some x0 => match idx a1 a4 with
  | none => none
  | some x1 => match (ilt x0.1 0) with
  | true => some (.inl (a0, a1, a2, a3, (IntKind.wrap .i64 (a4 + 1)), ()))
  | false => match (ilt x1.2.1 0) with
  | true => some (.inl (a0, a1, a2, a3, (IntKind.wrap .i64 (a4 + 1)), ()))
  | false => match (ile a0 x0.1) with
  | true => some (.inl (a0, a1, a2, a3, (IntKind.wrap .i64 (a4 + 1)), ()))
  | false => match (ile a0 x1.2.1) with
  | true => some (.inl (a0, a1, a2, a3, (IntKind.wrap .i64 (a4 + 1)), ()))
  | false => match idx a2 x0.1 with
  | none => none
  | some x2 => match idx a2 x1.2.1 with
  | none => none
  | some x3 => match (ieq (AT a2 (AG x0.1) 0) (AT a2 (AG x1.2.1) 0)) with
  | true => some (.inl (a0, a1, a2, a3, (IntKind.wrap .i64 (a4 + 1)), ()))
  | false => match idx a2 x0.1 with
  | none => none
  | some x4 => match idx a2 x1.2.1 with
  | none => none
  | some x5 => match idx a2 x0.1 with
  | none => none
  | some x6 => match idx (Al a2 (AG x0.1) (Ci (AT a2 (AG x0.1) 0) (AT a2 (AG x1.2.1) 0))) x1.2.1 with
  | none => none
  | some x7 => some (.inl (a0, a1, (Al (Al a2 (AG x0.1) (Ci (AT a2 (AG x0.1) 0) (AT a2 (AG x1.2.1) 0))) (AG x1.2.1) (Ci (AT a2 (AG x0.1) 0) (AT a2 (AG x1.2.1) 0))), true, (IntKind.wrap .i64 (a4 + 1)), ()))
 | false => some (.inr (.inl (a0, a1, a2, a3, ())))
abbrev Pa : AE := [(.tmp 0, .di), (.tmp 1, .dat Uu), (.tmp 5, .own 3 U0), (.tmp 7, .dat .bool)]
abbrev PX : At := [(.exit 2, [(.tmp 5, .own 3 U0)])]
def DS [Lk] : V7 → Option (V7 ⊕ Ua ⊕ Unit) := fun (a0, a1, a2, a3, _) =>
 match a3 with
 | true => match AX Cd many (a0, a1, a2, false, 0, ()) with
  | none => none
  | some r => match r with
  | .inl (o0, o1, o2, o3, _) => some (.inl (o0, o1, o2, o3, ()))
  | .inr _ => none
 | false => some (.inr (.inl (a2, ())))
abbrev Pb : AE := [(.tmp 0, .di), (.tmp 1, .dat Uu), (.tmp 5, .own 3 U0), (.tmp 6, .di)]
abbrev PY : At := [(.exit 0, [(.tmp 0, .di), (.tmp 1, .dat Uu), (.tmp 5, .own 3 U0)])]
def Ce [Lk] : (Int × List U5 × List Int × Int × Unit) → Option ((Int × List U5 × List Int × Int × Unit) ⊕ (Int × List U5 × List Int × Unit) ⊕ Unit) := fun (a0, a1, a2, a3, _) =>
 match (ilt a3 a0) with
 | true => match (fits ((AN a2) + (AN ([a3] : List (Int))))) with
  | true => some (.inl (a0, a1, (A8 a2 ([a3] : List (Int))), (IntKind.wrap .i64 (a3 + 1)), ()))
  | false => none
 | false => some (.inr (.inl (a0, a1, a2, ())))
def H3 [Lk] : (Int × List U5 × Unit) → Option (Ua) := fun (a0, a1, _) =>
 match AX Ce many (a0, a1, ([] : List (Int)), 0, ()) with
 | none => none
 | some r => match r with
 | .inl (o0, o1, o2, _) => match AX DS many (o0, o1, o2, true, ()) with
  | none => none
  | some r => match r with
  | .inl (o3, _) => some (o3, ())
  | .inr _ => none
 | .inr _ => none
def Gh [Lk] := fun v => Lk.f (H3 v)
theorem Pc v : Gh v = H3 v := AK _
abbrev AEf : AE := [(.tmp 0, .di)]
abbrev AEe : AE := [(.tmp 0, .di)]
abbrev AEd : List RS := [.one]
abbrev AIp : AE := [(.tmp 3, .di), (.tmp 4, .di)]
abbrev AIo : At := [(.exit 0, [(.tmp 3, .di)])]
def Ws [Lk] : U5 → Option (U5 ⊕ U8 ⊕ Unit) := fun (a0, a1, _) =>
 match (ilt 0 a1) with
 | true => match quo? .i64 a1 2 with
  | none => none
  | some x0 => some (.inl ((IntKind.wrap .i64 (a0 + 1)), x0, ()))
 | false => some (.inr (.inl (a0, ())))
def Vd [Lk] : U8 → Option (U8) := fun (a0, _) =>
 match (ilt a0 1) with
 | true => some (0, ())
 | false => match (ilt 64 a0) with
 | true => some (0, ())
 | false => match AX Ws many (0, (IntKind.wrap .i64 (a0 - 1)), ()) with
 | none => none
 | some r => match r with
 | .inl (o0, _) => some (o0, ())
 | .inr _ => none
def He [Lk] := fun v => Lk.f (Vd v)
theorem AIq v : He v = Vd v := AK _
abbrev Qp : AE := [(.tmp 0, .dat Ue)]
abbrev Qo : AE := [(.tmp 0, .dat .bool)]
abbrev Qn : List RS := [.one]
abbrev XS : AE := [(.tmp 1, .box 2), (.cell 0 0, .di), (.cell 0 1, .dat U1), (.tmp 3, .own 42 U9), (.tmp 6, .own 3 U0), (.tmp 7, .di), (.tmp 8, .di)]
abbrev XQ : At := [(.exit 2, [(.tmp 1, .box 2), (.cell 0 0, .di), (.cell 0 1, .dat U1), (.tmp 3, .own 42 U9), (.tmp 7, .di)])]
def C1 [Lk] : (Int × List U2 × List U5 × List Int × Int × Int × Unit) → Option ((Int × List U2 × List U5 × List Int × Int × Int × Unit) ⊕ Ux ⊕ Unit) := fun (a0, a1, a2, a3, a4, a5, _) =>
 match (ilt a5 a0) with
 | true => match idx a3 a5 with
  | none => none
  | some x0 => match (ieq (AT a3 (AG a5) 0) a5) with
  | true => some (.inl (a0, a1, a2, a3, (IntKind.wrap .i64 (a4 + 1)), (IntKind.wrap .i64 (a5 + 1)), ()))
  | false => some (.inl (a0, a1, a2, a3, a4, (IntKind.wrap .i64 (a5 + 1)), ()))
 | false => some (.inr (.inl (a0, a1, a2, a4, ())))
abbrev XT : AE := [(.tmp 1, .box 2), (.cell 0 0, .di), (.cell 0 1, .dat U1), (.tmp 3, .own 42 U9), (.tmp 4, .di)]
abbrev XR : At := [(.ret, [(.tmp 2, .dat .bool)]), (.exit 0, [(.tmp 1, .box 2), (.cell 0 0, .di), (.cell 0 1, .dat U1), (.tmp 3, .own 42 U9)])]
def CS [Lk] : Ux → Option (Ux ⊕ Ug ⊕ (Int × List U2 × List U5 × Unit) ⊕ Unit) := fun (a0, a1, a2, a3, _) =>
 match (ilt a3 (AN a1)) with
 | true => match idx a1 a3 with
  | none => none
  | some x0 => match (ilt x0.1 0) with
  | true => some (.inr (.inl (false, ())))
  | false => match (ile x0.2.1 x0.1) with
  | true => some (.inr (.inl (false, ())))
  | false => match (ile a0 x0.2.1) with
  | true => some (.inr (.inl (false, ())))
  | false => match (ilt x0.2.2.1 0) with
  | true => some (.inr (.inl (false, ())))
  | false => match He (a0, ()) with
  | none => none
  | some (y1, _) => match (ilt y1 x0.2.2.1) with
  | true => some (.inr (.inl (false, ())))
  | false => match (ilt 0 a3) with
  | true => match idx a1 (IntKind.wrap .i64 (a3 - 1)) with
   | none => none
   | some x2 => match (ilt x0.1 x2.1) with
   | true => some (.inr (.inl (false, ())))
   | false => match idx a1 (IntKind.wrap .i64 (a3 - 1)) with
   | none => none
   | some x3 => match (ieq x3.1 x0.1) with
   | true => match idx a1 (IntKind.wrap .i64 (a3 - 1)) with
    | none => none
    | some x4 => match (ile x0.2.1 x4.2.1) with
    | true => some (.inr (.inl (false, ())))
    | false => match x0.2.2.2.1 with
    | true => match (fits ((AN a2) + (AN ([(x0.1, (x0.2.1, ()))] : List U5)))) with
     | true => some (.inl (a0, a1, (A8 a2 ([(x0.1, (x0.2.1, ()))] : List U5)), (IntKind.wrap .i64 (a3 + 1)), ()))
     | false => none
    | false => some (.inl (a0, a1, a2, (IntKind.wrap .i64 (a3 + 1)), ()))
   | false => match x0.2.2.2.1 with
   | true => match (fits ((AN a2) + (AN ([(x0.1, (x0.2.1, ()))] : List U5)))) with
    | true => some (.inl (a0, a1, (A8 a2 ([(x0.1, (x0.2.1, ()))] : List U5)), (IntKind.wrap .i64 (a3 + 1)), ()))
    | false => none
   | false => some (.inl (a0, a1, a2, (IntKind.wrap .i64 (a3 + 1)), ()))
  | false => match x0.2.2.2.1 with
  | true => match (fits ((AN a2) + (AN ([(x0.1, (x0.2.1, ()))] : List U5)))) with
   | true => some (.inl (a0, a1, (A8 a2 ([(x0.1, (x0.2.1, ()))] : List U5)), (IntKind.wrap .i64 (a3 + 1)), ()))
   | false => none
  | false => some (.inl (a0, a1, a2, (IntKind.wrap .i64 (a3 + 1)), ()))
 | false => some (.inr (.inr (.inl (a0, a1, a2, ()))))
def EE [Lk] : (Ui × Unit) → Option (Ug) := fun (a0, _) =>
 match (ilt a0.1 1) with
 | true => some (false, ())
 | false => match (ilt 64 a0.1) with
 | true => some (false, ())
 | false => match (ilt 400 (AN a0.2.1)) with
 | true => some (false, ())
 | false => match AX CS many (a0.1, a0.2.1, ([] : List U5), 0, ()) with
 | none => none
 | some r => match r with
 | .inl (o0, _) => some (o0, ())
 | .inr r => match r with
 | .inl (o1, o2, o3, _) => match Gh (o1, o3, ()) with
  | none => none
  | some (y4, _) => match AX C1 many (o1, o2, o3, y4, 0, 0, ()) with
  | none => none
  | some r => match r with
  | .inl (o5, o6, o7, o8, _) => some ((ieq o8 (IntKind.wrap .i64 (o5 - (AN o7)))), ())
  | .inr _ => none
 | .inr _ => none
def Bl [Lk] := fun v => Lk.f (EE v)
theorem Ev v : Bl v = EE v := AK _
abbrev SX : AE := [(.tmp 0, .dat Ue)]
abbrev SW : AE := [(.tmp 0, .own 42 U9)]
abbrev SV : List RS := [.one]
abbrev AAA : AE := [(.tmp 1, .box 2), (.cell 0 0, .di), (.cell 0 1, .dat U1), (.tmp 3, .own 42 U9), (.tmp 4, .di)]
abbrev Z9 : At := [(.exit 0, [(.tmp 3, .own 42 U9)])]
def D2 [Lk] : Ux → Option (Ux ⊕ Uy ⊕ Unit) := fun (a0, a1, a2, a3, _) =>
 match (ilt a3 (AN a1)) with
 | true => match idx a1 a3 with
  | none => none
  | some x0 => match idx a1 a3 with
  | none => none
  | some x1 => match (fits ((AN a2) + (AN ([(x0.1, (x1.2.1, ()))] : List U5)))) with
  | true => some (.inl (a0, a1, (A8 a2 ([(x0.1, (x1.2.1, ()))] : List U5)), (IntKind.wrap .i64 (a3 + 1)), ()))
  | false => none
 | false => some (.inr (.inl (a2, ())))
def Il [Lk] : (Ui × Unit) → Option (Uy) := fun (a0, _) =>
 match Bl ((a0.1, (a0.2.1, ())), ()) with
 | none => none
 | some (y0, _) => match (!y0) with
 | true => some (([] : List U5), ())
 | false => match AX D2 many (a0.1, a0.2.1, ([] : List U5), 0, ()) with
 | none => none
 | some r => match r with
 | .inl (o1, _) => some (o1, ())
 | .inr _ => none
def L4 [Lk] := fun v => Lk.f (Il v)
theorem Nc v : L4 v = Il v := AK _
abbrev AQG : AE := [(.tmp 0, .di), (.tmp 1, .di)]
abbrev AQF : AE := [(.tmp 0, .dat .bool)]
abbrev AQE : List RS := [.one]
def AGy [Lk] : U5 → Option (Ug) := fun (a0, a1, _) =>
 match (ile 1 a0) with
 | true => match (ile a0 64) with
  | true => match (ile 0 a1) with
   | true => some ((ilt a1 a0), ())
   | false => some (false, ())
  | false => some (false, ())
 | false => some (false, ())
def AB1 [Lk] := fun v => Lk.f (AGy v)
theorem ASQ v : AB1 v = AGy v := AK _
abbrev Qe : AE := [(.tmp 0, .di), (.tmp 1, .di)]
abbrev Qd : AE := [(.tmp 0, .di), (.tmp 1, .di), (.tmp 2, .dat .bool), (.tmp 3, .dat .bool)]
abbrev Qc : List RS := [.one, .one, .one, .one]
def LO [Lk] : U5 → Option ((Int × Int × Bool × Bool × Unit)) := fun (a0, a1, _) =>
 match AB1 (a0, a1, ()) with
 | none => none
 | some (y0, _) => match y0 with
 | true => some (a1, 0, false, true, ())
 | false => match (ilt a0 1) with
 | true => some (0, 0, false, false, ())
 | false => match (ilt 64 a0) with
 | true => some (0, 0, false, false, ())
 | false => match (ilt a1 a0) with
 | true => some (0, 0, false, false, ())
 | false => match (ile (IntKind.wrap .i64 (a0 + (IntKind.wrap .i64 (a0 * a0)))) a1) with
 | true => some (0, 0, false, false, ())
 | false => match quo? .i64 (IntKind.wrap .i64 (a1 - a0)) a0 with
 | none => none
 | some x1 => match rem? (IntKind.wrap .i64 (a1 - a0)) a0 with
 | none => none
 | some x2 => match (ieq x1 x2) with
 | true => some (0, 0, false, false, ())
 | false => some (x1, x2, true, true, ())
def LP [Lk] := fun v => Lk.f (LO v)
theorem Wt v : LP v = LO v := AK _
abbrev AHz : AE := [(.tmp 0, .di), (.tmp 1, .di), (.tmp 2, .di)]
abbrev AHy : AE := [(.tmp 0, .di)]
abbrev AHx : List RS := [.one]
def WD [Lk] : (Int × Int × Int × Unit) → Option (U8) := fun (a0, a1, a2, _) =>
 match AB1 (a0, a1, ()) with
 | none => none
 | some (y0, _) => match (!y0) with
 | true => some ((-1 : Int), ())
 | false => match AB1 (a0, a2, ()) with
 | none => none
 | some (y1, _) => match (!y1) with
 | true => some ((-1 : Int), ())
 | false => match (ieq a1 a2) with
 | true => some ((-1 : Int), ())
 | false => some ((IntKind.wrap .i64 ((IntKind.wrap .i64 (a0 + (IntKind.wrap .i64 (a1 * a0)))) + a2)), ())
def AAg [Lk] := fun v => Lk.f (WD v)
theorem AMi v : AAg v = WD v := AK _
abbrev Yr : AE := [(.tmp 0, .di)]
abbrev Yq : AE := [(.tmp 0, .di), (.tmp 1, .own 55 U4), (.tmp 2, .di)]
abbrev Yp : List RS := [.agg 2, .one]
abbrev ADM : AE := [(.tmp 0, .di), (.tmp 2, .box 2), (.cell 0 0, .di), (.cell 0 1, .nil U4), (.tmp 4, .box 2), (.cell 1 0, .di), (.cell 1 1, .own 55 U4), (.tmp 5, .di)]
abbrev ADL : At := [(.exit 0, [(.tmp 2, .box 2), (.cell 0 0, .di), (.cell 0 1, .nil U4), (.tmp 4, .box 2), (.cell 1 0, .di), (.cell 1 1, .own 55 U4)])]
def E3 [Lk] : (Int × Int × Int × List U3 × Int × Unit) → Option ((Int × Int × Int × List U3 × Int × Unit) ⊕ (Int × Int × List U3 × Unit) ⊕ Unit) := fun (a0, a1, a2, a3, a4, _) =>
 match (ilt a4 a0) with
 | true => match (fits ((AN a3) + (AN ([([a4] : List (Int))] : List U3)))) with
  | true => some (.inl (a0, a1, a2, (A8 a3 ([([a4] : List (Int))] : List U3)), (IntKind.wrap .i64 (a4 + 1)), ()))
  | false => none
 | false => some (.inr (.inl (a1, a2, a3, ())))
def Om [Lk] : U8 → Option (Uv) := fun (a0, _) =>
 match (ilt a0 1) with
 | true => some (0, ([] : List U3), 1, ())
 | false => match (ilt 64 a0) with
 | true => some (0, ([] : List U3), 1, ())
 | false => match AX E3 many (a0, 0, a0, ([] : List U3), 0, ()) with
 | none => none
 | some r => match r with
 | .inl (o0, o1, o2, _) => some (o1, o2, 0, ())
 | .inr _ => none
def Rn [Lk] := fun v => Lk.f (Om v)
theorem ADN v : Rn v = Om v := AK _
abbrev Mr : AE := [(.tmp 0, .di), (.tmp 1, .di), (.tmp 2, .di)]
abbrev Mq : AE := [(.tmp 0, .dat .bool)]
abbrev Mo : List RS := [.one]
def I5 [Lk] : (Int × Int × Int × Unit) → Option (Ug) := fun (a0, a1, a2, _) =>
 match LP (a0, a1, ()) with
 | none => none
 | some (y0, y1, y2, y3, _) => match y3 with
 | true => match (!y2) with
  | true => match (ieq y0 a2) with
   | true => some (true, ())
   | false => match y2 with
   | true => some ((ieq y1 a2), ())
   | false => some (false, ())
  | false => match y2 with
  | true => some ((ieq y1 a2), ())
  | false => some (false, ())
 | false => some (false, ())
def J9 [Lk] := fun v => Lk.f (I5 v)
theorem TN v : J9 v = I5 v := AK _
abbrev Wn : AE := [(.tmp 0, .di), (.tmp 1, .dat U4)]
abbrev Wm : AE := [(.tmp 0, .dat .bool)]
abbrev Wl : List RS := [.one]
abbrev ACc : AE := [(.tmp 0, .di), (.tmp 1, .own 3 U0), (.tmp 6, .di), (.tmp 14, .own 3 U0), (.tmp 15, .di), (.tmp 27, .dat .bool), (.tmp 28, .dat .bool), (.tmp 64, .dat .bool), (.tmp 67, .dat .bool), (.tmp 70, .di), (.tmp 71, .di), (.tmp 72, .dat .bool), (.tmp 75, .di), (.tmp 76, .di), (.tmp 77, .di), (.tmp 78, .di), (.tmp 79, .di), (.tmp 80, .dat .bool), (.tmp 83, .di), (.tmp 84, .own' 0), (.tmp 85, .di), (.tmp 86, .own' 0), (.tmp 87, .di), (.tmp 88, .di), (.tmp 89, .di), (.tmp 90, .own' 0), (.tmp 91, .di), (.tmp 92, .di), (.tmp 94, .di), (.tmp 95, .di), (.tmp 96, .dat .bool)]
abbrev ACZ : At := [(.exit 4, [(.tmp 0, .di), (.tmp 6, .di), (.tmp 14, .own 3 U0), (.tmp 27, .dat .bool), (.tmp 28, .dat .bool), (.tmp 64, .dat .bool), (.tmp 67, .dat .bool), (.tmp 70, .di), (.tmp 71, .di), (.tmp 72, .dat .bool), (.tmp 75, .di), (.tmp 76, .di), (.tmp 77, .di), (.tmp 78, .di), (.tmp 79, .di), (.tmp 80, .dat .bool), (.tmp 83, .di), (.tmp 84, .own 3 U0), (.tmp 85, .di), (.tmp 86, .own' 1), (.tmp 87, .di), (.tmp 88, .di), (.tmp 89, .di), (.tmp 90, .own' 1), (.tmp 91, .di), (.tmp 92, .di), (.tmp 94, .di), (.tmp 95, .di), (.tmp 96, .dat .bool)])]
def Er [Lk] : Ur → Option (Ur ⊕ (Int × Int × List Int × Bool × Bool × Bool × Bool × Int × Int × Bool × Int × Int × Int × Int × Int × Bool × Int × List Int × Int × Int × Int × Int × Int × Int × Int × Int × Bool × Unit) ⊕ Unit) := fun (a0, a1, a2, a3, a4, a5, a6, a7, a8, a9, a10, a11, a12, a13, a14, a15, a16, a17, a18, a19, a20, a21, a22, a23, a24, a25, a26, a27, _) =>
 match (ilt a4 (AN a1)) with
 | true => match rem? (IntKind.wrap .i64 (a2 + a4)) (AN a1) with
  | none => none
  | some x0 => match idx a1 x0 with
  | none => none
  | some x1 => match (fits ((AN a3) + (AN ([(AT a1 (AG x0) 0)] : List (Int))))) with
  | true => some (.inl (a0, a1, a2, (A8 a3 ([(AT a1 (AG x0) 0)] : List (Int))), (IntKind.wrap .i64 (a4 + 1)), a5, a6, a7, a8, a9, a10, a11, a12, a13, a14, a15, a16, a17, a18, a19, a20, a21, a22, a23, a24, a25, a26, a27, ()))
  | false => none
 | false => some (.inr (.inl (a0, a2, a3, a5, a6, a7, a8, a9, a10, a11, a12, a13, a14, a15, a16, a17, a18, a1, a19, a20, a21, a22, a23, a24, a25, a26, a27, ())))
abbrev ACd : AE := [(.tmp 0, .di), (.tmp 1, .own 3 U0), (.tmp 5, .dat .bool), (.tmp 6, .di)]
abbrev ACa : At := [(.exit 2, [(.tmp 0, .di), (.tmp 1, .own 3 U0), (.tmp 5, .dat .bool)])]
def CJ [Lk] : (Int × List Int × Bool × Int × Unit) → Option ((Int × List Int × Bool × Int × Unit) ⊕ (Int × List Int × Bool × Unit) ⊕ Unit) := fun (a0, a1, a2, a3, _) =>
 match (ilt a3 (AN a1)) with
 | true => match (!a2) with
  | true => match idx a1 a3 with
   | none => none
   | some x0 => match rem? (IntKind.wrap .i64 (a3 + 1)) (AN a1) with
   | none => none
   | some x1 => match idx a1 x1 with
   | none => none
   | some x2 => match rem? (IntKind.wrap .i64 (a3 + 2)) (AN a1) with
   | none => none
   | some x3 => match idx a1 x3 with
   | none => none
   | some x4 => match LP (a0, (AT a1 (AG a3) 0), ()) with
   | none => none
   | some (y5, y6, y7, y8, _) => match (ile 4 (AN a1)) with
   | true => match y8 with
    | true => match y7 with
     | true => match (ieq (AT a1 (AG x1) 0) y6) with
      | true => match AAg (a0, y6, y5, ()) with
       | none => none
       | some (y9, _) => match (ieq (AT a1 (AG x3) 0) y9) with
       | true => match rem? (IntKind.wrap .i64 ((IntKind.wrap .i64 (a3 + (AN a1))) - 1)) (AN a1) with
        | none => none
        | some x10 => match idx a1 x10 with
        | none => none
        | some x11 => match J9 (a0, (AT a1 (AG x10) 0), y5, ()) with
        | none => none
        | some (y12, _) => match y12 with
        | true => match AX Er many (a0, a1, a3, ([] : List (Int)), 3, a2, (!a2), y8, y7, (AT a1 (AG x1) 0), y6, (ieq (AT a1 (AG x1) 0) y6), (AT a1 (AG x3) 0), a0, y6, y5, y9, (ieq (AT a1 (AG x3) 0) y9), a0, a3, (AN a1), (IntKind.wrap .i64 (a3 + (AN a1))), (IntKind.wrap .i64 ((IntKind.wrap .i64 (a3 + (AN a1))) - 1)), (AN a1), x10, (AT a1 (AG x10) 0), y5, y12, ()) with
         | none => none
         | some r => match r with
         | .inl (o13, o14, o15, o16, o17, o18, o19, o20, o21, o22, o23, o24, o25, o26, o27, o28, o29, o30, o31, o32, o33, o34, o35, o36, o37, o38, o39, _) => some (.inl (o13, o15, true, (IntKind.wrap .i64 (o14 + 1)), ()))
         | .inr _ => none
        | false => some (.inl (a0, a1, a2, (IntKind.wrap .i64 (a3 + 1)), ()))
       | false => some (.inl (a0, a1, a2, (IntKind.wrap .i64 (a3 + 1)), ()))
      | false => some (.inl (a0, a1, a2, (IntKind.wrap .i64 (a3 + 1)), ()))
     | false => some (.inl (a0, a1, a2, (IntKind.wrap .i64 (a3 + 1)), ()))
    | false => some (.inl (a0, a1, a2, (IntKind.wrap .i64 (a3 + 1)), ()))
   | false => some (.inl (a0, a1, a2, (IntKind.wrap .i64 (a3 + 1)), ()))
  | false => some (.inr (.inl (a0, a1, a2, ())))
 | false => some (.inr (.inl (a0, a1, a2, ())))
abbrev ACe : AE := [(.tmp 0, .di), (.tmp 1, .own 3 U0)]
abbrev ACb : At := [(.ret, [(.tmp 4, .dat .bool)]), (.exit 0, [(.tmp 0, .di), (.tmp 1, .own 3 U0)])]
def Gc [Lk] : V2 → Option (V2 ⊕ Ug ⊕ V2 ⊕ Unit) := fun (a0, a1, _) =>
 match (ilt 1 (AN a1)) with
 | true => match AX CJ many (a0, a1, false, 0, ()) with
  | none => none
  | some r => match r with
  | .inl (o0, o1, o2, _) => match (!o2) with
   | true => some (.inr (.inl (false, ())))
   | false => some (.inl (o0, o1, ()))
  | .inr _ => none
 | false => some (.inr (.inr (.inl (a0, a1, ()))))
def OE [Lk] : V2 → Option (Ug) := fun (a0, a1, _) =>
 match (fits ((AN ([] : List (Int))) + (AN a1))) with
 | true => match AX Gc many (a0, (A8 ([] : List (Int)) a1), ()) with
  | none => none
  | some r => match r with
  | .inl (o0, _) => some (o0, ())
  | .inr r => match r with
  | .inl (o1, o2, _) => match (ieq (AN o2) 1) with
   | true => match idx o2 0 with
    | none => none
    | some x3 => match AB1 (o1, (AT o2 0 0), ()) with
    | none => none
    | some (y4, _) => some (y4, ())
   | false => some (false, ())
  | .inr _ => none
 | false => none
def Wo [Lk] := fun v => Lk.f (OE v)
theorem ACf v : Wo v = OE v := AK _
abbrev Q9 : AE := [(.tmp 0, .dat U4), (.tmp 1, .di)]
abbrev Q8 : AE := [(.tmp 0, .di)]
abbrev Q7 : List RS := [.one]
abbrev Xw : AE := [(.tmp 0, .dat U4), (.tmp 1, .di), (.tmp 5, .di)]
abbrev Xv : At := [(.ret, [(.tmp 4, .di)]), (.exit 0, [])]
def Dw [Lk] : Ud → Option (Ud ⊕ U8 ⊕ (Unit) ⊕ Unit) := fun (a0, a1, a2, _) =>
 match (ilt a2 (AN a0)) with
 | true => match idx a0 a2 with
  | none => none
  | some x0 => match (ieq x0 a1) with
  | true => some (.inr (.inl (a2, ())))
  | false => some (.inl (a0, a1, (IntKind.wrap .i64 (a2 + 1)), ()))
 | false => some (.inr (.inr (.inl ())))
def Lb [Lk] : Um → Option (U8) := fun (a0, a1, _) =>
 match AX Dw many (a0, a1, 0, ()) with
 | none => none
 | some r => match r with
 | .inl (o0, _) => some (o0, ())
 | .inr r => match r with
 | .inl _ => some ((-1 : Int), ())
 | .inr _ => none
def Hh [Lk] := fun v => Lk.f (Lb v)
theorem Xx v : Hh v = Lb v := AK _
abbrev Qv : AE := [(.tmp 0, .dat U4)]
abbrev Qu : AE := [(.tmp 0, .dat .bool)]
abbrev Qt : List RS := [.one]
abbrev Xa : AE := [(.tmp 0, .dat U4), (.tmp 3, .di)]
abbrev XZ : At := [(.ret, [(.tmp 2, .dat .bool)]), (.exit 0, [])]
def C2 [Lk] : Um → Option (Um ⊕ Ug ⊕ (Unit) ⊕ Unit) := fun (a0, a1, _) =>
 match (ilt a1 (AN a0)) with
 | true => match idx a0 a1 with
  | none => none
  | some x0 => match (ilt x0 0) with
  | true => some (.inr (.inl (false, ())))
  | false => match idx a0 a1 with
  | none => none
  | some x1 => match (ilt 10000 x1) with
  | true => some (.inr (.inl (false, ())))
  | false => match Df a0 0 a1 with
  | none => none
  | some x2 => match idx a0 a1 with
  | none => none
  | some x3 => match Hh (x2, x3, ()) with
  | none => none
  | some (y4, _) => match (ile 0 y4) with
  | true => some (.inr (.inl (false, ())))
  | false => some (.inl (a0, (IntKind.wrap .i64 (a1 + 1)), ()))
 | false => some (.inr (.inr (.inl ())))
def LW [Lk] : Ua → Option (Ug) := fun (a0, _) =>
 match (ilt 1000 (AN a0)) with
 | true => some (false, ())
 | false => match AX C2 many (a0, 0, ()) with
 | none => none
 | some r => match r with
 | .inl (o0, _) => some (o0, ())
 | .inr r => match r with
 | .inl _ => some (true, ())
 | .inr _ => none
def I6 [Lk] := fun v => Lk.f (LW v)
theorem Xb v : I6 v = LW v := AK _
abbrev Zs : AE := [(.tmp 0, .dat U4), (.tmp 1, .di)]
abbrev Zr : AE := [(.tmp 0, .own 3 U0), (.tmp 1, .dat .bool)]
abbrev Zq : List RS := [.one, .one]
def PG [Lk] : Um → Option (V0) := fun (a0, a1, _) =>
 match Hh (a0, a1, ()) with
 | none => none
 | some (y0, _) => match I6 (a0, ()) with
 | none => none
 | some (y1, _) => match (!y1) with
 | true => some (([] : List (Int)), false, ())
 | false => match (ilt y0 0) with
 | true => some (([] : List (Int)), false, ())
 | false => match Df a0 y0 (AN a0) with
 | none => none
 | some x2 => match (fits ((AN ([] : List (Int))) + (AN x2))) with
 | true => match Df a0 0 y0 with
  | none => none
  | some x3 => match (fits ((AN (A8 ([] : List (Int)) x2)) + (AN x3))) with
  | true => some ((A8 (A8 ([] : List (Int)) x2) x3), true, ())
  | false => none
 | false => none
def NV [Lk] := fun v => Lk.f (PG v)
theorem ADj v : NV v = PG v := AK _
abbrev Q1 : AE := [(.tmp 0, .dat U4)]
abbrev Q0 : AE := [(.tmp 0, .own 3 U0)]
abbrev Qz : List RS := [.one]
abbrev Xm : AE := [(.tmp 0, .dat U4), (.tmp 3, .di), (.tmp 4, .di)]
abbrev Xl : At := [(.exit 0, [(.tmp 0, .dat U4), (.tmp 3, .di)])]
def Du [Lk] : Ud → Option (Ud ⊕ Um ⊕ Unit) := fun (a0, a1, a2, _) =>
 match (ilt a2 (AN a0)) with
 | true => match idx a0 a2 with
  | none => none
  | some x0 => some (.inl (a0, (Ci a1 x0), (IntKind.wrap .i64 (a2 + 1)), ()))
 | false => some (.inr (.inl (a0, a1, ())))
def LY [Lk] : Ua → Option (Ua) := fun (a0, _) =>
 match I6 (a0, ()) with
 | none => none
 | some (y0, _) => match (!y0) with
 | true => some (([] : List (Int)), ())
 | false => match (ieq (AN a0) 0) with
 | true => some (([] : List (Int)), ())
 | false => match idx a0 0 with
 | none => none
 | some x1 => match AX Du many (a0, x1, 0, ()) with
 | none => none
 | some r => match r with
 | .inl (o2, o3, _) => match NV (o2, o3, ()) with
  | none => none
  | some (y4, y5, _) => some (y4, ())
 | .inr _ => none
def LZ [Lk] := fun v => Lk.f (LY v)
theorem Xn v : LZ v = LY v := AK _
abbrev Ru : AE := [(.tmp 0, .dat Uk), (.tmp 1, .dat Uk)]
abbrev Rs : AE := [(.tmp 0, .dat .bool)]
abbrev Rr : List RS := [.one]
abbrev ZB : AE := [(.tmp 0, .dat Uk), (.tmp 1, .dat Uk), (.tmp 5, .di)]
abbrev ZA : At := [(.ret, [(.tmp 4, .dat .bool)]), (.exit 0, [])]
def C6 [Lk] : (List U3 × List U3 × Int × Unit) → Option ((List U3 × List U3 × Int × Unit) ⊕ Ug ⊕ (Unit) ⊕ Unit) := fun (a0, a1, a2, _) =>
 match (ilt a2 (AN a0)) with
 | true => match idx a0 a2 with
  | none => none
  | some x0 => match idx a1 a2 with
  | none => none
  | some x1 => match GD (x0, x1, ()) with
  | none => none
  | some (y2, _) => match (!y2) with
  | true => some (.inr (.inl (false, ())))
  | false => some (.inl (a0, a1, (IntKind.wrap .i64 (a2 + 1)), ()))
 | false => some (.inr (.inr (.inl ())))
def Lu [Lk] : (List U3 × List U3 × Unit) → Option (Ug) := fun (a0, a1, _) =>
 match (!(ieq (AN a0) (AN a1))) with
 | true => some (false, ())
 | false => match AX C6 many (a0, a1, 0, ()) with
 | none => none
 | some r => match r with
 | .inl (o0, _) => some (o0, ())
 | .inr r => match r with
 | .inl _ => some (true, ())
 | .inr _ => none
def Lv [Lk] := fun v => Lk.f (Lu v)
theorem ZC v : Lv v = Lu v := AK _
abbrev Qs : AE := [(.tmp 0, .dat Ub)]
abbrev Qr : AE := [(.tmp 0, .dat .bool)]
abbrev Qq : List RS := [.one]
abbrev XW : AE := [(.tmp 1, .box 2), (.cell 0 0, .di), (.cell 0 1, .dat Uk), (.tmp 3, .own 4 .bool), (.tmp 4, .di), (.tmp 5, .di), (.tmp 6, .di), (.tmp 7, .dat U4), (.tmp 8, .di), (.tmp 44, .dat U4), (.tmp 45, .di), (.tmp 46, .dat .bool), (.tmp 49, .ptr' 0 0), (.tmp 50, .di), (.tmp 51, .dat U4), (.tmp 52, .dat .bool), (.tmp 53, .dat .bool), (.tmp 56, .dat U4), (.tmp 57, .dat U4), (.tmp 58, .own 55 U4), (.tmp 59, .dat U4), (.tmp 60, .own 55 U4), (.tmp 61, .dat .bool), (.tmp 62, .dat .bool), (.tmp 65, .dat U4), (.tmp 67, .di), (.tmp 68, .di), (.tmp 69, .dat .bool)]
abbrev XU : At := [(.ret, [(.tmp 2, .dat .bool)]), (.exit 2, [(.tmp 1, .box 2), (.cell 0 0, .di), (.cell 0 1, .dat Uk), (.tmp 3, .own 4 .bool), (.tmp 4, .di), (.tmp 5, .di), (.tmp 6, .di), (.tmp 44, .dat U4), (.tmp 45, .di), (.tmp 46, .dat .bool), (.tmp 49, .ptr' 0 0), (.tmp 50, .di), (.tmp 51, .dat U4), (.tmp 52, .dat .bool), (.tmp 53, .dat .bool), (.tmp 56, .dat U4), (.tmp 57, .dat U4), (.tmp 58, .own 55 U4), (.tmp 59, .dat U4), (.tmp 60, .own 55 U4), (.tmp 61, .dat .bool), (.tmp 62, .dat .bool), (.tmp 65, .dat U4), (.tmp 67, .di), (.tmp 68, .di), (.tmp 69, .dat .bool)])]
def CT [Lk] : Up → Option (Up ⊕ Ug ⊕ (Int × List U3 × List Bool × Int × Int × Int × List Int × Int × Bool × Int × List Int × Bool × Bool × List Int × List Int × List U3 × List Int × List U3 × Bool × Bool × List Int × Int × Int × Bool × Unit) ⊕ Unit) := fun (a0, a1, a2, a3, a4, a5, a6, a7, a8, a9, a10, a11, a12, a13, a14, a15, a16, a17, a18, a19, a20, a21, a22, a23, a24, a25, _) =>
 match (ilt a7 (AN a6)) with
 | true => match idx a6 a7 with
  | none => none
  | some x0 => match (ilt x0 a0) with
  | true => match idx a6 a7 with
   | none => none
   | some x1 => match idx a2 x1 with
   | none => none
   | some x2 => match (AT a2 (AG x1) false) with
   | true => some (.inr (.inl (false, ())))
   | false => match idx a6 a7 with
   | none => none
   | some x3 => match idx a2 x3 with
   | none => none
   | some x4 => some (.inl (a0, a1, (Al a2 (AG x3) true), a3, (IntKind.wrap .i64 (a4 + 1)), a5, a6, (IntKind.wrap .i64 (a7 + 1)), a8, a9, a10, a11, a12, a13, a14, a15, a16, a17, a18, a19, a20, a21, a22, a23, a24, a25, ()))
  | false => some (.inl (a0, a1, a2, a3, a4, a5, a6, (IntKind.wrap .i64 (a7 + 1)), a8, a9, a10, a11, a12, a13, a14, a15, a16, a17, a18, a19, a20, a21, a22, a23, a24, a25, ()))
 | false => some (.inr (.inr (.inl (a0, a1, a2, a3, a4, a5, a8, a9, a10, a11, a12, a13, a14, a15, a16, a17, a18, a19, a20, a21, a22, a23, a24, a25, ()))))
abbrev XX : AE := [(.tmp 1, .box 2), (.cell 0 0, .di), (.cell 0 1, .dat Uk), (.tmp 3, .own 4 .bool), (.tmp 4, .di), (.tmp 5, .di), (.tmp 6, .di)]
abbrev XV : At := [(.ret, [(.tmp 2, .dat .bool)]), (.exit 0, [(.tmp 1, .box 2), (.cell 0 0, .di), (.cell 0 1, .dat Uk), (.tmp 5, .di)])]
def CU [Lk] : (Int × List U3 × List Bool × Int × Int × Int × Unit) → Option ((Int × List U3 × List Bool × Int × Int × Int × Unit) ⊕ Ug ⊕ Uv ⊕ Unit) := fun (a0, a1, a2, a3, a4, a5, _) =>
 match (ilt a5 (AN a1)) with
 | true => match idx a1 a5 with
  | none => none
  | some x0 => match I6 (x0, ()) with
  | none => none
  | some (y1, _) => match (!y1) with
  | true => some (.inr (.inl (false, ())))
  | false => match (ieq (AN x0) 0) with
  | true => some (.inr (.inl (false, ())))
  | false => match Wo (a0, x0, ()) with
  | none => none
  | some (y2, _) => match (!y2) with
  | true => some (.inr (.inl (false, ())))
  | false => match LZ (x0, ()) with
  | none => none
  | some (y3, _) => match Lv (([y3] : List U3), ([x0] : List U3), ()) with
  | none => none
  | some (y4, _) => match (!y4) with
  | true => some (.inr (.inl (false, ())))
  | false => match idx x0 0 with
  | none => none
  | some x5 => match (ile x5 a3) with
  | true => some (.inr (.inl (false, ())))
  | false => match idx x0 0 with
  | none => none
  | some x6 => match AX CT many (a0, a1, a2, x6, a4, a5, x0, 0, x0, (AN x0), (ieq (AN x0) 0), a0, x0, y2, (!y2), x0, y3, ([y3] : List U3), x0, ([x0] : List U3), y4, (!y4), x0, x5, a3, (ile x5 a3), ()) with
  | none => none
  | some r => match r with
  | .inl (o7, _) => some (.inr (.inl (o7, ())))
  | .inr r => match r with
  | .inl (o8, o9, o10, o11, o12, o13, o14, o15, o16, o17, o18, o19, o20, o21, o22, o23, o24, o25, o26, o27, o28, o29, o30, o31, _) => some (.inl (o8, o9, o10, o11, o12, (IntKind.wrap .i64 (o13 + 1)), ()))
  | .inr _ => none
 | false => some (.inr (.inr (.inl (a0, a1, a4, ()))))
def LU [Lk] : (Uh × Unit) → Option (Ug) := fun (a0, _) =>
 match (ilt a0.1 1) with
 | true => some (false, ())
 | false => match (ilt 64 a0.1) with
 | true => some (false, ())
 | false => match (ilt a0.1 (AN a0.2.1)) with
 | true => some (false, ())
 | false => match (GM a0.1 && GM a0.1 && ile a0.1 a0.1 && true) with
 | true => match AX CU many (a0.1, a0.2.1, (Im (AG a0.1) false), (-1 : Int), (0 : Int), (0 : Int), ()) with
  | none => none
  | some r => match r with
  | .inl (o0, _) => some (o0, ())
  | .inr r => match r with
  | .inl (o1, o2, o3, _) => some ((ieq o3 o1), ())
  | .inr _ => none
 | false => none
def LV [Lk] := fun v => Lk.f (LU v)
theorem XY v : LV v = LU v := AK _
abbrev Q5 : AE := [(.tmp 0, .dat Ub), (.tmp 1, .di)]
abbrev Q4 : AE := [(.tmp 0, .di)]
abbrev Q3 : List RS := [.one]
abbrev Xt : AE := [(.tmp 1, .di), (.tmp 2, .box 2), (.cell 0 0, .di), (.cell 0 1, .dat Uk), (.tmp 5, .di)]
abbrev Xs : At := [(.ret, [(.tmp 4, .di)]), (.exit 0, [])]
def Dv [Lk] : (Int × Int × List U3 × Int × Unit) → Option ((Int × Int × List U3 × Int × Unit) ⊕ U8 ⊕ (Unit) ⊕ Unit) := fun (a0, a1, a2, a3, _) =>
 match (ilt a3 (AN a2)) with
 | true => match idx a2 a3 with
  | none => none
  | some x0 => match Hh (x0, a0, ()) with
  | none => none
  | some (y1, _) => match (ile 0 y1) with
  | true => some (.inr (.inl (a3, ())))
  | false => some (.inl (a0, a1, a2, (IntKind.wrap .i64 (a3 + 1)), ()))
 | false => some (.inr (.inr (.inl ())))
def La [Lk] : V6 → Option (U8) := fun (a0, a1, _) =>
 match AX Dv many (a1, a0.1, a0.2.1, 0, ()) with
 | none => none
 | some r => match r with
 | .inl (o0, _) => some (o0, ())
 | .inr r => match r with
 | .inl _ => some ((-1 : Int), ())
 | .inr _ => none
def Hg [Lk] := fun v => Lk.f (La v)
theorem Xu v : Hg v = La v := AK _
abbrev AFX : AE := [(.tmp 0, .dat Uk), (.tmp 1, .dat U4)]
abbrev AFW : AE := [(.tmp 0, .own 55 U4)]
abbrev AFV : List RS := [.one]
abbrev AJa : AE := [(.tmp 0, .dat Uk), (.tmp 1, .own 3 U0), (.tmp 5, .di)]
abbrev AJZ : At := [(.exit 0, [(.tmp 0, .dat Uk), (.tmp 1, .own 3 U0), (.tmp 5, .di)])]
def G0 [Lk] : (List U3 × List Int × Int × Unit) → Option ((List U3 × List Int × Int × Unit) ⊕ (List U3 × List Int × Int × Unit) ⊕ Unit) := fun (a0, a1, a2, _) =>
 match (ilt a2 (AN a0)) with
 | true => match idx a0 a2 with
  | none => none
  | some x0 => match idx x0 0 with
  | none => none
  | some x1 => match idx a1 0 with
  | none => none
  | some x2 => match (ilt x1 (AT a1 0 0)) with
  | true => some (.inl (a0, a1, (IntKind.wrap .i64 (a2 + 1)), ()))
  | false => some (.inr (.inl (a0, a1, a2, ())))
 | false => some (.inr (.inl (a0, a1, a2, ())))
def Vo [Lk] : (List U3 × List Int × Unit) → Option (Ul) := fun (a0, a1, _) =>
 match LZ (a1, ()) with
 | none => none
 | some (y0, _) => match AX G0 many (a0, y0, 0, ()) with
 | none => none
 | some r => match r with
 | .inl (o1, o2, o3, _) => match Df o1 0 o3 with
  | none => none
  | some x4 => match (fits ((AN ([] : List U3)) + (AN x4))) with
  | true => match (fits ((AN (A8 ([] : List U3) x4)) + (AN ([o2] : List U3)))) with
   | true => match Df o1 o3 (AN o1) with
    | none => none
    | some x5 => match (fits ((AN (A8 (A8 ([] : List U3) x4) ([o2] : List U3))) + (AN x5))) with
    | true => some ((A8 (A8 (A8 ([] : List U3) x4) ([o2] : List U3)) x5), ())
    | false => none
   | false => none
  | false => none
 | .inr _ => none
def AC5 [Lk] := fun v => Lk.f (Vo v)
theorem AJb v : AC5 v = Vo v := AK _
abbrev J3 : AE := [(.tmp 0, .dat Uk), (.tmp 1, .di)]
abbrev J2 : AE := [(.tmp 0, .own 55 U4)]
abbrev J1 : List RS := [.one]
def Hd [Lk] : Uz → Option (Ul) := fun (a0, a1, _) =>
 match Df a0 0 a1 with
 | none => none
 | some x0 => match (fits ((AN ([] : List U3)) + (AN x0))) with
 | true => match Df a0 (IntKind.wrap .i64 (a1 + 1)) (AN a0) with
  | none => none
  | some x1 => match (fits ((AN (A8 ([] : List U3) x0)) + (AN x1))) with
  | true => some ((A8 (A8 ([] : List U3) x0) x1), ())
  | false => none
 | false => none
def EA [Lk] := fun v => Lk.f (Hd v)
theorem N6 v : EA v = Hd v := AK _
abbrev ZI : AE := [(.tmp 0, .dat Ub), (.tmp 1, .di), (.tmp 2, .di)]
abbrev ZH : AE := [(.tmp 0, .di), (.tmp 1, .dat Uk), (.tmp 2, .di)]
abbrev ZG : List RS := [.agg 2, .one]
def G8 [Lk] : (Uh × Int × Int × Unit) → Option (Uv) := fun (a0, a1, a2, _) =>
 match LV ((a0.1, (a0.2.1, ())), ()) with
 | none => none
 | some (y0, _) => match (!y0) with
 | true => some (a0.1, a0.2.1, 1, ())
 | false => match AB1 (a0.1, a1, ()) with
 | none => none
 | some (y1, _) => match (!y1) with
 | true => some (a0.1, a0.2.1, 10, ())
 | false => match AB1 (a0.1, a2, ()) with
 | none => none
 | some (y2, _) => match (!y2) with
 | true => some (a0.1, a0.2.1, 10, ())
 | false => match Hg ((a0.1, (a0.2.1, ())), a1, ()) with
 | none => none
 | some (y3, _) => match Hg ((a0.1, (a0.2.1, ())), a2, ()) with
 | none => none
 | some (y4, _) => match (ieq y3 y4) with
 | true => some (a0.1, a0.2.1, 5, ())
 | false => match Hg ((a0.1, (a0.2.1, ())), a1, ()) with
 | none => none
 | some (y5, _) => match Hg ((a0.1, (a0.2.1, ())), a2, ()) with
 | none => none
 | some (y6, _) => match idx a0.2.1 y5 with
 | none => none
 | some x7 => match NV (x7, a1, ()) with
 | none => none
 | some (y8, y9, _) => match idx a0.2.1 y6 with
 | none => none
 | some x10 => match NV (x10, a2, ()) with
 | none => none
 | some (y11, y12, _) => match AAg (a0.1, a1, a2, ()) with
 | none => none
 | some (y13, _) => match (fits ((AN ([a1, y13] : List (Int))) + (AN y11))) with
 | true => match AAg (a0.1, a2, a1, ()) with
  | none => none
  | some (y14, _) => match (fits ((AN (A8 ([a1, y13] : List (Int)) y11)) + (AN ([y14] : List (Int))))) with
  | true => match Df y8 1 (AN y8) with
   | none => none
   | some x15 => match (fits ((AN (A8 (A8 ([a1, y13] : List (Int)) y11) ([y14] : List (Int)))) + (AN (DQ 1 (AG (AN x15)) y8)))) with
   | true => match EA (a0.2.1, (imax y5 y6), ()) with
    | none => none
    | some (y16, _) => match EA (y16, (Ci y5 y6), ()) with
    | none => none
    | some (y17, _) => match AC5 (y17, (A8 (A8 (A8 ([a1, y13] : List (Int)) y11) ([y14] : List (Int))) (DQ 1 (AG (AN x15)) y8)), ()) with
    | none => none
    | some (y18, _) => some (a0.1, y18, 0, ())
   | false => none
  | false => none
 | false => none
def KZ [Lk] := fun v => Lk.f (G8 v)
theorem IX v : KZ v = G8 v := AK _
abbrev XC : AE := [(.tmp 0, .dat Uu), (.tmp 1, .dat Uu)]
abbrev XB : AE := [(.tmp 0, .dat .bool)]
abbrev XA : List RS := [.one]
abbrev ACv : AE := [(.tmp 0, .dat Uu), (.tmp 1, .dat Uu), (.tmp 5, .di)]
abbrev ACu : At := [(.ret, [(.tmp 4, .dat .bool)]), (.exit 0, [])]
def Et [Lk] : (List U5 × List U5 × Int × Unit) → Option ((List U5 × List U5 × Int × Unit) ⊕ Ug ⊕ (Unit) ⊕ Unit) := fun (a0, a1, a2, _) =>
 match (ilt a2 (AN a0)) with
 | true => match idx a0 a2 with
  | none => none
  | some x0 => match idx a1 a2 with
  | none => none
  | some x1 => match (!(ieq x0.1 x1.1 && (ieq x0.2.1 x1.2.1 && true))) with
  | true => some (.inr (.inl (false, ())))
  | false => some (.inl (a0, a1, (IntKind.wrap .i64 (a2 + 1)), ()))
 | false => some (.inr (.inr (.inl ())))
def OL [Lk] : (List U5 × List U5 × Unit) → Option (Ug) := fun (a0, a1, _) =>
 match (!(ieq (AN a0) (AN a1))) with
 | true => some (false, ())
 | false => match AX Et many (a0, a1, 0, ()) with
 | none => none
 | some r => match r with
 | .inl (o0, _) => some (o0, ())
 | .inr r => match r with
 | .inl _ => some (true, ())
 | .inr _ => none
def XE [Lk] := fun v => Lk.f (OL v)
theorem ACw v : XE v = OL v := AK _
abbrev Qh : AE := [(.tmp 0, .dat Ub), (.tmp 1, .dat Uu)]
abbrev Qg : AE := [(.tmp 0, .di)]
abbrev Qf : List RS := [.one]
abbrev Wv : AE := [(.tmp 1, .dat Uu), (.tmp 2, .box 2), (.cell 0 0, .di), (.cell 0 1, .dat Uk), (.tmp 5, .di)]
abbrev Wu : At := [(.ret, [(.tmp 4, .di)]), (.exit 0, [])]
def Ds [Lk] : (List U5 × Int × List U3 × Int × Unit) → Option ((List U5 × Int × List U3 × Int × Unit) ⊕ U8 ⊕ (Unit) ⊕ Unit) := fun (a0, a1, a2, a3, _) =>
 match (ilt a3 (AN a0)) with
 | true => match idx a0 a3 with
  | none => none
  | some x0 => match (ilt x0.1 0) with
  | true => some (.inr (.inl (10, ())))
  | false => match idx a0 a3 with
  | none => none
  | some x1 => match (ile a1 x1.1) with
  | true => some (.inr (.inl (10, ())))
  | false => match idx a0 a3 with
  | none => none
  | some x2 => match (ilt x2.2.1 0) with
  | true => some (.inr (.inl (10, ())))
  | false => match idx a0 a3 with
  | none => none
  | some x3 => match (ile a1 x3.2.1) with
  | true => some (.inr (.inl (10, ())))
  | false => some (.inl (a0, a1, a2, (IntKind.wrap .i64 (a3 + 1)), ()))
 | false => some (.inr (.inr (.inl ())))
def LQ [Lk] : (Uh × List U5 × Unit) → Option (U8) := fun (a0, a1, _) =>
 match LV ((a0.1, (a0.2.1, ())), ()) with
 | none => none
 | some (y0, _) => match (!y0) with
 | true => some (1, ())
 | false => match AX Ds many (a1, a0.1, a0.2.1, 0, ()) with
 | none => none
 | some r => match r with
 | .inl (o1, _) => some (o1, ())
 | .inr r => match r with
 | .inl _ => some (0, ())
 | .inr _ => none
def OG [Lk] := fun v => Lk.f (LQ v)
theorem Ww v : OG v = LQ v := AK _
abbrev Ry : AE := [(.tmp 0, .dat Ub), (.tmp 1, .dat Uu)]
abbrev Rx : AE := [(.tmp 0, .dat Ub), (.tmp 1, .own 4 .bool), (.tmp 2, .di)]
abbrev Rw : List RS := [.one, .one, .one]
abbrev ZE : AE := [(.tmp 1, .dat Uu), (.tmp 2, .box 2), (.cell 0 0, .di), (.cell 0 1, .dat Uk), (.tmp 4, .box 2), (.cell 1 0, .di), (.cell 1 1, .nil U4), (.tmp 8, .own 4 .bool), (.tmp 9, .di)]
abbrev ZD : At := [(.exit 0, [(.tmp 2, .box 2), (.cell 0 0, .di), (.cell 0 1, .dat Uk), (.tmp 4, .box 2), (.cell 1 0, .di), (.cell 1 1, .nil U4), (.tmp 8, .own 4 .bool)])]
def Dz [Lk] : (List U5 × Int × List U3 × Int × List Bool × Int × Unit) → Option ((List U5 × Int × List U3 × Int × List Bool × Int × Unit) ⊕ (Int × List U3 × Int × List Bool × Unit) ⊕ Unit) := fun (a0, a1, a2, a3, a4, a5, _) =>
 match (ilt a5 (AN a0)) with
 | true => match idx a0 a5 with
  | none => none
  | some x0 => match idx a0 a5 with
  | none => none
  | some x1 => match KZ ((a1, (a2, ())), x0.1, x1.2.1, ()) with
  | none => none
  | some (y2, y3, y4, _) => match (fits ((AN a4) + (AN ([(ieq y4 0)] : List (Bool))))) with
  | true => some (.inl (a0, y2, y3, a3, (A8 a4 ([(ieq y4 0)] : List (Bool))), (IntKind.wrap .i64 (a5 + 1)), ()))
  | false => none
 | false => some (.inr (.inl (a1, a2, a3, a4, ())))
def Lw [Lk] : (Uh × List U5 × Unit) → Option ((Uh × List Bool × Int × Unit)) := fun (a0, a1, _) =>
 match OG ((a0.1, (a0.2.1, ())), a1, ()) with
 | none => none
 | some (y0, _) => match (!(ieq y0 0)) with
 | true => some ((a0.1, (a0.2.1, ())), ([] : List (Bool)), y0, ())
 | false => match AX Dz many (a1, a0.1, a0.2.1, 0, ([] : List (Bool)), 0, ()) with
 | none => none
 | some r => match r with
 | .inl (o1, o2, o3, o4, _) => some ((o1, (o2, ())), o4, 0, ())
 | .inr _ => none
def Ot [Lk] := fun v => Lk.f (Lw v)
theorem ZF v : Ot v = Lw v := AK _
abbrev AO8 : AE := [(.tmp 0, .di), (.tmp 1, .dat Uu)]
abbrev AO7 : AE := [(.tmp 0, .dat Ub), (.tmp 1, .di)]
abbrev AO6 : List RS := [.one, .one]
def AGC [Lk] : (Int × List U5 × Unit) → Option (V6) := fun (a0, a1, _) =>
 match Rn (a0, ()) with
 | none => none
 | some (y0, y1, y2, _) => match (!(ieq y2 0)) with
 | true => some ((0, (([] : List U3), ())), y2, ())
 | false => match Ot ((y0, (y1, ())), a1, ()) with
 | none => none
 | some (y3, y4, y5, _) => match (!(ieq y5 0)) with
 | true => some ((0, (([] : List U3), ())), y5, ())
 | false => some ((y3.1, (y3.2.1, ())), 0, ())
def AYH [Lk] := fun v => Lk.f (AGC v)
theorem AR7 v : AYH v = AGC v := AK _
abbrev Zy : AE := [(.tmp 0, .dat Ue), (.tmp 1, .di), (.tmp 2, .di)]
abbrev Zx : AE := [(.tmp 0, .di)]
abbrev Zw : List RS := [.one]
abbrev ADm : AE := [(.tmp 1, .di), (.tmp 2, .di), (.tmp 3, .box 2), (.cell 0 0, .di), (.cell 0 1, .dat U1), (.tmp 7, .di)]
abbrev ADl : At := [(.ret, [(.tmp 6, .di)]), (.exit 0, [])]
def FI [Lk] : (Int × Int × Int × List U2 × Int × Unit) → Option ((Int × Int × Int × List U2 × Int × Unit) ⊕ U8 ⊕ (Unit) ⊕ Unit) := fun (a0, a1, a2, a3, a4, _) =>
 match (ilt a4 (AN a3)) with
 | true => match idx a3 a4 with
  | none => none
  | some x0 => match (ieq x0.1 (Ci a0 a1)) with
  | true => match idx a3 a4 with
   | none => none
   | some x1 => match (ieq x1.2.1 (imax a0 a1)) with
   | true => some (.inr (.inl (a4, ())))
   | false => some (.inl (a0, a1, a2, a3, (IntKind.wrap .i64 (a4 + 1)), ()))
  | false => some (.inl (a0, a1, a2, a3, (IntKind.wrap .i64 (a4 + 1)), ()))
 | false => some (.inr (.inr (.inl ())))
def Kk [Lk] : (Ui × Int × Int × Unit) → Option (U8) := fun (a0, a1, a2, _) =>
 match Bl ((a0.1, (a0.2.1, ())), ()) with
 | none => none
 | some (y0, _) => match (!y0) with
 | true => some ((-1 : Int), ())
 | false => match AX FI many (a1, a2, a0.1, a0.2.1, 0, ()) with
 | none => none
 | some r => match r with
 | .inl (o1, _) => some (o1, ())
 | .inr r => match r with
 | .inl _ => some ((-1 : Int), ())
 | .inr _ => none
def Nb [Lk] := fun v => Lk.f (Kk v)
theorem SR v : Nb v = Kk v := AK _
abbrev QY : AE := [(.tmp 0, .dat Ue), (.tmp 1, .di)]
abbrev QX : AE := [(.tmp 0, .own 42 U9)]
abbrev QW : List RS := [.one]
abbrev Wj : AE := [(.tmp 1, .di), (.tmp 2, .box 2), (.cell 0 0, .di), (.cell 0 1, .dat U1), (.tmp 5, .own 42 U9), (.tmp 6, .di)]
abbrev Wi : At := [(.exit 0, [(.tmp 5, .own 42 U9)])]
def Dr [Lk] : (Int × Int × List U2 × List U5 × Int × Unit) → Option ((Int × Int × List U2 × List U5 × Int × Unit) ⊕ Uy ⊕ Unit) := fun (a0, a1, a2, a3, a4, _) =>
 match (ilt a4 (AN a2)) with
 | true => match idx a2 a4 with
  | none => none
  | some x0 => match x0.2.2.2.1 with
  | true => match idx a2 a4 with
   | none => none
   | some x1 => match (ile a0 x1.2.2.1) with
   | true => match idx a2 a4 with
    | none => none
    | some x2 => match idx a2 a4 with
    | none => none
    | some x3 => match (fits ((AN a3) + (AN ([(x2.1, (x3.2.1, ()))] : List U5)))) with
    | true => some (.inl (a0, a1, a2, (A8 a3 ([(x2.1, (x3.2.1, ()))] : List U5)), (IntKind.wrap .i64 (a4 + 1)), ()))
    | false => none
   | false => some (.inl (a0, a1, a2, a3, (IntKind.wrap .i64 (a4 + 1)), ()))
  | false => some (.inl (a0, a1, a2, a3, (IntKind.wrap .i64 (a4 + 1)), ()))
 | false => some (.inr (.inl (a3, ())))
def LN [Lk] : (Ui × Int × Unit) → Option (Uy) := fun (a0, a1, _) =>
 match AX Dr many (a1, a0.1, a0.2.1, ([] : List U5), 0, ()) with
 | none => none
 | some r => match r with
 | .inl (o0, _) => some (o0, ())
 | .inr _ => none
def OD [Lk] := fun v => Lk.f (LN v)
theorem Wk v : OD v = LN v := AK _
abbrev NY : AE := [(.tmp 0, .dat Ue), (.tmp 1, .di)]
abbrev NX : AE := [(.tmp 0, .dat Ub), (.tmp 1, .di)]
abbrev NW : List RS := [.one, .one]
def HJ [Lk] : (Ui × Int × Unit) → Option (V6) := fun (a0, a1, _) =>
 match Bl ((a0.1, (a0.2.1, ())), ()) with
 | none => none
 | some (y0, _) => match (!y0) with
 | true => some ((0, (([] : List U3), ())), 1, ())
 | false => match OD ((a0.1, (a0.2.1, ())), a1, ()) with
 | none => none
 | some (y1, _) => match AYH (a0.1, y1, ()) with
 | none => none
 | some (y2, y3, _) => some ((y2.1, (y2.2.1, ())), y3, ())
def Ih [Lk] := fun v => Lk.f (HJ v)
theorem Ki v : Ih v = HJ v := AK _
abbrev W4 : AE := [(.tmp 0, .dat Ue), (.tmp 1, .dat Ue)]
abbrev W3 : AE := [(.tmp 0, .dat .bool)]
abbrev W2 : List RS := [.one]
abbrev ACr : AE := [(.tmp 2, .box 2), (.cell 0 0, .di), (.cell 0 1, .dat U1), (.tmp 3, .box 2), (.cell 1 0, .di), (.cell 1 1, .dat U1), (.tmp 5, .di)]
abbrev ACq : At := [(.ret, [(.tmp 4, .dat .bool)]), (.exit 0, [])]
def EC [Lk] : (Int × List U2 × Int × List U2 × Int × Unit) → Option ((Int × List U2 × Int × List U2 × Int × Unit) ⊕ Ug ⊕ (Unit) ⊕ Unit) := fun (a0, a1, a2, a3, a4, _) =>
 match (ilt a4 (AN a1)) with
 | true => match idx a1 a4 with
  | none => none
  | some x0 => match idx a3 a4 with
  | none => none
  | some x1 => match (!(ieq x0.1 x1.1 && (ieq x0.2.1 x1.2.1 && (ieq x0.2.2.1 x1.2.2.1 && ((x0.2.2.2.1 == x1.2.2.2.1) && true))))) with
  | true => some (.inr (.inl (false, ())))
  | false => some (.inl (a0, a1, a2, a3, (IntKind.wrap .i64 (a4 + 1)), ()))
 | false => some (.inr (.inr (.inl ())))
def OJ [Lk] : (Ui × Ui × Unit) → Option (Ug) := fun (a0, a1, _) =>
 match (!(ieq a0.1 a1.1)) with
 | true => some (false, ())
 | false => match (!(ieq (AN a0.2.1) (AN a1.2.1))) with
 | true => some (false, ())
 | false => match AX EC many (a0.1, a0.2.1, a1.1, a1.2.1, 0, ()) with
 | none => none
 | some r => match r with
 | .inl (o0, _) => some (o0, ())
 | .inr r => match r with
 | .inl _ => some (true, ())
 | .inr _ => none
def W6 [Lk] := fun v => Lk.f (OJ v)
theorem ACs v : W6 v = OJ v := AK _
end
end Go.Pev
end
section
namespace Go.Pev
set_option maxRecDepth 100000
noncomputable section
attribute [local irreducible] Mc JS NP MV AYt AYu AYv Qy VH W0 ABI AAP AS many IntKind.wrap AN Al AT A8 DB DQ Im AG Cc Ci imax AR Ag
abbrev R2 : AE := [(.tmp 0, .dat Ue), (.tmp 1, .di)]
abbrev R1 : AE := [(.tmp 0, .dat Ub), (.tmp 1, .di)]
abbrev R0 : List RS := [.one, .one]
def Gf [Lk] : (Ui × Int × Unit) → Option (V6) := fun (a0, a1, _) =>
 match CZ ((a0.1, (a0.2.1, ())), ()) with
 | none => none
 | some (y0, _) => match (!y0) with
 | true => some ((0, (([] : List U3), ())), 1, ())
 | false => match NB ((a0.1, (a0.2.1, ())), a1, ()) with
 | none => none
 | some (y1, _) => match fof (a0.1, y1, ()) with
 | none => none
 | some (y2, y3, _) => some ((y2.1, (y2.2.1, ())), y3, ())
def GS [Lk] := fun v => Lk.f (Gf v)
theorem JM v : GS v = Gf v := AK _
abbrev AGk : AE := [(.tmp 0, .di), (.tmp 1, .di)]
abbrev AGj : AE := [(.tmp 0, .dat .bool)]
abbrev AGi : List RS := [.one]
def Vw [Lk] : U5 → Option (Ug) := fun (a0, a1, _) =>
 match APH (a0, ()) with
 | none => none
 | some (y0, _) => match y0 with
 | true => match APH (a1, ()) with
  | none => none
  | some (y1, _) => match (!y1) with
  | true => some (true, ())
  | false => some ((ilt a0 a1), ())
 | false => some ((ilt a0 a1), ())
def Dh [Lk] := fun v => Lk.f (Vw v)
theorem ALN v : Dh v = Vw v := AK _
abbrev AQC : AE := [(.tmp 0, .own 3 U0), (.tmp 1, .di), (.tmp 2, .di)]
abbrev AQB : AE := [(.obj 0, .own 3 U0)]
abbrev AQA : List RS := []
abbrev ASN : AE := [(.obj 0, .own 3 U0), (.tmp 0, .own' 0), (.tmp 1, .di), (.tmp 2, .di), (.tmp 6, .di), (.tmp 7, .di)]
abbrev ASL : At := [(.exit 2, [(.obj 0, .own 3 U0), (.tmp 0, .own' 0), (.tmp 1, .di), (.tmp 2, .di), (.tmp 6, .di)])]
def Ly [Lk] : Uj → Option (Uj ⊕ U6 ⊕ Unit) := fun (a0, a1, a2, a3, a4, _) =>
 match (ilt a1 a4) with
 | true => match idx a0 a4 with
  | none => none
  | some x0 => match idx a0 (IntKind.wrap .i64 (a4 - 1)) with
  | none => none
  | some x1 => match Dh ((AT a0 (AG a4) 0), (AT a0 (AG (IntKind.wrap .i64 (a4 - 1))) 0), ()) with
  | none => none
  | some (y2, _) => match y2 with
  | true => match idx a0 (IntKind.wrap .i64 (a4 - 1)) with
   | none => none
   | some x3 => match idx a0 a4 with
   | none => none
   | some x4 => match idx a0 a4 with
   | none => none
   | some x5 => match idx (Al a0 (AG a4) (AT a0 (AG (IntKind.wrap .i64 (a4 - 1))) 0)) (IntKind.wrap .i64 (a4 - 1)) with
   | none => none
   | some x6 => some (.inl ((Al (Al a0 (AG a4) (AT a0 (AG (IntKind.wrap .i64 (a4 - 1))) 0)) (AG (IntKind.wrap .i64 (a4 - 1))) (AT a0 (AG a4) 0)), a1, a2, a3, (IntKind.wrap .i64 (a4 - 1)), ()))
  | false => some (.inr (.inl (a0, a1, a2, a3, ())))
 | false => some (.inr (.inl (a0, a1, a2, a3, ())))
abbrev ASO : AE := [(.obj 0, .own 3 U0), (.tmp 0, .own' 0), (.tmp 1, .di), (.tmp 2, .di), (.tmp 6, .di)]
abbrev ASM : At := [(.exit 0, [(.obj 0, .own 3 U0)])]
def Lz [Lk] : U6 → Option (U6 ⊕ Ua ⊕ Unit) := fun (a0, a1, a2, a3, _) =>
 match (ilt a3 a2) with
 | true => match AX Ly many (a0, a1, a2, a3, a3, ()) with
  | none => none
  | some r => match r with
  | .inl (o0, o1, o2, o3, _) => some (.inl (o0, o1, o2, (IntKind.wrap .i64 (o3 + 1)), ()))
  | .inr _ => none
 | false => some (.inr (.inl (a0, ())))
def AGv [Lk] : Ud → Option (Ua) := fun (a0, a1, a2, _) =>
 match AX Lz many (a0, a1, a2, (IntKind.wrap .i64 (a1 + 1)), ()) with
 | none => none
 | some r => match r with
 | .inl (o0, _) => some (o0, ())
 | .inr _ => none
def AVI [Lk] := fun v => Lk.f (AGv v)
theorem ASP v : AVI v = AGv v := AK _
abbrev AE8 : AE := [(.tmp 0, .own 3 U0), (.tmp 1, .di), (.tmp 2, .di), (.tmp 3, .di)]
abbrev AE7 : AE := [(.obj 0, .own 3 U0)]
abbrev AE6 : List RS := []
abbrev AJA : AE := [(.obj 0, .own 3 U0), (.tmp 0, .own' 0), (.tmp 2, .di), (.tmp 3, .di), (.tmp 8, .di)]
abbrev AI9 : At := [(.exit 0, [(.obj 0, .own 3 U0)]), (.ret, [(.obj 0, .own 3 U0)])]
def IM [Lk] : U6 → Option (U6 ⊕ Ua ⊕ Ua ⊕ Unit) := fun (a0, a1, a2, a3, _) =>
 match (ile a1 (IntKind.wrap .i64 ((IntKind.wrap .i64 (2 * a3)) + 1))) with
 | true => some (.inr (.inl (a0, ())))
 | false => match (ilt (IntKind.wrap .i64 ((IntKind.wrap .i64 ((IntKind.wrap .i64 (2 * a3)) + 1)) + 1)) a1) with
 | true => match idx a0 (IntKind.wrap .i64 (a2 + (IntKind.wrap .i64 ((IntKind.wrap .i64 (2 * a3)) + 1)))) with
  | none => none
  | some x0 => match idx a0 (IntKind.wrap .i64 ((IntKind.wrap .i64 (a2 + (IntKind.wrap .i64 ((IntKind.wrap .i64 (2 * a3)) + 1)))) + 1)) with
  | none => none
  | some x1 => match Dh ((AT a0 (AG (IntKind.wrap .i64 (a2 + (IntKind.wrap .i64 ((IntKind.wrap .i64 (2 * a3)) + 1))))) 0), (AT a0 (AG (IntKind.wrap .i64 ((IntKind.wrap .i64 (a2 + (IntKind.wrap .i64 ((IntKind.wrap .i64 (2 * a3)) + 1)))) + 1))) 0), ()) with
  | none => none
  | some (y2, _) => match y2 with
  | true => match idx a0 (IntKind.wrap .i64 (a2 + a3)) with
   | none => none
   | some x3 => match idx a0 (IntKind.wrap .i64 (a2 + (IntKind.wrap .i64 ((IntKind.wrap .i64 ((IntKind.wrap .i64 (2 * a3)) + 1)) + 1)))) with
   | none => none
   | some x4 => match Dh ((AT a0 (AG (IntKind.wrap .i64 (a2 + a3))) 0), (AT a0 (AG (IntKind.wrap .i64 (a2 + (IntKind.wrap .i64 ((IntKind.wrap .i64 ((IntKind.wrap .i64 (2 * a3)) + 1)) + 1))))) 0), ()) with
   | none => none
   | some (y5, _) => match (!y5) with
   | true => some (.inr (.inr (.inl (a0, ()))))
   | false => match idx a0 (IntKind.wrap .i64 (a2 + (IntKind.wrap .i64 ((IntKind.wrap .i64 ((IntKind.wrap .i64 (2 * a3)) + 1)) + 1)))) with
   | none => none
   | some x6 => match idx a0 (IntKind.wrap .i64 (a2 + a3)) with
   | none => none
   | some x7 => match idx a0 (IntKind.wrap .i64 (a2 + a3)) with
   | none => none
   | some x8 => match idx (Al a0 (AG (IntKind.wrap .i64 (a2 + a3))) (AT a0 (AG (IntKind.wrap .i64 (a2 + (IntKind.wrap .i64 ((IntKind.wrap .i64 ((IntKind.wrap .i64 (2 * a3)) + 1)) + 1))))) 0)) (IntKind.wrap .i64 (a2 + (IntKind.wrap .i64 ((IntKind.wrap .i64 ((IntKind.wrap .i64 (2 * a3)) + 1)) + 1)))) with
   | none => none
   | some x9 => some (.inl ((Al (Al a0 (AG (IntKind.wrap .i64 (a2 + a3))) (AT a0 (AG (IntKind.wrap .i64 (a2 + (IntKind.wrap .i64 ((IntKind.wrap .i64 ((IntKind.wrap .i64 (2 * a3)) + 1)) + 1))))) 0)) (AG (IntKind.wrap .i64 (a2 + (IntKind.wrap .i64 ((IntKind.wrap .i64 ((IntKind.wrap .i64 (2 * a3)) + 1)) + 1))))) (AT a0 (AG (IntKind.wrap .i64 (a2 + a3))) 0)), a1, a2, (IntKind.wrap .i64 ((IntKind.wrap .i64 ((IntKind.wrap .i64 (2 * a3)) + 1)) + 1)), ()))
  | false => match idx a0 (IntKind.wrap .i64 (a2 + a3)) with
  | none => none
  | some x10 => match idx a0 (IntKind.wrap .i64 (a2 + (IntKind.wrap .i64 ((IntKind.wrap .i64 (2 * a3)) + 1)))) with
  | none => none
  | some x11 => match Dh ((AT a0 (AG (IntKind.wrap .i64 (a2 + a3))) 0), (AT a0 (AG (IntKind.wrap .i64 (a2 + (IntKind.wrap .i64 ((IntKind.wrap .i64 (2 * a3)) + 1))))) 0), ()) with
  | none => none
  | some (y12, _) => match (!y12) with
  | true => some (.inr (.inr (.inl (a0, ()))))
  | false => match idx a0 (IntKind.wrap .i64 (a2 + (IntKind.wrap .i64 ((IntKind.wrap .i64 (2 * a3)) + 1)))) with
  | none => none
  | some x13 => match idx a0 (IntKind.wrap .i64 (a2 + a3)) with
  | none => none
  | some x14 => match idx a0 (IntKind.wrap .i64 (a2 + a3)) with
  | none => none
  | some x15 => match idx (Al a0 (AG (IntKind.wrap .i64 (a2 + a3))) (AT a0 (AG (IntKind.wrap .i64 (a2 + (IntKind.wrap .i64 ((IntKind.wrap .i64 (2 * a3)) + 1))))) 0)) (IntKind.wrap .i64 (a2 + (IntKind.wrap .i64 ((IntKind.wrap .i64 (2 * a3)) + 1)))) with
  | none => none
  | some x16 => some (.inl ((Al (Al a0 (AG (IntKind.wrap .i64 (a2 + a3))) (AT a0 (AG (IntKind.wrap .i64 (a2 + (IntKind.wrap .i64 ((IntKind.wrap .i64 (2 * a3)) + 1))))) 0)) (AG (IntKind.wrap .i64 (a2 + (IntKind.wrap .i64 ((IntKind.wrap .i64 (2 * a3)) + 1))))) (AT a0 (AG (IntKind.wrap .i64 (a2 + a3))) 0)), a1, a2, (IntKind.wrap .i64 ((IntKind.wrap .i64 (2 * a3)) + 1)), ()))
 | false => match idx a0 (IntKind.wrap .i64 (a2 + a3)) with
 | none => none
 | some x17 => match idx a0 (IntKind.wrap .i64 (a2 + (IntKind.wrap .i64 ((IntKind.wrap .i64 (2 * a3)) + 1)))) with
 | none => none
 | some x18 => match Dh ((AT a0 (AG (IntKind.wrap .i64 (a2 + a3))) 0), (AT a0 (AG (IntKind.wrap .i64 (a2 + (IntKind.wrap .i64 ((IntKind.wrap .i64 (2 * a3)) + 1))))) 0), ()) with
 | none => none
 | some (y19, _) => match (!y19) with
 | true => some (.inr (.inr (.inl (a0, ()))))
 | false => match idx a0 (IntKind.wrap .i64 (a2 + (IntKind.wrap .i64 ((IntKind.wrap .i64 (2 * a3)) + 1)))) with
 | none => none
 | some x20 => match idx a0 (IntKind.wrap .i64 (a2 + a3)) with
 | none => none
 | some x21 => match idx a0 (IntKind.wrap .i64 (a2 + a3)) with
 | none => none
 | some x22 => match idx (Al a0 (AG (IntKind.wrap .i64 (a2 + a3))) (AT a0 (AG (IntKind.wrap .i64 (a2 + (IntKind.wrap .i64 ((IntKind.wrap .i64 (2 * a3)) + 1))))) 0)) (IntKind.wrap .i64 (a2 + (IntKind.wrap .i64 ((IntKind.wrap .i64 (2 * a3)) + 1)))) with
 | none => none
 | some x23 => some (.inl ((Al (Al a0 (AG (IntKind.wrap .i64 (a2 + a3))) (AT a0 (AG (IntKind.wrap .i64 (a2 + (IntKind.wrap .i64 ((IntKind.wrap .i64 (2 * a3)) + 1))))) 0)) (AG (IntKind.wrap .i64 (a2 + (IntKind.wrap .i64 ((IntKind.wrap .i64 (2 * a3)) + 1))))) (AT a0 (AG (IntKind.wrap .i64 (a2 + a3))) 0)), a1, a2, (IntKind.wrap .i64 ((IntKind.wrap .i64 (2 * a3)) + 1)), ()))
def Vi [Lk] : U6 → Option (Ua) := fun (a0, a1, a2, a3, _) =>
 match AX IM many (a0, a2, a3, a1, ()) with
 | none => none
 | some r => match r with
 | .inl (o0, _) => some (o0, ())
 | .inr r => match r with
 | .inl (o1, _) => some (o1, ())
 | .inr _ => none
def ACn [Lk] := fun v => Lk.f (Vi v)
theorem AJB v : ACn v = Vi v := AK _
abbrev AG7 : AE := [(.tmp 0, .own 3 U0), (.tmp 1, .di), (.tmp 2, .di)]
abbrev AG6 : AE := [(.obj 0, .own 3 U0)]
abbrev AG5 : List RS := []
abbrev ALj : AE := [(.obj 0, .own 3 U0), (.tmp 0, .own' 0), (.tmp 6, .di), (.tmp 7, .di), (.tmp 10, .di)]
abbrev ALh : At := [(.exit 2, [(.obj 0, .own 3 U0)])]
def Ic [Lk] : U6 → Option (U6 ⊕ Ua ⊕ Unit) := fun (a0, a1, a2, a3, _) =>
 match (ile 0 a3) with
 | true => match idx a0 (IntKind.wrap .i64 (a1 + a3)) with
  | none => none
  | some x0 => match idx a0 a1 with
  | none => none
  | some x1 => match idx a0 a1 with
  | none => none
  | some x2 => match idx (Al a0 (AG a1) (AT a0 (AG (IntKind.wrap .i64 (a1 + a3))) 0)) (IntKind.wrap .i64 (a1 + a3)) with
  | none => none
  | some x3 => match ACn ((Al (Al a0 (AG a1) (AT a0 (AG (IntKind.wrap .i64 (a1 + a3))) 0)) (AG (IntKind.wrap .i64 (a1 + a3))) (AT a0 (AG a1) 0)), a2, a3, a1, ()) with
  | none => none
  | some (y4, _) => some (.inl (y4, a1, a2, (IntKind.wrap .i64 (a3 - 1)), ()))
 | false => some (.inr (.inl (a0, ())))
abbrev ALk : AE := [(.obj 0, .own 3 U0), (.tmp 0, .own' 0), (.tmp 6, .di), (.tmp 7, .di), (.tmp 8, .di), (.tmp 9, .di)]
abbrev ALi : At := [(.exit 0, [(.obj 0, .own 3 U0), (.tmp 0, .own' 0), (.tmp 6, .di), (.tmp 7, .di), (.tmp 8, .di)])]
def Ie [Lk] : Uj → Option (Uj ⊕ U6 ⊕ Unit) := fun (a0, a1, a2, a3, a4, _) =>
 match (ile 0 a4) with
 | true => match ACn (a0, a4, a3, a1, ()) with
  | none => none
  | some (y0, _) => some (.inl (y0, a1, a2, a3, (IntKind.wrap .i64 (a4 - 1)), ()))
 | false => some (.inr (.inl (a0, a1, a2, a3, ())))
def Vy [Lk] : Ud → Option (Ua) := fun (a0, a1, a2, _) =>
 match quo? .i64 (IntKind.wrap .i64 ((IntKind.wrap .i64 (a2 - a1)) - 1)) 2 with
 | none => none
 | some x0 => match AX Ie many (a0, a1, 0, (IntKind.wrap .i64 (a2 - a1)), x0, ()) with
 | none => none
 | some r => match r with
 | .inl (o1, o2, o3, o4, _) => match AX Ic many (o1, o2, o3, (IntKind.wrap .i64 (o4 - 1)), ()) with
  | none => none
  | some r => match r with
  | .inl (o5, _) => some (o5, ())
  | .inr _ => none
 | .inr _ => none
def ADg [Lk] := fun v => Lk.f (Vy v)
theorem ALl v : ADg v = Vy v := AK _
abbrev AAc : AE := [(.tmp 0, .own 3 U0), (.tmp 1, .di), (.tmp 2, .di)]
abbrev AAb : AE := [(.obj 0, .own 3 U0)]
abbrev AAa : List RS := []
abbrev ADy : AE := [(.obj 0, .own 3 U0), (.tmp 0, .own' 0), (.tmp 1, .di), (.tmp 6, .di), (.tmp 7, .box 1), (.cell 1 0, .dat (.int .u64)), (.tmp 8, .dat (.int .u64)), (.tmp 9, .di)]
abbrev ADx : At := [(.exit 0, [(.obj 0, .own 3 U0)])]
def FO [Lk] : Un → Option (Un ⊕ Ua ⊕ Unit) := fun (a0, a1, a2, a3, a4, a5, _) =>
 match quo? .i64 a2 4 with
 | none => none
 | some x0 => match (ile a5 (IntKind.wrap .i64 ((IntKind.wrap .i64 (a1 + (IntKind.wrap .i64 (x0 * 2)))) + 1))) with
 | true => match xorNext (a3, ()) with
  | none => none
  | some (y1, y2, _) => match (ile a2 (IntKind.wrap .i64 (IntKind.wrap .u64 ((BitVec.ofInt (IntKind.bits .u64) y2 &&& BitVec.ofInt (IntKind.bits .u64) (IntKind.wrap .u64 (a4 - 1))).toNat)))) with
  | true => match idx a0 (IntKind.wrap .i64 (a1 + (IntKind.wrap .i64 ((IntKind.wrap .i64 (IntKind.wrap .u64 ((BitVec.ofInt (IntKind.bits .u64) y2 &&& BitVec.ofInt (IntKind.bits .u64) (IntKind.wrap .u64 (a4 - 1))).toNat))) - a2)))) with
   | none => none
   | some x3 => match idx a0 a5 with
   | none => none
   | some x4 => match idx a0 a5 with
   | none => none
   | some x5 => match idx (Al a0 (AG a5) (AT a0 (AG (IntKind.wrap .i64 (a1 + (IntKind.wrap .i64 ((IntKind.wrap .i64 (IntKind.wrap .u64 ((BitVec.ofInt (IntKind.bits .u64) y2 &&& BitVec.ofInt (IntKind.bits .u64) (IntKind.wrap .u64 (a4 - 1))).toNat))) - a2))))) 0)) (IntKind.wrap .i64 (a1 + (IntKind.wrap .i64 ((IntKind.wrap .i64 (IntKind.wrap .u64 ((BitVec.ofInt (IntKind.bits .u64) y2 &&& BitVec.ofInt (IntKind.bits .u64) (IntKind.wrap .u64 (a4 - 1))).toNat))) - a2)))) with
   | none => none
   | some x6 => some (.inl ((Al (Al a0 (AG a5) (AT a0 (AG (IntKind.wrap .i64 (a1 + (IntKind.wrap .i64 ((IntKind.wrap .i64 (IntKind.wrap .u64 ((BitVec.ofInt (IntKind.bits .u64) y2 &&& BitVec.ofInt (IntKind.bits .u64) (IntKind.wrap .u64 (a4 - 1))).toNat))) - a2))))) 0)) (AG (IntKind.wrap .i64 (a1 + (IntKind.wrap .i64 ((IntKind.wrap .i64 (IntKind.wrap .u64 ((BitVec.ofInt (IntKind.bits .u64) y2 &&& BitVec.ofInt (IntKind.bits .u64) (IntKind.wrap .u64 (a4 - 1))).toNat))) - a2))))) (AT a0 (AG a5) 0)), a1, a2, y1, a4, (IntKind.wrap .i64 (a5 + 1)), ()))
  | false => match idx a0 (IntKind.wrap .i64 (a1 + (IntKind.wrap .i64 (IntKind.wrap .u64 ((BitVec.ofInt (IntKind.bits .u64) y2 &&& BitVec.ofInt (IntKind.bits .u64) (IntKind.wrap .u64 (a4 - 1))).toNat))))) with
  | none => none
  | some x7 => match idx a0 a5 with
  | none => none
  | some x8 => match idx a0 a5 with
  | none => none
  | some x9 => match idx (Al a0 (AG a5) (AT a0 (AG (IntKind.wrap .i64 (a1 + (IntKind.wrap .i64 (IntKind.wrap .u64 ((BitVec.ofInt (IntKind.bits .u64) y2 &&& BitVec.ofInt (IntKind.bits .u64) (IntKind.wrap .u64 (a4 - 1))).toNat)))))) 0)) (IntKind.wrap .i64 (a1 + (IntKind.wrap .i64 (IntKind.wrap .u64 ((BitVec.ofInt (IntKind.bits .u64) y2 &&& BitVec.ofInt (IntKind.bits .u64) (IntKind.wrap .u64 (a4 - 1))).toNat))))) with
  | none => none
  | some x10 => some (.inl ((Al (Al a0 (AG a5) (AT a0 (AG (IntKind.wrap .i64 (a1 + (IntKind.wrap .i64 (IntKind.wrap .u64 ((BitVec.ofInt (IntKind.bits .u64) y2 &&& BitVec.ofInt (IntKind.bits .u64) (IntKind.wrap .u64 (a4 - 1))).toNat)))))) 0)) (AG (IntKind.wrap .i64 (a1 + (IntKind.wrap .i64 (IntKind.wrap .u64 ((BitVec.ofInt (IntKind.bits .u64) y2 &&& BitVec.ofInt (IntKind.bits .u64) (IntKind.wrap .u64 (a4 - 1))).toNat)))))) (AT a0 (AG a5) 0)), a1, a2, y1, a4, (IntKind.wrap .i64 (a5 + 1)), ()))
 | false => some (.inr (.inl (a0, ())))
def Pd [Lk] : Ud → Option (Ua) := fun (a0, a1, a2, _) =>
 match (ile 8 (IntKind.wrap .i64 (a2 - a1))) with
 | true => match Lm ((IntKind.wrap .i64 (a2 - a1)), ()) with
  | none => none
  | some (y0, _) => match quo? .i64 (IntKind.wrap .i64 (a2 - a1)) 4 with
  | none => none
  | some x1 => match AX FO many (a0, a1, (IntKind.wrap .i64 (a2 - a1)), (IntKind.wrap .u64 (IntKind.wrap .i64 (a2 - a1))), y0, (IntKind.wrap .i64 ((IntKind.wrap .i64 (a1 + (IntKind.wrap .i64 (x1 * 2)))) - 1)), ()) with
  | none => none
  | some r => match r with
  | .inl (o2, _) => some (o2, ())
  | .inr _ => none
 | false => some (a0, ())
def Sj [Lk] := fun v => Lk.f (Pd v)
theorem ADz v : Sj v = Pd v := AK _
abbrev RT : AE := [(.tmp 0, .own 3 U0), (.tmp 1, .di), (.tmp 2, .di), (.tmp 3, .box 1), (.cell 1 0, .di)]
abbrev RR : AE := [(.obj 0, .own 3 U0), (.obj 1, .box 1), (.cell 1 0, .di), (.tmp 0, .di), (.tmp 1, .di)]
abbrev RQ : List RS := [.one, .one]
def Lh [Lk] : U6 → Option (U6) := fun (a0, a1, a2, a3, _) =>
 match idx a0 a2 with
 | none => none
 | some x0 => match idx a0 a1 with
 | none => none
 | some x1 => match Dh ((AT a0 (AG a2) 0), (AT a0 (AG a1) 0), ()) with
 | none => none
 | some (y2, _) => match y2 with
 | true => some (a0, (IntKind.wrap .i64 (a3 + 1)), a2, a1, ())
 | false => some (a0, a3, a1, a2, ())
def JD [Lk] := fun v => Lk.f (Lh v)
theorem Yd v : JD v = Lh v := AK _
abbrev Rg : AE := [(.tmp 0, .own 3 U0), (.tmp 1, .di), (.tmp 2, .di), (.tmp 3, .di), (.tmp 4, .box 1), (.cell 1 0, .di)]
abbrev Rf : AE := [(.obj 0, .own 3 U0), (.obj 1, .box 1), (.cell 1 0, .di), (.tmp 0, .di)]
abbrev Re : List RS := [.one]
def Ln [Lk] : Uj → Option (Ud) := fun (a0, a1, a2, a3, a4, _) =>
 match JD (a0, a1, a2, a4, ()) with
 | none => none
 | some (y0, y1, y2, y3, _) => match JD (y0, y3, a3, y1, ()) with
 | none => none
 | some (y4, y5, y6, y7, _) => match JD (y4, y2, y6, y5, ()) with
 | none => none
 | some (y8, y9, y10, y11, _) => some (y8, y9, y11, ())
def JJ [Lk] := fun v => Lk.f (Ln v)
theorem Yn v : JJ v = Ln v := AK _
abbrev Rm : AE := [(.tmp 0, .own 3 U0), (.tmp 1, .di), (.tmp 2, .box 1), (.cell 1 0, .di)]
abbrev Rl : AE := [(.obj 0, .own 3 U0), (.obj 1, .box 1), (.cell 1 0, .di), (.tmp 0, .di)]
abbrev Rk : List RS := [.one]
def Lq [Lk] : Ud → Option (Ud) := fun (a0, a1, a2, _) =>
 match JJ (a0, (IntKind.wrap .i64 (a1 - 1)), a1, (IntKind.wrap .i64 (a1 + 1)), a2, ()) with
 | none => none
 | some (y0, y1, y2, _) => some (y0, y1, y2, ())
def JK [Lk] := fun v => Lk.f (Lq v)
theorem Yo v : JK v = Lq v := AK _
abbrev X3 : AE := [(.tmp 0, .own 3 U0), (.tmp 1, .di), (.tmp 2, .di)]
abbrev X2 : AE := [(.obj 0, .own 3 U0), (.tmp 0, .di), (.tmp 1, .di)]
abbrev X1 : List RS := [.one, .one]
def OT [Lk] : Ud → Option (Ud) := fun (a0, a1, a2, _) =>
 match quo? .i64 (IntKind.wrap .i64 (a2 - a1)) 4 with
 | none => none
 | some x0 => match quo? .i64 (IntKind.wrap .i64 (a2 - a1)) 4 with
 | none => none
 | some x1 => match quo? .i64 (IntKind.wrap .i64 (a2 - a1)) 4 with
 | none => none
 | some x2 => match (ile 8 (IntKind.wrap .i64 (a2 - a1))) with
 | true => match (ile 50 (IntKind.wrap .i64 (a2 - a1))) with
  | true => match JK (a0, (IntKind.wrap .i64 (a1 + (IntKind.wrap .i64 (x0 * 1)))), 0, ()) with
   | none => none
   | some (y3, y4, y5, _) => match JK (y3, (IntKind.wrap .i64 (a1 + (IntKind.wrap .i64 (x1 * 2)))), y4, ()) with
   | none => none
   | some (y6, y7, y8, _) => match JK (y6, (IntKind.wrap .i64 (a1 + (IntKind.wrap .i64 (x2 * 3)))), y7, ()) with
   | none => none
   | some (y9, y10, y11, _) => match JJ (y9, y5, y8, y11, y10, ()) with
   | none => none
   | some (y12, y13, y14, _) => match (ieq y13 0) with
   | true => some (y12, y14, 1, ())
   | false => match (ieq y13 12) with
   | true => some (y12, y14, 2, ())
   | false => some (y12, y14, 0, ())
  | false => match JJ (a0, (IntKind.wrap .i64 (a1 + (IntKind.wrap .i64 (x0 * 1)))), (IntKind.wrap .i64 (a1 + (IntKind.wrap .i64 (x1 * 2)))), (IntKind.wrap .i64 (a1 + (IntKind.wrap .i64 (x2 * 3)))), 0, ()) with
  | none => none
  | some (y15, y16, y17, _) => match (ieq y16 0) with
  | true => some (y15, y17, 1, ())
  | false => match (ieq y16 12) with
  | true => some (y15, y17, 2, ())
  | false => some (y15, y17, 0, ())
 | false => match (ieq 0 0) with
 | true => some (a0, (IntKind.wrap .i64 (a1 + (IntKind.wrap .i64 (x1 * 2)))), 1, ())
 | false => match (ieq 0 12) with
 | true => some (a0, (IntKind.wrap .i64 (a1 + (IntKind.wrap .i64 (x1 * 2)))), 2, ())
 | false => some (a0, (IntKind.wrap .i64 (a1 + (IntKind.wrap .i64 (x1 * 2)))), 0, ())
def RB [Lk] := fun v => Lk.f (OT v)
theorem ADB v : RB v = OT v := AK _
abbrev AN3 : AE := [(.tmp 0, .own 3 U0), (.tmp 1, .di), (.tmp 2, .di)]
abbrev AN2 : AE := [(.obj 0, .own 3 U0)]
abbrev AN1 : List RS := []
abbrev ARo : AE := [(.obj 0, .own 3 U0), (.tmp 0, .own' 0), (.tmp 6, .di), (.tmp 7, .di)]
abbrev ARn : At := [(.exit 0, [(.obj 0, .own 3 U0)])]
def OP [Lk] : Ud → Option (Ud ⊕ Ua ⊕ Unit) := fun (a0, a1, a2, _) =>
 match (ilt a1 a2) with
 | true => match idx a0 a2 with
  | none => none
  | some x0 => match idx a0 a1 with
  | none => none
  | some x1 => match idx a0 a1 with
  | none => none
  | some x2 => match idx (Al a0 (AG a1) (AT a0 (AG a2) 0)) a2 with
  | none => none
  | some x3 => some (.inl ((Al (Al a0 (AG a1) (AT a0 (AG a2) 0)) (AG a2) (AT a0 (AG a1) 0)), (IntKind.wrap .i64 (a1 + 1)), (IntKind.wrap .i64 (a2 - 1)), ()))
 | false => some (.inr (.inl (a0, ())))
def AFO [Lk] : Ud → Option (Ua) := fun (a0, a1, a2, _) =>
 match AX OP many (a0, a1, (IntKind.wrap .i64 (a2 - 1)), ()) with
 | none => none
 | some r => match r with
 | .inl (o0, _) => some (o0, ())
 | .inr _ => none
def ATs [Lk] := fun v => Lk.f (AFO v)
theorem ARp v : ATs v = AFO v := AK _
abbrev M7 : AE := [(.tmp 0, .own 3 U0), (.tmp 1, .di), (.tmp 2, .di)]
abbrev M6 : AE := [(.obj 0, .own 3 U0), (.tmp 0, .dat .bool)]
abbrev M5 : List RS := [.one]
abbrev Tn : AE := [(.obj 0, .own 3 U0), (.tmp 0, .own' 0), (.tmp 1, .di), (.tmp 2, .di), (.tmp 7, .di), (.tmp 8, .di), (.tmp 10, .di)]
abbrev Tj : At := [(.exit 6, [(.obj 0, .own 3 U0), (.tmp 0, .own' 0), (.tmp 1, .di), (.tmp 2, .di), (.tmp 7, .di), (.tmp 8, .di)])]
def EG [Lk] : Un → Option (Un ⊕ Uj ⊕ Unit) := fun (a0, a1, a2, a3, a4, a5, _) =>
 match (ilt a5 a2) with
 | true => match idx a0 a5 with
  | none => none
  | some x0 => match idx a0 (IntKind.wrap .i64 (a5 - 1)) with
  | none => none
  | some x1 => match Dh ((AT a0 (AG a5) 0), (AT a0 (AG (IntKind.wrap .i64 (a5 - 1))) 0), ()) with
  | none => none
  | some (y2, _) => match (!y2) with
  | true => some (.inr (.inl (a0, a1, a2, a3, a4, ())))
  | false => match idx a0 (IntKind.wrap .i64 (a5 - 1)) with
  | none => none
  | some x3 => match idx a0 a5 with
  | none => none
  | some x4 => match idx a0 a5 with
  | none => none
  | some x5 => match idx (Al a0 (AG a5) (AT a0 (AG (IntKind.wrap .i64 (a5 - 1))) 0)) (IntKind.wrap .i64 (a5 - 1)) with
  | none => none
  | some x6 => some (.inl ((Al (Al a0 (AG a5) (AT a0 (AG (IntKind.wrap .i64 (a5 - 1))) 0)) (AG (IntKind.wrap .i64 (a5 - 1))) (AT a0 (AG a5) 0)), a1, a2, a3, a4, (IntKind.wrap .i64 (a5 + 1)), ()))
 | false => some (.inr (.inl (a0, a1, a2, a3, a4, ())))
abbrev To : AE := [(.obj 0, .own 3 U0), (.tmp 0, .own' 0), (.tmp 1, .di), (.tmp 2, .di), (.tmp 7, .di), (.tmp 8, .di), (.tmp 9, .di)]
abbrev Tk : At := [(.exit 4, [(.obj 0, .own 3 U0), (.tmp 0, .own' 0), (.tmp 1, .di), (.tmp 2, .di), (.tmp 7, .di), (.tmp 8, .di)])]
def EH [Lk] : Un → Option (Un ⊕ Uj ⊕ Unit) := fun (a0, a1, a2, a3, a4, a5, _) =>
 match (ile 1 a5) with
 | true => match idx a0 a5 with
  | none => none
  | some x0 => match idx a0 (IntKind.wrap .i64 (a5 - 1)) with
  | none => none
  | some x1 => match Dh ((AT a0 (AG a5) 0), (AT a0 (AG (IntKind.wrap .i64 (a5 - 1))) 0), ()) with
  | none => none
  | some (y2, _) => match (!y2) with
  | true => some (.inr (.inl (a0, a1, a2, a3, a4, ())))
  | false => match idx a0 (IntKind.wrap .i64 (a5 - 1)) with
  | none => none
  | some x3 => match idx a0 a5 with
  | none => none
  | some x4 => match idx a0 a5 with
  | none => none
  | some x5 => match idx (Al a0 (AG a5) (AT a0 (AG (IntKind.wrap .i64 (a5 - 1))) 0)) (IntKind.wrap .i64 (a5 - 1)) with
  | none => none
  | some x6 => some (.inl ((Al (Al a0 (AG a5) (AT a0 (AG (IntKind.wrap .i64 (a5 - 1))) 0)) (AG (IntKind.wrap .i64 (a5 - 1))) (AT a0 (AG a5) 0)), a1, a2, a3, a4, (IntKind.wrap .i64 (a5 - 1)), ()))
 | false => some (.inr (.inl (a0, a1, a2, a3, a4, ())))
abbrev Tp : AE := [(.obj 0, .own 3 U0), (.tmp 0, .own' 0), (.tmp 1, .di), (.tmp 2, .di), (.tmp 7, .di), (.tmp 8, .di)]
abbrev Tl : At := [(.exit 2, [(.obj 0, .own 3 U0), (.tmp 0, .own' 0), (.tmp 1, .di), (.tmp 2, .di), (.tmp 7, .di), (.tmp 8, .di)])]
def Fp [Lk] : Uj → Option (Uj ⊕ Uj ⊕ Unit) := fun (a0, a1, a2, a3, a4, _) =>
 match (ilt a3 a2) with
 | true => match idx a0 a3 with
  | none => none
  | some x0 => match idx a0 (IntKind.wrap .i64 (a3 - 1)) with
  | none => none
  | some x1 => match Dh ((AT a0 (AG a3) 0), (AT a0 (AG (IntKind.wrap .i64 (a3 - 1))) 0), ()) with
  | none => none
  | some (y2, _) => match (!y2) with
  | true => some (.inl (a0, a1, a2, (IntKind.wrap .i64 (a3 + 1)), a4, ()))
  | false => some (.inr (.inl (a0, a1, a2, a3, a4, ())))
 | false => some (.inr (.inl (a0, a1, a2, a3, a4, ())))
abbrev Tq : AE := [(.obj 0, .own 3 U0), (.tmp 0, .own' 0), (.tmp 1, .di), (.tmp 2, .di), (.tmp 7, .di), (.tmp 8, .di)]
abbrev Tm : At := [(.ret, [(.obj 0, .own 3 U0), (.tmp 6, .dat .bool)]), (.exit 0, [(.obj 0, .own 3 U0)])]
def B5 [Lk] : Uj → Option (Uj ⊕ V0 ⊕ Ua ⊕ Unit) := fun (a0, a1, a2, a3, a4, _) =>
 match (ilt a4 5) with
 | true => match AX Fp many (a0, a1, a2, a3, a4, ()) with
  | none => none
  | some r => match r with
  | .inl (o0, o1, o2, o3, o4, _) => match (ieq o3 o2) with
   | true => some (.inr (.inl (o0, true, ())))
   | false => match (ilt (IntKind.wrap .i64 (o2 - o1)) 50) with
   | true => some (.inr (.inl (o0, false, ())))
   | false => match idx o0 (IntKind.wrap .i64 (o3 - 1)) with
   | none => none
   | some x5 => match idx o0 o3 with
   | none => none
   | some x6 => match idx o0 o3 with
   | none => none
   | some x7 => match idx (Al o0 (AG o3) (AT o0 (AG (IntKind.wrap .i64 (o3 - 1))) 0)) (IntKind.wrap .i64 (o3 - 1)) with
   | none => none
   | some x8 => match (ile 2 (IntKind.wrap .i64 (o3 - o1))) with
   | true => match AX EH many ((Al (Al o0 (AG o3) (AT o0 (AG (IntKind.wrap .i64 (o3 - 1))) 0)) (AG (IntKind.wrap .i64 (o3 - 1))) (AT o0 (AG o3) 0)), o1, o2, o3, o4, (IntKind.wrap .i64 (o3 - 1)), ()) with
    | none => none
    | some r => match r with
    | .inl (o9, o10, o11, o12, o13, _) => match (ile 2 (IntKind.wrap .i64 (o11 - o12))) with
     | true => match AX EG many (o9, o10, o11, o12, o13, (IntKind.wrap .i64 (o12 + 1)), ()) with
      | none => none
      | some r => match r with
      | .inl (o14, o15, o16, o17, o18, _) => some (.inl (o14, o15, o16, o17, (IntKind.wrap .i64 (o18 + 1)), ()))
      | .inr _ => none
     | false => some (.inl (o9, o10, o11, o12, (IntKind.wrap .i64 (o13 + 1)), ()))
    | .inr _ => none
   | false => match (ile 2 (IntKind.wrap .i64 (o2 - o3))) with
   | true => match AX EG many ((Al (Al o0 (AG o3) (AT o0 (AG (IntKind.wrap .i64 (o3 - 1))) 0)) (AG (IntKind.wrap .i64 (o3 - 1))) (AT o0 (AG o3) 0)), o1, o2, o3, o4, (IntKind.wrap .i64 (o3 + 1)), ()) with
    | none => none
    | some r => match r with
    | .inl (o19, o20, o21, o22, o23, _) => some (.inl (o19, o20, o21, o22, (IntKind.wrap .i64 (o23 + 1)), ()))
    | .inr _ => none
   | false => some (.inl ((Al (Al o0 (AG o3) (AT o0 (AG (IntKind.wrap .i64 (o3 - 1))) 0)) (AG (IntKind.wrap .i64 (o3 - 1))) (AT o0 (AG o3) 0)), o1, o2, o3, (IntKind.wrap .i64 (o4 + 1)), ()))
  | .inr _ => none
 | false => some (.inr (.inr (.inl (a0, ()))))
def I8 [Lk] : Ud → Option (V0) := fun (a0, a1, a2, _) =>
 match AX B5 many (a0, a1, a2, (IntKind.wrap .i64 (a1 + 1)), 0, ()) with
 | none => none
 | some r => match r with
 | .inl (o0, o1, _) => some (o0, o1, ())
 | .inr r => match r with
 | .inl (o2, _) => some (o2, false, ())
 | .inr _ => none
def IT [Lk] := fun v => Lk.f (I8 v)
theorem Tr v : IT v = I8 v := AK _
abbrev RM : AE := [(.tmp 0, .own 3 U0), (.tmp 1, .di), (.tmp 2, .di), (.tmp 3, .di)]
abbrev RL : AE := [(.obj 0, .own 3 U0), (.tmp 0, .di)]
abbrev RK : List RS := [.one]
abbrev YX : AE := [(.obj 0, .own 3 U0), (.tmp 0, .own' 0), (.tmp 1, .di), (.tmp 9, .di), (.tmp 10, .di)]
abbrev YU : At := [(.exit 4, [(.obj 0, .own 3 U0), (.tmp 0, .own' 0), (.tmp 1, .di), (.tmp 9, .di), (.tmp 10, .di)])]
def G3 [Lk] : U6 → Option V4 := fun (a0, a1, a2, a3, _) =>
 match (ile a2 a3) with
 | true => match idx a0 a1 with
  | none => none
  | some x0 => match idx a0 a3 with
  | none => none
  | some x1 => match Dh ((AT a0 (AG a1) 0), (AT a0 (AG a3) 0), ()) with
  | none => none
  | some (y2, _) => match y2 with
  | true => some (.inl (a0, a1, a2, (IntKind.wrap .i64 (a3 - 1)), ()))
  | false => some (.inr (.inl (a0, a1, a2, a3, ())))
 | false => some (.inr (.inl (a0, a1, a2, a3, ())))
abbrev YY : AE := [(.obj 0, .own 3 U0), (.tmp 0, .own' 0), (.tmp 1, .di), (.tmp 9, .di), (.tmp 10, .di)]
abbrev YV : At := [(.exit 2, [(.obj 0, .own 3 U0), (.tmp 0, .own' 0), (.tmp 1, .di), (.tmp 9, .di), (.tmp 10, .di)])]
def G4 [Lk] : U6 → Option V4 := fun (a0, a1, a2, a3, _) =>
 match (ile a2 a3) with
 | true => match idx a0 a1 with
  | none => none
  | some x0 => match idx a0 a2 with
  | none => none
  | some x1 => match Dh ((AT a0 (AG a1) 0), (AT a0 (AG a2) 0), ()) with
  | none => none
  | some (y2, _) => match (!y2) with
  | true => some (.inl (a0, a1, (IntKind.wrap .i64 (a2 + 1)), a3, ()))
  | false => some (.inr (.inl (a0, a1, a2, a3, ())))
 | false => some (.inr (.inl (a0, a1, a2, a3, ())))
abbrev YZ : AE := [(.obj 0, .own 3 U0), (.tmp 0, .own' 0), (.tmp 1, .di), (.tmp 9, .di), (.tmp 10, .di)]
abbrev YW : At := [(.exit 0, [(.obj 0, .own 3 U0), (.tmp 9, .di)])]
def G5 [Lk] : U6 → Option (U6 ⊕ Um ⊕ Unit) := fun (a0, a1, a2, a3, _) =>
 match AX G4 many (a0, a1, a2, a3, ()) with
 | none => none
 | some r => match r with
 | .inl (o0, o1, o2, o3, _) => match AX G3 many (o0, o1, o2, o3, ()) with
  | none => none
  | some r => match r with
  | .inl (o4, o5, o6, o7, _) => match (ilt o7 o6) with
   | true => some (.inr (.inl (o4, o6, ())))
   | false => match idx o4 o7 with
   | none => none
   | some x8 => match idx o4 o6 with
   | none => none
   | some x9 => match idx o4 o6 with
   | none => none
   | some x10 => match idx (Al o4 (AG o6) (AT o4 (AG o7) 0)) o7 with
   | none => none
   | some x11 => some (.inl ((Al (Al o4 (AG o6) (AT o4 (AG o7) 0)) (AG o7) (AT o4 (AG o6) 0)), o5, (IntKind.wrap .i64 (o6 + 1)), (IntKind.wrap .i64 (o7 - 1)), ()))
  | .inr _ => none
 | .inr _ => none
def Le [Lk] : U6 → Option (Um) := fun (a0, a1, a2, a3, _) =>
 match idx a0 a3 with
 | none => none
 | some x0 => match idx a0 a1 with
 | none => none
 | some x1 => match idx a0 a1 with
 | none => none
 | some x2 => match idx (Al a0 (AG a1) (AT a0 (AG a3) 0)) a3 with
 | none => none
 | some x3 => match AX G5 many ((Al (Al a0 (AG a1) (AT a0 (AG a3) 0)) (AG a3) (AT a0 (AG a1) 0)), a1, (IntKind.wrap .i64 (a1 + 1)), (IntKind.wrap .i64 (a2 - 1)), ()) with
 | none => none
 | some r => match r with
 | .inl (o4, o5, _) => some (o4, o5, ())
 | .inr _ => none
def Lf [Lk] := fun v => Lk.f (Le v)
theorem Ya v : Lf v = Le v := AK _
abbrev AF0 : AE := [(.tmp 0, .own 3 U0), (.tmp 1, .di), (.tmp 2, .di), (.tmp 3, .di)]
abbrev AFz : AE := [(.obj 0, .own 3 U0), (.tmp 0, .di), (.tmp 1, .dat .bool)]
abbrev AFy : List RS := [.one, .one]
abbrev AKe : AE := [(.obj 0, .own 3 U0), (.tmp 0, .own' 0), (.tmp 1, .di), (.tmp 10, .di), (.tmp 11, .di)]
abbrev AKZ : At := [(.exit 8, [(.obj 0, .own 3 U0), (.tmp 0, .own' 0), (.tmp 1, .di), (.tmp 10, .di), (.tmp 11, .di)])]
def KL [Lk] : U6 → Option V4 := fun (a0, a1, a2, a3, _) =>
 match (ile a2 a3) with
 | true => match idx a0 a3 with
  | none => none
  | some x0 => match idx a0 a1 with
  | none => none
  | some x1 => match Dh ((AT a0 (AG a3) 0), (AT a0 (AG a1) 0), ()) with
  | none => none
  | some (y2, _) => match (!y2) with
  | true => some (.inl (a0, a1, a2, (IntKind.wrap .i64 (a3 - 1)), ()))
  | false => some (.inr (.inl (a0, a1, a2, a3, ())))
 | false => some (.inr (.inl (a0, a1, a2, a3, ())))
abbrev AKf : AE := [(.obj 0, .own 3 U0), (.tmp 0, .own' 0), (.tmp 1, .di), (.tmp 10, .di), (.tmp 11, .di)]
abbrev AKa : At := [(.exit 6, [(.obj 0, .own 3 U0), (.tmp 0, .own' 0), (.tmp 1, .di), (.tmp 10, .di), (.tmp 11, .di)])]
def KM [Lk] : U6 → Option V4 := fun (a0, a1, a2, a3, _) =>
 match (ile a2 a3) with
 | true => match idx a0 a2 with
  | none => none
  | some x0 => match idx a0 a1 with
  | none => none
  | some x1 => match Dh ((AT a0 (AG a2) 0), (AT a0 (AG a1) 0), ()) with
  | none => none
  | some (y2, _) => match y2 with
  | true => some (.inl (a0, a1, (IntKind.wrap .i64 (a2 + 1)), a3, ()))
  | false => some (.inr (.inl (a0, a1, a2, a3, ())))
 | false => some (.inr (.inl (a0, a1, a2, a3, ())))
abbrev AKg : AE := [(.obj 0, .own 3 U0), (.tmp 0, .own' 0), (.tmp 1, .di), (.tmp 10, .di), (.tmp 11, .di)]
abbrev AKb : At := [(.exit 4, [(.obj 0, .own 3 U0), (.tmp 0, .own' 0), (.tmp 1, .di), (.tmp 11, .di)])]
def KN [Lk] : U6 → Option (U6 ⊕ Ud ⊕ Unit) := fun (a0, a1, a2, a3, _) =>
 match AX KM many (a0, a1, a2, a3, ()) with
 | none => none
 | some r => match r with
 | .inl (o0, o1, o2, o3, _) => match AX KL many (o0, o1, o2, o3, ()) with
  | none => none
  | some r => match r with
  | .inl (o4, o5, o6, o7, _) => match (ilt o7 o6) with
   | true => some (.inr (.inl (o4, o5, o7, ())))
   | false => match idx o4 o7 with
   | none => none
   | some x8 => match idx o4 o6 with
   | none => none
   | some x9 => match idx o4 o6 with
   | none => none
   | some x10 => match idx (Al o4 (AG o6) (AT o4 (AG o7) 0)) o7 with
   | none => none
   | some x11 => some (.inl ((Al (Al o4 (AG o6) (AT o4 (AG o7) 0)) (AG o7) (AT o4 (AG o6) 0)), o5, (IntKind.wrap .i64 (o6 + 1)), (IntKind.wrap .i64 (o7 - 1)), ()))
  | .inr _ => none
 | .inr _ => none
abbrev AKh : AE := [(.obj 0, .own 3 U0), (.tmp 0, .own' 0), (.tmp 1, .di), (.tmp 10, .di), (.tmp 11, .di)]
abbrev AKc : At := [(.exit 2, [(.obj 0, .own 3 U0), (.tmp 0, .own' 0), (.tmp 1, .di), (.tmp 10, .di), (.tmp 11, .di)])]
def KO [Lk] : U6 → Option V4 := fun (a0, a1, a2, a3, _) =>
 match (ile a2 a3) with
 | true => match idx a0 a3 with
  | none => none
  | some x0 => match idx a0 a1 with
  | none => none
  | some x1 => match Dh ((AT a0 (AG a3) 0), (AT a0 (AG a1) 0), ()) with
  | none => none
  | some (y2, _) => match (!y2) with
  | true => some (.inl (a0, a1, a2, (IntKind.wrap .i64 (a3 - 1)), ()))
  | false => some (.inr (.inl (a0, a1, a2, a3, ())))
 | false => some (.inr (.inl (a0, a1, a2, a3, ())))
abbrev AKi : AE := [(.obj 0, .own 3 U0), (.tmp 0, .own' 0), (.tmp 1, .di), (.tmp 10, .di), (.tmp 11, .di)]
abbrev AKd : At := [(.exit 0, [(.obj 0, .own 3 U0), (.tmp 0, .own' 0), (.tmp 1, .di), (.tmp 10, .di), (.tmp 11, .di)])]
def KP [Lk] : U6 → Option V4 := fun (a0, a1, a2, a3, _) =>
 match (ile a2 a3) with
 | true => match idx a0 a2 with
  | none => none
  | some x0 => match idx a0 a1 with
  | none => none
  | some x1 => match Dh ((AT a0 (AG a2) 0), (AT a0 (AG a1) 0), ()) with
  | none => none
  | some (y2, _) => match y2 with
  | true => some (.inl (a0, a1, (IntKind.wrap .i64 (a2 + 1)), a3, ()))
  | false => some (.inr (.inl (a0, a1, a2, a3, ())))
 | false => some (.inr (.inl (a0, a1, a2, a3, ())))
def Vp [Lk] : U6 → Option ((List Int × Int × Bool × Unit)) := fun (a0, a1, a2, a3, _) =>
 match idx a0 a3 with
 | none => none
 | some x0 => match idx a0 a1 with
 | none => none
 | some x1 => match idx a0 a1 with
 | none => none
 | some x2 => match idx (Al a0 (AG a1) (AT a0 (AG a3) 0)) a3 with
 | none => none
 | some x3 => match AX KP many ((Al (Al a0 (AG a1) (AT a0 (AG a3) 0)) (AG a3) (AT a0 (AG a1) 0)), a1, (IntKind.wrap .i64 (a1 + 1)), (IntKind.wrap .i64 (a2 - 1)), ()) with
 | none => none
 | some r => match r with
 | .inl (o4, o5, o6, o7, _) => match AX KO many (o4, o5, o6, o7, ()) with
  | none => none
  | some r => match r with
  | .inl (o8, o9, o10, o11, _) => match (ilt o11 o10) with
   | true => match idx o8 o9 with
    | none => none
    | some x12 => match idx o8 o11 with
    | none => none
    | some x13 => match idx o8 o11 with
    | none => none
    | some x14 => match idx (Al o8 (AG o11) (AT o8 (AG o9) 0)) o9 with
    | none => none
    | some x15 => some ((Al (Al o8 (AG o11) (AT o8 (AG o9) 0)) (AG o9) (AT o8 (AG o11) 0)), o11, true, ())
   | false => match idx o8 o11 with
   | none => none
   | some x16 => match idx o8 o10 with
   | none => none
   | some x17 => match idx o8 o10 with
   | none => none
   | some x18 => match idx (Al o8 (AG o10) (AT o8 (AG o11) 0)) o11 with
   | none => none
   | some x19 => match AX KN many ((Al (Al o8 (AG o10) (AT o8 (AG o11) 0)) (AG o11) (AT o8 (AG o10) 0)), o9, (IntKind.wrap .i64 (o10 + 1)), (IntKind.wrap .i64 (o11 - 1)), ()) with
   | none => none
   | some r => match r with
   | .inl (o20, o21, o22, _) => match idx o20 o21 with
    | none => none
    | some x23 => match idx o20 o22 with
    | none => none
    | some x24 => match idx o20 o22 with
    | none => none
    | some x25 => match idx (Al o20 (AG o22) (AT o20 (AG o21) 0)) o21 with
    | none => none
    | some x26 => some ((Al (Al o20 (AG o22) (AT o20 (AG o21) 0)) (AG o21) (AT o20 (AG o22) 0)), o22, false, ())
   | .inr _ => none
  | .inr _ => none
 | .inr _ => none
def OZ [Lk] := fun v => Lk.f (Vp v)
theorem AKj v : OZ v = Vp v := AK _
abbrev YA : AE := [(.tmp 0, .own 3 U0), (.tmp 1, .di), (.tmp 2, .di), (.tmp 3, .di)]
abbrev X9 : AE := [(.obj 0, .own 3 U0)]
abbrev X8 : List RS := []
abbrev ARv : AE := [(.obj 0, .own 3 U0), (.tmp 0, .own' 0), (.tmp 1, .di), (.tmp 2, .di), (.tmp 3, .di), (.tmp 8, .dat .bool), (.tmp 9, .dat .bool)]
abbrev ARu : At := [(.ret, [(.obj 0, .own 3 U0)])]
def AFk [Lk] (self : U6 → Option (Ua)) (y7 : List Int) (a1 a2 p l : Int) (a4 a5 : Bool) : Option (Us ⊕ Ua ⊕ Unit) :=
 match (ilt 0 a1) with
 | true => match idx y7 (IntKind.wrap .i64 (a1 - 1)) with
  | none => none
  | some x9 => match idx y7 p with
  | none => none
  | some x10 => match Dh ((AT y7 (AG (IntKind.wrap .i64 (a1 - 1))) 0), (AT y7 (AG p) 0), ()) with
  | none => none
  | some (y11, _) => match (!y11) with
  | true => match Lf (y7, a1, a2, p, ()) with
   | none => none
   | some (y12, y13, _) => some (.inl (y12, y13, a2, l, a4, a5, ()))
  | false => match OZ (y7, a1, a2, p, ()) with
  | none => none
  | some (y14, y15, y16, _) => match quo? .i64 (IntKind.wrap .i64 (a2 - a1)) 8 with
  | none => none
  | some x17 => match (ilt (IntKind.wrap .i64 (y15 - a1)) (IntKind.wrap .i64 (a2 - y15))) with
  | true => match self (y14, a1, y15, l, ()) with
   | none => none
   | some (y18, _) => some (.inl (y18, (IntKind.wrap .i64 (y15 + 1)), a2, l, (ile x17 (IntKind.wrap .i64 (y15 - a1))), y16, ()))
  | false => match self (y14, (IntKind.wrap .i64 (y15 + 1)), a2, l, ()) with
  | none => none
  | some (y19, _) => some (.inl (y19, a1, y15, l, (ile x17 (IntKind.wrap .i64 (a2 - y15))), y16, ()))
 | false => match OZ (y7, a1, a2, p, ()) with
 | none => none
 | some (y20, y21, y22, _) => match quo? .i64 (IntKind.wrap .i64 (a2 - a1)) 8 with
 | none => none
 | some x23 => match (ilt (IntKind.wrap .i64 (y21 - a1)) (IntKind.wrap .i64 (a2 - y21))) with
 | true => match self (y20, a1, y21, l, ()) with
  | none => none
  | some (y24, _) => some (.inl (y24, (IntKind.wrap .i64 (y21 + 1)), a2, l, (ile x23 (IntKind.wrap .i64 (y21 - a1))), y22, ()))
 | false => match self (y20, (IntKind.wrap .i64 (y21 + 1)), a2, l, ()) with
 | none => none
 | some (y25, _) => some (.inl (y25, a1, y21, l, (ile x23 (IntKind.wrap .i64 (a2 - y21))), y22, ()))
def AXf [Lk] (self : U6 → Option (Ua)) (y6 : List Int) (a1 a2 p h l : Int) (a4 a5 : Bool) : Option (Us ⊕ Ua ⊕ Unit) :=
 match a4 with
 | true => match a5 with
  | true => match (ieq h 1) with
   | true => match IT (y6, a1, a2, ()) with
    | none => none
    | some (y7, y8, _) => match y8 with
    | true => some (.inr (.inl (y7, ())))
    | false => AFk self y7 a1 a2 p l a4 a5
   | false => AFk self y6 a1 a2 p l a4 a5
  | false => AFk self y6 a1 a2 p l a4 a5
 | false => AFk self y6 a1 a2 p l a4 a5
def AXe [Lk] (self : U6 → Option (Ua)) (y2 : List Int) (a1 a2 l : Int) (a4 a5 : Bool) : Option (Us ⊕ Ua ⊕ Unit) :=
 match RB (y2, a1, a2, ()) with
 | none => none
 | some (y3, y4, y5, _) => match (ieq y5 2) with
 | true => match ATs (y3, a1, a2, ()) with
  | none => none
  | some (y6, _) => AXf self y6 a1 a2 (IntKind.wrap .i64 ((IntKind.wrap .i64 (a2 - 1)) - (IntKind.wrap .i64 (y4 - a1)))) 1 l a4 a5
 | false => AXf self y3 a1 a2 y4 y5 l a4 a5
def Ld [Lk] (self : U6 → Option (Ua)) : Us → Option (Us ⊕ Ua ⊕ Unit) := fun (a0, a1, a2, a3, a4, a5, _) =>
 match (ile (IntKind.wrap .i64 (a2 - a1)) 12) with
 | true => match AVI (a0, a1, a2, ()) with
  | none => none
  | some (y0, _) => some (.inr (.inl (y0, ())))
 | false => match (ieq a3 0) with
 | true => match ADg (a0, a1, a2, ()) with
  | none => none
  | some (y1, _) => some (.inr (.inl (y1, ())))
 | false => match (!a4) with
 | true => match Sj (a0, a1, a2, ()) with
  | none => none
  | some (y2, _) => AXe self y2 a1 a2 (IntKind.wrap .i64 (a3 - 1)) a4 a5
 | false => AXe self a0 a1 a2 a3 a4 a5
def AFl [Lk] (self : U6 → Option (Ua)) : U6 → Option (Ua) := fun (a0, a1, a2, a3, _) =>
 match AX (Ld self) many (a0, a1, a2, a3, true, true, ()) with
 | none => none
 | some r => match r with
 | .inl (o0, _) => some (o0, ())
 | .inr _ => none
def G2 [Lk] : Nat → U6 → Option (Ua)
 | 0, _ => none
 | n + 1, v => AFl (G2 n) v
def AUA [Lk] := fun v => Lk.f (G2 100 v)
theorem ARw v : AUA v = G2 100 v := AK _
abbrev AE1 : AE := [(.tmp 0, .own 3 U0)]
abbrev AE0 : AE := [(.obj 0, .own 3 U0)]
abbrev AEz : List RS := []
def Vg [Lk] : Ua → Option (Ua) := fun (a0, _) =>
 match bitsLen ((IntKind.wrap .u64 (AN a0)), ()) with
 | none => none
 | some (y0, _) => match AUA (a0, 0, (AN a0), y0, ()) with
 | none => none
 | some (y1, _) => some (y1, ())
def AI2 [Lk] := fun v => Lk.f (Vg v)
theorem AI1 v : AI2 v = Vg v := AK _
abbrev W9 : AE := [(.tmp 0, .dat Ub), (.tmp 1, .dat Ub)]
abbrev W8 : AE := [(.tmp 0, .dat .bool)]
abbrev W7 : List RS := [.one]
def OK [Lk] : (Uh × Uh × Unit) → Option (Ug) := fun (a0, a1, _) =>
 match (ieq a0.1 a1.1) with
 | true => match Lv (a0.2.1, a1.2.1, ()) with
  | none => none
  | some (y0, _) => some (y0, ())
 | false => some (false, ())
def Qm [Lk] := fun v => Lk.f (OK v)
theorem ACt v : Qm v = OK v := AK _
end
end Go.Pev
end
section
namespace Go.Pev
set_option maxRecDepth 100000
noncomputable section
attribute [local irreducible] Mc JS NP MV AYt AYu AYv Qy VH W0 ABI AAP AS many IntKind.wrap AN Al AT A8 DB DQ Im AG Cc Ci imax AR Ag
abbrev Z3 : AE := [(.tmp 0, .dat U1), (.tmp 1, .dat U1)]
abbrev Z2 : AE := [(.tmp 0, .dat .bool)]
abbrev Z1 : List RS := [.one]
abbrev ADo : AE := [(.tmp 0, .dat U1), (.tmp 1, .dat U1), (.tmp 12, .di), (.tmp 13, .di)]
abbrev ADn : At := [(.ret, [(.tmp 4, .dat .bool)]), (.exit 0, [])]
def EN [Lk] : (List U2 × List U2 × Int × Int × Unit) → Option ((List U2 × List U2 × Int × Int × Unit) ⊕ Ug ⊕ (Unit) ⊕ Unit) := fun (a0, a1, a2, a3, _) =>
 match (ilt a3 a2) with
 | true => match idx a0 a3 with
  | none => none
  | some x0 => match idx a1 a3 with
  | none => none
  | some x1 => match (!(ieq x0.1 x1.1 && (ieq x0.2.1 x1.2.1 && (ieq x0.2.2.1 x1.2.2.1 && ((x0.2.2.2.1 == x1.2.2.2.1) && true))))) with
  | true => some (.inr (.inl (false, ())))
  | false => some (.inl (a0, a1, a2, (IntKind.wrap .i64 (a3 + 1)), ()))
 | false => some (.inr (.inr (.inl ())))
def PI [Lk] : (List U2 × List U2 × Unit) → Option (Ug) := fun (a0, a1, _) =>
 match (!(ieq (AN a0) (AN a1))) with
 | true => some (false, ())
 | false => match AX EN many (a0, a1, (AN a0), 0, ()) with
 | none => none
 | some r => match r with
 | .inl (o0, _) => some (o0, ())
 | .inr r => match r with
 | .inl _ => some (true, ())
 | .inr _ => none
def Z5 [Lk] := fun v => Lk.f (PI v)
theorem ADp v : Z5 v = PI v := AK _
abbrev AGU : AE := [(.tmp 0, .dat Ue), (.tmp 1, .dat Ue)]
abbrev AGT : AE := [(.tmp 0, .dat .bool)]
abbrev AGS : List RS := [.one]
def Vv [Lk] : (Ui × Ui × Unit) → Option (Ug) := fun (a0, a1, _) =>
 match (ieq a0.1 a1.1) with
 | true => match Z5 (a0.2.1, a1.2.1, ()) with
  | none => none
  | some (y0, _) => some (y0, ())
 | false => some (false, ())
def Y0 [Lk] := fun v => Lk.f (Vv v)
theorem ALA v : Y0 v = Vv v := AK _
end
end Go.Pev
end
