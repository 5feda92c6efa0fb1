/- A part of the proofs of this seat: PevFlow PevFlow2 PevCall PevCall2 PevCall3 PevCall4 PevTop PevClone G24M1 G24M2 G24M3 G24M4. -/
import Derived.Test.YtaamkoofmojajaaGreatPac10e22c8f
import Derived.LoopN
import Derived.Laws.Sem
import Derived.KernelRfl
import Derived.Lib.SliceRun
set_option linter.unusedVariables false
set_option linter.unusedSimpArgs false
set_option linter.unusedSectionVars false
section
namespace Go.Pev
open Go.RowKit
structure RW (np : Nat) (w : World) (F : Nat → Prop) (m : Mp) (H : List Ob) (fz : List Bool) (w' : World) (F' : Nat → Prop) (m' : Mp) (H' : List Ob) (fz' : List Bool) : Prop where
 os : w'.os = w.os
 tape : w'.tape = w.tape
 output : w'.output = w.output
 size : w.heap.size ≤ w'.heap.size
 keep : ∀ b, b < w.heap.size → (∀ i c, owned H fz i → m i ≠ some (b, c)) → w'.heap[b]? = w.heap[b]?
 sub : ∀ b, F b → F' b
 bnd : ∀ b, F' b → F b ∨ (∃ i c, owned H fz i ∧ m i = some (b, c)) ∨ w.heap.size ≤ b
 own : ∀ i b c, owned H' fz' i → m' i = some (b, c) → (∃ i c, owned H fz i ∧ m i = some (b, c)) ∨ w.heap.size ≤ b
 comp : ∀ i o, i < np → H[i]? = some o → o ≠ .free → H'[i]? = some .dead ∨ (o ≠ .dead ∧ ∃ o', H'[i]? = some o' ∧ sameShape o o' ∧ m' i = m i)
theorem Ext.toN {w w' : World} {F F' : Nat → Prop} {m m' : Mp} {H H' : List Ob} {fz fz' : List Bool} (h : Ext w F m H fz w' F' m' H' fz') (np : Nat) : RW np w F m H fz w' F' m' H' fz' :=
 ⟨h.os, h.tape, h.output, h.size, h.keep, h.sub, h.bnd, h.own, fun i o _ => h.comp i o⟩
theorem RW.refl (np : Nat) (w : World) (F : Nat → Prop) (m : Mp) (H : List Ob) (fz : List Bool) : RW np w F m H fz w F m H fz := (Ext.refl ..).toN np
theorem RW.trans {np : Nat} {w w1 w2 : World} {F F1 F2 : Nat → Prop} {m m1 m2 : Mp} {H H1 H2 : List Ob} {fz fz1 fz2 : List Bool}
  (h : RW np w F m H fz w1 F1 m1 H1 fz1) (k : RW np w1 F1 m1 H1 fz1 w2 F2 m2 H2 fz2) : RW np w F m H fz w2 F2 m2 H2 fz2 where
 os := k.os.trans h.os
 tape := k.tape.trans h.tape
 output := k.output.trans h.output
 size := Nat.le_trans h.size k.size
 keep b hb hn := by
  rw [k.keep b (Nat.lt_of_lt_of_le hb h.size) ?_, h.keep b hb hn]
  intro i c ho he
  rcases h.own i b c ho he with ⟨i', c', h1, h2⟩ | h1
  ·exact hn i' c' h1 h2
  ·omega
 sub b hb := k.sub b (h.sub b hb)
 bnd b hb := by
  rcases k.bnd b hb with h1 | ⟨i, c, h1, h2⟩ | h1
  ·exact h.bnd b h1
  ·rcases h.own i b c h1 h2 with h3 | h3
   ·exact .inr (.inl h3)
   ·exact .inr (.inr h3)
  ·exact .inr (.inr (Nat.le_trans h.size h1))
 own i b c h1 h2 := by
  rcases k.own i b c h1 h2 with ⟨i', c', h3, h4⟩ | h3
  ·exact h.own i' b c' h3 h4
  ·exact .inr (Nat.le_trans h.size h3)
 comp i o hlt ho hf := by
  rcases h.comp i o hlt ho hf with h1 | ⟨hd, o', h1, h2, h3⟩
  ·rcases k.comp i _ hlt h1 (by simp) with h4 | ⟨h5, _⟩
   ·exact .inl h4
   ·exact absurd rfl h5
  ·have hf' : o' ≠ .free := by rintro rfl; cases o <;> simp [sameShape] at h2
   rcases k.comp i o' hlt h1 hf' with h4 | ⟨_, o'', h4, h5, h6⟩
   ·exact .inl h4
   ·exact .inr ⟨hd, o'', h4, h2.trans h5, h6.trans h3⟩
section
variable {w : World} {F : Nat → Prop} {m : Mp} {H : List Ob} {fz : List Bool} {bs : List Bnd} {m' : Mp} {E : St} {val : Nat → Value}
theorem Inv.src (h : Inv w F m H fz bs m' E val) {i b c : Nat} (ho : owned E.heap E.frz i) (hm : m' i = some (b, c)) : ∃ x id, bs[i]? = some x ∧ x.id? = some id ∧ owned H fz id ∧ m id = some (b, c) := by
 obtain ⟨o, hio, _, _⟩ := DA ho
 have hlt := As hio
 rw [h.lenH] at hlt
 have hx : bs[i]? = some bs[i] := List.getElem?_eq_getElem hlt
 have hb := h.ob i _ hx
 cases hc : bs[i] with
 | none => rw [hc] at hb; simp only [BM] at hb; rw [hb.1] at hm; cases hm
 | whole id =>
  rw [hc] at hb hx
  simp only [BM] at hb
  obtain ⟨e, hb⟩ := hb
  refine ⟨_, id, hx, rfl, ?_, by rw [← e]; exact hm⟩
  unfold owned
  rcases hb with ⟨T, t, xs, a1, _, a3⟩ | ⟨k, v, es, a1, _⟩ | ⟨cs, cs', b, c, vs, T, a1, _⟩ | ⟨_, _, _, _, a1, _⟩
  ·rw [a1]; exact a3
  ·rw [a1]; trivial
  ·rw [a1]; trivial
  ·rw [a1]; trivial
 | cut id =>
  rw [hc] at hb hx
  simp only [BM] at hb
  obtain ⟨T, t, xs, n, a1, a2, a3, a4⟩ := hb
  refine ⟨_, id, hx, rfl, by unfold owned; rw [a1]; exact a2, ?_⟩
  rcases a4 with a4 | ⟨a4, _⟩
  ·rw [← a4]; exact hm
  ·rw [a4] at hm; cases hm
theorem Inv.hi (hi : HI w F m H fz) (h : Inv w F m H fz bs m' E val) : HI w F m' E.heap E.frz where
 obj j o hj := by
  have hlt := As hj
  rw [h.lenH] at hlt
  have hx : bs[j]? = some bs[j] := List.getElem?_eq_getElem hlt
  have hb := h.ob j _ hx
  cases hc : bs[j] with
  | none =>
   rw [hc] at hb
   simp only [BM] at hb
   obtain ⟨e1, ⟨T, e, e2, e3⟩ | ⟨T, t, e2⟩⟩ := hb
   ·rw [hj] at e2; cases e2
    exact ⟨e3, by rw [e1]⟩
   ·rw [hj] at e2; cases e2
    rw [e1]
    exact (rfl : ([] : List Int) = [])
  | whole id =>
   rw [hc] at hb
   simp only [BM] at hb
   obtain ⟨e, hb⟩ := hb
   rcases hb with ⟨T, t, xs, a1, a2, a3⟩ | ⟨k, v, es, a1, a2⟩ | ⟨cs, cs', b, c, vs, T, a1, a2, _, a4, a5, a6, a7⟩ | ⟨T, tgt, j0, is, a1, a2, a3⟩
   ·rw [hj] at a2; cases a2
    rw [e]; exact hi.obj id _ a1
   ·rw [hj] at a2; cases a2
    rw [e]; exact hi.obj id _ a1
   ·rw [hj] at a2; cases a2
    exact ⟨b, c, vs, T, e.trans a4, a5, a6, a7⟩
   ·rw [hj] at a2; cases a2
    rw [e]; exact a3
  | cut id =>
   rw [hc] at hb
   simp only [BM] at hb
   obtain ⟨T, t, xs, n, a1, a2, a3, a4⟩ := hb
   rw [hj] at a3; cases a3
   obtain ⟨h0, h1⟩ := hi.obj id _ a1
   refine ⟨h0, ?_⟩
   rcases a4 with a4 | ⟨a4, a5⟩
   ·rw [a4]
    cases hm : m id with
    | none =>
     rw [hm] at h1
     simp only at h1 ⊢
     rw [h1]; simp
    | some p =>
     obtain ⟨b, cap⟩ := p
     rw [hm] at h1
     simp only at h1 ⊢
     obtain ⟨vs, row, b1, b2, b3, b4, b5, b6⟩ := h1
     refine ⟨vs, row.take (n * t.size), b1, ?_, b3, b4, Ee (fun x cs hx => Dat.length t hx) n b5, ?_⟩
     ·rw [List.length_take]; omega
     ·rw [List.length_take, ← List.take_take, b6]
   ·rw [a4]; exact a5
 sep i j b c b' c' h1 h2 hij h3 h4 := by
  obtain ⟨x, id, k1, k2, k3, k4⟩ := h.src h1 h3
  obtain ⟨y, id', l1, l2, l3, l4⟩ := h.src h2 h4
  refine hi.sep id id' b c b' c' k3 l3 ?_ k4 l4
  rintro rfl
  exact hij (h.inj i j x y id k1 l1 k2 l2)
 off i b c h1 h2 := by
  obtain ⟨x, id, k1, k2, k3, k4⟩ := h.src h1 h2
  exact hi.off id b c k3 k4
 froz i T t xs b c h1 h2 := by rw [h.frz i] at h2; cases h2
 lt := hi.lt
 len := h.lenF.symm
theorem AHH : ∀ (n i : Nat) (bs : List Bnd), pins n i bs = true → ∀ k, k < n → bs[k]? = some (.whole (i + k)) := by
 intro n
 induction n with
 | zero => intro i bs _ k hk; omega
 | succ n ih =>
  intro i bs h k hk
  cases bs with
  | nil => simp [pins] at h
  | cons b bs =>
   simp only [pins, Bool.and_eq_true, decide_eq_true_eq] at h
   cases k with
   | zero => simp [h.1]
   | succ k =>
    have := ih (i + 1) bs h.2 k (by omega)
    simp only [List.getElem?_cons_succ]
    rw [this]; congr 2; omega
theorem Inv.blank {val : Nat → Value} (n : Nat) : Inv w F m H fz [] (fun _ => none) (Pev.blank n) val where
 tmps t := by
  have : (Pev.blank n).tmps.getD t .junk = .junk := by
   simp only [Pev.blank, List.getD_eq_getElem?_getD, List.getElem?_replicate]
   split <;> rfl
  rw [this]; unfold Rep; trivial
 lenH := rfl
 lenF := rfl
 frz i := by simp [Pev.blank]
 ob j b h := by simp at h
 inj i j b c id h := by simp at h
theorem ALo (st : St) (v : AV) (l : Loc) : (place st v l).tmps.length = st.tmps.length := by
 cases l with
 | tmp t => simp [place]
 | cell j c => simp only [place]; split <;> rfl
 | cap t i => rfl
 | obj j => rfl
theorem AWZ : ∀ (its : AE) (d : CT (leaves its)) (st : St), (enc its d st).tmps.length = st.tmps.length := by
 intro its
 induction its with
 | nil => intro d st; rfl
 | cons p r ih =>
  intro d st
  obtain ⟨l, c⟩ := p
  cases c <;> exact (ih _ _).trans (ALo _ _ _)
theorem KS (n : Nat) (its : AE) (d : CT (leaves its)) : (encode n its d).tmps.length = n := by
 unfold encode; rw [AWZ]; simp [blank]
theorem ART {F2 : Nat → Prop} {fz2 : List Bool} {np : Nat} (h : Inv w F2 m H fz2 bs m' E val) (hp : pins np 0 bs = true) : ∀ i o, i < np → H[i]? = some o → o ≠ .free → E.heap[i]? = some .dead ∨ (o ≠ .dead ∧ ∃ o', E.heap[i]? = some o' ∧ sameShape o o' ∧ m' i = m i) := by
 intro i o hlt ho hf
 have h1 := AHH np 0 bs hp i hlt
 rw [Nat.zero_add] at h1
 have hb := h.ob i _ h1
 simp only [BM] at hb
 obtain ⟨e, hb⟩ := hb
 right
 rcases hb with ⟨T, t, xs, a1, a2, a3⟩ | ⟨k, v, es, a1, a2⟩ | ⟨cs, cs', b, c, vs, T, a1, a2, _, a4, a5, a6, a7⟩ | ⟨_, _, _, _, a1, a2, _⟩
 ·rw [ho] at a1; cases a1; exact ⟨by simp, _, a2, ⟨rfl, rfl⟩, e⟩
 ·rw [ho] at a1; cases a1; exact ⟨by simp, _, a2, trivial, e⟩
 ·rw [ho] at a1; cases a1; exact ⟨by simp, _, a2, trivial, e⟩
 ·rw [ho] at a1; cases a1; exact ⟨by simp, _, a2, rfl, e⟩
theorem Q9 {np nt : Nat} {st : St} {a : Act} {its : AE} {v : CT (leaves its)} (hs : SI w F m st a) (h : decode np nt st its = some v) :
  ∃ F' m', SI w F' m' (encode nt its v) a ∧ RW np w F m st.heap st.frz w F' m' (encode nt its v).heap (encode nt its v).frz := by
 unfold decode at h
 split at h
 ·rename_i hn
  simp only [decide_eq_true_eq] at hn
  split at h
  ·rename_i v' bs fr hd
   split at h
   ·rename_i hp
    simp only [Option.some.injEq] at h; subst h
    obtain ⟨F2, m2, hg, hv, _⟩ := AOB (val := fun t => a.tmps.getD t undef) its st.frz [] F (fun _ => none) (blank nt) v' bs fr hs.heap
     (fun t v ht => by have := hs.tmps t; rw [List.getD_eq_getElem?_getD, ht] at this; exact this) (Inv.blank nt) hd
    refine ⟨F2, m2, ⟨hv.tmps, by rw [KS, ← hn]; exact hs.size, hv.hi hg.2, hs.defers⟩, ?_⟩
    refine ⟨rfl, rfl, rfl, Nat.le_refl _, fun _ _ _ => rfl, hg.1.sub, hg.1.bnd, fun i b c h1 h2 => ?_, ART hv hp⟩
    obtain ⟨x, id, k1, k2, k3, k4⟩ := hv.src h1 h2
    exact hg.1.own id b c k3 k4
   ·cases h
  ·cases h
 ·cases h
end
end Go.Pev
end
section
namespace Go.Pev
open Go.RowKit
theorem Sh {R : Type} {all : List Oper} {g : Option (Nat × Bool)} {st : St} {yes no : St → Option R} {r : R} (h : guarded R all g st yes no = some r) :
  ∃ st', (yes st' = some r ∧ ∀ (R' : Type) (yes' no' : St → Option R'), guarded R' all g st yes' no' = yes' st') ∨ (no st' = some r ∧ ∀ (R' : Type) (yes' no' : St → Option R'), guarded R' all g st yes' no' = no' st') := by
 unfold guarded at h
 split at h
 ·exact ⟨st, .inl ⟨h, fun _ _ _ => by simp [guarded]⟩⟩
 ·rename_i j want
  split at h
  ·cases h
  ·rename_i d hj
   split at h
   ·rename_i b hd
    cases b with
    | true =>
     cases want with
     | true => exact ⟨_, .inl ⟨h, fun _ _ _ => by simp only [guarded, hj, hd]⟩⟩
     | false => exact ⟨_, .inr ⟨h, fun _ _ _ => by simp only [guarded, hj, hd]⟩⟩
    | false =>
     cases want with
     | true => exact ⟨_, .inr ⟨h, fun _ _ _ => by simp only [guarded, hj, hd]⟩⟩
     | false => exact ⟨_, .inl ⟨h, fun _ _ _ => by simp only [guarded, hj, hd]⟩⟩
   ·rename_i hd
    exact ⟨_, .inr ⟨h, fun _ _ _ => by simp only [guarded, hj, hd]⟩⟩
   ·cases h
section
variable {P : Program} {E : Env} {h : Hints}
theorem ALz (hE : ∀ g, AR P g (E.spec g)) {R : Type} {r : R} {all : List Oper} : ∀ (ops : List Oper) (slot : Nat) (st : St) (k : St → Option R), Hu P E R all ops slot st k = some r →
  ∃ st', k st' = some r ∧ ∀ (R' : Type) (k' : St → Option R'), Hu P E R' all ops slot st k' = k' st' := by
 intro ops
 induction ops with
 | nil => intro slot st k h; exact ⟨st, h, fun _ _ => rfl⟩
 | cons o ops ih =>
  intro slot st k h
  simp only [Hu] at h
  obtain ⟨st1, h1⟩ := Sh h
  rcases h1 with ⟨h1, h2⟩ | ⟨h1, h2⟩
  ·obtain ⟨v, e, h3, h4, _⟩ := IP hE o.op _ _ _ _ _ _ _ r h1
   obtain ⟨st2, h5, h6⟩ := ih _ _ _ h3
   exact ⟨st2, h5, fun R' k' => by simp only [Hu]; rw [h2, h4]; exact h6 R' k'⟩
  ·obtain ⟨st2, h5, h6⟩ := ih _ _ _ h1
   exact ⟨st2, h5, fun R' k' => by simp only [Hu]; rw [h2]; exact h6 R' k'⟩
theorem AQy (hE : ∀ g, AR P g (E.spec g)) {R : Type} {r : R} {all : List Oper} {o : Oper} {φ : List Nat} {slot : Nat} {st : St} {k : St → Option R} (h : Ry P E R all o φ slot st k = some r) :
  ∃ st', k st' = some r ∧ ∀ (R' : Type) (k' : St → Option R'), Ry P E R' all o φ slot st k' = k' st' := by
 unfold Ry at h
 obtain ⟨st1, h1⟩ := Sh h
 rcases h1 with ⟨h1, h2⟩ | ⟨h1, h2⟩
 ·split at h1
  ·rename_i hw
   obtain ⟨v, e, h3, h4, _⟩ := IP hE o.op _ _ _ _ _ _ _ r h1
   split at h3
   ·rename_i hok
    exact ⟨_, h3, fun R' k' => by unfold Ry; rw [h2]; simp only [hw]; rw [h4]; simp only [hok]⟩
   ·cases h3
  ·cases h1
 ·exact ⟨_, h1, fun R' k' => by unfold Ry; rw [h2]⟩
theorem AHI (hE : ∀ g, AR P g (E.spec g)) {R : Type} {r : R} {all : List Oper} : ∀ (ops : List Oper) (fp : List (List Nat)) (slot : Nat) (st : St) (k : St → Option R), HR P E R all ops fp slot st k = some r →
  ∃ st', k st' = some r ∧ ∀ (R' : Type) (k' : St → Option R'), HR P E R' all ops fp slot st k' = k' st' := by
 intro ops
 induction ops with
 | nil => intro fp slot st k h; exact ⟨st, h, fun _ _ => rfl⟩
 | cons o ops ih =>
  intro fp slot st k h
  simp only [HR] at h
  obtain ⟨st1, h1, h2⟩ := AQy hE h
  obtain ⟨st2, h5, h6⟩ := ih _ _ _ _ h1
  exact ⟨st2, h5, fun R' k' => by simp only [HR]; rw [h2]; exact h6 R' k'⟩
def AZ4 (P : Program) (np : Nat) (c : Code) (st : St) (e : Exit) (st' : St) : Prop :=
 ∀ (w : World) (F : Nat → Prop) (m : Mp) (a : Act) (Q : Exit → Act → World → Prop), SI w F m st a →
  (∀ a' w' F' m', SI w' F' m' st' a' → RW np w F m st.heap st.frz w' F' m' st'.heap st'.frz → Q e a' w') → c.wp P Q a w
def Aa (P : Program) (np : Nat) (c : Code) (go : (R : Type) → St → (Exit → St → Option R) → Option R) : Prop :=
 ∀ (R : Type) (st : St) (k : Exit → St → Option R) (r : R), go R st k = some r → ∃ e st', k e st' = some r ∧ (∀ (R' : Type) (k' : Exit → St → Option R'), go R' st k' = k' e st') ∧ AZ4 P np c st e st'
def DT (P : Program) (np : Nat) (h : Hints) : Code → Nat → Prop
 | .seq a b, n => DT P np h a n ∧ DT P np h b (n + loops a)
 | .cond _ a b, n => DT P np h a n ∧ DT P np h b (n + loops a)
 | .block _ c, n => DT P np h c n
 | .loop c, n => Aa P np (.loop c) (h.loop n)
 | _, _ => True
theorem AQB {w : World} {F : Nat → Prop} {m : Mp} {st : St} {a : Act} (hs : SI w F m st a) {c : Operand} {x : Bool} (hc : BH st.tmps c = .data .bool x) :
  a.eval c = .bool x ∧ SI w F m { st with tmps := ML st.tmps c x } a := by
 have h1 : Rep w F m st.heap (BH st.tmps c) (a.eval c) := X2 hs.tmps c
 rw [hc] at h1
 refine ⟨?_, ?_⟩
 ·unfold Rep Bc at h1
  simp only [Ty.isAgg, Bool.false_eq_true, if_false] at h1
  simpa [Dat] using h1
 ·cases c with
  | tmp t =>
   simp only [BH, List.getD_eq_getElem?_getD] at hc
   exact hs.lit (d := t) (b := x) (by
    cases ht : st.tmps[t]? with
    | none => rw [ht] at hc; simp at hc
    | some v => rw [ht] at hc; simp at hc; rw [hc])
  | const v => exact hs
  | func f => exact hs
  | global g => exact hs
theorem MP (hE : ∀ g, AR P g (E.spec g)) (hL : Hm E) {np : Nat} : ∀ (c : Code) (n : Nat), DT P np h c n → Aa P np c (fun R => A6 P E h R c n) := by
 intro c
 induction c with
 | skip =>
  intro n _ R st k r hk
  simp only [A6] at hk
  exact ⟨_, _, hk, fun _ _ => rfl, fun w F m a Q hs hq => wp_skip (hq a w F m hs (RW.refl ..))⟩
 | region id ops draw =>
  intro n _ R st k r hk
  cases draw with
  | false =>
   simp only [A6, GN] at hk
   obtain ⟨st', h1, h2⟩ := ALz hE _ _ _ _ hk
   refine ⟨.normal, st', h1, fun R' k' => by simp only [A6, GN]; exact h2 R' _, fun w F m a Q hs hq => ?_⟩
   have h3 : GN P E St ops.toList st some = some st' := by simp only [GN]; exact h2 St some
   refine ADT hE h3 hs fun a' w' hp => ?_
   obtain ⟨st1, F', m', e1, e2, e3⟩ := hp
   cases e1
   exact hq a' w' F' m' e2 (e3.toN np)
  | true =>
   simp only [A6] at hk
   have hk' := hk
   unfold Dt at hk
   split at hk
   ·rename_i hok
    obtain ⟨st', h1, h2⟩ := AHI hE _ _ _ _ _ hk
    refine ⟨.normal, st', h1, fun R' k' => by simp only [A6, Dt, hok]; exact h2 R' _, fun w F m a Q hs hq => ?_⟩
    have h3 : Dt P E St (h.fp id) ops.toList st some = some st' := by simp only [Dt, hok]; exact h2 St some
    refine Zj hE hL h3 hs fun a' w' hp => ?_
    obtain ⟨st1, F', m', e1, e2, e3⟩ := hp
    cases e1
    exact hq a' w' F' m' e2 (e3.toN np)
   ·cases hk
 | seq a b iha ihb =>
  intro n hl R st k r hk
  simp only [A6] at hk
  obtain ⟨e, st1, h1, h2', h3⟩ := iha n hl.1 R st _ r hk
  have h2 : ∀ (R' : Type) (k' : Exit → St → Option R'), A6 P E h R' a n st k' = k' e st1 := h2'
  by_cases he : e = .normal
  ·subst he
   simp only at h1
   obtain ⟨e2, st2, k1, k2, k3⟩ := ihb _ hl.2 R st1 _ r h1
   refine ⟨e2, st2, k1, fun R' k' => ?_, fun w F m act Q hs hq => wp_seq ?_⟩
   ·simp only [A6]; rw [h2]; exact k2 R' k'
   ·refine h3 w F m act _ hs fun a' w' F' m' s1 x1 => ?_
    exact k3 w' F' m' a' Q s1 fun a2 w2 F2 m2 s2 x2 => hq a2 w2 F2 m2 s2 (x1.trans x2)
  ·have h1' : k e st1 = some r := by cases e <;> first | exact absurd rfl he | exact h1
   refine ⟨e, st1, h1', fun R' k' => ?_, fun w F m act Q hs hq => wp_seq ?_⟩
   ·simp only [A6]; rw [h2]; cases e <;> first | exact absurd rfl he | rfl
   ·refine h3 w F m act _ hs fun a' w' F' m' s1 x1 => ?_
    have := hq a' w' F' m' s1 x1
    cases e <;> first | exact absurd rfl he | exact this
 | cond c a b iha ihb =>
  intro n hl R st k r hk
  simp only [A6] at hk
  split at hk
  ·rename_i x hc
   cases x with
   | true =>
    obtain ⟨e, st1, h1, h2, h3⟩ := iha _ hl.1 R _ _ r hk
    refine ⟨e, st1, h1, fun R' k' => by simp only [A6, hc]; exact h2 R' k', fun w F m act Q hs hq => ?_⟩
    obtain ⟨q1, q2⟩ := AQB hs hc
    exact wp_cond_true q1 (h3 w F m act Q q2 hq)
   | false =>
    obtain ⟨e, st1, h1, h2, h3⟩ := ihb _ hl.2 R _ _ r hk
    refine ⟨e, st1, h1, fun R' k' => by simp only [A6, hc]; exact h2 R' k', fun w F m act Q hs hq => ?_⟩
    obtain ⟨q1, q2⟩ := AQB hs hc
    exact wp_cond_false q1 (h3 w F m act Q q2 hq)
  ·cases hk
 | block id c ih =>
  intro n hl R st k r hk
  simp only [A6] at hk
  obtain ⟨e, st1, h1, h2', h3⟩ := ih n hl R st _ r hk
  have h2 : ∀ (R' : Type) (k' : Exit → St → Option R'), A6 P E h R' c n st k' = k' e st1 := h2'
  have key : ∃ e', k e' st1 = some r ∧ (∀ (R' : Type) (k' : Exit → St → Option R'), A6 P E h R' (.block id c) n st k' = k' e' st1) ∧ ∀ (Q : Exit → Act → World → Prop) a' w', Q e' a' w' → Exit.inBlock id Q e a' w' := by
   cases e with
   | exit id' =>
    simp only at h1
    by_cases hid : id' = id
    ·subst hid
     simp only [decide_true] at h1
     exact ⟨.normal, h1, fun R' k' => by simp only [A6]; rw [h2]; simp, fun Q a' w' hq => by simp [Exit.inBlock, hq]⟩
    ·simp only [hid, decide_false] at h1
     exact ⟨.exit id', h1, fun R' k' => by simp only [A6]; rw [h2]; simp [hid], fun Q a' w' hq => by simp [Exit.inBlock, hid, hq]⟩
   | normal => exact ⟨_, h1, fun R' k' => by simp only [A6]; rw [h2], fun Q a' w' hq => hq⟩
   | goto l => exact ⟨_, h1, fun R' k' => by simp only [A6]; rw [h2], fun Q a' w' hq => hq⟩
   | ret => exact ⟨_, h1, fun R' k' => by simp only [A6]; rw [h2], fun Q a' w' hq => hq⟩
   | panic l => exact ⟨_, h1, fun R' k' => by simp only [A6]; rw [h2], fun Q a' w' hq => hq⟩
   | outgrown => exact ⟨_, h1, fun R' k' => by simp only [A6]; rw [h2], fun Q a' w' hq => hq⟩
  obtain ⟨e', k1, k2, k3⟩ := key
  exact ⟨e', st1, k1, k2, fun w F m act Q hs hq => wp_block (h3 w F m act _ hs fun a' w' F' m' s1 x1 => k3 Q a' w' (hq a' w' F' m' s1 x1))⟩
 | loop c ih =>
  intro n hl R st k r hk
  exact hl R st k r hk
 | exit id =>
  intro n _ R st k r hk
  simp only [A6] at hk
  exact ⟨_, _, hk, fun _ _ => rfl, fun w F m a Q hs hq => wp_exit (hq a w F m hs (RW.refl ..))⟩
 | ret =>
  intro n _ R st k r hk
  simp only [A6] at hk
  exact ⟨_, _, hk, fun _ _ => rfl, fun w F m a Q hs hq => wp_ret (hq a w F m hs (RW.refl ..))⟩
 | _ => intro n _ R st k r hk; simp [A6] at hk
theorem ASz {R : Type} {r : R} {nt : Nat} {k : Exit → St → Option R} : ∀ (os : Az) (x : AAU os), ABZ nt k os x = some r → ∃ e st', k e st' = some r ∧ ∀ (R' : Type) (k' : Exit → St → Option R'), ABZ nt k' os x = k' e st' := by
 intro os
 induction os with
 | nil => intro x h; simp [ABZ] at h
 | cons o os ih =>
  intro x h
  cases x with
  | inl d => exact ⟨_, _, h, fun _ _ => rfl⟩
  | inr x =>
   obtain ⟨e, st', h1, h2⟩ := ih x h
   exact ⟨e, st', h1, fun R' k' => h2 R' k'⟩
theorem AGv {e e' : Exit} (h : VQ e e' = true) : e = e' := by
 cases e <;> cases e' <;> simp_all [VQ]
theorem AVE {np nt : Nat} {e : Exit} {st : St} : ∀ (os : Az) (x : AAU os), ABE np nt e st os = some x → ∃ its d, decode np nt st its = some d ∧ ∀ (R' : Type) (k' : Exit → St → Option R'), ABZ nt k' os x = k' e (encode nt its d) := by
 intro os
 induction os with
 | nil => intro x h; simp [ABE] at h
 | cons o os ih =>
  intro x h
  simp only [ABE] at h
  split at h
  ·rename_i hs
   split at h
   ·rename_i d hd
    simp only [Option.some.injEq] at h; subst h
    exact ⟨o.2, d, hd, fun R' k' => by rw [AGv hs]; rfl⟩
   ·cases h
  ·split at h
   ·rename_i y hy
    simp only [Option.some.injEq] at h; subst h
    obtain ⟨its, d, h1, h2⟩ := ih y hy
    exact ⟨its, d, h1, fun R' k' => h2 R' k'⟩
   ·cases h
theorem ASD {h' : Hints} (hE : ∀ g, AR P g (E.spec g)) (hL : Hm E) {np nt n : Nat} {body : Code} {its : AE} {os : Az} {stp : CT (leaves its) → Option (CT (leaves its) ⊕ AAU os)}
  (hstep : ∀ v, stp v = roundOf P E h' n np nt body its os v) (hl : DT P np h' body n) : Aa P np (.loop body) (Ab np nt its os stp) := by
 intro R st k r hk
 unfold Ab at hk
 split at hk
 ·cases hk
 ·rename_i v hv
  split at hk
  ·cases hk
  ·rename_i x hx
   obtain ⟨e, st', h1, h2⟩ := ASz os x hk
   refine ⟨e, st', h1, fun R' k' => by simp only [Ab, hv, hx]; exact h2 R' k', ?_⟩
   have key : ∀ (fuel : Nat) (v : CT (leaves its)), AQ stp fuel v = some x → ∀ (w : World) (F : Nat → Prop) (m : Mp) (a : Act) (Q : Exit → Act → World → Prop), SI w F m (encode nt its v) a →
     (∀ a' w' F' m', SI w' F' m' st' a' → RW np w F m (encode nt its v).heap (encode nt its v).frz w' F' m' st'.heap st'.frz → Q e a' w') → Code.rounds P body Q fuel a w := by
    intro fuel
    induction fuel with
    | zero => intro v h; simp [AQ] at h
    | succ fuel ih =>
     intro v h w F m a Q hs hq
     simp only [AQ] at h
     rw [hstep v] at h
     cases hr : roundOf P E h' n np nt body its os v with
     | none => rw [hr] at h; cases h
     | some y =>
      rw [hr] at h
      unfold roundOf at hr
      obtain ⟨e1, st1, g1, _, g3⟩ := MP hE hL body n hl _ _ _ _ hr
      show body.wp P (Exit.then (Code.rounds P body Q fuel) Q) a w
      refine g3 w F m a _ hs fun a' w' F' m' s1 x1 => ?_
      by_cases he : e1 = .normal
      ·subst he
       simp only [AG0] at g1
       split at g1
       ·rename_i d hd
        simp only [Option.some.injEq] at g1; subst g1
        obtain ⟨F2, m2, s2, x2⟩ := Q9 s1 hd
        show Code.rounds P body Q fuel a' w'
        exact ih d h w' F2 m2 a' Q s2 fun a3 w3 F3 m3 s3 x3 => hq a3 w3 F3 m3 s3 (x1.trans (x2.trans x3))
       ·cases g1
      ·have g1' : (match ABE np nt e1 st1 os with
        | some x => some (Sum.inr x)
        | none => none) = some y := by
        cases e1 <;> first | exact absurd rfl he | exact g1
       split at g1'
       ·rename_i z hz
        simp only [Option.some.injEq] at g1'; subst g1'
        simp only [Option.some.injEq] at h; subst h
        obtain ⟨its', d, o1, o2⟩ := AVE os _ hz
        obtain ⟨F2, m2, s2, x2⟩ := Q9 s1 o1
        have e3 := (h2 (Exit × St) fun e st => some (e, st)).symm.trans (o2 (Exit × St) fun e st => some (e, st))
        simp only [Option.some.injEq, Prod.mk.injEq] at e3
        obtain ⟨rfl, rfl⟩ := e3
        have := hq a' w' F2 m2 s2 (x1.trans x2)
        cases e <;> first | exact absurd rfl he | exact this
       ·cases g1'
   intro w F m a Q hs hq
   obtain ⟨F2, m2, s2, x2⟩ := Q9 hs hv
   exact wp_loop_rounds many (key many v (by rw [← Aj]; exact hx) w F2 m2 a Q s2 fun a3 w3 F3 m3 s3 x3 => hq a3 w3 F3 m3 s3 (x2.trans x3))
end
end Go.Pev
end
section
namespace Go.Pev
open Go.RowKit
section
variable {w : World} {F F0 : Nat → Prop} {m m2 : Mp} {H H2 : List Ob} {ids : List Nat}
theorem Dat.flat : ∀ (t : Ty), t.flat = true → ∀ {d : t.den} {cs : List Value} {w0 : World}, Dat w F t d cs → Dat w0 F0 t d cs := by
 intro t
 induction t with
 | unit => exact fun _ _ _ _ h => h
 | bool => exact fun _ _ _ _ h => h
 | int k => exact fun _ _ _ _ h => h
 | slice e _ => intro h; simp [Ty.flat] at h
 | prod a b iha ihb =>
  intro h d cs w0 hd
  simp only [Ty.flat, Bool.and_eq_true] at h
  obtain ⟨c1, c2, h1, h2, h3⟩ := hd
  exact ⟨c1, c2, h1, iha h.1 h2, ihb h.2 h3⟩
 | arr n e ih =>
  intro h d cs w0 hd
  obtain ⟨h1, h2⟩ := hd
  exact ⟨h1, BO (fun x _ cs hx => ih (by simpa [Ty.flat] using h) hx) h2⟩
theorem Bc.flat {t : Ty} (ht : t.flat = true) {d : t.den} {v : Value} {w0 : World} (h : Bc w F t d v) : Bc w0 F0 t d v := by
 unfold Bc at *
 split
 ·rename_i hg
  simp only [hg, if_true] at h
  obtain ⟨vs, e, hd⟩ := h
  exact ⟨vs, e, hd.flat t ht⟩
 ·rename_i hg
  simp only [hg] at h
  exact Dat.flat t ht h
theorem AS8 {k v : Ty} (hk : k.flat = true) (hv : v.flat = true) {w0 : World} : ∀ {es : List (k.den × v.den)} {ms : List MapEntry}, HN w F k v es ms → HN w0 F0 k v es ms := by
 intro es
 induction es with
 | nil => exact fun h => h
 | cons e es ih =>
  rintro ms ⟨me, ms', e1, ⟨h1, h2⟩, h3⟩
  exact ⟨me, ms', e1, ⟨h1.flat hk, h2.flat hv⟩, ih h3⟩
mutual
theorem Rep.flat : ∀ (a : AV) {v : Value}, I9 a = true → Rep w F m H a v → Rep w F0 m H a v
 | .junk, _, _, _ => by unfold Rep; trivial
 | .data t d, v, hf, h => by unfold Rep at *; exact h.flat (by simpa [I9] using hf)
 | .nils _, v, _, h => by unfold Rep at *; exact h
 | .agg cs, v, hf, h => by
  unfold Rep at *
  obtain ⟨vs, e, h, h1⟩ := h
  exact ⟨vs, e, AZ.flat cs (by simpa [I9] using hf) h, h1⟩
 | .own id, v, _, h => by unfold Rep at *; exact h
 | .win id off n, v, _, h => by unfold Rep at *; exact h
 | .ptr id off, v, _, h => by unfold Rep at *; exact h
 | .eptr id i sub, v, _, h => by unfold Rep at *; exact h
 | .dptr cs, v, hf, h => by simp [I9] at hf
 | .clo f caps, v, hf, h => by
  unfold Rep at *
  obtain ⟨cs, e, h⟩ := h
  exact ⟨cs, e, AZ.flat caps (by simpa [I9] using hf) h⟩
 | .bnd f caps, v, hf, h => by
  unfold Rep at *
  obtain ⟨cs, e, h⟩ := h
  exact ⟨cs, e, AZ.flat caps (by simpa [I9] using hf) h⟩
 | .str _, v, _, h => by unfold Rep at *; exact h
 | .mp id, v, _, h => by unfold Rep at *; exact h
 | .tup vs, v, hf, h => by
  unfold Rep at *
  obtain ⟨us, e, h⟩ := h
  exact ⟨us, e, AZ.flat vs (by simpa [I9] using hf) h⟩
theorem AZ.flat : ∀ (cs : List AV) {vs : List Value}, IN cs = true → AZ w F m H cs vs → AZ w F0 m H cs vs
 | [], vs, _, h => by unfold AZ at *; exact h
 | c :: cs, vs, hf, h => by
  unfold AZ at *
  simp only [IN, Bool.and_eq_true] at hf
  obtain ⟨v, vs', e, h1, h2⟩ := h
  exact ⟨v, vs', e, Rep.flat c hf.1 h1, AZ.flat cs hf.2 h2⟩
end
def AKO (ids : List Nat) (H H2 : List Ob) (m m2 : Mp) : Prop := ∀ j o, H[j]? = some o → H2[ids.getD j 0]? = some (FO ids o) ∧ m2 (ids.getD j 0) = m j
theorem FV (hm : AKO ids H H2 m m2) (Q : Option Ob → Option (Nat × Nat) → Prop) (hnone : ∀ l, ¬ Q none l) (hbox : ∀ cs l, Q (some (.box cs)) l → Q (some (.box (Ir ids cs))) l) (hprs : ∀ T t t' is l, Q (some (.prs T t is)) l → Q (some (.prs T t' is)) l) (j : Nat) (h : Q H[j]? (m j)) : Q H2[ids.getD j 0]? (m2 (ids.getD j 0)) := by
 cases ho : H[j]? with
 | none => rw [ho] at h; exact absurd h (hnone _)
 | some o =>
  rw [ho] at h
  obtain ⟨h1, h2⟩ := hm j o ho
  rw [h1, h2]
  cases o <;> first | exact h | exact hbox _ _ h | exact hprs _ _ _ _ _ h
mutual
theorem Rep.ren (hm : AKO ids H H2 m m2) : ∀ (a : AV) {v : Value}, Rep w F m H a v → Rep w F m2 H2 (FP ids a) v
 | .junk, _, _ => by simp only [FP]; unfold Rep; trivial
 | .data t d, v, h => by simp only [FP]; unfold Rep at *; exact h
 | .nils _, v, h => by simp only [FP]; unfold Rep at *; exact h
 | .agg cs, v, h => by
  simp only [FP]; unfold Rep at *
  obtain ⟨vs, e, h, h1⟩ := h
  exact ⟨vs, e, AZ.ren hm cs h, h1⟩
 | .own id, v, h => by
  simp only [FP]; unfold Rep at *
  exact FV hm (fun o l => Ba o l v) (fun l h => h) (fun cs l h => h) (fun _ _ _ _ l h => h) id h
 | .win id off n, v, h => by
  simp only [FP]; unfold Rep at *
  exact FV hm (fun o l => Fu o l off n v) (fun l h => h) (fun cs l h => h) (fun _ _ _ _ l h => h) id h
 | .ptr id off, v, h => by
  simp only [FP]; unfold Rep at *
  exact FV hm (fun o l => Fv o l off v) (fun l h => h) (fun cs l h => h) (fun _ _ _ _ l h => h) id h
 | .eptr id i sub, v, h => by
  simp only [FP]; unfold Rep at *
  exact FV hm (fun o l => DS o l i sub v) (fun l h => h) (fun cs l h => h) (fun _ _ _ _ l h => h) id h
 | .dptr cs, v, h => by
  simp only [FP]; unfold Rep at *
  obtain ⟨ad, us, e, h1, h2, h4, h3⟩ := h
  refine ⟨ad, us, e, fun hne => h1 (by rintro rfl; exact hne rfl), AZ.ren hm cs h2, h4, h3⟩
 | .clo f caps, v, h => by
  simp only [FP]; unfold Rep at *
  obtain ⟨cs, e, h⟩ := h
  exact ⟨cs, e, AZ.ren hm caps h⟩
 | .bnd f caps, v, h => by
  simp only [FP]; unfold Rep at *
  obtain ⟨cs, e, h⟩ := h
  exact ⟨cs, e, AZ.ren hm caps h⟩
 | .str _, v, h => by simp only [FP]; unfold Rep at *; exact h
 | .mp id, v, h => by
  simp only [FP]; unfold Rep at *
  exact FV hm (fun o l => L7 o l v) (fun l h => h) (fun cs l h => h) (fun _ _ _ _ l h => h) id h
 | .tup vs, v, h => by
  simp only [FP]; unfold Rep at *
  obtain ⟨us, e, h⟩ := h
  exact ⟨us, e, AZ.ren hm vs h⟩
theorem AZ.ren (hm : AKO ids H H2 m m2) : ∀ (cs : List AV) {vs : List Value}, AZ w F m H cs vs → AZ w F m2 H2 (Ir ids cs) vs
 | [], vs, h => by simp only [Ir]; unfold AZ at *; exact h
 | c :: cs, vs, h => by
  simp only [Ir]; unfold AZ at *
  obtain ⟨v, vs', e, h1, h2⟩ := h
  exact ⟨v, vs', e, Rep.ren hm c h1, AZ.ren hm cs h2⟩
end
theorem AUY (tgt : Nat) (is : List Int) : Ir ids (Ei tgt is) = Ei (ids.getD tgt 0) is := by
 induction is with
 | nil => rfl
 | cons x xs ih =>
  have : Ir ids (Ei tgt (x :: xs)) = FP ids (.eptr tgt x.toNat 0) :: Ir ids (Ei tgt xs) := rfl
  rw [this, ih]
  rfl
theorem AS1 (tgt : Nat) (is : List Int) : IN (Ei tgt is) = true := by
 induction is with
 | nil => rfl
 | cons x xs ih =>
  have : IN (Ei tgt (x :: xs)) = (I9 (.eptr tgt x.toNat 0) && IN (Ei tgt xs)) := rfl
  rw [this, ih]
  rfl
theorem AMe {i j k : Nat} : ∀ {ids : List Nat}, Hv ids = true → ids[i]? = some k → ids[j]? = some k → i = j := by
 intro ids h
 have : ids.Nodup := by
  induction ids with
  | nil => exact List.nodup_nil
  | cons a ids ih =>
   simp only [Hv, Bool.and_eq_true, Bool.not_eq_true', List.contains_eq_mem, decide_eq_false_iff_not] at h
   exact List.nodup_cons.2 ⟨h.1, ih h.2⟩
 intro h1 h2
 exact (List.getElem?_inj (Du h1) this).1 (h1.trans h2.symm)
theorem AGr {i : Nat} {o : Ob} : ∀ (ids : List Nat) (os : List Ob) (H : List Ob) (j : Nat), Hv ids = true → ids[j]? = some i → os[j]? = some o → i < H.length → (BJ (ids.zip os) H)[i]? = some o := by
 intro ids
 induction ids with
 | nil => intro os H j _ h; simp at h
 | cons a ids ih =>
  intro os H j hn h1 h2 hl
  cases os with
  | nil => simp at h2
  | cons x os =>
   simp only [Hv, Bool.and_eq_true, Bool.not_eq_true', List.contains_eq_mem, decide_eq_false_iff_not] at hn
   simp only [List.zip_cons_cons, BJ]
   cases j with
   | zero =>
    simp only [List.getElem?_cons_zero, Option.some.injEq] at h1 h2
    subst h1; subst h2
    rw [BT _ _ fun p hp => ?_, List.getElem?_set_self hl]
    rintro rfl
    exact hn.1 (List.of_mem_zip hp).1
   | succ j =>
    simp only [List.getElem?_cons_succ] at h1 h2
    exact ih os _ j hn.2 h1 h2 (by simpa using hl)
def H3 : List Nat → Nat → Option Nat
 | [], _ => none
 | x :: xs, i => if x = i then some 0 else (H3 xs i).map (· + 1)
theorem Sj {i j : Nat} : ∀ {ids : List Nat}, H3 ids i = some j → ids[j]? = some i := by
 intro ids
 induction ids generalizing j with
 | nil => intro h; simp [H3] at h
 | cons a ids ih =>
  intro h
  simp only [H3] at h
  split at h
  ·rename_i e; simp only [Option.some.injEq] at h; subst h; simp [e]
  ·rw [Option.map_eq_some_iff] at h
   obtain ⟨k, h1, rfl⟩ := h
   simpa using ih h1
theorem AJY {i : Nat} : ∀ {ids : List Nat}, H3 ids i = none → i ∉ ids := by
 intro ids
 induction ids with
 | nil => intro _; simp
 | cons a ids ih =>
  intro h
  simp only [H3] at h
  split at h
  ·cases h
  ·rename_i hne
   rw [Option.map_eq_none_iff] at h
   simp only [List.mem_cons, not_or]
   exact ⟨fun e => hne e.symm, ih h⟩
theorem AS4 {i j : Nat} {ids : List Nat} (hn : Hv ids = true) (h : ids[j]? = some i) : H3 ids i = some j := by
 cases hf : H3 ids i with
 | none => exact absurd (List.mem_of_getElem? h) (AJY hf)
 | some k => rw [AMe hn h (Sj hf)]
def mOf (ids : List Nat) (m3 m : Mp) : Mp := fun i => match H3 ids i with
 | some j => m3 j
 | none => m i
theorem ABW {fz : List Bool} : ∀ {ids : List Nat} {bs : List Bnd}, Eb H fz ids bs = true → ∀ {j i : Nat}, ids[j]? = some i → bs[j]? = some (.whole i) ∨ ((∀ id, bs[j]? ≠ some (.whole id)) ∧ A3 H fz i = true) := by
 intro ids
 induction ids with
 | nil => intro bs _ j i h; simp at h
 | cons a ids ih =>
  intro bs h j i hj
  simp only [Eb, Bool.and_eq_true] at h
  obtain ⟨h1, h2⟩ := h
  cases j with
  | zero =>
   simp only [List.getElem?_cons_zero, Option.some.injEq] at hj; subst hj
   split at h1
   ·rename_i id _
    simp only [decide_eq_true_eq] at h1; subst h1
    exact .inl (by simp)
   ·rename_i hne
    refine .inr ⟨fun id he => ?_, h1⟩
    cases bs with
    | nil => simp at he
    | cons b bs => simp at he; subst he; exact hne id bs rfl
  | succ j =>
   simp only [List.getElem?_cons_succ] at hj
   have := ih h2 hj
   cases bs with
   | nil => simpa using this
   | cons b bs => simpa using this
theorem ASi : ∀ (n : Nat) (bs : List Bnd) (slot : Nat), (B2 n bs slot).length = n := by
 intro n
 induction n with
 | zero => intro bs slot; cases bs <;> rfl
 | succ n ih =>
  intro bs slot
  cases bs with
  | nil => simp [B2, ih]
  | cons b bs => cases b <;> simp [B2, ih]
theorem Be (st : St) (v : AV) (l : Loc) : (place st v l).heap.length = st.heap.length := by
 cases l with
 | tmp t => rfl
 | cell j c => simp only [place]; split <;> simp
 | cap t i => rfl
 | obj j => rfl
theorem AWa : ∀ (its : AE) (d : CT (leaves its)) (st : St), (enc its d st).heap.length = st.heap.length + Cc its := by
 intro its
 induction its with
 | nil => intro d st; rfl
 | cons p r ih =>
  intro d st
  obtain ⟨l, c⟩ := p
  cases c with
  | dat t => exact (ih _ _).trans (by rw [Be]; rfl)
  | own T e => exact (ih _ _).trans (by rw [Be]; simp [IZ, Cc]; omega)
  | box n => exact (ih _ _).trans (by rw [Be]; simp [IZ, Cc]; omega)
  | map k v => exact (ih _ _).trans (by rw [Be]; simp [IZ, Cc]; omega)
  | prs T j => exact (ih _ _).trans (by rw [Be]; simp [IZ, Cc]; omega)
  | own' j => exact (ih _ _).trans (by rw [Be]; rfl)
  | ptr' j o => exact (ih _ _).trans (by rw [Be]; rfl)
  | map' j => exact (ih _ _).trans (by rw [Be]; rfl)
  | win' j => exact (ih _ _).trans (by rw [Be]; rfl)
  | sub' j => exact (ih _ _).trans (by rw [Be]; rfl)
  | clo f ps => exact (ih _ _).trans (by rw [Be]; rfl)
  | bnd f j => exact (ih _ _).trans (by rw [Be]; rfl)
  | nil e => exact (ih _ _).trans (by rw [Be]; rfl)
end
end Go.Pev
end
section
namespace Go.Pev
open Go.RowKit
theorem W2 {H : List Ob} {fz : List Bool} {i : Nat} {o : Ob} (h : H[i]? = some o) (ha : alive o) (hf : fz.getD i false = false) : owned H fz i := by
 unfold owned
 rw [h]
 cases o with
 | free => exact ha.elim
 | dead => exact ha.elim
 | box cs => trivial
 | arr T t xs => exact hf
 | map k v es => trivial
 | prs T t is => trivial
theorem AKK {o : Ob} (h : alive o) : o ≠ .free ∧ o ≠ .dead := by
 constructor <;> rintro rfl <;> exact h
theorem DL {H : List Ob} {fz : List Bool} {ids : List Nat} {i : Nat} (h : owned H (Ai ids fz) i) : owned H fz i := by
 unfold owned at *
 cases ho : H[i]? with
 | none => rw [ho] at h; exact h.elim
 | some o =>
  rw [ho] at h
  cases o with
  | free => exact h.elim
  | dead => exact h.elim
  | box cs => trivial
  | map k v es => trivial
  | prs T t is => trivial
  | arr T t xs =>
   simp only at h ⊢
   rw [A0] at h
   simp only [Bool.or_eq_false_iff] at h
   exact h.1
theorem ZX {o o1 : Ob} {ids : List Nat} (h : sameShape o o1) : sameShape o (FO ids o1) := by
 cases o <;> cases o1 <;> simp only [sameShape, FO] at * <;> exact h
section
variable {w w' : World} {F F2 F3 FR : Nat → Prop} {m m3 : Mp} {H H1 : List Ob} {fz fz1 fzR : List Bool} {bs : List Bnd} {ids fr : List Nat}
theorem ATL (hiC : HI w F m H fz) (gA : Av w F m H fz w F2 m H (Ai fr fz)) 
  (pin : ∀ j id, bs[j]? = some (.whole id) → owned H (Ai fr fz) id ∧ ∃ o o1, H[id]? = some o ∧ alive o ∧ H1[j]? = some o1 ∧ sameShape o o1 ∧ m3 j = m id)
  (blk : ∀ j b c, owned H1 fz1 j → m3 j = some (b, c) → (∃ id c', bs[j]? = some (.whole id) ∧ m id = some (b, c')) ∨ w.heap.size ≤ b)
  (os : w'.os = w.os) (tape : w'.tape = w.tape) (output : w'.output = w.output) (size : w.heap.size ≤ w'.heap.size)
  (keep : ∀ b, b < w.heap.size → (∀ (j id : Nat) (c : Nat), bs[j]? = some (.whole id) → m id ≠ some (b, c)) → w'.heap[b]? = w.heap[b]?)
  (sub : ∀ b, F2 b → F3 b) (bnd : ∀ b, F3 b → F2 b ∨ (∃ (j id c : Nat), bs[j]? = some (.whole id) ∧ m id = some (b, c)) ∨ w.heap.size ≤ b)
  (hi1 : HI w' F3 m3 H1 fz1) (al1 : ∀ (j : Nat) (o : Ob), H1[j]? = some o → alive o) (fr1 : ∀ j, fz1.getD j false = false)
  (hlen : ids.length = H1.length) (hok : Eb H fzR ids bs = true) (hnd : Hv ids = true)
  (hR : (FR = F ∧ fzR = fz ∧ H1.all Mw = true) ∨ (FR = F3 ∧ fzR = Ai fr fz)) :
  Av w F m H fz w' FR (mOf ids m3 m) (BJ (ids.zip (H1.map (FO ids))) H) fzR ∧ AKO ids H1 (BJ (ids.zip (H1.map (FO ids))) H) m3 (mOf ids m3 m) := by
 have hiR : ∃ FB, HI w FB m H fzR ∧ (∀ b, F b → FB b) ∧ (∀ b, FB b → FR b) ∧ (∀ b, FB b → F2 b) := by
  rcases hR with ⟨e1, e2, _⟩ | ⟨e1, e2⟩
  ·exact ⟨F, by rw [e2]; exact hiC, fun _ h => h, fun _ h => by rw [e1]; exact h, gA.1.sub⟩
  ·exact ⟨F2, by rw [e2]; exact gA.2, gA.1.sub, fun b h => by rw [e1]; exact sub b h, fun _ h => h⟩
 obtain ⟨FB, hiB, hFB, hBR, hB2⟩ := hiR
 have ownR : ∀ {i}, owned H fzR i → owned H fz i := by
  intro i h
  rcases hR with ⟨_, e2, _⟩ | ⟨_, e2⟩
  ·rw [e2] at h; exact h
  ·rw [e2] at h; exact DL h
 have pinR : ∀ {id}, owned H (Ai fr fz) id → owned H fzR id := by
  intro id h
  rcases hR with ⟨_, e2, _⟩ | ⟨_, e2⟩
  ·rw [e2]; exact DL h
  ·rw [e2]; exact h
 have FR3 : ∀ b, FR b → F3 b := by
  rcases hR with ⟨e1, _, _⟩ | ⟨e1, _⟩
  ·rw [e1]; exact fun b h => sub b (gA.1.sub b h)
  ·rw [e1]; exact fun _ h => h
 have hids : ∀ {j i : Nat}, ids[j]? = some i → (∃ o, H[i]? = some o) ∧ (bs[j]? = some (.whole i) ∨ ((∀ (id : Nat), bs[j]? ≠ some (.whole id)) ∧ H[i]? = some .free ∧ fzR.getD i false = false)) := by
  intro j i hj
  rcases ABW hok hj with h | ⟨h1, h2⟩
  ·obtain ⟨_, o, o1, ho, _⟩ := pin j i h
   exact ⟨⟨o, ho⟩, .inl h⟩
  ·obtain ⟨h3, h4⟩ := BU h2
   exact ⟨⟨_, h3⟩, .inr ⟨h1, h3, h4⟩⟩
 have hunf : ∀ {j i : Nat}, ids[j]? = some i → ∀ {o1 : Ob}, H1[j]? = some o1 → ∀ {T : TypeId} {t : Ty} {xs : List t.den}, o1 = .arr T t xs → fzR.getD i false = false := by
  intro j i hj o1 ho1 T t xs he
  rcases (hids hj).2 with h | ⟨_, _, h⟩
  ·obtain ⟨h1, o, o2, ho, _, ho2, hs, _⟩ := pin j i h
   rw [ho1] at ho2; cases ho2
   subst he
   have h2 := pinR h1
   unfold owned at h2
   rw [ho] at h2
   cases o <;> simp only [sameShape] at hs
   exact h2
  ·exact h
 have hwhole : ∀ {j id : Nat}, bs[j]? = some (.whole id) → ids[j]? = some id := by
  intro j id hb
  obtain ⟨_, o, o1, _, _, ho1, _⟩ := pin j id hb
  have hl := As ho1
  rw [← hlen] at hl
  have hg : ids[j]? = some ids[j] := List.getElem?_eq_getElem hl
  rcases ABW hok hg with h | ⟨h, _⟩
  ·rw [hb] at h; cases h; exact hg
  ·exact absurd hb (h id)
 have getIn : ∀ {j i : Nat} {o1 : Ob}, ids[j]? = some i → H1[j]? = some o1 → (BJ (ids.zip (H1.map (FO ids))) H)[i]? = some (FO ids o1) := by
  intro j i o1 hj ho1
  obtain ⟨⟨o, ho⟩, _⟩ := hids hj
  exact AGr ids _ H j hnd hj (by rw [List.getElem?_map, ho1]; rfl) (As ho)
 have getOut : ∀ {i : Nat}, i ∉ ids → (BJ (ids.zip (H1.map (FO ids))) H)[i]? = H[i]? := by
  intro i hi
  exact BT _ _ fun p hp => by rintro rfl; exact hi (List.of_mem_zip hp).1
 have mIn : ∀ {j i : Nat}, ids[j]? = some i → mOf ids m3 m i = m3 j := by
  intro j i hj; unfold mOf; rw [AS4 hnd hj]
 have mOut : ∀ {i : Nat}, i ∉ ids → mOf ids m3 m i = m i := by
  intro i hi
  unfold mOf
  cases hf : H3 ids i with
  | none => rfl
  | some j => exact absurd (List.mem_of_getElem? (Sj hf)) hi
 have inOut : ∀ i : Nat, (∃ j : Nat, ids[j]? = some i) ∨ i ∉ ids := by
  intro i
  by_cases h : i ∈ ids
  ·obtain ⟨j, hj⟩ := List.getElem?_of_mem h; exact .inl ⟨j, hj⟩
  ·exact .inr h
 have has1 : ∀ {j i : Nat}, ids[j]? = some i → ∃ o1, H1[j]? = some o1 := by
  intro j i hj
  have hl := Du hj
  rw [hlen] at hl
  exact ⟨_, List.getElem?_eq_getElem hl⟩
 have own1 : ∀ {j : Nat} {o1 : Ob}, H1[j]? = some o1 → owned H1 fz1 j := fun h => W2 h (al1 _ _ h) (fr1 _)
 have blkNe : ∀ {i b c : Nat}, i ∉ ids → (∃ o, H[i]? = some o ∧ o ≠ .free ∧ o ≠ .dead) → m i = some (b, c) → ∀ {j id c' : Nat}, bs[j]? = some (.whole id) → m id ≠ some (b, c') := by
  intro i b c hi ⟨o, ho, h1, h2⟩ hm j id c' hb he
  obtain ⟨hp, _⟩ := pin j id hb
  have hne : i ≠ id := by rintro rfl; exact hi (List.mem_of_getElem? (hwhole hb))
  exact gA.2.ne hp he ho h1 h2 hm hne rfl
 have hcomp : Co H (BJ (ids.zip (H1.map (FO ids))) H) m (mOf ids m3 m) := by
  intro i o ho hf
  rcases inOut i with ⟨j, hj⟩ | hi
  ·rcases (hids hj).2 with h | ⟨_, h, _⟩
   ·obtain ⟨_, o', o1, ho', ha, ho1, hs, hm⟩ := pin j i h
    rw [ho] at ho'; cases ho'
    exact .inr ⟨(AKK ha).2, _, getIn hj ho1, ZX hs, by rw [mIn hj]; exact hm⟩
   ·rw [ho] at h; cases h; exact absurd rfl hf
  ·rcases Co.refl H m i o ho hf with h | ⟨hd, o', h1, h2, _⟩
   ·exact .inl (by rw [getOut hi]; exact h)
   ·exact .inr ⟨hd, o', by rw [getOut hi]; exact h1, h2, mOut hi⟩
 have hmoved : AKO ids H1 (BJ (ids.zip (H1.map (FO ids))) H) m3 (mOf ids m3 m) := by
  intro j o ho
  have hl := As ho
  rw [← hlen] at hl
  have hg : ids[j]? = some ids[j] := List.getElem?_eq_getElem hl
  have hd : ids.getD j 0 = ids[j] := by rw [List.getD_eq_getElem?_getD, hg]; rfl
  rw [hd]
  exact ⟨getIn hg ho, mIn hg⟩
 have hkeepF : ∀ b, FB b → w'.heap[b]? = w.heap[b]? := by
  intro b hb
  refine keep b (hiB.lt b hb) fun j id c hj he => ?_
  obtain ⟨hp, _⟩ := pin j id hj
  exact gA.2.off id b c hp he (hB2 b hb)
 have hcell : ∀ a : Addr, F a.block → w'.cell? a = w.cell? a := fun a ha => by simp [World.cell?, hkeepF _ (hFB _ ha)]
 have ownOut : ∀ {i}, i ∉ ids → owned (BJ (ids.zip (H1.map (FO ids))) H) fzR i → owned H fzR i := by
  intro i hi h
  unfold owned at *; rw [getOut hi] at h; exact h
 have bOut : ∀ {i b c : Nat}, i ∉ ids → owned H fzR i → m i = some (b, c) → ∀ {j : Nat} {o1 : Ob} {c' : Nat}, H1[j]? = some o1 → m3 j ≠ some (b, c') := by
  intro i b c hi ho hm j o1 c' ho1 he
  obtain ⟨o, h1, h2, h3⟩ := DA ho
  rcases blk j b c' (own1 ho1) he with ⟨id, c2, hb, hm2⟩ | hge
  ·exact blkNe hi ⟨o, h1, h2, h3⟩ hm hb hm2
  ·have := hiB.KC ho hm; omega
 refine ⟨⟨⟨os, tape, output, size, fun b hb hn => keep b hb fun j id c hj he => ?_, fun b h => hBR b (hFB b h), ?_, ?_, hcomp⟩, ⟨?_, ?_, ?_, ?_, ?_, ?_⟩⟩, hmoved⟩
 ·exact hn id c (DL (pin j id hj).1) he
 ·-- what is frozen
  intro b hb
  rcases hR with ⟨e1, _, _⟩ | ⟨e1, _⟩
  ·rw [e1] at hb; exact .inl hb
  ·rw [e1] at hb
   rcases bnd b hb with h | ⟨j, id, c, h1, h2⟩ | h
   ·exact gA.1.bnd b h
   ·exact .inr (.inl ⟨id, c, DL (pin j id h1).1, h2⟩)
   ·exact .inr (.inr h)
 ·intro i b c ho hm
  rcases inOut i with ⟨j, hj⟩ | hi
  ·obtain ⟨o1, ho1⟩ := has1 hj
   rw [mIn hj] at hm
   rcases blk j b c (own1 ho1) hm with ⟨id, c', h1, h2⟩ | h
   ·exact .inl ⟨id, c', DL (pin j id h1).1, h2⟩
   ·exact .inr h
  ·rw [mOut hi] at hm
   exact .inl ⟨i, c, ownR (ownOut hi ho), hm⟩
 ·-- objects
  intro i o ho
  rcases inOut i with ⟨j, hj⟩ | hi
  ·obtain ⟨o1, ho1⟩ := has1 hj
   rw [getIn hj ho1] at ho; cases ho
   rw [mIn hj]
   have hob := hi1.obj j o1 ho1
   cases o1 with
   | free => trivial
   | dead => trivial
   | box cs =>
    obtain ⟨b, c, vs, T, a1, a2, a3, a4⟩ := hob
    refine ⟨b, c, vs, T, a1, a2, AZ.ren hmoved cs ?_, a4⟩
    rcases hR with ⟨e1, _, hfl⟩ | ⟨e1, _⟩
    ·rw [List.all_eq_true] at hfl
     exact AZ.flat cs (by simpa [Mw] using hfl _ (List.mem_of_getElem? ho1)) a3
    ·rw [e1]; exact a3
   | arr T t xs =>
    rcases hR with ⟨e1, _, hfl⟩ | ⟨e1, _⟩
    ·rw [List.all_eq_true] at hfl
     have hft : t.flat = true := by simpa [Mw] using hfl _ (List.mem_of_getElem? ho1)
     obtain ⟨h0, h1⟩ := hob
     refine ⟨h0, ?_⟩
     cases hm3 : m3 j with
     | none => rw [hm3] at h1; exact h1
     | some p =>
      obtain ⟨b, cap⟩ := p
      rw [hm3] at h1
      obtain ⟨vs, row, a1, a2, a3, a4, a5, a6⟩ := h1
      exact ⟨vs, row, a1, a2, a3, a4, BO (fun x _ cs hx => hx.flat t hft) a5, a6⟩
    ·rw [e1]; exact hob
   | map k v es =>
    obtain ⟨b, c, ms, clock, a1, a2, a3, a4⟩ := hob
    refine ⟨b, c, ms, clock, a1, a2, ?_, a4⟩
    rcases hR with ⟨e1, _, hfl⟩ | ⟨e1, _⟩
    ·rw [List.all_eq_true] at hfl
     have hft : k.flat = true ∧ v.flat = true := by simpa [Mw] using hfl _ (List.mem_of_getElem? ho1)
     exact AS8 hft.1 hft.2 a3
    ·rw [e1]; exact a3
   | prs T tgt is =>
    simp only [FO]
    cases hm3 : m3 j with
    | none => rw [hm3] at hob; exact hob
    | some p =>
     obtain ⟨b, cap⟩ := p
     rw [hm3] at hob
     obtain ⟨vs, us, a1, a2, a3, a4, a5, a6, a7⟩ := hob
     refine ⟨vs, us, a1, a2, a3, a4, ?_, a6, a7⟩
     rw [← AUY]
     refine AZ.ren hmoved _ ?_
     rcases hR with ⟨e1, _, hfl⟩ | ⟨e1, _⟩
     ·exact AZ.flat _ (AS1 tgt is) a5
     ·rw [e1]; exact a5
  ·rw [getOut hi] at ho
   rw [mOut hi]
   refine ObI.mono hcell (fun b h => hBR b (hFB b h)) hcomp (fun h1 h2 b c hm hlt => keep b hlt fun j id c' hj => blkNe hi ⟨o, ho, h1, h2⟩ hm hj) (hiC.obj i o ho)
 ·-- apart
  intro i j b c b' c' hoi hoj hij hmi hmj
  rcases inOut i with ⟨k, hk⟩ | hi
  ·obtain ⟨o1, ho1⟩ := has1 hk
   rw [mIn hk] at hmi
   rcases inOut j with ⟨l, hl⟩ | hj
   ·obtain ⟨o2, ho2⟩ := has1 hl
    rw [mIn hl] at hmj
    have hkl : k ≠ l := by rintro rfl; rw [hk] at hl; cases hl; exact hij rfl
    exact hi1.sep k l b c b' c' (own1 ho1) (own1 ho2) hkl hmi hmj
   ·rw [mOut hj] at hmj
    rintro rfl
    exact bOut hj (ownOut hj hoj) hmj ho1 hmi
  ·rw [mOut hi] at hmi
   rcases inOut j with ⟨l, hl⟩ | hj
   ·obtain ⟨o2, ho2⟩ := has1 hl
    rw [mIn hl] at hmj
    rintro rfl
    exact bOut hi (ownOut hi hoi) hmi ho2 hmj
   ·rw [mOut hj] at hmj
    exact hiB.sep i j b c b' c' (ownOut hi hoi) (ownOut hj hoj) hij hmi hmj
 ·-- none of them frozen
  intro i b c hoi hmi hb
  rcases inOut i with ⟨k, hk⟩ | hi
  ·obtain ⟨o1, ho1⟩ := has1 hk
   rw [mIn hk] at hmi
   exact hi1.off k b c (own1 ho1) hmi (FR3 b hb)
  ·rw [mOut hi] at hmi
   have ho := ownOut hi hoi
   rcases hR with ⟨e1, e2, _⟩ | ⟨e1, e2⟩
   ·rw [e1] at hb; exact hiC.off i b c (ownR ho) hmi hb
   ·rw [e1] at hb
    rcases bnd b hb with h | ⟨j, id, c', h1, h2⟩ | h
    ·rw [e2] at ho; exact gA.2.off i b c ho hmi h
    ·obtain ⟨o, q1, q2, q3⟩ := DA ho
     exact blkNe hi ⟨o, q1, q2, q3⟩ hmi h1 h2
    ·have := hiB.KC ho hmi; omega
 ·intro i T t xs b c hio hf hmi
  rcases inOut i with ⟨k, hk⟩ | hi
  ·obtain ⟨o1, ho1⟩ := has1 hk
   rw [getIn hk ho1] at hio
   have : o1 = .arr T t xs := by
    cases o1 <;> simp only [FO, Option.some.injEq] at hio <;> first | exact hio | cases hio
   rw [hunf hk ho1 this] at hf; cases hf
  ·rw [getOut hi] at hio
   rw [mOut hi] at hmi
   exact hBR b (hiB.froz i T t xs b c hio hf hmi)
 ·intro b hb
  exact hi1.lt b (FR3 b hb)
 ·rw [AGs]
  exact hiB.len
end
end Go.Pev
end
section
namespace Go.Pev
open Go.RowKit
section
variable {P : Program} {w : World} {F : Nat → Prop} {m : Mp} {st : St} {a : Act}
def ADH (tmps : Array Value) : ResultVar → Sem Value
 | .tmp t => pure (tmps.getD t undef)
 | .cell x t => do loadVar t (← asAddr (tmps.getD x undef))
theorem AG7 (hs : SI w F m st a) {rv : ResultVar} {v : AV} (h : NZ P st rv = some v) :
  ∃ u, (ADH a.tmps rv).run P w = .ok u w ∧ Rep w F m st.heap v u := by
 cases rv with
 | tmp t =>
  simp only [NZ, Option.some.injEq] at h; subst h
  exact ⟨_, rfl, hs.tmps t⟩
 | cell x T =>
  simp only [NZ] at h
  split at h
  ·rename_i id off n ag h1 h2 h3
   split at h
   ·rename_i cs ho
    have hr := hs.tmps x
    have e1 : st.tmps.getD x .junk = .ptr id off := h1
    rw [e1] at hr
    unfold Rep Fv at hr
    rw [ho] at hr
    obtain ⟨b, c, e2, e3⟩ := hr
    obtain ⟨b', c', vs, T', e4, e5, e6, e7⟩ := hs.heap.obj id _ ho
    rw [e2] at e4; cases e4
    obtain ⟨u, k1, k2⟩ := C4 (P := P) h2 h3 h (ED e6 off) (ad := ⟨b, off, none⟩) (fun u hu => e7 u (List.mem_of_mem_drop hu)) (fun j u hu => by
     rw [List.getElem?_drop] at hu
     rw [Ct]
     simp only [World.cell?, e5]
     simpa using hu)
    refine ⟨u, ?_, k2⟩
    simp [ADH, e3, asAddr, k1]
   ·cases h
  ·cases h
theorem ADG (hs : SI w F m st a) : ∀ {rvs : List ResultVar} {vs : List AV}, Cq P st rvs = some vs →
  ∃ us, (rvs.mapM (ADH a.tmps)).run P w = .ok us w ∧ AZ w F m st.heap vs us := by
 intro rvs
 induction rvs with
 | nil =>
  intro vs h
  simp only [Cq, Option.some.injEq] at h; subst h
  exact ⟨[], by simp [List.mapM_nil], Kf⟩
 | cons rv rvs ih =>
  intro vs h
  simp only [Cq] at h
  split at h
  ·cases h
  ·rename_i v hv
   split at h
   ·cases h
   ·rename_i vs' hvs
    simp only [Option.some.injEq] at h; subst h
    obtain ⟨u, h1, h2⟩ := AG7 hs hv
    obtain ⟨us, h3, h4⟩ := ih hvs
    refine ⟨u :: us, ?_, by unfold AZ; exact ⟨u, us, rfl, h2, h4⟩⟩
    rw [List.mapM_cons]
    simp only [Sem.run_bind]
    rw [h1]
    simp only [Result.andThen_ok]
    rw [h3]
    simp
def ANP (us : List Value) : Value := if h : us.toArray.size = 1 then us.toArray[0] else .tuple us.toArray
theorem Vp (hs : SI w F m st a) {fn : Func} {vs : List AV} (h : Cq P st fn.results.toList = some vs) :
  ∃ us, (results fn a.tmps).run P w = .ok (ANP us) w ∧ AZ w F m st.heap vs us := by
 obtain ⟨us, h1, h2⟩ := ADG hs h
 refine ⟨us, ?_, h2⟩
 have e : results fn a.tmps = (do
   let vs ← fn.results.mapM (ADH a.tmps)
   pure (if h : vs.size = 1 then vs[0] else .tuple vs)) := by
  unfold results
  congr 2
 rw [e, Array.mapM_eq_mapM_toList]
 simp only [Sem.run_bind, map_eq_pure_bind]
 rw [h1]
 rfl
theorem AAu {H : List Ob} {vs : List AV} {us : List Value} (h : AZ w F m H vs us) : Rep w F m H (single vs) (ANP us) := by
 have hl := Ao h
 unfold ANP
 match vs, us, hl with
 | [], [], _ =>
  simp only [single]
  unfold Rep
  exact ⟨_, rfl, h⟩
 | [v], [u], _ =>
  simp only [single]
  unfold AZ at h
  obtain ⟨_, _, e, h1, _⟩ := h
  cases e
  exact h1
 | v :: v' :: vs, u :: u' :: us, _ =>
  simp only [single]
  unfold Rep
  exact ⟨_, rfl, h⟩
def Hf : List RS → List Value → List Value
 | .one :: r, u :: us => u :: Hf r us
 | .agg _ :: r, u :: us => u.cells.toList ++ Hf r us
 | _, _ => []
theorem ALa {H : List Ob} : ∀ {rs : List RS} {vs : List AV} {us : List Value} {tm : List AV}, FK rs vs = some tm → AZ w F m H vs us →
  AZ w F m H tm (Hf rs us) ∧ (Hf rs us).length = cellsOf rs ∧ ∀ (w2 : World) (F2 : Nat → Prop) (m2 : Mp) (H2 : List Ob) (ws : List AV), AZ w2 F2 m2 H2 ws (Hf rs us) → AZ w2 F2 m2 H2 (FG rs ws) us := by
 intro rs
 induction rs with
 | nil =>
  intro vs us tm h hr
  cases vs with
  | nil =>
   simp only [FK, Option.some.injEq] at h; subst h
   unfold AZ at hr; subst hr
   exact ⟨Kf, rfl, fun _ _ _ _ _ _ => Kf⟩
  | cons v vs => simp [FK] at h
 | cons r rs ih =>
  intro vs us tm h hr
  cases vs with
  | nil => cases r <;> simp [FK] at h
  | cons v vs =>
   unfold AZ at hr
   obtain ⟨u, us', rfl, hv, hr⟩ := hr
   cases r with
   | one =>
    simp only [FK] at h
    split at h
    ·rename_i l hl
     simp only [Option.some.injEq] at h; subst h
     obtain ⟨h1, h2, h3⟩ := ih hl hr
     refine ⟨by simp only [Hf]; unfold AZ; exact ⟨u, _, rfl, hv, h1⟩, by simp [Hf, cellsOf, RS.cells, h2]; omega, fun w2 F2 m2 H2 ws hw => ?_⟩
     simp only [Hf] at hw
     cases ws with
     | nil => unfold AZ at hw; cases hw
     | cons x ws =>
      unfold AZ at hw
      obtain ⟨y, ys, e, q1, q2⟩ := hw
      cases e
      simp only [FG, List.headD_cons, List.tail_cons]
      unfold AZ
      exact ⟨u, us', rfl, q1, h3 w2 F2 m2 H2 ws q2⟩
    ·cases h
   | agg n =>
    simp only [FK] at h
    split at h
    ·rename_i cs hag hcs
     split at h
     ·rename_i hn
      simp only [decide_eq_true_eq] at hn
      split at h
      ·rename_i l hl
       simp only [Option.some.injEq] at h; subst h
       obtain ⟨h1, h2, h3⟩ := ih hl hr
       have hc := cells?_ok hcs hv
       have ho := cells?_one hcs hv
       have hcl := Ao hc
       have hu : u = .agg u.cells := by
        cases v <;> simp only [Ss] at hag <;> try (cases hag; done)
        ·rename_i t d
         unfold Rep Bc at hv
         rw [if_pos hag] at hv
         obtain ⟨x, rfl, _⟩ := hv
         rfl
        ·unfold Rep at hv
         obtain ⟨x, rfl, _⟩ := hv
         rfl
       refine ⟨by simp only [Hf]; exact Fc hc h1, by simp [Hf, cellsOf, RS.cells, h2] at hcl ⊢; omega, fun w2 F2 m2 H2 ws hw => ?_⟩
       simp only [Hf] at hw
       have ht := Lg hw n
       have hd := ED hw n
       have hn' : u.cells.toList.length = n := by rw [hcl, hn]
       rw [List.take_left' hn'] at ht
       rw [List.drop_left' hn'] at hd
       simp only [FG]
       unfold AZ
       refine ⟨u, us', rfl, ?_, h3 w2 F2 m2 H2 _ hd⟩
       unfold Rep
       exact ⟨u.cells, hu, ht, ho⟩
      ·cases h
     ·cases h
    ·cases h
end
end Go.Pev
end
section
namespace Go.Pev
open Go.RowKit
theorem So {P : Program} {g : FuncId} {fn : Func} (hf : P.funcs[g]? = some fn) (hb : fn.body.isSome = true) (hn : (fn.name == "runtime.NumGoroutine") = false) : PE P g := by
 intro args w
 obtain ⟨c, hc⟩ := Option.isSome_iff_exists.1 hb
 have hn' : ¬ fn.name = "runtime.NumGoroutine" := by simpa using hn
 simp [callFunc, hf, hn', hc]
theorem AFq {P : Program} {np : Nat} {h : Hints} : ∀ (c : Code) (n : Nat), loops c = 0 → DT P np h c n := by
 intro c
 induction c with
 | seq a b iha ihb => intro n hl; simp only [loops] at hl; exact ⟨iha n (by omega), ihb _ (by omega)⟩
 | cond c a b iha ihb => intro n hl; simp only [loops] at hl; exact ⟨iha n (by omega), ihb _ (by omega)⟩
 | block id c ih => intro n hl; simp only [loops] at hl; exact ih n hl
 | loop c ih => intro n hl; simp only [loops] at hl; omega
 | _ => intro n _; trivial
section
variable {P : Program} {E : Env} {h : Hints} {g : FuncId} {fn : Func} {c : Code}
theorem AO5 {w : World} {F : Nat → Prop} {m : Mp} {H : List Ob} {args : List AV} {vals : List Value} (hr : AZ w F m H args vals) (n : Nat) (t : Nat) :
  Rep w F m H ((args ++ List.replicate n AV.junk).getD t .junk) ((vals.toArray ++ Array.replicate n undef).getD t undef) := by
 have hl := Ao hr
 have e : (vals.toArray ++ Array.replicate n undef).getD t undef = (vals ++ List.replicate n undef).getD t undef := by
  rw [Array.getD_eq_getD_getElem?, List.getD_eq_getElem?_getD, ← Array.getElem?_toList]
  simp
 rw [e, List.getD_eq_getElem?_getD, List.getD_eq_getElem?_getD]
 rcases Nat.lt_or_ge t args.length with ht | ht
 ·rw [List.getElem?_append_left ht, List.getElem?_append_left (by omega)]
  obtain ⟨v, hv, hrv⟩ := B5 hr (i := t) (c := args[t]) (List.getElem?_eq_getElem ht)
  rw [hv, List.getElem?_eq_getElem ht]
  exact hrv
 ·rw [List.getElem?_append_right ht, List.getElem?_replicate]
  split <;> (unfold Rep; trivial)
theorem AIU (hE : ∀ g, AR P g (E.spec g)) (hL : Hm E) (hf : P.funcs[g]? = some fn) (hb : fn.body = some c) (hc : PE P g) (hl : loops c = 0) :
  AR P g (FW P E h fn) := by
 intro R args H fz slot k r hk
 simp only [FW, hb] at hk
 split at hk
 ·cases hk
 ·rename_i hle
  simp only [decide_eq_true_eq] at hle
  obtain ⟨e, st', h1, h2, h3⟩ := MP hE hL (np := H.length) c 0 (AFq c 0 hl) R _ _ r hk
  have key : ∃ vs, Cq P st' fn.results.toList = some vs ∧ k (single vs) { heap := some (st'.heap, st'.frz) } = some r ∧ (e = .normal ∨ e = .ret) := by
   cases e with
   | normal =>
    simp only at h1
    split at h1
    ·rename_i vs hvs; exact ⟨vs, hvs, h1, .inl rfl⟩
    ·cases h1
   | ret =>
    simp only at h1
    split at h1
    ·rename_i vs hvs; exact ⟨vs, hvs, h1, .inr rfl⟩
    ·cases h1
   | _ => simp at h1
  obtain ⟨vs, hvs, h4, he⟩ := key
  refine ⟨_, _, h4, fun R' k' => ?_, hc, fun w F m vals hi hr => ?_⟩
  ·simp only [FW, hb, hle, decide_true]
   refine (h2 R' _).trans ?_
   rcases he with rfl | rfl <;> simp only [hvs]
  ·have hlv := Ao hr
   refine calls_of_wp hf hb ?_
   have hsi : SI w F m { tmps := args ++ List.replicate (fn.ntmps - args.length) .junk, heap := H, frz := fz } { tmps := vals.toArray ++ Array.replicate (fn.ntmps - vals.toArray.size) undef, defers := [] } := by
    refine ⟨fun t => ?_, ?_, hi, rfl⟩
    ·have := AO5 hr (fn.ntmps - args.length) t
     simp only [List.size_toArray, hlv]
     exact this
    ·simp [hlv]
   refine h3 w F m _ _ hsi fun a' w' F' m' s1 x1 => ?_
   obtain ⟨us, r1, r2⟩ := Vp s1 hvs
   have hgo : Av w F m H fz w' F' m' st'.heap st'.frz := ⟨⟨x1.os, x1.tape, x1.output, x1.size, x1.keep, x1.sub, x1.bnd, x1.own, fun i o ho hf => x1.comp i o (As ho) ho hf⟩, s1.heap⟩
   have hpost : a'.defers = [] ∧ ∃ v, (results fn a'.tmps).run P w' = .ok v w' ∧ (fun (en : Ending) (w' : World) => ∃ u, en = .returned u ∧ ∃ F' m', Av w F m H fz w' F' m' (De { heap := some (st'.heap, st'.frz) } H) (JH { heap := some (st'.heap, st'.frz) } fz) ∧ Rep w' F' m' (De { heap := some (st'.heap, st'.frz) } H) (single vs) u) (.returned v) w' :=
    ⟨s1.defers, _, r1, _, rfl, F', m', hgo, AAu r2⟩
   rcases he with rfl | rfl <;> exact hpost
theorem ABq {w : World} {F : Nat → Prop} {m : Mp} {H : List Ob} {fz : List Bool} {bs : List Bnd} {m' : Mp} {E : St} {val : Nat → Value} (h : Inv w F m H fz bs m' E val) {j : Nat} {o : Ob} (hj : E.heap[j]? = some o) : alive o := by
 have hlt := As hj
 rw [h.lenH] at hlt
 have hx : bs[j]? = some bs[j] := List.getElem?_eq_getElem hlt
 have hb := h.ob j _ hx
 cases hc : bs[j] with
 | none => rw [hc] at hb; simp only [BM] at hb; obtain ⟨_, ⟨T, e, e2, _⟩ | ⟨T, e, e2⟩⟩ := hb <;> (rw [hj] at e2; cases e2; trivial)
 | whole id =>
  rw [hc] at hb; simp only [BM] at hb
  rcases hb.2 with ⟨T, t, xs, _, a2, _⟩ | ⟨k, v, es, _, a2⟩ | ⟨cs, cs', b, c, vs, T, _, a2, _⟩ | ⟨_, _, _, _, _, a2, _⟩ <;> (rw [hj] at a2; cases a2; trivial)
 | cut id => rw [hc] at hb; simp only [BM] at hb; obtain ⟨T, t, xs, n, _, _, a3, _⟩ := hb; rw [hj] at a3; cases a3; trivial
theorem AJX {np : Nat} {outs : AE} {rs : List RS} {st : St} {y : CT (leaves outs)} (h : finish np P fn outs rs st = some y) :
  ∃ vs tm bs fr, Cq P st fn.results.toList = some vs ∧ FK rs vs = some tm ∧ dec tm st.heap outs st.frz [] = some (y, bs, fr) ∧ pins np 0 bs = true := by
 unfold finish at h
 split at h
 ·rename_i vs hvs
  split at h
  ·rename_i tm htm
   split at h
   ·rename_i y' bs fr hd
    split at h
    ·rename_i hp
     simp only [Option.some.injEq] at h; subst h
     exact ⟨vs, tm, bs, fr, hvs, htm, hd, hp⟩
    ·cases h
   ·cases h
  ·cases h
 ·cases h
theorem ARr (hE : ∀ g, AR P g (E.spec g)) (hL : Hm E) (hf : P.funcs[g]? = some fn) (hb : fn.body = some c) (hc : PE P g)
  {na : Nat} (hna : na ≤ fn.ntmps) {its outs : AE} {rs : List RS} {f : CT (leaves its) → Option (CT (leaves outs))} (hfun : ∀ x, f x = AP P E h fn its outs rs x) (hl : DT P (Cc its) h c 0) :
  AR P g (AF na its outs rs f) := by
 intro R args H fz slot k r hk
 simp only [AF] at hk
 split at hk
 ·cases hk
 ·rename_i x bs fr hdec
  split at hk
  ·cases hk
  ·rename_i hchk
   simp only [Bool.and_eq_true, decide_eq_true_eq] at hchk
   obtain ⟨⟨huncut, hbl⟩, hal⟩ := hchk
   split at hk
   ·cases hk
   ·rename_i y hy
    have key : ∃ e, k (single (FG rs (Ir (B2 (Cc outs) bs slot) (encode (cellsOf rs) outs y).tmps))) e = some r ∧ e.heap = none ∧ e.objs = (B2 (Cc outs) bs slot).zip ((encode (cellsOf rs) outs y).heap.map (FO (B2 (Cc outs) bs slot))) ∧
      (∀ R' (k' : AV → Eff → Option R'), M8 R' bs fr rs (encode (cellsOf rs) outs y) (B2 (Cc outs) bs slot) H fz k' = k' (single (FG rs (Ir (B2 (Cc outs) bs slot) (encode (cellsOf rs) outs y).tmps))) e) ∧
      Eb H (Ai e.frz fz) (B2 (Cc outs) bs slot) bs = true ∧ Hv (B2 (Cc outs) bs slot) = true ∧
      ((e.frz = [] ∧ IN (encode (cellsOf rs) outs y).tmps = true ∧ (encode (cellsOf rs) outs y).heap.all Mw = true) ∨ e.frz = fr) := by
     unfold M8 at hk
     split at hk
     ·rename_i hflat
      split at hk
      ·rename_i hok
       simp only [Bool.and_eq_true] at hok hflat
       refine ⟨_, hk, rfl, rfl, fun R' k' => by simp only [M8, hflat.1, hflat.2, hok.1, hok.2, Bool.and_self], hok.1, hok.2, .inl ⟨rfl, hflat.1, hflat.2⟩⟩
      ·cases hk
     ·rename_i hflat
      split at hk
      ·rename_i hok
       simp only [Bool.and_eq_true] at hok
       refine ⟨_, hk, rfl, rfl, fun R' k' => by simp only [M8, hflat, hok.1, hok.2, Bool.and_self], hok.1, hok.2, .inr rfl⟩
      ·cases hk
    obtain ⟨e, h4, he1, he2, h5, hok, hnd, hfl⟩ := key
    refine ⟨_, e, h4, fun R' k' => ?_, hc, fun w F m vals hi hr => ?_⟩
    ·simp only [AF, hdec, huncut, hbl, hal, hy, decide_true, Bool.and_self]
     exact h5 R' k'
    ·have hlv := Ao hr
     rw [hfun x] at hy
     unfold AP at hy
     rw [hb] at hy
     simp only at hy
     obtain ⟨ex, st', g1, _, g3⟩ := MP hE hL c 0 hl _ _ _ _ hy
     have hfin : finish (Cc its) P fn outs rs st' = some y ∧ (ex = .normal ∨ ex = .ret) := by
      cases ex with
      | normal => exact ⟨g1, .inl rfl⟩
      | ret => exact ⟨g1, .inr rfl⟩
      | _ => simp at g1
     obtain ⟨hfin, hex⟩ := hfin
     obtain ⟨vs, tm, bs', fr', hvs, htm, hd', hp⟩ := AJX hfin
     refine calls_of_wp hf hb ?_
     obtain ⟨F2, m2, gA, invA, _⟩ := AOB (val := fun t => (vals.toArray ++ Array.replicate (fn.ntmps - vals.toArray.size) undef).getD t undef) its fz [] F (fun _ => none) (blank fn.ntmps) x bs fr hi
      (fun t v ht => by
       have := AO5 hr (fn.ntmps - vals.toArray.size) t
       rw [List.getD_eq_getElem?_getD, List.getElem?_append_left (Du ht), ht] at this
       exact this) (Inv.blank fn.ntmps) hdec
     have hsi : SI w F2 m2 (encode fn.ntmps its x) { tmps := vals.toArray ++ Array.replicate (fn.ntmps - vals.toArray.size) undef, defers := [] } := by
      refine ⟨invA.tmps, ?_, invA.hi gA.2, rfl⟩
      rw [KS]
      simp [hlv]
      omega
     refine g3 w F2 m2 _ _ hsi fun a' w' F' m' s1 x1 => ?_
     obtain ⟨us, r1, r2⟩ := Vp s1 hvs
     obtain ⟨q1, q2, q3⟩ := ALa htm r2
     obtain ⟨F3, m3, gC, invC, _⟩ := AOB (val := fun t => (Hf rs us).getD t undef) outs st'.frz [] F' (fun _ => none) (blank (cellsOf rs)) y bs' fr' s1.heap
      (fun t v ht => by
       obtain ⟨u, hu, hru⟩ := B5 q1 ht
       rw [List.getD_eq_getElem?_getD, hu]
       exact hru) (Inv.blank (cellsOf rs)) hd'
     have hnb : ∀ j id, bs[j]? = some (.whole id) → j < Cc its := fun j id hj => by rw [← hbl]; exact Du hj
     have srcA : ∀ {j b c}, owned (encode fn.ntmps its x).heap (encode fn.ntmps its x).frz j → m2 j = some (b, c) → ∃ id, bs[j]? = some (.whole id) ∧ owned H (Ai fr fz) id ∧ m id = some (b, c) := by
      intro j b c ho hm
      obtain ⟨y, id, k1, k2, k3, k4⟩ := invA.src ho hm
      rw [List.all_eq_true] at huncut
      have := huncut y (List.mem_of_getElem? k1)
      cases y with
      | none => simp [Bnd.id?] at k2
      | whole i => simp only [Bnd.id?, Option.some.injEq] at k2; subst k2; exact ⟨_, k1, k3, k4⟩
      | cut i => simp [Bnd.AYv] at this
     have hpin : ∀ j id, bs[j]? = some (.whole id) → owned H (Ai fr fz) id ∧ ∃ o o1, H[id]? = some o ∧ alive o ∧ (encode (cellsOf rs) outs y).heap[j]? = some o1 ∧ sameShape o o1 ∧ m3 j = m id := by
      intro j id hj
      have hA := invA.ob j _ hj
      simp only [BM] at hA
      obtain ⟨eA, hA⟩ := hA
      have hjn := hnb j id hj
      have hC := invC.ob j _ (by have := AHH _ 0 bs' hp j hjn; rw [Nat.zero_add] at this; exact this)
      simp only [BM] at hC
      obtain ⟨eC, hC⟩ := hC
      have start : ∃ o o0, H[id]? = some o ∧ alive o ∧ (encode fn.ntmps its x).heap[j]? = some o0 ∧ sameShape o o0 ∧ alive o0 ∧ owned H (Ai fr fz) id := by
       rcases hA with ⟨T, t, xs, a1, a2, a3⟩ | ⟨k, v, es, a1, a2⟩ | ⟨cs, cs', b, cc, vs, T, a1, a2, _⟩ | ⟨_, _, _, _, a1, a2, _⟩
       ·exact ⟨_, _, a1, trivial, a2, ⟨rfl, rfl⟩, trivial, W2 a1 trivial a3⟩
       ·exact ⟨_, _, a1, trivial, a2, trivial, trivial, by unfold owned; rw [a1]; trivial⟩
       rotate_left
       ·exact ⟨_, _, a1, trivial, a2, rfl, trivial, by unfold owned; rw [a1]; trivial⟩
       ·exact ⟨_, _, a1, trivial, a2, trivial, trivial, by unfold owned; rw [a1]; trivial⟩
      obtain ⟨o, o0, s1, s2, s3, s4, s5, s6⟩ := start
      have mid := x1.comp j o0 hjn s3 (AKK s5).1
      have fin : ∃ o2 o1, st'.heap[j]? = some o2 ∧ alive o2 ∧ (encode (cellsOf rs) outs y).heap[j]? = some o1 ∧ sameShape o2 o1 := by
       rcases hC with ⟨T, t, xs, a1, a2, a3⟩ | ⟨k, v, es, a1, a2⟩ | ⟨cs, cs', b, cc, vs, T, a1, a2, _⟩ | ⟨_, _, _, _, a1, a2, _⟩
       ·exact ⟨_, _, a1, trivial, a2, ⟨rfl, rfl⟩⟩
       ·exact ⟨_, _, a1, trivial, a2, trivial⟩
       rotate_left
       ·exact ⟨_, _, a1, trivial, a2, rfl⟩
       ·exact ⟨_, _, a1, trivial, a2, trivial⟩
      obtain ⟨o2, o1, t1, t2, t3, t4⟩ := fin
      rcases mid with md | ⟨_, o2', md1, md2, md3⟩
      ·rw [t1] at md; cases md; exact t2.elim
      ·rw [t1] at md1; cases md1
       exact ⟨s6, o, o1, s1, s2, t3, (s4.trans md2).trans t4, by rw [eC, md3, eA]⟩
     have hiC1 := invC.hi gC.2
     have hblk : ∀ j b cc, owned (encode (cellsOf rs) outs y).heap (encode (cellsOf rs) outs y).frz j → m3 j = some (b, cc) → (∃ id c', bs[j]? = some (.whole id) ∧ m id = some (b, c')) ∨ w.heap.size ≤ b := by
      intro j b cc ho hm
      obtain ⟨_, i', k1, k2, k3, k4⟩ := invC.src ho hm
      rcases x1.own i' b cc (DL k3) k4 with ⟨i, c0, l1, l2⟩ | h
      ·left
       obtain ⟨id, n1, n2, n3⟩ := srcA l1 l2
       obtain ⟨_, o, o1, p1, p2, p3, p4, p5⟩ := hpin i id n1
       have hoi : owned (encode (cellsOf rs) outs y).heap (encode (cellsOf rs) outs y).frz i := W2 p3 (ABq invC p3) (invC.frz i)
       by_cases hij : j = i
       ·subst hij; exact ⟨id, c0, n1, n3⟩
       ·exact absurd rfl (hiC1.sep j i b cc b c0 ho hoi hij hm (by rw [p5]; exact n3))
      ·exact .inr h
     have hkeep : ∀ b, b < w.heap.size → (∀ (j id : Nat) (c : Nat), bs[j]? = some (.whole id) → m id ≠ some (b, c)) → w'.heap[b]? = w.heap[b]? := by
      intro b hb hn
      refine x1.keep b hb fun i cc ho hm => ?_
      obtain ⟨id, n1, _, n3⟩ := srcA ho hm
      exact hn i id cc n1 n3
     have hbnd : ∀ b, F3 b → F2 b ∨ (∃ (j id c : Nat), bs[j]? = some (.whole id) ∧ m id = some (b, c)) ∨ w.heap.size ≤ b := by
      have hx : ∀ {i b cc}, owned (encode fn.ntmps its x).heap (encode fn.ntmps its x).frz i → m2 i = some (b, cc) → ∃ (j id c : Nat), bs[j]? = some (.whole id) ∧ m id = some (b, c) := by
       intro i b cc ho hm
       obtain ⟨id, n1, _, n3⟩ := srcA ho hm
       exact ⟨i, id, cc, n1, n3⟩
      intro b hb
      rcases gC.1.bnd b hb with h | ⟨i, cc, ho, hm⟩ | h
      ·rcases x1.bnd b h with h | ⟨i, cc, ho, hm⟩ | h
       ·exact .inl h
       ·exact .inr (.inl (hx ho hm))
       ·exact .inr (.inr h)
      ·rcases x1.own i b cc ho hm with ⟨i', c0, ho, hm⟩ | h
       ·exact .inr (.inl (hx ho hm))
       ·exact .inr (.inr h)
      ·exact .inr (.inr (Nat.le_trans x1.size h))
     have hidl : (B2 (Cc outs) bs slot).length = (encode (cellsOf rs) outs y).heap.length := by
      rw [ASi]; unfold encode; rw [AWa]; simp [blank]
     obtain ⟨FR, hFR, hRR⟩ : ∃ FR, ((FR = F ∧ Ai e.frz fz = fz ∧ (encode (cellsOf rs) outs y).heap.all Mw = true) ∨ (FR = F3 ∧ Ai e.frz fz = Ai fr fz)) ∧ AZ w' FR m3 (encode (cellsOf rs) outs y).heap (encode (cellsOf rs) outs y).tmps (Hf rs us) := by
      have hrt : AZ w' F3 m3 (encode (cellsOf rs) outs y).heap (encode (cellsOf rs) outs y).tmps (Hf rs us) := by
       refine Cx (by rw [KS, q2]) fun i a u ha hu => ?_
       have := invC.tmps i
       rw [List.getD_eq_getElem?_getD] at this
       have ha' : (enc outs y (blank (cellsOf rs))).tmps[i]? = some a := ha
       rw [ha', List.getD_eq_getElem?_getD, hu] at this
       exact this
      rcases hfl with ⟨f1, f2, f3⟩ | f1
      ·exact ⟨F, .inl ⟨rfl, by rw [f1]; rfl, f3⟩, AZ.flat _ f2 hrt⟩
      ·exact ⟨F3, .inr ⟨rfl, by rw [f1]⟩, hrt⟩
     obtain ⟨hgo, hmv⟩ := ATL (ids := B2 (Cc outs) bs slot) hi gA hpin hblk x1.os x1.tape x1.output x1.size hkeep (fun b h => gC.1.sub b (x1.sub b h)) hbnd hiC1 (fun j o hj => ABq invC hj) invC.frz hidl hok hnd hFR
     have hH : De e H = BJ ((B2 (Cc outs) bs slot).zip ((encode (cellsOf rs) outs y).heap.map (FO (B2 (Cc outs) bs slot)))) H := by rw [E5 he1, he2]
     have hZ : JH e fz = Ai e.frz fz := GU he1 fz
     have hpost : a'.defers = [] ∧ ∃ v, (results fn a'.tmps).run P w' = .ok v w' ∧ (fun (en : Ending) (w' : World) => ∃ u, en = .returned u ∧ ∃ F' m', Av w F m H fz w' F' m' (De e H) (JH e fz) ∧ Rep w' F' m' (De e H) (single (FG rs (Ir (B2 (Cc outs) bs slot) (encode (cellsOf rs) outs y).tmps))) u) (.returned v) w' := by
      refine ⟨s1.defers, _, r1, _, rfl, FR, mOf (B2 (Cc outs) bs slot) m3 m, ?_, ?_⟩
      ·rw [hH, hZ]; exact hgo
      ·rw [hH]
       exact AAu (q3 _ _ _ _ _ (AZ.ren hmv _ hRR))
     rcases hex with rfl | rfl <;> exact hpost
end
end Go.Pev
end
section
namespace Go.Pev
open Go.RowKit
def Iz : Code → Nat → Option Code
 | .seq a b, n => match Iz a n with
  | some c => some c
  | none => Iz b (n - loops a)
 | .cond _ a b, n => match Iz a n with
  | some c => some c
  | none => Iz b (n - loops a)
 | .block _ c, n => Iz c n
 | .loop c, n => match n with
  | 0 => some c
  | n + 1 => Iz c n
 | _, _ => none
def AU (f : Func) : Code := match f.body with
 | some c => c
 | none => .skip
def AB (f : Func) (n : Nat) : Code := (Iz (AU f) n).getD .skip
def AD : Code → Nat → List (Nat × Code)
 | .seq a b, n => AD a n ++ AD b (n + loops a)
 | .cond _ a b, n => AD a n ++ AD b (n + loops a)
 | .block _ c, n => AD c n
 | .loop c, n => [(n, c)]
 | _, _ => []
def AB5 (P : Program) (np : Nat) (h : Hints) : List (Nat × Code) → Prop
 | [] => True
 | p :: l => Aa P np (.loop p.2) (h.loop p.1) ∧ AB5 P np h l
theorem AB4 {P : Program} {np : Nat} {h : Hints} : ∀ {a b : List (Nat × Code)}, AB5 P np h (a ++ b) → AB5 P np h a ∧ AB5 P np h b := by
 intro a
 induction a with
 | nil => exact fun h => ⟨trivial, h⟩
 | cons p a ih => intro b h; exact ⟨⟨h.1, (ih h.2).1⟩, (ih h.2).2⟩
theorem AKP {P : Program} {np : Nat} {h : Hints} : ∀ (c : Code) (n : Nat), AB5 P np h (AD c n) → DT P np h c n := by
 intro c
 induction c with
 | seq a b iha ihb => intro n hl; have := AB4 hl; exact ⟨iha n this.1, ihb _ this.2⟩
 | cond c a b iha ihb => intro n hl; have := AB4 hl; exact ⟨iha n this.1, ihb _ this.2⟩
 | block id c ih => intro n hl; exact ih n hl
 | loop c ih => intro n hl; exact hl.1
 | _ => intro n _; trivial
theorem AA {P : Program} {np : Nat} {h : Hints} {c : Code} {n : Nat} {l : List (Nat × Code)} (e : AD c n = l) (a : AB5 P np h l) : DT P np h c n := AKP c n (by rw [e]; exact a)
def Ad (P : Program) (E : Env) : Prop := (∀ g, AR P g (E.spec g)) ∧ Hm E
def Env.none : Env := { spec := fun _ _ _ _ _ _ _ => Option.none, loc := fun _ => false, loc2 := fun _ => true }
theorem Env.AD0 {P : Program} : Ad P Env.none := ⟨fun g R args H fz slot k r h => by simp [Env.none] at h, fun g h => by simp [Env.none] at h, fun g _ R args H H' fz fz' slot k S _ _ _ => rfl⟩
def Env.ext (E : Env) (g : FuncId) (loc loc2 : Bool) (s : Spec) : Env where
 spec x := match Nat.beq x g with
  | true => s
  | false => E.spec x
 loc x := match Nat.beq x g with
  | true => loc
  | false => E.loc x
 loc2 x := match Nat.beq x g with
  | true => loc2
  | false => E.loc2 x
theorem Env.Ae {P : Program} {E : Env} {g : FuncId} {loc loc2 : Bool} {s : Spec} (h : Ad P E) (hs : AR P g s) (hl : loc = true → RV s) (hl2 : loc2 = true → T6 s) : Ad P (E.ext g loc loc2 s) := by
 refine ⟨?_, ?_, ?_⟩
 ·intro x
  simp only [Env.ext]
  cases hx : Nat.beq x g with
  | true => have := Nat.eq_of_beq_eq_true hx; subst this; exact hs
  | false => exact h.1 x
 ·intro x hx
  simp only [Env.ext] at hx ⊢
  cases hb : Nat.beq x g with
  | true => rw [hb] at hx; exact hl hx
  | false => rw [hb] at hx; exact h.2.1 x hx
 ·intro x hx
  simp only [Env.ext] at hx ⊢
  cases hb : Nat.beq x g with
  | true => rw [hb] at hx; exact hl2 hx
  | false => rw [hb] at hx; exact h.2.2 x hx
section
variable {P : Program} {E : Env} {h : Hints} {g : FuncId} {fn : Func}
theorem AQD (hb : fn.body.isSome = true) : fn.body = some (AU fn) := by
 unfold AU
 cases h : fn.body with
 | none => rw [h] at hb; cases hb
 | some c => rfl
theorem AI (hE : Ad P E) (hf : P.funcs[g]? = some fn) (hb : fn.body.isSome = true) (hn : (fn.name == "runtime.NumGoroutine") = false)
  {na : Nat} (hna : (Nat.ble na fn.ntmps) = true) {its outs : AE} {rs : List RS} {f : CT (leaves its) → Option (CT (leaves outs))} (hfun : ∀ x, f x = AP P E h fn its outs rs x) (hl : DT P (Cc its) h (AU fn) 0) :
  AR P g (AF na its outs rs f) :=
 ARr hE.1 hE.2 hf (AQD hb) (So hf hb hn) (Nat.le_of_ble_eq_true hna) hfun hl
theorem HV (hE : Ad P E) (hf : P.funcs[g]? = some fn) (hb : fn.body.isSome = true) (hn : (fn.name == "runtime.NumGoroutine") = false) (hl : loops (AU fn) = 0) : AR P g (FW P E h fn) :=
 AIU hE.1 hE.2 hf (AQD hb) (So hf hb hn) hl
theorem AW {h' : Hints} (hE : Ad P E) {np nt n : Nat} {body : Code} {its : AE} {os : Az} {stp : CT (leaves its) → Option (CT (leaves its) ⊕ AAU os)}
  (hstep : ∀ v, stp v = roundOf P E h' n np nt body its os v) (hl : DT P np h' body n) : Aa P np (.loop body) (Ab np nt its os stp) := ASD hE.1 hE.2 hstep hl
def ABg : AE → Bool
 | [] => true
 | (.tmp _, .dat _) :: r => ABg r
 | _ :: _ => false
theorem ATB {H H' : List Ob} {tm : List AV} (ha : ∀ id ∈ BD tm, H[id]? = H'[id]?) : ∀ (its : AE) (fz fz' : List Bool), ABg its = true → dec tm H its fz [] = dec tm H' its fz' [] := by
 intro its
 induction its with
 | nil => intro fz fz' _; rfl
 | cons p r ih =>
  intro fz fz' hd
  obtain ⟨l, c⟩ := p
  cases l <;> cases c <;> simp only [ABg] at hd <;> try (cases hd; done)
  rename_i t ty
  simp only [dec, look]
  cases hv : tm[t]? with
  | none => rfl
  | some v =>
   have hsub : ∀ id ∈ Ax v, H[id]? = H'[id]? := fun id hid => ha id (by
    clear ih hd ha
    induction tm generalizing t with
    | nil => simp at hv
    | cons a tm iht =>
     cases t with
     | zero => simp at hv; subst hv; simp [BD, hid]
     | succ t => simp only [BD, List.mem_append]; exact .inr (iht t (by simpa using hv)))
   simp only
   rw [Bf ty v hsub]
   cases E3 H' ty v with
   | none => rfl
   | some q =>
    obtain ⟨x, f⟩ := q
    simp only
    have hfr : f.all (fresh? []) = true := by simp [fresh?]
    rw [hfr]
    simp only
    rw [ih (Ai f fz) (Ai f fz') hd]
theorem ASh : ∀ (n slot : Nat), B2 n [] slot = List.range' slot n := by
 intro n
 induction n with
 | zero => intro slot; rfl
 | succ n ih => intro slot; simp only [B2, List.range'_succ]; rw [ih]
theorem Sg {H H' : List Ob} {fz fz' : List Bool} : ∀ (ids : List Nat), (∀ i ∈ ids, A3 H fz i = A3 H' fz' i) → Eb H fz ids [] = Eb H' fz' ids [] := by
 intro ids
 induction ids with
 | nil => intro _; rfl
 | cons a ids ih =>
  intro h
  simp only [Eb, List.tail_nil]
  rw [h a (by simp), ih fun i hi => h i (by simp [hi])]
theorem AOC {H : List Ob} {tm : List AV} : ∀ (its : AE) (fz : List Bool) (bs : List Bnd) (x : CT (leaves its)) (bs' : List Bnd) (fr : List Nat), ABg its = true → dec tm H its fz bs = some (x, bs', fr) → bs' = bs := by
 intro its
 induction its with
 | nil => intro fz bs x bs' fr _ h; simp only [dec, Option.some.injEq] at h; cases h; rfl
 | cons p r ih =>
  intro fz bs x bs' fr hd h
  obtain ⟨l, c⟩ := p
  cases l <;> cases c <;> simp only [ABg] at hd <;> try (cases hd; done)
  simp only [dec] at h
  split at h
  ·split at h
   ·split at h
    ·split at h
     ·rename_i xs bs1 g hdd
      simp only [Option.some.injEq] at h
      cases h
      exact ih _ _ _ _ _ hd hdd
     ·cases h
    ·cases h
   ·cases h
  ·cases h
theorem AK {na : Nat} {its outs : AE} {rs : List RS} {f : CT (leaves its) → Option (CT (leaves outs))} (hd : ABg its = true) (hn : Nat.ble (Cc outs) 4 = true) : RV (AF na its outs rs f) := by
 intro R args H H' fz fz' slot k ha
 unfold AF
 rw [ATB ha.heap its fz fz' hd]
 split
 ·rfl
 ·rename_i x bs fr hdec
  have hbs := AOC its fz' [] x bs fr hd hdec
  subst hbs
  split
  ·rfl
  ·split
   ·rfl
   ·rename_i y hy
    have hfree : ∀ (g : List Nat) (i : Nat), i ∈ B2 (Cc outs) [] slot → A3 H (Ai g fz) i = A3 H' (Ai g fz') i := by
     intro g i hi
     rw [ASh, List.mem_range'_1] at hi
     have := Nat.le_of_ble_eq_true hn
     exact F8 ha hi.1 (by omega) g
    unfold M8
    rw [show Eb H fz (B2 (Cc outs) [] slot) [] = Eb H' fz' (B2 (Cc outs) [] slot) [] from Sg _ (hfree []), Sg _ (hfree fr)]
end
end Go.Pev
end
section
namespace Go.Pev
open Go.RowKit
def RE {α : Type} (xs : List α) : Option (List α) := match KQ (AM xs) with
 | true => some xs
 | false => none
def W4 : Code → Nat → List Oper
 | .region id ops _, n => if id = n then ops.toList else []
 | .seq a b, n => W4 a n ++ W4 b n
 | .cond _ a b, n => W4 a n ++ W4 b n
 | .block _ c, n => W4 c n
 | .loop c, n => W4 c n
 | _, _ => []
def DZ (fn : Func) (n i : Nat) : Oper := ((W4 (AU fn) n)[i]?).getD default
structure AZm (P : Program) (fn : Func) (T e : TypeId) (t : Ty) : Prop where
 body : fn.body = some (.seq (.region 0 #[DZ fn 0 0] false) (.seq (.seq (.region 1 #[DZ fn 1 0, DZ fn 1 1] false) (.cond (.tmp 4) (.seq (.region 2 #[DZ fn 2 0] false) .ret) .skip)) (.seq (.region 3 #[DZ fn 3 0, DZ fn 3 1, DZ fn 3 2, DZ fn 3 3] false) .ret)))
 nt : fn.ntmps = 8
 res : fn.results = #[.tmp 2]
 d : (DZ fn 0 0).dst = some 2 ∧ (DZ fn 1 0).dst = some 3 ∧ (DZ fn 1 1).dst = some 4 ∧ (DZ fn 2 0).dst = some 2 ∧ (DZ fn 3 0).dst = some 5 ∧ (DZ fn 3 1).dst = some 6 ∧ (DZ fn 3 2).dst = some 7 ∧ (DZ fn 3 3).dst = some 2
 g : (DZ fn 0 0).guard = none ∧ (DZ fn 1 0).guard = none ∧ (DZ fn 1 1).guard = none ∧ (DZ fn 2 0).guard = none ∧ (DZ fn 3 0).guard = none ∧ (DZ fn 3 1).guard = none ∧ (DZ fn 3 2).guard = none ∧ (DZ fn 3 3).guard = none
 o00 : (DZ fn 0 0).op = .assign (.const (.slice none 0 0))
 o10 : (DZ fn 1 0).op = .move (.tmp 0)
 o11 : (DZ fn 1 1).op = .binOp .eql T (.tmp 3) (.const (.slice none 0 0)) T
 o20 : (DZ fn 2 0).op = .assign (.const (.slice none 0 0))
 o30 : (DZ fn 3 0).op = .buildSlice T 0 #[]
 o31 : (DZ fn 3 1).op = .move (.tmp 0)
 o32 : (DZ fn 3 2).op = .call { callee := .builtin .append, args := #[.tmp 5, .tmp 6], argTypes := #[T, T] }
 o33 : (DZ fn 3 3).op = .assign (.tmp 7)
 sl : sliceAt P T = some (e, t)
 z : (zeroAt P e).isSome = true
 by1 : (P.info? e).map (fun i => decide (i.bytes ≤ 1024)) = some true
section
variable {P : Program} {g : FuncId}
variable {fn : Func} {T e : TypeId} {t : Ty}
end
end Go.Pev
end
section
namespace Go.Pev
set_option maxRecDepth 100000
noncomputable section
attribute [local irreducible] KQ H0 Lr Jk ASe ASf ASg Na Pn TC VP RE AQ many IntKind.wrap AM Ak AS A8 Cv DE KU AG CR Cy imax AT Ah
abbrev U0 : Ty := (.int .i64)
abbrev U1 := (List Int)
abbrev U2 := (Int × Int × Int × Bool × Unit)
abbrev U3 : Ty := (.slice (.prod U0 (.prod U0 (.prod U0 (.prod .bool .unit)))))
abbrev U4 : Ty := (.slice U0)
abbrev U5 := (Int × Int × Unit)
abbrev U6 := (List Int × Int × Int × Int × Unit)
abbrev U7 := (List U1 × Int × Int × Int × Unit)
abbrev U8 := (Int × Unit)
abbrev U9 : Ty := (.prod U0 (.prod U0 .unit))
abbrev Ua := (List Int × Unit)
abbrev Ub := (List U1 × Int × Int × Unit)
abbrev Uc : Ty := (.slice U4)
abbrev Ud := (List Int × Int × Int × Unit)
abbrev Ue := (Int × (List U1) × Unit)
abbrev Uf := (List U1 × Int × Int × Int × Int × Unit)
abbrev Ug := (List Int × Int × Int × Int × Int × Unit)
abbrev Uh := (Bool × Unit)
abbrev Ui := (List U1 × Unit)
abbrev Uj : Ty := (.prod U0 (.prod Uc .unit))
abbrev Uk := (Int × (List U2) × Unit)
abbrev Ul : Ty := (.prod U0 (.prod U3 .unit))
abbrev Um := (List Int × Int × Int × Int × Int × Int × Unit)
abbrev Un := (List Int × Int × Unit)
abbrev Uo := (List U1 × Int × Int × Int × Int × Int × Unit)
abbrev Up := (Int × List U1 × List Bool × Int × Int × Int × List Int × Int × List Int × Int × Bool × Int × List Int × Bool × Bool × List Int × List Int × List U1 × List Int × List U1 × Bool × Bool × List Int × Int × Int × Bool × Unit)
abbrev Uq := (Int × List U1 × List (Int × Int) × Int × List U1 × Int × Int × List Int × Int × Int × Bool × List Int × Bool × Bool × List Int × Int × List Int × Int × Bool × Int × List Int × Bool × Bool × List Int × Int × Int × Unit)
abbrev Ur := (Int × List Int × Int × List Int × Int × Bool × Bool × Bool × Bool × Int × Int × Bool × Int × Int × Int × Int × Int × Bool × Int × Int × Int × Int × Int × Int × Int × Int × Int × Bool × Unit)
abbrev Us := (List Int × Int × Int × Int × Bool × Bool × Unit)
abbrev Ut := (Int × Int)
abbrev Uu := (Int × List U1 × Int × Unit)
abbrev Uv := (List U5 × Unit)
abbrev Uw := (Int × List U2 × Int × Int × Int × List U1 × Int × List U1 × List U5 × List U5 × Int × Bool × Int × Unit)
abbrev Ux : Ty := (.slice U9)
abbrev Uy := (List Int × List Int × Unit)
abbrev Uz := (List U1 × Int × Unit)
abbrev V0 := (Ue × Int × Unit)
abbrev V1 := (Int × List U2 × Int × Int × Int × List U1 × Int × List U1 × List U5 × List U5 × Int × Unit)
abbrev V2 := (List Int × Bool × Unit)
abbrev V3 : Ty := (.prod U0 (.prod U0 (.prod U0 (.prod .bool .unit))))
abbrev V4 := (Int × List Int × Unit)
abbrev V5 := (U7 ⊕ U7 ⊕ Unit)
abbrev V6 := (U6 ⊕ U6 ⊕ Unit)
abbrev V7 := (List Int × List U1 × Int × List U1 × Int × List U1 × List U1 × Int × Int × Unit)
abbrev V8 := (Int × List U5 × List Int × Bool × Unit)
abbrev V9 := (Int × List U2 × List U5 × Int × Unit)
abbrev Va := (Int × List U1 × List U5 × Int × Unit)
abbrev Xo : AE := [(.tmp 0, .dat U4), (.tmp 1, .dat U4)]
abbrev Xn : AE := [(.tmp 0, .dat .bool)]
abbrev Xm : List RS := [.one]
abbrev ABR : AE := [(.tmp 0, .dat U4), (.tmp 1, .dat U4), (.tmp 5, .di)]
abbrev ABQ : Az := [(.ret, [(.tmp 4, .dat .bool)]), (.exit 0, [])]
def EB [Lk] : (List Int × List Int × Int × Unit) → Option ((List Int × List Int × Int × Unit) ⊕ Uh ⊕ (Unit) ⊕ Unit) := fun (a0, a1, a2, _) =>
 match (ilt a2 (AM a0)) with
 | true => match idx a0 a2 with
  | none => none
  | some x0 => match idx a1 a2 with
  | none => none
  | some x1 => match (!(ieq x0 x1)) with
  | true => some (.inr (.inl (false, ())))
  | false => some (.inl (a0, a1, (IntKind.wrap .i64 (a2 + 1)), ()))
 | false => some (.inr (.inr (.inl ())))
def Nx [Lk] : Uy → Option (Uh) := fun (a0, a1, _) =>
 match (!(ieq (AM a0) (AM a1))) with
 | true => some (false, ())
 | false => match AY EB many (a0, a1, 0, ()) with
 | none => none
 | some r => match r with
 | .inl (o0, _) => some (o0, ())
 | .inr r => match r with
 | .inl _ => some (true, ())
 | .inr _ => none
def KJ [Lk] := fun v => Lk.f (Nx v)
theorem ABS v : KJ v = Nx v := AJ _
abbrev UQ : AE := [(.tmp 0, .di)]
abbrev UP : AE := [(.tmp 0, .dat .bool)]
abbrev UO : List RS := [.one]
def NQ [Lk] : U8 → Option (Uh) := fun (a0, _) =>
 match (ile 1 a0) with
 | true => some ((ile a0 64), ())
 | false => some (false, ())
def Jh [Lk] := fun v => Lk.f (NQ v)
theorem AAb v : Jh v = NQ v := AJ _
abbrev AT5 : AE := [(.tmp 0, .di), (.tmp 1, .di)]
abbrev AT4 : AE := [(.tmp 0, .dat .bool)]
abbrev AT3 : List RS := [.one]
def AO6 [Lk] : U5 → Option (Uh) := fun (a0, a1, _) =>
 match Jh (a0, ()) with
 | none => none
 | some (y0, _) => match y0 with
 | true => match (ile 0 a1) with
  | true => some ((ilt a1 a0), ())
  | false => some (false, ())
 | false => some (false, ())
def tin [Lk] := fun v => Lk.f (AO6 v)
theorem AT6 v : tin v = AO6 v := AJ _
abbrev AKr : AE := [(.tmp 0, .di), (.tmp 1, .di), (.tmp 2, .di)]
abbrev AKq : AE := [(.tmp 0, .di)]
abbrev AKp : List RS := [.one]
def ACi [Lk] : (Int × Int × Int × Unit) → Option (U8) := fun (a0, a1, a2, _) =>
 match (ieq a1 a2) with
 | true => some ((-1 : Int), ())
 | false => match tin (a0, a1, ()) with
 | none => none
 | some (y0, _) => match (!y0) with
 | true => some ((-1 : Int), ())
 | false => match tin (a0, a2, ()) with
 | none => none
 | some (y1, _) => match (!y1) with
 | true => some ((-1 : Int), ())
 | false => some ((IntKind.wrap .i64 ((IntKind.wrap .i64 (a0 * (IntKind.wrap .i64 (a1 + 1)))) + a2)), ())
def AQw [Lk] := fun v => Lk.f (ACi v)
theorem AO7 v : AQw v = ACi v := AJ _
abbrev UM : AE := [(.tmp 0, .di), (.tmp 1, .di)]
abbrev UL : AE := [(.tmp 0, .di), (.tmp 1, .di), (.tmp 2, .dat .bool), (.tmp 3, .dat .bool)]
abbrev UK : List RS := [.one, .one, .one, .one]
def NP [Lk] : U5 → Option ((Int × Int × Bool × Bool × Unit)) := fun (a0, a1, _) =>
 match Jh (a0, ()) with
 | none => none
 | some (y0, _) => match (!y0) with
 | true => some (0, 0, false, false, ())
 | false => match (ilt a1 0) with
 | true => some (0, 0, false, false, ())
 | false => match (ile (IntKind.wrap .i64 (a0 * (IntKind.wrap .i64 (a0 + 1)))) a1) with
 | true => some (0, 0, false, false, ())
 | false => match (ilt a1 a0) with
 | true => some (a1, 0, false, true, ())
 | false => match quo? .i64 a1 a0 with
 | none => none
 | some x1 => match rem? a1 a0 with
 | none => none
 | some x2 => match (ieq (IntKind.wrap .i64 (x1 - 1)) x2) with
 | true => some (0, 0, false, false, ())
 | false => some ((IntKind.wrap .i64 (x1 - 1)), x2, true, true, ())
def UN [Lk] := fun v => Lk.f (NP v)
theorem AAa v : UN v = NP v := AJ _
abbrev ACb : AE := [(.tmp 0, .di)]
abbrev ACa : AE := [(.tmp 0, .di), (.tmp 1, .own 55 U4), (.tmp 2, .di)]
abbrev ACZ : List RS := [.agg 2, .one]
abbrev AGa : AE := [(.tmp 2, .box 2), (.cell 0 0, .di), (.cell 0 1, .nil U4), (.tmp 4, .box 2), (.cell 1 0, .di), (.cell 1 1, .own 55 U4), (.tmp 12, .di), (.tmp 13, .di)]
abbrev AGZ : Az := [(.exit 0, [(.tmp 2, .box 2), (.cell 0 0, .di), (.cell 0 1, .nil U4), (.tmp 4, .box 2), (.cell 1 0, .di), (.cell 1 1, .own 55 U4)])]
def Ge [Lk] : (Int × Int × List U1 × Int × Int × Unit) → Option ((Int × Int × List U1 × Int × Int × Unit) ⊕ (Int × Int × List U1 × Unit) ⊕ Unit) := fun (a0, a1, a2, a3, a4, _) =>
 match (ilt a4 a3) with
 | true => match (fits ((AM a2) + (AM ([([a4] : List (Int))] : List U1)))) with
  | true => some (.inl (a0, a1, (A8 a2 ([([a4] : List (Int))] : List U1)), a3, (IntKind.wrap .i64 (a4 + 1)), ()))
  | false => none
 | false => some (.inr (.inl (a0, a1, a2, ())))
def Tg [Lk] : U8 → Option (Uu) := fun (a0, _) =>
 match Jh (a0, ()) with
 | none => none
 | some (y0, _) => match (!y0) with
 | true => some (0, ([] : List U1), 1, ())
 | false => match AY Ge many (0, a0, ([] : List U1), a0, 0, ()) with
 | none => none
 | some r => match r with
 | .inl (o1, o2, o3, _) => some (o2, o3, 0, ())
 | .inr _ => none
def AGc [Lk] := fun v => Lk.f (Tg v)
theorem AGb v : AGc v = Tg v := AJ _
abbrev Xv : AE := [(.tmp 0, .dat U4), (.tmp 1, .di)]
abbrev Xu : AE := [(.tmp 0, .di)]
abbrev Xt : List RS := [.one]
abbrev ABU : AE := [(.tmp 0, .dat U4), (.tmp 1, .di), (.tmp 7, .di), (.tmp 8, .di)]
abbrev ABT : Az := [(.ret, [(.tmp 4, .di)]), (.exit 0, [])]
def En [Lk] : U6 → Option (U6 ⊕ U8 ⊕ (Unit) ⊕ Unit) := fun (a0, a1, a2, a3, _) =>
 match (ilt a3 a2) with
 | true => match idx a0 a3 with
  | none => none
  | some x0 => match (ieq a1 x0) with
  | true => some (.inr (.inl (a3, ())))
  | false => some (.inl (a0, a1, a2, (IntKind.wrap .i64 (a3 + 1)), ()))
 | false => some (.inr (.inr (.inl ())))
def N1 [Lk] : Un → Option (U8) := fun (a0, a1, _) =>
 match AY En many (a0, a1, (AM a0), 0, ()) with
 | none => none
 | some r => match r with
 | .inl (o0, _) => some (o0, ())
 | .inr r => match r with
 | .inl _ => some ((-1 : Int), ())
 | .inr _ => none
def Mn [Lk] := fun v => Lk.f (N1 v)
theorem ABV v : Mn v = N1 v := AJ _
abbrev KX : AE := [(.tmp 0, .dat U4), (.tmp 1, .di)]
abbrev KW : AE := [(.tmp 0, .dat .bool)]
abbrev KV : List RS := [.one]
def Hh [Lk] : Un → Option (Uh) := fun (a0, a1, _) =>
 match Mn (a0, a1, ()) with
 | none => none
 | some (y0, _) => some ((ile 0 y0), ())
def Ez [Lk] := fun v => Lk.f (Hh v)
theorem OM v : Ez v = Hh v := AJ _
abbrev AMn : AE := [(.tmp 0, .dat U4)]
abbrev AMm : AE := [(.tmp 0, .di)]
abbrev AMl : List RS := [.one]
abbrev APf : AE := [(.tmp 0, .dat U4), (.tmp 3, .di), (.tmp 4, .di)]
abbrev APe : Az := [(.exit 0, [(.tmp 3, .di)])]
def I2 [Lk] : Ud → Option (Ud ⊕ U8 ⊕ Unit) := fun (a0, a1, a2, _) =>
 match (ilt a2 (AM a0)) with
 | true => match idx a0 a2 with
  | none => none
  | some x0 => some (.inl (a0, (Cy a1 x0), (IntKind.wrap .i64 (a2 + 1)), ()))
 | false => some (.inr (.inl (a1, ())))
def AD3 [Lk] : Ua → Option (U8) := fun (a0, _) =>
 match (ilt (AM a0) 1) with
 | true => none
 | false => match idx a0 0 with
 | none => none
 | some x0 => match AY I2 many (a0, x0, 1, ()) with
 | none => none
 | some r => match r with
 | .inl (o1, _) => some (o1, ())
 | .inr _ => none
def ARu [Lk] := fun v => Lk.f (AD3 v)
theorem APg v : ARu v = AD3 v := AJ _
abbrev AE1 : AE := [(.tmp 0, .nil U0), (.tmp 1, .di)]
abbrev AE0 : AE := [(.tmp 0, .own 3 U0)]
abbrev AEz : List RS := [.one]
def T1 [Lk] : U8 → Option (Ua) := fun (a0, _) =>
 match (ilt a0 0) with
 | true => none
 | false => match (ilt 0 (IntKind.wrap .i64 (a0 - (IntKind.wrap .i64 (0 - 0))))) with
 | true => match DY ([] : List Unit) 0 0 with
  | none => none
  | some _u0 => match (L3 (IntKind.wrap .i64 (a0 - (IntKind.wrap .i64 (0 - 0))))) with
  | true => match DY (KU (AG (IntKind.wrap .i64 (a0 - (IntKind.wrap .i64 ((0 : Int) - (0 : Int)))))) (0 : Int)) (0 : Int) (0 : Int) with
   | none => none
   | some x1 => some ((Cv (AG (AM x1)) (KU (AG (IntKind.wrap .i64 (a0 - (IntKind.wrap .i64 ((0 : Int) - (0 : Int)))))) (0 : Int))), ())
  | false => none
 | false => some (([] : List (Int)), ())
def AJM [Lk] := fun v => Lk.f (T1 v)
theorem AJL v : AJM v = T1 v := AJ _
abbrev RD : AE := [(.tmp 0, .dat Uc)]
abbrev RC : AE := [(.tmp 0, .own 3 U0)]
abbrev RB : List RS := [.one]
abbrev Yd : AE := [(.tmp 6, .own 3 U0), (.tmp 25, .dat Uc), (.tmp 26, .di), (.tmp 27, .di)]
abbrev Yb : Az := [(.exit 2, [(.tmp 6, .own 3 U0)])]
def Dw [Lk] : (List Int × List U1 × Int × Int × Unit) → Option ((List Int × List U1 × Int × Int × Unit) ⊕ Ua ⊕ Unit) := fun (a0, a1, a2, a3, _) =>
 match (ilt a3 a2) with
 | true => match idx a1 a3 with
  | none => none
  | some x0 => match (fits ((AM a0) + (AM x0))) with
  | true => some (.inl ((A8 a0 x0), a1, a2, (IntKind.wrap .i64 (a3 + 1)), ()))
  | false => none
 | false => some (.inr (.inl (a0, ())))
abbrev Ye : AE := [(.tmp 0, .dat Uc), (.tmp 3, .di), (.tmp 9, .dat Uc), (.tmp 10, .di), (.tmp 11, .di)]
abbrev Yc : Az := [(.exit 0, [(.tmp 0, .dat Uc), (.tmp 3, .di)])]
def Dx [Lk] : (List U1 × Int × List U1 × Int × Int × Unit) → Option ((List U1 × Int × List U1 × Int × Int × Unit) ⊕ Uz ⊕ Unit) := fun (a0, a1, a2, a3, a4, _) =>
 match (ilt a4 a3) with
 | true => match idx a2 a4 with
  | none => none
  | some x0 => match (ilt (IntKind.wrap .i64 (a1 + (AM x0))) 0) with
  | true => none
  | false => some (.inl (a0, (IntKind.wrap .i64 (a1 + (AM x0))), a2, a3, (IntKind.wrap .i64 (a4 + 1)), ()))
 | false => some (.inr (.inl (a0, a1, ())))
def La [Lk] : Ui → Option (Ua) := fun (a0, _) =>
 match AY Dx many (a0, 0, a0, (AM a0), 0, ()) with
 | none => none
 | some r => match r with
 | .inl (o0, o1, _) => match AJM (o1, ()) with
  | none => none
  | some (y2, _) => match AY Dw many (y2, o0, (AM o0), 0, ()) with
  | none => none
  | some r => match r with
  | .inl (o3, _) => some (o3, ())
  | .inr _ => none
 | .inr _ => none
def Hi [Lk] := fun v => Lk.f (La v)
theorem Yf v : Hi v = La v := AJ _
abbrev Gx : AE := [(.tmp 0, .dat U4), (.tmp 1, .clo 195 [])]
abbrev Gw : AE := [(.tmp 0, .di)]
abbrev Gv : List RS := [.one]
abbrev Ja : AE := [(.tmp 0, .dat U4), (.tmp 1, .clo 195 []), (.tmp 7, .di), (.tmp 8, .di)]
abbrev JZ : Az := [(.ret, [(.tmp 4, .di)]), (.exit 0, [])]
def Bv [Lk] : Ud → Option (Ud ⊕ U8 ⊕ (Unit) ⊕ Unit) := fun (a0, a1, a2, _) =>
 match (ilt a2 a1) with
 | true => match idx a0 a2 with
  | none => none
  | some x0 => match (ilt x0 0) with
  | true => some (.inr (.inl (a2, ())))
  | false => match (ilt 10000 x0) with
  | true => some (.inr (.inl (a2, ())))
  | false => some (.inl (a0, a1, (IntKind.wrap .i64 (a2 + 1)), ()))
 | false => some (.inr (.inr (.inl ())))
def EV [Lk] : Ua → Option (U8) := fun (a0, _) =>
 match AY Bv many (a0, (AM a0), 0, ()) with
 | none => none
 | some r => match r with
 | .inl (o0, _) => some (o0, ())
 | .inr r => match r with
 | .inl _ => some ((-1 : Int), ())
 | .inr _ => none
def F9 [Lk] := fun v => Lk.f (EV v)
theorem Jb v : F9 v = EV v := AJ _
abbrev Ft : AE := [(.tmp 0, .dat U4), (.tmp 1, .clo 195 [])]
abbrev Fs : AE := [(.tmp 0, .dat .bool)]
abbrev Fq : List RS := [.one]
def Dk [Lk] : Ua → Option (Uh) := fun (a0, _) =>
 match F9 (a0, ()) with
 | none => none
 | some (y0, _) => some ((ile 0 y0), ())
def Dc [Lk] := fun v => Lk.f (Dk v)
theorem IU v : Dc v = Dk v := AJ _
abbrev AMV : AE := [(.tmp 0, .dat U4)]
abbrev AMU : AE := [(.tmp 0, .dat .bool)]
abbrev AMT : List RS := [.one]
abbrev APW : AE := [(.tmp 0, .dat U4), (.tmp 3, .map U0 U0), (.tmp 7, .dat U4), (.tmp 8, .di), (.tmp 9, .di)]
abbrev APV : Az := [(.exit 0, [(.tmp 0, .dat U4), (.tmp 3, .map U0 U0)])]
def Iy [Lk] : (List Int × List Ut × List Int × Int × Int × Unit) → Option ((List Int × List Ut × List Int × Int × Int × Unit) ⊕ (List Int × List Ut × Unit) ⊕ Unit) := fun (a0, a1, a2, a3, a4, _) =>
 match (ilt a4 a3) with
 | true => match idx a2 a4 with
  | none => none
  | some x0 => some (.inl (a0, (Ah a1 x0 (IntKind.wrap .i64 (((AT a1 x0).getD 0) + 1))), a2, a3, (IntKind.wrap .i64 (a4 + 1)), ()))
 | false => some (.inr (.inl (a0, a1, ())))
def ADv [Lk] : Ua → Option (Uh) := fun (a0, _) =>
 match AY Iy many (a0, ([] : List Ut), a0, (AM a0), 0, ()) with
 | none => none
 | some r => match r with
 | .inl (o0, o1, _) => some ((ieq (AM o1) (AM o0)), ())
 | .inr _ => none
def once [Lk] := fun v => Lk.f (ADv v)
theorem APX v : once v = ADv v := AJ _
abbrev VU : AE := [(.tmp 0, .dat U4)]
abbrev VT : AE := [(.tmp 0, .dat .bool)]
abbrev VS : List RS := [.one]
def NV [Lk] : Ua → Option (Uh) := fun (a0, _) =>
 match (ilt 1000 (AM a0)) with
 | true => some (false, ())
 | false => match Dc (a0, ()) with
 | none => none
 | some (y0, _) => match (!y0) with
 | true => match once (a0, ()) with
  | none => none
  | some (y1, _) => some (y1, ())
 | false => some (false, ())
def MN [Lk] := fun v => Lk.f (NV v)
theorem AAy v : MN v = NV v := AJ _
abbrev UJ : AE := [(.tmp 0, .dat U4), (.tmp 1, .di)]
abbrev UI : AE := [(.tmp 0, .own 3 U0)]
abbrev UH : List RS := [.one]
def NO [Lk] : Un → Option (Ua) := fun (a0, a1, _) =>
 match DY a0 a1 (AM a0) with
 | none => none
 | some x0 => match DY a0 0 a1 with
 | none => none
 | some x1 => match Hi (([x0, x1] : List U1), ()) with
 | none => none
 | some (y2, _) => some (y2, ())
def PK [Lk] := fun v => Lk.f (NO v)
theorem AAZ v : PK v = NO v := AJ _
abbrev WG : AE := [(.tmp 0, .dat U4), (.tmp 1, .dat U4)]
abbrev WE : AE := [(.tmp 0, .own 3 U0), (.tmp 1, .dat .bool)]
abbrev WD : List RS := [.one, .one]
abbrev AA7 : AE := [(.tmp 0, .dat U4), (.tmp 6, .own 3 U0), (.tmp 12, .dat U4), (.tmp 13, .di), (.tmp 14, .di)]
abbrev AA6 : Az := [(.exit 0, [(.tmp 6, .own 3 U0)])]
def D5 [Lk] : (List Int × List Int × List Int × Int × Int × Unit) → Option ((List Int × List Int × List Int × Int × Int × Unit) ⊕ Ua ⊕ Unit) := fun (a0, a1, a2, a3, a4, _) =>
 match (ilt a4 a3) with
 | true => match idx a2 a4 with
  | none => none
  | some x0 => match Mn (a0, x0, ()) with
  | none => none
  | some (y1, _) => match (fits ((AM a1) + (AM ([y1] : List (Int))))) with
  | true => some (.inl (a0, (A8 a1 ([y1] : List (Int))), a2, a3, (IntKind.wrap .i64 (a4 + 1)), ()))
  | false => none
 | false => some (.inr (.inl (a1, ())))
def Nb [Lk] : Uy → Option (V2) := fun (a0, a1, _) =>
 match MN (a0, ()) with
 | none => none
 | some (y0, _) => match (!y0) with
 | true => some (([] : List (Int)), false, ())
 | false => match AY D5 many (a0, ([] : List (Int)), a1, (AM a1), 0, ()) with
 | none => none
 | some r => match r with
 | .inl (o1, _) => match Ez (o1, (-1 : Int), ()) with
  | none => none
  | some (y2, _) => some (o1, (!y2), ())
 | .inr _ => none
def ADP [Lk] := fun v => Lk.f (Nb v)
theorem AA8 v : ADP v = Nb v := AJ _
abbrev ADD : AE := [(.tmp 0, .dat U4), (.tmp 1, .di)]
abbrev ADC : AE := [(.tmp 0, .own 3 U0), (.tmp 1, .dat .bool)]
abbrev ADB : List RS := [.one, .one]
def Tl [Lk] : Un → Option (V2) := fun (a0, a1, _) =>
 match ADP (a0, ([a1] : List (Int)), ()) with
 | none => none
 | some (y0, y1, _) => match (!y1) with
 | true => some (([] : List (Int)), false, ())
 | false => match idx y0 0 with
 | none => none
 | some x2 => match PK (a0, (AS y0 0 0), ()) with
 | none => none
 | some (y3, _) => some (y3, true, ())
def AA1 [Lk] := fun v => Lk.f (Tl v)
theorem AG6 v : AA1 v = Tl v := AJ _
abbrev VX : AE := [(.tmp 0, .dat U4)]
abbrev VW : AE := [(.tmp 0, .own 3 U0)]
abbrev VV : List RS := [.one]
def NW [Lk] : Ua → Option (Ua) := fun (a0, _) =>
 match MN (a0, ()) with
 | none => none
 | some (y0, _) => match (!y0) with
 | true => some (([] : List (Int)), ())
 | false => match (ieq (AM a0) 0) with
 | true => some (([] : List (Int)), ())
 | false => match ARu (a0, ()) with
 | none => none
 | some (y1, _) => match Mn (a0, y1, ()) with
 | none => none
 | some (y2, _) => match PK (a0, y2, ()) with
 | none => none
 | some (y3, _) => some (y3, ())
def VY [Lk] := fun v => Lk.f (NW v)
theorem AAz v : VY v = NW v := AJ _
abbrev Er : AE := [(.tmp 0, .dat Uc), (.cap 1 0, .box 1), (.cell 0 0, .di), (.tmp 1, .clo 180 [(0, 0)])]
abbrev Ep : AE := [(.obj 0, .box 1), (.cell 0 0, .di), (.tmp 0, .di)]
abbrev Eo : List RS := [.one]
abbrev HX : AE := [(.obj 0, .box 1), (.cell 0 0, .di), (.tmp 0, .dat Uc), (.tmp 1, .clo 180 [(0, 0)]), (.tmp 7, .di), (.tmp 8, .di)]
abbrev HW : Az := [(.ret, [(.obj 0, .box 1), (.cell 0 0, .di), (.tmp 4, .di)]), (.exit 0, [(.obj 0, .box 1), (.cell 0 0, .di)])]
def BW [Lk] : (Int × List U1 × Int × Int × Unit) → Option ((Int × List U1 × Int × Int × Unit) ⊕ U5 ⊕ U8 ⊕ Unit) := fun (a0, a1, a2, a3, _) =>
 match (ilt a3 a2) with
 | true => match idx a1 a3 with
  | none => none
  | some x0 => match Ez (x0, a0, ()) with
  | none => none
  | some (y1, _) => match y1 with
  | true => some (.inr (.inl (a0, a3, ())))
  | false => some (.inl (a0, a1, a2, (IntKind.wrap .i64 (a3 + 1)), ()))
 | false => some (.inr (.inr (.inl (a0, ()))))
def DO [Lk] : Uz → Option (U5) := fun (a0, a1, _) =>
 match AY BW many (a1, a0, (AM a0), 0, ()) with
 | none => none
 | some r => match r with
 | .inl (o0, o1, _) => some (o0, o1, ())
 | .inr r => match r with
 | .inl (o2, _) => some (o2, (-1 : Int), ())
 | .inr _ => none
def ET [Lk] := fun v => Lk.f (DO v)
theorem HY v : ET v = DO v := AJ _
abbrev VF : AE := [(.tmp 0, .dat Uj), (.tmp 1, .di)]
abbrev VE : AE := [(.tmp 0, .di)]
abbrev VD : List RS := [.one]
def NT [Lk] : V0 → Option (U8) := fun (a0, a1, _) =>
 match ET (a0.2.1, a1, ()) with
 | none => none
 | some (y0, y1, _) => some (y1, ())
def PO [Lk] := fun v => Lk.f (NT v)
theorem AAq v : PO v = NT v := AJ _
abbrev ANo : AE := [(.tmp 0, .di), (.tmp 1, .dat U4)]
abbrev ANn : AE := [(.tmp 0, .dat .bool)]
abbrev ANm : List RS := [.one]
abbrev AP0 : AE := [(.tmp 0, .di), (.tmp 5, .box 3), (.cell 0 0, .own 3 U0), (.cell 0 1, .map U0 U0), (.cell 0 2, .map U0 U0), (.tmp 30, .dat U4), (.tmp 31, .di), (.tmp 32, .di)]
abbrev APz : Az := [(.ret, [(.tmp 4, .dat .bool)]), (.exit 0, [(.tmp 5, .box 3), (.cell 0 0, .own 3 U0), (.cell 0 1, .map U0 U0), (.cell 0 2, .map U0 U0)])]
def Hc [Lk] : (Int × List Int × List Ut × List Ut × List Int × Int × Int × Unit) → Option ((Int × List Int × List Ut × List Ut × List Int × Int × Int × Unit) ⊕ Uh ⊕ (List Int × List Ut × List Ut × Unit) ⊕ Unit) := fun (a0, a1, a2, a3, a4, a5, a6, _) =>
 match (ilt a6 a5) with
 | true => match idx a4 a6 with
  | none => none
  | some x0 => match UN (a0, x0, ()) with
  | none => none
  | some (y1, y2, y3, y4, _) => match (!y4) with
  | true => some (.inr (.inl (false, ())))
  | false => match y3 with
  | true => match idx a1 (IntKind.wrap .i64 ((AM a1) - 1)) with
   | none => none
   | some x5 => match (!(ieq (AS a1 (AG (IntKind.wrap .i64 ((AM a1) - 1))) 0) y1)) with
   | true => some (.inr (.inl (false, ())))
   | false => match (ilt 0 (IntKind.wrap .i64 ((AM a1) - 1))) with
   | true => match idx a1 (IntKind.wrap .i64 ((IntKind.wrap .i64 ((AM a1) - 1)) - 1)) with
    | none => none
    | some x6 => match (ieq (AS a1 (AG (IntKind.wrap .i64 ((IntKind.wrap .i64 ((AM a1) - 1)) - 1))) 0) y2) with
    | true => match DY a1 0 (IntKind.wrap .i64 ((AM a1) - 1)) with
     | none => none
     | some x7 => match (!y3) with
     | true => match idx (DE 0 (AG (AM x7)) a1) (IntKind.wrap .i64 ((((AG (AM x7)) : Nat) : Int) - 1)) with
      | none => none
      | some x8 => match (!(ieq (AS a1 (0 + (AG (IntKind.wrap .i64 ((((AG (AM x7)) : Nat) : Int) - 1)))) 0) y1)) with
      | true => some (.inr (.inl (false, ())))
      | false => match (!y3) with
      | true => some (.inl (a0, (Cv (AG (AM x7)) a1), a2, (Ah a3 y1 (IntKind.wrap .i64 (((AT a3 y1).getD 0) + 1))), a4, a5, (IntKind.wrap .i64 (a6 + 1)), ()))
      | false => some (.inl (a0, (Cv (AG (AM x7)) a1), a2, a3, a4, a5, (IntKind.wrap .i64 (a6 + 1)), ()))
     | false => match (!y3) with
     | true => some (.inl (a0, (Cv (AG (AM x7)) a1), a2, (Ah a3 y1 (IntKind.wrap .i64 (((AT a3 y1).getD 0) + 1))), a4, a5, (IntKind.wrap .i64 (a6 + 1)), ()))
     | false => some (.inl (a0, (Cv (AG (AM x7)) a1), a2, a3, a4, a5, (IntKind.wrap .i64 (a6 + 1)), ()))
    | false => match (ilt 0 ((AT a2 y2).getD 0)) with
    | true => some (.inr (.inl (false, ())))
    | false => match (fits ((AM a1) + (AM ([y2] : List (Int))))) with
    | true => match (!y3) with
     | true => match idx (A8 a1 ([y2] : List (Int))) (IntKind.wrap .i64 ((AM (A8 a1 ([y2] : List (Int)))) - 1)) with
      | none => none
      | some x9 => match (!(ieq (AS (A8 a1 ([y2] : List (Int))) (AG (IntKind.wrap .i64 ((AM (A8 a1 ([y2] : List (Int)))) - 1))) 0) y1)) with
      | true => some (.inr (.inl (false, ())))
      | false => match (!y3) with
      | true => some (.inl (a0, (A8 a1 ([y2] : List (Int))), (Ah a2 y2 (IntKind.wrap .i64 (((AT a2 y2).getD 0) + 1))), (Ah a3 y1 (IntKind.wrap .i64 (((AT a3 y1).getD 0) + 1))), a4, a5, (IntKind.wrap .i64 (a6 + 1)), ()))
      | false => some (.inl (a0, (A8 a1 ([y2] : List (Int))), (Ah a2 y2 (IntKind.wrap .i64 (((AT a2 y2).getD 0) + 1))), a3, a4, a5, (IntKind.wrap .i64 (a6 + 1)), ()))
     | false => match (!y3) with
     | true => some (.inl (a0, (A8 a1 ([y2] : List (Int))), (Ah a2 y2 (IntKind.wrap .i64 (((AT a2 y2).getD 0) + 1))), (Ah a3 y1 (IntKind.wrap .i64 (((AT a3 y1).getD 0) + 1))), a4, a5, (IntKind.wrap .i64 (a6 + 1)), ()))
     | false => some (.inl (a0, (A8 a1 ([y2] : List (Int))), (Ah a2 y2 (IntKind.wrap .i64 (((AT a2 y2).getD 0) + 1))), a3, a4, a5, (IntKind.wrap .i64 (a6 + 1)), ()))
    | false => none
   | false => match (ilt 0 ((AT a2 y2).getD 0)) with
   | true => some (.inr (.inl (false, ())))
   | false => match (fits ((AM a1) + (AM ([y2] : List (Int))))) with
   | true => match (!y3) with
    | true => match idx (A8 a1 ([y2] : List (Int))) (IntKind.wrap .i64 ((AM (A8 a1 ([y2] : List (Int)))) - 1)) with
     | none => none
     | some x10 => match (!(ieq (AS (A8 a1 ([y2] : List (Int))) (AG (IntKind.wrap .i64 ((AM (A8 a1 ([y2] : List (Int)))) - 1))) 0) y1)) with
     | true => some (.inr (.inl (false, ())))
     | false => match (!y3) with
     | true => some (.inl (a0, (A8 a1 ([y2] : List (Int))), (Ah a2 y2 (IntKind.wrap .i64 (((AT a2 y2).getD 0) + 1))), (Ah a3 y1 (IntKind.wrap .i64 (((AT a3 y1).getD 0) + 1))), a4, a5, (IntKind.wrap .i64 (a6 + 1)), ()))
     | false => some (.inl (a0, (A8 a1 ([y2] : List (Int))), (Ah a2 y2 (IntKind.wrap .i64 (((AT a2 y2).getD 0) + 1))), a3, a4, a5, (IntKind.wrap .i64 (a6 + 1)), ()))
    | false => match (!y3) with
    | true => some (.inl (a0, (A8 a1 ([y2] : List (Int))), (Ah a2 y2 (IntKind.wrap .i64 (((AT a2 y2).getD 0) + 1))), (Ah a3 y1 (IntKind.wrap .i64 (((AT a3 y1).getD 0) + 1))), a4, a5, (IntKind.wrap .i64 (a6 + 1)), ()))
    | false => some (.inl (a0, (A8 a1 ([y2] : List (Int))), (Ah a2 y2 (IntKind.wrap .i64 (((AT a2 y2).getD 0) + 1))), a3, a4, a5, (IntKind.wrap .i64 (a6 + 1)), ()))
   | false => none
  | false => match (!y3) with
  | true => match idx a1 (IntKind.wrap .i64 ((AM a1) - 1)) with
   | none => none
   | some x11 => match (!(ieq (AS a1 (AG (IntKind.wrap .i64 ((AM a1) - 1))) 0) y1)) with
   | true => some (.inr (.inl (false, ())))
   | false => match (!y3) with
   | true => some (.inl (a0, a1, a2, (Ah a3 y1 (IntKind.wrap .i64 (((AT a3 y1).getD 0) + 1))), a4, a5, (IntKind.wrap .i64 (a6 + 1)), ()))
   | false => some (.inl (a0, a1, a2, a3, a4, a5, (IntKind.wrap .i64 (a6 + 1)), ()))
  | false => match (!y3) with
  | true => some (.inl (a0, a1, a2, (Ah a3 y1 (IntKind.wrap .i64 (((AT a3 y1).getD 0) + 1))), a4, a5, (IntKind.wrap .i64 (a6 + 1)), ()))
  | false => some (.inl (a0, a1, a2, a3, a4, a5, (IntKind.wrap .i64 (a6 + 1)), ()))
 | false => some (.inr (.inr (.inl (a1, a2, a3, ()))))
def AE3 [Lk] : V4 → Option (Uh) := fun (a0, a1, _) =>
 match idx a1 0 with
 | none => none
 | some x0 => match tin (a0, x0, ()) with
 | none => none
 | some (y1, _) => match (!y1) with
 | true => some (false, ())
 | false => match idx a1 0 with
 | none => none
 | some x2 => match idx a1 0 with
 | none => none
 | some x3 => match AY Hc many (a0, ([x2] : List (Int)), (Ah ([] : List Ut) x3 1), ([] : List Ut), a1, (AM a1), 0, ()) with
 | none => none
 | some r => match r with
 | .inl (o4, _) => some (o4, ())
 | .inr r => match r with
 | .inl (o5, o6, o7, _) => match (ieq (AM o5) 1) with
  | true => some ((ieq (AM o7) (AM o6)), ())
  | false => some (false, ())
 | .inr _ => none
def AWH [Lk] := fun v => Lk.f (AE3 v)
theorem AP1 v : AWH v = AE3 v := AJ _
abbrev UY : AE := [(.tmp 0, .dat Uj)]
abbrev UX : AE := [(.tmp 0, .dat .bool)]
abbrev UW : List RS := [.one]
abbrev AAf : AE := [(.tmp 3, .map U0 U0), (.tmp 78, .di), (.tmp 79, .di)]
abbrev AAc : Az := [(.ret, [(.tmp 2, .dat .bool)]), (.exit 4, [])]
def D3 [Lk] : (List Ut × Int × Int × Unit) → Option ((List Ut × Int × Int × Unit) ⊕ Uh ⊕ (Unit) ⊕ Unit) := fun (a0, a1, a2, _) =>
 match (ilt a2 a1) with
 | true => match (ieq ((AT a0 a2).getD 0) 0) with
  | true => some (.inr (.inl (false, ())))
  | false => some (.inl (a0, a1, (IntKind.wrap .i64 (a2 + 1)), ()))
 | false => some (.inr (.inr (.inl ())))
abbrev AAg : AE := [(.tmp 1, .box 2), (.cell 0 0, .di), (.cell 0 1, .dat Uc), (.tmp 3, .map U0 U0), (.tmp 4, .di), (.tmp 16, .dat Uc), (.tmp 17, .di), (.tmp 18, .di), (.tmp 26, .dat U4), (.tmp 28, .di), (.tmp 29, .di), (.tmp 30, .dat .bool), (.tmp 33, .dat U4), (.tmp 34, .dat .bool), (.tmp 35, .dat .bool), (.tmp 38, .dat U4), (.tmp 39, .di), (.tmp 40, .dat U4), (.tmp 42, .di), (.tmp 43, .dat .bool), (.tmp 46, .ptr' 0 0), (.tmp 47, .di), (.tmp 48, .dat U4), (.tmp 49, .dat .bool), (.tmp 50, .dat .bool), (.tmp 55, .dat U4), (.tmp 56, .di), (.tmp 57, .di)]
abbrev AAd : Az := [(.ret, [(.tmp 2, .dat .bool)]), (.exit 2, [(.tmp 1, .box 2), (.cell 0 0, .di), (.cell 0 1, .dat Uc), (.tmp 3, .map U0 U0), (.tmp 4, .di), (.tmp 16, .dat Uc), (.tmp 17, .di), (.tmp 18, .di), (.tmp 26, .dat U4), (.tmp 28, .di), (.tmp 29, .di), (.tmp 30, .dat .bool), (.tmp 33, .dat U4), (.tmp 34, .dat .bool), (.tmp 35, .dat .bool), (.tmp 38, .dat U4), (.tmp 39, .di), (.tmp 40, .dat U4), (.tmp 42, .di), (.tmp 43, .dat .bool), (.tmp 46, .ptr' 0 0), (.tmp 47, .di), (.tmp 48, .dat U4), (.tmp 49, .dat .bool), (.tmp 50, .dat .bool)])]
def DG [Lk] : Uq → Option (Uq ⊕ Uh ⊕ (Int × List U1 × List Ut × Int × List U1 × Int × Int × List Int × Int × Int × Bool × List Int × Bool × Bool × List Int × Int × List Int × Int × Bool × Int × List Int × Bool × Bool × Unit) ⊕ Unit) := fun (a0, a1, a2, a3, a4, a5, a6, a7, a8, a9, a10, a11, a12, a13, a14, a15, a16, a17, a18, a19, a20, a21, a22, a23, a24, a25, _) =>
 match (ilt a25 a24) with
 | true => match idx a23 a25 with
  | none => none
  | some x0 => match (ilt x0 a0) with
  | true => match (ilt 0 ((AT a2 x0).getD 0)) with
   | true => some (.inr (.inl (false, ())))
   | false => some (.inl (a0, a1, (Ah a2 x0 (IntKind.wrap .i64 (((AT a2 x0).getD 0) + 1))), a3, a4, a5, a6, a7, a8, a9, a10, a11, a12, a13, a14, a15, a16, a17, a18, a19, a20, a21, a22, a23, a24, (IntKind.wrap .i64 (a25 + 1)), ()))
  | false => some (.inl (a0, a1, (Ah a2 x0 (IntKind.wrap .i64 (((AT a2 x0).getD 0) + 1))), a3, a4, a5, a6, a7, a8, a9, a10, a11, a12, a13, a14, a15, a16, a17, a18, a19, a20, a21, a22, a23, a24, (IntKind.wrap .i64 (a25 + 1)), ()))
 | false => some (.inr (.inr (.inl (a0, a1, a2, a3, a4, a5, a6, a7, a8, a9, a10, a11, a12, a13, a14, a15, a16, a17, a18, a19, a20, a21, a22, ()))))
abbrev AAh : AE := [(.tmp 1, .box 2), (.cell 0 0, .di), (.cell 0 1, .dat Uc), (.tmp 3, .map U0 U0), (.tmp 4, .di), (.tmp 16, .dat Uc), (.tmp 17, .di), (.tmp 18, .di)]
abbrev AAe : Az := [(.ret, [(.tmp 2, .dat .bool)]), (.exit 0, [(.tmp 1, .box 2), (.cell 0 0, .di), (.cell 0 1, .dat Uc), (.tmp 3, .map U0 U0)])]
def DH [Lk] : (Int × List U1 × List Ut × Int × List U1 × Int × Int × Unit) → Option ((Int × List U1 × List Ut × Int × List U1 × Int × Int × Unit) ⊕ Uh ⊕ (Int × List U1 × List Ut × Unit) ⊕ Unit) := fun (a0, a1, a2, a3, a4, a5, a6, _) =>
 match (ilt a6 a5) with
 | true => match idx a4 a6 with
  | none => none
  | some x0 => match (ieq (AM x0) 0) with
  | true => some (.inr (.inl (false, ())))
  | false => match idx x0 0 with
  | none => none
  | some x1 => match (ile x1 a3) with
  | true => some (.inr (.inl (false, ())))
  | false => match MN (x0, ()) with
  | none => none
  | some (y2, _) => match (!y2) with
  | true => some (.inr (.inl (false, ())))
  | false => match ARu (x0, ()) with
  | none => none
  | some (y3, _) => match idx x0 0 with
  | none => none
  | some x4 => match (!(ieq y3 x4)) with
  | true => some (.inr (.inl (false, ())))
  | false => match AWH (a0, x0, ()) with
  | none => none
  | some (y5, _) => match (!y5) with
  | true => some (.inr (.inl (false, ())))
  | false => match idx x0 0 with
  | none => none
  | some x6 => match AY DG many (a0, a1, a2, x6, a4, a5, a6, x0, x1, a3, (ile x1 a3), x0, y2, (!y2), x0, y3, x0, x4, (!(ieq y3 x4)), a0, x0, y5, (!y5), x0, (AM x0), 0, ()) with
  | none => none
  | some r => match r with
  | .inl (o7, _) => some (.inr (.inl (o7, ())))
  | .inr r => match r with
  | .inl (o8, o9, o10, o11, o12, o13, o14, o15, o16, o17, o18, o19, o20, o21, o22, o23, o24, o25, o26, o27, o28, o29, o30, _) => some (.inl (o8, o9, o10, o11, o12, o13, (IntKind.wrap .i64 (o14 + 1)), ()))
  | .inr _ => none
 | false => some (.inr (.inr (.inl (a0, a1, a2, ()))))
def NR [Lk] : (Ue × Unit) → Option (Uh) := fun (a0, _) =>
 match Jh (a0.1, ()) with
 | none => none
 | some (y0, _) => match (!y0) with
 | true => some (false, ())
 | false => match AY DH many (a0.1, a0.2.1, ([] : List Ut), (-1 : Int), a0.2.1, (AM a0.2.1), 0, ()) with
 | none => none
 | some r => match r with
 | .inl (o1, _) => some (o1, ())
 | .inr r => match r with
 | .inl (o2, o3, o4, _) => match AY D3 many (o4, o2, 0, ()) with
  | none => none
  | some r => match r with
  | .inl (o5, _) => some (o5, ())
  | .inr r => match r with
  | .inl _ => some (true, ())
  | .inr _ => none
 | .inr _ => none
def PM [Lk] := fun v => Lk.f (NR v)
theorem AAi v : PM v = NR v := AJ _
abbrev AFg : AE := [(.tmp 0, .dat Uj), (.tmp 1, .di), (.tmp 2, .di)]
abbrev AFf : AE := [(.tmp 0, .di)]
abbrev AFe : List RS := [.one]
def T4 [Lk] : (Ue × Int × Int × Unit) → Option (U8) := fun (a0, a1, a2, _) =>
 match PM ((a0.1, (a0.2.1, ())), ()) with
 | none => none
 | some (y0, _) => match (!y0) with
 | true => some (1, ())
 | false => match tin (a0.1, a1, ()) with
 | none => none
 | some (y1, _) => match (!y1) with
 | true => some (10, ())
 | false => match tin (a0.1, a2, ()) with
 | none => none
 | some (y2, _) => match (!y2) with
 | true => some (10, ())
 | false => some (0, ())
def asked [Lk] := fun v => Lk.f (T4 v)
theorem AKF v : asked v = T4 v := AJ _
abbrev AMi : AE := [(.tmp 0, .di)]
abbrev AMh : AE := [(.tmp 0, .dat .bool)]
abbrev AMg : List RS := [.one]
def QM [Lk] : U8 → Option (Uh) := fun (a0, _) =>
 some ((!(ieq a0 a0)), ())
def AMj [Lk] := fun v => Lk.f (QM v)
theorem Ts v : AMj v = QM v := AJ _
abbrev M6 : AE := [(.tmp 0, .di), (.tmp 1, .di)]
abbrev M5 : AE := [(.tmp 0, .di)]
abbrev M4 : List RS := [.one]
def G6 [Lk] : U5 → Option (U8) := fun (a0, a1, _) =>
 match AMj (a0, ()) with
 | none => none
 | some (y0, _) => match AMj (a1, ()) with
 | none => none
 | some (y1, _) => match y0 with
 | true => match y1 with
  | true => some (0, ())
  | false => some ((-1 : Int), ())
 | false => match y1 with
 | true => some (1, ())
 | false => match (ilt a0 a1) with
 | true => some ((-1 : Int), ())
 | false => match (ilt a1 a0) with
 | true => some (1, ())
 | false => some (0, ())
def G7 [Lk] := fun v => Lk.f (G6 v)
theorem Ka v : G7 v = G6 v := AJ _
abbrev ACA : AE := [(.tmp 0, .dat U4), (.tmp 1, .dat U4)]
abbrev AB9 : AE := [(.tmp 0, .di)]
abbrev AB8 : List RS := [.one]
def Td [Lk] : Uy → Option (U8) := fun (a0, a1, _) =>
 match idx a0 0 with
 | none => none
 | some x0 => match idx a1 0 with
 | none => none
 | some x1 => match G7 (x0, x1, ()) with
 | none => none
 | some (y2, _) => some (y2, ())
def BC [Lk] := fun v => Lk.f (Td v)
theorem AF9 v : BC v = Td v := AJ _
def Fm : List Int := [0, 1, 2, 2, 3, 3, 3, 3, 4, 4, 4, 4, 4, 4, 4, 4, 5, 5, 5, 5, 5, 5, 5, 5, 5, 5, 5, 5, 5, 5, 5, 5, 6, 6, 6, 6, 6, 6, 6, 6, 6, 6, 6, 6, 6, 6, 6, 6, 6, 6, 6, 6, 6, 6, 6, 6, 6, 6, 6, 6, 6, 6, 6, 6, 7, 7, 7, 7, 7, 7, 7, 7, 7, 7, 7, 7, 7, 7, 7, 7, 7, 7, 7, 7, 7, 7, 7, 7, 7, 7, 7, 7, 7, 7, 7, 7, 7, 7, 7, 7, 7, 7, 7, 7, 7, 7, 7, 7, 7, 7, 7, 7, 7, 7, 7, 7, 7, 7, 7, 7, 7, 7, 7, 7, 7, 7, 7, 7, 8, 8, 8, 8, 8, 8, 8, 8, 8, 8, 8, 8, 8, 8, 8, 8, 8, 8, 8, 8, 8, 8, 8, 8, 8, 8, 8, 8, 8, 8, 8, 8, 8, 8, 8, 8, 8, 8, 8, 8, 8, 8, 8, 8, 8, 8, 8, 8, 8, 8, 8, 8, 8, 8, 8, 8, 8, 8, 8, 8, 8, 8, 8, 8, 8, 8, 8, 8, 8, 8, 8, 8, 8, 8, 8, 8, 8, 8, 8, 8, 8, 8, 8, 8, 8, 8, 8, 8, 8, 8, 8, 8, 8, 8, 8, 8, 8, 8, 8, 8, 8, 8, 8, 8, 8, 8, 8, 8, 8, 8, 8, 8, 8, 8, 8, 8, 8, 8, 8, 8, 8, 8, 8, 8, 8, 8, 8, 8]
abbrev AEb : AE := [(.tmp 0, .dat (.int .u64))]
abbrev AEa : AE := [(.tmp 0, .di)]
abbrev AEZ : List RS := [.one]
def Tv [Lk] : U8 → Option (U8) := fun (a0, _) =>
 match (ile 4294967296 a0) with
 | true => match shr? .u64 a0 32 with
  | none => none
  | some x0 => match (ile 65536 x0) with
  | true => match shr? .u64 x0 16 with
   | none => none
   | some x1 => match (ile 256 x1) with
   | true => match shr? .u64 x1 8 with
    | none => none
    | some x2 => match idx Fm (IntKind.wrap .u8 x2) with
    | none => none
    | some x3 => some ((IntKind.wrap .i64 ((IntKind.wrap .i64 ((IntKind.wrap .i64 (32 + 16)) + 8)) + (IntKind.wrap .i64 x3))), ())
   | false => match idx Fm (IntKind.wrap .u8 x1) with
   | none => none
   | some x4 => some ((IntKind.wrap .i64 ((IntKind.wrap .i64 (32 + 16)) + (IntKind.wrap .i64 x4))), ())
  | false => match (ile 256 x0) with
  | true => match shr? .u64 x0 8 with
   | none => none
   | some x5 => match idx Fm (IntKind.wrap .u8 x5) with
   | none => none
   | some x6 => some ((IntKind.wrap .i64 ((IntKind.wrap .i64 (32 + 8)) + (IntKind.wrap .i64 x6))), ())
  | false => match idx Fm (IntKind.wrap .u8 x0) with
  | none => none
  | some x7 => some ((IntKind.wrap .i64 (32 + (IntKind.wrap .i64 x7))), ())
 | false => match (ile 65536 a0) with
 | true => match shr? .u64 a0 16 with
  | none => none
  | some x8 => match (ile 256 x8) with
  | true => match shr? .u64 x8 8 with
   | none => none
   | some x9 => match idx Fm (IntKind.wrap .u8 x9) with
   | none => none
   | some x10 => some ((IntKind.wrap .i64 ((IntKind.wrap .i64 ((IntKind.wrap .i64 (0 + 16)) + 8)) + (IntKind.wrap .i64 x10))), ())
  | false => match idx Fm (IntKind.wrap .u8 x8) with
  | none => none
  | some x11 => some ((IntKind.wrap .i64 ((IntKind.wrap .i64 (0 + 16)) + (IntKind.wrap .i64 x11))), ())
 | false => match (ile 256 a0) with
 | true => match shr? .u64 a0 8 with
  | none => none
  | some x12 => match idx Fm (IntKind.wrap .u8 x12) with
  | none => none
  | some x13 => some ((IntKind.wrap .i64 ((IntKind.wrap .i64 (0 + 8)) + (IntKind.wrap .i64 x13))), ())
 | false => match idx Fm (IntKind.wrap .u8 a0) with
 | none => none
 | some x14 => some ((IntKind.wrap .i64 (0 + (IntKind.wrap .i64 x14))), ())
def AIu [Lk] := fun v => Lk.f (Tv v)
theorem AIt v : AIu v = Tv v := AJ _
abbrev RN : AE := [(.tmp 0, .dat (.int .u64))]
abbrev RM : AE := [(.tmp 0, .di)]
abbrev RL : List RS := [.one]
def Ld [Lk] : U8 → Option (U8) := fun (a0, _) =>
 match AIu (a0, ()) with
 | none => none
 | some (y0, _) => some (y0, ())
def bitsLen [Lk] := fun v => Lk.f (Ld v)
theorem Yw v : bitsLen v = Ld v := AJ _
abbrev PJ : AE := [(.tmp 0, .box 1), (.cell 0 0, .dat (.int .u64))]
abbrev PI : AE := [(.obj 0, .box 1), (.cell 0 0, .dat (.int .u64)), (.tmp 0, .dat (.int .u64))]
abbrev PH : List RS := [.one]
def Kr [Lk] : U8 → Option (U5) := fun (a0, _) =>
 match shl? .u64 a0 13 with
 | none => none
 | some x0 => match shr? .u64 (IntKind.wrap .u64 ((BitVec.ofInt (IntKind.bits .u64) a0 ^^^ BitVec.ofInt (IntKind.bits .u64) x0).toNat)) 7 with
 | none => none
 | some x1 => match shl? .u64 (IntKind.wrap .u64 ((BitVec.ofInt (IntKind.bits .u64) (IntKind.wrap .u64 ((BitVec.ofInt (IntKind.bits .u64) a0 ^^^ BitVec.ofInt (IntKind.bits .u64) x0).toNat)) ^^^ BitVec.ofInt (IntKind.bits .u64) x1).toNat)) 17 with
 | none => none
 | some x2 => some ((IntKind.wrap .u64 ((BitVec.ofInt (IntKind.bits .u64) (IntKind.wrap .u64 ((BitVec.ofInt (IntKind.bits .u64) (IntKind.wrap .u64 ((BitVec.ofInt (IntKind.bits .u64) a0 ^^^ BitVec.ofInt (IntKind.bits .u64) x0).toNat)) ^^^ BitVec.ofInt (IntKind.bits .u64) x1).toNat)) ^^^ BitVec.ofInt (IntKind.bits .u64) x2).toNat)), (IntKind.wrap .u64 ((BitVec.ofInt (IntKind.bits .u64) (IntKind.wrap .u64 ((BitVec.ofInt (IntKind.bits .u64) (IntKind.wrap .u64 ((BitVec.ofInt (IntKind.bits .u64) a0 ^^^ BitVec.ofInt (IntKind.bits .u64) x0).toNat)) ^^^ BitVec.ofInt (IntKind.bits .u64) x1).toNat)) ^^^ BitVec.ofInt (IntKind.bits .u64) x2).toNat)), ())
def xorNext [Lk] := fun v => Lk.f (Kr v)
theorem UC v : xorNext v = Kr v := AJ _
abbrev QL : AE := [(.tmp 0, .di)]
abbrev QK : AE := [(.tmp 0, .dat (.int .u64))]
abbrev QJ : List RS := [.one]
def LH [Lk] : U8 → Option (U8) := fun (a0, _) =>
 match bitsLen ((IntKind.wrap .u64 a0), ()) with
 | none => none
 | some (y0, _) => match shl? .u64 1 y0 with
 | none => none
 | some x1 => some (x1, ())
def LI [Lk] := fun v => Lk.f (LH v)
theorem W8 v : LI v = LH v := AJ _
def Nz [Lk] {α : Type} (z : α) (c : α × α × Unit → Option U8) : (List α × Int × Int × Int × Int × Unit) → Option ((List α × Int × Int × Int × Int × Unit) ⊕ (List α × Int × Int × Int × Unit) ⊕ Unit) := fun (a0, a1, a2, a3, a4, _) =>
 match (ilt a1 a4) with
 | true => match idx a0 a4 with
  | none => none
  | some x0 => match idx a0 (IntKind.wrap .i64 (a4 - 1)) with
  | none => none
  | some x1 => match c ((AS a0 (AG a4) z), (AS a0 (AG (IntKind.wrap .i64 (a4 - 1))) z), ()) with
  | none => none
  | some (y2, _) => match (ilt y2 0) with
  | true => match idx a0 (IntKind.wrap .i64 (a4 - 1)) with
   | none => none
   | some x3 => match idx a0 a4 with
   | none => none
   | some x4 => match idx a0 a4 with
   | none => none
   | some x5 => match idx (Ak a0 (AG a4) (AS a0 (AG (IntKind.wrap .i64 (a4 - 1))) z)) (IntKind.wrap .i64 (a4 - 1)) with
   | none => none
   | some x6 => some (.inl ((Ak (Ak a0 (AG a4) (AS a0 (AG (IntKind.wrap .i64 (a4 - 1))) z)) (AG (IntKind.wrap .i64 (a4 - 1))) (AS a0 (AG a4) z)), a1, a2, a3, (IntKind.wrap .i64 (a4 - 1)), ()))
  | false => some (.inr (.inl (a0, a1, a2, a3, ())))
 | false => some (.inr (.inl (a0, a1, a2, a3, ())))
def N0 [Lk] {α : Type} (z : α) (c : α × α × Unit → Option U8) : (List α × Int × Int × Int × Unit) → Option ((List α × Int × Int × Int × Unit) ⊕ (List α × Unit) ⊕ Unit) := fun (a0, a1, a2, a3, _) =>
 match (ilt a3 a2) with
 | true => match AY (Nz z c) many (a0, a1, a2, a3, a3, ()) with
  | none => none
  | some r => match r with
  | .inl (o0, o1, o2, o3, _) => some (.inl (o0, o1, o2, (IntKind.wrap .i64 (o3 + 1)), ()))
  | .inr _ => none
 | false => some (.inr (.inl (a0, ())))
def AEl [Lk] {α : Type} (z : α) (c : α × α × Unit → Option U8) : (List α × Int × Int × Unit) → Option ((List α × Unit)) := fun (a0, a1, a2, _) =>
 match AY (N0 z c) many (a0, a1, a2, (IntKind.wrap .i64 (a1 + 1)), ()) with
 | none => none
 | some r => match r with
 | .inl (o0, _) => some (o0, ())
 | .inr _ => none
def AYL [Lk] {α : Type} (z : α) (c : α × α × Unit → Option U8) (v : (List α × Int × Int × Unit)) : Option ((List α × Unit)) := Lk.f ((AEl z c) v)
theorem AYK {α : Type} (z : α) (c : α × α × Unit → Option U8) (v : (List α × Int × Int × Unit)) : (AYL z c) v = (AEl z c) v := AJ _
def Jm [Lk] {α : Type} (z : α) (c : α × α × Unit → Option U8) : (List α × Int × Int × Int × Unit) → Option ((List α × Int × Int × Int × Unit) ⊕ (List α × Unit) ⊕ (List α × Unit) ⊕ Unit) := fun (a0, a1, a2, a3, _) =>
 match (ile a1 (IntKind.wrap .i64 ((IntKind.wrap .i64 (2 * a3)) + 1))) with
 | true => some (.inr (.inl (a0, ())))
 | false => match (ilt (IntKind.wrap .i64 ((IntKind.wrap .i64 ((IntKind.wrap .i64 (2 * a3)) + 1)) + 1)) a1) with
 | true => match idx a0 (IntKind.wrap .i64 (a2 + (IntKind.wrap .i64 ((IntKind.wrap .i64 (2 * a3)) + 1)))) with
  | none => none
  | some x0 => match idx a0 (IntKind.wrap .i64 ((IntKind.wrap .i64 (a2 + (IntKind.wrap .i64 ((IntKind.wrap .i64 (2 * a3)) + 1)))) + 1)) with
  | none => none
  | some x1 => match c ((AS a0 (AG (IntKind.wrap .i64 (a2 + (IntKind.wrap .i64 ((IntKind.wrap .i64 (2 * a3)) + 1))))) z), (AS a0 (AG (IntKind.wrap .i64 ((IntKind.wrap .i64 (a2 + (IntKind.wrap .i64 ((IntKind.wrap .i64 (2 * a3)) + 1)))) + 1))) z), ()) with
  | none => none
  | some (y2, _) => match (ilt y2 0) with
  | true => match idx a0 (IntKind.wrap .i64 (a2 + a3)) with
   | none => none
   | some x3 => match idx a0 (IntKind.wrap .i64 (a2 + (IntKind.wrap .i64 ((IntKind.wrap .i64 ((IntKind.wrap .i64 (2 * a3)) + 1)) + 1)))) with
   | none => none
   | some x4 => match c ((AS a0 (AG (IntKind.wrap .i64 (a2 + a3))) z), (AS a0 (AG (IntKind.wrap .i64 (a2 + (IntKind.wrap .i64 ((IntKind.wrap .i64 ((IntKind.wrap .i64 (2 * a3)) + 1)) + 1))))) z), ()) with
   | none => none
   | some (y5, _) => match (!(ilt y5 0)) with
   | true => some (.inr (.inr (.inl (a0, ()))))
   | false => match idx a0 (IntKind.wrap .i64 (a2 + (IntKind.wrap .i64 ((IntKind.wrap .i64 ((IntKind.wrap .i64 (2 * a3)) + 1)) + 1)))) with
   | none => none
   | some x6 => match idx a0 (IntKind.wrap .i64 (a2 + a3)) with
   | none => none
   | some x7 => match idx a0 (IntKind.wrap .i64 (a2 + a3)) with
   | none => none
   | some x8 => match idx (Ak a0 (AG (IntKind.wrap .i64 (a2 + a3))) (AS a0 (AG (IntKind.wrap .i64 (a2 + (IntKind.wrap .i64 ((IntKind.wrap .i64 ((IntKind.wrap .i64 (2 * a3)) + 1)) + 1))))) z)) (IntKind.wrap .i64 (a2 + (IntKind.wrap .i64 ((IntKind.wrap .i64 ((IntKind.wrap .i64 (2 * a3)) + 1)) + 1)))) with
   | none => none
   | some x9 => some (.inl ((Ak (Ak a0 (AG (IntKind.wrap .i64 (a2 + a3))) (AS a0 (AG (IntKind.wrap .i64 (a2 + (IntKind.wrap .i64 ((IntKind.wrap .i64 ((IntKind.wrap .i64 (2 * a3)) + 1)) + 1))))) z)) (AG (IntKind.wrap .i64 (a2 + (IntKind.wrap .i64 ((IntKind.wrap .i64 ((IntKind.wrap .i64 (2 * a3)) + 1)) + 1))))) (AS a0 (AG (IntKind.wrap .i64 (a2 + a3))) z)), a1, a2, (IntKind.wrap .i64 ((IntKind.wrap .i64 ((IntKind.wrap .i64 (2 * a3)) + 1)) + 1)), ()))
  | false => match idx a0 (IntKind.wrap .i64 (a2 + a3)) with
  | none => none
  | some x10 => match idx a0 (IntKind.wrap .i64 (a2 + (IntKind.wrap .i64 ((IntKind.wrap .i64 (2 * a3)) + 1)))) with
  | none => none
  | some x11 => match c ((AS a0 (AG (IntKind.wrap .i64 (a2 + a3))) z), (AS a0 (AG (IntKind.wrap .i64 (a2 + (IntKind.wrap .i64 ((IntKind.wrap .i64 (2 * a3)) + 1))))) z), ()) with
  | none => none
  | some (y12, _) => match (!(ilt y12 0)) with
  | true => some (.inr (.inr (.inl (a0, ()))))
  | false => match idx a0 (IntKind.wrap .i64 (a2 + (IntKind.wrap .i64 ((IntKind.wrap .i64 (2 * a3)) + 1)))) with
  | none => none
  | some x13 => match idx a0 (IntKind.wrap .i64 (a2 + a3)) with
  | none => none
  | some x14 => match idx a0 (IntKind.wrap .i64 (a2 + a3)) with
  | none => none
  | some x15 => match idx (Ak a0 (AG (IntKind.wrap .i64 (a2 + a3))) (AS a0 (AG (IntKind.wrap .i64 (a2 + (IntKind.wrap .i64 ((IntKind.wrap .i64 (2 * a3)) + 1))))) z)) (IntKind.wrap .i64 (a2 + (IntKind.wrap .i64 ((IntKind.wrap .i64 (2 * a3)) + 1)))) with
  | none => none
  | some x16 => some (.inl ((Ak (Ak a0 (AG (IntKind.wrap .i64 (a2 + a3))) (AS a0 (AG (IntKind.wrap .i64 (a2 + (IntKind.wrap .i64 ((IntKind.wrap .i64 (2 * a3)) + 1))))) z)) (AG (IntKind.wrap .i64 (a2 + (IntKind.wrap .i64 ((IntKind.wrap .i64 (2 * a3)) + 1))))) (AS a0 (AG (IntKind.wrap .i64 (a2 + a3))) z)), a1, a2, (IntKind.wrap .i64 ((IntKind.wrap .i64 (2 * a3)) + 1)), ()))
 | false => match idx a0 (IntKind.wrap .i64 (a2 + a3)) with
 | none => none
 | some x17 => match idx a0 (IntKind.wrap .i64 (a2 + (IntKind.wrap .i64 ((IntKind.wrap .i64 (2 * a3)) + 1)))) with
 | none => none
 | some x18 => match c ((AS a0 (AG (IntKind.wrap .i64 (a2 + a3))) z), (AS a0 (AG (IntKind.wrap .i64 (a2 + (IntKind.wrap .i64 ((IntKind.wrap .i64 (2 * a3)) + 1))))) z), ()) with
 | none => none
 | some (y19, _) => match (!(ilt y19 0)) with
 | true => some (.inr (.inr (.inl (a0, ()))))
 | false => match idx a0 (IntKind.wrap .i64 (a2 + (IntKind.wrap .i64 ((IntKind.wrap .i64 (2 * a3)) + 1)))) with
 | none => none
 | some x20 => match idx a0 (IntKind.wrap .i64 (a2 + a3)) with
 | none => none
 | some x21 => match idx a0 (IntKind.wrap .i64 (a2 + a3)) with
 | none => none
 | some x22 => match idx (Ak a0 (AG (IntKind.wrap .i64 (a2 + a3))) (AS a0 (AG (IntKind.wrap .i64 (a2 + (IntKind.wrap .i64 ((IntKind.wrap .i64 (2 * a3)) + 1))))) z)) (IntKind.wrap .i64 (a2 + (IntKind.wrap .i64 ((IntKind.wrap .i64 (2 * a3)) + 1)))) with
 | none => none
 | some x23 => some (.inl ((Ak (Ak a0 (AG (IntKind.wrap .i64 (a2 + a3))) (AS a0 (AG (IntKind.wrap .i64 (a2 + (IntKind.wrap .i64 ((IntKind.wrap .i64 (2 * a3)) + 1))))) z)) (AG (IntKind.wrap .i64 (a2 + (IntKind.wrap .i64 ((IntKind.wrap .i64 (2 * a3)) + 1))))) (AS a0 (AG (IntKind.wrap .i64 (a2 + a3))) z)), a1, a2, (IntKind.wrap .i64 ((IntKind.wrap .i64 (2 * a3)) + 1)), ()))
def Tk [Lk] {α : Type} (z : α) (c : α × α × Unit → Option U8) : (List α × Int × Int × Int × Unit) → Option ((List α × Unit)) := fun (a0, a1, a2, a3, _) =>
 match AY (Jm z c) many (a0, a2, a3, a1, ()) with
 | none => none
 | some r => match r with
 | .inl (o0, _) => some (o0, ())
 | .inr r => match r with
 | .inl (o1, _) => some (o1, ())
 | .inr _ => none
def AGp [Lk] {α : Type} (z : α) (c : α × α × Unit → Option U8) (v : (List α × Int × Int × Int × Unit)) : Option ((List α × Unit)) := Lk.f ((Tk z c) v)
theorem AUM {α : Type} (z : α) (c : α × α × Unit → Option U8) (v : (List α × Int × Int × Int × Unit)) : (AGp z c) v = (Tk z c) v := AJ _
def KN [Lk] {α : Type} (z : α) (c : α × α × Unit → Option U8) : (List α × Int × Int × Int × Unit) → Option ((List α × Int × Int × Int × Unit) ⊕ (List α × Unit) ⊕ Unit) := fun (a0, a1, a2, a3, _) =>
 match (ile 0 a3) with
 | true => match idx a0 (IntKind.wrap .i64 (a1 + a3)) with
  | none => none
  | some x0 => match idx a0 a1 with
  | none => none
  | some x1 => match idx a0 a1 with
  | none => none
  | some x2 => match idx (Ak a0 (AG a1) (AS a0 (AG (IntKind.wrap .i64 (a1 + a3))) z)) (IntKind.wrap .i64 (a1 + a3)) with
  | none => none
  | some x3 => match (AGp z c) ((Ak (Ak a0 (AG a1) (AS a0 (AG (IntKind.wrap .i64 (a1 + a3))) z)) (AG (IntKind.wrap .i64 (a1 + a3))) (AS a0 (AG a1) z)), a2, a3, a1, ()) with
  | none => none
  | some (y4, _) => some (.inl (y4, a1, a2, (IntKind.wrap .i64 (a3 - 1)), ()))
 | false => some (.inr (.inl (a0, ())))
def KO [Lk] {α : Type} (z : α) (c : α × α × Unit → Option U8) : (List α × Int × Int × Int × Int × Unit) → Option ((List α × Int × Int × Int × Int × Unit) ⊕ (List α × Int × Int × Int × Unit) ⊕ Unit) := fun (a0, a1, a2, a3, a4, _) =>
 match (ile 0 a4) with
 | true => match (AGp z c) (a0, a4, a3, a1, ()) with
  | none => none
  | some (y0, _) => some (.inl (y0, a1, a2, a3, (IntKind.wrap .i64 (a4 - 1)), ()))
 | false => some (.inr (.inl (a0, a1, a2, a3, ())))
def Tz [Lk] {α : Type} (z : α) (c : α × α × Unit → Option U8) : (List α × Int × Int × Unit) → Option ((List α × Unit)) := fun (a0, a1, a2, _) =>
 match quo? .i64 (IntKind.wrap .i64 ((IntKind.wrap .i64 (a2 - a1)) - 1)) 2 with
 | none => none
 | some x0 => match AY (KO z c) many (a0, a1, 0, (IntKind.wrap .i64 (a2 - a1)), x0, ()) with
 | none => none
 | some r => match r with
 | .inl (o1, o2, o3, o4, _) => match AY (KN z c) many (o1, o2, o3, (IntKind.wrap .i64 (o4 - 1)), ()) with
  | none => none
  | some r => match r with
  | .inl (o5, _) => some (o5, ())
  | .inr _ => none
 | .inr _ => none
def APx [Lk] {α : Type} (z : α) (c : α × α × Unit → Option U8) (v : (List α × Int × Int × Unit)) : Option ((List α × Unit)) := Lk.f ((Tz z c) v)
theorem AWC {α : Type} (z : α) (c : α × α × Unit → Option U8) (v : (List α × Int × Int × Unit)) : (APx z c) v = (Tz z c) v := AJ _
def GR [Lk] {α : Type} (z : α) (c : α × α × Unit → Option U8) : (List α × Int × Int × Int × Int × Int × Unit) → Option ((List α × Int × Int × Int × Int × Int × Unit) ⊕ (List α × Unit) ⊕ Unit) := fun (a0, a1, a2, a3, a4, a5, _) =>
 match quo? .i64 a2 4 with
 | none => none
 | some x0 => match (ile a5 (IntKind.wrap .i64 ((IntKind.wrap .i64 (a1 + (IntKind.wrap .i64 (x0 * 2)))) + 1))) with
 | true => match xorNext (a3, ()) with
  | none => none
  | some (y1, y2, _) => match (ile a2 (IntKind.wrap .i64 (IntKind.wrap .u64 ((BitVec.ofInt (IntKind.bits .u64) y2 &&& BitVec.ofInt (IntKind.bits .u64) (IntKind.wrap .u64 (a4 - 1))).toNat)))) with
  | true => match idx a0 (IntKind.wrap .i64 (a1 + (IntKind.wrap .i64 ((IntKind.wrap .i64 (IntKind.wrap .u64 ((BitVec.ofInt (IntKind.bits .u64) y2 &&& BitVec.ofInt (IntKind.bits .u64) (IntKind.wrap .u64 (a4 - 1))).toNat))) - a2)))) with
   | none => none
   | some x3 => match idx a0 a5 with
   | none => none
   | some x4 => match idx a0 a5 with
   | none => none
   | some x5 => match idx (Ak a0 (AG a5) (AS a0 (AG (IntKind.wrap .i64 (a1 + (IntKind.wrap .i64 ((IntKind.wrap .i64 (IntKind.wrap .u64 ((BitVec.ofInt (IntKind.bits .u64) y2 &&& BitVec.ofInt (IntKind.bits .u64) (IntKind.wrap .u64 (a4 - 1))).toNat))) - a2))))) z)) (IntKind.wrap .i64 (a1 + (IntKind.wrap .i64 ((IntKind.wrap .i64 (IntKind.wrap .u64 ((BitVec.ofInt (IntKind.bits .u64) y2 &&& BitVec.ofInt (IntKind.bits .u64) (IntKind.wrap .u64 (a4 - 1))).toNat))) - a2)))) with
   | none => none
   | some x6 => some (.inl ((Ak (Ak a0 (AG a5) (AS a0 (AG (IntKind.wrap .i64 (a1 + (IntKind.wrap .i64 ((IntKind.wrap .i64 (IntKind.wrap .u64 ((BitVec.ofInt (IntKind.bits .u64) y2 &&& BitVec.ofInt (IntKind.bits .u64) (IntKind.wrap .u64 (a4 - 1))).toNat))) - a2))))) z)) (AG (IntKind.wrap .i64 (a1 + (IntKind.wrap .i64 ((IntKind.wrap .i64 (IntKind.wrap .u64 ((BitVec.ofInt (IntKind.bits .u64) y2 &&& BitVec.ofInt (IntKind.bits .u64) (IntKind.wrap .u64 (a4 - 1))).toNat))) - a2))))) (AS a0 (AG a5) z)), a1, a2, y1, a4, (IntKind.wrap .i64 (a5 + 1)), ()))
  | false => match idx a0 (IntKind.wrap .i64 (a1 + (IntKind.wrap .i64 (IntKind.wrap .u64 ((BitVec.ofInt (IntKind.bits .u64) y2 &&& BitVec.ofInt (IntKind.bits .u64) (IntKind.wrap .u64 (a4 - 1))).toNat))))) with
  | none => none
  | some x7 => match idx a0 a5 with
  | none => none
  | some x8 => match idx a0 a5 with
  | none => none
  | some x9 => match idx (Ak a0 (AG a5) (AS a0 (AG (IntKind.wrap .i64 (a1 + (IntKind.wrap .i64 (IntKind.wrap .u64 ((BitVec.ofInt (IntKind.bits .u64) y2 &&& BitVec.ofInt (IntKind.bits .u64) (IntKind.wrap .u64 (a4 - 1))).toNat)))))) z)) (IntKind.wrap .i64 (a1 + (IntKind.wrap .i64 (IntKind.wrap .u64 ((BitVec.ofInt (IntKind.bits .u64) y2 &&& BitVec.ofInt (IntKind.bits .u64) (IntKind.wrap .u64 (a4 - 1))).toNat))))) with
  | none => none
  | some x10 => some (.inl ((Ak (Ak a0 (AG a5) (AS a0 (AG (IntKind.wrap .i64 (a1 + (IntKind.wrap .i64 (IntKind.wrap .u64 ((BitVec.ofInt (IntKind.bits .u64) y2 &&& BitVec.ofInt (IntKind.bits .u64) (IntKind.wrap .u64 (a4 - 1))).toNat)))))) z)) (AG (IntKind.wrap .i64 (a1 + (IntKind.wrap .i64 (IntKind.wrap .u64 ((BitVec.ofInt (IntKind.bits .u64) y2 &&& BitVec.ofInt (IntKind.bits .u64) (IntKind.wrap .u64 (a4 - 1))).toNat)))))) (AS a0 (AG a5) z)), a1, a2, y1, a4, (IntKind.wrap .i64 (a5 + 1)), ()))
 | false => some (.inr (.inl (a0, ())))
def OZ [Lk] {α : Type} (z : α) (c : α × α × Unit → Option U8) : (List α × Int × Int × Unit) → Option ((List α × Unit)) := fun (a0, a1, a2, _) =>
 match (ile 8 (IntKind.wrap .i64 (a2 - a1))) with
 | true => match LI ((IntKind.wrap .i64 (a2 - a1)), ()) with
  | none => none
  | some (y0, _) => match quo? .i64 (IntKind.wrap .i64 (a2 - a1)) 4 with
  | none => none
  | some x1 => match AY (GR z c) many (a0, a1, (IntKind.wrap .i64 (a2 - a1)), (IntKind.wrap .u64 (IntKind.wrap .i64 (a2 - a1))), y0, (IntKind.wrap .i64 ((IntKind.wrap .i64 (a1 + (IntKind.wrap .i64 (x1 * 2)))) - 1)), ()) with
  | none => none
  | some r => match r with
  | .inl (o2, _) => some (o2, ())
  | .inr _ => none
 | false => some (a0, ())
def AFb [Lk] {α : Type} (z : α) (c : α × α × Unit → Option U8) (v : (List α × Int × Int × Unit)) : Option ((List α × Unit)) := Lk.f ((OZ z c) v)
theorem ATR {α : Type} (z : α) (c : α × α × Unit → Option U8) (v : (List α × Int × Int × Unit)) : (AFb z c) v = (OZ z c) v := AJ _
def LF [Lk] {α : Type} (z : α) (c : α × α × Unit → Option U8) : (List α × Int × Int × Int × Unit) → Option ((List α × Int × Int × Int × Unit)) := fun (a0, a1, a2, a3, _) =>
 match idx a0 a2 with
 | none => none
 | some x0 => match idx a0 a1 with
 | none => none
 | some x1 => match c ((AS a0 (AG a2) z), (AS a0 (AG a1) z), ()) with
 | none => none
 | some (y2, _) => match (ilt y2 0) with
 | true => some (a0, (IntKind.wrap .i64 (a3 + 1)), a2, a1, ())
 | false => some (a0, a3, a1, a2, ())
def LG [Lk] {α : Type} (z : α) (c : α × α × Unit → Option U8) (v : (List α × Int × Int × Int × Unit)) : Option ((List α × Int × Int × Int × Unit)) := Lk.f ((LF z c) v)
theorem AMR {α : Type} (z : α) (c : α × α × Unit → Option U8) (v : (List α × Int × Int × Int × Unit)) : (LG z c) v = (LF z c) v := AJ _
def LK [Lk] {α : Type} (z : α) (c : α × α × Unit → Option U8) : (List α × Int × Int × Int × Int × Unit) → Option ((List α × Int × Int × Unit)) := fun (a0, a1, a2, a3, a4, _) =>
 match (LG z c) (a0, a1, a2, a4, ()) with
 | none => none
 | some (y0, y1, y2, y3, _) => match (LG z c) (y0, y3, a3, y1, ()) with
 | none => none
 | some (y4, y5, y6, y7, _) => match (LG z c) (y4, y2, y6, y5, ()) with
 | none => none
 | some (y8, y9, y10, y11, _) => some (y8, y9, y11, ())
def LL [Lk] {α : Type} (z : α) (c : α × α × Unit → Option U8) (v : (List α × Int × Int × Int × Int × Unit)) : Option ((List α × Int × Int × Unit)) := Lk.f ((LK z c) v)
theorem AMr {α : Type} (z : α) (c : α × α × Unit → Option U8) (v : (List α × Int × Int × Int × Int × Unit)) : (LL z c) v = (LK z c) v := AJ _
def LN [Lk] {α : Type} (z : α) (c : α × α × Unit → Option U8) : (List α × Int × Int × Unit) → Option ((List α × Int × Int × Unit)) := fun (a0, a1, a2, _) =>
 match (LL z c) (a0, (IntKind.wrap .i64 (a1 - 1)), a1, (IntKind.wrap .i64 (a1 + 1)), a2, ()) with
 | none => none
 | some (y0, y1, y2, _) => some (y0, y1, y2, ())
def LO [Lk] {α : Type} (z : α) (c : α × α × Unit → Option U8) (v : (List α × Int × Int × Unit)) : Option ((List α × Int × Int × Unit)) := Lk.f ((LN z c) v)
theorem AMt {α : Type} (z : α) (c : α × α × Unit → Option U8) (v : (List α × Int × Int × Unit)) : (LO z c) v = (LN z c) v := AJ _
def Nd [Lk] {α : Type} (z : α) (c : α × α × Unit → Option U8) : (List α × Int × Int × Unit) → Option ((List α × Int × Int × Unit)) := fun (a0, a1, a2, _) =>
 match quo? .i64 (IntKind.wrap .i64 (a2 - a1)) 4 with
 | none => none
 | some x0 => match quo? .i64 (IntKind.wrap .i64 (a2 - a1)) 4 with
 | none => none
 | some x1 => match quo? .i64 (IntKind.wrap .i64 (a2 - a1)) 4 with
 | none => none
 | some x2 => match (ile 8 (IntKind.wrap .i64 (a2 - a1))) with
 | true => match (ile 50 (IntKind.wrap .i64 (a2 - a1))) with
  | true => match (LO z c) (a0, (IntKind.wrap .i64 (a1 + (IntKind.wrap .i64 (x0 * 1)))), 0, ()) with
   | none => none
   | some (y3, y4, y5, _) => match (LO z c) (y3, (IntKind.wrap .i64 (a1 + (IntKind.wrap .i64 (x1 * 2)))), y4, ()) with
   | none => none
   | some (y6, y7, y8, _) => match (LO z c) (y6, (IntKind.wrap .i64 (a1 + (IntKind.wrap .i64 (x2 * 3)))), y7, ()) with
   | none => none
   | some (y9, y10, y11, _) => match (LL z c) (y9, y5, y8, y11, y10, ()) with
   | none => none
   | some (y12, y13, y14, _) => match (ieq y13 0) with
   | true => some (y12, y14, 1, ())
   | false => match (ieq y13 12) with
   | true => some (y12, y14, 2, ())
   | false => some (y12, y14, 0, ())
  | false => match (LL z c) (a0, (IntKind.wrap .i64 (a1 + (IntKind.wrap .i64 (x0 * 1)))), (IntKind.wrap .i64 (a1 + (IntKind.wrap .i64 (x1 * 2)))), (IntKind.wrap .i64 (a1 + (IntKind.wrap .i64 (x2 * 3)))), 0, ()) with
  | none => none
  | some (y15, y16, y17, _) => match (ieq y16 0) with
  | true => some (y15, y17, 1, ())
  | false => match (ieq y16 12) with
  | true => some (y15, y17, 2, ())
  | false => some (y15, y17, 0, ())
 | false => match (ieq 0 0) with
 | true => some (a0, (IntKind.wrap .i64 (a1 + (IntKind.wrap .i64 (x1 * 2)))), 1, ())
 | false => match (ieq 0 12) with
 | true => some (a0, (IntKind.wrap .i64 (a1 + (IntKind.wrap .i64 (x1 * 2)))), 2, ())
 | false => some (a0, (IntKind.wrap .i64 (a1 + (IntKind.wrap .i64 (x1 * 2)))), 0, ())
def ADS [Lk] {α : Type} (z : α) (c : α × α × Unit → Option U8) (v : (List α × Int × Int × Unit)) : Option ((List α × Int × Int × Unit)) := Lk.f ((Nd z c) v)
theorem ARS {α : Type} (z : α) (c : α × α × Unit → Option U8) (v : (List α × Int × Int × Unit)) : (ADS z c) v = (Nd z c) v := AJ _
def Tm [Lk] {α : Type} (z : α) (c : α × α × Unit → Option U8) : (List α × Int × Int × Unit) → Option ((List α × Int × Int × Unit) ⊕ (List α × Unit) ⊕ Unit) := fun (a0, a1, a2, _) =>
 match (ilt a1 a2) with
 | true => match idx a0 a2 with
  | none => none
  | some x0 => match idx a0 a1 with
  | none => none
  | some x1 => match idx a0 a1 with
  | none => none
  | some x2 => match idx (Ak a0 (AG a1) (AS a0 (AG a2) z)) a2 with
  | none => none
  | some x3 => some (.inl ((Ak (Ak a0 (AG a1) (AS a0 (AG a2) z)) (AG a2) (AS a0 (AG a1) z)), (IntKind.wrap .i64 (a1 + 1)), (IntKind.wrap .i64 (a2 - 1)), ()))
 | false => some (.inr (.inl (a0, ())))
def ADF [Lk] {α : Type} (z : α) (c : α × α × Unit → Option U8) : (List α × Int × Int × Unit) → Option ((List α × Unit)) := fun (a0, a1, a2, _) =>
 match AY (Tm z c) many (a0, a1, (IntKind.wrap .i64 (a2 - 1)), ()) with
 | none => none
 | some r => match r with
 | .inl (o0, _) => some (o0, ())
 | .inr _ => none
def AXZ [Lk] {α : Type} (z : α) (c : α × α × Unit → Option U8) (v : (List α × Int × Int × Unit)) : Option ((List α × Unit)) := Lk.f ((ADF z c) v)
theorem AXY {α : Type} (z : α) (c : α × α × Unit → Option U8) (v : (List α × Int × Int × Unit)) : (AXZ z c) v = (ADF z c) v := AJ _
def FT [Lk] {α : Type} (z : α) (c : α × α × Unit → Option U8) : (List α × Int × Int × Int × Int × Int × Unit) → Option ((List α × Int × Int × Int × Int × Int × Unit) ⊕ (List α × Int × Int × Int × Int × Unit) ⊕ Unit) := fun (a0, a1, a2, a3, a4, a5, _) =>
 match (ilt a5 a2) with
 | true => match idx a0 a5 with
  | none => none
  | some x0 => match idx a0 (IntKind.wrap .i64 (a5 - 1)) with
  | none => none
  | some x1 => match c ((AS a0 (AG a5) z), (AS a0 (AG (IntKind.wrap .i64 (a5 - 1))) z), ()) with
  | none => none
  | some (y2, _) => match (!(ilt y2 0)) with
  | true => some (.inr (.inl (a0, a1, a2, a3, a4, ())))
  | false => match idx a0 (IntKind.wrap .i64 (a5 - 1)) with
  | none => none
  | some x3 => match idx a0 a5 with
  | none => none
  | some x4 => match idx a0 a5 with
  | none => none
  | some x5 => match idx (Ak a0 (AG a5) (AS a0 (AG (IntKind.wrap .i64 (a5 - 1))) z)) (IntKind.wrap .i64 (a5 - 1)) with
  | none => none
  | some x6 => some (.inl ((Ak (Ak a0 (AG a5) (AS a0 (AG (IntKind.wrap .i64 (a5 - 1))) z)) (AG (IntKind.wrap .i64 (a5 - 1))) (AS a0 (AG a5) z)), a1, a2, a3, a4, (IntKind.wrap .i64 (a5 + 1)), ()))
 | false => some (.inr (.inl (a0, a1, a2, a3, a4, ())))
def FU [Lk] {α : Type} (z : α) (c : α × α × Unit → Option U8) : (List α × Int × Int × Int × Int × Int × Unit) → Option ((List α × Int × Int × Int × Int × Int × Unit) ⊕ (List α × Int × Int × Int × Int × Unit) ⊕ Unit) := fun (a0, a1, a2, a3, a4, a5, _) =>
 match (ile 1 a5) with
 | true => match idx a0 a5 with
  | none => none
  | some x0 => match idx a0 (IntKind.wrap .i64 (a5 - 1)) with
  | none => none
  | some x1 => match c ((AS a0 (AG a5) z), (AS a0 (AG (IntKind.wrap .i64 (a5 - 1))) z), ()) with
  | none => none
  | some (y2, _) => match (!(ilt y2 0)) with
  | true => some (.inr (.inl (a0, a1, a2, a3, a4, ())))
  | false => match idx a0 (IntKind.wrap .i64 (a5 - 1)) with
  | none => none
  | some x3 => match idx a0 a5 with
  | none => none
  | some x4 => match idx a0 a5 with
  | none => none
  | some x5 => match idx (Ak a0 (AG a5) (AS a0 (AG (IntKind.wrap .i64 (a5 - 1))) z)) (IntKind.wrap .i64 (a5 - 1)) with
  | none => none
  | some x6 => some (.inl ((Ak (Ak a0 (AG a5) (AS a0 (AG (IntKind.wrap .i64 (a5 - 1))) z)) (AG (IntKind.wrap .i64 (a5 - 1))) (AS a0 (AG a5) z)), a1, a2, a3, a4, (IntKind.wrap .i64 (a5 - 1)), ()))
 | false => some (.inr (.inl (a0, a1, a2, a3, a4, ())))
def HS [Lk] {α : Type} (z : α) (c : α × α × Unit → Option U8) : (List α × Int × Int × Int × Int × Unit) → Option ((List α × Int × Int × Int × Int × Unit) ⊕ (List α × Int × Int × Int × Int × Unit) ⊕ Unit) := fun (a0, a1, a2, a3, a4, _) =>
 match (ilt a3 a2) with
 | true => match idx a0 a3 with
  | none => none
  | some x0 => match idx a0 (IntKind.wrap .i64 (a3 - 1)) with
  | none => none
  | some x1 => match c ((AS a0 (AG a3) z), (AS a0 (AG (IntKind.wrap .i64 (a3 - 1))) z), ()) with
  | none => none
  | some (y2, _) => match (!(ilt y2 0)) with
  | true => some (.inl (a0, a1, a2, (IntKind.wrap .i64 (a3 + 1)), a4, ()))
  | false => some (.inr (.inl (a0, a1, a2, a3, a4, ())))
 | false => some (.inr (.inl (a0, a1, a2, a3, a4, ())))
def CU [Lk] {α : Type} (z : α) (c : α × α × Unit → Option U8) : (List α × Int × Int × Int × Int × Unit) → Option ((List α × Int × Int × Int × Int × Unit) ⊕ (List α × Bool × Unit) ⊕ (List α × Unit) ⊕ Unit) := fun (a0, a1, a2, a3, a4, _) =>
 match (ilt a4 5) with
 | true => match AY (HS z c) many (a0, a1, a2, a3, a4, ()) with
  | none => none
  | some r => match r with
  | .inl (o0, o1, o2, o3, o4, _) => match (ieq o3 o2) with
   | true => some (.inr (.inl (o0, true, ())))
   | false => match (ilt (IntKind.wrap .i64 (o2 - o1)) 50) with
   | true => some (.inr (.inl (o0, false, ())))
   | false => match idx o0 (IntKind.wrap .i64 (o3 - 1)) with
   | none => none
   | some x5 => match idx o0 o3 with
   | none => none
   | some x6 => match idx o0 o3 with
   | none => none
   | some x7 => match idx (Ak o0 (AG o3) (AS o0 (AG (IntKind.wrap .i64 (o3 - 1))) z)) (IntKind.wrap .i64 (o3 - 1)) with
   | none => none
   | some x8 => match (ile 2 (IntKind.wrap .i64 (o3 - o1))) with
   | true => match AY (FU z c) many ((Ak (Ak o0 (AG o3) (AS o0 (AG (IntKind.wrap .i64 (o3 - 1))) z)) (AG (IntKind.wrap .i64 (o3 - 1))) (AS o0 (AG o3) z)), o1, o2, o3, o4, (IntKind.wrap .i64 (o3 - 1)), ()) with
    | none => none
    | some r => match r with
    | .inl (o9, o10, o11, o12, o13, _) => match (ile 2 (IntKind.wrap .i64 (o11 - o12))) with
     | true => match AY (FT z c) many (o9, o10, o11, o12, o13, (IntKind.wrap .i64 (o12 + 1)), ()) with
      | none => none
      | some r => match r with
      | .inl (o14, o15, o16, o17, o18, _) => some (.inl (o14, o15, o16, o17, (IntKind.wrap .i64 (o18 + 1)), ()))
      | .inr _ => none
     | false => some (.inl (o9, o10, o11, o12, (IntKind.wrap .i64 (o13 + 1)), ()))
    | .inr _ => none
   | false => match (ile 2 (IntKind.wrap .i64 (o2 - o3))) with
   | true => match AY (FT z c) many ((Ak (Ak o0 (AG o3) (AS o0 (AG (IntKind.wrap .i64 (o3 - 1))) z)) (AG (IntKind.wrap .i64 (o3 - 1))) (AS o0 (AG o3) z)), o1, o2, o3, o4, (IntKind.wrap .i64 (o3 + 1)), ()) with
    | none => none
    | some r => match r with
    | .inl (o19, o20, o21, o22, o23, _) => some (.inl (o19, o20, o21, o22, (IntKind.wrap .i64 (o23 + 1)), ()))
    | .inr _ => none
   | false => some (.inl ((Ak (Ak o0 (AG o3) (AS o0 (AG (IntKind.wrap .i64 (o3 - 1))) z)) (AG (IntKind.wrap .i64 (o3 - 1))) (AS o0 (AG o3) z)), o1, o2, o3, (IntKind.wrap .i64 (o4 + 1)), ()))
  | .inr _ => none
 | false => some (.inr (.inr (.inl (a0, ()))))
def It [Lk] {α : Type} (z : α) (c : α × α × Unit → Option U8) : (List α × Int × Int × Unit) → Option ((List α × Bool × Unit)) := fun (a0, a1, a2, _) =>
 match AY (CU z c) many (a0, a1, a2, (IntKind.wrap .i64 (a1 + 1)), 0, ()) with
 | none => none
 | some r => match r with
 | .inl (o0, o1, _) => some (o0, o1, ())
 | .inr r => match r with
 | .inl (o2, _) => some (o2, false, ())
 | .inr _ => none
def Ni [Lk] {α : Type} (z : α) (c : α × α × Unit → Option U8) (v : (List α × Int × Int × Unit)) : Option ((List α × Bool × Unit)) := Lk.f ((It z c) v)
theorem AHv {α : Type} (z : α) (c : α × α × Unit → Option U8) (v : (List α × Int × Int × Unit)) : (Ni z c) v = (It z c) v := AJ _
def Iu [Lk] {α : Type} (z : α) (c : α × α × Unit → Option U8) : (List α × Int × Int × Int × Unit) → Option ((List α × Int × Int × Int × Unit) ⊕ (List α × Int × Int × Int × Unit) ⊕ Unit) := fun (a0, a1, a2, a3, _) =>
 match (ile a2 a3) with
 | true => match idx a0 a1 with
  | none => none
  | some x0 => match idx a0 a3 with
  | none => none
  | some x1 => match c ((AS a0 (AG a1) z), (AS a0 (AG a3) z), ()) with
  | none => none
  | some (y2, _) => match (ilt y2 0) with
  | true => some (.inl (a0, a1, a2, (IntKind.wrap .i64 (a3 - 1)), ()))
  | false => some (.inr (.inl (a0, a1, a2, a3, ())))
 | false => some (.inr (.inl (a0, a1, a2, a3, ())))
def Iv [Lk] {α : Type} (z : α) (c : α × α × Unit → Option U8) : (List α × Int × Int × Int × Unit) → Option ((List α × Int × Int × Int × Unit) ⊕ (List α × Int × Int × Int × Unit) ⊕ Unit) := fun (a0, a1, a2, a3, _) =>
 match (ile a2 a3) with
 | true => match idx a0 a1 with
  | none => none
  | some x0 => match idx a0 a2 with
  | none => none
  | some x1 => match c ((AS a0 (AG a1) z), (AS a0 (AG a2) z), ()) with
  | none => none
  | some (y2, _) => match (!(ilt y2 0)) with
  | true => some (.inl (a0, a1, (IntKind.wrap .i64 (a2 + 1)), a3, ()))
  | false => some (.inr (.inl (a0, a1, a2, a3, ())))
 | false => some (.inr (.inl (a0, a1, a2, a3, ())))
def Iw [Lk] {α : Type} (z : α) (c : α × α × Unit → Option U8) : (List α × Int × Int × Int × Unit) → Option ((List α × Int × Int × Int × Unit) ⊕ (List α × Int × Unit) ⊕ Unit) := fun (a0, a1, a2, a3, _) =>
 match AY (Iv z c) many (a0, a1, a2, a3, ()) with
 | none => none
 | some r => match r with
 | .inl (o0, o1, o2, o3, _) => match AY (Iu z c) many (o0, o1, o2, o3, ()) with
  | none => none
  | some r => match r with
  | .inl (o4, o5, o6, o7, _) => match (ilt o7 o6) with
   | true => some (.inr (.inl (o4, o6, ())))
   | false => match idx o4 o7 with
   | none => none
   | some x8 => match idx o4 o6 with
   | none => none
   | some x9 => match idx o4 o6 with
   | none => none
   | some x10 => match idx (Ak o4 (AG o6) (AS o4 (AG o7) z)) o7 with
   | none => none
   | some x11 => some (.inl ((Ak (Ak o4 (AG o6) (AS o4 (AG o7) z)) (AG o7) (AS o4 (AG o6) z)), o5, (IntKind.wrap .i64 (o6 + 1)), (IntKind.wrap .i64 (o7 - 1)), ()))
  | .inr _ => none
 | .inr _ => none
def LC [Lk] {α : Type} (z : α) (c : α × α × Unit → Option U8) : (List α × Int × Int × Int × Unit) → Option ((List α × Int × Unit)) := fun (a0, a1, a2, a3, _) =>
 match idx a0 a3 with
 | none => none
 | some x0 => match idx a0 a1 with
 | none => none
 | some x1 => match idx a0 a1 with
 | none => none
 | some x2 => match idx (Ak a0 (AG a1) (AS a0 (AG a3) z)) a3 with
 | none => none
 | some x3 => match AY (Iw z c) many ((Ak (Ak a0 (AG a1) (AS a0 (AG a3) z)) (AG a3) (AS a0 (AG a1) z)), a1, (IntKind.wrap .i64 (a1 + 1)), (IntKind.wrap .i64 (a2 - 1)), ()) with
 | none => none
 | some r => match r with
 | .inl (o4, o5, _) => some (o4, o5, ())
 | .inr _ => none
def Tq [Lk] {α : Type} (z : α) (c : α × α × Unit → Option U8) (v : (List α × Int × Int × Int × Unit)) : Option ((List α × Int × Unit)) := Lk.f ((LC z c) v)
theorem AMP {α : Type} (z : α) (c : α × α × Unit → Option U8) (v : (List α × Int × Int × Int × Unit)) : (Tq z c) v = (LC z c) v := AJ _
def Nk [Lk] {α : Type} (z : α) (c : α × α × Unit → Option U8) : (List α × Int × Int × Int × Unit) → Option ((List α × Int × Int × Int × Unit) ⊕ (List α × Int × Int × Int × Unit) ⊕ Unit) := fun (a0, a1, a2, a3, _) =>
 match (ile a2 a3) with
 | true => match idx a0 a3 with
  | none => none
  | some x0 => match idx a0 a1 with
  | none => none
  | some x1 => match c ((AS a0 (AG a3) z), (AS a0 (AG a1) z), ()) with
  | none => none
  | some (y2, _) => match (!(ilt y2 0)) with
  | true => some (.inl (a0, a1, a2, (IntKind.wrap .i64 (a3 - 1)), ()))
  | false => some (.inr (.inl (a0, a1, a2, a3, ())))
 | false => some (.inr (.inl (a0, a1, a2, a3, ())))
def Nl [Lk] {α : Type} (z : α) (c : α × α × Unit → Option U8) : (List α × Int × Int × Int × Unit) → Option ((List α × Int × Int × Int × Unit) ⊕ (List α × Int × Int × Int × Unit) ⊕ Unit) := fun (a0, a1, a2, a3, _) =>
 match (ile a2 a3) with
 | true => match idx a0 a2 with
  | none => none
  | some x0 => match idx a0 a1 with
  | none => none
  | some x1 => match c ((AS a0 (AG a2) z), (AS a0 (AG a1) z), ()) with
  | none => none
  | some (y2, _) => match (ilt y2 0) with
  | true => some (.inl (a0, a1, (IntKind.wrap .i64 (a2 + 1)), a3, ()))
  | false => some (.inr (.inl (a0, a1, a2, a3, ())))
 | false => some (.inr (.inl (a0, a1, a2, a3, ())))
def Nm [Lk] {α : Type} (z : α) (c : α × α × Unit → Option U8) : (List α × Int × Int × Int × Unit) → Option ((List α × Int × Int × Int × Unit) ⊕ (List α × Int × Int × Unit) ⊕ Unit) := fun (a0, a1, a2, a3, _) =>
 match AY (Nl z c) many (a0, a1, a2, a3, ()) with
 | none => none
 | some r => match r with
 | .inl (o0, o1, o2, o3, _) => match AY (Nk z c) many (o0, o1, o2, o3, ()) with
  | none => none
  | some r => match r with
  | .inl (o4, o5, o6, o7, _) => match (ilt o7 o6) with
   | true => some (.inr (.inl (o4, o5, o7, ())))
   | false => match idx o4 o7 with
   | none => none
   | some x8 => match idx o4 o6 with
   | none => none
   | some x9 => match idx o4 o6 with
   | none => none
   | some x10 => match idx (Ak o4 (AG o6) (AS o4 (AG o7) z)) o7 with
   | none => none
   | some x11 => some (.inl ((Ak (Ak o4 (AG o6) (AS o4 (AG o7) z)) (AG o7) (AS o4 (AG o6) z)), o5, (IntKind.wrap .i64 (o6 + 1)), (IntKind.wrap .i64 (o7 - 1)), ()))
  | .inr _ => none
 | .inr _ => none
def Nn [Lk] {α : Type} (z : α) (c : α × α × Unit → Option U8) : (List α × Int × Int × Int × Unit) → Option ((List α × Int × Int × Int × Unit) ⊕ (List α × Int × Int × Int × Unit) ⊕ Unit) := fun (a0, a1, a2, a3, _) =>
 match (ile a2 a3) with
 | true => match idx a0 a3 with
  | none => none
  | some x0 => match idx a0 a1 with
  | none => none
  | some x1 => match c ((AS a0 (AG a3) z), (AS a0 (AG a1) z), ()) with
  | none => none
  | some (y2, _) => match (!(ilt y2 0)) with
  | true => some (.inl (a0, a1, a2, (IntKind.wrap .i64 (a3 - 1)), ()))
  | false => some (.inr (.inl (a0, a1, a2, a3, ())))
 | false => some (.inr (.inl (a0, a1, a2, a3, ())))
def No [Lk] {α : Type} (z : α) (c : α × α × Unit → Option U8) : (List α × Int × Int × Int × Unit) → Option ((List α × Int × Int × Int × Unit) ⊕ (List α × Int × Int × Int × Unit) ⊕ Unit) := fun (a0, a1, a2, a3, _) =>
 match (ile a2 a3) with
 | true => match idx a0 a2 with
  | none => none
  | some x0 => match idx a0 a1 with
  | none => none
  | some x1 => match c ((AS a0 (AG a2) z), (AS a0 (AG a1) z), ()) with
  | none => none
  | some (y2, _) => match (ilt y2 0) with
  | true => some (.inl (a0, a1, (IntKind.wrap .i64 (a2 + 1)), a3, ()))
  | false => some (.inr (.inl (a0, a1, a2, a3, ())))
 | false => some (.inr (.inl (a0, a1, a2, a3, ())))
def Tp [Lk] {α : Type} (z : α) (c : α × α × Unit → Option U8) : (List α × Int × Int × Int × Unit) → Option ((List α × Int × Bool × Unit)) := fun (a0, a1, a2, a3, _) =>
 match idx a0 a3 with
 | none => none
 | some x0 => match idx a0 a1 with
 | none => none
 | some x1 => match idx a0 a1 with
 | none => none
 | some x2 => match idx (Ak a0 (AG a1) (AS a0 (AG a3) z)) a3 with
 | none => none
 | some x3 => match AY (No z c) many ((Ak (Ak a0 (AG a1) (AS a0 (AG a3) z)) (AG a3) (AS a0 (AG a1) z)), a1, (IntKind.wrap .i64 (a1 + 1)), (IntKind.wrap .i64 (a2 - 1)), ()) with
 | none => none
 | some r => match r with
 | .inl (o4, o5, o6, o7, _) => match AY (Nn z c) many (o4, o5, o6, o7, ()) with
  | none => none
  | some r => match r with
  | .inl (o8, o9, o10, o11, _) => match (ilt o11 o10) with
   | true => match idx o8 o9 with
    | none => none
    | some x12 => match idx o8 o11 with
    | none => none
    | some x13 => match idx o8 o11 with
    | none => none
    | some x14 => match idx (Ak o8 (AG o11) (AS o8 (AG o9) z)) o9 with
    | none => none
    | some x15 => some ((Ak (Ak o8 (AG o11) (AS o8 (AG o9) z)) (AG o9) (AS o8 (AG o11) z)), o11, true, ())
   | false => match idx o8 o11 with
   | none => none
   | some x16 => match idx o8 o10 with
   | none => none
   | some x17 => match idx o8 o10 with
   | none => none
   | some x18 => match idx (Ak o8 (AG o10) (AS o8 (AG o11) z)) o11 with
   | none => none
   | some x19 => match AY (Nm z c) many ((Ak (Ak o8 (AG o10) (AS o8 (AG o11) z)) (AG o11) (AS o8 (AG o10) z)), o9, (IntKind.wrap .i64 (o10 + 1)), (IntKind.wrap .i64 (o11 - 1)), ()) with
   | none => none
   | some r => match r with
   | .inl (o20, o21, o22, _) => match idx o20 o21 with
    | none => none
    | some x23 => match idx o20 o22 with
    | none => none
    | some x24 => match idx o20 o22 with
    | none => none
    | some x25 => match idx (Ak o20 (AG o22) (AS o20 (AG o21) z)) o21 with
    | none => none
    | some x26 => some ((Ak (Ak o20 (AG o22) (AS o20 (AG o21) z)) (AG o21) (AS o20 (AG o22) z)), o22, false, ())
   | .inr _ => none
  | .inr _ => none
 | .inr _ => none
def ABB [Lk] {α : Type} (z : α) (c : α × α × Unit → Option U8) (v : (List α × Int × Int × Int × Unit)) : Option ((List α × Int × Bool × Unit)) := Lk.f ((Tp z c) v)
theorem AVC {α : Type} (z : α) (c : α × α × Unit → Option U8) (v : (List α × Int × Int × Int × Unit)) : (ABB z c) v = (Tp z c) v := AJ _
def P6 [Lk] {α : Type} (z : α) (c : α × α × Unit → Option U8) (self : (List α × Int × Int × Int × Unit) → Option ((List α × Unit))) (y7 : List α) (a1 a2 p l : Int) (a4 a5 : Bool) : Option ((List α × Int × Int × Int × Bool × Bool × Unit) ⊕ (List α × Unit) ⊕ Unit) :=
 match (ilt 0 a1) with
 | true => match idx y7 (IntKind.wrap .i64 (a1 - 1)) with
  | none => none
  | some x9 => match idx y7 p with
  | none => none
  | some x10 => match c ((AS y7 (AG (IntKind.wrap .i64 (a1 - 1))) z), (AS y7 (AG p) z), ()) with
  | none => none
  | some (y11, _) => match (!(ilt y11 0)) with
  | true => match (Tq z c) (y7, a1, a2, p, ()) with
   | none => none
   | some (y12, y13, _) => some (.inl (y12, y13, a2, l, a4, a5, ()))
  | false => match (ABB z c) (y7, a1, a2, p, ()) with
  | none => none
  | some (y14, y15, y16, _) => match quo? .i64 (IntKind.wrap .i64 (a2 - a1)) 8 with
  | none => none
  | some x17 => match (ilt (IntKind.wrap .i64 (y15 - a1)) (IntKind.wrap .i64 (a2 - y15))) with
  | true => match self (y14, a1, y15, l, ()) with
   | none => none
   | some (y18, _) => some (.inl (y18, (IntKind.wrap .i64 (y15 + 1)), a2, l, (ile x17 (IntKind.wrap .i64 (y15 - a1))), y16, ()))
  | false => match self (y14, (IntKind.wrap .i64 (y15 + 1)), a2, l, ()) with
  | none => none
  | some (y19, _) => some (.inl (y19, a1, y15, l, (ile x17 (IntKind.wrap .i64 (a2 - y15))), y16, ()))
 | false => match (ABB z c) (y7, a1, a2, p, ()) with
 | none => none
 | some (y20, y21, y22, _) => match quo? .i64 (IntKind.wrap .i64 (a2 - a1)) 8 with
 | none => none
 | some x23 => match (ilt (IntKind.wrap .i64 (y21 - a1)) (IntKind.wrap .i64 (a2 - y21))) with
 | true => match self (y20, a1, y21, l, ()) with
  | none => none
  | some (y24, _) => some (.inl (y24, (IntKind.wrap .i64 (y21 + 1)), a2, l, (ile x23 (IntKind.wrap .i64 (y21 - a1))), y22, ()))
 | false => match self (y20, (IntKind.wrap .i64 (y21 + 1)), a2, l, ()) with
 | none => none
 | some (y25, _) => some (.inl (y25, a1, y21, l, (ile x23 (IntKind.wrap .i64 (a2 - y21))), y22, ()))
def ADa [Lk] {α : Type} (z : α) (c : α × α × Unit → Option U8) (self : (List α × Int × Int × Int × Unit) → Option ((List α × Unit))) (y6 : List α) (a1 a2 p h l : Int) (a4 a5 : Bool) : Option ((List α × Int × Int × Int × Bool × Bool × Unit) ⊕ (List α × Unit) ⊕ Unit) :=
 match a4 with
 | true => match a5 with
  | true => match (ieq h 1) with
   | true => match (Ni z c) (y6, a1, a2, ()) with
    | none => none
    | some (y7, y8, _) => match y8 with
    | true => some (.inr (.inl (y7, ())))
    | false => (P6 z c) self y7 a1 a2 p l a4 a5
   | false => (P6 z c) self y6 a1 a2 p l a4 a5
  | false => (P6 z c) self y6 a1 a2 p l a4 a5
 | false => (P6 z c) self y6 a1 a2 p l a4 a5
def ADZ [Lk] {α : Type} (z : α) (c : α × α × Unit → Option U8) (self : (List α × Int × Int × Int × Unit) → Option ((List α × Unit))) (y2 : List α) (a1 a2 l : Int) (a4 a5 : Bool) : Option ((List α × Int × Int × Int × Bool × Bool × Unit) ⊕ (List α × Unit) ⊕ Unit) :=
 match (ADS z c) (y2, a1, a2, ()) with
 | none => none
 | some (y3, y4, y5, _) => match (ieq y5 2) with
 | true => match (AXZ z c) (y3, a1, a2, ()) with
  | none => none
  | some (y6, _) => (ADa z c) self y6 a1 a2 (IntKind.wrap .i64 ((IntKind.wrap .i64 (a2 - 1)) - (IntKind.wrap .i64 (y4 - a1)))) 1 l a4 a5
 | false => (ADa z c) self y3 a1 a2 y4 y5 l a4 a5
def Nh [Lk] {α : Type} (z : α) (c : α × α × Unit → Option U8) (self : (List α × Int × Int × Int × Unit) → Option ((List α × Unit))) : (List α × Int × Int × Int × Bool × Bool × Unit) → Option ((List α × Int × Int × Int × Bool × Bool × Unit) ⊕ (List α × Unit) ⊕ Unit) := fun (a0, a1, a2, a3, a4, a5, _) =>
 match (ile (IntKind.wrap .i64 (a2 - a1)) 12) with
 | true => match (AYL z c) (a0, a1, a2, ()) with
  | none => none
  | some (y0, _) => some (.inr (.inl (y0, ())))
 | false => match (ieq a3 0) with
 | true => match (APx z c) (a0, a1, a2, ()) with
  | none => none
  | some (y1, _) => some (.inr (.inl (y1, ())))
 | false => match (!a4) with
 | true => match (AFb z c) (a0, a1, a2, ()) with
  | none => none
  | some (y2, _) => (ADZ z c) self y2 a1 a2 (IntKind.wrap .i64 (a3 - 1)) a4 a5
 | false => (ADZ z c) self a0 a1 a2 a3 a4 a5
def ADb [Lk] {α : Type} (z : α) (c : α × α × Unit → Option U8) (self : (List α × Int × Int × Int × Unit) → Option ((List α × Unit))) : (List α × Int × Int × Int × Unit) → Option ((List α × Unit)) := fun (a0, a1, a2, a3, _) =>
 match AY ((Nh z c) self) many (a0, a1, a2, a3, true, true, ()) with
 | none => none
 | some r => match r with
 | .inl (o0, _) => some (o0, ())
 | .inr _ => none
def Jz [Lk] {α : Type} (z : α) (c : α × α × Unit → Option U8) : Nat → (List α × Int × Int × Int × Unit) → Option ((List α × Unit))
 | 0, _ => none
 | n + 1, v => (ADb z c) ((Jz z c) n) v
def AXj [Lk] {α : Type} (z : α) (c : α × α × Unit → Option U8) (v : (List α × Int × Int × Int × Unit)) : Option ((List α × Unit)) := Lk.f ((Jz z c) 100 v)
theorem AXi {α : Type} (z : α) (c : α × α × Unit → Option U8) (v : (List α × Int × Int × Int × Unit)) : (AXj z c) v = (Jz z c) 100 v := AJ _
def Ti [Lk] {α : Type} (z : α) (c : α × α × Unit → Option U8) : (List α × Unit) → Option ((List α × Unit)) := fun (a0, _) =>
 match bitsLen ((IntKind.wrap .u64 (AM a0)), ()) with
 | none => none
 | some (y0, _) => match (AXj z c) (a0, 0, (AM a0), y0, ()) with
 | none => none
 | some (y1, _) => some (y1, ())
def AUF [Lk] {α : Type} (z : α) (c : α × α × Unit → Option U8) (v : (List α × Unit)) : Option ((List α × Unit)) := Lk.f ((Ti z c) v)
theorem AUE {α : Type} (z : α) (c : α × α × Unit → Option U8) (v : (List α × Unit)) : (AUF z c) v = (Ti z c) v := AJ _
abbrev ANW : AE := [(.tmp 0, .own 55 U4), (.tmp 1, .di), (.tmp 2, .di), (.tmp 3, .clo 204 [])]
abbrev ANV : AE := [(.obj 0, .own 55 U4)]
abbrev ANU : List RS := []
abbrev APn : AE := [(.obj 0, .own 55 U4), (.tmp 0, .own' 0), (.tmp 1, .di), (.tmp 2, .di), (.tmp 3, .clo 204 []), (.tmp 8, .di), (.tmp 9, .di)]
abbrev APl : Az := [(.exit 2, [(.obj 0, .own 55 U4), (.tmp 0, .own' 0), (.tmp 1, .di), (.tmp 2, .di), (.tmp 3, .clo 204 []), (.tmp 8, .di)])]
def APj [Lk] : Uf → Option (Uf ⊕ U7 ⊕ Unit) := Nz (([] : List (Int)) : U1) BC
abbrev APo : AE := [(.obj 0, .own 55 U4), (.tmp 0, .own' 0), (.tmp 1, .di), (.tmp 2, .di), (.tmp 3, .clo 204 []), (.tmp 8, .di)]
abbrev APm : Az := [(.exit 0, [(.obj 0, .own 55 U4)])]
def APk [Lk] : U7 → Option (U7 ⊕ Ui ⊕ Unit) := N0 (([] : List (Int)) : U1) BC
def AVr [Lk] : Ub → Option (Ui) := AEl (([] : List (Int)) : U1) BC
def AZY [Lk] (v : Ub) : Option (Ui) := AYL (([] : List (Int)) : U1) BC v
theorem AYD v : AZY v = AVr v := AJ _
abbrev ACv : AE := [(.tmp 0, .own 55 U4), (.tmp 1, .di), (.tmp 2, .di), (.tmp 3, .di), (.tmp 4, .clo 204 [])]
abbrev ACu : AE := [(.obj 0, .own 55 U4)]
abbrev ACt : List RS := []
abbrev AGk : AE := [(.obj 0, .own 55 U4), (.tmp 0, .own' 0), (.tmp 2, .di), (.tmp 3, .di), (.tmp 4, .clo 204 []), (.tmp 10, .di)]
abbrev AGj : Az := [(.exit 0, [(.obj 0, .own 55 U4)]), (.ret, [(.obj 0, .own 55 U4)])]
def AGi [Lk] : U7 → Option (U7 ⊕ Ui ⊕ Ui ⊕ Unit) := Jm (([] : List (Int)) : U1) BC
def APC [Lk] : U7 → Option (Ui) := Tk (([] : List (Int)) : U1) BC
def AUJ [Lk] (v : U7) : Option (Ui) := AGp (([] : List (Int)) : U1) BC v
theorem AUI v : AUJ v = APC v := AJ _
abbrev AEt : AE := [(.tmp 0, .own 55 U4), (.tmp 1, .di), (.tmp 2, .di), (.tmp 3, .clo 204 [])]
abbrev AEs : AE := [(.obj 0, .own 55 U4)]
abbrev AEr : List RS := []
abbrev AI8 : AE := [(.obj 0, .own 55 U4), (.tmp 0, .own' 0), (.tmp 3, .clo 204 []), (.tmp 8, .di), (.tmp 9, .di), (.tmp 12, .di)]
abbrev AI6 : Az := [(.exit 2, [(.obj 0, .own 55 U4)])]
def AI3 [Lk] : U7 → Option (U7 ⊕ Ui ⊕ Unit) := KN (([] : List (Int)) : U1) BC
abbrev AI9 : AE := [(.obj 0, .own 55 U4), (.tmp 0, .own' 0), (.tmp 3, .clo 204 []), (.tmp 8, .di), (.tmp 9, .di), (.tmp 10, .di), (.tmp 11, .di)]
abbrev AI7 : Az := [(.exit 0, [(.obj 0, .own 55 U4), (.tmp 0, .own' 0), (.tmp 3, .clo 204 []), (.tmp 8, .di), (.tmp 9, .di), (.tmp 10, .di)])]
def AI5 [Lk] : Uf → Option (Uf ⊕ U7 ⊕ Unit) := KO (([] : List (Int)) : U1) BC
def APw [Lk] : Ub → Option (Ui) := Tz (([] : List (Int)) : U1) BC
def AV7 [Lk] (v : Ub) : Option (Ui) := APx (([] : List (Int)) : U1) BC v
theorem AV6 v : AV7 v = APw v := AJ _
abbrev Yp : AE := [(.tmp 0, .own 55 U4), (.tmp 1, .di), (.tmp 2, .di), (.tmp 3, .clo 204 [])]
abbrev Yo : AE := [(.obj 0, .own 55 U4)]
abbrev Yn : List RS := []
abbrev ABk : AE := [(.obj 0, .own 55 U4), (.tmp 0, .own' 0), (.tmp 1, .di), (.tmp 8, .di), (.tmp 9, .box 1), (.cell 1 0, .dat (.int .u64)), (.tmp 10, .dat (.int .u64)), (.tmp 11, .di)]
abbrev ABj : Az := [(.exit 0, [(.obj 0, .own 55 U4)])]
def ABi [Lk] : Uo → Option (Uo ⊕ Ui ⊕ Unit) := GR (([] : List (Int)) : U1) BC
def AKA [Lk] : Ub → Option (Ui) := OZ (([] : List (Int)) : U1) BC
def AOX [Lk] (v : Ub) : Option (Ui) := AFb (([] : List (Int)) : U1) BC v
theorem ATO v : AOX v = AKA v := AJ _
abbrev QF : AE := [(.tmp 0, .own 55 U4), (.tmp 1, .di), (.tmp 2, .di), (.tmp 3, .box 1), (.cell 1 0, .di), (.tmp 4, .clo 204 [])]
abbrev QE : AE := [(.obj 0, .own 55 U4), (.obj 1, .box 1), (.cell 1 0, .di), (.tmp 0, .di), (.tmp 1, .di)]
abbrev QD : List RS := [.one, .one]
def ABF [Lk] : U7 → Option (U7) := LF (([] : List (Int)) : U1) BC
def ADt [Lk] (v : U7) : Option (U7) := LG (([] : List (Int)) : U1) BC v
theorem AMQ v : ADt v = ABF v := AJ _
abbrev QQ : AE := [(.tmp 0, .own 55 U4), (.tmp 1, .di), (.tmp 2, .di), (.tmp 3, .di), (.tmp 4, .box 1), (.cell 1 0, .di), (.tmp 5, .clo 204 [])]
abbrev QP : AE := [(.obj 0, .own 55 U4), (.obj 1, .box 1), (.cell 1 0, .di), (.tmp 0, .di)]
abbrev QO : List RS := [.one]
def ABH [Lk] : Uf → Option (Ub) := LK (([] : List (Int)) : U1) BC
def AD5 [Lk] (v : Uf) : Option (Ub) := LL (([] : List (Int)) : U1) BC v
theorem AMq v : AD5 v = ABH v := AJ _
abbrev QW : AE := [(.tmp 0, .own 55 U4), (.tmp 1, .di), (.tmp 2, .box 1), (.cell 1 0, .di), (.tmp 3, .clo 204 [])]
abbrev QV : AE := [(.obj 0, .own 55 U4), (.obj 1, .box 1), (.cell 1 0, .di), (.tmp 0, .di)]
abbrev QU : List RS := [.one]
def ABI [Lk] : Ub → Option (Ub) := LN (([] : List (Int)) : U1) BC
def AD8 [Lk] (v : Ub) : Option (Ub) := LO (([] : List (Int)) : U1) BC v
theorem AMs v : AD8 v = ABI v := AJ _
abbrev WR : AE := [(.tmp 0, .own 55 U4), (.tmp 1, .di), (.tmp 2, .di), (.tmp 3, .clo 204 [])]
abbrev WQ : AE := [(.obj 0, .own 55 U4), (.tmp 0, .di), (.tmp 1, .di)]
abbrev WO : List RS := [.one, .one]
def AHF [Lk] : Ub → Option (Ub) := Nd (([] : List (Int)) : U1) BC
def ALv [Lk] (v : Ub) : Option (Ub) := ADS (([] : List (Int)) : U1) BC v
theorem ARR v : ALv v = AHF v := AJ _
abbrev ALS : AE := [(.tmp 0, .own 55 U4), (.tmp 1, .di), (.tmp 2, .di), (.tmp 3, .clo 204 [])]
abbrev ALR : AE := [(.obj 0, .own 55 U4)]
abbrev ALQ : List RS := []
abbrev APH : AE := [(.obj 0, .own 55 U4), (.tmp 0, .own' 0), (.tmp 8, .di), (.tmp 9, .di)]
abbrev APG : Az := [(.exit 0, [(.obj 0, .own 55 U4)])]
def APF [Lk] : Ub → Option (Ub ⊕ Ui ⊕ Unit) := Tm (([] : List (Int)) : U1) BC
def AUT [Lk] : Ub → Option (Ui) := ADF (([] : List (Int)) : U1) BC
def AZE [Lk] (v : Ub) : Option (Ui) := AXZ (([] : List (Int)) : U1) BC v
theorem AXV v : AZE v = AUT v := AJ _
abbrev MS : AE := [(.tmp 0, .own 55 U4), (.tmp 1, .di), (.tmp 2, .di), (.tmp 3, .clo 204 [])]
abbrev MR : AE := [(.obj 0, .own 55 U4), (.tmp 0, .dat .bool)]
abbrev MQ : List RS := [.one]
abbrev SF : AE := [(.obj 0, .own 55 U4), (.tmp 0, .own' 0), (.tmp 1, .di), (.tmp 2, .di), (.tmp 3, .clo 204 []), (.tmp 9, .di), (.tmp 10, .di), (.tmp 12, .di)]
abbrev SA : Az := [(.exit 6, [(.obj 0, .own 55 U4), (.tmp 0, .own' 0), (.tmp 1, .di), (.tmp 2, .di), (.tmp 3, .clo 204 []), (.tmp 9, .di), (.tmp 10, .di)])]
def R6 [Lk] : Uo → Option (Uo ⊕ Uf ⊕ Unit) := FT (([] : List (Int)) : U1) BC
abbrev SH : AE := [(.obj 0, .own 55 U4), (.tmp 0, .own' 0), (.tmp 1, .di), (.tmp 2, .di), (.tmp 3, .clo 204 []), (.tmp 9, .di), (.tmp 10, .di), (.tmp 11, .di)]
abbrev SB : Az := [(.exit 4, [(.obj 0, .own 55 U4), (.tmp 0, .own' 0), (.tmp 1, .di), (.tmp 2, .di), (.tmp 3, .clo 204 []), (.tmp 9, .di), (.tmp 10, .di)])]
def R7 [Lk] : Uo → Option (Uo ⊕ Uf ⊕ Unit) := FU (([] : List (Int)) : U1) BC
abbrev SJ : AE := [(.obj 0, .own 55 U4), (.tmp 0, .own' 0), (.tmp 1, .di), (.tmp 2, .di), (.tmp 3, .clo 204 []), (.tmp 9, .di), (.tmp 10, .di)]
abbrev SC : Az := [(.exit 2, [(.obj 0, .own 55 U4), (.tmp 0, .own' 0), (.tmp 1, .di), (.tmp 2, .di), (.tmp 3, .clo 204 []), (.tmp 9, .di), (.tmp 10, .di)])]
def R8 [Lk] : Uf → Option (Uf ⊕ Uf ⊕ Unit) := HS (([] : List (Int)) : U1) BC
abbrev SK : AE := [(.obj 0, .own 55 U4), (.tmp 0, .own' 0), (.tmp 1, .di), (.tmp 2, .di), (.tmp 3, .clo 204 []), (.tmp 9, .di), (.tmp 10, .di)]
abbrev SD : Az := [(.ret, [(.obj 0, .own 55 U4), (.tmp 8, .dat .bool)]), (.exit 0, [(.obj 0, .own 55 U4)])]
def R9 [Lk] : Uf → Option (Uf ⊕ (List U1 × Bool × Unit) ⊕ Ui ⊕ Unit) := CU (([] : List (Int)) : U1) BC
def Wg [Lk] : Ub → Option ((List U1 × Bool × Unit)) := It (([] : List (Int)) : U1) BC
def Wh [Lk] (v : Ub) : Option ((List U1 × Bool × Unit)) := Ni (([] : List (Int)) : U1) BC v
theorem AHm v : Wh v = Wg v := AJ _
abbrev P9 : AE := [(.tmp 0, .own 55 U4), (.tmp 1, .di), (.tmp 2, .di), (.tmp 3, .di), (.tmp 4, .clo 204 [])]
abbrev P8 : AE := [(.obj 0, .own 55 U4), (.tmp 0, .di)]
abbrev P7 : List RS := [.one]
abbrev Ws : AE := [(.obj 0, .own 55 U4), (.tmp 0, .own' 0), (.tmp 1, .di), (.tmp 4, .clo 204 []), (.tmp 11, .di), (.tmp 12, .di)]
abbrev Wp : Az := [(.exit 4, [(.obj 0, .own 55 U4), (.tmp 0, .own' 0), (.tmp 1, .di), (.tmp 4, .clo 204 []), (.tmp 11, .di), (.tmp 12, .di)])]
def Wm [Lk] : U7 → Option V5 := Iu (([] : List (Int)) : U1) BC
abbrev Wt : AE := [(.obj 0, .own 55 U4), (.tmp 0, .own' 0), (.tmp 1, .di), (.tmp 4, .clo 204 []), (.tmp 11, .di), (.tmp 12, .di)]
abbrev Wq : Az := [(.exit 2, [(.obj 0, .own 55 U4), (.tmp 0, .own' 0), (.tmp 1, .di), (.tmp 4, .clo 204 []), (.tmp 11, .di), (.tmp 12, .di)])]
def Wn [Lk] : U7 → Option V5 := Iv (([] : List (Int)) : U1) BC
abbrev Wu : AE := [(.obj 0, .own 55 U4), (.tmp 0, .own' 0), (.tmp 1, .di), (.tmp 4, .clo 204 []), (.tmp 11, .di), (.tmp 12, .di)]
abbrev Wr : Az := [(.exit 0, [(.obj 0, .own 55 U4), (.tmp 11, .di)])]
def Wo [Lk] : U7 → Option (U7 ⊕ Uz ⊕ Unit) := Iw (([] : List (Int)) : U1) BC
def ABC [Lk] : U7 → Option (Uz) := LC (([] : List (Int)) : U1) BC
def ADo [Lk] (v : U7) : Option (Uz) := Tq (([] : List (Int)) : U1) BC v
theorem AMI v : ADo v = ABC v := AJ _
end
end Go.Pev
end
section
namespace Go.Pev
set_option maxRecDepth 100000
noncomputable section
attribute [local irreducible] KQ H0 Lr Jk ASe ASf ASg Na Pn TC VP RE AQ many IntKind.wrap AM Ak AS A8 Cv DE KU AG CR Cy imax AT Ah
abbrev ADf : AE := [(.tmp 0, .own 55 U4), (.tmp 1, .di), (.tmp 2, .di), (.tmp 3, .di), (.tmp 4, .clo 204 [])]
abbrev ADe : AE := [(.obj 0, .own 55 U4), (.tmp 0, .di), (.tmp 1, .dat .bool)]
abbrev ADd : List RS := [.one, .one]
abbrev AHZ : AE := [(.obj 0, .own 55 U4), (.tmp 0, .own' 0), (.tmp 1, .di), (.tmp 4, .clo 204 []), (.tmp 12, .di), (.tmp 13, .di)]
abbrev AHU : Az := [(.exit 8, [(.obj 0, .own 55 U4), (.tmp 0, .own' 0), (.tmp 1, .di), (.tmp 4, .clo 204 []), (.tmp 12, .di), (.tmp 13, .di)])]
def AHL [Lk] : U7 → Option V5 := Nk (([] : List (Int)) : U1) BC
abbrev AHa : AE := [(.obj 0, .own 55 U4), (.tmp 0, .own' 0), (.tmp 1, .di), (.tmp 4, .clo 204 []), (.tmp 12, .di), (.tmp 13, .di)]
abbrev AHV : Az := [(.exit 6, [(.obj 0, .own 55 U4), (.tmp 0, .own' 0), (.tmp 1, .di), (.tmp 4, .clo 204 []), (.tmp 12, .di), (.tmp 13, .di)])]
def AHN [Lk] : U7 → Option V5 := Nl (([] : List (Int)) : U1) BC
abbrev AHb : AE := [(.obj 0, .own 55 U4), (.tmp 0, .own' 0), (.tmp 1, .di), (.tmp 4, .clo 204 []), (.tmp 12, .di), (.tmp 13, .di)]
abbrev AHW : Az := [(.exit 4, [(.obj 0, .own 55 U4), (.tmp 0, .own' 0), (.tmp 1, .di), (.tmp 13, .di)])]
def AHP [Lk] : U7 → Option (U7 ⊕ Ub ⊕ Unit) := Nm (([] : List (Int)) : U1) BC
abbrev AHc : AE := [(.obj 0, .own 55 U4), (.tmp 0, .own' 0), (.tmp 1, .di), (.tmp 4, .clo 204 []), (.tmp 12, .di), (.tmp 13, .di)]
abbrev AHX : Az := [(.exit 2, [(.obj 0, .own 55 U4), (.tmp 0, .own' 0), (.tmp 1, .di), (.tmp 4, .clo 204 []), (.tmp 12, .di), (.tmp 13, .di)])]
def AHR [Lk] : U7 → Option V5 := Nn (([] : List (Int)) : U1) BC
abbrev AHd : AE := [(.obj 0, .own 55 U4), (.tmp 0, .own' 0), (.tmp 1, .di), (.tmp 4, .clo 204 []), (.tmp 12, .di), (.tmp 13, .di)]
abbrev AHY : Az := [(.exit 0, [(.obj 0, .own 55 U4), (.tmp 0, .own' 0), (.tmp 1, .di), (.tmp 4, .clo 204 []), (.tmp 12, .di), (.tmp 13, .di)])]
def AHT [Lk] : U7 → Option V5 := No (([] : List (Int)) : U1) BC
def APS [Lk] : U7 → Option ((List U1 × Int × Bool × Unit)) := Tp (([] : List (Int)) : U1) BC
def AU1 [Lk] (v : U7) : Option ((List U1 × Int × Bool × Unit)) := ABB (([] : List (Int)) : U1) BC v
theorem AU0 v : AU1 v = APS v := AJ _
abbrev WX : AE := [(.tmp 0, .own 55 U4), (.tmp 1, .di), (.tmp 2, .di), (.tmp 3, .di), (.tmp 4, .clo 204 [])]
abbrev WW : AE := [(.obj 0, .own 55 U4)]
abbrev WV : List RS := []
abbrev APP : AE := [(.obj 0, .own 55 U4), (.tmp 0, .own' 0), (.tmp 1, .di), (.tmp 2, .di), (.tmp 3, .di), (.tmp 4, .clo 204 []), (.tmp 10, .dat .bool), (.tmp 11, .dat .bool)]
abbrev APO : Az := [(.ret, [(.obj 0, .own 55 U4)])]
def APN [Lk] (self : U7 → Option (Ui)) : (List U1 × Int × Int × Int × Bool × Bool × Unit) → Option ((List U1 × Int × Int × Int × Bool × Bool × Unit) ⊕ Ui ⊕ Unit) := Nh (([] : List (Int)) : U1) BC self
def AZJ [Lk] (self : U7 → Option (Ui)) : U7 → Option (Ui) := ADb (([] : List (Int)) : U1) BC self
def WY [Lk] : Nat → U7 → Option (Ui) := Jz (([] : List (Int)) : U1) BC
def AXe [Lk] (v : U7) : Option (Ui) := AXj (([] : List (Int)) : U1) BC v
theorem AXd v : AXe v = WY 100 v := AJ _
abbrev ACo : AE := [(.tmp 0, .own 55 U4), (.tmp 1, .clo 204 [])]
abbrev ACn : AE := [(.obj 0, .own 55 U4)]
abbrev ACm : List RS := []
def APA [Lk] : Ui → Option (Ui) := Ti (([] : List (Int)) : U1) BC
def AGf [Lk] (v : Ui) : Option (Ui) := AUF (([] : List (Int)) : U1) BC v
theorem AUC v : AGf v = APA v := AJ _
abbrev ACE : AE := [(.tmp 0, .dat Uj), (.tmp 1, .dat U4), (.tmp 2, .dat Uc)]
abbrev ACD : AE := [(.tmp 0, .di), (.tmp 1, .own 55 U4)]
abbrev ACC : List RS := [.agg 2]
abbrev AGH : AE := [(.tmp 3, .box 2), (.cell 0 0, .di), (.cell 0 1, .dat Uc), (.tmp 6, .box 2), (.cell 1 0, .di), (.cell 1 1, .nil U4), (.tmp 7, .own 55 U4), (.tmp 29, .dat Uc), (.tmp 30, .di), (.tmp 31, .di)]
abbrev AGF : Az := [(.exit 2, [(.tmp 3, .box 2), (.cell 0 0, .di), (.cell 0 1, .dat Uc), (.tmp 6, .box 2), (.cell 1 0, .di), (.cell 1 1, .nil U4), (.tmp 7, .own 55 U4)])]
def GX [Lk] : (Int × List U1 × Int × List U1 × List U1 × Int × Int × Unit) → Option ((Int × List U1 × Int × List U1 × List U1 × Int × Int × Unit) ⊕ (Int × List U1 × Int × List U1 × Unit) ⊕ Unit) := fun (a0, a1, a2, a3, a4, a5, a6, _) =>
 match (ilt a6 a5) with
 | true => match idx a4 a6 with
  | none => none
  | some x0 => match VY (x0, ()) with
  | none => none
  | some (y1, _) => match (fits ((AM a3) + (AM ([y1] : List U1)))) with
  | true => some (.inl (a0, a1, a2, (A8 a3 ([y1] : List U1)), a4, a5, (IntKind.wrap .i64 (a6 + 1)), ()))
  | false => none
 | false => some (.inr (.inl (a0, a1, a2, a3, ())))
abbrev AGI : AE := [(.tmp 1, .dat U4), (.tmp 2, .dat Uc), (.tmp 3, .box 2), (.cell 0 0, .di), (.cell 0 1, .dat Uc), (.tmp 6, .box 2), (.cell 1 0, .di), (.cell 1 1, .nil U4), (.tmp 7, .own 55 U4), (.tmp 13, .dat Uc), (.tmp 14, .di), (.tmp 15, .di)]
abbrev AGG : Az := [(.exit 0, [(.tmp 2, .dat Uc), (.tmp 3, .box 2), (.cell 0 0, .di), (.cell 0 1, .dat Uc), (.tmp 6, .box 2), (.cell 1 0, .di), (.cell 1 1, .nil U4), (.tmp 7, .own 55 U4)])]
def GY [Lk] : V7 → Option (V7 ⊕ (List U1 × Int × List U1 × Int × List U1 × Unit) ⊕ Unit) := fun (a0, a1, a2, a3, a4, a5, a6, a7, a8, _) =>
 match (ilt a8 a7) with
 | true => match idx a6 a8 with
  | none => none
  | some x0 => match Ez (a0, a8, ()) with
  | none => none
  | some (y1, _) => match (!y1) with
  | true => match (fits ((AM a5) + (AM ([x0] : List U1)))) with
   | true => some (.inl (a0, a1, a2, a3, a4, (A8 a5 ([x0] : List U1)), a6, a7, (IntKind.wrap .i64 (a8 + 1)), ()))
   | false => none
  | false => some (.inl (a0, a1, a2, a3, a4, a5, a6, a7, (IntKind.wrap .i64 (a8 + 1)), ()))
 | false => some (.inr (.inl (a1, a2, a3, a4, a5, ())))
def Te [Lk] : (Ue × List Int × List U1 × Unit) → Option ((Int × List U1 × Unit)) := fun (a0, a1, a2, _) =>
 match AY GY many (a1, a2, a0.1, a0.2.1, 0, ([] : List U1), a0.2.1, (AM a0.2.1), 0, ()) with
 | none => none
 | some r => match r with
 | .inl (o0, o1, o2, o3, o4, _) => match AY GX many (o1, o2, o3, o4, o0, (AM o0), 0, ()) with
  | none => none
  | some r => match r with
  | .inl (o5, o6, o7, o8, _) => match AGf (o8, ()) with
   | none => none
   | some (y9, _) => some (o5, y9, ())
  | .inr _ => none
 | .inr _ => none
def AGK [Lk] := fun v => Lk.f (Te v)
theorem AGJ v : AGK v = Te v := AJ _
abbrev ACf : AE := [(.tmp 0, .dat Uj), (.tmp 1, .di), (.tmp 2, .di)]
abbrev ACe : AE := [(.tmp 0, .di), (.tmp 1, .dat Uc), (.tmp 2, .di)]
abbrev ACd : List RS := [.agg 2, .one]
def Fy [Lk] : (Ue × Int × Int × Unit) → Option (Uu) := fun (a0, a1, a2, _) =>
 match asked ((a0.1, (a0.2.1, ())), a1, a2, ()) with
 | none => none
 | some (y0, _) => match (!(ieq y0 0)) with
 | true => some (a0.1, a0.2.1, y0, ())
 | false => match PO ((a0.1, (a0.2.1, ())), a1, ()) with
 | none => none
 | some (y1, _) => match PO ((a0.1, (a0.2.1, ())), a2, ()) with
 | none => none
 | some (y2, _) => match (ieq y1 y2) with
 | true => some (a0.1, a0.2.1, 5, ())
 | false => match idx a0.2.1 y1 with
 | none => none
 | some x3 => match AA1 (x3, a1, ()) with
 | none => none
 | some (y4, y5, _) => match idx a0.2.1 y2 with
 | none => none
 | some x6 => match AA1 (x6, a2, ()) with
 | none => none
 | some (y7, y8, _) => match DY y4 0 1 with
 | none => none
 | some x9 => match AQw (a0.1, a1, a2, ()) with
 | none => none
 | some (y10, _) => match AQw (a0.1, a2, a1, ()) with
 | none => none
 | some (y11, _) => match DY y4 1 (AM y4) with
 | none => none
 | some x12 => match Hi (([(DE 0 (AG (AM x9)) y4), ([y10] : List (Int)), y7, ([y11] : List (Int)), (DE 1 (AG (AM x12)) y4)] : List U1), ()) with
 | none => none
 | some (y13, _) => match AGK ((a0.1, (a0.2.1, ())), ([y1, y2] : List (Int)), ([y13] : List U1), ()) with
 | none => none
 | some (y14, y15, _) => some (y14, y15, 0, ())
def Jj [Lk] := fun v => Lk.f (Fy v)
theorem Gf v : Jj v = Fy v := AJ _
abbrev Ev : AE := [(.tmp 0, .dat U4), (.cap 1 0, .box 2), (.cell 0 0, .di), (.cell 0 1, .dat Uc), (.tmp 1, .clo 155 [(0, 0)])]
abbrev Eu : AE := [(.obj 0, .box 2), (.cell 0 0, .di), (.cell 0 1, .dat Uc), (.tmp 0, .di)]
abbrev Et : List RS := [.one]
abbrev Ha : AE := [(.obj 0, .box 2), (.cell 0 0, .di), (.cell 0 1, .dat Uc), (.tmp 0, .dat U4), (.tmp 1, .clo 155 [(0, 0)]), (.tmp 7, .di), (.tmp 8, .di)]
abbrev HZ : Az := [(.ret, [(.obj 0, .box 2), (.cell 0 0, .di), (.cell 0 1, .dat Uc), (.tmp 4, .di)]), (.exit 0, [(.obj 0, .box 2), (.cell 0 0, .di), (.cell 0 1, .dat Uc)])]
def BX [Lk] : (Int × List U1 × List Int × Int × Int × Unit) → Option ((Int × List U1 × List Int × Int × Int × Unit) ⊕ Uu ⊕ (Int × List U1 × Unit) ⊕ Unit) := fun (a0, a1, a2, a3, a4, _) =>
 match (ilt a4 a3) with
 | true => match idx a2 a4 with
  | none => none
  | some x0 => match (ilt x0 0) with
  | true => some (.inr (.inl (a0, a1, a4, ())))
  | false => match (ile a0 x0) with
  | true => some (.inr (.inl (a0, a1, a4, ())))
  | false => some (.inl (a0, a1, a2, a3, (IntKind.wrap .i64 (a4 + 1)), ()))
 | false => some (.inr (.inr (.inl (a0, a1, ()))))
def DP [Lk] : (List Int × Int × List U1 × Unit) → Option (Uu) := fun (a0, a1, a2, _) =>
 match AY BX many (a1, a2, a0, (AM a0), 0, ()) with
 | none => none
 | some r => match r with
 | .inl (o0, o1, o2, _) => some (o0, o1, o2, ())
 | .inr r => match r with
 | .inl (o3, o4, _) => some (o3, o4, (-1 : Int), ())
 | .inr _ => none
def EU [Lk] := fun v => Lk.f (DP v)
theorem Hb v : EU v = DP v := AJ _
abbrev EZ : AE := [(.tmp 0, .dat U4), (.cap 1 0, .box 2), (.cell 0 0, .di), (.cell 0 1, .dat Uc), (.tmp 1, .clo 155 [(0, 0)])]
abbrev EY : AE := [(.obj 0, .box 2), (.cell 0 0, .di), (.cell 0 1, .dat Uc), (.tmp 0, .dat .bool)]
abbrev EX : List RS := [.one]
def Cw [Lk] : (List Int × Int × List U1 × Unit) → Option ((Int × List U1 × Bool × Unit)) := fun (a0, a1, a2, _) =>
 match EU (a0, a1, a2, ()) with
 | none => none
 | some (y0, y1, y2, _) => some (y0, y1, (ile 0 y2), ())
def Cl [Lk] := fun v => Lk.f (Cw v)
theorem G4 v : Cl v = Cw v := AJ _
abbrev X6 : AE := [(.tmp 0, .dat Uj), (.tmp 1, .dat U4)]
abbrev X5 : AE := [(.tmp 0, .di)]
abbrev X4 : List RS := [.one]
def OD [Lk] : (Ue × List Int × Unit) → Option (U8) := fun (a0, a1, _) =>
 match PM ((a0.1, (a0.2.1, ())), ()) with
 | none => none
 | some (y0, _) => match (!y0) with
 | true => some (1, ())
 | false => match Cl (a1, a0.1, a0.2.1, ()) with
 | none => none
 | some (y1, y2, y3, _) => match y3 with
 | true => some (10, ())
 | false => some (0, ())
def Ms [Lk] := fun v => Lk.f (OD v)
theorem ABa v : Ms v = OD v := AJ _
abbrev AN2 : AE := [(.tmp 0, .dat Ux)]
abbrev AN1 : AE := [(.tmp 0, .own 3 U0)]
abbrev AN0 : List RS := [.one]
abbrev AP7 : AE := [(.tmp 3, .own 3 U0), (.tmp 6, .dat Ux), (.tmp 7, .di), (.tmp 8, .di)]
abbrev AP6 : Az := [(.exit 0, [(.tmp 3, .own 3 U0)])]
def JB [Lk] : (List Int × List U5 × Int × Int × Unit) → Option ((List Int × List U5 × Int × Int × Unit) ⊕ Ua ⊕ Unit) := fun (a0, a1, a2, a3, _) =>
 match (ilt a3 a2) with
 | true => match idx a1 a3 with
  | none => none
  | some x0 => match (fits ((AM a0) + (AM ([x0.1, x0.2.1] : List (Int))))) with
  | true => some (.inl ((A8 a0 ([x0.1, x0.2.1] : List (Int))), a1, a2, (IntKind.wrap .i64 (a3 + 1)), ()))
  | false => none
 | false => some (.inr (.inl (a0, ())))
def AFB [Lk] : Uv → Option (Ua) := fun (a0, _) =>
 match AY JB many (([] : List (Int)), a0, (AM a0), 0, ()) with
 | none => none
 | some r => match r with
 | .inl (o0, _) => some (o0, ())
 | .inr _ => none
def ends [Lk] := fun v => Lk.f (AFB v)
theorem AP8 v : ends v = AFB v := AJ _
abbrev Mz : AE := [(.tmp 0, .dat Uj), (.tmp 1, .dat Ux), (.tmp 2, .clo 161 [])]
abbrev My : AE := [(.tmp 0, .dat Uj), (.tmp 1, .own 4 .bool), (.tmp 2, .di)]
abbrev Mx : List RS := [.one, .one, .one]
abbrev Sm : AE := [(.tmp 2, .clo 161 []), (.tmp 3, .box 2), (.cell 0 0, .di), (.cell 0 1, .dat Uc), (.tmp 6, .box 2), (.cell 1 0, .di), (.cell 1 1, .nil U4), (.tmp 10, .own 4 .bool), (.tmp 23, .dat Ux), (.tmp 24, .di), (.tmp 25, .di)]
abbrev Sl : Az := [(.exit 0, [(.tmp 3, .box 2), (.cell 0 0, .di), (.cell 0 1, .dat Uc), (.tmp 6, .box 2), (.cell 1 0, .di), (.cell 1 1, .nil U4), (.tmp 10, .own 4 .bool)])]
def Bo [Lk] : (Int × List U1 × Int × List Bool × List U5 × Int × Int × Unit) → Option ((Int × List U1 × Int × List Bool × List U5 × Int × Int × Unit) ⊕ (Int × List U1 × Int × List Bool × Unit) ⊕ Unit) := fun (a0, a1, a2, a3, a4, a5, a6, _) =>
 match (ilt a6 a5) with
 | true => match idx a4 a6 with
  | none => none
  | some x0 => match Jj ((a0, (a1, ())), x0.1, x0.2.1, ()) with
  | none => none
  | some (y1, y2, y3, _) => match (fits ((AM a3) + (AM ([(ieq y3 0)] : List (Bool))))) with
  | true => some (.inl (y1, y2, a2, (A8 a3 ([(ieq y3 0)] : List (Bool))), a4, a5, (IntKind.wrap .i64 (a6 + 1)), ()))
  | false => none
 | false => some (.inr (.inl (a0, a1, a2, a3, ())))
def G3 [Lk] : (Ue × List U5 × Unit) → Option ((Ue × List Bool × Int × Unit)) := fun (a0, a1, _) =>
 match ends (a1, ()) with
 | none => none
 | some (y0, _) => match Ms ((a0.1, (a0.2.1, ())), y0, ()) with
 | none => none
 | some (y1, _) => match (!(ieq y1 0)) with
 | true => some ((a0.1, (a0.2.1, ())), ([] : List (Bool)), y1, ())
 | false => match AY Bo many (a0.1, a0.2.1, 0, ([] : List (Bool)), a1, (AM a1), 0, ()) with
 | none => none
 | some r => match r with
 | .inl (o2, o3, o4, o5, _) => some ((o2, (o3, ())), o5, 0, ())
 | .inr _ => none
def OK [Lk] := fun v => Lk.f (G3 v)
theorem KT v : OK v = G3 v := AJ _
abbrev YC : AE := [(.tmp 0, .dat Uj), (.tmp 1, .dat Ux)]
abbrev YB : AE := [(.tmp 0, .dat Uj), (.tmp 1, .own 4 .bool), (.tmp 2, .di)]
abbrev YA : List RS := [.one, .one, .one]
def KP [Lk] : (Ue × List U5 × Unit) → Option ((Ue × List Bool × Int × Unit)) := fun (a0, a1, _) =>
 match OK ((a0.1, (a0.2.1, ())), a1, ()) with
 | none => none
 | some (y0, y1, y2, _) => some ((y0.1, (y0.2.1, ())), y1, y2, ())
def AE4 [Lk] := fun v => Lk.f (KP v)
theorem Q2 v : AE4 v = KP v := AJ _
abbrev AWR : AE := [(.tmp 0, .di), (.tmp 1, .dat Ux)]
abbrev AWQ : AE := [(.tmp 0, .dat Uj), (.tmp 1, .di)]
abbrev AWP : List RS := [.one, .one]
def AJV [Lk] : (Int × List U5 × Unit) → Option (V0) := fun (a0, a1, _) =>
 match AGc (a0, ()) with
 | none => none
 | some (y0, y1, y2, _) => match (!(ieq y2 0)) with
 | true => some ((0, (([] : List U1), ())), y2, ())
 | false => match AE4 ((y0, (y1, ())), a1, ()) with
 | none => none
 | some (y3, y4, y5, _) => match (!(ieq y5 0)) with
 | true => some ((0, (([] : List U1), ())), y5, ())
 | false => some ((y3.1, (y3.2.1, ())), 0, ())
def fof [Lk] := fun v => Lk.f (AJV v)
theorem ANt v : fof v = AJV v := AJ _
abbrev AVK : AE := [(.tmp 0, .dat U4)]
abbrev AVI : AE := [(.tmp 0, .di)]
abbrev AVG : List RS := [.one]
abbrev AVJ : AE := [(.tmp 3, .di), (.tmp 6, .dat U4), (.tmp 7, .di), (.tmp 8, .di)]
abbrev AVH : Az := [(.ret, [(.tmp 2, .di)]), (.exit 0, [(.tmp 3, .di)])]
def MW [Lk] : (Int × List Int × Int × Int × Unit) → Option ((Int × List Int × Int × Int × Unit) ⊕ U8 ⊕ U8 ⊕ Unit) := fun (a0, a1, a2, a3, _) =>
 match (ilt a3 a2) with
 | true => match idx a1 a3 with
  | none => none
  | some x0 => match (!(ieq x0 a0)) with
  | true => some (.inr (.inl (x0, ())))
  | false => some (.inl (a0, a1, a2, (IntKind.wrap .i64 (a3 + 1)), ()))
 | false => some (.inr (.inr (.inl (a0, ()))))
def APT [Lk] : Ua → Option (U8) := fun (a0, _) =>
 match AY MW many (0, a0, (AM a0), 0, ()) with
 | none => none
 | some r => match r with
 | .inl (o0, _) => some (o0, ())
 | .inr r => match r with
 | .inl (o1, _) => some (o1, ())
 | .inr _ => none
def orI [Lk] := fun v => Lk.f (APT v)
theorem AVM v : orI v = APT v := AJ _
abbrev XJ : AE := [(.tmp 0, .di)]
abbrev XI : AE := [(.tmp 0, .dat .bool)]
abbrev XH : List RS := [.one]
def KD [Lk] : U8 → Option (Uh) := fun (a0, _) =>
 match (ile 1 a0) with
 | true => some ((ile a0 64), ())
 | false => some (false, ())
def Qc [Lk] := fun v => Lk.f (KD v)
theorem Qb v : Qc v = KD v := AJ _
abbrev AMz : AE := [(.tmp 0, .di)]
abbrev AMy : AE := [(.tmp 0, .di)]
abbrev AMx : List RS := [.one]
def AM0 [Lk] : U8 → Option (U8) := fun (a0, _) =>
 match Qc (a0, ()) with
 | none => none
 | some (y0, _) => match (!y0) with
 | true => some (0, ())
 | false => match bitsLen ((IntKind.wrap .u64 (IntKind.wrap .i64 (a0 - 1))), ()) with
 | none => none
 | some (y1, _) => some (y1, ())
def XG [Lk] := fun v => Lk.f (AM0 v)
theorem AXv v : XG v = AM0 v := AJ _
abbrev Mh : AE := [(.tmp 0, .dat V3), (.tmp 1, .dat V3)]
abbrev Mg : AE := [(.tmp 0, .di)]
abbrev Mf : List RS := [.one]
def I7 [Lk] : (U2 × U2 × Unit) → Option (U8) := fun (a0, a1, _) =>
 match G7 (a0.1, a1.1, ()) with
 | none => none
 | some (y0, _) => match G7 (a0.2.1, a1.2.1, ()) with
 | none => none
 | some (y1, _) => match orI (([y0, y1] : List (Int)), ()) with
 | none => none
 | some (y2, _) => some (y2, ())
def FY [Lk] := fun v => Lk.f (I7 v)
theorem Sd v : FY v = I7 v := AJ _
abbrev XE : AE := [(.tmp 0, .dat Ul), (.tmp 1, .di)]
abbrev XD : AE := [(.tmp 0, .own 42 U9)]
abbrev XC : List RS := [.one]
abbrev ABK : AE := [(.tmp 1, .di), (.tmp 5, .own 42 U9), (.tmp 9, .dat U3), (.tmp 10, .di), (.tmp 11, .di)]
abbrev ABJ : Az := [(.exit 0, [(.tmp 5, .own 42 U9)])]
def CO [Lk] : (Int × List U5 × List U2 × Int × Int × Unit) → Option ((Int × List U5 × List U2 × Int × Int × Unit) ⊕ Uv ⊕ Unit) := fun (a0, a1, a2, a3, a4, _) =>
 match (ilt a4 a3) with
 | true => match idx a2 a4 with
  | none => none
  | some x0 => match x0.2.2.2.1 with
  | true => match (ile a0 x0.2.2.1) with
   | true => match (fits ((AM a1) + (AM ([(x0.1, (x0.2.1, ()))] : List U5)))) with
    | true => some (.inl (a0, (A8 a1 ([(x0.1, (x0.2.1, ()))] : List U5)), a2, a3, (IntKind.wrap .i64 (a4 + 1)), ()))
    | false => none
   | false => some (.inl (a0, a1, a2, a3, (IntKind.wrap .i64 (a4 + 1)), ()))
  | false => some (.inl (a0, a1, a2, a3, (IntKind.wrap .i64 (a4 + 1)), ()))
 | false => some (.inr (.inl (a1, ())))
def KB [Lk] : (Uk × Int × Unit) → Option (Uv) := fun (a0, a1, _) =>
 match AY CO many (a1, ([] : List U5), a0.2.1, (AM a0.2.1), 0, ()) with
 | none => none
 | some r => match r with
 | .inl (o0, _) => some (o0, ())
 | .inr _ => none
def Ma [Lk] := fun v => Lk.f (KB v)
theorem Qa v : Ma v = KB v := AJ _
abbrev XM : AE := [(.tmp 0, .dat Ul)]
abbrev XL : AE := [(.tmp 0, .dat .bool)]
abbrev XK : List RS := [.one]
abbrev ABM : AE := [(.tmp 1, .box 2), (.cell 0 0, .di), (.cell 0 1, .dat U3), (.tmp 3, .di), (.tmp 23, .dat U3), (.tmp 24, .di), (.tmp 25, .di)]
abbrev ABL : Az := [(.ret, [(.tmp 2, .dat .bool)]), (.exit 0, [(.tmp 1, .box 2), (.cell 0 0, .di), (.cell 0 1, .dat U3)])]
def DM [Lk] : (Int × List U2 × Int × List U2 × Int × Int × Unit) → Option ((Int × List U2 × Int × List U2 × Int × Int × Unit) ⊕ Uh ⊕ (Int × List U2 × Unit) ⊕ Unit) := fun (a0, a1, a2, a3, a4, a5, _) =>
 match (ilt a5 a4) with
 | true => match idx a3 a5 with
  | none => none
  | some x0 => match (ilt x0.1 0) with
  | true => some (.inr (.inl (false, ())))
  | false => match (ile x0.2.1 x0.1) with
  | true => some (.inr (.inl (false, ())))
  | false => match (ile a0 x0.2.1) with
  | true => some (.inr (.inl (false, ())))
  | false => match (ilt x0.2.2.1 0) with
  | true => some (.inr (.inl (false, ())))
  | false => match (ilt a2 x0.2.2.1) with
  | true => some (.inr (.inl (false, ())))
  | false => match (ilt 0 a5) with
  | true => match idx a1 (IntKind.wrap .i64 (a5 - 1)) with
   | none => none
   | some x1 => match FY ((x1.1, (x1.2.1, (x1.2.2.1, (x1.2.2.2.1, ())))), (x0.1, (x0.2.1, (x0.2.2.1, (x0.2.2.2.1, ())))), ()) with
   | none => none
   | some (y2, _) => match (ile 0 y2) with
   | true => some (.inr (.inl (false, ())))
   | false => some (.inl (a0, a1, a2, a3, a4, (IntKind.wrap .i64 (a5 + 1)), ()))
  | false => some (.inl (a0, a1, a2, a3, a4, (IntKind.wrap .i64 (a5 + 1)), ()))
 | false => some (.inr (.inr (.inl (a0, a1, ()))))
def Gq [Lk] : (Uk × Unit) → Option (Uh) := fun (a0, _) =>
 match Qc (a0.1, ()) with
 | none => none
 | some (y0, _) => match (!y0) with
 | true => some (false, ())
 | false => match (ilt 400 (AM a0.2.1)) with
 | true => some (false, ())
 | false => match XG (a0.1, ()) with
 | none => none
 | some (y1, _) => match AY DM many (a0.1, a0.2.1, y1, a0.2.1, (AM a0.2.1), 0, ()) with
 | none => none
 | some r => match r with
 | .inl (o2, _) => some (o2, ())
 | .inr r => match r with
 | .inl (o3, o4, _) => match Ma ((o3, (o4, ())), 0, ()) with
  | none => none
  | some (y5, _) => match fof (o3, y5, ()) with
  | none => none
  | some (y6, y7, _) => match (ieq y7 0) with
  | true => some ((ieq (AM y6.2.1) (IntKind.wrap .i64 (o3 - (AM y5)))), ())
  | false => some (false, ())
 | .inr _ => none
def Fl [Lk] := fun v => Lk.f (Gq v)
theorem IF v : Fl v = Gq v := AJ _
abbrev Xe : AE := [(.tmp 0, .dat Ul)]
abbrev Xd : AE := [(.tmp 0, .own 42 U9)]
abbrev Xc : List RS := [.one]
abbrev ABO : AE := [(.tmp 3, .own 42 U9), (.tmp 10, .dat U3), (.tmp 11, .di), (.tmp 12, .di)]
abbrev ABN : Az := [(.exit 0, [(.tmp 3, .own 42 U9)])]
def Qp [Lk] : (List U5 × List U2 × Int × Int × Unit) → Option ((List U5 × List U2 × Int × Int × Unit) ⊕ Uv ⊕ Unit) := fun (a0, a1, a2, a3, _) =>
 match (ilt a3 a2) with
 | true => match idx a1 a3 with
  | none => none
  | some x0 => match (fits ((AM a0) + (AM ([(x0.1, (x0.2.1, ()))] : List U5)))) with
  | true => some (.inl ((A8 a0 ([(x0.1, (x0.2.1, ()))] : List U5)), a1, a2, (IntKind.wrap .i64 (a3 + 1)), ()))
  | false => none
 | false => some (.inr (.inl (a0, ())))
def Xg [Lk] : (Uk × Unit) → Option (Uv) := fun (a0, _) =>
 match Fl ((a0.1, (a0.2.1, ())), ()) with
 | none => none
 | some (y0, _) => match (!y0) with
 | true => some (([] : List U5), ())
 | false => match AY Qp many (([] : List U5), a0.2.1, (AM a0.2.1), 0, ()) with
 | none => none
 | some r => match r with
 | .inl (o1, _) => some (o1, ())
 | .inr _ => none
def AEd [Lk] := fun v => Lk.f (Xg v)
theorem ASS v : AEd v = Xg v := AJ _
abbrev Kd : AE := [(.tmp 0, .di), (.tmp 1, .dat Ux)]
abbrev Kc : AE := [(.tmp 0, .own 3 U0)]
abbrev Kb : List RS := [.one]
abbrev OU : AE := [(.tmp 0, .di), (.tmp 1, .dat Ux), (.tmp 5, .own 3 U0), (.tmp 7, .dat .bool), (.tmp 8, .di)]
abbrev OR : Az := [(.exit 4, [(.tmp 0, .di), (.tmp 1, .dat Ux), (.tmp 5, .own 3 U0), (.tmp 7, .dat .bool)])]
def Cg [Lk] : (Int × List U5 × List Int × Bool × Int × Unit) → Option ((Int × List U5 × List Int × Bool × Int × Unit) ⊕ V8 ⊕ Unit) := fun (a0, a1, a2, a3, a4, _) =>
 match (ilt a4 (AM a1)) with
 | true => match idx a1 a4 with
  | none => none
  | some x0 => match idx a1 a4 with
  | none => none
  | some x1 => match (ilt x0.1 0) with
  | true => some (.inl (a0, a1, a2, a3, (IntKind.wrap .i64 (a4 + 1)), ()))
  | false => match (ilt x1.2.1 0) with
  | true => some (.inl (a0, a1, a2, a3, (IntKind.wrap .i64 (a4 + 1)), ()))
  | false => match (ile a0 x0.1) with
  | true => some (.inl (a0, a1, a2, a3, (IntKind.wrap .i64 (a4 + 1)), ()))
  | false => match (ile a0 x1.2.1) with
  | true => some (.inl (a0, a1, a2, a3, (IntKind.wrap .i64 (a4 + 1)), ()))
  | false => match idx a2 x0.1 with
  | none => none
  | some x2 => match idx a2 x1.2.1 with
  | none => none
  | some x3 => match (ieq (AS a2 (AG x0.1) 0) (AS a2 (AG x1.2.1) 0)) with
  | true => some (.inl (a0, a1, a2, a3, (IntKind.wrap .i64 (a4 + 1)), ()))
  | false => match idx a2 x0.1 with
  | none => none
  | some x4 => match idx a2 x1.2.1 with
  | none => none
  | some x5 => match idx a2 x0.1 with
  | none => none
  | some x6 => match idx (Ak a2 (AG x0.1) (Cy (AS a2 (AG x0.1) 0) (AS a2 (AG x1.2.1) 0))) x1.2.1 with
  | none => none
  | some x7 => some (.inl (a0, a1, (Ak (Ak a2 (AG x0.1) (Cy (AS a2 (AG x0.1) 0) (AS a2 (AG x1.2.1) 0))) (AG x1.2.1) (Cy (AS a2 (AG x0.1) 0) (AS a2 (AG x1.2.1) 0))), true, (IntKind.wrap .i64 (a4 + 1)), ()))
 | false => some (.inr (.inl (a0, a1, a2, a3, ())))
abbrev OV : AE := [(.tmp 0, .di), (.tmp 1, .dat Ux), (.tmp 5, .own 3 U0), (.tmp 7, .dat .bool)]
abbrev OS : Az := [(.exit 2, [(.tmp 5, .own 3 U0)])]
def DQ [Lk] : V8 → Option (V8 ⊕ Ua ⊕ Unit) := fun (a0, a1, a2, a3, _) =>
 match a3 with
 | true => match AY Cg many (a0, a1, a2, false, 0, ()) with
  | none => none
  | some r => match r with
  | .inl (o0, o1, o2, o3, _) => some (.inl (o0, o1, o2, o3, ()))
  | .inr _ => none
 | false => some (.inr (.inl (a2, ())))
abbrev OW : AE := [(.tmp 0, .di), (.tmp 1, .dat Ux), (.tmp 5, .own 3 U0), (.tmp 6, .di)]
abbrev OT : Az := [(.exit 0, [(.tmp 0, .di), (.tmp 1, .dat Ux), (.tmp 5, .own 3 U0)])]
def Ch [Lk] : (Int × List U5 × List Int × Int × Unit) → Option ((Int × List U5 × List Int × Int × Unit) ⊕ (Int × List U5 × List Int × Unit) ⊕ Unit) := fun (a0, a1, a2, a3, _) =>
 match (ilt a3 a0) with
 | true => match (fits ((AM a2) + (AM ([a3] : List (Int))))) with
  | true => some (.inl (a0, a1, (A8 a2 ([a3] : List (Int))), (IntKind.wrap .i64 (a3 + 1)), ()))
  | false => none
 | false => some (.inr (.inl (a0, a1, a2, ())))
def Hj [Lk] : (Int × List U5 × Unit) → Option (Ua) := fun (a0, a1, _) =>
 match AY Ch many (a0, a1, ([] : List (Int)), 0, ()) with
 | none => none
 | some r => match r with
 | .inl (o0, o1, o2, _) => match AY DQ many (o0, o1, o2, true, ()) with
  | none => none
  | some r => match r with
  | .inl (o3, _) => some (o3, ())
  | .inr _ => none
 | .inr _ => none
def GQ [Lk] := fun v => Lk.f (Hj v)
theorem OX v : GQ v = Hj v := AJ _
abbrev ACU : AE := [(.tmp 0, .di)]
abbrev ACT : AE := [(.tmp 0, .di)]
abbrev ACS : List RS := [.one]
abbrev AGW : AE := [(.tmp 3, .di), (.tmp 4, .di)]
abbrev AGV : Az := [(.exit 0, [(.tmp 3, .di)])]
def VG [Lk] : U5 → Option (U5 ⊕ U8 ⊕ Unit) := fun (a0, a1, _) =>
 match (ilt 0 a1) with
 | true => match quo? .i64 a1 2 with
  | none => none
  | some x0 => some (.inl ((IntKind.wrap .i64 (a0 + 1)), x0, ()))
 | false => some (.inr (.inl (a0, ())))
def ACW [Lk] : U8 → Option (U8) := fun (a0, _) =>
 match (ilt a0 1) with
 | true => some (0, ())
 | false => match (ilt 64 a0) with
 | true => some (0, ())
 | false => match AY VG many (0, (IntKind.wrap .i64 (a0 - 1)), ()) with
 | none => none
 | some r => match r with
 | .inl (o0, _) => some (o0, ())
 | .inr _ => none
def Lw [Lk] := fun v => Lk.f (ACW v)
theorem ATy v : Lw v = ACW v := AJ _
abbrev Pd : AE := [(.tmp 0, .dat Ul)]
abbrev Pc : AE := [(.tmp 0, .dat .bool)]
abbrev Pb : List RS := [.one]
abbrev Vf : AE := [(.tmp 1, .box 2), (.cell 0 0, .di), (.cell 0 1, .dat U3), (.tmp 3, .own 42 U9), (.tmp 6, .own 3 U0), (.tmp 7, .di), (.tmp 8, .di)]
abbrev Vd : Az := [(.exit 2, [(.tmp 1, .box 2), (.cell 0 0, .di), (.cell 0 1, .dat U3), (.tmp 3, .own 42 U9), (.tmp 7, .di)])]
def C6 [Lk] : (Int × List U2 × List U5 × List Int × Int × Int × Unit) → Option ((Int × List U2 × List U5 × List Int × Int × Int × Unit) ⊕ V9 ⊕ Unit) := fun (a0, a1, a2, a3, a4, a5, _) =>
 match (ilt a5 a0) with
 | true => match idx a3 a5 with
  | none => none
  | some x0 => match (ieq (AS a3 (AG a5) 0) a5) with
  | true => some (.inl (a0, a1, a2, a3, (IntKind.wrap .i64 (a4 + 1)), (IntKind.wrap .i64 (a5 + 1)), ()))
  | false => some (.inl (a0, a1, a2, a3, a4, (IntKind.wrap .i64 (a5 + 1)), ()))
 | false => some (.inr (.inl (a0, a1, a2, a4, ())))
abbrev Vg : AE := [(.tmp 1, .box 2), (.cell 0 0, .di), (.cell 0 1, .dat U3), (.tmp 3, .own 42 U9), (.tmp 4, .di)]
abbrev Ve : Az := [(.ret, [(.tmp 2, .dat .bool)]), (.exit 0, [(.tmp 1, .box 2), (.cell 0 0, .di), (.cell 0 1, .dat U3), (.tmp 3, .own 42 U9)])]
def CX [Lk] : V9 → Option (V9 ⊕ Uh ⊕ (Int × List U2 × List U5 × Unit) ⊕ Unit) := fun (a0, a1, a2, a3, _) =>
 match (ilt a3 (AM a1)) with
 | true => match idx a1 a3 with
  | none => none
  | some x0 => match (ilt x0.1 0) with
  | true => some (.inr (.inl (false, ())))
  | false => match (ile x0.2.1 x0.1) with
  | true => some (.inr (.inl (false, ())))
  | false => match (ile a0 x0.2.1) with
  | true => some (.inr (.inl (false, ())))
  | false => match (ilt x0.2.2.1 0) with
  | true => some (.inr (.inl (false, ())))
  | false => match Lw (a0, ()) with
  | none => none
  | some (y1, _) => match (ilt y1 x0.2.2.1) with
  | true => some (.inr (.inl (false, ())))
  | false => match (ilt 0 a3) with
  | true => match idx a1 (IntKind.wrap .i64 (a3 - 1)) with
   | none => none
   | some x2 => match (ilt x0.1 x2.1) with
   | true => some (.inr (.inl (false, ())))
   | false => match idx a1 (IntKind.wrap .i64 (a3 - 1)) with
   | none => none
   | some x3 => match (ieq x3.1 x0.1) with
   | true => match idx a1 (IntKind.wrap .i64 (a3 - 1)) with
    | none => none
    | some x4 => match (ile x0.2.1 x4.2.1) with
    | true => some (.inr (.inl (false, ())))
    | false => match x0.2.2.2.1 with
    | true => match (fits ((AM a2) + (AM ([(x0.1, (x0.2.1, ()))] : List U5)))) with
     | true => some (.inl (a0, a1, (A8 a2 ([(x0.1, (x0.2.1, ()))] : List U5)), (IntKind.wrap .i64 (a3 + 1)), ()))
     | false => none
    | false => some (.inl (a0, a1, a2, (IntKind.wrap .i64 (a3 + 1)), ()))
   | false => match x0.2.2.2.1 with
   | true => match (fits ((AM a2) + (AM ([(x0.1, (x0.2.1, ()))] : List U5)))) with
    | true => some (.inl (a0, a1, (A8 a2 ([(x0.1, (x0.2.1, ()))] : List U5)), (IntKind.wrap .i64 (a3 + 1)), ()))
    | false => none
   | false => some (.inl (a0, a1, a2, (IntKind.wrap .i64 (a3 + 1)), ()))
  | false => match x0.2.2.2.1 with
  | true => match (fits ((AM a2) + (AM ([(x0.1, (x0.2.1, ()))] : List U5)))) with
   | true => some (.inl (a0, a1, (A8 a2 ([(x0.1, (x0.2.1, ()))] : List U5)), (IntKind.wrap .i64 (a3 + 1)), ()))
   | false => none
  | false => some (.inl (a0, a1, a2, (IntKind.wrap .i64 (a3 + 1)), ()))
 | false => some (.inr (.inr (.inl (a0, a1, a2, ()))))
def D4 [Lk] : (Uk × Unit) → Option (Uh) := fun (a0, _) =>
 match (ilt a0.1 1) with
 | true => some (false, ())
 | false => match (ilt 64 a0.1) with
 | true => some (false, ())
 | false => match (ilt 400 (AM a0.2.1)) with
 | true => some (false, ())
 | false => match AY CX many (a0.1, a0.2.1, ([] : List U5), 0, ()) with
 | none => none
 | some r => match r with
 | .inl (o0, _) => some (o0, ())
 | .inr r => match r with
 | .inl (o1, o2, o3, _) => match GQ (o1, o3, ()) with
  | none => none
  | some (y4, _) => match AY C6 many (o1, o2, o3, y4, 0, 0, ()) with
  | none => none
  | some r => match r with
  | .inl (o5, o6, o7, o8, _) => some ((ieq o8 (IntKind.wrap .i64 (o5 - (AM o7)))), ())
  | .inr _ => none
 | .inr _ => none
def FF [Lk] := fun v => Lk.f (D4 v)
theorem Ef v : FF v = D4 v := AJ _
abbrev ANf : AE := [(.tmp 0, .di), (.tmp 1, .di)]
abbrev ANe : AE := [(.tmp 0, .dat .bool)]
abbrev ANd : List RS := [.one]
def AEn [Lk] : U5 → Option (Uh) := fun (a0, a1, _) =>
 match (ile 1 a0) with
 | true => match (ile a0 64) with
  | true => match (ile 0 a1) with
   | true => some ((ilt a1 a0), ())
   | false => some (false, ())
  | false => some (false, ())
 | false => some (false, ())
def Xx [Lk] := fun v => Lk.f (AEn v)
theorem APu v : Xx v = AEn v := AJ _
abbrev PS : AE := [(.tmp 0, .di), (.tmp 1, .di)]
abbrev PR : AE := [(.tmp 0, .di), (.tmp 1, .di), (.tmp 2, .dat .bool), (.tmp 3, .dat .bool)]
abbrev PQ : List RS := [.one, .one, .one, .one]
def Ks [Lk] : U5 → Option ((Int × Int × Bool × Bool × Unit)) := fun (a0, a1, _) =>
 match Xx (a0, a1, ()) with
 | none => none
 | some (y0, _) => match y0 with
 | true => some (a1, 0, false, true, ())
 | false => match (ilt a0 1) with
 | true => some (0, 0, false, false, ())
 | false => match (ilt 64 a0) with
 | true => some (0, 0, false, false, ())
 | false => match (ilt a1 a0) with
 | true => some (0, 0, false, false, ())
 | false => match (ile (IntKind.wrap .i64 (a0 + (IntKind.wrap .i64 (a0 * a0)))) a1) with
 | true => some (0, 0, false, false, ())
 | false => match quo? .i64 (IntKind.wrap .i64 (a1 - a0)) a0 with
 | none => none
 | some x1 => match rem? (IntKind.wrap .i64 (a1 - a0)) a0 with
 | none => none
 | some x2 => match (ieq x1 x2) with
 | true => some (0, 0, false, false, ())
 | false => some (x1, x2, true, true, ())
def Kt [Lk] := fun v => Lk.f (Ks v)
theorem VH v : Kt v = Ks v := AJ _
abbrev AFl : AE := [(.tmp 0, .di), (.tmp 1, .di), (.tmp 2, .di)]
abbrev AFk : AE := [(.tmp 0, .di)]
abbrev AFj : List RS := [.one]
def T5 [Lk] : (Int × Int × Int × Unit) → Option (U8) := fun (a0, a1, a2, _) =>
 match Xx (a0, a1, ()) with
 | none => none
 | some (y0, _) => match (!y0) with
 | true => some ((-1 : Int), ())
 | false => match Xx (a0, a2, ()) with
 | none => none
 | some (y1, _) => match (!y1) with
 | true => some ((-1 : Int), ())
 | false => match (ieq a1 a2) with
 | true => some ((-1 : Int), ())
 | false => some ((IntKind.wrap .i64 ((IntKind.wrap .i64 (a0 + (IntKind.wrap .i64 (a1 * a0)))) + a2)), ())
def Sq [Lk] := fun v => Lk.f (T5 v)
theorem AKH v : Sq v = T5 v := AJ _
def IE [Lk] : (Int × Int × Int × List U1 × Int × Unit) → Option ((Int × Int × Int × List U1 × Int × Unit) ⊕ (Int × Int × List U1 × Unit) ⊕ Unit) := fun (a0, a1, a2, a3, a4, _) =>
 match (ilt a4 a0) with
 | true => match (fits ((AM a3) + (AM ([([a4] : List (Int))] : List U1)))) with
  | true => some (.inl (a0, a1, a2, (A8 a3 ([([a4] : List (Int))] : List U1)), (IntKind.wrap .i64 (a4 + 1)), ()))
  | false => none
 | false => some (.inr (.inl (a1, a2, a3, ())))
def XB [Lk] : U8 → Option (Uu) := fun (a0, _) =>
 match (ilt a0 1) with
 | true => some (0, ([] : List U1), 1, ())
 | false => match (ilt 64 a0) with
 | true => some (0, ([] : List U1), 1, ())
 | false => match AY IE many (a0, 0, a0, ([] : List U1), 0, ()) with
 | none => none
 | some r => match r with
 | .inl (o0, o1, o2, _) => some (o1, o2, 0, ())
 | .inr _ => none
def AEB [Lk] := fun v => Lk.f (XB v)
theorem AR4 v : AEB v = XB v := AJ _
abbrev MJ : AE := [(.tmp 0, .di), (.tmp 1, .di), (.tmp 2, .di)]
abbrev MH : AE := [(.tmp 0, .dat .bool)]
abbrev MG : List RS := [.one]
def Ip [Lk] : (Int × Int × Int × Unit) → Option (Uh) := fun (a0, a1, a2, _) =>
 match Kt (a0, a1, ()) with
 | none => none
 | some (y0, y1, y2, y3, _) => match y3 with
 | true => match (!y2) with
  | true => match (ieq y0 a2) with
   | true => some (true, ())
   | false => match y2 with
   | true => some ((ieq y1 a2), ())
   | false => some (false, ())
  | false => match y2 with
  | true => some ((ieq y1 a2), ())
  | false => some (false, ())
 | false => some (false, ())
def Jl [Lk] := fun v => Lk.f (Ip v)
theorem Rz v : Jl v = Ip v := AJ _
abbrev VB : AE := [(.tmp 0, .di), (.tmp 1, .dat U4)]
abbrev VA : AE := [(.tmp 0, .dat .bool)]
abbrev UZ : List RS := [.one]
abbrev AAm : AE := [(.tmp 0, .di), (.tmp 1, .own 3 U0), (.tmp 6, .di), (.tmp 14, .own 3 U0), (.tmp 15, .di), (.tmp 27, .dat .bool), (.tmp 28, .dat .bool), (.tmp 64, .dat .bool), (.tmp 67, .dat .bool), (.tmp 70, .di), (.tmp 71, .di), (.tmp 72, .dat .bool), (.tmp 75, .di), (.tmp 76, .di), (.tmp 77, .di), (.tmp 78, .di), (.tmp 79, .di), (.tmp 80, .dat .bool), (.tmp 83, .di), (.tmp 84, .own' 0), (.tmp 85, .di), (.tmp 86, .own' 0), (.tmp 87, .di), (.tmp 88, .di), (.tmp 89, .di), (.tmp 90, .own' 0), (.tmp 91, .di), (.tmp 92, .di), (.tmp 94, .di), (.tmp 95, .di), (.tmp 96, .dat .bool)]
abbrev AAj : Az := [(.exit 4, [(.tmp 0, .di), (.tmp 6, .di), (.tmp 14, .own 3 U0), (.tmp 27, .dat .bool), (.tmp 28, .dat .bool), (.tmp 64, .dat .bool), (.tmp 67, .dat .bool), (.tmp 70, .di), (.tmp 71, .di), (.tmp 72, .dat .bool), (.tmp 75, .di), (.tmp 76, .di), (.tmp 77, .di), (.tmp 78, .di), (.tmp 79, .di), (.tmp 80, .dat .bool), (.tmp 83, .di), (.tmp 84, .own 3 U0), (.tmp 85, .di), (.tmp 86, .own' 1), (.tmp 87, .di), (.tmp 88, .di), (.tmp 89, .di), (.tmp 90, .own' 1), (.tmp 91, .di), (.tmp 92, .di), (.tmp 94, .di), (.tmp 95, .di), (.tmp 96, .dat .bool)])]
def Ec [Lk] : Ur → Option (Ur ⊕ (Int × Int × List Int × Bool × Bool × Bool × Bool × Int × Int × Bool × Int × Int × Int × Int × Int × Bool × Int × List Int × Int × Int × Int × Int × Int × Int × Int × Int × Bool × Unit) ⊕ Unit) := fun (a0, a1, a2, a3, a4, a5, a6, a7, a8, a9, a10, a11, a12, a13, a14, a15, a16, a17, a18, a19, a20, a21, a22, a23, a24, a25, a26, a27, _) =>
 match (ilt a4 (AM a1)) with
 | true => match rem? (IntKind.wrap .i64 (a2 + a4)) (AM a1) with
  | none => none
  | some x0 => match idx a1 x0 with
  | none => none
  | some x1 => match (fits ((AM a3) + (AM ([(AS a1 (AG x0) 0)] : List (Int))))) with
  | true => some (.inl (a0, a1, a2, (A8 a3 ([(AS a1 (AG x0) 0)] : List (Int))), (IntKind.wrap .i64 (a4 + 1)), a5, a6, a7, a8, a9, a10, a11, a12, a13, a14, a15, a16, a17, a18, a19, a20, a21, a22, a23, a24, a25, a26, a27, ()))
  | false => none
 | false => some (.inr (.inl (a0, a2, a3, a5, a6, a7, a8, a9, a10, a11, a12, a13, a14, a15, a16, a17, a18, a1, a19, a20, a21, a22, a23, a24, a25, a26, a27, ())))
abbrev AAn : AE := [(.tmp 0, .di), (.tmp 1, .own 3 U0), (.tmp 5, .dat .bool), (.tmp 6, .di)]
abbrev AAk : Az := [(.exit 2, [(.tmp 0, .di), (.tmp 1, .own 3 U0), (.tmp 5, .dat .bool)])]
def CM [Lk] : (Int × List Int × Bool × Int × Unit) → Option ((Int × List Int × Bool × Int × Unit) ⊕ (Int × List Int × Bool × Unit) ⊕ Unit) := fun (a0, a1, a2, a3, _) =>
 match (ilt a3 (AM a1)) with
 | true => match (!a2) with
  | true => match idx a1 a3 with
   | none => none
   | some x0 => match rem? (IntKind.wrap .i64 (a3 + 1)) (AM a1) with
   | none => none
   | some x1 => match idx a1 x1 with
   | none => none
   | some x2 => match rem? (IntKind.wrap .i64 (a3 + 2)) (AM a1) with
   | none => none
   | some x3 => match idx a1 x3 with
   | none => none
   | some x4 => match Kt (a0, (AS a1 (AG a3) 0), ()) with
   | none => none
   | some (y5, y6, y7, y8, _) => match (ile 4 (AM a1)) with
   | true => match y8 with
    | true => match y7 with
     | true => match (ieq (AS a1 (AG x1) 0) y6) with
      | true => match Sq (a0, y6, y5, ()) with
       | none => none
       | some (y9, _) => match (ieq (AS a1 (AG x3) 0) y9) with
       | true => match rem? (IntKind.wrap .i64 ((IntKind.wrap .i64 (a3 + (AM a1))) - 1)) (AM a1) with
        | none => none
        | some x10 => match idx a1 x10 with
        | none => none
        | some x11 => match Jl (a0, (AS a1 (AG x10) 0), y5, ()) with
        | none => none
        | some (y12, _) => match y12 with
        | true => match AY Ec many (a0, a1, a3, ([] : List (Int)), 3, a2, (!a2), y8, y7, (AS a1 (AG x1) 0), y6, (ieq (AS a1 (AG x1) 0) y6), (AS a1 (AG x3) 0), a0, y6, y5, y9, (ieq (AS a1 (AG x3) 0) y9), a0, a3, (AM a1), (IntKind.wrap .i64 (a3 + (AM a1))), (IntKind.wrap .i64 ((IntKind.wrap .i64 (a3 + (AM a1))) - 1)), (AM a1), x10, (AS a1 (AG x10) 0), y5, y12, ()) with
         | none => none
         | some r => match r with
         | .inl (o13, o14, o15, o16, o17, o18, o19, o20, o21, o22, o23, o24, o25, o26, o27, o28, o29, o30, o31, o32, o33, o34, o35, o36, o37, o38, o39, _) => some (.inl (o13, o15, true, (IntKind.wrap .i64 (o14 + 1)), ()))
         | .inr _ => none
        | false => some (.inl (a0, a1, a2, (IntKind.wrap .i64 (a3 + 1)), ()))
       | false => some (.inl (a0, a1, a2, (IntKind.wrap .i64 (a3 + 1)), ()))
      | false => some (.inl (a0, a1, a2, (IntKind.wrap .i64 (a3 + 1)), ()))
     | false => some (.inl (a0, a1, a2, (IntKind.wrap .i64 (a3 + 1)), ()))
    | false => some (.inl (a0, a1, a2, (IntKind.wrap .i64 (a3 + 1)), ()))
   | false => some (.inl (a0, a1, a2, (IntKind.wrap .i64 (a3 + 1)), ()))
  | false => some (.inr (.inl (a0, a1, a2, ())))
 | false => some (.inr (.inl (a0, a1, a2, ())))
abbrev AAo : AE := [(.tmp 0, .di), (.tmp 1, .own 3 U0)]
abbrev AAl : Az := [(.ret, [(.tmp 4, .dat .bool)]), (.exit 0, [(.tmp 0, .di), (.tmp 1, .own 3 U0)])]
def GL [Lk] : V4 → Option (V4 ⊕ Uh ⊕ V4 ⊕ Unit) := fun (a0, a1, _) =>
 match (ilt 1 (AM a1)) with
 | true => match AY CM many (a0, a1, false, 0, ()) with
  | none => none
  | some r => match r with
  | .inl (o0, o1, o2, _) => match (!o2) with
   | true => some (.inr (.inl (false, ())))
   | false => some (.inl (o0, o1, ()))
  | .inr _ => none
 | false => some (.inr (.inr (.inl (a0, a1, ()))))
def NS [Lk] : V4 → Option (Uh) := fun (a0, a1, _) =>
 match (fits ((AM ([] : List (Int))) + (AM a1))) with
 | true => match AY GL many (a0, (A8 ([] : List (Int)) a1), ()) with
  | none => none
  | some r => match r with
  | .inl (o0, _) => some (o0, ())
  | .inr r => match r with
  | .inl (o1, o2, _) => match (ieq (AM o2) 1) with
   | true => match idx o2 0 with
    | none => none
    | some x3 => match Xx (o1, (AS o2 0 0), ()) with
    | none => none
    | some (y4, _) => some (y4, ())
   | false => some (false, ())
  | .inr _ => none
 | false => none
def VC [Lk] := fun v => Lk.f (NS v)
theorem AAp v : VC v = NS v := AJ _
abbrev Pz : AE := [(.tmp 0, .dat U4), (.tmp 1, .di)]
abbrev Py : AE := [(.tmp 0, .di)]
abbrev Px : List RS := [.one]
abbrev WM : AE := [(.tmp 0, .dat U4), (.tmp 1, .di), (.tmp 5, .di)]
abbrev WL : Az := [(.ret, [(.tmp 4, .di)]), (.exit 0, [])]
def Ds [Lk] : Ud → Option (Ud ⊕ U8 ⊕ (Unit) ⊕ Unit) := fun (a0, a1, a2, _) =>
 match (ilt a2 (AM a0)) with
 | true => match idx a0 a2 with
  | none => none
  | some x0 => match (ieq x0 a1) with
  | true => some (.inr (.inl (a2, ())))
  | false => some (.inl (a0, a1, (IntKind.wrap .i64 (a2 + 1)), ()))
 | false => some (.inr (.inr (.inl ())))
def K7 [Lk] : Un → Option (U8) := fun (a0, a1, _) =>
 match AY Ds many (a0, a1, 0, ()) with
 | none => none
 | some r => match r with
 | .inl (o0, _) => some (o0, ())
 | .inr r => match r with
 | .inl _ => some ((-1 : Int), ())
 | .inr _ => none
def F4 [Lk] := fun v => Lk.f (K7 v)
theorem WN v : F4 v = K7 v := AJ _
abbrev Pk : AE := [(.tmp 0, .dat U4)]
abbrev Pj : AE := [(.tmp 0, .dat .bool)]
abbrev Ph : List RS := [.one]
abbrev Vn : AE := [(.tmp 0, .dat U4), (.tmp 3, .di)]
abbrev Vm : Az := [(.ret, [(.tmp 2, .dat .bool)]), (.exit 0, [])]
def C8 [Lk] : Un → Option (Un ⊕ Uh ⊕ (Unit) ⊕ Unit) := fun (a0, a1, _) =>
 match (ilt a1 (AM a0)) with
 | true => match idx a0 a1 with
  | none => none
  | some x0 => match (ilt x0 0) with
  | true => some (.inr (.inl (false, ())))
  | false => match idx a0 a1 with
  | none => none
  | some x1 => match (ilt 10000 x1) with
  | true => some (.inr (.inl (false, ())))
  | false => match DY a0 0 a1 with
  | none => none
  | some x2 => match idx a0 a1 with
  | none => none
  | some x3 => match F4 (x2, x3, ()) with
  | none => none
  | some (y4, _) => match (ile 0 y4) with
  | true => some (.inr (.inl (false, ())))
  | false => some (.inl (a0, (IntKind.wrap .i64 (a1 + 1)), ()))
 | false => some (.inr (.inr (.inl ())))
def Ky [Lk] : Ua → Option (Uh) := fun (a0, _) =>
 match (ilt 1000 (AM a0)) with
 | true => some (false, ())
 | false => match AY C8 many (a0, 0, ()) with
 | none => none
 | some r => match r with
 | .inl (o0, _) => some (o0, ())
 | .inr r => match r with
 | .inl _ => some (true, ())
 | .inr _ => none
def Iq [Lk] := fun v => Lk.f (Ky v)
theorem Vo v : Iq v = Ky v := AJ _
abbrev X9 : AE := [(.tmp 0, .dat U4), (.tmp 1, .di)]
abbrev X8 : AE := [(.tmp 0, .own 3 U0), (.tmp 1, .dat .bool)]
abbrev X7 : List RS := [.one, .one]
def OE [Lk] : Un → Option (V2) := fun (a0, a1, _) =>
 match F4 (a0, a1, ()) with
 | none => none
 | some (y0, _) => match Iq (a0, ()) with
 | none => none
 | some (y1, _) => match (!y1) with
 | true => some (([] : List (Int)), false, ())
 | false => match (ilt y0 0) with
 | true => some (([] : List (Int)), false, ())
 | false => match DY a0 y0 (AM a0) with
 | none => none
 | some x2 => match (fits ((AM ([] : List (Int))) + (AM x2))) with
 | true => match DY a0 0 y0 with
  | none => none
  | some x3 => match (fits ((AM (A8 ([] : List (Int)) x2)) + (AM x3))) with
  | true => some ((A8 (A8 ([] : List (Int)) x2) x3), true, ())
  | false => none
 | false => none
def Mu [Lk] := fun v => Lk.f (OE v)
theorem ABb v : Mu v = OE v := AJ _
abbrev Pr : AE := [(.tmp 0, .dat U4)]
abbrev Pq : AE := [(.tmp 0, .own 3 U0)]
abbrev Pp : List RS := [.one]
abbrev WB : AE := [(.tmp 0, .dat U4), (.tmp 3, .di), (.tmp 4, .di)]
abbrev WA : Az := [(.exit 0, [(.tmp 0, .dat U4), (.tmp 3, .di)])]
def Dq [Lk] : Ud → Option (Ud ⊕ Un ⊕ Unit) := fun (a0, a1, a2, _) =>
 match (ilt a2 (AM a0)) with
 | true => match idx a0 a2 with
  | none => none
  | some x0 => some (.inl (a0, (Cy a1 x0), (IntKind.wrap .i64 (a2 + 1)), ()))
 | false => some (.inr (.inl (a0, a1, ())))
def K4 [Lk] : Ua → Option (Ua) := fun (a0, _) =>
 match Iq (a0, ()) with
 | none => none
 | some (y0, _) => match (!y0) with
 | true => some (([] : List (Int)), ())
 | false => match (ieq (AM a0) 0) with
 | true => some (([] : List (Int)), ())
 | false => match idx a0 0 with
 | none => none
 | some x1 => match AY Dq many (a0, x1, 0, ()) with
 | none => none
 | some r => match r with
 | .inl (o2, o3, _) => match Mu (o2, o3, ()) with
  | none => none
  | some (y4, y5, _) => some (y4, ())
 | .inr _ => none
def K5 [Lk] := fun v => Lk.f (K4 v)
theorem WC v : K5 v = K4 v := AJ _
abbrev Qg : AE := [(.tmp 0, .dat Uc), (.tmp 1, .dat Uc)]
abbrev Qf : AE := [(.tmp 0, .dat .bool)]
abbrev Qe : List RS := [.one]
abbrev XV : AE := [(.tmp 0, .dat Uc), (.tmp 1, .dat Uc), (.tmp 5, .di)]
abbrev XU : Az := [(.ret, [(.tmp 4, .dat .bool)]), (.exit 0, [])]
def DB [Lk] : (List U1 × List U1 × Int × Unit) → Option ((List U1 × List U1 × Int × Unit) ⊕ Uh ⊕ (Unit) ⊕ Unit) := fun (a0, a1, a2, _) =>
 match (ilt a2 (AM a0)) with
 | true => match idx a0 a2 with
  | none => none
  | some x0 => match idx a1 a2 with
  | none => none
  | some x1 => match KJ (x0, x1, ()) with
  | none => none
  | some (y2, _) => match (!y2) with
  | true => some (.inr (.inl (false, ())))
  | false => some (.inl (a0, a1, (IntKind.wrap .i64 (a2 + 1)), ()))
 | false => some (.inr (.inr (.inl ())))
def LP [Lk] : (List U1 × List U1 × Unit) → Option (Uh) := fun (a0, a1, _) =>
 match (!(ieq (AM a0) (AM a1))) with
 | true => some (false, ())
 | false => match AY DB many (a0, a1, 0, ()) with
 | none => none
 | some r => match r with
 | .inl (o0, _) => some (o0, ())
 | .inr r => match r with
 | .inl _ => some (true, ())
 | .inr _ => none
def Nt [Lk] := fun v => Lk.f (LP v)
theorem XW v : Nt v = LP v := AJ _
abbrev Pg : AE := [(.tmp 0, .dat Uj)]
abbrev Pf : AE := [(.tmp 0, .dat .bool)]
abbrev Pe : List RS := [.one]
abbrev Vj : AE := [(.tmp 1, .box 2), (.cell 0 0, .di), (.cell 0 1, .dat Uc), (.tmp 3, .own 4 .bool), (.tmp 4, .di), (.tmp 5, .di), (.tmp 6, .di), (.tmp 7, .dat U4), (.tmp 8, .di), (.tmp 44, .dat U4), (.tmp 45, .di), (.tmp 46, .dat .bool), (.tmp 49, .ptr' 0 0), (.tmp 50, .di), (.tmp 51, .dat U4), (.tmp 52, .dat .bool), (.tmp 53, .dat .bool), (.tmp 56, .dat U4), (.tmp 57, .dat U4), (.tmp 58, .own 55 U4), (.tmp 59, .dat U4), (.tmp 60, .own 55 U4), (.tmp 61, .dat .bool), (.tmp 62, .dat .bool), (.tmp 65, .dat U4), (.tmp 67, .di), (.tmp 68, .di), (.tmp 69, .dat .bool)]
abbrev Vh : Az := [(.ret, [(.tmp 2, .dat .bool)]), (.exit 2, [(.tmp 1, .box 2), (.cell 0 0, .di), (.cell 0 1, .dat Uc), (.tmp 3, .own 4 .bool), (.tmp 4, .di), (.tmp 5, .di), (.tmp 6, .di), (.tmp 44, .dat U4), (.tmp 45, .di), (.tmp 46, .dat .bool), (.tmp 49, .ptr' 0 0), (.tmp 50, .di), (.tmp 51, .dat U4), (.tmp 52, .dat .bool), (.tmp 53, .dat .bool), (.tmp 56, .dat U4), (.tmp 57, .dat U4), (.tmp 58, .own 55 U4), (.tmp 59, .dat U4), (.tmp 60, .own 55 U4), (.tmp 61, .dat .bool), (.tmp 62, .dat .bool), (.tmp 65, .dat U4), (.tmp 67, .di), (.tmp 68, .di), (.tmp 69, .dat .bool)])]
def CY [Lk] : Up → Option (Up ⊕ Uh ⊕ (Int × List U1 × List Bool × Int × Int × Int × List Int × Int × Bool × Int × List Int × Bool × Bool × List Int × List Int × List U1 × List Int × List U1 × Bool × Bool × List Int × Int × Int × Bool × Unit) ⊕ Unit) := fun (a0, a1, a2, a3, a4, a5, a6, a7, a8, a9, a10, a11, a12, a13, a14, a15, a16, a17, a18, a19, a20, a21, a22, a23, a24, a25, _) =>
 match (ilt a7 (AM a6)) with
 | true => match idx a6 a7 with
  | none => none
  | some x0 => match (ilt x0 a0) with
  | true => match idx a6 a7 with
   | none => none
   | some x1 => match idx a2 x1 with
   | none => none
   | some x2 => match (AS a2 (AG x1) false) with
   | true => some (.inr (.inl (false, ())))
   | false => match idx a6 a7 with
   | none => none
   | some x3 => match idx a2 x3 with
   | none => none
   | some x4 => some (.inl (a0, a1, (Ak a2 (AG x3) true), a3, (IntKind.wrap .i64 (a4 + 1)), a5, a6, (IntKind.wrap .i64 (a7 + 1)), a8, a9, a10, a11, a12, a13, a14, a15, a16, a17, a18, a19, a20, a21, a22, a23, a24, a25, ()))
  | false => some (.inl (a0, a1, a2, a3, a4, a5, a6, (IntKind.wrap .i64 (a7 + 1)), a8, a9, a10, a11, a12, a13, a14, a15, a16, a17, a18, a19, a20, a21, a22, a23, a24, a25, ()))
 | false => some (.inr (.inr (.inl (a0, a1, a2, a3, a4, a5, a8, a9, a10, a11, a12, a13, a14, a15, a16, a17, a18, a19, a20, a21, a22, a23, a24, a25, ()))))
abbrev Vk : AE := [(.tmp 1, .box 2), (.cell 0 0, .di), (.cell 0 1, .dat Uc), (.tmp 3, .own 4 .bool), (.tmp 4, .di), (.tmp 5, .di), (.tmp 6, .di)]
abbrev Vi : Az := [(.ret, [(.tmp 2, .dat .bool)]), (.exit 0, [(.tmp 1, .box 2), (.cell 0 0, .di), (.cell 0 1, .dat Uc), (.tmp 5, .di)])]
def CZ [Lk] : (Int × List U1 × List Bool × Int × Int × Int × Unit) → Option ((Int × List U1 × List Bool × Int × Int × Int × Unit) ⊕ Uh ⊕ Uu ⊕ Unit) := fun (a0, a1, a2, a3, a4, a5, _) =>
 match (ilt a5 (AM a1)) with
 | true => match idx a1 a5 with
  | none => none
  | some x0 => match Iq (x0, ()) with
  | none => none
  | some (y1, _) => match (!y1) with
  | true => some (.inr (.inl (false, ())))
  | false => match (ieq (AM x0) 0) with
  | true => some (.inr (.inl (false, ())))
  | false => match VC (a0, x0, ()) with
  | none => none
  | some (y2, _) => match (!y2) with
  | true => some (.inr (.inl (false, ())))
  | false => match K5 (x0, ()) with
  | none => none
  | some (y3, _) => match Nt (([y3] : List U1), ([x0] : List U1), ()) with
  | none => none
  | some (y4, _) => match (!y4) with
  | true => some (.inr (.inl (false, ())))
  | false => match idx x0 0 with
  | none => none
  | some x5 => match (ile x5 a3) with
  | true => some (.inr (.inl (false, ())))
  | false => match idx x0 0 with
  | none => none
  | some x6 => match AY CY many (a0, a1, a2, x6, a4, a5, x0, 0, x0, (AM x0), (ieq (AM x0) 0), a0, x0, y2, (!y2), x0, y3, ([y3] : List U1), x0, ([x0] : List U1), y4, (!y4), x0, x5, a3, (ile x5 a3), ()) with
  | none => none
  | some r => match r with
  | .inl (o7, _) => some (.inr (.inl (o7, ())))
  | .inr r => match r with
  | .inl (o8, o9, o10, o11, o12, o13, o14, o15, o16, o17, o18, o19, o20, o21, o22, o23, o24, o25, o26, o27, o28, o29, o30, o31, _) => some (.inl (o8, o9, o10, o11, o12, (IntKind.wrap .i64 (o13 + 1)), ()))
  | .inr _ => none
 | false => some (.inr (.inr (.inl (a0, a1, a4, ()))))
def Kx [Lk] : (Ue × Unit) → Option (Uh) := fun (a0, _) =>
 match (ilt a0.1 1) with
 | true => some (false, ())
 | false => match (ilt 64 a0.1) with
 | true => some (false, ())
 | false => match (ilt a0.1 (AM a0.2.1)) with
 | true => some (false, ())
 | false => match (L3 a0.1 && L3 a0.1 && ile a0.1 a0.1 && true) with
 | true => match AY CZ many (a0.1, a0.2.1, (KU (AG a0.1) false), (-1 : Int), (0 : Int), (0 : Int), ()) with
  | none => none
  | some r => match r with
  | .inl (o0, _) => some (o0, ())
  | .inr r => match r with
  | .inl (o1, o2, o3, _) => some ((ieq o3 o1), ())
  | .inr _ => none
 | false => none
def HP [Lk] := fun v => Lk.f (Kx v)
theorem Vl v : HP v = Kx v := AJ _
abbrev Pv : AE := [(.tmp 0, .dat Uj), (.tmp 1, .di)]
abbrev Pu : AE := [(.tmp 0, .di)]
abbrev Pt : List RS := [.one]
abbrev WJ : AE := [(.tmp 1, .di), (.tmp 2, .box 2), (.cell 0 0, .di), (.cell 0 1, .dat Uc), (.tmp 5, .di)]
abbrev WI : Az := [(.ret, [(.tmp 4, .di)]), (.exit 0, [])]
def Dr [Lk] : (Int × Int × List U1 × Int × Unit) → Option ((Int × Int × List U1 × Int × Unit) ⊕ U8 ⊕ (Unit) ⊕ Unit) := fun (a0, a1, a2, a3, _) =>
 match (ilt a3 (AM a2)) with
 | true => match idx a2 a3 with
  | none => none
  | some x0 => match F4 (x0, a0, ()) with
  | none => none
  | some (y1, _) => match (ile 0 y1) with
  | true => some (.inr (.inl (a3, ())))
  | false => some (.inl (a0, a1, a2, (IntKind.wrap .i64 (a3 + 1)), ()))
 | false => some (.inr (.inr (.inl ())))
def K6 [Lk] : V0 → Option (U8) := fun (a0, a1, _) =>
 match AY Dr many (a1, a0.1, a0.2.1, 0, ()) with
 | none => none
 | some r => match r with
 | .inl (o0, _) => some (o0, ())
 | .inr r => match r with
 | .inl _ => some ((-1 : Int), ())
 | .inr _ => none
def Fz [Lk] := fun v => Lk.f (K6 v)
theorem WK v : Fz v = K6 v := AJ _
def Ju [Lk] : (List U1 × List Int × Int × Unit) → Option ((List U1 × List Int × Int × Unit) ⊕ (List U1 × List Int × Int × Unit) ⊕ Unit) := fun (a0, a1, a2, _) =>
 match (ilt a2 (AM a0)) with
 | true => match idx a0 a2 with
  | none => none
  | some x0 => match idx x0 0 with
  | none => none
  | some x1 => match idx a1 0 with
  | none => none
  | some x2 => match (ilt x1 (AS a1 0 0)) with
  | true => some (.inl (a0, a1, (IntKind.wrap .i64 (a2 + 1)), ()))
  | false => some (.inr (.inl (a0, a1, a2, ())))
 | false => some (.inr (.inl (a0, a1, a2, ())))
def ADL [Lk] : (List U1 × List Int × Unit) → Option (Ui) := fun (a0, a1, _) =>
 match K5 (a1, ()) with
 | none => none
 | some (y0, _) => match AY Ju many (a0, y0, 0, ()) with
 | none => none
 | some r => match r with
 | .inl (o1, o2, o3, _) => match DY o1 0 o3 with
  | none => none
  | some x4 => match (fits ((AM ([] : List U1)) + (AM x4))) with
  | true => match (fits ((AM (A8 ([] : List U1) x4)) + (AM ([o2] : List U1)))) with
   | true => match DY o1 o3 (AM o1) with
    | none => none
    | some x5 => match (fits ((AM (A8 (A8 ([] : List U1) x4) ([o2] : List U1))) + (AM x5))) with
    | true => some ((A8 (A8 (A8 ([] : List U1) x4) ([o2] : List U1)) x5), ())
    | false => none
   | false => none
  | false => none
 | .inr _ => none
def APM [Lk] := fun v => Lk.f (ADL v)
theorem AUc v : APM v = ADL v := AJ _
def Jf [Lk] : Uz → Option (Ui) := fun (a0, a1, _) =>
 match DY a0 0 a1 with
 | none => none
 | some x0 => match (fits ((AM ([] : List U1)) + (AM x0))) with
 | true => match DY a0 (IntKind.wrap .i64 (a1 + 1)) (AM a0) with
  | none => none
  | some x1 => match (fits ((AM (A8 ([] : List U1) x0)) + (AM x1))) with
  | true => some ((A8 (A8 ([] : List U1) x0) x1), ())
  | false => none
 | false => none
def GJ [Lk] := fun v => Lk.f (Jf v)
theorem AB7 v : GJ v = Jf v := AJ _
def IG [Lk] : (Ue × Int × Int × Unit) → Option (Uu) := fun (a0, a1, a2, _) =>
 match HP ((a0.1, (a0.2.1, ())), ()) with
 | none => none
 | some (y0, _) => match (!y0) with
 | true => some (a0.1, a0.2.1, 1, ())
 | false => match Xx (a0.1, a1, ()) with
 | none => none
 | some (y1, _) => match (!y1) with
 | true => some (a0.1, a0.2.1, 10, ())
 | false => match Xx (a0.1, a2, ()) with
 | none => none
 | some (y2, _) => match (!y2) with
 | true => some (a0.1, a0.2.1, 10, ())
 | false => match Fz ((a0.1, (a0.2.1, ())), a1, ()) with
 | none => none
 | some (y3, _) => match Fz ((a0.1, (a0.2.1, ())), a2, ()) with
 | none => none
 | some (y4, _) => match (ieq y3 y4) with
 | true => some (a0.1, a0.2.1, 5, ())
 | false => match Fz ((a0.1, (a0.2.1, ())), a1, ()) with
 | none => none
 | some (y5, _) => match Fz ((a0.1, (a0.2.1, ())), a2, ()) with
 | none => none
 | some (y6, _) => match idx a0.2.1 y5 with
 | none => none
 | some x7 => match Mu (x7, a1, ()) with
 | none => none
 | some (y8, y9, _) => match idx a0.2.1 y6 with
 | none => none
 | some x10 => match Mu (x10, a2, ()) with
 | none => none
 | some (y11, y12, _) => match Sq (a0.1, a1, a2, ()) with
 | none => none
 | some (y13, _) => match (fits ((AM ([a1, y13] : List (Int))) + (AM y11))) with
 | true => match Sq (a0.1, a2, a1, ()) with
  | none => none
  | some (y14, _) => match (fits ((AM (A8 ([a1, y13] : List (Int)) y11)) + (AM ([y14] : List (Int))))) with
  | true => match DY y8 1 (AM y8) with
   | none => none
   | some x15 => match (fits ((AM (A8 (A8 ([a1, y13] : List (Int)) y11) ([y14] : List (Int)))) + (AM (DE 1 (AG (AM x15)) y8)))) with
   | true => match GJ (a0.2.1, (imax y5 y6), ()) with
    | none => none
    | some (y16, _) => match GJ (y16, (Cy y5 y6), ()) with
    | none => none
    | some (y17, _) => match APM (y17, (A8 (A8 (A8 ([a1, y13] : List (Int)) y11) ([y14] : List (Int))) (DE 1 (AG (AM x15)) y8)), ()) with
    | none => none
    | some (y18, _) => some (a0.1, y18, 0, ())
   | false => none
  | false => none
 | false => none
def Qj [Lk] := fun v => Lk.f (IG v)
theorem LR v : Qj v = IG v := AJ _
abbrev PV : AE := [(.tmp 0, .dat Uj), (.tmp 1, .dat Ux)]
abbrev PU : AE := [(.tmp 0, .di)]
abbrev PT : List RS := [.one]
abbrev VJ : AE := [(.tmp 1, .dat Ux), (.tmp 2, .box 2), (.cell 0 0, .di), (.cell 0 1, .dat Uc), (.tmp 5, .di)]
abbrev VI : Az := [(.ret, [(.tmp 4, .di)]), (.exit 0, [])]
def Dn [Lk] : (List U5 × Int × List U1 × Int × Unit) → Option ((List U5 × Int × List U1 × Int × Unit) ⊕ U8 ⊕ (Unit) ⊕ Unit) := fun (a0, a1, a2, a3, _) =>
 match (ilt a3 (AM a0)) with
 | true => match idx a0 a3 with
  | none => none
  | some x0 => match (ilt x0.1 0) with
  | true => some (.inr (.inl (10, ())))
  | false => match idx a0 a3 with
  | none => none
  | some x1 => match (ile a1 x1.1) with
  | true => some (.inr (.inl (10, ())))
  | false => match idx a0 a3 with
  | none => none
  | some x2 => match (ilt x2.2.1 0) with
  | true => some (.inr (.inl (10, ())))
  | false => match idx a0 a3 with
  | none => none
  | some x3 => match (ile a1 x3.2.1) with
  | true => some (.inr (.inl (10, ())))
  | false => some (.inl (a0, a1, a2, (IntKind.wrap .i64 (a3 + 1)), ()))
 | false => some (.inr (.inr (.inl ())))
def Ku [Lk] : (Ue × List U5 × Unit) → Option (U8) := fun (a0, a1, _) =>
 match HP ((a0.1, (a0.2.1, ())), ()) with
 | none => none
 | some (y0, _) => match (!y0) with
 | true => some (1, ())
 | false => match AY Dn many (a1, a0.1, a0.2.1, 0, ()) with
 | none => none
 | some r => match r with
 | .inl (o1, _) => some (o1, ())
 | .inr r => match r with
 | .inl _ => some (0, ())
 | .inr _ => none
def Im [Lk] := fun v => Lk.f (Ku v)
theorem VK v : Im v = Ku v := AJ _
def Gs [Lk] : (List U5 × Int × List U1 × Int × List Bool × Int × Unit) → Option ((List U5 × Int × List U1 × Int × List Bool × Int × Unit) ⊕ (Int × List U1 × Int × List Bool × Unit) ⊕ Unit) := fun (a0, a1, a2, a3, a4, a5, _) =>
 match (ilt a5 (AM a0)) with
 | true => match idx a0 a5 with
  | none => none
  | some x0 => match idx a0 a5 with
  | none => none
  | some x1 => match Qj ((a1, (a2, ())), x0.1, x1.2.1, ()) with
  | none => none
  | some (y2, y3, y4, _) => match (fits ((AM a4) + (AM ([(ieq y4 0)] : List (Bool))))) with
  | true => some (.inl (a0, y2, y3, a3, (A8 a4 ([(ieq y4 0)] : List (Bool))), (IntKind.wrap .i64 (a5 + 1)), ()))
  | false => none
 | false => some (.inr (.inl (a1, a2, a3, a4, ())))
def Qi [Lk] : (Ue × List U5 × Unit) → Option ((Ue × List Bool × Int × Unit)) := fun (a0, a1, _) =>
 match Im ((a0.1, (a0.2.1, ())), a1, ()) with
 | none => none
 | some (y0, _) => match (!(ieq y0 0)) with
 | true => some ((a0.1, (a0.2.1, ())), ([] : List (Bool)), y0, ())
 | false => match AY Gs many (a1, a0.1, a0.2.1, 0, ([] : List (Bool)), 0, ()) with
 | none => none
 | some r => match r with
 | .inl (o1, o2, o3, o4, _) => some ((o1, (o2, ())), o4, 0, ())
 | .inr _ => none
def AEQ [Lk] := fun v => Lk.f (Qi v)
theorem AM9 v : AEQ v = Qi v := AJ _
def AMZ [Lk] : (Int × List U5 × Unit) → Option (V0) := fun (a0, a1, _) =>
 match AEB (a0, ()) with
 | none => none
 | some (y0, y1, y2, _) => match (!(ieq y2 0)) with
 | true => some ((0, (([] : List U1), ())), y2, ())
 | false => match AEQ ((y0, (y1, ())), a1, ()) with
 | none => none
 | some (y3, y4, y5, _) => match (!(ieq y5 0)) with
 | true => some ((0, (([] : List U1), ())), y5, ())
 | false => some ((y3.1, (y3.2.1, ())), 0, ())
def AZP [Lk] := fun v => Lk.f (AMZ v)
theorem AXr v : AZP v = AMZ v := AJ _
def Gb [Lk] : (Int × Int × List U2 × List U5 × Int × Unit) → Option ((Int × Int × List U2 × List U5 × Int × Unit) ⊕ Uv ⊕ Unit) := fun (a0, a1, a2, a3, a4, _) =>
 match (ilt a4 (AM a2)) with
 | true => match idx a2 a4 with
  | none => none
  | some x0 => match x0.2.2.2.1 with
  | true => match idx a2 a4 with
   | none => none
   | some x1 => match (ile a0 x1.2.2.1) with
   | true => match idx a2 a4 with
    | none => none
    | some x2 => match idx a2 a4 with
    | none => none
    | some x3 => match (fits ((AM a3) + (AM ([(x2.1, (x3.2.1, ()))] : List U5)))) with
    | true => some (.inl (a0, a1, a2, (A8 a3 ([(x2.1, (x3.2.1, ()))] : List U5)), (IntKind.wrap .i64 (a4 + 1)), ()))
    | false => none
   | false => some (.inl (a0, a1, a2, a3, (IntKind.wrap .i64 (a4 + 1)), ()))
  | false => some (.inl (a0, a1, a2, a3, (IntKind.wrap .i64 (a4 + 1)), ()))
 | false => some (.inr (.inl (a3, ())))
def PN [Lk] : (Uk × Int × Unit) → Option (Uv) := fun (a0, a1, _) =>
 match AY Gb many (a1, a0.1, a0.2.1, ([] : List U5), 0, ()) with
 | none => none
 | some r => match r with
 | .inl (o0, _) => some (o0, ())
 | .inr _ => none
def ACN [Lk] := fun v => Lk.f (PN v)
theorem AKd v : ACN v = PN v := AJ _
def Mv [Lk] : (Uk × Int × Unit) → Option (V0) := fun (a0, a1, _) =>
 match FF ((a0.1, (a0.2.1, ())), ()) with
 | none => none
 | some (y0, _) => match (!y0) with
 | true => some ((0, (([] : List U1), ())), 1, ())
 | false => match ACN ((a0.1, (a0.2.1, ())), a1, ()) with
 | none => none
 | some (y1, _) => match AZP (a0.1, y1, ()) with
 | none => none
 | some (y2, y3, _) => some ((y2.1, (y2.2.1, ())), y3, ())
def AJU [Lk] := fun v => Lk.f (Mv v)
theorem AJT v : AJU v = Mv v := AJ _
end
end Go.Pev
end
section
namespace Go.Pev
set_option maxRecDepth 100000
noncomputable section
attribute [local irreducible] KQ H0 Lr Jk ASe ASf ASg Na Pn TC VP RE AQ many IntKind.wrap AM Ak AS A8 Cv DE KU AG CR Cy imax AT Ah
abbrev Qm : AE := [(.tmp 0, .dat Ul), (.tmp 1, .di)]
abbrev Ql : AE := [(.tmp 0, .dat Uj), (.tmp 1, .di)]
abbrev Qk : List RS := [.one, .one]
def IH [Lk] : (Uk × Int × Unit) → Option (V0) := fun (a0, a1, _) =>
 match Fl ((a0.1, (a0.2.1, ())), ()) with
 | none => none
 | some (y0, _) => match (!y0) with
 | true => some ((0, (([] : List U1), ())), 1, ())
 | false => match Ma ((a0.1, (a0.2.1, ())), a1, ()) with
 | none => none
 | some (y1, _) => match fof (a0.1, y1, ()) with
 | none => none
 | some (y2, y3, _) => some ((y2.1, (y2.2.1, ())), y3, ())
def F7 [Lk] := fun v => Lk.f (IH v)
theorem Mb v : F7 v = IH v := AJ _
abbrev AMc : AE := [(.tmp 0, .dat Uj), (.tmp 1, .di)]
abbrev AMb : AE := [(.tmp 0, .di)]
abbrev AMa : List RS := [.one]
def ADz [Lk] : V0 → Option (U8) := fun (a0, a1, _) =>
 match HP ((a0.1, (a0.2.1, ())), ()) with
 | none => none
 | some (y0, _) => match (!y0) with
 | true => some ((-1 : Int), ())
 | false => match Xx (a0.1, a1, ()) with
 | none => none
 | some (y1, _) => match (!y1) with
 | true => some ((-1 : Int), ())
 | false => match Fz ((a0.1, (a0.2.1, ())), a1, ()) with
 | none => none
 | some (y2, _) => some (y2, ())
def AMd [Lk] := fun v => Lk.f (ADz v)
theorem APb v : AMd v = ADz v := AJ _
abbrev AEY : AE := [(.tmp 0, .di), (.tmp 1, .di)]
abbrev AEX : AE := [(.tmp 0, .dat .bool)]
abbrev AEW : List RS := [.one]
def Tu [Lk] : U5 → Option (Uh) := fun (a0, a1, _) =>
 match AMj (a0, ()) with
 | none => none
 | some (y0, _) => match y0 with
 | true => match AMj (a1, ()) with
  | none => none
  | some (y1, _) => match (!y1) with
  | true => some (true, ())
  | false => some ((ilt a0 a1), ())
 | false => some ((ilt a0 a1), ())
def Db [Lk] := fun v => Lk.f (Tu v)
theorem AIs v : Db v = Tu v := AJ _
abbrev ANb : AE := [(.tmp 0, .own 3 U0), (.tmp 1, .di), (.tmp 2, .di)]
abbrev ANa : AE := [(.obj 0, .own 3 U0)]
abbrev ANZ : List RS := []
abbrev APr : AE := [(.obj 0, .own 3 U0), (.tmp 0, .own' 0), (.tmp 1, .di), (.tmp 2, .di), (.tmp 6, .di), (.tmp 7, .di)]
abbrev APp : Az := [(.exit 2, [(.obj 0, .own 3 U0), (.tmp 0, .own' 0), (.tmp 1, .di), (.tmp 2, .di), (.tmp 6, .di)])]
def LS [Lk] : Ug → Option (Ug ⊕ U6 ⊕ Unit) := fun (a0, a1, a2, a3, a4, _) =>
 match (ilt a1 a4) with
 | true => match idx a0 a4 with
  | none => none
  | some x0 => match idx a0 (IntKind.wrap .i64 (a4 - 1)) with
  | none => none
  | some x1 => match Db ((AS a0 (AG a4) 0), (AS a0 (AG (IntKind.wrap .i64 (a4 - 1))) 0), ()) with
  | none => none
  | some (y2, _) => match y2 with
  | true => match idx a0 (IntKind.wrap .i64 (a4 - 1)) with
   | none => none
   | some x3 => match idx a0 a4 with
   | none => none
   | some x4 => match idx a0 a4 with
   | none => none
   | some x5 => match idx (Ak a0 (AG a4) (AS a0 (AG (IntKind.wrap .i64 (a4 - 1))) 0)) (IntKind.wrap .i64 (a4 - 1)) with
   | none => none
   | some x6 => some (.inl ((Ak (Ak a0 (AG a4) (AS a0 (AG (IntKind.wrap .i64 (a4 - 1))) 0)) (AG (IntKind.wrap .i64 (a4 - 1))) (AS a0 (AG a4) 0)), a1, a2, a3, (IntKind.wrap .i64 (a4 - 1)), ()))
  | false => some (.inr (.inl (a0, a1, a2, a3, ())))
 | false => some (.inr (.inl (a0, a1, a2, a3, ())))
abbrev APs : AE := [(.obj 0, .own 3 U0), (.tmp 0, .own' 0), (.tmp 1, .di), (.tmp 2, .di), (.tmp 6, .di)]
abbrev APq : Az := [(.exit 0, [(.obj 0, .own 3 U0)])]
def LU [Lk] : U6 → Option (U6 ⊕ Ua ⊕ Unit) := fun (a0, a1, a2, a3, _) =>
 match (ilt a3 a2) with
 | true => match AY LS many (a0, a1, a2, a3, a3, ()) with
  | none => none
  | some r => match r with
  | .inl (o0, o1, o2, o3, _) => some (.inl (o0, o1, o2, (IntKind.wrap .i64 (o3 + 1)), ()))
  | .inr _ => none
 | false => some (.inr (.inl (a0, ())))
def AEk [Lk] : Ud → Option (Ua) := fun (a0, a1, a2, _) =>
 match AY LU many (a0, a1, a2, (IntKind.wrap .i64 (a1 + 1)), ()) with
 | none => none
 | some r => match r with
 | .inl (o0, _) => some (o0, ())
 | .inr _ => none
def ASY [Lk] := fun v => Lk.f (AEk v)
theorem APt v : ASY v = AEk v := AJ _
abbrev ACz : AE := [(.tmp 0, .own 3 U0), (.tmp 1, .di), (.tmp 2, .di), (.tmp 3, .di)]
abbrev ACy : AE := [(.obj 0, .own 3 U0)]
abbrev ACx : List RS := []
abbrev AGn : AE := [(.obj 0, .own 3 U0), (.tmp 0, .own' 0), (.tmp 2, .di), (.tmp 3, .di), (.tmp 8, .di)]
abbrev AGm : Az := [(.exit 0, [(.obj 0, .own 3 U0)]), (.ret, [(.obj 0, .own 3 U0)])]
def H7 [Lk] : U6 → Option (U6 ⊕ Ua ⊕ Ua ⊕ Unit) := fun (a0, a1, a2, a3, _) =>
 match (ile a1 (IntKind.wrap .i64 ((IntKind.wrap .i64 (2 * a3)) + 1))) with
 | true => some (.inr (.inl (a0, ())))
 | false => match (ilt (IntKind.wrap .i64 ((IntKind.wrap .i64 ((IntKind.wrap .i64 (2 * a3)) + 1)) + 1)) a1) with
 | true => match idx a0 (IntKind.wrap .i64 (a2 + (IntKind.wrap .i64 ((IntKind.wrap .i64 (2 * a3)) + 1)))) with
  | none => none
  | some x0 => match idx a0 (IntKind.wrap .i64 ((IntKind.wrap .i64 (a2 + (IntKind.wrap .i64 ((IntKind.wrap .i64 (2 * a3)) + 1)))) + 1)) with
  | none => none
  | some x1 => match Db ((AS a0 (AG (IntKind.wrap .i64 (a2 + (IntKind.wrap .i64 ((IntKind.wrap .i64 (2 * a3)) + 1))))) 0), (AS a0 (AG (IntKind.wrap .i64 ((IntKind.wrap .i64 (a2 + (IntKind.wrap .i64 ((IntKind.wrap .i64 (2 * a3)) + 1)))) + 1))) 0), ()) with
  | none => none
  | some (y2, _) => match y2 with
  | true => match idx a0 (IntKind.wrap .i64 (a2 + a3)) with
   | none => none
   | some x3 => match idx a0 (IntKind.wrap .i64 (a2 + (IntKind.wrap .i64 ((IntKind.wrap .i64 ((IntKind.wrap .i64 (2 * a3)) + 1)) + 1)))) with
   | none => none
   | some x4 => match Db ((AS a0 (AG (IntKind.wrap .i64 (a2 + a3))) 0), (AS a0 (AG (IntKind.wrap .i64 (a2 + (IntKind.wrap .i64 ((IntKind.wrap .i64 ((IntKind.wrap .i64 (2 * a3)) + 1)) + 1))))) 0), ()) with
   | none => none
   | some (y5, _) => match (!y5) with
   | true => some (.inr (.inr (.inl (a0, ()))))
   | false => match idx a0 (IntKind.wrap .i64 (a2 + (IntKind.wrap .i64 ((IntKind.wrap .i64 ((IntKind.wrap .i64 (2 * a3)) + 1)) + 1)))) with
   | none => none
   | some x6 => match idx a0 (IntKind.wrap .i64 (a2 + a3)) with
   | none => none
   | some x7 => match idx a0 (IntKind.wrap .i64 (a2 + a3)) with
   | none => none
   | some x8 => match idx (Ak a0 (AG (IntKind.wrap .i64 (a2 + a3))) (AS a0 (AG (IntKind.wrap .i64 (a2 + (IntKind.wrap .i64 ((IntKind.wrap .i64 ((IntKind.wrap .i64 (2 * a3)) + 1)) + 1))))) 0)) (IntKind.wrap .i64 (a2 + (IntKind.wrap .i64 ((IntKind.wrap .i64 ((IntKind.wrap .i64 (2 * a3)) + 1)) + 1)))) with
   | none => none
   | some x9 => some (.inl ((Ak (Ak a0 (AG (IntKind.wrap .i64 (a2 + a3))) (AS a0 (AG (IntKind.wrap .i64 (a2 + (IntKind.wrap .i64 ((IntKind.wrap .i64 ((IntKind.wrap .i64 (2 * a3)) + 1)) + 1))))) 0)) (AG (IntKind.wrap .i64 (a2 + (IntKind.wrap .i64 ((IntKind.wrap .i64 ((IntKind.wrap .i64 (2 * a3)) + 1)) + 1))))) (AS a0 (AG (IntKind.wrap .i64 (a2 + a3))) 0)), a1, a2, (IntKind.wrap .i64 ((IntKind.wrap .i64 ((IntKind.wrap .i64 (2 * a3)) + 1)) + 1)), ()))
  | false => match idx a0 (IntKind.wrap .i64 (a2 + a3)) with
  | none => none
  | some x10 => match idx a0 (IntKind.wrap .i64 (a2 + (IntKind.wrap .i64 ((IntKind.wrap .i64 (2 * a3)) + 1)))) with
  | none => none
  | some x11 => match Db ((AS a0 (AG (IntKind.wrap .i64 (a2 + a3))) 0), (AS a0 (AG (IntKind.wrap .i64 (a2 + (IntKind.wrap .i64 ((IntKind.wrap .i64 (2 * a3)) + 1))))) 0), ()) with
  | none => none
  | some (y12, _) => match (!y12) with
  | true => some (.inr (.inr (.inl (a0, ()))))
  | false => match idx a0 (IntKind.wrap .i64 (a2 + (IntKind.wrap .i64 ((IntKind.wrap .i64 (2 * a3)) + 1)))) with
  | none => none
  | some x13 => match idx a0 (IntKind.wrap .i64 (a2 + a3)) with
  | none => none
  | some x14 => match idx a0 (IntKind.wrap .i64 (a2 + a3)) with
  | none => none
  | some x15 => match idx (Ak a0 (AG (IntKind.wrap .i64 (a2 + a3))) (AS a0 (AG (IntKind.wrap .i64 (a2 + (IntKind.wrap .i64 ((IntKind.wrap .i64 (2 * a3)) + 1))))) 0)) (IntKind.wrap .i64 (a2 + (IntKind.wrap .i64 ((IntKind.wrap .i64 (2 * a3)) + 1)))) with
  | none => none
  | some x16 => some (.inl ((Ak (Ak a0 (AG (IntKind.wrap .i64 (a2 + a3))) (AS a0 (AG (IntKind.wrap .i64 (a2 + (IntKind.wrap .i64 ((IntKind.wrap .i64 (2 * a3)) + 1))))) 0)) (AG (IntKind.wrap .i64 (a2 + (IntKind.wrap .i64 ((IntKind.wrap .i64 (2 * a3)) + 1))))) (AS a0 (AG (IntKind.wrap .i64 (a2 + a3))) 0)), a1, a2, (IntKind.wrap .i64 ((IntKind.wrap .i64 (2 * a3)) + 1)), ()))
 | false => match idx a0 (IntKind.wrap .i64 (a2 + a3)) with
 | none => none
 | some x17 => match idx a0 (IntKind.wrap .i64 (a2 + (IntKind.wrap .i64 ((IntKind.wrap .i64 (2 * a3)) + 1)))) with
 | none => none
 | some x18 => match Db ((AS a0 (AG (IntKind.wrap .i64 (a2 + a3))) 0), (AS a0 (AG (IntKind.wrap .i64 (a2 + (IntKind.wrap .i64 ((IntKind.wrap .i64 (2 * a3)) + 1))))) 0), ()) with
 | none => none
 | some (y19, _) => match (!y19) with
 | true => some (.inr (.inr (.inl (a0, ()))))
 | false => match idx a0 (IntKind.wrap .i64 (a2 + (IntKind.wrap .i64 ((IntKind.wrap .i64 (2 * a3)) + 1)))) with
 | none => none
 | some x20 => match idx a0 (IntKind.wrap .i64 (a2 + a3)) with
 | none => none
 | some x21 => match idx a0 (IntKind.wrap .i64 (a2 + a3)) with
 | none => none
 | some x22 => match idx (Ak a0 (AG (IntKind.wrap .i64 (a2 + a3))) (AS a0 (AG (IntKind.wrap .i64 (a2 + (IntKind.wrap .i64 ((IntKind.wrap .i64 (2 * a3)) + 1))))) 0)) (IntKind.wrap .i64 (a2 + (IntKind.wrap .i64 ((IntKind.wrap .i64 (2 * a3)) + 1)))) with
 | none => none
 | some x23 => some (.inl ((Ak (Ak a0 (AG (IntKind.wrap .i64 (a2 + a3))) (AS a0 (AG (IntKind.wrap .i64 (a2 + (IntKind.wrap .i64 ((IntKind.wrap .i64 (2 * a3)) + 1))))) 0)) (AG (IntKind.wrap .i64 (a2 + (IntKind.wrap .i64 ((IntKind.wrap .i64 (2 * a3)) + 1))))) (AS a0 (AG (IntKind.wrap .i64 (a2 + a3))) 0)), a1, a2, (IntKind.wrap .i64 ((IntKind.wrap .i64 (2 * a3)) + 1)), ()))
def Tj [Lk] : U6 → Option (Ua) := fun (a0, a1, a2, a3, _) =>
 match AY H7 many (a0, a2, a3, a1, ()) with
 | none => none
 | some r => match r with
 | .inl (o0, _) => some (o0, ())
 | .inr r => match r with
 | .inl (o1, _) => some (o1, ())
 | .inr _ => none
def AAw [Lk] := fun v => Lk.f (Tj v)
theorem AGo v : AAw v = Tj v := AJ _
abbrev AEw : AE := [(.tmp 0, .own 3 U0), (.tmp 1, .di), (.tmp 2, .di)]
abbrev AEv : AE := [(.obj 0, .own 3 U0)]
abbrev AEu : List RS := []
abbrev AJE : AE := [(.obj 0, .own 3 U0), (.tmp 0, .own' 0), (.tmp 6, .di), (.tmp 7, .di), (.tmp 10, .di)]
abbrev AJC : Az := [(.exit 2, [(.obj 0, .own 3 U0)])]
def IK [Lk] : U6 → Option (U6 ⊕ Ua ⊕ Unit) := fun (a0, a1, a2, a3, _) =>
 match (ile 0 a3) with
 | true => match idx a0 (IntKind.wrap .i64 (a1 + a3)) with
  | none => none
  | some x0 => match idx a0 a1 with
  | none => none
  | some x1 => match idx a0 a1 with
  | none => none
  | some x2 => match idx (Ak a0 (AG a1) (AS a0 (AG (IntKind.wrap .i64 (a1 + a3))) 0)) (IntKind.wrap .i64 (a1 + a3)) with
  | none => none
  | some x3 => match AAw ((Ak (Ak a0 (AG a1) (AS a0 (AG (IntKind.wrap .i64 (a1 + a3))) 0)) (AG (IntKind.wrap .i64 (a1 + a3))) (AS a0 (AG a1) 0)), a2, a3, a1, ()) with
  | none => none
  | some (y4, _) => some (.inl (y4, a1, a2, (IntKind.wrap .i64 (a3 - 1)), ()))
 | false => some (.inr (.inl (a0, ())))
abbrev AJF : AE := [(.obj 0, .own 3 U0), (.tmp 0, .own' 0), (.tmp 6, .di), (.tmp 7, .di), (.tmp 8, .di), (.tmp 9, .di)]
abbrev AJD : Az := [(.exit 0, [(.obj 0, .own 3 U0), (.tmp 0, .own' 0), (.tmp 6, .di), (.tmp 7, .di), (.tmp 8, .di)])]
def IL [Lk] : Ug → Option (Ug ⊕ U6 ⊕ Unit) := fun (a0, a1, a2, a3, a4, _) =>
 match (ile 0 a4) with
 | true => match AAw (a0, a4, a3, a1, ()) with
  | none => none
  | some (y0, _) => some (.inl (y0, a1, a2, a3, (IntKind.wrap .i64 (a4 - 1)), ()))
 | false => some (.inr (.inl (a0, a1, a2, a3, ())))
def Tx [Lk] : Ud → Option (Ua) := fun (a0, a1, a2, _) =>
 match quo? .i64 (IntKind.wrap .i64 ((IntKind.wrap .i64 (a2 - a1)) - 1)) 2 with
 | none => none
 | some x0 => match AY IL many (a0, a1, 0, (IntKind.wrap .i64 (a2 - a1)), x0, ()) with
 | none => none
 | some r => match r with
 | .inl (o1, o2, o3, o4, _) => match AY IK many (o1, o2, o3, (IntKind.wrap .i64 (o4 - 1)), ()) with
  | none => none
  | some r => match r with
  | .inl (o5, _) => some (o5, ())
  | .inr _ => none
 | .inr _ => none
def ABY [Lk] := fun v => Lk.f (Tx v)
theorem AJG v : ABY v = Tx v := AJ _
abbrev Yt : AE := [(.tmp 0, .own 3 U0), (.tmp 1, .di), (.tmp 2, .di)]
abbrev Ys : AE := [(.obj 0, .own 3 U0)]
abbrev Yr : List RS := []
abbrev ABm : AE := [(.obj 0, .own 3 U0), (.tmp 0, .own' 0), (.tmp 1, .di), (.tmp 6, .di), (.tmp 7, .box 1), (.cell 1 0, .dat (.int .u64)), (.tmp 8, .dat (.int .u64)), (.tmp 9, .di)]
abbrev ABl : Az := [(.exit 0, [(.obj 0, .own 3 U0)])]
def E2 [Lk] : Um → Option (Um ⊕ Ua ⊕ Unit) := fun (a0, a1, a2, a3, a4, a5, _) =>
 match quo? .i64 a2 4 with
 | none => none
 | some x0 => match (ile a5 (IntKind.wrap .i64 ((IntKind.wrap .i64 (a1 + (IntKind.wrap .i64 (x0 * 2)))) + 1))) with
 | true => match xorNext (a3, ()) with
  | none => none
  | some (y1, y2, _) => match (ile a2 (IntKind.wrap .i64 (IntKind.wrap .u64 ((BitVec.ofInt (IntKind.bits .u64) y2 &&& BitVec.ofInt (IntKind.bits .u64) (IntKind.wrap .u64 (a4 - 1))).toNat)))) with
  | true => match idx a0 (IntKind.wrap .i64 (a1 + (IntKind.wrap .i64 ((IntKind.wrap .i64 (IntKind.wrap .u64 ((BitVec.ofInt (IntKind.bits .u64) y2 &&& BitVec.ofInt (IntKind.bits .u64) (IntKind.wrap .u64 (a4 - 1))).toNat))) - a2)))) with
   | none => none
   | some x3 => match idx a0 a5 with
   | none => none
   | some x4 => match idx a0 a5 with
   | none => none
   | some x5 => match idx (Ak a0 (AG a5) (AS a0 (AG (IntKind.wrap .i64 (a1 + (IntKind.wrap .i64 ((IntKind.wrap .i64 (IntKind.wrap .u64 ((BitVec.ofInt (IntKind.bits .u64) y2 &&& BitVec.ofInt (IntKind.bits .u64) (IntKind.wrap .u64 (a4 - 1))).toNat))) - a2))))) 0)) (IntKind.wrap .i64 (a1 + (IntKind.wrap .i64 ((IntKind.wrap .i64 (IntKind.wrap .u64 ((BitVec.ofInt (IntKind.bits .u64) y2 &&& BitVec.ofInt (IntKind.bits .u64) (IntKind.wrap .u64 (a4 - 1))).toNat))) - a2)))) with
   | none => none
   | some x6 => some (.inl ((Ak (Ak a0 (AG a5) (AS a0 (AG (IntKind.wrap .i64 (a1 + (IntKind.wrap .i64 ((IntKind.wrap .i64 (IntKind.wrap .u64 ((BitVec.ofInt (IntKind.bits .u64) y2 &&& BitVec.ofInt (IntKind.bits .u64) (IntKind.wrap .u64 (a4 - 1))).toNat))) - a2))))) 0)) (AG (IntKind.wrap .i64 (a1 + (IntKind.wrap .i64 ((IntKind.wrap .i64 (IntKind.wrap .u64 ((BitVec.ofInt (IntKind.bits .u64) y2 &&& BitVec.ofInt (IntKind.bits .u64) (IntKind.wrap .u64 (a4 - 1))).toNat))) - a2))))) (AS a0 (AG a5) 0)), a1, a2, y1, a4, (IntKind.wrap .i64 (a5 + 1)), ()))
  | false => match idx a0 (IntKind.wrap .i64 (a1 + (IntKind.wrap .i64 (IntKind.wrap .u64 ((BitVec.ofInt (IntKind.bits .u64) y2 &&& BitVec.ofInt (IntKind.bits .u64) (IntKind.wrap .u64 (a4 - 1))).toNat))))) with
  | none => none
  | some x7 => match idx a0 a5 with
  | none => none
  | some x8 => match idx a0 a5 with
  | none => none
  | some x9 => match idx (Ak a0 (AG a5) (AS a0 (AG (IntKind.wrap .i64 (a1 + (IntKind.wrap .i64 (IntKind.wrap .u64 ((BitVec.ofInt (IntKind.bits .u64) y2 &&& BitVec.ofInt (IntKind.bits .u64) (IntKind.wrap .u64 (a4 - 1))).toNat)))))) 0)) (IntKind.wrap .i64 (a1 + (IntKind.wrap .i64 (IntKind.wrap .u64 ((BitVec.ofInt (IntKind.bits .u64) y2 &&& BitVec.ofInt (IntKind.bits .u64) (IntKind.wrap .u64 (a4 - 1))).toNat))))) with
  | none => none
  | some x10 => some (.inl ((Ak (Ak a0 (AG a5) (AS a0 (AG (IntKind.wrap .i64 (a1 + (IntKind.wrap .i64 (IntKind.wrap .u64 ((BitVec.ofInt (IntKind.bits .u64) y2 &&& BitVec.ofInt (IntKind.bits .u64) (IntKind.wrap .u64 (a4 - 1))).toNat)))))) 0)) (AG (IntKind.wrap .i64 (a1 + (IntKind.wrap .i64 (IntKind.wrap .u64 ((BitVec.ofInt (IntKind.bits .u64) y2 &&& BitVec.ofInt (IntKind.bits .u64) (IntKind.wrap .u64 (a4 - 1))).toNat)))))) (AS a0 (AG a5) 0)), a1, a2, y1, a4, (IntKind.wrap .i64 (a5 + 1)), ()))
 | false => some (.inr (.inl (a0, ())))
def OY [Lk] : Ud → Option (Ua) := fun (a0, a1, a2, _) =>
 match (ile 8 (IntKind.wrap .i64 (a2 - a1))) with
 | true => match LI ((IntKind.wrap .i64 (a2 - a1)), ()) with
  | none => none
  | some (y0, _) => match quo? .i64 (IntKind.wrap .i64 (a2 - a1)) 4 with
  | none => none
  | some x1 => match AY E2 many (a0, a1, (IntKind.wrap .i64 (a2 - a1)), (IntKind.wrap .u64 (IntKind.wrap .i64 (a2 - a1))), y0, (IntKind.wrap .i64 ((IntKind.wrap .i64 (a1 + (IntKind.wrap .i64 (x1 * 2)))) - 1)), ()) with
  | none => none
  | some r => match r with
  | .inl (o2, _) => some (o2, ())
  | .inr _ => none
 | false => some (a0, ())
def RK [Lk] := fun v => Lk.f (OY v)
theorem ABn v : RK v = OY v := AJ _
abbrev QI : AE := [(.tmp 0, .own 3 U0), (.tmp 1, .di), (.tmp 2, .di), (.tmp 3, .box 1), (.cell 1 0, .di)]
abbrev QH : AE := [(.obj 0, .own 3 U0), (.obj 1, .box 1), (.cell 1 0, .di), (.tmp 0, .di), (.tmp 1, .di)]
abbrev QG : List RS := [.one, .one]
def LD [Lk] : U6 → Option (U6) := fun (a0, a1, a2, a3, _) =>
 match idx a0 a2 with
 | none => none
 | some x0 => match idx a0 a1 with
 | none => none
 | some x1 => match Db ((AS a0 (AG a2) 0), (AS a0 (AG a1) 0), ()) with
 | none => none
 | some (y2, _) => match y2 with
 | true => some (a0, (IntKind.wrap .i64 (a3 + 1)), a2, a1, ())
 | false => some (a0, a3, a1, a2, ())
def Ix [Lk] := fun v => Lk.f (LD v)
theorem W3 v : Ix v = LD v := AJ _
abbrev QT : AE := [(.tmp 0, .own 3 U0), (.tmp 1, .di), (.tmp 2, .di), (.tmp 3, .di), (.tmp 4, .box 1), (.cell 1 0, .di)]
abbrev QS : AE := [(.obj 0, .own 3 U0), (.obj 1, .box 1), (.cell 1 0, .di), (.tmp 0, .di)]
abbrev QR : List RS := [.one]
def LJ [Lk] : Ug → Option (Ud) := fun (a0, a1, a2, a3, a4, _) =>
 match Ix (a0, a1, a2, a4, ()) with
 | none => none
 | some (y0, y1, y2, y3, _) => match Ix (y0, y3, a3, y1, ()) with
 | none => none
 | some (y4, y5, y6, y7, _) => match Ix (y4, y2, y6, y5, ()) with
 | none => none
 | some (y8, y9, y10, y11, _) => some (y8, y9, y11, ())
def I3 [Lk] := fun v => Lk.f (LJ v)
theorem W9 v : I3 v = LJ v := AJ _
abbrev QZ : AE := [(.tmp 0, .own 3 U0), (.tmp 1, .di), (.tmp 2, .box 1), (.cell 1 0, .di)]
abbrev QY : AE := [(.obj 0, .own 3 U0), (.obj 1, .box 1), (.cell 1 0, .di), (.tmp 0, .di)]
abbrev QX : List RS := [.one]
def LM [Lk] : Ud → Option (Ud) := fun (a0, a1, a2, _) =>
 match I3 (a0, (IntKind.wrap .i64 (a1 - 1)), a1, (IntKind.wrap .i64 (a1 + 1)), a2, ()) with
 | none => none
 | some (y0, y1, y2, _) => some (y0, y1, y2, ())
def I4 [Lk] := fun v => Lk.f (LM v)
theorem XA v : I4 v = LM v := AJ _
abbrev WU : AE := [(.tmp 0, .own 3 U0), (.tmp 1, .di), (.tmp 2, .di)]
abbrev WT : AE := [(.obj 0, .own 3 U0), (.tmp 0, .di), (.tmp 1, .di)]
abbrev WS : List RS := [.one, .one]
def Nc [Lk] : Ud → Option (Ud) := fun (a0, a1, a2, _) =>
 match quo? .i64 (IntKind.wrap .i64 (a2 - a1)) 4 with
 | none => none
 | some x0 => match quo? .i64 (IntKind.wrap .i64 (a2 - a1)) 4 with
 | none => none
 | some x1 => match quo? .i64 (IntKind.wrap .i64 (a2 - a1)) 4 with
 | none => none
 | some x2 => match (ile 8 (IntKind.wrap .i64 (a2 - a1))) with
 | true => match (ile 50 (IntKind.wrap .i64 (a2 - a1))) with
  | true => match I4 (a0, (IntKind.wrap .i64 (a1 + (IntKind.wrap .i64 (x0 * 1)))), 0, ()) with
   | none => none
   | some (y3, y4, y5, _) => match I4 (y3, (IntKind.wrap .i64 (a1 + (IntKind.wrap .i64 (x1 * 2)))), y4, ()) with
   | none => none
   | some (y6, y7, y8, _) => match I4 (y6, (IntKind.wrap .i64 (a1 + (IntKind.wrap .i64 (x2 * 3)))), y7, ()) with
   | none => none
   | some (y9, y10, y11, _) => match I3 (y9, y5, y8, y11, y10, ()) with
   | none => none
   | some (y12, y13, y14, _) => match (ieq y13 0) with
   | true => some (y12, y14, 1, ())
   | false => match (ieq y13 12) with
   | true => some (y12, y14, 2, ())
   | false => some (y12, y14, 0, ())
  | false => match I3 (a0, (IntKind.wrap .i64 (a1 + (IntKind.wrap .i64 (x0 * 1)))), (IntKind.wrap .i64 (a1 + (IntKind.wrap .i64 (x1 * 2)))), (IntKind.wrap .i64 (a1 + (IntKind.wrap .i64 (x2 * 3)))), 0, ()) with
  | none => none
  | some (y15, y16, y17, _) => match (ieq y16 0) with
  | true => some (y15, y17, 1, ())
  | false => match (ieq y16 12) with
  | true => some (y15, y17, 2, ())
  | false => some (y15, y17, 0, ())
 | false => match (ieq 0 0) with
 | true => some (a0, (IntKind.wrap .i64 (a1 + (IntKind.wrap .i64 (x1 * 2)))), 1, ())
 | false => match (ieq 0 12) with
 | true => some (a0, (IntKind.wrap .i64 (a1 + (IntKind.wrap .i64 (x1 * 2)))), 2, ())
 | false => some (a0, (IntKind.wrap .i64 (a1 + (IntKind.wrap .i64 (x1 * 2)))), 0, ())
def P2 [Lk] := fun v => Lk.f (Nc v)
theorem AA9 v : P2 v = Nc v := AJ _
abbrev ALX : AE := [(.tmp 0, .own 3 U0), (.tmp 1, .di), (.tmp 2, .di)]
abbrev ALW : AE := [(.obj 0, .own 3 U0)]
abbrev ALV : List RS := []
abbrev APJ : AE := [(.obj 0, .own 3 U0), (.tmp 0, .own' 0), (.tmp 6, .di), (.tmp 7, .di)]
abbrev API : Az := [(.exit 0, [(.obj 0, .own 3 U0)])]
def NY [Lk] : Ud → Option (Ud ⊕ Ua ⊕ Unit) := fun (a0, a1, a2, _) =>
 match (ilt a1 a2) with
 | true => match idx a0 a2 with
  | none => none
  | some x0 => match idx a0 a1 with
  | none => none
  | some x1 => match idx a0 a1 with
  | none => none
  | some x2 => match idx (Ak a0 (AG a1) (AS a0 (AG a2) 0)) a2 with
  | none => none
  | some x3 => some (.inl ((Ak (Ak a0 (AG a1) (AS a0 (AG a2) 0)) (AG a2) (AS a0 (AG a1) 0)), (IntKind.wrap .i64 (a1 + 1)), (IntKind.wrap .i64 (a2 - 1)), ()))
 | false => some (.inr (.inl (a0, ())))
def ADE [Lk] : Ud → Option (Ua) := fun (a0, a1, a2, _) =>
 match AY NY many (a0, a1, (IntKind.wrap .i64 (a2 - 1)), ()) with
 | none => none
 | some r => match r with
 | .inl (o0, _) => some (o0, ())
 | .inr _ => none
def ARG [Lk] := fun v => Lk.f (ADE v)
theorem APK v : ARG v = ADE v := AJ _
abbrev MV : AE := [(.tmp 0, .own 3 U0), (.tmp 1, .di), (.tmp 2, .di)]
abbrev MU : AE := [(.obj 0, .own 3 U0), (.tmp 0, .dat .bool)]
abbrev MT : List RS := [.one]
abbrev SS : AE := [(.obj 0, .own 3 U0), (.tmp 0, .own' 0), (.tmp 1, .di), (.tmp 2, .di), (.tmp 7, .di), (.tmp 8, .di), (.tmp 10, .di)]
abbrev SN : Az := [(.exit 6, [(.obj 0, .own 3 U0), (.tmp 0, .own' 0), (.tmp 1, .di), (.tmp 2, .di), (.tmp 7, .di), (.tmp 8, .di)])]
def D6 [Lk] : Um → Option (Um ⊕ Ug ⊕ Unit) := fun (a0, a1, a2, a3, a4, a5, _) =>
 match (ilt a5 a2) with
 | true => match idx a0 a5 with
  | none => none
  | some x0 => match idx a0 (IntKind.wrap .i64 (a5 - 1)) with
  | none => none
  | some x1 => match Db ((AS a0 (AG a5) 0), (AS a0 (AG (IntKind.wrap .i64 (a5 - 1))) 0), ()) with
  | none => none
  | some (y2, _) => match (!y2) with
  | true => some (.inr (.inl (a0, a1, a2, a3, a4, ())))
  | false => match idx a0 (IntKind.wrap .i64 (a5 - 1)) with
  | none => none
  | some x3 => match idx a0 a5 with
  | none => none
  | some x4 => match idx a0 a5 with
  | none => none
  | some x5 => match idx (Ak a0 (AG a5) (AS a0 (AG (IntKind.wrap .i64 (a5 - 1))) 0)) (IntKind.wrap .i64 (a5 - 1)) with
  | none => none
  | some x6 => some (.inl ((Ak (Ak a0 (AG a5) (AS a0 (AG (IntKind.wrap .i64 (a5 - 1))) 0)) (AG (IntKind.wrap .i64 (a5 - 1))) (AS a0 (AG a5) 0)), a1, a2, a3, a4, (IntKind.wrap .i64 (a5 + 1)), ()))
 | false => some (.inr (.inl (a0, a1, a2, a3, a4, ())))
abbrev SU : AE := [(.obj 0, .own 3 U0), (.tmp 0, .own' 0), (.tmp 1, .di), (.tmp 2, .di), (.tmp 7, .di), (.tmp 8, .di), (.tmp 9, .di)]
abbrev SO : Az := [(.exit 4, [(.obj 0, .own 3 U0), (.tmp 0, .own' 0), (.tmp 1, .di), (.tmp 2, .di), (.tmp 7, .di), (.tmp 8, .di)])]
def D7 [Lk] : Um → Option (Um ⊕ Ug ⊕ Unit) := fun (a0, a1, a2, a3, a4, a5, _) =>
 match (ile 1 a5) with
 | true => match idx a0 a5 with
  | none => none
  | some x0 => match idx a0 (IntKind.wrap .i64 (a5 - 1)) with
  | none => none
  | some x1 => match Db ((AS a0 (AG a5) 0), (AS a0 (AG (IntKind.wrap .i64 (a5 - 1))) 0), ()) with
  | none => none
  | some (y2, _) => match (!y2) with
  | true => some (.inr (.inl (a0, a1, a2, a3, a4, ())))
  | false => match idx a0 (IntKind.wrap .i64 (a5 - 1)) with
  | none => none
  | some x3 => match idx a0 a5 with
  | none => none
  | some x4 => match idx a0 a5 with
  | none => none
  | some x5 => match idx (Ak a0 (AG a5) (AS a0 (AG (IntKind.wrap .i64 (a5 - 1))) 0)) (IntKind.wrap .i64 (a5 - 1)) with
  | none => none
  | some x6 => some (.inl ((Ak (Ak a0 (AG a5) (AS a0 (AG (IntKind.wrap .i64 (a5 - 1))) 0)) (AG (IntKind.wrap .i64 (a5 - 1))) (AS a0 (AG a5) 0)), a1, a2, a3, a4, (IntKind.wrap .i64 (a5 - 1)), ()))
 | false => some (.inr (.inl (a0, a1, a2, a3, a4, ())))
abbrev SV : AE := [(.obj 0, .own 3 U0), (.tmp 0, .own' 0), (.tmp 1, .di), (.tmp 2, .di), (.tmp 7, .di), (.tmp 8, .di)]
abbrev SQ : Az := [(.exit 2, [(.obj 0, .own 3 U0), (.tmp 0, .own' 0), (.tmp 1, .di), (.tmp 2, .di), (.tmp 7, .di), (.tmp 8, .di)])]
def FQ [Lk] : Ug → Option (Ug ⊕ Ug ⊕ Unit) := fun (a0, a1, a2, a3, a4, _) =>
 match (ilt a3 a2) with
 | true => match idx a0 a3 with
  | none => none
  | some x0 => match idx a0 (IntKind.wrap .i64 (a3 - 1)) with
  | none => none
  | some x1 => match Db ((AS a0 (AG a3) 0), (AS a0 (AG (IntKind.wrap .i64 (a3 - 1))) 0), ()) with
  | none => none
  | some (y2, _) => match (!y2) with
  | true => some (.inl (a0, a1, a2, (IntKind.wrap .i64 (a3 + 1)), a4, ()))
  | false => some (.inr (.inl (a0, a1, a2, a3, a4, ())))
 | false => some (.inr (.inl (a0, a1, a2, a3, a4, ())))
abbrev SW : AE := [(.obj 0, .own 3 U0), (.tmp 0, .own' 0), (.tmp 1, .di), (.tmp 2, .di), (.tmp 7, .di), (.tmp 8, .di)]
abbrev SR : Az := [(.ret, [(.obj 0, .own 3 U0), (.tmp 6, .dat .bool)]), (.exit 0, [(.obj 0, .own 3 U0)])]
def B9 [Lk] : Ug → Option (Ug ⊕ V2 ⊕ Ua ⊕ Unit) := fun (a0, a1, a2, a3, a4, _) =>
 match (ilt a4 5) with
 | true => match AY FQ many (a0, a1, a2, a3, a4, ()) with
  | none => none
  | some r => match r with
  | .inl (o0, o1, o2, o3, o4, _) => match (ieq o3 o2) with
   | true => some (.inr (.inl (o0, true, ())))
   | false => match (ilt (IntKind.wrap .i64 (o2 - o1)) 50) with
   | true => some (.inr (.inl (o0, false, ())))
   | false => match idx o0 (IntKind.wrap .i64 (o3 - 1)) with
   | none => none
   | some x5 => match idx o0 o3 with
   | none => none
   | some x6 => match idx o0 o3 with
   | none => none
   | some x7 => match idx (Ak o0 (AG o3) (AS o0 (AG (IntKind.wrap .i64 (o3 - 1))) 0)) (IntKind.wrap .i64 (o3 - 1)) with
   | none => none
   | some x8 => match (ile 2 (IntKind.wrap .i64 (o3 - o1))) with
   | true => match AY D7 many ((Ak (Ak o0 (AG o3) (AS o0 (AG (IntKind.wrap .i64 (o3 - 1))) 0)) (AG (IntKind.wrap .i64 (o3 - 1))) (AS o0 (AG o3) 0)), o1, o2, o3, o4, (IntKind.wrap .i64 (o3 - 1)), ()) with
    | none => none
    | some r => match r with
    | .inl (o9, o10, o11, o12, o13, _) => match (ile 2 (IntKind.wrap .i64 (o11 - o12))) with
     | true => match AY D6 many (o9, o10, o11, o12, o13, (IntKind.wrap .i64 (o12 + 1)), ()) with
      | none => none
      | some r => match r with
      | .inl (o14, o15, o16, o17, o18, _) => some (.inl (o14, o15, o16, o17, (IntKind.wrap .i64 (o18 + 1)), ()))
      | .inr _ => none
     | false => some (.inl (o9, o10, o11, o12, (IntKind.wrap .i64 (o13 + 1)), ()))
    | .inr _ => none
   | false => match (ile 2 (IntKind.wrap .i64 (o2 - o3))) with
   | true => match AY D6 many ((Ak (Ak o0 (AG o3) (AS o0 (AG (IntKind.wrap .i64 (o3 - 1))) 0)) (AG (IntKind.wrap .i64 (o3 - 1))) (AS o0 (AG o3) 0)), o1, o2, o3, o4, (IntKind.wrap .i64 (o3 + 1)), ()) with
    | none => none
    | some r => match r with
    | .inl (o19, o20, o21, o22, o23, _) => some (.inl (o19, o20, o21, o22, (IntKind.wrap .i64 (o23 + 1)), ()))
    | .inr _ => none
   | false => some (.inl ((Ak (Ak o0 (AG o3) (AS o0 (AG (IntKind.wrap .i64 (o3 - 1))) 0)) (AG (IntKind.wrap .i64 (o3 - 1))) (AS o0 (AG o3) 0)), o1, o2, o3, (IntKind.wrap .i64 (o4 + 1)), ()))
  | .inr _ => none
 | false => some (.inr (.inr (.inl (a0, ()))))
def Is [Lk] : Ud → Option (V2) := fun (a0, a1, a2, _) =>
 match AY B9 many (a0, a1, a2, (IntKind.wrap .i64 (a1 + 1)), 0, ()) with
 | none => none
 | some r => match r with
 | .inl (o0, o1, _) => some (o0, o1, ())
 | .inr r => match r with
 | .inl (o2, _) => some (o2, false, ())
 | .inr _ => none
def IC [Lk] := fun v => Lk.f (Is v)
theorem SX v : IC v = Is v := AJ _
abbrev QC : AE := [(.tmp 0, .own 3 U0), (.tmp 1, .di), (.tmp 2, .di), (.tmp 3, .di)]
abbrev QB : AE := [(.obj 0, .own 3 U0), (.tmp 0, .di)]
abbrev QA : List RS := [.one]
abbrev Wy : AE := [(.obj 0, .own 3 U0), (.tmp 0, .own' 0), (.tmp 1, .di), (.tmp 9, .di), (.tmp 10, .di)]
abbrev Wv : Az := [(.exit 4, [(.obj 0, .own 3 U0), (.tmp 0, .own' 0), (.tmp 1, .di), (.tmp 9, .di), (.tmp 10, .di)])]
def Gm [Lk] : U6 → Option V6 := fun (a0, a1, a2, a3, _) =>
 match (ile a2 a3) with
 | true => match idx a0 a1 with
  | none => none
  | some x0 => match idx a0 a3 with
  | none => none
  | some x1 => match Db ((AS a0 (AG a1) 0), (AS a0 (AG a3) 0), ()) with
  | none => none
  | some (y2, _) => match y2 with
  | true => some (.inl (a0, a1, a2, (IntKind.wrap .i64 (a3 - 1)), ()))
  | false => some (.inr (.inl (a0, a1, a2, a3, ())))
 | false => some (.inr (.inl (a0, a1, a2, a3, ())))
abbrev Wz : AE := [(.obj 0, .own 3 U0), (.tmp 0, .own' 0), (.tmp 1, .di), (.tmp 9, .di), (.tmp 10, .di)]
abbrev Ww : Az := [(.exit 2, [(.obj 0, .own 3 U0), (.tmp 0, .own' 0), (.tmp 1, .di), (.tmp 9, .di), (.tmp 10, .di)])]
def Gn [Lk] : U6 → Option V6 := fun (a0, a1, a2, a3, _) =>
 match (ile a2 a3) with
 | true => match idx a0 a1 with
  | none => none
  | some x0 => match idx a0 a2 with
  | none => none
  | some x1 => match Db ((AS a0 (AG a1) 0), (AS a0 (AG a2) 0), ()) with
  | none => none
  | some (y2, _) => match (!y2) with
  | true => some (.inl (a0, a1, (IntKind.wrap .i64 (a2 + 1)), a3, ()))
  | false => some (.inr (.inl (a0, a1, a2, a3, ())))
 | false => some (.inr (.inl (a0, a1, a2, a3, ())))
abbrev W0 : AE := [(.obj 0, .own 3 U0), (.tmp 0, .own' 0), (.tmp 1, .di), (.tmp 9, .di), (.tmp 10, .di)]
abbrev Wx : Az := [(.exit 0, [(.obj 0, .own 3 U0), (.tmp 9, .di)])]
def Gp [Lk] : U6 → Option (U6 ⊕ Un ⊕ Unit) := fun (a0, a1, a2, a3, _) =>
 match AY Gn many (a0, a1, a2, a3, ()) with
 | none => none
 | some r => match r with
 | .inl (o0, o1, o2, o3, _) => match AY Gm many (o0, o1, o2, o3, ()) with
  | none => none
  | some r => match r with
  | .inl (o4, o5, o6, o7, _) => match (ilt o7 o6) with
   | true => some (.inr (.inl (o4, o6, ())))
   | false => match idx o4 o7 with
   | none => none
   | some x8 => match idx o4 o6 with
   | none => none
   | some x9 => match idx o4 o6 with
   | none => none
   | some x10 => match idx (Ak o4 (AG o6) (AS o4 (AG o7) 0)) o7 with
   | none => none
   | some x11 => some (.inl ((Ak (Ak o4 (AG o6) (AS o4 (AG o7) 0)) (AG o7) (AS o4 (AG o6) 0)), o5, (IntKind.wrap .i64 (o6 + 1)), (IntKind.wrap .i64 (o7 - 1)), ()))
  | .inr _ => none
 | .inr _ => none
def LA [Lk] : U6 → Option (Un) := fun (a0, a1, a2, a3, _) =>
 match idx a0 a3 with
 | none => none
 | some x0 => match idx a0 a1 with
 | none => none
 | some x1 => match idx a0 a1 with
 | none => none
 | some x2 => match idx (Ak a0 (AG a1) (AS a0 (AG a3) 0)) a3 with
 | none => none
 | some x3 => match AY Gp many ((Ak (Ak a0 (AG a1) (AS a0 (AG a3) 0)) (AG a3) (AS a0 (AG a1) 0)), a1, (IntKind.wrap .i64 (a1 + 1)), (IntKind.wrap .i64 (a2 - 1)), ()) with
 | none => none
 | some r => match r with
 | .inl (o4, o5, _) => some (o4, o5, ())
 | .inr _ => none
def LB [Lk] := fun v => Lk.f (LA v)
theorem W1 v : LB v = LA v := AJ _
abbrev ADm : AE := [(.tmp 0, .own 3 U0), (.tmp 1, .di), (.tmp 2, .di), (.tmp 3, .di)]
abbrev ADl : AE := [(.obj 0, .own 3 U0), (.tmp 0, .di), (.tmp 1, .dat .bool)]
abbrev ADk : List RS := [.one, .one]
abbrev AIA : AE := [(.obj 0, .own 3 U0), (.tmp 0, .own' 0), (.tmp 1, .di), (.tmp 10, .di), (.tmp 11, .di)]
abbrev AH5 : Az := [(.exit 8, [(.obj 0, .own 3 U0), (.tmp 0, .own' 0), (.tmp 1, .di), (.tmp 10, .di), (.tmp 11, .di)])]
def J0 [Lk] : U6 → Option V6 := fun (a0, a1, a2, a3, _) =>
 match (ile a2 a3) with
 | true => match idx a0 a3 with
  | none => none
  | some x0 => match idx a0 a1 with
  | none => none
  | some x1 => match Db ((AS a0 (AG a3) 0), (AS a0 (AG a1) 0), ()) with
  | none => none
  | some (y2, _) => match (!y2) with
  | true => some (.inl (a0, a1, a2, (IntKind.wrap .i64 (a3 - 1)), ()))
  | false => some (.inr (.inl (a0, a1, a2, a3, ())))
 | false => some (.inr (.inl (a0, a1, a2, a3, ())))
abbrev AIB : AE := [(.obj 0, .own 3 U0), (.tmp 0, .own' 0), (.tmp 1, .di), (.tmp 10, .di), (.tmp 11, .di)]
abbrev AH6 : Az := [(.exit 6, [(.obj 0, .own 3 U0), (.tmp 0, .own' 0), (.tmp 1, .di), (.tmp 10, .di), (.tmp 11, .di)])]
def J1 [Lk] : U6 → Option V6 := fun (a0, a1, a2, a3, _) =>
 match (ile a2 a3) with
 | true => match idx a0 a2 with
  | none => none
  | some x0 => match idx a0 a1 with
  | none => none
  | some x1 => match Db ((AS a0 (AG a2) 0), (AS a0 (AG a1) 0), ()) with
  | none => none
  | some (y2, _) => match y2 with
  | true => some (.inl (a0, a1, (IntKind.wrap .i64 (a2 + 1)), a3, ()))
  | false => some (.inr (.inl (a0, a1, a2, a3, ())))
 | false => some (.inr (.inl (a0, a1, a2, a3, ())))
abbrev AIC : AE := [(.obj 0, .own 3 U0), (.tmp 0, .own' 0), (.tmp 1, .di), (.tmp 10, .di), (.tmp 11, .di)]
abbrev AH7 : Az := [(.exit 4, [(.obj 0, .own 3 U0), (.tmp 0, .own' 0), (.tmp 1, .di), (.tmp 11, .di)])]
def J2 [Lk] : U6 → Option (U6 ⊕ Ud ⊕ Unit) := fun (a0, a1, a2, a3, _) =>
 match AY J1 many (a0, a1, a2, a3, ()) with
 | none => none
 | some r => match r with
 | .inl (o0, o1, o2, o3, _) => match AY J0 many (o0, o1, o2, o3, ()) with
  | none => none
  | some r => match r with
  | .inl (o4, o5, o6, o7, _) => match (ilt o7 o6) with
   | true => some (.inr (.inl (o4, o5, o7, ())))
   | false => match idx o4 o7 with
   | none => none
   | some x8 => match idx o4 o6 with
   | none => none
   | some x9 => match idx o4 o6 with
   | none => none
   | some x10 => match idx (Ak o4 (AG o6) (AS o4 (AG o7) 0)) o7 with
   | none => none
   | some x11 => some (.inl ((Ak (Ak o4 (AG o6) (AS o4 (AG o7) 0)) (AG o7) (AS o4 (AG o6) 0)), o5, (IntKind.wrap .i64 (o6 + 1)), (IntKind.wrap .i64 (o7 - 1)), ()))
  | .inr _ => none
 | .inr _ => none
abbrev AID : AE := [(.obj 0, .own 3 U0), (.tmp 0, .own' 0), (.tmp 1, .di), (.tmp 10, .di), (.tmp 11, .di)]
abbrev AH8 : Az := [(.exit 2, [(.obj 0, .own 3 U0), (.tmp 0, .own' 0), (.tmp 1, .di), (.tmp 10, .di), (.tmp 11, .di)])]
def J3 [Lk] : U6 → Option V6 := fun (a0, a1, a2, a3, _) =>
 match (ile a2 a3) with
 | true => match idx a0 a3 with
  | none => none
  | some x0 => match idx a0 a1 with
  | none => none
  | some x1 => match Db ((AS a0 (AG a3) 0), (AS a0 (AG a1) 0), ()) with
  | none => none
  | some (y2, _) => match (!y2) with
  | true => some (.inl (a0, a1, a2, (IntKind.wrap .i64 (a3 - 1)), ()))
  | false => some (.inr (.inl (a0, a1, a2, a3, ())))
 | false => some (.inr (.inl (a0, a1, a2, a3, ())))
abbrev AIE : AE := [(.obj 0, .own 3 U0), (.tmp 0, .own' 0), (.tmp 1, .di), (.tmp 10, .di), (.tmp 11, .di)]
abbrev AH9 : Az := [(.exit 0, [(.obj 0, .own 3 U0), (.tmp 0, .own' 0), (.tmp 1, .di), (.tmp 10, .di), (.tmp 11, .di)])]
def J4 [Lk] : U6 → Option V6 := fun (a0, a1, a2, a3, _) =>
 match (ile a2 a3) with
 | true => match idx a0 a2 with
  | none => none
  | some x0 => match idx a0 a1 with
  | none => none
  | some x1 => match Db ((AS a0 (AG a2) 0), (AS a0 (AG a1) 0), ()) with
  | none => none
  | some (y2, _) => match y2 with
  | true => some (.inl (a0, a1, (IntKind.wrap .i64 (a2 + 1)), a3, ()))
  | false => some (.inr (.inl (a0, a1, a2, a3, ())))
 | false => some (.inr (.inl (a0, a1, a2, a3, ())))
def To [Lk] : U6 → Option ((List Int × Int × Bool × Unit)) := fun (a0, a1, a2, a3, _) =>
 match idx a0 a3 with
 | none => none
 | some x0 => match idx a0 a1 with
 | none => none
 | some x1 => match idx a0 a1 with
 | none => none
 | some x2 => match idx (Ak a0 (AG a1) (AS a0 (AG a3) 0)) a3 with
 | none => none
 | some x3 => match AY J4 many ((Ak (Ak a0 (AG a1) (AS a0 (AG a3) 0)) (AG a3) (AS a0 (AG a1) 0)), a1, (IntKind.wrap .i64 (a1 + 1)), (IntKind.wrap .i64 (a2 - 1)), ()) with
 | none => none
 | some r => match r with
 | .inl (o4, o5, o6, o7, _) => match AY J3 many (o4, o5, o6, o7, ()) with
  | none => none
  | some r => match r with
  | .inl (o8, o9, o10, o11, _) => match (ilt o11 o10) with
   | true => match idx o8 o9 with
    | none => none
    | some x12 => match idx o8 o11 with
    | none => none
    | some x13 => match idx o8 o11 with
    | none => none
    | some x14 => match idx (Ak o8 (AG o11) (AS o8 (AG o9) 0)) o9 with
    | none => none
    | some x15 => some ((Ak (Ak o8 (AG o11) (AS o8 (AG o9) 0)) (AG o9) (AS o8 (AG o11) 0)), o11, true, ())
   | false => match idx o8 o11 with
   | none => none
   | some x16 => match idx o8 o10 with
   | none => none
   | some x17 => match idx o8 o10 with
   | none => none
   | some x18 => match idx (Ak o8 (AG o10) (AS o8 (AG o11) 0)) o11 with
   | none => none
   | some x19 => match AY J2 many ((Ak (Ak o8 (AG o10) (AS o8 (AG o11) 0)) (AG o11) (AS o8 (AG o10) 0)), o9, (IntKind.wrap .i64 (o10 + 1)), (IntKind.wrap .i64 (o11 - 1)), ()) with
   | none => none
   | some r => match r with
   | .inl (o20, o21, o22, _) => match idx o20 o21 with
    | none => none
    | some x23 => match idx o20 o22 with
    | none => none
    | some x24 => match idx o20 o22 with
    | none => none
    | some x25 => match idx (Ak o20 (AG o22) (AS o20 (AG o21) 0)) o21 with
    | none => none
    | some x26 => some ((Ak (Ak o20 (AG o22) (AS o20 (AG o21) 0)) (AG o21) (AS o20 (AG o22) 0)), o22, false, ())
   | .inr _ => none
  | .inr _ => none
 | .inr _ => none
def Nj [Lk] := fun v => Lk.f (To v)
theorem AIF v : Nj v = To v := AJ _
abbrev Wb : AE := [(.tmp 0, .own 3 U0), (.tmp 1, .di), (.tmp 2, .di), (.tmp 3, .di)]
abbrev Wa : AE := [(.obj 0, .own 3 U0)]
abbrev WZ : List RS := []
abbrev APR : AE := [(.obj 0, .own 3 U0), (.tmp 0, .own' 0), (.tmp 1, .di), (.tmp 2, .di), (.tmp 3, .di), (.tmp 8, .dat .bool), (.tmp 9, .dat .bool)]
abbrev APQ : Az := [(.ret, [(.obj 0, .own 3 U0)])]
def ADW [Lk] (self : U6 → Option (Ua)) (y7 : List Int) (a1 a2 p l : Int) (a4 a5 : Bool) : Option (Us ⊕ Ua ⊕ Unit) :=
 match (ilt 0 a1) with
 | true => match idx y7 (IntKind.wrap .i64 (a1 - 1)) with
  | none => none
  | some x9 => match idx y7 p with
  | none => none
  | some x10 => match Db ((AS y7 (AG (IntKind.wrap .i64 (a1 - 1))) 0), (AS y7 (AG p) 0), ()) with
  | none => none
  | some (y11, _) => match (!y11) with
  | true => match LB (y7, a1, a2, p, ()) with
   | none => none
   | some (y12, y13, _) => some (.inl (y12, y13, a2, l, a4, a5, ()))
  | false => match Nj (y7, a1, a2, p, ()) with
  | none => none
  | some (y14, y15, y16, _) => match quo? .i64 (IntKind.wrap .i64 (a2 - a1)) 8 with
  | none => none
  | some x17 => match (ilt (IntKind.wrap .i64 (y15 - a1)) (IntKind.wrap .i64 (a2 - y15))) with
  | true => match self (y14, a1, y15, l, ()) with
   | none => none
   | some (y18, _) => some (.inl (y18, (IntKind.wrap .i64 (y15 + 1)), a2, l, (ile x17 (IntKind.wrap .i64 (y15 - a1))), y16, ()))
  | false => match self (y14, (IntKind.wrap .i64 (y15 + 1)), a2, l, ()) with
  | none => none
  | some (y19, _) => some (.inl (y19, a1, y15, l, (ile x17 (IntKind.wrap .i64 (a2 - y15))), y16, ()))
 | false => match Nj (y7, a1, a2, p, ()) with
 | none => none
 | some (y20, y21, y22, _) => match quo? .i64 (IntKind.wrap .i64 (a2 - a1)) 8 with
 | none => none
 | some x23 => match (ilt (IntKind.wrap .i64 (y21 - a1)) (IntKind.wrap .i64 (a2 - y21))) with
 | true => match self (y20, a1, y21, l, ()) with
  | none => none
  | some (y24, _) => some (.inl (y24, (IntKind.wrap .i64 (y21 + 1)), a2, l, (ile x23 (IntKind.wrap .i64 (y21 - a1))), y22, ()))
 | false => match self (y20, (IntKind.wrap .i64 (y21 + 1)), a2, l, ()) with
 | none => none
 | some (y25, _) => some (.inl (y25, a1, y21, l, (ile x23 (IntKind.wrap .i64 (a2 - y21))), y22, ()))
def AUo [Lk] (self : U6 → Option (Ua)) (y6 : List Int) (a1 a2 p h l : Int) (a4 a5 : Bool) : Option (Us ⊕ Ua ⊕ Unit) :=
 match a4 with
 | true => match a5 with
  | true => match (ieq h 1) with
   | true => match IC (y6, a1, a2, ()) with
    | none => none
    | some (y7, y8, _) => match y8 with
    | true => some (.inr (.inl (y7, ())))
    | false => ADW self y7 a1 a2 p l a4 a5
   | false => ADW self y6 a1 a2 p l a4 a5
  | false => ADW self y6 a1 a2 p l a4 a5
 | false => ADW self y6 a1 a2 p l a4 a5
def AUn [Lk] (self : U6 → Option (Ua)) (y2 : List Int) (a1 a2 l : Int) (a4 a5 : Bool) : Option (Us ⊕ Ua ⊕ Unit) :=
 match P2 (y2, a1, a2, ()) with
 | none => none
 | some (y3, y4, y5, _) => match (ieq y5 2) with
 | true => match ARG (y3, a1, a2, ()) with
  | none => none
  | some (y6, _) => AUo self y6 a1 a2 (IntKind.wrap .i64 ((IntKind.wrap .i64 (a2 - 1)) - (IntKind.wrap .i64 (y4 - a1)))) 1 l a4 a5
 | false => AUo self y3 a1 a2 y4 y5 l a4 a5
def K9 [Lk] (self : U6 → Option (Ua)) : Us → Option (Us ⊕ Ua ⊕ Unit) := fun (a0, a1, a2, a3, a4, a5, _) =>
 match (ile (IntKind.wrap .i64 (a2 - a1)) 12) with
 | true => match ASY (a0, a1, a2, ()) with
  | none => none
  | some (y0, _) => some (.inr (.inl (y0, ())))
 | false => match (ieq a3 0) with
 | true => match ABY (a0, a1, a2, ()) with
  | none => none
  | some (y1, _) => some (.inr (.inl (y1, ())))
 | false => match (!a4) with
 | true => match RK (a0, a1, a2, ()) with
  | none => none
  | some (y2, _) => AUn self y2 a1 a2 (IntKind.wrap .i64 (a3 - 1)) a4 a5
 | false => AUn self a0 a1 a2 a3 a4 a5
def ADX [Lk] (self : U6 → Option (Ua)) : U6 → Option (Ua) := fun (a0, a1, a2, a3, _) =>
 match AY (K9 self) many (a0, a1, a2, a3, true, true, ()) with
 | none => none
 | some r => match r with
 | .inl (o0, _) => some (o0, ())
 | .inr _ => none
def Gl [Lk] : Nat → U6 → Option (Ua)
 | 0, _ => none
 | n + 1, v => ADX (Gl n) v
def AUp [Lk] := fun v => Lk.f (Gl 100 v)
theorem AXh v : AUp v = Gl 100 v := AJ _
abbrev ACr : AE := [(.tmp 0, .own 3 U0)]
abbrev ACq : AE := [(.obj 0, .own 3 U0)]
abbrev ACp : List RS := []
def ACs [Lk] : Ua → Option (Ua) := fun (a0, _) =>
 match bitsLen ((IntKind.wrap .u64 (AM a0)), ()) with
 | none => none
 | some (y0, _) => match AUp (a0, 0, (AM a0), y0, ()) with
 | none => none
 | some (y1, _) => some (y1, ())
def APB [Lk] := fun v => Lk.f (ACs v)
theorem AUD v : APB v = ACs v := AJ _
abbrev YZ : AE := [(.tmp 0, .dat Uj), (.tmp 1, .di), (.tmp 2, .di)]
abbrev YY : AE := [(.tmp 0, .dat .bool), (.tmp 1, .di)]
abbrev YX : List RS := [.one, .one]
def OQ [Lk] : (Ue × Int × Int × Unit) → Option ((Bool × Int × Unit)) := fun (a0, a1, a2, _) =>
 match Im ((a0.1, (a0.2.1, ())), ([(a1, (a2, ()))] : List U5), ()) with
 | none => none
 | some (y0, _) => match (!(ieq y0 0)) with
 | true => some (false, y0, ())
 | false => match AMd ((a0.1, (a0.2.1, ())), a1, ()) with
 | none => none
 | some (y1, _) => match AMd ((a0.1, (a0.2.1, ())), a2, ()) with
 | none => none
 | some (y2, _) => some ((ieq y1 y2), 0, ())
def RA [Lk] := fun v => Lk.f (OQ v)
theorem ABh v : RA v = OQ v := AJ _
end
end Go.Pev
end
section
namespace Go.Pev
set_option maxRecDepth 100000
noncomputable section
attribute [local irreducible] KQ H0 Lr Jk ASe ASf ASg Na Pn TC VP RE AQ many IntKind.wrap AM Ak AS A8 Cv DE KU AG CR Cy imax AT Ah
abbrev YG : AE := [(.tmp 0, .dat U3), (.tmp 1, .dat U3)]
abbrev YF : AE := [(.tmp 0, .dat .bool)]
abbrev YE : List RS := [.one]
abbrev ABd : AE := [(.tmp 0, .dat U3), (.tmp 1, .dat U3), (.tmp 12, .di), (.tmp 13, .di)]
abbrev ABc : Az := [(.ret, [(.tmp 4, .dat .bool)]), (.exit 0, [])]
def Q3 [Lk] : (List U2 × List U2 × Int × Int × Unit) → Option ((List U2 × List U2 × Int × Int × Unit) ⊕ Uh ⊕ (Unit) ⊕ Unit) := fun (a0, a1, a2, a3, _) =>
 match (ilt a3 a2) with
 | true => match idx a0 a3 with
  | none => none
  | some x0 => match idx a1 a3 with
  | none => none
  | some x1 => match (!(ieq x0.1 x1.1 && (ieq x0.2.1 x1.2.1 && (ieq x0.2.2.1 x1.2.2.1 && ((x0.2.2.2.1 == x1.2.2.2.1) && true))))) with
  | true => some (.inr (.inl (false, ())))
  | false => some (.inl (a0, a1, a2, (IntKind.wrap .i64 (a3 + 1)), ()))
 | false => some (.inr (.inr (.inl ())))
def YI [Lk] : (List U2 × List U2 × Unit) → Option (Uh) := fun (a0, a1, _) =>
 match (!(ieq (AM a0) (AM a1))) with
 | true => some (false, ())
 | false => match AY Q3 many (a0, a1, (AM a0), 0, ()) with
 | none => none
 | some r => match r with
 | .inl (o0, _) => some (o0, ())
 | .inr r => match r with
 | .inl _ => some (true, ())
 | .inr _ => none
def AFA [Lk] := fun v => Lk.f (YI v)
theorem AS7 v : AFA v = YI v := AJ _
abbrev AEF : AE := [(.tmp 0, .dat Ul), (.tmp 1, .dat Ul)]
abbrev AEE : AE := [(.tmp 0, .dat .bool)]
abbrev AED : List RS := [.one]
def AEG [Lk] : (Uk × Uk × Unit) → Option (Uh) := fun (a0, a1, _) =>
 match (ieq a0.1 a1.1) with
 | true => match AFA (a0.2.1, a1.2.1, ()) with
  | none => none
  | some (y0, _) => some (y0, ())
 | false => some (false, ())
def APh [Lk] := fun v => Lk.f (AEG v)
theorem AVZ v : APh v = AEG v := AJ _
end
end Go.Pev
end
