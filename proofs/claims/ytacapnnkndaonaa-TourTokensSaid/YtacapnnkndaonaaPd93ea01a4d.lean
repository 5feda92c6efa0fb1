/- A part of the proofs of this seat: T18a T18b T18c L18a PevTake PevClaim L18b G18P1 G18P2 G18P3 G18P4 G18P5 G18P6 G18P7 G18P. -/
import Derived.Test.YtacapnnkndaonaaP21d43b780f
import Derived.ProofKit
import Derived.ChangeArms
import Derived.ReadAgain
import Derived.Deep.Slices
import Derived.OpenShut
import Derived.KernelRfl
import Derived.Test.YtacapnnkndaonaaProg
set_option linter.unusedVariables false
set_option linter.unusedSimpArgs false
set_option linter.unusedSectionVars false
section
/- Rounds of a tree, as lists of tokens: gone round by a stack of vertices, or grown by a vertex, its arc and its way back. No program in sight. -/
namespace Go.Pev.Pl

inductive Tok where
  | ver (v : Int)
  | arc (u v : Int)
  deriving DecidableEq

namespace Tok

/-- where one stands behind a token -/
def st : Tok → Int
  | .ver v => v
  | .arc _ v => v

def step (s : List Int × List Int) : Tok → Option (List Int × List Int)
  | .ver v => match s.1 with
    | w :: _ => if w = v then some s else none
    | [] => none
  | .arc u v => match s.1 with
    | w :: r => if w = u then match r with
        | p :: r' => if p = v then some (p :: r', s.2) else if v ∈ s.2 then none else some (v :: w :: r, v :: s.2)
        | [] => if v ∈ s.2 then none else some (v :: w :: r, v :: s.2)
      else none
    | [] => none

def run : List Int × List Int → List Tok → Option (List Int × List Int)
  | s, [] => some s
  | s, t :: l => match step s t with
    | some s => run s l
    | none => none

theorem run_append (s : List Int × List Int) (a b : List Tok) : run s (a ++ b) = (run s a).bind fun s => run s b := by
  induction a generalizing s with
  | nil => rfl
  | cons t a ih =>
    simp only [List.cons_append, run]
    cases step s t with
    | none => rfl
    | some s => exact ih s

/-- what a step comes to -/
theorem step_cases {s s' : List Int × List Int} {t : Tok} (h : step s t = some s') :
    (∃ v r, t = .ver v ∧ s.1 = v :: r ∧ s' = s) ∨
    (∃ u v r, t = .arc u v ∧ s.1 = u :: v :: r ∧ s' = (v :: r, s.2)) ∨
    (∃ u v r, t = .arc u v ∧ s.1 = u :: r ∧ r.head? ≠ some v ∧ v ∉ s.2 ∧ s' = (v :: u :: r, v :: s.2)) := by
  obtain ⟨way, c⟩ := s
  cases t with
  | ver v =>
    cases way with
    | nil => simp [step] at h
    | cons w r =>
      simp only [step] at h
      split at h
      · rename_i e; cases h; exact .inl ⟨v, r, rfl, by simp [e], rfl⟩
      · cases h
  | arc u v =>
    cases way with
    | nil => simp [step] at h
    | cons w r =>
      simp only [step] at h
      split at h
      · rename_i e
        subst e
        cases r with
        | nil =>
          simp only at h
          split at h
          · cases h
          · rename_i hc; cases h; exact .inr (.inr ⟨w, v, [], rfl, rfl, by simp, hc, rfl⟩)
        | cons p r =>
          simp only at h
          split at h
          · rename_i e; subst e; cases h; exact .inr (.inl ⟨w, p, r, rfl, rfl, rfl⟩)
          · split at h
            · cases h
            · rename_i e hc; cases h; exact .inr (.inr ⟨w, v, p :: r, rfl, rfl, by simpa using e, hc, rfl⟩)
      · cases h

theorem step_ver (v : Int) (r c : List Int) : step (v :: r, c) (.ver v) = some (v :: r, c) := by simp [step]
theorem step_pop (u v : Int) (r c : List Int) : step (u :: v :: r, c) (.arc u v) = some (v :: r, c) := by simp [step]
theorem step_push (u v : Int) (r c : List Int) (h1 : r.head? ≠ some v) (h2 : v ∉ c) : step (u :: r, c) (.arc u v) = some (v :: u :: r, v :: c) := by
  cases r with
  | nil => simp [step, h2]
  | cons p r =>
    have : p ≠ v := by simpa using h1
    simp [step, h2, this]

/-- the stack is of different vertices, which one came to -/
def Inv (s : List Int × List Int) : Prop := s.1.Nodup ∧ (∀ x ∈ s.1, x ∈ s.2)

theorem step_inv {s s' : List Int × List Int} {t : Tok} (h : step s t = some s') (hi : Inv s) : Inv s' ∧ (∀ x ∈ s.2, x ∈ s'.2) ∧ s'.1.head? = some t.st := by
  obtain ⟨way, c⟩ := s
  obtain ⟨h1, h2⟩ := hi
  rcases step_cases h with ⟨v, r, rfl, hw, rfl⟩ | ⟨u, v, r, rfl, hw, rfl⟩ | ⟨u, v, r, rfl, hw, _, hn, rfl⟩
  · exact ⟨⟨h1, h2⟩, fun x hx => hx, by rw [hw]; rfl⟩
  · simp only at hw h1 h2
    subst hw
    refine ⟨⟨?_, ?_⟩, fun x hx => hx, rfl⟩
    · exact (List.nodup_cons.1 h1).2
    · intro x hx; exact h2 x (by simp only at hx; simp [List.mem_cons.1 hx])
  · simp only at hw h1 h2 hn
    subst hw
    refine ⟨⟨?_, ?_⟩, fun x hx => by simp [hx], rfl⟩
    · exact List.nodup_cons.2 ⟨fun hm => hn (h2 _ hm), h1⟩
    · intro x hx
      rcases List.mem_cons.1 hx with rfl | hx
      · simp
      · exact List.mem_cons_of_mem _ (h2 x hx)

theorem run_inv {l : List Tok} : ∀ {s s' : List Int × List Int}, run s l = some s' → Inv s → Inv s' ∧ (∀ x ∈ s.2, x ∈ s'.2) ∧ ∀ t, l.getLast? = some t → s'.1.head? = some t.st := by
  induction l with
  | nil => intro s s' h hi; cases h; exact ⟨hi, fun x hx => hx, fun t ht => by simp at ht⟩
  | cons t l ih =>
    intro s s' h hi
    simp only [run] at h
    split at h
    · rename_i s1 h1
      obtain ⟨q1, q2, q3⟩ := step_inv h1 hi
      obtain ⟨p1, p2, p3⟩ := ih h q1
      refine ⟨p1, fun x hx => p2 x (q2 x hx), fun t' ht' => ?_⟩
      cases l with
      | nil => simp at ht'; subst ht'; simp only [run] at h; cases h; exact q3
      | cons y l => exact p3 t' (by rw [List.getLast?_cons_cons] at ht'; exact ht')
    · cases h

/-- nothing is known of the stack's lower part, and of further vertices that one came to -/
theorem run_frame {Z : Int → Prop} : ∀ {l : List Tok} {way way' c d c2 low : List Int}, run (way, c) l = some (way', d) → way ≠ [] → (∀ x, x ∈ c2 ↔ x ∈ c ∨ Z x) →
    (∀ u v, .arc u v ∈ l → ¬ Z v) → (∀ y ∈ low, Z y) → ∃ d2, run (way ++ low, c2) l = some (way' ++ low, d2) ∧ (∀ x, x ∈ d2 ↔ x ∈ d ∨ Z x) := by
  intro l
  induction l with
  | nil => intro way way' c d c2 low h _ hc _ _; cases h; exact ⟨c2, rfl, hc⟩
  | cons t l ih =>
    intro way way' c d c2 low h hne hc hz hl
    simp only [run] at h
    split at h
    · rename_i s1 h1
      have hz' : ∀ u v, Tok.arc u v ∈ l → ¬ Z v := fun u v hm => hz u v (List.mem_cons_of_mem _ hm)
      rcases step_cases h1 with ⟨v, r, rfl, hw, rfl⟩ | ⟨u, v, r, rfl, hw, rfl⟩ | ⟨u, v, r, rfl, hw, hh, hn, rfl⟩
      · simp only at hw
        subst hw
        obtain ⟨d2, e1, e2⟩ := ih h hne hc hz' hl
        exact ⟨d2, by simp only [run, List.cons_append, step_ver]; exact e1, e2⟩
      · simp only at hw
        subst hw
        obtain ⟨d2, e1, e2⟩ := ih h (by simp) hc hz' hl
        exact ⟨d2, by simp only [run, List.cons_append, step_pop]; exact e1, e2⟩
      · simp only at hw hn
        subst hw
        have hzv := hz u v (by simp)
        have hn2 : v ∉ c2 := by rw [hc]; rintro (h | h); exact hn h; exact hzv h
        have hh2 : (r ++ low).head? ≠ some v := by
          cases r with
          | nil =>
            cases low with
            | nil => simp
            | cons y low =>
              simp only [List.nil_append, List.head?_cons, ne_eq, Option.some.injEq]
              rintro rfl
              exact hzv (hl _ (by simp))
          | cons p r => simpa using hh
        obtain ⟨d2, e1, e2⟩ := ih (c2 := v :: c2) h (by simp) (by intro x; simp only [List.mem_cons, hc, or_assoc]) hz' hl
        exact ⟨d2, by simp only [run, List.cons_append, step_push _ _ _ _ hh2 hn2]; exact e1, e2⟩
    · cases h

/-- a vertex that one came to, and that one isn't at, nor above, isn't met again; without it one goes the same way -/
theorem run_less {z : Int} : ∀ {l : List Tok} {way way' c2 d2 c : List Int}, run (way, c2) l = some (way', d2) → z ∉ way → (∀ x, x ∈ c2 ↔ x ∈ c ∨ x = z) → z ∉ c →
    .ver z ∉ l ∧ ∃ d, run (way, c) l = some (way', d) ∧ (∀ x, x ∈ d2 ↔ x ∈ d ∨ x = z) ∧ z ∉ d := by
  intro l
  induction l with
  | nil => intro way way' c2 d2 c h _ hc hz; cases h; exact ⟨by simp, c, rfl, hc, hz⟩
  | cons t l ih =>
    intro way way' c2 d2 c h hzw hc hz
    simp only [run] at h
    split at h
    · rename_i s1 h1
      rcases step_cases h1 with ⟨v, r, rfl, hw, rfl⟩ | ⟨u, v, r, rfl, hw, rfl⟩ | ⟨u, v, r, rfl, hw, hh, hn, rfl⟩
      · simp only at hw
        subst hw
        obtain ⟨e0, d, e1, e2, e3⟩ := ih h hzw hc hz
        refine ⟨?_, d, by simp only [run, step_ver]; exact e1, e2, e3⟩
        rintro hm
        rcases List.mem_cons.1 hm with hm | hm
        · cases hm; exact hzw (by simp)
        · exact e0 hm
      · simp only at hw
        subst hw
        obtain ⟨e0, d, e1, e2, e3⟩ := ih h (fun hm => hzw (List.mem_cons_of_mem _ hm)) hc hz
        refine ⟨?_, d, by simp only [run, step_pop]; exact e1, e2, e3⟩
        rintro hm
        rcases List.mem_cons.1 hm with hm | hm
        · cases hm
        · exact e0 hm
      · simp only at hw hn
        subst hw
        have hvz : v ≠ z := by rintro rfl; exact hn ((hc v).2 (.inr rfl))
        have hn' : v ∉ c := fun hm => hn ((hc v).2 (.inl hm))
        obtain ⟨e0, d, e1, e2, e3⟩ := ih (c := v :: c) h (by intro hm; rcases List.mem_cons.1 hm with hm | hm; exact hvz hm.symm; exact hzw hm)
          (by intro x; simp only [List.mem_cons, hc, or_assoc])
          (by intro hm; rcases List.mem_cons.1 hm with hm | hm; exact hvz hm.symm; exact hz hm)
        refine ⟨?_, d, by simp only [run, step_push _ _ _ _ hh hn']; exact e1, e2, e3⟩
        rintro hm
        rcases List.mem_cons.1 hm with hm | hm
        · cases hm
        · exact e0 hm
    · cases h

/-- the same ring -/
def Rot (a b : List Tok) : Prop := ∃ x y, a = x ++ y ∧ b = y ++ x

theorem Rot.refl (a : List Tok) : Rot a a := ⟨[], a, rfl, by simp⟩
theorem Rot.symm {a b : List Tok} (h : Rot a b) : Rot b a := by obtain ⟨x, y, h1, h2⟩ := h; exact ⟨y, x, h2, h1⟩
theorem Rot.trans {a b c : List Tok} (h : Rot a b) (g : Rot b c) : Rot a c := by
  obtain ⟨x, y, rfl, h2⟩ := h
  obtain ⟨z, w, h3, rfl⟩ := g
  rw [h2] at h3
  rcases List.append_eq_append_iff.1 h3 with ⟨k, h4, h5⟩ | ⟨k, h4, h5⟩
  · subst h4 h5
    exact ⟨k, w ++ y, by simp, by simp⟩
  · subst h4 h5
    exact ⟨x ++ z, k, by simp, by simp⟩
theorem Rot.perm {a b : List Tok} (h : Rot a b) : a.Perm b := by
  obtain ⟨x, y, rfl, rfl⟩ := h
  exact List.perm_append_comm
theorem Rot.mem {a b : List Tok} (h : Rot a b) (t : Tok) : t ∈ a ↔ t ∈ b := h.perm.mem_iff
theorem Rot.nodup {a b : List Tok} (h : Rot a b) : a.Nodup ↔ b.Nodup := h.perm.nodup_iff
theorem Rot.length {a b : List Tok} (h : Rot a b) : a.length = b.length := h.perm.length_eq

/-- what can be grown -/
inductive T : List Tok → Prop
  | one (v : Int) : T [.ver v]
  | add (x : Tok) (l : List Tok) (v : Int) : T (x :: l) → x.st ≠ v → .ver v ∉ x :: l → T (x :: .arc x.st v :: .ver v :: .arc v x.st :: l)
  | rot (a b : List Tok) : T (a ++ b) → T (b ++ a)

theorem T.of_rot {a b : List Tok} (h : T a) (r : Rot a b) : T b := by obtain ⟨x, y, rfl, rfl⟩ := r; exact T.rot x y h

theorem T.facts {l : List Tok} (h : T l) : l ≠ [] ∧ (∀ t ∈ l, .ver t.st ∈ l) ∧ (∀ u v, .arc u v ∈ l → .ver u ∈ l ∧ .ver v ∈ l ∧ .arc v u ∈ l ∧ u ≠ v) := by
  induction h with
  | one v => exact ⟨by simp, by simp [st], by simp⟩
  | add x l v h hne hv ih =>
    obtain ⟨_, i2, i3⟩ := ih
    have hsub : ∀ t, t ∈ x :: l → t ∈ x :: Tok.arc x.st v :: .ver v :: .arc v x.st :: l := by
      intro t ht
      rcases List.mem_cons.1 ht with rfl | ht
      · simp
      · simp [ht]
    have hx := hsub _ (i2 x (by simp))
    have cases3 : ∀ t, t ∈ x :: Tok.arc x.st v :: .ver v :: .arc v x.st :: l → t ∈ x :: l ∨ t = .arc x.st v ∨ t = .ver v ∨ t = .arc v x.st := by
      intro t ht
      simp only [List.mem_cons] at ht ⊢
      rcases ht with h | h | h | h | h <;> simp [h]
    refine ⟨by simp, fun t ht => ?_, fun a b hab => ?_⟩
    · rcases cases3 t ht with h | rfl | rfl | rfl
      · exact hsub _ (i2 t h)
      · simp [st]
      · simp [st]
      · exact hx
    · rcases cases3 _ hab with h | h | h | h
      · obtain ⟨p1, p2, p3, p4⟩ := i3 a b h
        exact ⟨hsub _ p1, hsub _ p2, hsub _ p3, p4⟩
      · cases h; exact ⟨hx, by simp, by simp, hne⟩
      · cases h
      · cases h; exact ⟨by simp, hx, by simp, Ne.symm hne⟩
  | rot a b h ih =>
    obtain ⟨i1, i2, i3⟩ := ih
    have hm : ∀ t, t ∈ a ++ b ↔ t ∈ b ++ a := fun t => List.perm_append_comm.mem_iff
    refine ⟨by intro e; simp only [List.append_eq_nil_iff] at e; exact i1 (by simp [e.1, e.2]), fun t ht => (hm _).1 (i2 t ((hm _).2 ht)), fun u v huv => ?_⟩
    obtain ⟨p1, p2, p3, p4⟩ := i3 u v ((hm _).2 huv)
    exact ⟨(hm _).1 p1, (hm _).1 p2, (hm _).1 p3, p4⟩

theorem T.nodup {l : List Tok} (h : T l) : l.Nodup := by
  induction h with
  | one v => simp
  | add x l v h hne hv ih =>
    obtain ⟨_, _, f3⟩ := h.facts
    have h1 : Tok.arc x.st v ∉ x :: l := fun hm => hv (f3 _ _ hm).2.1
    have h2 : Tok.arc v x.st ∉ x :: l := fun hm => hv (f3 _ _ hm).1
    simp only [List.mem_cons, not_or] at h1 h2 hv
    have ih' := List.nodup_cons.1 ih
    simp only [List.nodup_cons, List.mem_cons, not_or]
    refine ⟨⟨fun e => h1.1 e.symm, fun e => hv.1 e.symm, fun e => h2.1 e.symm, ih'.1⟩, ⟨by simp, ?_, h1.2⟩, ⟨by simp, hv.2⟩, h2.2, ih'.2⟩
    intro e
    simp only [Tok.arc.injEq] at e
    exact hne e.1
  | rot a b h ih => exact (List.perm_append_comm.nodup_iff).1 ih

/-- gone round from any place, one comes back -/
def C (l : List Tok) : Prop := ∀ r, Rot l r → ∀ t, r.getLast? = some t → ∃ c, run ([t.st], [t.st]) r = some ([t.st], c) ∧ ∀ x, x ∈ c ↔ .ver x ∈ l

end Tok
end Go.Pev.Pl
end
section
/- What is grown can be gone round from anywhere, and what can be gone round is grown; without a leaf, too. No program in sight. -/
namespace Go.Pev.Pl.Tok

theorem getLast?_app {a b : List Tok} {t : Tok} (h : b.getLast? = some t) : (a ++ b).getLast? = some t := by
  rw [List.getLast?_append, h]; rfl

theorem run_cons (s : List Int × List Int) (t : Tok) (l : List Tok) : run s (t :: l) = (step s t).bind fun s => run s l := by
  rw [run]
  cases step s t <;> rfl

theorem Inv_one (v : Int) : Inv ([v], [v]) := ⟨by simp, by simp⟩

theorem T.toC {l : List Tok} (h : T l) : C l := by
  induction h with
  | one v =>
    intro r hr t ht
    have : r = [.ver v] := List.perm_singleton.1 hr.perm.symm
    subst this
    simp at ht
    subst ht
    exact ⟨[v], by simp [run, st, step], by simp⟩
  | rot a b h ih =>
    intro r hr t ht
    obtain ⟨c, h1, h2⟩ := ih r (Rot.trans ⟨a, b, rfl, rfl⟩ hr) t ht
    exact ⟨c, h1, fun x => (h2 x).trans (List.perm_append_comm.mem_iff)⟩
  | add x l v h hne hv ih =>
    obtain ⟨_, f2, f3⟩ := h.facts
    have hnz : ∀ u w, Tok.arc u w ∈ x :: l → ¬ (w = v) := fun u w hm e => hv (e ▸ (f3 u w hm).2.1)
    have fin : ∀ {d2 c : List Int}, (∀ y, y ∈ d2 ↔ y ∈ c ∨ y = v) → (∀ y, y ∈ c ↔ .ver y ∈ x :: l) → ∀ y, y ∈ d2 ↔ Tok.ver y ∈ x :: .arc x.st v :: .ver v :: .arc v x.st :: l := by
      intro d2 c e1 e2 y
      rw [e1, e2]
      simp only [List.mem_cons, reduceCtorEq, false_or, Tok.ver.injEq]
      constructor
      · rintro ((h | h) | h) <;> simp [h]
      · rintro (h | h | h) <;> simp [h]
    have triple : ∀ {w' c1 : List Int}, Inv (x.st :: w', c1) → v ∉ c1 → ∀ p, run (x.st :: w', c1) (.arc x.st v :: .ver v :: .arc v x.st :: p) = run (x.st :: w', v :: c1) p := by
      intro w' c1 hi hn p
      have hh : w'.head? ≠ some v := by
        intro e
        exact hn (hi.2 v (List.mem_cons_of_mem _ (List.mem_of_head? e)))
      rw [run_cons, step_push _ _ _ _ hh hn, Option.bind_some, run_cons, step_ver, Option.bind_some, run_cons, step_pop, Option.bind_some]
    have G : ∀ q1 p1, l = p1 ++ q1 → ∀ t, (q1 ++ x :: .arc x.st v :: .ver v :: .arc v x.st :: p1).getLast? = some t → ∃ c, run ([t.st], [t.st]) (q1 ++ x :: .arc x.st v :: .ver v :: .arc v x.st :: p1) = some ([t.st], c) ∧ ∀ y, y ∈ c ↔ .ver y ∈ x :: .arc x.st v :: .ver v :: .arc v x.st :: l := by
      intro q1 p1 hl t ht
      have hrot : Rot (x :: l) (q1 ++ x :: p1) := ⟨x :: p1, q1, by simp [hl], rfl⟩
      have ht0 : ∃ t0, (q1 ++ x :: p1).getLast? = some t0 ∧ t0.st = t.st := by
        cases p1 with
        | nil =>
          refine ⟨x, getLast?_app (by simp), ?_⟩
          rw [show q1 ++ [x, Tok.arc x.st v, .ver v, .arc v x.st] = (q1 ++ [x, Tok.arc x.st v, .ver v]) ++ [Tok.arc v x.st] by simp, List.getLast?_concat] at ht
          cases ht; rfl
        | cons y p1 =>
          refine ⟨t, ?_, rfl⟩
          rw [show q1 ++ x :: Tok.arc x.st v :: .ver v :: .arc v x.st :: y :: p1 = (q1 ++ [x, Tok.arc x.st v, .ver v, .arc v x.st]) ++ y :: p1 by simp, List.getLast?_append] at ht
          rw [show q1 ++ x :: y :: p1 = (q1 ++ [x]) ++ y :: p1 by simp, List.getLast?_append]
          exact ht
      obtain ⟨t0, e0, e1⟩ := ht0
      obtain ⟨c, h1, h2⟩ := ih _ hrot t0 e0
      rw [e1, show q1 ++ x :: p1 = (q1 ++ [x]) ++ p1 by simp, run_append, Option.bind_eq_some_iff] at h1
      obtain ⟨⟨w1, c1⟩, g1, g2⟩ := h1
      obtain ⟨i1, i2, i3⟩ := run_inv g1 (Inv_one _)
      obtain ⟨j1, j2, j3⟩ := run_inv g2 i1
      have i3' := i3 x (by simp)
      simp only at i3'
      cases w1 with
      | nil => simp at i3'
      | cons w0 w' =>
        simp at i3'
        subst i3'
        have hn : v ∉ c1 := fun hm => hv ((h2 v).1 (j2 v hm))
        obtain ⟨d2, k1, k2⟩ := run_frame (Z := (· = v)) (c2 := v :: c1) (low := []) g2 (by simp) (fun y => by simp [or_comm]) (fun u w hm => hnz u w (by simp [hl, hm])) (by simp)
        refine ⟨d2, ?_, fin k2 h2⟩
        rw [show q1 ++ x :: Tok.arc x.st v :: .ver v :: .arc v x.st :: p1 = (q1 ++ [x]) ++ Tok.arc x.st v :: .ver v :: .arc v x.st :: p1 by simp, run_append, g1, Option.bind_some, triple i1 hn]
        simpa using k1
    intro r hr t ht
    obtain ⟨p, q, hpq, rfl⟩ := hr
    have base : ∀ t0 : Tok, (l ++ [x]).getLast? = some t0 → t0 = x := fun t0 h => by rw [List.getLast?_concat] at h; exact (Option.some.inj h).symm
    obtain ⟨c, h1, h2⟩ := ih (l ++ [x]) ⟨[x], l, rfl, rfl⟩ x (by simp)
    match p with
    | [] =>
      simp only [List.nil_append] at hpq
      subst hpq
      have := G [] l (by simp) t (by simpa using ht)
      simpa using this
    | [y] =>
      simp only [List.cons_append, List.nil_append, List.cons.injEq] at hpq
      obtain ⟨rfl, rfl⟩ := hpq
      have : t = x := by
        rw [List.getLast?_concat] at ht
        exact (Option.some.inj ht).symm
      subst this
      have hn : v ∉ [t.st] := by simp; exact Ne.symm hne
      obtain ⟨d2, k1, k2⟩ := run_frame (Z := (· = v)) (c2 := [v, t.st]) (low := []) h1 (by simp) (fun y => by simp [or_comm]) (fun u w hm => hnz u w (by simpa [or_comm] using hm)) (by simp)
      refine ⟨d2, ?_, fin k2 h2⟩
      rw [show (Tok.arc t.st v :: .ver v :: .arc v t.st :: l) ++ [t] = Tok.arc t.st v :: .ver v :: .arc v t.st :: (l ++ [t]) by simp, triple (Inv_one _) hn]
      simpa using k1
    | [y, z] =>
      simp only [List.cons_append, List.nil_append, List.cons.injEq] at hpq
      obtain ⟨rfl, rfl, rfl⟩ := hpq
      have : t = .arc x.st v := by
        rw [show (Tok.ver v :: .arc v x.st :: l) ++ [x, .arc x.st v] = (Tok.ver v :: .arc v x.st :: l ++ [x]) ++ [.arc x.st v] by simp, List.getLast?_concat] at ht
        exact (Option.some.inj ht).symm
      subst this
      obtain ⟨d2, k1, k2⟩ := run_frame (Z := (· = v)) (c2 := [x.st, v]) (low := [v]) h1 (by simp) (fun y => by simp) (fun u w hm => hnz u w (by simpa [or_comm] using hm)) (by simp)
      refine ⟨d2, ?_, fin k2 h2⟩
      rw [show (Tok.ver v :: .arc v x.st :: l) ++ [x, .arc x.st v] = Tok.ver v :: .arc v x.st :: ((l ++ [x]) ++ [.arc x.st v]) by simp]
      rw [run_cons]
      show (step ([v], [v]) _).bind _ = _
      rw [step_ver, Option.bind_some, run_cons, step_push _ _ _ _ (by simp) (by simp; exact hne), Option.bind_some, run_append]
      rw [show ([x.st] ++ [v] : List Int) = [x.st, v] from rfl] at k1
      rw [k1, Option.bind_some, run_cons, step_pop]
      rfl
    | [y, z, w] =>
      simp only [List.cons_append, List.nil_append, List.cons.injEq] at hpq
      obtain ⟨rfl, rfl, rfl, rfl⟩ := hpq
      have : t = .ver v := by
        rw [show (Tok.arc v x.st :: l) ++ [x, .arc x.st v, .ver v] = (Tok.arc v x.st :: l ++ [x, .arc x.st v]) ++ [.ver v] by simp, List.getLast?_concat] at ht
        exact (Option.some.inj ht).symm
      subst this
      obtain ⟨d2, k1, k2⟩ := run_frame (Z := (· = v)) (c2 := [x.st, v]) (low := [v]) h1 (by simp) (fun y => by simp) (fun u w hm => hnz u w (by simpa [or_comm] using hm)) (by simp)
      refine ⟨d2, ?_, fin k2 h2⟩
      rw [show (Tok.arc v x.st :: l) ++ [x, .arc x.st v, .ver v] = Tok.arc v x.st :: ((l ++ [x]) ++ [.arc x.st v, .ver v]) by simp]
      rw [run_cons]
      show (step ([v], [v]) _).bind _ = _
      rw [step_push _ _ _ _ (by simp) (by simp; exact hne), Option.bind_some, run_append]
      rw [show ([x.st] ++ [v] : List Int) = [x.st, v] from rfl] at k1
      rw [k1, Option.bind_some, run_cons, step_pop, Option.bind_some, run_cons, step_ver]
      rfl
    | y :: z :: w :: w2 :: p1 =>
      simp only [List.cons_append, List.cons.injEq] at hpq
      obtain ⟨rfl, rfl, rfl, rfl, rfl⟩ := hpq
      exact G q p1 rfl t ht

/-- what is missing yet: the way back, and vertices that one hasn't met -/
def comp (P : List Tok) : List Int → List Tok
  | [] => []
  | w :: r => (if .ver w ∈ P then [] else [.ver w]) ++ match r with
    | [] => []
    | p :: _ => .arc w p :: comp P r

theorem comp_congr {P P' : List Tok} : ∀ {way : List Int}, (∀ w ∈ way, (Tok.ver w ∈ P ↔ Tok.ver w ∈ P')) → comp P way = comp P' way := by
  intro way
  induction way with
  | nil => intro _; rfl
  | cons w r ih =>
    intro h
    have h1 := h w (by simp)
    have h2 := ih fun x hx => h x (List.mem_cons_of_mem _ hx)
    simp only [comp, h1, h2]

theorem goes_T : ∀ (M P : List Tok) (way c c' : List Int) (r : Int) (t0 : Tok), run (way, c) M = some ([r], c') → Inv (way, c) → P.getLast? = some t0 → way.head? = some t0.st →
    T (P ++ comp P way) → (∀ x, .ver x ∈ P ++ comp P way → x ∈ c) → (∀ x ∈ c', Tok.ver x ∈ P ++ M) → (P ++ M).Nodup → T (P ++ M) := by
  intro M
  induction M with
  | nil =>
    intro P way c c' r t0 h hi hl hh hT hc hc' hn
    cases h
    have := hc' r (hi.2 r (by simp))
    rw [List.append_nil] at this
    simpa [comp, this] using hT
  | cons t M ih =>
    intro P way c c' r t0 h hi hl hh hT hc hc' hn
    rw [run_cons, Option.bind_eq_some_iff] at h
    obtain ⟨⟨w1, c1⟩, h1, h2⟩ := h
    obtain ⟨hi1, hsub, hhd⟩ := step_inv h1 hi
    have asso : P ++ t :: M = (P ++ [t]) ++ M := by simp
    rw [asso] at hn hc' ⊢
    have hnt : t ∉ P := by
      have := (List.nodup_append.1 (List.nodup_append.1 hn).1)
      intro hm
      exact this.2.2 t hm t (by simp) rfl
    rcases step_cases h1 with ⟨v, rr, rfl, hw, e⟩ | ⟨u, v, rr, rfl, hw, e⟩ | ⟨u, v, rr, rfl, hw, hh2, hn2, e⟩
    · cases e
      simp only at hw
      subst hw
      have key : comp P (v :: rr) = .ver v :: comp (P ++ [.ver v]) (v :: rr) := by
        have e2 : comp P rr = comp (P ++ [.ver v]) rr := comp_congr fun w hwm => by
          have : w ≠ v := by rintro rfl; exact (List.nodup_cons.1 hi.1).1 hwm
          simp [this]
        simp only [comp, hnt, e2]
        simp
      rw [key] at hT hc
      exact ih _ _ _ _ _ (.ver v) h2 hi1 (by simp) hhd (by simpa using hT) (fun x hx => hc x (by simpa using hx)) hc' hn
    · cases e
      simp only at hw
      subst hw
      have hu : Tok.ver u ∈ P := by
        have hun := (List.nodup_cons.1 hi.1).1
        obtain ⟨g1, _⟩ := run_less (z := u) (c := c.filter (· ≠ u)) h2 hun (fun x => by
          simp only [List.mem_filter, decide_eq_true_eq]
          constructor
          · intro h
            by_cases e : x = u
            · exact .inr e
            · exact .inl ⟨h, by simpa using e⟩
          · rintro (h | rfl)
            · exact h.1
            · exact hi.2 x (by simp)) (by simp)
        have hmono := (run_inv h2 hi1).2.1 u (hi.2 u (by simp))
        have := hc' u hmono
        simp only [List.mem_append, List.mem_singleton, reduceCtorEq, or_false] at this
        rcases this with h | h
        · exact h
        · exact absurd h g1
      have key : comp P (u :: v :: rr) = .arc u v :: comp (P ++ [.arc u v]) (v :: rr) := by
        have e2 : comp P (v :: rr) = comp (P ++ [.arc u v]) (v :: rr) := comp_congr fun w hwm => by simp
        rw [← e2]
        simp only [comp, hu]
        simp
      rw [key] at hT hc
      exact ih _ _ _ _ _ (.arc u v) h2 hi1 (by simp) hhd (by simpa using hT) (fun x hx => hc x (by simpa using hx)) hc' hn
    · cases e
      simp only at hw hn2
      subst hw
      have hu : u = t0.st := by simpa using hh
      subst hu
      have hvc : ∀ x, Tok.ver x ∈ P ++ comp P (t0.st :: rr) → x ≠ v := by rintro x hx rfl; exact hn2 (hc x hx)
      have hvP : Tok.ver v ∉ P ++ comp P (t0.st :: rr) := fun hm => hvc v hm rfl
      have hvP' : Tok.ver v ∉ P := fun hm => hvP (by simp [hm])
      have key : comp (P ++ [.arc t0.st v]) (v :: t0.st :: rr) = .ver v :: .arc v t0.st :: comp P (t0.st :: rr) := by
        have e2 : comp (P ++ [.arc t0.st v]) (t0.st :: rr) = comp P (t0.st :: rr) := comp_congr fun w hwm => by simp
        rw [← e2]
        simp only [comp, List.mem_append, hvP', List.mem_singleton, reduceCtorEq, or_false, if_false]
        rfl
      have hne : t0.st ≠ v := by rintro e; exact hn2 (e ▸ hi.2 t0.st (by simp))
      refine ih _ _ _ _ _ (.arc t0.st v) h2 hi1 (by simp) hhd ?_ ?_ hc' hn
      · rw [key]
        obtain ⟨P0, rfl⟩ : ∃ P0, P = P0 ++ [t0] := List.getLast?_eq_some_iff.1 hl
        have hT1 : T (t0 :: (comp (P0 ++ [t0]) (t0.st :: rr) ++ P0)) := hT.of_rot ⟨P0, t0 :: comp (P0 ++ [t0]) (t0.st :: rr), by simp, by simp⟩
        have hT2 := T.add t0 _ v hT1 hne (by
          intro hm
          apply hvP
          simp only [List.mem_append, List.mem_cons, List.not_mem_nil, or_false] at hm ⊢
          rcases hm with h | h | h <;> simp [h])
        exact hT2.of_rot ⟨t0 :: .arc t0.st v :: .ver v :: .arc v t0.st :: comp (P0 ++ [t0]) (t0.st :: rr), P0, by simp, by simp⟩
      · intro x hx
        rw [key] at hx
        simp only [List.mem_append, List.mem_cons, List.not_mem_nil, or_false, reduceCtorEq, Tok.ver.injEq, false_or] at hx
        rcases hx with h | h | h
        · exact List.mem_cons_of_mem _ (hc x (by simp [h]))
        · simp [h]
        · exact List.mem_cons_of_mem _ (hc x (by simp [h]))

/-- gone round from a vertex's token: what goes -/
def Goes (l : List Tok) : Prop := ∃ r l' c, l = .ver r :: l' ∧ run ([r], [r]) l = some ([r], c) ∧ ∀ x ∈ c, Tok.ver x ∈ l

theorem Goes.toT {l : List Tok} (h : Goes l) (hn : l.Nodup) : T l := by
  obtain ⟨r, l', c, rfl, h1, h2⟩ := h
  rw [run_cons, step_ver, Option.bind_some] at h1
  have := goes_T l' [.ver r] [r] [r] c r (.ver r) h1 (Inv_one r) (by simp) (by simp [st]) (by simp [comp]; exact T.one r) (by simp [comp]) (by simpa using h2) (by simpa using hn)
  simpa using this

theorem T.toGoes {r : Int} {l : List Tok} (h : T (.ver r :: l)) : Goes (.ver r :: l) := by
  obtain ⟨t, ht⟩ : ∃ t, (Tok.ver r :: l).getLast? = some t := ⟨_, List.getLast?_eq_some_getLast (by simp)⟩
  obtain ⟨c, h1, h2⟩ := h.toC _ (Rot.refl _) t ht
  have h1' := h1
  rw [run_cons, Option.bind_eq_some_iff] at h1'
  obtain ⟨s, g1, _⟩ := h1'
  have e : t.st = r := by
    simp only [step] at g1
    split at g1
    · assumption
    · cases g1
  rw [e] at h1
  exact ⟨r, l, c, rfl, h1, fun x hx => (h2 x).1 hx⟩

end Go.Pev.Pl.Tok
end
section
/- What is grown is grown without a leaf, and has one. No program in sight. -/
namespace Go.Pev.Pl.Tok

theorem T.cons_ver {l : List Tok} (h : T l) : ∃ v r, Rot l (.ver v :: r) := by
  obtain ⟨f1, f2, _⟩ := h.facts
  obtain ⟨t, ht⟩ := List.exists_mem_of_ne_nil l f1
  obtain ⟨a, b, rfl⟩ := List.append_of_mem (f2 t ht)
  exact ⟨t.st, b ++ a, a, .ver t.st :: b, rfl, rfl⟩

/-- a leaf is taken away -/
theorem T.less {x : Tok} {v : Int} {l : List Tok} (h : T (x :: .arc x.st v :: .ver v :: .arc v x.st :: l)) : T (x :: l) := by
  have hC := h.toC
  have hn := h.nodup
  obtain ⟨_, f2, f3⟩ := h.facts
  have hne : x.st ≠ v := (f3 x.st v (by simp)).2.2.2
  have hvl : Tok.ver v ∉ l := by
    intro hm
    simp only [List.nodup_cons, List.mem_cons, not_or] at hn
    exact hn.2.2.1.2 hm
  have hvx : x ≠ .ver v := by rintro rfl; exact hne rfl
  have key : ∀ p q, l = p ++ q → ∀ t0, (q ++ x :: p).getLast? = some t0 → ∃ c, run ([t0.st], [t0.st]) (q ++ x :: p) = some ([t0.st], c) ∧ ∀ y, y ∈ c ↔ .ver y ∈ x :: l := by
    intro p q hl t0 ht0
    have hrot : Rot (x :: .arc x.st v :: .ver v :: .arc v x.st :: l) (q ++ x :: .arc x.st v :: .ver v :: .arc v x.st :: p) := ⟨x :: .arc x.st v :: .ver v :: .arc v x.st :: p, q, by simp [hl], rfl⟩
    have ht : ∃ t, (q ++ x :: Tok.arc x.st v :: .ver v :: .arc v x.st :: p).getLast? = some t ∧ t.st = t0.st := by
      cases p with
      | nil =>
        rw [List.getLast?_concat] at ht0
        cases ht0
        exact ⟨.arc v x.st, by rw [show q ++ [x, Tok.arc x.st v, .ver v, .arc v x.st] = (q ++ [x, Tok.arc x.st v, .ver v]) ++ [Tok.arc v x.st] by simp, List.getLast?_concat], rfl⟩
      | cons y p =>
        refine ⟨t0, ?_, rfl⟩
        rw [show q ++ x :: Tok.arc x.st v :: .ver v :: .arc v x.st :: y :: p = (q ++ [x, Tok.arc x.st v, .ver v, .arc v x.st]) ++ y :: p by simp, List.getLast?_append]
        rw [show q ++ x :: y :: p = (q ++ [x]) ++ y :: p by simp, List.getLast?_append] at ht0
        exact ht0
    obtain ⟨t, e0, e1⟩ := ht
    obtain ⟨c, h1, h2⟩ := hC _ hrot t e0
    rw [e1, show q ++ x :: Tok.arc x.st v :: .ver v :: .arc v x.st :: p = (q ++ [x]) ++ Tok.arc x.st v :: .ver v :: .arc v x.st :: p by simp, run_append, Option.bind_eq_some_iff] at h1
    obtain ⟨⟨w1, c1⟩, g1, g2⟩ := h1
    obtain ⟨i1, i2, i3⟩ := run_inv g1 (Inv_one _)
    have i3' := i3 x (by simp)
    simp only at i3'
    cases w1 with
    | nil => simp at i3'
    | cons w0 w' =>
      simp at i3'
      subst i3'
      rw [run_cons, Option.bind_eq_some_iff] at g2
      obtain ⟨s1, k1, k2⟩ := g2
      rcases step_cases k1 with ⟨v', r, e, _⟩ | ⟨u', v', r, e, hw, rfl⟩ | ⟨u', v', r, e, hw, hh, hnc, rfl⟩
      · cases e
      · cases e
        simp only [List.cons.injEq] at hw
        obtain ⟨_, rfl⟩ := hw
        exfalso
        rw [run_cons, step_ver, Option.bind_some, run_cons, Option.bind_eq_some_iff] at k2
        obtain ⟨s2, m1, _⟩ := k2
        have hnd := i1.1
        rcases step_cases m1 with ⟨v', r', e, _⟩ | ⟨u', v', r', e, hw, rfl⟩ | ⟨u', v', r', e, hw, hh, hnc, rfl⟩
        · cases e
        · cases e
          simp only [List.cons.injEq] at hw
          obtain ⟨_, rfl⟩ := hw
          simp at hnd
        · cases e
          exact hnc (i1.2 _ (by simp))
      · cases e
        simp only [List.cons.injEq, true_and] at hw
        subst hw
        simp only at hnc
        rw [run_cons, step_ver, Option.bind_some, run_cons, step_pop, Option.bind_some] at k2
        have hvw : v ∉ x.st :: w' := fun hm => hnc (i1.2 v hm)
        obtain ⟨_, d, m1, m2, m3⟩ := run_less (z := v) (c := c1) k2 hvw (fun y => by simp [or_comm]) hnc
        refine ⟨d, ?_, fun y => ?_⟩
        · rw [show q ++ x :: p = (q ++ [x]) ++ p by simp, run_append, g1, Option.bind_some, m1]
        · have q1 := m2 y
          have q2 := h2 y
          by_cases e : y = v
          · subst e
            refine ⟨fun h => absurd h m3, fun h => ?_⟩
            rcases List.mem_cons.1 h with h | h
            · exact absurd h.symm hvx
            · exact absurd h hvl
          · rw [q2] at q1
            simp only [e, or_false] at q1
            rw [← q1]
            simp [e]
  -- gone round from a vertex's token
  obtain ⟨s, b, a, hsb⟩ : ∃ s a b, x :: l = a ++ .ver s :: b := by
    have := f2 x (by simp)
    simp only [List.mem_cons, reduceCtorEq, false_or, Tok.ver.injEq, hne] at this
    rcases this with h | h
    · exact ⟨x.st, [], l, by rw [← h]; rfl⟩
    · obtain ⟨a, b, rfl⟩ := List.append_of_mem h
      exact ⟨x.st, x :: a, b, rfl⟩
  have hg : Goes (.ver s :: a ++ b) := by
    have hr : ∃ p q, l = p ++ q ∧ q ++ x :: p = .ver s :: a ++ b := by
      cases b with
      | nil =>
        simp only [List.nil_append, List.cons.injEq] at hsb
        obtain ⟨rfl, rfl⟩ := hsb
        exact ⟨l, [], by simp, by simp⟩
      | cons y b =>
        simp only [List.cons_append, List.cons.injEq] at hsb
        obtain ⟨rfl, rfl⟩ := hsb
        exact ⟨b, .ver s :: a, rfl, by simp⟩
    obtain ⟨p, q, hl, e⟩ := hr
    obtain ⟨t0, ht0⟩ : ∃ t0, (q ++ x :: p).getLast? = some t0 := ⟨_, List.getLast?_eq_some_getLast (by simp)⟩
    obtain ⟨c, h1, h2⟩ := key p q hl t0 ht0
    rw [e] at h1
    have h1' := h1
    rw [List.cons_append, run_cons, Option.bind_eq_some_iff] at h1'
    obtain ⟨s', g1, _⟩ := h1'
    have e' : t0.st = s := by
      simp only [step] at g1
      split at g1
      · assumption
      · cases g1
    rw [e'] at h1
    refine ⟨s, a ++ b, c, rfl, h1, fun y hy => ?_⟩
    have := (h2 y).1 hy
    rw [hsb] at this
    simp only [List.mem_append, List.mem_cons] at this ⊢
    rcases this with h | h | h <;> simp [h]
  have hrot2 : Rot (.ver s :: a ++ b) (x :: l) := ⟨.ver s :: a, b, rfl, hsb⟩
  have hnx : (x :: l).Nodup := by
    simp only [List.nodup_cons, List.mem_cons, not_or] at hn ⊢
    exact ⟨hn.1.2.2.2, hn.2.2.2.2⟩
  exact (hg.toT (hrot2.nodup.2 hnx)).of_rot hrot2

/-- there is a leaf -/
theorem T.leaf {l : List Tok} (h : T l) : (∃ v, l = [.ver v]) ∨ ∃ x v r, Rot l (x :: .arc x.st v :: .ver v :: .arc v x.st :: r) := by
  induction h with
  | one v => exact .inl ⟨v, rfl⟩
  | add x l v h hne hv ih => exact .inr ⟨x, v, l, Rot.refl _⟩
  | rot a b h ih =>
    rcases ih with ⟨v, e⟩ | ⟨x, v, r, hr⟩
    · have hr : Rot [.ver v] (b ++ a) := ⟨a, b, e.symm, rfl⟩
      exact .inl ⟨v, List.perm_singleton.1 hr.perm.symm⟩
    · exact .inr ⟨x, v, r, Rot.trans ⟨b, a, rfl, rfl⟩ hr⟩

def vers : List Tok → List Int
  | [] => []
  | .ver v :: l => v :: vers l
  | .arc _ _ :: l => vers l

theorem mem_vers {v : Int} : ∀ {l : List Tok}, v ∈ vers l ↔ .ver v ∈ l
  | [] => by simp [vers]
  | .ver w :: l => by simp [vers, mem_vers (l := l)]
  | .arc _ _ :: l => by simp [vers, mem_vers (l := l)]
theorem vers_append (a b : List Tok) : vers (a ++ b) = vers a ++ vers b := by
  induction a with
  | nil => rfl
  | cons t a ih => cases t <;> simp [vers, ih]

theorem T.len {l : List Tok} (h : T l) : l.length + 2 = 3 * (vers l).length := by
  induction h with
  | one v => rfl
  | add x l v h hne hv ih =>
    cases x <;> simp [vers] at ih ⊢ <;> omega
  | rot a b h ih =>
    simp only [vers_append, List.length_append] at ih ⊢
    omega

end Go.Pev.Pl.Tok
end
section
/- Tokens of vertices and arcs; the same lists. -/
namespace Go.Pev.Pl
open Tok

def In (n v : Int) : Prop := 1 ≤ n ∧ n ≤ 64 ∧ 0 ≤ v ∧ v < n
instance (n v : Int) : Decidable (In n v) := inferInstanceAs (Decidable (_ ∧ _))
def Sz (n : Int) : Prop := 1 ≤ n ∧ n ≤ 64
instance (n : Int) : Decidable (Sz n) := inferInstanceAs (Decidable (_ ∧ _))

theorem in18_val (n v : Int) : in18 (n, v, ()) = some (decide (In n v), ()) := by
  rw [in18_eq, in18_d]
  simp only [ile_eq, ilt_eq]
  by_cases h1 : 1 ≤ n <;> by_cases h2 : n ≤ 64 <;> by_cases h3 : 0 ≤ v <;> simp [In, h1, h2, h3]
theorem tsized_val (n : Int) : tsized (n, ()) = some (decide (Sz n), ()) := by
  rw [tsized_eq, tsized_d]
  simp only [ile_eq]
  by_cases h1 : 1 ≤ n <;> by_cases h2 : n ≤ 64 <;> simp [Sz, h1, h2]
theorem tin_val (n v : Int) : tin (n, v, ()) = some (decide (In n v), ()) := by
  rw [tin_eq, tin_d]
  simp only [tsized_val, ile_eq, ilt_eq]
  by_cases h1 : 1 ≤ n <;> by_cases h2 : n ≤ 64 <;> by_cases h3 : 0 ≤ v <;> simp [In, Sz, h1, h2, h3]

def vertex (n v : Int) : Int := if In n v then v else -1
theorem vertex18_val (n v : Int) : vertex18 (n, v, ()) = some (vertex n v, ()) := by
  rw [vertex18_eq, vertex18_d]
  simp only [in18_val, vertex]
  by_cases h : In n v <;> simp [h]
theorem tvertex_val (n v : Int) : tvertex (n, v, ()) = some (vertex n v, ()) := by
  rw [tvertex_eq, tvertex_d]
  simp only [tin_val, vertex]
  by_cases h : In n v <;> simp [h]

def arcT (n u v : Int) : Int := if In n u ∧ In n v ∧ u ≠ v then n * (u + 1) + v else -1

theorem mul_bounds {n u : Int} (h1 : 1 ≤ n) (h2 : n ≤ 64) (h3 : 0 ≤ u) (h4 : u ≤ 64) : 0 ≤ n * u ∧ n * u ≤ 4096 := by
  refine ⟨Int.mul_nonneg (by omega) h3, ?_⟩
  have := Int.mul_le_mul h2 h4 h3 (by omega)
  omega

theorem arc18_val (n u v : Int) : arc18 (n, u, v, ()) = some (arcT n u v, ()) := by
  rw [arc18_eq, arc18_d]
  simp only [in18_val, arcT, ieq_dec]
  by_cases h1 : In n u
  · by_cases h2 : In n v
    · by_cases h3 : u = v
      · simp [h1, h2, h3]
      · obtain ⟨a1, a2, a3, a4⟩ := h1
        obtain ⟨b1, b2, b3, b4⟩ := h2
        have hb := mul_bounds a1 a2 a3 (by omega)
        have e1 : u * n = n * u := Int.mul_comm _ _
        have e2 : n * (u + 1) = n * u + n := by rw [Int.mul_add, Int.mul_one]
        rw [e1, wrap_in (n := n * u) (by omega), wrap_in (n := n + n * u) (by omega), wrap_in (n := n + n * u + v) (by omega), e2]
        have e3 : n + n * u + v = n * u + n + v := by omega
        simp [In, a1, a2, a3, a4, b3, b4, h3, e3]
    · simp [h1, h2]
  · simp [h1]
theorem tarc_val (n u v : Int) : tarc (n, u, v, ()) = some (arcT n u v, ()) := by
  rw [tarc_eq, tarc_d]
  simp only [tin_val, arcT, ieq_dec]
  by_cases h3 : u = v
  · simp [h3]
  · by_cases h1 : In n u
    · by_cases h2 : In n v
      · obtain ⟨a1, a2, a3, a4⟩ := h1
        obtain ⟨b1, b2, b3, b4⟩ := h2
        have hb := mul_bounds (u := u + 1) a1 a2 (by omega) (by omega)
        rw [wrap_in (n := u + 1) (by omega), wrap_in (n := n * (u + 1)) (by omega), wrap_in (n := n * (u + 1) + v) (by omega)]
        simp [In, a1, a2, a3, a4, b3, b4, h3]
      · simp [h1, h2, h3]
    · simp [h1, h3]

/-- what a token is of -/
def tokOf (n t : Int) : Option Tok :=
  if In n t then some (.ver t)
  else if Sz n ∧ n ≤ t ∧ t < n * (n + 1) ∧ t / n - 1 ≠ t % n then some (.arc (t / n - 1) (t % n))
  else none
def tokR : Option Tok → Int × Int × Bool × Bool × Unit
  | some (.ver v) => (v, 0, false, true, ())
  | some (.arc u v) => (u, v, true, true, ())
  | none => (0, 0, false, false, ())

def encT (n : Int) : Tok → Int
  | .ver v => v
  | .arc u v => n * (u + 1) + v
def okT (n : Int) : Tok → Prop
  | .ver v => In n v
  | .arc u v => In n u ∧ In n v ∧ u ≠ v

theorem enc_arc {n u v : Int} (h1 : In n u) (h2 : In n v) : n ≤ n * (u + 1) + v ∧ n * (u + 1) + v < n * (n + 1) ∧ (n * (u + 1) + v) / n = u + 1 ∧ (n * (u + 1) + v) % n = v := by
  obtain ⟨a1, a2, a3, a4⟩ := h1
  obtain ⟨b1, b2, b3, b4⟩ := h2
  have e2 : n * (u + 1) = n * u + n := by rw [Int.mul_add, Int.mul_one]
  have e3 : n * (n + 1) = n * n + n := by rw [Int.mul_add, Int.mul_one]
  have hb := mul_bounds (u := u) a1 a2 (by omega) (by omega)
  have hle : n * (u + 1) ≤ n * n := Int.mul_le_mul_of_nonneg_left (by omega) (by omega)
  have hd : (n * (u + 1) + v) / n = u + 1 := by
    rw [Int.add_comm, Int.add_mul_ediv_left _ _ (by omega), Int.ediv_eq_zero_of_lt b3 b4]; omega
  have hm : (n * (u + 1) + v) % n = v := by
    rw [Int.add_comm, Int.add_mul_emod_self_left, Int.emod_eq_of_lt b3 b4]
  exact ⟨by omega, by omega, hd, hm⟩

theorem dec_arc {n t : Int} (hn : Sz n) (h1 : n ≤ t) (h2 : t < n * (n + 1)) : In n (t / n - 1) ∧ In n (t % n) ∧ n * (t / n - 1 + 1) + t % n = t := by
  obtain ⟨a1, a2⟩ := hn
  have g1 : 1 ≤ t / n := (Int.le_ediv_iff_mul_le (by omega)).2 (by omega)
  have g2 : t / n < n + 1 := (Int.ediv_lt_iff_lt_mul (by omega)).2 (by rw [Int.mul_comm]; exact h2)
  have g3 := Int.emod_nonneg t (show n ≠ 0 by omega)
  have g4 := Int.emod_lt_of_pos t (show 0 < n by omega)
  have g5 := Int.mul_ediv_add_emod t n
  refine ⟨⟨a1, a2, by omega, by omega⟩, ⟨a1, a2, g3, g4⟩, ?_⟩
  rw [Int.sub_add_cancel]
  exact g5

theorem tokOf_enc {n : Int} {t : Tok} (h : okT n t) : tokOf n (encT n t) = some t := by
  cases t with
  | ver v => simp only [okT] at h; simp [tokOf, encT, h]
  | arc u v =>
    obtain ⟨h1, h2, h3⟩ := h
    obtain ⟨g1, g2, g3, g4⟩ := enc_arc h1 h2
    have hni : ¬ In n (n * (u + 1) + v) := fun h => by have := h.2.2.2; omega
    have : u + 1 - 1 = u := by omega
    simp only [tokOf, encT, hni, if_false, g3, g4, this]
    rw [if_pos ⟨⟨h1.1, h1.2.1⟩, g1, g2, h3⟩]
theorem enc_tokOf {n x : Int} {t : Tok} (h : tokOf n x = some t) : okT n t ∧ encT n t = x := by
  rw [tokOf] at h
  split at h
  · cases h; exact ⟨by assumption, rfl⟩
  · split at h
    · rename_i hh
      cases h
      obtain ⟨d1, d2, d3⟩ := dec_arc hh.1 hh.2.1 hh.2.2.1
      exact ⟨⟨d1, d2, hh.2.2.2⟩, d3⟩
    · cases h
theorem arcT_enc {n u v : Int} (h : okT n (.arc u v)) : arcT n u v = encT n (.arc u v) := by
  simp only [okT] at h
  rw [arcT, if_pos h]; rfl
theorem arcT_cases (n u v : Int) : (okT n (.arc u v) ∧ arcT n u v = encT n (.arc u v) ∧ n ≤ arcT n u v) ∨ (¬ okT n (.arc u v) ∧ arcT n u v = -1) := by
  by_cases h : In n u ∧ In n v ∧ u ≠ v
  · have e := arcT_enc (show okT n (.arc u v) from h)
    exact .inl ⟨h, e, by rw [e]; exact (enc_arc h.1 h.2.1).1⟩
  · exact .inr ⟨h, by rw [arcT, if_neg h]⟩
theorem enc_inj {n : Int} {a b : Tok} (ha : okT n a) (hb : okT n b) (h : encT n a = encT n b) : a = b := by
  have := tokOf_enc ha
  rw [h, tokOf_enc hb] at this
  exact (Option.some.inj this).symm

theorem ttoken_val (n t : Int) (ht : -9223372036854775808 ≤ t ∧ t ≤ 9223372036854775807) : ttoken (n, t, ()) = some (tokR (tokOf n t)) := by
  rw [ttoken_eq, ttoken_d]
  simp only [tsized_val]
  by_cases hs : Sz n
  · obtain ⟨a1, a2⟩ := hs
    have hb := mul_bounds (u := n) a1 a2 (by omega) (by omega)
    have e3 : n * (n + 1) = n * n + n := by rw [Int.mul_add, Int.mul_one]
    rw [wrap_in (n := n + 1) (by omega), wrap_in (n := n * (n + 1)) (by omega)]
    simp only [Sz, a1, a2, and_self, decide_true, Bool.not_true, ilt_eq, ile_eq]
    by_cases h1 : t < 0
    · have hni : ¬ In n t := fun h => by have := h.2.2.1; omega
      have h2 : ¬ n ≤ t := by omega
      simp only [h1, decide_true, tokOf, hni, if_false, h2, false_and, and_false, tokR]
    · simp only [h1, decide_false]
      by_cases h2 : n * (n + 1) ≤ t
      · have hni : ¬ In n t := fun h => by have := h.2.2.2; omega
        have h3 : ¬ t < n * (n + 1) := by omega
        simp only [h2, decide_true, tokOf, hni, if_false, h3, false_and, and_false, tokR]
      · simp only [h2, decide_false]
        by_cases h3 : t < n
        · have hi : In n t := ⟨a1, a2, by omega, h3⟩
          simp only [h3, decide_true, tokOf, hi, if_true, tokR]
        · have hni : ¬ In n t := fun h => h3 h.2.2.2
          have hq : t.tdiv n = t / n := Int.tdiv_eq_ediv_of_nonneg (by omega)
          have hm : t.tmod n = t % n := Int.tmod_eq_emod_of_nonneg (by omega)
          obtain ⟨d1, d2, d3⟩ := dec_arc (t := t) ⟨a1, a2⟩ (by omega) (by omega)
          have q1 := d1.2.2.1
          have q2 := d1.2.2.2
          simp only [h3, decide_false, quo_eq, quoR, rem_eq, remR]
          rw [if_neg (by omega), if_neg (by omega), hq, hm, wrap_in (n := t / n) (by omega)]
          simp only []
          rw [wrap_in (n := t / n - 1) (by omega), ieq_dec, tokOf, if_neg hni]
          by_cases h4 : t / n - 1 = t % n
          · rw [if_neg (by intro h; exact h.2.2.2 h4), decide_eq_true h4]; rfl
          · rw [if_pos ⟨⟨a1, a2⟩, by omega, by omega, h4⟩, decide_eq_false h4]; rfl
  · have hni : ¬ In n t := fun h => hs ⟨h.1, h.2.1⟩
    simp only [hs, decide_false, Bool.not_false, tokOf, hni, if_false, false_and, tokR]

theorem token18_val (n t : Int) (ht : -9223372036854775808 ≤ t ∧ t ≤ 9223372036854775807) : token18 (n, t, ()) = some (tokR (tokOf n t)) := by
  rw [token18_eq, token18_d]
  simp only [in18_val, ilt_eq, ile_eq]
  by_cases hi : In n t
  · simp only [hi, decide_true, tokOf, if_true, tokR]
  · simp only [hi, decide_false]
    by_cases h1 : n < 1
    · have hs : ¬ Sz n := fun h => by have := h.1; omega
      simp only [h1, decide_true, tokOf, hi, if_false, hs, false_and, tokR]
    · simp only [h1, decide_false]
      by_cases h2 : 64 < n
      · have hs : ¬ Sz n := fun h => by have := h.2; omega
        simp only [h2, decide_true, tokOf, hi, if_false, hs, false_and, tokR]
      · have a1 : 1 ≤ n := by omega
        have a2 : n ≤ 64 := by omega
        have hb := mul_bounds (u := n) a1 a2 (by omega) (by omega)
        have e3 : n * (n + 1) = n * n + n := by rw [Int.mul_add, Int.mul_one]
        rw [wrap_in (n := n * n) (by omega), wrap_in (n := n + n * n) (by omega)]
        simp only [h2, decide_false]
        by_cases h3 : t < n
        · have : ¬ n ≤ t := by omega
          simp only [h3, decide_true, tokOf, hi, if_false, this, false_and, and_false, tokR]
        · simp only [h3, decide_false]
          by_cases h4 : n + n * n ≤ t
          · have : ¬ t < n * (n + 1) := by omega
            simp only [h4, decide_true, tokOf, hi, if_false, this, false_and, and_false, tokR]
          · obtain ⟨d1, d2, d3⟩ := dec_arc (t := t) ⟨a1, a2⟩ (by omega) (by omega)
            have q1 := d1.2.2.1
            have q2 := d1.2.2.2
            rw [wrap_in (n := t - n) (by omega)]
            have hq : (t - n).tdiv n = t / n - 1 := by
              rw [Int.tdiv_eq_ediv_of_nonneg (by omega)]
              have := Int.add_mul_ediv_right t (-1) (show n ≠ 0 by omega)
              rw [show t - n = t + -1 * n by omega, this]; omega
            have hm : (t - n).tmod n = t % n := by
              rw [Int.tmod_eq_emod_of_nonneg (by omega)]
              have := Int.add_mul_emod_self_right t (-1) n
              rw [show t - n = t + -1 * n by omega, this]
            simp only [h4, decide_false, quo_eq, quoR, rem_eq, remR]
            rw [if_neg (by omega), if_neg (by omega), hq, hm, wrap_in (n := t / n - 1) (by omega)]
            simp only []
            rw [ieq_dec, tokOf, if_neg hi]
            by_cases h5 : t / n - 1 = t % n
            · rw [if_neg (by intro h; exact h.2.2.2 h5), decide_eq_true h5]; rfl
            · rw [if_pos ⟨⟨a1, a2⟩, by omega, by omega, h5⟩, decide_eq_false h5]; rfl

/- the same lists -/
theorem ints01_val (xs ys : List Int) (hs : xs.length < 4294967296) : ints01 (xs, ys, ()) = some (decide (xs = ys), ()) := by
  rw [ints01_eq, ints01_d, ieq_dlen]
  by_cases hl : xs.length = ys.length
  · rw [decide_eq_true hl]
    simp only [Bool.not_true]
    rcases scanL (step := ints01_s0) (fun i => (xs, ys, ((i : Nat) : Int), ())) xs.length (fun i => !decide (xs.getD i 0 = ys.getD i 0)) (fun _ => .inl (false, ())) (.inr (.inl ())) hs (fun i hi => by
      rw [ints01_s0, dlen_l, ilt_nat, decide_eq_true hi]
      simp (disch := omega) only [idx_l (0 : Int), wrap_add1, ieq_dec]
      by_cases h : xs.getD i 0 = ys.getD i 0
      · rw [decide_eq_true h]; simp
      · rw [decide_eq_false h]; simp) (by rw [ints01_s0, dlen_l, ilt_nat, decide_eq_false (by omega)]) with ⟨k, hk, hP, _, e⟩ | ⟨h, e⟩
    · have e' : iterL ints01_s0 many (xs, ys, (0 : Int), ()) = _ := e
      rw [e']
      have : xs ≠ ys := ne_of_place (0 : Int) (j := k) (by simpa using hP)
      simp [this]
    · have e' : iterL ints01_s0 many (xs, ys, (0 : Int), ()) = _ := e
      rw [e']
      have : xs = ys := eq_of_places (0 : Int) hl fun j hj => by simpa using h j hj
      simp [this]
  · rw [decide_eq_false hl]
    have : xs ≠ ys := fun e => hl (by rw [e])
    simp [this]

theorem lists14_val (xs ys : List (List Int)) (hs : xs.length < 4294967296) (hi : ∀ x ∈ xs, x.length < 4294967296) : lists14 (xs, ys, ()) = some (decide (xs = ys), ()) := by
  rw [lists14_eq, lists14_d, ieq_dlen]
  by_cases hl : xs.length = ys.length
  · rw [decide_eq_true hl]
    simp only [Bool.not_true]
    rcases scanL (step := lists14_s0) (fun i => (xs, ys, ((i : Nat) : Int), ())) xs.length (fun i => !decide (xs.getD i [] = ys.getD i [])) (fun _ => .inl (false, ())) (.inr (.inl ())) hs (fun i hii => by
      have hm : (xs.getD i []).length < 4294967296 := hi _ (by simp [hii])
      rw [lists14_s0, dlen_l, ilt_nat, decide_eq_true hii]
      simp (disch := first | omega | exact hm) only [idx_l ([] : List Int), wrap_add1, ints01_val]
      by_cases h : xs.getD i [] = ys.getD i []
      · rw [decide_eq_true h]; simp
      · rw [decide_eq_false h]; simp) (by rw [lists14_s0, dlen_l, ilt_nat, decide_eq_false (by omega)]) with ⟨k, hk, hP, _, e⟩ | ⟨h, e⟩
    · have e' : iterL lists14_s0 many (xs, ys, (0 : Int), ()) = _ := e
      rw [e']
      have : xs ≠ ys := ne_of_place ([] : List Int) (j := k) (by simpa using hP)
      simp [this]
    · have e' : iterL lists14_s0 many (xs, ys, (0 : Int), ()) = _ := e
      rw [e']
      have : xs = ys := eq_of_places ([] : List Int) hl fun j hj => by simpa using h j hj
      simp [this]
  · rw [decide_eq_false hl]
    have : xs ≠ ys := fun e => hl (by rw [e])
    simp [this]

theorem same18_val (n m : Int) (xs ys : List (List Int)) (hs : xs.length < 4294967296) (hi : ∀ x ∈ xs, x.length < 4294967296) : same18 ((n, (xs, ())), (m, (ys, ())), ()) = some (decide (n = m ∧ xs = ys), ()) := by
  rw [same18_eq, same18_d]
  simp only [ieq_dec, lists14_val xs ys hs hi]
  by_cases h : n = m <;> simp [h]

/- Make -/
def singles (n : Nat) : List (List Int) := (List.range n).map fun (v : Nat) => [(v : Int)]
theorem singles_succ (n : Nat) : singles (n + 1) = singles n ++ [[(n : Int)]] := by simp [singles, List.range_succ]
theorem singles_len (n : Nat) : (singles n).length = n := by simp [singles]

theorem make18_loop (N : Nat) (hN : N ≤ 64) (c : Int) : ∀ (k i n : Nat), i + k = N → k < n → iterO make18_s0 n ((N : Int), c, (N : Int), singles i, (i : Int), ()) = some (.inl (c, (N : Int), singles N, ())) := by
  intro k
  induction k with
  | zero =>
    intro i n hi hn
    obtain ⟨n, rfl⟩ : ∃ k, n = k + 1 := ⟨n - 1, by omega⟩
    have : i = N := by omega
    subst this
    rw [iterO, make18_s0, ilt_nat, decide_eq_false (by omega)]
  | succ k ih =>
    intro i n hi hn
    obtain ⟨n, rfl⟩ : ∃ k, n = k + 1 := ⟨n - 1, by omega⟩
    rw [iterO, make18_s0, ilt_nat, decide_eq_true (by omega)]
    simp only [dlen_l, singles_len, List.length_cons, List.length_nil]
    rw [fits_l (by omega), wrap_add1 (by omega)]
    simp only [dapp_l, ← singles_succ]
    exact ih (i + 1) n (by omega) (by omega)
theorem tmake_loop (N : Nat) (hN : N ≤ 64) (c : Int) : ∀ (k i n : Nat), i + k = N → k < n → iterO tmake_s0 n (c, (N : Int), singles i, (N : Int), (i : Int), ()) = some (.inl (c, (N : Int), singles N, ())) := by
  intro k
  induction k with
  | zero =>
    intro i n hi hn
    obtain ⟨n, rfl⟩ : ∃ k, n = k + 1 := ⟨n - 1, by omega⟩
    have : i = N := by omega
    subst this
    rw [iterO, tmake_s0, ilt_nat, decide_eq_false (by omega)]
  | succ k ih =>
    intro i n hi hn
    obtain ⟨n, rfl⟩ : ∃ k, n = k + 1 := ⟨n - 1, by omega⟩
    rw [iterO, tmake_s0, ilt_nat, decide_eq_true (by omega)]
    simp only [dlen_l, singles_len, List.length_cons, List.length_nil]
    rw [fits_l (by omega), wrap_add1 (by omega)]
    simp only [dapp_l, ← singles_succ]
    exact ih (i + 1) n (by omega) (by omega)

def makeOut (n : Int) : Int × List (List Int) × Int × Unit := if Sz n then (n, singles n.toNat, 0, ()) else (0, [], 1, ())
theorem make18_val (n : Int) : make18 (n, ()) = some (makeOut n) := by
  have hm : 4294967296 < many := by simp only [many]; omega
  rw [make18_eq, make18_d, makeOut]
  simp only [ilt_eq]
  by_cases h1 : n < 1
  · have : ¬ Sz n := fun h => by have := h.1; omega
    simp [h1, this]
  · by_cases h2 : 64 < n
    · have : ¬ Sz n := fun h => by have := h.2; omega
      simp [h1, h2, this]
    · obtain ⟨N, rfl⟩ := Int.eq_ofNat_of_zero_le (show 0 ≤ n by omega)
      have hS : Sz (N : Int) := ⟨by omega, by omega⟩
      have e := make18_loop N (by omega) 0 N 0 many (by omega) (by omega)
      have e' : iterO make18_s0 many ((N : Int), 0, (N : Int), [], (0 : Int), ()) = _ := e
      simp [h1, h2, hS, iterL_eq, e']
theorem tmake_val (n : Int) : tmake (n, ()) = some (makeOut n) := by
  have hm : 4294967296 < many := by simp only [many]; omega
  rw [tmake_eq, tmake_d, makeOut]
  simp only [tsized_val]
  by_cases h : Sz n
  · obtain ⟨h1, h2⟩ := h
    obtain ⟨N, rfl⟩ := Int.eq_ofNat_of_zero_le (show 0 ≤ n by omega)
    have hS : Sz (N : Int) := ⟨by omega, by omega⟩
    have e := tmake_loop N (by omega) 0 N 0 many (by omega) (by omega)
    have e' : iterO tmake_s0 many (0, (N : Int), [], (N : Int), (0 : Int), ()) = _ := e
    simp [hS, iterL_eq, e']
  · simp [h]
end Go.Pev.Pl
end
section
/- A call whose result is the front of a slice that was handed in: it is the caller's own, from now on. Closures' own specs. Recursion. -/
namespace Go.Pev
open Go.RowKit

def takeK {R : Type} (slot : Nat) (H : List Ob) (fz : List Bool) (k : AV → Eff → Option R) (v : AV) (e : Eff) : Option R :=
  match e.heap with
  | none => match v with
    | .win id 0 n => match (appH e H)[id]? with
      | some (.arr T t xs) => match unfrozen (appF e fz) id && isFree (appH e H) (appF e fz) (slot + 3) && (e.objs.any fun p => Nat.beq p.1 id) with
        | true => k (.own (slot + 3)) { objs := e.objs ++ [(id, .dead), (slot + 3, .arr T t (dtake n xs))], frz := e.frz }
        | false => none
      | _ => none
    | _ => none
  | some _ => none

def takeBack (s : Spec) : Spec := fun R args H fz slot k => s R args H fz slot (takeK slot H fz k)

section
variable {P : Program} {g : FuncId}

theorem setObjs_app (a b : List (Nat × Ob)) : ∀ H, setObjs (a ++ b) H = setObjs b (setObjs a H) := by
  induction a with
  | nil => intro H; rfl
  | cons p a ih => intro H; obtain ⟨i, o⟩ := p; simp only [List.cons_append, setObjs]; exact ih _

/-- the front of an object, for the object -/
theorem goes_take {w : World} {F : Nat → Prop} {m : Mp} {H : List Ob} {fz : List Bool} (hi : HI w F m H fz) {id n slot : Nat} {T : TypeId} {t : Ty} {xs : List t.den} (ho : H[id]? = some (.arr T t xs)) (hf : unfrozen fz id = true)
    (hs : isFree H fz slot = true) {u : Value} (hr : Rep w F m H (.win id 0 n) u) :
    ∃ m', Goes w F m H fz w F m' ((H.set id .dead).set slot (.arr T t (dtake n xs))) fz ∧ Rep w F m' ((H.set id .dead).set slot (.arr T t (dtake n xs))) (.own slot) u := by
  have hob := hi.obj id _ ho
  obtain ⟨h0, hob⟩ := hob
  unfold Rep at hr
  rw [ho] at hr
  obtain ⟨hle, hr⟩ := hr
  rw [Nat.zero_add] at hle
  have hsn : slot ≠ id := free_ne hs ho
  have hkill := Goes.kill hi (owned_arr ho hf)
  have zero : ∀ a, n = 0 → u = .slice a 0 0 → ∃ m', Goes w F m H fz w F m' ((H.set id .dead).set slot (.arr T t (dtake n xs))) fz ∧ Rep w F m' ((H.set id .dead).set slot (.arr T t (dtake n xs))) (.own slot) u := by
    intro a hn hu
    subst hn; subst hu
    obtain ⟨m', hg, hrep⟩ := goes_new_empty (w := w) hkill.2 (isFree_set hs hsn) T h0 a
    exact ⟨m', hkill.trans hg, hrep⟩
  cases hm : m id with
  | none =>
    rw [hm] at hr hob
    obtain ⟨a, e1⟩ := hr
    simp only at hob
    subst hob
    have hn : n = 0 := by simpa using hle
    exact zero a hn (by rw [e1, hn])
  | some p =>
    obtain ⟨b, cap⟩ := p
    rw [hm] at hr hob
    obtain ⟨vs, row, e1, e2, e3, e4, e7, e8⟩ := hob
    obtain ⟨a, rfl, ha⟩ := hr
    rcases Nat.eq_zero_or_pos cap with hc | hc
    · have : n = 0 := by omega
      exact zero a this (by rw [this, hc])
    · have := ha hc
      rw [Nat.zero_mul] at this
      subst this
      have hk := fun (x : t.den) cs (h : Dat w F t x cs) => Dat.length t h
      have hlen : (xs.take n).length = n := by rw [List.length_take]; omega
      have hrw := rows_take hk n e7
      have hrl := rows_length hk hrw
      rw [hlen] at hrl
      have hg := Goes.move (w' := w) hi (owned_arr ho hf) hm hs (ob := .arr T t (dtake n xs)) trivial (b' := b) (c' := cap) (.inl rfl) rfl rfl rfl (Nat.le_refl _) (fun _ _ _ => rfl) (fun _ => ⟨h0, vs, row.take (n * t.size), e1, by
        show (xs.take n).length ≤ cap
        rw [hlen]; omega, e3, e4, hrw, by
        rw [hrl, ← e8, List.take_take, Nat.min_eq_left]
        rw [rows_length hk e7]
        exact Nat.mul_le_mul_right _ hle⟩)
      refine ⟨_, hg, ?_⟩
      have hlts := lt_of_get (isFree_iff hs).1
      unfold Rep
      rw [set_same (by simpa using hlts), upd_same]
      show Value.slice _ n (cap - 0) = Value.slice _ (xs.take n).length cap
      rw [hlen, Nat.sub_zero]

theorem takeBack_ok {s : Spec} (hs : SpecOK P g s) : SpecOK P g (takeBack s) := by
  intro R args H fz slot k r hk
  obtain ⟨v, e, h1, h2, h3, h4⟩ := hs R args H fz slot _ r hk
  unfold takeK at h1
  split at h1
  · rename_i he
    split at h1
    · rename_i id n
      split at h1
      · rename_i T t xs ho
        split at h1
        · rename_i hc
          refine ⟨_, _, h1, fun R' k' => ?_, h3, fun w F m vals hi hr => ?_⟩
          · unfold takeBack
            rw [h2]
            simp only [takeK, he, ho, hc]
          · refine (h4 w F m vals hi hr).mono ?_
            rintro en w' ⟨u, rfl, F', m', hg, hrep⟩
            simp only [Bool.and_eq_true] at hc
            obtain ⟨m2, hg2, hr2⟩ := goes_take hg.2 ho hc.1.1 hc.1.2 hrep
            have eH : appH { objs := e.objs ++ [(id, .dead), (slot + 3, .arr T t (dtake n xs))], frz := e.frz } H = ((appH e H).set id .dead).set (slot + 3) (.arr T t (dtake n xs)) := by
              rw [appH_none rfl, appH_none he, setObjs_app]
              rfl
            have eF : appF { objs := e.objs ++ [(id, .dead), (slot + 3, .arr T t (dtake n xs))], frz := e.frz } fz = appF e fz := by
              rw [appF_none rfl, appF_none he]
            refine ⟨u, rfl, F', m2, ?_, ?_⟩
            · rw [eH, eF]; exact hg.trans hg2
            · rw [eH]; exact hr2
        · cases h1
      · cases h1
    · cases h1
  · cases h1

theorem mkCall_none {na : Nat} {its outs : Items} {rs : List RS} {f : denL (leaves its) → Option (denL (leaves outs))} (hf : ∀ x, f x = none) : SpecOK P g (mkCall na its outs rs f) := by
  intro R args H fz slot k r hk
  unfold mkCall at hk
  split at hk
  · cases hk
  · split at hk
    · cases hk
    · rw [hf] at hk; cases hk
end

section
variable {S : List Nat} {H H' : List Ob}

theorem LocalSpec.toIn {s : Spec} (h : LocalSpec s) : LocalIn s :=
  fun R args H H' fz fz' slot k S hS _ ha => h R args H H' fz fz' slot k ⟨fun id hid => ha.heap id (hS id hid), ha.slotH, ha.slotF, ha.len, fun id hid => by cases hid⟩

/-- no item is an object by its number -/
def noObj : Items → Bool
  | [] => true
  | (.obj _, _) :: _ => false
  | _ :: r => noObj r

def refsIn (S : List Nat) (v : AV) : Prop := ∀ id ∈ refsAV v, id ∈ S
def bsIn (S : List Nat) (bs : List Bnd) : Prop := ∀ b ∈ bs, ∀ id, b.id? = some id → id ∈ S

theorem bsIn.get {bs : List Bnd} (h : bsIn S bs) {j : Nat} {b : Bnd} {id : Nat} (hj : bs[j]? = some b) (hi : b.id? = some id) : id ∈ S := h b (List.mem_of_getElem? hj) id hi
theorem bsIn.snoc {bs : List Bnd} (h : bsIn S bs) {b : Bnd} (hb : ∀ id, b.id? = some id → id ∈ S) : bsIn S (bs ++ [b]) := by
  intro x hx id hi
  rcases List.mem_append.1 hx with hx | hx
  · exact h x hx id hi
  · simp only [List.mem_singleton] at hx; subst hx; exact hb id hi

theorem look_in {tm : List AV} {bs : List Bnd} {l : Loc} (hS : ∀ id ∈ refsL tm, id ∈ S) (hc : ClosedS S H) (hH : ∀ id ∈ S, H[id]? = H'[id]?) (hb : bsIn S bs) (hl : ∀ j, l ≠ .obj j) :
    look tm H bs l = look tm H' bs l ∧ ∀ v, look tm H bs l = some v → refsIn S v := by
  cases l with
  | tmp t =>
    refine ⟨rfl, fun v hv id hid => hS id ?_⟩
    exact refsL_of_mem (List.mem_of_getElem? hv) hid
  | cell j c =>
    simp only [look]
    cases hj : bs[j]? with
    | none => exact ⟨rfl, fun v hv => by cases hv⟩
    | some b =>
      cases b with
      | none => exact ⟨rfl, fun v hv => by cases hv⟩
      | cut id => exact ⟨rfl, fun v hv => by cases hv⟩
      | whole id =>
        have hid := hb.get hj (id := id) rfl
        simp only
        rw [hH id hid]
        refine ⟨rfl, fun v hv => ?_⟩
        cases ho : H'[id]? with
        | none => rw [ho] at hv; cases hv
        | some o =>
          rw [ho] at hv
          cases o <;> simp only at hv <;> first | (cases hv; done) | skip
          rename_i cs
          intro i hi
          exact hc id hid cs (by rw [hH id hid, ho]) i (refsL_of_mem (List.mem_of_getElem? hv) hi)
  | cap t i =>
    refine ⟨rfl, fun v hv => ?_⟩
    simp only [look] at hv
    cases ht : tm[t]? with
    | none => rw [ht] at hv; cases hv
    | some a =>
      rw [ht] at hv
      cases a <;> simp only at hv <;> first | (cases hv; done) | skip
      rename_i f cs
      intro id hid
      refine hS id (refsL_of_mem (List.mem_of_getElem? ht) ?_)
      simp only [refsAV]
      exact refsL_of_mem (List.mem_of_getElem? hv) hid
  | obj j => exact absurd rfl (hl j)

theorem setFrz_agree {f : List Nat} {fz fz' : List Bool} (hl : fz.length = fz'.length) {id : Nat} (h : fz.getD id false = fz'.getD id false) : (setFrz f fz).getD id false = (setFrz f fz').getD id false := by
  rw [setFrz_getD, setFrz_getD, h, hl]

theorem dec_in {tm : List AV} (hS : ∀ id ∈ refsL tm, id ∈ S) (hc : ClosedS S H) (hH : ∀ id ∈ S, H[id]? = H'[id]?) : ∀ (its : Items) (fz fz' : List Bool) (bs : List Bnd), noObj its = true → bsIn S bs → fz.length = fz'.length → (∀ id ∈ S, fz.getD id false = fz'.getD id false) →
    dec tm H its fz bs = dec tm H' its fz' bs := by
  intro its
  induction its with
  | nil => intro fz fz' bs _ _ _ _; rfl
  | cons p r ih =>
    intro fz fz' bs hn hb hlen hz
    obtain ⟨l, c⟩ := p
    have hno : (∀ j, l ≠ .obj j) ∧ noObj r = true := by
      cases l with
      | obj j => cases hn
      | tmp t => exact ⟨fun j h => (by cases h), hn⟩
      | cell a b => exact ⟨fun j h => (by cases h), hn⟩
      | cap a b => exact ⟨fun j h => (by cases h), hn⟩
    obtain ⟨e1, e2⟩ := look_in hS hc hH hb hno.1
    have ihr := fun bs hb => ih fz fz' bs hno.2 hb hlen hz
    have unf : ∀ id ∈ S, unfrozen fz id = unfrozen fz' id := fun id hid => by unfold unfrozen; rw [hz id hid]
    cases c with
    | dat t =>
      simp only [dec, ← e1]
      cases hv : look tm H bs l with
      | none => rfl
      | some v =>
        simp only
        rw [asTy_local t v fun id hid => hH id (e2 v hv id hid)]
        cases asTy H' t v with
        | none => rfl
        | some q =>
          obtain ⟨x, f⟩ := q
          simp only
          rw [ih (setFrz f fz) (setFrz f fz') bs hno.2 hb (by rw [setFrz_len, setFrz_len, hlen]) (fun id hid => setFrz_agree hlen (hz id hid))]
    | own T e =>
      simp only [dec, ← e1]
      cases hv : look tm H bs l with
      | none => rfl
      | some v =>
        cases v with
        | nils e' => simp only; rw [ihr _ (hb.snoc fun id h => by cases h)]
        | own id =>
          have hid : id ∈ S := e2 _ hv id (by simp [refsAV])
          simp only
          rw [← hH id hid, unf id hid, ihr _ (hb.snoc fun id' h => by simp only [Bnd.id?, Option.some.injEq] at h; subst h; exact hid)]
        | win id off n =>
          have hid : id ∈ S := e2 _ hv id (by simp [refsAV])
          cases off with
          | succ off => rfl
          | zero =>
            simp only
            rw [← hH id hid, unf id hid, ihr _ (hb.snoc fun id' h => by simp only [Bnd.id?, Option.some.injEq] at h; subst h; exact hid)]
        | _ => rfl
    | box n =>
      simp only [dec, ← e1]
      cases hv : look tm H bs l with
      | none => rfl
      | some v =>
        cases v with
        | ptr id off =>
          have hid : id ∈ S := e2 _ hv id (by simp [refsAV])
          cases off with
          | succ off => rfl
          | zero =>
            simp only
            rw [← hH id hid, ihr _ (hb.snoc fun id' h => by simp only [Bnd.id?, Option.some.injEq] at h; subst h; exact hid)]
        | _ => rfl
    | map k v =>
      simp only [dec, ← e1]
      cases hv : look tm H bs l with
      | none => rfl
      | some u =>
        cases u with
        | mp id =>
          have hid : id ∈ S := e2 _ hv id (by simp [refsAV])
          simp only
          rw [← hH id hid, ihr _ (hb.snoc fun id' h => by simp only [Bnd.id?, Option.some.injEq] at h; subst h; exact hid)]
        | _ => rfl
    | own' j => simp only [dec, ← e1, ihr bs hb]
    | ptr' j off => simp only [dec, ← e1, ihr bs hb]
    | map' j => simp only [dec, ← e1, ihr bs hb]
    | sub' j => simp only [dec, ← e1, ihr bs hb]
    | win' j =>
      simp only [dec, ← e1]
      rw [ihr bs hb]
      cases hv : look tm H bs l with
      | none => rfl
      | some v =>
        cases v with
        | own id =>
          have hid : id ∈ S := e2 _ hv id (by simp [refsAV])
          cases bs[j]? with
          | none => rfl
          | some b =>
            cases b with
            | whole id' =>
              refine Eq.trans (b := match decide (id = id'), H[id]? with
                | true, some (.arr _ _ ys) => (match dec tm H' r fz' bs with
                  | some (xs, bs', g) => some ((dlen ys, xs), bs', g)
                  | none => none)
                | _, _ => none) rfl ?_
              rw [hH id hid]
              rfl
            | _ => rfl
        | win id off n =>
          cases off with
          | succ off => cases bs[j]? <;> rfl
          | zero =>
            cases bs[j]? with
            | none => rfl
            | some b => cases b <;> rfl
        | _ => cases bs[j]? <;> rfl
    | clo f ps => simp only [dec, ← e1, ihr bs hb]
    | nil e => simp only [dec, ← e1, ihr bs hb]

theorem idsOK_in {fz fz' : List Bool} : ∀ (n : Nat) (bs : List Bnd) (slot : Nat), (∀ s, slot ≤ s → s < slot + n → isFree H fz s = isFree H' fz' s) → idsOK H fz (idsOf n bs slot) bs = idsOK H' fz' (idsOf n bs slot) bs := by
  intro n
  induction n with
  | zero => intro bs slot _; cases bs <;> rfl
  | succ n ih =>
    intro bs slot h
    cases bs with
    | nil =>
      simp only [idsOf, idsOK, List.tail_nil]
      rw [h slot (Nat.le_refl _) (by omega), ih [] (slot + 1) fun s h1 h2 => h s (by omega) (by omega)]
    | cons b bs =>
      cases b with
      | whole id =>
        simp only [idsOf, idsOK, List.tail_cons]
        rw [ih bs slot fun s h1 h2 => h s h1 (by omega)]
      | none =>
        simp only [idsOf, idsOK, List.tail_cons]
        rw [h slot (Nat.le_refl _) (by omega), ih bs (slot + 1) fun s h1 h2 => h s (by omega) (by omega)]
      | cut id =>
        simp only [idsOf, idsOK, List.tail_cons]
        rw [h slot (Nat.le_refl _) (by omega), ih bs (slot + 1) fun s h1 h2 => h s (by omega) (by omega)]

theorem mkCall_in {na : Nat} {its outs : Items} {rs : List RS} {f : denL (leaves its) → Option (denL (leaves outs))} (hno : noObj its = true) (hn : Nat.ble (nobj outs) 4 = true) : LocalIn (mkCall na its outs rs f) := by
  intro R args H H' fz fz' slot k S hS hc ha
  have hn4 := Nat.le_of_ble_eq_true hn
  have hd : dec args H its fz [] = dec args H' its fz' [] := dec_in hS hc ha.heap its fz fz' [] hno (fun b hb => by cases hb) ha.len ha.wrF
  unfold mkCall
  rw [hd]
  split
  · rfl
  · rename_i x bs fr _
    split
    · rfl
    · split
      · rfl
      · have hf : ∀ (g : List Nat) s, slot ≤ s → s < slot + nobj outs → isFree H (setFrz g fz) s = isFree H' (setFrz g fz') s := fun g s h1 h2 => isFree_local ha h1 (by omega) g
        unfold backTo
        rw [idsOK_in (fz := fz) (fz' := fz') (nobj outs) bs slot (hf []), idsOK_in (fz := setFrz fr fz) (fz' := setFrz fr fz') (nobj outs) bs slot (hf fr)]

theorem idsOf_mem : ∀ (n : Nat) (bs : List Bnd) (slot i : Nat), i ∈ idsOf n bs slot → (∃ b ∈ bs, b.id? = some i) ∨ (slot ≤ i ∧ i < slot + n) := by
  intro n
  induction n with
  | zero => intro bs slot i h; cases bs <;> cases h
  | succ n ih =>
    intro bs slot i h
    have next : ∀ bs', i ∈ slot :: idsOf n bs' (slot + 1) → (∃ b ∈ bs', b.id? = some i) ∨ (slot ≤ i ∧ i < slot + (n + 1)) := by
      intro bs' h
      rcases List.mem_cons.1 h with rfl | h
      · exact .inr ⟨Nat.le_refl _, by omega⟩
      · rcases ih bs' (slot + 1) i h with h | h
        · exact .inl h
        · exact .inr ⟨by omega, by omega⟩
    cases bs with
    | nil => exact next [] h
    | cons b bs =>
      cases b with
      | whole id =>
        simp only [idsOf] at h
        rcases List.mem_cons.1 h with rfl | h
        · exact .inl ⟨.whole i, by simp, rfl⟩
        · rcases ih bs slot i h with ⟨b, hb, e⟩ | h
          · exact .inl ⟨b, by simp [hb], e⟩
          · exact .inr ⟨h.1, by omega⟩
      | none => rcases next bs h with ⟨b, hb, e⟩ | h; exact .inl ⟨b, by simp [hb], e⟩; exact .inr h
      | cut id => rcases next bs h with ⟨b, hb, e⟩ | h; exact .inl ⟨b, by simp [hb], e⟩; exact .inr h

/-- what is decoded lies in the set, too -/
theorem dec_bs_in {tm : List AV} (hS : ∀ id ∈ refsL tm, id ∈ S) (hc : ClosedS S H) : ∀ (its : Items) (fz : List Bool) (bs : List Bnd) (x : denL (leaves its)) (bs' : List Bnd) (fr : List Nat), noObj its = true → bsIn S bs →
    dec tm H its fz bs = some (x, bs', fr) → bsIn S bs' := by
  intro its
  induction its with
  | nil => intro fz bs x bs' fr _ hb h; simp only [dec, Option.some.injEq] at h; cases h; exact hb
  | cons p r ih =>
    intro fz bs x bs' fr hn hb h
    obtain ⟨l, c⟩ := p
    have hno : (∀ j, l ≠ .obj j) ∧ noObj r = true := by
      cases l with
      | obj j => cases hn
      | tmp t => exact ⟨fun j h => (by cases h), hn⟩
      | cell a b => exact ⟨fun j h => (by cases h), hn⟩
      | cap a b => exact ⟨fun j h => (by cases h), hn⟩
    have e2 := (look_in (H' := H) hS hc (fun _ _ => rfl) hb hno.1 (l := l)).2
    have one : ∀ {id : Nat} {b : Bnd}, id ∈ S → b.id? = some id → bsIn S (bs ++ [b]) := fun hid hbid => hb.snoc fun id' h' => by rw [hbid] at h'; cases h'; exact hid
    cases c <;> simp only [dec] at h
    case dat t =>
      split at h
      · split at h
        · split at h
          · split at h
            · rename_i hd; cases h; exact ih _ _ _ _ _ hno.2 hb hd
            · cases h
          · cases h
        · cases h
      · cases h
    case own T e =>
      split at h
      · split at h
        · split at h
          · rename_i hd; cases h; exact ih _ _ _ _ _ hno.2 (hb.snoc fun id h => by cases h) hd
          · cases h
        · cases h
      · rename_i id hl
        split at h
        · split at h
          · split at h
            · rename_i hd; cases h; exact ih _ _ _ _ _ hno.2 (one (e2 _ hl id (by simp [refsAV])) rfl) hd
            · cases h
          · cases h
        · cases h
      · rename_i id n hl
        split at h
        · split at h
          · split at h
            · rename_i hd; cases h; exact ih _ _ _ _ _ hno.2 (one (e2 _ hl id (by simp [refsAV])) rfl) hd
            · cases h
          · cases h
        · cases h
      · cases h
    case box n =>
      split at h
      · rename_i id hl
        split at h
        · split at h
          · exact ih _ _ _ _ _ hno.2 (one (e2 _ hl id (by simp [refsAV])) rfl) h
          · cases h
        · cases h
      · cases h
    case map k v =>
      split at h
      · rename_i id hl
        split at h
        · split at h
          · split at h
            · rename_i hd; cases h; exact ih _ _ _ _ _ hno.2 (one (e2 _ hl id (by simp [refsAV])) rfl) hd
            · cases h
          · cases h
        · cases h
      · cases h
    case own' j =>
      split at h
      · split at h
        · exact ih _ _ _ _ _ hno.2 hb h
        · cases h
      · cases h
    case ptr' j off =>
      split at h
      · split at h
        · exact ih _ _ _ _ _ hno.2 hb h
        · cases h
      · cases h
    case map' j =>
      split at h
      · split at h
        · exact ih _ _ _ _ _ hno.2 hb h
        · cases h
      · cases h
    case win' j =>
      split at h
      · split at h
        · split at h
          · rename_i hd; cases h; exact ih _ _ _ _ _ hno.2 hb hd
          · cases h
        · cases h
      · split at h
        · split at h
          · rename_i hd; cases h; exact ih _ _ _ _ _ hno.2 hb hd
          · cases h
        · cases h
      · cases h
    case sub' j =>
      split at h
      · split at h
        · split at h
          · rename_i hd; cases h; exact ih _ _ _ _ _ hno.2 hb hd
          · cases h
        · cases h
      · cases h
    case clo f ps =>
      split at h
      · split at h
        · exact ih _ _ _ _ _ hno.2 hb h
        · cases h
      · cases h
    case nil e =>
      cases hv : look tm H bs l with
      | none => rw [hv] at h; cases h
      | some v =>
        rw [hv] at h
        cases v <;> simp only at h <;> first | exact ih _ _ _ _ _ hno.2 hb h | cases h

theorem take_in {na : Nat} {its outs : Items} {rs : List RS} {f : denL (leaves its) → Option (denL (leaves outs))} (hno : noObj its = true) (hn : Nat.ble (nobj outs) 4 = true) : LocalIn (takeBack (mkCall na its outs rs f)) := by
  intro R args H H' fz fz' slot k hS0 hS hc ha
  have hn4 := Nat.le_of_ble_eq_true hn
  have hd : dec args H its fz [] = dec args H' its fz' [] := dec_in hS hc ha.heap its fz fz' [] hno (fun b hb => by cases hb) ha.len ha.wrF
  have hbs : ∀ x bs fr, dec args H its fz [] = some (x, bs, fr) → bsIn hS0 bs := fun x bs fr h => dec_bs_in hS hc its fz [] x bs fr hno (fun b hb => by cases hb) h
  unfold takeBack mkCall
  rw [hd] at hbs ⊢
  split
  · rfl
  · rename_i x bs fr hdec
    have hb := hbs x bs fr hdec
    split
    · rfl
    · split
      · rfl
      · rename_i y _
        have hf : ∀ (g : List Nat) s, slot ≤ s → s < slot + nobj outs → isFree H (setFrz g fz) s = isFree H' (setFrz g fz') s := fun g s h1 h2 => isFree_local ha h1 (by omega) g
        -- an object that is among the call's own
        have key : ∀ (e : Eff) (v : AV), e.heap = none → (∀ p ∈ e.objs, p.1 ∈ idsOf (nobj outs) bs slot) → takeK slot H fz k v e = takeK slot H' fz' k v e := by
          intro e v he ho
          unfold takeK
          rw [he]
          simp only
          have hfree : isFree (appH e H) (appF e fz) (slot + 3) = isFree (appH e H') (appF e fz') (slot + 3) := by
            rw [appH_none he, appH_none he, appF_none he, appF_none he]
            unfold isFree
            rw [setObjs_congr e.objs H H' (ha.slotH (slot + 3) (by omega) (by omega)), setFrz_agree ha.len (ha.slotF (slot + 3) (by omega) (by omega))]
          cases v with
          | win id off n =>
            cases off with
            | succ off => rfl
            | zero =>
              simp only
              cases hany : (e.objs.any fun p => Nat.beq p.1 id) with
              | false =>
                simp only [Bool.and_false]
                cases (appH e H)[id]? with
                | none => cases (appH e H')[id]? with
                  | none => rfl
                  | some o => cases o <;> rfl
                | some o => cases (appH e H')[id]? with
                  | none => cases o <;> rfl
                  | some o' => cases o <;> cases o' <;> rfl
              | true =>
                rw [List.any_eq_true] at hany
                obtain ⟨p, hp, hpi⟩ := hany
                have hpi := Nat.eq_of_beq_eq_true hpi
                subst hpi
                have hin := idsOf_mem _ _ _ _ (ho p hp)
                have h1 : H[p.1]? = H'[p.1]? := by
                  rcases hin with ⟨b, hbm, hbi⟩ | ⟨h1, h2⟩
                  · exact ha.heap _ (hb b hbm _ hbi)
                  · exact ha.slotH _ h1 (by omega)
                have h2 : fz.getD p.1 false = fz'.getD p.1 false := by
                  rcases hin with ⟨b, hbm, hbi⟩ | ⟨h1, h2⟩
                  · exact ha.wrF _ (hb b hbm _ hbi)
                  · exact ha.slotF _ h1 (by omega)
                have h3 : (appH e H)[p.1]? = (appH e H')[p.1]? := by
                  rw [appH_none he, appH_none he]
                  exact setObjs_congr e.objs H H' h1
                have h4 : unfrozen (appF e fz) p.1 = unfrozen (appF e fz') p.1 := by
                  rw [appF_none he, appF_none he]
                  unfold unfrozen
                  rw [setFrz_agree ha.len h2]
                rw [h3, h4, hfree]
          | _ => rfl
        unfold backTo
        rw [idsOK_in (fz := fz) (fz' := fz') (nobj outs) bs slot (hf []), idsOK_in (fz := setFrz fr fz) (fz' := setFrz fr fz') (nobj outs) bs slot (hf fr)]
        split
        · split
          · exact key { objs := _ } _ rfl fun p hp => (List.of_mem_zip hp).1
          · rfl
        · split
          · exact key { objs := _, frz := _ } _ rfl fun p hp => (List.of_mem_zip hp).1
          · rfl
end

/-- whose closure an argument is -/
def cloAt (i : Nat) (args : List AV) : Option FuncId :=
  match args[i]? with
  | some (.clo f _) => some f
  | _ => none

/-- a spec for calls with one closure -/
def Env.extC (E : Env) (g : FuncId) (i : Nat) (c : FuncId) (s : Spec) : Env where
  spec x := match Nat.beq x g with
    | true => fun R args H fz slot k => match cloAt i args with
      | some c' => match Nat.beq c' c with
        | true => s R args H fz slot k
        | false => E.spec x R args H fz slot k
      | .none => Option.none
    | false => E.spec x
  loc x := match Nat.beq x g with
    | true => false
    | false => E.loc x
  loc2 x := match Nat.beq x g with
    | true => E.loc2 g
    | false => E.loc2 x

theorem Env.extC_ok {P : Program} {E : Env} {g : FuncId} {i : Nat} {c : FuncId} {s : Spec} (h : EnvOK P E) (hs : SpecOK P g s) (hl2 : LocalIn s) : EnvOK P (E.extC g i c s) := by
  refine ⟨?_, ?_, ?_⟩
  · intro x
    simp only [Env.extC]
    cases hx : Nat.beq x g with
    | false => exact h.1 x
    | true =>
      have := Nat.eq_of_beq_eq_true hx
      subst this
      intro R args H fz slot k r hk
      simp only at hk
      split at hk
      · rename_i c' hc'
        split at hk
        · rename_i hb
          obtain ⟨v, e, h1, h2, h3, h4⟩ := hs R args H fz slot k r hk
          exact ⟨v, e, h1, fun R' k' => by simp only [hc', hb]; exact h2 R' k', h3, h4⟩
        · rename_i hb
          obtain ⟨v, e, h1, h2, h3, h4⟩ := h.1 x R args H fz slot k r hk
          exact ⟨v, e, h1, fun R' k' => by simp only [hc', hb]; exact h2 R' k', h3, h4⟩
      · cases hk
  · intro x hx
    simp only [Env.extC] at hx ⊢
    cases hb : Nat.beq x g with
    | true => rw [hb] at hx; cases hx
    | false => rw [hb] at hx; exact h.2.1 x hx
  · intro x hx
    simp only [Env.extC] at hx ⊢
    cases hb : Nat.beq x g with
    | true =>
      rw [hb] at hx
      have := Nat.eq_of_beq_eq_true hb
      subst this
      have h2 := h.2.2 x hx
      intro R args H H' fz fz' slot k S a1 a2 a3
      simp only
      split
      · split
        · exact hl2 R args H H' fz fz' slot k S a1 a2 a3
        · exact h2 R args H H' fz fz' slot k S a1 a2 a3
      · rfl
    | false => rw [hb] at hx; exact h.2.2 x hx
end Go.Pev
end
section
/- From a function's spec to the statement of a law: what is read as data is data of the evaluator. -/
namespace Go.Pev
open Go.RowKit Go.ChangeShapes Go.WideShapes Go.ChangeAt

def readFs (P : Program) (rd : TypeId → Option Ty) : List Field → Nat → Option Ty
  | [], _ => some .unit
  | f :: r, off => match rd f.type, readFs P rd r (off + P.cellsOf f.type) with
    | some a, some b => match Nat.beq f.offset off && Nat.beq (P.cellsOf f.type) a.size with
      | true => some (.prod a b)
      | false => none
    | _, _ => none

/-- a type of the program that is read as the evaluator's data; that the table's sizes fit -/
def readTy (P : Program) : Nat → TypeId → Option Ty
  | 0, _ => none
  | n + 1, t => match P.underlying t with
    | some .bool => some .bool
    | some (.int k) => some (.int k)
    | some (.slice e) => match readTy P n e with
      | some a => match Nat.beq (P.cellsOf e) a.size && !(Nat.beq a.size 0) with
        | true => some (.slice a)
        | false => none
      | none => none
    | some (.array c e) => match readTy P n e with
      | some a => match Nat.beq (P.cellsOf e) a.size && Nat.beq (P.cellsOf t) (c * a.size) with
        | true => some (.arr c a)
        | false => none
      | none => none
    | some (.struct fs) => match readFs P (readTy P n) fs.toList 0 with
      | some a => match Nat.beq (P.cellsOf t) a.size with
        | true => some a
        | false => none
      | none => none
    | _ => none

/-- numbers are of their kinds -/
def wfD : (t : Ty) → t.den → Prop
  | .unit, _ => True
  | .bool, _ => True
  | .int k, n => k.min ≤ n ∧ n ≤ k.max
  | .slice e, xs => List.length (α := e.den) xs ≤ maxLen ∧ ∀ x ∈ (xs : List e.den), wfD e x
  | .prod a b, d => wfD a d.1 ∧ wfD b d.2
  | .arr n e, xs => List.length (α := e.den) xs = n ∧ ∀ x ∈ (xs : List e.den), wfD e x

section
variable {H : Type} {enc : TypeId × Value → H} {P : Program} {w : World} {spare : Nat → Bool} {held : Bool}

abbrev below (w : World) : Nat → Prop := fun b => b < w.heap.size

theorem wf_int {k : IntKind} {n : Int} (h : (Lit.int k n).wf = true) : k.min ≤ n ∧ n ≤ k.max := by
  simpa [Lit.wf] using h

theorem rows_of {α : Type} {R : α → List Value → Prop} {k : Nat} : ∀ (m : Nat) (f : Nat → List Value), (∀ i, i < m → (f i).length = k ∧ ∃ x, R x (f i)) → ∃ xs : List α, xs.length = m ∧ rows R xs ((List.range m).flatMap f) ∧ ∀ x ∈ xs, ∃ i, i < m ∧ R x (f i) := by
  intro m
  induction m with
  | zero => intro f _; exact ⟨[], rfl, rfl, fun x hx => by cases hx⟩
  | succ m ih =>
    intro f h
    obtain ⟨xs, h1, h2, h3⟩ := ih f fun i hi => h i (by omega)
    obtain ⟨_, x, hx⟩ := h m (by omega)
    refine ⟨xs ++ [x], by simp [h1], ?_, fun y hy => ?_⟩
    · rw [List.range_succ, List.flatMap_append]
      exact rows_app h2 (by simp; exact ⟨f m, [], by simp, hx, rfl⟩)
    · rcases List.mem_append.1 hy with hy | hy
      · obtain ⟨i, hi, hr⟩ := h3 y hy; exact ⟨i, by omega, hr⟩
      · simp only [List.mem_singleton] at hy; subst hy; exact ⟨m, by omega, hx⟩

theorem flat_get {f : Nat → List Value} {k : Nat} : ∀ (m : Nat), (∀ i, i < m → (f i).length = k) → ∀ (j : Nat) (u : Value), ((List.range m).flatMap f)[j]? = some u → ∃ i r, i < m ∧ r < k ∧ j = i * k + r ∧ (f i)[r]? = some u := by
  intro m
  induction m with
  | zero => intro _ j u h; simp at h
  | succ m ih =>
    intro hl j u h
    rw [List.range_succ, List.flatMap_append] at h
    have hlen : ∀ m', m' ≤ m → ((List.range m').flatMap f).length = m' * k := by
      intro m' hm'
      induction m' with
      | zero => simp
      | succ m' ih' =>
        rw [List.range_succ, List.flatMap_append, List.length_append, ih' (by omega)]
        simp [hl m' (by omega), Nat.add_mul]
    rcases Nat.lt_or_ge j (m * k) with hj | hj
    · rw [List.getElem?_append_left (by rw [hlen m (Nat.le_refl _)]; exact hj)] at h
      obtain ⟨i, r, h1, h2, h3, h4⟩ := ih (fun i hi => hl i (by omega)) j u h
      exact ⟨i, r, by omega, h2, h3, h4⟩
    · rw [List.getElem?_append_right (by rw [hlen m (Nat.le_refl _)]; exact hj), hlen m (Nat.le_refl _)] at h
      simp only [List.flatMap_cons, List.flatMap_nil, List.append_nil] at h
      have hr : j - m * k < k := by
        have := lt_of_get' h
        rwa [hl m (by omega)] at this
      exact ⟨m, j - m * k, by omega, hr, by omega, h⟩

theorem addr_add (a : Addr) (i j : Nat) : (a.add i).add j = a.add (i + j) := by
  unfold Addr.add
  by_cases hi : i = 0
  · subst hi; simp
  · by_cases hj : j = 0
    · subst hj; simp
    · have : ¬ (i + j = 0) := by omega
      simp [hi, hj, Nat.add_assoc]

theorem choose_lt' {α : Type} [Inhabited α] {n : Nat} {p : Nat → α → Prop} (h : ∀ i, i < n → ∃ x, p i x) : ∃ f : Nat → α, ∀ i, i < n → p i (f i) := by
  classical
  refine ⟨fun i => if hi : i < n then Classical.choose (h i hi) else default, fun i hi => ?_⟩
  simp only [dif_pos hi]
  exact Classical.choose_spec (h i hi)

theorem readFs_dat {rd : TypeId → Option Ty} {cs : List Value} (hrd : ∀ (f : Field) (a : Ty), rd f.type = some a → (P.cellsOf f.type = a.size) → (∃ y : Nat × (DataW H × List MemPlace), DataW.trod enc P w 0 spare held y.1 f.type ((cs.drop f.offset).take (P.cellsOf f.type)) = some y.2) → ∃ d : a.den, Dat w (below w) a d ((cs.drop f.offset).take (P.cellsOf f.type)) ∧ wfD a d) :
    ∀ (fs : List Field) (off : Nat) (t : Ty), readFs P rd fs off = some t → off + t.size = cs.length → (∀ f ∈ fs, ∃ y : Nat × (DataW H × List MemPlace), DataW.trod enc P w 0 spare held y.1 f.type ((cs.drop f.offset).take (P.cellsOf f.type)) = some y.2) →
      ∃ d : t.den, Dat w (below w) t d (cs.drop off) ∧ wfD t d := by
  intro fs
  induction fs with
  | nil =>
    intro off t h hl _
    simp only [readFs, Option.some.injEq] at h
    subst h
    refine ⟨(), ?_, trivial⟩
    show cs.drop off = []
    simp [Ty.size] at hl
    exact List.drop_eq_nil_of_le (by omega)
  | cons f r ih =>
    intro off t h hl hf
    simp only [readFs] at h
    split at h
    · rename_i a b ha hb
      split at h
      · rename_i hc
        simp only [Option.some.injEq] at h
        subst h
        simp only [Bool.and_eq_true] at hc
        have h1 := Nat.eq_of_beq_eq_true hc.1
        have h2 := Nat.eq_of_beq_eq_true hc.2
        obtain ⟨d, hd, hw⟩ := hrd f a ha h2 (hf f (by simp))
        simp only [Ty.size] at hl
        obtain ⟨e, he, hw'⟩ := ih (off + P.cellsOf f.type) b hb (by omega) fun g hg => hf g (by simp [hg])
        refine ⟨(d, e), ⟨(cs.drop off).take (P.cellsOf f.type), cs.drop (off + P.cellsOf f.type), ?_, ?_, he⟩, hw, hw'⟩
        · rw [← List.drop_drop, List.take_append_drop]
        · rw [h1] at hd; exact hd
      · cases h
    · cases h

theorem trod_dat : ∀ (n : Nat) (t : TypeId) (ty : Ty) (fuel : Nat) (cs : List Value) (x : DataW H × List MemPlace), readTy P n t = some ty → DataW.trod enc P w 0 spare held fuel t cs = some x → ∃ d : ty.den, Dat w (below w) ty d cs ∧ wfD ty d := by
  intro n
  induction n with
  | zero => intro t ty fuel cs x h; cases h
  | succ n ih =>
    intro t ty fuel cs x h hx
    simp only [readTy] at h
    split at h
    · rename_i hu
      simp only [Option.some.injEq] at h; subst h
      obtain ⟨b, rfl, _⟩ := DataW.trod_bool hu hx
      exact ⟨b, rfl, trivial⟩
    · rename_i k hu
      simp only [Option.some.injEq] at h; subst h
      obtain ⟨m, rfl, _, hw⟩ := DataW.trod_int hu hx
      exact ⟨m, rfl, wf_int hw⟩
    · rename_i e hu
      split at h
      · rename_i a ha
        split at h
        · rename_i hc
          simp only [Option.some.injEq] at h; subst h
          rw [Bool.and_eq_true] at hc
          have hpos : a.size ≠ 0 := fun h0 => by rw [h0] at hc; simp at hc
          have hc := Nat.eq_of_beq_eq_true hc.1
          rcases DataW.trod_slice hu hx with ⟨rfl, _⟩ | ⟨ad, len, cap, elems, rest, m, rfl, rfl, _, _, hle, hmax, hlen, hel, _⟩
          · exact ⟨[], ⟨none, 0, rfl, Nat.le_refl _, fun hne => absurd rfl hne⟩, Nat.zero_le _, fun x hx => by cases hx⟩
          · -- each element
            have each : ∀ i, i < len → ∃ cs', w.cells? 0 (ad.add (i * P.cellsOf e)) (P.cellsOf e) = some cs' ∧ ∃ d : a.den, Dat w (below w) a d cs' ∧ wfD a d := by
              intro i hi
              have h1 := hel i hi
              rw [List.getElem?_eq_getElem (by omega), Option.bind_eq_some_iff] at h1
              obtain ⟨cs', h2, h3⟩ := h1
              exact ⟨cs', h2, ih e a m cs' _ ha h3⟩
            obtain ⟨f, hf⟩ := choose_lt' (α := List Value) (p := fun i cs' => w.cells? 0 (ad.add (i * P.cellsOf e)) (P.cellsOf e) = some cs' ∧ ∃ d : a.den, Dat w (below w) a d cs' ∧ wfD a d) each
            have hfl : ∀ i, i < len → (f i).length = a.size := by
              intro i hi
              obtain ⟨_, hl, _⟩ := World.cells?_some (hf i hi).1
              rw [hl, hc]
            obtain ⟨xs, h1, h2, h3⟩ := rows_of (R := fun (d : a.den) cs => Dat w (below w) a d cs ∧ wfD a d) (k := a.size) len f fun i hi => ⟨hfl i hi, (hf i hi).2⟩
            refine ⟨xs, ⟨some ad, cap, by rw [h1], by rw [h1]; exact hle, fun hne => ⟨ad, (List.range len).flatMap f, rfl, ?_, rows_mono (fun x _ cs hx => hx.1) h2, fun j u hu => ?_⟩⟩, by rw [h1]; exact Nat.le_trans hle hmax, fun x hx => ?_⟩
            · -- the block is there
              have hl0 : 0 < len := by
                rcases Nat.eq_zero_or_pos len with h0 | h0
                · exact absurd (List.eq_nil_of_length_eq_zero (by rw [h1, h0])) hne
                · exact h0
              have hb := World.cells?_block (hf 0 hl0).1 (by omega)
              rw [Nat.zero_mul] at hb
              have e0 : ad.add 0 = ad := by simp [Addr.add]
              rw [e0] at hb
              exact hb
            · obtain ⟨i, r, hi, hr, rfl, hur⟩ := flat_get len hfl j u hu
              obtain ⟨_, _, hcell⟩ := World.cells?_some (hf i hi).1
              have := hcell r (by rw [hc]; exact hr)
              rw [hur] at this
              rw [← this, hc, addr_add]
            · obtain ⟨i, _, hr⟩ := h3 x hx
              exact hr.2
        · cases h
      · cases h
    · rename_i c e hu
      split at h
      · rename_i a ha
        split at h
        · rename_i hc
          simp only [Option.some.injEq] at h; subst h
          rw [Bool.and_eq_true] at hc
          have hc1 := Nat.eq_of_beq_eq_true hc.1
          have hc2 := Nat.eq_of_beq_eq_true hc.2
          obtain ⟨xs, m, rfl, _, hl, hxs, hfs⟩ := DataW.trod_array hu hx
          rw [hc2] at hl
          obtain ⟨ys, h1, h2, h3⟩ := rows_of (R := fun (d : a.den) cs => Dat w (below w) a d cs ∧ wfD a d) (k := a.size) c (fun i => (cs.drop (i * a.size)).take a.size) fun i hi => by
            have hi1 : i * a.size + a.size ≤ c * a.size := by
              have := Nat.mul_le_mul_right a.size (show i + 1 ≤ c from hi)
              rwa [Nat.add_mul, Nat.one_mul] at this
            have h1 := hfs i hi
            rw [List.getElem?_eq_getElem (by omega), hc1] at h1
            exact ⟨by rw [List.length_take, List.length_drop, hl]; omega, ih e a m _ _ ha h1⟩
          have hjoin : ∀ k, k ≤ c → (List.range k).flatMap (fun i => (cs.drop (i * a.size)).take a.size) = cs.take (k * a.size) := by
            intro k
            induction k with
            | zero => intro _; simp
            | succ k ihk =>
              intro hk
              rw [List.range_succ, List.flatMap_append, ihk (by omega), Nat.add_mul, Nat.one_mul, List.take_add]
              simp
          rw [hjoin c (Nat.le_refl _), ← hl, List.take_length] at h2
          exact ⟨ys, ⟨h1, rows_mono (fun x _ cs hx => hx.1) h2⟩, h1, fun x hx => by obtain ⟨i, _, hr⟩ := h3 x hx; exact hr.2⟩
        · cases h
      · cases h
    · rename_i fs hu
      split at h
      · rename_i a ha
        split at h
        · rename_i hc
          simp only [Option.some.injEq] at h; subst h
          have hc := Nat.eq_of_beq_eq_true hc
          obtain ⟨xs, m, rfl, _, hl, hxs, hfs⟩ := DataW.trod_struct hu hx
          obtain ⟨d, hd, hw⟩ := readFs_dat (enc := enc) (w := w) (spare := spare) (held := held) (cs := cs) (fun f b hb _ ⟨y, hy⟩ => ih f.type b y.1 _ y.2 hb hy) fs.toList 0 _ ha (by rw [hl, hc]; omega) (fun f hf => by
            obtain ⟨i, hi⟩ := List.getElem?_of_mem hf
            have h1 := hfs i f (by simpa using hi)
            have hlt : i < xs.length := by rw [hxs]; simpa using lt_of_get' hi
            rw [List.getElem?_eq_getElem hlt] at h1
            exact ⟨(m, xs[i]), h1⟩)
          rw [List.drop_zero] at hd
          exact ⟨d, hd, hw⟩
        · cases h
      · cases h
    · cases h

/-- a value that is read as data -/
theorem okWide_one {r : Reach} {b0 : Nat} {t : TypeId} {v : Value} (hval : Value.okWide P w r b0 t v) (hn : ∀ d, P.underlying t = some d → (match d with | .bool | .int _ | .slice _ => true | _ => false) = true) {ty : Ty} {n : Nat} (h : readTy P (n + 1) t = some ty) : v.cells.toList = [v] := by
  simp only [Value.okWide] at hval
  have hu : ∃ d, P.underlying t = some d := by
    cases hu : P.underlying t with
    | none => simp only [readTy, hu] at h; cases h
    | some d => exact ⟨d, rfl⟩
  obtain ⟨d, hu⟩ := hu
  have := hn d hu
  rw [hu] at hval
  cases d <;> simp only [Bool.false_eq_true] at this <;> simp only [Cell.okWide, hu] at hval <;> cases v <;> first | rfl | (simp_all [Cell.ok])

theorem trod_rep {r : Reach} {b0 : Nat} {t : TypeId} {v : Value} {ps : List MemPlace} {dd : DataW H} (hval : Value.okWide P w r b0 t v) (hd : DataW.Trod enc P w 0 spare held t v dd ps) {ty : Ty} {n : Nat} (h : readTy P (n + 1) t = some ty) :
    ∃ d : ty.den, RepD w (below w) ty d v ∧ wfD ty d := by
  obtain ⟨fuel, hf⟩ := hd
  obtain ⟨d, h1, h2⟩ := trod_dat (n + 1) t ty fuel _ _ h hf
  refine ⟨d, ?_, h2⟩
  have one : (∀ d, P.underlying t = some d → (match d with | .bool | .int _ | .slice _ => true | _ => false) = true) → ty.isAgg = false → RepD w (below w) ty d v := by
    intro hn hg
    unfold RepD
    rw [hg]
    rw [okWide_one hval hn h] at h1
    exact h1
  have agg : (∃ cs, v = .agg cs) → ty.isAgg = true → RepD w (below w) ty d v := by
    rintro ⟨cs, rfl⟩ hg
    unfold RepD
    rw [hg]
    exact ⟨cs, rfl, h1⟩
  have hu : ∃ d, P.underlying t = some d := by
    cases hu : P.underlying t with
    | none => simp only [readTy, hu] at h; cases h
    | some d => exact ⟨d, rfl⟩
  obtain ⟨td, hu⟩ := hu
  simp only [readTy, hu] at h
  split at h
  · rename_i hq; cases hq; simp only [Option.some.injEq] at h; subst h
    exact one (fun d hd => by rw [hu] at hd; cases hd; rfl) rfl
  · rename_i k hq; cases hq; simp only [Option.some.injEq] at h; subst h
    exact one (fun d hd => by rw [hu] at hd; cases hd; rfl) rfl
  · rename_i e hq; cases hq
    split at h
    · split at h
      · simp only [Option.some.injEq] at h; subst h
        exact one (fun d hd => by rw [hu] at hd; cases hd; rfl) rfl
      · cases h
    · cases h
  · rename_i c e hq; cases hq
    have hv : ∃ cs, v = .agg cs := by
      simp only [Value.okWide, hu] at hval
      obtain ⟨cs, rfl, _⟩ := hval
      exact ⟨cs, rfl⟩
    split at h
    · split at h
      · simp only [Option.some.injEq] at h; subst h
        exact agg hv rfl
      · cases h
    · cases h
  · rename_i fs hq; cases hq
    have hv : ∃ cs, v = .agg cs := by
      simp only [Value.okWide, hu] at hval
      obtain ⟨cs, rfl, _⟩ := hval
      exact ⟨cs, rfl⟩
    split at h
    · rename_i a ha
      split at h
      · simp only [Option.some.injEq] at h; subst h
        refine agg hv ?_
        cases hfs : fs.toList with
        | nil => rw [hfs] at ha; simp only [readFs, Option.some.injEq] at ha; subst ha; rfl
        | cons f r =>
          rw [hfs] at ha
          simp only [readFs] at ha
          split at ha
          · split at ha
            · simp only [Option.some.injEq] at ha; subst ha; rfl
            · cases ha
          · cases ha
      · cases h
    · cases h
  · cases h

/-- a function's run, out of its spec: of a world of which nothing is known -/
theorem calls_of_spec {g : FuncId} {s : Spec} (hs : SpecOK P g s) {args : List AV} {b : Bool} {e : Eff} (hrun : s (AV × Eff) args [] [] 0 (fun v e => some (v, e)) = some (.data .bool b, e)) {vals : List Value}
    (hr : RepL w (below w) (fun _ => none) [] args vals) : Calls P g vals.toArray w fun en w' => en = .returned (.bool b) ∧ Below w.heap.size w w' := by
  obtain ⟨v, e', h1, _, _, h4⟩ := hs _ args [] [] 0 _ _ hrun
  simp only [Option.some.injEq, Prod.mk.injEq] at h1
  obtain ⟨rfl, rfl⟩ := h1
  have hi : HI w (below w) (fun _ => none) [] [] := ⟨fun id o h => by simp at h, fun i j b c b' c' h => by simp [owned] at h, fun i b c h => by simp [owned] at h, fun i T t xs b c h => by simp at h, fun b h => h, rfl⟩
  refine (h4 w _ _ vals hi hr).mono ?_
  rintro en w' ⟨u, rfl, F', m', ⟨hx, _⟩, hu⟩
  have hb : u = .bool b := rep_bool hu
  subst hb
  exact ⟨rfl, hx.os, hx.tape, hx.output, hx.size, fun i hi => hx.keep i hi fun j c ho _ => by simp [owned] at ho⟩
end

section
variable {H : Type} {enc : TypeId × Value → H} {P : Program}
theorem post_of_below {f : Func} {s : ChangeSpec} {apart fresh handsOn again : Bool} {W W' : World} {args : Array Value} {v : Value} {ds gs : List (DataW H)} {before pa pv : List MemPlace}
    (hW : DataW.Whole enc P f.params.toList s.vars apart W args.toList ds gs before)
    (hres : ∀ (b : Nat) (sp : Nat → Bool) (hd : Bool), DataW.TrodAll enc P W' b sp hd f.resultTypes.toList (v.resultList f.resultTypes.size) (s.fn H (ds ++ gs)).results [])
    (hargs : ∀ sp : Nat → Bool, (∀ p ∈ before, sp p.block = true) → DataW.TrodAll enc P W' 0 sp true f.params.toList args.toList (s.fn H (ds ++ gs)).args pa)
    (hvars : ∀ sp : Nat → Bool, (∀ p ∈ before, sp p.block = true) → DataW.TrodVars enc P W' sp s.vars (s.fn H (ds ++ gs)).vars pv)
    (hps : before = pa ++ pv) (hb : Below W.heap.size W W')
    (hok : ∀ (j : Nat) (t : TypeId) (r : Value), f.resultTypes[j]? = some t → (v.resultList f.resultTypes.size)[j]? = some r → Value.okWide P W' .any 0 t r) :
    s.post enc P f apart fresh handsOn again W args v W' := by
  have hlt : ∀ p ∈ before, p.block < W.heap.size := fun p hp => hW.lt p hp
  have hold : ∀ p ∈ before, (fun b => decide (b < W.heap.size)) p.block = true := fun p hp => by simpa using hlt p hp
  refine ⟨ds, gs, before, [], pa, pv, hW, hres _ _ _, hargs _ hold, hvars _ hold, World.keptBut_mono (fun p hp => ⟨hp, ?_⟩) (hb.frame (· ∈ before)), fun _ => ?_⟩
  · rw [hps, List.mem_append] at hp
    exact Or.inr hp
  · obtain ⟨_, _, _, _, _, hz, hn⟩ := hW
    refine ⟨hok, _, _, ([] ++ pa) ++ pv, ⟨[] ++ pa, pv, trodAll_append (hargs _ (fun _ _ => rfl)) (hres _ _ _), hvars _ (fun _ _ => rfl), rfl, ?_, ?_⟩, ?_⟩
    · intro b off hp
      have hin : MemPlace.cell b off ∈ before := by rw [hps]; simpa using hp
      rw [hb.frozen (hlt _ hin)]
      exact hz b off hin
    · intro ha
      have := hn ha
      rw [hps] at this
      simpa using this
    · intro p hp _
      rw [hps]
      simpa using hp

/-- an argument reads behind the call as it did -/
theorem trod_after {t : TypeId} (hl : laidOutB P = true) (hr : P.readableRec t = true) (hrow : t < P.types.size) {W W' : World} {v : Value} {d : DataW H} {ps : List MemPlace}
    (h : DataW.Trod enc P W 0 (fun _ => true) true t v d ps) (hb : Below W.heap.size W W') (hlt : ∀ x ∈ ps, x.block < W.heap.size) {sp : Nat → Bool} (hs : ∀ x ∈ ps, sp x.block = true) :
    DataW.Trod enc P W' 0 sp true t v d ps :=
  WideElems.Trod_stays hl hr hrow h (fun x hx => hb.same (hlt x hx)) hs
end
end Go.Pev
end
section
/- The law TourTokens of the models. -/
namespace Go.Pev.Pl
open Go.RowKit Tok
theorem alive18_true : alive18 () = some (true, ()) := by
  rw [alive18_ceq]
  kernel_rfl
theorem ieq_self (a : Int) : ieq a a = true := by rw [ieq_eq]; simp

theorem makeOut_len (n : Int) : (makeOut n).2.1.length < 4294967296 ∧ ∀ x ∈ (makeOut n).2.1, x.length < 4294967296 := by
  rw [makeOut]
  split
  · rename_i h
    have := h.2
    refine ⟨by simp only [singles_len]; omega, fun x hx => ?_⟩
    simp only [singles, List.mem_map] at hx
    obtain ⟨a, _, rfl⟩ := hx
    simp
  · exact ⟨by simp, by simp⟩

theorem arcT_range (n u v : Int) : -1 ≤ arcT n u v ∧ arcT n u v ≤ 4160 := by
  rw [arcT]
  split
  · rename_i h
    obtain ⟨⟨a1, a2, a3, a4⟩, ⟨b1, b2, b3, b4⟩, _⟩ := h
    have := mul_bounds (u := u + 1) a1 a2 (by omega) (by omega)
    omega
  · omega

theorem tourTokens_true (n u v : Int) (h0 : wfD (.int .i64) n) (h1 : wfD (.int .i64) u) (h2 : wfD (.int .i64) v) : tourTokens (n, u, v, ()) = some (true, ()) := by
  have hu : -9223372036854775808 ≤ u ∧ u ≤ 9223372036854775807 := h1
  have hr := arcT_range n u v
  rw [tourTokens_eq, tourTokens_d]
  obtain ⟨m1, m2⟩ := makeOut_len n
  simp only [alive18_true, Bool.not_true, ttoken_val n u hu, token18_val n u hu, tmake_val, make18_val]
  rcases hM : makeOut n with ⟨y9, y10, y11, yu⟩
  rcases hK : tokR (tokOf n u) with ⟨y1, y2, y3, y4, yv⟩
  rw [hM] at m1 m2
  simp only [ieq_self, Bool.not_true, BEq.rfl, tvertex_val, vertex18_val, tarc_val, arc18_val, same18_val _ _ _ _ m1 m2, and_self, decide_true]
  rcases arcT_cases n u v with ⟨ha, hb, hc⟩ | ⟨ha, hb⟩
  · have hn : 0 ≤ n := by have := ha.1.1; omega
    rw [ile_eq, decide_eq_true (show (0 : Int) ≤ arcT n u v by omega)]
    simp only []
    rw [ttoken_val n _ (by omega), hb, tokOf_enc ha]
    simp only [tokR, ieq_self]
  · rw [ile_eq, decide_eq_false (show ¬ (0 : Int) ≤ arcT n u v by omega)]
    simp only []
    cases hT : tokOf n u with
    | none =>
      rw [hT] at hK
      cases hK
      rfl
    | some t =>
      obtain ⟨g1, g2⟩ := enc_tokOf hT
      rw [hT] at hK
      cases t with
      | ver w =>
        cases hK
        have hv : ∀ x, okT n (.ver x) → vertex n x = x := fun x h => by rw [vertex]; exact if_pos h
        simp only [encT] at g2
        subst g2
        simp only [Bool.not_true, Bool.not_false, hv _ g1, ieq_self]
      | arc p q =>
        cases hK
        have := arcT_enc g1
        simp only [Bool.not_true, this, g2, ieq_self]
end Go.Pev.Pl
end
section
/- The models are what the program computes. Printed by a program. -/
namespace Go.Pev
open Go.Proofs
set_option maxRecDepth 100000
noncomputable section
-- archipelago/archipelagoref18.in
abbrev in18_h : Hints := {  }
theorem in18_okd : ∀ v, in18_d v = pevCall Try.prog Env.none in18_h Try.f70 in18_i in18_o in18_r v := by
  rintro ⟨a0, a1, ⟨⟩⟩
  kernel_rfl
theorem in18_q : loopList (bodyOf Try.f70) 0 = [] := by kernel_rfl
theorem in18_b : Try.f70.body.isSome = true := by kernel_rfl
theorem in18_n : (Try.f70.name == "runtime.NumGoroutine") = false := by kernel_rfl
theorem in18_ok (v : denL (leaves in18_i)) : in18 v = pevCall Try.prog Env.none in18_h Try.f70 in18_i in18_o in18_r v := (in18_eq v).trans (in18_okd v)
theorem in18_spec : SpecOK Try.prog 70 (mkCall 2 in18_i in18_o in18_r in18) := call_spec Env.none_ok Try.func70 in18_b in18_n rfl in18_ok (LoopsOK_of in18_q trivial)
def E_in18 : Env := Env.none.ext 70 true true (mkCall 2 in18_i in18_o in18_r in18)
theorem E_in18_ok : EnvOK Try.prog E_in18 := Env.ext_ok Env.none_ok in18_spec (fun _ => mkCall_local rfl rfl) (fun _ => mkCall_in rfl rfl)

-- archipelago/archipelagoref18.Token
abbrev token18_h : Hints := { fp := fun n => match n with | 5 => [[], [], [], [], [], [], [], [], [], [], [], []] | _ => [] }
theorem token18_okd : ∀ v, token18_d v = pevCall Try.prog E_in18 token18_h Try.f43 token18_i token18_o token18_r v := by
  rintro ⟨a0, a1, ⟨⟩⟩
  kernel_rfl
theorem token18_q : loopList (bodyOf Try.f43) 0 = [] := by kernel_rfl
theorem token18_b : Try.f43.body.isSome = true := by kernel_rfl
theorem token18_n : (Try.f43.name == "runtime.NumGoroutine") = false := by kernel_rfl
theorem token18_ok (v : denL (leaves token18_i)) : token18 v = pevCall Try.prog E_in18 token18_h Try.f43 token18_i token18_o token18_r v := (token18_eq v).trans (token18_okd v)
theorem token18_spec : SpecOK Try.prog 43 (mkCall 2 token18_i token18_o token18_r token18) := call_spec E_in18_ok Try.func43 token18_b token18_n rfl token18_ok (LoopsOK_of token18_q trivial)
def E_token18 : Env := E_in18.ext 43 true true (mkCall 2 token18_i token18_o token18_r token18)
theorem E_token18_ok : EnvOK Try.prog E_token18 := Env.ext_ok E_in18_ok token18_spec (fun _ => mkCall_local rfl rfl) (fun _ => mkCall_in rfl rfl)

-- archipelago/archipelagoref18.Vertex
abbrev vertex18_h : Hints := {  }
theorem vertex18_okd : ∀ v, vertex18_d v = pevCall Try.prog E_token18 vertex18_h Try.f47 vertex18_i vertex18_o vertex18_r v := by
  rintro ⟨a0, a1, ⟨⟩⟩
  kernel_rfl
theorem vertex18_q : loopList (bodyOf Try.f47) 0 = [] := by kernel_rfl
theorem vertex18_b : Try.f47.body.isSome = true := by kernel_rfl
theorem vertex18_n : (Try.f47.name == "runtime.NumGoroutine") = false := by kernel_rfl
theorem vertex18_ok (v : denL (leaves vertex18_i)) : vertex18 v = pevCall Try.prog E_token18 vertex18_h Try.f47 vertex18_i vertex18_o vertex18_r v := (vertex18_eq v).trans (vertex18_okd v)
theorem vertex18_spec : SpecOK Try.prog 47 (mkCall 2 vertex18_i vertex18_o vertex18_r vertex18) := call_spec E_token18_ok Try.func47 vertex18_b vertex18_n rfl vertex18_ok (LoopsOK_of vertex18_q trivial)
def E_vertex18 : Env := E_token18.ext 47 true true (mkCall 2 vertex18_i vertex18_o vertex18_r vertex18)
theorem E_vertex18_ok : EnvOK Try.prog E_vertex18 := Env.ext_ok E_token18_ok vertex18_spec (fun _ => mkCall_local rfl rfl) (fun _ => mkCall_in rfl rfl)

-- archipelago/archipelagoref18.Arc
abbrev arc18_h : Hints := {  }
theorem arc18_okd : ∀ v, arc18_d v = pevCall Try.prog E_vertex18 arc18_h Try.f49 arc18_i arc18_o arc18_r v := by
  rintro ⟨a0, a1, a2, ⟨⟩⟩
  kernel_rfl
theorem arc18_q : loopList (bodyOf Try.f49) 0 = [] := by kernel_rfl
theorem arc18_b : Try.f49.body.isSome = true := by kernel_rfl
theorem arc18_n : (Try.f49.name == "runtime.NumGoroutine") = false := by kernel_rfl
theorem arc18_ok (v : denL (leaves arc18_i)) : arc18 v = pevCall Try.prog E_vertex18 arc18_h Try.f49 arc18_i arc18_o arc18_r v := (arc18_eq v).trans (arc18_okd v)
theorem arc18_spec : SpecOK Try.prog 49 (mkCall 3 arc18_i arc18_o arc18_r arc18) := call_spec E_vertex18_ok Try.func49 arc18_b arc18_n rfl arc18_ok (LoopsOK_of arc18_q trivial)
def E_arc18 : Env := E_vertex18.ext 49 true true (mkCall 3 arc18_i arc18_o arc18_r arc18)
theorem E_arc18_ok : EnvOK Try.prog E_arc18 := Env.ext_ok E_vertex18_ok arc18_spec (fun _ => mkCall_local rfl rfl) (fun _ => mkCall_in rfl rfl)

-- archipelago/archipelagoref18.Make
abbrev make18_h : Hints := { loop := fun n => match n with | 0 => loopBy 0 28 make18_i0 make18_o0 make18_s0 | _ => fun _ _ _ => none }
theorem make18_s0_ok : ∀ v, make18_s0 v = roundOf Try.prog E_arc18 make18_h 1 0 28 (loopOf Try.f45 0) make18_i0 make18_o0 v := by
  rintro ⟨a0, a1, a2, a3, a4, ⟨⟩⟩
  kernel_rfl
theorem make18_q0 : loopList (loopOf Try.f45 0) 1 = [] := by kernel_rfl
theorem make18_l0 : CodeOK Try.prog 0 (.loop (loopOf Try.f45 0)) (make18_h.loop 0) := loop_ok E_arc18_ok (make18_s0_ok) (LoopsOK_of make18_q0 trivial)
theorem make18_okd : ∀ v, make18_d v = pevCall Try.prog E_arc18 make18_h Try.f45 make18_i make18_o make18_r v := by
  rintro ⟨a0, ⟨⟩⟩
  kernel_rfl
theorem make18_q : loopList (bodyOf Try.f45) 0 = [(0, loopOf Try.f45 0)] := by kernel_rfl
theorem make18_b : Try.f45.body.isSome = true := by kernel_rfl
theorem make18_n : (Try.f45.name == "runtime.NumGoroutine") = false := by kernel_rfl
theorem make18_ok (v : denL (leaves make18_i)) : make18 v = pevCall Try.prog E_arc18 make18_h Try.f45 make18_i make18_o make18_r v := (make18_eq v).trans (make18_okd v)
theorem make18_spec : SpecOK Try.prog 45 (mkCall 1 make18_i make18_o make18_r make18) := call_spec E_arc18_ok Try.func45 make18_b make18_n rfl make18_ok (LoopsOK_of make18_q ⟨make18_l0, trivial⟩)
def E_make18 : Env := E_arc18.ext 45 true true (mkCall 1 make18_i make18_o make18_r make18)
theorem E_make18_ok : EnvOK Try.prog E_make18 := Env.ext_ok E_arc18_ok make18_spec (fun _ => mkCall_local rfl rfl) (fun _ => mkCall_in rfl rfl)

-- archipelago/archipelagoref18.Great
abbrev great18_h : Hints := { loop := fun n => match n with | 0 => loopBy 0 33 great18_i0 great18_o0 great18_s0 | _ => fun _ _ _ => none }
theorem great18_s0_ok : ∀ v, great18_s0 v = roundOf Try.prog E_make18 great18_h 1 0 33 (loopOf Try.f32 0) great18_i0 great18_o0 v := by
  rintro ⟨a0, a1, a2, a3, a4, ⟨⟩⟩
  kernel_rfl
theorem great18_q0 : loopList (loopOf Try.f32 0) 1 = [] := by kernel_rfl
theorem great18_l0 : CodeOK Try.prog 0 (.loop (loopOf Try.f32 0)) (great18_h.loop 0) := loop_ok E_make18_ok (great18_s0_ok) (LoopsOK_of great18_q0 trivial)
theorem great18_okd : ∀ v, great18_d v = pevCall Try.prog E_make18 great18_h Try.f32 great18_i great18_o great18_r v := by
  rintro ⟨a0, a1, ⟨⟩⟩
  kernel_rfl
theorem great18_q : loopList (bodyOf Try.f32) 0 = [(0, loopOf Try.f32 0)] := by kernel_rfl
theorem great18_b : Try.f32.body.isSome = true := by kernel_rfl
theorem great18_n : (Try.f32.name == "runtime.NumGoroutine") = false := by kernel_rfl
theorem great18_ok (v : denL (leaves great18_i)) : great18 v = pevCall Try.prog E_make18 great18_h Try.f32 great18_i great18_o great18_r v := (great18_eq v).trans (great18_okd v)
theorem great18_spec : SpecOK Try.prog 32 (mkCall 2 great18_i great18_o great18_r great18) := call_spec E_make18_ok Try.func32 great18_b great18_n rfl great18_ok (LoopsOK_of great18_q ⟨great18_l0, trivial⟩)
def E_great18 : Env := E_make18.ext 32 true true (mkCall 2 great18_i great18_o great18_r great18)
theorem E_great18_ok : EnvOK Try.prog E_great18 := Env.ext_ok E_make18_ok great18_spec (fun _ => mkCall_local rfl rfl) (fun _ => mkCall_in rfl rfl)

-- archipelago/archipelagoref18.stands
abbrev stands18_h : Hints := {  }
theorem stands18_okd : ∀ v, stands18_d v = pevCall Try.prog E_great18 stands18_h Try.f105 stands18_i stands18_o stands18_r v := by
  rintro ⟨a0, a1, a2, ⟨⟩⟩
  kernel_rfl
theorem stands18_q : loopList (bodyOf Try.f105) 0 = [] := by kernel_rfl
theorem stands18_b : Try.f105.body.isSome = true := by kernel_rfl
theorem stands18_n : (Try.f105.name == "runtime.NumGoroutine") = false := by kernel_rfl
theorem stands18_ok (v : denL (leaves stands18_i)) : stands18 v = pevCall Try.prog E_great18 stands18_h Try.f105 stands18_i stands18_o stands18_r v := (stands18_eq v).trans (stands18_okd v)
theorem stands18_spec : SpecOK Try.prog 105 (mkCall 3 stands18_i stands18_o stands18_r stands18) := call_spec E_great18_ok Try.func105 stands18_b stands18_n rfl stands18_ok (LoopsOK_of stands18_q trivial)
def E_stands18 : Env := E_great18.ext 105 true true (mkCall 3 stands18_i stands18_o stands18_r stands18)
theorem E_stands18_ok : EnvOK Try.prog E_stands18 := Env.ext_ok E_great18_ok stands18_spec (fun _ => mkCall_local rfl rfl) (fun _ => mkCall_in rfl rfl)

-- archipelago/archipelagoref18.tree
abbrev tree18_h : Hints := { loop := fun n => match n with | 0 => loopBy 0 129 tree18_i0 tree18_o0 tree18_s0 | 1 => loopBy 0 129 tree18_i1 tree18_o1 tree18_s1 | 2 => loopBy 0 129 tree18_i2 tree18_o2 tree18_s2 | _ => fun _ _ _ => none, fp := fun n => match n with | 7 => [[], [], [0], [0], [], [], [], [], [0], [], [0], [0], [], [], [], [], [0], [], [0], [0], [], [], []] | _ => [] }
theorem tree18_s2_ok : ∀ v, tree18_s2 v = roundOf Try.prog E_stands18 tree18_h 3 0 129 (loopOf Try.f82 2) tree18_i2 tree18_o2 v := by
  rintro ⟨a0, a1, a2, a3, a4, a5, a6, a7, a8, a9, a10, a11, a12, a13, a14, a15, a16, a17, a18, a19, a20, a21, a22, a23, a24, a25, a26, a27, ⟨⟩⟩
  kernel_rfl
theorem tree18_q2 : loopList (loopOf Try.f82 2) 3 = [] := by kernel_rfl
theorem tree18_l2 : CodeOK Try.prog 0 (.loop (loopOf Try.f82 2)) (tree18_h.loop 2) := loop_ok E_stands18_ok (tree18_s2_ok) (LoopsOK_of tree18_q2 trivial)
theorem tree18_s1_ok : ∀ v, tree18_s1 v = roundOf Try.prog E_stands18 tree18_h 2 0 129 (loopOf Try.f82 1) tree18_i1 tree18_o1 v := by
  rintro ⟨a0, a1, a2, a3, ⟨⟩⟩
  kernel_rfl
theorem tree18_q1 : loopList (loopOf Try.f82 1) 2 = [(2, loopOf Try.f82 2)] := by kernel_rfl
theorem tree18_l1 : CodeOK Try.prog 0 (.loop (loopOf Try.f82 1)) (tree18_h.loop 1) := loop_ok E_stands18_ok (tree18_s1_ok) (LoopsOK_of tree18_q1 ⟨tree18_l2, trivial⟩)
theorem tree18_s0_ok : ∀ v, tree18_s0 v = roundOf Try.prog E_stands18 tree18_h 1 0 129 (loopOf Try.f82 0) tree18_i0 tree18_o0 v := by
  rintro ⟨a0, a1, ⟨⟩⟩
  kernel_rfl
theorem tree18_q0 : loopList (loopOf Try.f82 0) 1 = [(1, loopOf Try.f82 1)] := by kernel_rfl
theorem tree18_l0 : CodeOK Try.prog 0 (.loop (loopOf Try.f82 0)) (tree18_h.loop 0) := loop_ok E_stands18_ok (tree18_s0_ok) (LoopsOK_of tree18_q0 ⟨tree18_l1, trivial⟩)
theorem tree18_okd : ∀ v, tree18_d v = pevCall Try.prog E_stands18 tree18_h Try.f82 tree18_i tree18_o tree18_r v := by
  rintro ⟨a0, a1, ⟨⟩⟩
  kernel_rfl
theorem tree18_q : loopList (bodyOf Try.f82) 0 = [(0, loopOf Try.f82 0)] := by kernel_rfl
theorem tree18_b : Try.f82.body.isSome = true := by kernel_rfl
theorem tree18_n : (Try.f82.name == "runtime.NumGoroutine") = false := by kernel_rfl
theorem tree18_ok (v : denL (leaves tree18_i)) : tree18 v = pevCall Try.prog E_stands18 tree18_h Try.f82 tree18_i tree18_o tree18_r v := (tree18_eq v).trans (tree18_okd v)
theorem tree18_spec : SpecOK Try.prog 82 (mkCall 2 tree18_i tree18_o tree18_r tree18) := call_spec E_stands18_ok Try.func82 tree18_b tree18_n rfl tree18_ok (LoopsOK_of tree18_q ⟨tree18_l0, trivial⟩)
def E_tree18 : Env := E_stands18.ext 82 true true (mkCall 2 tree18_i tree18_o tree18_r tree18)
theorem E_tree18_ok : EnvOK Try.prog E_tree18 := Env.ext_ok E_stands18_ok tree18_spec (fun _ => mkCall_local rfl rfl) (fun _ => mkCall_in rfl rfl)

-- archipelago/archipelagoref13.Place
abbrev place13_h : Hints := { loop := fun n => match n with | 0 => loopBy 0 19 place13_i0 place13_o0 place13_s0 | _ => fun _ _ _ => none }
theorem place13_s0_ok : ∀ v, place13_s0 v = roundOf Try.prog E_tree18 place13_h 1 0 19 (loopOf Try.f50 0) place13_i0 place13_o0 v := by
  rintro ⟨a0, a1, a2, ⟨⟩⟩
  kernel_rfl
theorem place13_q0 : loopList (loopOf Try.f50 0) 1 = [] := by kernel_rfl
theorem place13_l0 : CodeOK Try.prog 0 (.loop (loopOf Try.f50 0)) (place13_h.loop 0) := loop_ok E_tree18_ok (place13_s0_ok) (LoopsOK_of place13_q0 trivial)
theorem place13_okd : ∀ v, place13_d v = pevCall Try.prog E_tree18 place13_h Try.f50 place13_i place13_o place13_r v := by
  rintro ⟨a0, a1, ⟨⟩⟩
  kernel_rfl
theorem place13_q : loopList (bodyOf Try.f50) 0 = [(0, loopOf Try.f50 0)] := by kernel_rfl
theorem place13_b : Try.f50.body.isSome = true := by kernel_rfl
theorem place13_n : (Try.f50.name == "runtime.NumGoroutine") = false := by kernel_rfl
theorem place13_ok (v : denL (leaves place13_i)) : place13 v = pevCall Try.prog E_tree18 place13_h Try.f50 place13_i place13_o place13_r v := (place13_eq v).trans (place13_okd v)
theorem place13_spec : SpecOK Try.prog 50 (mkCall 2 place13_i place13_o place13_r place13) := call_spec E_tree18_ok Try.func50 place13_b place13_n rfl place13_ok (LoopsOK_of place13_q ⟨place13_l0, trivial⟩)
def E_place13 : Env := E_tree18.ext 50 true true (mkCall 2 place13_i place13_o place13_r place13)
theorem E_place13_ok : EnvOK Try.prog E_place13 := Env.ext_ok E_tree18_ok place13_spec (fun _ => mkCall_local rfl rfl) (fun _ => mkCall_in rfl rfl)

-- archipelago/archipelagoref13.Right
abbrev right13_h : Hints := { loop := fun n => match n with | 0 => loopBy 0 36 right13_i0 right13_o0 right13_s0 | _ => fun _ _ _ => none, fp := fun n => match n with | 6 => [[], [], [], [], [], [], [], [], [], [], [], [], [], [], [], [], [], [], [], [], [], [], []] | _ => [] }
theorem right13_s0_ok : ∀ v, right13_s0 v = roundOf Try.prog E_place13 right13_h 1 0 36 (loopOf Try.f81 0) right13_i0 right13_o0 v := by
  rintro ⟨a0, a1, ⟨⟩⟩
  kernel_rfl
theorem right13_q0 : loopList (loopOf Try.f81 0) 1 = [] := by kernel_rfl
theorem right13_l0 : CodeOK Try.prog 0 (.loop (loopOf Try.f81 0)) (right13_h.loop 0) := loop_ok E_place13_ok (right13_s0_ok) (LoopsOK_of right13_q0 trivial)
theorem right13_okd : ∀ v, right13_d v = pevCall Try.prog E_place13 right13_h Try.f81 right13_i right13_o right13_r v := by
  rintro ⟨a0, ⟨⟩⟩
  kernel_rfl
theorem right13_q : loopList (bodyOf Try.f81) 0 = [(0, loopOf Try.f81 0)] := by kernel_rfl
theorem right13_b : Try.f81.body.isSome = true := by kernel_rfl
theorem right13_n : (Try.f81.name == "runtime.NumGoroutine") = false := by kernel_rfl
theorem right13_ok (v : denL (leaves right13_i)) : right13 v = pevCall Try.prog E_place13 right13_h Try.f81 right13_i right13_o right13_r v := (right13_eq v).trans (right13_okd v)
theorem right13_spec : SpecOK Try.prog 81 (mkCall 1 right13_i right13_o right13_r right13) := call_spec E_place13_ok Try.func81 right13_b right13_n rfl right13_ok (LoopsOK_of right13_q ⟨right13_l0, trivial⟩)
def E_right13 : Env := E_place13.ext 81 true true (mkCall 1 right13_i right13_o right13_r right13)
theorem E_right13_ok : EnvOK Try.prog E_right13 := Env.ext_ok E_place13_ok right13_spec (fun _ => mkCall_local rfl rfl) (fun _ => mkCall_in rfl rfl)

-- archipelago/archipelagoref13.From
abbrev from13_h : Hints := { fp := fun n => match n with | 4 => [[], [], [], [], [17], [], [], [], [19], [], []] | _ => [] }
theorem from13_okd : ∀ v, from13_d v = pevCall Try.prog E_right13 from13_h Try.f72 from13_i from13_o from13_r v := by
  rintro ⟨a0, a1, ⟨⟩⟩
  kernel_rfl
theorem from13_q : loopList (bodyOf Try.f72) 0 = [] := by kernel_rfl
theorem from13_b : Try.f72.body.isSome = true := by kernel_rfl
theorem from13_n : (Try.f72.name == "runtime.NumGoroutine") = false := by kernel_rfl
theorem from13_ok (v : denL (leaves from13_i)) : from13 v = pevCall Try.prog E_right13 from13_h Try.f72 from13_i from13_o from13_r v := (from13_eq v).trans (from13_okd v)
theorem from13_spec : SpecOK Try.prog 72 (mkCall 2 from13_i from13_o from13_r from13) := call_spec E_right13_ok Try.func72 from13_b from13_n rfl from13_ok (LoopsOK_of from13_q trivial)
def E_from13 : Env := E_right13.ext 72 true true (mkCall 2 from13_i from13_o from13_r from13)
theorem E_from13_ok : EnvOK Try.prog E_from13 := Env.ext_ok E_right13_ok from13_spec (fun _ => mkCall_local rfl rfl) (fun _ => mkCall_in rfl rfl)

-- archipelago/archipelagoref13.Plain
abbrev plain13_h : Hints := { loop := fun n => match n with | 0 => loopBy 0 37 plain13_i0 plain13_o0 plain13_s0 | _ => fun _ _ _ => none }
theorem plain13_s0_ok : ∀ v, plain13_s0 v = roundOf Try.prog E_from13 plain13_h 1 0 37 (loopOf Try.f83 0) plain13_i0 plain13_o0 v := by
  rintro ⟨a0, a1, a2, ⟨⟩⟩
  kernel_rfl
theorem plain13_q0 : loopList (loopOf Try.f83 0) 1 = [] := by kernel_rfl
theorem plain13_l0 : CodeOK Try.prog 0 (.loop (loopOf Try.f83 0)) (plain13_h.loop 0) := loop_ok E_from13_ok (plain13_s0_ok) (LoopsOK_of plain13_q0 trivial)
theorem plain13_okd : ∀ v, plain13_d v = pevCall Try.prog E_from13 plain13_h Try.f83 plain13_i plain13_o plain13_r v := by
  rintro ⟨a0, ⟨⟩⟩
  kernel_rfl
theorem plain13_q : loopList (bodyOf Try.f83) 0 = [(0, loopOf Try.f83 0)] := by kernel_rfl
theorem plain13_b : Try.f83.body.isSome = true := by kernel_rfl
theorem plain13_n : (Try.f83.name == "runtime.NumGoroutine") = false := by kernel_rfl
theorem plain13_ok (v : denL (leaves plain13_i)) : plain13 v = pevCall Try.prog E_from13 plain13_h Try.f83 plain13_i plain13_o plain13_r v := (plain13_eq v).trans (plain13_okd v)
theorem plain13_spec : SpecOK Try.prog 83 (mkCall 1 plain13_i plain13_o plain13_r plain13) := call_spec E_from13_ok Try.func83 plain13_b plain13_n rfl plain13_ok (LoopsOK_of plain13_q ⟨plain13_l0, trivial⟩)
def E_plain13 : Env := E_from13.ext 83 true true (mkCall 1 plain13_i plain13_o plain13_r plain13)
theorem E_plain13_ok : EnvOK Try.prog E_plain13 := Env.ext_ok E_from13_ok plain13_spec (fun _ => mkCall_local rfl rfl) (fun _ => mkCall_in rfl rfl)

end
end Go.Pev
end
section
/- The models are what the program computes. Printed by a program. -/
namespace Go.Pev
open Go.Proofs
set_option maxRecDepth 100000
noncomputable section
-- archipelago/archipelagoref01.Ints
abbrev ints01_h : Hints := { loop := fun n => match n with | 0 => loopBy 0 26 ints01_i0 ints01_o0 ints01_s0 | _ => fun _ _ _ => none, fp := fun n => match n with | 6 => [[], [], [], [], [], [], [], [], []] | _ => [] }
theorem ints01_s0_ok : ∀ v, ints01_s0 v = roundOf Try.prog E_plain13 ints01_h 1 0 26 (loopOf Try.f64 0) ints01_i0 ints01_o0 v := by
  rintro ⟨a0, a1, a2, ⟨⟩⟩
  kernel_rfl
theorem ints01_q0 : loopList (loopOf Try.f64 0) 1 = [] := by kernel_rfl
theorem ints01_l0 : CodeOK Try.prog 0 (.loop (loopOf Try.f64 0)) (ints01_h.loop 0) := loop_ok E_plain13_ok (ints01_s0_ok) (LoopsOK_of ints01_q0 trivial)
theorem ints01_okd : ∀ v, ints01_d v = pevCall Try.prog E_plain13 ints01_h Try.f64 ints01_i ints01_o ints01_r v := by
  rintro ⟨a0, a1, ⟨⟩⟩
  kernel_rfl
theorem ints01_q : loopList (bodyOf Try.f64) 0 = [(0, loopOf Try.f64 0)] := by kernel_rfl
theorem ints01_b : Try.f64.body.isSome = true := by kernel_rfl
theorem ints01_n : (Try.f64.name == "runtime.NumGoroutine") = false := by kernel_rfl
theorem ints01_ok (v : denL (leaves ints01_i)) : ints01 v = pevCall Try.prog E_plain13 ints01_h Try.f64 ints01_i ints01_o ints01_r v := (ints01_eq v).trans (ints01_okd v)
theorem ints01_spec : SpecOK Try.prog 64 (mkCall 2 ints01_i ints01_o ints01_r ints01) := call_spec E_plain13_ok Try.func64 ints01_b ints01_n rfl ints01_ok (LoopsOK_of ints01_q ⟨ints01_l0, trivial⟩)
def E_ints01 : Env := E_plain13.ext 64 true true (mkCall 2 ints01_i ints01_o ints01_r ints01)
theorem E_ints01_ok : EnvOK Try.prog E_ints01 := Env.ext_ok E_plain13_ok ints01_spec (fun _ => mkCall_local rfl rfl) (fun _ => mkCall_in rfl rfl)

-- archipelago/archipelagoref14.Lists
abbrev lists14_h : Hints := { loop := fun n => match n with | 0 => loopBy 0 27 lists14_i0 lists14_o0 lists14_s0 | _ => fun _ _ _ => none, fp := fun n => match n with | 6 => [[], [], [], [], [], [], [], [], [], []] | _ => [] }
theorem lists14_s0_ok : ∀ v, lists14_s0 v = roundOf Try.prog E_ints01 lists14_h 1 0 27 (loopOf Try.f76 0) lists14_i0 lists14_o0 v := by
  rintro ⟨a0, a1, a2, ⟨⟩⟩
  kernel_rfl
theorem lists14_q0 : loopList (loopOf Try.f76 0) 1 = [] := by kernel_rfl
theorem lists14_l0 : CodeOK Try.prog 0 (.loop (loopOf Try.f76 0)) (lists14_h.loop 0) := loop_ok E_ints01_ok (lists14_s0_ok) (LoopsOK_of lists14_q0 trivial)
theorem lists14_okd : ∀ v, lists14_d v = pevCall Try.prog E_ints01 lists14_h Try.f76 lists14_i lists14_o lists14_r v := by
  rintro ⟨a0, a1, ⟨⟩⟩
  kernel_rfl
theorem lists14_q : loopList (bodyOf Try.f76) 0 = [(0, loopOf Try.f76 0)] := by kernel_rfl
theorem lists14_b : Try.f76.body.isSome = true := by kernel_rfl
theorem lists14_n : (Try.f76.name == "runtime.NumGoroutine") = false := by kernel_rfl
theorem lists14_ok (v : denL (leaves lists14_i)) : lists14 v = pevCall Try.prog E_ints01 lists14_h Try.f76 lists14_i lists14_o lists14_r v := (lists14_eq v).trans (lists14_okd v)
theorem lists14_spec : SpecOK Try.prog 76 (mkCall 2 lists14_i lists14_o lists14_r lists14) := call_spec E_ints01_ok Try.func76 lists14_b lists14_n rfl lists14_ok (LoopsOK_of lists14_q ⟨lists14_l0, trivial⟩)
def E_lists14 : Env := E_ints01.ext 76 true true (mkCall 2 lists14_i lists14_o lists14_r lists14)
theorem E_lists14_ok : EnvOK Try.prog E_lists14 := Env.ext_ok E_ints01_ok lists14_spec (fun _ => mkCall_local rfl rfl) (fun _ => mkCall_in rfl rfl)

-- archipelago/archipelagoref18.Same
abbrev same18_h : Hints := {  }
theorem same18_okd : ∀ v, same18_d v = pevCall Try.prog E_lists14 same18_h Try.f37 same18_i same18_o same18_r v := by
  rintro ⟨a0, a1, ⟨⟩⟩
  kernel_rfl
theorem same18_q : loopList (bodyOf Try.f37) 0 = [] := by kernel_rfl
theorem same18_b : Try.f37.body.isSome = true := by kernel_rfl
theorem same18_n : (Try.f37.name == "runtime.NumGoroutine") = false := by kernel_rfl
theorem same18_ok (v : denL (leaves same18_i)) : same18 v = pevCall Try.prog E_lists14 same18_h Try.f37 same18_i same18_o same18_r v := (same18_eq v).trans (same18_okd v)
theorem same18_spec : SpecOK Try.prog 37 (mkCall 2 same18_i same18_o same18_r same18) := call_spec E_lists14_ok Try.func37 same18_b same18_n rfl same18_ok (LoopsOK_of same18_q trivial)
def E_same18 : Env := E_lists14.ext 37 true true (mkCall 2 same18_i same18_o same18_r same18)
theorem E_same18_ok : EnvOK Try.prog E_same18 := Env.ext_ok E_lists14_ok same18_spec (fun _ => mkCall_local rfl rfl) (fun _ => mkCall_in rfl rfl)

-- archipelago/archipelagoref18.Right
abbrev right18_h : Hints := { loop := fun n => match n with | 0 => loopBy 0 106 right18_i0 right18_o0 right18_s0 | 1 => loopBy 0 106 right18_i1 right18_o1 right18_s1 | _ => fun _ _ _ => none, fp := fun n => match n with | 16 => [[], [], [], [], [0], [0], []] | _ => [] }
theorem right18_s1_ok : ∀ v, right18_s1 v = roundOf Try.prog E_same18 right18_h 2 0 106 (loopOf Try.f39 1) right18_i1 right18_o1 v := by
  rintro ⟨a0, a1, a2, a3, a4, a5, a6, a7, a8, a9, a10, a11, a12, a13, a14, a15, a16, a17, a18, a19, a20, a21, a22, a23, a24, a25, ⟨⟩⟩
  kernel_rfl
theorem right18_q1 : loopList (loopOf Try.f39 1) 2 = [] := by kernel_rfl
theorem right18_l1 : CodeOK Try.prog 0 (.loop (loopOf Try.f39 1)) (right18_h.loop 1) := loop_ok E_same18_ok (right18_s1_ok) (LoopsOK_of right18_q1 trivial)
theorem right18_s0_ok : ∀ v, right18_s0 v = roundOf Try.prog E_same18 right18_h 1 0 106 (loopOf Try.f39 0) right18_i0 right18_o0 v := by
  rintro ⟨a0, a1, a2, a3, a4, a5, ⟨⟩⟩
  kernel_rfl
theorem right18_q0 : loopList (loopOf Try.f39 0) 1 = [(1, loopOf Try.f39 1)] := by kernel_rfl
theorem right18_l0 : CodeOK Try.prog 0 (.loop (loopOf Try.f39 0)) (right18_h.loop 0) := loop_ok E_same18_ok (right18_s0_ok) (LoopsOK_of right18_q0 ⟨right18_l1, trivial⟩)
theorem right18_okd : ∀ v, right18_d v = pevCall Try.prog E_same18 right18_h Try.f39 right18_i right18_o right18_r v := by
  rintro ⟨a0, ⟨⟩⟩
  kernel_rfl
theorem right18_q : loopList (bodyOf Try.f39) 0 = [(0, loopOf Try.f39 0)] := by kernel_rfl
theorem right18_b : Try.f39.body.isSome = true := by kernel_rfl
theorem right18_n : (Try.f39.name == "runtime.NumGoroutine") = false := by kernel_rfl
theorem right18_ok (v : denL (leaves right18_i)) : right18 v = pevCall Try.prog E_same18 right18_h Try.f39 right18_i right18_o right18_r v := (right18_eq v).trans (right18_okd v)
theorem right18_spec : SpecOK Try.prog 39 (mkCall 1 right18_i right18_o right18_r right18) := call_spec E_same18_ok Try.func39 right18_b right18_n rfl right18_ok (LoopsOK_of right18_q ⟨right18_l0, trivial⟩)
def E_right18 : Env := E_same18.ext 39 true true (mkCall 1 right18_i right18_o right18_r right18)
theorem E_right18_ok : EnvOK Try.prog E_right18 := Env.ext_ok E_same18_ok right18_spec (fun _ => mkCall_local rfl rfl) (fun _ => mkCall_in rfl rfl)

-- archipelago/archipelagoref18.place
abbrev place18_h : Hints := { loop := fun n => match n with | 0 => loopBy 0 22 place18_i0 place18_o0 place18_s0 | _ => fun _ _ _ => none }
theorem place18_s0_ok : ∀ v, place18_s0 v = roundOf Try.prog E_right18 place18_h 1 0 22 (loopOf Try.f71 0) place18_i0 place18_o0 v := by
  rintro ⟨a0, a1, a2, a3, ⟨⟩⟩
  kernel_rfl
theorem place18_q0 : loopList (loopOf Try.f71 0) 1 = [] := by kernel_rfl
theorem place18_l0 : CodeOK Try.prog 0 (.loop (loopOf Try.f71 0)) (place18_h.loop 0) := loop_ok E_right18_ok (place18_s0_ok) (LoopsOK_of place18_q0 trivial)
theorem place18_okd : ∀ v, place18_d v = pevCall Try.prog E_right18 place18_h Try.f71 place18_i place18_o place18_r v := by
  rintro ⟨a0, a1, ⟨⟩⟩
  kernel_rfl
theorem place18_q : loopList (bodyOf Try.f71) 0 = [(0, loopOf Try.f71 0)] := by kernel_rfl
theorem place18_b : Try.f71.body.isSome = true := by kernel_rfl
theorem place18_n : (Try.f71.name == "runtime.NumGoroutine") = false := by kernel_rfl
theorem place18_ok (v : denL (leaves place18_i)) : place18 v = pevCall Try.prog E_right18 place18_h Try.f71 place18_i place18_o place18_r v := (place18_eq v).trans (place18_okd v)
theorem place18_spec : SpecOK Try.prog 71 (mkCall 2 place18_i place18_o place18_r place18) := call_spec E_right18_ok Try.func71 place18_b place18_n rfl place18_ok (LoopsOK_of place18_q ⟨place18_l0, trivial⟩)
def E_place18 : Env := E_right18.ext 71 true true (mkCall 2 place18_i place18_o place18_r place18)
theorem E_place18_ok : EnvOK Try.prog E_place18 := Env.ext_ok E_right18_ok place18_spec (fun _ => mkCall_local rfl rfl) (fun _ => mkCall_in rfl rfl)

-- archipelago/archipelagoref18.Of
abbrev of18_h : Hints := {  }
theorem of18_okd : ∀ v, of18_d v = pevCall Try.prog E_place18 of18_h Try.f41 of18_i of18_o of18_r v := by
  rintro ⟨a0, a1, ⟨⟩⟩
  kernel_rfl
theorem of18_q : loopList (bodyOf Try.f41) 0 = [] := by kernel_rfl
theorem of18_b : Try.f41.body.isSome = true := by kernel_rfl
theorem of18_n : (Try.f41.name == "runtime.NumGoroutine") = false := by kernel_rfl
theorem of18_ok (v : denL (leaves of18_i)) : of18 v = pevCall Try.prog E_place18 of18_h Try.f41 of18_i of18_o of18_r v := (of18_eq v).trans (of18_okd v)
theorem of18_spec : SpecOK Try.prog 41 (mkCall 2 of18_i of18_o of18_r of18) := call_spec E_place18_ok Try.func41 of18_b of18_n rfl of18_ok (LoopsOK_of of18_q trivial)
def E_of18 : Env := E_place18.ext 41 true true (mkCall 2 of18_i of18_o of18_r of18)
theorem E_of18_ok : EnvOK Try.prog E_of18 := Env.ext_ok E_place18_ok of18_spec (fun _ => mkCall_local rfl rfl) (fun _ => mkCall_in rfl rfl)

-- archipelago/archipelagoref18.put
abbrev put18_h : Hints := { loop := fun n => match n with | 0 => loopBy 0 38 put18_i0 put18_o0 put18_s0 | _ => fun _ _ _ => none, fp := fun n => match n with | 3 => [[], [], [], [], [], [], [], [], [], [], [], [], [0], [0], [], []] | 5 => [[], [], [], [], [3], [], [0], [5, 6], [], [], [], [9], []] | _ => [] }
theorem put18_s0_ok : ∀ v, put18_s0 v = roundOf Try.prog E_of18 put18_h 1 0 38 (loopOf Try.f74 0) put18_i0 put18_o0 v := by
  rintro ⟨a0, a1, a2, ⟨⟩⟩
  kernel_rfl
theorem put18_q0 : loopList (loopOf Try.f74 0) 1 = [] := by kernel_rfl
theorem put18_l0 : CodeOK Try.prog 0 (.loop (loopOf Try.f74 0)) (put18_h.loop 0) := loop_ok E_of18_ok (put18_s0_ok) (LoopsOK_of put18_q0 trivial)
theorem put18_okd : ∀ v, put18_d v = pevCall Try.prog E_of18 put18_h Try.f74 put18_i put18_o put18_r v := by
  rintro ⟨a0, a1, ⟨⟩⟩
  kernel_rfl
theorem put18_q : loopList (bodyOf Try.f74) 0 = [(0, loopOf Try.f74 0)] := by kernel_rfl
theorem put18_b : Try.f74.body.isSome = true := by kernel_rfl
theorem put18_n : (Try.f74.name == "runtime.NumGoroutine") = false := by kernel_rfl
theorem put18_ok (v : denL (leaves put18_i)) : put18 v = pevCall Try.prog E_of18 put18_h Try.f74 put18_i put18_o put18_r v := (put18_eq v).trans (put18_okd v)
theorem put18_spec : SpecOK Try.prog 74 (mkCall 2 put18_i put18_o put18_r put18) := call_spec E_of18_ok Try.func74 put18_b put18_n rfl put18_ok (LoopsOK_of put18_q ⟨put18_l0, trivial⟩)
def E_put18 : Env := E_of18.ext 74 true true (mkCall 2 put18_i put18_o put18_r put18)
theorem E_put18_ok : EnvOK Try.prog E_put18 := Env.ext_ok E_of18_ok put18_spec (fun _ => mkCall_local rfl rfl) (fun _ => mkCall_in rfl rfl)

-- archipelago/archipelagoref18.without
abbrev without18_h : Hints := { fp := fun n => match n with | 1 => [[], [], [], [], [1], [], [], [], [], [3], []] | _ => [] }
theorem without18_okd : ∀ v, without18_d v = pevCall Try.prog E_put18 without18_h Try.f73 without18_i without18_o without18_r v := by
  rintro ⟨a0, a1, ⟨⟩⟩
  kernel_rfl
theorem without18_q : loopList (bodyOf Try.f73) 0 = [] := by kernel_rfl
theorem without18_b : Try.f73.body.isSome = true := by kernel_rfl
theorem without18_n : (Try.f73.name == "runtime.NumGoroutine") = false := by kernel_rfl
theorem without18_ok (v : denL (leaves without18_i)) : without18 v = pevCall Try.prog E_put18 without18_h Try.f73 without18_i without18_o without18_r v := (without18_eq v).trans (without18_okd v)
theorem without18_spec : SpecOK Try.prog 73 (mkCall 2 without18_i without18_o without18_r without18) := call_spec E_put18_ok Try.func73 without18_b without18_n rfl without18_ok (LoopsOK_of without18_q trivial)
def E_without18 : Env := E_put18.ext 73 true true (mkCall 2 without18_i without18_o without18_r without18)
theorem E_without18_ok : EnvOK Try.prog E_without18 := Env.ext_ok E_put18_ok without18_spec (fun _ => mkCall_local rfl rfl) (fun _ => mkCall_in rfl rfl)

-- archipelago/archipelagoref18.Link
abbrev link18_h : Hints := { fp := fun n => match n with | 13 => [[0], [0], [], [], [], [], [102], [], [110, 100], [], [3], []] | 11 => [[], [0], [0], [], [], [], [], [87, 96], [], [60], [99, 60], []] | 7 => [[0], [], [], [0], [], [], [], []] | 5 => [[0], [], [], [0], [], [], [], []] | _ => [] }
theorem link18_okd : ∀ v, link18_d v = pevCall Try.prog E_without18 link18_h Try.f34 link18_i link18_o link18_r v := by
  rintro ⟨a0, a1, a2, ⟨⟩⟩
  kernel_rfl
theorem link18_q : loopList (bodyOf Try.f34) 0 = [] := by kernel_rfl
theorem link18_b : Try.f34.body.isSome = true := by kernel_rfl
theorem link18_n : (Try.f34.name == "runtime.NumGoroutine") = false := by kernel_rfl
theorem link18_ok (v : denL (leaves link18_i)) : link18 v = pevCall Try.prog E_without18 link18_h Try.f34 link18_i link18_o link18_r v := (link18_eq v).trans (link18_okd v)
theorem link18_spec : SpecOK Try.prog 34 (mkCall 3 link18_i link18_o link18_r link18) := call_spec E_without18_ok Try.func34 link18_b link18_n rfl link18_ok (LoopsOK_of link18_q trivial)
def E_link18 : Env := E_without18.ext 34 true true (mkCall 3 link18_i link18_o link18_r link18)
theorem E_link18_ok : EnvOK Try.prog E_link18 := Env.ext_ok E_without18_ok link18_spec (fun _ => mkCall_local rfl rfl) (fun _ => mkCall_in rfl rfl)

-- archipelago/archipelagoref18.Cut
abbrev cut18_h : Hints := { fp := fun n => match n with | 10 => [[0], [0], [0], [0], [], [], [], [], [44], [68, 44], [], [], [], [44], [76, 44], [], [3], []] | 6 => [[0], [0], [], [], [], [0], [0], [], [], [], [], [], [], [], [], []] | _ => [] }
theorem cut18_okd : ∀ v, cut18_d v = pevCall Try.prog E_link18 cut18_h Try.f36 cut18_i cut18_o cut18_r v := by
  rintro ⟨a0, a1, a2, ⟨⟩⟩
  kernel_rfl
theorem cut18_q : loopList (bodyOf Try.f36) 0 = [] := by kernel_rfl
theorem cut18_b : Try.f36.body.isSome = true := by kernel_rfl
theorem cut18_n : (Try.f36.name == "runtime.NumGoroutine") = false := by kernel_rfl
theorem cut18_ok (v : denL (leaves cut18_i)) : cut18 v = pevCall Try.prog E_link18 cut18_h Try.f36 cut18_i cut18_o cut18_r v := (cut18_eq v).trans (cut18_okd v)
theorem cut18_spec : SpecOK Try.prog 36 (mkCall 3 cut18_i cut18_o cut18_r cut18) := call_spec E_link18_ok Try.func36 cut18_b cut18_n rfl cut18_ok (LoopsOK_of cut18_q trivial)
def E_cut18 : Env := E_link18.ext 36 true true (mkCall 3 cut18_i cut18_o cut18_r cut18)
theorem E_cut18_ok : EnvOK Try.prog E_cut18 := Env.ext_ok E_link18_ok cut18_spec (fun _ => mkCall_local rfl rfl) (fun _ => mkCall_in rfl rfl)

-- archipelago/tour.sized
abbrev tsized_h : Hints := {  }
theorem tsized_okd : ∀ v, tsized_d v = pevCall Try.prog E_cut18 tsized_h Try.f77 tsized_i tsized_o tsized_r v := by
  rintro ⟨a0, ⟨⟩⟩
  kernel_rfl
theorem tsized_q : loopList (bodyOf Try.f77) 0 = [] := by kernel_rfl
theorem tsized_b : Try.f77.body.isSome = true := by kernel_rfl
theorem tsized_n : (Try.f77.name == "runtime.NumGoroutine") = false := by kernel_rfl
theorem tsized_ok (v : denL (leaves tsized_i)) : tsized v = pevCall Try.prog E_cut18 tsized_h Try.f77 tsized_i tsized_o tsized_r v := (tsized_eq v).trans (tsized_okd v)
theorem tsized_spec : SpecOK Try.prog 77 (mkCall 1 tsized_i tsized_o tsized_r tsized) := call_spec E_cut18_ok Try.func77 tsized_b tsized_n rfl tsized_ok (LoopsOK_of tsized_q trivial)
def E_tsized : Env := E_cut18.ext 77 true true (mkCall 1 tsized_i tsized_o tsized_r tsized)
theorem E_tsized_ok : EnvOK Try.prog E_tsized := Env.ext_ok E_cut18_ok tsized_spec (fun _ => mkCall_local rfl rfl) (fun _ => mkCall_in rfl rfl)

-- archipelago/tour.in
abbrev tin_h : Hints := {  }
theorem tin_okd : ∀ v, tin_d v = pevCall Try.prog E_tsized tin_h Try.f84 tin_i tin_o tin_r v := by
  rintro ⟨a0, a1, ⟨⟩⟩
  kernel_rfl
theorem tin_q : loopList (bodyOf Try.f84) 0 = [] := by kernel_rfl
theorem tin_b : Try.f84.body.isSome = true := by kernel_rfl
theorem tin_n : (Try.f84.name == "runtime.NumGoroutine") = false := by kernel_rfl
theorem tin_ok (v : denL (leaves tin_i)) : tin v = pevCall Try.prog E_tsized tin_h Try.f84 tin_i tin_o tin_r v := (tin_eq v).trans (tin_okd v)
theorem tin_spec : SpecOK Try.prog 84 (mkCall 2 tin_i tin_o tin_r tin) := call_spec E_tsized_ok Try.func84 tin_b tin_n rfl tin_ok (LoopsOK_of tin_q trivial)
def E_tin : Env := E_tsized.ext 84 true true (mkCall 2 tin_i tin_o tin_r tin)
theorem E_tin_ok : EnvOK Try.prog E_tin := Env.ext_ok E_tsized_ok tin_spec (fun _ => mkCall_local rfl rfl) (fun _ => mkCall_in rfl rfl)

end
end Go.Pev
end
section
/- The models are what the program computes. Printed by a program. -/
namespace Go.Pev
open Go.Proofs
set_option maxRecDepth 100000
noncomputable section
-- archipelago/tour.Vertex
abbrev tvertex_h : Hints := {  }
theorem tvertex_okd : ∀ v, tvertex_d v = pevCall Try.prog E_tin tvertex_h Try.f46 tvertex_i tvertex_o tvertex_r v := by
  rintro ⟨a0, a1, ⟨⟩⟩
  kernel_rfl
theorem tvertex_q : loopList (bodyOf Try.f46) 0 = [] := by kernel_rfl
theorem tvertex_b : Try.f46.body.isSome = true := by kernel_rfl
theorem tvertex_n : (Try.f46.name == "runtime.NumGoroutine") = false := by kernel_rfl
theorem tvertex_ok (v : denL (leaves tvertex_i)) : tvertex v = pevCall Try.prog E_tin tvertex_h Try.f46 tvertex_i tvertex_o tvertex_r v := (tvertex_eq v).trans (tvertex_okd v)
theorem tvertex_spec : SpecOK Try.prog 46 (mkCall 2 tvertex_i tvertex_o tvertex_r tvertex) := call_spec E_tin_ok Try.func46 tvertex_b tvertex_n rfl tvertex_ok (LoopsOK_of tvertex_q trivial)
def E_tvertex : Env := E_tin.ext 46 true true (mkCall 2 tvertex_i tvertex_o tvertex_r tvertex)
theorem E_tvertex_ok : EnvOK Try.prog E_tvertex := Env.ext_ok E_tin_ok tvertex_spec (fun _ => mkCall_local rfl rfl) (fun _ => mkCall_in rfl rfl)

-- archipelago/tour.Arc
abbrev tarc_h : Hints := {  }
theorem tarc_okd : ∀ v, tarc_d v = pevCall Try.prog E_tvertex tarc_h Try.f48 tarc_i tarc_o tarc_r v := by
  rintro ⟨a0, a1, a2, ⟨⟩⟩
  kernel_rfl
theorem tarc_q : loopList (bodyOf Try.f48) 0 = [] := by kernel_rfl
theorem tarc_b : Try.f48.body.isSome = true := by kernel_rfl
theorem tarc_n : (Try.f48.name == "runtime.NumGoroutine") = false := by kernel_rfl
theorem tarc_ok (v : denL (leaves tarc_i)) : tarc v = pevCall Try.prog E_tvertex tarc_h Try.f48 tarc_i tarc_o tarc_r v := (tarc_eq v).trans (tarc_okd v)
theorem tarc_spec : SpecOK Try.prog 48 (mkCall 3 tarc_i tarc_o tarc_r tarc) := call_spec E_tvertex_ok Try.func48 tarc_b tarc_n rfl tarc_ok (LoopsOK_of tarc_q trivial)
def E_tarc : Env := E_tvertex.ext 48 true true (mkCall 3 tarc_i tarc_o tarc_r tarc)
theorem E_tarc_ok : EnvOK Try.prog E_tarc := Env.ext_ok E_tvertex_ok tarc_spec (fun _ => mkCall_local rfl rfl) (fun _ => mkCall_in rfl rfl)

-- archipelago/tour.Token
abbrev ttoken_h : Hints := { fp := fun n => match n with | 5 => [[], [], [], [], [], [], [], [], []] | _ => [] }
theorem ttoken_okd : ∀ v, ttoken_d v = pevCall Try.prog E_tarc ttoken_h Try.f42 ttoken_i ttoken_o ttoken_r v := by
  rintro ⟨a0, a1, ⟨⟩⟩
  kernel_rfl
theorem ttoken_q : loopList (bodyOf Try.f42) 0 = [] := by kernel_rfl
theorem ttoken_b : Try.f42.body.isSome = true := by kernel_rfl
theorem ttoken_n : (Try.f42.name == "runtime.NumGoroutine") = false := by kernel_rfl
theorem ttoken_ok (v : denL (leaves ttoken_i)) : ttoken v = pevCall Try.prog E_tarc ttoken_h Try.f42 ttoken_i ttoken_o ttoken_r v := (ttoken_eq v).trans (ttoken_okd v)
theorem ttoken_spec : SpecOK Try.prog 42 (mkCall 2 ttoken_i ttoken_o ttoken_r ttoken) := call_spec E_tarc_ok Try.func42 ttoken_b ttoken_n rfl ttoken_ok (LoopsOK_of ttoken_q trivial)
def E_ttoken : Env := E_tarc.ext 42 true true (mkCall 2 ttoken_i ttoken_o ttoken_r ttoken)
theorem E_ttoken_ok : EnvOK Try.prog E_ttoken := Env.ext_ok E_tarc_ok ttoken_spec (fun _ => mkCall_local rfl rfl) (fun _ => mkCall_in rfl rfl)

-- archipelago/tour.Make
abbrev tmake_h : Hints := { loop := fun n => match n with | 0 => loopBy 0 25 tmake_i0 tmake_o0 tmake_s0 | _ => fun _ _ _ => none }
theorem tmake_s0_ok : ∀ v, tmake_s0 v = roundOf Try.prog E_ttoken tmake_h 1 0 25 (loopOf Try.f44 0) tmake_i0 tmake_o0 v := by
  rintro ⟨a0, a1, a2, a3, a4, ⟨⟩⟩
  kernel_rfl
theorem tmake_q0 : loopList (loopOf Try.f44 0) 1 = [] := by kernel_rfl
theorem tmake_l0 : CodeOK Try.prog 0 (.loop (loopOf Try.f44 0)) (tmake_h.loop 0) := loop_ok E_ttoken_ok (tmake_s0_ok) (LoopsOK_of tmake_q0 trivial)
theorem tmake_okd : ∀ v, tmake_d v = pevCall Try.prog E_ttoken tmake_h Try.f44 tmake_i tmake_o tmake_r v := by
  rintro ⟨a0, ⟨⟩⟩
  kernel_rfl
theorem tmake_q : loopList (bodyOf Try.f44) 0 = [(0, loopOf Try.f44 0)] := by kernel_rfl
theorem tmake_b : Try.f44.body.isSome = true := by kernel_rfl
theorem tmake_n : (Try.f44.name == "runtime.NumGoroutine") = false := by kernel_rfl
theorem tmake_ok (v : denL (leaves tmake_i)) : tmake v = pevCall Try.prog E_ttoken tmake_h Try.f44 tmake_i tmake_o tmake_r v := (tmake_eq v).trans (tmake_okd v)
theorem tmake_spec : SpecOK Try.prog 44 (mkCall 1 tmake_i tmake_o tmake_r tmake) := call_spec E_ttoken_ok Try.func44 tmake_b tmake_n rfl tmake_ok (LoopsOK_of tmake_q ⟨tmake_l0, trivial⟩)
def E_tmake : Env := E_ttoken.ext 44 true true (mkCall 1 tmake_i tmake_o tmake_r tmake)
theorem E_tmake_ok : EnvOK Try.prog E_tmake := Env.ext_ok E_ttoken_ok tmake_spec (fun _ => mkCall_local rfl rfl) (fun _ => mkCall_in rfl rfl)

-- slices.Index[[]int,int]
abbrev indexI_h : Hints := { loop := fun n => match n with | 0 => loopBy 0 19 indexI_i0 indexI_o0 indexI_s0 | _ => fun _ _ _ => none }
theorem indexI_s0_ok : ∀ v, indexI_s0 v = roundOf Try.prog E_tmake indexI_h 1 0 19 (loopOf Try.f75 0) indexI_i0 indexI_o0 v := by
  rintro ⟨a0, a1, a2, a3, ⟨⟩⟩
  kernel_rfl
theorem indexI_q0 : loopList (loopOf Try.f75 0) 1 = [] := by kernel_rfl
theorem indexI_l0 : CodeOK Try.prog 0 (.loop (loopOf Try.f75 0)) (indexI_h.loop 0) := loop_ok E_tmake_ok (indexI_s0_ok) (LoopsOK_of indexI_q0 trivial)
theorem indexI_okd : ∀ v, indexI_d v = pevCall Try.prog E_tmake indexI_h Try.f75 indexI_i indexI_o indexI_r v := by
  rintro ⟨a0, a1, ⟨⟩⟩
  kernel_rfl
theorem indexI_q : loopList (bodyOf Try.f75) 0 = [(0, loopOf Try.f75 0)] := by kernel_rfl
theorem indexI_b : Try.f75.body.isSome = true := by kernel_rfl
theorem indexI_n : (Try.f75.name == "runtime.NumGoroutine") = false := by kernel_rfl
theorem indexI_ok (v : denL (leaves indexI_i)) : indexI v = pevCall Try.prog E_tmake indexI_h Try.f75 indexI_i indexI_o indexI_r v := (indexI_eq v).trans (indexI_okd v)
theorem indexI_spec : SpecOK Try.prog 75 (mkCall 2 indexI_i indexI_o indexI_r indexI) := call_spec E_tmake_ok Try.func75 indexI_b indexI_n rfl indexI_ok (LoopsOK_of indexI_q ⟨indexI_l0, trivial⟩)
def E_indexI : Env := E_tmake.ext 75 true true (mkCall 2 indexI_i indexI_o indexI_r indexI)
theorem E_indexI_ok : EnvOK Try.prog E_indexI := Env.ext_ok E_tmake_ok indexI_spec (fun _ => mkCall_local rfl rfl) (fun _ => mkCall_in rfl rfl)

-- slices.Contains[[]int,int]
abbrev containsI_h : Hints := {  }
theorem containsI_okd : ∀ v, containsI_d v = pevCall Try.prog E_indexI containsI_h Try.f93 containsI_i containsI_o containsI_r v := by
  rintro ⟨a0, a1, ⟨⟩⟩
  kernel_rfl
theorem containsI_q : loopList (bodyOf Try.f93) 0 = [] := by kernel_rfl
theorem containsI_b : Try.f93.body.isSome = true := by kernel_rfl
theorem containsI_n : (Try.f93.name == "runtime.NumGoroutine") = false := by kernel_rfl
theorem containsI_ok (v : denL (leaves containsI_i)) : containsI v = pevCall Try.prog E_indexI containsI_h Try.f93 containsI_i containsI_o containsI_r v := (containsI_eq v).trans (containsI_okd v)
theorem containsI_spec : SpecOK Try.prog 93 (mkCall 2 containsI_i containsI_o containsI_r containsI) := call_spec E_indexI_ok Try.func93 containsI_b containsI_n rfl containsI_ok (LoopsOK_of containsI_q trivial)
def E_containsI : Env := E_indexI.ext 93 true true (mkCall 2 containsI_i containsI_o containsI_r containsI)
theorem E_containsI_ok : EnvOK Try.prog E_containsI := Env.ext_ok E_indexI_ok containsI_spec (fun _ => mkCall_local rfl rfl) (fun _ => mkCall_in rfl rfl)

-- slices.Min[[]int,int]
abbrev minI_h : Hints := { loop := fun n => match n with | 0 => loopBy 0 25 minI_i0 minI_o0 minI_s0 | _ => fun _ _ _ => none }
theorem minI_s0_ok : ∀ v, minI_s0 v = roundOf Try.prog E_containsI minI_h 1 0 25 (loopOf Try.f79 0) minI_i0 minI_o0 v := by
  rintro ⟨a0, a1, a2, ⟨⟩⟩
  kernel_rfl
theorem minI_q0 : loopList (loopOf Try.f79 0) 1 = [] := by kernel_rfl
theorem minI_l0 : CodeOK Try.prog 0 (.loop (loopOf Try.f79 0)) (minI_h.loop 0) := loop_ok E_containsI_ok (minI_s0_ok) (LoopsOK_of minI_q0 trivial)
theorem minI_okd : ∀ v, minI_d v = pevCall Try.prog E_containsI minI_h Try.f79 minI_i minI_o minI_r v := by
  rintro ⟨a0, ⟨⟩⟩
  kernel_rfl
theorem minI_q : loopList (bodyOf Try.f79) 0 = [(0, loopOf Try.f79 0)] := by kernel_rfl
theorem minI_b : Try.f79.body.isSome = true := by kernel_rfl
theorem minI_n : (Try.f79.name == "runtime.NumGoroutine") = false := by kernel_rfl
theorem minI_ok (v : denL (leaves minI_i)) : minI v = pevCall Try.prog E_containsI minI_h Try.f79 minI_i minI_o minI_r v := (minI_eq v).trans (minI_okd v)
theorem minI_spec : SpecOK Try.prog 79 (mkCall 1 minI_i minI_o minI_r minI) := call_spec E_containsI_ok Try.func79 minI_b minI_n rfl minI_ok (LoopsOK_of minI_q ⟨minI_l0, trivial⟩)
def E_minI : Env := E_containsI.ext 79 true true (mkCall 1 minI_i minI_o minI_r minI)
theorem E_minI_ok : EnvOK Try.prog E_minI := Env.ext_ok E_containsI_ok minI_spec (fun _ => mkCall_local rfl rfl) (fun _ => mkCall_in rfl rfl)

-- slices.Grow[[]int,int]
abbrev growI_h : Hints := {  }
theorem growI_okd : ∀ v, growI_d v = pevCall Try.prog E_minI growI_h Try.f96 growI_i growI_o growI_r v := by
  rintro ⟨a0, ⟨⟩⟩
  kernel_rfl
theorem growI_q : loopList (bodyOf Try.f96) 0 = [] := by kernel_rfl
theorem growI_b : Try.f96.body.isSome = true := by kernel_rfl
theorem growI_n : (Try.f96.name == "runtime.NumGoroutine") = false := by kernel_rfl
theorem growI_ok (v : denL (leaves growI_i)) : growI v = pevCall Try.prog E_minI growI_h Try.f96 growI_i growI_o growI_r v := (growI_eq v).trans (growI_okd v)
theorem growI_spec : SpecOK Try.prog 96 (mkCall 2 growI_i growI_o growI_r growI) := call_spec E_minI_ok Try.func96 growI_b growI_n rfl growI_ok (LoopsOK_of growI_q trivial)
def E_growI : Env := E_minI.ext 96 false true (mkCall 2 growI_i growI_o growI_r growI)
theorem E_growI_ok : EnvOK Try.prog E_growI := Env.ext_ok E_minI_ok growI_spec ((by simp)) (fun _ => mkCall_in rfl rfl)

-- slices.Concat[[]int,int]
abbrev concatI_h : Hints := { loop := fun n => match n with | 0 => loopBy 0 36 concatI_i0 concatI_o0 concatI_s0 | 1 => loopBy 0 36 concatI_i1 concatI_o1 concatI_s1 | _ => fun _ _ _ => none }
theorem concatI_s1_ok : ∀ v, concatI_s1 v = roundOf Try.prog E_growI concatI_h 2 0 36 (loopOf Try.f68 1) concatI_i1 concatI_o1 v := by
  rintro ⟨a0, a1, a2, a3, ⟨⟩⟩
  kernel_rfl
theorem concatI_q1 : loopList (loopOf Try.f68 1) 2 = [] := by kernel_rfl
theorem concatI_l1 : CodeOK Try.prog 0 (.loop (loopOf Try.f68 1)) (concatI_h.loop 1) := loop_ok E_growI_ok (concatI_s1_ok) (LoopsOK_of concatI_q1 trivial)
theorem concatI_s0_ok : ∀ v, concatI_s0 v = roundOf Try.prog E_growI concatI_h 1 0 36 (loopOf Try.f68 0) concatI_i0 concatI_o0 v := by
  rintro ⟨a0, a1, a2, a3, a4, ⟨⟩⟩
  kernel_rfl
theorem concatI_q0 : loopList (loopOf Try.f68 0) 1 = [] := by kernel_rfl
theorem concatI_l0 : CodeOK Try.prog 0 (.loop (loopOf Try.f68 0)) (concatI_h.loop 0) := loop_ok E_growI_ok (concatI_s0_ok) (LoopsOK_of concatI_q0 trivial)
theorem concatI_okd : ∀ v, concatI_d v = pevCall Try.prog E_growI concatI_h Try.f68 concatI_i concatI_o concatI_r v := by
  rintro ⟨a0, ⟨⟩⟩
  kernel_rfl
theorem concatI_q : loopList (bodyOf Try.f68) 0 = [(0, loopOf Try.f68 0), (1, loopOf Try.f68 1)] := by kernel_rfl
theorem concatI_b : Try.f68.body.isSome = true := by kernel_rfl
theorem concatI_n : (Try.f68.name == "runtime.NumGoroutine") = false := by kernel_rfl
theorem concatI_ok (v : denL (leaves concatI_i)) : concatI v = pevCall Try.prog E_growI concatI_h Try.f68 concatI_i concatI_o concatI_r v := (concatI_eq v).trans (concatI_okd v)
theorem concatI_spec : SpecOK Try.prog 68 (mkCall 1 concatI_i concatI_o concatI_r concatI) := call_spec E_growI_ok Try.func68 concatI_b concatI_n rfl concatI_ok (LoopsOK_of concatI_q ⟨concatI_l0, concatI_l1, trivial⟩)
def E_concatI : Env := E_growI.ext 68 true true (mkCall 1 concatI_i concatI_o concatI_r concatI)
theorem E_concatI_ok : EnvOK Try.prog E_concatI := Env.ext_ok E_growI_ok concatI_spec (fun _ => mkCall_local rfl rfl) (fun _ => mkCall_in rfl rfl)

-- archipelago/ring.Right$1: gone through in place
theorem ringOdd_b : Try.f101.body.isSome = true := by kernel_rfl
theorem ringOdd_n : (Try.f101.name == "runtime.NumGoroutine") = false := by kernel_rfl
theorem ringOdd_z : loops (bodyOf Try.f101) = 0 := by kernel_rfl

def E_ringOdd_1 : Env := E_concatI.ext 101 false false (mkInline Try.prog E_concatI {} Try.f101)
theorem E_ringOdd_1_ok : EnvOK Try.prog E_ringOdd_1 := Env.ext_ok E_concatI_ok (inline_spec E_concatI_ok Try.func101 ringOdd_b ringOdd_n ringOdd_z) (by simp) (by simp)

-- slices.IndexFunc[[]int,int]
abbrev idxFuncI_odd_h : Hints := { loop := fun n => match n with | 0 => loopBy 0 19 idxFuncI_odd_i0 idxFuncI_odd_o0 idxFuncI_odd_s0 | _ => fun _ _ _ => none }
theorem idxFuncI_odd_s0_ok : ∀ v, idxFuncI_odd_s0 v = roundOf Try.prog E_ringOdd_1 idxFuncI_odd_h 1 0 19 (loopOf Try.f110 0) idxFuncI_odd_i0 idxFuncI_odd_o0 v := by
  rintro ⟨a0, a1, a2, ⟨⟩⟩
  kernel_rfl
theorem idxFuncI_odd_q0 : loopList (loopOf Try.f110 0) 1 = [] := by kernel_rfl
theorem idxFuncI_odd_l0 : CodeOK Try.prog 0 (.loop (loopOf Try.f110 0)) (idxFuncI_odd_h.loop 0) := loop_ok E_ringOdd_1_ok (idxFuncI_odd_s0_ok) (LoopsOK_of idxFuncI_odd_q0 trivial)
theorem idxFuncI_odd_okd : ∀ v, idxFuncI_odd_d v = pevCall Try.prog E_ringOdd_1 idxFuncI_odd_h Try.f110 idxFuncI_odd_i idxFuncI_odd_o idxFuncI_odd_r v := by
  rintro ⟨a0, ⟨⟩⟩
  kernel_rfl
theorem idxFuncI_odd_q : loopList (bodyOf Try.f110) 0 = [(0, loopOf Try.f110 0)] := by kernel_rfl
theorem idxFuncI_odd_b : Try.f110.body.isSome = true := by kernel_rfl
theorem idxFuncI_odd_n : (Try.f110.name == "runtime.NumGoroutine") = false := by kernel_rfl
theorem idxFuncI_odd_ok (v : denL (leaves idxFuncI_odd_i)) : idxFuncI_odd v = pevCall Try.prog E_ringOdd_1 idxFuncI_odd_h Try.f110 idxFuncI_odd_i idxFuncI_odd_o idxFuncI_odd_r v := (idxFuncI_odd_eq v).trans (idxFuncI_odd_okd v)
theorem idxFuncI_odd_spec : SpecOK Try.prog 110 (mkCall 2 idxFuncI_odd_i idxFuncI_odd_o idxFuncI_odd_r idxFuncI_odd) := call_spec E_ringOdd_1_ok Try.func110 idxFuncI_odd_b idxFuncI_odd_n rfl idxFuncI_odd_ok (LoopsOK_of idxFuncI_odd_q ⟨idxFuncI_odd_l0, trivial⟩)
def E_idxFuncI_odd : Env := E_ringOdd_1.extC 110 1 101 (mkCall 2 idxFuncI_odd_i idxFuncI_odd_o idxFuncI_odd_r idxFuncI_odd)
theorem E_idxFuncI_odd_ok : EnvOK Try.prog E_idxFuncI_odd := Env.extC_ok E_ringOdd_1_ok idxFuncI_odd_spec (mkCall_in rfl rfl)

-- slices.ContainsFunc[[]int,int]
abbrev contFuncI_odd_h : Hints := {  }
theorem contFuncI_odd_okd : ∀ v, contFuncI_odd_d v = pevCall Try.prog E_idxFuncI_odd contFuncI_odd_h Try.f102 contFuncI_odd_i contFuncI_odd_o contFuncI_odd_r v := by
  rintro ⟨a0, ⟨⟩⟩
  kernel_rfl
theorem contFuncI_odd_q : loopList (bodyOf Try.f102) 0 = [] := by kernel_rfl
theorem contFuncI_odd_b : Try.f102.body.isSome = true := by kernel_rfl
theorem contFuncI_odd_n : (Try.f102.name == "runtime.NumGoroutine") = false := by kernel_rfl
theorem contFuncI_odd_ok (v : denL (leaves contFuncI_odd_i)) : contFuncI_odd v = pevCall Try.prog E_idxFuncI_odd contFuncI_odd_h Try.f102 contFuncI_odd_i contFuncI_odd_o contFuncI_odd_r v := (contFuncI_odd_eq v).trans (contFuncI_odd_okd v)
theorem contFuncI_odd_spec : SpecOK Try.prog 102 (mkCall 2 contFuncI_odd_i contFuncI_odd_o contFuncI_odd_r contFuncI_odd) := call_spec E_idxFuncI_odd_ok Try.func102 contFuncI_odd_b contFuncI_odd_n rfl contFuncI_odd_ok (LoopsOK_of contFuncI_odd_q trivial)
def E_contFuncI_odd : Env := E_idxFuncI_odd.extC 102 1 101 (mkCall 2 contFuncI_odd_i contFuncI_odd_o contFuncI_odd_r contFuncI_odd)
theorem E_contFuncI_odd_ok : EnvOK Try.prog E_contFuncI_odd := Env.extC_ok E_idxFuncI_odd_ok contFuncI_odd_spec (mkCall_in rfl rfl)

end
end Go.Pev
end
section
/- The models are what the program computes. Printed by a program. -/
namespace Go.Pev
open Go.Proofs
set_option maxRecDepth 100000
noncomputable section
-- archipelago/ring.once[int]
abbrev once_h : Hints := { loop := fun n => match n with | 0 => loopBy 0 23 once_i0 once_o0 once_s0 | _ => fun _ _ _ => none }
theorem once_s0_ok : ∀ v, once_s0 v = roundOf Try.prog E_contFuncI_odd once_h 1 0 23 (loopOf Try.f103 0) once_i0 once_o0 v := by
  rintro ⟨a0, a1, a2, a3, a4, ⟨⟩⟩
  kernel_rfl
theorem once_q0 : loopList (loopOf Try.f103 0) 1 = [] := by kernel_rfl
theorem once_l0 : CodeOK Try.prog 0 (.loop (loopOf Try.f103 0)) (once_h.loop 0) := loop_ok E_contFuncI_odd_ok (once_s0_ok) (LoopsOK_of once_q0 trivial)
theorem once_okd : ∀ v, once_d v = pevCall Try.prog E_contFuncI_odd once_h Try.f103 once_i once_o once_r v := by
  rintro ⟨a0, ⟨⟩⟩
  kernel_rfl
theorem once_q : loopList (bodyOf Try.f103) 0 = [(0, loopOf Try.f103 0)] := by kernel_rfl
theorem once_b : Try.f103.body.isSome = true := by kernel_rfl
theorem once_n : (Try.f103.name == "runtime.NumGoroutine") = false := by kernel_rfl
theorem once_ok (v : denL (leaves once_i)) : once v = pevCall Try.prog E_contFuncI_odd once_h Try.f103 once_i once_o once_r v := (once_eq v).trans (once_okd v)
theorem once_spec : SpecOK Try.prog 103 (mkCall 1 once_i once_o once_r once) := call_spec E_contFuncI_odd_ok Try.func103 once_b once_n rfl once_ok (LoopsOK_of once_q ⟨once_l0, trivial⟩)
def E_once : Env := E_contFuncI_odd.ext 103 true true (mkCall 1 once_i once_o once_r once)
theorem E_once_ok : EnvOK Try.prog E_once := Env.ext_ok E_contFuncI_odd_ok once_spec (fun _ => mkCall_local rfl rfl) (fun _ => mkCall_in rfl rfl)

-- archipelago/ring.Right
abbrev rright_h : Hints := {  }
theorem rright_okd : ∀ v, rright_d v = pevCall Try.prog E_once rright_h Try.f78 rright_i rright_o rright_r v := by
  rintro ⟨a0, ⟨⟩⟩
  kernel_rfl
theorem rright_q : loopList (bodyOf Try.f78) 0 = [] := by kernel_rfl
theorem rright_b : Try.f78.body.isSome = true := by kernel_rfl
theorem rright_n : (Try.f78.name == "runtime.NumGoroutine") = false := by kernel_rfl
theorem rright_ok (v : denL (leaves rright_i)) : rright v = pevCall Try.prog E_once rright_h Try.f78 rright_i rright_o rright_r v := (rright_eq v).trans (rright_okd v)
theorem rright_spec : SpecOK Try.prog 78 (mkCall 1 rright_i rright_o rright_r rright) := call_spec E_once_ok Try.func78 rright_b rright_n rfl rright_ok (LoopsOK_of rright_q trivial)
def E_rright : Env := E_once.ext 78 true true (mkCall 1 rright_i rright_o rright_r rright)
theorem E_rright_ok : EnvOK Try.prog E_rright := Env.ext_ok E_once_ok rright_spec (fun _ => mkCall_local rfl rfl) (fun _ => mkCall_in rfl rfl)

-- archipelago/ring.turned
abbrev turned_h : Hints := { fp := fun n => match n with | 1 => [[], [], [], [], [], [], [], [0], []] | _ => [] }
theorem turned_okd : ∀ v, turned_d v = pevCall Try.prog E_rright turned_h Try.f95 turned_i turned_o turned_r v := by
  rintro ⟨a0, a1, ⟨⟩⟩
  kernel_rfl
theorem turned_q : loopList (bodyOf Try.f95) 0 = [] := by kernel_rfl
theorem turned_b : Try.f95.body.isSome = true := by kernel_rfl
theorem turned_n : (Try.f95.name == "runtime.NumGoroutine") = false := by kernel_rfl
theorem turned_ok (v : denL (leaves turned_i)) : turned v = pevCall Try.prog E_rright turned_h Try.f95 turned_i turned_o turned_r v := (turned_eq v).trans (turned_okd v)
theorem turned_spec : SpecOK Try.prog 95 (mkCall 2 turned_i turned_o turned_r turned) := call_spec E_rright_ok Try.func95 turned_b turned_n rfl turned_ok (LoopsOK_of turned_q trivial)
def E_turned : Env := E_rright.ext 95 true true (mkCall 2 turned_i turned_o turned_r turned)
theorem E_turned_ok : EnvOK Try.prog E_turned := Env.ext_ok E_rright_ok turned_spec (fun _ => mkCall_local rfl rfl) (fun _ => mkCall_in rfl rfl)

-- archipelago/ring.places
abbrev places_h : Hints := { loop := fun n => match n with | 0 => loopBy 0 29 places_i0 places_o0 places_s0 | _ => fun _ _ _ => none }
theorem places_s0_ok : ∀ v, places_s0 v = roundOf Try.prog E_turned places_h 1 0 29 (loopOf Try.f94 0) places_i0 places_o0 v := by
  rintro ⟨a0, a1, a2, a3, a4, ⟨⟩⟩
  kernel_rfl
theorem places_q0 : loopList (loopOf Try.f94 0) 1 = [] := by kernel_rfl
theorem places_l0 : CodeOK Try.prog 0 (.loop (loopOf Try.f94 0)) (places_h.loop 0) := loop_ok E_turned_ok (places_s0_ok) (LoopsOK_of places_q0 trivial)
theorem places_okd : ∀ v, places_d v = pevCall Try.prog E_turned places_h Try.f94 places_i places_o places_r v := by
  rintro ⟨a0, a1, ⟨⟩⟩
  kernel_rfl
theorem places_q : loopList (bodyOf Try.f94) 0 = [(0, loopOf Try.f94 0)] := by kernel_rfl
theorem places_b : Try.f94.body.isSome = true := by kernel_rfl
theorem places_n : (Try.f94.name == "runtime.NumGoroutine") = false := by kernel_rfl
theorem places_ok (v : denL (leaves places_i)) : places v = pevCall Try.prog E_turned places_h Try.f94 places_i places_o places_r v := (places_eq v).trans (places_okd v)
theorem places_spec : SpecOK Try.prog 94 (mkCall 2 places_i places_o places_r places) := call_spec E_turned_ok Try.func94 places_b places_n rfl places_ok (LoopsOK_of places_q ⟨places_l0, trivial⟩)
def E_places : Env := E_turned.ext 94 true true (mkCall 2 places_i places_o places_r places)
theorem E_places_ok : EnvOK Try.prog E_places := Env.ext_ok E_turned_ok places_spec (fun _ => mkCall_local rfl rfl) (fun _ => mkCall_in rfl rfl)

-- archipelago/ring.From
abbrev rfrom_h : Hints := {  }
theorem rfrom_okd : ∀ v, rfrom_d v = pevCall Try.prog E_places rfrom_h Try.f67 rfrom_i rfrom_o rfrom_r v := by
  rintro ⟨a0, a1, ⟨⟩⟩
  kernel_rfl
theorem rfrom_q : loopList (bodyOf Try.f67) 0 = [] := by kernel_rfl
theorem rfrom_b : Try.f67.body.isSome = true := by kernel_rfl
theorem rfrom_n : (Try.f67.name == "runtime.NumGoroutine") = false := by kernel_rfl
theorem rfrom_ok (v : denL (leaves rfrom_i)) : rfrom v = pevCall Try.prog E_places rfrom_h Try.f67 rfrom_i rfrom_o rfrom_r v := (rfrom_eq v).trans (rfrom_okd v)
theorem rfrom_spec : SpecOK Try.prog 67 (mkCall 2 rfrom_i rfrom_o rfrom_r rfrom) := call_spec E_places_ok Try.func67 rfrom_b rfrom_n rfl rfrom_ok (LoopsOK_of rfrom_q trivial)
def E_rfrom : Env := E_places.ext 67 true true (mkCall 2 rfrom_i rfrom_o rfrom_r rfrom)
theorem E_rfrom_ok : EnvOK Try.prog E_rfrom := Env.ext_ok E_places_ok rfrom_spec (fun _ => mkCall_local rfl rfl) (fun _ => mkCall_in rfl rfl)

-- archipelago/ring.Plain
abbrev rplain_h : Hints := {  }
theorem rplain_okd : ∀ v, rplain_d v = pevCall Try.prog E_rfrom rplain_h Try.f97 rplain_i rplain_o rplain_r v := by
  rintro ⟨a0, ⟨⟩⟩
  kernel_rfl
theorem rplain_q : loopList (bodyOf Try.f97) 0 = [] := by kernel_rfl
theorem rplain_b : Try.f97.body.isSome = true := by kernel_rfl
theorem rplain_n : (Try.f97.name == "runtime.NumGoroutine") = false := by kernel_rfl
theorem rplain_ok (v : denL (leaves rplain_i)) : rplain v = pevCall Try.prog E_rfrom rplain_h Try.f97 rplain_i rplain_o rplain_r v := (rplain_eq v).trans (rplain_okd v)
theorem rplain_spec : SpecOK Try.prog 97 (mkCall 1 rplain_i rplain_o rplain_r rplain) := call_spec E_rfrom_ok Try.func97 rplain_b rplain_n rfl rplain_ok (LoopsOK_of rplain_q trivial)
def E_rplain : Env := E_rfrom.ext 97 true true (mkCall 1 rplain_i rplain_o rplain_r rplain)
theorem E_rplain_ok : EnvOK Try.prog E_rplain := Env.ext_ok E_rfrom_ok rplain_spec (fun _ => mkCall_local rfl rfl) (fun _ => mkCall_in rfl rfl)

-- archipelago/tour.place$1: gone through in place
theorem tplace1_b : Try.f92.body.isSome = true := by kernel_rfl
theorem tplace1_n : (Try.f92.name == "runtime.NumGoroutine") = false := by kernel_rfl
theorem tplace1_z : loops (bodyOf Try.f92) = 0 := by kernel_rfl

def E_tplace1_2 : Env := E_rplain.ext 92 false false (mkInline Try.prog E_rplain {} Try.f92)
theorem E_tplace1_2_ok : EnvOK Try.prog E_tplace1_2 := Env.ext_ok E_rplain_ok (inline_spec E_rplain_ok Try.func92 tplace1_b tplace1_n tplace1_z) (by simp) (by simp)

-- slices.IndexFunc[[][]int,[]int]
abbrev idxFuncL_place_h : Hints := { loop := fun n => match n with | 0 => loopBy 1 19 idxFuncL_place_i0 idxFuncL_place_o0 idxFuncL_place_s0 | _ => fun _ _ _ => none }
theorem idxFuncL_place_s0_ok : ∀ v, idxFuncL_place_s0 v = roundOf Try.prog E_tplace1_2 idxFuncL_place_h 1 1 19 (loopOf Try.f91 0) idxFuncL_place_i0 idxFuncL_place_o0 v := by
  rintro ⟨a0, a1, a2, a3, ⟨⟩⟩
  kernel_rfl
theorem idxFuncL_place_q0 : loopList (loopOf Try.f91 0) 1 = [] := by kernel_rfl
theorem idxFuncL_place_l0 : CodeOK Try.prog 1 (.loop (loopOf Try.f91 0)) (idxFuncL_place_h.loop 0) := loop_ok E_tplace1_2_ok (idxFuncL_place_s0_ok) (LoopsOK_of idxFuncL_place_q0 trivial)
theorem idxFuncL_place_okd : ∀ v, idxFuncL_place_d v = pevCall Try.prog E_tplace1_2 idxFuncL_place_h Try.f91 idxFuncL_place_i idxFuncL_place_o idxFuncL_place_r v := by
  rintro ⟨a0, a1, ⟨⟩⟩
  kernel_rfl
theorem idxFuncL_place_q : loopList (bodyOf Try.f91) 0 = [(0, loopOf Try.f91 0)] := by kernel_rfl
theorem idxFuncL_place_b : Try.f91.body.isSome = true := by kernel_rfl
theorem idxFuncL_place_n : (Try.f91.name == "runtime.NumGoroutine") = false := by kernel_rfl
theorem idxFuncL_place_ok (v : denL (leaves idxFuncL_place_i)) : idxFuncL_place v = pevCall Try.prog E_tplace1_2 idxFuncL_place_h Try.f91 idxFuncL_place_i idxFuncL_place_o idxFuncL_place_r v := (idxFuncL_place_eq v).trans (idxFuncL_place_okd v)
theorem idxFuncL_place_spec : SpecOK Try.prog 91 (mkCall 2 idxFuncL_place_i idxFuncL_place_o idxFuncL_place_r idxFuncL_place) := call_spec E_tplace1_2_ok Try.func91 idxFuncL_place_b idxFuncL_place_n rfl idxFuncL_place_ok (LoopsOK_of idxFuncL_place_q ⟨idxFuncL_place_l0, trivial⟩)
def E_idxFuncL_place : Env := E_tplace1_2.extC 91 1 92 (mkCall 2 idxFuncL_place_i idxFuncL_place_o idxFuncL_place_r idxFuncL_place)
theorem E_idxFuncL_place_ok : EnvOK Try.prog E_idxFuncL_place := Env.extC_ok E_tplace1_2_ok idxFuncL_place_spec (mkCall_in rfl rfl)

-- archipelago/tour.place
abbrev tplace_h : Hints := {  }
theorem tplace_okd : ∀ v, tplace_d v = pevCall Try.prog E_idxFuncL_place tplace_h Try.f66 tplace_i tplace_o tplace_r v := by
  rintro ⟨a0, a1, ⟨⟩⟩
  kernel_rfl
theorem tplace_q : loopList (bodyOf Try.f66) 0 = [] := by kernel_rfl
theorem tplace_b : Try.f66.body.isSome = true := by kernel_rfl
theorem tplace_n : (Try.f66.name == "runtime.NumGoroutine") = false := by kernel_rfl
theorem tplace_ok (v : denL (leaves tplace_i)) : tplace v = pevCall Try.prog E_idxFuncL_place tplace_h Try.f66 tplace_i tplace_o tplace_r v := (tplace_eq v).trans (tplace_okd v)
theorem tplace_spec : SpecOK Try.prog 66 (mkCall 2 tplace_i tplace_o tplace_r tplace) := call_spec E_idxFuncL_place_ok Try.func66 tplace_b tplace_n rfl tplace_ok (LoopsOK_of tplace_q trivial)
def E_tplace : Env := E_idxFuncL_place.ext 66 true true (mkCall 2 tplace_i tplace_o tplace_r tplace)
theorem E_tplace_ok : EnvOK Try.prog E_tplace := Env.ext_ok E_idxFuncL_place_ok tplace_spec (fun _ => mkCall_local rfl rfl) (fun _ => mkCall_in rfl rfl)

-- (*archipelago/tour.walk).along: gone through in place
theorem along_b : Try.f104.body.isSome = true := by kernel_rfl
theorem along_n : (Try.f104.name == "runtime.NumGoroutine") = false := by kernel_rfl
theorem along_z : loops (bodyOf Try.f104) = 0 := by kernel_rfl

def E_along_3 : Env := E_tplace.ext 104 false false (mkInline Try.prog E_tplace {} Try.f104)
theorem E_along_3_ok : EnvOK Try.prog E_along_3 := Env.ext_ok E_tplace_ok (inline_spec E_tplace_ok Try.func104 along_b along_n along_z) (by simp) (by simp)

-- archipelago/tour.goes
abbrev goes_h : Hints := { loop := fun n => match n with | 0 => loopBy 0 107 goes_i0 goes_o0 goes_s0 | _ => fun _ _ _ => none, fp := fun n => match n with | 8 => [[], [], [], [], [], [], [], [], [1000003], [], [], [], [], [], [], [], [], [0], [0], [0], [], [0], [0], [0], [2, 26], [], [2, 26], [2, 26], [], [], [], [], []] | 13 => [[], [0], [0], [0], [2], [], [], [], [0], [0], [0], [6], [], [0], [0], [0], [4], [], [], []] | 3 => [[], [], [], [], [], [], [], [], [11], [], [], [], [8, 10, 12], []] | _ => [] }
theorem goes_s0_ok : ∀ v, goes_s0 v = roundOf Try.prog E_along_3 goes_h 1 0 107 (loopOf Try.f80 0) goes_i0 goes_o0 v := by
  rintro ⟨a0, a1, a2, a3, a4, a5, a6, ⟨⟩⟩
  kernel_rfl
theorem goes_q0 : loopList (loopOf Try.f80 0) 1 = [] := by kernel_rfl
theorem goes_l0 : CodeOK Try.prog 0 (.loop (loopOf Try.f80 0)) (goes_h.loop 0) := loop_ok E_along_3_ok (goes_s0_ok) (LoopsOK_of goes_q0 trivial)
theorem goes_okd : ∀ v, goes_d v = pevCall Try.prog E_along_3 goes_h Try.f80 goes_i goes_o goes_r v := by
  rintro ⟨a0, a1, ⟨⟩⟩
  kernel_rfl
theorem goes_q : loopList (bodyOf Try.f80) 0 = [(0, loopOf Try.f80 0)] := by kernel_rfl
theorem goes_b : Try.f80.body.isSome = true := by kernel_rfl
theorem goes_n : (Try.f80.name == "runtime.NumGoroutine") = false := by kernel_rfl
theorem goes_ok (v : denL (leaves goes_i)) : goes v = pevCall Try.prog E_along_3 goes_h Try.f80 goes_i goes_o goes_r v := (goes_eq v).trans (goes_okd v)
theorem goes_spec : SpecOK Try.prog 80 (mkCall 2 goes_i goes_o goes_r goes) := call_spec E_along_3_ok Try.func80 goes_b goes_n rfl goes_ok (LoopsOK_of goes_q ⟨goes_l0, trivial⟩)
def E_goes : Env := E_along_3.ext 80 true true (mkCall 2 goes_i goes_o goes_r goes)
theorem E_goes_ok : EnvOK Try.prog E_goes := Env.ext_ok E_along_3_ok goes_spec (fun _ => mkCall_local rfl rfl) (fun _ => mkCall_in rfl rfl)

-- archipelago/tour.Right
abbrev tright_h : Hints := { loop := fun n => match n with | 0 => loopBy 0 87 tright_i0 tright_o0 tright_s0 | 1 => loopBy 0 87 tright_i1 tright_o1 tright_s1 | 2 => loopBy 0 87 tright_i2 tright_o2 tright_s2 | _ => fun _ _ _ => none, fp := fun n => match n with | 8 => [[], [], [], [], [], [], [], [], [], [], [], [], [], [], [], [], [], [], [], [], [], [], [], [], [0], [0], [], [], [], []] | _ => [] }
theorem tright_s2_ok : ∀ v, tright_s2 v = roundOf Try.prog E_goes tright_h 3 0 87 (loopOf Try.f38 2) tright_i2 tright_o2 v := by
  rintro ⟨a0, a1, a2, ⟨⟩⟩
  kernel_rfl
theorem tright_q2 : loopList (loopOf Try.f38 2) 3 = [] := by kernel_rfl
theorem tright_l2 : CodeOK Try.prog 0 (.loop (loopOf Try.f38 2)) (tright_h.loop 2) := loop_ok E_goes_ok (tright_s2_ok) (LoopsOK_of tright_q2 trivial)
theorem tright_s1_ok : ∀ v, tright_s1 v = roundOf Try.prog E_goes tright_h 2 0 87 (loopOf Try.f38 1) tright_i1 tright_o1 v := by
  rintro ⟨a0, a1, a2, a3, a4, a5, a6, a7, a8, a9, a10, a11, a12, a13, a14, a15, a16, a17, a18, a19, a20, a21, a22, a23, a24, a25, ⟨⟩⟩
  kernel_rfl
theorem tright_q1 : loopList (loopOf Try.f38 1) 2 = [] := by kernel_rfl
theorem tright_l1 : CodeOK Try.prog 0 (.loop (loopOf Try.f38 1)) (tright_h.loop 1) := loop_ok E_goes_ok (tright_s1_ok) (LoopsOK_of tright_q1 trivial)
theorem tright_s0_ok : ∀ v, tright_s0 v = roundOf Try.prog E_goes tright_h 1 0 87 (loopOf Try.f38 0) tright_i0 tright_o0 v := by
  rintro ⟨a0, a1, a2, a3, a4, a5, a6, ⟨⟩⟩
  kernel_rfl
theorem tright_q0 : loopList (loopOf Try.f38 0) 1 = [(1, loopOf Try.f38 1)] := by kernel_rfl
theorem tright_l0 : CodeOK Try.prog 0 (.loop (loopOf Try.f38 0)) (tright_h.loop 0) := loop_ok E_goes_ok (tright_s0_ok) (LoopsOK_of tright_q0 ⟨tright_l1, trivial⟩)
theorem tright_okd : ∀ v, tright_d v = pevCall Try.prog E_goes tright_h Try.f38 tright_i tright_o tright_r v := by
  rintro ⟨a0, ⟨⟩⟩
  kernel_rfl
theorem tright_q : loopList (bodyOf Try.f38) 0 = [(0, loopOf Try.f38 0), (2, loopOf Try.f38 2)] := by kernel_rfl
theorem tright_b : Try.f38.body.isSome = true := by kernel_rfl
theorem tright_n : (Try.f38.name == "runtime.NumGoroutine") = false := by kernel_rfl
theorem tright_ok (v : denL (leaves tright_i)) : tright v = pevCall Try.prog E_goes tright_h Try.f38 tright_i tright_o tright_r v := (tright_eq v).trans (tright_okd v)
theorem tright_spec : SpecOK Try.prog 38 (mkCall 1 tright_i tright_o tright_r tright) := call_spec E_goes_ok Try.func38 tright_b tright_n rfl tright_ok (LoopsOK_of tright_q ⟨tright_l0, tright_l2, trivial⟩)
def E_tright : Env := E_goes.ext 38 true true (mkCall 1 tright_i tright_o tright_r tright)
theorem E_tright_ok : EnvOK Try.prog E_tright := Env.ext_ok E_goes_ok tright_spec (fun _ => mkCall_local rfl rfl) (fun _ => mkCall_in rfl rfl)

end
end Go.Pev
end
section
/- The models are what the program computes. Printed by a program. -/
namespace Go.Pev
open Go.Proofs
set_option maxRecDepth 100000
noncomputable section
-- archipelago/tour.Of
abbrev tof_h : Hints := {  }
theorem tof_okd : ∀ v, tof_d v = pevCall Try.prog E_tright tof_h Try.f40 tof_i tof_o tof_r v := by
  rintro ⟨a0, a1, ⟨⟩⟩
  kernel_rfl
theorem tof_q : loopList (bodyOf Try.f40) 0 = [] := by kernel_rfl
theorem tof_b : Try.f40.body.isSome = true := by kernel_rfl
theorem tof_n : (Try.f40.name == "runtime.NumGoroutine") = false := by kernel_rfl
theorem tof_ok (v : denL (leaves tof_i)) : tof v = pevCall Try.prog E_tright tof_h Try.f40 tof_i tof_o tof_r v := (tof_eq v).trans (tof_okd v)
theorem tof_spec : SpecOK Try.prog 40 (mkCall 2 tof_i tof_o tof_r tof) := call_spec E_tright_ok Try.func40 tof_b tof_n rfl tof_ok (LoopsOK_of tof_q trivial)
def E_tof : Env := E_tright.ext 40 true true (mkCall 2 tof_i tof_o tof_r tof)
theorem E_tof_ok : EnvOK Try.prog E_tof := Env.ext_ok E_tright_ok tof_spec (fun _ => mkCall_local rfl rfl) (fun _ => mkCall_in rfl rfl)

-- archipelago/tour.asked
abbrev asked_h : Hints := {  }
theorem asked_okd : ∀ v, asked_d v = pevCall Try.prog E_tof asked_h Try.f65 asked_i asked_o asked_r v := by
  rintro ⟨a0, a1, a2, ⟨⟩⟩
  kernel_rfl
theorem asked_q : loopList (bodyOf Try.f65) 0 = [] := by kernel_rfl
theorem asked_b : Try.f65.body.isSome = true := by kernel_rfl
theorem asked_n : (Try.f65.name == "runtime.NumGoroutine") = false := by kernel_rfl
theorem asked_ok (v : denL (leaves asked_i)) : asked v = pevCall Try.prog E_tof asked_h Try.f65 asked_i asked_o asked_r v := (asked_eq v).trans (asked_okd v)
theorem asked_spec : SpecOK Try.prog 65 (mkCall 3 asked_i asked_o asked_r asked) := call_spec E_tof_ok Try.func65 asked_b asked_n rfl asked_ok (LoopsOK_of asked_q trivial)
def E_asked : Env := E_tof.ext 65 true true (mkCall 3 asked_i asked_o asked_r asked)
theorem E_asked_ok : EnvOK Try.prog E_asked := Env.ext_ok E_tof_ok asked_spec (fun _ => mkCall_local rfl rfl) (fun _ => mkCall_in rfl rfl)

-- cmp.isNaN[int]
abbrev nanI_h : Hints := {  }
theorem nanI_okd : ∀ v, nanI_d v = pevCall Try.prog E_asked nanI_h Try.f109 nanI_i nanI_o nanI_r v := by
  rintro ⟨a0, ⟨⟩⟩
  kernel_rfl
theorem nanI_q : loopList (bodyOf Try.f109) 0 = [] := by kernel_rfl
theorem nanI_b : Try.f109.body.isSome = true := by kernel_rfl
theorem nanI_n : (Try.f109.name == "runtime.NumGoroutine") = false := by kernel_rfl
theorem nanI_ok (v : denL (leaves nanI_i)) : nanI v = pevCall Try.prog E_asked nanI_h Try.f109 nanI_i nanI_o nanI_r v := (nanI_eq v).trans (nanI_okd v)
theorem nanI_spec : SpecOK Try.prog 109 (mkCall 1 nanI_i nanI_o nanI_r nanI) := call_spec E_asked_ok Try.func109 nanI_b nanI_n rfl nanI_ok (LoopsOK_of nanI_q trivial)
def E_nanI : Env := E_asked.ext 109 true true (mkCall 1 nanI_i nanI_o nanI_r nanI)
theorem E_nanI_ok : EnvOK Try.prog E_nanI := Env.ext_ok E_asked_ok nanI_spec (fun _ => mkCall_local rfl rfl) (fun _ => mkCall_in rfl rfl)

-- cmp.Compare[int]
abbrev compareI_h : Hints := {  }
theorem compareI_okd : ∀ v, compareI_d v = pevCall Try.prog E_nanI compareI_h Try.f100 compareI_i compareI_o compareI_r v := by
  rintro ⟨a0, a1, ⟨⟩⟩
  kernel_rfl
theorem compareI_q : loopList (bodyOf Try.f100) 0 = [] := by kernel_rfl
theorem compareI_b : Try.f100.body.isSome = true := by kernel_rfl
theorem compareI_n : (Try.f100.name == "runtime.NumGoroutine") = false := by kernel_rfl
theorem compareI_ok (v : denL (leaves compareI_i)) : compareI v = pevCall Try.prog E_nanI compareI_h Try.f100 compareI_i compareI_o compareI_r v := (compareI_eq v).trans (compareI_okd v)
theorem compareI_spec : SpecOK Try.prog 100 (mkCall 2 compareI_i compareI_o compareI_r compareI) := call_spec E_nanI_ok Try.func100 compareI_b compareI_n rfl compareI_ok (LoopsOK_of compareI_q trivial)
def E_compareI : Env := E_nanI.ext 100 true true (mkCall 2 compareI_i compareI_o compareI_r compareI)
theorem E_compareI_ok : EnvOK Try.prog E_compareI := Env.ext_ok E_nanI_ok compareI_spec (fun _ => mkCall_local rfl rfl) (fun _ => mkCall_in rfl rfl)

-- archipelago/tour.with$1
abbrev with1_h : Hints := { fp := fun n => match n with | 1 => [[], [], [], [], [], [], [], []] | _ => [] }
theorem with1_okd : ∀ v, with1_d v = pevCall Try.prog E_compareI with1_h Try.f99 with1_i with1_o with1_r v := by
  rintro ⟨a0, a1, ⟨⟩⟩
  kernel_rfl
theorem with1_q : loopList (bodyOf Try.f99) 0 = [] := by kernel_rfl
theorem with1_b : Try.f99.body.isSome = true := by kernel_rfl
theorem with1_n : (Try.f99.name == "runtime.NumGoroutine") = false := by kernel_rfl
theorem with1_ok (v : denL (leaves with1_i)) : with1 v = pevCall Try.prog E_compareI with1_h Try.f99 with1_i with1_o with1_r v := (with1_eq v).trans (with1_okd v)
theorem with1_spec : SpecOK Try.prog 99 (mkCall 2 with1_i with1_o with1_r with1) := call_spec E_compareI_ok Try.func99 with1_b with1_n rfl with1_ok (LoopsOK_of with1_q trivial)
def E_with1 : Env := E_compareI.ext 99 true true (mkCall 2 with1_i with1_o with1_r with1)
theorem E_with1_ok : EnvOK Try.prog E_with1 := Env.ext_ok E_compareI_ok with1_spec (fun _ => mkCall_local rfl rfl) (fun _ => mkCall_in rfl rfl)

-- math/bits.Len64
abbrev len64_h : Hints := {  }
theorem len64_okd : ∀ v, len64_d v = pevCall Try.prog E_with1 len64_h Try.f121 len64_i len64_o len64_r v := by
  rintro ⟨a0, ⟨⟩⟩
  kernel_rfl
theorem len64_q : loopList (bodyOf Try.f121) 0 = [] := by kernel_rfl
theorem len64_b : Try.f121.body.isSome = true := by kernel_rfl
theorem len64_n : (Try.f121.name == "runtime.NumGoroutine") = false := by kernel_rfl
theorem len64_ok (v : denL (leaves len64_i)) : len64 v = pevCall Try.prog E_with1 len64_h Try.f121 len64_i len64_o len64_r v := (len64_eq v).trans (len64_okd v)
theorem len64_spec : SpecOK Try.prog 121 (mkCall 1 len64_i len64_o len64_r len64) := call_spec E_with1_ok Try.func121 len64_b len64_n rfl len64_ok (LoopsOK_of len64_q trivial)
def E_len64 : Env := E_with1.ext 121 true true (mkCall 1 len64_i len64_o len64_r len64)
theorem E_len64_ok : EnvOK Try.prog E_len64 := Env.ext_ok E_with1_ok len64_spec (fun _ => mkCall_local rfl rfl) (fun _ => mkCall_in rfl rfl)

-- math/bits.Len
abbrev bitsLen_h : Hints := {  }
theorem bitsLen_okd : ∀ v, bitsLen_d v = pevCall Try.prog E_len64 bitsLen_h Try.f107 bitsLen_i bitsLen_o bitsLen_r v := by
  rintro ⟨a0, ⟨⟩⟩
  kernel_rfl
theorem bitsLen_q : loopList (bodyOf Try.f107) 0 = [] := by kernel_rfl
theorem bitsLen_b : Try.f107.body.isSome = true := by kernel_rfl
theorem bitsLen_n : (Try.f107.name == "runtime.NumGoroutine") = false := by kernel_rfl
theorem bitsLen_ok (v : denL (leaves bitsLen_i)) : bitsLen v = pevCall Try.prog E_len64 bitsLen_h Try.f107 bitsLen_i bitsLen_o bitsLen_r v := (bitsLen_eq v).trans (bitsLen_okd v)
theorem bitsLen_spec : SpecOK Try.prog 107 (mkCall 1 bitsLen_i bitsLen_o bitsLen_r bitsLen) := call_spec E_len64_ok Try.func107 bitsLen_b bitsLen_n rfl bitsLen_ok (LoopsOK_of bitsLen_q trivial)
def E_bitsLen : Env := E_len64.ext 107 true true (mkCall 1 bitsLen_i bitsLen_o bitsLen_r bitsLen)
theorem E_bitsLen_ok : EnvOK Try.prog E_bitsLen := Env.ext_ok E_len64_ok bitsLen_spec (fun _ => mkCall_local rfl rfl) (fun _ => mkCall_in rfl rfl)

-- (*slices.xorshift).Next
abbrev xorNext_h : Hints := { fp := fun n => match n with | 3 => [[], [0], [0], [], [0], [0], [], [], [0], [1]] | 2 => [[], [0], [0], [], [0], [0], [], [], [0], [1]] | 1 => [[], [0], [0], [], [0], [0], [], [], [0], [1]] | _ => [] }
theorem xorNext_okd : ∀ v, xorNext_d v = pevCall Try.prog E_bitsLen xorNext_h Try.f132 xorNext_i xorNext_o xorNext_r v := by
  rintro ⟨a0, ⟨⟩⟩
  kernel_rfl
theorem xorNext_q : loopList (bodyOf Try.f132) 0 = [] := by kernel_rfl
theorem xorNext_b : Try.f132.body.isSome = true := by kernel_rfl
theorem xorNext_n : (Try.f132.name == "runtime.NumGoroutine") = false := by kernel_rfl
theorem xorNext_ok (v : denL (leaves xorNext_i)) : xorNext v = pevCall Try.prog E_bitsLen xorNext_h Try.f132 xorNext_i xorNext_o xorNext_r v := (xorNext_eq v).trans (xorNext_okd v)
theorem xorNext_spec : SpecOK Try.prog 132 (mkCall 1 xorNext_i xorNext_o xorNext_r xorNext) := call_spec E_bitsLen_ok Try.func132 xorNext_b xorNext_n rfl xorNext_ok (LoopsOK_of xorNext_q trivial)
def E_xorNext : Env := E_bitsLen.ext 132 false true (mkCall 1 xorNext_i xorNext_o xorNext_r xorNext)
theorem E_xorNext_ok : EnvOK Try.prog E_xorNext := Env.ext_ok E_bitsLen_ok xorNext_spec ((by simp)) (fun _ => mkCall_in rfl rfl)

-- slices.nextPowerOfTwo
abbrev nextPow_h : Hints := {  }
theorem nextPow_okd : ∀ v, nextPow_d v = pevCall Try.prog E_xorNext nextPow_h Try.f131 nextPow_i nextPow_o nextPow_r v := by
  rintro ⟨a0, ⟨⟩⟩
  kernel_rfl
theorem nextPow_q : loopList (bodyOf Try.f131) 0 = [] := by kernel_rfl
theorem nextPow_b : Try.f131.body.isSome = true := by kernel_rfl
theorem nextPow_n : (Try.f131.name == "runtime.NumGoroutine") = false := by kernel_rfl
theorem nextPow_ok (v : denL (leaves nextPow_i)) : nextPow v = pevCall Try.prog E_xorNext nextPow_h Try.f131 nextPow_i nextPow_o nextPow_r v := (nextPow_eq v).trans (nextPow_okd v)
theorem nextPow_spec : SpecOK Try.prog 131 (mkCall 1 nextPow_i nextPow_o nextPow_r nextPow) := call_spec E_xorNext_ok Try.func131 nextPow_b nextPow_n rfl nextPow_ok (LoopsOK_of nextPow_q trivial)
def E_nextPow : Env := E_xorNext.ext 131 true true (mkCall 1 nextPow_i nextPow_o nextPow_r nextPow)
theorem E_nextPow_ok : EnvOK Try.prog E_nextPow := Env.ext_ok E_xorNext_ok nextPow_spec (fun _ => mkCall_local rfl rfl) (fun _ => mkCall_in rfl rfl)

-- slices.insertionSortCmpFunc[[]int]
abbrev insL_h : Hints := { loop := fun n => match n with | 0 => loopBy 1 53 insL_i0 insL_o0 insL_s0 | 1 => loopBy 1 53 insL_i1 insL_o1 insL_s1 | _ => fun _ _ _ => none, fp := fun n => match n with | 4 => [[], [], [], [], [], [], [], [0], [0], [], [], [], [0], [0], [], [], []] | 6 => [[], [], [], [], [], [], [], [], [0], [0], [], [], [0], [0], [0], [1], [0], [1]] | _ => [] }
theorem insL_s1_ok : ∀ v, insL_s1 v = roundOf Try.prog E_nextPow insL_h 2 1 53 (loopOf Try.f122 1) insL_i1 insL_o1 v := by
  rintro ⟨a0, a1, a2, a3, a4, ⟨⟩⟩
  kernel_rfl
theorem insL_q1 : loopList (loopOf Try.f122 1) 2 = [] := by kernel_rfl
theorem insL_l1 : CodeOK Try.prog 1 (.loop (loopOf Try.f122 1)) (insL_h.loop 1) := loop_ok E_nextPow_ok (insL_s1_ok) (LoopsOK_of insL_q1 trivial)
theorem insL_s0_ok : ∀ v, insL_s0 v = roundOf Try.prog E_nextPow insL_h 1 1 53 (loopOf Try.f122 0) insL_i0 insL_o0 v := by
  rintro ⟨a0, a1, a2, a3, ⟨⟩⟩
  kernel_rfl
theorem insL_q0 : loopList (loopOf Try.f122 0) 1 = [(1, loopOf Try.f122 1)] := by kernel_rfl
theorem insL_l0 : CodeOK Try.prog 1 (.loop (loopOf Try.f122 0)) (insL_h.loop 0) := loop_ok E_nextPow_ok (insL_s0_ok) (LoopsOK_of insL_q0 ⟨insL_l1, trivial⟩)
theorem insL_okd : ∀ v, insL_d v = pevCall Try.prog E_nextPow insL_h Try.f122 insL_i insL_o insL_r v := by
  rintro ⟨a0, a1, a2, ⟨⟩⟩
  kernel_rfl
theorem insL_q : loopList (bodyOf Try.f122) 0 = [(0, loopOf Try.f122 0)] := by kernel_rfl
theorem insL_b : Try.f122.body.isSome = true := by kernel_rfl
theorem insL_n : (Try.f122.name == "runtime.NumGoroutine") = false := by kernel_rfl
theorem insL_ok (v : denL (leaves insL_i)) : insL v = pevCall Try.prog E_nextPow insL_h Try.f122 insL_i insL_o insL_r v := (insL_eq v).trans (insL_okd v)
theorem insL_spec : SpecOK Try.prog 122 (mkCall 4 insL_i insL_o insL_r insL) := call_spec E_nextPow_ok Try.func122 insL_b insL_n rfl insL_ok (LoopsOK_of insL_q ⟨insL_l0, trivial⟩)
def E_insL : Env := E_nextPow.extC 122 3 99 (mkCall 4 insL_i insL_o insL_r insL)
theorem E_insL_ok : EnvOK Try.prog E_insL := Env.extC_ok E_nextPow_ok insL_spec (mkCall_in rfl rfl)

-- slices.siftDownCmpFunc[[]int]
abbrev siftL_h : Hints := { loop := fun n => match n with | 0 => loopBy 1 82 siftL_i0 siftL_o0 siftL_s0 | _ => fun _ _ _ => none, fp := fun n => match n with | 6 => [[], [], [], [], [], [], [], [], [], [], [], [], [0], [0], [], [], [], [], [0], [0], [0], [1], [0], [1]] | 5 => [[], [], [], [], [], [0], [0], [], [], [], [], [0], [0], [], [], []] | 3 => [[], [], [], [], [], [], [], [], [], [], [0], [0], [], [], [], [], [], [0], [0], [], [], []] | _ => [] }
theorem siftL_s0_ok : ∀ v, siftL_s0 v = roundOf Try.prog E_insL siftL_h 1 1 82 (loopOf Try.f136 0) siftL_i0 siftL_o0 v := by
  rintro ⟨a0, a1, a2, a3, ⟨⟩⟩
  kernel_rfl
theorem siftL_q0 : loopList (loopOf Try.f136 0) 1 = [] := by kernel_rfl
theorem siftL_l0 : CodeOK Try.prog 1 (.loop (loopOf Try.f136 0)) (siftL_h.loop 0) := loop_ok E_insL_ok (siftL_s0_ok) (LoopsOK_of siftL_q0 trivial)
theorem siftL_okd : ∀ v, siftL_d v = pevCall Try.prog E_insL siftL_h Try.f136 siftL_i siftL_o siftL_r v := by
  rintro ⟨a0, a1, a2, a3, ⟨⟩⟩
  kernel_rfl
theorem siftL_q : loopList (bodyOf Try.f136) 0 = [(0, loopOf Try.f136 0)] := by kernel_rfl
theorem siftL_b : Try.f136.body.isSome = true := by kernel_rfl
theorem siftL_n : (Try.f136.name == "runtime.NumGoroutine") = false := by kernel_rfl
theorem siftL_ok (v : denL (leaves siftL_i)) : siftL v = pevCall Try.prog E_insL siftL_h Try.f136 siftL_i siftL_o siftL_r v := (siftL_eq v).trans (siftL_okd v)
theorem siftL_spec : SpecOK Try.prog 136 (mkCall 5 siftL_i siftL_o siftL_r siftL) := call_spec E_insL_ok Try.func136 siftL_b siftL_n rfl siftL_ok (LoopsOK_of siftL_q ⟨siftL_l0, trivial⟩)
def E_siftL : Env := E_insL.extC 136 4 99 (mkCall 5 siftL_i siftL_o siftL_r siftL)
theorem E_siftL_ok : EnvOK Try.prog E_siftL := Env.extC_ok E_insL_ok siftL_spec (mkCall_in rfl rfl)

-- slices.heapSortCmpFunc[[]int]
abbrev heapL_h : Hints := { loop := fun n => match n with | 0 => loopBy 1 60 heapL_i0 heapL_o0 heapL_s0 | 1 => loopBy 1 60 heapL_i1 heapL_o1 heapL_s1 | _ => fun _ _ _ => none, fp := fun n => match n with | 10 => [[], [], [], [], [], [], [], [], [], [], [0], [0], [], [], [0], [0], [0], [1], [0], [1]] | _ => [] }
theorem heapL_s1_ok : ∀ v, heapL_s1 v = roundOf Try.prog E_siftL heapL_h 2 1 60 (loopOf Try.f123 1) heapL_i1 heapL_o1 v := by
  rintro ⟨a0, a1, a2, a3, ⟨⟩⟩
  kernel_rfl
theorem heapL_q1 : loopList (loopOf Try.f123 1) 2 = [] := by kernel_rfl
theorem heapL_l1 : CodeOK Try.prog 1 (.loop (loopOf Try.f123 1)) (heapL_h.loop 1) := loop_ok E_siftL_ok (heapL_s1_ok) (LoopsOK_of heapL_q1 trivial)
theorem heapL_s0_ok : ∀ v, heapL_s0 v = roundOf Try.prog E_siftL heapL_h 1 1 60 (loopOf Try.f123 0) heapL_i0 heapL_o0 v := by
  rintro ⟨a0, a1, a2, a3, a4, ⟨⟩⟩
  kernel_rfl
theorem heapL_q0 : loopList (loopOf Try.f123 0) 1 = [] := by kernel_rfl
theorem heapL_l0 : CodeOK Try.prog 1 (.loop (loopOf Try.f123 0)) (heapL_h.loop 0) := loop_ok E_siftL_ok (heapL_s0_ok) (LoopsOK_of heapL_q0 trivial)
theorem heapL_okd : ∀ v, heapL_d v = pevCall Try.prog E_siftL heapL_h Try.f123 heapL_i heapL_o heapL_r v := by
  rintro ⟨a0, a1, a2, ⟨⟩⟩
  kernel_rfl
theorem heapL_q : loopList (bodyOf Try.f123) 0 = [(0, loopOf Try.f123 0), (1, loopOf Try.f123 1)] := by kernel_rfl
theorem heapL_b : Try.f123.body.isSome = true := by kernel_rfl
theorem heapL_n : (Try.f123.name == "runtime.NumGoroutine") = false := by kernel_rfl
theorem heapL_ok (v : denL (leaves heapL_i)) : heapL v = pevCall Try.prog E_siftL heapL_h Try.f123 heapL_i heapL_o heapL_r v := (heapL_eq v).trans (heapL_okd v)
theorem heapL_spec : SpecOK Try.prog 123 (mkCall 4 heapL_i heapL_o heapL_r heapL) := call_spec E_siftL_ok Try.func123 heapL_b heapL_n rfl heapL_ok (LoopsOK_of heapL_q ⟨heapL_l0, heapL_l1, trivial⟩)
def E_heapL : Env := E_siftL.extC 123 3 99 (mkCall 4 heapL_i heapL_o heapL_r heapL)
theorem E_heapL_ok : EnvOK Try.prog E_heapL := Env.extC_ok E_siftL_ok heapL_spec (mkCall_in rfl rfl)

end
end Go.Pev
end
section
/- The models are what the program computes. Printed by a program. -/
namespace Go.Pev
open Go.Proofs
set_option maxRecDepth 100000
noncomputable section
-- slices.breakPatternsCmpFunc[[]int]
abbrev breakL_h : Hints := { loop := fun n => match n with | 0 => loopBy 1 67 breakL_i0 breakL_o0 breakL_s0 | _ => fun _ _ _ => none, fp := fun n => match n with | 10 => [[], [], [], [], [], [], [], [], [], [], [0], [0], [], [], [0], [0], [0], [1], [0], [1]] | _ => [] }
theorem breakL_s0_ok : ∀ v, breakL_s0 v = roundOf Try.prog E_heapL breakL_h 1 1 67 (loopOf Try.f124 0) breakL_i0 breakL_o0 v := by
  rintro ⟨a0, a1, a2, a3, a4, a5, ⟨⟩⟩
  kernel_rfl
theorem breakL_q0 : loopList (loopOf Try.f124 0) 1 = [] := by kernel_rfl
theorem breakL_l0 : CodeOK Try.prog 1 (.loop (loopOf Try.f124 0)) (breakL_h.loop 0) := loop_ok E_heapL_ok (breakL_s0_ok) (LoopsOK_of breakL_q0 trivial)
theorem breakL_okd : ∀ v, breakL_d v = pevCall Try.prog E_heapL breakL_h Try.f124 breakL_i breakL_o breakL_r v := by
  rintro ⟨a0, a1, a2, ⟨⟩⟩
  kernel_rfl
theorem breakL_q : loopList (bodyOf Try.f124) 0 = [(0, loopOf Try.f124 0)] := by kernel_rfl
theorem breakL_b : Try.f124.body.isSome = true := by kernel_rfl
theorem breakL_n : (Try.f124.name == "runtime.NumGoroutine") = false := by kernel_rfl
theorem breakL_ok (v : denL (leaves breakL_i)) : breakL v = pevCall Try.prog E_heapL breakL_h Try.f124 breakL_i breakL_o breakL_r v := (breakL_eq v).trans (breakL_okd v)
theorem breakL_spec : SpecOK Try.prog 124 (mkCall 4 breakL_i breakL_o breakL_r breakL) := call_spec E_heapL_ok Try.func124 breakL_b breakL_n rfl breakL_ok (LoopsOK_of breakL_q ⟨breakL_l0, trivial⟩)
def E_breakL : Env := E_heapL.extC 124 3 99 (mkCall 4 breakL_i breakL_o breakL_r breakL)
theorem E_breakL_ok : EnvOK Try.prog E_breakL := Env.extC_ok E_heapL_ok breakL_spec (mkCall_in rfl rfl)

-- slices.order2CmpFunc[[]int]
abbrev order2L_h : Hints := { fp := fun n => match n with | 1 => [[], [], [], [0], [0], [], [], [0], [0], [], []] | _ => [] }
theorem order2L_okd : ∀ v, order2L_d v = pevCall Try.prog E_breakL order2L_h Try.f140 order2L_i order2L_o order2L_r v := by
  rintro ⟨a0, a1, a2, a3, ⟨⟩⟩
  kernel_rfl
theorem order2L_q : loopList (bodyOf Try.f140) 0 = [] := by kernel_rfl
theorem order2L_b : Try.f140.body.isSome = true := by kernel_rfl
theorem order2L_n : (Try.f140.name == "runtime.NumGoroutine") = false := by kernel_rfl
theorem order2L_ok (v : denL (leaves order2L_i)) : order2L v = pevCall Try.prog E_breakL order2L_h Try.f140 order2L_i order2L_o order2L_r v := (order2L_eq v).trans (order2L_okd v)
theorem order2L_spec : SpecOK Try.prog 140 (mkCall 5 order2L_i order2L_o order2L_r order2L) := call_spec E_breakL_ok Try.func140 order2L_b order2L_n rfl order2L_ok (LoopsOK_of order2L_q trivial)
def E_order2L : Env := E_breakL.extC 140 4 99 (mkCall 5 order2L_i order2L_o order2L_r order2L)
theorem E_order2L_ok : EnvOK Try.prog E_order2L := Env.extC_ok E_breakL_ok order2L_spec (mkCall_in rfl rfl)

-- slices.medianCmpFunc[[]int]
abbrev medianL_h : Hints := {  }
theorem medianL_okd : ∀ v, medianL_d v = pevCall Try.prog E_order2L medianL_h Try.f138 medianL_i medianL_o medianL_r v := by
  rintro ⟨a0, a1, a2, a3, a4, ⟨⟩⟩
  kernel_rfl
theorem medianL_q : loopList (bodyOf Try.f138) 0 = [] := by kernel_rfl
theorem medianL_b : Try.f138.body.isSome = true := by kernel_rfl
theorem medianL_n : (Try.f138.name == "runtime.NumGoroutine") = false := by kernel_rfl
theorem medianL_ok (v : denL (leaves medianL_i)) : medianL v = pevCall Try.prog E_order2L medianL_h Try.f138 medianL_i medianL_o medianL_r v := (medianL_eq v).trans (medianL_okd v)
theorem medianL_spec : SpecOK Try.prog 138 (mkCall 6 medianL_i medianL_o medianL_r medianL) := call_spec E_order2L_ok Try.func138 medianL_b medianL_n rfl medianL_ok (LoopsOK_of medianL_q trivial)
def E_medianL : Env := E_order2L.extC 138 5 99 (mkCall 6 medianL_i medianL_o medianL_r medianL)
theorem E_medianL_ok : EnvOK Try.prog E_medianL := Env.extC_ok E_order2L_ok medianL_spec (mkCall_in rfl rfl)

-- slices.medianAdjacentCmpFunc[[]int]
abbrev medAdjL_h : Hints := {  }
theorem medAdjL_okd : ∀ v, medAdjL_d v = pevCall Try.prog E_medianL medAdjL_h Try.f137 medAdjL_i medAdjL_o medAdjL_r v := by
  rintro ⟨a0, a1, a2, ⟨⟩⟩
  kernel_rfl
theorem medAdjL_q : loopList (bodyOf Try.f137) 0 = [] := by kernel_rfl
theorem medAdjL_b : Try.f137.body.isSome = true := by kernel_rfl
theorem medAdjL_n : (Try.f137.name == "runtime.NumGoroutine") = false := by kernel_rfl
theorem medAdjL_ok (v : denL (leaves medAdjL_i)) : medAdjL v = pevCall Try.prog E_medianL medAdjL_h Try.f137 medAdjL_i medAdjL_o medAdjL_r v := (medAdjL_eq v).trans (medAdjL_okd v)
theorem medAdjL_spec : SpecOK Try.prog 137 (mkCall 4 medAdjL_i medAdjL_o medAdjL_r medAdjL) := call_spec E_medianL_ok Try.func137 medAdjL_b medAdjL_n rfl medAdjL_ok (LoopsOK_of medAdjL_q trivial)
def E_medAdjL : Env := E_medianL.extC 137 3 99 (mkCall 4 medAdjL_i medAdjL_o medAdjL_r medAdjL)
theorem E_medAdjL_ok : EnvOK Try.prog E_medAdjL := Env.extC_ok E_medianL_ok medAdjL_spec (mkCall_in rfl rfl)

-- slices.choosePivotCmpFunc[[]int]
abbrev pivotL_h : Hints := {  }
theorem pivotL_okd : ∀ v, pivotL_d v = pevCall Try.prog E_medAdjL pivotL_h Try.f125 pivotL_i pivotL_o pivotL_r v := by
  rintro ⟨a0, a1, a2, ⟨⟩⟩
  kernel_rfl
theorem pivotL_q : loopList (bodyOf Try.f125) 0 = [] := by kernel_rfl
theorem pivotL_b : Try.f125.body.isSome = true := by kernel_rfl
theorem pivotL_n : (Try.f125.name == "runtime.NumGoroutine") = false := by kernel_rfl
theorem pivotL_ok (v : denL (leaves pivotL_i)) : pivotL v = pevCall Try.prog E_medAdjL pivotL_h Try.f125 pivotL_i pivotL_o pivotL_r v := (pivotL_eq v).trans (pivotL_okd v)
theorem pivotL_spec : SpecOK Try.prog 125 (mkCall 4 pivotL_i pivotL_o pivotL_r pivotL) := call_spec E_medAdjL_ok Try.func125 pivotL_b pivotL_n rfl pivotL_ok (LoopsOK_of pivotL_q trivial)
def E_pivotL : Env := E_medAdjL.extC 125 3 99 (mkCall 4 pivotL_i pivotL_o pivotL_r pivotL)
theorem E_pivotL_ok : EnvOK Try.prog E_pivotL := Env.extC_ok E_medAdjL_ok pivotL_spec (mkCall_in rfl rfl)

-- slices.reverseRangeCmpFunc[[]int]
abbrev revL_h : Hints := { loop := fun n => match n with | 0 => loopBy 1 34 revL_i0 revL_o0 revL_s0 | _ => fun _ _ _ => none, fp := fun n => match n with | 3 => [[], [], [], [], [], [], [0], [0], [], [], [0], [0], [0], [1], [0], [1]] | _ => [] }
theorem revL_s0_ok : ∀ v, revL_s0 v = roundOf Try.prog E_pivotL revL_h 1 1 34 (loopOf Try.f126 0) revL_i0 revL_o0 v := by
  rintro ⟨a0, a1, a2, ⟨⟩⟩
  kernel_rfl
theorem revL_q0 : loopList (loopOf Try.f126 0) 1 = [] := by kernel_rfl
theorem revL_l0 : CodeOK Try.prog 1 (.loop (loopOf Try.f126 0)) (revL_h.loop 0) := loop_ok E_pivotL_ok (revL_s0_ok) (LoopsOK_of revL_q0 trivial)
theorem revL_okd : ∀ v, revL_d v = pevCall Try.prog E_pivotL revL_h Try.f126 revL_i revL_o revL_r v := by
  rintro ⟨a0, a1, a2, ⟨⟩⟩
  kernel_rfl
theorem revL_q : loopList (bodyOf Try.f126) 0 = [(0, loopOf Try.f126 0)] := by kernel_rfl
theorem revL_b : Try.f126.body.isSome = true := by kernel_rfl
theorem revL_n : (Try.f126.name == "runtime.NumGoroutine") = false := by kernel_rfl
theorem revL_ok (v : denL (leaves revL_i)) : revL v = pevCall Try.prog E_pivotL revL_h Try.f126 revL_i revL_o revL_r v := (revL_eq v).trans (revL_okd v)
theorem revL_spec : SpecOK Try.prog 126 (mkCall 4 revL_i revL_o revL_r revL) := call_spec E_pivotL_ok Try.func126 revL_b revL_n rfl revL_ok (LoopsOK_of revL_q ⟨revL_l0, trivial⟩)
def E_revL : Env := E_pivotL.extC 126 3 99 (mkCall 4 revL_i revL_o revL_r revL)
theorem E_revL_ok : EnvOK Try.prog E_revL := Env.extC_ok E_pivotL_ok revL_spec (mkCall_in rfl rfl)

-- slices.partialInsertionSortCmpFunc[[]int]
abbrev partInsL_h : Hints := { loop := fun n => match n with | 0 => loopBy 1 141 partInsL_i0 partInsL_o0 partInsL_s0 | 1 => loopBy 1 141 partInsL_i1 partInsL_o1 partInsL_s1 | 2 => loopBy 1 141 partInsL_i2 partInsL_o2 partInsL_s2 | 3 => loopBy 1 141 partInsL_i3 partInsL_o3 partInsL_s3 | _ => fun _ _ _ => none, fp := fun n => match n with | 11 => [[], [], [], [], [], [], [], [], [0], [0], [], [], [0], [0], [0], [1], [0], [1]] | 5 => [[], [], [], [], [], [], [], [0], [0], [], [], [], [0], [0], [], [], [], []] | 17 => [[], [], [], [], [], [], [], [], [0], [0], [], [], [0], [0], [0], [1], [0], [1]] | 16 => [[], [], [], [0], [0], [], [], [], [0], [0], [], [], []] | 23 => [[], [], [], [], [], [], [], [], [0], [0], [], [], [0], [0], [0], [1], [0], [1]] | 22 => [[], [], [], [0], [0], [], [], [], [0], [0], [], [], []] | _ => [] }
theorem partInsL_s3_ok : ∀ v, partInsL_s3 v = roundOf Try.prog E_revL partInsL_h 4 1 141 (loopOf Try.f127 3) partInsL_i3 partInsL_o3 v := by
  rintro ⟨a0, a1, a2, a3, a4, a5, ⟨⟩⟩
  kernel_rfl
theorem partInsL_q3 : loopList (loopOf Try.f127 3) 4 = [] := by kernel_rfl
theorem partInsL_l3 : CodeOK Try.prog 1 (.loop (loopOf Try.f127 3)) (partInsL_h.loop 3) := loop_ok E_revL_ok (partInsL_s3_ok) (LoopsOK_of partInsL_q3 trivial)
theorem partInsL_s2_ok : ∀ v, partInsL_s2 v = roundOf Try.prog E_revL partInsL_h 3 1 141 (loopOf Try.f127 2) partInsL_i2 partInsL_o2 v := by
  rintro ⟨a0, a1, a2, a3, a4, a5, ⟨⟩⟩
  kernel_rfl
theorem partInsL_q2 : loopList (loopOf Try.f127 2) 3 = [] := by kernel_rfl
theorem partInsL_l2 : CodeOK Try.prog 1 (.loop (loopOf Try.f127 2)) (partInsL_h.loop 2) := loop_ok E_revL_ok (partInsL_s2_ok) (LoopsOK_of partInsL_q2 trivial)
theorem partInsL_s1_ok : ∀ v, partInsL_s1 v = roundOf Try.prog E_revL partInsL_h 2 1 141 (loopOf Try.f127 1) partInsL_i1 partInsL_o1 v := by
  rintro ⟨a0, a1, a2, a3, a4, ⟨⟩⟩
  kernel_rfl
theorem partInsL_q1 : loopList (loopOf Try.f127 1) 2 = [] := by kernel_rfl
theorem partInsL_l1 : CodeOK Try.prog 1 (.loop (loopOf Try.f127 1)) (partInsL_h.loop 1) := loop_ok E_revL_ok (partInsL_s1_ok) (LoopsOK_of partInsL_q1 trivial)
theorem partInsL_s0_ok : ∀ v, partInsL_s0 v = roundOf Try.prog E_revL partInsL_h 1 1 141 (loopOf Try.f127 0) partInsL_i0 partInsL_o0 v := by
  rintro ⟨a0, a1, a2, a3, a4, ⟨⟩⟩
  kernel_rfl
theorem partInsL_q0 : loopList (loopOf Try.f127 0) 1 = [(1, loopOf Try.f127 1), (2, loopOf Try.f127 2), (3, loopOf Try.f127 3)] := by kernel_rfl
theorem partInsL_l0 : CodeOK Try.prog 1 (.loop (loopOf Try.f127 0)) (partInsL_h.loop 0) := loop_ok E_revL_ok (partInsL_s0_ok) (LoopsOK_of partInsL_q0 ⟨partInsL_l1, partInsL_l2, partInsL_l3, trivial⟩)
theorem partInsL_okd : ∀ v, partInsL_d v = pevCall Try.prog E_revL partInsL_h Try.f127 partInsL_i partInsL_o partInsL_r v := by
  rintro ⟨a0, a1, a2, ⟨⟩⟩
  kernel_rfl
theorem partInsL_q : loopList (bodyOf Try.f127) 0 = [(0, loopOf Try.f127 0)] := by kernel_rfl
theorem partInsL_b : Try.f127.body.isSome = true := by kernel_rfl
theorem partInsL_n : (Try.f127.name == "runtime.NumGoroutine") = false := by kernel_rfl
theorem partInsL_ok (v : denL (leaves partInsL_i)) : partInsL v = pevCall Try.prog E_revL partInsL_h Try.f127 partInsL_i partInsL_o partInsL_r v := (partInsL_eq v).trans (partInsL_okd v)
theorem partInsL_spec : SpecOK Try.prog 127 (mkCall 4 partInsL_i partInsL_o partInsL_r partInsL) := call_spec E_revL_ok Try.func127 partInsL_b partInsL_n rfl partInsL_ok (LoopsOK_of partInsL_q ⟨partInsL_l0, trivial⟩)
def E_partInsL : Env := E_revL.extC 127 3 99 (mkCall 4 partInsL_i partInsL_o partInsL_r partInsL)
theorem E_partInsL_ok : EnvOK Try.prog E_partInsL := Env.extC_ok E_revL_ok partInsL_spec (mkCall_in rfl rfl)

-- slices.partitionEqualCmpFunc[[]int]
abbrev partEqL_h : Hints := { loop := fun n => match n with | 0 => loopBy 1 90 partEqL_i0 partEqL_o0 partEqL_s0 | 1 => loopBy 1 90 partEqL_i1 partEqL_o1 partEqL_s1 | 2 => loopBy 1 90 partEqL_i2 partEqL_o2 partEqL_s2 | _ => fun _ _ _ => none, fp := fun n => match n with | 8 => [[], [], [], [], [], [], [0], [0], [], [], [0], [0], [0], [1], [0], [1]] | 3 => [[], [], [], [], [], [], [], [0], [0], [], [], [0], [0], [], [], [], []] | 5 => [[], [], [], [], [], [], [], [0], [0], [], [], [0], [0], [], [], []] | 1 => [[], [], [], [], [], [], [0], [0], [], [], [0], [0], [0], [1], [0], [1]] | _ => [] }
theorem partEqL_s2_ok : ∀ v, partEqL_s2 v = roundOf Try.prog E_partInsL partEqL_h 3 1 90 (loopOf Try.f128 2) partEqL_i2 partEqL_o2 v := by
  rintro ⟨a0, a1, a2, a3, ⟨⟩⟩
  kernel_rfl
theorem partEqL_q2 : loopList (loopOf Try.f128 2) 3 = [] := by kernel_rfl
theorem partEqL_l2 : CodeOK Try.prog 1 (.loop (loopOf Try.f128 2)) (partEqL_h.loop 2) := loop_ok E_partInsL_ok (partEqL_s2_ok) (LoopsOK_of partEqL_q2 trivial)
theorem partEqL_s1_ok : ∀ v, partEqL_s1 v = roundOf Try.prog E_partInsL partEqL_h 2 1 90 (loopOf Try.f128 1) partEqL_i1 partEqL_o1 v := by
  rintro ⟨a0, a1, a2, a3, ⟨⟩⟩
  kernel_rfl
theorem partEqL_q1 : loopList (loopOf Try.f128 1) 2 = [] := by kernel_rfl
theorem partEqL_l1 : CodeOK Try.prog 1 (.loop (loopOf Try.f128 1)) (partEqL_h.loop 1) := loop_ok E_partInsL_ok (partEqL_s1_ok) (LoopsOK_of partEqL_q1 trivial)
theorem partEqL_s0_ok : ∀ v, partEqL_s0 v = roundOf Try.prog E_partInsL partEqL_h 1 1 90 (loopOf Try.f128 0) partEqL_i0 partEqL_o0 v := by
  rintro ⟨a0, a1, a2, a3, ⟨⟩⟩
  kernel_rfl
theorem partEqL_q0 : loopList (loopOf Try.f128 0) 1 = [(1, loopOf Try.f128 1), (2, loopOf Try.f128 2)] := by kernel_rfl
theorem partEqL_l0 : CodeOK Try.prog 1 (.loop (loopOf Try.f128 0)) (partEqL_h.loop 0) := loop_ok E_partInsL_ok (partEqL_s0_ok) (LoopsOK_of partEqL_q0 ⟨partEqL_l1, partEqL_l2, trivial⟩)
theorem partEqL_okd : ∀ v, partEqL_d v = pevCall Try.prog E_partInsL partEqL_h Try.f128 partEqL_i partEqL_o partEqL_r v := by
  rintro ⟨a0, a1, a2, a3, ⟨⟩⟩
  kernel_rfl
theorem partEqL_q : loopList (bodyOf Try.f128) 0 = [(0, loopOf Try.f128 0)] := by kernel_rfl
theorem partEqL_b : Try.f128.body.isSome = true := by kernel_rfl
theorem partEqL_n : (Try.f128.name == "runtime.NumGoroutine") = false := by kernel_rfl
theorem partEqL_ok (v : denL (leaves partEqL_i)) : partEqL v = pevCall Try.prog E_partInsL partEqL_h Try.f128 partEqL_i partEqL_o partEqL_r v := (partEqL_eq v).trans (partEqL_okd v)
theorem partEqL_spec : SpecOK Try.prog 128 (mkCall 5 partEqL_i partEqL_o partEqL_r partEqL) := call_spec E_partInsL_ok Try.func128 partEqL_b partEqL_n rfl partEqL_ok (LoopsOK_of partEqL_q ⟨partEqL_l0, trivial⟩)
def E_partEqL : Env := E_partInsL.extC 128 4 99 (mkCall 5 partEqL_i partEqL_o partEqL_r partEqL)
theorem E_partEqL_ok : EnvOK Try.prog E_partEqL := Env.extC_ok E_partInsL_ok partEqL_spec (mkCall_in rfl rfl)

-- slices.partitionCmpFunc[[]int]
abbrev partL_h : Hints := { loop := fun n => match n with | 0 => loopBy 1 178 partL_i0 partL_o0 partL_s0 | 1 => loopBy 1 178 partL_i1 partL_o1 partL_s1 | 2 => loopBy 1 178 partL_i2 partL_o2 partL_s2 | 3 => loopBy 1 178 partL_i3 partL_o3 partL_s3 | 4 => loopBy 1 178 partL_i4 partL_o4 partL_s4 | _ => fun _ _ _ => none, fp := fun n => match n with | 3 => [[], [], [], [], [], [], [], [0], [0], [], [], [0], [0], [], [], []] | 5 => [[], [], [], [], [], [], [], [0], [0], [], [], [0], [0], [], [], [], []] | 18 => [[], [], [], [], [], [], [0], [0], [], [], [0], [0], [0], [1], [0], [1]] | 13 => [[], [], [], [], [], [], [], [0], [0], [], [], [0], [0], [], [], []] | 15 => [[], [], [], [], [], [], [], [0], [0], [], [], [0], [0], [], [], [], []] | 21 => [[], [], [], [], [], [], [0], [0], [], [], [0], [0], [0], [1], [0], [1]] | 10 => [[], [], [], [], [], [], [0], [0], [], [], [0], [0], [0], [1], [0], [1]] | 8 => [[], [], [], [], [], [], [0], [0], [], [], [0], [0], [0], [1], [0], [1]] | 1 => [[], [], [], [], [], [], [0], [0], [], [], [0], [0], [0], [1], [0], [1]] | _ => [] }
theorem partL_s4_ok : ∀ v, partL_s4 v = roundOf Try.prog E_partEqL partL_h 5 1 178 (loopOf Try.f129 4) partL_i4 partL_o4 v := by
  rintro ⟨a0, a1, a2, a3, ⟨⟩⟩
  kernel_rfl
theorem partL_q4 : loopList (loopOf Try.f129 4) 5 = [] := by kernel_rfl
theorem partL_l4 : CodeOK Try.prog 1 (.loop (loopOf Try.f129 4)) (partL_h.loop 4) := loop_ok E_partEqL_ok (partL_s4_ok) (LoopsOK_of partL_q4 trivial)
theorem partL_s3_ok : ∀ v, partL_s3 v = roundOf Try.prog E_partEqL partL_h 4 1 178 (loopOf Try.f129 3) partL_i3 partL_o3 v := by
  rintro ⟨a0, a1, a2, a3, ⟨⟩⟩
  kernel_rfl
theorem partL_q3 : loopList (loopOf Try.f129 3) 4 = [] := by kernel_rfl
theorem partL_l3 : CodeOK Try.prog 1 (.loop (loopOf Try.f129 3)) (partL_h.loop 3) := loop_ok E_partEqL_ok (partL_s3_ok) (LoopsOK_of partL_q3 trivial)
theorem partL_s2_ok : ∀ v, partL_s2 v = roundOf Try.prog E_partEqL partL_h 3 1 178 (loopOf Try.f129 2) partL_i2 partL_o2 v := by
  rintro ⟨a0, a1, a2, a3, ⟨⟩⟩
  kernel_rfl
theorem partL_q2 : loopList (loopOf Try.f129 2) 3 = [(3, loopOf Try.f129 3), (4, loopOf Try.f129 4)] := by kernel_rfl
theorem partL_l2 : CodeOK Try.prog 1 (.loop (loopOf Try.f129 2)) (partL_h.loop 2) := loop_ok E_partEqL_ok (partL_s2_ok) (LoopsOK_of partL_q2 ⟨partL_l3, partL_l4, trivial⟩)
theorem partL_s1_ok : ∀ v, partL_s1 v = roundOf Try.prog E_partEqL partL_h 2 1 178 (loopOf Try.f129 1) partL_i1 partL_o1 v := by
  rintro ⟨a0, a1, a2, a3, ⟨⟩⟩
  kernel_rfl
theorem partL_q1 : loopList (loopOf Try.f129 1) 2 = [] := by kernel_rfl
theorem partL_l1 : CodeOK Try.prog 1 (.loop (loopOf Try.f129 1)) (partL_h.loop 1) := loop_ok E_partEqL_ok (partL_s1_ok) (LoopsOK_of partL_q1 trivial)
theorem partL_s0_ok : ∀ v, partL_s0 v = roundOf Try.prog E_partEqL partL_h 1 1 178 (loopOf Try.f129 0) partL_i0 partL_o0 v := by
  rintro ⟨a0, a1, a2, a3, ⟨⟩⟩
  kernel_rfl
theorem partL_q0 : loopList (loopOf Try.f129 0) 1 = [] := by kernel_rfl
theorem partL_l0 : CodeOK Try.prog 1 (.loop (loopOf Try.f129 0)) (partL_h.loop 0) := loop_ok E_partEqL_ok (partL_s0_ok) (LoopsOK_of partL_q0 trivial)
theorem partL_okd : ∀ v, partL_d v = pevCall Try.prog E_partEqL partL_h Try.f129 partL_i partL_o partL_r v := by
  rintro ⟨a0, a1, a2, a3, ⟨⟩⟩
  kernel_rfl
theorem partL_q : loopList (bodyOf Try.f129) 0 = [(0, loopOf Try.f129 0), (1, loopOf Try.f129 1), (2, loopOf Try.f129 2)] := by kernel_rfl
theorem partL_b : Try.f129.body.isSome = true := by kernel_rfl
theorem partL_n : (Try.f129.name == "runtime.NumGoroutine") = false := by kernel_rfl
theorem partL_ok (v : denL (leaves partL_i)) : partL v = pevCall Try.prog E_partEqL partL_h Try.f129 partL_i partL_o partL_r v := (partL_eq v).trans (partL_okd v)
theorem partL_spec : SpecOK Try.prog 129 (mkCall 5 partL_i partL_o partL_r partL) := call_spec E_partEqL_ok Try.func129 partL_b partL_n rfl partL_ok (LoopsOK_of partL_q ⟨partL_l0, partL_l1, partL_l2, trivial⟩)
def E_partL : Env := E_partEqL.extC 129 4 99 (mkCall 5 partL_i partL_o partL_r partL)
theorem E_partL_ok : EnvOK Try.prog E_partL := Env.extC_ok E_partEqL_ok partL_spec (mkCall_in rfl rfl)

-- slices.pdqsortCmpFunc[[]int]
abbrev pdqL_h (self : (List (List Int) × Int × Int × Int × Unit) → Option ((List (List Int) × Unit))) : Hints := { loop := fun n => match n with | 0 => loopBy 1 148 pdqL_i0 pdqL_o0 (pdqL_s0 self) | _ => fun _ _ _ => none, fp := fun n => match n with | 17 => [[], [], [], [], [], [], [], [0], [0], [], [], [0], [0], [], [], [], []] | _ => [] }
abbrev pdqL_E (self : (List (List Int) × Int × Int × Int × Unit) → Option ((List (List Int) × Unit))) : Env := E_partL.ext 108 false true (mkCall 5 pdqL_i pdqL_o pdqL_r self)
theorem pdqL_s0_ok (self : (List (List Int) × Int × Int × Int × Unit) → Option ((List (List Int) × Unit))) : ∀ v, pdqL_s0 self v = roundOf Try.prog (pdqL_E self) (pdqL_h self) 1 1 148 (loopOf Try.f108 0) pdqL_i0 pdqL_o0 v := by
  rintro ⟨a0, a1, a2, a3, a4, a5, ⟨⟩⟩
  kernel_rfl
theorem pdqL_q0 : loopList (loopOf Try.f108 0) 1 = [] := by kernel_rfl
theorem pdqL_l0 (self : (List (List Int) × Int × Int × Int × Unit) → Option ((List (List Int) × Unit))) (hE : EnvOK Try.prog (pdqL_E self)) : CodeOK Try.prog 1 (.loop (loopOf Try.f108 0)) ((pdqL_h self).loop 0) := loop_ok hE (pdqL_s0_ok self) (LoopsOK_of pdqL_q0 trivial)
theorem pdqL_okd (self : (List (List Int) × Int × Int × Int × Unit) → Option ((List (List Int) × Unit))) : ∀ v, pdqL_d self v = pevCall Try.prog (pdqL_E self) (pdqL_h self) Try.f108 pdqL_i pdqL_o pdqL_r v := by
  rintro ⟨a0, a1, a2, a3, ⟨⟩⟩
  kernel_rfl
theorem pdqL_q : loopList (bodyOf Try.f108) 0 = [(0, loopOf Try.f108 0)] := by kernel_rfl
theorem pdqL_b : Try.f108.body.isSome = true := by kernel_rfl
theorem pdqL_n : (Try.f108.name == "runtime.NumGoroutine") = false := by kernel_rfl
theorem pdqL_fspec : ∀ n, SpecOK Try.prog 108 (mkCall 5 pdqL_i pdqL_o pdqL_r (pdqL_f n)) := by
  intro n
  induction n with
  | zero => exact mkCall_none fun _ => rfl
  | succ n ih =>
    have hE : EnvOK Try.prog (pdqL_E (pdqL_f n)) := Env.ext_ok E_partL_ok ih ((by simp)) (fun _ => mkCall_in rfl rfl)
    let self := pdqL_f n
    exact call_spec hE Try.func108 pdqL_b pdqL_n rfl (pdqL_okd self) (LoopsOK_of pdqL_q ⟨(pdqL_l0 self hE), trivial⟩)
theorem pdqL_spec : SpecOK Try.prog 108 (mkCall 5 pdqL_i pdqL_o pdqL_r pdqL) := by
  have e : pdqL = pdqL_f 100 := funext pdqL_eq
  rw [e]
  exact pdqL_fspec _
def E_pdqL : Env := E_partL.extC 108 4 99 (mkCall 5 pdqL_i pdqL_o pdqL_r pdqL)
theorem E_pdqL_ok : EnvOK Try.prog E_pdqL := Env.extC_ok E_partL_ok pdqL_spec (mkCall_in rfl rfl)

-- slices.SortFunc[[][]int,[]int]
abbrev sortL_h : Hints := {  }
theorem sortL_okd : ∀ v, sortL_d v = pevCall Try.prog E_pdqL sortL_h Try.f98 sortL_i sortL_o sortL_r v := by
  rintro ⟨a0, ⟨⟩⟩
  kernel_rfl
theorem sortL_q : loopList (bodyOf Try.f98) 0 = [] := by kernel_rfl
theorem sortL_b : Try.f98.body.isSome = true := by kernel_rfl
theorem sortL_n : (Try.f98.name == "runtime.NumGoroutine") = false := by kernel_rfl
theorem sortL_ok (v : denL (leaves sortL_i)) : sortL v = pevCall Try.prog E_pdqL sortL_h Try.f98 sortL_i sortL_o sortL_r v := (sortL_eq v).trans (sortL_okd v)
theorem sortL_spec : SpecOK Try.prog 98 (mkCall 2 sortL_i sortL_o sortL_r sortL) := call_spec E_pdqL_ok Try.func98 sortL_b sortL_n rfl sortL_ok (LoopsOK_of sortL_q trivial)
def E_sortL : Env := E_pdqL.extC 98 1 99 (mkCall 2 sortL_i sortL_o sortL_r sortL)
theorem E_sortL_ok : EnvOK Try.prog E_sortL := Env.extC_ok E_pdqL_ok sortL_spec (mkCall_in rfl rfl)

-- archipelago/tour.with
abbrev twith_h : Hints := { loop := fun n => match n with | 0 => loopBy 0 47 twith_i0 twith_o0 twith_s0 | 1 => loopBy 0 47 twith_i1 twith_o1 twith_s1 | _ => fun _ _ _ => none }
theorem twith_s1_ok : ∀ v, twith_s1 v = roundOf Try.prog E_sortL twith_h 2 0 47 (loopOf Try.f69 1) twith_i1 twith_o1 v := by
  rintro ⟨a0, a1, a2, a3, a4, a5, a6, ⟨⟩⟩
  kernel_rfl
theorem twith_q1 : loopList (loopOf Try.f69 1) 2 = [] := by kernel_rfl
theorem twith_l1 : CodeOK Try.prog 0 (.loop (loopOf Try.f69 1)) (twith_h.loop 1) := loop_ok E_sortL_ok (twith_s1_ok) (LoopsOK_of twith_q1 trivial)
theorem twith_s0_ok : ∀ v, twith_s0 v = roundOf Try.prog E_sortL twith_h 1 0 47 (loopOf Try.f69 0) twith_i0 twith_o0 v := by
  rintro ⟨a0, a1, a2, a3, a4, a5, a6, a7, a8, ⟨⟩⟩
  kernel_rfl
theorem twith_q0 : loopList (loopOf Try.f69 0) 1 = [] := by kernel_rfl
theorem twith_l0 : CodeOK Try.prog 0 (.loop (loopOf Try.f69 0)) (twith_h.loop 0) := loop_ok E_sortL_ok (twith_s0_ok) (LoopsOK_of twith_q0 trivial)
theorem twith_okd : ∀ v, twith_d v = pevCall Try.prog E_sortL twith_h Try.f69 twith_i twith_o twith_r v := by
  rintro ⟨a0, a1, a2, ⟨⟩⟩
  kernel_rfl
theorem twith_q : loopList (bodyOf Try.f69) 0 = [(0, loopOf Try.f69 0), (1, loopOf Try.f69 1)] := by kernel_rfl
theorem twith_b : Try.f69.body.isSome = true := by kernel_rfl
theorem twith_n : (Try.f69.name == "runtime.NumGoroutine") = false := by kernel_rfl
theorem twith_ok (v : denL (leaves twith_i)) : twith v = pevCall Try.prog E_sortL twith_h Try.f69 twith_i twith_o twith_r v := (twith_eq v).trans (twith_okd v)
theorem twith_spec : SpecOK Try.prog 69 (mkCall 3 twith_i twith_o twith_r twith) := call_spec E_sortL_ok Try.func69 twith_b twith_n rfl twith_ok (LoopsOK_of twith_q ⟨twith_l0, twith_l1, trivial⟩)
def E_twith : Env := E_sortL.ext 69 true true (mkCall 3 twith_i twith_o twith_r twith)
theorem E_twith_ok : EnvOK Try.prog E_twith := Env.ext_ok E_sortL_ok twith_spec (fun _ => mkCall_local rfl rfl) (fun _ => mkCall_in rfl rfl)

end
end Go.Pev
end
section
/- The models are what the program computes. Printed by a program. -/
namespace Go.Pev
open Go.Proofs
set_option maxRecDepth 100000
noncomputable section
-- archipelago/tour.Link
abbrev tlink_h : Hints := { fp := fun n => match n with | 9 => [[], [28], [0], [0], [], [], [], [], [], [0], [0], [], [], [], [], [], [28], [28, 52, 36, 62], [64], []] | 4 => [[0], [], [], [0], [], [], [], []] | _ => [] }
theorem tlink_okd : ∀ v, tlink_d v = pevCall Try.prog E_twith tlink_h Try.f33 tlink_i tlink_o tlink_r v := by
  rintro ⟨a0, a1, a2, ⟨⟩⟩
  kernel_rfl
theorem tlink_q : loopList (bodyOf Try.f33) 0 = [] := by kernel_rfl
theorem tlink_b : Try.f33.body.isSome = true := by kernel_rfl
theorem tlink_n : (Try.f33.name == "runtime.NumGoroutine") = false := by kernel_rfl
theorem tlink_ok (v : denL (leaves tlink_i)) : tlink v = pevCall Try.prog E_twith tlink_h Try.f33 tlink_i tlink_o tlink_r v := (tlink_eq v).trans (tlink_okd v)
theorem tlink_spec : SpecOK Try.prog 33 (mkCall 3 tlink_i tlink_o tlink_r tlink) := call_spec E_twith_ok Try.func33 tlink_b tlink_n rfl tlink_ok (LoopsOK_of tlink_q trivial)
def E_tlink : Env := E_twith.ext 33 true true (mkCall 3 tlink_i tlink_o tlink_r tlink)
theorem E_tlink_ok : EnvOK Try.prog E_tlink := Env.ext_ok E_twith_ok tlink_spec (fun _ => mkCall_local rfl rfl) (fun _ => mkCall_in rfl rfl)

-- archipelago/tour.Cut
abbrev tcut_h : Hints := { fp := fun n => match n with | 9 => [[0], [], [], [], [], [28], [], [], [], [28], [28], [52, 54], [3], []] | 5 => [[0], [0], [], [], [], [0], [0], [], [], [], [], [], [], [], [], []] | _ => [] }
theorem tcut_okd : ∀ v, tcut_d v = pevCall Try.prog E_tlink tcut_h Try.f35 tcut_i tcut_o tcut_r v := by
  rintro ⟨a0, a1, a2, ⟨⟩⟩
  kernel_rfl
theorem tcut_q : loopList (bodyOf Try.f35) 0 = [] := by kernel_rfl
theorem tcut_b : Try.f35.body.isSome = true := by kernel_rfl
theorem tcut_n : (Try.f35.name == "runtime.NumGoroutine") = false := by kernel_rfl
theorem tcut_ok (v : denL (leaves tcut_i)) : tcut v = pevCall Try.prog E_tlink tcut_h Try.f35 tcut_i tcut_o tcut_r v := (tcut_eq v).trans (tcut_okd v)
theorem tcut_spec : SpecOK Try.prog 35 (mkCall 3 tcut_i tcut_o tcut_r tcut) := call_spec E_tlink_ok Try.func35 tcut_b tcut_n rfl tcut_ok (LoopsOK_of tcut_q trivial)
def E_tcut : Env := E_tlink.ext 35 true true (mkCall 3 tcut_i tcut_o tcut_r tcut)
theorem E_tcut_ok : EnvOK Try.prog E_tcut := Env.ext_ok E_tlink_ok tcut_spec (fun _ => mkCall_local rfl rfl) (fun _ => mkCall_in rfl rfl)

-- archipelago/archipelagolaw18.alive
abbrev alive18_h : Hints := {  }
theorem alive18_okd : ∀ v, alive18_d v = pevCall Try.prog E_tcut alive18_h Try.f31 alive18_i alive18_o alive18_r v := by
  rintro ⟨⟨⟩⟩
  kernel_rfl
theorem alive18_q : loopList (bodyOf Try.f31) 0 = [] := by kernel_rfl
theorem alive18_b : Try.f31.body.isSome = true := by kernel_rfl
theorem alive18_n : (Try.f31.name == "runtime.NumGoroutine") = false := by kernel_rfl
theorem alive18_ok (v : denL (leaves alive18_i)) : alive18 v = pevCall Try.prog E_tcut alive18_h Try.f31 alive18_i alive18_o alive18_r v := (alive18_eq v).trans (alive18_okd v)
theorem alive18_spec : SpecOK Try.prog 31 (mkCall 0 alive18_i alive18_o alive18_r alive18) := call_spec E_tcut_ok Try.func31 alive18_b alive18_n rfl alive18_ok (LoopsOK_of alive18_q trivial)
def E_alive18 : Env := E_tcut.ext 31 true true (mkCall 0 alive18_i alive18_o alive18_r alive18)
theorem E_alive18_ok : EnvOK Try.prog E_alive18 := Env.ext_ok E_tcut_ok alive18_spec (fun _ => mkCall_local rfl rfl) (fun _ => mkCall_in rfl rfl)

-- archipelago/archipelagolaw18.TourAnswers
abbrev tourAnswers_h : Hints := { fp := fun n => match n with | 9 => [[26], [36], [], [], [], [], [], [], [], [46], [56], [], [], [], [], [], [], [], [], [0], [], [0], [], [], [], [], [0], [], [], [0], [], [], [], [], []] | _ => [] }
theorem tourAnswers_okd : ∀ v, tourAnswers_d v = pevCall Try.prog E_alive18 tourAnswers_h Try.f6 tourAnswers_i tourAnswers_o tourAnswers_r v := by
  rintro ⟨a0, a1, a2, ⟨⟩⟩
  kernel_rfl
theorem tourAnswers_q : loopList (bodyOf Try.f6) 0 = [] := by kernel_rfl
theorem tourAnswers_b : Try.f6.body.isSome = true := by kernel_rfl
theorem tourAnswers_n : (Try.f6.name == "runtime.NumGoroutine") = false := by kernel_rfl
theorem tourAnswers_ok (v : denL (leaves tourAnswers_i)) : tourAnswers v = pevCall Try.prog E_alive18 tourAnswers_h Try.f6 tourAnswers_i tourAnswers_o tourAnswers_r v := (tourAnswers_eq v).trans (tourAnswers_okd v)
theorem tourAnswers_spec : SpecOK Try.prog 6 (mkCall 3 tourAnswers_i tourAnswers_o tourAnswers_r tourAnswers) := call_spec E_alive18_ok Try.func6 tourAnswers_b tourAnswers_n rfl tourAnswers_ok (LoopsOK_of tourAnswers_q trivial)
def E_tourAnswers : Env := E_alive18.ext 6 true true (mkCall 3 tourAnswers_i tourAnswers_o tourAnswers_r tourAnswers)
theorem E_tourAnswers_ok : EnvOK Try.prog E_tourAnswers := Env.ext_ok E_alive18_ok tourAnswers_spec (fun _ => mkCall_local rfl rfl) (fun _ => mkCall_in rfl rfl)

-- archipelago/archipelagolaw18.TourTokens
abbrev tourTokens_h : Hints := {  }
theorem tourTokens_okd : ∀ v, tourTokens_d v = pevCall Try.prog E_tourAnswers tourTokens_h Try.f7 tourTokens_i tourTokens_o tourTokens_r v := by
  rintro ⟨a0, a1, a2, ⟨⟩⟩
  kernel_rfl
theorem tourTokens_q : loopList (bodyOf Try.f7) 0 = [] := by kernel_rfl
theorem tourTokens_b : Try.f7.body.isSome = true := by kernel_rfl
theorem tourTokens_n : (Try.f7.name == "runtime.NumGoroutine") = false := by kernel_rfl
theorem tourTokens_ok (v : denL (leaves tourTokens_i)) : tourTokens v = pevCall Try.prog E_tourAnswers tourTokens_h Try.f7 tourTokens_i tourTokens_o tourTokens_r v := (tourTokens_eq v).trans (tourTokens_okd v)
theorem tourTokens_spec : SpecOK Try.prog 7 (mkCall 3 tourTokens_i tourTokens_o tourTokens_r tourTokens) := call_spec E_tourAnswers_ok Try.func7 tourTokens_b tourTokens_n rfl tourTokens_ok (LoopsOK_of tourTokens_q trivial)
def E_tourTokens : Env := E_tourAnswers.ext 7 true true (mkCall 3 tourTokens_i tourTokens_o tourTokens_r tourTokens)
theorem E_tourTokens_ok : EnvOK Try.prog E_tourTokens := Env.ext_ok E_tourAnswers_ok tourTokens_spec (fun _ => mkCall_local rfl rfl) (fun _ => mkCall_in rfl rfl)

-- archipelago/archipelagolaw18.TourBack
abbrev tourBack_h : Hints := { fp := fun n => match n with | 10 => [[], [], [], [], [], [], [], [36], [0], [], [], [], [46], [0], [], [], [], [26], [], [], [], [26], [26], [], [0], [0], [], [], [], [], [], [26], [], [], [26], [], [], [], [], []] | _ => [] }
theorem tourBack_okd : ∀ v, tourBack_d v = pevCall Try.prog E_tourTokens tourBack_h Try.f8 tourBack_i tourBack_o tourBack_r v := by
  rintro ⟨a0, a1, a2, ⟨⟩⟩
  kernel_rfl
theorem tourBack_q : loopList (bodyOf Try.f8) 0 = [] := by kernel_rfl
theorem tourBack_b : Try.f8.body.isSome = true := by kernel_rfl
theorem tourBack_n : (Try.f8.name == "runtime.NumGoroutine") = false := by kernel_rfl
theorem tourBack_ok (v : denL (leaves tourBack_i)) : tourBack v = pevCall Try.prog E_tourTokens tourBack_h Try.f8 tourBack_i tourBack_o tourBack_r v := (tourBack_eq v).trans (tourBack_okd v)
theorem tourBack_spec : SpecOK Try.prog 8 (mkCall 3 tourBack_i tourBack_o tourBack_r tourBack) := call_spec E_tourTokens_ok Try.func8 tourBack_b tourBack_n rfl tourBack_ok (LoopsOK_of tourBack_q trivial)
def E_tourBack : Env := E_tourTokens.ext 8 true true (mkCall 3 tourBack_i tourBack_o tourBack_r tourBack)
theorem E_tourBack_ok : EnvOK Try.prog E_tourBack := Env.ext_ok E_tourTokens_ok tourBack_spec (fun _ => mkCall_local rfl rfl) (fun _ => mkCall_in rfl rfl)

-- archipelago/archipelagolaw18.TourArcs
abbrev tourArcs_h : Hints := { loop := fun n => match n with | 0 => loopBy 0 153 tourArcs_i0 tourArcs_o0 tourArcs_s0 | 1 => loopBy 0 153 tourArcs_i1 tourArcs_o1 tourArcs_s1 | 2 => loopBy 0 153 tourArcs_i2 tourArcs_o2 tourArcs_s2 | _ => fun _ _ _ => none, fp := fun n => match n with | 13 => [[0], [], [], [], [], [], [], [], [], [], [], [], [], [], [], [], [], [], [], [], [], [], [11], []] | 28 => [[], [], [], [], [], [0], [0], [], [], [], [], [], [], [], [], [], [], []] | _ => [] }
theorem tourArcs_s2_ok : ∀ v, tourArcs_s2 v = roundOf Try.prog E_tourBack tourArcs_h 3 0 153 (loopOf Try.f9 2) tourArcs_i2 tourArcs_o2 v := by
  rintro ⟨a0, a1, a2, a3, a4, a5, a6, a7, ⟨⟩⟩
  kernel_rfl
theorem tourArcs_q2 : loopList (loopOf Try.f9 2) 3 = [] := by kernel_rfl
theorem tourArcs_l2 : CodeOK Try.prog 0 (.loop (loopOf Try.f9 2)) (tourArcs_h.loop 2) := loop_ok E_tourBack_ok (tourArcs_s2_ok) (LoopsOK_of tourArcs_q2 trivial)
theorem tourArcs_s1_ok : ∀ v, tourArcs_s1 v = roundOf Try.prog E_tourBack tourArcs_h 2 0 153 (loopOf Try.f9 1) tourArcs_i1 tourArcs_o1 v := by
  rintro ⟨a0, a1, a2, a3, a4, a5, ⟨⟩⟩
  kernel_rfl
theorem tourArcs_q1 : loopList (loopOf Try.f9 1) 2 = [(2, loopOf Try.f9 2)] := by kernel_rfl
theorem tourArcs_l1 : CodeOK Try.prog 0 (.loop (loopOf Try.f9 1)) (tourArcs_h.loop 1) := loop_ok E_tourBack_ok (tourArcs_s1_ok) (LoopsOK_of tourArcs_q1 ⟨tourArcs_l2, trivial⟩)
theorem tourArcs_s0_ok : ∀ v, tourArcs_s0 v = roundOf Try.prog E_tourBack tourArcs_h 1 0 153 (loopOf Try.f9 0) tourArcs_i0 tourArcs_o0 v := by
  rintro ⟨a0, a1, a2, a3, a4, a5, ⟨⟩⟩
  kernel_rfl
theorem tourArcs_q0 : loopList (loopOf Try.f9 0) 1 = [] := by kernel_rfl
theorem tourArcs_l0 : CodeOK Try.prog 0 (.loop (loopOf Try.f9 0)) (tourArcs_h.loop 0) := loop_ok E_tourBack_ok (tourArcs_s0_ok) (LoopsOK_of tourArcs_q0 trivial)
theorem tourArcs_okd : ∀ v, tourArcs_d v = pevCall Try.prog E_tourBack tourArcs_h Try.f9 tourArcs_i tourArcs_o tourArcs_r v := by
  rintro ⟨a0, a1, ⟨⟩⟩
  kernel_rfl
theorem tourArcs_q : loopList (bodyOf Try.f9) 0 = [(0, loopOf Try.f9 0), (1, loopOf Try.f9 1)] := by kernel_rfl
theorem tourArcs_b : Try.f9.body.isSome = true := by kernel_rfl
theorem tourArcs_n : (Try.f9.name == "runtime.NumGoroutine") = false := by kernel_rfl
theorem tourArcs_ok (v : denL (leaves tourArcs_i)) : tourArcs v = pevCall Try.prog E_tourBack tourArcs_h Try.f9 tourArcs_i tourArcs_o tourArcs_r v := (tourArcs_eq v).trans (tourArcs_okd v)
theorem tourArcs_spec : SpecOK Try.prog 9 (mkCall 2 tourArcs_i tourArcs_o tourArcs_r tourArcs) := call_spec E_tourBack_ok Try.func9 tourArcs_b tourArcs_n rfl tourArcs_ok (LoopsOK_of tourArcs_q ⟨tourArcs_l0, tourArcs_l1, trivial⟩)
def E_tourArcs : Env := E_tourBack.ext 9 true true (mkCall 2 tourArcs_i tourArcs_o tourArcs_r tourArcs)
theorem E_tourArcs_ok : EnvOK Try.prog E_tourArcs := Env.ext_ok E_tourBack_ok tourArcs_spec (fun _ => mkCall_local rfl rfl) (fun _ => mkCall_in rfl rfl)

-- archipelago/archipelagolaw18.TourCuts
abbrev tourCuts_h : Hints := { loop := fun n => match n with | 0 => loopBy 0 111 tourCuts_i0 tourCuts_o0 tourCuts_s0 | _ => fun _ _ _ => none, fp := fun n => match n with | 17 => [[2], [], [], [2], [], [], [], [0], [], [], [0], [], [], [], []] | 8 => [[26], [], [], [], [26], [26], [], [0], [0], [], [], [], [], [], [26], [], [], [26], [], [], [], [], [], [0], [], [], [0], [], [], [], []] | _ => [] }
theorem tourCuts_s0_ok : ∀ v, tourCuts_s0 v = roundOf Try.prog E_tourArcs tourCuts_h 1 0 111 (loopOf Try.f10 0) tourCuts_i0 tourCuts_o0 v := by
  rintro ⟨a0, a1, a2, a3, a4, a5, ⟨⟩⟩
  kernel_rfl
theorem tourCuts_q0 : loopList (loopOf Try.f10 0) 1 = [] := by kernel_rfl
theorem tourCuts_l0 : CodeOK Try.prog 0 (.loop (loopOf Try.f10 0)) (tourCuts_h.loop 0) := loop_ok E_tourArcs_ok (tourCuts_s0_ok) (LoopsOK_of tourCuts_q0 trivial)
theorem tourCuts_okd : ∀ v, tourCuts_d v = pevCall Try.prog E_tourArcs tourCuts_h Try.f10 tourCuts_i tourCuts_o tourCuts_r v := by
  rintro ⟨a0, a1, a2, ⟨⟩⟩
  kernel_rfl
theorem tourCuts_q : loopList (bodyOf Try.f10) 0 = [(0, loopOf Try.f10 0)] := by kernel_rfl
theorem tourCuts_b : Try.f10.body.isSome = true := by kernel_rfl
theorem tourCuts_n : (Try.f10.name == "runtime.NumGoroutine") = false := by kernel_rfl
theorem tourCuts_ok (v : denL (leaves tourCuts_i)) : tourCuts v = pevCall Try.prog E_tourArcs tourCuts_h Try.f10 tourCuts_i tourCuts_o tourCuts_r v := (tourCuts_eq v).trans (tourCuts_okd v)
theorem tourCuts_spec : SpecOK Try.prog 10 (mkCall 3 tourCuts_i tourCuts_o tourCuts_r tourCuts) := call_spec E_tourArcs_ok Try.func10 tourCuts_b tourCuts_n rfl tourCuts_ok (LoopsOK_of tourCuts_q ⟨tourCuts_l0, trivial⟩)
def E_tourCuts : Env := E_tourArcs.ext 10 true true (mkCall 3 tourCuts_i tourCuts_o tourCuts_r tourCuts)
theorem E_tourCuts_ok : EnvOK Try.prog E_tourCuts := Env.ext_ok E_tourArcs_ok tourCuts_spec (fun _ => mkCall_local rfl rfl) (fun _ => mkCall_in rfl rfl)

end
end Go.Pev
end
section
/- The models are what the program computes. -/
end
