/- A part of the proofs of this seat: WS27a WS27b WS27c WKQ19u WS27r WS27s WS27v WS27x W22a W22b W22c W22d VL18a VL18c VL18d VL18e VL18f VL18g VL18h VL18i VL18j VL18k VL18l VL18m VL18b VL18n W22e W22f UQ19a UQ19c UQ19d UQ19e UQ19f UQ19g UQ19h UQ19i UQ19j UQ19z UQ19o W22g W22h W22i W22j W22k W22l W22m W22n W22o W22p W22q W22r T22a W22t W22u SEf STf W22v W22w W22x W22z G22sP1 G22sP2 G22sP3 G22sP4 G22sP5 G22sP6 G22sP7 G22sP8 G22sP9. -/
import Derived.Test.YtfciahckbbjmkaaGreatP3c2526ce11
import Derived.KernelRfl
import Derived.Test.YtfciahckbbjmkaaGreatProg
set_option linter.unusedVariables false
set_option linter.unusedSimpArgs false
set_option linter.unusedSectionVars false
section
namespace Go.Pev.Pl
set_option linter.unusedSimpArgs false
def sh (n : Int) : Prop := 0 ≤ n ∧ n ≤ 65535
instance (n : Int) : Decidable (sh n) := inferInstanceAs (Decidable (_ ∧ _))
def tw (n : Int) : List Int := [n / 256, n % 256]
theorem foldl_app {α β : Type} (g : β → α) : ∀ (xs : List β) (a : List α), xs.foldl (fun a x => a ++ [g x]) a = a ++ xs.map g := by
 intro xs
 induction xs with
 | nil => intro a; simp
 | cons x xs ih => intro a; rw [List.foldl_cons, ih]; simp
end Go.Pev.Pl
end
section
namespace Go.Pev.Pl
set_option linter.unusedSimpArgs false
abbrev Res := Int × Int × List Int × Unit
def val (r : Res) : Prop := (0 ≤ r.1 ∧ r.1 ≤ 255) ∧ sh r.2.1 ∧ sh (r.2.2.1.length : Int) ∧ ∀ x ∈ r.2.2.1, sh x
instance (r : Res) : Decidable (val r) := inferInstanceAs (Decidable (_ ∧ _ ∧ _ ∧ _))
def enc (r : Res) : List Int := r.1 :: (tw r.2.1 ++ (tw (r.2.2.1.length : Int) ++ r.2.2.1.flatMap tw))
end Go.Pev.Pl
end
section
namespace Go.Pev.Pl
set_option linter.unusedSimpArgs false
set_option maxRecDepth 100000
theorem ieq_self' (a : Int) : ieq a a = true := by rw [ieq_eq]; simp
end Go.Pev.Pl
end
section
namespace Go.Pev.Pl
open Go.RowKit Tok
section
variable {n : Int} {rings : List (List Int)}
theorem hd_class {l : List Edge} {out : List Int} (h : FC n rings l) (hc : ClOK n l out) {A : List Int} {u : Int} (hA : A ∈ rings) (iu : In n u) (hu : u ∈ A) : hd A = cl out u := by
 have gA := h.fr.rg A hA
 have ih := RG_head gA
 have hh := hd_mem gA.2.1
 have h1 : Con l u (hd A) := (h.sam u (hd A) iu ih).1 ⟨A, hA, hu, hh⟩
 have h2 := hc.least u (hd A) iu ih h1
 have h3 := hc.isin u iu
 obtain ⟨K, hK, k1, k2⟩ := (h.sam u _ iu h3).2 (hc.con u iu)
 have := h.fr.one hA hK iu.2.2.2 hu k1
 subst this
 have h4 := (minL_spec gA.2.1).2 _ k2
 rw [gA.2.2.1] at h4
 have : hd A = A.headD 0 := rfl
 omega
end
end Go.Pev.Pl
end
section
namespace Go.Pev.Pl
set_option linter.unusedSimpArgs false
set_option maxRecDepth 100000
abbrev Tie := Int × Int × Int × Bool × Unit
abbrev zT : Tie := (0, 0, 0, false, ())
def topV (n : Nat) : Int := ((@top21 idI ((n : Int), ())).getD (0, ())).1
theorem tops : ((List.range 65).all fun k => decide (@top21 idI ((k : Int), ()) = some (topV k, ()))) = true := by kernel_rfl
theorem topsL : ((List.range 65).all fun k => decide (@ltop idI ((k : Int), ()) = some (topV k, ()))) = true := by kernel_rfl
theorem top21_val (n : Nat) (h : n ≤ 64) : top21 ((n : Int), ()) = some (topV n, ()) := by
 rw [show top21 ((n : Int), ()) = @top21 idI ((n : Int), ()) from congrArg (fun i => @top21 i ((n : Int), ())) lockI_eq]
 exact of_decide_eq_true (List.all_eq_true.1 tops n (by simp; omega))
theorem ltop_val (n : Nat) (h : n ≤ 64) : ltop ((n : Int), ()) = some (topV n, ()) := by
 rw [show ltop ((n : Int), ()) = @ltop idI ((n : Int), ()) from congrArg (fun i => @ltop i ((n : Int), ())) lockI_eq]
 exact of_decide_eq_true (List.all_eq_true.1 topsL n (by simp; omega))
def cmpV (a b : Int) : Int := if a < b then -1 else if b < a then 1 else 0
theorem compareI_val (a b : Int) : compareI (a, b, ()) = some (cmpV a b, ()) := by
 rw [compareI_eq, compareI_d]
 simp only [nanI_eq, nanI_d, ieq_self', Bool.not_true]
 unfold cmpV
 rw [ilt_eq, ilt_eq]
 by_cases h : a < b
 ·rw [decide_eq_true h, if_pos h]
 ·rw [decide_eq_false h, if_neg h]
  by_cases h' : b < a
  ·rw [decide_eq_true h', if_pos h']
  ·rw [decide_eq_false h', if_neg h']
theorem orI_val (a b : Int) : orI ([a, b], ()) = some (if a = 0 then b else a, ()) := by
 rw [orI_eq, orI_d]
 have e := findL (step := orI_s0) (fun i => (0, [a, b], dlen [a, b], (i : Int), ())) [a, b] (fun x => !decide (x = 0)) (fun i => .inl ([a, b].getD i 0, ())) (.inr (.inl (0, ()))) (by simp)
  (fun i x hi hx => by
   rw [orI_s0, dlen_l, ilt_nat, decide_eq_true hi]
   simp only [idx_some hx, ieq_dec]
   have hi2 : i < 2 := hi
   rw [wrap_add1 (by omega)]
   have hg : [a, b].getD i 0 = x := by rw [List.getD_eq_getElem?_getD, hx]; rfl
   rw [hg]
   by_cases h : x = 0
   ·simp [h]
   ·simp [h])
  (by rw [orI_s0, dlen_l, ilt_nat, decide_eq_false (by omega)])
 have e' : iterL orI_s0 many (0, [a, b], dlen [a, b], (0 : Int), ()) = _ := e
 rw [e']
 by_cases h : a = 0
 ·by_cases h' : b = 0
  ·simp [h, h']
  ·simp [h, h', List.findIdx_cons]
 ·simp [h, List.findIdx_cons]
def ahead (p x : Tie) : Prop := p.1 < x.1 ∨ (p.1 = x.1 ∧ p.2.1 < x.2.1)
instance (p x : Tie) : Decidable (ahead p x) := inferInstanceAs (Decidable (_ ∨ _))
theorem lcompare_val (p x : Tie) : ∃ y, lcompare (p, x, ()) = some (y, ()) ∧ ile 0 y = !decide (ahead p x) := by
 rw [lcompare_eq, lcompare_d]
 simp only [compareI_val, orI_val]
 refine ⟨_, rfl, ?_⟩
 rw [ile_eq]
 by_cases h : ahead p x
 ·rw [decide_eq_true h]
  unfold ahead at h
  unfold cmpV
  rw [decide_eq_false]; · rfl
  split <;> split <;> (try split) <;> omega
 ·rw [decide_eq_false h]
  unfold ahead at h
  unfold cmpV
  rw [decide_eq_true]; · rfl
  split <;> split <;> (try split) <;> omega
def okAt (N : Nat) (ts : List Tie) (i : Nat) : Prop :=
 0 ≤ (ts.getD i zT).1 ∧ (ts.getD i zT).1 < (ts.getD i zT).2.1 ∧ (ts.getD i zT).2.1 < (N : Int) ∧ 0 ≤ (ts.getD i zT).2.2.1 ∧ (ts.getD i zT).2.2.1 ≤ topV N ∧ (i = 0 ∨ ahead (ts.getD (i - 1) zT) (ts.getD i zT))
instance (N : Nat) (ts : List Tie) (i : Nat) : Decidable (okAt N ts i) := inferInstanceAs (Decidable (_ ∧ _ ∧ _ ∧ _ ∧ _ ∧ _))
def ed (t : Tie) : Edge := (t.1, t.2.1, ())
def trs (ts : List Tie) (k : Nat) : List Edge := (List.range k).foldl (fun a i => if (ts.getD i zT).2.2.2.1 = true then a ++ [ed (ts.getD i zT)] else a) []
theorem walk_all {α β ρ : Type} (P : β → Prop) [DecidablePred P] (g : β → α → α) (fin : α → ρ) (rt : ρ) : ∀ (xs : List β) (a : α), walk (fun x a => if P x then .inl (g x a) else .inr rt) fin xs a = if ∀ x ∈ xs, P x then fin (xs.foldl (fun a x => g x a) a) else rt := by
 intro xs
 induction xs with
 | nil => intro a; simp [walk]
 | cons x xs ih =>
  intro a
  rw [walk]
  by_cases h : P x
  ·rw [if_pos h]
   simp only []
   rw [ih]
   simp [h]
  ·rw [if_neg h]
   simp [h]
theorem trs_succ (ts : List Tie) (k : Nat) : trs ts (k + 1) = if (ts.getD k zT).2.2.2.1 = true then trs ts k ++ [ed (ts.getD k zT)] else trs ts k := by
 unfold trs
 rw [List.range_succ, List.foldl_append]
 rfl
theorem trs_len (ts : List Tie) : ∀ k, (trs ts k).length ≤ k := by
 intro k
 induction k with
 | zero => exact Nat.le_refl _
 | succ k ih =>
  rw [trs_succ]
  split
  ·rw [List.length_append]; simp; omega
  ·omega
theorem trs_mem (ts : List Tie) (e : Edge) : ∀ k, e ∈ trs ts k → ∃ i, i < k ∧ e = ed (ts.getD i zT) := by
 intro k
 induction k with
 | zero => intro h; simp [trs] at h
 | succ k ih =>
  intro h
  rw [trs_succ] at h
  split at h
  ·rcases List.mem_append.1 h with h | h
   ·obtain ⟨i, h1, h2⟩ := ih h; exact ⟨i, by omega, h2⟩
   ·simp only [List.mem_singleton] at h; exact ⟨k, by omega, h⟩
  ·obtain ⟨i, h1, h2⟩ := ih h; exact ⟨i, by omega, h2⟩
def oks (N : Nat) (ts : List Tie) : Prop := ∀ i ∈ List.range ts.length, okAt N ts i
instance (N : Nat) (ts : List Tie) : Decidable (oks N ts) := inferInstanceAs (Decidable (∀ i ∈ List.range ts.length, okAt N ts i))
theorem lright_loop (N : Nat) (hN : N ≤ 64) (ts : List Tie) (hs : ts.length ≤ 400) :
  iterL lright_s0 many ((N : Int), ts, topV N, ts, dlen ts, (0 : Int), ()) = some (if oks N ts then .inr (.inl ((N : Int), ts, ())) else .inl (false, ())) := by
 have e := walkL (step := lright_s0) (fun i (_ : Unit) => ((N : Int), ts, topV N, ts, dlen ts, (i : Int), ())) (List.range ts.length) (fun i a => if okAt N ts i then .inl a else .inr (.inl (false, ()))) (fun _ => .inr (.inl ((N : Int), ts, ()))) (fun _ _ => True) (by simp; omega)
  (fun i x a hi hx _ => by
   have := range_get' hx
   subst this
   rw [List.length_range] at hi
   have step : lright_s0 ((N : Int), ts, topV N, ts, dlen ts, (x : Int), ()) = if okAt N ts x then some (.inl ((N : Int), ts, topV N, ts, dlen ts, ((x + 1 : Nat) : Int), ())) else some (.inr (.inl (false, ()))) := by
    rw [lright_s0, dlen_l, ilt_nat, decide_eq_true hi]
    simp only [idx_l zT hi]
    obtain ⟨t, ht⟩ : ∃ t, ts.getD x zT = t := ⟨_, rfl⟩
    have hk : okAt N ts x ↔ (0 ≤ t.1 ∧ t.1 < t.2.1 ∧ t.2.1 < (N : Int) ∧ 0 ≤ t.2.2.1 ∧ t.2.2.1 ≤ topV N ∧ (x = 0 ∨ ahead (ts.getD (x - 1) zT) t)) := by unfold okAt; rw [ht]
    rw [ht]
    rw [ilt_eq, ile_eq, ile_eq, ilt_eq, ilt_eq]
    by_cases h1 : t.1 < 0
    ·rw [decide_eq_true h1, if_neg (fun h => by obtain ⟨q1, q2, q3, q4, q5, _⟩ := hk.1 h; omega)]
    rw [decide_eq_false h1]
    by_cases h2 : t.2.1 ≤ t.1
    ·rw [decide_eq_true h2, if_neg (fun h => by obtain ⟨q1, q2, q3, q4, q5, _⟩ := hk.1 h; omega)]
    rw [decide_eq_false h2]
    by_cases h3 : (N : Int) ≤ t.2.1
    ·rw [decide_eq_true h3, if_neg (fun h => by obtain ⟨q1, q2, q3, q4, q5, _⟩ := hk.1 h; omega)]
    rw [decide_eq_false h3]
    by_cases h4 : t.2.2.1 < 0
    ·rw [decide_eq_true h4, if_neg (fun h => by obtain ⟨q1, q2, q3, q4, q5, _⟩ := hk.1 h; omega)]
    rw [decide_eq_false h4]
    by_cases h5 : topV N < t.2.2.1
    ·rw [decide_eq_true h5, if_neg (fun h => by obtain ⟨q1, q2, q3, q4, q5, _⟩ := hk.1 h; omega)]
    rw [decide_eq_false h5]
    simp only []
    rw [wrap_add1 (by omega), ilt_eq]
    by_cases h6 : x = 0
    ·subst h6
     rw [decide_eq_false (by omega), if_pos (hk.2 ⟨by omega, by omega, by omega, by omega, by omega, .inl rfl⟩)]
    ·rw [decide_eq_true (by omega), wrap_in (by omega), show ((x : Int) - 1) = ((x - 1 : Nat) : Int) by omega]
     simp only [idx_l zT (show x - 1 < ts.length by omega)]
     obtain ⟨y, ey, hy⟩ := lcompare_val (ts.getD (x - 1) zT) t
     have ey' : lcompare (((ts.getD (x - 1) zT).1, ((ts.getD (x - 1) zT).2.1, ((ts.getD (x - 1) zT).2.2.1, ((ts.getD (x - 1) zT).2.2.2.1, ())))), (t.1, (t.2.1, (t.2.2.1, (t.2.2.2.1, ())))), ()) = some (y, ()) := ey
     simp only [ey', hy]
     by_cases h7 : ahead (ts.getD (x - 1) zT) t
     ·rw [decide_eq_true h7, if_pos (hk.2 ⟨by omega, by omega, by omega, by omega, by omega, .inr h7⟩)]
      rfl
     ·rw [decide_eq_false h7, if_neg (fun h => by rcases (hk.1 h).2.2.2.2.2 with h | h; exact h6 h; exact h7 h)]
      rfl
   by_cases h : okAt N ts x
   ·rw [if_pos h] at step ⊢
    refine ⟨fun m' h' => ?_, fun r h' => (by cases h')⟩
    cases h'
    exact ⟨step, trivial⟩
   ·rw [if_neg h] at step ⊢
    refine ⟨fun m' h' => (by cases h'), fun r h' => ?_⟩
    cases h'
    exact step)
  (fun a _ => by rw [lright_s0, List.length_range, dlen_l, ilt_nat, decide_eq_false (by omega)]) () trivial
 have e' : iterL lright_s0 many ((N : Int), ts, topV N, ts, dlen ts, (0 : Int), ()) = _ := e
 rw [e', walk_all (okAt N ts) (fun _ a => a)]
 rfl
theorem right21_loop (N : Nat) (hN : N ≤ 64) (ts : List Tie) (hs : ts.length ≤ 400) :
  iterL right21_s0 many ((N : Int), ts, [], (0 : Int), ()) = some (if oks N ts then .inr (.inl ((N : Int), ts, trs ts ts.length, ())) else .inl (false, ())) := by
 have e := walkL (step := right21_s0) (fun i (a : List Edge) => ((N : Int), ts, a, (i : Int), ())) (List.range ts.length) (fun i a => if okAt N ts i then .inl (if (ts.getD i zT).2.2.2.1 = true then a ++ [ed (ts.getD i zT)] else a) else .inr (.inl (false, ()))) (fun a => .inr (.inl ((N : Int), ts, a, ()))) (fun i a => a.length ≤ i) (by simp; omega)
  (fun i x a hi hx ha => by
   have := range_get' hx
   subst this
   rw [List.length_range] at hi
   have step : right21_s0 ((N : Int), ts, a, (x : Int), ()) = if okAt N ts x then some (.inl ((N : Int), ts, if (ts.getD x zT).2.2.2.1 = true then a ++ [ed (ts.getD x zT)] else a, ((x + 1 : Nat) : Int), ())) else some (.inr (.inl (false, ()))) := by
    rw [right21_s0, dlen_l, ilt_nat, decide_eq_true hi]
    simp only [idx_l zT hi, top21_val N hN]
    obtain ⟨t, ht⟩ : ∃ t, ts.getD x zT = t := ⟨_, rfl⟩
    have hk : okAt N ts x ↔ (0 ≤ t.1 ∧ t.1 < t.2.1 ∧ t.2.1 < (N : Int) ∧ 0 ≤ t.2.2.1 ∧ t.2.2.1 ≤ topV N ∧ (x = 0 ∨ ahead (ts.getD (x - 1) zT) t)) := by unfold okAt; rw [ht]
    rw [ht]
    rw [ilt_eq, ile_eq, ile_eq, ilt_eq, ilt_eq]
    by_cases h1 : t.1 < 0
    ·rw [decide_eq_true h1, if_neg (fun h => by obtain ⟨q1, q2, q3, q4, q5, _⟩ := hk.1 h; omega)]
    rw [decide_eq_false h1]
    by_cases h2 : t.2.1 ≤ t.1
    ·rw [decide_eq_true h2, if_neg (fun h => by obtain ⟨q1, q2, q3, q4, q5, _⟩ := hk.1 h; omega)]
    rw [decide_eq_false h2]
    by_cases h3 : (N : Int) ≤ t.2.1
    ·rw [decide_eq_true h3, if_neg (fun h => by obtain ⟨q1, q2, q3, q4, q5, _⟩ := hk.1 h; omega)]
    rw [decide_eq_false h3]
    by_cases h4 : t.2.2.1 < 0
    ·rw [decide_eq_true h4, if_neg (fun h => by obtain ⟨q1, q2, q3, q4, q5, _⟩ := hk.1 h; omega)]
    rw [decide_eq_false h4]
    by_cases h5 : topV N < t.2.2.1
    ·rw [decide_eq_true h5, if_neg (fun h => by obtain ⟨q1, q2, q3, q4, q5, _⟩ := hk.1 h; omega)]
    rw [decide_eq_false h5]
    simp only [dlen_l]
    have hfit : fits ((a.length : Int) + (([(t.1, t.2.1, ())] : List Edge).length : Int)) = true := fits_l (by simp; omega)
    rw [wrap_add1 (by omega), ilt_eq]
    by_cases h6 : x = 0
    ·subst h6
     rw [decide_eq_false (by omega), if_pos (hk.2 ⟨by omega, by omega, by omega, by omega, by omega, .inl rfl⟩)]
     cases ht4 : t.2.2.2.1
     ·simp
     ·simp only [hfit]
      simp [ed, dapp]
    ·rw [decide_eq_true (by omega), wrap_in (by omega), show ((x : Int) - 1) = ((x - 1 : Nat) : Int) by omega]
     simp only [idx_l zT (show x - 1 < ts.length by omega), ieq_dec]
     generalize ts.getD (x - 1) zT = p at hk ⊢
     rw [ilt_eq, ile_eq]
     by_cases h7 : t.1 < p.1
     ·rw [decide_eq_true h7, if_neg (fun h => by rcases (hk.1 h).2.2.2.2.2 with h | h | h <;> omega)]
     rw [decide_eq_false h7]
     by_cases h8 : p.1 = t.1
     ·rw [decide_eq_true h8]
      by_cases h9 : t.2.1 ≤ p.2.1
      ·rw [decide_eq_true h9, if_neg (fun h => by rcases (hk.1 h).2.2.2.2.2 with h | h | h <;> omega)]
      rw [decide_eq_false h9, if_pos (hk.2 ⟨by omega, by omega, by omega, by omega, by omega, .inr (.inr ⟨h8, by omega⟩)⟩)]
      cases ht4 : t.2.2.2.1
      ·simp
      ·simp only [hfit]
       simp [ed, dapp]
     ·rw [decide_eq_false h8, if_pos (hk.2 ⟨by omega, by omega, by omega, by omega, by omega, .inr (.inl (by omega))⟩)]
      cases ht4 : t.2.2.2.1
      ·simp
      ·simp only [hfit]
       simp [ed, dapp]
   by_cases h : okAt N ts x
   ·rw [if_pos h] at step ⊢
    refine ⟨fun m' h' => ?_, fun r h' => (by cases h')⟩
    cases h'
    refine ⟨step, ?_⟩
    split
    ·rw [List.length_append]; simp; omega
    ·omega
   ·rw [if_neg h] at step ⊢
    refine ⟨fun m' h' => (by cases h'), fun r h' => ?_⟩
    cases h'
    exact step)
  (fun a _ => by rw [right21_s0, List.length_range, dlen_l, ilt_nat, decide_eq_false (by omega)]) [] (Nat.le_refl _)
 have e' : iterL right21_s0 many ((N : Int), ts, [], (0 : Int), ()) = _ := e
 rw [e', walk_all (okAt N ts) (fun i a => if (ts.getD i zT).2.2.2.1 = true then a ++ [ed (ts.getD i zT)] else a)]
 rfl
end Go.Pev.Pl
end
section
namespace Go.Pev.Pl
set_option linter.unusedSimpArgs false
set_option maxRecDepth 100000
theorem okAt_in {N : Nat} {ts : List Tie} (hN : N ≤ 64) {i : Nat} (h : okAt N ts i) : In (N : Int) (ed (ts.getD i zT)).1 ∧ In (N : Int) (ed (ts.getD i zT)).2.1 := by
 obtain ⟨q1, q2, q3, _⟩ := h
 exact ⟨⟨by omega, by omega, q1, by show (ts.getD i zT).1 < _; omega⟩, ⟨by omega, by omega, by show 0 ≤ (ts.getD i zT).2.1; omega, q3⟩⟩
theorem trs_in {N : Nat} {ts : List Tie} (hN : N ≤ 64) (h : oks N ts) : ∀ e ∈ trs ts ts.length, In (N : Int) e.1 ∧ In (N : Int) e.2.1 := by
 intro e he
 obtain ⟨i, hi, rfl⟩ := trs_mem ts e _ he
 exact okAt_in hN (h i (by simp [hi]))
theorem eds_in {N : Nat} {ts : List Tie} (hN : N ≤ 64) (h : oks N ts) : ∀ e ∈ ts.map ed, In (N : Int) e.1 ∧ In (N : Int) e.2.1 := by
 intro e he
 obtain ⟨t, ht, rfl⟩ := List.mem_map.1 he
 obtain ⟨i, hi, rfl⟩ := List.getElem_of_mem ht
 have := okAt_in hN (h i (by simp [hi]))
 simpa [hi] using this
theorem ltrees_val {N : Nat} (ts : List Tie) (hs : ts.length ≤ 400) (h : oks N ts) : ltrees (((N : Int), (ts, ())), (0 : Int), ()) = some (trs ts ts.length, ()) := by
 rw [ltrees_eq, ltrees_d]
 have e := walkL (step := ltrees_s0) (fun i (a : List Edge) => ((0 : Int), a, ts, dlen ts, (i : Int), ())) (List.range ts.length) (fun i a => .inl (if (ts.getD i zT).2.2.2.1 = true then a ++ [ed (ts.getD i zT)] else a)) (fun a => .inl (a, ())) (fun i a => a.length ≤ i) (by simp; omega)
  (fun i x a hi hx ha => by
   refine ⟨fun m' h' => ?_, fun r h' => (by cases h')⟩
   cases h'
   have := range_get' hx
   subst this
   rw [List.length_range] at hi
   have hlv := (h x (by simp [hi])).2.2.2.1
   constructor
   ·rw [ltrees_s0, dlen_l, ilt_nat, decide_eq_true hi]
    simp only [idx_l zT hi, dlen_l]
    have hfit : fits ((a.length : Int) + (([((ts.getD x zT).1, (ts.getD x zT).2.1, ())] : List Edge).length : Int)) = true := fits_l (by simp; omega)
    rw [wrap_add1 (by omega), ile_eq, decide_eq_true hlv]
    cases ht4 : (ts.getD x zT).2.2.2.1
    ·simp
    ·simp only [hfit]
     simp [ed, dapp]
   ·split
    ·rw [List.length_append]; simp; omega
    ·omega)
  (fun a _ => by rw [ltrees_s0, List.length_range, dlen_l, ilt_nat, decide_eq_false (by omega)]) [] (Nat.le_refl _)
 have e' : iterL ltrees_s0 many ((0 : Int), [], ts, dlen ts, (0 : Int), ()) = _ := e
 simp only [e']
 rw [walk_fold (fun i a => if (ts.getD i zT).2.2.2.1 = true then a ++ [ed (ts.getD i zT)] else a)]
 rfl
def cnt (out : List Int) (N : Nat) : Nat := ((List.range N).filter fun k => decide (out.getD k 0 = (k : Int))).length
theorem rings_count {N : Nat} {rings : List (List Int)} {l : List Edge} {out : List Int} (h : FC (N : Int) rings l) (hc : ClOK (N : Int) l out) : rings.length = cnt out N := by
 have hsz := h.fr.sz
 have hp : (rings.map hd).Perm (((List.range N).filter fun k => decide (out.getD k 0 = (k : Int))).map fun (k : Nat) => (k : Int)) := by
  rw [List.perm_ext_iff_of_nodup]
  ·intro a
   simp only [List.mem_map, List.mem_filter, List.mem_range, decide_eq_true_eq]
   constructor
   ·rintro ⟨A, hA, rfl⟩
    have gA := h.fr.rg A hA
    have ih : In (N : Int) (hd A) := RG_head gA
    have hh := hd_mem gA.2.1
    have := hd_class h hc hA ih hh
    obtain ⟨_, _, a1, a2⟩ := ih
    refine ⟨(hd A).toNat, ⟨by omega, ?_⟩, by omega⟩
    rw [show out.getD (hd A).toNat 0 = cl out (hd A) from rfl, ← this]
    omega
   ·rintro ⟨k, ⟨hk, ho⟩, rfl⟩
    have ik : In (N : Int) (k : Int) := ⟨hsz.1, hsz.2, by omega, by omega⟩
    obtain ⟨A, hA, hm⟩ := h.fr.cov _ ik
    refine ⟨A, hA, ?_⟩
    rw [hd_class h hc hA ik hm]
    unfold cl
    rw [Int.toNat_natCast]; exact ho
  ·exact (List.pairwise_map.2 h.fr.up).imp (fun h => by omega)
  ·refine List.Pairwise.map _ (S := fun a b => a ≠ b) (R := fun a b => a ≠ b) (fun a b h h' => h (by omega)) ?_
   exact (List.nodup_range).filter _
 have := hp.length_eq
 rw [List.length_map, List.length_map] at this
 exact this
theorem right21_count (N : Nat) (hN : N ≤ 64) (p : List Tie) (q : List Edge) (out : List Int) (ho : out.length = N) : iterL right21_s1 many ((N : Int), p, q, out, (0 : Int), (0 : Int), ()) = some (.inl ((N : Int), p, q, (cnt out N : Int), ())) := by
 have e := walkL (step := right21_s1) (fun i (a : Nat) => ((N : Int), p, q, out, (a : Int), (i : Int), ())) (List.range N) (fun k a => .inl (if out.getD k 0 = (k : Int) then a + 1 else a)) (fun a => .inl ((N : Int), p, q, (a : Int), ())) (fun i a => a ≤ i) (by simp; omega)
  (fun i x a hi hx ha => by
   refine ⟨fun m' h' => ?_, fun r h' => (by cases h')⟩
   cases h'
   have := range_get' hx
   subst this
   rw [List.length_range] at hi
   constructor
   ·rw [right21_s1, ilt_nat, decide_eq_true hi]
    simp only [idx_l 0 (show x < out.length by omega), dget_l, ieq_dec]
    rw [wrap_add1 (by omega), wrap_add1 (by omega)]
    by_cases h : out.getD x 0 = (x : Int)
    ·rw [decide_eq_true h, if_pos h]
    ·rw [decide_eq_false h, if_neg h]
   ·split <;> omega)
  (fun a _ => by rw [right21_s1, List.length_range, ilt_nat, decide_eq_false (by omega)]) 0 (Nat.le_refl _)
 have e' : iterL right21_s1 many ((N : Int), p, q, out, (0 : Int), (0 : Int), ()) = _ := e
 rw [e', walk_fold (fun k a => if out.getD k 0 = (k : Int) then a + 1 else a)]
 have key : ∀ (xs : List Nat) (a : Nat), xs.foldl (fun a k => if out.getD k 0 = (k : Int) then a + 1 else a) a = a + (xs.filter fun k => decide (out.getD k 0 = (k : Int))).length := by
  intro xs
  induction xs with
  | nil => intro a; rfl
  | cons x xs ih =>
   intro a
   rw [List.foldl_cons, ih, List.filter_cons]
   by_cases h : out.getD x 0 = (x : Int)
   ·simp only [h, if_true, decide_true, List.length_cons]; omega
   ·simp only [h, if_false, decide_false, Bool.false_eq_true]
 rw [key, Nat.zero_add]
 rfl
theorem both_right (n : Int) (ts : List Tie) (hl : ts.length < 4611686018427387904) : ∃ b : Bool, right21 ((n, (ts, ())), ()) = some (b, ()) ∧ lright ((n, (ts, ())), ()) = some (b, ()) ∧ (b = true → ∃ N : Nat, n = (N : Int) ∧ 1 ≤ N ∧ N ≤ 64 ∧ ts.length ≤ 400 ∧ oks N ts) := by
 by_cases hn : ¬ (1 ≤ n ∧ n ≤ 64)
 ·refine ⟨false, ?_, ?_, fun h => by cases h⟩
  ·rw [right21_eq, right21_d, ilt_eq, ilt_eq]
   by_cases h : n < 1
   ·simp only [decide_eq_true h]
   ·simp only [decide_eq_false h, decide_eq_true (show 64 < n by omega)]
  ·rw [lright_eq, lright_d]
   simp only [lsized_eq, lsized_d, ile_eq]
   by_cases h : 1 ≤ n
   ·simp only [decide_eq_true h, decide_eq_false (show ¬ n ≤ 64 by omega), Bool.not_false]
   ·simp only [decide_eq_false h, Bool.not_false]
 have hn := Classical.not_not.1 hn
 obtain ⟨N, rfl⟩ := Int.eq_ofNat_of_zero_le (show 0 ≤ n by omega)
 have hsz : lsized ((N : Int), ()) = some (true, ()) := by
  simp only [lsized_eq, lsized_d, ile_eq, decide_eq_true hn.1, decide_eq_true hn.2]
 by_cases h4 : ¬ ts.length ≤ 400
 ·refine ⟨false, ?_, ?_, fun h => by cases h⟩
  ·rw [right21_eq, right21_d]
   simp only [ilt_eq, dlen_l]
   rw [decide_eq_false (show ¬ (N : Int) < 1 by omega), decide_eq_false (show ¬ 64 < (N : Int) by omega), decide_eq_true (show 400 < (ts.length : Int) by omega)]
  ·rw [lright_eq, lright_d]
   simp only [hsz, Bool.not_true, ilt_eq, dlen_l]
   rw [decide_eq_true (show 400 < (ts.length : Int) by omega)]
 have h4 := Classical.not_not.1 h4
 have R := right21_loop N (by omega) ts h4
 have L := lright_loop N (by omega) ts h4
 by_cases ho : ¬ oks N ts
 ·rw [if_neg ho] at R L
  refine ⟨false, ?_, ?_, fun h => by cases h⟩
  ·rw [right21_eq, right21_d]
   simp only [ilt_eq, dlen_l]
   rw [decide_eq_false (show ¬ (N : Int) < 1 by omega), decide_eq_false (show ¬ 64 < (N : Int) by omega), decide_eq_false (show ¬ 400 < (ts.length : Int) by omega)]
   simp only [R]
  ·rw [lright_eq, lright_d]
   simp only [hsz, Bool.not_true, ilt_eq, dlen_l, ltop_val N (by omega)]
   rw [decide_eq_false (show ¬ 400 < (ts.length : Int) by omega)]
   rw [dlen_l] at L
   simp only [L]
 have ho := Classical.not_not.1 ho
 rw [if_pos ho] at R L
 have hin := trs_in (show N ≤ 64 by omega) ho
 have hlen := trs_len ts ts.length
 obtain ⟨out, hc, hcl⟩ := classes19_val (N : Int) (trs ts ts.length) hn (by omega) hin
 rcases (fof_val (N : Int) (trs ts ts.length) hn (by omega)).symm with ⟨hno, _⟩ | ⟨_, rings, hf, hfc⟩
 ·exact absurd hin hno
 have hcount := rings_count hfc hcl
 have hol : out.length = N := by have := hcl.len; omega
 refine ⟨decide ((cnt out N : Int) = (N : Int) - (trs ts ts.length).length), ?_, ?_, fun _ => ⟨N, rfl, by omega, by omega, h4, ho⟩⟩
 ·rw [right21_eq, right21_d]
  simp only [ilt_eq, dlen_l]
  rw [decide_eq_false (show ¬ (N : Int) < 1 by omega), decide_eq_false (show ¬ 64 < (N : Int) by omega), decide_eq_false (show ¬ 400 < (ts.length : Int) by omega)]
  simp only [R, hc, right21_count N (by omega) _ _ out hol, ieq_dec]
  rw [wrap_in (by omega)]
 ·rw [lright_eq, lright_d]
  simp only [hsz, Bool.not_true, ilt_eq, dlen_l, ltop_val N (by omega)]
  rw [decide_eq_false (show ¬ 400 < (ts.length : Int) by omega)]
  rw [dlen_l] at L
  simp only [L, ltrees_val ts h4 ho, hf, ieq_self', ieq_dec, hcount]
  rw [wrap_in (by omega)]
end Go.Pev.Pl
end
section
namespace Go.Pev.Pl
set_option linter.unusedSimpArgs false
set_option maxRecDepth 100000
theorem ClOK.unique {N : Nat} {l : List Edge} {a b : List Int} (h1 : 1 ≤ N) (h2 : N ≤ 64) (ha : ClOK (N : Int) l a) (hb : ClOK (N : Int) l b) : a = b := by
 have la := ha.len
 have lb := hb.len
 refine eq_of_places (0 : Int) (by omega) fun k hk => ?_
 have ik : In (N : Int) (k : Int) := ⟨by omega, by omega, by omega, by omega⟩
 have e1 := ha.least _ _ ik (hb.isin _ ik) (hb.con _ ik)
 have e2 := hb.least _ _ ik (ha.isin _ ik) (ha.con _ ik)
 unfold cl at e1 e2
 rw [Int.toNat_natCast] at e1 e2
 omega
theorem foldl_eds (xs : List Tie) (a : List Edge) : xs.foldl (fun a x => a ++ [ed x]) a = a ++ xs.map ed := foldl_app ed xs a
theorem ledges_val (n : Int) (ts : List Tie) (hs : ts.length ≤ 400) (h : lright ((n, (ts, ())), ()) = some (true, ())) : ledges ((n, (ts, ())), ()) = some (ts.map ed, ()) := by
 rw [ledges_eq, ledges_d]
 simp only [h, Bool.not_true]
 have e := walkL (step := ledges_s0) (fun i (a : List Edge) => (a, ts, dlen ts, (i : Int), ())) ts (fun x a => .inl (a ++ [ed x])) (fun a => .inl (a, ())) (fun i a => a.length ≤ i) (by omega)
  (fun i x a hi hx ha => by
   refine ⟨fun m' h' => ?_, fun r h' => (by cases h')⟩
   cases h'
   constructor
   ·rw [ledges_s0]
    simp only [dlen_l]
    rw [ilt_nat, decide_eq_true hi]
    simp only [idx_some hx]
    rw [fits_l (by simp; omega), wrap_add1 (by omega)]
    rfl
   ·rw [List.length_append]; simp; omega)
  (fun a _ => by rw [ledges_s0, dlen_l, ilt_nat, decide_eq_false (by omega)]) [] (Nat.le_refl _)
 have e' : iterL ledges_s0 many ([], ts, dlen ts, (0 : Int), ()) = _ := e
 simp only [e']
 rw [walk_fold (fun x a => a ++ [ed x]), foldl_eds]
 rfl
theorem edges21_val (n : Int) (ts : List Tie) (hs : ts.length ≤ 400) (h : right21 ((n, (ts, ())), ()) = some (true, ())) : edges21 ((n, (ts, ())), ()) = some (ts.map ed, ()) := by
 rw [edges21_eq, edges21_d]
 simp only [h, Bool.not_true]
 have e := walkL (step := edges21_s0) (fun i (a : List Edge) => (n, ts, a, (i : Int), ())) ts (fun x a => .inl (a ++ [ed x])) (fun a => .inl (a, ())) (fun i a => a.length ≤ i) (by omega)
  (fun i x a hi hx ha => by
   refine ⟨fun m' h' => ?_, fun r h' => (by cases h')⟩
   cases h'
   constructor
   ·rw [edges21_s0]
    simp only [dlen_l]
    rw [ilt_nat, decide_eq_true hi]
    simp only [idx_some hx]
    rw [fits_l (by simp; omega), wrap_add1 (by omega)]
    rfl
   ·rw [List.length_append]; simp; omega)
  (fun a _ => by rw [edges21_s0, dlen_l, ilt_nat, decide_eq_false (by omega)]) [] (Nat.le_refl _)
 have e' : iterL edges21_s0 many (n, ts, [], (0 : Int), ()) = _ := e
 simp only [e']
 rw [walk_fold (fun x a => a ++ [ed x]), foldl_eds]
 rfl
def InV (N : Nat) (x : Int) : Prop := 0 ≤ x ∧ x < (N : Int)
instance (N : Nat) (x : Int) : Decidable (InV N x) := inferInstanceAs (Decidable (_ ∧ _))
theorem foldl_cnt (P : Nat → Prop) [DecidablePred P] : ∀ (xs : List Nat) (a : Nat), xs.foldl (fun a k => if P k then a + 1 else a) a = a + (xs.filter fun k => decide (P k)).length := by
 intro xs
 induction xs with
 | nil => intro a; rfl
 | cons x xs ih =>
  intro a
  rw [List.foldl_cons, ih, List.filter_cons]
  by_cases h : P x
  ·simp only [h, if_true, decide_true, List.length_cons]; omega
  ·simp only [h, if_false, decide_false, Bool.false_eq_true]
end Go.Pev.Pl
end
section
namespace Go.Pev.Pl
set_option linter.unusedSimpArgs false
set_option maxRecDepth 100000
end Go.Pev.Pl
end
section
namespace Go.Pev.Pl
set_option linter.unusedSimpArgs false
set_option maxRecDepth 100000
def hasE (l : List Edge) (u v : Int) : Prop := ((u, (v, ())) : Edge) ∈ l ∨ ((v, (u, ())) : Edge) ∈ l
instance (l : List Edge) (u v : Int) : Decidable (hasE l u v) := inferInstanceAs (Decidable (_ ∨ _))
def rowL (N : Nat) (l : List Edge) (u : Nat) : List Edge := ((List.range (N - (u + 1))).filter fun i => decide (hasE l (u : Int) ((u + 1 + i : Nat) : Int))).map fun (i : Nat) => ((u : Int), ((u + 1 + i : Nat) : Int), ())
def plainL (N : Nat) (l : List Edge) : List Edge := (List.range N).flatMap fun u => rowL N l u
theorem rowL_len (N : Nat) (hN : N ≤ 64) (l : List Edge) (u : Nat) : (rowL N l u).length ≤ 64 := by
 unfold rowL
 rw [List.length_map]
 have := List.length_filter_le (fun i => decide (hasE l (u : Int) ((u + 1 + i : Nat) : Int))) (List.range (N - (u + 1)))
 rw [List.length_range] at this
 omega
end Go.Pev.Pl
end
section
namespace Go.Pev.Pl
set_option linter.unusedSimpArgs false
set_option maxRecDepth 100000
theorem plainL_len (N : Nat) (hN : N ≤ 64) (l : List Edge) : (plainL N l).length ≤ 4096 := by
 have key : ∀ M, ((List.range M).flatMap fun u => rowL N l u).length ≤ 64 * M := by
  intro M
  induction M with
  | zero => simp
  | succ M ih =>
   rw [List.range_succ, List.flatMap_append, List.length_append]
   have := rowL_len N hN l M
   simp only [List.flatMap_cons, List.flatMap_nil, List.append_nil]
   omega
 have := key N
 unfold plainL
 omega
def comeL (N : Nat) (ts : List Tie) (l : List Edge) : List Edge := (plainL N l).filter fun x => !decide (x ∈ ts.map ed)
def putT (l : List Tie) (t : Tie) : List Tie := l.take (l.findIdx fun x => !decide (ahead x t)) ++ t :: l.drop (l.findIdx fun x => !decide (ahead x t))
end Go.Pev.Pl
end
section
namespace Go.Pev.Pl
set_option linter.unusedSimpArgs false
def valid (N : Nat) (t : Tie) : Prop := 0 ≤ t.1 ∧ t.1 < t.2.1 ∧ t.2.1 < (N : Int) ∧ 0 ≤ t.2.2.1 ∧ t.2.2.1 ≤ topV N
theorem ahead.trans {a b c : Tie} (h : ahead a b) (h' : ahead b c) : ahead a c := by
 unfold ahead at *
 omega
theorem oks_iff (N : Nat) (ts : List Tie) : oks N ts ↔ (∀ t ∈ ts, valid N t) ∧ ts.Pairwise ahead := by
 constructor
 ·intro h
  have hv : ∀ i, i < ts.length → okAt N ts i := fun i hi => h i (by simpa using hi)
  refine ⟨fun t ht => ?_, ?_⟩
  ·obtain ⟨i, hi, rfl⟩ := List.getElem_of_mem ht
   obtain ⟨q1, q2, q3, q4, q5, _⟩ := hv i hi
   simp only [List.getD_eq_getElem?_getD, List.getElem?_eq_getElem hi, Option.getD_some] at q1 q2 q3 q4 q5
   exact ⟨q1, q2, q3, q4, q5⟩
  ·have key : ∀ (d i : Nat), i + d + 1 < ts.length → ahead (ts.getD i zT) (ts.getD (i + d + 1) zT) := by
    intro d
    induction d with
    | zero =>
     intro i hi
     obtain ⟨_, _, _, _, _, q⟩ := hv (i + 0 + 1) hi
     rcases q with q | q
     ·omega
     ·simpa using q
    | succ d ih =>
     intro i hi
     have h1 := ih i (by omega)
     obtain ⟨_, _, _, _, _, q⟩ := hv (i + (d + 1) + 1) hi
     rcases q with q | q
     ·omega
     ·rw [show i + (d + 1) + 1 - 1 = i + d + 1 by omega] at q
      exact h1.trans q
   rw [List.pairwise_iff_getElem]
   intro i j hi hj hij
   have := key (j - i - 1) i (by omega)
   rw [show i + (j - i - 1) + 1 = j by omega] at this
   simpa only [List.getD_eq_getElem?_getD, List.getElem?_eq_getElem hi, List.getElem?_eq_getElem hj, Option.getD_some] using this
 ·rintro ⟨h1, h2⟩ i hi
  have hi : i < ts.length := by simpa using hi
  have e : ∀ j (hj : j < ts.length), ts.getD j zT = ts[j] := fun j hj => by
   simp only [List.getD_eq_getElem?_getD, List.getElem?_eq_getElem hj, Option.getD_some]
  obtain ⟨q1, q2, q3, q4, q5⟩ := h1 ts[i] (List.getElem_mem hi)
  unfold okAt
  rw [e i hi]
  refine ⟨q1, q2, q3, q4, q5, ?_⟩
  by_cases h0 : i = 0
  ·exact .inl h0
  ·right
   rw [e (i - 1) (by omega)]
   exact (List.pairwise_iff_getElem.1 h2) (i - 1) i (by omega) hi (by omega)
theorem putT_perm (l : List Tie) (t : Tie) : (putT l t).Perm (t :: l) := by
 unfold putT
 refine List.perm_middle.trans ?_
 rw [List.take_append_drop]
theorem putT_pair {l : List Tie} {t : Tie} (h : l.Pairwise ahead) (hn : ∀ x ∈ l, ¬ (x.1 = t.1 ∧ x.2.1 = t.2.1)) : (putT l t).Pairwise ahead := by
 induction l with
 | nil => simp [putT]
 | cons a l ih =>
  rw [List.pairwise_cons] at h
  have hna := hn a (by simp)
  have hnl : ∀ x ∈ l, ¬ (x.1 = t.1 ∧ x.2.1 = t.2.1) := fun x hx => hn x (by simp [hx])
  by_cases ha : ahead a t
  ·have e : putT (a :: l) t = a :: putT l t := by
    unfold putT
    rw [List.findIdx_cons]
    simp [ha]
   rw [e, List.pairwise_cons]
   refine ⟨fun x hx => ?_, ih h.2 hnl⟩
   rcases List.mem_cons.1 ((putT_perm l t).mem_iff.1 hx) with rfl | hx
   ·exact ha
   ·exact h.1 x hx
  ·have e : putT (a :: l) t = t :: a :: l := by
    unfold putT
    rw [List.findIdx_cons]
    simp [ha]
   have hta : ahead t a := by unfold ahead at *; omega
   rw [e, List.pairwise_cons, List.pairwise_cons]
   refine ⟨fun x hx => ?_, h.1, h.2⟩
   rcases List.mem_cons.1 hx with rfl | hx
   ·exact hta
   ·exact hta.trans (h.1 x hx)
end Go.Pev.Pl
end
section
namespace Go.Pev.Pl
set_option linter.unusedSimpArgs false
theorem mem_plainL (N : Nat) (l : List Edge) (x : Edge) : x ∈ plainL N l ↔ 0 ≤ x.1 ∧ x.1 < x.2.1 ∧ x.2.1 < (N : Int) ∧ hasE l x.1 x.2.1 := by
 unfold plainL rowL
 simp only [List.mem_flatMap, List.mem_map, List.mem_filter, List.mem_range, decide_eq_true_eq]
 constructor
 ·rintro ⟨u, hu, i, ⟨hi, he⟩, rfl⟩
  exact ⟨by show (0 : Int) ≤ (u : Int); omega, by show (u : Int) < ((u + 1 + i : Nat) : Int); omega, by show ((u + 1 + i : Nat) : Int) < (N : Int); omega, he⟩
 ·obtain ⟨a, b, ⟨⟩⟩ := x
  rintro ⟨h1, h2, h3, h4⟩
  simp only at h1 h2 h3 h4
  obtain ⟨u, rfl⟩ := Int.eq_ofNat_of_zero_le h1
  obtain ⟨v, rfl⟩ := Int.eq_ofNat_of_zero_le (show 0 ≤ b by omega)
  refine ⟨u, by omega, v - (u + 1), ⟨by omega, ?_⟩, ?_⟩
  ·rw [show u + 1 + (v - (u + 1)) = v by omega]; exact h4
  ·rw [show u + 1 + (v - (u + 1)) = v by omega]
def aheadE (p x : Edge) : Prop := p.1 < x.1 ∨ (p.1 = x.1 ∧ p.2.1 < x.2.1)
theorem plainL_pair (N : Nat) (l : List Edge) : (plainL N l).Pairwise aheadE := by
 unfold plainL
 rw [List.pairwise_flatMap]
 refine ⟨fun u _ => ?_, ?_⟩
 ·unfold rowL
  rw [List.pairwise_map]
  refine List.Pairwise.filter _ ?_
  refine List.pairwise_lt_range.imp fun h => ?_
  exact .inr ⟨rfl, by show ((u + 1 + _ : Nat) : Int) < ((u + 1 + _ : Nat) : Int); omega⟩
 ·refine List.pairwise_lt_range.imp fun h x hx y hy => ?_
  unfold rowL at hx hy
  simp only [List.mem_map] at hx hy
  obtain ⟨i, _, rfl⟩ := hx
  obtain ⟨j, _, rfl⟩ := hy
  exact .inl (by simp only; omega)
theorem mem_comeL (N : Nat) (ts : List Tie) (l : List Edge) (x : Edge) : x ∈ comeL N ts l ↔ (0 ≤ x.1 ∧ x.1 < x.2.1 ∧ x.2.1 < (N : Int) ∧ hasE l x.1 x.2.1) ∧ ¬ x ∈ ts.map ed := by
 unfold comeL
 rw [List.mem_filter, mem_plainL]
 simp
theorem comeL_pair (N : Nat) (ts : List Tie) (l : List Edge) : (comeL N ts l).Pairwise aheadE := (plainL_pair N l).filter _
end Go.Pev.Pl
end
section
namespace Go.Pev.Pl
open Tok
instance (n v : Int) : Decidable (In n v) := inferInstanceAs (Decidable (_ ∧ _))
instance (n : Int) : Decidable (Sz n) := inferInstanceAs (Decidable (_ ∧ _))
end Go.Pev.Pl
end
section
namespace Go.Pev.Pl
instance (xs : List Int) : Decidable (Rt xs) := inferInstanceAs (Decidable (_ ∧ _ ∧ _))
end Go.Pev.Pl
end
section
namespace Go.Pev.Pl
open Tok
noncomputable instance (n : Int) (xs : List Int) : Decidable (TI n xs) := Classical.propDecidable _
end Go.Pev.Pl
end
section
namespace Go.Pev.Pl
open Tok
end Go.Pev.Pl
end
section
namespace Go.Pev.Pl
open Tok
end Go.Pev.Pl
end
section
namespace Go.Pev.Pl
open Tok
end Go.Pev.Pl
end
section
namespace Go.Pev.Pl
open Tok
noncomputable instance (n : Int) (rings : List (List Int)) : Decidable (RF n rings) := Classical.propDecidable _
noncomputable instance (n : Int) (xs : List Int) : Decidable (RG n xs) := Classical.propDecidable _
end Go.Pev.Pl
end
section
namespace Go.Pev.Pl
open Tok
end Go.Pev.Pl
end
section
namespace Go.Pev.Pl
open Tok
end Go.Pev.Pl
end
section
namespace Go.Pev.Pl
open Tok
end Go.Pev.Pl
end
section
namespace Go.Pev.Pl
open Tok
end Go.Pev.Pl
end
section
namespace Go.Pev.Pl
open Tok
theorem tof_val (n : Int) (rings : List (List Int)) (v : Int) (hD : Dom rings) : tof ((n, (rings, ())), v, ()) = some (if RF n rings ∧ In n v then plc rings v else -1, ()) := by
 rw [tof_eq, tof_d]
 simp only [tin_val, tright_val n rings hD.1 hD.2, tplace_val n rings v hD.1 (fun l hl => (hD.2 l hl).1)]
 by_cases h1 : In n v
 ·by_cases h2 : RF n rings <;> simp [h1, h2]
 ·simp [h1]
end Go.Pev.Pl
end
section
namespace Go.Pev.Pl
open Go.RowKit Tok
end Go.Pev.Pl
end
section
namespace Go.Pev.Pl
open Tok
end Go.Pev.Pl
end
section
namespace Go.Pev.Pl
open Tok
set_option linter.unusedSimpArgs false
end Go.Pev.Pl
end
section
namespace Go.Pev.Pl
open Tok
set_option linter.unusedSimpArgs false
def sel (l : List Edge) (bs : List Bool) : List Edge := ((l.zip bs).filter fun p => p.2).map fun p => p.1
end Go.Pev.Pl
end
section
namespace Go.Pev.Pl
open Tok
instance (n v : Int) : Decidable (In n v) := inferInstanceAs (Decidable (_ ∧ _))
instance (n : Int) : Decidable (Sz n) := inferInstanceAs (Decidable (_ ∧ _))
end Go.Pev.Pl
end
section
namespace Go.Pev.Pl
instance (xs : List Int) : Decidable (Rt xs) := inferInstanceAs (Decidable (_ ∧ _ ∧ _))
end Go.Pev.Pl
end
section
namespace Go.Pev.Pl
open Tok
noncomputable instance (n : Int) (xs : List Int) : Decidable (TI n xs) := Classical.propDecidable _
end Go.Pev.Pl
end
section
namespace Go.Pev.Pl
open Tok
end Go.Pev.Pl
end
section
namespace Go.Pev.Pl
open Tok
end Go.Pev.Pl
end
section
namespace Go.Pev.Pl
open Tok
end Go.Pev.Pl
end
section
namespace Go.Pev.Pl
open Tok
noncomputable instance (n : Int) (rings : List (List Int)) : Decidable (RF n rings) := Classical.propDecidable _
noncomputable instance (n : Int) (xs : List Int) : Decidable (RG n xs) := Classical.propDecidable _
end Go.Pev.Pl
end
section
namespace Go.Pev.Pl
open Tok
end Go.Pev.Pl
end
section
namespace Go.Pev.Pl
open Tok
end Go.Pev.Pl
end
section
namespace Go.Pev.Pl
open Go.RowKit Tok
end Go.Pev.Pl
end
section
namespace Go.Pev.Pl
open Tok
end Go.Pev.Pl
end
section
namespace Go.Pev.Pl
open Tok
set_option linter.unusedSimpArgs false
end Go.Pev.Pl
end
section
namespace Go.Pev.Pl
open Tok
set_option linter.unusedSimpArgs false
end Go.Pev.Pl
end
section
namespace Go.Pev.Pl
open Tok
set_option linter.unusedSimpArgs false
set_option maxRecDepth 100000
theorem trees21_val {N : Nat} (ts : List Tie) (hs : ts.length ≤ 400) (h : oks N ts) : trees21 (((N : Int), (ts, ())), (0 : Int), ()) = some (trs ts ts.length, ()) := by
 rw [trees21_eq, trees21_d]
 have e := walkL (step := trees21_s0) (fun i (a : List Edge) => ((0 : Int), (N : Int), ts, a, (i : Int), ())) (List.range ts.length) (fun i a => .inl (if (ts.getD i zT).2.2.2.1 = true then a ++ [ed (ts.getD i zT)] else a)) (fun a => .inl (a, ())) (fun i a => a.length ≤ i) (by simp; omega)
  (fun i x a hi hx ha => by
   refine ⟨fun m' h' => ?_, fun r h' => (by cases h')⟩
   cases h'
   have := range_get' hx
   subst this
   rw [List.length_range] at hi
   have hlv := (h x (by simp [hi])).2.2.2.1
   constructor
   ·rw [trees21_s0, dlen_l, ilt_nat, decide_eq_true hi]
    simp only [idx_l zT hi, dlen_l]
    have hfit : fits ((a.length : Int) + (([((ts.getD x zT).1, (ts.getD x zT).2.1, ())] : List Edge).length : Int)) = true := fits_l (by simp; omega)
    rw [wrap_add1 (by omega), ile_eq, decide_eq_true hlv]
    cases ht4 : (ts.getD x zT).2.2.2.1
    ·simp
    ·simp only [hfit]
     simp [ed, dapp]
   ·split
    ·rw [List.length_append]; simp; omega
    ·omega)
  (fun a _ => by rw [trees21_s0, List.length_range, dlen_l, ilt_nat, decide_eq_false (by omega)]) [] (Nat.le_refl _)
 have e' : iterL trees21_s0 many ((0 : Int), (N : Int), ts, [], (0 : Int), ()) = _ := e
 simp only [e']
 rw [walk_fold (fun i a => if (ts.getD i zT).2.2.2.1 = true then a ++ [ed (ts.getD i zT)] else a)]
 rfl
end Go.Pev.Pl
end
section
namespace Go.Pev.Pl
open Tok
theorem right_count {N : Nat} (h1 : 1 ≤ N) (hN : N ≤ 64) {ts : List Tie} (hs : ts.length ≤ 400) (ho : oks N ts) {out : List Int} (hc : ClOK (N : Int) (trs ts ts.length) out) :
  right21 (((N : Int), (ts, ())), ()) = some (decide ((cnt out N : Int) = (N : Int) - (trs ts ts.length).length), ()) := by
 have R := right21_loop N hN ts hs
 rw [if_pos ho] at R
 have hin := trs_in hN ho
 have hlen := trs_len ts ts.length
 obtain ⟨o2, e2, c2⟩ := classes19_val (N : Int) (trs ts ts.length) ⟨by omega, by omega⟩ (by omega) hin
 have := ClOK.unique h1 hN hc c2
 subst this
 have hol : out.length = N := by have := hc.len; omega
 rw [right21_eq, right21_d]
 simp only [ilt_eq, dlen_l]
 rw [decide_eq_false (show ¬ (N : Int) < 1 by omega), decide_eq_false (show ¬ 64 < (N : Int) by omega), decide_eq_false (show ¬ 400 < (ts.length : Int) by omega)]
 simp only [R, e2, right21_count N hN _ _ out hol, ieq_dec]
 rw [wrap_in (by omega)]
end Go.Pev.Pl
end
section
namespace Go.Pev.Pl
open Tok
set_option linter.unusedSimpArgs false
theorem Con.perm {l l' : List Edge} (h : ∀ e, e ∈ l ↔ e ∈ l') {a b : Int} : Con l a b ↔ Con l' a b :=
 ⟨fun c => c.mono fun e he => ⟨e, (h e).1 he, .inl ⟨rfl, rfl⟩⟩, fun c => c.mono fun e he => ⟨e, (h e).2 he, .inl ⟨rfl, rfl⟩⟩⟩
theorem ClOK.congr {n : Int} {l l' : List Edge} {out : List Int} (h : ∀ a b, Con l a b ↔ Con l' a b) (hc : ClOK n l out) : ClOK n l' out :=
 ⟨hc.len, fun a b ia ib => (hc.same a b ia ib).trans (h a b), hc.isin, fun a ia => (h a _).1 (hc.con a ia), fun a b ia ib c => hc.least a b ia ib ((h a b).2 c)⟩
end Go.Pev.Pl
end
section
namespace Go.Pev.Pl
open Tok
set_option linter.unusedSimpArgs false
theorem asked20_val {N : Nat} (h1 : 1 ≤ N) (hN : N ≤ 64) (l : List Edge) (hs : l.length < 1073741824) (ha : ∀ e ∈ l, In (N : Int) e.1 ∧ In (N : Int) e.2.1) : asked20 ((N : Int), l, ()) = some (0, ()) := by
 rw [asked20_eq, asked20_d, ilt_eq, decide_eq_false (by omega), ilt_eq, decide_eq_false (by omega)]
 have e := findL (step := asked20_s0) (fun i => ((N : Int), l, (i : Int), ())) l (fun _ => false) (fun _ => .inl (10, ())) (.inr (.inl ())) (by omega)
  (fun i x hi hx => by
   obtain ⟨⟨_, _, a1, a2⟩, ⟨_, _, b1, b2⟩⟩ := ha x (List.mem_of_getElem? hx)
   rw [asked20_s0, dlen_l, ilt_nat, decide_eq_true hi]
   simp only [idx_some hx]
   rw [ilt_eq, ile_eq, ilt_eq, ile_eq, decide_eq_false (show ¬ x.1 < 0 by omega), decide_eq_false (show ¬ (N : Int) ≤ x.1 by omega), decide_eq_false (show ¬ x.2.1 < 0 by omega), decide_eq_false (show ¬ (N : Int) ≤ x.2.1 by omega), wrap_add1 (by omega)]
   rfl)
  (by rw [asked20_s0, dlen_l, ilt_nat, decide_eq_false (by omega)])
 have e' : iterL asked20_s0 many ((N : Int), l, (0 : Int), ()) = _ := e
 simp only [e']
 simp
end Go.Pev.Pl
end
section
namespace Go.Pev.Pl
open Tok
set_option linter.unusedSimpArgs false
def tieOf (x : Edge) (b : Bool) : Tie := (x.1, x.2.1, 0, b, ())
def addT (ts : List Tie) (xs : List Edge) (bs : List Bool) (k : Nat) : List Tie := (List.range k).foldl (fun a i => putT a (tieOf (xs.getD i (0, 0, ())) (bs.getD i false))) ts
end Go.Pev.Pl
end
section
namespace Go.Pev.Pl
open Tok
set_option linter.unusedSimpArgs false
def newT (xs : List Edge) (bs : List Bool) (k : Nat) : List Tie := (List.range k).map fun i => tieOf (xs.getD i (0, 0, ())) (bs.getD i false)
theorem addT_succ (ts : List Tie) (xs : List Edge) (bs : List Bool) (k : Nat) : addT ts xs bs (k + 1) = putT (addT ts xs bs k) (tieOf (xs.getD k (0, 0, ())) (bs.getD k false)) := by
 unfold addT
 rw [List.range_succ, List.foldl_append]
 rfl
theorem addT_perm (ts : List Tie) (xs : List Edge) (bs : List Bool) : ∀ k, (addT ts xs bs k).Perm (ts ++ newT xs bs k) := by
 intro k
 induction k with
 | zero => simp [addT, newT]
 | succ k ih =>
  rw [addT_succ]
  refine (putT_perm _ _).trans ?_
  unfold newT at *
  rw [List.range_succ, List.map_append, ← List.append_assoc]
  refine (List.Perm.cons _ ih).trans ?_
  exact (List.perm_append_singleton _ _).symm
end Go.Pev.Pl
end
section
namespace Go.Pev.Pl
open Tok
set_option linter.unusedSimpArgs false
theorem addT_oks {N : Nat} {ts : List Tie} (h : oks N ts) (hv0 : 0 ≤ topV N) {xs : List Edge} (bs : List Bool) (hp : xs.Pairwise aheadE) (hx : ∀ e ∈ xs, 0 ≤ e.1 ∧ e.1 < e.2.1 ∧ e.2.1 < (N : Int)) (hn : ∀ e ∈ xs, ¬ e ∈ ts.map ed) : oks N (addT ts xs bs xs.length) := by
 rw [oks_iff] at h ⊢
 obtain ⟨h1, h2⟩ := h
 have hget : ∀ i (hi : i < xs.length), xs.getD i (0, 0, ()) = xs[i] := fun i hi => by
  simp only [List.getD_eq_getElem?_getD, List.getElem?_eq_getElem hi, Option.getD_some]
 have hmem : ∀ k, k ≤ xs.length → ∀ t ∈ addT ts xs bs k, t ∈ ts ∨ ∃ i, i < k ∧ t = tieOf (xs.getD i (0, 0, ())) (bs.getD i false) := by
  intro k hk t ht
  rcases List.mem_append.1 ((addT_perm ts xs bs k).mem_iff.1 ht) with h | h
  ·exact .inl h
  ·unfold newT at h
   obtain ⟨i, hi, rfl⟩ := List.mem_map.1 h
   exact .inr ⟨i, by simpa using hi, rfl⟩
 refine ⟨fun t ht => ?_, ?_⟩
 ·rcases hmem _ (Nat.le_refl _) t ht with h | ⟨i, hi, rfl⟩
  ·exact h1 t h
  ·rw [hget i hi]
   obtain ⟨q1, q2, q3⟩ := hx xs[i] (List.getElem_mem hi)
   exact ⟨q1, q2, q3, by show (0 : Int) ≤ 0; omega, hv0⟩
 ·have key : ∀ k, k ≤ xs.length → (addT ts xs bs k).Pairwise ahead := by
   intro k
   induction k with
   | zero => intro _; exact h2
   | succ k ih =>
    intro hk
    rw [addT_succ]
    refine putT_pair (ih (by omega)) fun t ht => ?_
    rw [hget k (by omega)]
    rintro ⟨e1, e2⟩
    rcases hmem k (by omega) t ht with h | ⟨i, hi, rfl⟩
    ·refine hn xs[k] (List.getElem_mem (by omega)) (List.mem_map.2 ⟨t, h, ?_⟩)
     unfold ed
     rw [e1, e2]
     rfl
    ·rw [hget i (by omega)] at e1 e2
     have := (List.pairwise_iff_getElem.1 hp) i k (by omega) (by omega) hi
     unfold aheadE at this
     simp only [tieOf] at e1 e2
     omega
  exact key _ (Nat.le_refl _)
end Go.Pev.Pl
end
section
namespace Go.Pev.Pl
open Tok
set_option linter.unusedSimpArgs false
theorem trs_take (ts : List Tie) : ∀ k, k ≤ ts.length → trs ts k = ((ts.take k).filter fun t => t.2.2.2.1).map ed := by
 intro k
 induction k with
 | zero => intro _; simp [trs]
 | succ k ih =>
  intro hk
  have hk' : k < ts.length := by omega
  rw [trs_succ, ih (by omega), List.take_succ_eq_append_getElem hk', List.filter_append, List.map_append]
  simp only [List.getD_eq_getElem?_getD, List.getElem?_eq_getElem hk', Option.getD_some]
  cases h : ts[k].2.2.2.1
  ·simp [h]
  ·simp [h]
theorem trs_all (ts : List Tie) : trs ts ts.length = (ts.filter fun t => t.2.2.2.1).map ed := by
 rw [trs_take ts _ (Nat.le_refl _), List.take_length]
end Go.Pev.Pl
end
section
namespace Go.Pev.Pl
open Tok
set_option linter.unusedSimpArgs false
theorem newT_zip {xs : List Edge} {bs : List Bool} (h : bs.length = xs.length) : newT xs bs xs.length = (xs.zip bs).map fun p => tieOf p.1 p.2 := by
 unfold newT
 apply List.ext_getElem
 ·simp [h]
 ·intro i h1 h2
  have hi : i < xs.length := by simpa using h1
  simp [hi, show i < bs.length by omega]
theorem zip_fst : ∀ (xs : List Edge) (bs : List Bool), bs.length = xs.length → ((xs.zip bs).map fun p => p.1) = xs := by
 intro xs
 induction xs with
 | nil => intro bs _; rfl
 | cons x xs ih =>
  intro bs h
  cases bs with
  | nil => simp at h
  | cons b bs => simp only [List.zip_cons_cons, List.map_cons, ih bs (by simpa using h)]
theorem addT_eds (ts : List Tie) {xs : List Edge} {bs : List Bool} (h : bs.length = xs.length) : ((addT ts xs bs xs.length).map ed).Perm (ts.map ed ++ xs) := by
 refine ((addT_perm ts xs bs xs.length).map ed).trans ?_
 rw [List.map_append, newT_zip h, List.map_map]
 have : ((xs.zip bs).map (ed ∘ fun p => tieOf p.1 p.2)) = xs := zip_fst xs bs h
 rw [this]
theorem addT_trs (ts : List Tie) {xs : List Edge} {bs : List Bool} (h : bs.length = xs.length) : (trs (addT ts xs bs xs.length) (addT ts xs bs xs.length).length).Perm (trs ts ts.length ++ sel xs bs) := by
 rw [trs_all, trs_all]
 refine (((addT_perm ts xs bs xs.length).filter _).map ed).trans ?_
 rw [List.filter_append, List.map_append, newT_zip h, List.filter_map, List.map_map]
 exact List.Perm.refl _
theorem addT_len (ts : List Tie) (xs : List Edge) (bs : List Bool) : ∀ k, (addT ts xs bs k).length = ts.length + k := by
 intro k
 rw [(addT_perm ts xs bs k).length_eq]
 simp [newT]
end Go.Pev.Pl
end
section
namespace Go.Pev.Pl
open Tok
set_option linter.unusedSimpArgs false
set_option maxRecDepth 100000
def allIn (N : Nat) (l : List Edge) : Prop := ∀ e ∈ l, In (N : Int) e.1 ∧ In (N : Int) e.2.1
theorem comeL_len (N : Nat) (hN : N ≤ 64) (ts : List Tie) (l : List Edge) : (comeL N ts l).length ≤ 4096 := by
 unfold comeL
 exact Nat.le_trans (List.length_filter_le _ _) (plainL_len N hN l)
theorem comeL_in {N : Nat} (hN : N ≤ 64) (ts : List Tie) (l : List Edge) : ∀ e ∈ comeL N ts l, In (N : Int) e.1 ∧ In (N : Int) e.2.1 := by
 intro e he
 obtain ⟨⟨a, b, c, _⟩, _⟩ := (mem_comeL N ts l e).1 he
 exact ⟨⟨by omega, by omega, a, by omega⟩, ⟨by omega, by omega, by omega, c⟩⟩
end Go.Pev.Pl
end
section
namespace Go.Pev.Pl
set_option linter.unusedSectionVars false
def Low (l : List Edge) (k : Nat) : Prop := ∀ j : Nat, j < k → ¬ Con l (j : Int) (k : Int)
noncomputable def lowB (l : List Edge) (k : Nat) : Bool := @decide (Low l k) (Classical.propDecidable _)
theorem lowB_iff (l : List Edge) (k : Nat) : lowB l k = true ↔ Low l k := by
 unfold lowB
 exact @decide_eq_true_iff _ (Classical.propDecidable _)
noncomputable def cc (N : Nat) (l : List Edge) : Nat := (List.range N).countP (lowB l)
noncomputable def conB (l : List Edge) (a b : Int) : Bool := @decide (Con l a b) (Classical.propDecidable _)
theorem conB_iff (l : List Edge) (a b : Int) : conB l a b = true ↔ Con l a b := by
 unfold conB
 exact @decide_eq_true_iff _ (Classical.propDecidable _)
theorem Con.sub {l l' : List Edge} (h : ∀ e ∈ l, e ∈ l') {a b : Int} (c : Con l a b) : Con l' a b := c.mono fun e he => ⟨e, h e he, .inl ⟨rfl, rfl⟩⟩
theorem Con.cut {l l' : List Edge} (h : ∀ e ∈ l, Con l' e.1 e.2.1) {a b : Int} (c : Con l a b) : Con l' a b := by
 induction c with
 | refl a => exact .refl a
 | edge e he => exact h e he
 | symm _ ih => exact ih.symm
 | trans _ _ ih1 ih2 => exact ih1.trans ih2
theorem low_ex (l : List Edge) : ∀ v : Nat, ∃ m : Nat, m ≤ v ∧ Con l (m : Int) (v : Int) ∧ Low l m := by
 intro v
 induction v using Nat.strongRecOn with
 | ind v ih =>
  by_cases h : Low l v
  ·exact ⟨v, Nat.le_refl _, .refl _, h⟩
  ·have : ∃ j : Nat, j < v ∧ Con l (j : Int) (v : Int) := Classical.byContradiction fun hn => h fun j hj hc => hn ⟨j, hj, hc⟩
   obtain ⟨j, hj, hc⟩ := this
   obtain ⟨m, h1, h2, h3⟩ := ih j hj
   exact ⟨m, by omega, h2.trans hc, h3⟩
theorem Low.le {l : List Edge} {m j : Nat} (h : Low l m) (hc : Con l (m : Int) (j : Int)) : m ≤ j := by
 refine Nat.le_of_not_lt fun hj => h j hj hc.symm
theorem Low.uniq {l : List Edge} {a b : Nat} (ha : Low l a) (hb : Low l b) (h : Con l (a : Int) (b : Int)) : a = b := by
 have := ha.le h
 have := hb.le h.symm
 omega
theorem cc_congr {N : Nat} {l l' : List Edge} (h : ∀ j k : Nat, j < N → k < N → (Con l (j : Int) (k : Int) ↔ Con l' (j : Int) (k : Int))) : cc N l = cc N l' := by
 unfold cc
 refine List.countP_congr fun k hk => ?_
 have hk : k < N := by simpa using hk
 rw [lowB_iff, lowB_iff]
 constructor
 ·intro q j hj hc; exact q j hj ((h j k (by omega) hk).2 hc)
 ·intro q j hj hc; exact q j hj ((h j k (by omega) hk).1 hc)
theorem cc_con {N : Nat} {l l' : List Edge} (h : ∀ a b, Con l a b ↔ Con l' a b) : cc N l = cc N l' := cc_congr fun _ _ _ _ => h _ _
theorem con_mem {l l' : List Edge} (h : ∀ e, e ∈ l ↔ e ∈ l') {a b : Int} : Con l a b ↔ Con l' a b := ⟨fun c => c.sub fun e he => (h e).1 he, fun c => c.sub fun e he => (h e).2 he⟩
theorem cc_perm {N : Nat} {l l' : List Edge} (h : l.Perm l') : cc N l = cc N l' := cc_con fun _ _ => con_mem fun _ => h.mem_iff
theorem cc_nil (N : Nat) : cc N [] = N := by
 unfold cc
 have : (List.range N).countP (lowB []) = (List.range N).length := by
  rw [List.countP_eq_length]
  intro k _
  rw [lowB_iff]
  intro j hj hc
  have := hc.nil
  omega
 rw [this, List.length_range]
theorem cc_le (N : Nat) (l : List Edge) : cc N l ≤ N := by
 unfold cc
 have := List.countP_le_length (p := lowB l) (l := List.range N)
 rw [List.length_range] at this
 exact this
theorem countP_one {P : Nat → Bool} {M : Nat} (hM : P M = true) : ∀ {xs : List Nat}, xs.Nodup → M ∈ xs → xs.countP P = xs.countP (fun k => P k && !decide (k = M)) + 1 := by
 intro xs
 induction xs with
 | nil => intro _ h; cases h
 | cons x xs ih =>
  intro hn h
  rw [List.nodup_cons] at hn
  rw [List.countP_cons, List.countP_cons]
  by_cases hx : x = M
  ·subst hx
   have : xs.countP P = xs.countP (fun k => P k && !decide (k = x)) := by
    refine List.countP_congr fun k hk => ?_
    have : k ≠ x := fun e => hn.1 (e ▸ hk)
    simp [this]
   simp [hM, this]
  ·have := ih hn.2 (by rcases List.mem_cons.1 h with h | h; exact absurd h.symm hx; exact h)
   rw [this]
   simp [hx]
   omega
def InE (N : Nat) (e : Edge) : Prop := (0 ≤ e.1 ∧ e.1 < (N : Int)) ∧ (0 ≤ e.2.1 ∧ e.2.1 < (N : Int))
theorem con_snoc_of {l : List Edge} {e : Edge} (h : Con l e.1 e.2.1) {a b : Int} : Con (l ++ [e]) a b ↔ Con l a b :=
 ⟨fun c => c.cut fun x hx => by
  rcases List.mem_append.1 hx with hx | hx
  ·exact .edge x hx
  ·rw [List.mem_singleton] at hx; subst hx; exact h, fun c => c.sub fun x hx => List.mem_append.2 (.inl hx)⟩
theorem cc_snoc {N : Nat} {l : List Edge} {e : Edge} (he : InE N e) : cc N l = cc N (l ++ [e]) + (if conB l e.1 e.2.1 = true then 0 else 1) := by
 by_cases h : Con l e.1 e.2.1
 ·rw [if_pos ((conB_iff _ _ _).2 h), Nat.add_zero]
  exact cc_con fun a b => (con_snoc_of h).symm
 ·rw [if_neg (fun hh => h ((conB_iff _ _ _).1 hh))]
  obtain ⟨⟨a1, a2⟩, b1, b2⟩ := he
  obtain ⟨u, hu⟩ := Int.eq_ofNat_of_zero_le a1
  obtain ⟨v, hv⟩ := Int.eq_ofNat_of_zero_le b1
  have hsn : ∀ {a b : Int}, Con (l ++ [e]) a b ↔ Con l a b ∨ (Con l a (u : Int) ∧ Con l (v : Int) b) ∨ (Con l a (v : Int) ∧ Con l (u : Int) b) := by
   intro a b
   rw [Con.snoc, hu, hv]
  rw [hu, hv] at h
  obtain ⟨p, p1, p2, p3⟩ := low_ex l u
  obtain ⟨q, q1, q2, q3⟩ := low_ex l v
  have hpq : p ≠ q := fun e => h (p2.symm.trans (e ▸ q2))
  have hlow : ∀ k : Nat, Low (l ++ [e]) k ↔ Low l k ∧ k ≠ max p q := by
   intro k
   constructor
   ·intro hk
    refine ⟨fun j hj hc => hk j hj (hsn.2 (.inl hc)), fun e => ?_⟩
    refine hk (min p q) (by omega) (hsn.2 ?_)
    by_cases hlt : p < q
    ·rw [e, Nat.min_eq_left (by omega), Nat.max_eq_right (by omega)]
     exact .inr (.inl ⟨p2, q2.symm⟩)
    ·rw [e, Nat.min_eq_right (by omega), Nat.max_eq_left (by omega)]
     exact .inr (.inr ⟨q2, p2.symm⟩)
   ·rintro ⟨hk, hne⟩ j hj hc
    rcases hsn.1 hc with hc | ⟨c1, c2⟩ | ⟨c1, c2⟩
    ·exact hk j hj hc
    ·have e1 := q3.uniq hk (q2.trans c2)
     have e2 := p3.le (p2.trans c1.symm)
     omega
    ·have e1 := p3.uniq hk (p2.trans c2)
     have e2 := q3.le (q2.trans c1.symm)
     omega
  have hM : lowB l (max p q) = true := by
   rw [lowB_iff]
   by_cases hlt : p < q
   ·rw [Nat.max_eq_right (by omega)]; exact q3
   ·rw [Nat.max_eq_left (by omega)]; exact p3
  unfold cc
  rw [countP_one hM List.nodup_range (by rw [List.mem_range]; omega)]
  congr 1
  refine List.countP_congr fun k _ => ?_
  rw [lowB_iff, hlow, Bool.and_eq_true, lowB_iff]
  simp
noncomputable def gfl : List Edge → List Edge → List Bool
 | _, [] => []
 | b, x :: xs => (!conB b x.1 x.2.1) :: gfl (b ++ [x]) xs
noncomputable def gsel : List Edge → List Edge → List Edge
 | _, [] => []
 | b, x :: xs => if conB b x.1 x.2.1 = true then gsel (b ++ [x]) xs else x :: gsel (b ++ [x]) xs
theorem gfl_len : ∀ (xs b : List Edge), (gfl b xs).length = xs.length := by
 intro xs
 induction xs with
 | nil => intro b; rfl
 | cons x xs ih => intro b; rw [gfl, List.length_cons, List.length_cons, ih]
theorem gfl_snoc : ∀ (xs b : List Edge) (x : Edge), gfl b (xs ++ [x]) = gfl b xs ++ [!conB (b ++ xs) x.1 x.2.1] := by
 intro xs
 induction xs with
 | nil => intro b x; simp [gfl]
 | cons y xs ih =>
  intro b x
  rw [List.cons_append, gfl, gfl, ih, List.cons_append]
  simp
theorem gsel_sub : ∀ (xs b : List Edge), (gsel b xs).Sublist xs := by
 intro xs
 induction xs with
 | nil => intro b; exact List.Sublist.refl _
 | cons x xs ih =>
  intro b
  rw [gsel]
  split
  ·exact (ih _).cons x
  ·exact (ih _).cons_cons x
theorem con_gsel : ∀ (xs b : List Edge) {a c : Int}, Con (b ++ xs) a c ↔ Con (b ++ gsel b xs) a c := by
 intro xs
 induction xs with
 | nil => intro b a c; rfl
 | cons x xs ih =>
  intro b a c
  have e1 : b ++ x :: xs = (b ++ [x]) ++ xs := by simp
  rw [e1, ih, gsel]
  by_cases h : Con b x.1 x.2.1
  ·rw [if_pos ((conB_iff _ _ _).2 h)]
   constructor
   ·intro q
    refine q.cut fun y hy => ?_
    rcases List.mem_append.1 hy with hy | hy
    ·rcases List.mem_append.1 hy with hy | hy
     ·exact .edge y (List.mem_append.2 (.inl hy))
     ·rw [List.mem_singleton] at hy; subst hy
      exact h.sub fun z hz => List.mem_append.2 (.inl hz)
    ·exact .edge y (List.mem_append.2 (.inr hy))
   ·intro q
    refine q.sub fun y hy => ?_
    rcases List.mem_append.1 hy with hy | hy
    ·simp [hy]
    ·simp [hy]
  ·rw [if_neg (fun hh => h ((conB_iff _ _ _).1 hh))]
   exact con_mem fun y => by simp
theorem cc_append {N : Nat} : ∀ (xs b : List Edge), (∀ e ∈ xs, InE N e) → cc N b = cc N (b ++ xs) + (gsel b xs).length := by
 intro xs
 induction xs with
 | nil => intro b _; simp [gsel]
 | cons x xs ih =>
  intro b h
  have e1 : b ++ x :: xs = (b ++ [x]) ++ xs := by simp
  rw [cc_snoc (h x (by simp)), ih (b ++ [x]) (fun e he => h e (by simp [he])), e1, gsel]
  by_cases hc : conB b x.1 x.2.1 = true
  ·rw [if_pos hc, if_pos hc, Nat.add_zero]
  ·rw [if_neg hc, if_neg hc, List.length_cons]
   omega
theorem cc_ge {N : Nat} (xs b : List Edge) (h : ∀ e ∈ xs, InE N e) : cc N b ≤ cc N (b ++ xs) + xs.length := by
 have := cc_append xs b h
 have := (gsel_sub xs b).length_le
 omega
def Fo (N : Nat) (l : List Edge) : Prop := cc N l + l.length = N
theorem Fo.perm {N : Nat} {l l' : List Edge} (h : Fo N l) (hp : l.Perm l') : Fo N l' := by
 unfold Fo at *
 rw [← cc_perm hp, ← hp.length_eq]; exact h
theorem cc_all {N : Nat} (l : List Edge) (h : ∀ e ∈ l, InE N e) : N ≤ cc N l + l.length := by
 have := cc_ge l [] h
 rw [cc_nil, List.nil_append] at this
 exact this
theorem Fo.front {N : Nat} {a b : List Edge} (h : Fo N (a ++ b)) (ha : ∀ e ∈ a, InE N e) (hb : ∀ e ∈ b, InE N e) : Fo N a := by
 unfold Fo at *
 have h1 := cc_all a ha
 have h2 := cc_ge b a hb
 rw [List.length_append] at h
 omega
theorem perm_sub {α : Type} {a l : List α} (h : a.Sublist l) : ∃ r, l.Perm (a ++ r) := by
 induction h with
 | slnil => exact ⟨[], List.Perm.refl _⟩
 | @cons a l x _ ih =>
  obtain ⟨r, hr⟩ := ih
  exact ⟨x :: r, (hr.cons x).trans (List.perm_middle.symm)⟩
 | @cons_cons a l x _ ih =>
  obtain ⟨r, hr⟩ := ih
  exact ⟨r, hr.cons x⟩
theorem Fo.sub {N : Nat} {a l : List Edge} (h : Fo N l) (hs : a.Sublist l) (hl : ∀ e ∈ l, InE N e) : Fo N a := by
 obtain ⟨r, hr⟩ := perm_sub hs
 exact (h.perm hr).front (fun e he => hl e (hr.mem_iff.2 (List.mem_append.2 (.inl he)))) (fun e he => hl e (hr.mem_iff.2 (List.mem_append.2 (.inr he))))
theorem Fo.gsel {N : Nat} {b xs : List Edge} (h : Fo N (b ++ xs)) (hb : ∀ e ∈ b, InE N e) (hx : ∀ e ∈ xs, InE N e) : gsel b xs = xs := by
 have h1 := cc_append xs b hx
 have h2 := h.front hb hx
 unfold Fo at *
 rw [List.length_append] at h
 exact (gsel_sub xs b).eq_of_length (by omega)
theorem con_contract {N : Nat} {base l : List Edge} {r : Int → Int} (hr : ∀ a b, (0 ≤ a ∧ a < (N : Int)) → (0 ≤ b ∧ b < (N : Int)) → (r a = r b ↔ Con base a b)) (hc : ∀ a, (0 ≤ a ∧ a < (N : Int)) → Con base a (r a))
  (hb : ∀ e ∈ base, InE N e) (hl : ∀ e ∈ l, InE N e) {a b : Int} (ia : 0 ≤ a ∧ a < (N : Int)) (ib : 0 ≤ b ∧ b < (N : Int)) :
  Con (base ++ l) a b ↔ Con (l.map fun e => (r e.1, r e.2.1, ())) (r a) (r b) := by
 constructor
 ·intro h
  have key : ∀ {x y : Int}, Con (base ++ l) x y → x = y ∨ Con (l.map fun e => (r e.1, r e.2.1, ())) (r x) (r y) := by
   intro x y hxy
   induction hxy with
   | refl x => exact .inl rfl
   | edge e he =>
    rcases List.mem_append.1 he with he | he
    ·have := (hr e.1 e.2.1 (hb e he).1 (hb e he).2).2 (.edge e he)
     rw [this]
     exact .inr (.refl _)
    ·exact .inr (.edge (l := l.map fun e => (r e.1, r e.2.1, ())) (r e.1, r e.2.1, ()) (List.mem_map.2 ⟨e, he, rfl⟩))
   | symm _ ih =>
    rcases ih with h | h
    ·exact .inl h.symm
    ·exact .inr h.symm
   | trans _ _ ih1 ih2 =>
    rcases ih1 with rfl | h1
    ·exact ih2
    ·rcases ih2 with rfl | h2
     ·exact .inr h1
     ·exact .inr (h1.trans h2)
  rcases key h with rfl | h
  ·exact .refl _
  ·exact h
 ·intro h
  have up : ∀ {x y : Int}, Con base x y → Con (base ++ l) x y := fun c => c.sub fun e he => List.mem_append.2 (.inl he)
  have key : ∀ {x y : Int}, Con (l.map fun e => (r e.1, r e.2.1, ())) x y → Con (base ++ l) x y := by
   intro x y hxy
   induction hxy with
   | refl x => exact .refl x
   | edge e he =>
    obtain ⟨e', he', rfl⟩ := List.mem_map.1 he
    exact ((up (hc _ (hl e' he').1)).symm.trans (.edge e' (List.mem_append.2 (.inr he')))).trans (up (hc _ (hl e' he').2))
   | symm _ ih => exact ih.symm
   | trans _ _ ih1 ih2 => exact ih1.trans ih2
  exact ((up (hc a ia)).trans (key h)).trans (up (hc b ib)).symm
end Go.Pev.Pl
end
section
namespace Go.Pev.Pl
open Tok
set_option linter.unusedSimpArgs false
set_option maxRecDepth 100000
theorem in_of {N : Nat} (h1 : 1 ≤ N) (hN : N ≤ 64) {a : Int} (h : 0 ≤ a ∧ a < (N : Int)) : In (N : Int) a := ⟨by omega, by omega, h.1, h.2⟩
theorem inE_in {N : Nat} {e : Edge} (h : In (N : Int) e.1 ∧ In (N : Int) e.2.1) : InE N e := ⟨⟨h.1.2.2.1, h.1.2.2.2⟩, ⟨h.2.2.2.1, h.2.2.2.2⟩⟩
theorem cnt_cc {N : Nat} (h1 : 1 ≤ N) (hN : N ≤ 64) {l : List Edge} {out : List Int} (hc : ClOK (N : Int) l out) : cnt out N = cc N l := by
 unfold cnt cc
 rw [List.countP_eq_length_filter]
 congr 1
 refine List.filter_congr fun k hk => ?_
 have hk : k < N := by simpa using hk
 have ik := in_of h1 hN (a := (k : Int)) ⟨by omega, by omega⟩
 have hg : out.getD k 0 = cl out (k : Int) := by unfold cl; rw [Int.toNat_natCast]
 rw [hg, Bool.eq_iff_iff, decide_eq_true_iff, lowB_iff]
 constructor
 ·intro h j hj hcn
  have := hc.least (k : Int) (j : Int) ik (in_of h1 hN ⟨by omega, by omega⟩) hcn.symm
  omega
 ·intro h
  have a1 := hc.isin _ ik
  have a2 := hc.con _ ik
  have a3 := hc.least (k : Int) (k : Int) ik ik (.refl _)
  obtain ⟨m, hm⟩ := Int.eq_ofNat_of_zero_le a1.2.2.1
  rw [hm] at a2 a3 ⊢
  by_cases hlt : m < k
  ·exact absurd a2.symm (h m hlt)
  ·omega
theorem FC.count {N : Nat} (h1 : 1 ≤ N) (hN : N ≤ 64) {rings : List (List Int)} {l : List Edge} (h : FC (N : Int) rings l) (hs : l.length < 1073741824) (ha : ∀ e ∈ l, In (N : Int) e.1 ∧ In (N : Int) e.2.1) : rings.length = cc N l := by
 obtain ⟨o, _, c⟩ := classes19_val (N : Int) l ⟨by omega, by omega⟩ hs ha
 rw [rings_count h c, cnt_cc h1 hN c]
theorem FC.congr {n : Int} {rings : List (List Int)} {l l' : List Edge} (h : FC n rings l) (hm : ∀ e ∈ l, e ∈ l') (hc : ∀ e ∈ l', Con l e.1 e.2.1) : FC n rings l' :=
 ⟨h.fr, fun a b ia ib => (h.sam a b ia ib).trans ⟨fun c => c.sub hm, fun c => c.cut hc⟩, fun A hA u v ho hu => by
  obtain ⟨e, he, q⟩ := h.arcs A hA u v ho hu
  exact ⟨e, hm e he, q⟩⟩
theorem right_fo {N : Nat} (h1 : 1 ≤ N) (hN : N ≤ 64) {ts : List Tie} (hs : ts.length ≤ 400) (ho : oks N ts) : right21 (((N : Int), (ts, ())), ()) = some (true, ()) ↔ Fo N (trs ts ts.length) := by
 have hlen := trs_len ts ts.length
 obtain ⟨o, _, c⟩ := classes19_val (N : Int) (trs ts ts.length) ⟨by omega, by omega⟩ (by omega) (trs_in hN ho)
 rw [right_count h1 hN hs ho c, cnt_cc h1 hN c]
 unfold Fo
 constructor
 ·intro h
  have : decide ((cc N (trs ts ts.length) : Int) = (N : Int) - (trs ts ts.length).length) = true := by injection h with h; injection h
  have := of_decide_eq_true this
  omega
 ·intro h
  rw [decide_eq_true (by omega)]
theorem gfl_map (f : Edge → Edge) : ∀ (l b b' : List Edge), (∀ p x s, l = p ++ x :: s → conB (b ++ p) x.1 x.2.1 = conB (b' ++ p.map f) (f x).1 (f x).2.1) → gfl b l = gfl b' (l.map f) := by
 intro l
 induction l with
 | nil => intro b b' _; rfl
 | cons x l ih =>
  intro b b' h
  rw [gfl, List.map_cons, gfl]
  have h0 := h [] x l rfl
  simp only [List.append_nil, List.map_nil] at h0
  rw [h0, ih (b ++ [x]) (b' ++ [f x]) (fun p y s e => by
   have := h (x :: p) y s (by rw [e]; rfl)
   simpa using this)]
theorem sjoin_flag {N : Nat} (hN : N ≤ 64) {c : Int → Int} {s : List Int} (hs : UF N s c) {u v : Nat} (hu : u < N) (hv : v < N) : ∃ s', sjoin (s, (u : Int), (v : Int), ()) = some (s', !decide (c (u : Int) = c (v : Int)), ()) ∧ UF N s' (relab c u v) := by
 obtain ⟨s', b, e, g⟩ := sjoin_val hN hs hu hv
 refine ⟨s', ?_, g⟩
 rw [e]
 obtain ⟨s1, e1, g1, _⟩ := sleast_val hN hs hu
 obtain ⟨s2, e2, g2, _⟩ := sleast_val hN g1 hv
 rw [sjoin_eq, sjoin_d] at e
 simp only [e1, e2, ieq_dec] at e
 split at e
 ·cases e
 ·cases e
  rfl
theorem eachJoin_gfl {N : Nat} (h1 : 1 ≤ N) (hN : N ≤ 64) (l : List Edge) (hs : l.length < 1073741824) (ha : ∀ e ∈ l, In (N : Int) e.1 ∧ In (N : Int) e.2.1) :
  ∃ s, eachJoin (l, (List.range N).map (fun (k : Nat) => (k : Int)), ()) = some (s, gfl [] l, ()) := by
 rw [eachJoin_eq, eachJoin_d]
 have key : ∀ (m i n : Nat) (s : List Int) (c : Int → Int), l.length - i = m → i ≤ l.length → m < n → UF N s c → Tells N c (l.take i) →
   ∃ s', iterO eachJoin_s0 n (s, gfl [] (l.take i), l, dlen l, (i : Int), ()) = some (.inl (s', gfl [] l, ())) := by
  intro m
  induction m with
  | zero =>
   intro i n s c hm hi hn hu ht
   obtain ⟨n, rfl⟩ : ∃ k, n = k + 1 := ⟨n - 1, by omega⟩
   have e : i = l.length := by omega
   subst e
   rw [iterO, eachJoin_s0, dlen_l, ilt_nat, decide_eq_false (by omega), List.take_length]
   exact ⟨s, rfl⟩
  | succ m ih =>
   intro i n s c hm hi hn hu ht
   obtain ⟨n, rfl⟩ : ∃ k, n = k + 1 := ⟨n - 1, by omega⟩
   have hi' : i < l.length := by omega
   have hx : l[i]? = some l[i] := by simp [hi']
   obtain ⟨i1, i2⟩ := ha l[i] (List.getElem_mem hi')
   have htl := ht l[i].1 l[i].2.1 i1 i2
   obtain ⟨_, _, a1, a2⟩ := i1
   obtain ⟨_, _, b1, b2⟩ := i2
   obtain ⟨u, hu'⟩ := Int.eq_ofNat_of_zero_le a1
   obtain ⟨v, hv'⟩ := Int.eq_ofNat_of_zero_le b1
   obtain ⟨s', e, g⟩ := sjoin_flag hN hu (u := u) (v := v) (by omega) (by omega)
   have hlt : (l.take i).length = i := by rw [List.length_take]; omega
   rw [iterO, eachJoin_s0, dlen_l, ilt_nat, decide_eq_true hi']
   simp only [idx_some hx, hu', hv', e, dlen_l]
   rw [fits_l (by rw [gfl_len, hlt]; simp; omega), wrap_add1 (by omega)]
   have htk : l.take (i + 1) = l.take i ++ [l[i]] := List.take_succ_eq_append_getElem hi'
   have hfl : dapp (gfl [] (l.take i)) [!decide (c (u : Int) = c (v : Int))] = gfl [] (l.take (i + 1)) := by
    rw [htk, gfl_snoc, dapp_l, List.nil_append]
    congr 2
    rw [hu', hv'] at htl ⊢
    congr 1
    rw [Bool.eq_iff_iff, decide_eq_true_iff, conB_iff]
    exact htl
   rw [hfl]
   refine ih (i + 1) n s' _ (by omega) (by omega) (by omega) g ?_
   rw [htk]
   have := ht.snoc (e := l[i]) (ha l[i] (List.getElem_mem hi')).1 (ha l[i] (List.getElem_mem hi')).2
   rw [hu', hv'] at this
   exact this
 obtain ⟨s, e⟩ := key l.length 0 many _ _ rfl (Nat.zero_le _) (by simp only [many]; omega) (UF_alone N) (by
  intro a b _ _
  rw [List.take_zero]
  exact ⟨fun h => by have h : a = b := h; rw [h]; exact .refl _, fun h => h.nil⟩)
 have e' : iterL eachJoin_s0 many ((List.range N).map (fun (k : Nat) => (k : Int)), [], l, dlen l, (0 : Int), ()) = _ := (iterL_eq _ _ _).trans e
 rw [e']
 exact ⟨s, rfl⟩
end Go.Pev.Pl
end
section
namespace Go.Pev.Pl
open Tok
set_option linter.unusedSimpArgs false
set_option maxRecDepth 100000
theorem fleast_val {n : Int} {rings : List (List Int)} (h : FR n rings) {i : Nat} {A : List Int} {v : Int} (iv : In n v) (hi : rings[i]? = some A) (hv : v ∈ A) : fleast ((n, (rings, ())), v, ()) = some (hd A, 0, ()) := by
 have hD := h.dom
 have hRF := RF_iff.2 h
 have gA := h.rg A (List.mem_of_getElem? hi)
 have ht : fthere ((n, (rings, ())), [v], ()) = some (0, ()) := by
  rw [fthere_val n rings _ hD (by simp), askE]
  simp [hRF, iv]
 have i0 : idx A (0 : Int) = some (hd A) := by
  cases A with
  | nil => exact absurd rfl gA.2.1
  | cons x A => rw [idx_zero]; rfl
 rw [fleast_eq, fleast_d]
 simp only [ht, ieq_self', Bool.not_true, tof_val n rings v hD, hRF, iv, and_self, if_true, h.plc_eq hi iv.2.2.2 hv, idx_some hi, i0]
theorem fleast_cl {n : Int} {rings : List (List Int)} {l : List Edge} {out : List Int} (h : FC n rings l) (hc : ClOK n l out) {v : Int} (iv : In n v) : fleast ((n, (rings, ())), v, ()) = some (cl out v, 0, ()) := by
 obtain ⟨i, A, _, hi, hv, _⟩ := plc_in (h.fr.cov v iv)
 rw [fleast_val h.fr iv hi hv, hd_class h hc (List.mem_of_getElem? hi) iv hv]
theorem scontract_val {N : Nat} (h1 : 1 ≤ N) (hN : N ≤ 64) {rings : List (List Int)} {base : List Edge} {out : List Int} (h : FC (N : Int) rings base) (hc : ClOK (N : Int) base out) (l : List Edge) (hs : l.length < 1073741824) (ha : ∀ e ∈ l, In (N : Int) e.1 ∧ In (N : Int) e.2.1) :
  scontract (((N : Int), (rings, ())), l, ()) = some (l.map fun e => (cl out e.1, cl out e.2.1, ()), 0, ()) := by
 have hD := h.fr.dom
 have hRF := RF_iff.2 h.fr
 have hr : tright (((N : Int), (rings, ())), ()) = some (true, ()) := by
  rw [tright_val _ _ hD.1 hD.2]
  simp [hRF]
 rw [scontract_eq, scontract_d]
 simp only [hr, Bool.not_true, sasked_val (N : Int) l ⟨by omega, by omega⟩ hs ha, ieq_self']
 have e := walkL (step := scontract_s0) (fun i (a : List Edge) => ((N : Int), rings, a, l, dlen l, (i : Int), ())) l (fun x a => .inl (a ++ [(cl out x.1, cl out x.2.1, ())])) (fun a => .inl (a, ())) (fun i a => a.length ≤ i) (by omega)
  (fun i x a hi hx hl => by
   refine ⟨fun m' h' => ?_, fun r h' => (by cases h')⟩
   cases h'
   obtain ⟨iu, iv⟩ := ha x (List.mem_of_getElem? hx)
   constructor
   ·rw [scontract_s0, dlen_l, ilt_nat, decide_eq_true hi]
    simp only [idx_some hx, fleast_cl h hc iu, fleast_cl h hc iv]
    rw [fits_l (by simp only [dlen_l, List.length_cons, List.length_nil]; omega), wrap_add1 (by omega)]
    rfl
   ·rw [List.length_append]; simp; omega)
  (fun a _ => by rw [scontract_s0, dlen_l, ilt_nat, decide_eq_false (by omega)]) [] (Nat.le_refl _)
 have e' : iterL scontract_s0 many ((N : Int), rings, [], l, dlen l, (0 : Int), ()) = _ := e
 simp only [e']
 rw [walk_fold (fun (x : Edge) (a : List Edge) => a ++ [(cl out x.1, cl out x.2.1, ())]), foldl_app (fun x : Edge => (cl out x.1, cl out x.2.1, ()))]
 rfl
theorem schoose_val {N : Nat} (h1 : 1 ≤ N) (hN : N ≤ 64) {rings : List (List Int)} {base : List Edge} (h : FC (N : Int) rings base) (l : List Edge) (hs : base.length + l.length < 1073741824) (hb : ∀ e ∈ base, In (N : Int) e.1 ∧ In (N : Int) e.2.1) (ha : ∀ e ∈ l, In (N : Int) e.1 ∧ In (N : Int) e.2.1) :
  schoose (((N : Int), (rings, ())), l, ()) = some (gfl base l, 0, ()) := by
 obtain ⟨out, _, hc⟩ := classes19_val (N : Int) base ⟨by omega, by omega⟩ (by omega) hb
 have hin : ∀ a : Int, (0 ≤ a ∧ a < (N : Int)) → In (N : Int) a := fun a h => in_of h1 hN h
 obtain ⟨s, ej⟩ := eachJoin_gfl h1 hN (l.map fun e => (cl out e.1, cl out e.2.1, ())) (by rw [List.length_map]; omega) (fun e he => by
  obtain ⟨x, hx, rfl⟩ := List.mem_map.1 he
  exact ⟨hc.isin _ (ha x hx).1, hc.isin _ (ha x hx).2⟩)
 have hj : sjoins ((List.range N).map (fun (k : Nat) => (k : Int)), l.map fun e => (cl out e.1, cl out e.2.1, ()), ()) = some (s, gfl [] (l.map fun e => (cl out e.1, cl out e.2.1, ())), ()) := by
  rw [sjoins_eq, sjoins_d]; simp only [ej]
 rw [schoose_eq, schoose_d]
 simp only [scontract_val h1 hN h hc l (by omega) ha, ieq_self', Bool.not_true, salone_val N hN, hj]
 rw [← gfl_map (fun e => (cl out e.1, cl out e.2.1, ())) l base [] (fun p x s e => by
  have hp : ∀ y ∈ p, y ∈ l := fun y hy => by rw [e]; exact List.mem_append.2 (.inl hy)
  have hx : x ∈ l := by rw [e]; simp
  rw [List.nil_append, Bool.eq_iff_iff, conB_iff, conB_iff]
  exact con_contract (N := N) (fun a b ia ib => hc.same a b (hin a ia) (hin b ib)) (fun a ia => hc.con a (hin a ia)) (fun e he => inE_in (hb e he)) (fun e he => inE_in (ha e (hp e he))) (inE_in (ha x hx)).1 (inE_in (ha x hx)).2)]
theorem lforest_val {N : Nat} (h1 : 1 ≤ N) (hN : N ≤ 64) (ts : List Tie) (hs : ts.length ≤ 400) (h : oks N ts) (hr : lright (((N : Int), (ts, ())), ()) = some (true, ())) :
  ∃ zs, lforest (((N : Int), (ts, ())), (0 : Int), ()) = some (((N : Int), (zs, ())), 0, ()) ∧ FC (N : Int) zs (trs ts ts.length) := by
 have hl := trs_len ts ts.length
 rcases (fof_val (N : Int) (trs ts ts.length) ⟨by omega, by omega⟩ (by omega)).symm with ⟨hno, _⟩ | ⟨_, zs, e, hF⟩
 ·exact absurd (trs_in hN h) hno
 refine ⟨zs, ?_, hF⟩
 rw [lforest_eq, lforest_d]
 simp only [hr, Bool.not_true, ltrees_val ts hs h, e]
end Go.Pev.Pl
end
section
namespace Go.Pev.Pl.SE
open Go.Sort
def ok (_ : Int × Int × Unit) : Prop := True
def okz : Int × Int × Unit := (0, 0, ())
theorem okz_ok : ok okz := trivial
def lt (x y : Int × Int × Unit) : Bool := decide (x.1 < y.1 ∨ (x.1 = y.1 ∧ x.2.1 < y.2.1))
theorem swo : SWO lt := ⟨fun x => by simp [lt], fun x y z h1 h2 => by simp only [lt, decide_eq_true_eq] at *; omega, fun x y z h1 h2 => by simp only [lt, decide_eq_false_iff_not] at *; omega⟩
theorem compare_val (a b : Int) : compareI (a, b, ()) = some (if a < b then -1 else if b < a then 1 else 0, ()) := by
 rw [compareI_eq, compareI_d, nanI_eq, nanI_d, nanI_eq, nanI_d]
 simp only [ieq_eq, ilt_eq]
 by_cases h : a < b
 ·simp [h]
 ·by_cases h2 : b < a
  ·simp [h, h2]
  ·simp [h, h2]
theorem or_val (a b : Int) : orI ([a, b], ()) = some (if a = 0 then b else a, ()) := by
 obtain ⟨m, hm⟩ : ∃ m, many = m + 3 := ⟨many - 3, by simp only [many]⟩
 rw [orI_eq, orI_d, iterL_eq, hm]
 have i0 : idx [a, b] (0 : Int) = some a := by rw [idx_eq]; rfl
 have i1 : idx [a, b] (1 : Int) = some b := by rw [idx_eq]; rfl
 have l2 : dlen [a, b] = (2 : Int) := rfl
 have w1 : IntKind.wrap .i64 ((0 : Int) + 1) = 1 := by rw [wrap_in (by omega)]; rfl
 have w2 : IntKind.wrap .i64 ((1 : Int) + 1) = 2 := by rw [wrap_in (by omega)]; rfl
 have c0 : ilt (0 : Int) 2 = true := by rw [ilt_eq]; rfl
 have c1 : ilt (1 : Int) 2 = true := by rw [ilt_eq]; rfl
 have c2 : ilt (2 : Int) 2 = false := by rw [ilt_eq]; rfl
 by_cases ha : a = 0
 ·subst ha
  by_cases hb : b = 0
  ·subst hb
   have z : ieq (0 : Int) 0 = true := by rw [ieq_eq]; rfl
   simp only [iterO, orI_s0, l2, i0, i1, w1, w2, c0, c1, c2, z, Bool.not_true, if_true]
  ·have : ieq b 0 = false := by rw [ieq_eq]; simpa using hb
   have z : ieq (0 : Int) 0 = true := by rw [ieq_eq]; rfl
   simp only [iterO, orI_s0, l2, i0, i1, w1, w2, c0, c1, c2, z, this, Bool.not_true, Bool.not_false, if_true]
 ·have : ieq a 0 = false := by rw [ieq_eq]; simpa using ha
  simp only [iterO, orI_s0, l2, i0, i1, w1, w2, c0, c1, c2, this, ha, Bool.not_false, if_false]
theorem cmp_ok {x y : Int × Int × Unit} (_ : ok x) (_ : ok y) : ∃ c, gcompare (x, y, ()) = some (c, ()) ∧ ilt c (0 : Int) = lt x y := by
 rw [gcompare_eq, gcompare_d]
 simp only [compare_val, or_val, ilt_eq, lt]
 refine ⟨_, rfl, ?_⟩
 apply decide_eq_decide.2
 by_cases h1 : x.1 < y.1
 ·simp [h1]
 ·by_cases h2 : y.1 < x.1
  ·have h3 : ¬ x.1 = y.1 := by omega
   simp [h1, h2, h3]
  ·have h3 : x.1 = y.1 := by omega
   by_cases h4 : x.2.1 < y.2.1
   ·simp [h3, h4]
   ·by_cases h5 : y.2.1 < x.2.1
    ·simp [h3, h4, h5]
    ·simp [h3, h4, h5]
noncomputable def S : SG.SP (Int × Int × Unit) := ⟨((0 : Int), ((0 : Int), ())), gcompare, ok, okz, okz_ok, lt, swo, fun h1 h2 => cmp_ok h1 h2⟩
theorem sort_val (xs : List (Int × Int × Unit)) (h : xs.length < 4294967296) (hok : ∀ x ∈ xs, ok x) : ∃ ys, sortE (xs, ()) = some (ys, ()) ∧ ys.Perm xs ∧ ys.Pairwise fun x y => lt y x = false := SG.sort_val S xs h hok
end Go.Pev.Pl.SE
end
section
namespace Go.Pev.Pl.ST
open Go.Sort
def ok (_ : Int × Int × Int × Bool × Unit) : Prop := True
def okz : Int × Int × Int × Bool × Unit := (0, 0, 0, false, ())
theorem okz_ok : ok okz := trivial
def lt (x y : Int × Int × Int × Bool × Unit) : Bool := decide (x.1 < y.1 ∨ (x.1 = y.1 ∧ x.2.1 < y.2.1))
theorem swo : SWO lt := ⟨fun x => by simp [lt], fun x y z h1 h2 => by simp only [lt, decide_eq_true_eq] at *; omega, fun x y z h1 h2 => by simp only [lt, decide_eq_false_iff_not] at *; omega⟩
theorem compare_val (a b : Int) : compareI (a, b, ()) = some (if a < b then -1 else if b < a then 1 else 0, ()) := by
 rw [compareI_eq, compareI_d, nanI_eq, nanI_d, nanI_eq, nanI_d]
 simp only [ieq_eq, ilt_eq]
 by_cases h : a < b
 ·simp [h]
 ·by_cases h2 : b < a
  ·simp [h, h2]
  ·simp [h, h2]
theorem or_val (a b : Int) : orI ([a, b], ()) = some (if a = 0 then b else a, ()) := by
 obtain ⟨m, hm⟩ : ∃ m, many = m + 3 := ⟨many - 3, by simp only [many]⟩
 rw [orI_eq, orI_d, iterL_eq, hm]
 have i0 : idx [a, b] (0 : Int) = some a := by rw [idx_eq]; rfl
 have i1 : idx [a, b] (1 : Int) = some b := by rw [idx_eq]; rfl
 have l2 : dlen [a, b] = (2 : Int) := rfl
 have w1 : IntKind.wrap .i64 ((0 : Int) + 1) = 1 := by rw [wrap_in (by omega)]; rfl
 have w2 : IntKind.wrap .i64 ((1 : Int) + 1) = 2 := by rw [wrap_in (by omega)]; rfl
 have c0 : ilt (0 : Int) 2 = true := by rw [ilt_eq]; rfl
 have c1 : ilt (1 : Int) 2 = true := by rw [ilt_eq]; rfl
 have c2 : ilt (2 : Int) 2 = false := by rw [ilt_eq]; rfl
 by_cases ha : a = 0
 ·subst ha
  by_cases hb : b = 0
  ·subst hb
   have z : ieq (0 : Int) 0 = true := by rw [ieq_eq]; rfl
   simp only [iterO, orI_s0, l2, i0, i1, w1, w2, c0, c1, c2, z, Bool.not_true, if_true]
  ·have : ieq b 0 = false := by rw [ieq_eq]; simpa using hb
   have z : ieq (0 : Int) 0 = true := by rw [ieq_eq]; rfl
   simp only [iterO, orI_s0, l2, i0, i1, w1, w2, c0, c1, c2, z, this, Bool.not_true, Bool.not_false, if_true]
 ·have : ieq a 0 = false := by rw [ieq_eq]; simpa using ha
  simp only [iterO, orI_s0, l2, i0, i1, w1, w2, c0, c1, c2, this, ha, Bool.not_false, if_false]
theorem cmp_ok {x y : Int × Int × Int × Bool × Unit} (_ : ok x) (_ : ok y) : ∃ c, gadd1 (x, y, ()) = some (c, ()) ∧ ilt c (0 : Int) = lt x y := by
 rw [gadd1_eq, gadd1_d, gcompare_eq, gcompare_d]
 simp only [compare_val, or_val, ilt_eq, lt]
 refine ⟨_, rfl, ?_⟩
 apply decide_eq_decide.2
 by_cases h1 : x.1 < y.1
 ·simp [h1]
 ·by_cases h2 : y.1 < x.1
  ·have h3 : ¬ x.1 = y.1 := by omega
   simp [h1, h2, h3]
  ·have h3 : x.1 = y.1 := by omega
   by_cases h4 : x.2.1 < y.2.1
   ·simp [h3, h4]
   ·by_cases h5 : y.2.1 < x.2.1
    ·simp [h3, h4, h5]
    ·simp [h3, h4, h5]
noncomputable def S : SG.SP (Int × Int × Int × Bool × Unit) := ⟨((0 : Int), ((0 : Int), ((0 : Int), (false, ())))), gadd1, ok, okz, okz_ok, lt, swo, fun h1 h2 => cmp_ok h1 h2⟩
theorem sort_val (xs : List (Int × Int × Int × Bool × Unit)) (h : xs.length < 4294967296) (hok : ∀ x ∈ xs, ok x) : ∃ ys, sortT (xs, ()) = some (ys, ()) ∧ ys.Perm xs ∧ ys.Pairwise fun x y => lt y x = false := SG.sort_val S xs h hok
end Go.Pev.Pl.ST
end
section
namespace Go.Pev.Pl
open Tok
set_option linter.unusedSimpArgs false
set_option maxRecDepth 100000
section
variable {α β : Type} [DecidableEq α]
theorem lookupG_store (es : List (α × β)) (k : α) (v : β) (j : α) : lookupM (storeM es k v) j = if j = k then some v else lookupM es j := by
 induction es with
 | nil =>
  simp only [storeM, lookupM]
  by_cases h : k = j
  ·simp [h]
  ·simp [h, Ne.symm h]
 | cons e es ih =>
  obtain ⟨a, b⟩ := e
  simp only [storeM]
  by_cases h : a = k
  ·subst h
   simp only [if_true, lookupM]
   by_cases h2 : a = j
   ·simp [h2]
   ·simp [h2, Ne.symm h2]
  ·simp only [h, if_false, lookupM, ih]
   by_cases h2 : a = j
   ·subst h2; simp [h]
   ·simp [h2]
end
def nrm (x : Edge) : Edge := (min x.1 x.2.1, max x.1 x.2.1, ())
theorem lookup_loop (l : List Edge) (n : Int) (ts : List Tie) (own : List Edge) (hs : own.length < 1073741824) :
  ∃ m : List (Edge × Int), iterL gnew_s0 many (l, n, ts, ([] : List (Edge × Int)), own, dlen own, (0 : Int), ()) = some (.inl (l, n, ts, m, ())) ∧ ∀ k, (lookupM m k).getD 0 = if k ∈ own then 1 else 0 := by
 have e := walkL (step := gnew_s0) (fun i (a : List (Edge × Int)) => (l, n, ts, a, own, dlen own, (i : Int), ())) own (fun x a => .inl (storeM a x (1 : Int))) (fun a => .inl (l, n, ts, a, ())) (fun i a => True) (by omega)
  (fun i x a hi hx _ => by
   refine ⟨fun m' h' => ?_, fun r h' => (by cases h')⟩
   cases h'
   refine ⟨?_, trivial⟩
   rw [gnew_s0, dlen_l, ilt_nat, decide_eq_true hi]
   simp only [idx_some hx, dget_some hx]
   rw [wrap_add1 (by omega)])
  (fun a _ => by rw [gnew_s0, dlen_l, ilt_nat, decide_eq_false (by omega)]) [] trivial
 have e' : iterL gnew_s0 many (l, n, ts, ([] : List (Edge × Int)), own, dlen own, (0 : Int), ()) = _ := e
 rw [walk_fold (fun (x : Edge) (a : List (Edge × Int)) => storeM a x (1 : Int))] at e'
 refine ⟨_, e', ?_⟩
 have key : ∀ (xs : List Edge) (a : List (Edge × Int)) (k : Edge), (lookupM (xs.foldl (fun a x => storeM a x (1 : Int)) a) k).getD 0 = if k ∈ xs then 1 else (lookupM a k).getD 0 := by
  intro xs
  induction xs with
  | nil => intro a k; simp
  | cons x xs ih =>
   intro a k
   rw [List.foldl_cons, ih, lookupG_store]
   by_cases h : k ∈ xs
   ·simp [h]
   ·by_cases h2 : k = x
    ·subst h2; simp
    ·simp [h, h2]
 intro k
 rw [key]
 rfl
def newF (n : Int) (x : Edge) (a : List (Edge × Int) × List Edge) : (List (Edge × Int) × List Edge) ⊕ ((Int × Unit) ⊕ (List Edge × Unit) ⊕ Unit) :=
 if (nrm x).1 < 0 ∨ n ≤ (nrm x).2.1 then .inr (.inl (10, ())) else
 if (nrm x).1 < (nrm x).2.1 ∧ (lookupM a.1 (nrm x)).getD 0 = 0 then .inl (storeM a.1 (nrm x) 1, a.2 ++ [nrm x]) else .inl a
theorem gnew_loop (n : Int) (ts : List Tie) (m : List (Edge × Int)) (l : List Edge) (hs : l.length < 1073741824) :
  iterL gnew_s1 many (n, ts, m, ([] : List Edge), l, dlen l, (0 : Int), ()) = some (walk (newF n) (fun a => .inr (.inl (a.2, ()))) l (m, [])) := by
 have e := walkL (step := gnew_s1) (fun i (a : List (Edge × Int) × List Edge) => (n, ts, a.1, a.2, l, dlen l, (i : Int), ())) l (newF n) (fun a => .inr (.inl (a.2, ()))) (fun i a => a.2.length ≤ i) (by omega)
  (fun i x a hi hx ha => by
   have step : gnew_s1 (n, ts, a.1, a.2, l, dlen l, (i : Int), ()) = match newF n x a with
     | .inl a' => some (.inl (n, ts, a'.1, a'.2, l, dlen l, ((i + 1 : Nat) : Int), ()))
     | .inr r => some (.inr r) := by
    rw [gnew_s1, dlen_l, ilt_nat, decide_eq_true hi]
    simp only [idx_some hx, imin_eq, imax_eq]
    rw [ilt_eq, ile_eq, ilt_eq, ieq_dec, wrap_add1 (by omega), fits_l (by simp only [dlen_l, List.length_cons, List.length_nil]; omega)]
    unfold newF
    have hn1 : (nrm x).1 = min x.1 x.2.1 := rfl
    have hn2 : (nrm x).2.1 = max x.1 x.2.1 := rfl
    have hn3 : (min x.1 x.2.1, max x.1 x.2.1, ()) = nrm x := rfl
    rw [hn3, ← hn1, ← hn2]
    by_cases q1 : (nrm x).1 < 0
    ·rw [decide_eq_true q1, if_pos (.inl q1)]
    rw [decide_eq_false q1]
    by_cases q2 : n ≤ (nrm x).2.1
    ·rw [decide_eq_true q2, if_pos (.inr q2)]
    rw [decide_eq_false q2, if_neg (fun h => by rcases h with h | h; exact q1 h; exact q2 h)]
    by_cases q3 : (nrm x).1 < (nrm x).2.1
    ·rw [decide_eq_true q3]
     by_cases q4 : (lookupM a.1 (nrm x)).getD 0 = 0
     ·rw [decide_eq_true q4, if_pos ⟨q3, q4⟩]
      rfl
     ·rw [decide_eq_false q4, if_neg (fun h => q4 h.2)]
    ·rw [decide_eq_false q3, if_neg (fun h => q3 h.1)]
   refine ⟨fun m' h' => ?_, fun r h' => ?_⟩
   ·rw [h'] at step
    refine ⟨step, ?_⟩
    unfold newF at h'
    split at h'
    ·cases h'
    ·split at h'
     ·cases h'; rw [List.length_append]; simp; omega
     ·cases h'; omega
   ·rw [h'] at step; exact step)
  (fun a _ => by rw [gnew_s1, dlen_l, ilt_nat, decide_eq_false (by omega)]) (m, []) (Nat.le_refl _)
 exact e
theorem newF_walk (n : Int) (own : List Edge) : ∀ (l : List Edge) (m : List (Edge × Int)) (come : List Edge), (∀ x ∈ l, 0 ≤ (nrm x).1 ∧ (nrm x).2.1 < n) → come.Nodup → (∀ k, (lookupM m k).getD 0 = if k ∈ own ∨ k ∈ come then 1 else 0) →
  ∃ ys, walk (newF n) (fun a => (.inr (.inl (a.2, ())) : (Int × Unit) ⊕ (List Edge × Unit) ⊕ Unit)) l (m, come) = .inr (.inl (ys, ())) ∧ ys.Nodup ∧ (∀ k, k ∈ ys ↔ k ∈ come ∨ (k ∉ own ∧ k.1 < k.2.1 ∧ ∃ x ∈ l, nrm x = k)) ∧ ys.length ≤ come.length + l.length := by
 intro l
 induction l with
 | nil => intro m come _ hn _; exact ⟨come, rfl, hn, fun k => by simp, by simp⟩
 | cons x l ih =>
  intro m come hall hn hm
  obtain ⟨a1, a2⟩ := hall x (by simp)
  rw [walk]
  have hnf : newF n x (m, come) = if (nrm x).1 < (nrm x).2.1 ∧ (lookupM m (nrm x)).getD 0 = 0 then .inl (storeM m (nrm x) 1, come ++ [nrm x]) else .inl (m, come) := by
   unfold newF
   rw [if_neg (by omega)]
  by_cases hc : (nrm x).1 < (nrm x).2.1 ∧ (lookupM m (nrm x)).getD 0 = 0
  ·rw [hnf, if_pos hc]
   have hk := hm (nrm x)
   rw [hc.2] at hk
   have hk2 : ¬ (nrm x ∈ own ∨ nrm x ∈ come) := fun h => by rw [if_pos h] at hk; omega
   obtain ⟨ys, e, h1, h2, h3⟩ := ih (storeM m (nrm x) 1) (come ++ [nrm x]) (fun y hy => hall y (by simp [hy]))
    (by
     rw [List.nodup_append]
     exact ⟨hn, by simp, fun a ha b hb => by rintro rfl; simp at hb; exact hk2 (.inr (hb ▸ ha))⟩)
    (fun k => by
     rw [lookupG_store]
     by_cases hkx : k = nrm x
     ·subst hkx; simp
     ·rw [if_neg hkx, hm]
      simp [hkx])
   refine ⟨ys, e, h1, fun k => ?_, by rw [List.length_append] at h3; simp at h3 ⊢; omega⟩
   rw [h2]
   constructor
   ·rintro (h | h)
    ·rcases List.mem_append.1 h with h | h
     ·exact .inl h
     ·rw [List.mem_singleton] at h
      subst h
      exact .inr ⟨fun h => hk2 (.inl h), hc.1, x, by simp, rfl⟩
    ·obtain ⟨g1, g2, y, hy, g3⟩ := h
     exact .inr ⟨g1, g2, y, by simp [hy], g3⟩
   ·rintro (h | ⟨g1, g2, y, hy, g3⟩)
    ·exact .inl (by simp [h])
    ·rcases List.mem_cons.1 hy with rfl | hy
     ·exact .inl (by simp [g3])
     ·exact .inr ⟨g1, g2, y, hy, g3⟩
  ·rw [hnf, if_neg hc]
   obtain ⟨ys, e, h1, h2, h3⟩ := ih m come (fun y hy => hall y (by simp [hy])) hn hm
   refine ⟨ys, e, h1, fun k => ?_, by simp; omega⟩
   rw [h2]
   constructor
   ·rintro (h | ⟨g1, g2, y, hy, g3⟩)
    ·exact .inl h
    ·exact .inr ⟨g1, g2, y, by simp [hy], g3⟩
   ·rintro (h | ⟨g1, g2, y, hy, g3⟩)
    ·exact .inl h
    ·rcases List.mem_cons.1 hy with rfl | hy
     ·subst g3
      have hk := hm (nrm y)
      by_cases hin : nrm y ∈ own ∨ nrm y ∈ come
      ·rcases hin with h | h
       ·exact absurd h g1
       ·exact .inl h
      ·rw [if_neg hin] at hk
       exact absurd ⟨g2, hk⟩ hc
     ·exact .inr ⟨g1, g2, y, hy, g3⟩
theorem newF_refused (n : Int) : ∀ (l : List Edge) (a : List (Edge × Int) × List Edge), ¬ (∀ x ∈ l, 0 ≤ (nrm x).1 ∧ (nrm x).2.1 < n) →
  walk (newF n) (fun a => (.inr (.inl (a.2, ())) : (Int × Unit) ⊕ (List Edge × Unit) ⊕ Unit)) l a = .inl (10, ()) := by
 intro l
 induction l with
 | nil => intro a h; exact absurd (by simp) h
 | cons x l ih =>
  intro a h
  rw [walk]
  by_cases hx : (nrm x).1 < 0 ∨ n ≤ (nrm x).2.1
  ·unfold newF
   rw [if_pos hx]
  ·have hl : ¬ (∀ x ∈ l, 0 ≤ (nrm x).1 ∧ (nrm x).2.1 < n) := fun hl => h fun y hy => by
    rcases List.mem_cons.1 hy with rfl | hy
    ·exact ⟨by omega, by omega⟩
    ·exact hl y hy
   have hnf : newF n x a = .inl (if (nrm x).1 < (nrm x).2.1 ∧ (lookupM a.1 (nrm x)).getD 0 = 0 then (storeM a.1 (nrm x) 1, a.2 ++ [nrm x]) else a) := by
    unfold newF
    rw [if_neg hx]
    split <;> rfl
   rw [hnf]
   exact ih _ hl
theorem sortE_same {xs ys zs : List Edge} (hp : ys.Perm xs) (hy : ys.Pairwise (fun x y => SE.lt y x = false)) (hz : zs.Pairwise aheadE) (hzp : xs.Perm zs) : ys = zs := by
 refine List.Perm.eq_of_pairwise (le := fun x y => SE.lt y x = false) ?_ hy ?_ (hp.trans hzp)
 ·intro a b _ _ h1 h2
  simp only [SE.lt, decide_eq_false_iff_not] at h1 h2
  obtain ⟨a1, a2, ⟨⟩⟩ := a
  obtain ⟨b1, b2, ⟨⟩⟩ := b
  simp only at h1 h2
  have e1 : a1 = b1 := by omega
  have e2 : a2 = b2 := by omega
  rw [e1, e2]
 ·refine hz.imp fun h => ?_
  unfold aheadE at h
  simp only [SE.lt, decide_eq_false_iff_not]
  omega
theorem gnew_val {N : Nat} (h1 : 1 ≤ N) (hN : N ≤ 64) (ts : List Tie) (ht : ts.length ≤ 400) (l : List Edge) (hs : l.length < 1073741824) (hr : lright (((N : Int), (ts, ())), ()) = some (true, ())) :
  gnew (((N : Int), (ts, ())), l, ()) = some (if ∀ e ∈ l, In (N : Int) e.1 ∧ In (N : Int) e.2.1 then (comeL N ts l, 0, ()) else ([], 10, ())) := by
 obtain ⟨m, e0, hm⟩ := lookup_loop l (N : Int) ts (ts.map ed) (by rw [List.length_map]; omega)
 rw [gnew_eq, gnew_d]
 simp only [hr, Bool.not_true, ledges_val (N : Int) ts ht hr, e0, gnew_loop (N : Int) ts m l hs]
 have hiff : (∀ x ∈ l, 0 ≤ (nrm x).1 ∧ (nrm x).2.1 < (N : Int)) ↔ ∀ e ∈ l, In (N : Int) e.1 ∧ In (N : Int) e.2.1 := by
  constructor
  ·intro h e he
   have := h e he
   simp only [nrm] at this
   exact ⟨in_of h1 hN (by omega), in_of h1 hN (by omega)⟩
  ·intro h e he
   obtain ⟨⟨_, _, a1, a2⟩, ⟨_, _, b1, b2⟩⟩ := h e he
   simp only [nrm]
   omega
 by_cases hall : ∀ e ∈ l, In (N : Int) e.1 ∧ In (N : Int) e.2.1
 ·rw [if_pos hall]
  obtain ⟨ys, e1, y1, y2, y3⟩ := newF_walk (N : Int) (ts.map ed) l m [] (hiff.2 hall) List.nodup_nil (fun k => by
   rw [hm]
   by_cases h : k ∈ ts.map ed
   ·rw [if_pos h, if_pos (.inl h)]
   ·rw [if_neg h, if_neg (fun hh => by rcases hh with hh | hh; exact h hh; cases hh)])
  rw [e1]
  have hlen : ys.length < 4294967296 := by
   have : ([] : List Edge).length = 0 := rfl
   omega
  obtain ⟨zs, z1, z2, z3⟩ := SE.sort_val ys hlen (fun _ _ => trivial)
  have hcp := comeL_pair N ts l
  have hperm : ys.Perm (comeL N ts l) := by
   rw [List.perm_ext_iff_of_nodup y1 (hcp.imp fun {a b} h => by
    rintro rfl
    unfold aheadE at h; omega)]
   intro k
   rw [y2, mem_comeL]
   constructor
   ·rintro (h | ⟨g1, g2, x, hx, rfl⟩)
    ·cases h
    ·have := (hiff.2 hall) x hx
     refine ⟨⟨this.1, g2, this.2, ?_⟩, g1⟩
     obtain ⟨a, b, ⟨⟩⟩ := x
     unfold hasE nrm
     simp only
     rcases Int.le_total a b with h | h
     ·left; rw [Int.min_eq_left h, Int.max_eq_right h]; exact hx
     ·right; rw [Int.min_eq_right h, Int.max_eq_left h]; exact hx
   ·rintro ⟨⟨g1, g2, g3, g4⟩, g5⟩
    refine .inr ⟨g5, g2, ?_⟩
    obtain ⟨a, b, ⟨⟩⟩ := k
    simp only at g2
    rcases g4 with h | h
    ·exact ⟨_, h, by unfold nrm; simp only; rw [Int.min_eq_left (by omega), Int.max_eq_right (by omega)]⟩
    ·exact ⟨_, h, by unfold nrm; simp only; rw [Int.min_eq_right (by omega), Int.max_eq_left (by omega)]⟩
  rw [sortE_same z2 z3 hcp hperm] at z1
  simp only [z1]
 ·rw [if_neg hall, newF_refused (N : Int) l (m, []) (fun h => hall (hiff.1 h))]
end Go.Pev.Pl
end
section
namespace Go.Pev.Pl
open Tok
set_option linter.unusedSimpArgs false
set_option maxRecDepth 100000
theorem sel_gfl : ∀ (xs b : List Edge), sel xs (gfl b xs) = gsel b xs := by
 intro xs
 induction xs with
 | nil => intro b; rfl
 | cons x xs ih =>
  intro b
  have := ih (b ++ [x])
  unfold sel at *
  rw [gfl, gsel, List.zip_cons_cons, List.filter_cons]
  by_cases h : conB b x.1 x.2.1 = true
  ·simp [h, this]
  ·simp [h, this]
theorem Fo_gsel {N : Nat} {b xs : List Edge} (h : Fo N b) (hx : ∀ e ∈ xs, InE N e) : Fo N (b ++ gsel b xs) := by
 have h1 := cc_append xs b hx
 have h2 : cc N (b ++ xs) = cc N (b ++ gsel b xs) := cc_con fun a c => con_gsel xs b
 unfold Fo at *
 rw [List.length_append]
 omega
theorem topV_nonneg {N : Nat} (hN : N ≤ 64) : 0 ≤ topV N := by
 have : ((List.range 65).all fun k => decide (0 ≤ topV k)) = true := by kernel_rfl
 exact of_decide_eq_true (List.all_eq_true.1 this N (by simp; omega))
noncomputable def grown (N : Nat) (ts : List Tie) (l : List Edge) : List Tie := addT ts (comeL N ts l) (gfl (trs ts ts.length) (comeL N ts l)) (comeL N ts l).length
theorem grown_len (N : Nat) (ts : List Tie) (l : List Edge) : (grown N ts l).length = ts.length + (comeL N ts l).length := addT_len ..
theorem grown_perm (N : Nat) (ts : List Tie) (l : List Edge) : (grown N ts l).Perm (ts ++ newT (comeL N ts l) (gfl (trs ts ts.length) (comeL N ts l)) (comeL N ts l).length) := addT_perm ..
theorem grown_eds (N : Nat) (ts : List Tie) (l : List Edge) : ((grown N ts l).map ed).Perm (ts.map ed ++ comeL N ts l) := addT_eds ts (gfl_len _ _)
theorem grown_trs (N : Nat) (ts : List Tie) (l : List Edge) : (trs (grown N ts l) (grown N ts l).length).Perm (trs ts ts.length ++ gsel (trs ts ts.length) (comeL N ts l)) := by
 have := addT_trs ts (xs := comeL N ts l) (bs := gfl (trs ts ts.length) (comeL N ts l)) (gfl_len _ _)
 rw [sel_gfl] at this
 exact this
theorem grown_oks {N : Nat} (hN : N ≤ 64) {ts : List Tie} (ho : oks N ts) (l : List Edge) : oks N (grown N ts l) :=
 addT_oks ho (topV_nonneg hN) _ (comeL_pair N ts l) (fun e he => by
  obtain ⟨⟨a, b, c, _⟩, _⟩ := (mem_comeL N ts l e).1 he
  exact ⟨a, b, c⟩) (fun e he => ((mem_comeL N ts l e).1 he).2)
theorem comeL_inE {N : Nat} (hN : N ≤ 64) (ts : List Tie) (l : List Edge) : ∀ e ∈ comeL N ts l, InE N e := fun e he => inE_in (comeL_in hN ts l e he)
theorem grown_fo {N : Nat} (hN : N ≤ 64) {ts : List Tie} (h : Fo N (trs ts ts.length)) (l : List Edge) : Fo N (trs (grown N ts l) (grown N ts l).length) :=
 (Fo_gsel h (comeL_inE hN ts l)).perm (grown_trs N ts l).symm
structure RG2 (N : Nat) (ts : List Tie) : Prop where
 h1 : 1 ≤ N
 hN : N ≤ 64
 ht : ts.length ≤ 400
 oks : oks N ts
 fo : Fo N (trs ts ts.length)
theorem RG2.r21 {N : Nat} {ts : List Tie} (h : RG2 N ts) : right21 (((N : Int), (ts, ())), ()) = some (true, ()) := (right_fo h.h1 h.hN h.ht h.oks).2 h.fo
theorem RG2.lr {N : Nat} {ts : List Tie} (h : RG2 N ts) : lright (((N : Int), (ts, ())), ()) = some (true, ()) := by
 obtain ⟨b, h1, h2, _⟩ := both_right (N : Int) ts (by have := h.ht; omega)
 rw [h.r21] at h1
 cases h1
 exact h2
theorem rg2_cases (n : Int) (ts : List Tie) (hl : ts.length < 4611686018427387904) : (right21 ((n, (ts, ())), ()) = some (false, ()) ∧ lright ((n, (ts, ())), ()) = some (false, ())) ∨ ∃ N : Nat, n = (N : Int) ∧ RG2 N ts := by
 obtain ⟨b, h1, h2, h3⟩ := both_right n ts hl
 cases b
 ·exact .inl ⟨h1, h2⟩
 ·obtain ⟨N, rfl, q1, q2, q3, q4⟩ := h3 rfl
  exact .inr ⟨N, rfl, q1, q2, q3, q4, (right_fo q1 q2 q3 q4).1 h1⟩
theorem RG2.inE {N : Nat} {ts : List Tie} (h : RG2 N ts) : ∀ e ∈ ts.map ed, In (N : Int) e.1 ∧ In (N : Int) e.2.1 := eds_in h.hN h.oks
theorem RG2.inT {N : Nat} {ts : List Tie} (h : RG2 N ts) : ∀ e ∈ trs ts ts.length, In (N : Int) e.1 ∧ In (N : Int) e.2.1 := trs_in h.hN h.oks
theorem RG2.tlen {N : Nat} {ts : List Tie} (h : RG2 N ts) : (trs ts ts.length).length ≤ 400 := by have := trs_len ts ts.length; have := h.ht; omega
theorem RG2.grown {N : Nat} {ts : List Tie} (h : RG2 N ts) {l : List Edge} (hf : ts.length + (comeL N ts l).length ≤ 400) : RG2 N (grown N ts l) :=
 ⟨h.h1, h.hN, by rw [grown_len]; exact hf, grown_oks h.hN h.oks l, grown_fo h.hN h.fo l⟩
theorem sortT_same {N : Nat} {xs ys zs : List Tie} (hp : ys.Perm xs) (hy : ys.Pairwise (fun x y => ST.lt y x = false)) (hz : zs.Pairwise ahead) (hzp : xs.Perm zs) : ys = zs := by
 have hinj : ∀ a ∈ zs, ∀ b ∈ zs, a.1 = b.1 → a.2.1 = b.2.1 → a = b := by
  intro a ha b hb e1 e2
  refine Classical.byContradiction fun hne => ?_
  obtain ⟨i, hi, rfl⟩ := List.getElem_of_mem ha
  obtain ⟨j, hj, rfl⟩ := List.getElem_of_mem hb
  rw [List.pairwise_iff_getElem] at hz
  unfold ahead at hz
  rcases Nat.lt_trichotomy i j with h | h | h
  ·have := hz i j hi hj h; omega
  ·subst h; exact hne rfl
  ·have := hz j i hj hi h; omega
 refine List.Perm.eq_of_pairwise (le := fun x y => ST.lt y x = false) ?_ hy ?_ (hp.trans hzp)
 ·intro a b ha hb h1 h2
  simp only [ST.lt, decide_eq_false_iff_not] at h1 h2
  exact hinj a ((hp.trans hzp).mem_iff.1 ha) b hb (by omega) (by omega)
 ·refine hz.imp fun h => ?_
  unfold ahead at h
  simp only [ST.lt, decide_eq_false_iff_not]
  omega
theorem newT_take (xs : List Edge) (bs : List Bool) (k : Nat) : newT xs bs (k + 1) = newT xs bs k ++ [tieOf (xs.getD k (0, 0, ())) (bs.getD k false)] := by
 unfold newT
 rw [List.range_succ, List.map_append]
 rfl
theorem gadd_loop (n e : Int) (ts0 ts : List Tie) (xs : List Edge) (bs : List Bool) (hx : xs.length ≤ 4096) (ht : ts.length ≤ 400) (hb : bs.length = xs.length) :
  iterL gadd_s0 many (n, ts0, e, xs, bs, ts, dlen xs, (0 : Int), ()) = some (.inl (n, ts0, e, xs, ts ++ newT xs bs xs.length, ())) := by
 have e' := walkL (step := gadd_s0) (fun i (a : List Tie) => (n, ts0, e, xs, bs, a, dlen xs, (i : Int), ())) (List.range xs.length) (fun i a => .inl (a ++ [tieOf (xs.getD i (0, 0, ())) (bs.getD i false)])) (fun a => .inl (n, ts0, e, xs, a, ())) (fun i a => a.length = ts.length + i) (by simp; omega)
  (fun i x a hi hxx ha => by
   refine ⟨fun m' h' => ?_, fun r h' => (by cases h')⟩
   cases h'
   have := range_get' hxx
   subst this
   rw [List.length_range] at hi
   constructor
   ·rw [gadd_s0, dlen_l, ilt_nat, decide_eq_true hi]
    simp only [idx_l ((0 : Int), ((0 : Int), ())) hi, idx_l false (show x < bs.length by omega), dget_l]
    rw [wrap_add1 (by omega), fits_l (by simp only [dlen_l, List.length_cons, List.length_nil]; omega)]
    rfl
   ·rw [List.length_append, ha]; simp; omega)
  (fun a _ => by rw [gadd_s0, List.length_range, dlen_l, ilt_nat, decide_eq_false (by omega)]) ts rfl
 have e2 : iterL gadd_s0 many (n, ts0, e, xs, bs, ts, dlen xs, (0 : Int), ()) = _ := e'
 rw [e2, walk_fold (fun (i : Nat) (a : List Tie) => a ++ [tieOf (xs.getD i (0, 0, ())) (bs.getD i false)])]
 have key : ∀ k, (List.range k).foldl (fun (a : List Tie) (i : Nat) => a ++ [tieOf (xs.getD i (0, 0, ())) (bs.getD i false)]) ts = ts ++ newT xs bs k := by
  intro k
  induction k with
  | zero => simp [newT]
  | succ k ih => rw [List.range_succ, List.foldl_append, ih, newT_take]; simp
 rw [key]
theorem gadd_val {N : Nat} {ts : List Tie} (h : RG2 N ts) (l : List Edge) (hs : l.length < 1073741824) :
  (∃ e, e ≠ 0 ∧ gadd (((N : Int), (ts, ())), l, ()) = some ((N : Int), ts, 0, e, ())) ∨
  (allIn N l ∧ ts.length + (comeL N ts l).length ≤ 400 ∧ gadd (((N : Int), (ts, ())), l, ()) = some ((N : Int), grown N ts l, ((comeL N ts l).length : Int), 0, ())) := by
 have hn := gnew_val h.h1 h.hN ts h.ht l hs h.lr
 rw [gadd_eq, gadd_d]
 by_cases hall : ¬ ∀ e ∈ l, In (N : Int) e.1 ∧ In (N : Int) e.2.1
 ·rw [if_neg hall] at hn
  left
  simp only [hn, ieq_dec]
  exact ⟨10, by omega, rfl⟩
 have hall := Classical.not_not.1 hall
 rw [if_pos hall] at hn
 have hcl := comeL_len N h.hN ts l
 have hci := comeL_in h.hN ts l
 have hg := grown_perm N ts l
 have hgo := (oks_iff N _).1 (grown_oks h.hN h.oks l)
 have hlen := gfl_len (comeL N ts l) (trs ts ts.length)
 have ht := h.ht
 have htl := h.tlen
 generalize hgt : grown N ts l = ts' at *
 have hr : groom (((N : Int), (ts, ())), dlen (comeL N ts l), ()) = some (decide (ts.length + (comeL N ts l).length ≤ 400), ()) := by
  rw [groom_eq, groom_d]
  simp only [dlen_l]
  rw [wrap_add (by omega), ile_eq]
  congr 2
  exact decide_eq_decide.2 (by omega)
 simp only [hn, ieq_self', Bool.not_true, hr]
 by_cases hfit : ¬ ts.length + (comeL N ts l).length ≤ 400
 ·left
  rw [decide_eq_false hfit]
  exact ⟨2, by omega, rfl⟩
 have hfit := Classical.not_not.1 hfit
 right
 rw [decide_eq_true hfit]
 obtain ⟨rings, hfo, hF⟩ := lforest_val h.h1 h.hN ts h.ht h.oks h.lr
 have hch := schoose_val h.h1 h.hN hF (comeL N ts l) (by omega) h.inT hci
 obtain ⟨ys, y1, y2, y3⟩ := ST.sort_val (ts ++ newT (comeL N ts l) (gfl (trs ts ts.length) (comeL N ts l)) (comeL N ts l).length) (by rw [List.length_append, newT, List.length_map, List.length_range]; omega) (fun _ _ => trivial)
 rw [sortT_same (N := N) y2 y3 hgo.2 hg.symm] at y1
 refine ⟨hall, hfit, ?_⟩
 have hlp := gadd_loop (N : Int) 0 ts ts (comeL N ts l) _ (by omega) h.ht hlen
 simp only [Bool.not_true, hfo, hch, cloneF_val (show ts.length ≤ 4294967296 by omega), hlp, y1]
 rfl
theorem growE_val (n : Nat) (hn : n < 4294967296) : growE ((n : Int), ()) = some ([], ()) := by
 have e0 : IntKind.wrap .i64 ((n : Int) - IntKind.wrap .i64 ((0 : Int) - 0)) = (n : Int) := by rw [wrap_in (n := (0 : Int) - 0) (by omega), wrap_in (by omega)]; omega
 rw [growE_eq, growE_d]
 simp only [e0, ilt_eq]
 rw [decide_eq_false (by omega)]
 simp only []
 by_cases h : 0 < n
 ·rw [decide_eq_true (by omega)]
  have s1 : subl ([] : List Unit) (0 : Int) (0 : Int) = some [] := by rw [subl_eq]; rfl
  have s2 : subl (drep (dnat (n : Int)) ((0 : Int), ((0 : Int), ()))) (0 : Int) (0 : Int) = some [] := by
   rw [subl_eq, sublR, if_pos (by omega)]
   simp
  have s3 : fitsI (n : Int) = true := (fitsI_iff _).2 (by omega)
  simp only [s1, s2, s3]
  rfl
 ·rw [decide_eq_false (by omega)]
theorem concatE2_val (a b : List Edge) (h : a.length + b.length < 4294967296) : concatE ([a, b], ()) = some (a ++ b, ()) := by
 obtain ⟨m, hm⟩ : ∃ m, many = m + 3 := ⟨many - 3, by simp only [many]⟩
 have i0 : idx [a, b] (0 : Int) = some a := by rw [idx_eq]; rfl
 have i1 : idx [a, b] (1 : Int) = some b := by rw [idx_eq]; rfl
 have l2 : dlen [a, b] = (2 : Int) := rfl
 have w1 : IntKind.wrap .i64 ((0 : Int) + 1) = 1 := by rw [wrap_in (by omega)]; rfl
 have w2 : IntKind.wrap .i64 ((1 : Int) + 1) = 2 := by rw [wrap_in (by omega)]; rfl
 have c0 : ilt (0 : Int) 2 = true := by rw [ilt_eq]; rfl
 have c1 : ilt (1 : Int) 2 = true := by rw [ilt_eq]; rfl
 have c2 : ilt (2 : Int) 2 = false := by rw [ilt_eq]; rfl
 have wa : IntKind.wrap .i64 ((0 : Int) + (a.length : Int)) = (a.length : Int) := by rw [wrap_in (by omega)]; omega
 have wb : IntKind.wrap .i64 ((a.length : Int) + (b.length : Int)) = ((a.length + b.length : Nat) : Int) := by rw [wrap_in (by omega)]; omega
 have na : ilt (a.length : Int) 0 = false := by rw [ilt_eq, decide_eq_false (by omega)]
 have nb : ilt ((a.length + b.length : Nat) : Int) 0 = false := by rw [ilt_eq, decide_eq_false (by omega)]
 have e0 : iterL concatE_s0 many ([a, b], (0 : Int), [a, b], (2 : Int), (0 : Int), ()) = some (.inl ([a, b], ((a.length + b.length : Nat) : Int), ())) := by
  rw [iterL_eq, hm]
  simp only [iterO, concatE_s0, i0, i1, c0, c1, c2, dlen_l, wa, wb, na, nb, w1, w2]
 have f1 : fits (dlen ([] : List Edge) + (a.length : Int)) = true := fits_l (by simp [dlen]; omega)
 have f2 : fits ((a.length : Int) + (b.length : Int)) = true := fits_l (by omega)
 have da : dapp ([] : List Edge) a = a := by simp [dapp]
 have e1 : iterL concatE_s1 many (([] : List Edge), [a, b], (2 : Int), (0 : Int), ()) = some (.inl (a ++ b, ())) := by
  rw [dlen_l] at f1
  rw [iterL_eq, hm]
  simp only [iterO, concatE_s1, i0, i1, c0, c1, c2, dlen_l, w1, w2, f1, f2, dapp_l, List.nil_append]
 rw [concatE_eq, concatE_d]
 simp only [l2, e0, growE_val (a.length + b.length) h, e1]
theorem scount_val {N : Nat} (h1 : 1 ≤ N) (hN : N ≤ 64) (l : List Edge) (hs : l.length < 1073741824) (ha : ∀ e ∈ l, In (N : Int) e.1 ∧ In (N : Int) e.2.1) : scount ((N : Int), l, ()) = some ((cc N l : Int), 0, ()) := by
 obtain ⟨out, e0, hc⟩ := sclasses_val (N : Int) l ⟨by omega, by omega⟩ hs ha
 have ho : out.length = N := by have := hc.len; omega
 rw [scount_eq, scount_d]
 simp only [e0]
 have e := walkL (step := scount_s0) (fun i (a : Nat) => ((0 : Int), (a : Int), out, dlen out, (i : Int), ())) (List.range N) (fun k a => .inl (if out.getD k 0 = (k : Int) then a + 1 else a)) (fun a => .inl ((0 : Int), (a : Int), ())) (fun i a => a ≤ i) (by simp; omega)
  (fun i x a hi hx ha => by
   refine ⟨fun m' h' => ?_, fun r h' => (by cases h')⟩
   cases h'
   have := range_get' hx
   subst this
   rw [List.length_range] at hi
   constructor
   ·rw [scount_s0, dlen_l, ho, ilt_nat, decide_eq_true hi]
    simp only [idx_l 0 (show x < out.length by omega), dget_l, ieq_dec]
    rw [wrap_add1 (by omega), wrap_add1 (by omega)]
    by_cases h : out.getD x 0 = (x : Int)
    ·rw [decide_eq_true h, if_pos h]
    ·rw [decide_eq_false h, if_neg h]
   ·split <;> omega)
  (fun a _ => by rw [scount_s0, List.length_range, dlen_l, ho, ilt_nat, decide_eq_false (by omega)]) 0 (Nat.le_refl _)
 have e' : iterL scount_s0 many ((0 : Int), (0 : Int), out, dlen out, (0 : Int), ()) = _ := e
 simp only [e']
 rw [walk_fold (fun k a => if out.getD k 0 = (k : Int) then a + 1 else a), foldl_cnt (fun k => out.getD k 0 = (k : Int)), Nat.zero_add]
 have := cnt_cc h1 hN hc
 unfold cnt at this
 rw [this]
theorem gjoined_val {N : Nat} {ts : List Tie} (h : RG2 N ts) (l : List Edge) (hs : l.length < 1073741824) (hall : allIn N l) :
  gjoined (((N : Int), (ts, ())), l, ()) = some ((cc N (ts.map ed) : Int) - (cc N (ts.map ed ++ comeL N ts l) : Int), 0, ()) := by
 have hn := gnew_val h.h1 h.hN ts h.ht l hs h.lr
 rw [if_pos (show ∀ e ∈ l, In (N : Int) e.1 ∧ In (N : Int) e.2.1 from hall)] at hn
 have hcl := comeL_len N h.hN ts l
 have hci := comeL_in h.hN ts l
 have ht := h.ht
 generalize comeL N ts l = xs at *
 have b1 := cc_le N (ts.map ed)
 have b2 := cc_le N (ts.map ed ++ xs)
 have hN := h.hN
 rw [gjoined_eq, gjoined_d]
 simp only [hn, ieq_self', Bool.not_true, ledges_val (N : Int) ts h.ht h.lr, scount_val h.h1 h.hN (ts.map ed) (by rw [List.length_map]; omega) h.inE, concatE2_val (ts.map ed) xs (by rw [List.length_map]; omega), scount_val h.h1 h.hN (ts.map ed ++ xs) (by rw [List.length_append, List.length_map]; omega) (fun e he => by
  rcases List.mem_append.1 he with he | he
  ·exact h.inE e he
  ·exact hci e he)]
 rw [wrap_in (by omega)]
end Go.Pev.Pl
end
section
namespace Go.Pev.Pl
open Tok
set_option linter.unusedSimpArgs false
set_option maxRecDepth 100000
theorem alive22_true : alive22 () = some (true, ()) := by
 rw [show alive22 () = @alive22 idI () from congrArg (fun i => @alive22 i ()) lockI_eq]
 kernel_rfl
def isAt (u v : Int) (t : Tie) : Bool := decide (t.1 = min u v ∧ t.2.1 = max u v)
theorem find21_val {N : Nat} {ts : List Tie} (h : RG2 N ts) (u v : Int) : find21 (((N : Int), (ts, ())), u, v, ()) = some (if ts.any (isAt u v) then ((ts.findIdx (isAt u v) : Nat) : Int) else -1, ()) := by
 have ht := h.ht
 rw [find21_eq, find21_d]
 simp only [h.r21, Bool.not_true]
 have e := findL (step := find21_s0) (fun i => (u, v, (N : Int), ts, (i : Int), ())) ts (isAt u v) (fun i => .inl ((i : Int), ())) (.inr (.inl ())) (by omega)
  (fun i x hi hx => by
   rw [find21_s0, dlen_l, ilt_nat, decide_eq_true hi]
   simp only [idx_some hx, imin_eq, imax_eq, ieq_dec]
   rw [wrap_add1 (by omega)]
   unfold isAt
   by_cases h1 : x.1 = min u v
   ·by_cases h2 : x.2.1 = max u v
    ·rw [decide_eq_true h1, decide_eq_true h2, decide_eq_true (show x.1 = min u v ∧ x.2.1 = max u v from ⟨h1, h2⟩)]
     rfl
    ·rw [decide_eq_true h1, decide_eq_false h2, decide_eq_false (fun h : x.1 = min u v ∧ x.2.1 = max u v => h2 h.2)]
     rfl
   ·rw [decide_eq_false h1, decide_eq_false (fun h : x.1 = min u v ∧ x.2.1 = max u v => h1 h.1)]
    rfl)
  (by rw [find21_s0, dlen_l, ilt_nat, decide_eq_false (by omega)])
 have e' : iterL find21_s0 many (u, v, (N : Int), ts, (0 : Int), ()) = _ := e
 rw [e']
 by_cases ha : ts.any (isAt u v) = true
 ·rw [if_pos ha, if_pos ha]
 ·rw [if_neg ha, if_neg ha]
theorem find_tie {N : Nat} {ts : List Tie} (ho : oks N ts) {t : Tie} (hm : t ∈ ts) : ts.any (isAt t.1 t.2.1) = true ∧ ∃ k, ts.findIdx (isAt t.1 t.2.1) = k ∧ k < ts.length ∧ ts[k]? = some t := by
 obtain ⟨hv, hp⟩ := (oks_iff N ts).1 ho
 obtain ⟨_, hlt, _⟩ := hv t hm
 have hself : isAt t.1 t.2.1 t = true := by
  unfold isAt
  rw [Int.min_eq_left (by omega), Int.max_eq_right (by omega)]
  simp
 refine ⟨List.any_eq_true.2 ⟨t, hm, hself⟩, _, rfl, List.findIdx_lt_length.2 ⟨t, hm, hself⟩, ?_⟩
 have hk : ts.findIdx (isAt t.1 t.2.1) < ts.length := List.findIdx_lt_length.2 ⟨t, hm, hself⟩
 have hg := List.findIdx_getElem (xs := ts) (p := isAt t.1 t.2.1) (w := hk)
 rw [List.getElem?_eq_getElem hk]
 obtain ⟨j, hj, rfl⟩ := List.getElem_of_mem hm
 generalize ts.findIdx (isAt ts[j].1 ts[j].2.1) = k at hk hg
 unfold isAt at hg
 rw [Int.min_eq_left (by omega), Int.max_eq_right (by omega), decide_eq_true_iff] at hg
 rw [List.pairwise_iff_getElem] at hp
 unfold ahead at hp
 rcases Nat.lt_trichotomy j k with h | h | h
 ·have := hp j k hj hk h; omega
 ·subst h; rfl
 ·have := hp k j hk hj h; omega
theorem tieEq_self (x : Tie) : (ieq x.1 x.1 && (ieq x.2.1 x.2.1 && (ieq x.2.2.1 x.2.2.1 && ((x.2.2.2.1 == x.2.2.2.1) && true)))) = true := by
 simp only [ieq_self']
 simp
theorem same21_self (n : Int) (ts : List Tie) (hs : ts.length < 1073741824) : same21 ((n, (ts, ())), (n, (ts, ())), ()) = some (true, ()) := by
 rw [same21_eq, same21_d]
 simp only [ieq_self', Bool.not_true]
 have e := findL (step := same21_s0) (fun i => (n, ts, n, ts, (i : Int), ())) ts (fun _ => false) (fun _ => .inl (false, ())) (.inr (.inl ())) (by omega)
  (fun i x hi hx => by
   rw [same21_s0, dlen_l, ilt_nat, decide_eq_true hi]
   simp only [idx_some hx, tieEq_self, Bool.not_true]
   rw [wrap_add1 (by omega)]
   rfl)
  (by rw [same21_s0, dlen_l, ilt_nat, decide_eq_false (by omega)])
 have e' : iterL same21_s0 many (n, ts, n, ts, (0 : Int), ()) = _ := e
 simp only [e']
 simp
theorem classes20_val {N : Nat} (h1 : 1 ≤ N) (hN : N ≤ 64) (l : List Edge) (hs : l.length < 1073741824) (ha : ∀ e ∈ l, In (N : Int) e.1 ∧ In (N : Int) e.2.1) : ∃ out, classes20 ((N : Int), l, ()) = some (out, 0, ()) ∧ classes19 ((N : Int), l, ()) = some (out, ()) ∧ ClOK (N : Int) l out := by
 obtain ⟨o, e, c⟩ := classes19_val (N : Int) l ⟨by omega, by omega⟩ hs ha
 refine ⟨o, ?_, e, c⟩
 rw [classes20_eq, classes20_d]
 simp only [asked20_val h1 hN l hs ha, ieq_self', Bool.not_true, e]
theorem great22_val (n : Int) (ts : List Tie) (l : List Edge) : great22 ((n, (ts, ())), l, ()) = some (true, ()) ∨ (great22 ((n, (ts, ())), l, ()) = some (false, ()) ∧ ts.length ≤ 40 ∧ n ≤ 12 ∧ l.length ≤ 30) := by
 rw [great22_eq, great22_d]
 simp only [dlen_l, ilt_eq]
 by_cases h1 : (40 : Int) < ts.length
 ·left; simp only [decide_eq_true h1]
 by_cases h2 : (12 : Int) < n
 ·left; simp only [decide_eq_false h1, decide_eq_true h2]
 by_cases h3 : (30 : Int) < l.length
 ·left; simp only [decide_eq_false h1, decide_eq_false h2, decide_eq_true h3]
 ·right; simp only [decide_eq_false h1, decide_eq_false h2, decide_eq_false h3]; exact ⟨trivial, by omega, by omega, by omega⟩
theorem gadd_bad (n : Int) (ts : List Tie) (l : List Edge) (hr : lright ((n, (ts, ())), ()) = some (false, ())) : gadd ((n, (ts, ())), l, ()) = some (n, ts, 0, 1, ()) := by
 rw [gadd_eq, gadd_d, gnew_eq, gnew_d]
 simp only [hr, Bool.not_false, ieq_dec]
 rfl
theorem grown_con {N : Nat} {ts : List Tie} (h : RG2 N ts) (l : List Edge) (hc : ∀ a b, In (N : Int) a → In (N : Int) b → (Con (ts.map ed) a b ↔ Con (trs ts ts.length) a b)) :
  ∀ a b, Con ((grown N ts l).map ed) a b ↔ Con (trs (grown N ts l) (grown N ts l).length) a b := by
 intro a b
 rw [con_mem fun e => (grown_eds N ts l).mem_iff, con_mem (l' := trs ts ts.length ++ gsel (trs ts ts.length) (comeL N ts l)) fun e => (grown_trs N ts l).mem_iff, ← con_gsel]
 constructor
 ·intro c
  refine c.cut fun e he => ?_
  rcases List.mem_append.1 he with he | he
  ·exact ((hc _ _ (h.inE e he).1 (h.inE e he).2).1 (.edge e he)).sub fun x hx => List.mem_append.2 (.inl hx)
  ·exact .edge e (List.mem_append.2 (.inr he))
 ·intro c
  refine c.cut fun e he => ?_
  rcases List.mem_append.1 he with he | he
  ·exact ((hc _ _ (h.inT e he).1 (h.inT e he).2).2 (.edge e he)).sub fun x hx => List.mem_append.2 (.inl hx)
  ·exact .edge e (List.mem_append.2 (.inr he))
end Go.Pev.Pl
end
section
namespace Go.Pev.Pl
open Tok
set_option linter.unusedSimpArgs false
set_option maxRecDepth 100000
theorem growStays_loop {N : Nat} {ts : List Tie} (h : RG2 N ts) (l : List Edge) (hg : RG2 N (grown N ts l)) :
  iterL growStays_s0 many (l, (N : Int), ts, (N : Int), grown N ts l, (0 : Int), ()) = some (.inr (.inl (l, (N : Int), ts, (N : Int), grown N ts l, ()))) := by
 have ht := h.ht
 have hmem := fun t => (grown_perm N ts l).mem_iff (a := t)
 have e := findL (step := growStays_s0) (fun i => (l, (N : Int), ts, (N : Int), grown N ts l, (i : Int), ())) ts (fun _ => false) (fun _ => .inl (false, ())) (.inr (.inl (l, (N : Int), ts, (N : Int), grown N ts l, ()))) (by omega)
  (fun i x hi hx => by
   have hxm := List.mem_of_getElem? hx
   obtain ⟨f1, k, f2, f3, f4⟩ := find_tie hg.oks ((hmem x).2 (List.mem_append.2 (.inl hxm)))
   rw [growStays_s0, dlen_l, ilt_nat, decide_eq_true hi]
   simp only [idx_some hx, find21_val hg]
   rw [wrap_add1 (by omega), if_pos f1, f2, ilt_eq, decide_eq_false (by omega)]
   simp only [idx_some f4, tieEq_self, Bool.not_true]
   rfl)
  (by rw [growStays_s0, dlen_l, ilt_nat, decide_eq_false (by omega)])
 have e' : iterL growStays_s0 many (l, (N : Int), ts, (N : Int), grown N ts l, (0 : Int), ()) = _ := e
 rw [e']
 have hf : (ts.any fun _ => false) = false := by simp
 rw [hf]
 rfl
theorem fewer_sum (o1 o2 : List Int) (N : Nat) (h : ∀ k, k < N → o2.getD k 0 = (k : Int) → o1.getD k 0 = (k : Int)) :
  ((List.range N).filter fun k => decide (o1.getD k 0 = (k : Int) ∧ ¬ o2.getD k 0 = (k : Int))).length + cnt o2 N = cnt o1 N := by
 unfold cnt
 rw [← List.countP_eq_length_filter, ← List.countP_eq_length_filter, ← List.countP_eq_length_filter]
 have key : ∀ xs : List Nat, (∀ k ∈ xs, o2.getD k 0 = (k : Int) → o1.getD k 0 = (k : Int)) → xs.countP (fun k => decide (o1.getD k 0 = (k : Int) ∧ ¬ o2.getD k 0 = (k : Int))) + xs.countP (fun k => decide (o2.getD k 0 = (k : Int))) = xs.countP (fun k => decide (o1.getD k 0 = (k : Int))) := by
  intro xs
  induction xs with
  | nil => intro _; rfl
  | cons x xs ih =>
   intro hh
   have := ih fun k hk => hh k (by simp [hk])
   have hx := hh x (by simp)
   rw [List.countP_cons, List.countP_cons, List.countP_cons]
   by_cases p1 : o1.getD x 0 = (x : Int)
   ·by_cases p2 : o2.getD x 0 = (x : Int)
    ·simp only [p1, p2, not_true, and_false, decide_false, decide_true, if_true, Bool.false_eq_true, if_false]; omega
    ·simp only [p1, p2, not_false_eq_true, and_self, decide_false, decide_true, if_true, Bool.false_eq_true, if_false]; omega
   ·have p2 : ¬ o2.getD x 0 = (x : Int) := fun h => p1 (hx h)
    simp only [p1, p2, false_and, decide_false, Bool.false_eq_true, if_false]; omega
 exact key _ fun k hk => h k (by simpa using hk)
theorem growStays_loop1 (N : Nat) (hN : N ≤ 64) (ts : List Tie) (a2 a4 a6 a8 : List Int) (a3 a5 a7 a9 k q : Int) (o1 o2 : List Int) (h1 : o1.length = N) (h2 : o2.length = N) :
  iterL growStays_s1 many ((N : Int), ts, a2, a3, a4, a5, a6, a7, a8, a9, k, q, o1, o2, (0 : Int), (0 : Int), ()) = some (.inl (a2, a3, a4, a5, a6, a7, a8, a9, k, q, (((List.range N).filter fun k => decide (o1.getD k 0 = (k : Int) ∧ ¬ o2.getD k 0 = (k : Int))).length : Int), ())) := by
 have e := walkL (step := growStays_s1) (fun i (a : Nat) => ((N : Int), ts, a2, a3, a4, a5, a6, a7, a8, a9, k, q, o1, o2, (a : Int), (i : Int), ())) (List.range N) (fun k a => .inl (if o1.getD k 0 = (k : Int) ∧ ¬ o2.getD k 0 = (k : Int) then a + 1 else a)) (fun a => .inl (a2, a3, a4, a5, a6, a7, a8, a9, k, q, (a : Int), ())) (fun i a => a ≤ i) (by simp; omega)
  (fun i x a hi hx ha => by
   refine ⟨fun m' h' => ?_, fun r h' => (by cases h')⟩
   cases h'
   have := range_get' hx
   subst this
   rw [List.length_range] at hi
   constructor
   ·rw [growStays_s1, ilt_nat, decide_eq_true hi]
    simp only [idx_l 0 (show x < o1.length by omega), idx_l 0 (show x < o2.length by omega), dget_l, ieq_dec]
    rw [wrap_add1 (by omega), wrap_add1 (by omega)]
    by_cases p1 : o1.getD x 0 = (x : Int)
    ·by_cases p2 : o2.getD x 0 = (x : Int)
     ·rw [decide_eq_true p1, decide_eq_true p2, if_neg (fun h => h.2 p2)]
      rfl
     ·rw [decide_eq_true p1, decide_eq_false p2, if_pos ⟨p1, p2⟩]
      rfl
    ·rw [decide_eq_false p1, if_neg (fun h => p1 h.1)]
   ·split <;> omega)
  (fun a _ => by rw [growStays_s1, List.length_range, ilt_nat, decide_eq_false (by omega)]) 0 (Nat.le_refl _)
 have e' : iterL growStays_s1 many ((N : Int), ts, a2, a3, a4, a5, a6, a7, a8, a9, k, q, o1, o2, (0 : Int), (0 : Int), ()) = _ := e
 rw [e', walk_fold (fun k a => if o1.getD k 0 = (k : Int) ∧ ¬ o2.getD k 0 = (k : Int) then a + 1 else a), foldl_cnt (fun k => o1.getD k 0 = (k : Int) ∧ ¬ o2.getD k 0 = (k : Int)), Nat.zero_add]
theorem growStays_true (g : Int × List Tie × Unit) (l : List Edge) (h0 : wfD (.prod (.int .i64) (.prod (.slice (.prod (.int .i64) (.prod (.int .i64) (.prod (.int .i64) (.prod .bool .unit))))) .unit)) g) (hl : wfD (.slice (.prod (.int .i64) (.prod (.int .i64) .unit))) l) :
  growStays (g, l, ()) = some (true, ()) := by
 obtain ⟨n, ts, ⟨⟩⟩ := g
 rw [growStays_eq, growStays_d]
 simp only [alive22_true, Bool.not_true]
 rcases great22_val n ts l with g1 | ⟨g1, g2, g3, g4⟩
 ·simp only [g1]
 have hd : dapp ([] : List Tie) ts = ts := by simp [dapp]
 have hfi : fits (dlen ([] : List Tie) + dlen ts) = true := fits_l (by simp [dlen]; omega)
 simp only [g1, hd, hfi]
 have hsame := same21_self n ts (by omega)
 rcases rg2_cases n ts (by omega) with ⟨_, r⟩ | ⟨N, rfl, h⟩
 ·simp only [gadd_bad n ts l r, ieq_dec, hsame]
  rfl
 rcases gadd_val h l (by omega) with ⟨e, he, ha⟩ | ⟨hall, hfit, ha⟩
 ·simp only [ha, ieq_dec, decide_eq_false he, Bool.not_false, hsame]
 have hg := h.grown hfit
 have hN := h.hN
 have hcl := comeL_len N h.hN ts l
 have hglen := grown_len N ts l
 obtain ⟨o1, k1, j1, c1⟩ := classes20_val h.h1 h.hN (ts.map ed) (by rw [List.length_map]; omega) h.inE
 obtain ⟨o2, k2, _, c2⟩ := classes20_val h.h1 h.hN (trs ts ts.length) (by have := h.tlen; omega) h.inT
 obtain ⟨o3, k3, j3, c3⟩ := classes20_val h.h1 h.hN ((grown N ts l).map ed) (by rw [List.length_map]; omega) hg.inE
 obtain ⟨o4, k4, _, c4⟩ := classes20_val h.h1 h.hN (trs (grown N ts l) (grown N ts l).length) (by have := hg.tlen; omega) hg.inT
 have l1 : o1.length = N := by have := c1.len; omega
 have l3 : o3.length = N := by have := c3.len; omega
 have hw : ieq ((grown N ts l).length : Int) (IntKind.wrap .i64 ((ts.length : Int) + ((comeL N ts l).length : Int))) = true := by
  rw [wrap_add (by omega), ieq_nat, decide_eq_true hglen]
 have hin : ∀ k : Nat, k < N → In (N : Int) (k : Int) := fun k hk => in_of h.h1 h.hN ⟨by omega, by omega⟩
 have hcl' : ∀ (o : List Int) (k : Nat), o.getD k 0 = cl o (k : Int) := fun o k => by unfold cl; rw [Int.toNat_natCast]
 have hfew := fewer_sum o1 o3 N (fun k hk h3 => by
  rw [hcl'] at h3 ⊢
  have e1 := c1.con _ (hin k hk)
  have e2 := c1.isin _ (hin k hk)
  have e3 := c1.least _ _ (hin k hk) (hin k hk) (.refl _)
  have : Con ((grown N ts l).map ed) (k : Int) (cl o1 (k : Int)) := e1.sub fun e he => (grown_eds N ts l).mem_iff.2 (List.mem_append.2 (.inl he))
  have := c3.least _ _ (hin k hk) e2 this
  omega)
 rw [cnt_cc h.h1 h.hN c1, cnt_cc h.h1 h.hN c3, cc_perm (grown_eds N ts l)] at hfew
 simp only [ha, ieq_self', Bool.not_true, hsame, dlen_l, hw, growStays_loop h l hg, edges21_val (N : Int) ts h.ht h.r21, k1, trees21_val ts h.ht h.oks, k2, edges21_val (N : Int) (grown N ts l) hg.ht hg.r21, k3, trees21_val (grown N ts l) hg.ht hg.oks, k4, gjoined_val h l (by omega) hall, j1, j3, growStays_loop1 N h.hN ts _ _ _ _ _ _ _ _ _ _ o1 o3 l1 l3]
 rw [ieq_dec, decide_eq_true (by omega)]
 simp only [ints01_val o1 o2 (by omega)]
 by_cases ho : o1 = o2
 ·subst ho
  have hcon := grown_con h l (fun a b ia ib => (c1.same a b ia ib).symm.trans (c2.same a b ia ib))
  have : o3 = o4 := ClOK.unique h.h1 h.hN c3 (ClOK.congr (fun a b => (hcon a b).symm) c4)
  subst this
  rw [decide_eq_true rfl]
  simp only [Bool.not_true, ints01_val o3 o3 (by omega), decide_true]
 ·rw [decide_eq_false ho]
  rfl
end Go.Pev.Pl
end
section
namespace Go.Pev
open Go.Proofs
set_option maxRecDepth 100000
noncomputable section
-- archipelago/archipelagoref01.Ints
abbrev ints01_h : Hints := { loop := fun n => match n with | 0 => loopBy 0 26 ints01_i0 ints01_o0 ints01_s0 | _ => fun _ _ _ => none, fp := fun n => match n with | 6 => [[], [], [], [], [], [], [], [], []] | _ => [] }
theorem ints01_s0_ok : ∀ v, ints01_s0 v = roundOf Tryz.prog Env.none ints01_h 1 0 26 (loopOf Tryz.f21 0) ints01_i0 ints01_o0 v := by
 rintro ⟨a0, a1, a2, ⟨⟩⟩
 kernel_rfl
theorem ints01_q0 : loopList (loopOf Tryz.f21 0) 1 = [] := by kernel_rfl
theorem ints01_l0 : CodeOK Tryz.prog 0 (.loop (loopOf Tryz.f21 0)) (ints01_h.loop 0) := loop_ok Env.none_ok (ints01_s0_ok) (LoopsOK_of ints01_q0 trivial)
theorem ints01_okd : ∀ v, ints01_d v = pevCall Tryz.prog Env.none ints01_h Tryz.f21 ints01_i ints01_o ints01_r v := by
 rintro ⟨a0, a1, ⟨⟩⟩
 kernel_rfl
theorem ints01_q : loopList (bodyOf Tryz.f21) 0 = [(0, loopOf Tryz.f21 0)] := by kernel_rfl
theorem ints01_spec : SpecOK Tryz.prog 21 (mkCall 2 ints01_i ints01_o ints01_r ints01) := call_spec Env.none_ok Tryz.func21 (by kernel_rfl) (by kernel_rfl) rfl (fun v => (ints01_eq v).trans (ints01_okd v)) (LoopsOK_of ints01_q ⟨ints01_l0, trivial⟩)
def E_ints01 : Env := Env.none.ext 21 true true (mkCall 2 ints01_i ints01_o ints01_r ints01)
theorem E_ints01_ok : EnvOK Tryz.prog E_ints01 := Env.ext_ok Env.none_ok ints01_spec (fun _ => mkCall_local rfl rfl) (fun _ => mkCall_in rfl rfl)
-- archipelago/tour.sized
abbrev tsized_h : Hints := {  }
theorem tsized_okd : ∀ v, tsized_d v = pevCall Tryz.prog E_ints01 tsized_h Tryz.f122 tsized_i tsized_o tsized_r v := by
 rintro ⟨a0, ⟨⟩⟩
 kernel_rfl
theorem tsized_q : loopList (bodyOf Tryz.f122) 0 = [] := by kernel_rfl
theorem tsized_spec : SpecOK Tryz.prog 122 (mkCall 1 tsized_i tsized_o tsized_r tsized) := call_spec E_ints01_ok Tryz.func122 (by kernel_rfl) (by kernel_rfl) rfl (fun v => (tsized_eq v).trans (tsized_okd v)) (LoopsOK_of tsized_q trivial)
def E_tsized : Env := E_ints01.ext 122 true true (mkCall 1 tsized_i tsized_o tsized_r tsized)
theorem E_tsized_ok : EnvOK Tryz.prog E_tsized := Env.ext_ok E_ints01_ok tsized_spec (fun _ => mkCall_local rfl rfl) (fun _ => mkCall_in rfl rfl)
-- archipelago/tour.in
abbrev tin_h : Hints := {  }
theorem tin_okd : ∀ v, tin_d v = pevCall Tryz.prog E_tsized tin_h Tryz.f151 tin_i tin_o tin_r v := by
 rintro ⟨a0, a1, ⟨⟩⟩
 kernel_rfl
theorem tin_q : loopList (bodyOf Tryz.f151) 0 = [] := by kernel_rfl
theorem tin_spec : SpecOK Tryz.prog 151 (mkCall 2 tin_i tin_o tin_r tin) := call_spec E_tsized_ok Tryz.func151 (by kernel_rfl) (by kernel_rfl) rfl (fun v => (tin_eq v).trans (tin_okd v)) (LoopsOK_of tin_q trivial)
def E_tin : Env := E_tsized.ext 151 true true (mkCall 2 tin_i tin_o tin_r tin)
theorem E_tin_ok : EnvOK Tryz.prog E_tin := Env.ext_ok E_tsized_ok tin_spec (fun _ => mkCall_local rfl rfl) (fun _ => mkCall_in rfl rfl)
-- archipelago/tour.Arc
abbrev tarc_h : Hints := {  }
theorem tarc_okd : ∀ v, tarc_d v = pevCall Tryz.prog E_tin tarc_h Tryz.f147 tarc_i tarc_o tarc_r v := by
 rintro ⟨a0, a1, a2, ⟨⟩⟩
 kernel_rfl
theorem tarc_q : loopList (bodyOf Tryz.f147) 0 = [] := by kernel_rfl
theorem tarc_spec : SpecOK Tryz.prog 147 (mkCall 3 tarc_i tarc_o tarc_r tarc) := call_spec E_tin_ok Tryz.func147 (by kernel_rfl) (by kernel_rfl) rfl (fun v => (tarc_eq v).trans (tarc_okd v)) (LoopsOK_of tarc_q trivial)
def E_tarc : Env := E_tin.ext 147 true true (mkCall 3 tarc_i tarc_o tarc_r tarc)
theorem E_tarc_ok : EnvOK Tryz.prog E_tarc := Env.ext_ok E_tin_ok tarc_spec (fun _ => mkCall_local rfl rfl) (fun _ => mkCall_in rfl rfl)
-- archipelago/tour.Token
abbrev ttoken_h : Hints := { fp := fun n => match n with | 5 => [[], [], [], [], [], [], [], [], []] | _ => [] }
theorem ttoken_okd : ∀ v, ttoken_d v = pevCall Tryz.prog E_tarc ttoken_h Tryz.f152 ttoken_i ttoken_o ttoken_r v := by
 rintro ⟨a0, a1, ⟨⟩⟩
 kernel_rfl
theorem ttoken_q : loopList (bodyOf Tryz.f152) 0 = [] := by kernel_rfl
theorem ttoken_spec : SpecOK Tryz.prog 152 (mkCall 2 ttoken_i ttoken_o ttoken_r ttoken) := call_spec E_tarc_ok Tryz.func152 (by kernel_rfl) (by kernel_rfl) rfl (fun v => (ttoken_eq v).trans (ttoken_okd v)) (LoopsOK_of ttoken_q trivial)
def E_ttoken : Env := E_tarc.ext 152 true true (mkCall 2 ttoken_i ttoken_o ttoken_r ttoken)
theorem E_ttoken_ok : EnvOK Tryz.prog E_ttoken := Env.ext_ok E_tarc_ok ttoken_spec (fun _ => mkCall_local rfl rfl) (fun _ => mkCall_in rfl rfl)
-- archipelago/tour.Make
abbrev tmake_h : Hints := { loop := fun n => match n with | 0 => loopBy 0 25 tmake_i0 tmake_o0 tmake_s0 | _ => fun _ _ _ => none }
theorem tmake_s0_ok : ∀ v, tmake_s0 v = roundOf Tryz.prog E_ttoken tmake_h 1 0 25 (loopOf Tryz.f90 0) tmake_i0 tmake_o0 v := by
 rintro ⟨a0, a1, a2, a3, a4, ⟨⟩⟩
 kernel_rfl
theorem tmake_q0 : loopList (loopOf Tryz.f90 0) 1 = [] := by kernel_rfl
theorem tmake_l0 : CodeOK Tryz.prog 0 (.loop (loopOf Tryz.f90 0)) (tmake_h.loop 0) := loop_ok E_ttoken_ok (tmake_s0_ok) (LoopsOK_of tmake_q0 trivial)
theorem tmake_okd : ∀ v, tmake_d v = pevCall Tryz.prog E_ttoken tmake_h Tryz.f90 tmake_i tmake_o tmake_r v := by
 rintro ⟨a0, ⟨⟩⟩
 kernel_rfl
theorem tmake_q : loopList (bodyOf Tryz.f90) 0 = [(0, loopOf Tryz.f90 0)] := by kernel_rfl
theorem tmake_spec : SpecOK Tryz.prog 90 (mkCall 1 tmake_i tmake_o tmake_r tmake) := call_spec E_ttoken_ok Tryz.func90 (by kernel_rfl) (by kernel_rfl) rfl (fun v => (tmake_eq v).trans (tmake_okd v)) (LoopsOK_of tmake_q ⟨tmake_l0, trivial⟩)
def E_tmake : Env := E_ttoken.ext 90 true true (mkCall 1 tmake_i tmake_o tmake_r tmake)
theorem E_tmake_ok : EnvOK Tryz.prog E_tmake := Env.ext_ok E_ttoken_ok tmake_spec (fun _ => mkCall_local rfl rfl) (fun _ => mkCall_in rfl rfl)
-- slices.Index[[]int,int]
abbrev indexI_h : Hints := { loop := fun n => match n with | 0 => loopBy 0 19 indexI_i0 indexI_o0 indexI_s0 | _ => fun _ _ _ => none }
theorem indexI_s0_ok : ∀ v, indexI_s0 v = roundOf Tryz.prog E_tmake indexI_h 1 0 19 (loopOf Tryz.f167 0) indexI_i0 indexI_o0 v := by
 rintro ⟨a0, a1, a2, a3, ⟨⟩⟩
 kernel_rfl
theorem indexI_q0 : loopList (loopOf Tryz.f167 0) 1 = [] := by kernel_rfl
theorem indexI_l0 : CodeOK Tryz.prog 0 (.loop (loopOf Tryz.f167 0)) (indexI_h.loop 0) := loop_ok E_tmake_ok (indexI_s0_ok) (LoopsOK_of indexI_q0 trivial)
theorem indexI_okd : ∀ v, indexI_d v = pevCall Tryz.prog E_tmake indexI_h Tryz.f167 indexI_i indexI_o indexI_r v := by
 rintro ⟨a0, a1, ⟨⟩⟩
 kernel_rfl
theorem indexI_q : loopList (bodyOf Tryz.f167) 0 = [(0, loopOf Tryz.f167 0)] := by kernel_rfl
theorem indexI_spec : SpecOK Tryz.prog 167 (mkCall 2 indexI_i indexI_o indexI_r indexI) := call_spec E_tmake_ok Tryz.func167 (by kernel_rfl) (by kernel_rfl) rfl (fun v => (indexI_eq v).trans (indexI_okd v)) (LoopsOK_of indexI_q ⟨indexI_l0, trivial⟩)
def E_indexI : Env := E_tmake.ext 167 true true (mkCall 2 indexI_i indexI_o indexI_r indexI)
theorem E_indexI_ok : EnvOK Tryz.prog E_indexI := Env.ext_ok E_tmake_ok indexI_spec (fun _ => mkCall_local rfl rfl) (fun _ => mkCall_in rfl rfl)
-- slices.Contains[[]int,int]
abbrev containsI_h : Hints := {  }
theorem containsI_okd : ∀ v, containsI_d v = pevCall Tryz.prog E_indexI containsI_h Tryz.f161 containsI_i containsI_o containsI_r v := by
 rintro ⟨a0, a1, ⟨⟩⟩
 kernel_rfl
theorem containsI_q : loopList (bodyOf Tryz.f161) 0 = [] := by kernel_rfl
theorem containsI_spec : SpecOK Tryz.prog 161 (mkCall 2 containsI_i containsI_o containsI_r containsI) := call_spec E_indexI_ok Tryz.func161 (by kernel_rfl) (by kernel_rfl) rfl (fun v => (containsI_eq v).trans (containsI_okd v)) (LoopsOK_of containsI_q trivial)
def E_containsI : Env := E_indexI.ext 161 true true (mkCall 2 containsI_i containsI_o containsI_r containsI)
theorem E_containsI_ok : EnvOK Tryz.prog E_containsI := Env.ext_ok E_indexI_ok containsI_spec (fun _ => mkCall_local rfl rfl) (fun _ => mkCall_in rfl rfl)
-- slices.Min[[]int,int]
abbrev minI_h : Hints := { loop := fun n => match n with | 0 => loopBy 0 25 minI_i0 minI_o0 minI_s0 | _ => fun _ _ _ => none }
theorem minI_s0_ok : ∀ v, minI_s0 v = roundOf Tryz.prog E_containsI minI_h 1 0 25 (loopOf Tryz.f126 0) minI_i0 minI_o0 v := by
 rintro ⟨a0, a1, a2, ⟨⟩⟩
 kernel_rfl
theorem minI_q0 : loopList (loopOf Tryz.f126 0) 1 = [] := by kernel_rfl
theorem minI_l0 : CodeOK Tryz.prog 0 (.loop (loopOf Tryz.f126 0)) (minI_h.loop 0) := loop_ok E_containsI_ok (minI_s0_ok) (LoopsOK_of minI_q0 trivial)
theorem minI_okd : ∀ v, minI_d v = pevCall Tryz.prog E_containsI minI_h Tryz.f126 minI_i minI_o minI_r v := by
 rintro ⟨a0, ⟨⟩⟩
 kernel_rfl
theorem minI_q : loopList (bodyOf Tryz.f126) 0 = [(0, loopOf Tryz.f126 0)] := by kernel_rfl
theorem minI_spec : SpecOK Tryz.prog 126 (mkCall 1 minI_i minI_o minI_r minI) := call_spec E_containsI_ok Tryz.func126 (by kernel_rfl) (by kernel_rfl) rfl (fun v => (minI_eq v).trans (minI_okd v)) (LoopsOK_of minI_q ⟨minI_l0, trivial⟩)
def E_minI : Env := E_containsI.ext 126 true true (mkCall 1 minI_i minI_o minI_r minI)
theorem E_minI_ok : EnvOK Tryz.prog E_minI := Env.ext_ok E_containsI_ok minI_spec (fun _ => mkCall_local rfl rfl) (fun _ => mkCall_in rfl rfl)
-- slices.Grow[[]int,int]
abbrev growI_h : Hints := {  }
theorem growI_okd : ∀ v, growI_d v = pevCall Tryz.prog E_minI growI_h Tryz.f78 growI_i growI_o growI_r v := by
 rintro ⟨a0, ⟨⟩⟩
 kernel_rfl
theorem growI_q : loopList (bodyOf Tryz.f78) 0 = [] := by kernel_rfl
theorem growI_spec : SpecOK Tryz.prog 78 (mkCall 2 growI_i growI_o growI_r growI) := call_spec E_minI_ok Tryz.func78 (by kernel_rfl) (by kernel_rfl) rfl (fun v => (growI_eq v).trans (growI_okd v)) (LoopsOK_of growI_q trivial)
def E_growI : Env := E_minI.ext 78 false true (mkCall 2 growI_i growI_o growI_r growI)
theorem E_growI_ok : EnvOK Tryz.prog E_growI := Env.ext_ok E_minI_ok growI_spec ((by simp)) (fun _ => mkCall_in rfl rfl)
-- slices.Concat[[]int,int]
abbrev concatI_h : Hints := { loop := fun n => match n with | 0 => loopBy 0 36 concatI_i0 concatI_o0 concatI_s0 | 1 => loopBy 0 36 concatI_i1 concatI_o1 concatI_s1 | _ => fun _ _ _ => none }
theorem concatI_s1_ok : ∀ v, concatI_s1 v = roundOf Tryz.prog E_growI concatI_h 2 0 36 (loopOf Tryz.f49 1) concatI_i1 concatI_o1 v := by
 rintro ⟨a0, a1, a2, a3, ⟨⟩⟩
 kernel_rfl
theorem concatI_q1 : loopList (loopOf Tryz.f49 1) 2 = [] := by kernel_rfl
theorem concatI_l1 : CodeOK Tryz.prog 0 (.loop (loopOf Tryz.f49 1)) (concatI_h.loop 1) := loop_ok E_growI_ok (concatI_s1_ok) (LoopsOK_of concatI_q1 trivial)
theorem concatI_s0_ok : ∀ v, concatI_s0 v = roundOf Tryz.prog E_growI concatI_h 1 0 36 (loopOf Tryz.f49 0) concatI_i0 concatI_o0 v := by
 rintro ⟨a0, a1, a2, a3, a4, ⟨⟩⟩
 kernel_rfl
theorem concatI_q0 : loopList (loopOf Tryz.f49 0) 1 = [] := by kernel_rfl
theorem concatI_l0 : CodeOK Tryz.prog 0 (.loop (loopOf Tryz.f49 0)) (concatI_h.loop 0) := loop_ok E_growI_ok (concatI_s0_ok) (LoopsOK_of concatI_q0 trivial)
theorem concatI_okd : ∀ v, concatI_d v = pevCall Tryz.prog E_growI concatI_h Tryz.f49 concatI_i concatI_o concatI_r v := by
 rintro ⟨a0, ⟨⟩⟩
 kernel_rfl
theorem concatI_q : loopList (bodyOf Tryz.f49) 0 = [(0, loopOf Tryz.f49 0), (1, loopOf Tryz.f49 1)] := by kernel_rfl
theorem concatI_spec : SpecOK Tryz.prog 49 (mkCall 1 concatI_i concatI_o concatI_r concatI) := call_spec E_growI_ok Tryz.func49 (by kernel_rfl) (by kernel_rfl) rfl (fun v => (concatI_eq v).trans (concatI_okd v)) (LoopsOK_of concatI_q ⟨concatI_l0, concatI_l1, trivial⟩)
def E_concatI : Env := E_growI.ext 49 true true (mkCall 1 concatI_i concatI_o concatI_r concatI)
theorem E_concatI_ok : EnvOK Tryz.prog E_concatI := Env.ext_ok E_growI_ok concatI_spec (fun _ => mkCall_local rfl rfl) (fun _ => mkCall_in rfl rfl)
-- archipelago/ring.Right$1: gone through in place
theorem ringOdd_b : Tryz.f149.body.isSome = true := by kernel_rfl
theorem ringOdd_n : (Tryz.f149.name == "runtime.NumGoroutine") = false := by kernel_rfl
theorem ringOdd_z : loops (bodyOf Tryz.f149) = 0 := by kernel_rfl
def E_ringOdd_1 : Env := E_concatI.ext 149 false false (mkInline Tryz.prog E_concatI {} Tryz.f149)
theorem E_ringOdd_1_ok : EnvOK Tryz.prog E_ringOdd_1 := Env.ext_ok E_concatI_ok (inline_spec E_concatI_ok Tryz.func149 ringOdd_b ringOdd_n ringOdd_z) (by simp) (by simp)
end
end Go.Pev
end
section
namespace Go.Pev
open Go.Proofs
set_option maxRecDepth 100000
noncomputable section
-- slices.IndexFunc[[]int,int]
abbrev idxFuncI_odd_h : Hints := { loop := fun n => match n with | 0 => loopBy 0 19 idxFuncI_odd_i0 idxFuncI_odd_o0 idxFuncI_odd_s0 | _ => fun _ _ _ => none }
theorem idxFuncI_odd_s0_ok : ∀ v, idxFuncI_odd_s0 v = roundOf Tryz.prog E_ringOdd_1 idxFuncI_odd_h 1 0 19 (loopOf Tryz.f79 0) idxFuncI_odd_i0 idxFuncI_odd_o0 v := by
 rintro ⟨a0, a1, a2, ⟨⟩⟩
 kernel_rfl
theorem idxFuncI_odd_q0 : loopList (loopOf Tryz.f79 0) 1 = [] := by kernel_rfl
theorem idxFuncI_odd_l0 : CodeOK Tryz.prog 0 (.loop (loopOf Tryz.f79 0)) (idxFuncI_odd_h.loop 0) := loop_ok E_ringOdd_1_ok (idxFuncI_odd_s0_ok) (LoopsOK_of idxFuncI_odd_q0 trivial)
theorem idxFuncI_odd_okd : ∀ v, idxFuncI_odd_d v = pevCall Tryz.prog E_ringOdd_1 idxFuncI_odd_h Tryz.f79 idxFuncI_odd_i idxFuncI_odd_o idxFuncI_odd_r v := by
 rintro ⟨a0, ⟨⟩⟩
 kernel_rfl
theorem idxFuncI_odd_q : loopList (bodyOf Tryz.f79) 0 = [(0, loopOf Tryz.f79 0)] := by kernel_rfl
theorem idxFuncI_odd_spec : SpecOK Tryz.prog 79 (mkCall 2 idxFuncI_odd_i idxFuncI_odd_o idxFuncI_odd_r idxFuncI_odd) := call_spec E_ringOdd_1_ok Tryz.func79 (by kernel_rfl) (by kernel_rfl) rfl (fun v => (idxFuncI_odd_eq v).trans (idxFuncI_odd_okd v)) (LoopsOK_of idxFuncI_odd_q ⟨idxFuncI_odd_l0, trivial⟩)
def E_idxFuncI_odd : Env := E_ringOdd_1.extC 79 1 149 (mkCall 2 idxFuncI_odd_i idxFuncI_odd_o idxFuncI_odd_r idxFuncI_odd)
theorem E_idxFuncI_odd_ok : EnvOK Tryz.prog E_idxFuncI_odd := Env.extC_ok E_ringOdd_1_ok idxFuncI_odd_spec (mkCall_in rfl rfl)
-- slices.ContainsFunc[[]int,int]
abbrev contFuncI_odd_h : Hints := {  }
theorem contFuncI_odd_okd : ∀ v, contFuncI_odd_d v = pevCall Tryz.prog E_idxFuncI_odd contFuncI_odd_h Tryz.f50 contFuncI_odd_i contFuncI_odd_o contFuncI_odd_r v := by
 rintro ⟨a0, ⟨⟩⟩
 kernel_rfl
theorem contFuncI_odd_q : loopList (bodyOf Tryz.f50) 0 = [] := by kernel_rfl
theorem contFuncI_odd_spec : SpecOK Tryz.prog 50 (mkCall 2 contFuncI_odd_i contFuncI_odd_o contFuncI_odd_r contFuncI_odd) := call_spec E_idxFuncI_odd_ok Tryz.func50 (by kernel_rfl) (by kernel_rfl) rfl (fun v => (contFuncI_odd_eq v).trans (contFuncI_odd_okd v)) (LoopsOK_of contFuncI_odd_q trivial)
def E_contFuncI_odd : Env := E_idxFuncI_odd.extC 50 1 149 (mkCall 2 contFuncI_odd_i contFuncI_odd_o contFuncI_odd_r contFuncI_odd)
theorem E_contFuncI_odd_ok : EnvOK Tryz.prog E_contFuncI_odd := Env.extC_ok E_idxFuncI_odd_ok contFuncI_odd_spec (mkCall_in rfl rfl)
-- archipelago/ring.once[int]
abbrev once_h : Hints := { loop := fun n => match n with | 0 => loopBy 0 23 once_i0 once_o0 once_s0 | _ => fun _ _ _ => none }
theorem once_s0_ok : ∀ v, once_s0 v = roundOf Tryz.prog E_contFuncI_odd once_h 1 0 23 (loopOf Tryz.f150 0) once_i0 once_o0 v := by
 rintro ⟨a0, a1, a2, a3, a4, ⟨⟩⟩
 kernel_rfl
theorem once_q0 : loopList (loopOf Tryz.f150 0) 1 = [] := by kernel_rfl
theorem once_l0 : CodeOK Tryz.prog 0 (.loop (loopOf Tryz.f150 0)) (once_h.loop 0) := loop_ok E_contFuncI_odd_ok (once_s0_ok) (LoopsOK_of once_q0 trivial)
theorem once_okd : ∀ v, once_d v = pevCall Tryz.prog E_contFuncI_odd once_h Tryz.f150 once_i once_o once_r v := by
 rintro ⟨a0, ⟨⟩⟩
 kernel_rfl
theorem once_q : loopList (bodyOf Tryz.f150) 0 = [(0, loopOf Tryz.f150 0)] := by kernel_rfl
theorem once_spec : SpecOK Tryz.prog 150 (mkCall 1 once_i once_o once_r once) := call_spec E_contFuncI_odd_ok Tryz.func150 (by kernel_rfl) (by kernel_rfl) rfl (fun v => (once_eq v).trans (once_okd v)) (LoopsOK_of once_q ⟨once_l0, trivial⟩)
def E_once : Env := E_contFuncI_odd.ext 150 true true (mkCall 1 once_i once_o once_r once)
theorem E_once_ok : EnvOK Tryz.prog E_once := Env.ext_ok E_contFuncI_odd_ok once_spec (fun _ => mkCall_local rfl rfl) (fun _ => mkCall_in rfl rfl)
-- archipelago/ring.Right
abbrev rright_h : Hints := {  }
theorem rright_okd : ∀ v, rright_d v = pevCall Tryz.prog E_once rright_h Tryz.f125 rright_i rright_o rright_r v := by
 rintro ⟨a0, ⟨⟩⟩
 kernel_rfl
theorem rright_q : loopList (bodyOf Tryz.f125) 0 = [] := by kernel_rfl
theorem rright_spec : SpecOK Tryz.prog 125 (mkCall 1 rright_i rright_o rright_r rright) := call_spec E_once_ok Tryz.func125 (by kernel_rfl) (by kernel_rfl) rfl (fun v => (rright_eq v).trans (rright_okd v)) (LoopsOK_of rright_q trivial)
def E_rright : Env := E_once.ext 125 true true (mkCall 1 rright_i rright_o rright_r rright)
theorem E_rright_ok : EnvOK Tryz.prog E_rright := Env.ext_ok E_once_ok rright_spec (fun _ => mkCall_local rfl rfl) (fun _ => mkCall_in rfl rfl)
-- archipelago/ring.turned
abbrev turned_h : Hints := { fp := fun n => match n with | 1 => [[], [], [], [], [], [], [], [0], []] | _ => [] }
theorem turned_okd : ∀ v, turned_d v = pevCall Tryz.prog E_rright turned_h Tryz.f163 turned_i turned_o turned_r v := by
 rintro ⟨a0, a1, ⟨⟩⟩
 kernel_rfl
theorem turned_q : loopList (bodyOf Tryz.f163) 0 = [] := by kernel_rfl
theorem turned_spec : SpecOK Tryz.prog 163 (mkCall 2 turned_i turned_o turned_r turned) := call_spec E_rright_ok Tryz.func163 (by kernel_rfl) (by kernel_rfl) rfl (fun v => (turned_eq v).trans (turned_okd v)) (LoopsOK_of turned_q trivial)
def E_turned : Env := E_rright.ext 163 true true (mkCall 2 turned_i turned_o turned_r turned)
theorem E_turned_ok : EnvOK Tryz.prog E_turned := Env.ext_ok E_rright_ok turned_spec (fun _ => mkCall_local rfl rfl) (fun _ => mkCall_in rfl rfl)
-- archipelago/ring.places
abbrev places_h : Hints := { loop := fun n => match n with | 0 => loopBy 0 29 places_i0 places_o0 places_s0 | _ => fun _ _ _ => none }
theorem places_s0_ok : ∀ v, places_s0 v = roundOf Tryz.prog E_turned places_h 1 0 29 (loopOf Tryz.f162 0) places_i0 places_o0 v := by
 rintro ⟨a0, a1, a2, a3, a4, ⟨⟩⟩
 kernel_rfl
theorem places_q0 : loopList (loopOf Tryz.f162 0) 1 = [] := by kernel_rfl
theorem places_l0 : CodeOK Tryz.prog 0 (.loop (loopOf Tryz.f162 0)) (places_h.loop 0) := loop_ok E_turned_ok (places_s0_ok) (LoopsOK_of places_q0 trivial)
theorem places_okd : ∀ v, places_d v = pevCall Tryz.prog E_turned places_h Tryz.f162 places_i places_o places_r v := by
 rintro ⟨a0, a1, ⟨⟩⟩
 kernel_rfl
theorem places_q : loopList (bodyOf Tryz.f162) 0 = [(0, loopOf Tryz.f162 0)] := by kernel_rfl
theorem places_spec : SpecOK Tryz.prog 162 (mkCall 2 places_i places_o places_r places) := call_spec E_turned_ok Tryz.func162 (by kernel_rfl) (by kernel_rfl) rfl (fun v => (places_eq v).trans (places_okd v)) (LoopsOK_of places_q ⟨places_l0, trivial⟩)
def E_places : Env := E_turned.ext 162 true true (mkCall 2 places_i places_o places_r places)
theorem E_places_ok : EnvOK Tryz.prog E_places := Env.ext_ok E_turned_ok places_spec (fun _ => mkCall_local rfl rfl) (fun _ => mkCall_in rfl rfl)
-- archipelago/ring.From
abbrev rfrom_h : Hints := {  }
theorem rfrom_okd : ∀ v, rfrom_d v = pevCall Tryz.prog E_places rfrom_h Tryz.f146 rfrom_i rfrom_o rfrom_r v := by
 rintro ⟨a0, a1, ⟨⟩⟩
 kernel_rfl
theorem rfrom_q : loopList (bodyOf Tryz.f146) 0 = [] := by kernel_rfl
theorem rfrom_spec : SpecOK Tryz.prog 146 (mkCall 2 rfrom_i rfrom_o rfrom_r rfrom) := call_spec E_places_ok Tryz.func146 (by kernel_rfl) (by kernel_rfl) rfl (fun v => (rfrom_eq v).trans (rfrom_okd v)) (LoopsOK_of rfrom_q trivial)
def E_rfrom : Env := E_places.ext 146 true true (mkCall 2 rfrom_i rfrom_o rfrom_r rfrom)
theorem E_rfrom_ok : EnvOK Tryz.prog E_rfrom := Env.ext_ok E_places_ok rfrom_spec (fun _ => mkCall_local rfl rfl) (fun _ => mkCall_in rfl rfl)
-- archipelago/ring.Plain
abbrev rplain_h : Hints := {  }
theorem rplain_okd : ∀ v, rplain_d v = pevCall Tryz.prog E_rfrom rplain_h Tryz.f164 rplain_i rplain_o rplain_r v := by
 rintro ⟨a0, ⟨⟩⟩
 kernel_rfl
theorem rplain_q : loopList (bodyOf Tryz.f164) 0 = [] := by kernel_rfl
theorem rplain_spec : SpecOK Tryz.prog 164 (mkCall 1 rplain_i rplain_o rplain_r rplain) := call_spec E_rfrom_ok Tryz.func164 (by kernel_rfl) (by kernel_rfl) rfl (fun v => (rplain_eq v).trans (rplain_okd v)) (LoopsOK_of rplain_q trivial)
def E_rplain : Env := E_rfrom.ext 164 true true (mkCall 1 rplain_i rplain_o rplain_r rplain)
theorem E_rplain_ok : EnvOK Tryz.prog E_rplain := Env.ext_ok E_rfrom_ok rplain_spec (fun _ => mkCall_local rfl rfl) (fun _ => mkCall_in rfl rfl)
-- archipelago/tour.place$1: gone through in place
theorem tplace1_b : Tryz.f160.body.isSome = true := by kernel_rfl
theorem tplace1_n : (Tryz.f160.name == "runtime.NumGoroutine") = false := by kernel_rfl
theorem tplace1_z : loops (bodyOf Tryz.f160) = 0 := by kernel_rfl
def E_tplace1_2 : Env := E_rplain.ext 160 false false (mkInline Tryz.prog E_rplain {} Tryz.f160)
theorem E_tplace1_2_ok : EnvOK Tryz.prog E_tplace1_2 := Env.ext_ok E_rplain_ok (inline_spec E_rplain_ok Tryz.func160 tplace1_b tplace1_n tplace1_z) (by simp) (by simp)
-- slices.IndexFunc[[][]int,[]int]
abbrev idxFuncL_place_h : Hints := { loop := fun n => match n with | 0 => loopBy 1 19 idxFuncL_place_i0 idxFuncL_place_o0 idxFuncL_place_s0 | _ => fun _ _ _ => none }
theorem idxFuncL_place_s0_ok : ∀ v, idxFuncL_place_s0 v = roundOf Tryz.prog E_tplace1_2 idxFuncL_place_h 1 1 19 (loopOf Tryz.f159 0) idxFuncL_place_i0 idxFuncL_place_o0 v := by
 rintro ⟨a0, a1, a2, a3, ⟨⟩⟩
 kernel_rfl
theorem idxFuncL_place_q0 : loopList (loopOf Tryz.f159 0) 1 = [] := by kernel_rfl
theorem idxFuncL_place_l0 : CodeOK Tryz.prog 1 (.loop (loopOf Tryz.f159 0)) (idxFuncL_place_h.loop 0) := loop_ok E_tplace1_2_ok (idxFuncL_place_s0_ok) (LoopsOK_of idxFuncL_place_q0 trivial)
theorem idxFuncL_place_okd : ∀ v, idxFuncL_place_d v = pevCall Tryz.prog E_tplace1_2 idxFuncL_place_h Tryz.f159 idxFuncL_place_i idxFuncL_place_o idxFuncL_place_r v := by
 rintro ⟨a0, a1, ⟨⟩⟩
 kernel_rfl
theorem idxFuncL_place_q : loopList (bodyOf Tryz.f159) 0 = [(0, loopOf Tryz.f159 0)] := by kernel_rfl
theorem idxFuncL_place_spec : SpecOK Tryz.prog 159 (mkCall 2 idxFuncL_place_i idxFuncL_place_o idxFuncL_place_r idxFuncL_place) := call_spec E_tplace1_2_ok Tryz.func159 (by kernel_rfl) (by kernel_rfl) rfl (fun v => (idxFuncL_place_eq v).trans (idxFuncL_place_okd v)) (LoopsOK_of idxFuncL_place_q ⟨idxFuncL_place_l0, trivial⟩)
def E_idxFuncL_place : Env := E_tplace1_2.extC 159 1 160 (mkCall 2 idxFuncL_place_i idxFuncL_place_o idxFuncL_place_r idxFuncL_place)
theorem E_idxFuncL_place_ok : EnvOK Tryz.prog E_idxFuncL_place := Env.extC_ok E_tplace1_2_ok idxFuncL_place_spec (mkCall_in rfl rfl)
-- archipelago/tour.place
abbrev tplace_h : Hints := {  }
theorem tplace_okd : ∀ v, tplace_d v = pevCall Tryz.prog E_idxFuncL_place tplace_h Tryz.f145 tplace_i tplace_o tplace_r v := by
 rintro ⟨a0, a1, ⟨⟩⟩
 kernel_rfl
theorem tplace_q : loopList (bodyOf Tryz.f145) 0 = [] := by kernel_rfl
theorem tplace_spec : SpecOK Tryz.prog 145 (mkCall 2 tplace_i tplace_o tplace_r tplace) := call_spec E_idxFuncL_place_ok Tryz.func145 (by kernel_rfl) (by kernel_rfl) rfl (fun v => (tplace_eq v).trans (tplace_okd v)) (LoopsOK_of tplace_q trivial)
def E_tplace : Env := E_idxFuncL_place.ext 145 true true (mkCall 2 tplace_i tplace_o tplace_r tplace)
theorem E_tplace_ok : EnvOK Tryz.prog E_tplace := Env.ext_ok E_idxFuncL_place_ok tplace_spec (fun _ => mkCall_local rfl rfl) (fun _ => mkCall_in rfl rfl)
-- (*archipelago/tour.walk).along: gone through in place
theorem along_b : Tryz.f153.body.isSome = true := by kernel_rfl
theorem along_n : (Tryz.f153.name == "runtime.NumGoroutine") = false := by kernel_rfl
theorem along_z : loops (bodyOf Tryz.f153) = 0 := by kernel_rfl
def E_along_3 : Env := E_tplace.ext 153 false false (mkInline Tryz.prog E_tplace {} Tryz.f153)
theorem E_along_3_ok : EnvOK Tryz.prog E_along_3 := Env.ext_ok E_tplace_ok (inline_spec E_tplace_ok Tryz.func153 along_b along_n along_z) (by simp) (by simp)
end
end Go.Pev
end
section
namespace Go.Pev
open Go.Proofs
set_option maxRecDepth 100000
noncomputable section
-- archipelago/tour.goes
abbrev goes_h : Hints := { loop := fun n => match n with | 0 => loopBy 0 107 goes_i0 goes_o0 goes_s0 | _ => fun _ _ _ => none, fp := fun n => match n with | 8 => [[], [], [], [], [], [], [], [], [1000003], [], [], [], [], [], [], [], [], [0], [0], [0], [], [0], [0], [0], [2, 26], [], [2, 26], [2, 26], [], [], [], [], []] | 13 => [[], [0], [0], [0], [2], [], [], [], [0], [0], [0], [6], [], [0], [0], [0], [4], [], [], []] | 3 => [[], [], [], [], [], [], [], [], [11], [], [], [], [8, 10, 12], []] | _ => [] }
theorem goes_s0_ok : ∀ v, goes_s0 v = roundOf Tryz.prog E_along_3 goes_h 1 0 107 (loopOf Tryz.f127 0) goes_i0 goes_o0 v := by
 rintro ⟨a0, a1, a2, a3, a4, a5, a6, ⟨⟩⟩
 kernel_rfl
theorem goes_q0 : loopList (loopOf Tryz.f127 0) 1 = [] := by kernel_rfl
theorem goes_l0 : CodeOK Tryz.prog 0 (.loop (loopOf Tryz.f127 0)) (goes_h.loop 0) := loop_ok E_along_3_ok (goes_s0_ok) (LoopsOK_of goes_q0 trivial)
theorem goes_okd : ∀ v, goes_d v = pevCall Tryz.prog E_along_3 goes_h Tryz.f127 goes_i goes_o goes_r v := by
 rintro ⟨a0, a1, ⟨⟩⟩
 kernel_rfl
theorem goes_q : loopList (bodyOf Tryz.f127) 0 = [(0, loopOf Tryz.f127 0)] := by kernel_rfl
theorem goes_spec : SpecOK Tryz.prog 127 (mkCall 2 goes_i goes_o goes_r goes) := call_spec E_along_3_ok Tryz.func127 (by kernel_rfl) (by kernel_rfl) rfl (fun v => (goes_eq v).trans (goes_okd v)) (LoopsOK_of goes_q ⟨goes_l0, trivial⟩)
def E_goes : Env := E_along_3.ext 127 true true (mkCall 2 goes_i goes_o goes_r goes)
theorem E_goes_ok : EnvOK Tryz.prog E_goes := Env.ext_ok E_along_3_ok goes_spec (fun _ => mkCall_local rfl rfl) (fun _ => mkCall_in rfl rfl)
-- archipelago/tour.Right
abbrev tright_h : Hints := { loop := fun n => match n with | 0 => loopBy 0 87 tright_i0 tright_o0 tright_s0 | 1 => loopBy 0 87 tright_i1 tright_o1 tright_s1 | 2 => loopBy 0 87 tright_i2 tright_o2 tright_s2 | _ => fun _ _ _ => none, fp := fun n => match n with | 8 => [[], [], [], [], [], [], [], [], [], [], [], [], [], [], [], [], [], [], [], [], [], [], [], [], [0], [0], [], [], [], []] | _ => [] }
theorem tright_s2_ok : ∀ v, tright_s2 v = roundOf Tryz.prog E_goes tright_h 3 0 87 (loopOf Tryz.f92 2) tright_i2 tright_o2 v := by
 rintro ⟨a0, a1, a2, ⟨⟩⟩
 kernel_rfl
theorem tright_q2 : loopList (loopOf Tryz.f92 2) 3 = [] := by kernel_rfl
theorem tright_l2 : CodeOK Tryz.prog 0 (.loop (loopOf Tryz.f92 2)) (tright_h.loop 2) := loop_ok E_goes_ok (tright_s2_ok) (LoopsOK_of tright_q2 trivial)
theorem tright_s1_ok : ∀ v, tright_s1 v = roundOf Tryz.prog E_goes tright_h 2 0 87 (loopOf Tryz.f92 1) tright_i1 tright_o1 v := by
 rintro ⟨a0, a1, a2, a3, a4, a5, a6, a7, a8, a9, a10, a11, a12, a13, a14, a15, a16, a17, a18, a19, a20, a21, a22, a23, a24, a25, ⟨⟩⟩
 kernel_rfl
theorem tright_q1 : loopList (loopOf Tryz.f92 1) 2 = [] := by kernel_rfl
theorem tright_l1 : CodeOK Tryz.prog 0 (.loop (loopOf Tryz.f92 1)) (tright_h.loop 1) := loop_ok E_goes_ok (tright_s1_ok) (LoopsOK_of tright_q1 trivial)
theorem tright_s0_ok : ∀ v, tright_s0 v = roundOf Tryz.prog E_goes tright_h 1 0 87 (loopOf Tryz.f92 0) tright_i0 tright_o0 v := by
 rintro ⟨a0, a1, a2, a3, a4, a5, a6, ⟨⟩⟩
 kernel_rfl
theorem tright_q0 : loopList (loopOf Tryz.f92 0) 1 = [(1, loopOf Tryz.f92 1)] := by kernel_rfl
theorem tright_l0 : CodeOK Tryz.prog 0 (.loop (loopOf Tryz.f92 0)) (tright_h.loop 0) := loop_ok E_goes_ok (tright_s0_ok) (LoopsOK_of tright_q0 ⟨tright_l1, trivial⟩)
theorem tright_okd : ∀ v, tright_d v = pevCall Tryz.prog E_goes tright_h Tryz.f92 tright_i tright_o tright_r v := by
 rintro ⟨a0, ⟨⟩⟩
 kernel_rfl
theorem tright_q : loopList (bodyOf Tryz.f92) 0 = [(0, loopOf Tryz.f92 0), (2, loopOf Tryz.f92 2)] := by kernel_rfl
theorem tright_spec : SpecOK Tryz.prog 92 (mkCall 1 tright_i tright_o tright_r tright) := call_spec E_goes_ok Tryz.func92 (by kernel_rfl) (by kernel_rfl) rfl (fun v => (tright_eq v).trans (tright_okd v)) (LoopsOK_of tright_q ⟨tright_l0, tright_l2, trivial⟩)
def E_tright : Env := E_goes.ext 92 true true (mkCall 1 tright_i tright_o tright_r tright)
theorem E_tright_ok : EnvOK Tryz.prog E_tright := Env.ext_ok E_goes_ok tright_spec (fun _ => mkCall_local rfl rfl) (fun _ => mkCall_in rfl rfl)
-- archipelago/tour.asked
abbrev asked_h : Hints := {  }
theorem asked_okd : ∀ v, asked_d v = pevCall Tryz.prog E_tright asked_h Tryz.f144 asked_i asked_o asked_r v := by
 rintro ⟨a0, a1, a2, ⟨⟩⟩
 kernel_rfl
theorem asked_q : loopList (bodyOf Tryz.f144) 0 = [] := by kernel_rfl
theorem asked_spec : SpecOK Tryz.prog 144 (mkCall 3 asked_i asked_o asked_r asked) := call_spec E_tright_ok Tryz.func144 (by kernel_rfl) (by kernel_rfl) rfl (fun v => (asked_eq v).trans (asked_okd v)) (LoopsOK_of asked_q trivial)
def E_asked : Env := E_tright.ext 144 true true (mkCall 3 asked_i asked_o asked_r asked)
theorem E_asked_ok : EnvOK Tryz.prog E_asked := Env.ext_ok E_tright_ok asked_spec (fun _ => mkCall_local rfl rfl) (fun _ => mkCall_in rfl rfl)
-- cmp.isNaN[int]
abbrev nanI_h : Hints := {  }
theorem nanI_okd : ∀ v, nanI_d v = pevCall Tryz.prog E_asked nanI_h Tryz.f106 nanI_i nanI_o nanI_r v := by
 rintro ⟨a0, ⟨⟩⟩
 kernel_rfl
theorem nanI_q : loopList (bodyOf Tryz.f106) 0 = [] := by kernel_rfl
theorem nanI_spec : SpecOK Tryz.prog 106 (mkCall 1 nanI_i nanI_o nanI_r nanI) := call_spec E_asked_ok Tryz.func106 (by kernel_rfl) (by kernel_rfl) rfl (fun v => (nanI_eq v).trans (nanI_okd v)) (LoopsOK_of nanI_q trivial)
def E_nanI : Env := E_asked.ext 106 true true (mkCall 1 nanI_i nanI_o nanI_r nanI)
theorem E_nanI_ok : EnvOK Tryz.prog E_nanI := Env.ext_ok E_asked_ok nanI_spec (fun _ => mkCall_local rfl rfl) (fun _ => mkCall_in rfl rfl)
-- cmp.Compare[int]
abbrev compareI_h : Hints := {  }
theorem compareI_okd : ∀ v, compareI_d v = pevCall Tryz.prog E_nanI compareI_h Tryz.f75 compareI_i compareI_o compareI_r v := by
 rintro ⟨a0, a1, ⟨⟩⟩
 kernel_rfl
theorem compareI_q : loopList (bodyOf Tryz.f75) 0 = [] := by kernel_rfl
theorem compareI_spec : SpecOK Tryz.prog 75 (mkCall 2 compareI_i compareI_o compareI_r compareI) := call_spec E_nanI_ok Tryz.func75 (by kernel_rfl) (by kernel_rfl) rfl (fun v => (compareI_eq v).trans (compareI_okd v)) (LoopsOK_of compareI_q trivial)
def E_compareI : Env := E_nanI.ext 75 true true (mkCall 2 compareI_i compareI_o compareI_r compareI)
theorem E_compareI_ok : EnvOK Tryz.prog E_compareI := Env.ext_ok E_nanI_ok compareI_spec (fun _ => mkCall_local rfl rfl) (fun _ => mkCall_in rfl rfl)
-- archipelago/tour.with$1
abbrev with1_h : Hints := { fp := fun n => match n with | 1 => [[], [], [], [], [], [], [], []] | _ => [] }
theorem with1_okd : ∀ v, with1_d v = pevCall Tryz.prog E_compareI with1_h Tryz.f166 with1_i with1_o with1_r v := by
 rintro ⟨a0, a1, ⟨⟩⟩
 kernel_rfl
theorem with1_q : loopList (bodyOf Tryz.f166) 0 = [] := by kernel_rfl
theorem with1_spec : SpecOK Tryz.prog 166 (mkCall 2 with1_i with1_o with1_r with1) := call_spec E_compareI_ok Tryz.func166 (by kernel_rfl) (by kernel_rfl) rfl (fun v => (with1_eq v).trans (with1_okd v)) (LoopsOK_of with1_q trivial)
def E_with1 : Env := E_compareI.ext 166 true true (mkCall 2 with1_i with1_o with1_r with1)
theorem E_with1_ok : EnvOK Tryz.prog E_with1 := Env.ext_ok E_compareI_ok with1_spec (fun _ => mkCall_local rfl rfl) (fun _ => mkCall_in rfl rfl)
-- math/bits.Len64
abbrev len64_h : Hints := {  }
theorem len64_okd : ∀ v, len64_d v = pevCall Tryz.prog E_with1 len64_h Tryz.f105 len64_i len64_o len64_r v := by
 rintro ⟨a0, ⟨⟩⟩
 kernel_rfl
theorem len64_q : loopList (bodyOf Tryz.f105) 0 = [] := by kernel_rfl
theorem len64_spec : SpecOK Tryz.prog 105 (mkCall 1 len64_i len64_o len64_r len64) := call_spec E_with1_ok Tryz.func105 (by kernel_rfl) (by kernel_rfl) rfl (fun v => (len64_eq v).trans (len64_okd v)) (LoopsOK_of len64_q trivial)
def E_len64 : Env := E_with1.ext 105 true true (mkCall 1 len64_i len64_o len64_r len64)
theorem E_len64_ok : EnvOK Tryz.prog E_len64 := Env.ext_ok E_with1_ok len64_spec (fun _ => mkCall_local rfl rfl) (fun _ => mkCall_in rfl rfl)
-- math/bits.Len
abbrev bitsLen_h : Hints := {  }
theorem bitsLen_okd : ∀ v, bitsLen_d v = pevCall Tryz.prog E_len64 bitsLen_h Tryz.f73 bitsLen_i bitsLen_o bitsLen_r v := by
 rintro ⟨a0, ⟨⟩⟩
 kernel_rfl
theorem bitsLen_q : loopList (bodyOf Tryz.f73) 0 = [] := by kernel_rfl
theorem bitsLen_spec : SpecOK Tryz.prog 73 (mkCall 1 bitsLen_i bitsLen_o bitsLen_r bitsLen) := call_spec E_len64_ok Tryz.func73 (by kernel_rfl) (by kernel_rfl) rfl (fun v => (bitsLen_eq v).trans (bitsLen_okd v)) (LoopsOK_of bitsLen_q trivial)
def E_bitsLen : Env := E_len64.ext 73 true true (mkCall 1 bitsLen_i bitsLen_o bitsLen_r bitsLen)
theorem E_bitsLen_ok : EnvOK Tryz.prog E_bitsLen := Env.ext_ok E_len64_ok bitsLen_spec (fun _ => mkCall_local rfl rfl) (fun _ => mkCall_in rfl rfl)
-- (*slices.xorshift).Next
abbrev xorNext_h : Hints := { fp := fun n => match n with | 3 => [[], [0], [0], [], [0], [0], [], [], [0], [1]] | 2 => [[], [0], [0], [], [0], [0], [], [], [0], [1]] | 1 => [[], [0], [0], [], [0], [0], [], [], [0], [1]] | _ => [] }
theorem xorNext_okd : ∀ v, xorNext_d v = pevCall Tryz.prog E_bitsLen xorNext_h Tryz.f132 xorNext_i xorNext_o xorNext_r v := by
 rintro ⟨a0, ⟨⟩⟩
 kernel_rfl
theorem xorNext_q : loopList (bodyOf Tryz.f132) 0 = [] := by kernel_rfl
theorem xorNext_spec : SpecOK Tryz.prog 132 (mkCall 1 xorNext_i xorNext_o xorNext_r xorNext) := call_spec E_bitsLen_ok Tryz.func132 (by kernel_rfl) (by kernel_rfl) rfl (fun v => (xorNext_eq v).trans (xorNext_okd v)) (LoopsOK_of xorNext_q trivial)
def E_xorNext : Env := E_bitsLen.ext 132 false true (mkCall 1 xorNext_i xorNext_o xorNext_r xorNext)
theorem E_xorNext_ok : EnvOK Tryz.prog E_xorNext := Env.ext_ok E_bitsLen_ok xorNext_spec ((by simp)) (fun _ => mkCall_in rfl rfl)
-- slices.nextPowerOfTwo
abbrev nextPow_h : Hints := {  }
theorem nextPow_okd : ∀ v, nextPow_d v = pevCall Tryz.prog E_xorNext nextPow_h Tryz.f131 nextPow_i nextPow_o nextPow_r v := by
 rintro ⟨a0, ⟨⟩⟩
 kernel_rfl
theorem nextPow_q : loopList (bodyOf Tryz.f131) 0 = [] := by kernel_rfl
theorem nextPow_spec : SpecOK Tryz.prog 131 (mkCall 1 nextPow_i nextPow_o nextPow_r nextPow) := call_spec E_xorNext_ok Tryz.func131 (by kernel_rfl) (by kernel_rfl) rfl (fun v => (nextPow_eq v).trans (nextPow_okd v)) (LoopsOK_of nextPow_q trivial)
def E_nextPow : Env := E_xorNext.ext 131 true true (mkCall 1 nextPow_i nextPow_o nextPow_r nextPow)
theorem E_nextPow_ok : EnvOK Tryz.prog E_nextPow := Env.ext_ok E_xorNext_ok nextPow_spec (fun _ => mkCall_local rfl rfl) (fun _ => mkCall_in rfl rfl)
-- slices.insertionSortCmpFunc[[]int]
abbrev insL_h : Hints := { loop := fun n => match n with | 0 => loopBy 1 53 insL_i0 insL_o0 insL_s0 | 1 => loopBy 1 53 insL_i1 insL_o1 insL_s1 | _ => fun _ _ _ => none, fp := fun n => match n with | 4 => [[], [], [], [], [], [], [], [0], [0], [], [], [], [0], [0], [], [], []] | 6 => [[], [], [], [], [], [], [], [], [0], [0], [], [], [0], [0], [0], [1], [0], [1]] | _ => [] }
theorem insL_s1_ok : ∀ v, insL_s1 v = roundOf Tryz.prog E_nextPow insL_h 2 1 53 (loopOf Tryz.f169 1) insL_i1 insL_o1 v := by
 rintro ⟨a0, a1, a2, a3, a4, ⟨⟩⟩
 kernel_rfl
theorem insL_q1 : loopList (loopOf Tryz.f169 1) 2 = [] := by kernel_rfl
theorem insL_l1 : CodeOK Tryz.prog 1 (.loop (loopOf Tryz.f169 1)) (insL_h.loop 1) := loop_ok E_nextPow_ok (insL_s1_ok) (LoopsOK_of insL_q1 trivial)
theorem insL_s0_ok : ∀ v, insL_s0 v = roundOf Tryz.prog E_nextPow insL_h 1 1 53 (loopOf Tryz.f169 0) insL_i0 insL_o0 v := by
 rintro ⟨a0, a1, a2, a3, ⟨⟩⟩
 kernel_rfl
theorem insL_q0 : loopList (loopOf Tryz.f169 0) 1 = [(1, loopOf Tryz.f169 1)] := by kernel_rfl
theorem insL_l0 : CodeOK Tryz.prog 1 (.loop (loopOf Tryz.f169 0)) (insL_h.loop 0) := loop_ok E_nextPow_ok (insL_s0_ok) (LoopsOK_of insL_q0 ⟨insL_l1, trivial⟩)
theorem insL_okd : ∀ v, insL_d v = pevCall Tryz.prog E_nextPow insL_h Tryz.f169 insL_i insL_o insL_r v := by
 rintro ⟨a0, a1, a2, ⟨⟩⟩
 kernel_rfl
theorem insL_q : loopList (bodyOf Tryz.f169) 0 = [(0, loopOf Tryz.f169 0)] := by kernel_rfl
theorem insL_spec : SpecOK Tryz.prog 169 (mkCall 4 insL_i insL_o insL_r insL) := call_spec E_nextPow_ok Tryz.func169 (by kernel_rfl) (by kernel_rfl) rfl (fun v => (insL_eq v).trans (insL_okd v)) (LoopsOK_of insL_q ⟨insL_l0, trivial⟩)
def E_insL : Env := E_nextPow.extC 169 3 166 (mkCall 4 insL_i insL_o insL_r insL)
theorem E_insL_ok : EnvOK Tryz.prog E_insL := Env.extC_ok E_nextPow_ok insL_spec (mkCall_in rfl rfl)
-- slices.siftDownCmpFunc[[]int]
abbrev siftL_h : Hints := { loop := fun n => match n with | 0 => loopBy 1 82 siftL_i0 siftL_o0 siftL_s0 | _ => fun _ _ _ => none, fp := fun n => match n with | 6 => [[], [], [], [], [], [], [], [], [], [], [], [], [0], [0], [], [], [], [], [0], [0], [0], [1], [0], [1]] | 5 => [[], [], [], [], [], [0], [0], [], [], [], [], [0], [0], [], [], []] | 3 => [[], [], [], [], [], [], [], [], [], [], [0], [0], [], [], [], [], [], [0], [0], [], [], []] | _ => [] }
theorem siftL_s0_ok : ∀ v, siftL_s0 v = roundOf Tryz.prog E_insL siftL_h 1 1 82 (loopOf Tryz.f177 0) siftL_i0 siftL_o0 v := by
 rintro ⟨a0, a1, a2, a3, ⟨⟩⟩
 kernel_rfl
theorem siftL_q0 : loopList (loopOf Tryz.f177 0) 1 = [] := by kernel_rfl
theorem siftL_l0 : CodeOK Tryz.prog 1 (.loop (loopOf Tryz.f177 0)) (siftL_h.loop 0) := loop_ok E_insL_ok (siftL_s0_ok) (LoopsOK_of siftL_q0 trivial)
theorem siftL_okd : ∀ v, siftL_d v = pevCall Tryz.prog E_insL siftL_h Tryz.f177 siftL_i siftL_o siftL_r v := by
 rintro ⟨a0, a1, a2, a3, ⟨⟩⟩
 kernel_rfl
theorem siftL_q : loopList (bodyOf Tryz.f177) 0 = [(0, loopOf Tryz.f177 0)] := by kernel_rfl
theorem siftL_spec : SpecOK Tryz.prog 177 (mkCall 5 siftL_i siftL_o siftL_r siftL) := call_spec E_insL_ok Tryz.func177 (by kernel_rfl) (by kernel_rfl) rfl (fun v => (siftL_eq v).trans (siftL_okd v)) (LoopsOK_of siftL_q ⟨siftL_l0, trivial⟩)
def E_siftL : Env := E_insL.extC 177 4 166 (mkCall 5 siftL_i siftL_o siftL_r siftL)
theorem E_siftL_ok : EnvOK Tryz.prog E_siftL := Env.extC_ok E_insL_ok siftL_spec (mkCall_in rfl rfl)
end
end Go.Pev
end
section
namespace Go.Pev
open Go.Proofs
set_option maxRecDepth 100000
noncomputable section
-- slices.heapSortCmpFunc[[]int]
abbrev heapL_h : Hints := { loop := fun n => match n with | 0 => loopBy 1 60 heapL_i0 heapL_o0 heapL_s0 | 1 => loopBy 1 60 heapL_i1 heapL_o1 heapL_s1 | _ => fun _ _ _ => none, fp := fun n => match n with | 10 => [[], [], [], [], [], [], [], [], [], [], [0], [0], [], [], [0], [0], [0], [1], [0], [1]] | _ => [] }
theorem heapL_s1_ok : ∀ v, heapL_s1 v = roundOf Tryz.prog E_siftL heapL_h 2 1 60 (loopOf Tryz.f170 1) heapL_i1 heapL_o1 v := by
 rintro ⟨a0, a1, a2, a3, ⟨⟩⟩
 kernel_rfl
theorem heapL_q1 : loopList (loopOf Tryz.f170 1) 2 = [] := by kernel_rfl
theorem heapL_l1 : CodeOK Tryz.prog 1 (.loop (loopOf Tryz.f170 1)) (heapL_h.loop 1) := loop_ok E_siftL_ok (heapL_s1_ok) (LoopsOK_of heapL_q1 trivial)
theorem heapL_s0_ok : ∀ v, heapL_s0 v = roundOf Tryz.prog E_siftL heapL_h 1 1 60 (loopOf Tryz.f170 0) heapL_i0 heapL_o0 v := by
 rintro ⟨a0, a1, a2, a3, a4, ⟨⟩⟩
 kernel_rfl
theorem heapL_q0 : loopList (loopOf Tryz.f170 0) 1 = [] := by kernel_rfl
theorem heapL_l0 : CodeOK Tryz.prog 1 (.loop (loopOf Tryz.f170 0)) (heapL_h.loop 0) := loop_ok E_siftL_ok (heapL_s0_ok) (LoopsOK_of heapL_q0 trivial)
theorem heapL_okd : ∀ v, heapL_d v = pevCall Tryz.prog E_siftL heapL_h Tryz.f170 heapL_i heapL_o heapL_r v := by
 rintro ⟨a0, a1, a2, ⟨⟩⟩
 kernel_rfl
theorem heapL_q : loopList (bodyOf Tryz.f170) 0 = [(0, loopOf Tryz.f170 0), (1, loopOf Tryz.f170 1)] := by kernel_rfl
theorem heapL_spec : SpecOK Tryz.prog 170 (mkCall 4 heapL_i heapL_o heapL_r heapL) := call_spec E_siftL_ok Tryz.func170 (by kernel_rfl) (by kernel_rfl) rfl (fun v => (heapL_eq v).trans (heapL_okd v)) (LoopsOK_of heapL_q ⟨heapL_l0, heapL_l1, trivial⟩)
def E_heapL : Env := E_siftL.extC 170 3 166 (mkCall 4 heapL_i heapL_o heapL_r heapL)
theorem E_heapL_ok : EnvOK Tryz.prog E_heapL := Env.extC_ok E_siftL_ok heapL_spec (mkCall_in rfl rfl)
-- slices.breakPatternsCmpFunc[[]int]
abbrev breakL_h : Hints := { loop := fun n => match n with | 0 => loopBy 1 67 breakL_i0 breakL_o0 breakL_s0 | _ => fun _ _ _ => none, fp := fun n => match n with | 10 => [[], [], [], [], [], [], [], [], [], [], [0], [0], [], [], [0], [0], [0], [1], [0], [1]] | _ => [] }
theorem breakL_s0_ok : ∀ v, breakL_s0 v = roundOf Tryz.prog E_heapL breakL_h 1 1 67 (loopOf Tryz.f171 0) breakL_i0 breakL_o0 v := by
 rintro ⟨a0, a1, a2, a3, a4, a5, ⟨⟩⟩
 kernel_rfl
theorem breakL_q0 : loopList (loopOf Tryz.f171 0) 1 = [] := by kernel_rfl
theorem breakL_l0 : CodeOK Tryz.prog 1 (.loop (loopOf Tryz.f171 0)) (breakL_h.loop 0) := loop_ok E_heapL_ok (breakL_s0_ok) (LoopsOK_of breakL_q0 trivial)
theorem breakL_okd : ∀ v, breakL_d v = pevCall Tryz.prog E_heapL breakL_h Tryz.f171 breakL_i breakL_o breakL_r v := by
 rintro ⟨a0, a1, a2, ⟨⟩⟩
 kernel_rfl
theorem breakL_q : loopList (bodyOf Tryz.f171) 0 = [(0, loopOf Tryz.f171 0)] := by kernel_rfl
theorem breakL_spec : SpecOK Tryz.prog 171 (mkCall 4 breakL_i breakL_o breakL_r breakL) := call_spec E_heapL_ok Tryz.func171 (by kernel_rfl) (by kernel_rfl) rfl (fun v => (breakL_eq v).trans (breakL_okd v)) (LoopsOK_of breakL_q ⟨breakL_l0, trivial⟩)
def E_breakL : Env := E_heapL.extC 171 3 166 (mkCall 4 breakL_i breakL_o breakL_r breakL)
theorem E_breakL_ok : EnvOK Tryz.prog E_breakL := Env.extC_ok E_heapL_ok breakL_spec (mkCall_in rfl rfl)
-- slices.order2CmpFunc[[]int]
abbrev order2L_h : Hints := { fp := fun n => match n with | 1 => [[], [], [], [0], [0], [], [], [0], [0], [], []] | _ => [] }
theorem order2L_okd : ∀ v, order2L_d v = pevCall Tryz.prog E_breakL order2L_h Tryz.f180 order2L_i order2L_o order2L_r v := by
 rintro ⟨a0, a1, a2, a3, ⟨⟩⟩
 kernel_rfl
theorem order2L_q : loopList (bodyOf Tryz.f180) 0 = [] := by kernel_rfl
theorem order2L_spec : SpecOK Tryz.prog 180 (mkCall 5 order2L_i order2L_o order2L_r order2L) := call_spec E_breakL_ok Tryz.func180 (by kernel_rfl) (by kernel_rfl) rfl (fun v => (order2L_eq v).trans (order2L_okd v)) (LoopsOK_of order2L_q trivial)
def E_order2L : Env := E_breakL.extC 180 4 166 (mkCall 5 order2L_i order2L_o order2L_r order2L)
theorem E_order2L_ok : EnvOK Tryz.prog E_order2L := Env.extC_ok E_breakL_ok order2L_spec (mkCall_in rfl rfl)
-- slices.medianCmpFunc[[]int]
abbrev medianL_h : Hints := {  }
theorem medianL_okd : ∀ v, medianL_d v = pevCall Tryz.prog E_order2L medianL_h Tryz.f179 medianL_i medianL_o medianL_r v := by
 rintro ⟨a0, a1, a2, a3, a4, ⟨⟩⟩
 kernel_rfl
theorem medianL_q : loopList (bodyOf Tryz.f179) 0 = [] := by kernel_rfl
theorem medianL_spec : SpecOK Tryz.prog 179 (mkCall 6 medianL_i medianL_o medianL_r medianL) := call_spec E_order2L_ok Tryz.func179 (by kernel_rfl) (by kernel_rfl) rfl (fun v => (medianL_eq v).trans (medianL_okd v)) (LoopsOK_of medianL_q trivial)
def E_medianL : Env := E_order2L.extC 179 5 166 (mkCall 6 medianL_i medianL_o medianL_r medianL)
theorem E_medianL_ok : EnvOK Tryz.prog E_medianL := Env.extC_ok E_order2L_ok medianL_spec (mkCall_in rfl rfl)
-- slices.medianAdjacentCmpFunc[[]int]
abbrev medAdjL_h : Hints := {  }
theorem medAdjL_okd : ∀ v, medAdjL_d v = pevCall Tryz.prog E_medianL medAdjL_h Tryz.f178 medAdjL_i medAdjL_o medAdjL_r v := by
 rintro ⟨a0, a1, a2, ⟨⟩⟩
 kernel_rfl
theorem medAdjL_q : loopList (bodyOf Tryz.f178) 0 = [] := by kernel_rfl
theorem medAdjL_spec : SpecOK Tryz.prog 178 (mkCall 4 medAdjL_i medAdjL_o medAdjL_r medAdjL) := call_spec E_medianL_ok Tryz.func178 (by kernel_rfl) (by kernel_rfl) rfl (fun v => (medAdjL_eq v).trans (medAdjL_okd v)) (LoopsOK_of medAdjL_q trivial)
def E_medAdjL : Env := E_medianL.extC 178 3 166 (mkCall 4 medAdjL_i medAdjL_o medAdjL_r medAdjL)
theorem E_medAdjL_ok : EnvOK Tryz.prog E_medAdjL := Env.extC_ok E_medianL_ok medAdjL_spec (mkCall_in rfl rfl)
-- slices.choosePivotCmpFunc[[]int]
abbrev pivotL_h : Hints := {  }
theorem pivotL_okd : ∀ v, pivotL_d v = pevCall Tryz.prog E_medAdjL pivotL_h Tryz.f172 pivotL_i pivotL_o pivotL_r v := by
 rintro ⟨a0, a1, a2, ⟨⟩⟩
 kernel_rfl
theorem pivotL_q : loopList (bodyOf Tryz.f172) 0 = [] := by kernel_rfl
theorem pivotL_spec : SpecOK Tryz.prog 172 (mkCall 4 pivotL_i pivotL_o pivotL_r pivotL) := call_spec E_medAdjL_ok Tryz.func172 (by kernel_rfl) (by kernel_rfl) rfl (fun v => (pivotL_eq v).trans (pivotL_okd v)) (LoopsOK_of pivotL_q trivial)
def E_pivotL : Env := E_medAdjL.extC 172 3 166 (mkCall 4 pivotL_i pivotL_o pivotL_r pivotL)
theorem E_pivotL_ok : EnvOK Tryz.prog E_pivotL := Env.extC_ok E_medAdjL_ok pivotL_spec (mkCall_in rfl rfl)
-- slices.reverseRangeCmpFunc[[]int]
abbrev revL_h : Hints := { loop := fun n => match n with | 0 => loopBy 1 34 revL_i0 revL_o0 revL_s0 | _ => fun _ _ _ => none, fp := fun n => match n with | 3 => [[], [], [], [], [], [], [0], [0], [], [], [0], [0], [0], [1], [0], [1]] | _ => [] }
theorem revL_s0_ok : ∀ v, revL_s0 v = roundOf Tryz.prog E_pivotL revL_h 1 1 34 (loopOf Tryz.f173 0) revL_i0 revL_o0 v := by
 rintro ⟨a0, a1, a2, ⟨⟩⟩
 kernel_rfl
theorem revL_q0 : loopList (loopOf Tryz.f173 0) 1 = [] := by kernel_rfl
theorem revL_l0 : CodeOK Tryz.prog 1 (.loop (loopOf Tryz.f173 0)) (revL_h.loop 0) := loop_ok E_pivotL_ok (revL_s0_ok) (LoopsOK_of revL_q0 trivial)
theorem revL_okd : ∀ v, revL_d v = pevCall Tryz.prog E_pivotL revL_h Tryz.f173 revL_i revL_o revL_r v := by
 rintro ⟨a0, a1, a2, ⟨⟩⟩
 kernel_rfl
theorem revL_q : loopList (bodyOf Tryz.f173) 0 = [(0, loopOf Tryz.f173 0)] := by kernel_rfl
theorem revL_spec : SpecOK Tryz.prog 173 (mkCall 4 revL_i revL_o revL_r revL) := call_spec E_pivotL_ok Tryz.func173 (by kernel_rfl) (by kernel_rfl) rfl (fun v => (revL_eq v).trans (revL_okd v)) (LoopsOK_of revL_q ⟨revL_l0, trivial⟩)
def E_revL : Env := E_pivotL.extC 173 3 166 (mkCall 4 revL_i revL_o revL_r revL)
theorem E_revL_ok : EnvOK Tryz.prog E_revL := Env.extC_ok E_pivotL_ok revL_spec (mkCall_in rfl rfl)
-- slices.partialInsertionSortCmpFunc[[]int]
abbrev partInsL_h : Hints := { loop := fun n => match n with | 0 => loopBy 1 141 partInsL_i0 partInsL_o0 partInsL_s0 | 1 => loopBy 1 141 partInsL_i1 partInsL_o1 partInsL_s1 | 2 => loopBy 1 141 partInsL_i2 partInsL_o2 partInsL_s2 | 3 => loopBy 1 141 partInsL_i3 partInsL_o3 partInsL_s3 | _ => fun _ _ _ => none, fp := fun n => match n with | 11 => [[], [], [], [], [], [], [], [], [0], [0], [], [], [0], [0], [0], [1], [0], [1]] | 5 => [[], [], [], [], [], [], [], [0], [0], [], [], [], [0], [0], [], [], [], []] | 17 => [[], [], [], [], [], [], [], [], [0], [0], [], [], [0], [0], [0], [1], [0], [1]] | 16 => [[], [], [], [0], [0], [], [], [], [0], [0], [], [], []] | 23 => [[], [], [], [], [], [], [], [], [0], [0], [], [], [0], [0], [0], [1], [0], [1]] | 22 => [[], [], [], [0], [0], [], [], [], [0], [0], [], [], []] | _ => [] }
theorem partInsL_s3_ok : ∀ v, partInsL_s3 v = roundOf Tryz.prog E_revL partInsL_h 4 1 141 (loopOf Tryz.f174 3) partInsL_i3 partInsL_o3 v := by
 rintro ⟨a0, a1, a2, a3, a4, a5, ⟨⟩⟩
 kernel_rfl
theorem partInsL_q3 : loopList (loopOf Tryz.f174 3) 4 = [] := by kernel_rfl
theorem partInsL_l3 : CodeOK Tryz.prog 1 (.loop (loopOf Tryz.f174 3)) (partInsL_h.loop 3) := loop_ok E_revL_ok (partInsL_s3_ok) (LoopsOK_of partInsL_q3 trivial)
theorem partInsL_s2_ok : ∀ v, partInsL_s2 v = roundOf Tryz.prog E_revL partInsL_h 3 1 141 (loopOf Tryz.f174 2) partInsL_i2 partInsL_o2 v := by
 rintro ⟨a0, a1, a2, a3, a4, a5, ⟨⟩⟩
 kernel_rfl
theorem partInsL_q2 : loopList (loopOf Tryz.f174 2) 3 = [] := by kernel_rfl
theorem partInsL_l2 : CodeOK Tryz.prog 1 (.loop (loopOf Tryz.f174 2)) (partInsL_h.loop 2) := loop_ok E_revL_ok (partInsL_s2_ok) (LoopsOK_of partInsL_q2 trivial)
theorem partInsL_s1_ok : ∀ v, partInsL_s1 v = roundOf Tryz.prog E_revL partInsL_h 2 1 141 (loopOf Tryz.f174 1) partInsL_i1 partInsL_o1 v := by
 rintro ⟨a0, a1, a2, a3, a4, ⟨⟩⟩
 kernel_rfl
theorem partInsL_q1 : loopList (loopOf Tryz.f174 1) 2 = [] := by kernel_rfl
theorem partInsL_l1 : CodeOK Tryz.prog 1 (.loop (loopOf Tryz.f174 1)) (partInsL_h.loop 1) := loop_ok E_revL_ok (partInsL_s1_ok) (LoopsOK_of partInsL_q1 trivial)
theorem partInsL_s0_ok : ∀ v, partInsL_s0 v = roundOf Tryz.prog E_revL partInsL_h 1 1 141 (loopOf Tryz.f174 0) partInsL_i0 partInsL_o0 v := by
 rintro ⟨a0, a1, a2, a3, a4, ⟨⟩⟩
 kernel_rfl
theorem partInsL_q0 : loopList (loopOf Tryz.f174 0) 1 = [(1, loopOf Tryz.f174 1), (2, loopOf Tryz.f174 2), (3, loopOf Tryz.f174 3)] := by kernel_rfl
theorem partInsL_l0 : CodeOK Tryz.prog 1 (.loop (loopOf Tryz.f174 0)) (partInsL_h.loop 0) := loop_ok E_revL_ok (partInsL_s0_ok) (LoopsOK_of partInsL_q0 ⟨partInsL_l1, partInsL_l2, partInsL_l3, trivial⟩)
theorem partInsL_okd : ∀ v, partInsL_d v = pevCall Tryz.prog E_revL partInsL_h Tryz.f174 partInsL_i partInsL_o partInsL_r v := by
 rintro ⟨a0, a1, a2, ⟨⟩⟩
 kernel_rfl
theorem partInsL_q : loopList (bodyOf Tryz.f174) 0 = [(0, loopOf Tryz.f174 0)] := by kernel_rfl
theorem partInsL_spec : SpecOK Tryz.prog 174 (mkCall 4 partInsL_i partInsL_o partInsL_r partInsL) := call_spec E_revL_ok Tryz.func174 (by kernel_rfl) (by kernel_rfl) rfl (fun v => (partInsL_eq v).trans (partInsL_okd v)) (LoopsOK_of partInsL_q ⟨partInsL_l0, trivial⟩)
def E_partInsL : Env := E_revL.extC 174 3 166 (mkCall 4 partInsL_i partInsL_o partInsL_r partInsL)
theorem E_partInsL_ok : EnvOK Tryz.prog E_partInsL := Env.extC_ok E_revL_ok partInsL_spec (mkCall_in rfl rfl)
-- slices.partitionEqualCmpFunc[[]int]
abbrev partEqL_h : Hints := { loop := fun n => match n with | 0 => loopBy 1 90 partEqL_i0 partEqL_o0 partEqL_s0 | 1 => loopBy 1 90 partEqL_i1 partEqL_o1 partEqL_s1 | 2 => loopBy 1 90 partEqL_i2 partEqL_o2 partEqL_s2 | _ => fun _ _ _ => none, fp := fun n => match n with | 8 => [[], [], [], [], [], [], [0], [0], [], [], [0], [0], [0], [1], [0], [1]] | 3 => [[], [], [], [], [], [], [], [0], [0], [], [], [0], [0], [], [], [], []] | 5 => [[], [], [], [], [], [], [], [0], [0], [], [], [0], [0], [], [], []] | 1 => [[], [], [], [], [], [], [0], [0], [], [], [0], [0], [0], [1], [0], [1]] | _ => [] }
theorem partEqL_s2_ok : ∀ v, partEqL_s2 v = roundOf Tryz.prog E_partInsL partEqL_h 3 1 90 (loopOf Tryz.f175 2) partEqL_i2 partEqL_o2 v := by
 rintro ⟨a0, a1, a2, a3, ⟨⟩⟩
 kernel_rfl
theorem partEqL_q2 : loopList (loopOf Tryz.f175 2) 3 = [] := by kernel_rfl
theorem partEqL_l2 : CodeOK Tryz.prog 1 (.loop (loopOf Tryz.f175 2)) (partEqL_h.loop 2) := loop_ok E_partInsL_ok (partEqL_s2_ok) (LoopsOK_of partEqL_q2 trivial)
theorem partEqL_s1_ok : ∀ v, partEqL_s1 v = roundOf Tryz.prog E_partInsL partEqL_h 2 1 90 (loopOf Tryz.f175 1) partEqL_i1 partEqL_o1 v := by
 rintro ⟨a0, a1, a2, a3, ⟨⟩⟩
 kernel_rfl
theorem partEqL_q1 : loopList (loopOf Tryz.f175 1) 2 = [] := by kernel_rfl
theorem partEqL_l1 : CodeOK Tryz.prog 1 (.loop (loopOf Tryz.f175 1)) (partEqL_h.loop 1) := loop_ok E_partInsL_ok (partEqL_s1_ok) (LoopsOK_of partEqL_q1 trivial)
theorem partEqL_s0_ok : ∀ v, partEqL_s0 v = roundOf Tryz.prog E_partInsL partEqL_h 1 1 90 (loopOf Tryz.f175 0) partEqL_i0 partEqL_o0 v := by
 rintro ⟨a0, a1, a2, a3, ⟨⟩⟩
 kernel_rfl
theorem partEqL_q0 : loopList (loopOf Tryz.f175 0) 1 = [(1, loopOf Tryz.f175 1), (2, loopOf Tryz.f175 2)] := by kernel_rfl
theorem partEqL_l0 : CodeOK Tryz.prog 1 (.loop (loopOf Tryz.f175 0)) (partEqL_h.loop 0) := loop_ok E_partInsL_ok (partEqL_s0_ok) (LoopsOK_of partEqL_q0 ⟨partEqL_l1, partEqL_l2, trivial⟩)
theorem partEqL_okd : ∀ v, partEqL_d v = pevCall Tryz.prog E_partInsL partEqL_h Tryz.f175 partEqL_i partEqL_o partEqL_r v := by
 rintro ⟨a0, a1, a2, a3, ⟨⟩⟩
 kernel_rfl
theorem partEqL_q : loopList (bodyOf Tryz.f175) 0 = [(0, loopOf Tryz.f175 0)] := by kernel_rfl
theorem partEqL_spec : SpecOK Tryz.prog 175 (mkCall 5 partEqL_i partEqL_o partEqL_r partEqL) := call_spec E_partInsL_ok Tryz.func175 (by kernel_rfl) (by kernel_rfl) rfl (fun v => (partEqL_eq v).trans (partEqL_okd v)) (LoopsOK_of partEqL_q ⟨partEqL_l0, trivial⟩)
def E_partEqL : Env := E_partInsL.extC 175 4 166 (mkCall 5 partEqL_i partEqL_o partEqL_r partEqL)
theorem E_partEqL_ok : EnvOK Tryz.prog E_partEqL := Env.extC_ok E_partInsL_ok partEqL_spec (mkCall_in rfl rfl)
-- slices.partitionCmpFunc[[]int]
abbrev partL_h : Hints := { loop := fun n => match n with | 0 => loopBy 1 178 partL_i0 partL_o0 partL_s0 | 1 => loopBy 1 178 partL_i1 partL_o1 partL_s1 | 2 => loopBy 1 178 partL_i2 partL_o2 partL_s2 | 3 => loopBy 1 178 partL_i3 partL_o3 partL_s3 | 4 => loopBy 1 178 partL_i4 partL_o4 partL_s4 | _ => fun _ _ _ => none, fp := fun n => match n with | 3 => [[], [], [], [], [], [], [], [0], [0], [], [], [0], [0], [], [], []] | 5 => [[], [], [], [], [], [], [], [0], [0], [], [], [0], [0], [], [], [], []] | 18 => [[], [], [], [], [], [], [0], [0], [], [], [0], [0], [0], [1], [0], [1]] | 13 => [[], [], [], [], [], [], [], [0], [0], [], [], [0], [0], [], [], []] | 15 => [[], [], [], [], [], [], [], [0], [0], [], [], [0], [0], [], [], [], []] | 21 => [[], [], [], [], [], [], [0], [0], [], [], [0], [0], [0], [1], [0], [1]] | 10 => [[], [], [], [], [], [], [0], [0], [], [], [0], [0], [0], [1], [0], [1]] | 8 => [[], [], [], [], [], [], [0], [0], [], [], [0], [0], [0], [1], [0], [1]] | 1 => [[], [], [], [], [], [], [0], [0], [], [], [0], [0], [0], [1], [0], [1]] | _ => [] }
theorem partL_s4_ok : ∀ v, partL_s4 v = roundOf Tryz.prog E_partEqL partL_h 5 1 178 (loopOf Tryz.f176 4) partL_i4 partL_o4 v := by
 rintro ⟨a0, a1, a2, a3, ⟨⟩⟩
 kernel_rfl
theorem partL_q4 : loopList (loopOf Tryz.f176 4) 5 = [] := by kernel_rfl
theorem partL_l4 : CodeOK Tryz.prog 1 (.loop (loopOf Tryz.f176 4)) (partL_h.loop 4) := loop_ok E_partEqL_ok (partL_s4_ok) (LoopsOK_of partL_q4 trivial)
theorem partL_s3_ok : ∀ v, partL_s3 v = roundOf Tryz.prog E_partEqL partL_h 4 1 178 (loopOf Tryz.f176 3) partL_i3 partL_o3 v := by
 rintro ⟨a0, a1, a2, a3, ⟨⟩⟩
 kernel_rfl
theorem partL_q3 : loopList (loopOf Tryz.f176 3) 4 = [] := by kernel_rfl
theorem partL_l3 : CodeOK Tryz.prog 1 (.loop (loopOf Tryz.f176 3)) (partL_h.loop 3) := loop_ok E_partEqL_ok (partL_s3_ok) (LoopsOK_of partL_q3 trivial)
theorem partL_s2_ok : ∀ v, partL_s2 v = roundOf Tryz.prog E_partEqL partL_h 3 1 178 (loopOf Tryz.f176 2) partL_i2 partL_o2 v := by
 rintro ⟨a0, a1, a2, a3, ⟨⟩⟩
 kernel_rfl
theorem partL_q2 : loopList (loopOf Tryz.f176 2) 3 = [(3, loopOf Tryz.f176 3), (4, loopOf Tryz.f176 4)] := by kernel_rfl
theorem partL_l2 : CodeOK Tryz.prog 1 (.loop (loopOf Tryz.f176 2)) (partL_h.loop 2) := loop_ok E_partEqL_ok (partL_s2_ok) (LoopsOK_of partL_q2 ⟨partL_l3, partL_l4, trivial⟩)
theorem partL_s1_ok : ∀ v, partL_s1 v = roundOf Tryz.prog E_partEqL partL_h 2 1 178 (loopOf Tryz.f176 1) partL_i1 partL_o1 v := by
 rintro ⟨a0, a1, a2, a3, ⟨⟩⟩
 kernel_rfl
theorem partL_q1 : loopList (loopOf Tryz.f176 1) 2 = [] := by kernel_rfl
theorem partL_l1 : CodeOK Tryz.prog 1 (.loop (loopOf Tryz.f176 1)) (partL_h.loop 1) := loop_ok E_partEqL_ok (partL_s1_ok) (LoopsOK_of partL_q1 trivial)
theorem partL_s0_ok : ∀ v, partL_s0 v = roundOf Tryz.prog E_partEqL partL_h 1 1 178 (loopOf Tryz.f176 0) partL_i0 partL_o0 v := by
 rintro ⟨a0, a1, a2, a3, ⟨⟩⟩
 kernel_rfl
theorem partL_q0 : loopList (loopOf Tryz.f176 0) 1 = [] := by kernel_rfl
theorem partL_l0 : CodeOK Tryz.prog 1 (.loop (loopOf Tryz.f176 0)) (partL_h.loop 0) := loop_ok E_partEqL_ok (partL_s0_ok) (LoopsOK_of partL_q0 trivial)
theorem partL_okd : ∀ v, partL_d v = pevCall Tryz.prog E_partEqL partL_h Tryz.f176 partL_i partL_o partL_r v := by
 rintro ⟨a0, a1, a2, a3, ⟨⟩⟩
 kernel_rfl
theorem partL_q : loopList (bodyOf Tryz.f176) 0 = [(0, loopOf Tryz.f176 0), (1, loopOf Tryz.f176 1), (2, loopOf Tryz.f176 2)] := by kernel_rfl
theorem partL_spec : SpecOK Tryz.prog 176 (mkCall 5 partL_i partL_o partL_r partL) := call_spec E_partEqL_ok Tryz.func176 (by kernel_rfl) (by kernel_rfl) rfl (fun v => (partL_eq v).trans (partL_okd v)) (LoopsOK_of partL_q ⟨partL_l0, partL_l1, partL_l2, trivial⟩)
def E_partL : Env := E_partEqL.extC 176 4 166 (mkCall 5 partL_i partL_o partL_r partL)
theorem E_partL_ok : EnvOK Tryz.prog E_partL := Env.extC_ok E_partEqL_ok partL_spec (mkCall_in rfl rfl)
-- slices.pdqsortCmpFunc[[]int]
abbrev pdqL_h (self : (List (List Int) × Int × Int × Int × Unit) → Option ((List (List Int) × Unit))) : Hints := { loop := fun n => match n with | 0 => loopBy 1 148 pdqL_i0 pdqL_o0 (pdqL_s0 self) | _ => fun _ _ _ => none, fp := fun n => match n with | 17 => [[], [], [], [], [], [], [], [0], [0], [], [], [0], [0], [], [], [], []] | _ => [] }
abbrev pdqL_E (self : (List (List Int) × Int × Int × Int × Unit) → Option ((List (List Int) × Unit))) : Env := E_partL.ext 168 false true (mkCall 5 pdqL_i pdqL_o pdqL_r self)
theorem pdqL_s0_ok (self : (List (List Int) × Int × Int × Int × Unit) → Option ((List (List Int) × Unit))) : ∀ v, pdqL_s0 self v = roundOf Tryz.prog (pdqL_E self) (pdqL_h self) 1 1 148 (loopOf Tryz.f168 0) pdqL_i0 pdqL_o0 v := by
 rintro ⟨a0, a1, a2, a3, a4, a5, ⟨⟩⟩
 kernel_rfl
theorem pdqL_q0 : loopList (loopOf Tryz.f168 0) 1 = [] := by kernel_rfl
theorem pdqL_l0 (self : (List (List Int) × Int × Int × Int × Unit) → Option ((List (List Int) × Unit))) (hE : EnvOK Tryz.prog (pdqL_E self)) : CodeOK Tryz.prog 1 (.loop (loopOf Tryz.f168 0)) ((pdqL_h self).loop 0) := loop_ok hE (pdqL_s0_ok self) (LoopsOK_of pdqL_q0 trivial)
theorem pdqL_okd (self : (List (List Int) × Int × Int × Int × Unit) → Option ((List (List Int) × Unit))) : ∀ v, pdqL_d self v = pevCall Tryz.prog (pdqL_E self) (pdqL_h self) Tryz.f168 pdqL_i pdqL_o pdqL_r v := by
 rintro ⟨a0, a1, a2, a3, ⟨⟩⟩
 kernel_rfl
theorem pdqL_q : loopList (bodyOf Tryz.f168) 0 = [(0, loopOf Tryz.f168 0)] := by kernel_rfl
theorem pdqL_fspec : ∀ n, SpecOK Tryz.prog 168 (mkCall 5 pdqL_i pdqL_o pdqL_r (pdqL_f n)) := by
 intro n
 induction n with
 | zero => exact mkCall_none fun _ => rfl
 | succ n ih =>
  have hE : EnvOK Tryz.prog (pdqL_E (pdqL_f n)) := Env.ext_ok E_partL_ok ih ((by simp)) (fun _ => mkCall_in rfl rfl)
  let self := pdqL_f n
  exact call_spec hE Tryz.func168 (by kernel_rfl) (by kernel_rfl) rfl (pdqL_okd self) (LoopsOK_of pdqL_q ⟨(pdqL_l0 self hE), trivial⟩)
theorem pdqL_spec : SpecOK Tryz.prog 168 (mkCall 5 pdqL_i pdqL_o pdqL_r pdqL) := by
 have e : pdqL = pdqL_f 100 := funext pdqL_eq
 rw [e]
 exact pdqL_fspec _
def E_pdqL : Env := E_partL.extC 168 4 166 (mkCall 5 pdqL_i pdqL_o pdqL_r pdqL)
theorem E_pdqL_ok : EnvOK Tryz.prog E_pdqL := Env.extC_ok E_partL_ok pdqL_spec (mkCall_in rfl rfl)
-- slices.SortFunc[[][]int,[]int]
abbrev sortL_h : Hints := {  }
theorem sortL_okd : ∀ v, sortL_d v = pevCall Tryz.prog E_pdqL sortL_h Tryz.f165 sortL_i sortL_o sortL_r v := by
 rintro ⟨a0, ⟨⟩⟩
 kernel_rfl
theorem sortL_q : loopList (bodyOf Tryz.f165) 0 = [] := by kernel_rfl
theorem sortL_spec : SpecOK Tryz.prog 165 (mkCall 2 sortL_i sortL_o sortL_r sortL) := call_spec E_pdqL_ok Tryz.func165 (by kernel_rfl) (by kernel_rfl) rfl (fun v => (sortL_eq v).trans (sortL_okd v)) (LoopsOK_of sortL_q trivial)
def E_sortL : Env := E_pdqL.extC 165 1 166 (mkCall 2 sortL_i sortL_o sortL_r sortL)
theorem E_sortL_ok : EnvOK Tryz.prog E_sortL := Env.extC_ok E_pdqL_ok sortL_spec (mkCall_in rfl rfl)
end
end Go.Pev
end
section
namespace Go.Pev
open Go.Proofs
set_option maxRecDepth 100000
noncomputable section
-- archipelago/tour.with
abbrev twith_h : Hints := { loop := fun n => match n with | 0 => loopBy 0 47 twith_i0 twith_o0 twith_s0 | 1 => loopBy 0 47 twith_i1 twith_o1 twith_s1 | _ => fun _ _ _ => none }
theorem twith_s1_ok : ∀ v, twith_s1 v = roundOf Tryz.prog E_sortL twith_h 2 0 47 (loopOf Tryz.f148 1) twith_i1 twith_o1 v := by
 rintro ⟨a0, a1, a2, a3, a4, a5, a6, ⟨⟩⟩
 kernel_rfl
theorem twith_q1 : loopList (loopOf Tryz.f148 1) 2 = [] := by kernel_rfl
theorem twith_l1 : CodeOK Tryz.prog 0 (.loop (loopOf Tryz.f148 1)) (twith_h.loop 1) := loop_ok E_sortL_ok (twith_s1_ok) (LoopsOK_of twith_q1 trivial)
theorem twith_s0_ok : ∀ v, twith_s0 v = roundOf Tryz.prog E_sortL twith_h 1 0 47 (loopOf Tryz.f148 0) twith_i0 twith_o0 v := by
 rintro ⟨a0, a1, a2, a3, a4, a5, a6, a7, a8, ⟨⟩⟩
 kernel_rfl
theorem twith_q0 : loopList (loopOf Tryz.f148 0) 1 = [] := by kernel_rfl
theorem twith_l0 : CodeOK Tryz.prog 0 (.loop (loopOf Tryz.f148 0)) (twith_h.loop 0) := loop_ok E_sortL_ok (twith_s0_ok) (LoopsOK_of twith_q0 trivial)
theorem twith_okd : ∀ v, twith_d v = pevCall Tryz.prog E_sortL twith_h Tryz.f148 twith_i twith_o twith_r v := by
 rintro ⟨a0, a1, a2, ⟨⟩⟩
 kernel_rfl
theorem twith_q : loopList (bodyOf Tryz.f148) 0 = [(0, loopOf Tryz.f148 0), (1, loopOf Tryz.f148 1)] := by kernel_rfl
theorem twith_spec : SpecOK Tryz.prog 148 (mkCall 3 twith_i twith_o twith_r twith) := call_spec E_sortL_ok Tryz.func148 (by kernel_rfl) (by kernel_rfl) rfl (fun v => (twith_eq v).trans (twith_okd v)) (LoopsOK_of twith_q ⟨twith_l0, twith_l1, trivial⟩)
def E_twith : Env := E_sortL.ext 148 true true (mkCall 3 twith_i twith_o twith_r twith)
theorem E_twith_ok : EnvOK Tryz.prog E_twith := Env.ext_ok E_sortL_ok twith_spec (fun _ => mkCall_local rfl rfl) (fun _ => mkCall_in rfl rfl)
-- archipelago/tour.Link
abbrev tlink_h : Hints := { fp := fun n => match n with | 9 => [[], [28], [0], [0], [], [], [], [], [], [0], [0], [], [], [], [], [], [28], [28, 52, 36, 62], [64], []] | 4 => [[0], [], [], [0], [], [], [], []] | _ => [] }
theorem tlink_okd : ∀ v, tlink_d v = pevCall Tryz.prog E_twith tlink_h Tryz.f124 tlink_i tlink_o tlink_r v := by
 rintro ⟨a0, a1, a2, ⟨⟩⟩
 kernel_rfl
theorem tlink_q : loopList (bodyOf Tryz.f124) 0 = [] := by kernel_rfl
theorem tlink_spec : SpecOK Tryz.prog 124 (mkCall 3 tlink_i tlink_o tlink_r tlink) := call_spec E_twith_ok Tryz.func124 (by kernel_rfl) (by kernel_rfl) rfl (fun v => (tlink_eq v).trans (tlink_okd v)) (LoopsOK_of tlink_q trivial)
def E_tlink : Env := E_twith.ext 124 true true (mkCall 3 tlink_i tlink_o tlink_r tlink)
theorem E_tlink_ok : EnvOK Tryz.prog E_tlink := Env.ext_ok E_twith_ok tlink_spec (fun _ => mkCall_local rfl rfl) (fun _ => mkCall_in rfl rfl)
-- archipelago/forest.there$1: gone through in place
theorem there1_b : Tryz.f154.body.isSome = true := by kernel_rfl
theorem there1_n : (Tryz.f154.name == "runtime.NumGoroutine") = false := by kernel_rfl
theorem there1_z : loops (bodyOf Tryz.f154) = 0 := by kernel_rfl
def E_there1_4 : Env := E_tlink.ext 154 false false (mkInline Tryz.prog E_tlink {} Tryz.f154)
theorem E_there1_4_ok : EnvOK Tryz.prog E_there1_4 := Env.ext_ok E_tlink_ok (inline_spec E_tlink_ok Tryz.func154 there1_b there1_n there1_z) (by simp) (by simp)
-- slices.IndexFunc[[]int,int]
abbrev idxFuncI_there_h : Hints := { loop := fun n => match n with | 0 => loopBy 1 19 idxFuncI_there_i0 idxFuncI_there_o0 idxFuncI_there_s0 | _ => fun _ _ _ => none }
theorem idxFuncI_there_s0_ok : ∀ v, idxFuncI_there_s0 v = roundOf Tryz.prog E_there1_4 idxFuncI_there_h 1 1 19 (loopOf Tryz.f79 0) idxFuncI_there_i0 idxFuncI_there_o0 v := by
 rintro ⟨a0, a1, a2, a3, a4, ⟨⟩⟩
 kernel_rfl
theorem idxFuncI_there_q0 : loopList (loopOf Tryz.f79 0) 1 = [] := by kernel_rfl
theorem idxFuncI_there_l0 : CodeOK Tryz.prog 1 (.loop (loopOf Tryz.f79 0)) (idxFuncI_there_h.loop 0) := loop_ok E_there1_4_ok (idxFuncI_there_s0_ok) (LoopsOK_of idxFuncI_there_q0 trivial)
theorem idxFuncI_there_okd : ∀ v, idxFuncI_there_d v = pevCall Tryz.prog E_there1_4 idxFuncI_there_h Tryz.f79 idxFuncI_there_i idxFuncI_there_o idxFuncI_there_r v := by
 rintro ⟨a0, a1, a2, ⟨⟩⟩
 kernel_rfl
theorem idxFuncI_there_q : loopList (bodyOf Tryz.f79) 0 = [(0, loopOf Tryz.f79 0)] := by kernel_rfl
theorem idxFuncI_there_spec : SpecOK Tryz.prog 79 (mkCall 2 idxFuncI_there_i idxFuncI_there_o idxFuncI_there_r idxFuncI_there) := call_spec E_there1_4_ok Tryz.func79 (by kernel_rfl) (by kernel_rfl) rfl (fun v => (idxFuncI_there_eq v).trans (idxFuncI_there_okd v)) (LoopsOK_of idxFuncI_there_q ⟨idxFuncI_there_l0, trivial⟩)
def E_idxFuncI_there : Env := E_there1_4.extC 79 1 154 (mkCall 2 idxFuncI_there_i idxFuncI_there_o idxFuncI_there_r idxFuncI_there)
theorem E_idxFuncI_there_ok : EnvOK Tryz.prog E_idxFuncI_there := Env.extC_ok E_there1_4_ok idxFuncI_there_spec (mkCall_in rfl rfl)
-- slices.ContainsFunc[[]int,int]
abbrev contFuncI_there_h : Hints := {  }
theorem contFuncI_there_okd : ∀ v, contFuncI_there_d v = pevCall Tryz.prog E_idxFuncI_there contFuncI_there_h Tryz.f50 contFuncI_there_i contFuncI_there_o contFuncI_there_r v := by
 rintro ⟨a0, a1, a2, ⟨⟩⟩
 kernel_rfl
theorem contFuncI_there_q : loopList (bodyOf Tryz.f50) 0 = [] := by kernel_rfl
theorem contFuncI_there_spec : SpecOK Tryz.prog 50 (mkCall 2 contFuncI_there_i contFuncI_there_o contFuncI_there_r contFuncI_there) := call_spec E_idxFuncI_there_ok Tryz.func50 (by kernel_rfl) (by kernel_rfl) rfl (fun v => (contFuncI_there_eq v).trans (contFuncI_there_okd v)) (LoopsOK_of contFuncI_there_q trivial)
def E_contFuncI_there : Env := E_idxFuncI_there.extC 50 1 154 (mkCall 2 contFuncI_there_i contFuncI_there_o contFuncI_there_r contFuncI_there)
theorem E_contFuncI_there_ok : EnvOK Tryz.prog E_contFuncI_there := Env.extC_ok E_idxFuncI_there_ok contFuncI_there_spec (mkCall_in rfl rfl)
-- archipelago/forest.there
abbrev fthere_h : Hints := {  }
theorem fthere_okd : ∀ v, fthere_d v = pevCall Tryz.prog E_contFuncI_there fthere_h Tryz.f128 fthere_i fthere_o fthere_r v := by
 rintro ⟨a0, a1, ⟨⟩⟩
 kernel_rfl
theorem fthere_q : loopList (bodyOf Tryz.f128) 0 = [] := by kernel_rfl
theorem fthere_spec : SpecOK Tryz.prog 128 (mkCall 2 fthere_i fthere_o fthere_r fthere) := call_spec E_contFuncI_there_ok Tryz.func128 (by kernel_rfl) (by kernel_rfl) rfl (fun v => (fthere_eq v).trans (fthere_okd v)) (LoopsOK_of fthere_q trivial)
def E_fthere : Env := E_contFuncI_there.ext 128 true true (mkCall 2 fthere_i fthere_o fthere_r fthere)
theorem E_fthere_ok : EnvOK Tryz.prog E_fthere := Env.ext_ok E_contFuncI_there_ok fthere_spec (fun _ => mkCall_local rfl rfl) (fun _ => mkCall_in rfl rfl)
-- archipelago/forest.ends
abbrev ends_h : Hints := { loop := fun n => match n with | 0 => loopBy 0 21 ends_i0 ends_o0 ends_s0 | _ => fun _ _ _ => none }
theorem ends_s0_ok : ∀ v, ends_s0 v = roundOf Tryz.prog E_fthere ends_h 1 0 21 (loopOf Tryz.f143 0) ends_i0 ends_o0 v := by
 rintro ⟨a0, a1, a2, a3, ⟨⟩⟩
 kernel_rfl
theorem ends_q0 : loopList (loopOf Tryz.f143 0) 1 = [] := by kernel_rfl
theorem ends_l0 : CodeOK Tryz.prog 0 (.loop (loopOf Tryz.f143 0)) (ends_h.loop 0) := loop_ok E_fthere_ok (ends_s0_ok) (LoopsOK_of ends_q0 trivial)
theorem ends_okd : ∀ v, ends_d v = pevCall Tryz.prog E_fthere ends_h Tryz.f143 ends_i ends_o ends_r v := by
 rintro ⟨a0, ⟨⟩⟩
 kernel_rfl
theorem ends_q : loopList (bodyOf Tryz.f143) 0 = [(0, loopOf Tryz.f143 0)] := by kernel_rfl
theorem ends_spec : SpecOK Tryz.prog 143 (mkCall 1 ends_i ends_o ends_r ends) := call_spec E_fthere_ok Tryz.func143 (by kernel_rfl) (by kernel_rfl) rfl (fun v => (ends_eq v).trans (ends_okd v)) (LoopsOK_of ends_q ⟨ends_l0, trivial⟩)
def E_ends : Env := E_fthere.ext 143 true true (mkCall 1 ends_i ends_o ends_r ends)
theorem E_ends_ok : EnvOK Tryz.prog E_ends := Env.ext_ok E_fthere_ok ends_spec (fun _ => mkCall_local rfl rfl) (fun _ => mkCall_in rfl rfl)
-- archipelago/forest.each
abbrev eachLink_h : Hints := { loop := fun n => match n with | 0 => loopBy 0 48 eachLink_i0 eachLink_o0 eachLink_s0 | _ => fun _ _ _ => none, fp := fun n => match n with | 1 => [[0], [], [], [4], []] | _ => [] }
theorem eachLink_s0_ok : ∀ v, eachLink_s0 v = roundOf Tryz.prog E_ends eachLink_h 1 0 48 (loopOf Tryz.f123 0) eachLink_i0 eachLink_o0 v := by
 rintro ⟨a0, a1, a2, a3, a4, a5, a6, ⟨⟩⟩
 kernel_rfl
theorem eachLink_q0 : loopList (loopOf Tryz.f123 0) 1 = [] := by kernel_rfl
theorem eachLink_l0 : CodeOK Tryz.prog 0 (.loop (loopOf Tryz.f123 0)) (eachLink_h.loop 0) := loop_ok E_ends_ok (eachLink_s0_ok) (LoopsOK_of eachLink_q0 trivial)
theorem eachLink_okd : ∀ v, eachLink_d v = pevCall Tryz.prog E_ends eachLink_h Tryz.f123 eachLink_i eachLink_o eachLink_r v := by
 rintro ⟨a0, a1, ⟨⟩⟩
 kernel_rfl
theorem eachLink_q : loopList (bodyOf Tryz.f123) 0 = [(0, loopOf Tryz.f123 0)] := by kernel_rfl
theorem eachLink_spec : SpecOK Tryz.prog 123 (mkCall 3 eachLink_i eachLink_o eachLink_r eachLink) := call_spec E_ends_ok Tryz.func123 (by kernel_rfl) (by kernel_rfl) rfl (fun v => (eachLink_eq v).trans (eachLink_okd v)) (LoopsOK_of eachLink_q ⟨eachLink_l0, trivial⟩)
def E_eachLink : Env := E_ends.extC 123 2 124 (mkCall 3 eachLink_i eachLink_o eachLink_r eachLink)
theorem E_eachLink_ok : EnvOK Tryz.prog E_eachLink := Env.extC_ok E_ends_ok eachLink_spec (mkCall_in rfl rfl)
-- archipelago/forest.Links
abbrev flinks_h : Hints := {  }
theorem flinks_okd : ∀ v, flinks_d v = pevCall Tryz.prog E_eachLink flinks_h Tryz.f91 flinks_i flinks_o flinks_r v := by
 rintro ⟨a0, a1, ⟨⟩⟩
 kernel_rfl
theorem flinks_q : loopList (bodyOf Tryz.f91) 0 = [] := by kernel_rfl
theorem flinks_spec : SpecOK Tryz.prog 91 (mkCall 2 flinks_i flinks_o flinks_r flinks) := call_spec E_eachLink_ok Tryz.func91 (by kernel_rfl) (by kernel_rfl) rfl (fun v => (flinks_eq v).trans (flinks_okd v)) (LoopsOK_of flinks_q trivial)
def E_flinks : Env := E_eachLink.ext 91 true true (mkCall 2 flinks_i flinks_o flinks_r flinks)
theorem E_flinks_ok : EnvOK Tryz.prog E_flinks := Env.ext_ok E_eachLink_ok flinks_spec (fun _ => mkCall_local rfl rfl) (fun _ => mkCall_in rfl rfl)
-- archipelago/forest.Of
abbrev fof_h : Hints := {  }
theorem fof_okd : ∀ v, fof_d v = pevCall Tryz.prog E_flinks fof_h Tryz.f67 fof_i fof_o fof_r v := by
 rintro ⟨a0, a1, ⟨⟩⟩
 kernel_rfl
theorem fof_q : loopList (bodyOf Tryz.f67) 0 = [] := by kernel_rfl
theorem fof_spec : SpecOK Tryz.prog 67 (mkCall 2 fof_i fof_o fof_r fof) := call_spec E_flinks_ok Tryz.func67 (by kernel_rfl) (by kernel_rfl) rfl (fun v => (fof_eq v).trans (fof_okd v)) (LoopsOK_of fof_q trivial)
def E_fof : Env := E_flinks.ext 67 true true (mkCall 2 fof_i fof_o fof_r fof)
theorem E_fof_ok : EnvOK Tryz.prog E_fof := Env.ext_ok E_flinks_ok fof_spec (fun _ => mkCall_local rfl rfl) (fun _ => mkCall_in rfl rfl)
-- cmp.Or[int]
abbrev orI_h : Hints := { loop := fun n => match n with | 0 => loopBy 0 18 orI_i0 orI_o0 orI_s0 | _ => fun _ _ _ => none }
theorem orI_s0_ok : ∀ v, orI_s0 v = roundOf Tryz.prog E_fof orI_h 1 0 18 (loopOf Tryz.f74 0) orI_i0 orI_o0 v := by
 rintro ⟨a0, a1, a2, a3, ⟨⟩⟩
 kernel_rfl
theorem orI_q0 : loopList (loopOf Tryz.f74 0) 1 = [] := by kernel_rfl
theorem orI_l0 : CodeOK Tryz.prog 0 (.loop (loopOf Tryz.f74 0)) (orI_h.loop 0) := loop_ok E_fof_ok (orI_s0_ok) (LoopsOK_of orI_q0 trivial)
theorem orI_okd : ∀ v, orI_d v = pevCall Tryz.prog E_fof orI_h Tryz.f74 orI_i orI_o orI_r v := by
 rintro ⟨a0, ⟨⟩⟩
 kernel_rfl
theorem orI_q : loopList (bodyOf Tryz.f74) 0 = [(0, loopOf Tryz.f74 0)] := by kernel_rfl
theorem orI_spec : SpecOK Tryz.prog 74 (mkCall 1 orI_i orI_o orI_r orI) := call_spec E_fof_ok Tryz.func74 (by kernel_rfl) (by kernel_rfl) rfl (fun v => (orI_eq v).trans (orI_okd v)) (LoopsOK_of orI_q ⟨orI_l0, trivial⟩)
def E_orI : Env := E_fof.ext 74 true true (mkCall 1 orI_i orI_o orI_r orI)
theorem E_orI_ok : EnvOK Tryz.prog E_orI := Env.ext_ok E_fof_ok orI_spec (fun _ => mkCall_local rfl rfl) (fun _ => mkCall_in rfl rfl)
-- archipelago/level.sized
abbrev lsized_h : Hints := {  }
theorem lsized_okd : ∀ v, lsized_d v = pevCall Tryz.prog E_orI lsized_h Tryz.f83 lsized_i lsized_o lsized_r v := by
 rintro ⟨a0, ⟨⟩⟩
 kernel_rfl
theorem lsized_q : loopList (bodyOf Tryz.f83) 0 = [] := by kernel_rfl
theorem lsized_spec : SpecOK Tryz.prog 83 (mkCall 1 lsized_i lsized_o lsized_r lsized) := call_spec E_orI_ok Tryz.func83 (by kernel_rfl) (by kernel_rfl) rfl (fun v => (lsized_eq v).trans (lsized_okd v)) (LoopsOK_of lsized_q trivial)
def E_lsized : Env := E_orI.ext 83 true true (mkCall 1 lsized_i lsized_o lsized_r lsized)
theorem E_lsized_ok : EnvOK Tryz.prog E_lsized := Env.ext_ok E_orI_ok lsized_spec (fun _ => mkCall_local rfl rfl) (fun _ => mkCall_in rfl rfl)
end
end Go.Pev
end
section
namespace Go.Pev
open Go.Proofs
set_option maxRecDepth 100000
noncomputable section
-- archipelago/level.Top
abbrev ltop_h : Hints := {  }
theorem ltop_okd : ∀ v, ltop_d v = pevCall Tryz.prog E_lsized ltop_h Tryz.f84 ltop_i ltop_o ltop_r v := by
 rintro ⟨a0, ⟨⟩⟩
 kernel_rfl
theorem ltop_q : loopList (bodyOf Tryz.f84) 0 = [] := by kernel_rfl
theorem ltop_spec : SpecOK Tryz.prog 84 (mkCall 1 ltop_i ltop_o ltop_r ltop) := call_spec E_lsized_ok Tryz.func84 (by kernel_rfl) (by kernel_rfl) rfl (fun v => (ltop_eq v).trans (ltop_okd v)) (LoopsOK_of ltop_q trivial)
def E_ltop : Env := E_lsized.ext 84 true true (mkCall 1 ltop_i ltop_o ltop_r ltop)
theorem E_ltop_ok : EnvOK Tryz.prog E_ltop := Env.ext_ok E_lsized_ok ltop_spec (fun _ => mkCall_local rfl rfl) (fun _ => mkCall_in rfl rfl)
-- archipelago/level.compare
abbrev lcompare_h : Hints := { fp := fun n => match n with | 1 => [[0], [0], [2], [2], [], [0], [0], [2], [2], [], [], [20], []] | _ => [] }
theorem lcompare_okd : ∀ v, lcompare_d v = pevCall Tryz.prog E_ltop lcompare_h Tryz.f85 lcompare_i lcompare_o lcompare_r v := by
 rintro ⟨a0, a1, ⟨⟩⟩
 kernel_rfl
theorem lcompare_q : loopList (bodyOf Tryz.f85) 0 = [] := by kernel_rfl
theorem lcompare_spec : SpecOK Tryz.prog 85 (mkCall 2 lcompare_i lcompare_o lcompare_r lcompare) := call_spec E_ltop_ok Tryz.func85 (by kernel_rfl) (by kernel_rfl) rfl (fun v => (lcompare_eq v).trans (lcompare_okd v)) (LoopsOK_of lcompare_q trivial)
def E_lcompare : Env := E_ltop.ext 85 true true (mkCall 2 lcompare_i lcompare_o lcompare_r lcompare)
theorem E_lcompare_ok : EnvOK Tryz.prog E_lcompare := Env.ext_ok E_ltop_ok lcompare_spec (fun _ => mkCall_local rfl rfl) (fun _ => mkCall_in rfl rfl)
-- archipelago/level.trees
abbrev ltrees_h : Hints := { loop := fun n => match n with | 0 => loopBy 0 33 ltrees_i0 ltrees_o0 ltrees_s0 | _ => fun _ _ _ => none }
theorem ltrees_s0_ok : ∀ v, ltrees_s0 v = roundOf Tryz.prog E_lcompare ltrees_h 1 0 33 (loopOf Tryz.f68 0) ltrees_i0 ltrees_o0 v := by
 rintro ⟨a0, a1, a2, a3, a4, ⟨⟩⟩
 kernel_rfl
theorem ltrees_q0 : loopList (loopOf Tryz.f68 0) 1 = [] := by kernel_rfl
theorem ltrees_l0 : CodeOK Tryz.prog 0 (.loop (loopOf Tryz.f68 0)) (ltrees_h.loop 0) := loop_ok E_lcompare_ok (ltrees_s0_ok) (LoopsOK_of ltrees_q0 trivial)
theorem ltrees_okd : ∀ v, ltrees_d v = pevCall Tryz.prog E_lcompare ltrees_h Tryz.f68 ltrees_i ltrees_o ltrees_r v := by
 rintro ⟨a0, a1, ⟨⟩⟩
 kernel_rfl
theorem ltrees_q : loopList (bodyOf Tryz.f68) 0 = [(0, loopOf Tryz.f68 0)] := by kernel_rfl
theorem ltrees_spec : SpecOK Tryz.prog 68 (mkCall 2 ltrees_i ltrees_o ltrees_r ltrees) := call_spec E_lcompare_ok Tryz.func68 (by kernel_rfl) (by kernel_rfl) rfl (fun v => (ltrees_eq v).trans (ltrees_okd v)) (LoopsOK_of ltrees_q ⟨ltrees_l0, trivial⟩)
def E_ltrees : Env := E_lcompare.ext 68 true true (mkCall 2 ltrees_i ltrees_o ltrees_r ltrees)
theorem E_ltrees_ok : EnvOK Tryz.prog E_ltrees := Env.ext_ok E_lcompare_ok ltrees_spec (fun _ => mkCall_local rfl rfl) (fun _ => mkCall_in rfl rfl)
-- archipelago/level.Right
abbrev lright_h : Hints := { loop := fun n => match n with | 0 => loopBy 0 96 lright_i0 lright_o0 lright_s0 | _ => fun _ _ _ => none, fp := fun n => match n with | 7 => [[2], [2], [], [], [2], [2], [2], [2], [], [], [], [2], [2], [0], [0], [], [], [], [2], [2], [], [], [], [2], [2], [], [], [], [], [], [], [], [0], [0], [], [], [], [], [2], [], [], [], []] | _ => [] }
theorem lright_s0_ok : ∀ v, lright_s0 v = roundOf Tryz.prog E_ltrees lright_h 1 0 96 (loopOf Tryz.f60 0) lright_i0 lright_o0 v := by
 rintro ⟨a0, a1, a2, a3, a4, a5, ⟨⟩⟩
 kernel_rfl
theorem lright_q0 : loopList (loopOf Tryz.f60 0) 1 = [] := by kernel_rfl
theorem lright_l0 : CodeOK Tryz.prog 0 (.loop (loopOf Tryz.f60 0)) (lright_h.loop 0) := loop_ok E_ltrees_ok (lright_s0_ok) (LoopsOK_of lright_q0 trivial)
theorem lright_okd : ∀ v, lright_d v = pevCall Tryz.prog E_ltrees lright_h Tryz.f60 lright_i lright_o lright_r v := by
 rintro ⟨a0, ⟨⟩⟩
 kernel_rfl
theorem lright_q : loopList (bodyOf Tryz.f60) 0 = [(0, loopOf Tryz.f60 0)] := by kernel_rfl
theorem lright_spec : SpecOK Tryz.prog 60 (mkCall 1 lright_i lright_o lright_r lright) := call_spec E_ltrees_ok Tryz.func60 (by kernel_rfl) (by kernel_rfl) rfl (fun v => (lright_eq v).trans (lright_okd v)) (LoopsOK_of lright_q ⟨lright_l0, trivial⟩)
def E_lright : Env := E_ltrees.ext 60 true true (mkCall 1 lright_i lright_o lright_r lright)
theorem E_lright_ok : EnvOK Tryz.prog E_lright := Env.ext_ok E_ltrees_ok lright_spec (fun _ => mkCall_local rfl rfl) (fun _ => mkCall_in rfl rfl)
-- archipelago/level.Edges
abbrev ledges_h : Hints := { loop := fun n => match n with | 0 => loopBy 0 26 ledges_i0 ledges_o0 ledges_s0 | _ => fun _ _ _ => none }
theorem ledges_s0_ok : ∀ v, ledges_s0 v = roundOf Tryz.prog E_lright ledges_h 1 0 26 (loopOf Tryz.f46 0) ledges_i0 ledges_o0 v := by
 rintro ⟨a0, a1, a2, a3, ⟨⟩⟩
 kernel_rfl
theorem ledges_q0 : loopList (loopOf Tryz.f46 0) 1 = [] := by kernel_rfl
theorem ledges_l0 : CodeOK Tryz.prog 0 (.loop (loopOf Tryz.f46 0)) (ledges_h.loop 0) := loop_ok E_lright_ok (ledges_s0_ok) (LoopsOK_of ledges_q0 trivial)
theorem ledges_okd : ∀ v, ledges_d v = pevCall Tryz.prog E_lright ledges_h Tryz.f46 ledges_i ledges_o ledges_r v := by
 rintro ⟨a0, ⟨⟩⟩
 kernel_rfl
theorem ledges_q : loopList (bodyOf Tryz.f46) 0 = [(0, loopOf Tryz.f46 0)] := by kernel_rfl
theorem ledges_spec : SpecOK Tryz.prog 46 (mkCall 1 ledges_i ledges_o ledges_r ledges) := call_spec E_lright_ok Tryz.func46 (by kernel_rfl) (by kernel_rfl) rfl (fun v => (ledges_eq v).trans (ledges_okd v)) (LoopsOK_of ledges_q ⟨ledges_l0, trivial⟩)
def E_ledges : Env := E_lright.ext 46 true true (mkCall 1 ledges_i ledges_o ledges_r ledges)
theorem E_ledges_ok : EnvOK Tryz.prog E_ledges := Env.ext_ok E_lright_ok ledges_spec (fun _ => mkCall_local rfl rfl) (fun _ => mkCall_in rfl rfl)
-- archipelago/span.asked
abbrev sasked_h : Hints := { loop := fun n => match n with | 0 => loopBy 0 35 sasked_i0 sasked_o0 sasked_s0 | _ => fun _ _ _ => none }
theorem sasked_s0_ok : ∀ v, sasked_s0 v = roundOf Tryz.prog E_ledges sasked_h 1 0 35 (loopOf Tryz.f86 0) sasked_i0 sasked_o0 v := by
 rintro ⟨a0, a1, a2, a3, ⟨⟩⟩
 kernel_rfl
theorem sasked_q0 : loopList (loopOf Tryz.f86 0) 1 = [] := by kernel_rfl
theorem sasked_l0 : CodeOK Tryz.prog 0 (.loop (loopOf Tryz.f86 0)) (sasked_h.loop 0) := loop_ok E_ledges_ok (sasked_s0_ok) (LoopsOK_of sasked_q0 trivial)
theorem sasked_okd : ∀ v, sasked_d v = pevCall Tryz.prog E_ledges sasked_h Tryz.f86 sasked_i sasked_o sasked_r v := by
 rintro ⟨a0, a1, ⟨⟩⟩
 kernel_rfl
theorem sasked_q : loopList (bodyOf Tryz.f86) 0 = [(0, loopOf Tryz.f86 0)] := by kernel_rfl
theorem sasked_spec : SpecOK Tryz.prog 86 (mkCall 2 sasked_i sasked_o sasked_r sasked) := call_spec E_ledges_ok Tryz.func86 (by kernel_rfl) (by kernel_rfl) rfl (fun v => (sasked_eq v).trans (sasked_okd v)) (LoopsOK_of sasked_q ⟨sasked_l0, trivial⟩)
def E_sasked : Env := E_ledges.ext 86 true true (mkCall 2 sasked_i sasked_o sasked_r sasked)
theorem E_sasked_ok : EnvOK Tryz.prog E_sasked := Env.ext_ok E_ledges_ok sasked_spec (fun _ => mkCall_local rfl rfl) (fun _ => mkCall_in rfl rfl)
-- archipelago/span.alone
abbrev salone_h : Hints := { loop := fun n => match n with | 0 => loopBy 0 18 salone_i0 salone_o0 salone_s0 | _ => fun _ _ _ => none }
theorem salone_s0_ok : ∀ v, salone_s0 v = roundOf Tryz.prog E_sasked salone_h 1 0 18 (loopOf Tryz.f70 0) salone_i0 salone_o0 v := by
 rintro ⟨a0, a1, a2, ⟨⟩⟩
 kernel_rfl
theorem salone_q0 : loopList (loopOf Tryz.f70 0) 1 = [] := by kernel_rfl
theorem salone_l0 : CodeOK Tryz.prog 0 (.loop (loopOf Tryz.f70 0)) (salone_h.loop 0) := loop_ok E_sasked_ok (salone_s0_ok) (LoopsOK_of salone_q0 trivial)
theorem salone_okd : ∀ v, salone_d v = pevCall Tryz.prog E_sasked salone_h Tryz.f70 salone_i salone_o salone_r v := by
 rintro ⟨a0, ⟨⟩⟩
 kernel_rfl
theorem salone_q : loopList (bodyOf Tryz.f70) 0 = [(0, loopOf Tryz.f70 0)] := by kernel_rfl
theorem salone_spec : SpecOK Tryz.prog 70 (mkCall 1 salone_i salone_o salone_r salone) := call_spec E_sasked_ok Tryz.func70 (by kernel_rfl) (by kernel_rfl) rfl (fun v => (salone_eq v).trans (salone_okd v)) (LoopsOK_of salone_q ⟨salone_l0, trivial⟩)
def E_salone : Env := E_sasked.ext 70 true true (mkCall 1 salone_i salone_o salone_r salone)
theorem E_salone_ok : EnvOK Tryz.prog E_salone := Env.ext_ok E_sasked_ok salone_spec (fun _ => mkCall_local rfl rfl) (fun _ => mkCall_in rfl rfl)
-- (archipelago/span.sets).least
abbrev sleast_h : Hints := { loop := fun n => match n with | 0 => loopBy 1 26 sleast_i0 sleast_o0 sleast_s0 | _ => fun _ _ _ => none }
theorem sleast_s0_ok : ∀ v, sleast_s0 v = roundOf Tryz.prog E_salone sleast_h 1 1 26 (loopOf Tryz.f87 0) sleast_i0 sleast_o0 v := by
 rintro ⟨a0, a1, ⟨⟩⟩
 kernel_rfl
theorem sleast_q0 : loopList (loopOf Tryz.f87 0) 1 = [] := by kernel_rfl
theorem sleast_l0 : CodeOK Tryz.prog 1 (.loop (loopOf Tryz.f87 0)) (sleast_h.loop 0) := loop_ok E_salone_ok (sleast_s0_ok) (LoopsOK_of sleast_q0 trivial)
theorem sleast_okd : ∀ v, sleast_d v = pevCall Tryz.prog E_salone sleast_h Tryz.f87 sleast_i sleast_o sleast_r v := by
 rintro ⟨a0, a1, ⟨⟩⟩
 kernel_rfl
theorem sleast_q : loopList (bodyOf Tryz.f87) 0 = [(0, loopOf Tryz.f87 0)] := by kernel_rfl
theorem sleast_spec : SpecOK Tryz.prog 87 (mkCall 2 sleast_i sleast_o sleast_r sleast) := call_spec E_salone_ok Tryz.func87 (by kernel_rfl) (by kernel_rfl) rfl (fun v => (sleast_eq v).trans (sleast_okd v)) (LoopsOK_of sleast_q ⟨sleast_l0, trivial⟩)
def E_sleast : Env := E_salone.ext 87 false true (mkCall 2 sleast_i sleast_o sleast_r sleast)
theorem E_sleast_ok : EnvOK Tryz.prog E_sleast := Env.ext_ok E_salone_ok sleast_spec ((by simp)) (fun _ => mkCall_in rfl rfl)
-- (archipelago/span.sets).join
abbrev sjoin_h : Hints := {  }
theorem sjoin_okd : ∀ v, sjoin_d v = pevCall Tryz.prog E_sleast sjoin_h Tryz.f95 sjoin_i sjoin_o sjoin_r v := by
 rintro ⟨a0, a1, a2, ⟨⟩⟩
 kernel_rfl
theorem sjoin_q : loopList (bodyOf Tryz.f95) 0 = [] := by kernel_rfl
theorem sjoin_spec : SpecOK Tryz.prog 95 (mkCall 3 sjoin_i sjoin_o sjoin_r sjoin) := call_spec E_sleast_ok Tryz.func95 (by kernel_rfl) (by kernel_rfl) rfl (fun v => (sjoin_eq v).trans (sjoin_okd v)) (LoopsOK_of sjoin_q trivial)
def E_sjoin : Env := E_sleast.ext 95 false true (mkCall 3 sjoin_i sjoin_o sjoin_r sjoin)
theorem E_sjoin_ok : EnvOK Tryz.prog E_sjoin := Env.ext_ok E_sleast_ok sjoin_spec ((by simp)) (fun _ => mkCall_in rfl rfl)
-- archipelago/span.each
abbrev eachJoin_h : Hints := { loop := fun n => match n with | 0 => loopBy 1 25 eachJoin_i0 eachJoin_o0 eachJoin_s0 | _ => fun _ _ _ => none }
theorem eachJoin_s0_ok : ∀ v, eachJoin_s0 v = roundOf Tryz.prog E_sjoin eachJoin_h 1 1 25 (loopOf Tryz.f94 0) eachJoin_i0 eachJoin_o0 v := by
 rintro ⟨a0, a1, a2, a3, a4, ⟨⟩⟩
 kernel_rfl
theorem eachJoin_q0 : loopList (loopOf Tryz.f94 0) 1 = [] := by kernel_rfl
theorem eachJoin_l0 : CodeOK Tryz.prog 1 (.loop (loopOf Tryz.f94 0)) (eachJoin_h.loop 0) := loop_ok E_sjoin_ok (eachJoin_s0_ok) (LoopsOK_of eachJoin_q0 trivial)
theorem eachJoin_okd : ∀ v, eachJoin_d v = pevCall Tryz.prog E_sjoin eachJoin_h Tryz.f94 eachJoin_i eachJoin_o eachJoin_r v := by
 rintro ⟨a0, a1, ⟨⟩⟩
 kernel_rfl
theorem eachJoin_q : loopList (bodyOf Tryz.f94) 0 = [(0, loopOf Tryz.f94 0)] := by kernel_rfl
theorem eachJoin_spec : SpecOK Tryz.prog 94 (mkCall 2 eachJoin_i eachJoin_o eachJoin_r eachJoin) := call_spec E_sjoin_ok Tryz.func94 (by kernel_rfl) (by kernel_rfl) rfl (fun v => (eachJoin_eq v).trans (eachJoin_okd v)) (LoopsOK_of eachJoin_q ⟨eachJoin_l0, trivial⟩)
def E_eachJoin : Env := E_sjoin.extC 94 1 95 (mkCall 2 eachJoin_i eachJoin_o eachJoin_r eachJoin)
theorem E_eachJoin_ok : EnvOK Tryz.prog E_eachJoin := Env.extC_ok E_sjoin_ok eachJoin_spec (mkCall_in rfl rfl)
-- (archipelago/span.sets).joins
abbrev sjoins_h : Hints := {  }
theorem sjoins_okd : ∀ v, sjoins_d v = pevCall Tryz.prog E_eachJoin sjoins_h Tryz.f71 sjoins_i sjoins_o sjoins_r v := by
 rintro ⟨a0, a1, ⟨⟩⟩
 kernel_rfl
theorem sjoins_q : loopList (bodyOf Tryz.f71) 0 = [] := by kernel_rfl
theorem sjoins_spec : SpecOK Tryz.prog 71 (mkCall 2 sjoins_i sjoins_o sjoins_r sjoins) := call_spec E_eachJoin_ok Tryz.func71 (by kernel_rfl) (by kernel_rfl) rfl (fun v => (sjoins_eq v).trans (sjoins_okd v)) (LoopsOK_of sjoins_q trivial)
def E_sjoins : Env := E_eachJoin.ext 71 false true (mkCall 2 sjoins_i sjoins_o sjoins_r sjoins)
theorem E_sjoins_ok : EnvOK Tryz.prog E_sjoins := Env.ext_ok E_eachJoin_ok sjoins_spec ((by simp)) (fun _ => mkCall_in rfl rfl)
-- archipelago/span.Classes
abbrev sclasses_h : Hints := { loop := fun n => match n with | 0 => loopBy 0 33 sclasses_i0 sclasses_o0 sclasses_s0 | _ => fun _ _ _ => none }
theorem sclasses_s0_ok : ∀ v, sclasses_s0 v = roundOf Tryz.prog E_sjoins sclasses_h 1 0 33 (loopOf Tryz.f61 0) sclasses_i0 sclasses_o0 v := by
 rintro ⟨a0, a1, a2, ⟨⟩⟩
 kernel_rfl
theorem sclasses_q0 : loopList (loopOf Tryz.f61 0) 1 = [] := by kernel_rfl
theorem sclasses_l0 : CodeOK Tryz.prog 0 (.loop (loopOf Tryz.f61 0)) (sclasses_h.loop 0) := loop_ok E_sjoins_ok (sclasses_s0_ok) (LoopsOK_of sclasses_q0 trivial)
theorem sclasses_okd : ∀ v, sclasses_d v = pevCall Tryz.prog E_sjoins sclasses_h Tryz.f61 sclasses_i sclasses_o sclasses_r v := by
 rintro ⟨a0, a1, ⟨⟩⟩
 kernel_rfl
theorem sclasses_q : loopList (bodyOf Tryz.f61) 0 = [(0, loopOf Tryz.f61 0)] := by kernel_rfl
theorem sclasses_spec : SpecOK Tryz.prog 61 (mkCall 2 sclasses_i sclasses_o sclasses_r sclasses) := call_spec E_sjoins_ok Tryz.func61 (by kernel_rfl) (by kernel_rfl) rfl (fun v => (sclasses_eq v).trans (sclasses_okd v)) (LoopsOK_of sclasses_q ⟨sclasses_l0, trivial⟩)
def E_sclasses : Env := E_sjoins.ext 61 true true (mkCall 2 sclasses_i sclasses_o sclasses_r sclasses)
theorem E_sclasses_ok : EnvOK Tryz.prog E_sclasses := Env.ext_ok E_sjoins_ok sclasses_spec (fun _ => mkCall_local rfl rfl) (fun _ => mkCall_in rfl rfl)
end
end Go.Pev
end
section
namespace Go.Pev
open Go.Proofs
set_option maxRecDepth 100000
noncomputable section
-- archipelago/archipelagoref19.Classes
abbrev classes19_h : Hints := { loop := fun n => match n with | 0 => loopBy 0 83 classes19_i0 classes19_o0 classes19_s0 | 1 => loopBy 0 83 classes19_i1 classes19_o1 classes19_s1 | 2 => loopBy 0 83 classes19_i2 classes19_o2 classes19_s2 | _ => fun _ _ _ => none, fp := fun n => match n with | 14 => [[], [], [0], [0], [], [], [0], [0], [], []] | 13 => [[], [], [], [], [], [], [], [], [], [], [], [], [], [], [], [], [], [], [], [0], [0], [], [], [0], [0], [], []] | 12 => [[], [], [], [], [], [], [], [], [], [], [], []] | _ => [] }
theorem classes19_s2_ok : ∀ v, classes19_s2 v = roundOf Tryz.prog E_sclasses classes19_h 3 0 83 (loopOf Tryz.f20 2) classes19_i2 classes19_o2 v := by
 rintro ⟨a0, a1, a2, a3, a4, ⟨⟩⟩
 kernel_rfl
theorem classes19_q2 : loopList (loopOf Tryz.f20 2) 3 = [] := by kernel_rfl
theorem classes19_l2 : CodeOK Tryz.prog 0 (.loop (loopOf Tryz.f20 2)) (classes19_h.loop 2) := loop_ok E_sclasses_ok (classes19_s2_ok) (LoopsOK_of classes19_q2 trivial)
theorem classes19_s1_ok : ∀ v, classes19_s1 v = roundOf Tryz.prog E_sclasses classes19_h 2 0 83 (loopOf Tryz.f20 1) classes19_i1 classes19_o1 v := by
 rintro ⟨a0, a1, a2, a3, ⟨⟩⟩
 kernel_rfl
theorem classes19_q1 : loopList (loopOf Tryz.f20 1) 2 = [(2, loopOf Tryz.f20 2)] := by kernel_rfl
theorem classes19_l1 : CodeOK Tryz.prog 0 (.loop (loopOf Tryz.f20 1)) (classes19_h.loop 1) := loop_ok E_sclasses_ok (classes19_s1_ok) (LoopsOK_of classes19_q1 ⟨classes19_l2, trivial⟩)
theorem classes19_s0_ok : ∀ v, classes19_s0 v = roundOf Tryz.prog E_sclasses classes19_h 1 0 83 (loopOf Tryz.f20 0) classes19_i0 classes19_o0 v := by
 rintro ⟨a0, a1, a2, a3, ⟨⟩⟩
 kernel_rfl
theorem classes19_q0 : loopList (loopOf Tryz.f20 0) 1 = [] := by kernel_rfl
theorem classes19_l0 : CodeOK Tryz.prog 0 (.loop (loopOf Tryz.f20 0)) (classes19_h.loop 0) := loop_ok E_sclasses_ok (classes19_s0_ok) (LoopsOK_of classes19_q0 trivial)
theorem classes19_okd : ∀ v, classes19_d v = pevCall Tryz.prog E_sclasses classes19_h Tryz.f20 classes19_i classes19_o classes19_r v := by
 rintro ⟨a0, a1, ⟨⟩⟩
 kernel_rfl
theorem classes19_q : loopList (bodyOf Tryz.f20) 0 = [(0, loopOf Tryz.f20 0), (1, loopOf Tryz.f20 1)] := by kernel_rfl
theorem classes19_spec : SpecOK Tryz.prog 20 (mkCall 2 classes19_i classes19_o classes19_r classes19) := call_spec E_sclasses_ok Tryz.func20 (by kernel_rfl) (by kernel_rfl) rfl (fun v => (classes19_eq v).trans (classes19_okd v)) (LoopsOK_of classes19_q ⟨classes19_l0, classes19_l1, trivial⟩)
def E_classes19 : Env := E_sclasses.ext 20 true true (mkCall 2 classes19_i classes19_o classes19_r classes19)
theorem E_classes19_ok : EnvOK Tryz.prog E_classes19 := Env.ext_ok E_sclasses_ok classes19_spec (fun _ => mkCall_local rfl rfl) (fun _ => mkCall_in rfl rfl)
-- archipelago/archipelagoref21.Top
abbrev top21_h : Hints := { loop := fun n => match n with | 0 => loopBy 0 20 top21_i0 top21_o0 top21_s0 | _ => fun _ _ _ => none }
theorem top21_s0_ok : ∀ v, top21_s0 v = roundOf Tryz.prog E_classes19 top21_h 1 0 20 (loopOf Tryz.f76 0) top21_i0 top21_o0 v := by
 rintro ⟨a0, a1, ⟨⟩⟩
 kernel_rfl
theorem top21_q0 : loopList (loopOf Tryz.f76 0) 1 = [] := by kernel_rfl
theorem top21_l0 : CodeOK Tryz.prog 0 (.loop (loopOf Tryz.f76 0)) (top21_h.loop 0) := loop_ok E_classes19_ok (top21_s0_ok) (LoopsOK_of top21_q0 trivial)
theorem top21_okd : ∀ v, top21_d v = pevCall Tryz.prog E_classes19 top21_h Tryz.f76 top21_i top21_o top21_r v := by
 rintro ⟨a0, ⟨⟩⟩
 kernel_rfl
theorem top21_q : loopList (bodyOf Tryz.f76) 0 = [(0, loopOf Tryz.f76 0)] := by kernel_rfl
theorem top21_spec : SpecOK Tryz.prog 76 (mkCall 1 top21_i top21_o top21_r top21) := call_spec E_classes19_ok Tryz.func76 (by kernel_rfl) (by kernel_rfl) rfl (fun v => (top21_eq v).trans (top21_okd v)) (LoopsOK_of top21_q ⟨top21_l0, trivial⟩)
def E_top21 : Env := E_classes19.ext 76 true true (mkCall 1 top21_i top21_o top21_r top21)
theorem E_top21_ok : EnvOK Tryz.prog E_top21 := Env.ext_ok E_classes19_ok top21_spec (fun _ => mkCall_local rfl rfl) (fun _ => mkCall_in rfl rfl)
-- archipelago/archipelagoref21.Right
abbrev right21_h : Hints := { loop := fun n => match n with | 0 => loopBy 0 138 right21_i0 right21_o0 right21_s0 | 1 => loopBy 0 138 right21_i1 right21_o1 right21_s1 | _ => fun _ _ _ => none, fp := fun n => match n with | 10 => [[], [], [], [0], [0], [], [], [], [], [], [4], [4], [], [], [0], [0], [], [], [], [], [], [4], [4], [], [], [0], [0], [], [], [], [], [], [4], [4], [], [], [], []] | 8 => [[4], [4], [], [], [4], [4], [4], [4], [], [], [], [4], [4], [0], [0], [], [], [], [4], [4], [], [], [], [4], [4], [0], [0], [], [], []] | _ => [] }
theorem right21_s1_ok : ∀ v, right21_s1 v = roundOf Tryz.prog E_top21 right21_h 2 0 138 (loopOf Tryz.f44 1) right21_i1 right21_o1 v := by
 rintro ⟨a0, a1, a2, a3, a4, a5, ⟨⟩⟩
 kernel_rfl
theorem right21_q1 : loopList (loopOf Tryz.f44 1) 2 = [] := by kernel_rfl
theorem right21_l1 : CodeOK Tryz.prog 0 (.loop (loopOf Tryz.f44 1)) (right21_h.loop 1) := loop_ok E_top21_ok (right21_s1_ok) (LoopsOK_of right21_q1 trivial)
theorem right21_s0_ok : ∀ v, right21_s0 v = roundOf Tryz.prog E_top21 right21_h 1 0 138 (loopOf Tryz.f44 0) right21_i0 right21_o0 v := by
 rintro ⟨a0, a1, a2, a3, ⟨⟩⟩
 kernel_rfl
theorem right21_q0 : loopList (loopOf Tryz.f44 0) 1 = [] := by kernel_rfl
theorem right21_l0 : CodeOK Tryz.prog 0 (.loop (loopOf Tryz.f44 0)) (right21_h.loop 0) := loop_ok E_top21_ok (right21_s0_ok) (LoopsOK_of right21_q0 trivial)
theorem right21_okd : ∀ v, right21_d v = pevCall Tryz.prog E_top21 right21_h Tryz.f44 right21_i right21_o right21_r v := by
 rintro ⟨a0, ⟨⟩⟩
 kernel_rfl
theorem right21_q : loopList (bodyOf Tryz.f44) 0 = [(0, loopOf Tryz.f44 0), (1, loopOf Tryz.f44 1)] := by kernel_rfl
theorem right21_spec : SpecOK Tryz.prog 44 (mkCall 1 right21_i right21_o right21_r right21) := call_spec E_top21_ok Tryz.func44 (by kernel_rfl) (by kernel_rfl) rfl (fun v => (right21_eq v).trans (right21_okd v)) (LoopsOK_of right21_q ⟨right21_l0, right21_l1, trivial⟩)
def E_right21 : Env := E_top21.ext 44 true true (mkCall 1 right21_i right21_o right21_r right21)
theorem E_right21_ok : EnvOK Tryz.prog E_right21 := Env.ext_ok E_top21_ok right21_spec (fun _ => mkCall_local rfl rfl) (fun _ => mkCall_in rfl rfl)
-- archipelago/archipelagoref21.Edges
abbrev edges21_h : Hints := { loop := fun n => match n with | 0 => loopBy 0 32 edges21_i0 edges21_o0 edges21_s0 | _ => fun _ _ _ => none, fp := fun n => match n with | 7 => [[], [0], [0], [], [], [], [], [0], [0], [], [], [], [], [], [], [3, 4], []] | _ => [] }
theorem edges21_s0_ok : ∀ v, edges21_s0 v = roundOf Tryz.prog E_right21 edges21_h 1 0 32 (loopOf Tryz.f17 0) edges21_i0 edges21_o0 v := by
 rintro ⟨a0, a1, a2, a3, ⟨⟩⟩
 kernel_rfl
theorem edges21_q0 : loopList (loopOf Tryz.f17 0) 1 = [] := by kernel_rfl
theorem edges21_l0 : CodeOK Tryz.prog 0 (.loop (loopOf Tryz.f17 0)) (edges21_h.loop 0) := loop_ok E_right21_ok (edges21_s0_ok) (LoopsOK_of edges21_q0 trivial)
theorem edges21_okd : ∀ v, edges21_d v = pevCall Tryz.prog E_right21 edges21_h Tryz.f17 edges21_i edges21_o edges21_r v := by
 rintro ⟨a0, ⟨⟩⟩
 kernel_rfl
theorem edges21_q : loopList (bodyOf Tryz.f17) 0 = [(0, loopOf Tryz.f17 0)] := by kernel_rfl
theorem edges21_spec : SpecOK Tryz.prog 17 (mkCall 1 edges21_i edges21_o edges21_r edges21) := call_spec E_right21_ok Tryz.func17 (by kernel_rfl) (by kernel_rfl) rfl (fun v => (edges21_eq v).trans (edges21_okd v)) (LoopsOK_of edges21_q ⟨edges21_l0, trivial⟩)
def E_edges21 : Env := E_right21.ext 17 true true (mkCall 1 edges21_i edges21_o edges21_r edges21)
theorem E_edges21_ok : EnvOK Tryz.prog E_edges21 := Env.ext_ok E_right21_ok edges21_spec (fun _ => mkCall_local rfl rfl) (fun _ => mkCall_in rfl rfl)
-- archipelago/archipelagoref11.Same
abbrev same11_h : Hints := { loop := fun n => match n with | 0 => loopBy 0 26 same11_i0 same11_o0 same11_s0 | _ => fun _ _ _ => none, fp := fun n => match n with | 6 => [[], [], [], [], [], [], [], [], []] | _ => [] }
theorem same11_s0_ok : ∀ v, same11_s0 v = roundOf Tryz.prog E_edges21 same11_h 1 0 26 (loopOf Tryz.f35 0) same11_i0 same11_o0 v := by
 rintro ⟨a0, a1, a2, ⟨⟩⟩
 kernel_rfl
theorem same11_q0 : loopList (loopOf Tryz.f35 0) 1 = [] := by kernel_rfl
theorem same11_l0 : CodeOK Tryz.prog 0 (.loop (loopOf Tryz.f35 0)) (same11_h.loop 0) := loop_ok E_edges21_ok (same11_s0_ok) (LoopsOK_of same11_q0 trivial)
theorem same11_okd : ∀ v, same11_d v = pevCall Tryz.prog E_edges21 same11_h Tryz.f35 same11_i same11_o same11_r v := by
 rintro ⟨a0, a1, ⟨⟩⟩
 kernel_rfl
theorem same11_q : loopList (bodyOf Tryz.f35) 0 = [(0, loopOf Tryz.f35 0)] := by kernel_rfl
theorem same11_spec : SpecOK Tryz.prog 35 (mkCall 2 same11_i same11_o same11_r same11) := call_spec E_edges21_ok Tryz.func35 (by kernel_rfl) (by kernel_rfl) rfl (fun v => (same11_eq v).trans (same11_okd v)) (LoopsOK_of same11_q ⟨same11_l0, trivial⟩)
def E_same11 : Env := E_edges21.ext 35 true true (mkCall 2 same11_i same11_o same11_r same11)
theorem E_same11_ok : EnvOK Tryz.prog E_same11 := Env.ext_ok E_edges21_ok same11_spec (fun _ => mkCall_local rfl rfl) (fun _ => mkCall_in rfl rfl)
-- archipelago/tour.Of
abbrev tof_h : Hints := {  }
theorem tof_okd : ∀ v, tof_d v = pevCall Tryz.prog E_same11 tof_h Tryz.f129 tof_i tof_o tof_r v := by
 rintro ⟨a0, a1, ⟨⟩⟩
 kernel_rfl
theorem tof_q : loopList (bodyOf Tryz.f129) 0 = [] := by kernel_rfl
theorem tof_spec : SpecOK Tryz.prog 129 (mkCall 2 tof_i tof_o tof_r tof) := call_spec E_same11_ok Tryz.func129 (by kernel_rfl) (by kernel_rfl) rfl (fun v => (tof_eq v).trans (tof_okd v)) (LoopsOK_of tof_q trivial)
def E_tof : Env := E_same11.ext 129 true true (mkCall 2 tof_i tof_o tof_r tof)
theorem E_tof_ok : EnvOK Tryz.prog E_tof := Env.ext_ok E_same11_ok tof_spec (fun _ => mkCall_local rfl rfl) (fun _ => mkCall_in rfl rfl)
-- archipelago/forest.Least
abbrev fleast_h : Hints := { fp := fun n => match n with | 4 => [[0], [0], [0], [], [], [], [], [], [], [], []] | _ => [] }
theorem fleast_okd : ∀ v, fleast_d v = pevCall Tryz.prog E_tof fleast_h Tryz.f93 fleast_i fleast_o fleast_r v := by
 rintro ⟨a0, a1, ⟨⟩⟩
 kernel_rfl
theorem fleast_q : loopList (bodyOf Tryz.f93) 0 = [] := by kernel_rfl
theorem fleast_spec : SpecOK Tryz.prog 93 (mkCall 2 fleast_i fleast_o fleast_r fleast) := call_spec E_tof_ok Tryz.func93 (by kernel_rfl) (by kernel_rfl) rfl (fun v => (fleast_eq v).trans (fleast_okd v)) (LoopsOK_of fleast_q trivial)
def E_fleast : Env := E_tof.ext 93 true true (mkCall 2 fleast_i fleast_o fleast_r fleast)
theorem E_fleast_ok : EnvOK Tryz.prog E_fleast := Env.ext_ok E_tof_ok fleast_spec (fun _ => mkCall_local rfl rfl) (fun _ => mkCall_in rfl rfl)
-- archipelago/archipelagoref20.asked
abbrev asked20_h : Hints := { loop := fun n => match n with | 0 => loopBy 0 50 asked20_i0 asked20_o0 asked20_s0 | _ => fun _ _ _ => none }
theorem asked20_s0_ok : ∀ v, asked20_s0 v = roundOf Tryz.prog E_fleast asked20_h 1 0 50 (loopOf Tryz.f45 0) asked20_i0 asked20_o0 v := by
 rintro ⟨a0, a1, a2, ⟨⟩⟩
 kernel_rfl
theorem asked20_q0 : loopList (loopOf Tryz.f45 0) 1 = [] := by kernel_rfl
theorem asked20_l0 : CodeOK Tryz.prog 0 (.loop (loopOf Tryz.f45 0)) (asked20_h.loop 0) := loop_ok E_fleast_ok (asked20_s0_ok) (LoopsOK_of asked20_q0 trivial)
theorem asked20_okd : ∀ v, asked20_d v = pevCall Tryz.prog E_fleast asked20_h Tryz.f45 asked20_i asked20_o asked20_r v := by
 rintro ⟨a0, a1, ⟨⟩⟩
 kernel_rfl
theorem asked20_q : loopList (bodyOf Tryz.f45) 0 = [(0, loopOf Tryz.f45 0)] := by kernel_rfl
theorem asked20_spec : SpecOK Tryz.prog 45 (mkCall 2 asked20_i asked20_o asked20_r asked20) := call_spec E_fleast_ok Tryz.func45 (by kernel_rfl) (by kernel_rfl) rfl (fun v => (asked20_eq v).trans (asked20_okd v)) (LoopsOK_of asked20_q ⟨asked20_l0, trivial⟩)
def E_asked20 : Env := E_fleast.ext 45 true true (mkCall 2 asked20_i asked20_o asked20_r asked20)
theorem E_asked20_ok : EnvOK Tryz.prog E_asked20 := Env.ext_ok E_fleast_ok asked20_spec (fun _ => mkCall_local rfl rfl) (fun _ => mkCall_in rfl rfl)
-- archipelago/archipelagoref20.Classes
abbrev classes20_h : Hints := {  }
theorem classes20_okd : ∀ v, classes20_d v = pevCall Tryz.prog E_asked20 classes20_h Tryz.f16 classes20_i classes20_o classes20_r v := by
 rintro ⟨a0, a1, ⟨⟩⟩
 kernel_rfl
theorem classes20_q : loopList (bodyOf Tryz.f16) 0 = [] := by kernel_rfl
theorem classes20_spec : SpecOK Tryz.prog 16 (mkCall 2 classes20_i classes20_o classes20_r classes20) := call_spec E_asked20_ok Tryz.func16 (by kernel_rfl) (by kernel_rfl) rfl (fun v => (classes20_eq v).trans (classes20_okd v)) (LoopsOK_of classes20_q trivial)
def E_classes20 : Env := E_asked20.ext 16 true true (mkCall 2 classes20_i classes20_o classes20_r classes20)
theorem E_classes20_ok : EnvOK Tryz.prog E_classes20 := Env.ext_ok E_asked20_ok classes20_spec (fun _ => mkCall_local rfl rfl) (fun _ => mkCall_in rfl rfl)
-- archipelago/archipelagoref21.Find
abbrev find21_h : Hints := { loop := fun n => match n with | 0 => loopBy 0 41 find21_i0 find21_o0 find21_s0 | _ => fun _ _ _ => none }
theorem find21_s0_ok : ∀ v, find21_s0 v = roundOf Tryz.prog E_classes20 find21_h 1 0 41 (loopOf Tryz.f15 0) find21_i0 find21_o0 v := by
 rintro ⟨a0, a1, a2, a3, a4, ⟨⟩⟩
 kernel_rfl
theorem find21_q0 : loopList (loopOf Tryz.f15 0) 1 = [] := by kernel_rfl
theorem find21_l0 : CodeOK Tryz.prog 0 (.loop (loopOf Tryz.f15 0)) (find21_h.loop 0) := loop_ok E_classes20_ok (find21_s0_ok) (LoopsOK_of find21_q0 trivial)
theorem find21_okd : ∀ v, find21_d v = pevCall Tryz.prog E_classes20 find21_h Tryz.f15 find21_i find21_o find21_r v := by
 rintro ⟨a0, a1, a2, ⟨⟩⟩
 kernel_rfl
theorem find21_q : loopList (bodyOf Tryz.f15) 0 = [(0, loopOf Tryz.f15 0)] := by kernel_rfl
theorem find21_spec : SpecOK Tryz.prog 15 (mkCall 3 find21_i find21_o find21_r find21) := call_spec E_classes20_ok Tryz.func15 (by kernel_rfl) (by kernel_rfl) rfl (fun v => (find21_eq v).trans (find21_okd v)) (LoopsOK_of find21_q ⟨find21_l0, trivial⟩)
def E_find21 : Env := E_classes20.ext 15 true true (mkCall 3 find21_i find21_o find21_r find21)
theorem E_find21_ok : EnvOK Tryz.prog E_find21 := Env.ext_ok E_classes20_ok find21_spec (fun _ => mkCall_local rfl rfl) (fun _ => mkCall_in rfl rfl)
-- archipelago/archipelagoref21.Trees
abbrev trees21_h : Hints := { loop := fun n => match n with | 0 => loopBy 0 47 trees21_i0 trees21_o0 trees21_s0 | _ => fun _ _ _ => none, fp := fun n => match n with | 6 => [[], [0], [0], [], [], [], [], [0], [0], [], [], [], [], [], [], [3, 4], []] | _ => [] }
theorem trees21_s0_ok : ∀ v, trees21_s0 v = roundOf Tryz.prog E_find21 trees21_h 1 0 47 (loopOf Tryz.f18 0) trees21_i0 trees21_o0 v := by
 rintro ⟨a0, a1, a2, a3, a4, ⟨⟩⟩
 kernel_rfl
theorem trees21_q0 : loopList (loopOf Tryz.f18 0) 1 = [] := by kernel_rfl
theorem trees21_l0 : CodeOK Tryz.prog 0 (.loop (loopOf Tryz.f18 0)) (trees21_h.loop 0) := loop_ok E_find21_ok (trees21_s0_ok) (LoopsOK_of trees21_q0 trivial)
theorem trees21_okd : ∀ v, trees21_d v = pevCall Tryz.prog E_find21 trees21_h Tryz.f18 trees21_i trees21_o trees21_r v := by
 rintro ⟨a0, a1, ⟨⟩⟩
 kernel_rfl
theorem trees21_q : loopList (bodyOf Tryz.f18) 0 = [(0, loopOf Tryz.f18 0)] := by kernel_rfl
theorem trees21_spec : SpecOK Tryz.prog 18 (mkCall 2 trees21_i trees21_o trees21_r trees21) := call_spec E_find21_ok Tryz.func18 (by kernel_rfl) (by kernel_rfl) rfl (fun v => (trees21_eq v).trans (trees21_okd v)) (LoopsOK_of trees21_q ⟨trees21_l0, trivial⟩)
def E_trees21 : Env := E_find21.ext 18 true true (mkCall 2 trees21_i trees21_o trees21_r trees21)
theorem E_trees21_ok : EnvOK Tryz.prog E_trees21 := Env.ext_ok E_find21_ok trees21_spec (fun _ => mkCall_local rfl rfl) (fun _ => mkCall_in rfl rfl)
-- archipelago/archipelagoref21.Same
abbrev same21_h : Hints := { loop := fun n => match n with | 0 => loopBy 0 38 same21_i0 same21_o0 same21_s0 | _ => fun _ _ _ => none, fp := fun n => match n with | 6 => [[0], [0], [], [], [], [2], [2], [], [], [], []] | _ => [] }
theorem same21_s0_ok : ∀ v, same21_s0 v = roundOf Tryz.prog E_trees21 same21_h 1 0 38 (loopOf Tryz.f14 0) same21_i0 same21_o0 v := by
 rintro ⟨a0, a1, a2, a3, a4, ⟨⟩⟩
 kernel_rfl
theorem same21_q0 : loopList (loopOf Tryz.f14 0) 1 = [] := by kernel_rfl
theorem same21_l0 : CodeOK Tryz.prog 0 (.loop (loopOf Tryz.f14 0)) (same21_h.loop 0) := loop_ok E_trees21_ok (same21_s0_ok) (LoopsOK_of same21_q0 trivial)
theorem same21_okd : ∀ v, same21_d v = pevCall Tryz.prog E_trees21 same21_h Tryz.f14 same21_i same21_o same21_r v := by
 rintro ⟨a0, a1, ⟨⟩⟩
 kernel_rfl
theorem same21_q : loopList (bodyOf Tryz.f14) 0 = [(0, loopOf Tryz.f14 0)] := by kernel_rfl
theorem same21_spec : SpecOK Tryz.prog 14 (mkCall 2 same21_i same21_o same21_r same21) := call_spec E_trees21_ok Tryz.func14 (by kernel_rfl) (by kernel_rfl) rfl (fun v => (same21_eq v).trans (same21_okd v)) (LoopsOK_of same21_q ⟨same21_l0, trivial⟩)
def E_same21 : Env := E_trees21.ext 14 true true (mkCall 2 same21_i same21_o same21_r same21)
theorem E_same21_ok : EnvOK Tryz.prog E_same21 := Env.ext_ok E_trees21_ok same21_spec (fun _ => mkCall_local rfl rfl) (fun _ => mkCall_in rfl rfl)
end
end Go.Pev
end
section
namespace Go.Pev
open Go.Proofs
set_option maxRecDepth 100000
noncomputable section
-- archipelago/grow.compare
abbrev gcompare_h : Hints := { fp := fun n => match n with | 1 => [[0], [0], [2], [2], [], [0], [0], [2], [2], [], [], [20], []] | _ => [] }
theorem gcompare_okd : ∀ v, gcompare_d v = pevCall Tryz.prog E_same21 gcompare_h Tryz.f43 gcompare_i gcompare_o gcompare_r v := by
 rintro ⟨a0, a1, ⟨⟩⟩
 kernel_rfl
theorem gcompare_q : loopList (bodyOf Tryz.f43) 0 = [] := by kernel_rfl
theorem gcompare_spec : SpecOK Tryz.prog 43 (mkCall 2 gcompare_i gcompare_o gcompare_r gcompare) := call_spec E_same21_ok Tryz.func43 (by kernel_rfl) (by kernel_rfl) rfl (fun v => (gcompare_eq v).trans (gcompare_okd v)) (LoopsOK_of gcompare_q trivial)
def E_gcompare : Env := E_same21.ext 43 true true (mkCall 2 gcompare_i gcompare_o gcompare_r gcompare)
theorem E_gcompare_ok : EnvOK Tryz.prog E_gcompare := Env.ext_ok E_same21_ok gcompare_spec (fun _ => mkCall_local rfl rfl) (fun _ => mkCall_in rfl rfl)
-- slices.insertionSortCmpFunc[archipelago/api.Edge]
abbrev insE_h : Hints := { loop := fun n => match n with | 0 => loopBy 1 53 insE_i0 insE_o0 insE_s0 | 1 => loopBy 1 53 insE_i1 insE_o1 insE_s1 | _ => fun _ _ _ => none, fp := fun n => match n with | 4 => [[], [], [], [], [], [], [], [0], [0], [], [], [], [0], [0], [], [], []] | 6 => [[], [], [], [], [], [], [], [], [0], [0], [], [], [0], [0], [0], [1], [0], [1]] | _ => [] }
theorem insE_s1_ok : ∀ v, insE_s1 v = roundOf Tryz.prog E_gcompare insE_h 2 1 53 (loopOf Tryz.f114 1) insE_i1 insE_o1 v := by
 rintro ⟨a0, a1, a2, a3, a4, ⟨⟩⟩
 kernel_rfl
theorem insE_q1 : loopList (loopOf Tryz.f114 1) 2 = [] := by kernel_rfl
theorem insE_l1 : CodeOK Tryz.prog 1 (.loop (loopOf Tryz.f114 1)) (insE_h.loop 1) := loop_ok E_gcompare_ok (insE_s1_ok) (LoopsOK_of insE_q1 trivial)
theorem insE_s0_ok : ∀ v, insE_s0 v = roundOf Tryz.prog E_gcompare insE_h 1 1 53 (loopOf Tryz.f114 0) insE_i0 insE_o0 v := by
 rintro ⟨a0, a1, a2, a3, ⟨⟩⟩
 kernel_rfl
theorem insE_q0 : loopList (loopOf Tryz.f114 0) 1 = [(1, loopOf Tryz.f114 1)] := by kernel_rfl
theorem insE_l0 : CodeOK Tryz.prog 1 (.loop (loopOf Tryz.f114 0)) (insE_h.loop 0) := loop_ok E_gcompare_ok (insE_s0_ok) (LoopsOK_of insE_q0 ⟨insE_l1, trivial⟩)
theorem insE_okd : ∀ v, insE_d v = pevCall Tryz.prog E_gcompare insE_h Tryz.f114 insE_i insE_o insE_r v := by
 rintro ⟨a0, a1, a2, ⟨⟩⟩
 kernel_rfl
theorem insE_q : loopList (bodyOf Tryz.f114) 0 = [(0, loopOf Tryz.f114 0)] := by kernel_rfl
theorem insE_spec : SpecOK Tryz.prog 114 (mkCall 4 insE_i insE_o insE_r insE) := call_spec E_gcompare_ok Tryz.func114 (by kernel_rfl) (by kernel_rfl) rfl (fun v => (insE_eq v).trans (insE_okd v)) (LoopsOK_of insE_q ⟨insE_l0, trivial⟩)
def E_insE : Env := E_gcompare.extC 114 3 43 (mkCall 4 insE_i insE_o insE_r insE)
theorem E_insE_ok : EnvOK Tryz.prog E_insE := Env.extC_ok E_gcompare_ok insE_spec (mkCall_in rfl rfl)
-- slices.siftDownCmpFunc[archipelago/api.Edge]
abbrev siftE_h : Hints := { loop := fun n => match n with | 0 => loopBy 1 82 siftE_i0 siftE_o0 siftE_s0 | _ => fun _ _ _ => none, fp := fun n => match n with | 6 => [[], [], [], [], [], [], [], [], [], [], [], [], [0], [0], [], [], [], [], [0], [0], [0], [1], [0], [1]] | 5 => [[], [], [], [], [], [0], [0], [], [], [], [], [0], [0], [], [], []] | 3 => [[], [], [], [], [], [], [], [], [], [], [0], [0], [], [], [], [], [], [0], [0], [], [], []] | _ => [] }
theorem siftE_s0_ok : ∀ v, siftE_s0 v = roundOf Tryz.prog E_insE siftE_h 1 1 82 (loopOf Tryz.f140 0) siftE_i0 siftE_o0 v := by
 rintro ⟨a0, a1, a2, a3, ⟨⟩⟩
 kernel_rfl
theorem siftE_q0 : loopList (loopOf Tryz.f140 0) 1 = [] := by kernel_rfl
theorem siftE_l0 : CodeOK Tryz.prog 1 (.loop (loopOf Tryz.f140 0)) (siftE_h.loop 0) := loop_ok E_insE_ok (siftE_s0_ok) (LoopsOK_of siftE_q0 trivial)
theorem siftE_okd : ∀ v, siftE_d v = pevCall Tryz.prog E_insE siftE_h Tryz.f140 siftE_i siftE_o siftE_r v := by
 rintro ⟨a0, a1, a2, a3, ⟨⟩⟩
 kernel_rfl
theorem siftE_q : loopList (bodyOf Tryz.f140) 0 = [(0, loopOf Tryz.f140 0)] := by kernel_rfl
theorem siftE_spec : SpecOK Tryz.prog 140 (mkCall 5 siftE_i siftE_o siftE_r siftE) := call_spec E_insE_ok Tryz.func140 (by kernel_rfl) (by kernel_rfl) rfl (fun v => (siftE_eq v).trans (siftE_okd v)) (LoopsOK_of siftE_q ⟨siftE_l0, trivial⟩)
def E_siftE : Env := E_insE.extC 140 4 43 (mkCall 5 siftE_i siftE_o siftE_r siftE)
theorem E_siftE_ok : EnvOK Tryz.prog E_siftE := Env.extC_ok E_insE_ok siftE_spec (mkCall_in rfl rfl)
-- slices.heapSortCmpFunc[archipelago/api.Edge]
abbrev heapE_h : Hints := { loop := fun n => match n with | 0 => loopBy 1 60 heapE_i0 heapE_o0 heapE_s0 | 1 => loopBy 1 60 heapE_i1 heapE_o1 heapE_s1 | _ => fun _ _ _ => none, fp := fun n => match n with | 10 => [[], [], [], [], [], [], [], [], [], [], [0], [0], [], [], [0], [0], [0], [1], [0], [1]] | _ => [] }
theorem heapE_s1_ok : ∀ v, heapE_s1 v = roundOf Tryz.prog E_siftE heapE_h 2 1 60 (loopOf Tryz.f115 1) heapE_i1 heapE_o1 v := by
 rintro ⟨a0, a1, a2, a3, ⟨⟩⟩
 kernel_rfl
theorem heapE_q1 : loopList (loopOf Tryz.f115 1) 2 = [] := by kernel_rfl
theorem heapE_l1 : CodeOK Tryz.prog 1 (.loop (loopOf Tryz.f115 1)) (heapE_h.loop 1) := loop_ok E_siftE_ok (heapE_s1_ok) (LoopsOK_of heapE_q1 trivial)
theorem heapE_s0_ok : ∀ v, heapE_s0 v = roundOf Tryz.prog E_siftE heapE_h 1 1 60 (loopOf Tryz.f115 0) heapE_i0 heapE_o0 v := by
 rintro ⟨a0, a1, a2, a3, a4, ⟨⟩⟩
 kernel_rfl
theorem heapE_q0 : loopList (loopOf Tryz.f115 0) 1 = [] := by kernel_rfl
theorem heapE_l0 : CodeOK Tryz.prog 1 (.loop (loopOf Tryz.f115 0)) (heapE_h.loop 0) := loop_ok E_siftE_ok (heapE_s0_ok) (LoopsOK_of heapE_q0 trivial)
theorem heapE_okd : ∀ v, heapE_d v = pevCall Tryz.prog E_siftE heapE_h Tryz.f115 heapE_i heapE_o heapE_r v := by
 rintro ⟨a0, a1, a2, ⟨⟩⟩
 kernel_rfl
theorem heapE_q : loopList (bodyOf Tryz.f115) 0 = [(0, loopOf Tryz.f115 0), (1, loopOf Tryz.f115 1)] := by kernel_rfl
theorem heapE_spec : SpecOK Tryz.prog 115 (mkCall 4 heapE_i heapE_o heapE_r heapE) := call_spec E_siftE_ok Tryz.func115 (by kernel_rfl) (by kernel_rfl) rfl (fun v => (heapE_eq v).trans (heapE_okd v)) (LoopsOK_of heapE_q ⟨heapE_l0, heapE_l1, trivial⟩)
def E_heapE : Env := E_siftE.extC 115 3 43 (mkCall 4 heapE_i heapE_o heapE_r heapE)
theorem E_heapE_ok : EnvOK Tryz.prog E_heapE := Env.extC_ok E_siftE_ok heapE_spec (mkCall_in rfl rfl)
-- slices.breakPatternsCmpFunc[archipelago/api.Edge]
abbrev breakE_h : Hints := { loop := fun n => match n with | 0 => loopBy 1 67 breakE_i0 breakE_o0 breakE_s0 | _ => fun _ _ _ => none, fp := fun n => match n with | 10 => [[], [], [], [], [], [], [], [], [], [], [0], [0], [], [], [0], [0], [0], [1], [0], [1]] | _ => [] }
theorem breakE_s0_ok : ∀ v, breakE_s0 v = roundOf Tryz.prog E_heapE breakE_h 1 1 67 (loopOf Tryz.f116 0) breakE_i0 breakE_o0 v := by
 rintro ⟨a0, a1, a2, a3, a4, a5, ⟨⟩⟩
 kernel_rfl
theorem breakE_q0 : loopList (loopOf Tryz.f116 0) 1 = [] := by kernel_rfl
theorem breakE_l0 : CodeOK Tryz.prog 1 (.loop (loopOf Tryz.f116 0)) (breakE_h.loop 0) := loop_ok E_heapE_ok (breakE_s0_ok) (LoopsOK_of breakE_q0 trivial)
theorem breakE_okd : ∀ v, breakE_d v = pevCall Tryz.prog E_heapE breakE_h Tryz.f116 breakE_i breakE_o breakE_r v := by
 rintro ⟨a0, a1, a2, ⟨⟩⟩
 kernel_rfl
theorem breakE_q : loopList (bodyOf Tryz.f116) 0 = [(0, loopOf Tryz.f116 0)] := by kernel_rfl
theorem breakE_spec : SpecOK Tryz.prog 116 (mkCall 4 breakE_i breakE_o breakE_r breakE) := call_spec E_heapE_ok Tryz.func116 (by kernel_rfl) (by kernel_rfl) rfl (fun v => (breakE_eq v).trans (breakE_okd v)) (LoopsOK_of breakE_q ⟨breakE_l0, trivial⟩)
def E_breakE : Env := E_heapE.extC 116 3 43 (mkCall 4 breakE_i breakE_o breakE_r breakE)
theorem E_breakE_ok : EnvOK Tryz.prog E_breakE := Env.extC_ok E_heapE_ok breakE_spec (mkCall_in rfl rfl)
-- slices.order2CmpFunc[archipelago/api.Edge]
abbrev order2E_h : Hints := { fp := fun n => match n with | 1 => [[], [], [], [0], [0], [], [], [0], [0], [], []] | _ => [] }
theorem order2E_okd : ∀ v, order2E_d v = pevCall Tryz.prog E_breakE order2E_h Tryz.f158 order2E_i order2E_o order2E_r v := by
 rintro ⟨a0, a1, a2, a3, ⟨⟩⟩
 kernel_rfl
theorem order2E_q : loopList (bodyOf Tryz.f158) 0 = [] := by kernel_rfl
theorem order2E_spec : SpecOK Tryz.prog 158 (mkCall 5 order2E_i order2E_o order2E_r order2E) := call_spec E_breakE_ok Tryz.func158 (by kernel_rfl) (by kernel_rfl) rfl (fun v => (order2E_eq v).trans (order2E_okd v)) (LoopsOK_of order2E_q trivial)
def E_order2E : Env := E_breakE.extC 158 4 43 (mkCall 5 order2E_i order2E_o order2E_r order2E)
theorem E_order2E_ok : EnvOK Tryz.prog E_order2E := Env.extC_ok E_breakE_ok order2E_spec (mkCall_in rfl rfl)
-- slices.medianCmpFunc[archipelago/api.Edge]
abbrev medianE_h : Hints := {  }
theorem medianE_okd : ∀ v, medianE_d v = pevCall Tryz.prog E_order2E medianE_h Tryz.f142 medianE_i medianE_o medianE_r v := by
 rintro ⟨a0, a1, a2, a3, a4, ⟨⟩⟩
 kernel_rfl
theorem medianE_q : loopList (bodyOf Tryz.f142) 0 = [] := by kernel_rfl
theorem medianE_spec : SpecOK Tryz.prog 142 (mkCall 6 medianE_i medianE_o medianE_r medianE) := call_spec E_order2E_ok Tryz.func142 (by kernel_rfl) (by kernel_rfl) rfl (fun v => (medianE_eq v).trans (medianE_okd v)) (LoopsOK_of medianE_q trivial)
def E_medianE : Env := E_order2E.extC 142 5 43 (mkCall 6 medianE_i medianE_o medianE_r medianE)
theorem E_medianE_ok : EnvOK Tryz.prog E_medianE := Env.extC_ok E_order2E_ok medianE_spec (mkCall_in rfl rfl)
-- slices.medianAdjacentCmpFunc[archipelago/api.Edge]
abbrev medAdjE_h : Hints := {  }
theorem medAdjE_okd : ∀ v, medAdjE_d v = pevCall Tryz.prog E_medianE medAdjE_h Tryz.f141 medAdjE_i medAdjE_o medAdjE_r v := by
 rintro ⟨a0, a1, a2, ⟨⟩⟩
 kernel_rfl
theorem medAdjE_q : loopList (bodyOf Tryz.f141) 0 = [] := by kernel_rfl
theorem medAdjE_spec : SpecOK Tryz.prog 141 (mkCall 4 medAdjE_i medAdjE_o medAdjE_r medAdjE) := call_spec E_medianE_ok Tryz.func141 (by kernel_rfl) (by kernel_rfl) rfl (fun v => (medAdjE_eq v).trans (medAdjE_okd v)) (LoopsOK_of medAdjE_q trivial)
def E_medAdjE : Env := E_medianE.extC 141 3 43 (mkCall 4 medAdjE_i medAdjE_o medAdjE_r medAdjE)
theorem E_medAdjE_ok : EnvOK Tryz.prog E_medAdjE := Env.extC_ok E_medianE_ok medAdjE_spec (mkCall_in rfl rfl)
-- slices.choosePivotCmpFunc[archipelago/api.Edge]
abbrev pivotE_h : Hints := {  }
theorem pivotE_okd : ∀ v, pivotE_d v = pevCall Tryz.prog E_medAdjE pivotE_h Tryz.f117 pivotE_i pivotE_o pivotE_r v := by
 rintro ⟨a0, a1, a2, ⟨⟩⟩
 kernel_rfl
theorem pivotE_q : loopList (bodyOf Tryz.f117) 0 = [] := by kernel_rfl
theorem pivotE_spec : SpecOK Tryz.prog 117 (mkCall 4 pivotE_i pivotE_o pivotE_r pivotE) := call_spec E_medAdjE_ok Tryz.func117 (by kernel_rfl) (by kernel_rfl) rfl (fun v => (pivotE_eq v).trans (pivotE_okd v)) (LoopsOK_of pivotE_q trivial)
def E_pivotE : Env := E_medAdjE.extC 117 3 43 (mkCall 4 pivotE_i pivotE_o pivotE_r pivotE)
theorem E_pivotE_ok : EnvOK Tryz.prog E_pivotE := Env.extC_ok E_medAdjE_ok pivotE_spec (mkCall_in rfl rfl)
-- slices.reverseRangeCmpFunc[archipelago/api.Edge]
abbrev revE_h : Hints := { loop := fun n => match n with | 0 => loopBy 1 34 revE_i0 revE_o0 revE_s0 | _ => fun _ _ _ => none, fp := fun n => match n with | 3 => [[], [], [], [], [], [], [0], [0], [], [], [0], [0], [0], [1], [0], [1]] | _ => [] }
theorem revE_s0_ok : ∀ v, revE_s0 v = roundOf Tryz.prog E_pivotE revE_h 1 1 34 (loopOf Tryz.f118 0) revE_i0 revE_o0 v := by
 rintro ⟨a0, a1, a2, ⟨⟩⟩
 kernel_rfl
theorem revE_q0 : loopList (loopOf Tryz.f118 0) 1 = [] := by kernel_rfl
theorem revE_l0 : CodeOK Tryz.prog 1 (.loop (loopOf Tryz.f118 0)) (revE_h.loop 0) := loop_ok E_pivotE_ok (revE_s0_ok) (LoopsOK_of revE_q0 trivial)
theorem revE_okd : ∀ v, revE_d v = pevCall Tryz.prog E_pivotE revE_h Tryz.f118 revE_i revE_o revE_r v := by
 rintro ⟨a0, a1, a2, ⟨⟩⟩
 kernel_rfl
theorem revE_q : loopList (bodyOf Tryz.f118) 0 = [(0, loopOf Tryz.f118 0)] := by kernel_rfl
theorem revE_spec : SpecOK Tryz.prog 118 (mkCall 4 revE_i revE_o revE_r revE) := call_spec E_pivotE_ok Tryz.func118 (by kernel_rfl) (by kernel_rfl) rfl (fun v => (revE_eq v).trans (revE_okd v)) (LoopsOK_of revE_q ⟨revE_l0, trivial⟩)
def E_revE : Env := E_pivotE.extC 118 3 43 (mkCall 4 revE_i revE_o revE_r revE)
theorem E_revE_ok : EnvOK Tryz.prog E_revE := Env.extC_ok E_pivotE_ok revE_spec (mkCall_in rfl rfl)
-- slices.partialInsertionSortCmpFunc[archipelago/api.Edge]
abbrev partInsE_h : Hints := { loop := fun n => match n with | 0 => loopBy 1 141 partInsE_i0 partInsE_o0 partInsE_s0 | 1 => loopBy 1 141 partInsE_i1 partInsE_o1 partInsE_s1 | 2 => loopBy 1 141 partInsE_i2 partInsE_o2 partInsE_s2 | 3 => loopBy 1 141 partInsE_i3 partInsE_o3 partInsE_s3 | _ => fun _ _ _ => none, fp := fun n => match n with | 11 => [[], [], [], [], [], [], [], [], [0], [0], [], [], [0], [0], [0], [1], [0], [1]] | 5 => [[], [], [], [], [], [], [], [0], [0], [], [], [], [0], [0], [], [], [], []] | 17 => [[], [], [], [], [], [], [], [], [0], [0], [], [], [0], [0], [0], [1], [0], [1]] | 16 => [[], [], [], [0], [0], [], [], [], [0], [0], [], [], []] | 23 => [[], [], [], [], [], [], [], [], [0], [0], [], [], [0], [0], [0], [1], [0], [1]] | 22 => [[], [], [], [0], [0], [], [], [], [0], [0], [], [], []] | _ => [] }
theorem partInsE_s3_ok : ∀ v, partInsE_s3 v = roundOf Tryz.prog E_revE partInsE_h 4 1 141 (loopOf Tryz.f119 3) partInsE_i3 partInsE_o3 v := by
 rintro ⟨a0, a1, a2, a3, a4, a5, ⟨⟩⟩
 kernel_rfl
theorem partInsE_q3 : loopList (loopOf Tryz.f119 3) 4 = [] := by kernel_rfl
theorem partInsE_l3 : CodeOK Tryz.prog 1 (.loop (loopOf Tryz.f119 3)) (partInsE_h.loop 3) := loop_ok E_revE_ok (partInsE_s3_ok) (LoopsOK_of partInsE_q3 trivial)
theorem partInsE_s2_ok : ∀ v, partInsE_s2 v = roundOf Tryz.prog E_revE partInsE_h 3 1 141 (loopOf Tryz.f119 2) partInsE_i2 partInsE_o2 v := by
 rintro ⟨a0, a1, a2, a3, a4, a5, ⟨⟩⟩
 kernel_rfl
theorem partInsE_q2 : loopList (loopOf Tryz.f119 2) 3 = [] := by kernel_rfl
theorem partInsE_l2 : CodeOK Tryz.prog 1 (.loop (loopOf Tryz.f119 2)) (partInsE_h.loop 2) := loop_ok E_revE_ok (partInsE_s2_ok) (LoopsOK_of partInsE_q2 trivial)
theorem partInsE_s1_ok : ∀ v, partInsE_s1 v = roundOf Tryz.prog E_revE partInsE_h 2 1 141 (loopOf Tryz.f119 1) partInsE_i1 partInsE_o1 v := by
 rintro ⟨a0, a1, a2, a3, a4, ⟨⟩⟩
 kernel_rfl
theorem partInsE_q1 : loopList (loopOf Tryz.f119 1) 2 = [] := by kernel_rfl
theorem partInsE_l1 : CodeOK Tryz.prog 1 (.loop (loopOf Tryz.f119 1)) (partInsE_h.loop 1) := loop_ok E_revE_ok (partInsE_s1_ok) (LoopsOK_of partInsE_q1 trivial)
theorem partInsE_s0_ok : ∀ v, partInsE_s0 v = roundOf Tryz.prog E_revE partInsE_h 1 1 141 (loopOf Tryz.f119 0) partInsE_i0 partInsE_o0 v := by
 rintro ⟨a0, a1, a2, a3, a4, ⟨⟩⟩
 kernel_rfl
theorem partInsE_q0 : loopList (loopOf Tryz.f119 0) 1 = [(1, loopOf Tryz.f119 1), (2, loopOf Tryz.f119 2), (3, loopOf Tryz.f119 3)] := by kernel_rfl
theorem partInsE_l0 : CodeOK Tryz.prog 1 (.loop (loopOf Tryz.f119 0)) (partInsE_h.loop 0) := loop_ok E_revE_ok (partInsE_s0_ok) (LoopsOK_of partInsE_q0 ⟨partInsE_l1, partInsE_l2, partInsE_l3, trivial⟩)
theorem partInsE_okd : ∀ v, partInsE_d v = pevCall Tryz.prog E_revE partInsE_h Tryz.f119 partInsE_i partInsE_o partInsE_r v := by
 rintro ⟨a0, a1, a2, ⟨⟩⟩
 kernel_rfl
theorem partInsE_q : loopList (bodyOf Tryz.f119) 0 = [(0, loopOf Tryz.f119 0)] := by kernel_rfl
theorem partInsE_spec : SpecOK Tryz.prog 119 (mkCall 4 partInsE_i partInsE_o partInsE_r partInsE) := call_spec E_revE_ok Tryz.func119 (by kernel_rfl) (by kernel_rfl) rfl (fun v => (partInsE_eq v).trans (partInsE_okd v)) (LoopsOK_of partInsE_q ⟨partInsE_l0, trivial⟩)
def E_partInsE : Env := E_revE.extC 119 3 43 (mkCall 4 partInsE_i partInsE_o partInsE_r partInsE)
theorem E_partInsE_ok : EnvOK Tryz.prog E_partInsE := Env.extC_ok E_revE_ok partInsE_spec (mkCall_in rfl rfl)
-- slices.partitionEqualCmpFunc[archipelago/api.Edge]
abbrev partEqE_h : Hints := { loop := fun n => match n with | 0 => loopBy 1 90 partEqE_i0 partEqE_o0 partEqE_s0 | 1 => loopBy 1 90 partEqE_i1 partEqE_o1 partEqE_s1 | 2 => loopBy 1 90 partEqE_i2 partEqE_o2 partEqE_s2 | _ => fun _ _ _ => none, fp := fun n => match n with | 8 => [[], [], [], [], [], [], [0], [0], [], [], [0], [0], [0], [1], [0], [1]] | 3 => [[], [], [], [], [], [], [], [0], [0], [], [], [0], [0], [], [], [], []] | 5 => [[], [], [], [], [], [], [], [0], [0], [], [], [0], [0], [], [], []] | 1 => [[], [], [], [], [], [], [0], [0], [], [], [0], [0], [0], [1], [0], [1]] | _ => [] }
theorem partEqE_s2_ok : ∀ v, partEqE_s2 v = roundOf Tryz.prog E_partInsE partEqE_h 3 1 90 (loopOf Tryz.f120 2) partEqE_i2 partEqE_o2 v := by
 rintro ⟨a0, a1, a2, a3, ⟨⟩⟩
 kernel_rfl
theorem partEqE_q2 : loopList (loopOf Tryz.f120 2) 3 = [] := by kernel_rfl
theorem partEqE_l2 : CodeOK Tryz.prog 1 (.loop (loopOf Tryz.f120 2)) (partEqE_h.loop 2) := loop_ok E_partInsE_ok (partEqE_s2_ok) (LoopsOK_of partEqE_q2 trivial)
theorem partEqE_s1_ok : ∀ v, partEqE_s1 v = roundOf Tryz.prog E_partInsE partEqE_h 2 1 90 (loopOf Tryz.f120 1) partEqE_i1 partEqE_o1 v := by
 rintro ⟨a0, a1, a2, a3, ⟨⟩⟩
 kernel_rfl
theorem partEqE_q1 : loopList (loopOf Tryz.f120 1) 2 = [] := by kernel_rfl
theorem partEqE_l1 : CodeOK Tryz.prog 1 (.loop (loopOf Tryz.f120 1)) (partEqE_h.loop 1) := loop_ok E_partInsE_ok (partEqE_s1_ok) (LoopsOK_of partEqE_q1 trivial)
theorem partEqE_s0_ok : ∀ v, partEqE_s0 v = roundOf Tryz.prog E_partInsE partEqE_h 1 1 90 (loopOf Tryz.f120 0) partEqE_i0 partEqE_o0 v := by
 rintro ⟨a0, a1, a2, a3, ⟨⟩⟩
 kernel_rfl
theorem partEqE_q0 : loopList (loopOf Tryz.f120 0) 1 = [(1, loopOf Tryz.f120 1), (2, loopOf Tryz.f120 2)] := by kernel_rfl
theorem partEqE_l0 : CodeOK Tryz.prog 1 (.loop (loopOf Tryz.f120 0)) (partEqE_h.loop 0) := loop_ok E_partInsE_ok (partEqE_s0_ok) (LoopsOK_of partEqE_q0 ⟨partEqE_l1, partEqE_l2, trivial⟩)
theorem partEqE_okd : ∀ v, partEqE_d v = pevCall Tryz.prog E_partInsE partEqE_h Tryz.f120 partEqE_i partEqE_o partEqE_r v := by
 rintro ⟨a0, a1, a2, a3, ⟨⟩⟩
 kernel_rfl
theorem partEqE_q : loopList (bodyOf Tryz.f120) 0 = [(0, loopOf Tryz.f120 0)] := by kernel_rfl
theorem partEqE_spec : SpecOK Tryz.prog 120 (mkCall 5 partEqE_i partEqE_o partEqE_r partEqE) := call_spec E_partInsE_ok Tryz.func120 (by kernel_rfl) (by kernel_rfl) rfl (fun v => (partEqE_eq v).trans (partEqE_okd v)) (LoopsOK_of partEqE_q ⟨partEqE_l0, trivial⟩)
def E_partEqE : Env := E_partInsE.extC 120 4 43 (mkCall 5 partEqE_i partEqE_o partEqE_r partEqE)
theorem E_partEqE_ok : EnvOK Tryz.prog E_partEqE := Env.extC_ok E_partInsE_ok partEqE_spec (mkCall_in rfl rfl)
end
end Go.Pev
end
section
namespace Go.Pev
open Go.Proofs
set_option maxRecDepth 100000
noncomputable section
-- slices.partitionCmpFunc[archipelago/api.Edge]
abbrev partE_h : Hints := { loop := fun n => match n with | 0 => loopBy 1 178 partE_i0 partE_o0 partE_s0 | 1 => loopBy 1 178 partE_i1 partE_o1 partE_s1 | 2 => loopBy 1 178 partE_i2 partE_o2 partE_s2 | 3 => loopBy 1 178 partE_i3 partE_o3 partE_s3 | 4 => loopBy 1 178 partE_i4 partE_o4 partE_s4 | _ => fun _ _ _ => none, fp := fun n => match n with | 3 => [[], [], [], [], [], [], [], [0], [0], [], [], [0], [0], [], [], []] | 5 => [[], [], [], [], [], [], [], [0], [0], [], [], [0], [0], [], [], [], []] | 18 => [[], [], [], [], [], [], [0], [0], [], [], [0], [0], [0], [1], [0], [1]] | 13 => [[], [], [], [], [], [], [], [0], [0], [], [], [0], [0], [], [], []] | 15 => [[], [], [], [], [], [], [], [0], [0], [], [], [0], [0], [], [], [], []] | 21 => [[], [], [], [], [], [], [0], [0], [], [], [0], [0], [0], [1], [0], [1]] | 10 => [[], [], [], [], [], [], [0], [0], [], [], [0], [0], [0], [1], [0], [1]] | 8 => [[], [], [], [], [], [], [0], [0], [], [], [0], [0], [0], [1], [0], [1]] | 1 => [[], [], [], [], [], [], [0], [0], [], [], [0], [0], [0], [1], [0], [1]] | _ => [] }
theorem partE_s4_ok : ∀ v, partE_s4 v = roundOf Tryz.prog E_partEqE partE_h 5 1 178 (loopOf Tryz.f121 4) partE_i4 partE_o4 v := by
 rintro ⟨a0, a1, a2, a3, ⟨⟩⟩
 kernel_rfl
theorem partE_q4 : loopList (loopOf Tryz.f121 4) 5 = [] := by kernel_rfl
theorem partE_l4 : CodeOK Tryz.prog 1 (.loop (loopOf Tryz.f121 4)) (partE_h.loop 4) := loop_ok E_partEqE_ok (partE_s4_ok) (LoopsOK_of partE_q4 trivial)
theorem partE_s3_ok : ∀ v, partE_s3 v = roundOf Tryz.prog E_partEqE partE_h 4 1 178 (loopOf Tryz.f121 3) partE_i3 partE_o3 v := by
 rintro ⟨a0, a1, a2, a3, ⟨⟩⟩
 kernel_rfl
theorem partE_q3 : loopList (loopOf Tryz.f121 3) 4 = [] := by kernel_rfl
theorem partE_l3 : CodeOK Tryz.prog 1 (.loop (loopOf Tryz.f121 3)) (partE_h.loop 3) := loop_ok E_partEqE_ok (partE_s3_ok) (LoopsOK_of partE_q3 trivial)
theorem partE_s2_ok : ∀ v, partE_s2 v = roundOf Tryz.prog E_partEqE partE_h 3 1 178 (loopOf Tryz.f121 2) partE_i2 partE_o2 v := by
 rintro ⟨a0, a1, a2, a3, ⟨⟩⟩
 kernel_rfl
theorem partE_q2 : loopList (loopOf Tryz.f121 2) 3 = [(3, loopOf Tryz.f121 3), (4, loopOf Tryz.f121 4)] := by kernel_rfl
theorem partE_l2 : CodeOK Tryz.prog 1 (.loop (loopOf Tryz.f121 2)) (partE_h.loop 2) := loop_ok E_partEqE_ok (partE_s2_ok) (LoopsOK_of partE_q2 ⟨partE_l3, partE_l4, trivial⟩)
theorem partE_s1_ok : ∀ v, partE_s1 v = roundOf Tryz.prog E_partEqE partE_h 2 1 178 (loopOf Tryz.f121 1) partE_i1 partE_o1 v := by
 rintro ⟨a0, a1, a2, a3, ⟨⟩⟩
 kernel_rfl
theorem partE_q1 : loopList (loopOf Tryz.f121 1) 2 = [] := by kernel_rfl
theorem partE_l1 : CodeOK Tryz.prog 1 (.loop (loopOf Tryz.f121 1)) (partE_h.loop 1) := loop_ok E_partEqE_ok (partE_s1_ok) (LoopsOK_of partE_q1 trivial)
theorem partE_s0_ok : ∀ v, partE_s0 v = roundOf Tryz.prog E_partEqE partE_h 1 1 178 (loopOf Tryz.f121 0) partE_i0 partE_o0 v := by
 rintro ⟨a0, a1, a2, a3, ⟨⟩⟩
 kernel_rfl
theorem partE_q0 : loopList (loopOf Tryz.f121 0) 1 = [] := by kernel_rfl
theorem partE_l0 : CodeOK Tryz.prog 1 (.loop (loopOf Tryz.f121 0)) (partE_h.loop 0) := loop_ok E_partEqE_ok (partE_s0_ok) (LoopsOK_of partE_q0 trivial)
theorem partE_okd : ∀ v, partE_d v = pevCall Tryz.prog E_partEqE partE_h Tryz.f121 partE_i partE_o partE_r v := by
 rintro ⟨a0, a1, a2, a3, ⟨⟩⟩
 kernel_rfl
theorem partE_q : loopList (bodyOf Tryz.f121) 0 = [(0, loopOf Tryz.f121 0), (1, loopOf Tryz.f121 1), (2, loopOf Tryz.f121 2)] := by kernel_rfl
theorem partE_spec : SpecOK Tryz.prog 121 (mkCall 5 partE_i partE_o partE_r partE) := call_spec E_partEqE_ok Tryz.func121 (by kernel_rfl) (by kernel_rfl) rfl (fun v => (partE_eq v).trans (partE_okd v)) (LoopsOK_of partE_q ⟨partE_l0, partE_l1, partE_l2, trivial⟩)
def E_partE : Env := E_partEqE.extC 121 4 43 (mkCall 5 partE_i partE_o partE_r partE)
theorem E_partE_ok : EnvOK Tryz.prog E_partE := Env.extC_ok E_partEqE_ok partE_spec (mkCall_in rfl rfl)
-- slices.pdqsortCmpFunc[archipelago/api.Edge]
abbrev pdqE_h (self : (List (Int × Int × Unit) × Int × Int × Int × Unit) → Option ((List (Int × Int × Unit) × Unit))) : Hints := { loop := fun n => match n with | 0 => loopBy 1 148 pdqE_i0 pdqE_o0 (pdqE_s0 self) | _ => fun _ _ _ => none, fp := fun n => match n with | 17 => [[], [], [], [], [], [], [], [0], [0], [], [], [0], [0], [], [], [], []] | _ => [] }
abbrev pdqE_E (self : (List (Int × Int × Unit) × Int × Int × Int × Unit) → Option ((List (Int × Int × Unit) × Unit))) : Env := E_partE.ext 89 false true (mkCall 5 pdqE_i pdqE_o pdqE_r self)
theorem pdqE_s0_ok (self : (List (Int × Int × Unit) × Int × Int × Int × Unit) → Option ((List (Int × Int × Unit) × Unit))) : ∀ v, pdqE_s0 self v = roundOf Tryz.prog (pdqE_E self) (pdqE_h self) 1 1 148 (loopOf Tryz.f89 0) pdqE_i0 pdqE_o0 v := by
 rintro ⟨a0, a1, a2, a3, a4, a5, ⟨⟩⟩
 kernel_rfl
theorem pdqE_q0 : loopList (loopOf Tryz.f89 0) 1 = [] := by kernel_rfl
theorem pdqE_l0 (self : (List (Int × Int × Unit) × Int × Int × Int × Unit) → Option ((List (Int × Int × Unit) × Unit))) (hE : EnvOK Tryz.prog (pdqE_E self)) : CodeOK Tryz.prog 1 (.loop (loopOf Tryz.f89 0)) ((pdqE_h self).loop 0) := loop_ok hE (pdqE_s0_ok self) (LoopsOK_of pdqE_q0 trivial)
theorem pdqE_okd (self : (List (Int × Int × Unit) × Int × Int × Int × Unit) → Option ((List (Int × Int × Unit) × Unit))) : ∀ v, pdqE_d self v = pevCall Tryz.prog (pdqE_E self) (pdqE_h self) Tryz.f89 pdqE_i pdqE_o pdqE_r v := by
 rintro ⟨a0, a1, a2, a3, ⟨⟩⟩
 kernel_rfl
theorem pdqE_q : loopList (bodyOf Tryz.f89) 0 = [(0, loopOf Tryz.f89 0)] := by kernel_rfl
theorem pdqE_fspec : ∀ n, SpecOK Tryz.prog 89 (mkCall 5 pdqE_i pdqE_o pdqE_r (pdqE_f n)) := by
 intro n
 induction n with
 | zero => exact mkCall_none fun _ => rfl
 | succ n ih =>
  have hE : EnvOK Tryz.prog (pdqE_E (pdqE_f n)) := Env.ext_ok E_partE_ok ih ((by simp)) (fun _ => mkCall_in rfl rfl)
  let self := pdqE_f n
  exact call_spec hE Tryz.func89 (by kernel_rfl) (by kernel_rfl) rfl (pdqE_okd self) (LoopsOK_of pdqE_q ⟨(pdqE_l0 self hE), trivial⟩)
theorem pdqE_spec : SpecOK Tryz.prog 89 (mkCall 5 pdqE_i pdqE_o pdqE_r pdqE) := by
 have e : pdqE = pdqE_f 100 := funext pdqE_eq
 rw [e]
 exact pdqE_fspec _
def E_pdqE : Env := E_partE.extC 89 4 43 (mkCall 5 pdqE_i pdqE_o pdqE_r pdqE)
theorem E_pdqE_ok : EnvOK Tryz.prog E_pdqE := Env.extC_ok E_partE_ok pdqE_spec (mkCall_in rfl rfl)
-- slices.SortFunc[[]archipelago/api.Edge,archipelago/api.Edge]
abbrev sortE_h : Hints := {  }
theorem sortE_okd : ∀ v, sortE_d v = pevCall Tryz.prog E_pdqE sortE_h Tryz.f66 sortE_i sortE_o sortE_r v := by
 rintro ⟨a0, ⟨⟩⟩
 kernel_rfl
theorem sortE_q : loopList (bodyOf Tryz.f66) 0 = [] := by kernel_rfl
theorem sortE_spec : SpecOK Tryz.prog 66 (mkCall 2 sortE_i sortE_o sortE_r sortE) := call_spec E_pdqE_ok Tryz.func66 (by kernel_rfl) (by kernel_rfl) rfl (fun v => (sortE_eq v).trans (sortE_okd v)) (LoopsOK_of sortE_q trivial)
def E_sortE : Env := E_pdqE.extC 66 1 43 (mkCall 2 sortE_i sortE_o sortE_r sortE)
theorem E_sortE_ok : EnvOK Tryz.prog E_sortE := Env.extC_ok E_pdqE_ok sortE_spec (mkCall_in rfl rfl)
-- archipelago/grow.Add$1
abbrev gadd1_h : Hints := {  }
theorem gadd1_okd : ∀ v, gadd1_d v = pevCall Tryz.prog E_sortE gadd1_h Tryz.f42 gadd1_i gadd1_o gadd1_r v := by
 rintro ⟨a0, a1, ⟨⟩⟩
 kernel_rfl
theorem gadd1_q : loopList (bodyOf Tryz.f42) 0 = [] := by kernel_rfl
theorem gadd1_spec : SpecOK Tryz.prog 42 (mkCall 2 gadd1_i gadd1_o gadd1_r gadd1) := call_spec E_sortE_ok Tryz.func42 (by kernel_rfl) (by kernel_rfl) rfl (fun v => (gadd1_eq v).trans (gadd1_okd v)) (LoopsOK_of gadd1_q trivial)
def E_gadd1 : Env := E_sortE.ext 42 true true (mkCall 2 gadd1_i gadd1_o gadd1_r gadd1)
theorem E_gadd1_ok : EnvOK Tryz.prog E_gadd1 := Env.ext_ok E_sortE_ok gadd1_spec (fun _ => mkCall_local rfl rfl) (fun _ => mkCall_in rfl rfl)
-- slices.insertionSortCmpFunc[archipelago/api.Tie]
abbrev insT_h : Hints := { loop := fun n => match n with | 0 => loopBy 1 53 insT_i0 insT_o0 insT_s0 | 1 => loopBy 1 53 insT_i1 insT_o1 insT_s1 | _ => fun _ _ _ => none, fp := fun n => match n with | 4 => [[], [], [], [], [], [], [], [0], [0], [], [], [], [0], [0], [], [], []] | 6 => [[], [], [], [], [], [], [], [], [0], [0], [], [], [0], [0], [0], [1], [0], [1]] | _ => [] }
theorem insT_s1_ok : ∀ v, insT_s1 v = roundOf Tryz.prog E_gadd1 insT_h 2 1 53 (loopOf Tryz.f96 1) insT_i1 insT_o1 v := by
 rintro ⟨a0, a1, a2, a3, a4, ⟨⟩⟩
 kernel_rfl
theorem insT_q1 : loopList (loopOf Tryz.f96 1) 2 = [] := by kernel_rfl
theorem insT_l1 : CodeOK Tryz.prog 1 (.loop (loopOf Tryz.f96 1)) (insT_h.loop 1) := loop_ok E_gadd1_ok (insT_s1_ok) (LoopsOK_of insT_q1 trivial)
theorem insT_s0_ok : ∀ v, insT_s0 v = roundOf Tryz.prog E_gadd1 insT_h 1 1 53 (loopOf Tryz.f96 0) insT_i0 insT_o0 v := by
 rintro ⟨a0, a1, a2, a3, ⟨⟩⟩
 kernel_rfl
theorem insT_q0 : loopList (loopOf Tryz.f96 0) 1 = [(1, loopOf Tryz.f96 1)] := by kernel_rfl
theorem insT_l0 : CodeOK Tryz.prog 1 (.loop (loopOf Tryz.f96 0)) (insT_h.loop 0) := loop_ok E_gadd1_ok (insT_s0_ok) (LoopsOK_of insT_q0 ⟨insT_l1, trivial⟩)
theorem insT_okd : ∀ v, insT_d v = pevCall Tryz.prog E_gadd1 insT_h Tryz.f96 insT_i insT_o insT_r v := by
 rintro ⟨a0, a1, a2, ⟨⟩⟩
 kernel_rfl
theorem insT_q : loopList (bodyOf Tryz.f96) 0 = [(0, loopOf Tryz.f96 0)] := by kernel_rfl
theorem insT_spec : SpecOK Tryz.prog 96 (mkCall 4 insT_i insT_o insT_r insT) := call_spec E_gadd1_ok Tryz.func96 (by kernel_rfl) (by kernel_rfl) rfl (fun v => (insT_eq v).trans (insT_okd v)) (LoopsOK_of insT_q ⟨insT_l0, trivial⟩)
def E_insT : Env := E_gadd1.extC 96 3 42 (mkCall 4 insT_i insT_o insT_r insT)
theorem E_insT_ok : EnvOK Tryz.prog E_insT := Env.extC_ok E_gadd1_ok insT_spec (mkCall_in rfl rfl)
-- slices.siftDownCmpFunc[archipelago/api.Tie]
abbrev siftT_h : Hints := { loop := fun n => match n with | 0 => loopBy 1 82 siftT_i0 siftT_o0 siftT_s0 | _ => fun _ _ _ => none, fp := fun n => match n with | 6 => [[], [], [], [], [], [], [], [], [], [], [], [], [0], [0], [], [], [], [], [0], [0], [0], [1], [0], [1]] | 5 => [[], [], [], [], [], [0], [0], [], [], [], [], [0], [0], [], [], []] | 3 => [[], [], [], [], [], [], [], [], [], [], [0], [0], [], [], [], [], [], [0], [0], [], [], []] | _ => [] }
theorem siftT_s0_ok : ∀ v, siftT_s0 v = roundOf Tryz.prog E_insT siftT_h 1 1 82 (loopOf Tryz.f130 0) siftT_i0 siftT_o0 v := by
 rintro ⟨a0, a1, a2, a3, ⟨⟩⟩
 kernel_rfl
theorem siftT_q0 : loopList (loopOf Tryz.f130 0) 1 = [] := by kernel_rfl
theorem siftT_l0 : CodeOK Tryz.prog 1 (.loop (loopOf Tryz.f130 0)) (siftT_h.loop 0) := loop_ok E_insT_ok (siftT_s0_ok) (LoopsOK_of siftT_q0 trivial)
theorem siftT_okd : ∀ v, siftT_d v = pevCall Tryz.prog E_insT siftT_h Tryz.f130 siftT_i siftT_o siftT_r v := by
 rintro ⟨a0, a1, a2, a3, ⟨⟩⟩
 kernel_rfl
theorem siftT_q : loopList (bodyOf Tryz.f130) 0 = [(0, loopOf Tryz.f130 0)] := by kernel_rfl
theorem siftT_spec : SpecOK Tryz.prog 130 (mkCall 5 siftT_i siftT_o siftT_r siftT) := call_spec E_insT_ok Tryz.func130 (by kernel_rfl) (by kernel_rfl) rfl (fun v => (siftT_eq v).trans (siftT_okd v)) (LoopsOK_of siftT_q ⟨siftT_l0, trivial⟩)
def E_siftT : Env := E_insT.extC 130 4 42 (mkCall 5 siftT_i siftT_o siftT_r siftT)
theorem E_siftT_ok : EnvOK Tryz.prog E_siftT := Env.extC_ok E_insT_ok siftT_spec (mkCall_in rfl rfl)
-- slices.heapSortCmpFunc[archipelago/api.Tie]
abbrev heapT_h : Hints := { loop := fun n => match n with | 0 => loopBy 1 60 heapT_i0 heapT_o0 heapT_s0 | 1 => loopBy 1 60 heapT_i1 heapT_o1 heapT_s1 | _ => fun _ _ _ => none, fp := fun n => match n with | 10 => [[], [], [], [], [], [], [], [], [], [], [0], [0], [], [], [0], [0], [0], [1], [0], [1]] | _ => [] }
theorem heapT_s1_ok : ∀ v, heapT_s1 v = roundOf Tryz.prog E_siftT heapT_h 2 1 60 (loopOf Tryz.f97 1) heapT_i1 heapT_o1 v := by
 rintro ⟨a0, a1, a2, a3, ⟨⟩⟩
 kernel_rfl
theorem heapT_q1 : loopList (loopOf Tryz.f97 1) 2 = [] := by kernel_rfl
theorem heapT_l1 : CodeOK Tryz.prog 1 (.loop (loopOf Tryz.f97 1)) (heapT_h.loop 1) := loop_ok E_siftT_ok (heapT_s1_ok) (LoopsOK_of heapT_q1 trivial)
theorem heapT_s0_ok : ∀ v, heapT_s0 v = roundOf Tryz.prog E_siftT heapT_h 1 1 60 (loopOf Tryz.f97 0) heapT_i0 heapT_o0 v := by
 rintro ⟨a0, a1, a2, a3, a4, ⟨⟩⟩
 kernel_rfl
theorem heapT_q0 : loopList (loopOf Tryz.f97 0) 1 = [] := by kernel_rfl
theorem heapT_l0 : CodeOK Tryz.prog 1 (.loop (loopOf Tryz.f97 0)) (heapT_h.loop 0) := loop_ok E_siftT_ok (heapT_s0_ok) (LoopsOK_of heapT_q0 trivial)
theorem heapT_okd : ∀ v, heapT_d v = pevCall Tryz.prog E_siftT heapT_h Tryz.f97 heapT_i heapT_o heapT_r v := by
 rintro ⟨a0, a1, a2, ⟨⟩⟩
 kernel_rfl
theorem heapT_q : loopList (bodyOf Tryz.f97) 0 = [(0, loopOf Tryz.f97 0), (1, loopOf Tryz.f97 1)] := by kernel_rfl
theorem heapT_spec : SpecOK Tryz.prog 97 (mkCall 4 heapT_i heapT_o heapT_r heapT) := call_spec E_siftT_ok Tryz.func97 (by kernel_rfl) (by kernel_rfl) rfl (fun v => (heapT_eq v).trans (heapT_okd v)) (LoopsOK_of heapT_q ⟨heapT_l0, heapT_l1, trivial⟩)
def E_heapT : Env := E_siftT.extC 97 3 42 (mkCall 4 heapT_i heapT_o heapT_r heapT)
theorem E_heapT_ok : EnvOK Tryz.prog E_heapT := Env.extC_ok E_siftT_ok heapT_spec (mkCall_in rfl rfl)
-- slices.breakPatternsCmpFunc[archipelago/api.Tie]
abbrev breakT_h : Hints := { loop := fun n => match n with | 0 => loopBy 1 67 breakT_i0 breakT_o0 breakT_s0 | _ => fun _ _ _ => none, fp := fun n => match n with | 10 => [[], [], [], [], [], [], [], [], [], [], [0], [0], [], [], [0], [0], [0], [1], [0], [1]] | _ => [] }
theorem breakT_s0_ok : ∀ v, breakT_s0 v = roundOf Tryz.prog E_heapT breakT_h 1 1 67 (loopOf Tryz.f98 0) breakT_i0 breakT_o0 v := by
 rintro ⟨a0, a1, a2, a3, a4, a5, ⟨⟩⟩
 kernel_rfl
theorem breakT_q0 : loopList (loopOf Tryz.f98 0) 1 = [] := by kernel_rfl
theorem breakT_l0 : CodeOK Tryz.prog 1 (.loop (loopOf Tryz.f98 0)) (breakT_h.loop 0) := loop_ok E_heapT_ok (breakT_s0_ok) (LoopsOK_of breakT_q0 trivial)
theorem breakT_okd : ∀ v, breakT_d v = pevCall Tryz.prog E_heapT breakT_h Tryz.f98 breakT_i breakT_o breakT_r v := by
 rintro ⟨a0, a1, a2, ⟨⟩⟩
 kernel_rfl
theorem breakT_q : loopList (bodyOf Tryz.f98) 0 = [(0, loopOf Tryz.f98 0)] := by kernel_rfl
theorem breakT_spec : SpecOK Tryz.prog 98 (mkCall 4 breakT_i breakT_o breakT_r breakT) := call_spec E_heapT_ok Tryz.func98 (by kernel_rfl) (by kernel_rfl) rfl (fun v => (breakT_eq v).trans (breakT_okd v)) (LoopsOK_of breakT_q ⟨breakT_l0, trivial⟩)
def E_breakT : Env := E_heapT.extC 98 3 42 (mkCall 4 breakT_i breakT_o breakT_r breakT)
theorem E_breakT_ok : EnvOK Tryz.prog E_breakT := Env.extC_ok E_heapT_ok breakT_spec (mkCall_in rfl rfl)
-- slices.order2CmpFunc[archipelago/api.Tie]
abbrev order2T_h : Hints := { fp := fun n => match n with | 1 => [[], [], [], [0], [0], [], [], [0], [0], [], []] | _ => [] }
theorem order2T_okd : ∀ v, order2T_d v = pevCall Tryz.prog E_breakT order2T_h Tryz.f155 order2T_i order2T_o order2T_r v := by
 rintro ⟨a0, a1, a2, a3, ⟨⟩⟩
 kernel_rfl
theorem order2T_q : loopList (bodyOf Tryz.f155) 0 = [] := by kernel_rfl
theorem order2T_spec : SpecOK Tryz.prog 155 (mkCall 5 order2T_i order2T_o order2T_r order2T) := call_spec E_breakT_ok Tryz.func155 (by kernel_rfl) (by kernel_rfl) rfl (fun v => (order2T_eq v).trans (order2T_okd v)) (LoopsOK_of order2T_q trivial)
def E_order2T : Env := E_breakT.extC 155 4 42 (mkCall 5 order2T_i order2T_o order2T_r order2T)
theorem E_order2T_ok : EnvOK Tryz.prog E_order2T := Env.extC_ok E_breakT_ok order2T_spec (mkCall_in rfl rfl)
-- slices.medianCmpFunc[archipelago/api.Tie]
abbrev medianT_h : Hints := {  }
theorem medianT_okd : ∀ v, medianT_d v = pevCall Tryz.prog E_order2T medianT_h Tryz.f134 medianT_i medianT_o medianT_r v := by
 rintro ⟨a0, a1, a2, a3, a4, ⟨⟩⟩
 kernel_rfl
theorem medianT_q : loopList (bodyOf Tryz.f134) 0 = [] := by kernel_rfl
theorem medianT_spec : SpecOK Tryz.prog 134 (mkCall 6 medianT_i medianT_o medianT_r medianT) := call_spec E_order2T_ok Tryz.func134 (by kernel_rfl) (by kernel_rfl) rfl (fun v => (medianT_eq v).trans (medianT_okd v)) (LoopsOK_of medianT_q trivial)
def E_medianT : Env := E_order2T.extC 134 5 42 (mkCall 6 medianT_i medianT_o medianT_r medianT)
theorem E_medianT_ok : EnvOK Tryz.prog E_medianT := Env.extC_ok E_order2T_ok medianT_spec (mkCall_in rfl rfl)
-- slices.medianAdjacentCmpFunc[archipelago/api.Tie]
abbrev medAdjT_h : Hints := {  }
theorem medAdjT_okd : ∀ v, medAdjT_d v = pevCall Tryz.prog E_medianT medAdjT_h Tryz.f133 medAdjT_i medAdjT_o medAdjT_r v := by
 rintro ⟨a0, a1, a2, ⟨⟩⟩
 kernel_rfl
theorem medAdjT_q : loopList (bodyOf Tryz.f133) 0 = [] := by kernel_rfl
theorem medAdjT_spec : SpecOK Tryz.prog 133 (mkCall 4 medAdjT_i medAdjT_o medAdjT_r medAdjT) := call_spec E_medianT_ok Tryz.func133 (by kernel_rfl) (by kernel_rfl) rfl (fun v => (medAdjT_eq v).trans (medAdjT_okd v)) (LoopsOK_of medAdjT_q trivial)
def E_medAdjT : Env := E_medianT.extC 133 3 42 (mkCall 4 medAdjT_i medAdjT_o medAdjT_r medAdjT)
theorem E_medAdjT_ok : EnvOK Tryz.prog E_medAdjT := Env.extC_ok E_medianT_ok medAdjT_spec (mkCall_in rfl rfl)
-- slices.choosePivotCmpFunc[archipelago/api.Tie]
abbrev pivotT_h : Hints := {  }
theorem pivotT_okd : ∀ v, pivotT_d v = pevCall Tryz.prog E_medAdjT pivotT_h Tryz.f99 pivotT_i pivotT_o pivotT_r v := by
 rintro ⟨a0, a1, a2, ⟨⟩⟩
 kernel_rfl
theorem pivotT_q : loopList (bodyOf Tryz.f99) 0 = [] := by kernel_rfl
theorem pivotT_spec : SpecOK Tryz.prog 99 (mkCall 4 pivotT_i pivotT_o pivotT_r pivotT) := call_spec E_medAdjT_ok Tryz.func99 (by kernel_rfl) (by kernel_rfl) rfl (fun v => (pivotT_eq v).trans (pivotT_okd v)) (LoopsOK_of pivotT_q trivial)
def E_pivotT : Env := E_medAdjT.extC 99 3 42 (mkCall 4 pivotT_i pivotT_o pivotT_r pivotT)
theorem E_pivotT_ok : EnvOK Tryz.prog E_pivotT := Env.extC_ok E_medAdjT_ok pivotT_spec (mkCall_in rfl rfl)
end
end Go.Pev
end
