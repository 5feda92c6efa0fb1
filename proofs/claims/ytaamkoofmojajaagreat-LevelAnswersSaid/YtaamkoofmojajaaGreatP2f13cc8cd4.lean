/- A part of the proofs of this seat: KD PlnC KE KF KG KH U24a U24b U24c U24d U23a U23b U24f U24g U24h U24i U24j U24k U24l U24m U24n PlnD U21a U21b SIa SIb SIc SId SIe SIf U21c U21d U21e G24eP1 G24eP2 G24eP3. -/
import Derived.Test.YtaamkoofmojajaaGreatP9220455208
import Derived.KernelRfl
import Derived.Test.YtaamkoofmojajaaGreatProg
set_option linter.unusedVariables false
set_option linter.unusedSimpArgs false
set_option linter.unusedSectionVars false
section
section
namespace Go.Pev.Pl
open Tok
def CN {α : Type} (P : Nat → Bool) : Nat → List α → List α
 | _, [] => []
 | i, x :: xs => if P i then CN P (i + 1) xs else x :: CN P (i + 1) xs
theorem AME {α : Type} (P : Nat → Bool) : ∀ (xs : List α) (s : Nat), (∀ k, s ≤ k → P k = false) → CN P s xs = xs := by
 intro xs
 induction xs with
 | nil => intro s _; rfl
 | cons x xs ih =>
  intro s h
  rw [CN, h s (Nat.le_refl _), ih (s + 1) fun k hk => h k (by omega)]
  rfl
theorem AQm {α : Type} (P : Nat → Bool) (i : Nat) : ∀ (xs : List α) (s : Nat), s ≤ i → (∀ k, s ≤ k → P k = decide (k = i)) → CN P s xs = xs.eraseIdx (i - s) := by
 intro xs
 induction xs with
 | nil => intro s _ _; rfl
 | cons x xs ih =>
  intro s hs h
  rw [CN, h s (Nat.le_refl _)]
  by_cases e : s = i
  ·subst e
   rw [AME P xs (s + 1) fun k hk => by rw [h k (by omega)]; simp; omega]
   simp
  ·rw [ih (s + 1) (by omega) fun k hk => h k (by omega)]
   rw [decide_eq_false e, if_neg (by simp), show i - s = (i - (s + 1)) + 1 by omega, List.eraseIdx_cons_succ]
theorem JV {α : Type} (P : Nat → Bool) (i j : Nat) (hij : i < j) : ∀ (xs : List α) (s : Nat), s ≤ i → (∀ k, s ≤ k → P k = decide (k = i ∨ k = j)) → CN P s xs = (xs.eraseIdx (j - s)).eraseIdx (i - s) := by
 intro xs
 induction xs with
 | nil => intro s _ _; rfl
 | cons x xs ih =>
  intro s hs h
  rw [CN, h s (Nat.le_refl _)]
  by_cases e : s = i
  ·subst e
   rw [AQm P j xs (s + 1) (by omega) fun k hk => by rw [h k (by omega)]; exact decide_eq_decide.2 ⟨fun q => by omega, fun q => .inr q⟩]
   rw [decide_eq_true (.inl rfl), if_pos rfl, show j - s = (j - (s + 1)) + 1 by omega, List.eraseIdx_cons_succ, Nat.sub_self, List.eraseIdx_zero]
   rfl
  ·rw [ih (s + 1) (by omega) fun k hk => h k (by omega)]
   rw [decide_eq_false (by omega), if_neg (by simp), show j - s = (j - (s + 1)) + 1 by omega, List.eraseIdx_cons_succ, show i - s = (i - (s + 1)) + 1 by omega, List.eraseIdx_cons_succ]
theorem AMF {α : Type} (P : Nat → Bool) : ∀ (xs : List α) (acc : List α) (k : Nat), (xs.foldl (fun (a : List α × Nat) x => (if P a.2 then a.1 else a.1 ++ [x], a.2 + 1)) (acc, k)).1 = acc ++ CN P k xs := by
 intro xs
 induction xs with
 | nil => intro acc k; simp [CN]
 | cons x xs ih =>
  intro acc k
  rw [List.foldl_cons, ih, CN]
  cases P k <;> simp
theorem AQn {α : Type} (P : Nat → Bool) : ∀ (xs : List α) (k : Nat), (CN P k xs).length ≤ xs.length ∧ ∀ x ∈ CN P k xs, x ∈ xs := by
 intro xs
 induction xs with
 | nil => intro k; simp [CN]
 | cons x xs ih =>
  intro k
  obtain ⟨h1, h2⟩ := ih (k + 1)
  rw [CN]
  split
  ·exact ⟨by simp only [List.length_cons]; omega, fun y hy => List.mem_cons_of_mem _ (h2 y hy)⟩
  ·refine ⟨by simp only [List.length_cons]; omega, fun y hy => ?_⟩
   rcases List.mem_cons.1 hy with rfl | hy
   ·simp
   ·exact List.mem_cons_of_mem _ (h2 y hy)
theorem ACO (n : Int) (rings : List (List Int)) (away : List Int) (come : List (List Int)) (hlen : rings.length < 1073741824) (ha : away.length < 1073741824) (hc : come.length < 1073741824)
  (hne : ∀ l ∈ rings, l ≠ []) (hce : ∀ r ∈ come, plain r ≠ []) :
  ∃ ys, AIc ((n, (rings, ())), away, come, ()) = some (n, ys, ()) ∧ ys.Perm (CN (fun k => decide ((k : Int) ∈ away)) 0 rings ++ come.map plain) ∧ ys.Pairwise (fun a b => ¬ hd b < hd a) := by
 rw [AIb, Va]
 have e := De (step := Gp) (fun i (a : List (List Int) × Nat) => (away, come, n, rings, (0 : Int), a.1, rings, AN rings, (i : Int), ())) rings
  (fun x a => .inl (if decide ((a.2 : Int) ∈ away) then a.1 else a.1 ++ [x], a.2 + 1)) (fun a => .inl (come, n, rings, (0 : Int), a.1, ())) (fun i a => a.2 = i ∧ a.1.length ≤ i) (by omega)
  (fun i x a hi hx ⟨h1, h2⟩ => by
   refine ⟨fun m' h' => ?_, fun r h' => by cases h'⟩
   cases h'
   subst h1
   rw [Gp, AO, AM, decide_eq_true hi]
   simp only [Ah hx, II away _ (show away.length < 9223372036854775808 by omega)]
   rw [AL (by omega), BM (by simp only [AO, List.length_cons, List.length_nil]; omega)]
   by_cases h : (a.2 : Int) ∈ away
   ·simp only [h, decide_true, Bool.not_true, if_true]
    exact ⟨by trivial, by trivial, by omega⟩
   ·simp only [h, decide_false, Bool.not_false]
    exact ⟨by trivial, by trivial, by simp; omega⟩)
  (fun a _ => by rw [Gp, AO, AM, decide_eq_false (by omega)]) ([], 0) ⟨rfl, by simp⟩
 have e' : AX Gp many (away, come, n, rings, (0 : Int), [], rings, AN rings, (0 : Int), ()) = _ := e
 rw [e', Ba]
 have hdf : (rings.foldl (fun (a : List (List Int) × Nat) x => (if decide ((a.2 : Int) ∈ away) then a.1 else a.1 ++ [x], a.2 + 1)) ([], 0)).1 = CN (fun k => decide ((k : Int) ∈ away)) 0 rings := by
  have := AMF (fun k => decide ((k : Int) ∈ away)) rings [] 0
  rw [List.nil_append] at this
  exact this
 simp only [hdf]
 obtain ⟨g1, g2⟩ := AQn (fun k => decide ((k : Int) ∈ away)) rings 0
 generalize CN (fun k => decide ((k : Int) ∈ away)) 0 rings = rest at *
 have f := De (step := Gn) (fun i (a : List (List Int)) => (n, rings, (0 : Int), a, come, AN come, (i : Int), ())) come
  (fun x a => .inl (a ++ [plain x])) (fun a => .inl (n, rings, (0 : Int), a, ())) (fun i a => a.length = rest.length + i) (by omega)
  (fun i x a hi hx h1 => by
   refine ⟨fun m' h' => ?_, fun r h' => by cases h'⟩
   cases h'
   rw [Gn, AO, AM, decide_eq_true hi]
   simp only [Ah hx, ANh]
   rw [AL (by omega), BM (by simp only [AO, List.length_cons, List.length_nil]; omega)]
   exact ⟨rfl, by simp; omega⟩)
  (fun a _ => by rw [Gn, AO, AM, decide_eq_false (by omega)]) rest rfl
 have f' : AX Gn many (n, rings, (0 : Int), rest, come, AN come, (0 : Int), ()) = _ := f
 rw [f', Ba]
 have hfold : ∀ (l acc : List (List Int)), l.foldl (fun a x => a ++ [plain x]) acc = acc ++ l.map plain := by
  intro l
  induction l with
  | nil => intro acc; simp
  | cons x l ih => intro acc; rw [List.foldl_cons, ih]; simp
 simp only [hfold]
 obtain ⟨ys, y1, y2, y3⟩ := SL.Wz (rest ++ come.map plain) (by simp; omega) (fun x hx => by
  rcases List.mem_append.1 hx with h | h
  ·exact hne x (g2 x h)
  ·obtain ⟨r, hr, rfl⟩ := List.mem_map.1 h
   exact hce r hr)
 refine ⟨ys, by simp only [y1], y2, y3.imp fun {a b} h => ?_⟩
 simp only [SL.lt, Go.Sort.ltInt, decide_eq_false_iff_not] at h
 exact h
def Xh (rest : List (List Int)) (p : List Int) : List (List Int) := rest.take (rest.findIdx fun x => !decide (hd x < hd p)) ++ p :: rest.drop (rest.findIdx fun x => !decide (hd x < hd p))
theorem AC4 (rest : List (List Int)) (p : List Int) : (Xh rest p).Perm (p :: rest) := by
 rw [Xh]
 refine List.perm_middle.trans ?_
 rw [List.take_append_drop]
theorem ARq {rest : List (List Int)} {p : List Int} (h : rest.Pairwise (fun a b => hd a < hd b)) (hne : ∀ x ∈ rest, hd x ≠ hd p) : (Xh rest p).Pairwise (fun a b => hd a < hd b) := by
 rw [Xh]
 have hlt : ∀ x ∈ rest.take (rest.findIdx fun x => !decide (hd x < hd p)), hd x < hd p := by
  intro x hx
  obtain ⟨j, hj, e⟩ := List.mem_take_iff_getElem.1 hx
  have := List.not_of_lt_findIdx (p := fun x => !decide (hd x < hd p)) (xs := rest) (i := j) (by omega)
  rw [e] at this
  simpa using this
 have hgt : ∀ x ∈ rest.drop (rest.findIdx fun x => !decide (hd x < hd p)), hd p < hd x := by
  intro x hx
  by_cases hk : (rest.findIdx fun x => !decide (hd x < hd p)) < rest.length
  ·have h0 := List.findIdx_getElem (p := fun x => !decide (hd x < hd p)) (xs := rest) (w := hk)
   rw [List.drop_eq_getElem_cons hk] at hx
   have h1 : ¬ hd rest[rest.findIdx fun x => !decide (hd x < hd p)] < hd p := by simpa using h0
   have h2 := hne _ (List.getElem_mem hk)
   rcases List.mem_cons.1 hx with rfl | hx
   ·omega
   ·have hpw : (rest.drop (rest.findIdx fun x => !decide (hd x < hd p))).Pairwise (fun a b => hd a < hd b) := h.sublist (List.drop_sublist _ _)
    rw [List.drop_eq_getElem_cons hk, List.pairwise_cons] at hpw
    have := hpw.1 x hx
    omega
  ·rw [List.drop_of_length_le (by omega)] at hx
   cases hx
 rw [List.pairwise_append, List.pairwise_cons]
 refine ⟨h.sublist (List.take_sublist _ _), ⟨hgt, h.sublist (List.drop_sublist _ _)⟩, fun a ha b hb => ?_⟩
 rcases List.mem_cons.1 hb with rfl | hb
 ·exact hlt a ha
 ·have := hlt a ha
  have := hgt b hb
  omega
theorem AST {l : List Int} (h : l ≠ []) : idx l (0 : Int) = some (hd l) := by
 cases l with
 | nil => exact absurd rfl h
 | cons x l => rw [Fx]; rfl
theorem AZV (l : List Int) : AT l 0 (0 : Int) = hd l := by cases l <;> rfl
end Go.Pev.Pl
end
section
namespace Go.Pev.Pl
open Tok
theorem AHw {n u v : Int} (h : okT n (.arc u v)) : n ≤ Dd n u v := by rw [Em h]; exact (WA h.1 h.2.1).1
def A5 (n : Int) (A B : List Int) (u v : Int) : List Int := u :: Dd n u v :: (A2 B v ++ Dd n v u :: (A2 A u).tail)
theorem Lx {n u v : Int} {A B : List Int} (hA : TI n A) (hB : TI n B) (hu : u ∈ A) (hv : v ∈ B) (iu : In n u) (iv : In n v) (hd : Dis n A B) :
  TI n (A5 n A B u v) ∧ A2 A u = u :: (A2 A u).tail ∧ (∀ t, t < n → (t ∈ A5 n A B u v ↔ t ∈ A ∨ t ∈ B)) ∧ u ≠ v ∧ okT n (.arc u v) := by
 obtain ⟨a, a1, a2, a3⟩ := AMn hA (t := .ver u) iu hu
 obtain ⟨b, b1, b2, b3⟩ := AMn hB (t := .ver v) iv hv
 have a1' : A2 A u = (Tok.ver u :: a).map (DA n) := a1
 have b1' : A2 B v = (Tok.ver v :: b).map (DA n) := b1
 have huv : u ≠ v := by rintro rfl; exact hd u hu iu.2.2.2 hv
 have ho : okT n (.arc u v) := ⟨iu, iv, huv⟩
 have pA := (CE hu).perm
 have pB := (CE hv).perm
 have ht : A2 A u = u :: (A2 A u).tail := by rw [a1']; rfl
 have hall : A5 n A B u v = (Tok.ver u :: .arc u v :: (.ver v :: b ++ .arc v u :: a)).map (DA n) := by
  rw [A5, a1', b1', Em ho, Em (EZ ho)]
  simp [DA]
 refine ⟨⟨_, hall, fun t ht => ?_, T.join a2 b2 fun x hx hx2 => ?_⟩, ht, fun t ht2 => ?_, huv, ho⟩
 ·rcases List.mem_cons.1 ht with rfl | ht
  ·exact iu
  ·rcases List.mem_cons.1 ht with rfl | ht
   ·exact ho
   ·rcases List.mem_append.1 ht with ht | ht
    ·exact b3 t ht
    ·rcases List.mem_cons.1 ht with rfl | ht
     ·exact EZ ho
     ·exact a3 t (List.mem_cons_of_mem _ ht)
 ·have ix := a3 _ hx
  have x1 : x ∈ A := pA.mem_iff.2 (by rw [a1']; exact List.mem_map.2 ⟨_, hx, rfl⟩)
  have x2 : x ∈ B := pB.mem_iff.2 (by rw [b1']; exact List.mem_map.2 ⟨_, hx2, rfl⟩)
  exact hd x x1 ix.2.2.2 x2
 ·have g1 := AHw ho
  have g2 := AHw (EZ ho)
  have e1 : t ∈ A ↔ t = u ∨ t ∈ (A2 A u).tail := by rw [pA.mem_iff, ht, List.mem_cons, List.tail_cons]
  rw [A5, List.mem_cons, List.mem_cons, List.mem_append, List.mem_cons, e1, ← pB.mem_iff]
  constructor
  ·rintro (h | h | h | h | h)
   ·exact .inl (.inl h)
   ·omega
   ·exact .inr h
   ·omega
   ·exact .inl (.inr h)
  ·rintro ((h | h) | h)
   ·exact .inl h
   ·exact .inr (.inr (.inr (.inr h)))
   ·exact .inr (.inr (.inl h))
theorem Io {n : Int} {a b : List (List Int)} (h : a.Perm b) (ha : a.Pairwise (Dis n)) : b.Pairwise (Dis n) := (h.pairwise_iff fun {_ _} hh => hh.symm).1 ha
theorem ASw {n : Int} {rings rest zs : List (List Int)} {A B p : List Int} (h : FR n rings) (hp : rings.Perm (A :: B :: rest)) (hg : RG n p) (hm : ∀ t, t < n → (t ∈ p ↔ t ∈ A ∨ t ∈ B)) (hz : zs.Perm (p :: rest)) (hu : zs.Pairwise (fun a b => hd a < hd b)) : FR n zs := by
 have hd0 := Io hp h.dis
 rw [List.pairwise_cons, List.pairwise_cons] at hd0
 obtain ⟨h1, h2, h3⟩ := hd0
 refine ⟨h.sz, fun l hl => ?_, hu, Io hz.symm ?_, fun v hv => ?_⟩
 ·rcases List.mem_cons.1 (hz.mem_iff.1 hl) with rfl | hl
  ·exact hg
  ·exact h.rg l (hp.mem_iff.2 (by simp [hl]))
 ·rw [List.pairwise_cons]
  refine ⟨fun r hr t ht htn => ?_, h3⟩
  rcases (hm t htn).1 ht with g | g
  ·exact h1 r (by simp [hr]) t g htn
  ·exact h2 r hr t g htn
 ·obtain ⟨l, hl, hvl⟩ := h.cov v hv
  have := hp.mem_iff.1 hl
  simp only [List.mem_cons] at this
  rcases this with rfl | rfl | g
  ·exact ⟨p, hz.mem_iff.2 (by simp), (hm v hv.2.2.2).2 (.inl hvl)⟩
  ·exact ⟨p, hz.mem_iff.2 (by simp), (hm v hv.2.2.2).2 (.inr hvl)⟩
  ·exact ⟨l, hz.mem_iff.2 (by simp [g]), hvl⟩
theorem Gj (n : Int) (rings : List (List Int)) (u v : Int) (hD : Dom rings) : asked ((n, (rings, ())), u, v, ()) = some (if RF n rings then if In n u ∧ In n v then 0 else 10 else 1, ()) := by
 rw [AMg, WC]
 simp only [Wd n rings hD.1 hD.2, AEq]
 by_cases h : RF n rings
 ·by_cases h1 : In n u
  ·by_cases h2 : In n v <;> simp [h, h1, h2]
  ·simp [h, h1]
 ·simp [h]
theorem AYs (a b : Nat) : imax (a : Int) (b : Int) = ((max a b : Nat) : Int) := by rw [imax]; split <;> omega
theorem AYr (a b : Nat) : Ci (a : Int) (b : Int) = ((min a b : Nat) : Int) := by rw [Ci]; split <;> omega
theorem Aar {n : Int} {rings : List (List Int)} {u v : Int} {i j : Nat} {A B : List Int} (h : FR n rings) (iu : In n u) (iv : In n v) (hi : rings[i]? = some A) (hj : rings[j]? = some B) (hu : u ∈ A) (hv : v ∈ B) (hij : i ≠ j) :
  ∃ zs rest, J8 ((n, (rings, ())), u, v, ()) = some (n, zs, 0, ()) ∧ FR n zs ∧ rings.Perm (A :: B :: rest) ∧ zs.Perm (plain (A5 n A B u v) :: rest) ∧ Dis n A B := by
 have hD := h.dom
 have hRF := K4.2 h
 have rA := h.rg A (List.mem_of_getElem? hi)
 have rB := h.rg B (List.mem_of_getElem? hj)
 have hil := (List.getElem?_eq_some_iff.1 hi).1
 have hjl := (List.getElem?_eq_some_iff.1 hj).1
 have pu : plc rings u = (i : Int) := h.AFa hi iu.2.2.2 hu
 have pv : plc rings v = (j : Int) := h.AFa hj iv.2.2.2 hv
 have hperm : rings.Perm (A :: B :: (rings.eraseIdx (max i j)).eraseIdx (min i j)) := by
  rcases Nat.lt_or_gt_of_ne hij with g | g
  ·rw [Nat.max_eq_right (by omega), Nat.min_eq_left (by omega)]
   exact Hy g hi hj
  ·rw [Nat.max_eq_left (by omega), Nat.min_eq_right (by omega)]
   exact (Hy g hj hi).trans (List.Perm.swap _ _ _)
 have hdis : Dis n A B := by
  have := Io hperm h.dis
  rw [List.pairwise_cons] at this
  exact this.1 B (by simp)
 obtain ⟨l1, l2, l3, huv, ho⟩ := Lx rA.2.2.2 rB.2.2.2 hu hv iu iv hdis
 obtain ⟨hRG, hrot⟩ := AAk l1
 have hall : A5 n A B u v = u :: Dd n u v :: (A2 B v ++ Dd n v u :: (A2 A u).tail) := rfl
 have lA : (A2 A u).length ≤ 1000 := by rw [← (CE hu).perm.length_eq]; exact rA.1.1
 have lB : (A2 B v).length ≤ 1000 := by rw [← (CE hv).perm.length_eq]; exact rB.1.1
 have hsub : ((rings.eraseIdx (max i j)).eraseIdx (min i j)).Sublist rings := (List.eraseIdx_sublist _ _).trans (List.eraseIdx_sublist _ _)
 have hdrop : CN (fun k => decide ((k : Int) ∈ [(i : Int), (j : Int)])) 0 rings = (rings.eraseIdx (max i j)).eraseIdx (min i j) := by
  rcases Nat.lt_or_gt_of_ne hij with g | g
  ·rw [Nat.max_eq_right (by omega), Nat.min_eq_left (by omega)]
   exact JV _ i j g rings 0 (by omega) fun k _ => decide_eq_decide.2 (by simp only [List.mem_cons, List.not_mem_nil, or_false]; omega)
  ·rw [Nat.max_eq_left (by omega), Nat.min_eq_right (by omega)]
   exact JV _ j i g rings 0 (by omega) fun k _ => decide_eq_decide.2 (by simp only [List.mem_cons, List.not_mem_nil, or_false]; omega)
 have hrl : ((rings.eraseIdx (max i j)).eraseIdx (min i j)).length ≤ rings.length := hsub.length_le
 generalize (rings.eraseIdx (max i j)).eraseIdx (min i j) = rest at *
 have hupr : rest.Pairwise (fun a b => hd a < hd b) := h.up.sublist hsub
 have hner : ∀ l ∈ rest, l ≠ [] := fun l hl => (h.rg l (hsub.subset hl)).2.1
 have hdd := Io hperm h.dis
 rw [List.pairwise_cons, List.pairwise_cons] at hdd
 have hheads : ∀ x ∈ rest, hd x ≠ hd (plain (A5 n A B u v)) := by
  intro x hx e
  have g1 := MD hRG
  have g2 := (l3 _ g1.2.2.2).1 (hrot.perm.mem_iff.2 (SK hRG.2.1))
  have g3 : hd (plain (A5 n A B u v)) ∈ x := e ▸ SK (hner x hx)
  rcases g2 with g | g
  ·exact hdd.1 x (by simp [hx]) _ g g1.2.2.2 g3
  ·exact hdd.2.1 x hx _ g g1.2.2.2 g3
 have hup := ARq hupr hheads
 have hpz := AC4 rest (plain (A5 n A B u v))
 refine ⟨Xh rest (plain (A5 n A B u v)), rest, ?_, ASw h hperm hRG (fun t ht => by rw [← hrot.perm.mem_iff]; exact l3 t ht) hpz hup, hperm, hpz, hdis⟩
 ·obtain ⟨ys, y1, y2, y3⟩ := ACO n rings [(i : Int), (j : Int)] [A5 n A B u v] hD.1 (by simp) (by simp) (fun l hl => (h.rg l hl).2.1) (by simp; exact hRG.2.1)
  have hys : ys = Xh rest (plain (A5 n A B u v)) := by
   refine TO hup (y2.trans ?_) y3
   rw [hdrop]
   exact (List.perm_append_comm (l₁ := rest) (l₂ := [plain (A5 n A B u v)])).trans hpz.symm
  rw [hys] at y1
  rw [Gw, GP]
  have s1 : Df (A2 A u) (0 : Int) (1 : Int) = some [u] := by
   have := AEt (xs := A2 A u) (l := 0) (h := 1) (by omega) (by rw [l2]; simp)
   rw [l2] at this ⊢
   exact this
  have s2 : Df (A2 A u) (1 : Int) (AN (A2 A u)) = some (A2 A u).tail := by
   have := Gx (xs := A2 A u) (l := 1) (by rw [l2]; simp)
   rw [List.drop_one] at this
   exact this
  have d1 : DQ 0 (AG (AN [u])) (A2 A u) = [u] := by rw [l2]; rfl
  have d2 : DQ 1 (AG (AN (A2 A u).tail)) (A2 A u) = (A2 A u).tail := by
   rw [DQ, AO, SZ, List.drop_one, List.take_length]
  have hcat : H0 ([[u], [Dd n u v], A2 B v, [Dd n v u], (A2 A u).tail], ()) = some (A5 n A B u v, ()) := by
   rw [Kt _ (by simp) (by simp; omega)]
   simp [A5]
  have ne : ((i : Int)) ≠ (j : Int) := by omega
  simp only [Gj n rings u v hD, hRF, iu, iv, and_self, if_true, Ap, I2 n rings _ hD.1 (fun l hl => (hD.2 l hl).1), pu, pv, ne, decide_true, decide_false, Bool.not_true, Ah hi, Ah hj, ACz, Hu, rA.1, rB.1, hu, hv, s1, s2, AIz, d1, d2, hcat, y1]
theorem APm {n : Int} {rings : List (List Int)} {u v : Int} (h : FR n rings) (iu : In n u) (iv : In n v) (hp : plc rings u = plc rings v) :
  J8 ((n, (rings, ())), u, v, ()) = some (n, rings, 5, ()) := by
 have hD := h.dom
 have hRF := K4.2 h
 rw [Gw, GP]
 simp only [Gj n rings u v hD, hRF, iu, iv, and_self, if_true, Ap, I2 n rings _ hD.1 (fun l hl => (hD.2 l hl).1), hp, decide_true, Bool.not_true]
end Go.Pev.Pl
end
section
namespace Go.Pev.Pl
open Tok
def Ns (rings : List (List Int)) (a b : Int) : Prop := ∃ A ∈ rings, a ∈ A ∧ b ∈ A
structure FC (n : Int) (rings : List (List Int)) (l : List Edge) : Prop where
 fr : FR n rings
 sam : ∀ a b, In n a → In n b → (Ns rings a b ↔ Con l a b)
 arcs : ∀ A ∈ rings, ∀ u v, okT n (.arc u v) → Dd n u v ∈ A → ∃ e ∈ l, (e.1 = u ∧ e.2.1 = v) ∨ (e.1 = v ∧ e.2.1 = u)
theorem FR.AW8 {n : Int} {rings : List (List Int)} (h : FR n rings) {a b : Int} (ia : In n a) (ib : In n b) : plc rings a = plc rings b ↔ Ns rings a b := by
 obtain ⟨i, A, pa, hi, ha, _⟩ := My (h.cov a ia)
 obtain ⟨j, B, pb, hj, hb, _⟩ := My (h.cov b ib)
 rw [pa, pb]
 constructor
 ·intro e
  have : i = j := by omega
  subst this
  rw [hi] at hj
  cases hj
  exact ⟨A, List.mem_of_getElem? hi, ha, hb⟩
 ·rintro ⟨K, hK, h1, h2⟩
  obtain ⟨k, hk⟩ : ∃ k : Nat, rings[k]? = some K := by
   obtain ⟨k, hk, rfl⟩ := List.getElem_of_mem hK
   exact ⟨k, List.getElem?_eq_getElem hk⟩
  rw [h.uniq hi hk ia.2.2.2 ha h1, h.uniq hj hk ib.2.2.2 hb h2]
theorem FR.one {n : Int} {rings : List (List Int)} (h : FR n rings) {A B : List Int} (hA : A ∈ rings) (hB : B ∈ rings) {v : Int} (iv : v < n) (h1 : v ∈ A) (h2 : v ∈ B) : A = B := by
 obtain ⟨i, hi, rfl⟩ := List.getElem_of_mem hA
 obtain ⟨j, hj, rfl⟩ := List.getElem_of_mem hB
 have := h.uniq (List.getElem?_eq_getElem hi) (List.getElem?_eq_getElem hj) iv h1 h2
 subst this
 rfl
theorem Ns.perm {a b : List (List Int)} (h : a.Perm b) (x y : Int) : Ns a x y ↔ Ns b x y := by
 constructor
 ·rintro ⟨A, hA, h1⟩; exact ⟨A, h.mem_iff.1 hA, h1⟩
 ·rintro ⟨A, hA, h1⟩; exact ⟨A, h.mem_iff.2 hA, h1⟩
theorem AU1 {n u v x y : Int} {A B : List Int} (hA : TI n A) (hB : TI n B) (hu : u ∈ A) (hv : v ∈ B) (iu : In n u) (iv : In n v) (hd : Dis n A B) (ho : okT n (.arc x y)) (h : Dd n x y ∈ A5 n A B u v) : Dd n x y ∈ A ∨ Dd n x y ∈ B ∨ (x = u ∧ y = v) ∨ (x = v ∧ y = u) := by
 obtain ⟨_, l2, _, huv, ho2⟩ := Lx hA hB hu hv iu iv hd
 have pA := (CE hu).perm
 have pB := (CE hv).perm
 have g := AHw ho
 rw [A5, List.mem_cons, List.mem_cons, List.mem_append, List.mem_cons] at h
 rcases h with h | h | h | h | h
 ·have := iu.2.2.2; omega
 ·rw [Em ho, Em ho2] at h
  have := Fg ho ho2 h
  cases this
  exact .inr (.inr (.inl ⟨rfl, rfl⟩))
 ·exact .inr (.inl (pB.mem_iff.2 h))
 ·rw [Em ho, Em (EZ ho2)] at h
  have := Fg ho (EZ ho2) h
  cases this
  exact .inr (.inr (.inr ⟨rfl, rfl⟩))
 ·refine .inl (pA.mem_iff.2 ?_)
  rw [l2]
  exact List.mem_cons_of_mem _ h
theorem ASx {n : Int} {rings : List (List Int)} {l : List Edge} {e : Edge} (h : FC n rings l) (iu : In n e.1) (iv : In n e.2.1) :
  ∃ zs q, J8 ((n, (rings, ())), e.1, e.2.1, ()) = some (n, zs, q, ()) ∧ FC n zs (l ++ [e]) ∧ (q = 0 ∧ zs.length + 1 = rings.length ∨ q = 5 ∧ zs = rings) := by
 have hF := h.fr
 obtain ⟨i, A, pu, hi, hu, _⟩ := My (hF.cov _ iu)
 obtain ⟨j, B, pv, hj, hv, _⟩ := My (hF.cov _ iv)
 have mA := List.mem_of_getElem? hi
 have mB := List.mem_of_getElem? hj
 by_cases hij : i = j
 ·have hpe : plc rings e.1 = plc rings e.2.1 := by rw [pu, pv, hij]
  refine ⟨rings, 5, APm hF iu iv hpe, ⟨hF, fun a b ia ib => ?_, fun A hA u v ho hm => ?_⟩, .inr ⟨rfl, rfl⟩⟩
  ·rw [h.sam a b ia ib, Con.snoc]
   have hc : Con l e.1 e.2.1 := (h.sam _ _ iu iv).1 ((hF.AW8 iu iv).1 hpe)
   constructor
   ·exact .inl
   ·rintro (g | ⟨g1, g2⟩ | ⟨g1, g2⟩)
    ·exact g
    ·exact g1.trans (hc.trans g2)
    ·exact g1.trans (hc.symm.trans g2)
  ·obtain ⟨e', h1, h2⟩ := h.arcs A hA u v ho hm
   exact ⟨e', by simp [h1], h2⟩
 ·obtain ⟨zs, rest, q1, q3, q4, q5, q6⟩ := Aar hF iu iv hi hj hu hv hij
  have gA := hF.rg A mA
  have gB := hF.rg B mB
  obtain ⟨l1, l2, l3, huv, ho⟩ := Lx gA.2.2.2 gB.2.2.2 hu hv iu iv q6
  obtain ⟨hRG, hrot⟩ := AAk l1
  have len1 := q4.length_eq
  have len2 := q5.length_eq
  simp only [List.length_cons] at len1 len2
  refine ⟨zs, 0, q1, ⟨q3, fun a b ia ib => ?_, fun K hK x y hxy hm => ?_⟩, .inl ⟨rfl, by omega⟩⟩
  ·rw [Ns.perm q5, Con.snoc, ← h.sam a b ia ib, ← h.sam a _ ia iu, ← h.sam _ b iv ib, ← h.sam a _ ia iv, ← h.sam _ b iu ib]
   have pmem : ∀ x, In n x → (x ∈ plain (A5 n A B e.1 e.2.1) ↔ x ∈ A ∨ x ∈ B) := fun x ix => by rw [← hrot.perm.mem_iff]; exact l3 x ix.2.2.2
   have sA : ∀ x, In n x → (Ns rings x e.1 ↔ x ∈ A) := fun x ix => by
    constructor
    ·rintro ⟨K, hK, h1, h2⟩
     rw [hF.one mA hK iu.2.2.2 hu h2]; exact h1
    ·intro hx; exact ⟨A, mA, hx, hu⟩
   have sB : ∀ x, In n x → (Ns rings x e.2.1 ↔ x ∈ B) := fun x ix => by
    constructor
    ·rintro ⟨K, hK, h1, h2⟩
     rw [hF.one mB hK iv.2.2.2 hv h2]; exact h1
    ·intro hx; exact ⟨B, mB, hx, hv⟩
   have sy : ∀ x y, Ns rings x y ↔ Ns rings y x := fun x y => ⟨fun ⟨K, a, b, c⟩ => ⟨K, a, c, b⟩, fun ⟨K, a, b, c⟩ => ⟨K, a, c, b⟩⟩
   rw [sA a ia, sB a ia, sy e.2.1 b, sB b ib, sy e.1 b, sA b ib]
   have hs : Ns rings a b ↔ (a ∈ A ∧ b ∈ A) ∨ (a ∈ B ∧ b ∈ B) ∨ ∃ K ∈ rest, a ∈ K ∧ b ∈ K := by
    rw [Ns.perm q4]
    simp only [Ns, List.mem_cons, exists_eq_or_imp]
   have hz : Ns (plain (A5 n A B e.1 e.2.1) :: rest) a b ↔ ((a ∈ A ∨ a ∈ B) ∧ (b ∈ A ∨ b ∈ B)) ∨ ∃ K ∈ rest, a ∈ K ∧ b ∈ K := by
    simp only [Ns, List.mem_cons, exists_eq_or_imp, pmem a ia, pmem b ib]
   rw [hs, hz]
   constructor
   ·rintro (⟨h1 | h1, h2 | h2⟩ | h)
    ·exact .inl (.inl ⟨h1, h2⟩)
    ·exact .inr (.inl ⟨h1, h2⟩)
    ·exact .inr (.inr ⟨h1, h2⟩)
    ·exact .inl (.inr (.inl ⟨h1, h2⟩))
    ·exact .inl (.inr (.inr h))
   ·rintro ((⟨h1, h2⟩ | ⟨h1, h2⟩ | h) | ⟨h1, h2⟩ | ⟨h1, h2⟩)
    ·exact .inl ⟨.inl h1, .inl h2⟩
    ·exact .inl ⟨.inr h1, .inr h2⟩
    ·exact .inr h
    ·exact .inl ⟨.inl h1, .inr h2⟩
    ·exact .inl ⟨.inr h1, .inl h2⟩
  ·have old : ∀ K ∈ rings, Dd n x y ∈ K → ∃ e' ∈ l ++ [e], (e'.1 = x ∧ e'.2.1 = y) ∨ (e'.1 = y ∧ e'.2.1 = x) := fun K hK hm => by
    obtain ⟨e', h1, h2⟩ := h.arcs K hK x y hxy hm
    exact ⟨e', by simp [h1], h2⟩
   rcases List.mem_cons.1 (q5.mem_iff.1 hK) with rfl | hK
   ·rcases AU1 gA.2.2.2 gB.2.2.2 hu hv iu iv q6 hxy (hrot.perm.mem_iff.2 hm) with g | g | ⟨g1, g2⟩ | ⟨g1, g2⟩
    ·exact old A mA g
    ·exact old B mB g
    ·exact ⟨e, by simp, .inl ⟨g1.symm, g2.symm⟩⟩
    ·exact ⟨e, by simp, .inr ⟨g2.symm, g1.symm⟩⟩
   ·exact old K (q4.mem_iff.2 (by simp [hK])) hm
theorem AAl {N : Nat} (h1 : 1 ≤ N) (h2 : N ≤ 64) : FC (N : Int) (BD N) [] := by
 have hS : ∀ A ∈ BD N, ∃ k : Nat, k < N ∧ A = [(k : Int)] := fun A hA => by
  simp only [BD, List.mem_map, List.mem_range] at hA
  obtain ⟨k, hk, rfl⟩ := hA
  exact ⟨k, hk, rfl⟩
 have key : ∀ k, k < N → In (N : Int) (k : Int) := fun k hk => ⟨by omega, by omega, by omega, by omega⟩
 refine ⟨⟨⟨by omega, by omega⟩, fun l hl => ?_, ?_, ?_, fun v hv => ?_⟩, fun a b ia ib => ?_, fun A hA u v ho hm => ?_⟩
 ·obtain ⟨k, hk, rfl⟩ := hS l hl
  refine ⟨⟨by simp, fun x hx => ?_, by simp⟩, by simp, rfl, (AZq (N : Int) k).2 (key k hk)⟩
  simp only [List.mem_singleton] at hx
  omega
 ·rw [BD, List.pairwise_map]
  exact List.pairwise_lt_range.imp fun h => by simp only [hd, List.headD_cons]; omega
 ·rw [BD, List.pairwise_map]
  exact List.pairwise_lt_range.imp fun {a b} h t ht _ ht2 => by
   simp only [List.mem_singleton] at ht ht2
   omega
 ·obtain ⟨k, rfl⟩ := Int.eq_ofNat_of_zero_le hv.2.2.1
  have := hv.2.2.2
  exact ⟨[(k : Int)], by simp only [BD, List.mem_map, List.mem_range]; exact ⟨k, by omega, rfl⟩, by simp⟩
 ·constructor
  ·rintro ⟨A, hA, h1, h2⟩
   obtain ⟨k, _, rfl⟩ := hS A hA
   simp only [List.mem_singleton] at h1 h2
   rw [h1, h2]
   exact .refl _
  ·intro hc
   have := hc.nil
   subst this
   obtain ⟨k, rfl⟩ := Int.eq_ofNat_of_zero_le ia.2.2.1
   have := ia.2.2.2
   exact ⟨[(k : Int)], by simp only [BD, List.mem_map, List.mem_range]; exact ⟨k, by omega, rfl⟩, by simp, by simp⟩
 ·obtain ⟨k, hk, rfl⟩ := hS A hA
  simp only [List.mem_singleton] at hm
  have := AHw ho
  omega
theorem Z7 (l : List Edge) (hs : l.length < 1073741824) : ends (l, ()) = some (l.flatMap fun e => [e.1, e.2.1], ()) := by
 rw [ASg, AHO]
 have e := De (step := JT) (fun i (a : List Int) => (a, l, AN l, (i : Int), ())) l (fun x a => .inl (a ++ [x.1, x.2.1])) (fun a => .inl (a, ())) (fun i a => a.length = 2 * i) (by omega)
  (fun i x a hi hx h1 => by
   refine ⟨fun m' h' => ?_, fun r h' => by cases h'⟩
   cases h'
   rw [JT, AO, AM, decide_eq_true hi]
   simp only [Ah hx]
   rw [AL (by omega), BM (by simp only [AO, List.length_cons, List.length_nil]; omega)]
   exact ⟨rfl, by simp; omega⟩)
  (fun a _ => by rw [JT, AO, AM, decide_eq_false (by omega)]) [] rfl
 have e' : AX JT many ([], l, AN l, (0 : Int), ()) = _ := e
 rw [e', Ba]
 have hf : ∀ (xs : List Edge) (acc : List Int), xs.foldl (fun a x => a ++ [x.1, x.2.1]) acc = acc ++ xs.flatMap fun e => [e.1, e.2.1] := by
  intro xs
  induction xs with
  | nil => intro acc; simp
  | cons x xs ih => intro acc; rw [List.foldl_cons, ih, List.flatMap_cons]; simp
 rw [hf]
 rfl
theorem AL8 (n : Int) (l : List Edge) : ((l.flatMap fun e => [e.1, e.2.1]).all fun v => decide (In n v)) = l.all fun e => decide (In n e.1 ∧ In n e.2.1) := by
 induction l with
 | nil => rfl
 | cons e l ih =>
  rw [List.flatMap_cons, List.all_append, List.all_cons, ih]
  simp
theorem AL7 (l : List Edge) : (l.flatMap fun e => [e.1, e.2.1]).length = 2 * l.length := by
 induction l with
 | nil => rfl
 | cons e l ih => rw [List.flatMap_cons, List.length_append, ih]; simp; omega
theorem APj {n : Int} (l : List Edge) (hs : l.length < 1073741824) (ha : ∀ e ∈ l, In n e.1 ∧ In n e.2.1) :
  ∀ (m i cnt : Nat) (rings : List (List Int)) (taken : List Bool), i + m = l.length → taken.length = i → FC n rings (l.take i) → m < cnt →
  ∃ zs taken', AS Bk cnt (n, rings, (0 : Int), taken, l, (l.length : Int), (i : Int), ()) = some (.inl (n, zs, (0 : Int), taken', ())) ∧ FC n zs l ∧ taken'.length = l.length := by
 intro m
 induction m with
 | zero =>
  intro i cnt rings taken hi ht h hc
  obtain ⟨cnt, rfl⟩ : ∃ c, cnt = c + 1 := ⟨cnt - 1, by omega⟩
  rw [List.take_of_length_le (by omega)] at h
  refine ⟨rings, taken, ?_, h, by omega⟩
  rw [AS, Bk, AM, decide_eq_false (by omega)]
 | succ m ih =>
  intro i cnt rings taken hi ht h hc
  obtain ⟨cnt, rfl⟩ : ∃ c, cnt = c + 1 := ⟨cnt - 1, by omega⟩
  have hi' : i < l.length := by omega
  have hx : l[i]? = some l[i] := List.getElem?_eq_getElem hi'
  obtain ⟨iu, iv⟩ := ha _ (List.getElem_mem hi')
  obtain ⟨zs, q, e1, e2, _⟩ := ASx h iu iv
  rw [AS, Bk, AM, decide_eq_true hi']
  simp only [Ah hx, e1]
  rw [AL (by omega), BM (by simp only [AO, List.length_cons, List.length_nil]; omega)]
  rw [← List.take_succ_eq_append_getElem hi'] at e2
  exact ih (i + 1) cnt zs _ (by omega) (by simp [B1, ht]) e2 (by omega)
theorem ASc (k : Int) (l : List Edge) (hk : Sz k) (hs : l.length < 1073741824) :
  ((∀ e ∈ l, In k e.1 ∧ In k e.2.1) ∧ ∃ rings, fof (k, l, ()) = some ((k, (rings, ())), 0, ()) ∧ FC k rings l) ∨
  (¬ (∀ e ∈ l, In k e.1 ∧ In k e.2.1) ∧ fof (k, l, ()) = some ((0, ([], ())), 10, ())) := by
 have hmany : 9223372036854775808 < many := by simp only [many]; omega
 rw [AQW, ALx]
 have hm : GQ k = (k, BD k.toNat, 0, ()) := by rw [GQ, if_pos hk]
 obtain ⟨s1, s2⟩ := hk
 obtain ⟨N, rfl⟩ := Int.eq_ofNat_of_zero_le (show 0 ≤ k by omega)
 have h0 := AAl (N := N) (by omega) (by omega)
 have hD := h0.fr.dom
 have hRF := K4.2 h0.fr
 have hfl := AL7 l
 have hth : NT (((N : Int), (BD N, ())), l.flatMap fun e => [e.1, e.2.1], ()) = some (if ∀ e ∈ l, In (N : Int) e.1 ∧ In (N : Int) e.2.1 then 0 else 10, ()) := by
  rw [Zm _ _ _ hD (by omega), AL8, AMh, if_pos hRF]
  by_cases ha : ∀ e ∈ l, In (N : Int) e.1 ∧ In (N : Int) e.2.1
  ·rw [if_pos ha, if_pos (List.all_eq_true.2 fun e he => decide_eq_true (ha e he))]
  ·rw [if_neg ha, if_neg]
   intro hc
   exact ha fun e he => of_decide_eq_true (List.all_eq_true.1 hc e he)
 simp only [ACh, hm, Int.toNat_natCast, O6, Bool.not_true]
 rw [SQ, Kj, Km, HN]
 by_cases ha : ∀ e ∈ l, In (N : Int) e.1 ∧ In (N : Int) e.2.1
 ·refine .inl ⟨ha, ?_⟩
  rw [if_pos ha] at hth
  obtain ⟨zs, taken, e1, e2, _⟩ := APj l hs ha l.length 0 many (BD N) [] (by omega) rfl (by rw [List.take_zero]; exact h0) (by omega)
  have e1' : AS Bk many ((N : Int), BD N, (0 : Int), [], l, (l.length : Int), (0 : Int), ()) = _ := e1
  simp only [Z7 l hs, hth, O6, Bool.not_true, Ai, AO, e1']
  exact ⟨zs, rfl, e2⟩
 ·refine .inr ⟨ha, ?_⟩
  rw [if_neg ha] at hth
  simp only [Z7 l hs, hth, Ap]
  rfl
end Go.Pev.Pl
end
section
namespace Go.Pev.Pl
open Tok
def cl (out : List Int) (v : Int) : Int := out.getD v.toNat 0
def CI (N : Nat) (l : List Edge) (out : List Int) : Prop := out.length = N ∧ ∀ k, k < N → 0 ≤ out.getD k 0 ∧ out.getD k 0 ≤ (k : Int) ∧ Con l (k : Int) (out.getD k 0)
theorem ARf : ∀ (l : List Int) (k : Nat) (x : Int), k < l.length → (l.set k x).sum = l.sum - l.getD k 0 + x := by
 intro l
 induction l with
 | nil => intro k x h; simp at h
 | cons y l ih =>
  intro k x h
  cases k with
  | zero => simp; omega
  | succ k =>
   have := ih k x (by simpa using h)
   simp only [List.set_cons_succ, List.sum_cons, List.getD_cons_succ, this]
   omega
theorem Mn {N : Nat} {l : List Edge} {out : List Int} (h : CI N l out) (hN : N ≤ 64) : 0 ≤ out.sum ∧ out.sum ≤ 4096 := by
 obtain ⟨h1, h2⟩ := h
 have key : ∀ (xs : List Int), (∀ x ∈ xs, 0 ≤ x ∧ x ≤ 64) → 0 ≤ xs.sum ∧ xs.sum ≤ 64 * (xs.length : Int) := by
  intro xs
  induction xs with
  | nil => intro _; simp
  | cons x xs ih =>
   intro h
   have h3 := ih fun y hy => h y (List.mem_cons_of_mem _ hy)
   have h4 := h x (by simp)
   simp only [List.sum_cons, List.length_cons]
   omega
 have := key out fun x hx => by
  obtain ⟨k, hk, rfl⟩ := List.getElem_of_mem hx
  have h5 := h2 k (by omega)
  rw [List.getD_eq_getElem?_getD, List.getElem?_eq_getElem hk, Option.getD_some] at h5
  omega
 omega
theorem Acg (N : Nat) (l : List Edge) (hs : l.length < 1073741824) (ha : ∀ e ∈ l, In (N : Int) e.1 ∧ In (N : Int) e.2.1) :
  ∀ (m i cnt : Nat) (out : List Int) (more : Bool), i + m = l.length → CI N l out → m < cnt →
  ∃ out' more', AS Cd cnt ((N : Int), l, out, more, (i : Int), ()) = some (.inl ((N : Int), l, out', more', ())) ∧ CI N l out' ∧
   ((more' = more ∧ out' = out ∧ ∀ e ∈ l.drop i, cl out e.1 = cl out e.2.1) ∨ (more' = true ∧ out'.sum < out.sum)) := by
 intro m
 induction m with
 | zero =>
  intro i cnt out more hi h hc
  obtain ⟨cnt, rfl⟩ : ∃ c, cnt = c + 1 := ⟨cnt - 1, by omega⟩
  refine ⟨out, more, ?_, h, .inl ⟨rfl, rfl, ?_⟩⟩
  ·rw [AS, Cd, AO, AM, decide_eq_false (by omega)]
  ·rw [List.drop_of_length_le (by omega)]
   intro e he; cases he
 | succ m ih =>
  intro i cnt out more hi h hc
  obtain ⟨cnt, rfl⟩ : ∃ c, cnt = c + 1 := ⟨cnt - 1, by omega⟩
  have hi' : i < l.length := by omega
  have hx : l[i]? = some l[i] := List.getElem?_eq_getElem hi'
  have hm := List.getElem_mem hi'
  have hdr : l.drop i = l[i] :: l.drop (i + 1) := List.drop_eq_getElem_cons hi'
  rw [AS, Cd, AO, AM, decide_eq_true hi']
  simp only [Ah hx]
  rw [hdr, AL (by omega)]
  generalize l[i] = e at *
  obtain ⟨iu, iv⟩ := ha e hm
  have hcon := Con.edge e hm
  obtain ⟨eu, ev, eu'⟩ := e
  simp only at iu iv hcon ⊢
  obtain ⟨u, rfl⟩ := Int.eq_ofNat_of_zero_le iu.2.2.1
  obtain ⟨v, rfl⟩ := Int.eq_ofNat_of_zero_le iv.2.2.1
  have hu : u < N := by have := iu.2.2.2; omega
  have hv : v < N := by have := iv.2.2.2; omega
  have hul : u < out.length := by rw [h.1]; exact hu
  have hvl : v < out.length := by rw [h.1]; exact hv
  rw [Am, decide_eq_false (by omega)]
  simp only []
  rw [Am, decide_eq_false (by omega)]
  simp only []
  rw [Ao, decide_eq_false (by omega)]
  simp only []
  rw [Ao, decide_eq_false (by omega)]
  simp only [DZ (0 : Int) hul, DZ (0 : Int) hvl, JW, AQl, Ap]
  by_cases hq : out.getD u 0 = out.getD v 0
  ·rw [decide_eq_true hq]
   obtain ⟨out', more', e1, e2, e3⟩ := ih (i + 1) cnt out more (by omega) h (by omega)
   refine ⟨out', more', e1, e2, ?_⟩
   rcases e3 with ⟨g1, g2, g3⟩ | g
   ·refine .inl ⟨g1, g2, fun e' he' => ?_⟩
    rcases List.mem_cons.1 he' with rfl | he'
    ·simpa [cl] using hq
    ·exact g3 e' he'
   ·exact .inr g
  ·rw [decide_eq_false hq]
   have hne : u ≠ v := by rintro rfl; exact hq rfl
   have hlow : Ci (out.getD u 0) (out.getD v 0) = if out.getD v 0 < out.getD u 0 then out.getD v 0 else out.getD u 0 := rfl
   generalize hlw : Ci (out.getD u 0) (out.getD v 0) = low at *
   have hvl2 : v < (out.set u low).length := by simp; exact hvl
   simp only [DZ (0 : Int) hvl2]
   have cu := h.2 u hu
   have cv := h.2 v hv
   have hset : ∀ k, k < N → ((out.set u low).set v low).getD k 0 = if k = u ∨ k = v then low else out.getD k 0 := by
    intro k hk
    have hkl : k < out.length := by rw [h.1]; exact hk
    by_cases k2 : k = v
    ·subst k2
     simp [List.getD_eq_getElem?_getD, hkl]
    ·by_cases k1 : k = u
     ·subst k1
      rw [if_pos (.inl rfl), List.getD_eq_getElem?_getD, List.getElem?_set_ne (Ne.symm k2)]
      simp [hkl]
     ·rw [if_neg (by omega), List.getD_eq_getElem?_getD, List.getElem?_set_ne (Ne.symm k2), List.getElem?_set_ne (Ne.symm k1), List.getD_eq_getElem?_getD]
   have hlc : 0 ≤ low ∧ low ≤ (u : Int) ∧ low ≤ (v : Int) ∧ Con l (u : Int) low := by
    rw [hlow]
    split
    ·exact ⟨cv.1, by omega, cv.2.1, hcon.trans cv.2.2⟩
    ·exact ⟨cu.1, cu.2.1, by omega, cu.2.2⟩
   have hI : CI N l ((out.set u low).set v low) := by
    refine ⟨by simp [h.1], fun k hk => ?_⟩
    rw [hset k hk]
    split
    ·rename_i hkk
     rcases hkk with rfl | rfl
     ·exact ⟨hlc.1, hlc.2.1, hlc.2.2.2⟩
     ·exact ⟨hlc.1, hlc.2.2.1, hcon.symm.trans hlc.2.2.2⟩
    ·exact h.2 k hk
   have hsum : ((out.set u low).set v low).sum < out.sum := by
    rw [ARf _ _ _ hvl2, ARf _ _ _ hul]
    have : (out.set u low).getD v 0 = out.getD v 0 := by
     rw [List.getD_eq_getElem?_getD, List.getElem?_set_ne hne, ← List.getD_eq_getElem?_getD]
    rw [this, hlow]
    split <;> omega
   obtain ⟨out', more', e1, e2, e3⟩ := ih (i + 1) cnt _ true (by omega) hI (by omega)
   refine ⟨out', more', e1, e2, .inr ?_⟩
   rcases e3 with ⟨g1, g2, _⟩ | ⟨g1, g2⟩
   ·exact ⟨g1, by rw [g2]; exact hsum⟩
   ·exact ⟨g1, by omega⟩
theorem Abx (N : Nat) (hN : N ≤ 64) (l : List Edge) (hs : l.length < 1073741824) (ha : ∀ e ∈ l, In (N : Int) e.1 ∧ In (N : Int) e.2.1) :
  ∀ (m cnt : Nat) (out : List Int), out.sum.toNat = m → CI N l out → m + 1 < cnt →
  ∃ out', AS DS cnt ((N : Int), l, out, true, ()) = some (.inl (out', ())) ∧ CI N l out' ∧ ∀ e ∈ l, cl out' e.1 = cl out' e.2.1 := by
 have hmany : 9223372036854775808 < many := by simp only [many]; omega
 intro m
 induction m using Nat.strongRecOn with
 | _ m ih =>
 intro cnt out hm h hc
 obtain ⟨cnt, rfl⟩ : ∃ c, cnt = c + 1 := ⟨cnt - 1, by omega⟩
 rw [AS, DS]
 obtain ⟨out', more', e1, e2, e3⟩ := Acg N l hs ha l.length 0 many out false (by omega) h (by omega)
 have e1' : AS Cd many ((N : Int), l, out, false, (0 : Int), ()) = _ := e1
 simp only [Ai, e1']
 rcases e3 with ⟨g1, g2, g3⟩ | ⟨g1, g2⟩
 ·subst g1 g2
  obtain ⟨cnt, rfl⟩ : ∃ c, cnt = c + 1 := ⟨cnt - 1, by omega⟩
  rw [AS, DS]
  exact ⟨_, rfl, e2, by simpa using g3⟩
 ·subst g1
  have b1 := Mn h hN
  have b2 := Mn e2 hN
  exact ih out'.sum.toNat (by omega) cnt out' rfl e2 (by omega)
structure TH (n : Int) (l : List Edge) (out : List Int) : Prop where
 len : (out.length : Int) = n
 same : ∀ a b, In n a → In n b → (cl out a = cl out b ↔ Con l a b)
 isin : ∀ a, In n a → In n (cl out a)
 con : ∀ a, In n a → Con l a (cl out a)
 least : ∀ a b, In n a → In n b → Con l a b → cl out a ≤ b
theorem Fh (n : Int) (l : List Edge) (hn : Sz n) (hs : l.length < 1073741824) (ha : ∀ e ∈ l, In n e.1 ∧ In n e.2.1) : ∃ out, Gh (n, l, ()) = some (out, ()) ∧ TH n l out := by
 have hmany : 9223372036854775808 < many := by simp only [many]; omega
 obtain ⟨s1, s2⟩ := hn
 obtain ⟨N, rfl⟩ := Int.eq_ofNat_of_zero_le (show 0 ≤ n by omega)
 rw [Pc, H3]
 have key : ∀ (m k cnt : Nat), k + m = N → m < cnt → AS Ce cnt ((N : Int), l, (List.range k).map (fun (k : Nat) => (k : Int)), (k : Int), ()) = some (.inl ((N : Int), l, (List.range N).map (fun (k : Nat) => (k : Int)), ())) := by
  intro m
  induction m with
  | zero =>
   intro k cnt hk hc
   obtain ⟨cnt, rfl⟩ : ∃ c, cnt = c + 1 := ⟨cnt - 1, by omega⟩
   have : k = N := by omega
   subst this
   rw [AS, Ce, AM, decide_eq_false (by omega)]
  | succ m ih =>
   intro k cnt hk hc
   obtain ⟨cnt, rfl⟩ : ∃ c, cnt = c + 1 := ⟨cnt - 1, by omega⟩
   have hih := ih (k + 1) cnt (by omega) (by omega)
   rw [List.range_succ, List.map_append] at hih
   rw [AS, Ce, AM, decide_eq_true (by omega)]
   simp only []
   rw [AL (by omega), BM (by simp only [AO, List.length_cons, List.length_nil, List.length_map, List.length_range]; omega)]
   exact hih
 have e0 := key N 0 many (by omega) (by omega)
 have e0' : AS Ce many ((N : Int), l, [], (0 : Int), ()) = _ := e0
 have h0 : CI N l ((List.range N).map (fun (k : Nat) => (k : Int))) := by
  refine ⟨by simp, fun k hk => ?_⟩
  have : ((List.range N).map (fun (k : Nat) => (k : Int))).getD k 0 = (k : Int) := by simp [List.getD_eq_getElem?_getD, hk]
  rw [this]
  exact ⟨by omega, by omega, .refl _⟩
 have hb := Mn h0 (by omega)
 obtain ⟨out, e1, e2, e3⟩ := Abx N (by omega) l hs ha _ many _ rfl h0 (by omega)
 simp only [Ai, e0', e1]
 have fact : ∀ a, In (N : Int) a → 0 ≤ cl out a ∧ cl out a ≤ a ∧ Con l a (cl out a) := by
  intro a hia
  obtain ⟨k, rfl⟩ := Int.eq_ofNat_of_zero_le hia.2.2.1
  have := e2.2 k (by have := hia.2.2.2; omega)
  simpa [cl] using this
 refine ⟨out, rfl, by rw [e2.1], fun a b ia ib => ⟨fun h => ?_, fun h => h.const e3⟩, fun a ia => ?_, fun a ia => (fact a ia).2.2, fun a b ia ib h => ?_⟩
 ·have h1 := (fact a ia).2.2
  have h2 := (fact b ib).2.2
  rw [← h] at h2
  exact h1.trans h2.symm
 ·have := fact a ia
  have h3 := ia.2.2.2
  exact ⟨s1, s2, by omega, by omega⟩
 ·have h1 : cl out a = cl out b := h.const e3
  have := (fact b ib).2.1
  omega
end Go.Pev.Pl
end
end
section
namespace Go.Pev.Pl
theorem AZh {σ ρ : Type} {step : σ → Option (σ ⊕ ρ)} (st : Nat → Nat → σ) (P : Nat → Bool) (fin : Nat → ρ) (lo hi : Nat)
  (h : ∀ i j, lo ≤ i → i < j → j ≤ hi → step (st i j) = some (.inl (if P ((i + j) / 2) = true then st ((i + j) / 2 + 1) j else st i ((i + j) / 2))))
  (hN : ∀ i, lo ≤ i → i ≤ hi → step (st i i) = some (.inr (fin i)))
  (mono : ∀ x y, lo ≤ x → x ≤ y → y < hi → P y = true → P x = true) :
  ∀ (m i j n : Nat), j - i = m → lo ≤ i → i ≤ j → j ≤ hi → m < n → (∀ x, lo ≤ x → x < i → P x = true) → (∀ x, j ≤ x → x < hi → P x = false) →
  ∃ k, lo ≤ k ∧ k ≤ hi ∧ (∀ x, lo ≤ x → x < k → P x = true) ∧ (∀ x, k ≤ x → x < hi → P x = false) ∧ AS step n (st i j) = some (fin k) := by
 intro m
 induction m using Nat.strongRecOn with
 | ind m ih =>
  intro i j n hm hi hij hj hn h1 h2
  obtain ⟨n, rfl⟩ : ∃ k, n = k + 1 := ⟨n - 1, by omega⟩
  by_cases he : i = j
  ·subst he
   exact ⟨i, hi, hj, h1, h2, by rw [AS, hN i hi hj]⟩
  ·have hlt : i < j := by omega
   rw [AS, h i j hi hlt hj]
   by_cases hp : P ((i + j) / 2) = true
   ·rw [if_pos hp]
    exact ih (j - ((i + j) / 2 + 1)) (by omega) ((i + j) / 2 + 1) j n rfl (by omega) (by omega) hj (by omega) (fun x a b => mono x ((i + j) / 2) a (by omega) (by omega) hp) h2
   ·rw [if_neg hp]
    refine ih ((i + j) / 2 - i) (by omega) i ((i + j) / 2) n rfl hi (by omega) (by omega) (by omega) h1 (fun x a b => ?_)
    cases hx : P x
    ·rfl
    ·exact absurd (mono ((i + j) / 2) x (by omega) a b hx) hp
theorem Acv {σ ρ : Type} {step : σ → Option (σ ⊕ ρ)} (st : Nat → Nat → σ) (P : Nat → Bool) (fin : Nat → ρ) (lo hi : Nat) (hlh : lo ≤ hi) (hs : hi < 9223372036854775808)
  (h : ∀ i j, lo ≤ i → i < j → j ≤ hi → step (st i j) = some (.inl (if P ((i + j) / 2) = true then st ((i + j) / 2 + 1) j else st i ((i + j) / 2))))
  (hN : ∀ i, lo ≤ i → i ≤ hi → step (st i i) = some (.inr (fin i)))
  (mono : ∀ x y, lo ≤ x → x ≤ y → y < hi → P y = true → P x = true) :
  ∃ k, lo ≤ k ∧ k ≤ hi ∧ (∀ x, lo ≤ x → x < k → P x = true) ∧ (∀ x, k ≤ x → x < hi → P x = false) ∧ AX step many (st lo hi) = some (fin k) := by
 have hm : 9223372036854775808 < many := by simp only [many]; omega
 rw [Ai]
 exact AZh st P fin lo hi h hN mono (hi - lo) lo hi many rfl (Nat.le_refl _) hlh (Nat.le_refl _) (by omega) (fun x a b => by omega) (fun x a b => by omega)
end Go.Pev.Pl
end
section
section
namespace Go.Pev.Pl
set_option linter.unusedSimpArgs false
structure UF (N : Nat) (s : List Int) (c : Int → Int) : Prop where
 len : s.length = N
 lo : ∀ k, k < N → 0 ≤ s.getD k 0 ∧ s.getD k 0 ≤ (k : Int)
 par : ∀ k, k < N → c (s.getD k 0) = c (k : Int)
 root : ∀ k, k < N → s.getD k 0 = (k : Int) → c (k : Int) = (k : Int)
 le : ∀ k, k < N → 0 ≤ c (k : Int) ∧ c (k : Int) ≤ (k : Int)
theorem UF.idem {N : Nat} {s : List Int} {c : Int → Int} (h : UF N s c) : ∀ (m k : Nat), k ≤ m → k < N → c (c (k : Int)) = c (k : Int) := by
 intro m
 induction m with
 | zero =>
  intro k hk hN
  have := h.le k hN
  have e : c (k : Int) = (k : Int) := by omega
  rw [e, e]
 | succ m ih =>
  intro k hk hN
  have h1 := h.lo k hN
  by_cases hr : s.getD k 0 = (k : Int)
  ·have e := h.root k hN hr
   rw [e, e]
  ·obtain ⟨j, hj⟩ := Int.eq_ofNat_of_zero_le h1.1
   have hp := h.par k hN
   rw [hj] at hp
   rw [← hp]
   exact ih j (by omega) (by omega)
theorem UF.top {N : Nat} {s : List Int} {c : Int → Int} (h : UF N s c) {k : Nat} (hk : k < N) : s.getD (c (k : Int)).toNat 0 = c (k : Int) := by
 have h1 := h.le k hk
 obtain ⟨j, hj⟩ := Int.eq_ofNat_of_zero_le h1.1
 have hi := h.idem k k (Nat.le_refl _) hk
 rw [hj] at hi ⊢
 have hjN : j < N := by omega
 have h2 := h.lo j hjN
 have hp := h.par j hjN
 obtain ⟨i, hi'⟩ := Int.eq_ofNat_of_zero_le h2.1
 rw [hi'] at hp
 have h3 := h.le i (by omega)
 show s.getD j 0 = _
 omega
theorem ASR (a b : Int) : Ci a b = min a b := by unfold Ci; split <;> omega
theorem ASS (a b : Int) : imax a b = max a b := by unfold imax; split <;> omega
theorem Ey {N i x : Nat} (h : (List.range N)[i]? = some x) : x = i := by
 rw [List.getElem?_eq_some_iff] at h
 obtain ⟨h1, h2⟩ := h
 simpa using h2.symm
def Abj (c : Int → Int) (u v : Int) : Int → Int := fun x => if c x = max (c u) (c v) then min (c u) (c v) else c x
def AZo (N : Nat) (c : Int → Int) (l : List Edge) : Prop := ∀ a b, In (N : Int) a → In (N : Int) b → (c a = c b ↔ Con l a b)
theorem AZo.snoc {N : Nat} {c : Int → Int} {l : List Edge} {e : Edge} (h : AZo N c l) (h1 : In (N : Int) e.1) (h2 : In (N : Int) e.2.1) : AZo N (Abj c e.1 e.2.1) (l ++ [e]) := by
 intro a b ia ib
 rw [Con.snoc, ← h a b ia ib, ← h a _ ia h1, ← h _ b h2 ib, ← h a _ ia h2, ← h _ b h1 ib]
 unfold Abj
 generalize c a = x
 generalize c b = y
 generalize c e.1 = u
 generalize c e.2.1 = v
 split <;> split <;> omega
end Go.Pev.Pl
end
section
namespace Go.Pev.Pl
set_option linter.unusedSimpArgs false
def sh (n : Int) : Prop := 0 ≤ n ∧ n ≤ 65535
instance (n : Int) : Decidable (sh n) := inferInstanceAs (Decidable (_ ∧ _))
def tw (n : Int) : List Int := [n / 256, n % 256]
theorem AVi {α β : Type} (g : β → α) : ∀ (xs : List β) (a : List α), xs.foldl (fun a x => a ++ [g x]) a = a ++ xs.map g := by
 intro xs
 induction xs with
 | nil => intro a; simp
 | cons x xs ih => intro a; rw [List.foldl_cons, ih]; simp
end Go.Pev.Pl
end
section
namespace Go.Pev.Pl
set_option linter.unusedSimpArgs false
abbrev Res := Int × Int × List Int × Unit
def val (r : Res) : Prop := (0 ≤ r.1 ∧ r.1 ≤ 255) ∧ sh r.2.1 ∧ sh (r.2.2.1.length : Int) ∧ ∀ x ∈ r.2.2.1, sh x
instance (r : Res) : Decidable (val r) := inferInstanceAs (Decidable (_ ∧ _ ∧ _ ∧ _))
def enc (r : Res) : List Int := r.1 :: (tw r.2.1 ++ (tw (r.2.2.1.length : Int) ++ r.2.2.1.flatMap tw))
end Go.Pev.Pl
end
section
namespace Go.Pev.Pl
set_option linter.unusedSimpArgs false
set_option maxRecDepth 100000
theorem L0 (a : Int) : ieq a a = true := by rw [E7]; simp
end Go.Pev.Pl
end
section
namespace Go.Pev.Pl
open Go.RowKit Tok
section
variable {n : Int} {rings : List (List Int)}
theorem ALo {l : List Edge} {out : List Int} (h : FC n rings l) (hc : TH n l out) {A : List Int} {u : Int} (hA : A ∈ rings) (iu : In n u) (hu : u ∈ A) : hd A = cl out u := by
 have gA := h.fr.rg A hA
 have ih := MD gA
 have hh := SK gA.2.1
 have h1 : Con l u (hd A) := (h.sam u (hd A) iu ih).1 ⟨A, hA, hu, hh⟩
 have h2 := hc.least u (hd A) iu ih h1
 have h3 := hc.isin u iu
 obtain ⟨K, hK, k1, k2⟩ := (h.sam u _ iu h3).2 (hc.con u iu)
 have := h.fr.one hA hK iu.2.2.2 hu k1
 subst this
 have h4 := (EK gA.2.1).2 _ k2
 rw [gA.2.2.1] at h4
 have : hd A = A.headD 0 := rfl
 omega
end
end Go.Pev.Pl
end
section
namespace Go.Pev.Pl
set_option linter.unusedSimpArgs false
set_option maxRecDepth 100000
def Gu (n : Nat) : Int := ((@He idI ((n : Int), ())).getD (0, ())).1
theorem Acr : ((List.range 65).all fun k => decide (@He idI ((k : Int), ()) = some (Gu k, ()))) = true := by kernel_rfl
theorem Acd : ((List.range 65).all fun k => decide (@Rp idI ((k : Int), ()) = some (Gu k, ()))) = true := by kernel_rfl
theorem Qb (n : Nat) (h : n ≤ 64) : He ((n : Int), ()) = some (Gu n, ()) := by
 rw [show He ((n : Int), ()) = @He idI ((n : Int), ()) from congrArg (fun i => @He i ((n : Int), ())) Y8]
 exact of_decide_eq_true (List.all_eq_true.1 Acr n (by simp; omega))
theorem On (n : Nat) (h : n ≤ 64) : Rp ((n : Int), ()) = some (Gu n, ()) := by
 rw [show Rp ((n : Int), ()) = @Rp idI ((n : Int), ()) from congrArg (fun i => @Rp i ((n : Int), ())) Y8]
 exact of_decide_eq_true (List.all_eq_true.1 Acd n (by simp; omega))
def AZc (a b : Int) : Int := if a < b then -1 else if b < a then 1 else 0
theorem PU (a b : Int) : HS (a, b, ()) = some (AZc a b, ()) := by
 rw [Ku, HR]
 simp only [Vt, RZ, L0, Bool.not_true]
 unfold AZc
 rw [Am, Am]
 by_cases h : a < b
 ·rw [decide_eq_true h, if_pos h]
 ·rw [decide_eq_false h, if_neg h]
  by_cases h' : b < a
  ·rw [decide_eq_true h', if_pos h']
  ·rw [decide_eq_false h', if_neg h']
theorem ARy (a b : Int) : orI ([a, b], ()) = some (if a = 0 then b else a, ()) := by
 rw [AYD, ARz]
 have e := Hx (step := M8) (fun i => (0, [a, b], AN [a, b], (i : Int), ())) [a, b] (fun x => !decide (x = 0)) (fun i => .inl ([a, b].getD i 0, ())) (.inr (.inl (0, ()))) (by simp)
  (fun i x hi hx => by
   rw [M8, AO, AM, decide_eq_true hi]
   simp only [Ah hx, Ap]
   have hi2 : i < 2 := hi
   rw [AL (by omega)]
   have hg : [a, b].getD i 0 = x := by rw [List.getD_eq_getElem?_getD, hx]; rfl
   rw [hg]
   by_cases h : x = 0
   ·simp [h]
   ·simp [h])
  (by rw [M8, AO, AM, decide_eq_false (by omega)])
 have e' : AX M8 many (0, [a, b], AN [a, b], (0 : Int), ()) = _ := e
 rw [e']
 by_cases h : a = 0
 ·by_cases h' : b = 0
  ·simp [h, h']
  ·simp [h, h', List.findIdx_cons]
 ·simp [h, List.findIdx_cons]
theorem AGq (p x : Tie) : ∃ y, C9 (p, x, ()) = some (y, ()) ∧ ile 0 y = !decide (ahead p x) := by
 rw [Kb, HC]
 simp only [PU, ARy]
 refine ⟨_, rfl, ?_⟩
 rw [Ao]
 by_cases h : ahead p x
 ·rw [decide_eq_true h]
  unfold ahead at h
  unfold AZc
  rw [decide_eq_false]; · rfl
  split <;> split <;> (try split) <;> omega
 ·rw [decide_eq_false h]
  unfold ahead at h
  unfold AZc
  rw [decide_eq_true]; · rfl
  split <;> split <;> (try split) <;> omega
def Jz (N : Nat) (ts : List Tie) (i : Nat) : Prop :=
 0 ≤ (ts.getD i zT).1 ∧ (ts.getD i zT).1 < (ts.getD i zT).2.1 ∧ (ts.getD i zT).2.1 < (N : Int) ∧ 0 ≤ (ts.getD i zT).2.2.1 ∧ (ts.getD i zT).2.2.1 ≤ Gu N ∧ (i = 0 ∨ ahead (ts.getD (i - 1) zT) (ts.getD i zT))
instance (N : Nat) (ts : List Tie) (i : Nat) : Decidable (Jz N ts i) := inferInstanceAs (Decidable (_ ∧ _ ∧ _ ∧ _ ∧ _ ∧ _))
def trs (ts : List Tie) (k : Nat) : List Edge := (List.range k).foldl (fun a i => if (ts.getD i zT).2.2.2.1 = true then a ++ [ed (ts.getD i zT)] else a) []
theorem AIT {α β ρ : Type} (P : β → Prop) [DecidablePred P] (g : β → α → α) (fin : α → ρ) (rt : ρ) : ∀ (xs : List β) (a : α), walk (fun x a => if P x then .inl (g x a) else .inr rt) fin xs a = if ∀ x ∈ xs, P x then fin (xs.foldl (fun a x => g x a) a) else rt := by
 intro xs
 induction xs with
 | nil => intro a; simp [walk]
 | cons x xs ih =>
  intro a
  rw [walk]
  by_cases h : P x
  ·rw [if_pos h]
   simp only []
   rw [ih]
   simp [h]
  ·rw [if_neg h]
   simp [h]
theorem Wb (ts : List Tie) (k : Nat) : trs ts (k + 1) = if (ts.getD k zT).2.2.2.1 = true then trs ts k ++ [ed (ts.getD k zT)] else trs ts k := by
 unfold trs
 rw [List.range_succ, List.foldl_append]
 rfl
theorem AER (ts : List Tie) : ∀ k, (trs ts k).length ≤ k := by
 intro k
 induction k with
 | zero => exact Nat.le_refl _
 | succ k ih =>
  rw [Wb]
  split
  ·rw [List.length_append]; simp; omega
  ·omega
theorem AZy (ts : List Tie) (e : Edge) : ∀ k, e ∈ trs ts k → ∃ i, i < k ∧ e = ed (ts.getD i zT) := by
 intro k
 induction k with
 | zero => intro h; simp [trs] at h
 | succ k ih =>
  intro h
  rw [Wb] at h
  split at h
  ·rcases List.mem_append.1 h with h | h
   ·obtain ⟨i, h1, h2⟩ := ih h; exact ⟨i, by omega, h2⟩
   ·simp only [List.mem_singleton] at h; exact ⟨k, by omega, h⟩
  ·obtain ⟨i, h1, h2⟩ := ih h; exact ⟨i, by omega, h2⟩
def oks (N : Nat) (ts : List Tie) : Prop := ∀ i ∈ List.range ts.length, Jz N ts i
instance (N : Nat) (ts : List Tie) : Decidable (oks N ts) := inferInstanceAs (Decidable (∀ i ∈ List.range ts.length, Jz N ts i))
theorem ALC (N : Nat) (hN : N ≤ 64) (ts : List Tie) (hs : ts.length ≤ 400) :
  AX DL many ((N : Int), ts, Gu N, ts, AN ts, (0 : Int), ()) = some (if oks N ts then .inr (.inl ((N : Int), ts, ())) else .inl (false, ())) := by
 have e := De (step := DL) (fun i (_ : Unit) => ((N : Int), ts, Gu N, ts, AN ts, (i : Int), ())) (List.range ts.length) (fun i a => if Jz N ts i then .inl a else .inr (.inl (false, ()))) (fun _ => .inr (.inl ((N : Int), ts, ()))) (fun _ _ => True) (by simp; omega)
  (fun i x a hi hx _ => by
   have := Ey hx
   subst this
   rw [List.length_range] at hi
   have step : DL ((N : Int), ts, Gu N, ts, AN ts, (x : Int), ()) = if Jz N ts x then some (.inl ((N : Int), ts, Gu N, ts, AN ts, ((x + 1 : Nat) : Int), ())) else some (.inr (.inl (false, ()))) := by
    rw [DL, AO, AM, decide_eq_true hi]
    simp only [DZ zT hi]
    obtain ⟨t, ht⟩ : ∃ t, ts.getD x zT = t := ⟨_, rfl⟩
    have hk : Jz N ts x ↔ (0 ≤ t.1 ∧ t.1 < t.2.1 ∧ t.2.1 < (N : Int) ∧ 0 ≤ t.2.2.1 ∧ t.2.2.1 ≤ Gu N ∧ (x = 0 ∨ ahead (ts.getD (x - 1) zT) t)) := by unfold Jz; rw [ht]
    rw [ht]
    rw [Am, Ao, Ao, Am, Am]
    by_cases h1 : t.1 < 0
    ·rw [decide_eq_true h1, if_neg (fun h => by obtain ⟨q1, q2, q3, q4, q5, _⟩ := hk.1 h; omega)]
    rw [decide_eq_false h1]
    by_cases h2 : t.2.1 ≤ t.1
    ·rw [decide_eq_true h2, if_neg (fun h => by obtain ⟨q1, q2, q3, q4, q5, _⟩ := hk.1 h; omega)]
    rw [decide_eq_false h2]
    by_cases h3 : (N : Int) ≤ t.2.1
    ·rw [decide_eq_true h3, if_neg (fun h => by obtain ⟨q1, q2, q3, q4, q5, _⟩ := hk.1 h; omega)]
    rw [decide_eq_false h3]
    by_cases h4 : t.2.2.1 < 0
    ·rw [decide_eq_true h4, if_neg (fun h => by obtain ⟨q1, q2, q3, q4, q5, _⟩ := hk.1 h; omega)]
    rw [decide_eq_false h4]
    by_cases h5 : Gu N < t.2.2.1
    ·rw [decide_eq_true h5, if_neg (fun h => by obtain ⟨q1, q2, q3, q4, q5, _⟩ := hk.1 h; omega)]
    rw [decide_eq_false h5]
    simp only []
    rw [AL (by omega), Am]
    by_cases h6 : x = 0
    ·subst h6
     rw [decide_eq_false (by omega), if_pos (hk.2 ⟨by omega, by omega, by omega, by omega, by omega, .inl rfl⟩)]
    ·rw [decide_eq_true (by omega), Af (by omega), show ((x : Int) - 1) = ((x - 1 : Nat) : Int) by omega]
     simp only [DZ zT (show x - 1 < ts.length by omega)]
     obtain ⟨y, ey, hy⟩ := AGq (ts.getD (x - 1) zT) t
     have ey' : C9 (((ts.getD (x - 1) zT).1, ((ts.getD (x - 1) zT).2.1, ((ts.getD (x - 1) zT).2.2.1, ((ts.getD (x - 1) zT).2.2.2.1, ())))), (t.1, (t.2.1, (t.2.2.1, (t.2.2.2.1, ())))), ()) = some (y, ()) := ey
     simp only [ey', hy]
     by_cases h7 : ahead (ts.getD (x - 1) zT) t
     ·rw [decide_eq_true h7, if_pos (hk.2 ⟨by omega, by omega, by omega, by omega, by omega, .inr h7⟩)]
      rfl
     ·rw [decide_eq_false h7, if_neg (fun h => by rcases (hk.1 h).2.2.2.2.2 with h | h; exact h6 h; exact h7 h)]
      rfl
   by_cases h : Jz N ts x
   ·rw [if_pos h] at step ⊢
    refine ⟨fun m' h' => ?_, fun r h' => (by cases h')⟩
    cases h'
    exact ⟨step, trivial⟩
   ·rw [if_neg h] at step ⊢
    refine ⟨fun m' h' => (by cases h'), fun r h' => ?_⟩
    cases h'
    exact step)
  (fun a _ => by rw [DL, List.length_range, AO, AM, decide_eq_false (by omega)]) () trivial
 have e' : AX DL many ((N : Int), ts, Gu N, ts, AN ts, (0 : Int), ()) = _ := e
 rw [e', AIT (Jz N ts) (fun _ a => a)]
 rfl
theorem OO (N : Nat) (hN : N ≤ 64) (ts : List Tie) (hs : ts.length ≤ 400) :
  AX CS many ((N : Int), ts, [], (0 : Int), ()) = some (if oks N ts then .inr (.inl ((N : Int), ts, trs ts ts.length, ())) else .inl (false, ())) := by
 have e := De (step := CS) (fun i (a : List Edge) => ((N : Int), ts, a, (i : Int), ())) (List.range ts.length) (fun i a => if Jz N ts i then .inl (if (ts.getD i zT).2.2.2.1 = true then a ++ [ed (ts.getD i zT)] else a) else .inr (.inl (false, ()))) (fun a => .inr (.inl ((N : Int), ts, a, ()))) (fun i a => a.length ≤ i) (by simp; omega)
  (fun i x a hi hx ha => by
   have := Ey hx
   subst this
   rw [List.length_range] at hi
   have step : CS ((N : Int), ts, a, (x : Int), ()) = if Jz N ts x then some (.inl ((N : Int), ts, if (ts.getD x zT).2.2.2.1 = true then a ++ [ed (ts.getD x zT)] else a, ((x + 1 : Nat) : Int), ())) else some (.inr (.inl (false, ()))) := by
    rw [CS, AO, AM, decide_eq_true hi]
    simp only [DZ zT hi, Qb N hN]
    obtain ⟨t, ht⟩ : ∃ t, ts.getD x zT = t := ⟨_, rfl⟩
    have hk : Jz N ts x ↔ (0 ≤ t.1 ∧ t.1 < t.2.1 ∧ t.2.1 < (N : Int) ∧ 0 ≤ t.2.2.1 ∧ t.2.2.1 ≤ Gu N ∧ (x = 0 ∨ ahead (ts.getD (x - 1) zT) t)) := by unfold Jz; rw [ht]
    rw [ht]
    rw [Am, Ao, Ao, Am, Am]
    by_cases h1 : t.1 < 0
    ·rw [decide_eq_true h1, if_neg (fun h => by obtain ⟨q1, q2, q3, q4, q5, _⟩ := hk.1 h; omega)]
    rw [decide_eq_false h1]
    by_cases h2 : t.2.1 ≤ t.1
    ·rw [decide_eq_true h2, if_neg (fun h => by obtain ⟨q1, q2, q3, q4, q5, _⟩ := hk.1 h; omega)]
    rw [decide_eq_false h2]
    by_cases h3 : (N : Int) ≤ t.2.1
    ·rw [decide_eq_true h3, if_neg (fun h => by obtain ⟨q1, q2, q3, q4, q5, _⟩ := hk.1 h; omega)]
    rw [decide_eq_false h3]
    by_cases h4 : t.2.2.1 < 0
    ·rw [decide_eq_true h4, if_neg (fun h => by obtain ⟨q1, q2, q3, q4, q5, _⟩ := hk.1 h; omega)]
    rw [decide_eq_false h4]
    by_cases h5 : Gu N < t.2.2.1
    ·rw [decide_eq_true h5, if_neg (fun h => by obtain ⟨q1, q2, q3, q4, q5, _⟩ := hk.1 h; omega)]
    rw [decide_eq_false h5]
    simp only [AO]
    have hfit : fits ((a.length : Int) + (([(t.1, t.2.1, ())] : List Edge).length : Int)) = true := BM (by simp; omega)
    rw [AL (by omega), Am]
    by_cases h6 : x = 0
    ·subst h6
     rw [decide_eq_false (by omega), if_pos (hk.2 ⟨by omega, by omega, by omega, by omega, by omega, .inl rfl⟩)]
     cases ht4 : t.2.2.2.1
     ·simp
     ·simp only [hfit]
      simp [ed, A8]
    ·rw [decide_eq_true (by omega), Af (by omega), show ((x : Int) - 1) = ((x - 1 : Nat) : Int) by omega]
     simp only [DZ zT (show x - 1 < ts.length by omega), Ap]
     generalize ts.getD (x - 1) zT = p at hk ⊢
     rw [Am, Ao]
     by_cases h7 : t.1 < p.1
     ·rw [decide_eq_true h7, if_neg (fun h => by rcases (hk.1 h).2.2.2.2.2 with h | h | h <;> omega)]
     rw [decide_eq_false h7]
     by_cases h8 : p.1 = t.1
     ·rw [decide_eq_true h8]
      by_cases h9 : t.2.1 ≤ p.2.1
      ·rw [decide_eq_true h9, if_neg (fun h => by rcases (hk.1 h).2.2.2.2.2 with h | h | h <;> omega)]
      rw [decide_eq_false h9, if_pos (hk.2 ⟨by omega, by omega, by omega, by omega, by omega, .inr (.inr ⟨h8, by omega⟩)⟩)]
      cases ht4 : t.2.2.2.1
      ·simp
      ·simp only [hfit]
       simp [ed, A8]
     ·rw [decide_eq_false h8, if_pos (hk.2 ⟨by omega, by omega, by omega, by omega, by omega, .inr (.inl (by omega))⟩)]
      cases ht4 : t.2.2.2.1
      ·simp
      ·simp only [hfit]
       simp [ed, A8]
   by_cases h : Jz N ts x
   ·rw [if_pos h] at step ⊢
    refine ⟨fun m' h' => ?_, fun r h' => (by cases h')⟩
    cases h'
    refine ⟨step, ?_⟩
    split
    ·rw [List.length_append]; simp; omega
    ·omega
   ·rw [if_neg h] at step ⊢
    refine ⟨fun m' h' => (by cases h'), fun r h' => ?_⟩
    cases h'
    exact step)
  (fun a _ => by rw [CS, List.length_range, AO, AM, decide_eq_false (by omega)]) [] (Nat.le_refl _)
 have e' : AX CS many ((N : Int), ts, [], (0 : Int), ()) = _ := e
 rw [e', AIT (Jz N ts) (fun i a => if (ts.getD i zT).2.2.2.1 = true then a ++ [ed (ts.getD i zT)] else a)]
 rfl
end Go.Pev.Pl
end
end
section
section
namespace Go.Pev.Pl
set_option linter.unusedSimpArgs false
set_option maxRecDepth 100000
theorem AR6 {N : Nat} {ts : List Tie} (hN : N ≤ 64) {i : Nat} (h : Jz N ts i) : In (N : Int) (ed (ts.getD i zT)).1 ∧ In (N : Int) (ed (ts.getD i zT)).2.1 := by
 obtain ⟨q1, q2, q3, _⟩ := h
 exact ⟨⟨by omega, by omega, q1, by show (ts.getD i zT).1 < _; omega⟩, ⟨by omega, by omega, by show 0 ≤ (ts.getD i zT).2.1; omega, q3⟩⟩
theorem AM2 {N : Nat} {ts : List Tie} (hN : N ≤ 64) (h : oks N ts) : ∀ e ∈ trs ts ts.length, In (N : Int) e.1 ∧ In (N : Int) e.2.1 := by
 intro e he
 obtain ⟨i, hi, rfl⟩ := AZy ts e _ he
 exact AR6 hN (h i (by simp [hi]))
theorem AcS {N : Nat} {ts : List Tie} (hN : N ≤ 64) (h : oks N ts) : ∀ e ∈ ts.map ed, In (N : Int) e.1 ∧ In (N : Int) e.2.1 := by
 intro e he
 obtain ⟨t, ht, rfl⟩ := List.mem_map.1 he
 obtain ⟨i, hi, rfl⟩ := List.getElem_of_mem ht
 have := AR6 hN (h i (by simp [hi]))
 simpa [hi] using this
theorem APV {N : Nat} (ts : List Tie) (hs : ts.length ≤ 400) (h : oks N ts) : NB (((N : Int), (ts, ())), (0 : Int), ()) = some (trs ts ts.length, ()) := by
 rw [Ro, KX]
 have e := De (step := CK) (fun i (a : List Edge) => ((0 : Int), a, ts, AN ts, (i : Int), ())) (List.range ts.length) (fun i a => .inl (if (ts.getD i zT).2.2.2.1 = true then a ++ [ed (ts.getD i zT)] else a)) (fun a => .inl (a, ())) (fun i a => a.length ≤ i) (by simp; omega)
  (fun i x a hi hx ha => by
   refine ⟨fun m' h' => ?_, fun r h' => (by cases h')⟩
   cases h'
   have := Ey hx
   subst this
   rw [List.length_range] at hi
   have hlv := (h x (by simp [hi])).2.2.2.1
   constructor
   ·rw [CK, AO, AM, decide_eq_true hi]
    simp only [DZ zT hi, AO]
    have hfit : fits ((a.length : Int) + (([((ts.getD x zT).1, (ts.getD x zT).2.1, ())] : List Edge).length : Int)) = true := BM (by simp; omega)
    rw [AL (by omega), Ao, decide_eq_true hlv]
    cases ht4 : (ts.getD x zT).2.2.2.1
    ·simp
    ·simp only [hfit]
     simp [ed, A8]
   ·split
    ·rw [List.length_append]; simp; omega
    ·omega)
  (fun a _ => by rw [CK, List.length_range, AO, AM, decide_eq_false (by omega)]) [] (Nat.le_refl _)
 have e' : AX CK many ((0 : Int), [], ts, AN ts, (0 : Int), ()) = _ := e
 simp only [e']
 rw [Ba (fun i a => if (ts.getD i zT).2.2.2.1 = true then a ++ [ed (ts.getD i zT)] else a)]
 rfl
def cnt (out : List Int) (N : Nat) : Nat := ((List.range N).filter fun k => decide (out.getD k 0 = (k : Int))).length
theorem AJQ {N : Nat} {rings : List (List Int)} {l : List Edge} {out : List Int} (h : FC (N : Int) rings l) (hc : TH (N : Int) l out) : rings.length = cnt out N := by
 have hsz := h.fr.sz
 have hp : (rings.map hd).Perm (((List.range N).filter fun k => decide (out.getD k 0 = (k : Int))).map fun (k : Nat) => (k : Int)) := by
  rw [List.perm_ext_iff_of_nodup]
  ·intro a
   simp only [List.mem_map, List.mem_filter, List.mem_range, decide_eq_true_eq]
   constructor
   ·rintro ⟨A, hA, rfl⟩
    have gA := h.fr.rg A hA
    have ih : In (N : Int) (hd A) := MD gA
    have hh := SK gA.2.1
    have := ALo h hc hA ih hh
    obtain ⟨_, _, a1, a2⟩ := ih
    refine ⟨(hd A).toNat, ⟨by omega, ?_⟩, by omega⟩
    rw [show out.getD (hd A).toNat 0 = cl out (hd A) from rfl, ← this]
    omega
   ·rintro ⟨k, ⟨hk, ho⟩, rfl⟩
    have ik : In (N : Int) (k : Int) := ⟨hsz.1, hsz.2, by omega, by omega⟩
    obtain ⟨A, hA, hm⟩ := h.fr.cov _ ik
    refine ⟨A, hA, ?_⟩
    rw [ALo h hc hA ik hm]
    unfold cl
    rw [Int.toNat_natCast]; exact ho
  ·exact (List.pairwise_map.2 h.fr.up).imp (fun h => by omega)
  ·refine List.Pairwise.map _ (S := fun a b => a ≠ b) (R := fun a b => a ≠ b) (fun a b h h' => h (by omega)) ?_
   exact (List.nodup_range).filter _
 have := hp.length_eq
 rw [List.length_map, List.length_map] at this
 exact this
theorem MY (N : Nat) (hN : N ≤ 64) (p : List Tie) (q : List Edge) (out : List Int) (ho : out.length = N) : AX C1 many ((N : Int), p, q, out, (0 : Int), (0 : Int), ()) = some (.inl ((N : Int), p, q, (cnt out N : Int), ())) := by
 have e := De (step := C1) (fun i (a : Nat) => ((N : Int), p, q, out, (a : Int), (i : Int), ())) (List.range N) (fun k a => .inl (if out.getD k 0 = (k : Int) then a + 1 else a)) (fun a => .inl ((N : Int), p, q, (a : Int), ())) (fun i a => a ≤ i) (by simp; omega)
  (fun i x a hi hx ha => by
   refine ⟨fun m' h' => ?_, fun r h' => (by cases h')⟩
   cases h'
   have := Ey hx
   subst this
   rw [List.length_range] at hi
   constructor
   ·rw [C1, AM, decide_eq_true hi]
    simp only [DZ 0 (show x < out.length by omega), JW, Ap]
    rw [AL (by omega), AL (by omega)]
    by_cases h : out.getD x 0 = (x : Int)
    ·rw [decide_eq_true h, if_pos h]
    ·rw [decide_eq_false h, if_neg h]
   ·split <;> omega)
  (fun a _ => by rw [C1, List.length_range, AM, decide_eq_false (by omega)]) 0 (Nat.le_refl _)
 have e' : AX C1 many ((N : Int), p, q, out, (0 : Int), (0 : Int), ()) = _ := e
 rw [e', Ba (fun k a => if out.getD k 0 = (k : Int) then a + 1 else a)]
 have key : ∀ (xs : List Nat) (a : Nat), xs.foldl (fun a k => if out.getD k 0 = (k : Int) then a + 1 else a) a = a + (xs.filter fun k => decide (out.getD k 0 = (k : Int))).length := by
  intro xs
  induction xs with
  | nil => intro a; rfl
  | cons x xs ih =>
   intro a
   rw [List.foldl_cons, ih, List.filter_cons]
   by_cases h : out.getD x 0 = (x : Int)
   ·simp only [h, if_true, decide_true, List.length_cons]; omega
   ·simp only [h, if_false, decide_false, Bool.false_eq_true]
 rw [key, Nat.zero_add]
 rfl
theorem AAe (n : Int) (ts : List Tie) (hl : ts.length < 4611686018427387904) : ∃ b : Bool, Bl ((n, (ts, ())), ()) = some (b, ()) ∧ CZ ((n, (ts, ())), ()) = some (b, ()) ∧ (b = true → ∃ N : Nat, n = (N : Int) ∧ 1 ≤ N ∧ N ≤ 64 ∧ ts.length ≤ 400 ∧ oks N ts) := by
 by_cases hn : ¬ (1 ≤ n ∧ n ≤ 64)
 ·refine ⟨false, ?_, ?_, fun h => by cases h⟩
  ·rw [Ev, EE, Am, Am]
   by_cases h : n < 1
   ·simp only [decide_eq_true h]
   ·simp only [decide_eq_false h, decide_eq_true (show 64 < n by omega)]
  ·rw [IW, G6]
   simp only [Lt, IV, Ao]
   by_cases h : 1 ≤ n
   ·simp only [decide_eq_true h, decide_eq_false (show ¬ n ≤ 64 by omega), Bool.not_false]
   ·simp only [decide_eq_false h, Bool.not_false]
 have hn := Classical.not_not.1 hn
 obtain ⟨N, rfl⟩ := Int.eq_ofNat_of_zero_le (show 0 ≤ n by omega)
 have hsz : NC ((N : Int), ()) = some (true, ()) := by
  simp only [Lt, IV, Ao, decide_eq_true hn.1, decide_eq_true hn.2]
 by_cases h4 : ¬ ts.length ≤ 400
 ·refine ⟨false, ?_, ?_, fun h => by cases h⟩
  ·rw [Ev, EE]
   simp only [Am, AO]
   rw [decide_eq_false (show ¬ (N : Int) < 1 by omega), decide_eq_false (show ¬ 64 < (N : Int) by omega), decide_eq_true (show 400 < (ts.length : Int) by omega)]
  ·rw [IW, G6]
   simp only [hsz, Bool.not_true, Am, AO]
   rw [decide_eq_true (show 400 < (ts.length : Int) by omega)]
 have h4 := Classical.not_not.1 h4
 have R := OO N (by omega) ts h4
 have L := ALC N (by omega) ts h4
 by_cases ho : ¬ oks N ts
 ·rw [if_neg ho] at R L
  refine ⟨false, ?_, ?_, fun h => by cases h⟩
  ·rw [Ev, EE]
   simp only [Am, AO]
   rw [decide_eq_false (show ¬ (N : Int) < 1 by omega), decide_eq_false (show ¬ 64 < (N : Int) by omega), decide_eq_false (show ¬ 400 < (ts.length : Int) by omega)]
   simp only [R]
  ·rw [IW, G6]
   simp only [hsz, Bool.not_true, Am, AO, On N (by omega)]
   rw [decide_eq_false (show ¬ 400 < (ts.length : Int) by omega)]
   rw [AO] at L
   simp only [L]
 have ho := Classical.not_not.1 ho
 rw [if_pos ho] at R L
 have hin := AM2 (show N ≤ 64 by omega) ho
 have hlen := AER ts ts.length
 obtain ⟨out, hc, hcl⟩ := Fh (N : Int) (trs ts ts.length) hn (by omega) hin
 rcases (ASc (N : Int) (trs ts ts.length) hn (by omega)).symm with ⟨hno, _⟩ | ⟨_, rings, hf, hfc⟩
 ·exact absurd hin hno
 have hcount := AJQ hfc hcl
 have hol : out.length = N := by have := hcl.len; omega
 refine ⟨decide ((cnt out N : Int) = (N : Int) - (trs ts ts.length).length), ?_, ?_, fun _ => ⟨N, rfl, by omega, by omega, h4, ho⟩⟩
 ·rw [Ev, EE]
  simp only [Am, AO]
  rw [decide_eq_false (show ¬ (N : Int) < 1 by omega), decide_eq_false (show ¬ 64 < (N : Int) by omega), decide_eq_false (show ¬ 400 < (ts.length : Int) by omega)]
  simp only [R, hc, MY N (by omega) _ _ out hol, Ap]
  rw [Af (by omega)]
 ·rw [IW, G6]
  simp only [hsz, Bool.not_true, Am, AO, On N (by omega)]
  rw [decide_eq_false (show ¬ 400 < (ts.length : Int) by omega)]
  rw [AO] at L
  simp only [L, APV ts h4 ho, hf, L0, Ap, hcount]
  rw [Af (by omega)]
end Go.Pev.Pl
end
section
namespace Go.Pev.Pl
set_option linter.unusedSimpArgs false
set_option maxRecDepth 100000
theorem TH.unique {N : Nat} {l : List Edge} {a b : List Int} (h1 : 1 ≤ N) (h2 : N ≤ 64) (ha : TH (N : Int) l a) (hb : TH (N : Int) l b) : a = b := by
 have la := ha.len
 have lb := hb.len
 refine Eh (0 : Int) (by omega) fun k hk => ?_
 have ik : In (N : Int) (k : Int) := ⟨by omega, by omega, by omega, by omega⟩
 have e1 := ha.least _ _ ik (hb.isin _ ik) (hb.con _ ik)
 have e2 := hb.least _ _ ik (ha.isin _ ik) (ha.con _ ik)
 unfold cl at e1 e2
 rw [Int.toNat_natCast] at e1 e2
 omega
theorem ADk (xs : List Tie) (a : List Edge) : xs.foldl (fun a x => a ++ [ed x]) a = a ++ xs.map ed := AVi ed xs a
theorem ZN (n : Int) (ts : List Tie) (hs : ts.length ≤ 400) (h : CZ ((n, (ts, ())), ()) = some (true, ())) : ND ((n, (ts, ())), ()) = some (ts.map ed, ()) := by
 rw [R9, Ka]
 simp only [h, Bool.not_true]
 have e := De (step := E4) (fun i (a : List Edge) => (a, ts, AN ts, (i : Int), ())) ts (fun x a => .inl (a ++ [ed x])) (fun a => .inl (a, ())) (fun i a => a.length ≤ i) (by omega)
  (fun i x a hi hx ha => by
   refine ⟨fun m' h' => ?_, fun r h' => (by cases h')⟩
   cases h'
   constructor
   ·rw [E4]
    simp only [AO]
    rw [AM, decide_eq_true hi]
    simp only [Ah hx]
    rw [BM (by simp; omega), AL (by omega)]
    rfl
   ·rw [List.length_append]; simp; omega)
  (fun a _ => by rw [E4, AO, AM, decide_eq_false (by omega)]) [] (Nat.le_refl _)
 have e' : AX E4 many ([], ts, AN ts, (0 : Int), ()) = _ := e
 simp only [e']
 rw [Ba (fun x a => a ++ [ed x]), ADk]
 rfl
theorem UA (n : Int) (ts : List Tie) (hs : ts.length ≤ 400) (h : Bl ((n, (ts, ())), ()) = some (true, ())) : L4 ((n, (ts, ())), ()) = some (ts.map ed, ()) := by
 rw [Nc, Il]
 simp only [h, Bool.not_true]
 have e := De (step := D2) (fun i (a : List Edge) => (n, ts, a, (i : Int), ())) ts (fun x a => .inl (a ++ [ed x])) (fun a => .inl (a, ())) (fun i a => a.length ≤ i) (by omega)
  (fun i x a hi hx ha => by
   refine ⟨fun m' h' => ?_, fun r h' => (by cases h')⟩
   cases h'
   constructor
   ·rw [D2]
    simp only [AO]
    rw [AM, decide_eq_true hi]
    simp only [Ah hx]
    rw [BM (by simp; omega), AL (by omega)]
    rfl
   ·rw [List.length_append]; simp; omega)
  (fun a _ => by rw [D2, AO, AM, decide_eq_false (by omega)]) [] (Nat.le_refl _)
 have e' : AX D2 many (n, ts, [], (0 : Int), ()) = _ := e
 simp only [e']
 rw [Ba (fun x a => a ++ [ed x]), ADk]
 rfl
def InV (N : Nat) (x : Int) : Prop := 0 ≤ x ∧ x < (N : Int)
instance (N : Nat) (x : Int) : Decidable (InV N x) := inferInstanceAs (Decidable (_ ∧ _))
end Go.Pev.Pl
end
section
namespace Go.Pev.Pl
set_option linter.unusedSimpArgs false
set_option maxRecDepth 100000
end Go.Pev.Pl
end
section
namespace Go.Pev.Pl
set_option linter.unusedSimpArgs false
set_option maxRecDepth 100000
def AbF (l : List Edge) (u v : Int) : Prop := ((u, (v, ())) : Edge) ∈ l ∨ ((v, (u, ())) : Edge) ∈ l
instance (l : List Edge) (u v : Int) : Decidable (AbF l u v) := inferInstanceAs (Decidable (_ ∨ _))
def AaI (N : Nat) (l : List Edge) (u : Nat) : List Edge := ((List.range (N - (u + 1))).filter fun i => decide (AbF l (u : Int) ((u + 1 + i : Nat) : Int))).map fun (i : Nat) => ((u : Int), ((u + 1 + i : Nat) : Int), ())
def Xk (N : Nat) (l : List Edge) : List Edge := (List.range N).flatMap fun u => AaI N l u
end Go.Pev.Pl
end
section
namespace Go.Pev.Pl
set_option linter.unusedSimpArgs false
set_option maxRecDepth 100000
def Is (N : Nat) (ts : List Tie) (l : List Edge) : List Edge := (Xk N l).filter fun x => !decide (x ∈ ts.map ed)
def Xg (l : List Tie) (t : Tie) : List Tie := l.take (l.findIdx fun x => !decide (ahead x t)) ++ t :: l.drop (l.findIdx fun x => !decide (ahead x t))
end Go.Pev.Pl
end
section
namespace Go.Pev.Pl
set_option linter.unusedSimpArgs false
def valid (N : Nat) (t : Tie) : Prop := 0 ≤ t.1 ∧ t.1 < t.2.1 ∧ t.2.1 < (N : Int) ∧ 0 ≤ t.2.2.1 ∧ t.2.2.1 ≤ Gu N
theorem ahead.trans {a b c : Tie} (h : ahead a b) (h' : ahead b c) : ahead a c := by
 unfold ahead at *
 omega
theorem Oh (N : Nat) (ts : List Tie) : oks N ts ↔ (∀ t ∈ ts, valid N t) ∧ ts.Pairwise ahead := by
 constructor
 ·intro h
  have hv : ∀ i, i < ts.length → Jz N ts i := fun i hi => h i (by simpa using hi)
  refine ⟨fun t ht => ?_, ?_⟩
  ·obtain ⟨i, hi, rfl⟩ := List.getElem_of_mem ht
   obtain ⟨q1, q2, q3, q4, q5, _⟩ := hv i hi
   simp only [List.getD_eq_getElem?_getD, List.getElem?_eq_getElem hi, Option.getD_some] at q1 q2 q3 q4 q5
   exact ⟨q1, q2, q3, q4, q5⟩
  ·have key : ∀ (d i : Nat), i + d + 1 < ts.length → ahead (ts.getD i zT) (ts.getD (i + d + 1) zT) := by
    intro d
    induction d with
    | zero =>
     intro i hi
     obtain ⟨_, _, _, _, _, q⟩ := hv (i + 0 + 1) hi
     rcases q with q | q
     ·omega
     ·simpa using q
    | succ d ih =>
     intro i hi
     have h1 := ih i (by omega)
     obtain ⟨_, _, _, _, _, q⟩ := hv (i + (d + 1) + 1) hi
     rcases q with q | q
     ·omega
     ·rw [show i + (d + 1) + 1 - 1 = i + d + 1 by omega] at q
      exact h1.trans q
   rw [List.pairwise_iff_getElem]
   intro i j hi hj hij
   have := key (j - i - 1) i (by omega)
   rw [show i + (j - i - 1) + 1 = j by omega] at this
   simpa only [List.getD_eq_getElem?_getD, List.getElem?_eq_getElem hi, List.getElem?_eq_getElem hj, Option.getD_some] using this
 ·rintro ⟨h1, h2⟩ i hi
  have hi : i < ts.length := by simpa using hi
  have e : ∀ j (hj : j < ts.length), ts.getD j zT = ts[j] := fun j hj => by
   simp only [List.getD_eq_getElem?_getD, List.getElem?_eq_getElem hj, Option.getD_some]
  obtain ⟨q1, q2, q3, q4, q5⟩ := h1 ts[i] (List.getElem_mem hi)
  unfold Jz
  rw [e i hi]
  refine ⟨q1, q2, q3, q4, q5, ?_⟩
  by_cases h0 : i = 0
  ·exact .inl h0
  ·right
   rw [e (i - 1) (by omega)]
   exact (List.pairwise_iff_getElem.1 h2) (i - 1) i (by omega) hi (by omega)
theorem AC3 (l : List Tie) (t : Tie) : (Xg l t).Perm (t :: l) := by
 unfold Xg
 refine List.perm_middle.trans ?_
 rw [List.take_append_drop]
theorem ATw {l : List Tie} {t : Tie} (h : l.Pairwise ahead) (hn : ∀ x ∈ l, ¬ (x.1 = t.1 ∧ x.2.1 = t.2.1)) : (Xg l t).Pairwise ahead := by
 induction l with
 | nil => simp [Xg]
 | cons a l ih =>
  rw [List.pairwise_cons] at h
  have hna := hn a (by simp)
  have hnl : ∀ x ∈ l, ¬ (x.1 = t.1 ∧ x.2.1 = t.2.1) := fun x hx => hn x (by simp [hx])
  by_cases ha : ahead a t
  ·have e : Xg (a :: l) t = a :: Xg l t := by
    unfold Xg
    rw [List.findIdx_cons]
    simp [ha]
   rw [e, List.pairwise_cons]
   refine ⟨fun x hx => ?_, ih h.2 hnl⟩
   rcases List.mem_cons.1 ((AC3 l t).mem_iff.1 hx) with rfl | hx
   ·exact ha
   ·exact h.1 x hx
  ·have e : Xg (a :: l) t = t :: a :: l := by
    unfold Xg
    rw [List.findIdx_cons]
    simp [ha]
   have hta : ahead t a := by unfold ahead at *; omega
   rw [e, List.pairwise_cons, List.pairwise_cons]
   refine ⟨fun x hx => ?_, h.1, h.2⟩
   rcases List.mem_cons.1 hx with rfl | hx
   ·exact hta
   ·exact hta.trans (h.1 x hx)
end Go.Pev.Pl
end
section
namespace Go.Pev.Pl
set_option linter.unusedSimpArgs false
theorem APO (N : Nat) (l : List Edge) (x : Edge) : x ∈ Xk N l ↔ 0 ≤ x.1 ∧ x.1 < x.2.1 ∧ x.2.1 < (N : Int) ∧ AbF l x.1 x.2.1 := by
 unfold Xk AaI
 simp only [List.mem_flatMap, List.mem_map, List.mem_filter, List.mem_range, decide_eq_true_eq]
 constructor
 ·rintro ⟨u, hu, i, ⟨hi, he⟩, rfl⟩
  exact ⟨by show (0 : Int) ≤ (u : Int); omega, by show (u : Int) < ((u + 1 + i : Nat) : Int); omega, by show ((u + 1 + i : Nat) : Int) < (N : Int); omega, he⟩
 ·obtain ⟨a, b, ⟨⟩⟩ := x
  rintro ⟨h1, h2, h3, h4⟩
  simp only at h1 h2 h3 h4
  obtain ⟨u, rfl⟩ := Int.eq_ofNat_of_zero_le h1
  obtain ⟨v, rfl⟩ := Int.eq_ofNat_of_zero_le (show 0 ≤ b by omega)
  refine ⟨u, by omega, v - (u + 1), ⟨by omega, ?_⟩, ?_⟩
  ·rw [show u + 1 + (v - (u + 1)) = v by omega]; exact h4
  ·rw [show u + 1 + (v - (u + 1)) = v by omega]
def AH2 (p x : Edge) : Prop := p.1 < x.1 ∨ (p.1 = x.1 ∧ p.2.1 < x.2.1)
theorem AJd (N : Nat) (l : List Edge) : (Xk N l).Pairwise AH2 := by
 unfold Xk
 rw [List.pairwise_flatMap]
 refine ⟨fun u _ => ?_, ?_⟩
 ·unfold AaI
  rw [List.pairwise_map]
  refine List.Pairwise.filter _ ?_
  refine List.pairwise_lt_range.imp fun h => ?_
  exact .inr ⟨rfl, by show ((u + 1 + _ : Nat) : Int) < ((u + 1 + _ : Nat) : Int); omega⟩
 ·refine List.pairwise_lt_range.imp fun h x hx y hy => ?_
  unfold AaI at hx hy
  simp only [List.mem_map] at hx hy
  obtain ⟨i, _, rfl⟩ := hx
  obtain ⟨j, _, rfl⟩ := hy
  exact .inl (by simp only; omega)
theorem Ra (N : Nat) (ts : List Tie) (l : List Edge) (x : Edge) : x ∈ Is N ts l ↔ (0 ≤ x.1 ∧ x.1 < x.2.1 ∧ x.2.1 < (N : Int) ∧ AbF l x.1 x.2.1) ∧ ¬ x ∈ ts.map ed := by
 unfold Is
 rw [List.mem_filter, APO]
 simp
theorem AQ1 (N : Nat) (ts : List Tie) (l : List Edge) : (Is N ts l).Pairwise AH2 := (AJd N l).filter _
end Go.Pev.Pl
end
section
namespace Go.Pev.Pl
open Tok
instance (n v : Int) : Decidable (In n v) := inferInstanceAs (Decidable (_ ∧ _))
instance (n : Int) : Decidable (Sz n) := inferInstanceAs (Decidable (_ ∧ _))
theorem Ib (n v : Int) : AB1 (n, v, ()) = some (decide (In n v), ()) := by
 rw [ASQ, AGy]
 simp only [Ao, Am]
 by_cases h1 : 1 ≤ n <;> by_cases h2 : n ≤ 64 <;> by_cases h3 : 0 ≤ v <;> simp [In, h1, h2, h3]
theorem AD2 (n u v : Int) : AAg (n, u, v, ()) = some (Dd n u v, ()) := by
 rw [AMi, WD]
 simp only [Ib, Dd, Ap]
 by_cases h1 : In n u
 ·by_cases h2 : In n v
  ·by_cases h3 : u = v
   ·simp [h1, h2, h3]
   ·obtain ⟨a1, a2, a3, a4⟩ := h1
    obtain ⟨b1, b2, b3, b4⟩ := h2
    have hb := E2 a1 a2 a3 (by omega)
    have e1 : u * n = n * u := Int.mul_comm _ _
    have e2 : n * (u + 1) = n * u + n := by rw [Int.mul_add, Int.mul_one]
    rw [e1, Af (n := n * u) (by omega), Af (n := n + n * u) (by omega), Af (n := n + n * u + v) (by omega), e2]
    have e3 : n + n * u + v = n * u + n + v := by omega
    simp [In, a1, a2, a3, a4, b3, b4, h3, e3]
  ·simp [h1, h2]
 ·simp [h1]
theorem TL (n t : Int) (ht : -9223372036854775808 ≤ t ∧ t ≤ 9223372036854775807) : LP (n, t, ()) = some (MO (Bs n t)) := by
 rw [Wt, LO]
 simp only [Ib, Am, Ao]
 by_cases hi : In n t
 ·simp only [hi, decide_true, Bs, if_true, MO]
 ·simp only [hi, decide_false]
  by_cases h1 : n < 1
  ·have hs : ¬ Sz n := fun h => by have := h.1; omega
   simp only [h1, decide_true, Bs, hi, if_false, hs, false_and, MO]
  ·simp only [h1, decide_false]
   by_cases h2 : 64 < n
   ·have hs : ¬ Sz n := fun h => by have := h.2; omega
    simp only [h2, decide_true, Bs, hi, if_false, hs, false_and, MO]
   ·have a1 : 1 ≤ n := by omega
    have a2 : n ≤ 64 := by omega
    have hb := E2 (u := n) a1 a2 (by omega) (by omega)
    have e3 : n * (n + 1) = n * n + n := by rw [Int.mul_add, Int.mul_one]
    rw [Af (n := n * n) (by omega), Af (n := n + n * n) (by omega)]
    simp only [h2, decide_false]
    by_cases h3 : t < n
    ·have : ¬ n ≤ t := by omega
     simp only [h3, decide_true, Bs, hi, if_false, this, false_and, and_false, MO]
    ·simp only [h3, decide_false]
     by_cases h4 : n + n * n ≤ t
     ·have : ¬ t < n * (n + 1) := by omega
      simp only [h4, decide_true, Bs, hi, if_false, this, false_and, and_false, MO]
     ·obtain ⟨d1, d2, d3⟩ := AHS (t := t) ⟨a1, a2⟩ (by omega) (by omega)
      have q1 := d1.2.2.1
      have q2 := d1.2.2.2
      rw [Af (n := t - n) (by omega)]
      have hq : (t - n).tdiv n = t / n - 1 := by
       rw [Int.tdiv_eq_ediv_of_nonneg (by omega)]
       have := Int.add_mul_ediv_right t (-1) (show n ≠ 0 by omega)
       rw [show t - n = t + -1 * n by omega, this]; omega
      have hm : (t - n).tmod n = t % n := by
       rw [Int.tmod_eq_emod_of_nonneg (by omega)]
       have := Int.add_mul_emod_self_right t (-1) n
       rw [show t - n = t + -1 * n by omega, this]
      simp only [h4, decide_false, Qx, Qy, Xd, VH]
      rw [if_neg (by omega), if_neg (by omega), hq, hm, Af (n := t / n - 1) (by omega)]
      simp only []
      rw [Ap, Bs, if_neg hi]
      by_cases h5 : t / n - 1 = t % n
      ·rw [if_neg (by intro h; exact h.2.2.2 h5), decide_eq_true h5]; rfl
      ·rw [if_pos ⟨⟨a1, a2⟩, by omega, by omega, h5⟩, decide_eq_false h5]; rfl
theorem Tz (xs ys : List (List Int)) (hs : xs.length < 9223372036854775808) (hi : ∀ x ∈ xs, x.length < 9223372036854775808) : Lv (xs, ys, ()) = some (decide (xs = ys), ()) := by
 rw [ZC, Lu, Kd]
 by_cases hl : xs.length = ys.length
 ·rw [decide_eq_true hl]
  simp only [Bool.not_true]
  rcases ACp (step := C6) (fun i => (xs, ys, ((i : Nat) : Int), ())) xs.length (fun i => !decide (xs.getD i [] = ys.getD i [])) (fun _ => .inl (false, ())) (.inr (.inl ())) hs (fun i hii => by
   have hm : (xs.getD i []).length < 9223372036854775808 := hi _ (by simp [hii])
   rw [C6, AO, AM, decide_eq_true hii]
   simp (disch := first | omega | exact hm) only [DZ ([] : List Int), AL, D0]
   by_cases h : xs.getD i [] = ys.getD i []
   ·rw [decide_eq_true h]; simp
   ·rw [decide_eq_false h]; simp) (by rw [C6, AO, AM, decide_eq_false (by omega)]) with ⟨k, hk, hP, _, e⟩ | ⟨h, e⟩
  ·have e' : AX C6 many (xs, ys, (0 : Int), ()) = _ := e
   rw [e']
   have : xs ≠ ys := Tu ([] : List Int) (j := k) (by simpa using hP)
   simp [this]
  ·have e' : AX C6 many (xs, ys, (0 : Int), ()) = _ := e
   rw [e']
   have : xs = ys := Eh ([] : List Int) hl fun j hj => by simpa using h j hj
   simp [this]
 ·rw [decide_eq_false hl]
  have : xs ≠ ys := fun e => hl (by rw [e])
  simp [this]
theorem AK6 (N : Nat) (hN : N ≤ 64) (c : Int) : ∀ (k i n : Nat), i + k = N → k < n → AS E3 n ((N : Int), c, (N : Int), BD i, (i : Int), ()) = some (.inl (c, (N : Int), BD N, ())) := by
 intro k
 induction k with
 | zero =>
  intro i n hi hn
  obtain ⟨n, rfl⟩ : ∃ k, n = k + 1 := ⟨n - 1, by omega⟩
  have : i = N := by omega
  subst this
  rw [AS, E3, AM, decide_eq_false (by omega)]
 | succ k ih =>
  intro i n hi hn
  obtain ⟨n, rfl⟩ : ∃ k, n = k + 1 := ⟨n - 1, by omega⟩
  rw [AS, E3, AM, decide_eq_true (by omega)]
  simp only [AO, TP, List.length_cons, List.length_nil]
  rw [BM (by omega), AL (by omega)]
  simp only [B1, ← OH]
  exact ih (i + 1) n (by omega) (by omega)
theorem APT (n : Int) : Rn (n, ()) = some (GQ n) := by
 have hm : 4294967296 < many := by simp only [many]; omega
 rw [ADN, Om, GQ]
 simp only [Am]
 by_cases h1 : n < 1
 ·have : ¬ Sz n := fun h => by have := h.1; omega
  simp [h1, this]
 ·by_cases h2 : 64 < n
  ·have : ¬ Sz n := fun h => by have := h.2; omega
   simp [h1, h2, this]
  ·obtain ⟨N, rfl⟩ := Int.eq_ofNat_of_zero_le (show 0 ≤ n by omega)
   have hS : Sz (N : Int) := ⟨by omega, by omega⟩
   have e := AK6 N (by omega) 0 N 0 many (by omega) (by omega)
   have e' : AS E3 many ((N : Int), 0, (N : Int), [], (0 : Int), ()) = _ := e
   simp [h1, h2, hS, Ai, e']
end Go.Pev.Pl
end
section
namespace Go.Pev.Pl
theorem KH (xs : List Int) (t : Int) (hs : xs.length < 9223372036854775808) : Hh (xs, t, ()) = some (pos xs t, ()) := by
 rw [Xx, Lb]
 have e := Hx (step := Dw) (fun i => (xs, t, (i : Int), ())) xs (fun x => decide (x = t)) (fun i => .inl ((i : Int), ())) (.inr (.inl ())) hs
  (fun i x hi hx => by
   rw [Dw, AO, AM, decide_eq_true hi]
   simp only [Ah hx, Ap]
   by_cases h : x = t
   ·simp [h]
   ·simp only [h, decide_false]; rw [AL (by omega)]; simp)
  (by rw [Dw, AO, AM, decide_eq_false (by omega)])
 have e' : AX Dw many (xs, t, (0 : Int), ()) = _ := e
 rw [e', ASq, pos]
 by_cases h : t ∈ xs <;> simp [h]
instance (xs : List Int) : Decidable (Rt xs) := inferInstanceAs (Decidable (_ ∧ _ ∧ _))
theorem KF (xs : List Int) : I6 (xs, ()) = some (decide (Rt xs), ()) := by
 rw [Xb, LW, AO, Am]
 by_cases hl : xs.length ≤ 1000
 ·rw [decide_eq_false (by omega)]
  simp only []
  rcases ACp (step := C2) (fun i => (xs, ((i : Nat) : Int), ())) xs.length (fun i => decide (xs.getD i 0 < 0) || decide (10000 < xs.getD i 0) || decide (xs.getD i 0 ∈ xs.take i)) (fun _ => .inl (false, ())) (.inr (.inl ())) (by omega) (fun i hi => by
   rw [C2, AO, AM, decide_eq_true hi]
   have hpl : Hh (xs.take i, xs.getD i 0, ()) = some (pos (xs.take i) (xs.getD i 0), ()) := KH _ _ (by simp; omega)
   simp (disch := omega) only [DZ (0 : Int), Qj, hpl, AL, Am, Ao]
   by_cases h1 : xs.getD i 0 < 0
   ·simp only [h1, decide_true]; simp
   ·by_cases h2 : 10000 < xs.getD i 0
    ·simp only [h1, h2, decide_true, decide_false]; simp
    ·by_cases h3 : xs.getD i 0 ∈ xs.take i
     ·obtain ⟨k, e, _⟩ := AFZ h3
      rw [e]
      simp only [h1, h2, h3, decide_true, decide_false]; simp
     ·rw [OR h3]
      simp only [h1, h2, h3, decide_false]; simp) (by rw [C2, AO, AM, decide_eq_false (by omega)]) with ⟨k, hk, hP, _, e⟩ | ⟨h, e⟩
  ·have e' : AX C2 many (xs, (0 : Int), ()) = _ := e
   rw [e']
   have : ¬ Rt xs := by
    rintro ⟨_, h1, h2⟩
    have hm : xs.getD k 0 ∈ xs := by
     rw [List.getD_eq_getElem?_getD, List.getElem?_eq_getElem hk, Option.getD_some]; exact List.getElem_mem hk
    have := h1 _ hm
    have h3 := (Oj xs).1 h2 k hk
    have c1 : ¬ xs.getD k 0 < 0 := by omega
    have c2 : ¬ 10000 < xs.getD k 0 := by omega
    rw [decide_eq_false c1, decide_eq_false c2, decide_eq_false h3] at hP
    cases hP
   simp [this]
  ·have e' : AX C2 many (xs, (0 : Int), ()) = _ := e
   rw [e']
   have : Rt xs := by
    have key : ∀ j, j < xs.length → ¬ xs.getD j 0 < 0 ∧ ¬ 10000 < xs.getD j 0 ∧ xs.getD j 0 ∉ xs.take j := fun j hj => by
     have := h j hj
     rw [Bool.or_eq_false_iff, Bool.or_eq_false_iff, decide_eq_false_iff_not, decide_eq_false_iff_not, decide_eq_false_iff_not] at this
     exact ⟨this.1.1, this.1.2, this.2⟩
    refine ⟨hl, fun x hx => ?_, (Oj xs).2 fun j hj => (key j hj).2.2⟩
    obtain ⟨j, hj, rfl⟩ := List.getElem_of_mem hx
    obtain ⟨k1, k2, _⟩ := key j hj
    rw [List.getD_eq_getElem?_getD, List.getElem?_eq_getElem hj, Option.getD_some] at k1 k2
    omega
   simp [this]
 ·rw [decide_eq_true (by omega)]
  have : ¬ Rt xs := fun h => hl h.1
  simp [this]
theorem NU (xs : List Int) (t : Int) (hs : xs.length < 9223372036854775808) : NV (xs, t, ()) = some (Hu xs t) := by
 rw [ADj, PG, Hu]
 simp only [KH xs t hs, KF]
 by_cases hr : Rt xs
 ·have hl := hr.1
  simp only [hr, decide_true, Bool.not_true, true_and]
  by_cases h : t ∈ xs
  ·have hk : xs.findIdx (fun x => decide (x = t)) < xs.length := List.findIdx_lt_length.2 ⟨t, h, by simp⟩
   rw [pos, if_pos h, if_pos h, A2, rot]
   generalize xs.findIdx (fun x => decide (x = t)) = k at *
   rw [Am, decide_eq_false (by omega)]
   simp only [Gx (Nat.le_of_lt hk), Qj (Nat.le_of_lt hk)]
   rw [BM (by simp only [AO, List.length_nil, List.length_drop]; omega)]
   simp only []
   rw [BM (by simp only [AO, B1, List.nil_append, List.length_take, List.length_drop]; omega)]
   simp only [B1, List.nil_append]
  ·rw [OR h, if_neg h, Am]
   simp
 ·simp [hr]
theorem TT (xs : List Int) : LZ (xs, ()) = some (plain xs, ()) := by
 rw [Xn, LY, plain]
 simp only [KF]
 by_cases hr : Rt xs
 ·have hl := hr.1
  simp only [hr, decide_true, Bool.not_true, true_and]
  cases xs with
  | nil => simp [AO, E7]
  | cons x xs =>
   rw [AO, Ap, decide_eq_false (by simp only [List.length_cons]; omega)]
   have i0 : idx (x :: xs) (0 : Int) = some x := by rw [Fx]; rfl
   simp only [i0]
   have e := De (step := Du) (fun i (a : Int) => (x :: xs, a, (i : Int), ())) (x :: xs) (fun y a => .inl (Ci a y)) (fun a => .inl (x :: xs, a, ())) (fun _ _ => True) (by omega)
    (fun i y a hi hy _ => by
     refine ⟨fun m' h' => ?_, fun r h' => by cases h'⟩
     cases h'
     rw [Du, AO, AM, decide_eq_true hi]
     simp only [Ah hy]
     rw [AL (by omega)]
     exact ⟨rfl, trivial⟩)
    (fun a _ => by rw [Du, AO, AM, decide_eq_false (by omega)]) x trivial
   have e' : AX Du many (x :: xs, x, (0 : Int), ()) = _ := e
   rw [e', Ba]
   have hmin : (x :: xs).foldl (fun a y => Ci a y) x = Fv (x :: xs) := by
    rw [List.foldl_cons, Fv]
    have : Ci x x = x := by rw [Ci]; split <;> rfl
    rw [this]
   rw [hmin]
   have hm := (EK (xs := x :: xs) (by simp)).1
   simp only [NU (x :: xs) _ (by omega), Hu, hr, hm, and_self, if_true]
   simp
 ·simp [hr]
end Go.Pev.Pl
end
section
namespace Go.Pev.Pl
open Tok
noncomputable instance (n : Int) (xs : List Int) : Decidable (TI n xs) := Classical.propDecidable _
end Go.Pev.Pl
end
section
namespace Go.Pev.Pl
open Tok
theorem AEu (n t u : Int) (ht : -9223372036854775808 ≤ t ∧ t ≤ 9223372036854775807) : J9 (n, t, u, ()) = some (I4 n t u, ()) := by
 rw [TN, I5, I4]
 simp only [TL n t ht, Ap]
 cases Bs n t with
 | none => rfl
 | some x => cases x with
  | ver v =>
   by_cases h : v = u <;> simp [MO, st, h]
  | arc p q =>
   by_cases h : q = u <;> simp [MO, st, h]
end Go.Pev.Pl
end
section
namespace Go.Pev.Pl
open Tok
theorem AZ1 (n : Int) (l : List Int) (i : Nat) (hi : i < l.length) (hl : l.length < 1073741824) (d5 d6 d7 d8 : Bool) (d9 d10 : Int) (d11 : Bool) (d12 d13 d14 d15 d16 : Int) (d17 : Bool) (d18 d19 d20 d21 d22 d23 d24 d25 d26 : Int) (d27 : Bool) :
  ∀ (m k cnt : Nat) (acc : List Int), k + m = l.length → acc.length ≤ k → m < cnt →
  AS Er cnt (n, l, (i : Int), acc, (k : Int), d5, d6, d7, d8, d9, d10, d11, d12, d13, d14, d15, d16, d17, d18, d19, d20, d21, d22, d23, d24, d25, d26, d27, ()) =
   some (.inl (n, (i : Int), acc ++ (List.range' k m).map (fun k => l.getD ((i + k) % l.length) 0), d5, d6, d7, d8, d9, d10, d11, d12, d13, d14, d15, d16, d17, d18, l, d19, d20, d21, d22, d23, d24, d25, d26, d27, ())) := by
 intro m
 induction m with
 | zero =>
  intro k cnt acc hk ha hc
  obtain ⟨cnt, rfl⟩ : ∃ c, cnt = c + 1 := ⟨cnt - 1, by omega⟩
  rw [AS, Er, AO, AM, decide_eq_false (by omega)]
  simp
 | succ m ih =>
  intro k cnt acc hk ha hc
  obtain ⟨cnt, rfl⟩ : ∃ c, cnt = c + 1 := ⟨cnt - 1, by omega⟩
  have hm : (i + k) % l.length < l.length := Nat.mod_lt _ (by omega)
  rw [AS, Er, AO, AM, decide_eq_true (by omega)]
  simp only []
  rw [wrap_add (by omega), Vn (by omega)]
  simp only [DZ (0 : Int) hm, JW]
  rw [BM (by simp only [AO, List.length_cons, List.length_nil]; omega), AL (by omega)]
  simp only [B1]
  rw [ih (k + 1) cnt _ (by omega) (by simp; omega) (by omega)]
  simp [List.range'_succ]
theorem AM6 (n : Int) (l : List Int) (i : Nat) (hi : i < l.length) (h1 : 1 < l.length) (hl : l.length < 1073741824) (hr : ∀ x ∈ l, -9223372036854775808 ≤ x ∧ x ≤ 9223372036854775807) :
  CJ (n, l, false, (i : Int), ()) = if JN n l i then some (.inl (n, Ew l i, true, ((i + 1 : Nat) : Int), ())) else some (.inl (n, l, false, ((i + 1 : Nat) : Int), ())) := by
 have hmany : 4294967296 < many := by simp only [many]; omega
 have m1 : (i + 1) % l.length < l.length := Nat.mod_lt _ (by omega)
 have m2 : (i + 2) % l.length < l.length := Nat.mod_lt _ (by omega)
 have m0 : (i + l.length - 1) % l.length < l.length := Nat.mod_lt _ (by omega)
 have hin : ∀ {k : Nat}, k < l.length → l.getD k 0 ∈ l := fun {k} hk => by
  rw [List.getD_eq_getElem?_getD, List.getElem?_eq_getElem hk, Option.getD_some]; exact List.getElem_mem hk
 have w2 : IntKind.wrap .i64 ((i : Int) + 2) = ((i + 2 : Nat) : Int) := by rw [Af (by omega)]; omega
 have w3 : IntKind.wrap .i64 ((i : Int) + (l.length : Int)) = ((i + l.length : Nat) : Int) := wrap_add (by omega)
 have w4 : IntKind.wrap .i64 (((i + l.length : Nat) : Int) - 1) = ((i + l.length - 1 : Nat) : Int) := Aj (by omega)
 have f4 : ile (4 : Int) (l.length : Int) = decide (4 ≤ l.length) := by
  rw [Ao]
  by_cases h : 4 ≤ l.length
  ·rw [decide_eq_true h, decide_eq_true (by omega)]
  ·rw [decide_eq_false h, decide_eq_false (by omega)]
 rw [CJ, AO, AM, decide_eq_true hi]
 simp only [Bool.not_false, DZ (0 : Int) hi]
 rw [AL (by omega), w2, Vn (by omega), Vn (by omega)]
 simp only [DZ (0 : Int) m1, DZ (0 : Int) m2, JW, TL n _ (hr _ (hin hi)), f4, JN]
 by_cases h4 : 4 ≤ l.length
 ·simp only [h4, decide_true, Bool.true_and]
  cases ht : Bs n (l.getD i 0) with
  | none => rfl
  | some t =>
   cases t with
   | ver v => rfl
   | arc u v =>
    simp only [MO, Ap, AD2]
    by_cases c1 : l.getD ((i + 1) % l.length) 0 = v
    ·simp only [c1, decide_true, Bool.true_and]
     by_cases c2 : l.getD ((i + 2) % l.length) 0 = Dd n v u
     ·simp only [c2, decide_true, Bool.true_and, w3, w4]
      rw [Vn (by omega)]
      simp only [DZ (0 : Int) m0, JW, AEu n _ u (hr _ (hin m0))]
      cases I4 n (l.getD ((i + l.length - 1) % l.length) 0) u
      ·rfl
      ·simp only [if_true, Ai]
       have e := AZ1 n l i hi hl false true true true v v true (Dd n v u) n v u (Dd n v u) true n (i : Int) (l.length : Int) ((i + l.length : Nat) : Int) ((i + l.length - 1 : Nat) : Int) (l.length : Int) (((i + l.length - 1) % l.length : Nat) : Int) (l.getD ((i + l.length - 1) % l.length) 0) u true (l.length - 3) 3 many [] (by omega) (by simp) (by omega)
       have e' : AS Er many (n, l, (i : Int), [], (3 : Int), _) = _ := e
       simp only [e', AL (show i + 1 < 9223372036854775808 by omega)]
       rfl
     ·simp only [c2, decide_false, Bool.false_and, Bool.false_eq_true, if_false]
    ·simp only [c1, decide_false, Bool.false_and, Bool.false_eq_true, if_false]
 ·simp only [h4, decide_false, Bool.false_and, Bool.false_eq_true, if_false]
theorem AZ2 (n : Int) (l : List Int) (h1 : 1 < l.length) (hl : l.length < 1073741824) (hr : ∀ x ∈ l, -9223372036854775808 ≤ x ∧ x ≤ 9223372036854775807) :
  ∀ (m i cnt : Nat), i + m = l.length → m + 1 < cnt →
  (∃ k, k < l.length ∧ JN n l k = true ∧ AS CJ cnt (n, l, false, (i : Int), ()) = some (.inl (n, Ew l k, true, ()))) ∨
  ((∀ k, i ≤ k → k < l.length → JN n l k = false) ∧ AS CJ cnt (n, l, false, (i : Int), ()) = some (.inl (n, l, false, ()))) := by
 intro m
 induction m with
 | zero =>
  intro i cnt hi hc
  obtain ⟨cnt, rfl⟩ : ∃ c, cnt = c + 1 := ⟨cnt - 1, by omega⟩
  right
  refine ⟨fun k q1 q2 => by omega, ?_⟩
  rw [AS, CJ, AO, AM, decide_eq_false (by omega)]
 | succ m ih =>
  intro i cnt hi hc
  obtain ⟨cnt, rfl⟩ : ∃ c, cnt = c + 1 := ⟨cnt - 1, by omega⟩
  rw [AS, AM6 n l i (by omega) h1 hl hr]
  cases hlf : JN n l i
  ·simp only [Bool.false_eq_true, if_false]
   rcases ih (i + 1) cnt (by omega) (by omega) with h | ⟨h, e⟩
   ·exact .inl h
   ·refine .inr ⟨fun k q1 q2 => ?_, e⟩
    by_cases ek : k = i
    ·rw [ek]; exact hlf
    ·exact h k (by omega) q2
  ·simp only [if_true]
   obtain ⟨cnt, rfl⟩ : ∃ c, cnt = c + 1 := ⟨cnt - 1, by omega⟩
   refine .inl ⟨i, by omega, hlf, ?_⟩
   rw [AS, CJ]
   cases ilt ((i + 1 : Nat) : Int) (AN (Ew l i)) <;> rfl
theorem AZ3 (n : Int) : ∀ (m : Nat) (l : List Int) (cnt : Nat), l.length = m → l.length < 1073741824 → (∀ x ∈ l, -9223372036854775808 ≤ x ∧ x ≤ 9223372036854775807) → l.Nodup → m < cnt →
  (¬ TI n l ∧ AS Gc cnt (n, l, ()) = some (.inl (false, ()))) ∨
  ∃ l', AS Gc cnt (n, l, ()) = some (.inr (.inl (n, l', ()))) ∧ l'.length ≤ 1 ∧ (TI n l ↔ TI n l') := by
 intro m
 induction m using Nat.strongRecOn with
 | _ m ih =>
 intro l cnt hm hl hr hn hc
 have hmany : 4294967296 < many := by simp only [many]; omega
 obtain ⟨cnt, rfl⟩ : ∃ c, cnt = c + 1 := ⟨cnt - 1, by omega⟩
 rw [AS, Gc, AO, Am]
 by_cases h1 : 1 < l.length
 ·rw [decide_eq_true (by omega)]
  simp only [Ai]
  rcases AZ2 n l h1 hl hr l.length 0 many (by omega) (by omega) with ⟨k, k1, k2, e⟩ | ⟨k1, e⟩
  ·have e' : AS CJ many (n, l, false, (0 : Int), ()) = _ := e
   simp only [e', Bool.not_true]
   have hred := APt k1 k2
   have hiff := Ab3 hred hn
   have hlen : (Ew l k).length = l.length - 3 := by simp [Ew]
   rcases ih (l.length - 3) (by omega) (Ew l k) cnt hlen (by omega) (fun x hx => hr x (AN5 k1 x hx)) (ATv hred hn) (by omega) with ⟨q1, q2⟩ | ⟨l', q1, q2, q3⟩
   ·exact .inl ⟨fun h => q1 (hiff.1 h), q2⟩
   ·exact .inr ⟨l', q1, q2, hiff.trans q3⟩
  ·have e' : AS CJ many (n, l, false, (0 : Int), ()) = _ := e
   simp only [e', Bool.not_false]
   refine .inl ⟨fun h => ?_, by trivial⟩
   obtain ⟨l', hl'⟩ := AcZ h h1
   obtain ⟨i, i1, i2⟩ := AN9 hl'
   rw [k1 i (by omega) i1] at i2
   cases i2
 ·rw [decide_eq_false (by omega)]
  exact .inr ⟨l, rfl, by omega, Iff.rfl⟩
theorem AM7 (n : Int) (l : List Int) (hl : l.length < 1073741824) (hr : ∀ x ∈ l, -9223372036854775808 ≤ x ∧ x ≤ 9223372036854775807) (hn : l.Nodup) : Wo (n, l, ()) = some (decide (TI n l), ()) := by
 have hmany : 4294967296 < many := by simp only [many]; omega
 rw [ACf, OE, BM (by simp only [AO, List.length_nil]; omega)]
 simp only [B1, List.nil_append, Ai]
 rcases AZ3 n l.length l many rfl hl hr hn (by omega) with ⟨q1, q2⟩ | ⟨l', q1, q2, q3⟩
 ·rw [q2, decide_eq_false q1]
 ·rw [q1]
  simp only [AO, Ap]
  match l', q2, q3 with
  | [], _, q3 =>
   have : ¬ TI n l := fun h => AZr n (q3.1 h)
   simp [this]
  | [t], _, q3 =>
   rw [AZq] at q3
   have i0 : idx [t] (0 : Int) = some t := by rw [Fx]; rfl
   have d0 : AT [t] 0 (0 : Int) = t := rfl
   rw [decide_eq_true (by simp)]
   simp only [i0, d0, Ib]
   by_cases h : In n t
   ·rw [decide_eq_true h, decide_eq_true (q3.2 h)]
   ·rw [decide_eq_false h, decide_eq_false (fun h2 => h (q3.1 h2))]
end Go.Pev.Pl
end
section
namespace Go.Pev.Pl
open Tok
noncomputable instance (n : Int) (rings : List (List Int)) : Decidable (RF n rings) := Classical.propDecidable _
noncomputable instance (n : Int) (xs : List Int) : Decidable (RG n xs) := Classical.propDecidable _
end Go.Pev.Pl
end
end
section
section
namespace Go.Pev.Pl
open Tok
theorem ABP (N : Nat) (hN : N ≤ 64) (l : List Int) (hl : l.length < 1073741824) (h0 : ∀ t ∈ l, 0 ≤ t) (d1 : List (List Int)) (d3 d5 : Int) (d8 : List Int) (d9 : Int) (d10 : Bool) (d11 : Int) (d12 : List Int) (d13 d14 : Bool) (d15 d16 : List Int) (d17 : List (List Int)) (d18 : List Int) (d19 : List (List Int)) (d20 d21 : Bool) (d22 : List Int) (d23 d24 : Int) (d25 : Bool) :
  ∀ (m k cnt : Nat) (met : List Bool) (seen : List Int), k + m = l.length → MB N met seen → (l.drop k).Nodup → seen.length + m < 4611686018427387904 → m < cnt →
  ((∀ t ∈ l.drop k, t < (N : Int) → t ∉ seen) ∧ ∃ met', AS CT cnt ((N : Int), d1, met, d3, (seen.length : Int), d5, l, (k : Int), d8, d9, d10, d11, d12, d13, d14, d15, d16, d17, d18, d19, d20, d21, d22, d23, d24, d25, ()) =
    some (.inr (.inl ((N : Int), d1, met', d3, ((seen ++ (l.drop k).filter (fun t => decide (t < (N : Int)))).length : Int), d5, d8, d9, d10, d11, d12, d13, d14, d15, d16, d17, d18, d19, d20, d21, d22, d23, d24, d25, ()))) ∧ MB N met' (seen ++ (l.drop k).filter (fun t => decide (t < (N : Int))))) ∨
  (¬ (∀ t ∈ l.drop k, t < (N : Int) → t ∉ seen) ∧ AS CT cnt ((N : Int), d1, met, d3, (seen.length : Int), d5, l, (k : Int), d8, d9, d10, d11, d12, d13, d14, d15, d16, d17, d18, d19, d20, d21, d22, d23, d24, d25, ()) = some (.inl (false, ()))) := by
 intro m
 induction m with
 | zero =>
  intro k cnt met seen hk hm hn hsl hc
  obtain ⟨cnt, rfl⟩ : ∃ c, cnt = c + 1 := ⟨cnt - 1, by omega⟩
  have e : l.drop k = [] := List.drop_of_length_le (by omega)
  rw [e]
  refine .inl ⟨by simp, met, ?_, by simpa using hm⟩
  rw [AS, CT, AO, AM, decide_eq_false (by omega)]
  simp
 | succ m ih =>
  intro k cnt met seen hk hm hn hsl hc
  obtain ⟨cnt, rfl⟩ : ∃ c, cnt = c + 1 := ⟨cnt - 1, by omega⟩
  have hk' : k < l.length := by omega
  have e : l.drop k = l.getD k 0 :: l.drop (k + 1) := by
   rw [List.drop_eq_getElem_cons hk', List.getD_eq_getElem?_getD, List.getElem?_eq_getElem hk', Option.getD_some]
  have hpos : 0 ≤ l.getD k 0 := h0 _ (by rw [List.getD_eq_getElem?_getD, List.getElem?_eq_getElem hk', Option.getD_some]; exact List.getElem_mem hk')
  rw [AS, CT, AO, AM, decide_eq_true hk']
  simp only [DZ (0 : Int) hk']
  rw [e] at hn ⊢
  generalize l.getD k 0 = t at *
  rw [List.nodup_cons] at hn
  rw [AL (show k + 1 < 9223372036854775808 by omega), Am]
  by_cases ht : t < (N : Int)
  ·rw [decide_eq_true ht]
   obtain ⟨q, rfl⟩ := Int.eq_ofNat_of_zero_le hpos
   have hq : q < met.length := by rw [hm.1]; omega
   have hmq := hm.2 q (by omega)
   simp only [DZ false hq, JW, AQl, hmq]
   by_cases hs : (q : Int) ∈ seen
   ·rw [decide_eq_true hs]
    exact .inr ⟨fun h => h (q : Int) (by simp) ht hs, rfl⟩
   ·rw [decide_eq_false hs]
    simp only []
    have hm' : MB N (met.set q true) (seen ++ [(q : Int)]) := by
     refine ⟨by simp [hm.1], fun y hy => ?_⟩
     by_cases e2 : y = q
     ·subst e2
      simp [List.getD_eq_getElem?_getD, hq]
     ·have h3 := hm.2 y hy
      have e3 : ¬ (y : Int) = (q : Int) := by omega
      rw [List.getD_eq_getElem?_getD, List.getElem?_set_ne (Ne.symm e2), ← List.getD_eq_getElem?_getD, h3]
      simp [e3]
    have hlen : (((seen.length : Nat) : Int)) = ((seen.length : Nat) : Int) := rfl
    have hw : IntKind.wrap .i64 ((seen.length : Int) + 1) = ((seen ++ [(q : Int)]).length : Int) := by
     rw [Af (by omega)]; simp
    rw [hw]
    have hiff : (∀ y ∈ (q : Int) :: l.drop (k + 1), y < (N : Int) → y ∉ seen) ↔ ∀ y ∈ l.drop (k + 1), y < (N : Int) → y ∉ seen ++ [(q : Int)] := by
     constructor
     ·intro h y hy hyn hm2
      simp only [List.mem_append, List.mem_singleton] at hm2
      rcases hm2 with h2 | rfl
      ·exact h y (List.mem_cons_of_mem _ hy) hyn h2
      ·exact hn.1 hy
     ·intro h y hy hyn hm2
      rcases List.mem_cons.1 hy with rfl | hy
      ·exact hs hm2
      ·exact h y hy hyn (by simp [hm2])
    rcases ih (k + 1) cnt _ _ (by omega) hm' hn.2 (by simp; omega) (by omega) with ⟨q1, met', q2, q3⟩ | ⟨q1, q2⟩
    ·refine .inl ⟨hiff.2 q1, met', ?_, ?_⟩
     ·rw [List.filter_cons_of_pos (by simpa using ht)]
      rw [q2, List.append_assoc]
      rfl
     ·rw [List.filter_cons_of_pos (by simpa using ht)]
      simpa using q3
    ·exact .inr ⟨fun h => q1 (hiff.1 h), q2⟩
  ·rw [decide_eq_false ht]
   simp only []
   have hiff : (∀ y ∈ t :: l.drop (k + 1), y < (N : Int) → y ∉ seen) ↔ ∀ y ∈ l.drop (k + 1), y < (N : Int) → y ∉ seen := by
    constructor
    ·intro h y hy; exact h y (List.mem_cons_of_mem _ hy)
    ·intro h y hy hyn
     rcases List.mem_cons.1 hy with rfl | hy
     ·exact absurd hyn ht
     ·exact h y hy hyn
   rcases ih (k + 1) cnt _ _ (by omega) hm hn.2 (by omega) (by omega) with ⟨q1, met', q2, q3⟩ | ⟨q1, q2⟩
   ·refine .inl ⟨hiff.2 q1, met', ?_, ?_⟩
    ·rw [List.filter_cons_of_neg (by simpa using ht)]
     exact q2
    ·rw [List.filter_cons_of_neg (by simpa using ht)]
     exact q3
   ·exact .inr ⟨fun h => q1 (hiff.1 h), q2⟩
theorem VG (N : Nat) (hN1 : 1 ≤ N) (hN : N ≤ 64) (rings : List (List Int)) (hlen : rings.length ≤ 64) (hr : ∀ l ∈ rings, l.length < 9223372036854775808 ∧ ∀ x ∈ l, -9223372036854775808 ≤ x ∧ x ≤ 9223372036854775807) :
  ∀ (ls : List (List Int)) (i cnt : Nat) (met : List Bool) (last : Int) (seen : List Int), rings.drop i = ls → i ≤ rings.length → MB N met seen → seen.length ≤ i * 1073741824 → ls.length < cnt →
  (okR (N : Int) seen last ls ∧ ∃ met' seen', AS CU cnt ((N : Int), rings, met, last, (seen.length : Int), (i : Int), ()) = some (.inr (.inl ((N : Int), rings, (seen'.length : Int), ()))) ∧ MB N met' seen' ∧ seen' = seen ++ ls.flatten.filter (fun t => decide (t < (N : Int)))) ∨
  (¬ okR (N : Int) seen last ls ∧ AS CU cnt ((N : Int), rings, met, last, (seen.length : Int), (i : Int), ()) = some (.inl (false, ()))) := by
 have hmany : 4294967296 < many := by simp only [many]; omega
 intro ls
 induction ls with
 | nil =>
  intro i cnt met last seen hd hi hm hsl hc
  obtain ⟨cnt, rfl⟩ : ∃ c, cnt = c + 1 := ⟨cnt - 1, by simp at hc; omega⟩
  have : rings.length ≤ i := by simpa using hd
  refine .inl ⟨trivial, met, seen, ?_, hm, by simp⟩
  rw [AS, CU, AO, AM, decide_eq_false (by omega)]
 | cons l ls ih =>
  intro i cnt met last seen hd hi hm hsl hc
  simp only [List.length_cons] at hc
  obtain ⟨cnt, rfl⟩ : ∃ c, cnt = c + 1 := ⟨cnt - 1, by omega⟩
  have hi' : i < rings.length := by
   refine Classical.byContradiction fun h => ?_
   rw [List.drop_of_length_le (by omega)] at hd
   cases hd
  rw [List.drop_eq_getElem_cons hi'] at hd
  simp only [List.cons.injEq] at hd
  obtain ⟨hd1, hd2⟩ := hd
  have hx : rings[i]? = some l := by rw [List.getElem?_eq_getElem hi', hd1]
  have hmem : l ∈ rings := List.mem_of_getElem? hx
  obtain ⟨hl, hlr⟩ := hr l hmem
  rw [AS, CU, AO, AM, decide_eq_true hi', okR]
  simp only [Ah hx, KF]
  by_cases c2 : Rt l
  ·rw [decide_eq_true c2]
   have hl : l.length < 1073741824 := by have := c2.1; omega
   simp only [Bool.not_true]
   cases l with
   | nil =>
    rw [AO, Ap, decide_eq_true (by simp)]
    exact .inr ⟨fun h => h.1.2.1 rfl, rfl⟩
   | cons x tl =>
    rw [AO, Ap, decide_eq_false (by simp only [List.length_cons]; omega)]
    simp only [AM7 (N : Int) (x :: tl) hl hlr c2.2.2]
    by_cases c4 : TI (N : Int) (x :: tl)
    ·rw [decide_eq_true c4]
     simp only [Bool.not_true, TT]
     rw [Tz _ _ (by simp) (by
      intro y hy
      simp only [List.mem_singleton] at hy
      subst hy
      obtain ⟨a, b, q1, q2⟩ := G1 c2 (by simp)
      have := congrArg List.length q1
      rw [q2]
      simp only [List.length_cons, List.length_append] at this hl ⊢
      omega)]
     have hps := Xj c2 (by simp)
     have hps2 : ([plain (x :: tl)] = [x :: tl]) ↔ Fv (x :: tl) = x := by simpa using hps
     by_cases c3 : Fv (x :: tl) = x
     ·rw [decide_eq_true (hps2.2 c3)]
      have i0 : idx (x :: tl) (0 : Int) = some x := by rw [Fx]; rfl
      simp only [Bool.not_true, i0, List.headD_cons, Ao]
      by_cases c1 : x ≤ last
      ·rw [decide_eq_true c1]
       exact .inr ⟨fun h => by omega, rfl⟩
      ·rw [decide_eq_false c1]
       simp only [Ai]
       have hRG : RG (N : Int) (x :: tl) := ⟨c2, by simp, c3, c4⟩
       rcases ABP N hN (x :: tl) hl (fun t ht => (c2.2.1 t ht).1) rings x (i : Int) (x :: tl) ((x :: tl).length : Int) false (N : Int) (x :: tl) true false (x :: tl) (plain (x :: tl)) [plain (x :: tl)] (x :: tl) [x :: tl] true false (x :: tl) x last false (x :: tl).length 0 many met seen (by omega) hm (by rw [List.drop_zero]; exact c2.2.2) (by omega) (by omega) with ⟨q1, met', q2, q3⟩ | ⟨q1, q2⟩
       ·rw [List.drop_zero] at q1 q3 q2
        have q2' : AS CT many ((N : Int), rings, met, x, (seen.length : Int), (i : Int), x :: tl, (0 : Int), x :: tl, ((x :: tl).length : Int), false, (N : Int), x :: tl, true, false, x :: tl, plain (x :: tl), [plain (x :: tl)], x :: tl, [x :: tl], true, false, x :: tl, x, last, false, ()) = _ := q2
        simp only [q2', AL (show i + 1 < 9223372036854775808 by omega)]
        have hfl : ((x :: tl).filter (fun t => decide (t < (N : Int)))).length ≤ (x :: tl).length := List.length_filter_le _ _
        rcases ih (i + 1) cnt met' x (seen ++ (x :: tl).filter (fun t => decide (t < (N : Int)))) hd2 (by omega) q3 (by rw [List.length_append]; omega) (by omega) with ⟨p1, met2, seen2, p2, p3, p4⟩ | ⟨p1, p2⟩
        ·refine .inl ⟨⟨hRG, by omega, q1, p1⟩, met2, seen2, p2, p3, ?_⟩
         rw [p4, List.flatten_cons, List.filter_append, List.append_assoc]
        ·exact .inr ⟨fun h => p1 h.2.2.2, p2⟩
       ·rw [List.drop_zero] at q1
        have q2' : AS CT many ((N : Int), rings, met, x, (seen.length : Int), (i : Int), x :: tl, (0 : Int), x :: tl, ((x :: tl).length : Int), false, (N : Int), x :: tl, true, false, x :: tl, plain (x :: tl), [plain (x :: tl)], x :: tl, [x :: tl], true, false, x :: tl, x, last, false, ()) = _ := q2
        simp only [q2']
        exact .inr ⟨fun h => q1 h.2.2.1, by trivial⟩
     ·rw [decide_eq_false (fun h => c3 (hps2.1 h))]
      exact .inr ⟨fun h => c3 h.1.2.2.1, rfl⟩
    ·rw [decide_eq_false c4]
     exact .inr ⟨fun h => c4 h.1.2.2.2, rfl⟩
  ·rw [decide_eq_false c2]
   exact .inr ⟨fun h => c2 h.1.1, rfl⟩
theorem Fk (n : Int) (rings : List (List Int)) (hlen : rings.length < 1073741824) (hr : ∀ l ∈ rings, l.length < 9223372036854775808 ∧ ∀ x ∈ l, -9223372036854775808 ≤ x ∧ x ≤ 9223372036854775807) :
  LV ((n, (rings, ())), ()) = some (decide (RF n rings), ()) := by
 have hmany : 4294967296 < many := by simp only [many]; omega
 rw [XY, LU]
 simp only [Am, AO]
 by_cases h1 : n < 1
 ·rw [decide_eq_true h1, decide_eq_false (show ¬ RF n rings from fun h => by have := h.1.1; omega)]
 ·rw [decide_eq_false h1]
  simp only []
  by_cases h2 : 64 < n
  ·rw [decide_eq_true h2, decide_eq_false (show ¬ RF n rings from fun h => by have := h.1.2; omega)]
  ·rw [decide_eq_false h2]
   simp only []
   by_cases h3 : n < (rings.length : Int)
   ·rw [decide_eq_true h3, decide_eq_false (show ¬ RF n rings from fun h => by
     have := AR4 (by omega) h.2.1 (by omega) (by omega)
     omega)]
   ·rw [decide_eq_false h3]
    obtain ⟨N, rfl⟩ := Int.eq_ofNat_of_zero_le (show 0 ≤ n by omega)
    have f1 : GM (N : Int) = true := (Ij _).2 (by omega)
    have f2 : ile (N : Int) (N : Int) = true := by rw [Ao]; simp
    simp only [f1, f2, Bool.and_self, Bool.and_true, Ai]
    have hMB : MB N (Im (AG (N : Int)) false) [] := by
     refine ⟨by simp [Im, SZ], fun k hk => ?_⟩
     simp [Im, SZ, hk]
    rcases VG N (by omega) (by omega) rings (by omega) hr rings 0 many _ (-1) [] (by simp) (by omega) hMB (by simp) (by omega) with ⟨p1, met, seen, p2, p3, p4⟩ | ⟨p1, p2⟩
    ·have p2' : AS CU many ((N : Int), rings, Im (AG (N : Int)) false, -1, (0 : Int), (0 : Int), ()) = _ := p2
     simp only [p2', Ap]
     obtain ⟨q1, q2⟩ := AUR p1 (by simp)
     rw [← p4] at q1
     have hsub : ∀ x ∈ seen, x ∈ (List.range N).map (fun (k : Nat) => (k : Int)) := by
      intro x hx
      rw [p4] at hx
      simp only [List.nil_append, List.mem_filter, List.mem_flatten, decide_eq_true_eq] at hx
      obtain ⟨⟨l, hl, hxl⟩, hxn⟩ := hx
      have := ((q2 l hl).1.2.1 x hxl).1
      rw [List.mem_map]
      exact ⟨x.toNat, by rw [List.mem_range]; omega, by omega⟩
     have hv : ∀ v, v ∈ seen ↔ (v < (N : Int) ∧ v ∈ rings.flatten) := fun v => by rw [p4, List.nil_append, List.mem_filter, decide_eq_true_eq, and_comm]
     have hS : Sz (N : Int) := ⟨by omega, by omega⟩
     by_cases hc : (seen.length : Int) = (N : Int)
     ·rw [decide_eq_true hc, decide_eq_true]
      refine ⟨hS, p1, fun v v1 v2 => ?_⟩
      have := Oi q1 hsub (by simp; omega) v (by rw [List.mem_map]; exact ⟨v.toNat, by rw [List.mem_range]; omega, by omega⟩)
      exact ((hv v).1 this).2
     ·rw [decide_eq_false hc, decide_eq_false]
      rintro ⟨_, _, h⟩
      have a1 := Co q1 hsub
      have hrn : ((List.range N).map (fun (k : Nat) => (k : Int))).Nodup := by
       rw [List.Nodup, List.pairwise_map]
       exact List.nodup_range.imp fun h e => h (by omega)
      have a2 := Co (a := (List.range N).map (fun (k : Nat) => (k : Int))) (b := seen) hrn fun x hx => by
       rw [List.mem_map] at hx
       obtain ⟨k, hk, rfl⟩ := hx
       rw [List.mem_range] at hk
       exact (hv _).2 ⟨by omega, h (k : Int) (by omega) (by omega)⟩
      simp only [List.length_map, List.length_range] at a1 a2
      omega
    ·have p2' : AS CU many ((N : Int), rings, Im (AG (N : Int)) false, -1, (0 : Int), (0 : Int), ()) = _ := p2
     simp only [p2']
     rw [decide_eq_false (fun h => p1 h.2.1)]
end Go.Pev.Pl
end
section
namespace Go.Pev.Pl
open Tok
theorem TU (n : Int) (rings : List (List Int)) (v : Int) (hlen : rings.length < 1073741824) (hr : ∀ l ∈ rings, l.length < 9223372036854775808) : Hg ((n, (rings, ())), v, ()) = some (plc rings v, ()) := by
 rw [Xu, La]
 have e := Hx (step := Dv) (fun i => (v, n, rings, (i : Int), ())) rings (fun l => decide (v ∈ l)) (fun i => .inl ((i : Int), ())) (.inr (.inl ())) (by omega)
  (fun i l hi hx => by
   have hl := hr l (List.mem_of_getElem? hx)
   rw [Dv, AO, AM, decide_eq_true hi]
   simp only [Ah hx, KH l v (by omega)]
   rw [AL (by omega), Ao]
   by_cases h : v ∈ l
   ·obtain ⟨k, e, _⟩ := AFZ h
    rw [e, decide_eq_true (by omega), decide_eq_true h]; rfl
   ·rw [OR h, decide_eq_false (by omega), decide_eq_false h]; rfl)
  (by rw [Dv, AO, AM, decide_eq_false (by omega)])
 have e' : AX Dv many (v, n, rings, (0 : Int), ()) = _ := e
 simp only [e', plc]
 cases rings.any (fun l => decide (v ∈ l)) <;> rfl
end Go.Pev.Pl
end
section
namespace Go.Pev.Pl
open Tok
theorem ATx (rest : List (List Int)) (r : List Int) (hlen : rest.length < 1073741824) (hne : ∀ l ∈ rest, l ≠ []) (hp : plain r ≠ []) : AC5 (rest, r, ()) = some (Xh rest (plain r), ()) := by
 rw [AJb, Vo]
 simp only [TT]
 generalize plain r = p at *
 have e := Hx (step := G0) (fun i => (rest, p, (i : Int), ())) rest (fun x => !decide (hd x < hd p)) (fun i => .inl (rest, p, (i : Int), ())) (.inl (rest, p, (rest.length : Int), ())) (by omega)
  (fun i x hi hx => by
   rw [G0, AO, AM, decide_eq_true hi]
   simp only [Ah hx, AST (hne x (List.mem_of_getElem? hx)), AST hp, AZV, Am]
   rw [AL (by omega)]
   by_cases h : hd x < hd p
   ·rw [decide_eq_true h]; rfl
   ·rw [decide_eq_false h]; rfl)
  (by rw [G0, AO, AM, decide_eq_false (by omega)])
 have e' : AX G0 many (rest, p, (0 : Int), ()) = _ := e
 have hk : (if rest.any (fun x => !decide (hd x < hd p)) then (.inl (rest, p, ((rest.findIdx fun x => !decide (hd x < hd p) : Nat) : Int), ()) : (List (List Int) × List Int × Int × Unit) ⊕ Unit) else .inl (rest, p, (rest.length : Int), ())) = .inl (rest, p, ((rest.findIdx fun x => !decide (hd x < hd p) : Nat) : Int), ()) := by
  split
  ·rfl
  ·rename_i h
   rw [List.findIdx_eq_length.2 fun x hx => by
    refine Classical.byContradiction fun hc => h (List.any_eq_true.2 ⟨x, hx, by simpa using hc⟩)]
 rw [e', hk]
 have hle : (rest.findIdx fun x => !decide (hd x < hd p)) ≤ rest.length := List.findIdx_le_length
 rw [Xh]
 generalize (rest.findIdx fun x => !decide (hd x < hd p)) = k at *
 simp only [Qj hle, Gx hle]
 rw [BM (by simp only [AO, List.length_nil, List.length_take]; omega)]
 simp only []
 rw [BM (by simp only [AO, B1, List.length_append, List.length_cons, List.length_nil, List.length_take]; omega)]
 simp only []
 rw [BM (by simp only [AO, B1, List.length_append, List.length_cons, List.length_nil, List.length_take, List.length_drop]; omega)]
 simp only [B1, List.nil_append, List.append_assoc, List.singleton_append]
theorem MU (l : List (List Int)) (i : Nat) (hi : i < l.length) (hlen : l.length < 1073741824) : EA (l, (i : Int), ()) = some (l.eraseIdx i, ()) := by
 rw [N6, Hd]
 rw [AL (by omega)]
 simp only [Qj (Nat.le_of_lt hi), Gx (show i + 1 ≤ l.length by omega)]
 rw [BM (by simp only [AO, List.length_nil, List.length_take]; omega)]
 simp only []
 rw [BM (by simp only [AO, B1, List.length_append, List.length_nil, List.length_take, List.length_drop]; omega)]
 simp only [B1, List.nil_append, List.eraseIdx_eq_take_drop_succ]
end Go.Pev.Pl
end
section
namespace Go.Pev.Pl
open Tok
end Go.Pev.Pl
end
section
namespace Go.Pev.Pl
open Go.RowKit Tok
end Go.Pev.Pl
end
section
namespace Go.Pev.Pl
open Tok
end Go.Pev.Pl
end
section
namespace Go.Pev.Pl
open Tok
set_option linter.unusedSimpArgs false
theorem ALJ {n : Int} {rings : List (List Int)} {u v : Int} (h : FR n rings) (iu : In n u) (iv : In n v) (hp : plc rings u = plc rings v) :
  J8 ((n, (rings, ())), u, v, ()) = some (n, rings, 5, ()) ∧ KZ ((n, (rings, ())), u, v, ()) = some (n, rings, 5, ()) := by
 have hD := h.dom
 have hRF := K4.2 h
 constructor
 ·rw [Gw, GP]
  simp only [Gj n rings u v hD, hRF, iu, iv, and_self, if_true, Ap, I2 n rings _ hD.1 (fun l hl => (hD.2 l hl).1), hp, decide_true, Bool.not_true]
 ·rw [IX, G8]
  simp only [Fk n rings hD.1 hD.2, hRF, Ib, iu, iv, decide_true, Bool.not_true, TU n rings _ hD.1 (fun l hl => (hD.2 l hl).1), Ap, hp]
theorem AYa {n : Int} {rings : List (List Int)} {u v : Int} {i j : Nat} {A B : List Int} (h : FR n rings) (iu : In n u) (iv : In n v) (hi : rings[i]? = some A) (hj : rings[j]? = some B) (hu : u ∈ A) (hv : v ∈ B) (hij : i ≠ j) :
  ∃ zs rest, J8 ((n, (rings, ())), u, v, ()) = some (n, zs, 0, ()) ∧ KZ ((n, (rings, ())), u, v, ()) = some (n, zs, 0, ()) ∧ FR n zs ∧ rings.Perm (A :: B :: rest) ∧ zs.Perm (plain (A5 n A B u v) :: rest) ∧ Dis n A B := by
 have hD := h.dom
 have hRF := K4.2 h
 have rA := h.rg A (List.mem_of_getElem? hi)
 have rB := h.rg B (List.mem_of_getElem? hj)
 have hil := (List.getElem?_eq_some_iff.1 hi).1
 have hjl := (List.getElem?_eq_some_iff.1 hj).1
 have pu : plc rings u = (i : Int) := h.AFa hi iu.2.2.2 hu
 have pv : plc rings v = (j : Int) := h.AFa hj iv.2.2.2 hv
 have hperm : rings.Perm (A :: B :: (rings.eraseIdx (max i j)).eraseIdx (min i j)) := by
  rcases Nat.lt_or_gt_of_ne hij with g | g
  ·rw [Nat.max_eq_right (by omega), Nat.min_eq_left (by omega)]
   exact Hy g hi hj
  ·rw [Nat.max_eq_left (by omega), Nat.min_eq_right (by omega)]
   exact (Hy g hj hi).trans (List.Perm.swap _ _ _)
 have hdis : Dis n A B := by
  have := Io hperm h.dis
  rw [List.pairwise_cons] at this
  exact this.1 B (by simp)
 obtain ⟨l1, l2, l3, huv, ho⟩ := Lx rA.2.2.2 rB.2.2.2 hu hv iu iv hdis
 obtain ⟨hRG, hrot⟩ := AAk l1
 have hall : A5 n A B u v = u :: Dd n u v :: (A2 B v ++ Dd n v u :: (A2 A u).tail) := rfl
 have lA : (A2 A u).length ≤ 1000 := by rw [← (CE hu).perm.length_eq]; exact rA.1.1
 have lB : (A2 B v).length ≤ 1000 := by rw [← (CE hv).perm.length_eq]; exact rB.1.1
 have hsub : ((rings.eraseIdx (max i j)).eraseIdx (min i j)).Sublist rings := (List.eraseIdx_sublist _ _).trans (List.eraseIdx_sublist _ _)
 have hw1 : EA (rings, ((max i j : Nat) : Int), ()) = some (rings.eraseIdx (max i j), ()) := MU _ _ (by omega) hD.1
 have hel : (rings.eraseIdx (max i j)).length = rings.length - 1 := by rw [List.length_eraseIdx]; rw [if_pos (by omega)]
 have hw2 : EA (rings.eraseIdx (max i j), ((min i j : Nat) : Int), ()) = some ((rings.eraseIdx (max i j)).eraseIdx (min i j), ()) := MU _ _ (by omega) (by have := hD.1; omega)
 have hdrop : CN (fun k => decide ((k : Int) ∈ [(i : Int), (j : Int)])) 0 rings = (rings.eraseIdx (max i j)).eraseIdx (min i j) := by
  rcases Nat.lt_or_gt_of_ne hij with g | g
  ·rw [Nat.max_eq_right (by omega), Nat.min_eq_left (by omega)]
   exact JV _ i j g rings 0 (by omega) fun k _ => decide_eq_decide.2 (by simp only [List.mem_cons, List.not_mem_nil, or_false]; omega)
  ·rw [Nat.max_eq_left (by omega), Nat.min_eq_right (by omega)]
   exact JV _ j i g rings 0 (by omega) fun k _ => decide_eq_decide.2 (by simp only [List.mem_cons, List.not_mem_nil, or_false]; omega)
 have hrl : ((rings.eraseIdx (max i j)).eraseIdx (min i j)).length ≤ rings.length := hsub.length_le
 generalize (rings.eraseIdx (max i j)).eraseIdx (min i j) = rest at *
 have hupr : rest.Pairwise (fun a b => hd a < hd b) := h.up.sublist hsub
 have hner : ∀ l ∈ rest, l ≠ [] := fun l hl => (h.rg l (hsub.subset hl)).2.1
 have hdd := Io hperm h.dis
 rw [List.pairwise_cons, List.pairwise_cons] at hdd
 have hheads : ∀ x ∈ rest, hd x ≠ hd (plain (A5 n A B u v)) := by
  intro x hx e
  have g1 := MD hRG
  have g2 := (l3 _ g1.2.2.2).1 (hrot.perm.mem_iff.2 (SK hRG.2.1))
  have g3 : hd (plain (A5 n A B u v)) ∈ x := e ▸ SK (hner x hx)
  rcases g2 with g | g
  ·exact hdd.1 x (by simp [hx]) _ g g1.2.2.2 g3
  ·exact hdd.2.1 x hx _ g g1.2.2.2 g3
 have hup := ARq hupr hheads
 have hpz := AC4 rest (plain (A5 n A B u v))
 refine ⟨Xh rest (plain (A5 n A B u v)), rest, ?_, ?_, ASw h hperm hRG (fun t ht => by rw [← hrot.perm.mem_iff]; exact l3 t ht) hpz hup, hperm, hpz, hdis⟩
 ·obtain ⟨ys, y1, y2, y3⟩ := ACO n rings [(i : Int), (j : Int)] [A5 n A B u v] hD.1 (by simp) (by simp) (fun l hl => (h.rg l hl).2.1) (by simp; exact hRG.2.1)
  have hys : ys = Xh rest (plain (A5 n A B u v)) := by
   refine TO hup (y2.trans ?_) y3
   rw [hdrop]
   exact (List.perm_append_comm (l₁ := rest) (l₂ := [plain (A5 n A B u v)])).trans hpz.symm
  rw [hys] at y1
  rw [Gw, GP]
  have s1 : Df (A2 A u) (0 : Int) (1 : Int) = some [u] := by
   have := AEt (xs := A2 A u) (l := 0) (h := 1) (by omega) (by rw [l2]; simp)
   rw [l2] at this ⊢
   exact this
  have s2 : Df (A2 A u) (1 : Int) (AN (A2 A u)) = some (A2 A u).tail := by
   have := Gx (xs := A2 A u) (l := 1) (by rw [l2]; simp)
   rw [List.drop_one] at this
   exact this
  have d1 : DQ 0 (AG (AN [u])) (A2 A u) = [u] := by rw [l2]; rfl
  have d2 : DQ 1 (AG (AN (A2 A u).tail)) (A2 A u) = (A2 A u).tail := by
   rw [DQ, AO, SZ, List.drop_one, List.take_length]
  have hcat : H0 ([[u], [Dd n u v], A2 B v, [Dd n v u], (A2 A u).tail], ()) = some (A5 n A B u v, ()) := by
   rw [Kt _ (by simp) (by simp; omega)]
   simp [A5]
  have ne : ((i : Int)) ≠ (j : Int) := by omega
  simp only [Gj n rings u v hD, hRF, iu, iv, and_self, if_true, Ap, I2 n rings _ hD.1 (fun l hl => (hD.2 l hl).1), pu, pv, ne, decide_true, decide_false, Bool.not_true, Ah hi, Ah hj, ACz, Hu, rA.1, rB.1, hu, hv, s1, s2, AIz, d1, d2, hcat, y1]
 ·rw [IX, G8]
  have s2 : Df (A2 A u) (1 : Int) (AN (A2 A u)) = some (A2 A u).tail := by
   have := Gx (xs := A2 A u) (l := 1) (by rw [l2]; simp)
   rw [List.drop_one] at this
   exact this
  have d2 : DQ 1 (AG (AN (A2 A u).tail)) (A2 A u) = (A2 A u).tail := by
   rw [DQ, AO, SZ, List.drop_one, List.take_length]
  have ne : ((i : Int)) ≠ (j : Int) := by omega
  have f1 : fits (AN [u, Dd n u v] + AN (A2 B v)) = true := BM (by simp only [AO, List.length_cons, List.length_nil]; omega)
  have f2 : fits (AN (A8 [u, Dd n u v] (A2 B v)) + AN [Dd n v u]) = true := BM (by simp only [AO, B1, List.length_append, List.length_cons, List.length_nil]; omega)
  have f3 : fits (AN (A8 (A8 [u, Dd n u v] (A2 B v)) [Dd n v u]) + AN (A2 A u).tail) = true := BM (by simp only [AO, B1, List.length_append, List.length_cons, List.length_nil, List.length_tail]; omega)
  have hcat : A8 (A8 (A8 [u, Dd n u v] (A2 B v)) [Dd n v u]) (A2 A u).tail = A5 n A B u v := by simp [B1, A5]
  have hput : AC5 (rest, A5 n A B u v, ()) = some (Xh rest (plain (A5 n A B u v)), ()) := ATx rest _ (by have := hD.1; omega) hner hRG.2.1
  simp only [Fk n rings hD.1 hD.2, hRF, Ib, iu, iv, decide_true, Bool.not_true, TU n rings _ hD.1 (fun l hl => (hD.2 l hl).1), pu, pv, Ap, ne, decide_false, Ah hi, Ah hj, NU A u (by have := rA.1.1; omega), NU B v (by have := rB.1.1; omega), Hu, rA.1, rB.1, hu, hv, and_self, if_true, AD2, f1, f2, s2, d2, f3, AYs, AYr, hw1, hw2, hcat, hput]
theorem ABv {n : Int} {rings : List (List Int)} {u v : Int} (hD : Dom rings) (h : ¬ (RF n rings ∧ In n u ∧ In n v)) :
  ∃ e, e ≠ 0 ∧ (∃ b, e = b ∧ (b = 1 ∨ b = 10)) ∧ J8 ((n, (rings, ())), u, v, ()) = some (n, rings, e, ()) ∧ KZ ((n, (rings, ())), u, v, ()) = some (n, rings, e, ()) := by
 by_cases h1 : RF n rings
 ·have h2 : ¬ (In n u ∧ In n v) := fun h2 => h ⟨h1, h2⟩
  refine ⟨10, by omega, ⟨10, rfl, .inr rfl⟩, ?_, ?_⟩
  ·rw [Gw, GP]
   simp only [Gj n rings u v hD, h1, h2, if_true, if_false, Ap]
   rfl
  ·rw [IX, G8]
   simp only [Fk n rings hD.1 hD.2, h1, Ib, decide_true, Bool.not_true]
   by_cases hu : In n u
   ·have hv : ¬ In n v := fun hv => h2 ⟨hu, hv⟩
    simp [hu, hv]
   ·simp [hu]
 ·refine ⟨1, by omega, ⟨1, rfl, .inl rfl⟩, ?_, ?_⟩
  ·rw [Gw, GP]
   simp only [Gj n rings u v hD, h1, if_false, Ap]
   rfl
  ·rw [IX, G8]
   simp only [Fk n rings hD.1 hD.2, h1, decide_false, Bool.not_false]
theorem ARE {n : Int} {rings : List (List Int)} (u v : Int) (hD : Dom rings) : ∃ zs e, J8 ((n, (rings, ())), u, v, ()) = some (n, zs, e, ()) ∧ KZ ((n, (rings, ())), u, v, ()) = some (n, zs, e, ()) ∧ Dom zs := by
 by_cases h : RF n rings ∧ In n u ∧ In n v
 ·obtain ⟨h1, iu, iv⟩ := h
  have hF := K4.1 h1
  obtain ⟨i, A, pu, hi, hu, _⟩ := My (hF.cov u iu)
  obtain ⟨j, B, pv, hj, hv, _⟩ := My (hF.cov v iv)
  by_cases hij : i = j
  ·obtain ⟨q1, q2⟩ := ALJ hF iu iv (by rw [pu, pv, hij])
   exact ⟨_, _, q1, q2, hD⟩
  ·obtain ⟨zs, rest, q1, q2, q3, _⟩ := AYa hF iu iv hi hj hu hv hij
   exact ⟨_, _, q1, q2, q3.dom⟩
 ·obtain ⟨e, _, _, q1, q2⟩ := ABv hD h
  exact ⟨_, _, q1, q2, hD⟩
end Go.Pev.Pl
end
section
namespace Go.Pev.Pl
open Tok
set_option linter.unusedSimpArgs false
def sel (l : List Edge) (bs : List Bool) : List Edge := ((l.zip bs).filter fun p => p.2).map fun p => p.1
end Go.Pev.Pl
end
section
namespace Go.Pev.Pl
open Tok
instance (n v : Int) : Decidable (In n v) := inferInstanceAs (Decidable (_ ∧ _))
instance (n : Int) : Decidable (Sz n) := inferInstanceAs (Decidable (_ ∧ _))
end Go.Pev.Pl
end
section
namespace Go.Pev.Pl
instance (xs : List Int) : Decidable (Rt xs) := inferInstanceAs (Decidable (_ ∧ _ ∧ _))
end Go.Pev.Pl
end
section
namespace Go.Pev.Pl
open Tok
noncomputable instance (n : Int) (xs : List Int) : Decidable (TI n xs) := Classical.propDecidable _
end Go.Pev.Pl
end
section
namespace Go.Pev.Pl
open Tok
noncomputable instance (n : Int) (rings : List (List Int)) : Decidable (RF n rings) := Classical.propDecidable _
noncomputable instance (n : Int) (xs : List Int) : Decidable (RG n xs) := Classical.propDecidable _
end Go.Pev.Pl
end
section
namespace Go.Pev.Pl
open Tok
theorem AIx (n : Int) (rings : List (List Int)) (l : List (Int × Int × Unit)) (hD : Dom rings) (hs : l.length < 9223372036854775808) : OG ((n, (rings, ())), l, ()) = some (AMh n rings (l.all fun e => decide (In n e.1) && decide (In n e.2.1)), ()) := by
 rw [Ww, LQ]
 simp only [Fk n rings hD.1 hD.2, AMh]
 by_cases h : RF n rings
 ·simp only [h, decide_true, Bool.not_true, if_true]
  have e := Hx (step := Ds) (fun i => (l, n, rings, (i : Int), ())) l (fun e => !(decide (In n e.1) && decide (In n e.2.1))) (fun _ => .inl ((10 : Int), ())) (.inr (.inl ())) hs
   (fun i x hi hx => by
    rw [Ds, AO, AM, decide_eq_true hi]
    simp only [Ah hx, Am, Ao]
    rw [AL (by omega)]
    have q1 := ARP (v := x.1) h.1
    have q2 := ARP (v := x.2.1) h.1
    by_cases c1 : x.1 < 0
    ·rw [decide_eq_true c1, Bool.true_or] at q1
     have : decide (In n x.1) = false := by simpa using q1.symm
     simp [c1, this]
    ·by_cases c2 : n ≤ x.1
     ·rw [decide_eq_true c2, Bool.or_true] at q1
      have : decide (In n x.1) = false := by simpa using q1.symm
      simp [c1, c2, this]
     ·rw [decide_eq_false c1, decide_eq_false c2] at q1
      have g1 : decide (In n x.1) = true := by simpa using q1.symm
      by_cases c3 : x.2.1 < 0
      ·rw [decide_eq_true c3, Bool.true_or] at q2
       have : decide (In n x.2.1) = false := by simpa using q2.symm
       simp [c1, c2, c3, this]
      ·by_cases c4 : n ≤ x.2.1
       ·rw [decide_eq_true c4, Bool.or_true] at q2
        have : decide (In n x.2.1) = false := by simpa using q2.symm
        simp [c1, c2, c3, c4, this]
       ·rw [decide_eq_false c3, decide_eq_false c4] at q2
        have g2 : decide (In n x.2.1) = true := by simpa using q2.symm
        simp [c1, c2, c3, c4, g1, g2])
   (by rw [Ds, AO, AM, decide_eq_false (by omega)])
  have e' : AX Ds many (l, n, rings, (0 : Int), ()) = _ := e
  rw [e', List.any_eq_not_all_not]
  simp only [Bool.not_not]
  cases l.all fun e => decide (In n e.1) && decide (In n e.2.1) <;> rfl
 ·simp [h]
end Go.Pev.Pl
end
section
namespace Go.Pev.Pl
open Tok
set_option linter.unusedSimpArgs false
end Go.Pev.Pl
end
section
namespace Go.Pev.Pl
open Tok
set_option linter.unusedSimpArgs false
end Go.Pev.Pl
end
section
namespace Go.Pev.Pl
open Tok
set_option linter.unusedSimpArgs false
set_option maxRecDepth 100000
end Go.Pev.Pl
end
section
namespace Go.Pev.Pl
open Tok
theorem AJS {N : Nat} (h1 : 1 ≤ N) (hN : N ≤ 64) {ts : List Tie} (hs : ts.length ≤ 400) (ho : oks N ts) {out : List Int} (hc : TH (N : Int) (trs ts ts.length) out) :
  Bl (((N : Int), (ts, ())), ()) = some (decide ((cnt out N : Int) = (N : Int) - (trs ts ts.length).length), ()) := by
 have R := OO N hN ts hs
 rw [if_pos ho] at R
 have hin := AM2 hN ho
 have hlen := AER ts ts.length
 obtain ⟨o2, e2, c2⟩ := Fh (N : Int) (trs ts ts.length) ⟨by omega, by omega⟩ (by omega) hin
 have := TH.unique h1 hN hc c2
 subst this
 have hol : out.length = N := by have := hc.len; omega
 rw [Ev, EE]
 simp only [Am, AO]
 rw [decide_eq_false (show ¬ (N : Int) < 1 by omega), decide_eq_false (show ¬ 64 < (N : Int) by omega), decide_eq_false (show ¬ 400 < (ts.length : Int) by omega)]
 simp only [R, e2, MY N hN _ _ out hol, Ap]
 rw [Af (by omega)]
end Go.Pev.Pl
end
section
namespace Go.Pev.Pl
open Tok
set_option linter.unusedSimpArgs false
theorem Con.perm {l l' : List Edge} (h : ∀ e, e ∈ l ↔ e ∈ l') {a b : Int} : Con l a b ↔ Con l' a b :=
 ⟨fun c => c.mono fun e he => ⟨e, (h e).1 he, .inl ⟨rfl, rfl⟩⟩, fun c => c.mono fun e he => ⟨e, (h e).2 he, .inl ⟨rfl, rfl⟩⟩⟩
theorem TH.congr {n : Int} {l l' : List Edge} {out : List Int} (h : ∀ a b, Con l a b ↔ Con l' a b) (hc : TH n l out) : TH n l' out :=
 ⟨hc.len, fun a b ia ib => (hc.same a b ia ib).trans (h a b), hc.isin, fun a ia => (h a _).1 (hc.con a ia), fun a b ia ib c => hc.least a b ia ib ((h a b).2 c)⟩
end Go.Pev.Pl
end
section
namespace Go.Pev.Pl
open Tok
set_option linter.unusedSimpArgs false
def ACi (x : Edge) (b : Bool) : Tie := (x.1, x.2.1, 0, b, ())
def VY (ts : List Tie) (xs : List Edge) (bs : List Bool) (k : Nat) : List Tie := (List.range k).foldl (fun a i => Xg a (ACi (xs.getD i (0, 0, ())) (bs.getD i false))) ts
end Go.Pev.Pl
end
section
namespace Go.Pev.Pl
open Tok
set_option linter.unusedSimpArgs false
def APA (xs : List Edge) (bs : List Bool) (k : Nat) : List Tie := (List.range k).map fun i => ACi (xs.getD i (0, 0, ())) (bs.getD i false)
theorem AD4 (ts : List Tie) (xs : List Edge) (bs : List Bool) (k : Nat) : VY ts xs bs (k + 1) = Xg (VY ts xs bs k) (ACi (xs.getD k (0, 0, ())) (bs.getD k false)) := by
 unfold VY
 rw [List.range_succ, List.foldl_append]
 rfl
theorem Sr (ts : List Tie) (xs : List Edge) (bs : List Bool) : ∀ k, (VY ts xs bs k).Perm (ts ++ APA xs bs k) := by
 intro k
 induction k with
 | zero => simp [VY, APA]
 | succ k ih =>
  rw [AD4]
  refine (AC3 _ _).trans ?_
  unfold APA at *
  rw [List.range_succ, List.map_append, ← List.append_assoc]
  refine (List.Perm.cons _ ih).trans ?_
  exact (List.perm_append_singleton _ _).symm
end Go.Pev.Pl
end
section
namespace Go.Pev.Pl
open Tok
set_option linter.unusedSimpArgs false
theorem AZm {N : Nat} {ts : List Tie} (h : oks N ts) (hv0 : 0 ≤ Gu N) {xs : List Edge} (bs : List Bool) (hp : xs.Pairwise AH2) (hx : ∀ e ∈ xs, 0 ≤ e.1 ∧ e.1 < e.2.1 ∧ e.2.1 < (N : Int)) (hn : ∀ e ∈ xs, ¬ e ∈ ts.map ed) : oks N (VY ts xs bs xs.length) := by
 rw [Oh] at h ⊢
 obtain ⟨h1, h2⟩ := h
 have hget : ∀ i (hi : i < xs.length), xs.getD i (0, 0, ()) = xs[i] := fun i hi => by
  simp only [List.getD_eq_getElem?_getD, List.getElem?_eq_getElem hi, Option.getD_some]
 have hmem : ∀ k, k ≤ xs.length → ∀ t ∈ VY ts xs bs k, t ∈ ts ∨ ∃ i, i < k ∧ t = ACi (xs.getD i (0, 0, ())) (bs.getD i false) := by
  intro k hk t ht
  rcases List.mem_append.1 ((Sr ts xs bs k).mem_iff.1 ht) with h | h
  ·exact .inl h
  ·unfold APA at h
   obtain ⟨i, hi, rfl⟩ := List.mem_map.1 h
   exact .inr ⟨i, by simpa using hi, rfl⟩
 refine ⟨fun t ht => ?_, ?_⟩
 ·rcases hmem _ (Nat.le_refl _) t ht with h | ⟨i, hi, rfl⟩
  ·exact h1 t h
  ·rw [hget i hi]
   obtain ⟨q1, q2, q3⟩ := hx xs[i] (List.getElem_mem hi)
   exact ⟨q1, q2, q3, by show (0 : Int) ≤ 0; omega, hv0⟩
 ·have key : ∀ k, k ≤ xs.length → (VY ts xs bs k).Pairwise ahead := by
   intro k
   induction k with
   | zero => intro _; exact h2
   | succ k ih =>
    intro hk
    rw [AD4]
    refine ATw (ih (by omega)) fun t ht => ?_
    rw [hget k (by omega)]
    rintro ⟨e1, e2⟩
    rcases hmem k (by omega) t ht with h | ⟨i, hi, rfl⟩
    ·refine hn xs[k] (List.getElem_mem (by omega)) (List.mem_map.2 ⟨t, h, ?_⟩)
     unfold ed
     rw [e1, e2]
     rfl
    ·rw [hget i (by omega)] at e1 e2
     have := (List.pairwise_iff_getElem.1 hp) i k (by omega) (by omega) hi
     unfold AH2 at this
     simp only [ACi] at e1 e2
     omega
  exact key _ (Nat.le_refl _)
end Go.Pev.Pl
end
section
namespace Go.Pev.Pl
open Tok
set_option linter.unusedSimpArgs false
theorem AWb (ts : List Tie) : ∀ k, k ≤ ts.length → trs ts k = ((ts.take k).filter fun t => t.2.2.2.1).map ed := by
 intro k
 induction k with
 | zero => intro _; simp [trs]
 | succ k ih =>
  intro hk
  have hk' : k < ts.length := by omega
  rw [Wb, ih (by omega), List.take_succ_eq_append_getElem hk', List.filter_append, List.map_append]
  simp only [List.getD_eq_getElem?_getD, List.getElem?_eq_getElem hk', Option.getD_some]
  cases h : ts[k].2.2.2.1
  ·simp [h]
  ·simp [h]
theorem ARb (ts : List Tie) : trs ts ts.length = (ts.filter fun t => t.2.2.2.1).map ed := by
 rw [AWb ts _ (Nat.le_refl _), List.take_length]
end Go.Pev.Pl
end
section
namespace Go.Pev.Pl
open Tok
set_option linter.unusedSimpArgs false
theorem AYK {xs : List Edge} {bs : List Bool} (h : bs.length = xs.length) : APA xs bs xs.length = (xs.zip bs).map fun p => ACi p.1 p.2 := by
 unfold APA
 apply List.ext_getElem
 ·simp [h]
 ·intro i h1 h2
  have hi : i < xs.length := by simpa using h1
  simp [hi, show i < bs.length by omega]
theorem AZl (ts : List Tie) {xs : List Edge} {bs : List Bool} (h : bs.length = xs.length) : (trs (VY ts xs bs xs.length) (VY ts xs bs xs.length).length).Perm (trs ts ts.length ++ sel xs bs) := by
 rw [ARb, ARb]
 refine (((Sr ts xs bs xs.length).filter _).map ed).trans ?_
 rw [List.filter_append, List.map_append, AYK h, List.filter_map, List.map_map]
 exact List.Perm.refl _
theorem AZn (ts : List Tie) (xs : List Edge) (bs : List Bool) : ∀ k, (VY ts xs bs k).length = ts.length + k := by
 intro k
 rw [(Sr ts xs bs k).length_eq]
 simp [APA]
end Go.Pev.Pl
end
end
section
section
namespace Go.Pev.Pl
open Tok
set_option linter.unusedSimpArgs false
set_option maxRecDepth 100000
theorem AZb {N : Nat} (hN : N ≤ 64) (ts : List Tie) (l : List Edge) : ∀ e ∈ Is N ts l, In (N : Int) e.1 ∧ In (N : Int) e.2.1 := by
 intro e he
 obtain ⟨⟨a, b, c, _⟩, _⟩ := (Ra N ts l e).1 he
 exact ⟨⟨by omega, by omega, a, by omega⟩, ⟨by omega, by omega, by omega, c⟩⟩
end Go.Pev.Pl
end
section
namespace Go.Pev.Pl
open Tok
set_option linter.unusedSimpArgs false
set_option maxRecDepth 100000
theorem Abn {N : Nat} (h1 : 1 ≤ N) (hN : N ≤ 64) {a : Int} (h : 0 ≤ a ∧ a < (N : Int)) : In (N : Int) a := ⟨by omega, by omega, h.1, h.2⟩
theorem AcM {N : Nat} {e : Edge} (h : In (N : Int) e.1 ∧ In (N : Int) e.2.1) : InE N e := ⟨⟨h.1.2.2.1, h.1.2.2.2⟩, ⟨h.2.2.2.1, h.2.2.2.2⟩⟩
theorem AcV {N : Nat} (h1 : 1 ≤ N) (hN : N ≤ 64) {l : List Edge} {out : List Int} (hc : TH (N : Int) l out) : cnt out N = cc N l := by
 unfold cnt cc
 rw [List.countP_eq_length_filter]
 congr 1
 refine List.filter_congr fun k hk => ?_
 have hk : k < N := by simpa using hk
 have ik := Abn h1 hN (a := (k : Int)) ⟨by omega, by omega⟩
 have hg : out.getD k 0 = cl out (k : Int) := by unfold cl; rw [Int.toNat_natCast]
 rw [hg, Bool.eq_iff_iff, decide_eq_true_iff, G7]
 constructor
 ·intro h j hj hcn
  have := hc.least (k : Int) (j : Int) ik (Abn h1 hN ⟨by omega, by omega⟩) hcn.symm
  omega
 ·intro h
  have a1 := hc.isin _ ik
  have a2 := hc.con _ ik
  have a3 := hc.least (k : Int) (k : Int) ik ik (.refl _)
  obtain ⟨m, hm⟩ := Int.eq_ofNat_of_zero_le a1.2.2.1
  rw [hm] at a2 a3 ⊢
  by_cases hlt : m < k
  ·exact absurd a2.symm (h m hlt)
  ·omega
theorem FC.congr {n : Int} {rings : List (List Int)} {l l' : List Edge} (h : FC n rings l) (hm : ∀ e ∈ l, e ∈ l') (hc : ∀ e ∈ l', Con l e.1 e.2.1) : FC n rings l' :=
 ⟨h.fr, fun a b ia ib => (h.sam a b ia ib).trans ⟨fun c => c.sub hm, fun c => c.cut hc⟩, fun A hA u v ho hu => by
  obtain ⟨e, he, q⟩ := h.arcs A hA u v ho hu
  exact ⟨e, hm e he, q⟩⟩
theorem AJR {N : Nat} (h1 : 1 ≤ N) (hN : N ≤ 64) {ts : List Tie} (hs : ts.length ≤ 400) (ho : oks N ts) : Bl (((N : Int), (ts, ())), ()) = some (true, ()) ↔ Fo N (trs ts ts.length) := by
 have hlen := AER ts ts.length
 obtain ⟨o, _, c⟩ := Fh (N : Int) (trs ts ts.length) ⟨by omega, by omega⟩ (by omega) (AM2 hN ho)
 rw [AJS h1 hN hs ho c, AcV h1 hN c]
 unfold Fo
 constructor
 ·intro h
  have : decide ((cc N (trs ts ts.length) : Int) = (N : Int) - (trs ts ts.length).length) = true := by injection h with h; injection h
  have := of_decide_eq_true this
  omega
 ·intro h
  rw [decide_eq_true (by omega)]
end Go.Pev.Pl
end
section
namespace Go.Pev.Pl
open Tok
set_option linter.unusedSimpArgs false
set_option maxRecDepth 100000
end Go.Pev.Pl
end
section
namespace Go.Pev.Pl.SE
open Go.Sort
def ok (_ : Int × Int × Unit) : Prop := True
def okz : Int × Int × Unit := (0, 0, ())
theorem Yg : ok okz := trivial
def lt (x y : Int × Int × Unit) : Bool := decide (x.1 < y.1 ∨ (x.1 = y.1 ∧ x.2.1 < y.2.1))
theorem swo : SWO lt := ⟨fun x => by simp [lt], fun x y z h1 h2 => by simp only [lt, decide_eq_true_eq] at *; omega, fun x y z h1 h2 => by simp only [lt, decide_eq_false_iff_not] at *; omega⟩
end Go.Pev.Pl.SE
end
section
namespace Go.Pev.Pl.ST
open Go.Sort
def ok (_ : Int × Int × Int × Bool × Unit) : Prop := True
def okz : Int × Int × Int × Bool × Unit := (0, 0, 0, false, ())
theorem Yg : ok okz := trivial
def lt (x y : Int × Int × Int × Bool × Unit) : Bool := decide (x.1 < y.1 ∨ (x.1 = y.1 ∧ x.2.1 < y.2.1))
theorem swo : SWO lt := ⟨fun x => by simp [lt], fun x y z h1 h2 => by simp only [lt, decide_eq_true_eq] at *; omega, fun x y z h1 h2 => by simp only [lt, decide_eq_false_iff_not] at *; omega⟩
end Go.Pev.Pl.ST
end
section
namespace Go.Pev.Pl
open Tok
set_option linter.unusedSimpArgs false
set_option maxRecDepth 100000
section
variable {α β : Type} [DecidableEq α]
end
end Go.Pev.Pl
end
section
namespace Go.Pev.Pl
open Tok
set_option linter.unusedSimpArgs false
set_option maxRecDepth 100000
theorem AaH : ∀ (xs b : List Edge), sel xs (gfl b xs) = J0 b xs := by
 intro xs
 induction xs with
 | nil => intro b; rfl
 | cons x xs ih =>
  intro b
  have := ih (b ++ [x])
  unfold sel at *
  rw [gfl, J0, List.zip_cons_cons, List.filter_cons]
  by_cases h : MT b x.1 x.2.1 = true
  ·simp [h, this]
  ·simp [h, this]
theorem Abh {N : Nat} {b xs : List Edge} (h : Fo N b) (hx : ∀ e ∈ xs, InE N e) : Fo N (b ++ J0 b xs) := by
 have h1 := L7 xs b hx
 have h2 : cc N (b ++ xs) = cc N (b ++ J0 b xs) := AAU fun a c => AAN xs b
 unfold Fo at *
 rw [List.length_append]
 omega
theorem TK {N : Nat} (hN : N ≤ 64) : 0 ≤ Gu N := by
 have : ((List.range 65).all fun k => decide (0 ≤ Gu k)) = true := by kernel_rfl
 exact of_decide_eq_true (List.all_eq_true.1 this N (by simp; omega))
noncomputable def grown (N : Nat) (ts : List Tie) (l : List Edge) : List Tie := VY ts (Is N ts l) (gfl (trs ts ts.length) (Is N ts l)) (Is N ts l).length
theorem AVY (N : Nat) (ts : List Tie) (l : List Edge) : (grown N ts l).length = ts.length + (Is N ts l).length := AZn ..
theorem AVW (N : Nat) (ts : List Tie) (l : List Edge) : (trs (grown N ts l) (grown N ts l).length).Perm (trs ts ts.length ++ J0 (trs ts ts.length) (Is N ts l)) := by
 have := AZl ts (xs := Is N ts l) (bs := gfl (trs ts ts.length) (Is N ts l)) (AbL _ _)
 rw [AaH] at this
 exact this
theorem AVX {N : Nat} (hN : N ≤ 64) {ts : List Tie} (ho : oks N ts) (l : List Edge) : oks N (grown N ts l) :=
 AZm ho (TK hN) _ (AQ1 N ts l) (fun e he => by
  obtain ⟨⟨a, b, c, _⟩, _⟩ := (Ra N ts l e).1 he
  exact ⟨a, b, c⟩) (fun e he => ((Ra N ts l e).1 he).2)
theorem AVy {N : Nat} (hN : N ≤ 64) (ts : List Tie) (l : List Edge) : ∀ e ∈ Is N ts l, InE N e := fun e he => AcM (AZb hN ts l e he)
theorem AY7 {N : Nat} (hN : N ≤ 64) {ts : List Tie} (h : Fo N (trs ts ts.length)) (l : List Edge) : Fo N (trs (grown N ts l) (grown N ts l).length) :=
 (Abh h (AVy hN ts l)).perm (AVW N ts l).symm
structure RG2 (N : Nat) (ts : List Tie) : Prop where
 h1 : 1 ≤ N
 hN : N ≤ 64
 ht : ts.length ≤ 400
 oks : oks N ts
 fo : Fo N (trs ts ts.length)
theorem RG2.r21 {N : Nat} {ts : List Tie} (h : RG2 N ts) : Bl (((N : Int), (ts, ())), ()) = some (true, ()) := (AJR h.h1 h.hN h.ht h.oks).2 h.fo
theorem RG2.lr {N : Nat} {ts : List Tie} (h : RG2 N ts) : CZ (((N : Int), (ts, ())), ()) = some (true, ()) := by
 obtain ⟨b, h1, h2, _⟩ := AAe (N : Int) ts (by have := h.ht; omega)
 rw [h.r21] at h1
 cases h1
 exact h2
theorem ATn (n : Int) (ts : List Tie) (hl : ts.length < 4611686018427387904) : (Bl ((n, (ts, ())), ()) = some (false, ()) ∧ CZ ((n, (ts, ())), ()) = some (false, ())) ∨ ∃ N : Nat, n = (N : Int) ∧ RG2 N ts := by
 obtain ⟨b, h1, h2, h3⟩ := AAe n ts hl
 cases b
 ·exact .inl ⟨h1, h2⟩
 ·obtain ⟨N, rfl, q1, q2, q3, q4⟩ := h3 rfl
  exact .inr ⟨N, rfl, q1, q2, q3, q4, (AJR q1 q2 q3 q4).1 h1⟩
theorem RG2.inE {N : Nat} {ts : List Tie} (h : RG2 N ts) : ∀ e ∈ ts.map ed, In (N : Int) e.1 ∧ In (N : Int) e.2.1 := AcS h.hN h.oks
theorem RG2.grown {N : Nat} {ts : List Tie} (h : RG2 N ts) {l : List Edge} (hf : ts.length + (Is N ts l).length ≤ 400) : RG2 N (grown N ts l) :=
 ⟨h.h1, h.hN, by rw [AVY]; exact hf, AVX h.hN h.oks l, AY7 h.hN h.fo l⟩
end Go.Pev.Pl
end
section
namespace Go.Pev.Pl
open Tok
set_option linter.unusedSimpArgs false
set_option maxRecDepth 100000
def Db (u v : Int) (t : Tie) : Bool := decide (t.1 = min u v ∧ t.2.1 = max u v)
theorem Na {N : Nat} {ts : List Tie} (h : RG2 N ts) (u v : Int) : Nb (((N : Int), (ts, ())), u, v, ()) = some (if ts.any (Db u v) then ((ts.findIdx (Db u v) : Nat) : Int) else -1, ()) := by
 have ht := h.ht
 rw [SR, Kk]
 simp only [h.r21, Bool.not_true]
 have e := Hx (step := FI) (fun i => (u, v, (N : Int), ts, (i : Int), ())) ts (Db u v) (fun i => .inl ((i : Int), ())) (.inr (.inl ())) (by omega)
  (fun i x hi hx => by
   rw [FI, AO, AM, decide_eq_true hi]
   simp only [Ah hx, ASR, ASS, Ap]
   rw [AL (by omega)]
   unfold Db
   by_cases h1 : x.1 = min u v
   ·by_cases h2 : x.2.1 = max u v
    ·rw [decide_eq_true h1, decide_eq_true h2, decide_eq_true (show x.1 = min u v ∧ x.2.1 = max u v from ⟨h1, h2⟩)]
     rfl
    ·rw [decide_eq_true h1, decide_eq_false h2, decide_eq_false (fun h : x.1 = min u v ∧ x.2.1 = max u v => h2 h.2)]
     rfl
   ·rw [decide_eq_false h1, decide_eq_false (fun h : x.1 = min u v ∧ x.2.1 = max u v => h1 h.1)]
    rfl)
  (by rw [FI, AO, AM, decide_eq_false (by omega)])
 have e' : AX FI many (u, v, (N : Int), ts, (0 : Int), ()) = _ := e
 rw [e']
 by_cases ha : ts.any (Db u v) = true
 ·rw [if_pos ha, if_pos ha]
 ·rw [if_neg ha, if_neg ha]
end Go.Pev.Pl
end
end
section
namespace Go.Pev.Pl
open Tok
set_option linter.unusedSimpArgs false
set_option maxRecDepth 100000
theorem AWd (ts : List Tie) (t : Tie) (k : Int) : trk (ts ++ [t]) k = trk ts k ++ if t.2.2.2.1 = true ∧ k ≤ t.2.2.1 then [ed t] else [] := by
 rw [Cu]
 congr 1
 unfold trk
 rw [List.filter_cons]
 by_cases h : t.2.2.2.1 = true ∧ k ≤ t.2.2.1
 ·rw [if_pos h, h.1, decide_eq_true h.2]; rfl
 ·rw [if_neg h, if_neg]
  ·rfl
  ·rw [Bool.and_eq_true, decide_eq_true_eq]; exact h
theorem AIh (k : Int) : ∀ (ts a : List Tie) (acc : List Edge), acc = trk a k → ts.foldl (fun acc t => if t.2.2.2.1 = true ∧ k ≤ t.2.2.1 then acc ++ [ed t] else acc) acc = trk (a ++ ts) k := by
 intro ts
 induction ts with
 | nil => intro a acc h; simpa using h
 | cons t ts ih =>
  intro a acc h
  rw [List.foldl_cons, ih (a ++ [t])]
  ·simp
  ·rw [AWd, ← h]
   split <;> simp
theorem AZ0 (ts : List Tie) (k : Int) : (trk ts k).length ≤ ts.length := by
 unfold trk
 rw [List.length_map]
 exact List.length_filter_le _ _
theorem AZz (ts : List Tie) (k : Int) : ∀ e ∈ trk ts k, e ∈ ts.map ed := by
 intro e he
 obtain ⟨t, h1, _, _, rfl⟩ := CY.1 he
 exact List.mem_map.2 ⟨t, h1, rfl⟩
theorem AK8 (n : Int) (ts : List Tie) (hs : ts.length ≤ 400) (k : Int) : NB ((n, (ts, ())), k, ()) = some (trk ts k, ()) := by
 rw [Ro, KX]
 have e := De (step := CK) (fun i (a : List Edge) => (k, a, ts, AN ts, (i : Int), ())) ts (fun t a => .inl (if t.2.2.2.1 = true ∧ k ≤ t.2.2.1 then a ++ [ed t] else a)) (fun a => .inl (a, ())) (fun i a => a.length ≤ i) (by omega)
  (fun i x a hi hx ha => by
   refine ⟨fun m' h' => ?_, fun r h' => (by cases h')⟩
   cases h'
   constructor
   ·rw [CK, AO, AM, decide_eq_true hi]
    simp only [Ah hx, AO]
    rw [AL (by omega), Ao, BM (by simp only [List.length_cons, List.length_nil]; omega)]
    cases h4 : x.2.2.2.1
    ·simp
    ·by_cases h5 : k ≤ x.2.2.1
     ·simp [h5, ed, A8]
     ·simp [h5]
   ·split
    ·rw [List.length_append]; simp; omega
    ·omega)
  (fun a _ => by rw [CK, AO, AM, decide_eq_false (by omega)]) [] (Nat.le_refl _)
 have e' : AX CK many (k, [], ts, AN ts, (0 : Int), ()) = _ := e
 simp only [e']
 rw [Ba (fun (t : Tie) (a : List Edge) => if t.2.2.2.1 = true ∧ k ≤ t.2.2.1 then a ++ [ed t] else a), AIh k ts [] [] rfl]
 rfl
theorem ATB (n : Int) (ts : List Tie) (hs : ts.length ≤ 400) (k : Int) : OD ((n, (ts, ())), k, ()) = some (trk ts k, ()) := by
 rw [Wk, LN]
 have e := De (step := Dr) (fun i (a : List Edge) => (k, n, ts, a, (i : Int), ())) ts (fun t a => .inl (if t.2.2.2.1 = true ∧ k ≤ t.2.2.1 then a ++ [ed t] else a)) (fun a => .inl (a, ())) (fun i a => a.length ≤ i) (by omega)
  (fun i x a hi hx ha => by
   refine ⟨fun m' h' => ?_, fun r h' => (by cases h')⟩
   cases h'
   constructor
   ·rw [Dr, AO, AM, decide_eq_true hi]
    simp only [Ah hx, AO]
    rw [AL (by omega), Ao, BM (by simp only [List.length_cons, List.length_nil]; omega)]
    cases h4 : x.2.2.2.1
    ·simp
    ·by_cases h5 : k ≤ x.2.2.1
     ·simp [h5, ed, A8]
     ·simp [h5]
   ·split
    ·rw [List.length_append]; simp; omega
    ·omega)
  (fun a _ => by rw [Dr, AO, AM, decide_eq_false (by omega)]) [] (Nat.le_refl _)
 have e' : AX Dr many (k, n, ts, [], (0 : Int), ()) = _ := e
 simp only [e']
 rw [Ba (fun (t : Tie) (a : List Edge) => if t.2.2.2.1 = true ∧ k ≤ t.2.2.1 then a ++ [ed t] else a), AIh k ts [] [] rfl]
 rfl
theorem RG2.inK {N : Nat} {ts : List Tie} (h : RG2 N ts) (k : Int) : ∀ e ∈ trk ts k, In (N : Int) e.1 ∧ In (N : Int) e.2.1 := fun e he => h.inE e (AZz ts k e he)
theorem RG2.AcI {N : Nat} {ts : List Tie} (h : RG2 N ts) (k : Int) : (trk ts k).length ≤ 400 := Nat.le_trans (AZ0 ts k) h.ht
theorem RG2.Acu {N : Nat} {ts : List Tie} (h : RG2 N ts) (k : Int) : ∃ zs, GS (((N : Int), (ts, ())), k, ()) = some (((N : Int), (zs, ())), 0, ()) ∧ FC (N : Int) zs (trk ts k) := by
 have hl := h.AcI k
 have h1 := h.h1
 have hN := h.hN
 rcases (ASc (N : Int) (trk ts k) ⟨by omega, by omega⟩ (by omega)).symm with ⟨hno, _⟩ | ⟨_, zs, e, hF⟩
 ·exact absurd (h.inK k) hno
 refine ⟨zs, ?_, hF⟩
 rw [JM, Gf]
 simp only [h.lr, Bool.not_true, AK8 (N : Int) ts h.ht k, e]
theorem RG2.Acp {N : Nat} {ts : List Tie} (h : RG2 N ts) (k : Int) : ∃ out, Gh ((N : Int), trk ts k, ()) = some (out, ()) ∧ TH (N : Int) (trk ts k) out := by
 have := h.AcI k
 have h1 := h.h1
 have hN := h.hN
 exact Fh (N : Int) (trk ts k) ⟨by omega, by omega⟩ (by omega) (h.inK k)
end Go.Pev.Pl
end
section
namespace Go.Pev.Pl
open Tok
set_option linter.unusedSimpArgs false
set_option maxRecDepth 100000
def Acn (ts : List Tie) : Prop := ∀ e ∈ ts.map ed, Con (trk ts 0) e.1 e.2.1
def Acx (ts : List Tie) : Prop := ∀ t ∈ ts, t.2.2.2.1 = false → Con (trk ts t.2.2.1) t.1 t.2.1
def Aco (N : Nat) (ts : List Tie) : Prop := ∀ k : Nat, (k : Int) ≤ Gu N → ∀ v : Nat, v < N → csz N (trk ts k) v ≤ max 1 (N / 2 ^ k)
theorem RG2.tie {N : Nat} {ts : List Tie} (h : RG2 N ts) {t : Tie} (ht : t ∈ ts) : In (N : Int) t.1 ∧ In (N : Int) t.2.1 ∧ t.1 < t.2.1 ∧ 0 ≤ t.2.2.1 ∧ t.2.2.1 ≤ Gu N := by
 have h1 := ((Oh N ts).1 h.oks).1 t ht
 have h2 := h.inE (ed t) (List.mem_map.2 ⟨t, ht, rfl⟩)
 exact ⟨h2.1, h2.2, h1.2.1, h1.2.2.2.1, h1.2.2.2.2⟩
end Go.Pev.Pl
end
section
namespace Go.Pev.Pl
open Tok
set_option linter.unusedSimpArgs false
set_option maxRecDepth 100000
def Eo (N : Nat) : Nat := (Gu N).toNat
theorem Vc {N : Nat} (hN : N ≤ 64) : Gu N = (Eo N : Int) := by
 have := TK hN
 unfold Eo
 omega
theorem AEc {N : Nat} (hN : N ≤ 64) : Eo N < 64 := by
 have : ((List.range 65).all fun k => decide (Gu k < 64)) = true := by kernel_rfl
 have h1 := of_decide_eq_true (List.all_eq_true.1 this N (by simp; omega))
 have := Vc hN
 omega
theorem AWQ (n : Nat) (h : n < 18446744073709551616) : IntKind.wrap .u64 (n : Int) = (n : Int) := IntWalk.u64_in _ (by omega)
theorem Snd.parts {N : Nat} {ts : List Tie} (h : RG2 N ts) (hs : Snd N (Eo N : Int) ts) : Acn ts ∧ Acx ts ∧ Aco N ts := by
 refine ⟨fun e he => (hs.span _ _).1 (.edge e he), hs.lie, fun k hk v hv => hs.halv k (by rw [← Vc h.hN]; exact hk) v hv⟩
end Go.Pev.Pl
end
section
namespace Go.Pev.Pl
open Tok
set_option linter.unusedSimpArgs false
set_option maxRecDepth 100000
theorem AZ4 {N : Nat} (hN : N ≤ 64) : N / 2 ^ Eo N ≤ 1 := by
 have : ((List.range 65).all fun k => decide (k / 2 ^ Eo k ≤ 1)) = true := by kernel_rfl
 exact of_decide_eq_true (List.all_eq_true.1 this N (by simp; omega))
theorem RG2.below {N : Nat} {ts : List Tie} (h : RG2 N ts) (hs : Snd N (Eo N : Int) ts) {t : Tie} (ht : t ∈ ts) : t.2.2.1 < (Eo N : Int) :=
 hs.below (AZ4 h.hN) ht (by have := (h.tie ht).2.2.1; omega)
end Go.Pev.Pl
end
section
namespace Go.Pev.Pl
open Tok
set_option linter.unusedSimpArgs false
set_option maxRecDepth 100000
end Go.Pev.Pl
end
section
namespace Go.Pev.Pl
open Tok
set_option linter.unusedSimpArgs false
set_option maxRecDepth 100000
end Go.Pev.Pl
end
section
namespace Go.Pev.Pl
open Tok
set_option linter.unusedSimpArgs false
set_option maxRecDepth 100000
end Go.Pev.Pl
end
section
namespace Go.Pev.Pl
open Tok
set_option linter.unusedSimpArgs false
set_option maxRecDepth 100000
def bef (x y : Tie) : Prop := y.2.2.1 < x.2.2.1 ∨ (x.2.2.1 = y.2.2.1 ∧ ahead x y)
theorem bef.trans {x y z : Tie} (h : bef x y) (h' : bef y z) : bef x z := by
 unfold bef ahead at *
 omega
def Mrg (u v w : List Tie) : Prop := w.Perm (u ++ v) ∧ w.Pairwise bef
end Go.Pev.Pl
end
section
namespace Go.Pev.Pl
open Tok
set_option linter.unusedSimpArgs false
set_option maxRecDepth 100000
noncomputable section
end
theorem Mrg.append {u1 u2 v1 v2 w1 w2 : List Tie} (h1 : Mrg u1 v1 w1) (h2 : Mrg u2 v2 w2) (hu : (u1 ++ u2).Pairwise bef) (hv : (v1 ++ v2).Pairwise bef) (c1 : ∀ x ∈ u1, ∀ y ∈ v2, bef x y) (c2 : ∀ y ∈ v1, ∀ x ∈ u2, bef y x) : Mrg (u1 ++ u2) (v1 ++ v2) (w1 ++ w2) := by
 rw [List.pairwise_append] at hu hv
 refine ⟨?_, ?_⟩
 ·refine (h1.1.append h2.1).trans ?_
  rw [List.append_assoc, List.append_assoc]
  refine List.Perm.append_left _ ?_
  rw [← List.append_assoc, ← List.append_assoc]
  exact List.Perm.append_right _ List.perm_append_comm
 ·rw [List.pairwise_append]
  refine ⟨h1.2, h2.2, fun x hx y hy => ?_⟩
  have hx := List.mem_append.1 (h1.1.mem_iff.1 hx)
  have hy := List.mem_append.1 (h2.1.mem_iff.1 hy)
  rcases hx with hx | hx <;> rcases hy with hy | hy
  ·exact hu.2.2 x hx y hy
  ·exact c1 x hx y hy
  ·exact c2 x hx y hy
  ·exact hv.2.2 x hx y hy
end Go.Pev.Pl
end
section
namespace Go.Pev.Pl
open Tok
set_option linter.unusedSimpArgs false
set_option maxRecDepth 100000
end Go.Pev.Pl
end
section
namespace Go.Pev.Pl
open Tok
set_option linter.unusedSimpArgs false
set_option maxRecDepth 100000
end Go.Pev.Pl
end
section
namespace Go.Pev.Pl
open Tok
set_option linter.unusedSimpArgs false
set_option maxRecDepth 100000
theorem TR (l : List Edge) (hs : l.length < 1073741824) : XE (l, l, ()) = some (true, ()) := by
 rw [ACw, OL, AO, Ap]
 have e := Hx (step := Et) (fun i => (l, l, (i : Int), ())) l (fun _ => false) (fun _ => .inl (false, ())) (.inr (.inl ())) (by omega)
  (fun i x hi hx => by
   rw [Et, AO, AM, decide_eq_true hi]
   simp only [Ah hx, Ap, decide_true, Bool.and_self, Bool.not_true]
   rw [AL (by omega)]
   rfl)
  (by rw [Et, AO, AM, decide_eq_false (by omega)])
 have e' : AX Et many (l, l, (0 : Int), ()) = _ := e
 have hf : (l.any fun _ => false) = false := by simp
 rw [e', hf]
 simp
def lvl (ts : List Tie) (k : Int) : List Tie := ts.filter fun t => decide (t.2.2.1 = k)
end Go.Pev.Pl
end
section
namespace Go.Pev.Pl
open Tok
set_option linter.unusedSimpArgs false
set_option maxRecDepth 100000
section
variable (n : Int) (ts : List Tie)
end
end Go.Pev.Pl
end
section
namespace Go.Pev.Pl
open Tok
set_option linter.unusedSimpArgs false
set_option maxRecDepth 100000
def mid (f : Int → Int) (xs : List Int) (i : Nat) : List Int := (xs.take i).map f ++ xs.drop i
def lb (at0 : List Int) (v : Int) : Int := at0.getD v.toNat 0
end Go.Pev.Pl
end
section
namespace Go.Pev.Pl
open Tok
set_option linter.unusedSimpArgs false
set_option maxRecDepth 100000
end Go.Pev.Pl
end
section
namespace Go.Pev.Pl
section
variable {α β : Type} [DecidableEq α]
theorem APe (es : List (α × β)) (k : α) (v : β) (j : α) : AR (Ag es k v) j = if j = k then some v else AR es j := by
 induction es with
 | nil =>
  simp only [Ag, AR]
  by_cases h : j = k
  ·rw [if_pos h, if_pos h.symm]
  ·rw [if_neg h, if_neg (Ne.symm h)]
 | cons e es ih =>
  obtain ⟨a, x⟩ := e
  by_cases h1 : a = k
  ·subst h1
   simp only [Ag, AR, if_true]
   by_cases h : j = a
   ·rw [if_pos h, if_pos h.symm]
   ·rw [if_neg h, if_neg (Ne.symm h), if_neg (Ne.symm h)]
  ·simp only [Ag, AR, h1, if_false, ih]
   by_cases h : a = j
   ·subst h
    rw [if_pos rfl, if_neg h1, if_pos rfl]
   ·rw [if_neg h, if_neg h]
theorem AC7 : ∀ (es : List (α × β)) (k : α), Da es k = none → ∀ v, Ag es k v = es ++ [(k, v)] := by
 intro es
 induction es with
 | nil => intro k _ v; rfl
 | cons e es ih =>
  intro k h v
  obtain ⟨a, b⟩ := e
  by_cases hk : a = k
  ·simp [Da, hk] at h
  ·simp only [Da, hk, if_false, Option.map_eq_none_iff] at h
   simp only [Ag, hk, if_false, ih k h v, List.cons_append]
theorem AC6 : ∀ (es : List (α × β)) (k : α) (n : Nat), Da es k = some n → ∀ v, n < es.length ∧ Ag es k v = es.modify n fun e => (e.1, v) := by
 intro es
 induction es with
 | nil => intro k n h; simp [Da] at h
 | cons e es ih =>
  intro k n h v
  obtain ⟨a, b⟩ := e
  by_cases hk : a = k
  ·simp only [Da, hk, if_true, Option.some.injEq] at h
   subst h
   simp [Ag, hk]
  ·simp only [Da, hk, if_false, Option.map_eq_some_iff] at h
   obtain ⟨m, hm, rfl⟩ := h
   obtain ⟨h1, h2⟩ := ih k m hm v
   simp only [Ag, hk, if_false, List.length_cons]
   exact ⟨by omega, by rw [h2]; rfl⟩
theorem Ym (es : List (α × β)) (k : α) (z v : β) : (ile (0 : Int) (Mx es k) && ilt (Mx es k) (AN (Ag es k z))) = true ∧ API (Ag es k z) (Mx es k) v = Ag es k v := by
 rw [Ao, Am]
 unfold Mx API
 cases h : Da es k with
 | none =>
  rw [AC7 es k h, AC7 es k h, Option.getD_none, Int.toNat_natCast]
  constructor
  ·rw [decide_eq_true (by omega), decide_eq_true (by rw [AO, List.length_append]; simp; omega)]; rfl
  ·have : ∀ (xs : List (α × β)), (xs ++ [(k, z)]).modify xs.length (fun e => (e.1, v)) = xs ++ [(k, v)] := by
    intro xs
    induction xs with
    | nil => rfl
    | cons x xs ih => rw [List.cons_append, List.length_cons, List.modify_succ_cons, ih]; rfl
   exact this es
 | some n =>
  obtain ⟨h1, h2⟩ := AC6 es k n h z
  obtain ⟨_, h3⟩ := AC6 es k n h v
  rw [h2, h3, Option.getD_some, Int.toNat_natCast]
  constructor
  ·rw [decide_eq_true (by omega), decide_eq_true (by rw [AO, List.length_modify]; omega)]; rfl
  ·apply List.ext_getElem?
   intro i
   simp only [List.getElem?_modify]
   cases es[i]? with
   | none => split <;> rfl
   | some e => split <;> rfl
end
end Go.Pev.Pl
end
section
namespace Go.Pev.Pl
open Tok
set_option linter.unusedSimpArgs false
set_option maxRecDepth 100000
def PV (b : Bool) (ts : List Tie) (k : Int) : Nat := ts.countP fun t => t.2.2.2.1 == b && decide (t.2.2.1 = k)
def BH (b : Bool) (ts : List Tie) (n : Nat) : List Int := (List.range n).map fun (j : Nat) => (PV b ts (j : Int) : Int)
def bk (b : Bool) : Int := if b = true then 1 else 0
abbrev CM := List ((Int × Int × Unit) × Int)
def ACH (m : CM) (b : Bool) (k : Int) : Int := (AR m (k, (bk b, ()))).getD 0
def AVw (m : CM) (t : Tie) : CM := Ag m (t.2.2.1, (bk t.2.2.2.1, ())) (ACH m t.2.2.2.1 t.2.2.1 + 1)
def El (ts : List Tie) : CM := ts.foldl AVw []
theorem Se (b : Bool) (ts : List Tie) (t : Tie) (k : Int) : PV b (ts ++ [t]) k = PV b ts k + if t.2.2.2.1 = b ∧ t.2.2.1 = k then 1 else 0 := by
 unfold PV
 rw [List.countP_append, List.countP_singleton]
 congr 1
 by_cases h1 : t.2.2.2.1 = b
 ·by_cases h2 : t.2.2.1 = k <;> simp [h1, h2]
 ·simp [h1]
theorem AcX {a b : Bool} : bk a = bk b ↔ a = b := by cases a <;> cases b <;> simp [bk]
theorem ADt (ts : List Tie) (t : Tie) : El (ts ++ [t]) = AVw (El ts) t := by
 unfold El
 rw [List.foldl_append]
 rfl
theorem AV7 (m : CM) (t : Tie) (b : Bool) (k : Int) : ACH (AVw m t) b k = ACH m b k + if t.2.2.2.1 = b ∧ t.2.2.1 = k then 1 else 0 := by
 unfold AVw ACH
 rw [APe]
 by_cases h : t.2.2.2.1 = b ∧ t.2.2.1 = k
 ·rw [if_pos h, h.1, h.2, if_pos rfl]
  rfl
 ·rw [if_neg h, if_neg, Int.add_zero]
  intro e
  simp only [Prod.mk.injEq, and_true, AcX] at e
  exact h ⟨by first | exact e.2 | exact e.2.symm, by first | exact e.1 | exact e.1.symm⟩
theorem Si (b : Bool) (k : Int) (ts : List Tie) : ACH (El ts) b k = (PV b ts k : Int) := by
 have gen : ∀ (n : Nat) (xs : List Tie), xs.length = n → ACH (El xs) b k = (PV b xs k : Int) := by
  intro n
  induction n with
  | zero =>
   intro xs h
   rw [List.length_eq_zero_iff.1 h]
   rfl
  | succ n ih =>
   intro xs h
   have hne : xs ≠ [] := by rintro rfl; simp at h
   rw [← List.dropLast_concat_getLast hne, ADt, AV7, Se, ih _ (by rw [List.length_dropLast]; omega)]
   split <;> simp
 exact gen _ _ rfl
theorem ASj (b : Bool) (ts : List Tie) (k : Int) : PV b ts k ≤ ts.length := List.countP_le_length
theorem ABz (N : Int) (ts : List Tie) (ht : ts.length ≤ 400) :
  AX C8 many (N, ts, ([] : CM), ts, AN ts, (0 : Int), ()) = some (.inl (N, ts, El ts, ())) := by
 have e := Hx (step := C8) (fun i => (N, ts, El (ts.take i), ts, AN ts, (i : Int), ())) ts (fun _ => false) (fun _ => .inl (N, ts, El ts, ())) (.inl (N, ts, El ts, ())) (by omega)
  (fun i x hi hx => by
   have hxe : ts[i] = x := by
    rw [List.getElem?_eq_getElem hi] at hx
    exact Option.some.inj hx
   have htk : ts.take (i + 1) = ts.take i ++ [x] := by rw [List.take_succ_eq_append_getElem hi, hxe]
   have hle : ∀ b k, ACH (El (ts.take i)) b k ≤ 400 ∧ 0 ≤ ACH (El (ts.take i)) b k := fun b k => by
    rw [Si]
    have h1 := ASj b (ts.take i) k
    rw [List.length_take] at h1
    omega
   rw [C8, AO, AM, decide_eq_true hi]
   simp only [Ah hx]
   rw [AL (by omega), htk, ADt]
   have hl := hle x.2.2.2.1 x.2.2.1
   cases hb : x.2.2.2.1
   ·rw [hb] at hl
    unfold AVw
    rw [hb]
    unfold ACH at hl ⊢
    obtain ⟨m1, m2⟩ := Ym (El (ts.take i)) (x.2.2.1, ((0 : Int), ())) ((AR (El (ts.take i)) (x.2.2.1, ((0 : Int), ()))).getD 0) ((AR (El (ts.take i)) (x.2.2.1, ((0 : Int), ()))).getD 0 + 1)
    have hl' : (AR (El (ts.take i)) (x.2.2.1, ((0 : Int), ()))).getD 0 ≤ 400 ∧ 0 ≤ (AR (El (ts.take i)) (x.2.2.1, ((0 : Int), ()))).getD 0 := hl
    simp only [m1, Af (n := (AR (El (ts.take i)) (x.2.2.1, ((0 : Int), ()))).getD 0 + 1) (by omega), m2]
    rfl
   ·rw [hb] at hl
    unfold AVw
    rw [hb]
    unfold ACH at hl ⊢
    obtain ⟨m1, m2⟩ := Ym (El (ts.take i)) (x.2.2.1, ((1 : Int), ())) ((AR (El (ts.take i)) (x.2.2.1, ((1 : Int), ()))).getD 0) ((AR (El (ts.take i)) (x.2.2.1, ((1 : Int), ()))).getD 0 + 1)
    have hl' : (AR (El (ts.take i)) (x.2.2.1, ((1 : Int), ()))).getD 0 ≤ 400 ∧ 0 ≤ (AR (El (ts.take i)) (x.2.2.1, ((1 : Int), ()))).getD 0 := hl
    simp only [m1, Af (n := (AR (El (ts.take i)) (x.2.2.1, ((1 : Int), ()))).getD 0 + 1) (by omega), m2]
    rfl)
  (by rw [C8, AO, AM, decide_eq_false (by omega), List.take_length])
 have e' : AX C8 many (N, ts, ([] : CM), ts, AN ts, (0 : Int), ()) = _ := e
 rw [e']
 simp
theorem AAO (b : Bool) (ts : List Tie) (n : Nat) : BH b ts (n + 1) = BH b ts n ++ [(PV b ts (n : Int) : Int)] := by
 unfold BH
 rw [List.range_succ, List.map_append]
 rfl
theorem DR (b : Bool) (ts : List Tie) (n : Nat) : (BH b ts n).length = n := by simp [BH]
theorem ABy (ts : List Tie) (n : Nat) (hn : n ≤ 1000) :
  AX Ca many (([] : List Int), ([] : List Int), El ts, (n : Int), (0 : Int), ()) = some (.inl (BH true ts n, BH false ts n, ())) := by
 have e := Hx (step := Ca) (fun i => (BH true ts i, BH false ts i, El ts, (n : Int), (i : Int), ())) (List.range n) (fun _ => false) (fun _ => .inl (BH true ts n, BH false ts n, ())) (.inl (BH true ts n, BH false ts n, ())) (by simp; omega)
  (fun i x hi hx => by
   have := Ey hx
   subst this
   rw [List.length_range] at hi
   have c1 : (AR (El ts) ((x : Int), ((1 : Int), ()))).getD 0 = (PV true ts (x : Int) : Int) := Si true (x : Int) ts
   have c0 : (AR (El ts) ((x : Int), ((0 : Int), ()))).getD 0 = (PV false ts (x : Int) : Int) := Si false (x : Int) ts
   rw [Ca, AM, decide_eq_true hi]
   simp only [c1, c0, B1]
   rw [BM (by simp only [AO, DR, List.length_cons, List.length_nil]; omega), BM (by simp only [AO, DR, List.length_cons, List.length_nil]; omega), AL (by omega), AAO, AAO]
   rfl)
  (by rw [Ca, List.length_range, AM, decide_eq_false (by omega)])
 have e' : AX Ca many (([] : List Int), ([] : List Int), El ts, (n : Int), (0 : Int), ()) = _ := e
 rw [e']
 simp
theorem T2 {N : Nat} {ts : List Tie} (h : RG2 N ts) : JO (((N : Int), (ts, ())), ()) = some (BH true ts (Eo N + 1), BH false ts (Eo N + 1), ()) := by
 have hT := AEc h.hN
 have hTe := Vc h.hN
 rw [NF, IZ]
 have e0 := ABz (N : Int) ts h.ht
 simp only [h.lr, Bool.not_true, e0, On N h.hN, hTe]
 rw [Af (n := (Eo N : Int) + 1) (by omega)]
 have e1 : AX Ca many (([] : List Int), ([] : List Int), El ts, (Eo N : Int) + 1, (0 : Int), ()) = _ := ABy ts (Eo N + 1) (by omega)
 simp only [e1]
theorem ADs (b : Bool) (ts : List Tie) (t : Tie) (n k : Nat) (hk : t.2.2.1 = (k : Int)) (hb : t.2.2.2.1 = b) (hlt : k < n) : (BH b ts n).set k ((BH b ts n).getD k 0 + 1) = BH b (ts ++ [t]) n := by
 apply List.ext_getElem
 ·rw [List.length_set, DR, DR]
 ·intro i h1 h2
  rw [List.length_set, DR] at h1
  rw [List.getElem_set]
  have hg : (BH b ts n).getD k 0 = (PV b ts (k : Int) : Int) := by simp [BH, hlt]
  have hi : ∀ xs : List Tie, ∀ h : i < (BH b xs n).length, (BH b xs n)[i] = (PV b xs (i : Int) : Int) := fun xs h => by simp [BH]
  rw [hi, hi, hg, Se, hb, hk]
  by_cases e : k = i
  ·subst e; simp
  ·rw [if_neg e, if_neg (fun c => e (by omega))]; simp
theorem UG (b : Bool) (ts : List Tie) (t : Tie) (n : Nat) (hb : t.2.2.2.1 ≠ b) : BH b (ts ++ [t]) n = BH b ts n := by
 unfold BH
 refine List.map_congr_left fun k _ => ?_
 rw [Se, if_neg (fun c => hb c.1), Nat.add_zero]
theorem AVz (b : Bool) (n : Nat) : BH b [] n = List.replicate n 0 := by
 unfold BH
 apply List.ext_getElem
 ·simp
 ·intro i h1 h2
  simp [PV]
theorem PO {N : Nat} {ts : List Tie} (h : RG2 N ts) : Ip (((N : Int), (ts, ())), ()) = some (BH true ts (Eo N + 1), BH false ts (Eo N + 1), ()) := by
 have hT := AEc h.hN
 have hTe := Vc h.hN
 have ht := h.ht
 have hw : IntKind.wrap .i64 ((Eo N : Int) + 1) = ((Eo N + 1 : Nat) : Int) := by rw [Af (by omega)]; rfl
 have hz : Im (AG ((Eo N + 1 : Nat) : Int)) (0 : Int) = List.replicate (Eo N + 1) 0 := by simp [Im, AG]
 have hf : (GM ((Eo N + 1 : Nat) : Int) && GM ((Eo N + 1 : Nat) : Int) && ile ((Eo N + 1 : Nat) : Int) ((Eo N + 1 : Nat) : Int) && true) = true := by
  rw [(Ij _).2 (by omega), Ao, decide_eq_true (Int.le_refl _)]
  rfl
 rw [Ko, HO]
 simp only [h.r21, Bool.not_true, Qb N h.hN, hTe, hw, hf, hz]
 generalize hn : Eo N + 1 = n at *
 have e := Hx (step := DC) (fun i => ((N : Int), ts, BH true (ts.take i) n, BH false (ts.take i) n, (i : Int), ())) ts (fun _ => false) (fun _ => .inl (BH true ts n, BH false ts n, ())) (.inl (BH true ts n, BH false ts n, ())) (by omega)
  (fun i x hi hx => by
   have hxe : ts[i] = x := by
    rw [List.getElem?_eq_getElem hi] at hx
    exact Option.some.inj hx
   have htk : ts.take (i + 1) = ts.take i ++ [x] := by rw [List.take_succ_eq_append_getElem hi, hxe]
   have h2 := (h.tie (List.mem_of_getElem? hx)).2.2.2
   obtain ⟨k, hk⟩ := Int.eq_ofNat_of_zero_le h2.1
   have hkn : k < n := by omega
   have hle : ∀ b, ((BH b (ts.take i) n).getD k 0) ≤ 400 ∧ 0 ≤ ((BH b (ts.take i) n).getD k 0) := fun b => by
    have hg : (BH b (ts.take i) n).getD k 0 = (PV b (ts.take i) (k : Int) : Int) := by simp [BH, hkn]
    rw [hg]
    have h1 := ASj b (ts.take i) (k : Int)
    rw [List.length_take] at h1
    omega
   have l1 := hle true
   have l0 := hle false
   rw [DC, AO, AM, decide_eq_true hi]
   simp only [Ah hx, hk, DZ 0 (show k < (BH true (ts.take i) n).length by rw [DR]; exact hkn), DZ 0 (show k < (BH false (ts.take i) n).length by rw [DR]; exact hkn), JW, AQl]
   rw [AL (by omega), htk]
   cases hb : x.2.2.2.1
   ·simp only []
    rw [Af (by omega), ADs false (ts.take i) x n k hk hb hkn, UG true (ts.take i) x n (by rw [hb]; simp)]
    rfl
   ·simp only []
    rw [Af (by omega), ADs true (ts.take i) x n k hk hb hkn, UG false (ts.take i) x n (by rw [hb]; simp)]
    rfl)
  (by rw [DC, AO, AM, decide_eq_false (by omega), List.take_length])
 have h0 : ∀ b, BH b (ts.take 0) n = List.replicate n 0 := fun b => by rw [List.take_zero, AVz]
 have e' : AX DC many ((N : Int), ts, BH true (ts.take 0) n, BH false (ts.take 0) n, (0 : Int), ()) = _ := e
 rw [h0, h0] at e'
 rw [e']
 simp
end Go.Pev.Pl
end
section
namespace Go.Pev.Pl
open Tok
set_option linter.unusedSimpArgs false
set_option maxRecDepth 100000
theorem Ox (p x : Tie) : C9 (p, x, ()) = some (if ahead p x then -1 else if p.1 = x.1 ∧ p.2.1 = x.2.1 then 0 else 1, ()) := by
 rw [Kb, HC]
 simp only [PU, ARy]
 congr 2
 unfold AZc ahead
 repeat' split
 all_goals omega
theorem AZi {ts : List Tie} (ht : ts.length ≤ 400) (hp : ts.Pairwise ahead) (g : Tie) : ∃ k : Nat, k ≤ ts.length ∧ (∀ j t, ts[j]? = some t → (j < k ↔ ahead t g)) ∧
  AWI (ts, g, ()) = some ((k : Int), match ts[k]? with | some t => decide (t.1 = g.1 ∧ t.2.1 = g.2.1) | none => false, ()) := by
 have hahead : ∀ (i j : Nat) (t t' : Tie), i ≤ j → ts[i]? = some t → ts[j]? = some t' → ahead t' g → ahead t g := by
  intro i j t t' hij h1 h2 h3
  by_cases e : i = j
  ·subst e
   rw [h1] at h2
   cases h2
   exact h3
  ·have hj := (List.getElem?_eq_some_iff.1 h2).1
   have hi := (List.getElem?_eq_some_iff.1 h1).1
   have := List.pairwise_iff_getElem.1 hp i j hi hj (by omega)
   rw [(List.getElem?_eq_some_iff.1 h1).2, (List.getElem?_eq_some_iff.1 h2).2] at this
   exact this.trans h3
 obtain ⟨g1, g2, g3, g4, ⟨⟩⟩ := g
 obtain ⟨k, _, k2, k3, k4, k5⟩ := Acv (step := JX) (fun i j => (ts, g1, g2, g3, g4, (ts.length : Int), (i : Int), (j : Int), ())) (fun i => match ts[i]? with | some t => decide (ahead t (g1, g2, g3, g4, ())) | none => false)
  (fun i => .inl (ts, g1, g2, g3, g4, (ts.length : Int), (i : Int), ())) 0 ts.length (Nat.zero_le _) (by omega)
  (fun i j _ hij hj => by
   have hm : (i + j) / 2 < ts.length := by omega
   have hx : ts[(i + j) / 2]? = some ts[(i + j) / 2] := by simp [hm]
   have hs : shr? .u64 (((i + j : Nat)) : Int) (1 : Int) = some (((i + j) / 2 : Nat) : Int) := Vk (i + j) 1 (by omega)
   rw [JX, AM, decide_eq_true hij]
   simp only []
   rw [show ((i : Int) + (j : Int)) = ((i + j : Nat) : Int) by omega, Af (n := ((i + j : Nat) : Int)) (by omega), AWQ (i + j) (by omega)]
   simp only [hs, Af (n := (((i + j) / 2 : Nat) : Int)) (by omega), Ah hx]
   have hc := Ox ts[(i + j) / 2] (g1, g2, g3, g4, ())
   have hc' : C9 (((ts[(i + j) / 2]).1, ((ts[(i + j) / 2]).2.1, ((ts[(i + j) / 2]).2.2.1, ((ts[(i + j) / 2]).2.2.2.1, ())))), (g1, (g2, (g3, (g4, ())))), ()) = _ := hc
   simp only [hc', hx]
   by_cases ha : ahead ts[(i + j) / 2] (g1, g2, g3, g4, ())
   ·simp only [if_pos ha, decide_eq_true ha, if_true]
    rw [Am, decide_eq_true (by omega), AL (by omega)]
   ·simp only [if_neg ha, decide_eq_false ha]
    rw [Am, decide_eq_false (by split <;> omega)]
    rfl)
  (fun i _ _ => by rw [JX, AM, decide_eq_false (by omega)])
  (fun x y _ hxy hy h => by
   have hx' : x < ts.length := by omega
   have e1 : ts[x]? = some ts[x] := by simp [hx']
   have e2 : ts[y]? = some ts[y] := by simp [hy]
   simp only [e2, decide_eq_true_iff] at h
   simp only [e1, decide_eq_true_iff]
   exact hahead x y _ _ hxy e1 e2 h)
 refine ⟨k, k2, fun j t hj => ?_, ?_⟩
 ·have hjl := (List.getElem?_eq_some_iff.1 hj).1
  constructor
  ·intro h
   have := k3 j (Nat.zero_le _) h
   simpa [hj] using this
  ·intro h
   refine Classical.byContradiction fun hn => ?_
   have := k4 j (by omega) hjl
   simp [hj] at this
   exact this h
 ·rw [ASo, AHs]
  have k5' : AX JX many (ts, g1, g2, g3, g4, AN ts, (0 : Int), AN ts, ()) = _ := k5
  simp only [k5']
  by_cases hk : k < ts.length
  ·have hx : ts[k]? = some ts[k] := by simp [hk]
   have hna : ¬ ahead ts[k] (g1, g2, g3, g4, ()) := by
    have := k4 k (Nat.le_refl _) hk
    simpa [hx] using this
   have hc := Ox ts[k] (g1, g2, g3, g4, ())
   have hc' : C9 (((ts[k]).1, ((ts[k]).2.1, ((ts[k]).2.2.1, ((ts[k]).2.2.2.1, ())))), (g1, (g2, (g3, (g4, ())))), ()) = _ := hc
   rw [AM, decide_eq_true hk]
   simp only [Ah hx, hc', hx, if_neg hna, Ap]
   by_cases he : (ts[k]).1 = g1 ∧ (ts[k]).2.1 = g2
   ·simp only [if_pos he, decide_eq_true he, decide_true]
   ·simp only [if_neg he, decide_eq_false he]
    rfl
  ·have hx : ts[k]? = none := List.getElem?_eq_none (by omega)
   rw [AM, decide_eq_false hk]
   simp only [hx]
theorem ADU {N : Nat} {ts : List Tie} (h : RG2 N ts) (u v : Int) : T1 (((N : Int), (ts, ())), u, v, ()) = some (if ts.any (Db u v) then ((ts.findIdx (Db u v) : Nat) : Int) else -1, ()) := by
 have hp := ((Oh N ts).1 h.oks).2
 obtain ⟨k, k1, k2, k3⟩ := AZi h.ht hp (min u v, max u v, 0, false, ())
 rw [ZK, Ou]
 simp only [h.lr, Bool.not_true, ADT, Oo, ASR, ASS]
 have k3' : AWI (ts, (min u v, (max u v, ((0 : Int), (false, ())))), ()) = _ := k3
 simp only [k3']
 cases hx : ts[k]? with
 | none =>
  have hall : ts.any (Db u v) = false := by
   rw [List.any_eq_false]
   intro t ht hat
   obtain ⟨j, hj, rfl⟩ := List.getElem_of_mem ht
   have hj' : ts[j]? = some ts[j] := by simp [hj]
   have hjk : j < k := by
    have := List.getElem?_eq_none_iff.1 hx
    omega
   have ha := (k2 j _ hj').1 hjk
   unfold Db at hat
   rw [decide_eq_true_iff] at hat
   unfold ahead at ha
   simp only at ha
   omega
  rw [hall]
  rfl
 | some t =>
  by_cases he : t.1 = min u v ∧ t.2.1 = max u v
  ·have hk := (List.getElem?_eq_some_iff.1 hx)
   obtain ⟨hkl, hke⟩ := hk
   have hat : Db u v t = true := by unfold Db; rw [decide_eq_true_iff]; exact he
   have hany : ts.any (Db u v) = true := List.any_eq_true.2 ⟨t, List.mem_of_getElem? hx, hat⟩
   have hfi : ts.findIdx (Db u v) = k := by
    rw [List.findIdx_eq hkl, hke]
    refine ⟨hat, fun j hj => ?_⟩
    have hj' : ts[j]? = some ts[j] := by simp
    have ha := (k2 j _ hj').1 hj
    unfold Db
    rw [decide_eq_false_iff_not]
    unfold ahead at ha
    simp only at ha
    omega
   simp only [decide_eq_true he, Bool.not_true]
   rw [hany, hfi]
   rfl
  ·have hall : ts.any (Db u v) = false := by
    rw [List.any_eq_false]
    intro t' ht' hat
    obtain ⟨j, hj, rfl⟩ := List.getElem_of_mem ht'
    have hj' : ts[j]? = some ts[j] := by simp [hj]
    unfold Db at hat
    rw [decide_eq_true_iff] at hat
    obtain ⟨hkl, hke⟩ := List.getElem?_eq_some_iff.1 hx
    rcases Nat.lt_trichotomy j k with hjk | hjk | hjk
    ·have ha := (k2 j _ hj').1 hjk
     unfold ahead at ha
     simp only at ha
     omega
    ·subst hjk
     rw [hke] at hat
     exact he hat
    ·have ha := List.pairwise_iff_getElem.1 hp k j hkl hj hjk
     rw [hke] at ha
     have hna : ¬ ahead t (min u v, max u v, 0, false, ()) := fun hh => by
      have := (k2 k t hx).2 hh
      omega
     unfold ahead at ha hna
     simp only at hna
     omega
   simp only [decide_eq_false he, Bool.not_false]
   rw [hall]
   rfl
end Go.Pev.Pl
end
section
namespace Go.Pev.Pl.SI
open Go.Sort
theorem Bm (x y : Int) : Dh (x, y, ()) = some (ltInt x y, ()) := by
 simp only [ALN, Vw, Vt, RZ, Am, E7, ltInt]
 by_cases h : x < y <;> simp [h]
theorem Aa8 (a b i : Nat) : ∀ (j : Nat) (d : Array Int) (n : Nat), j < d.size → d.size < 4611686018427387904 → j < n →
  AS Ly n (d.toList, (a : Int), (b : Int), (i : Int), (j : Int), ()) = some (.inl ((insInner ltInt a j d).toList, (a : Int), (b : Int), (i : Int), ())) := by
 intro j
 induction j with
 | zero =>
  intro d n hj hs hn
  obtain ⟨n, rfl⟩ : ∃ k, n = k + 1 := ⟨n - 1, by omega⟩
  have h0 : ilt (a : Int) ((0 : Nat) : Int) = false := by rw [AM]; simp
  simp only [AS, Ly, h0, insInner]
 | succ j ih =>
  intro d n hj hs hn
  obtain ⟨n, rfl⟩ : ∃ k, n = k + 1 := ⟨n - 1, by omega⟩
  have e1 : IntKind.wrap .i64 (((j + 1 : Nat) : Int) - 1) = (j : Int) := by rw [Af (by omega)]; omega
  have hj' : j < d.size := by omega
  simp only [AS, Ly, AM, e1, Ad hj, Ad hj', An hj, An hj', Bm, insInner, gt_iff_lt]
  by_cases h1 : a < j + 1
  ·cases h2 : ltInt d[j + 1]! d[j]!
   ·simp only [h1, decide_true, h2, Bool.and_false, Bool.false_eq_true, if_false]
   ·simp only [h1, decide_true, h2, Bool.and_true, if_true, Cb]
    rw [Ad (by simpa using hj')]
    simp only [Ch]
    exact ih (swp d (j + 1) j) n (by rw [size_swp]; omega) (by rw [size_swp]; omega) (by omega)
  ·simp only [h1, decide_false, Bool.false_and, Bool.false_eq_true, if_false]
theorem CD (lt : Int → Int → Bool) (a j : Nat) (d : Array Int) : (insInner lt a j d).size = d.size := by
 induction j generalizing d with
 | zero => rfl
 | succ j ih =>
  rw [insInner]
  split
  ·rw [ih, size_swp]
  ·rfl
theorem AYl (a b : Nat) : ∀ (k i : Nat) (d : Array Int) (n : Nat), b - i = k → b ≤ d.size → d.size < 4611686018427387904 → d.size < many → k < n →
  AS Lz n (d.toList, (a : Int), (b : Int), (i : Int), ()) = some (.inl ((insOuter ltInt a b i d).toList, ())) := by
 intro k
 induction k with
 | zero =>
  intro i d n hk hb hs hm hn
  obtain ⟨n, rfl⟩ : ∃ k, n = k + 1 := ⟨n - 1, by omega⟩
  have h0 : ¬ i < b := by omega
  rw [insOuter]
  simp only [AS, Lz, AM, h0, decide_false, if_false]
 | succ k ih =>
  intro i d n hk hb hs hm hn
  obtain ⟨n, rfl⟩ : ∃ k, n = k + 1 := ⟨n - 1, by omega⟩
  have h0 : i < b := by omega
  have e1 : IntKind.wrap .i64 ((i : Int) + 1) = ((i + 1 : Nat) : Int) := by rw [Af (by omega)]; omega
  rw [insOuter]
  simp only [AS, Lz, AM, h0, decide_true, if_true, Ai]
  rw [Aa8 a b i i d many (by omega) hs (by omega)]
  simp only [e1]
  exact ih (i + 1) _ n (by omega) (by rw [CD]; omega) (by rw [CD]; omega) (by rw [CD]; omega) (by omega)
theorem AYk (d : Array Int) (a b : Nat) (hab : a ≤ b) (hb : b ≤ d.size) (hs : d.size < 4294967296) : AVI (d.toList, (a : Int), (b : Int), ()) = some ((insertionSort ltInt d a b).toList, ()) := by
 have hm : d.size < many := by simp only [many]; omega
 have e1 : IntKind.wrap .i64 ((a : Int) + 1) = ((a + 1 : Nat) : Int) := by rw [Af (by omega)]; omega
 rw [ASP, AGv]
 simp only [e1, Ai]
 rw [AYl a b (b - (a + 1)) (a + 1) d many rfl hb (by omega) hm (by omega)]
 rfl
end Go.Pev.Pl.SI
end
section
namespace Go.Pev.Pl.SI
open Go.Sort
theorem ANV (hi first : Nat) : ∀ (k root : Nat) (d : Array Int) (n : Nat), hi - root = k → root ≤ hi → first + hi ≤ d.size → d.size < 4294967296 → (hi = 0 ∨ root < hi) → k < n →
  AS IM n (d.toList, (hi : Int), (first : Int), (root : Int), ()) = some (.inl ((siftDown ltInt hi first root d).toList, ())) ∨
  AS IM n (d.toList, (hi : Int), (first : Int), (root : Int), ()) = some (.inr (.inl ((siftDown ltInt hi first root d).toList, ()))) := by
 intro k
 induction k using Nat.strongRecOn with
 | _ k ih =>
 intro root d n hk hr hf hs hz hn
 obtain ⟨n, rfl⟩ : ∃ k, n = k + 1 := ⟨n - 1, by omega⟩
 rw [siftDown]
 simp (disch := omega) only [AS, IM, ACN, AL, wrap_add, Bn, AM]
 by_cases h1 : hi ≤ 2 * root + 1
 ·simp only [h1, decide_true, ge_iff_le, dite_true, true_or]
 ·have i0 : first + root < d.size := by omega
  have i1 : first + (2 * root + 1) < d.size := by omega
  simp only [h1, decide_false, ge_iff_le, if_false, dite_false]
  simp (disch := omega) only [Ad, An, Bm]
  by_cases h2 : 2 * root + 1 + 1 < hi
  ·have i2 : first + (2 * root + 2) < d.size := by omega
   have i3 : 2 * root + 1 + 1 = 2 * root + 2 := by omega
   have i4 : first + (2 * root + 1) + 1 = first + (2 * root + 2) := by omega
   have h3 : 2 * root + 2 < hi := by omega
   simp only [i3, i4, h3, decide_true]
   simp (disch := omega) only [Ad, An, Bm, Cb]
   cases h4 : ltInt d[first + (2 * root + 1)]! d[first + (2 * root + 2)]!
   ·simp only [Bool.and_false, Bool.false_eq_true, if_false]
    cases h5 : ltInt d[first + root]! d[first + (2 * root + 1)]!
    ·simp
    ·simp only [Bool.not_true, Bool.false_eq_true, if_false]
     rw [Ad (by simpa using i1)]
     simp only [Ch]
     exact ih (hi - (2 * root + 1)) (by omega) (2 * root + 1) _ n rfl (by omega) (by rw [size_swp]; omega) (by rw [size_swp]; omega) (by omega) (by omega)
   ·simp only [Bool.and_true, if_true]
    cases h5 : ltInt d[first + root]! d[first + (2 * root + 2)]!
    ·simp
    ·simp only [Bool.not_true, Bool.false_eq_true, if_false, dite_true]
     rw [Ad (by simpa using i2)]
     simp only [Ch]
     exact ih (hi - (2 * root + 2)) (by omega) (2 * root + 2) _ n rfl (by omega) (by rw [size_swp]; omega) (by rw [size_swp]; omega) (by omega) (by omega)
  ·simp only [h2, decide_false, Bool.false_and, Bool.false_eq_true, if_false, Cb]
   cases h5 : ltInt d[first + root]! d[first + (2 * root + 1)]!
   ·simp
   ·simp only [Bool.not_true, Bool.false_eq_true, if_false]
    rw [Ad (by simpa using i1)]
    simp only [Ch]
    exact ih (hi - (2 * root + 1)) (by omega) (2 * root + 1) _ n rfl (by omega) (by rw [size_swp]; omega) (by rw [size_swp]; omega) (by omega) (by omega)
theorem ACm (d : Array Int) (root hi first : Nat) (hf : first + hi ≤ d.size) (hs : d.size < 4294967296) (hz : hi = 0 ∧ root = 0 ∨ root < hi) : ACn (d.toList, (root : Int), (hi : Int), (first : Int), ()) = some ((siftDown ltInt hi first root d).toList, ()) := by
 have hm : d.size < many := by simp only [many]; omega
 rw [AJB, Vi]
 simp only [Ai]
 rcases ANV hi first (hi - root) root d many rfl (by omega) hf hs (by omega) (by omega) with h | h <;> rw [h]
theorem BS (lt : Int → Int → Bool) (hi first : Nat) : ∀ (k root : Nat) (d : Array Int), hi - root = k → (siftDown lt hi first root d).size = d.size := by
 intro k
 induction k using Nat.strongRecOn with
 | _ k ih =>
 intro root d hk
 rw [siftDown]
 split
 ·rfl
 ·split
  ·split
   ·rfl
   ·split
    ·rw [ih (hi - (2 * root + 2)) (by omega) _ _ rfl, size_swp]
    ·rfl
  ·split
   ·rfl
   ·rw [ih (hi - (2 * root + 1)) (by omega) _ _ rfl, size_swp]
theorem ALm (hi first : Nat) : ∀ (k : Nat) (d : Array Int) (n : Nat), (hi = 0 ∧ k ≤ 1 ∨ k ≤ hi) → first + hi ≤ d.size → d.size < 4294967296 → k < n →
  AS Ie n (d.toList, (first : Int), (0 : Int), (hi : Int), (k : Int) - 1, ()) = some (.inl ((heapBuild ltInt hi first k d).toList, (first : Int), (0 : Int), (hi : Int), ())) := by
 intro k
 induction k with
 | zero =>
  intro d n hk hf hs hn
  obtain ⟨n, rfl⟩ : ∃ k, n = k + 1 := ⟨n - 1, by omega⟩
  rw [AS, Ie, Ao, decide_eq_false (by omega)]
  rfl
 | succ k ih =>
  intro d n hk hf hs hn
  obtain ⟨n, rfl⟩ : ∃ k, n = k + 1 := ⟨n - 1, by omega⟩
  have e0 : ((k + 1 : Nat) : Int) - 1 = (k : Int) := by omega
  rw [AS, Ie, e0, Ao, decide_eq_true (by omega)]
  simp only [ACm d k hi first hf hs (by omega)]
  rw [Af (by omega)]
  exact ih _ n (by omega) (by rw [BS _ _ _ _ _ _ rfl]; omega) (by rw [BS _ _ _ _ _ _ rfl]; omega) (by omega)
theorem Cw (lt : Int → Int → Bool) (hi first : Nat) : ∀ (k : Nat) (d : Array Int), (heapBuild lt hi first k d).size = d.size := by
 intro k
 induction k with
 | zero => intro d; rfl
 | succ k ih => intro d; rw [heapBuild, ih, BS _ _ _ _ _ _ rfl]
theorem AVS (first : Nat) : ∀ (k : Nat) (d : Array Int) (n : Nat), first + k ≤ d.size → d.size < 4294967296 → k < n →
  AS Ic n (d.toList, (first : Int), (0 : Int), (k : Int) - 1, ()) = some (.inl ((heapPop ltInt first k d).toList, ())) := by
 intro k
 induction k with
 | zero =>
  intro d n hf hs hn
  obtain ⟨n, rfl⟩ : ∃ k, n = k + 1 := ⟨n - 1, by omega⟩
  rw [AS, Ic, Ao, decide_eq_false (by omega)]
  rfl
 | succ k ih =>
  intro d n hf hs hn
  obtain ⟨n, rfl⟩ : ∃ k, n = k + 1 := ⟨n - 1, by omega⟩
  have e0 : ((k + 1 : Nat) : Int) - 1 = (k : Int) := by omega
  have i0 : first < d.size := by omega
  have i1 : first + k < d.size := by omega
  rw [AS, Ic, e0, Ao, decide_eq_true (by omega)]
  simp (disch := omega) only [wrap_add, Ad, An, Cb]
  rw [Ad (by simpa using i1)]
  simp only [Ch]
  have := ACm (swp d first (first + k)) 0 k first (by rw [size_swp]; omega) (by rw [size_swp]; omega) (by omega)
  simp only [Int.natCast_zero] at this
  simp only [this]
  rw [Af (by omega)]
  exact ih _ n (by rw [BS _ _ _ _ _ _ rfl, size_swp]; omega) (by rw [BS _ _ _ _ _ _ rfl, size_swp]; omega) (by omega)
theorem AVR (d : Array Int) (a b : Nat) (hab : a < b) (hb : b ≤ d.size) (hs : d.size < 4294967296) : ADg (d.toList, (a : Int), (b : Int), ()) = some ((heapSort ltInt d a b).toList, ()) := by
 have hm : 4294967296 < many := by simp only [many]; omega
 rw [ALl, Vy]
 simp (disch := omega) only [BV, Aj, Abm, Ai]
 have e : (((b - a - 1) / 2 : Nat) : Int) = (((b - a - 1) / 2 + 1 : Nat) : Int) - 1 := by omega
 rw [e, ALm (b - a) a _ d many (by omega) (by omega) hs (by omega)]
 have e2 : (((b - a - 1 : Nat)) : Int) = ((b - a : Nat) : Int) - 1 := by omega
 simp (disch := omega) only [Aj, e2]
 rw [AVS a (b - a) _ many (by rw [Cw]; omega) (by rw [Cw]; omega) (by omega)]
 rfl
end Go.Pev.Pl.SI
end
section
namespace Go.Pev.Pl.SI
open Go.Sort
theorem ATr : ∀ (k i j : Nat) (d : Array Int) (n : Nat), j - i = k → (j < d.size) → d.size < 4294967296 → k < n →
  AS OP n (d.toList, (i : Int), (j : Int), ()) = some (.inl ((reverseLoop i j d).toList, ())) := by
 intro k
 induction k using Nat.strongRecOn with
 | _ k ih =>
 intro i j d n hk hj hs hn
 obtain ⟨n, rfl⟩ : ∃ k, n = k + 1 := ⟨n - 1, by omega⟩
 rw [reverseLoop, AS, OP]
 simp only [AM]
 by_cases h : i < j
 ·have hi : i < d.size := by omega
  simp only [h, decide_true, if_true, Ad hj, Ad hi, An hi, An hj, Cb]
  rw [Ad (by simpa using hj)]
  simp (disch := omega) only [Ch, AL, Aj]
  exact ih (j - 1 - (i + 1)) (by omega) (i + 1) (j - 1) _ n rfl (by rw [size_swp]; omega) (by rw [size_swp]; omega) (by omega)
 ·simp only [h, decide_false, if_false]
theorem AXK (d : Array Int) (a b : Nat) (hab : a < b) (hb : b ≤ d.size) (hs : d.size < 4294967296) : ATs (d.toList, (a : Int), (b : Int), ()) = some ((reverseRange d a b).toList, ()) := by
 have hm : 4294967296 < many := by simp only [many]; omega
 rw [ARp, AFO]
 simp (disch := omega) only [Aj, Ai]
 rw [ATr (b - 1 - a) a (b - 1) d many rfl (by omega) hs (by omega)]
 rfl
theorem DX {d : Array Int} {i j : Nat} (hi : i < d.size) (hj : j < d.size) : idx (Al d.toList (AG (i : Int)) (AT d.toList (AG (j : Int)) 0)) (j : Int) = some (d.setIfInBounds i d[j]!)[j]! ∧
  Al (Al d.toList (AG (i : Int)) (AT d.toList (AG (j : Int)) 0)) (AG (j : Int)) (AT d.toList (AG (i : Int)) 0) = (swp d i j).toList := by
 rw [An hi, An hj, Cb, Cb]
 exact ⟨Ad (by simpa using hj), rfl⟩
theorem AFE (step : List Int × Int × Int × Int × Unit → Option ((List Int × Int × Int × Int × Unit) ⊕ (List Int × Int × Int × Int × Unit) ⊕ Unit)) (p : Int → Bool) (d : Array Int) (a j : Nat) (hs : d.size < 4294967296) (hj : j < d.size)
  (h : ∀ i : Nat, i ≤ d.size → step (d.toList, (a : Int), (i : Int), (j : Int), ()) = if i ≤ j ∧ p d[i]! then some (.inl (d.toList, (a : Int), ((i + 1 : Nat) : Int), (j : Int), ())) else some (.inr (.inl (d.toList, (a : Int), (i : Int), (j : Int), ())))) :
  ∀ (k i n : Nat), j + 1 - i = k → i ≤ d.size → k < n → AS step n (d.toList, (a : Int), (i : Int), (j : Int), ()) = some (.inl (d.toList, (a : Int), ((scanUp p d j i : Nat) : Int), (j : Int), ())) := by
 intro k
 induction k using Nat.strongRecOn with
 | _ k ih =>
 intro i n hk hi hn
 obtain ⟨n, rfl⟩ : ∃ k, n = k + 1 := ⟨n - 1, by omega⟩
 rw [scanUp, AS, h i hi]
 by_cases h1 : i ≤ j ∧ p d[i]! = true
 ·rw [if_pos h1, if_pos (by simpa using h1)]
  exact ih (j + 1 - (i + 1)) (by omega) (i + 1) n rfl (by omega) (by omega)
 ·rw [if_neg h1, if_neg (by simpa using h1)]
theorem Qk (step : List Int × Int × Int × Int × Unit → Option ((List Int × Int × Int × Int × Unit) ⊕ (List Int × Int × Int × Int × Unit) ⊕ Unit)) (p : Int → Bool) (d : Array Int) (a i : Nat) (hi : 1 ≤ i)
  (h : ∀ j : Nat, j < d.size → step (d.toList, (a : Int), (i : Int), (j : Int), ()) = if i ≤ j ∧ p d[j]! then some (.inl (d.toList, (a : Int), (i : Int), ((j - 1 : Nat) : Int), ())) else some (.inr (.inl (d.toList, (a : Int), (i : Int), (j : Int), ())))) :
  ∀ (j n : Nat), j < d.size → j < n → AS step n (d.toList, (a : Int), (i : Int), (j : Int), ()) = some (.inl (d.toList, (a : Int), (i : Int), ((scanDown p d i j : Nat) : Int), ())) := by
 intro j
 induction j with
 | zero =>
  intro n hj hn
  obtain ⟨n, rfl⟩ : ∃ k, n = k + 1 := ⟨n - 1, by omega⟩
  rw [AS, h 0 hj, if_neg (by omega)]
  rfl
 | succ j ih =>
  intro n hj hn
  obtain ⟨n, rfl⟩ : ∃ k, n = k + 1 := ⟨n - 1, by omega⟩
  rw [scanDown, AS, h (j + 1) hj]
  by_cases h1 : i ≤ j + 1 ∧ p d[j + 1]! = true
  ·rw [if_pos h1, if_pos (by simpa using h1)]
   exact ih n (by omega) (by omega)
  ·rw [if_neg h1, if_neg (by simpa using h1)]
section
variable (d : Array Int) (a i j : Nat) (hs : d.size < 4294967296) (ha : a < d.size) (hj : j < d.size)
include hs ha hj
theorem AKY (hi : i ≤ d.size) : KP (d.toList, (a : Int), (i : Int), (j : Int), ()) = if i ≤ j ∧ (fun x => ltInt x d[a]!) d[i]! = true then some (.inl (d.toList, (a : Int), ((i + 1 : Nat) : Int), (j : Int), ())) else some (.inr (.inl (d.toList, (a : Int), (i : Int), (j : Int), ()))) := by
 rw [KP]
 simp only [Bn]
 by_cases h : i ≤ j
 ·have hi' : i < d.size := by omega
  simp (disch := omega) only [h, decide_true, Ad, An, Bm, AL, true_and]
  cases ltInt d[i]! d[a]! <;> simp
 ·simp only [h, decide_false, false_and, if_false]
theorem AKT (hi : i ≤ d.size) : KM (d.toList, (a : Int), (i : Int), (j : Int), ()) = if i ≤ j ∧ (fun x => ltInt x d[a]!) d[i]! = true then some (.inl (d.toList, (a : Int), ((i + 1 : Nat) : Int), (j : Int), ())) else some (.inr (.inl (d.toList, (a : Int), (i : Int), (j : Int), ()))) := by
 rw [KM]
 simp only [Bn]
 by_cases h : i ≤ j
 ·have hi' : i < d.size := by omega
  simp (disch := omega) only [h, decide_true, Ad, An, Bm, AL, true_and]
  cases ltInt d[i]! d[a]! <;> simp
 ·simp only [h, decide_false, false_and, if_false]
theorem AKW (hi : 1 ≤ i) : KO (d.toList, (a : Int), (i : Int), (j : Int), ()) = if i ≤ j ∧ (fun x => !ltInt x d[a]!) d[j]! = true then some (.inl (d.toList, (a : Int), (i : Int), ((j - 1 : Nat) : Int), ())) else some (.inr (.inl (d.toList, (a : Int), (i : Int), (j : Int), ()))) := by
 rw [KO]
 simp only [Bn]
 by_cases h : i ≤ j
 ·simp (disch := omega) only [h, decide_true, Ad, An, Bm, Aj, true_and]
  cases ltInt d[j]! d[a]! <;> simp
 ·simp only [h, decide_false, false_and, if_false]
theorem AKR (hi : 1 ≤ i) : KL (d.toList, (a : Int), (i : Int), (j : Int), ()) = if i ≤ j ∧ (fun x => !ltInt x d[a]!) d[j]! = true then some (.inl (d.toList, (a : Int), (i : Int), ((j - 1 : Nat) : Int), ())) else some (.inr (.inl (d.toList, (a : Int), (i : Int), (j : Int), ()))) := by
 rw [KL]
 simp only [Bn]
 by_cases h : i ≤ j
 ·simp (disch := omega) only [h, decide_true, Ad, An, Bm, Aj, true_and]
  cases ltInt d[j]! d[a]! <;> simp
 ·simp only [h, decide_false, false_and, if_false]
theorem ABm (hi : i ≤ d.size) : G4 (d.toList, (a : Int), (i : Int), (j : Int), ()) = if i ≤ j ∧ (fun x => !ltInt d[a]! x) d[i]! = true then some (.inl (d.toList, (a : Int), ((i + 1 : Nat) : Int), (j : Int), ())) else some (.inr (.inl (d.toList, (a : Int), (i : Int), (j : Int), ()))) := by
 rw [G4]
 simp only [Bn]
 by_cases h : i ≤ j
 ·have hi' : i < d.size := by omega
  simp (disch := omega) only [h, decide_true, Ad, An, Bm, AL, true_and]
  cases ltInt d[a]! d[i]! <;> simp
 ·simp only [h, decide_false, false_and, if_false]
theorem ABk (hi : 1 ≤ i) : G3 (d.toList, (a : Int), (i : Int), (j : Int), ()) = if i ≤ j ∧ (fun x => ltInt d[a]! x) d[j]! = true then some (.inl (d.toList, (a : Int), (i : Int), ((j - 1 : Nat) : Int), ())) else some (.inr (.inl (d.toList, (a : Int), (i : Int), (j : Int), ()))) := by
 rw [G3]
 simp only [Bn]
 by_cases h : i ≤ j
 ·simp (disch := omega) only [h, decide_true, Ad, An, Bm, Aj, true_and]
  cases ltInt d[a]! d[j]! <;> simp
 ·simp only [h, decide_false, false_and, if_false]
end
theorem Cx (p : Int → Bool) (d : Array Int) (j i : Nat) (hj : j < d.size) (hi : i ≤ d.size) : scanUp p d j i ≤ d.size := by
 suffices h : ∀ (k i : Nat), j + 1 - i = k → i ≤ d.size → scanUp p d j i ≤ d.size from h _ i rfl hi
 intro k
 induction k using Nat.strongRecOn with
 | _ k ih =>
 intro i hk hi
 rw [scanUp]
 split
 ·rename_i h
  have : i ≤ j := by simp at h; exact h.1
  exact ih (j + 1 - (i + 1)) (by omega) (i + 1) rfl (by omega)
 ·exact hi
theorem AOg (a : Nat) : ∀ (k i j : Nat) (d : Array Int) (n : Nat), j + 1 - i = k → a < d.size → 1 ≤ i → i ≤ d.size → j < d.size → d.size < 4294967296 → k < n →
  AS KN n (d.toList, (a : Int), (i : Int), (j : Int), ()) = some (.inl ((partLoop ltInt a i j d).2.toList, (a : Int), (((partLoop ltInt a i j d).1 : Nat) : Int), ())) ∧ (partLoop ltInt a i j d).1 ≤ j ∧ (partLoop ltInt a i j d).2.size = d.size := by
 intro k
 induction k using Nat.strongRecOn with
 | _ k ih =>
 intro i j d n hk ha hi hi' hj hs hn
 have hm : 4294967296 < many := by simp only [many]; omega
 obtain ⟨n, rfl⟩ : ∃ k, n = k + 1 := ⟨n - 1, by omega⟩
 rw [partLoop_eq, AS, KN]
 have u1 := scanUp_ge (fun x => ltInt x d[a]!) d j i
 have u2 := Cx (fun x => ltInt x d[a]!) d j i hj hi'
 rw [Ai, AFE _ (fun x => ltInt x d[a]!) d a j hs hj (fun i h => AKT d a i j hs ha hj h) _ i many rfl hi' (by omega)]
 generalize scanUp (fun x => ltInt x d[a]!) d j i = i2 at *
 have v1 := scanDown_le (fun x => !ltInt x d[a]!) d i2 j
 simp only [Ai]
 rw [Qk _ (fun x => !ltInt x d[a]!) d a i2 (by omega) (fun j h => AKR d a i2 j hs ha h (by omega)) j many hj (by omega)]
 generalize scanDown (fun x => !ltInt x d[a]!) d i2 j = j2 at *
 simp only [AM]
 by_cases h : j2 < i2
 ·simp only [h, decide_true, gt_iff_lt, if_true]
  exact ⟨trivial, v1, trivial⟩
 ·have hi2 : i2 < d.size := by omega
  have hj2 : j2 < d.size := by omega
  simp only [h, decide_false, gt_iff_lt, if_false, Ad hi2, Ad hj2, (DX hi2 hj2).1, (DX hi2 hj2).2]
  simp (disch := omega) only [AL, Aj]
  obtain ⟨q1, q2, q3⟩ := ih (j2 - 1 + 1 - (i2 + 1)) (by omega) (i2 + 1) (j2 - 1) (swp d i2 j2) n rfl (by rw [size_swp]; omega) (by omega) (by rw [size_swp]; omega) (by rw [size_swp]; omega) (by rw [size_swp]; omega) (by omega)
  exact ⟨q1, by omega, by rw [q3, size_swp]⟩
theorem AUC (d : Array Int) (a b p : Nat) (ha : a ≤ p) (hp : p < b) (hb : b ≤ d.size) (hs : d.size < 4294967296) :
  OZ (d.toList, (a : Int), (b : Int), (p : Int), ()) = some ((partition ltInt d a b p).2.2.toList, (((partition ltInt d a b p).1 : Nat) : Int), (partition ltInt d a b p).2.1, ()) := by
 have hm : 4294967296 < many := by simp only [many]; omega
 have ha' : a < d.size := by omega
 have hp' : p < d.size := by omega
 rw [AKj, Vp, partition]
 simp only [Ad ha', Ad hp', (DX ha' hp').1, (DX ha' hp').2]
 have hs' := hs
 rw [← size_swp d a p] at ha' hs' hb
 generalize swp d a p = d at *
 simp (disch := omega) only [AL, Aj, Ai]
 have u1 := scanUp_ge (fun x => ltInt x d[a]!) d (b - 1) (a + 1)
 have u2 := Cx (fun x => ltInt x d[a]!) d (b - 1) (a + 1) (by omega) (by omega)
 rw [AFE _ (fun x => ltInt x d[a]!) d a (b - 1) hs' (by omega) (fun i h => AKY d a i (b - 1) hs' ha' (by omega) h) _ (a + 1) many rfl (by omega) (by omega)]
 generalize scanUp (fun x => ltInt x d[a]!) d (b - 1) (a + 1) = i2 at *
 have v1 := scanDown_le (fun x => !ltInt x d[a]!) d i2 (b - 1)
 simp only []
 rw [Qk _ (fun x => !ltInt x d[a]!) d a i2 (by omega) (fun j h => AKW d a i2 j hs' ha' h (by omega)) (b - 1) many (by omega) (by omega)]
 generalize scanDown (fun x => !ltInt x d[a]!) d i2 (b - 1) = j2 at *
 simp only [AM]
 have hj2 : j2 < d.size := by omega
 by_cases h : j2 < i2
 ·simp only [h, decide_true, gt_iff_lt, if_true, Ad ha', Ad hj2, (DX hj2 ha').1, (DX hj2 ha').2]
 ·have hi2 : i2 < d.size := by omega
  simp only [h, decide_false, gt_iff_lt, if_false, Ad hi2, Ad hj2, (DX hi2 hj2).1, (DX hi2 hj2).2]
  simp (disch := omega) only [AL, Aj]
  obtain ⟨q1, q2, q3⟩ := AOg a (j2 - 1 + 1 - (i2 + 1)) (i2 + 1) (j2 - 1) (swp d i2 j2) many rfl (by rw [size_swp]; omega) (by omega) (by rw [size_swp]; omega) (by rw [size_swp]; omega) (by rw [size_swp]; omega) (by omega)
  simp only [q1]
  rw [size_swp] at q3
  generalize partLoop ltInt a (i2 + 1) (j2 - 1) (swp d i2 j2) = r at *
  have h1 : r.1 < r.2.size := by omega
  have h2 : a < r.2.size := by omega
  simp only [Ad h1, Ad h2, (DX h1 h2).1, (DX h1 h2).2]
theorem AF4 (a : Nat) : ∀ (k i j : Nat) (d : Array Int) (n : Nat), j + 1 - i = k → a < d.size → 1 ≤ i → i ≤ d.size → j < d.size → d.size < 4294967296 → k < n →
  AS G5 n (d.toList, (a : Int), (i : Int), (j : Int), ()) = some (.inl ((partEqLoop ltInt a i j d).2.toList, (((partEqLoop ltInt a i j d).1 : Nat) : Int), ())) := by
 intro k
 induction k using Nat.strongRecOn with
 | _ k ih =>
 intro i j d n hk ha hi hi' hj hs hn
 have hm : 4294967296 < many := by simp only [many]; omega
 obtain ⟨n, rfl⟩ : ∃ k, n = k + 1 := ⟨n - 1, by omega⟩
 rw [partEqLoop_eq, AS, G5]
 have u1 := scanUp_ge (fun x => !ltInt d[a]! x) d j i
 have u2 := Cx (fun x => !ltInt d[a]! x) d j i hj hi'
 rw [Ai, AFE _ (fun x => !ltInt d[a]! x) d a j hs hj (fun i h => ABm d a i j hs ha hj h) _ i many rfl hi' (by omega)]
 generalize scanUp (fun x => !ltInt d[a]! x) d j i = i2 at *
 have v1 := scanDown_le (fun x => ltInt d[a]! x) d i2 j
 simp only [Ai]
 rw [Qk _ (fun x => ltInt d[a]! x) d a i2 (by omega) (fun j h => ABk d a i2 j hs ha h (by omega)) j many hj (by omega)]
 generalize scanDown (fun x => ltInt d[a]! x) d i2 j = j2 at *
 simp only [AM]
 by_cases h : j2 < i2
 ·simp only [h, decide_true, gt_iff_lt, if_true]
 ·have hi2 : i2 < d.size := by omega
  have hj2 : j2 < d.size := by omega
  simp only [h, decide_false, gt_iff_lt, if_false, Ad hi2, Ad hj2, (DX hi2 hj2).1, (DX hi2 hj2).2]
  simp (disch := omega) only [AL, Aj]
  exact ih (j2 - 1 + 1 - (i2 + 1)) (by omega) (i2 + 1) (j2 - 1) (swp d i2 j2) n rfl (by rw [size_swp]; omega) (by omega) (by rw [size_swp]; omega) (by rw [size_swp]; omega) (by rw [size_swp]; omega) (by omega)
theorem AKp (d : Array Int) (a b p : Nat) (ha : a ≤ p) (hp : p < b) (hb : b ≤ d.size) (hs : d.size < 4294967296) :
  Lf (d.toList, (a : Int), (b : Int), (p : Int), ()) = some ((partitionEqual ltInt d a b p).2.toList, (((partitionEqual ltInt d a b p).1 : Nat) : Int), ()) := by
 have hm : 4294967296 < many := by simp only [many]; omega
 have ha' : a < d.size := by omega
 have hp' : p < d.size := by omega
 rw [Ya, Le, partitionEqual]
 simp only [Ad ha', Ad hp', (DX ha' hp').1, (DX ha' hp').2]
 have hs' := hs
 rw [← size_swp d a p] at ha' hs' hb
 generalize swp d a p = d at *
 simp (disch := omega) only [AL, Aj, Ai]
 rw [AF4 a _ (a + 1) (b - 1) d many rfl ha' (by omega) (by omega) (by omega) hs' (by omega)]
end Go.Pev.Pl.SI
end
section
namespace Go.Pev.Pl.SI
open Go.Sort
theorem EU (d : Array Int) (b : Nat) : ∀ (k i : Nat), b - i = k → i ≤ b → i ≤ scanSorted ltInt d b i ∧ scanSorted ltInt d b i ≤ b := by
 intro k
 induction k using Nat.strongRecOn with
 | _ k ih =>
 intro i hk hi
 rw [scanSorted]
 split
 ·rename_i h
  have : i < b := by simp at h; exact h.1
  have := ih (b - (i + 1)) (by omega) (i + 1) rfl (by omega)
  omega
 ·omega
theorem ABa (d : Array Int) (a b s : Nat) (hb : b ≤ d.size) (hs : d.size < 4294967296) : ∀ (k i n : Nat), b - i = k → 1 ≤ i → i ≤ b → k < n →
  AS Fp n (d.toList, (a : Int), (b : Int), (i : Int), (s : Int), ()) = some (.inl (d.toList, (a : Int), (b : Int), ((scanSorted ltInt d b i : Nat) : Int), (s : Int), ())) := by
 intro k
 induction k using Nat.strongRecOn with
 | _ k ih =>
 intro i n hk h1 hi hn
 obtain ⟨n, rfl⟩ : ∃ k, n = k + 1 := ⟨n - 1, by omega⟩
 rw [scanSorted, AS, Fp]
 simp only [AM]
 by_cases h : i < b
 ·have i0 : i < d.size := by omega
  have i1 : i - 1 < d.size := by omega
  simp (disch := omega) only [h, decide_true, Aj, AL, Ad, An, Bm, Bool.true_and]
  cases h2 : ltInt d[i]! d[i - 1]!
  ·simp only [Bool.not_false, if_true]
   exact ih (b - (i + 1)) (by omega) (i + 1) n rfl (by omega) (by omega) (by omega)
  ·simp only [Bool.not_true, Bool.false_eq_true, if_false]
 ·simp only [h, decide_false, Bool.false_and, Bool.false_eq_true, if_false]
theorem ABc (a b i s : Nat) : ∀ (j : Nat) (d : Array Int) (n : Nat), j < d.size → d.size < 4294967296 → j < n →
  AS EH n (d.toList, (a : Int), (b : Int), (i : Int), (s : Int), (j : Int), ()) = some (.inl ((shiftDown ltInt j d).toList, (a : Int), (b : Int), (i : Int), (s : Int), ())) := by
 intro j
 induction j with
 | zero =>
  intro d n hj hs hn
  obtain ⟨n, rfl⟩ : ∃ k, n = k + 1 := ⟨n - 1, by omega⟩
  rw [AS, EH, Ao, decide_eq_false (by omega)]
  rfl
 | succ j ih =>
  intro d n hj hs hn
  obtain ⟨n, rfl⟩ : ∃ k, n = k + 1 := ⟨n - 1, by omega⟩
  have hj' : j < d.size := by omega
  rw [shiftDown, AS, EH, Ao, decide_eq_true (by omega)]
  simp (disch := omega) only [Aj, Nat.add_sub_cancel, Ad, An, Bm]
  cases h2 : ltInt d[j + 1]! d[j]!
  ·simp only [Bool.not_false, if_true]
  ·have e1 := DX hj hj'
   simp only [An hj, An hj'] at e1
   simp only [Bool.not_true, Bool.false_eq_true, if_false, e1]
   exact ih _ n (by rw [size_swp]; omega) (by rw [size_swp]; omega) (by omega)
theorem Ti (a b i s : Nat) : ∀ (k j : Nat) (d : Array Int) (n : Nat), b - j = k → 1 ≤ j → b ≤ d.size → d.size < 4294967296 → k < n →
  AS EG n (d.toList, (a : Int), (b : Int), (i : Int), (s : Int), (j : Int), ()) = some (.inl ((shiftUp ltInt b j d).toList, (a : Int), (b : Int), (i : Int), (s : Int), ())) := by
 intro k
 induction k using Nat.strongRecOn with
 | _ k ih =>
 intro j d n hk h1 hb hs hn
 obtain ⟨n, rfl⟩ : ∃ k, n = k + 1 := ⟨n - 1, by omega⟩
 rw [shiftUp, AS, EG]
 simp only [AM]
 by_cases h : j < b
 ·have i0 : j < d.size := by omega
  have i1 : j - 1 < d.size := by omega
  simp (disch := omega) only [h, decide_true, if_true, Aj, AL, Ad, An, Bm]
  cases h2 : ltInt d[j]! d[j - 1]!
  ·simp only [Bool.not_false, if_true]
  ·have e1 := DX i0 i1
   simp only [An i0, An i1] at e1
   simp only [Bool.not_true, Bool.false_eq_true, if_false, e1]
   exact ih (b - (j + 1)) (by omega) (j + 1) _ n rfl (by omega) (by rw [size_swp]; omega) (by rw [size_swp]; omega) (by omega)
 ·simp only [h, decide_false, if_false]
theorem Gy : ∀ (j : Nat) (d : Array Int), (shiftDown ltInt j d).size = d.size := by
 intro j
 induction j with
 | zero => intro d; rfl
 | succ j ih =>
  intro d
  rw [shiftDown]
  split
  ·rfl
  ·rw [ih, size_swp]
theorem Bv (b : Nat) : ∀ (k j : Nat) (d : Array Int), b - j = k → (shiftUp ltInt b j d).size = d.size := by
 intro k
 induction k using Nat.strongRecOn with
 | _ k ih =>
 intro j d hk
 rw [shiftUp]
 split
 ·split
  ·rfl
  ·rw [ih (b - (j + 1)) (by omega) (j + 1) _ rfl, size_swp]
 ·rfl
theorem ABb (a b : Nat) (hab : a < b) : ∀ (k i s : Nat) (d : Array Int) (n : Nat), s + k = 5 → a + 1 ≤ i → i ≤ b → b ≤ d.size → d.size < 4294967296 → k < n →
  AS B5 n (d.toList, (a : Int), (b : Int), (i : Int), (s : Int), ()) = some (.inl ((partialIns ltInt a b k i d).1.toList, (partialIns ltInt a b k i d).2, ())) ∨
  ((partialIns ltInt a b k i d).2 = false ∧ AS B5 n (d.toList, (a : Int), (b : Int), (i : Int), (s : Int), ()) = some (.inr (.inl ((partialIns ltInt a b k i d).1.toList, ())))) := by
 intro k
 induction k with
 | zero =>
  intro i s d n hk h1 hi hb hs hn
  obtain ⟨n, rfl⟩ : ∃ k, n = k + 1 := ⟨n - 1, by omega⟩
  rw [AS, B5, Am, decide_eq_false (by omega)]
  exact .inr ⟨rfl, rfl⟩
 | succ k ih =>
  intro i s d n hk h1 hi hb hs hn
  have hm : 4294967296 < many := by simp only [many]; omega
  have es : IntKind.wrap .i64 ((s : Int) + 1) = ((s + 1 : Nat) : Int) := AL (by omega)
  obtain ⟨n, rfl⟩ : ∃ k, n = k + 1 := ⟨n - 1, by omega⟩
  rw [AS, B5, Am, decide_eq_true (by omega), partialIns]
  simp only [Ai, ABa d a b s hb hs (b - i) i many rfl (by omega) hi (by omega)]
  have hsc := EU d b _ i rfl hi
  generalize scanSorted ltInt d b i = i2 at *
  simp only [AG0]
  by_cases h2 : i2 = b
  ·simp only [h2, decide_true, if_true, true_or]
  ·simp (disch := omega) only [h2, decide_false, if_false, BV, Am, Ao]
   by_cases h3 : b - a < 50
   ·rw [if_pos h3, decide_eq_true (by omega)]
    exact .inl rfl
   ·have i0 : i2 < d.size := by omega
    have i1 : i2 - 1 < d.size := by omega
    rw [if_neg h3, decide_eq_false (by omega)]
    simp (disch := omega) only [Aj, AL, Ad i0, Ad i1, (DX i0 i1).1, (DX i0 i1).2]
    have hsz := size_swp d i2 (i2 - 1)
    generalize swp d i2 (i2 - 1) = d2 at *
    by_cases h4 : i2 - a ≥ 2
    ·rw [if_pos h4, decide_eq_true (show (2 : Int) ≤ ((i2 - a : Nat) : Int) by omega)]
     simp only [ABc a b i2 s (i2 - 1) d2 many (by omega) (by omega) (by omega)]
     have hsz2 := Gy (i2 - 1) d2
     generalize shiftDown ltInt (i2 - 1) d2 = d3 at *
     simp (disch := omega) only [BV, AL]
     by_cases h5 : b - i2 ≥ 2
     ·rw [if_pos h5, decide_eq_true (show (2 : Int) ≤ ((b - i2 : Nat) : Int) by omega)]
      simp only [Ti a b i2 s _ (i2 + 1) d3 many rfl (by omega) (by omega) (by omega) (by omega)]
      simp only [es]
      exact ih i2 (s + 1) (shiftUp ltInt b (i2 + 1) d3) n (by omega) (by omega) (by omega) (by rw [Bv b (b - (i2 + 1)) (i2 + 1) _ rfl]; omega) (by rw [Bv b (b - (i2 + 1)) (i2 + 1) _ rfl]; omega) (by omega)
     ·rw [if_neg h5, decide_eq_false (show ¬ (2 : Int) ≤ ((b - i2 : Nat) : Int) by omega)]
      simp only [es]
      exact ih i2 (s + 1) d3 n (by omega) (by omega) (by omega) (by omega) (by omega) (by omega)
    ·rw [if_neg h4, decide_eq_false (show ¬ (2 : Int) ≤ ((i2 - a : Nat) : Int) by omega)]
     by_cases h5 : b - i2 ≥ 2
     ·rw [if_pos h5, decide_eq_true (show (2 : Int) ≤ ((b - i2 : Nat) : Int) by omega)]
      simp only [Ti a b i2 s _ (i2 + 1) d2 many rfl (by omega) (by omega) (by omega) (by omega)]
      simp only [es]
      exact ih i2 (s + 1) (shiftUp ltInt b (i2 + 1) d2) n (by omega) (by omega) (by omega) (by rw [Bv b (b - (i2 + 1)) (i2 + 1) _ rfl]; omega) (by rw [Bv b (b - (i2 + 1)) (i2 + 1) _ rfl]; omega) (by omega)
     ·rw [if_neg h5, decide_eq_false (show ¬ (2 : Int) ≤ ((b - i2 : Nat) : Int) by omega)]
      simp only [es]
      exact ih i2 (s + 1) d2 n (by omega) (by omega) (by omega) (by omega) (by omega) (by omega)
theorem AFv (d : Array Int) (a b : Nat) (hab : a < b) (hb : b ≤ d.size) (hs : d.size < 4294967296) :
  IT (d.toList, (a : Int), (b : Int), ()) = some ((partialInsertionSort ltInt d a b).1.toList, (partialInsertionSort ltInt d a b).2, ()) := by
 have hm : 4294967296 < many := by simp only [many]; omega
 rw [Tr, I8, partialInsertionSort]
 simp (disch := omega) only [AL, Ai]
 have h := ABb a b hab 5 (a + 1) 0 d many rfl (Nat.le_refl _) (by omega) hb hs (by omega)
 rcases h with h | ⟨h0, h⟩
 ·have h' : AS B5 many (d.toList, (a : Int), (b : Int), ((a + 1 : Nat) : Int), (0 : Int), ()) = _ := h
  rw [h']
 ·have h' : AS B5 many (d.toList, (a : Int), (b : Int), ((a + 1 : Nat) : Int), (0 : Int), ()) = _ := h
  rw [h', h0]
theorem KQ (d : Array Int) (a b : Nat) (s : Int) (ha : a < d.size) (hb : b < d.size) :
  ∃ s' p q, JD (d.toList, (a : Int), (b : Int), s, ()) = some (d.toList, s', ((p : Nat) : Int), ((q : Nat) : Int), ()) ∧ (p = a ∧ q = b ∨ p = b ∧ q = a) := by
 rw [Yd, Lh]
 simp only [Ad ha, Ad hb, An ha, An hb, Bm]
 cases ltInt d[b]! d[a]!
 ·exact ⟨_, a, b, rfl, .inl ⟨rfl, rfl⟩⟩
 ·exact ⟨_, b, a, rfl, .inr ⟨rfl, rfl⟩⟩
theorem KT (d : Array Int) (a b c : Nat) (s : Int) (ha : a < d.size) (hb : b < d.size) (hc : c < d.size) :
  ∃ s' p, JJ (d.toList, (a : Int), (b : Int), (c : Int), s, ()) = some (d.toList, s', ((p : Nat) : Int), ()) ∧ (p = a ∨ p = b ∨ p = c) := by
 rw [Yn, Ln]
 obtain ⟨s1, p1, q1, e1, h1⟩ := KQ d a b s ha hb
 simp only [e1]
 obtain ⟨s2, p2, q2, e2, h2⟩ := KQ d q1 c s1 (by omega) hc
 simp only [e2]
 obtain ⟨s3, p3, q3, e3, h3⟩ := KQ d p1 p2 s2 (by omega) (by omega)
 simp only [e3]
 exact ⟨_, q3, rfl, by omega⟩
theorem KV (d : Array Int) (a : Nat) (s : Int) (h1 : 1 ≤ a) (ha : a + 1 < d.size) (hs : d.size < 4294967296) :
  ∃ s' p, JK (d.toList, (a : Int), s, ()) = some (d.toList, s', ((p : Nat) : Int), ()) ∧ a ≤ p + 1 ∧ p ≤ a + 1 := by
 rw [Yo, Lq]
 simp (disch := omega) only [Aj, AL]
 obtain ⟨s1, p1, e1, h1⟩ := KT d (a - 1) a (a + 1) s (by omega) (by omega) ha
 simp only [e1]
 exact ⟨_, p1, rfl, by omega⟩
theorem AOS (d : Array Int) (a b : Nat) (hab : a + 8 ≤ b) (hb : b ≤ d.size) (hs : d.size < 4294967296) :
  ∃ p h, RB (d.toList, (a : Int), (b : Int), ()) = some (d.toList, ((p : Nat) : Int), h, ()) ∧ a ≤ p ∧ p < b := by
 rw [ADB, OT]
 simp (disch := omega) only [BV, TS, ACL, D9, ACK, wrap_add, Ao]
 rw [decide_eq_true (show (8 : Int) ≤ ((b - a : Nat) : Int) by omega)]
 simp only []
 by_cases h : 50 ≤ b - a
 ·rw [decide_eq_true (show (50 : Int) ≤ ((b - a : Nat) : Int) by omega)]
  simp only []
  obtain ⟨s1, p1, e1, h1⟩ := KV d (a + (b - a) / 4 * 1) 0 (by omega) (by omega) hs
  simp only [e1]
  obtain ⟨s2, p2, e2, h2⟩ := KV d (a + (b - a) / 4 * 2) s1 (by omega) (by omega) hs
  simp only [e2]
  obtain ⟨s3, p3, e3, h3⟩ := KV d (a + (b - a) / 4 * 3) s2 (by omega) (by omega) hs
  simp only [e3]
  obtain ⟨s4, p4, e4, h4⟩ := KT d p1 p2 p3 s3 (by omega) (by omega) (by omega)
  simp only [e4]
  cases ieq s4 0
  ·cases ieq s4 12
   ·exact ⟨p4, _, rfl, by omega, by omega⟩
   ·exact ⟨p4, _, rfl, by omega, by omega⟩
  ·exact ⟨p4, _, rfl, by omega, by omega⟩
 ·rw [decide_eq_false (show ¬ (50 : Int) ≤ ((b - a : Nat) : Int) by omega)]
  simp only []
  obtain ⟨s4, p4, e4, h4⟩ := KT d (a + (b - a) / 4 * 1) (a + (b - a) / 4 * 2) (a + (b - a) / 4 * 3) 0 (by omega) (by omega) (by omega)
  simp only [e4]
  cases ieq s4 0
  ·cases ieq s4 12
   ·exact ⟨p4, _, rfl, by omega, by omega⟩
   ·exact ⟨p4, _, rfl, by omega, by omega⟩
  ·exact ⟨p4, _, rfl, by omega, by omega⟩
end Go.Pev.Pl.SI
end
section
namespace Go.Pev.Pl.SI
open Go.Sort
theorem AMd (a b : Nat) (m : Nat) (h8 : a + 8 ≤ b) (hm1 : 1 ≤ m) (hm : m ≤ 2 * (b - a)) : ∀ (k t : Nat) (d : Array Int) (r : Int) (n : Nat), t + k = 3 → b ≤ d.size → d.size < 4294967296 → k < n →
  ∃ d' : Array Int, AS FO n (d.toList, (a : Int), ((b - a : Nat) : Int), r, (m : Int), ((a + (b - a) / 4 * 2 - 1 + t : Nat) : Int), ()) = some (.inl (d'.toList, ())) ∧ PermIn a b d d' := by
 intro k
 induction k with
 | zero =>
  intro t d r n hk hb hs hn
  obtain ⟨n, rfl⟩ : ∃ k, n = k + 1 := ⟨n - 1, by omega⟩
  rw [AS, FO]
  simp (disch := omega) only [TS, D9, wrap_add, AL, Bn]
  rw [decide_eq_false (by omega)]
  exact ⟨d, rfl, permIn_refl d a b⟩
 | succ k ih =>
  intro t d r n hk hb hs hn
  obtain ⟨n, rfl⟩ : ∃ k, n = k + 1 := ⟨n - 1, by omega⟩
  rw [AS, FO]
  simp (disch := omega) only [TS, D9, wrap_add, AL, Bn]
  rw [decide_eq_true (show a + (b - a) / 4 * 2 - 1 + t ≤ a + (b - a) / 4 * 2 + 1 by omega)]
  obtain ⟨r', y, e⟩ := TJ r
  obtain ⟨o, e2, ho⟩ := AKs y m hm1 (by omega)
  simp only [e, e2]
  rw [Af (n := (o : Int)) (by omega)]
  simp only [Bn]
  have i0 : a + (b - a) / 4 * 2 - 1 + t < d.size := by omega
  have fin : ∀ q : Nat, a ≤ q → q < b → ∃ d' : Array Int, AS FO n ((swp d (a + (b - a) / 4 * 2 - 1 + t) q).toList, (a : Int), ((b - a : Nat) : Int), r', (m : Int), ((a + (b - a) / 4 * 2 - 1 + t + 1 : Nat) : Int), ()) = some (.inl (d'.toList, ())) ∧ PermIn a b d d' := by
   intro q hq1 hq2
   obtain ⟨d', e', hp⟩ := ih (t + 1) (swp d (a + (b - a) / 4 * 2 - 1 + t) q) r' n (by omega) (by rw [size_swp]; omega) (by rw [size_swp]; omega) (by omega)
   exact ⟨d', e', permIn_trans _ _ _ a b (swp_permIn d a b _ q (by omega) (by omega) hq1 hq2 hb) hp⟩
  by_cases h : b - a ≤ o
  ·have i1 : a + (o - (b - a)) < d.size := by omega
   simp (disch := omega) only [h, decide_true, BV, wrap_add, AL, Ad i0, Ad i1, (DX i0 i1).1, (DX i0 i1).2]
   exact fin _ (by omega) (by omega)
  ·have i1 : a + o < d.size := by omega
   simp (disch := omega) only [h, decide_false, BV, wrap_add, AL, Ad i0, Ad i1, (DX i0 i1).1, (DX i0 i1).2]
   exact fin _ (by omega) (by omega)
theorem ARB (d : Array Int) (a b : Nat) (hab : a ≤ b) (hb : b ≤ d.size) (hs : d.size < 4294967296) :
  ∃ d' : Array Int, Sj (d.toList, (a : Int), (b : Int), ()) = some (d'.toList, ()) ∧ PermIn a b d d' := by
 have hm : 4294967296 < many := by simp only [many]; omega
 rw [ADz, Pd]
 simp (disch := omega) only [BV, Ao]
 by_cases h : 8 ≤ b - a
 ·rw [decide_eq_true (show (8 : Int) ≤ ((b - a : Nat) : Int) by omega)]
  obtain ⟨m, e, h1, h2⟩ := Tt (b - a) (by omega) (by omega)
  simp only [e]
  rw [u64_in (n := ((b - a : Nat) : Int)) (by omega)]
  simp (disch := omega) only [TS, D9, wrap_add, Aj, Ai]
  obtain ⟨d', e2, hp⟩ := AMd a b m (by omega) h1 h2 3 0 d ((b - a : Nat) : Int) many rfl hb hs (by omega)
  rw [Nat.add_zero] at e2
  simp only [e2]
  exact ⟨d', rfl, hp⟩
 ·rw [decide_eq_false (show ¬ (8 : Int) ≤ ((b - a : Nat) : Int) by omega)]
  exact ⟨d, rfl, permIn_refl d a b⟩
end Go.Pev.Pl.SI
end
section
namespace Go.Pev.Pl.SI
open Go.Sort
abbrev ASs := List Int × Int × Int × Int × Bool × Bool × Unit
abbrev GZ := ASs ⊕ (List Int × Unit) ⊕ Unit
noncomputable section
def Lc (self : (List Int × Int × Int × Int × Unit) → Option ((List Int × Unit))) (y7 : List Int) (a1 a2 p l : Int) (a4 a5 : Bool) : Option GZ :=
 match (ilt (0 : Int) a1) with
 | true => match idx y7 (IntKind.wrap .i64 (a1 - (1 : Int))) with
  | none => none
  | some x9 => match idx y7 p with
   | none => none
   | some x10 => match Dh ((AT y7 (AG (IntKind.wrap .i64 (a1 - (1 : Int)))) (0 : Int)), (AT y7 (AG p) (0 : Int)), ()) with
    | none => none
    | some (y11, _) => match (!y11) with
     | true => match Lf (y7, a1, a2, p, ()) with
      | none => none
      | some (y12, y13, _) => some (.inl (y12, y13, a2, l, a4, a5, ()))
     | false => match OZ (y7, a1, a2, p, ()) with
      | none => none
      | some (y14, y15, y16, _) => match quo? .i64 (IntKind.wrap .i64 (a2 - a1)) (8 : Int) with
       | none => none
       | some x17 => match (ilt (IntKind.wrap .i64 (y15 - a1)) (IntKind.wrap .i64 (a2 - y15))) with
        | true => match self (y14, a1, y15, l, ()) with
         | none => none
         | some (y18, _) => some (.inl (y18, (IntKind.wrap .i64 (y15 + (1 : Int))), a2, l, (ile x17 (IntKind.wrap .i64 (y15 - a1))), y16, ()))
        | false => match self (y14, (IntKind.wrap .i64 (y15 + (1 : Int))), a2, l, ()) with
         | none => none
         | some (y19, _) => some (.inl (y19, a1, y15, l, (ile x17 (IntKind.wrap .i64 (a2 - y15))), y16, ()))
 | false => match OZ (y7, a1, a2, p, ()) with
  | none => none
  | some (y20, y21, y22, _) => match quo? .i64 (IntKind.wrap .i64 (a2 - a1)) (8 : Int) with
   | none => none
   | some x23 => match (ilt (IntKind.wrap .i64 (y21 - a1)) (IntKind.wrap .i64 (a2 - y21))) with
    | true => match self (y20, a1, y21, l, ()) with
     | none => none
     | some (y24, _) => some (.inl (y24, (IntKind.wrap .i64 (y21 + (1 : Int))), a2, l, (ile x23 (IntKind.wrap .i64 (y21 - a1))), y22, ()))
    | false => match self (y20, (IntKind.wrap .i64 (y21 + (1 : Int))), a2, l, ()) with
     | none => none
     | some (y25, _) => some (.inl (y25, a1, y21, l, (ile x23 (IntKind.wrap .i64 (a2 - y21))), y22, ()))
def AFq (self : (List Int × Int × Int × Int × Unit) → Option ((List Int × Unit))) (y6 : List Int) (a1 a2 p h l : Int) (a4 a5 : Bool) : Option GZ :=
 match a4 with
 | true => match a5 with
  | true => match (ieq h (1 : Int)) with
   | true => match IT (y6, a1, a2, ()) with
    | none => none
    | some (y7, y8, _) => match y8 with
     | true => some (.inr (.inl (y7, ())))
     | false => Lc self y7 a1 a2 p l a4 a5
   | false => Lc self y6 a1 a2 p l a4 a5
  | false => Lc self y6 a1 a2 p l a4 a5
 | false => Lc self y6 a1 a2 p l a4 a5
def AFi (self : (List Int × Int × Int × Int × Unit) → Option ((List Int × Unit))) (y2 : List Int) (a1 a2 l : Int) (a4 a5 : Bool) : Option GZ :=
 match RB (y2, a1, a2, ()) with
 | none => none
 | some (y3, y4, y5, _) => match (ieq y5 (2 : Int)) with
  | true => match ATs (y3, a1, a2, ()) with
   | none => none
   | some (y6, _) => AFq self y6 a1 a2 (IntKind.wrap .i64 ((IntKind.wrap .i64 (a2 - (1 : Int))) - (IntKind.wrap .i64 (y4 - a1)))) 1 l a4 a5
  | false => AFq self y3 a1 a2 y4 y5 l a4 a5
def AJn (self : (List Int × Int × Int × Int × Unit) → Option ((List Int × Unit))) : ASs → Option GZ := fun (a0, a1, a2, a3, a4, a5, _) =>
 match (ile (IntKind.wrap .i64 (a2 - a1)) (12 : Int)) with
 | true => match AVI (a0, a1, a2, ()) with
  | none => none
  | some (y0, _) => some (.inr (.inl (y0, ())))
 | false => match (ieq a3 (0 : Int)) with
  | true => match ADg (a0, a1, a2, ()) with
   | none => none
   | some (y1, _) => some (.inr (.inl (y1, ())))
  | false => match (!a4) with
   | true => match Sj (a0, a1, a2, ()) with
    | none => none
    | some (y2, _) => AFi self y2 a1 a2 (IntKind.wrap .i64 (a3 - (1 : Int))) a4 a5
   | false => AFi self a0 a1 a2 a3 a4 a5
theorem ABX : Ld = AJn := rfl
end
def HW (d : Array Int) (a b : Nat) : GZ → Prop
 | .inl (xs, x, y, l, _, _, _) => ∃ (e : Array Int) (i j : Nat), xs = e.toList ∧ x = (i : Int) ∧ y = (j : Int) ∧ 0 ≤ l ∧ l ≤ 100 ∧ i ≤ j ∧ j ≤ e.size ∧ e.size = d.size ∧ j - i < b - a ∧ Below ltInt i j e ∧
   ∀ R, PermIn i j e R → SortedIn ltInt i j R → PermIn a b d R ∧ SortedIn ltInt a b R
 | .inr (.inl (xs, _)) => ∃ R : Array Int, xs = R.toList ∧ PermIn a b d R ∧ SortedIn ltInt a b R
 | .inr (.inr _) => False
def BZ (self : (List Int × Int × Int × Int × Unit) → Option ((List Int × Unit))) (m : Nat) : Prop :=
 ∀ (d : Array Int) (a b : Nat) (l : Int), a ≤ b → b ≤ d.size → d.size < 4294967296 → 0 ≤ l → l ≤ 100 → Below ltInt a b d → 2 * (b - a) < m →
  ∃ R : Array Int, self (d.toList, (a : Int), (b : Int), l, ()) = some (R.toList, ()) ∧ PermIn a b d R ∧ SortedIn ltInt a b R
section
variable {self : (List Int × Int × Int × Int × Unit) → Option ((List Int × Unit))} {d : Array Int} {a b : Nat} {l : Int}
theorem KI (hself : BZ self (b - a)) (hb : b ≤ d.size) (hs : d.size < 4294967296) (hl : 0 ≤ l ∧ l ≤ 100)
  {d3 : Array Int} {p : Nat} (P3 : PermIn a b d d3) (B3 : Below ltInt a b d3) (hp1 : a ≤ p) (hp2 : p < b) :
  ∃ o, (match OZ (d3.toList, (a : Int), (b : Int), (p : Int), ()) with
  | none => none
  | some (y20, y21, y22, _) => match quo? .i64 (IntKind.wrap .i64 ((b : Int) - (a : Int))) (8 : Int) with
   | none => none
   | some x23 => match (ilt (IntKind.wrap .i64 (y21 - (a : Int))) (IntKind.wrap .i64 ((b : Int) - y21))) with
    | true => match self (y20, (a : Int), y21, l, ()) with
     | none => none
     | some (y24, _) => some ((.inl (y24, (IntKind.wrap .i64 (y21 + (1 : Int))), (b : Int), l, (ile x23 (IntKind.wrap .i64 (y21 - (a : Int)))), y22, ())) : GZ)
    | false => match self (y20, (IntKind.wrap .i64 (y21 + (1 : Int))), (b : Int), l, ()) with
     | none => none
     | some (y25, _) => some (.inl (y25, (a : Int), y21, l, (ile x23 (IntKind.wrap .i64 ((b : Int) - y21))), y22, ()))) = some o ∧ HW d a b o := by
 have b3 : b ≤ d3.size := by rw [P3.1]; exact hb
 have s3 : d3.size < 4294967296 := by rw [P3.1]; exact hs
 rw [AUC d3 a b p hp1 hp2 b3 s3]
 rcases hx : partition ltInt d3 a b p with ⟨mid, ap, d4⟩
 obtain ⟨g1, g2, hs4, hBa, hBr, hleft, hright⟩ := round_part swo_ltInt (partition_holds _) hp1 hp2 b3 B3 hx
 simp (disch := omega) only [BV, AL, Abl, AM]
 have b4 : b ≤ d4.size := by omega
 by_cases h : mid - a < b - mid
 ·obtain ⟨L, e, l1, l2⟩ := hself d4 a mid l g1 (by omega) (by omega) hl.1 hl.2 hBa (by omega)
  simp only [h, decide_true, e]
  obtain ⟨hBL, hfin⟩ := hleft _ l1 l2
  refine ⟨_, rfl, L, mid + 1, b, rfl, rfl, rfl, hl.1, hl.2, by omega, by rw [l1.1]; exact b4, by rw [l1.1, hs4, P3.1], by omega, hBL, fun R r1 r2 => ?_⟩
  obtain ⟨q1, q2⟩ := hfin R r1 r2
  exact ⟨permIn_trans _ _ _ a b P3 q1, q2⟩
 ·obtain ⟨L, e, l1, l2⟩ := hself d4 (mid + 1) b l (by omega) (by omega) (by omega) hl.1 hl.2 hBr (by omega)
  simp only [h, decide_false, e]
  obtain ⟨hBL, hfin⟩ := hright _ l1 l2
  refine ⟨_, rfl, L, a, mid, rfl, rfl, rfl, hl.1, hl.2, by omega, by rw [l1.1]; omega, by rw [l1.1, hs4, P3.1], by omega, hBL, fun R r1 r2 => ?_⟩
  obtain ⟨q1, q2⟩ := hfin R r1 r2
  exact ⟨permIn_trans _ _ _ a b P3 q1, q2⟩
theorem EW (hself : BZ self (b - a)) (hb : b ≤ d.size) (hs : d.size < 4294967296) (hl : 0 ≤ l ∧ l ≤ 100)
  {d3 : Array Int} {p : Nat} (wb wp : Bool) (P3 : PermIn a b d d3) (B3 : Below ltInt a b d3) (hp1 : a ≤ p) (hp2 : p < b) :
  ∃ o, Lc self d3.toList (a : Int) (b : Int) (p : Int) l wb wp = some o ∧ HW d a b o := by
 have b3 : b ≤ d3.size := by rw [P3.1]; exact hb
 have s3 : d3.size < 4294967296 := by rw [P3.1]; exact hs
 rw [Lc, Am]
 by_cases h0 : 0 < a
 ·rw [decide_eq_true (by omega)]
  have i0 : a - 1 < d3.size := by omega
  have i1 : p < d3.size := by omega
  simp (disch := omega) only [Aj, Ad, An, Bm]
  cases hc : ltInt d3[a - 1]! d3[p]!
  ·simp only [Bool.not_false]
   rw [AKp d3 a b p hp1 hp2 b3 s3]
   rcases hx : partitionEqual ltInt d3 a b p with ⟨mid, d4⟩
   obtain ⟨hm1, hm2, hs4, hB4, hfin⟩ := round_eq swo_ltInt (partitionEqual_holds _) h0 hp1 hp2 b3 B3 hc hx
   refine ⟨_, rfl, d4, mid, b, rfl, rfl, rfl, hl.1, hl.2, by omega, by omega, by rw [hs4, P3.1], by omega, hB4, fun R r1 r2 => ?_⟩
   obtain ⟨q1, q2⟩ := hfin R r1 r2
   exact ⟨permIn_trans _ _ _ a b P3 q1, q2⟩
  ·simp only [Bool.not_true]
   exact KI hself hb hs hl P3 B3 hp1 hp2
 ·rw [decide_eq_false (by omega)]
  exact KI hself hb hs hl P3 B3 hp1 hp2
theorem OW (hself : BZ self (b - a)) (hab : a < b) (hb : b ≤ d.size) (hs : d.size < 4294967296) (hl : 0 ≤ l ∧ l ≤ 100)
  {d3 : Array Int} {p : Nat} (h : Int) (wb wp : Bool) (P3 : PermIn a b d d3) (B3 : Below ltInt a b d3) (hp1 : a ≤ p) (hp2 : p < b) :
  ∃ o, AFq self d3.toList (a : Int) (b : Int) (p : Int) h l wb wp = some o ∧ HW d a b o := by
 have b3 : b ≤ d3.size := by rw [P3.1]; exact hb
 have s3 : d3.size < 4294967296 := by rw [P3.1]; exact hs
 unfold AFq
 cases wb
 ·exact EW hself hb hs hl _ _ P3 B3 hp1 hp2
 ·cases wp
  ·exact EW hself hb hs hl _ _ P3 B3 hp1 hp2
  ·simp only []
   cases ieq h 1
   ·exact EW hself hb hs hl _ _ P3 B3 hp1 hp2
   ·simp only []
    rw [AFv d3 a b hab b3 s3]
    obtain ⟨q1, q2⟩ := partialInsertionSort_holds (lt := ltInt) swo_ltInt d3 a b hab b3 B3
    rcases hx : partialInsertionSort ltInt d3 a b with ⟨d4, fin⟩
    rw [hx] at q1 q2
    have P4 : PermIn a b d d4 := permIn_trans _ _ _ a b P3 q1
    cases fin
    ·exact EW hself hb hs hl _ _ P4 (B3.perm b3 q1) hp1 hp2
    ·exact ⟨_, rfl, d4, rfl, P4, q2 rfl⟩
theorem OV (hself : BZ self (b - a)) (hab : a + 8 ≤ b) (hb : b ≤ d.size) (hs : d.size < 4294967296) (hl : 0 ≤ l ∧ l ≤ 100)
  {d3 : Array Int} (wb wp : Bool) (P3 : PermIn a b d d3) (B3 : Below ltInt a b d3) :
  ∃ o, AFi self d3.toList (a : Int) (b : Int) l wb wp = some o ∧ HW d a b o := by
 have b3 : b ≤ d3.size := by rw [P3.1]; exact hb
 have s3 : d3.size < 4294967296 := by rw [P3.1]; exact hs
 rw [AFi]
 obtain ⟨p, h, e, hp1, hp2⟩ := AOS d3 a b hab b3 s3
 simp only [e]
 cases ieq h 2
 ·exact OW hself (by omega) hb hs hl h _ _ P3 B3 hp1 hp2
 ·simp only [AXK d3 a b (by omega) b3 s3]
  have q1 := reverseRange_holds (α := Int) d3 a b (by omega) b3
  simp (disch := omega) only [Aj, BV]
  exact OW hself (by omega) hb hs hl 1 _ _ (permIn_trans _ _ _ a b P3 q1) (B3.perm b3 q1) (by omega) (by omega)
theorem RC (hself : BZ self (b - a)) (hab : a ≤ b) (hb : b ≤ d.size) (hs : d.size < 4294967296) (hl : 0 ≤ l ∧ l ≤ 100) (wb wp : Bool) (B : Below ltInt a b d) :
  ∃ o, Ld self (d.toList, (a : Int), (b : Int), l, wb, wp, ()) = some o ∧ HW d a b o := by
 rw [ABX, AJn]
 simp (disch := omega) only [BV, Ao, E7]
 by_cases h12 : b - a ≤ 12
 ·rw [decide_eq_true (show ((b - a : Nat) : Int) ≤ 12 by omega)]
  simp only [AYk d a b hab hb hs]
  obtain ⟨q1, q2⟩ := insertionSort_holds (lt := ltInt) swo_ltInt d a b hab hb
  exact ⟨_, rfl, _, rfl, q1, q2⟩
 ·rw [decide_eq_false (show ¬ ((b - a : Nat) : Int) ≤ 12 by omega)]
  simp only []
  by_cases h0 : l = 0
  ·subst h0
   simp only [BEq.rfl, AVR d a b (by omega) hb hs]
   obtain ⟨q1, q2⟩ := heapSort_holds (lt := ltInt) swo_ltInt d a b hab hb
   exact ⟨_, rfl, _, rfl, q1, q2⟩
  ·rw [show (l == 0) = false by simpa using h0]
   simp only []
   cases wb
   ·obtain ⟨d', e, q1⟩ := ARB d a b hab hb hs
    simp only [Bool.not_false, e]
    rw [Af (by omega)]
    exact OV hself (by omega) hb hs (by omega) _ _ q1 (B.perm hb q1)
   ·simp only [Bool.not_true]
    exact OV hself (by omega) hb hs hl _ _ (permIn_refl d a b) B
end
theorem KJ {self : (List Int × Int × Int × Int × Unit) → Option ((List Int × Unit))} {m : Nat} (hself : BZ self m) : ∀ (k : Nat) (d : Array Int) (a b : Nat) (l : Int) (wb wp : Bool) (n : Nat), b - a = k → k ≤ m → a ≤ b → b ≤ d.size → d.size < 4294967296 → 0 ≤ l → l ≤ 100 → Below ltInt a b d → k < n →
  ∃ R : Array Int, AS (Ld self) n (d.toList, (a : Int), (b : Int), l, wb, wp, ()) = some (.inl (R.toList, ())) ∧ PermIn a b d R ∧ SortedIn ltInt a b R := by
 intro k
 induction k using Nat.strongRecOn with
 | _ k ih =>
 intro d a b l wb wp n hk hm hab hb hs hl1 hl2 B hn
 obtain ⟨n, rfl⟩ : ∃ k, n = k + 1 := ⟨n - 1, by omega⟩
 have hself' : BZ self (b - a) := fun d a' b' l h1 h2 h3 h4 h5 h6 h7 => hself d a' b' l h1 h2 h3 h4 h5 h6 (by omega)
 obtain ⟨o, e, ho⟩ := RC hself' hab hb hs ⟨hl1, hl2⟩ wb wp B
 rw [AS, e]
 match o, ho with
 | .inl (xs, x, y, l', wb', wp', _), ho =>
  obtain ⟨e', i, j, rfl, rfl, rfl, g1, g2, g3, g4, g5, g6, g7, hfin⟩ := ho
  obtain ⟨R, e2, r1, r2⟩ := ih (j - i) (by omega) e' i j l' wb' wp' n rfl (by omega) g3 g4 (by omega) g1 g2 g7 (by omega)
  exact ⟨R, e2, hfin R r1 r2⟩
 | .inr (.inl (xs, _)), ho =>
  obtain ⟨R, rfl, r1, r2⟩ := ho
  exact ⟨R, rfl, r1, r2⟩
theorem RD : ∀ k : Nat, BZ (G2 (k + 1)) (2 ^ k) := by
 intro k
 have hmany : 4294967296 < many := by simp only [many]; omega
 induction k with
 | zero =>
  intro d a b l h1 h2 h3 h4 h5 h6 h7
  have : BZ (G2 0) 0 := fun _ _ _ _ _ _ _ _ _ _ h => by omega
  obtain ⟨R, e, r1, r2⟩ := KJ this (b - a) d a b l true true many rfl (by omega) h1 h2 h3 h4 h5 h6 (by omega)
  refine ⟨R, ?_, r1, r2⟩
  rw [G2, AFl]
  simp only [Ai, e]
 | succ k ih =>
  intro d a b l h1 h2 h3 h4 h5 h6 h7
  have hp : 2 ^ (k + 1) = 2 * 2 ^ k := by rw [Nat.pow_succ]; omega
  obtain ⟨R, e, r1, r2⟩ := KJ ih (b - a) d a b l true true many rfl (by omega) h1 h2 h3 h4 h5 h6 (by omega)
  refine ⟨R, ?_, r1, r2⟩
  rw [G2, AFl]
  simp only [Ai, e]
def sorted (xs : List Int) : List Int := xs.mergeSort (fun x y => decide (x ≤ y))
theorem ATV {d d' : Array Int} (h1 : PermIn 0 d.size d d') (h2 : SortedIn ltInt 0 d.size d') : d'.toList = sorted d.toList := by
 have h := sorted_unique_holds (lt := ltInt) swo_ltInt (fun x y h1 h2 => by simp [ltInt] at h1 h2; omega) d d' h1 h2
 rw [h, sorted]
 congr
 funext x y
 by_cases h : x ≤ y
 ·simp [ltInt, h, Int.not_lt.2 h]
 ·simp [ltInt, h, Int.not_le.1 h]
theorem ATX (xs : List Int) (h : xs.length < 4294967296) : AI2 (xs, ()) = some (sorted xs, ()) := by
 obtain ⟨d, rfl⟩ : ∃ d : Array Int, xs = d.toList := ⟨xs.toArray, rfl⟩
 rw [Array.length_toList] at h
 rw [AI1, Vg]
 rw [AHR, u64_in (by omega)]
 obtain ⟨v, e, hv, _⟩ := Ky d.size h
 simp only [e]
 obtain ⟨R, e2, r1, r2⟩ := RD 99 d 0 d.size (v : Int) (by omega) (by omega) h (by omega) (by omega) (.inl rfl) (by
  have : 2 ^ 99 = 633825300114114700748351602688 := by decide
  omega)
 have e3 : AUA (d.toList, (0 : Int), (d.size : Int), (v : Int), ()) = some (R.toList, ()) := by rw [ARw]; exact e2
 simp only [e3, ATV r1 r2]
end Go.Pev.Pl.SI
end
section
namespace Go.Pev.Pl
open Tok
set_option linter.unusedSimpArgs false
set_option maxRecDepth 100000
def oth (v k : Int) (b : Bool) (t : Tie) : Option Int :=
 if t.2.2.1 = k ∧ t.2.2.2.1 = b then (if v = t.1 then some t.2.1 else if v = t.2.1 then some t.1 else none) else none
def AOw (v k : Int) (b : Bool) (t : Tie) (a : List Int) : List Int := match oth v k b t with
 | some u => a ++ [u]
 | none => a
theorem AUI (v k : Int) (b : Bool) : ∀ (ts : List Tie) (a : List Int), ts.foldl (fun a t => AOw v k b t a) a = a ++ ts.filterMap (oth v k b) := by
 intro ts
 induction ts with
 | nil => intro a; simp
 | cons t ts ih =>
  intro a
  rw [List.foldl_cons, ih, List.filterMap_cons]
  unfold AOw
  cases oth v k b t with
  | none => rfl
  | some u => simp
theorem AX5 (v k : Int) (b : Bool) (t : Tie) (a : List Int) : (AOw v k b t a).length ≤ a.length + 1 := by
 unfold AOw
 split <;> simp
theorem APg (v k : Int) (b : Bool) (ts : List Tie) (ht : ts.length ≤ 400) :
  AX Fw many (v, k, b, ([] : List Int), ts, AN ts, (0 : Int), ()) = some (.inl (ts.filterMap (oth v k b), ())) := by
 have e := De (step := Fw) (fun i (a : List Int) => (v, k, b, a, ts, AN ts, (i : Int), ())) ts (fun t a => .inl (AOw v k b t a)) (fun a => .inl (a, ())) (fun i a => a.length ≤ i) (by omega)
  (fun i x a hi hx ha => by
   refine ⟨fun m' h' => ?_, fun r h' => (by cases h')⟩
   cases h'
   refine ⟨?_, Nat.le_trans (AX5 v k b x a) (by omega)⟩
   rw [Fw, AO, AM, decide_eq_true hi]
   simp only [Ah hx, Ap]
   rw [AL (by omega)]
   unfold AOw oth
   by_cases h1 : x.2.2.1 = k
   ·by_cases h2 : x.2.2.2.1 = b
    ·have hb : (x.2.2.2.1 == b) = true := by rw [h2]; simp
     rw [if_pos ⟨h1, h2⟩, decide_eq_true h1, hb]
     by_cases h3 : v = x.1
     ·rw [decide_eq_true h3, if_pos h3]
      simp only [Bool.not_true]
      rw [BM (by simp only [AO, List.length_cons, List.length_nil]; omega), B1]
     ·rw [decide_eq_false h3, if_neg h3]
      by_cases h4 : v = x.2.1
      ·rw [decide_eq_true h4, if_pos h4]
       simp only [Bool.not_true]
       rw [BM (by simp only [AO, List.length_cons, List.length_nil]; omega), B1]
      ·rw [decide_eq_false h4, if_neg h4]
       rfl
    ·have hb : (x.2.2.2.1 == b) = false := by simpa using h2
     rw [if_neg (fun c => h2 c.2), decide_eq_true h1, hb]
     rfl
   ·rw [if_neg (fun c => h1 c.1), decide_eq_false h1]
    rfl)
  (fun a _ => by rw [Fw, AO, AM, decide_eq_false (by omega)]) [] (by simp)
 have e' : AX Fw many (v, k, b, ([] : List Int), ts, AN ts, (0 : Int), ()) = _ := e
 rw [e', Ba (fun t a => AOw v k b t a), AUI, List.nil_append]
def nr (ts : List Tie) (v k : Int) (b : Bool) (u : Nat) : Bool := ts.any fun t => Db (u : Int) v t && (decide (t.2.2.1 = k) && (t.2.2.2.1 == b))
theorem AYf {N : Nat} {ts : List Tie} (ho : oks N ts) {u v : Int} {t t' : Tie} (ht : t ∈ ts) (ht' : t' ∈ ts) (h : Db u v t = true) (h' : Db u v t' = true) : t = t' := by
 have hp := ((Oh N ts).1 ho).2
 obtain ⟨i, hi, rfl⟩ := List.getElem_of_mem ht
 obtain ⟨j, hj, rfl⟩ := List.getElem_of_mem ht'
 unfold Db at h h'
 rw [decide_eq_true_iff] at h h'
 rcases Nat.lt_trichotomy i j with hij | hij | hij
 ·have := List.pairwise_iff_getElem.1 hp i j hi hj hij
  unfold ahead at this
  omega
 ·subst hij; rfl
 ·have := List.pairwise_iff_getElem.1 hp j i hj hi hij
  unfold ahead at this
  omega
theorem AYI {N : Nat} {ts : List Tie} (ho : oks N ts) {v k : Int} {b : Bool} {u : Nat} {t : Tie} (ht : t ∈ ts) (h : Db (u : Int) v t = true) : nr ts v k b u = (decide (t.2.2.1 = k) && (t.2.2.2.1 == b)) := by
 unfold nr
 rw [Bool.eq_iff_iff, List.any_eq_true]
 constructor
 ·rintro ⟨t', ht', h'⟩
  rw [Bool.and_eq_true] at h'
  rw [AYf ho ht ht' h h'.1]
  exact h'.2
 ·intro h2
  exact ⟨t, ht, by rw [Bool.and_eq_true]; exact ⟨h, h2⟩⟩
theorem Aaj {ts : List Tie} {v k : Int} {b : Bool} {u : Nat} (h : ts.any (Db (u : Int) v) = false) : nr ts v k b u = false := by
 unfold nr
 rw [List.any_eq_false] at h ⊢
 intro t ht hc
 rw [Bool.and_eq_true] at hc
 exact h t ht hc.1
theorem AVp (P : Nat → Bool) : ∀ (ks : List Nat) (a : List Int), ks.foldl (fun a (u : Nat) => if P u = true then a ++ [(u : Int)] else a) a = a ++ (ks.filter P).map fun (u : Nat) => (u : Int) := by
 intro ks
 induction ks with
 | nil => intro a; simp
 | cons x ks ih =>
  intro a
  rw [List.foldl_cons, ih, List.filter_cons]
  by_cases h : P x = true
  ·rw [if_pos h, if_pos h]; simp
  ·rw [if_neg h, if_neg h]
theorem AKy {N : Nat} {ts : List Tie} (h : RG2 N ts) (v k : Int) (b : Bool) :
  AX EJ many (v, k, b, (N : Int), ts, ([] : List Int), (0 : Int), ()) = some (.inl (((List.range N).filter (nr ts v k b)).map (fun (u : Nat) => (u : Int)), ())) := by
 have hN := h.hN
 have e := De (step := EJ) (fun i (a : List Int) => (v, k, b, (N : Int), ts, a, (i : Int), ())) (List.range N) (fun u a => .inl (if nr ts v k b u = true then a ++ [(u : Int)] else a)) (fun a => .inl (a, ())) (fun i a => a.length ≤ i) (by simp; omega)
  (fun i x a hi hx ha => by
   refine ⟨fun m' h' => ?_, fun r h' => (by cases h')⟩
   cases h'
   have := Ey hx
   subst this
   rw [List.length_range] at hi
   refine ⟨?_, by
    show (if _ then _ else _ : List Int).length ≤ _
    split
    ·rw [List.length_append, List.length_singleton]; omega
    ·omega⟩
   rw [EJ, AM, decide_eq_true hi]
   simp only [Na h]
   rw [AL (by omega)]
   by_cases hany : ts.any (Db (x : Int) v) = true
   ·have hlt : ts.findIdx (Db (x : Int) v) < ts.length := List.findIdx_lt_length.2 (List.any_eq_true.1 hany)
    have hat : Db (x : Int) v ts[ts.findIdx (Db (x : Int) v)] = true := List.findIdx_getElem
    have hget : ts[ts.findIdx (Db (x : Int) v)]? = some ts[ts.findIdx (Db (x : Int) v)] := by simp [hlt]
    rw [AYI h.oks (List.getElem_mem hlt) hat]
    simp only [if_pos hany]
    generalize ts[ts.findIdx (Db (x : Int) v)] = t at *
    rw [Ao, decide_eq_true (by omega)]
    simp only [Ah hget, Ap]
    cases h1 : decide (t.2.2.1 = k)
    ·rfl
    ·cases h2 : (t.2.2.2.1 == b)
     ·rfl
     ·simp only []
      rw [BM (by simp only [AO, List.length_cons, List.length_nil]; omega), B1]
      rfl
   ·have hany' : ts.any (Db (x : Int) v) = false := by simpa using hany
    rw [Aaj hany', if_neg hany]
    rw [Ao, decide_eq_false (by omega)]
    rfl)
  (fun a _ => by rw [EJ, List.length_range, AM, decide_eq_false (by omega)]) [] (by simp)
 have e' : AX EJ many (v, k, b, (N : Int), ts, ([] : List Int), (0 : Int), ()) = _ := e
 rw [e', Ba (fun (u : Nat) (a : List Int) => if nr ts v k b u = true then a ++ [(u : Int)] else a), AVp, List.nil_append]
theorem Yc {v k : Int} {b : Bool} {t : Tie} {u : Int} (h : oth v k b t = some u) : t.2.2.1 = k ∧ t.2.2.2.1 = b ∧ ((v = t.1 ∧ u = t.2.1) ∨ (v ≠ t.1 ∧ v = t.2.1 ∧ u = t.1)) := by
 unfold oth at h
 split at h
 ·rename_i h1
  split at h
  ·cases h; exact ⟨h1.1, h1.2, .inl ⟨by assumption, rfl⟩⟩
  ·split at h
   ·cases h; exact ⟨h1.1, h1.2, .inr ⟨by assumption, by assumption, rfl⟩⟩
   ·cases h
 ·cases h
theorem AUV {N : Nat} {ts : List Tie} (h : RG2 N ts) (v k : Int) (b : Bool) : SI.sorted (ts.filterMap (oth v k b)) = ((List.range N).filter (nr ts v k b)).map (fun (u : Nat) => (u : Int)) := by
 have hp := ((Oh N ts).1 h.oks).2
 refine List.Perm.eq_of_pairwise (le := fun a b : Int => a ≤ b) (fun a b _ _ h1 h2 => by omega) ?_ ?_ ?_
 ·unfold SI.sorted
  exact (List.pairwise_mergeSort (le := fun x y : Int => decide (x ≤ y)) (fun a b c h1 h2 => by rw [decide_eq_true_iff] at *; omega) (fun a b => by simp only [Bool.or_eq_true, decide_eq_true_iff]; omega) _).imp fun h => by simpa using h
 ·rw [List.pairwise_map]
  exact ((List.pairwise_lt_range (n := N)).filter _).imp fun h => by omega
 ·unfold SI.sorted
  refine (List.mergeSort_perm _ _).trans ?_
  rw [List.perm_ext_iff_of_nodup]
  ·intro u
   rw [List.mem_filterMap, List.mem_map]
   constructor
   ·rintro ⟨t, ht, hu⟩
    obtain ⟨h1, h2, h3⟩ := Yc hu
    obtain ⟨i1, i2, i3, _⟩ := h.tie ht
    obtain ⟨m, rfl⟩ : ∃ m : Nat, u = (m : Int) := Int.eq_ofNat_of_zero_le (by have := i1.2.2.1; have := i2.2.2.1; omega)
    have hlt : m < N := by have := i1.2.2.2; have := i2.2.2.2; omega
    refine ⟨m, ?_, rfl⟩
    rw [List.mem_filter, List.mem_range]
    refine ⟨hlt, ?_⟩
    have hat : Db (m : Int) v t = true := by
     unfold Db
     rw [decide_eq_true_iff]
     omega
    rw [AYI h.oks ht hat, h1, h2]
    simp
   ·rintro ⟨m, hm, rfl⟩
    rw [List.mem_filter, List.mem_range] at hm
    obtain ⟨hlt, hn⟩ := hm
    unfold nr at hn
    rw [List.any_eq_true] at hn
    obtain ⟨t, ht, hn⟩ := hn
    rw [Bool.and_eq_true, Bool.and_eq_true, decide_eq_true_iff, beq_iff_eq] at hn
    obtain ⟨h1, h2, h3⟩ := hn
    refine ⟨t, ht, ?_⟩
    obtain ⟨i1, i2, i3, _⟩ := h.tie ht
    unfold Db at h1
    rw [decide_eq_true_iff] at h1
    unfold oth
    rw [if_pos ⟨h2, h3⟩]
    by_cases hv : v = t.1
    ·rw [if_pos hv]; congr 1; omega
    ·rw [if_neg hv, if_pos (by omega)]; congr 1; omega
  ·rw [List.Nodup, List.pairwise_filterMap]
   refine hp.imp_of_mem fun {t t'} ht ht' ha u hu u' hu' => ?_
   obtain ⟨_, _, h1⟩ := Yc hu
   obtain ⟨_, _, h2⟩ := Yc hu'
   obtain ⟨_, _, i3, _⟩ := h.tie ht
   obtain ⟨_, _, j3, _⟩ := h.tie ht'
   unfold ahead at ha
   omega
  ·rw [List.Nodup, List.pairwise_map]
   exact ((List.pairwise_lt_range (n := N)).filter _).imp fun h => by omega
theorem AUw {N : Nat} {ts : List Tie} (h : RG2 N ts) (v k : Int) (b : Bool) : Tx (((N : Int), (ts, ())), v, k, b, ()) = some (if 0 ≤ v ∧ v < (N : Int) then (((List.range N).filter (nr ts v k b)).map (fun (u : Nat) => (u : Int)), 0, ()) else ([], 10, ())) := by
 have ht := h.ht
 rw [Y9, Oq]
 simp only [h.lr, Bool.not_true]
 rw [Am, Ao]
 by_cases h1 : v < 0
 ·rw [decide_eq_true h1, if_neg (by omega)]
 ·rw [decide_eq_false h1]
  by_cases h2 : (N : Int) ≤ v
  ·rw [decide_eq_true h2, if_neg (by omega)]
  ·rw [decide_eq_false h2, if_pos (by omega)]
   have hl : (ts.filterMap (oth v k b)).length ≤ ts.length := List.length_filterMap_le ..
   simp only [APg v k b ts h.ht, SI.ATX _ (show (ts.filterMap (oth v k b)).length < 4294967296 by omega), AUV h]
theorem APB {N : Nat} {ts : List Tie} (h : RG2 N ts) (v k : Int) (b : Bool) : RY (((N : Int), (ts, ())), v, k, b, ()) = some (if 0 ≤ v ∧ v < (N : Int) then (((List.range N).filter (nr ts v k b)).map (fun (u : Nat) => (u : Int)), 0, ()) else ([], 10, ())) := by
 rw [RX, KS]
 simp only [h.r21, Bool.not_true]
 rw [Am, Ao]
 by_cases h1 : v < 0
 ·rw [decide_eq_true h1, if_neg (by omega)]
 ·rw [decide_eq_false h1]
  by_cases h2 : (N : Int) ≤ v
  ·rw [decide_eq_true h2, if_neg (by omega)]
  ·rw [decide_eq_false h2, if_pos (by omega)]
   simp only [AKy h v k b]
theorem ACj (x y : Tie) : (ieq x.1 y.1 && (ieq x.2.1 y.2.1 && (ieq x.2.2.1 y.2.2.1 && ((x.2.2.2.1 == y.2.2.2.1) && true)))) = decide (x = y) := by
 obtain ⟨a, b, c, d, ⟨⟩⟩ := x
 obtain ⟨a', b', c', d', ⟨⟩⟩ := y
 simp only [Ap]
 rw [Bool.eq_iff_iff]
 simp only [Bool.and_eq_true, decide_eq_true_iff, beq_iff_eq, Prod.mk.injEq, and_true]
theorem AQb (xs ys : List Tie) (hs : xs.length < 4611686018427387904) : Z5 (xs, ys, ()) = some (decide (xs = ys), ()) := by
 rw [ADp, PI, Kd]
 by_cases hl : xs.length = ys.length
 ·rw [decide_eq_true hl]
  simp only [Bool.not_true]
  have e := ACp (step := EN) (fun i => (xs, ys, AN xs, (i : Int), ())) xs.length (fun i => !decide (xs.getD i zT = ys.getD i zT)) (fun _ => .inl (false, ())) (.inr (.inl ())) (by omega)
   (fun i hi => by
    have hx : xs[i]? = some xs[i] := List.getElem?_eq_getElem hi
    have hy : ys[i]? = some (ys[i]'(by omega)) := List.getElem?_eq_getElem (by omega)
    have gx : xs.getD i zT = xs[i] := by simp [hi]
    have gy : ys.getD i zT = ys[i]'(by omega) := by simp [show i < ys.length by omega]
    rw [EN, AO, AM, decide_eq_true hi]
    simp only [Ah hx, Ah hy, ACj, gx, gy]
    rw [AL (by omega)]
    by_cases he : xs[i] = ys[i]'(by omega)
    ·simp [he]
    ·simp [he])
   (by rw [EN, AO, AM, decide_eq_false (by omega)])
  rcases e with ⟨k, k1, k2, _, k4⟩ | ⟨k1, k2⟩
  ·have k4' : AX EN many (xs, ys, AN xs, (0 : Int), ()) = _ := k4
   simp only [k4']
   rw [decide_eq_false]
   rintro rfl
   simp at k2
  ·have k2' : AX EN many (xs, ys, AN xs, (0 : Int), ()) = _ := k2
   simp only [k2']
   rw [decide_eq_true]
   exact Eh zT hl fun j hj => by simpa using k1 j hj
 ·rw [decide_eq_false hl]
  simp only [Bool.not_false]
  rw [decide_eq_false]
  rintro rfl
  exact hl rfl
theorem ADQ (n m : Int) (xs ys : List Tie) (hs : xs.length < 4611686018427387904) : Y0 ((n, (xs, ())), (m, (ys, ())), ()) = some (decide (n = m ∧ xs = ys), ()) := by
 rw [ALA, Vv]
 simp only [Ap, AQb xs ys hs]
 by_cases h : n = m
 ·rw [decide_eq_true h]
  simp [h]
 ·rw [decide_eq_false h]
  simp [h]
theorem ANZ (n m : Int) (xs ys : List Tie) (hs : xs.length < 4611686018427387904) : W6 ((n, (xs, ())), (m, (ys, ())), ()) = some (decide (n = m ∧ xs = ys), ()) := by
 rw [ACs, OJ]
 simp only [Kd]
 rw [Ap]
 by_cases hn : n = m
 ·rw [decide_eq_true hn]
  simp only [Bool.not_true]
  by_cases hl : xs.length = ys.length
  ·rw [decide_eq_true hl]
   have e := ACp (step := EC) (fun i => (n, xs, m, ys, (i : Int), ())) xs.length (fun i => !decide (xs.getD i zT = ys.getD i zT)) (fun _ => .inl (false, ())) (.inr (.inl ())) (by omega)
    (fun i hi => by
     have hx : xs[i]? = some xs[i] := List.getElem?_eq_getElem hi
     have hy : ys[i]? = some (ys[i]'(by omega)) := List.getElem?_eq_getElem (by omega)
     have gx : xs.getD i zT = xs[i] := by simp [hi]
     have gy : ys.getD i zT = ys[i]'(by omega) := by simp [show i < ys.length by omega]
     rw [EC, AO, AM, decide_eq_true hi]
     simp only [Ah hx, Ah hy, ACj, gx, gy]
     rw [AL (by omega)]
     by_cases he : xs[i] = ys[i]'(by omega)
     ·simp [he]
     ·simp [he])
    (by rw [EC, AO, AM, decide_eq_false (by omega)])
   rcases e with ⟨k, k1, k2, _, k4⟩ | ⟨k1, k2⟩
   ·have k4' : AX EC many (n, xs, m, ys, (0 : Int), ()) = _ := k4
    simp only [Bool.not_true, k4']
    rw [decide_eq_false]
    rintro ⟨_, rfl⟩
    simp at k2
   ·have k2' : AX EC many (n, xs, m, ys, (0 : Int), ()) = _ := k2
    simp only [Bool.not_true, k2']
    rw [decide_eq_true]
    exact ⟨hn, Eh zT hl fun j hj => by simpa using k1 j hj⟩
  ·rw [decide_eq_false hl]
   simp only [Bool.not_false]
   rw [decide_eq_false]
   rintro ⟨_, rfl⟩
   exact hl rfl
 ·rw [decide_eq_false hn]
  simp only [Bool.not_false]
  rw [decide_eq_false]
  exact fun h => hn h.1
end Go.Pev.Pl
end
section
namespace Go.Pev.Pl
open Tok
set_option linter.unusedSimpArgs false
set_option maxRecDepth 100000
theorem ANb (n m : Int) (xs ys : List (List Int)) (hs : xs.length < 9223372036854775808) (hi : ∀ x ∈ xs, x.length < 9223372036854775808) : Qm ((n, (xs, ())), (m, (ys, ())), ()) = some (decide (n = m ∧ xs = ys), ()) := by
 rw [ACt, OK]
 simp only [Ap, Tz xs ys hs hi]
 by_cases h : n = m <;> simp [h]
theorem TQ (n : Int) (rings : List (List Int)) (hD : Dom rings) : Qm ((n, (rings, ())), (n, (rings, ())), ()) = some (true, ()) := by
 rw [ANb n n rings rings (by have := hD.1; omega) (fun l hl => by have := (hD.2 l hl).1; omega)]
 simp
theorem VW {n : Int} (l : List Edge) (hs : l.length < 1073741824) (ha : ∀ e ∈ l, In n e.1 ∧ In n e.2.1) :
  ∀ (m i c1 c2 : Nat) (rings : List (List Int)) (t1 t2 : List Bool), i + m = l.length → t1.length = i → t2.length = i → FC n rings (l.take i) → m < c1 → m < c2 →
  ∃ zs b1 b2, AS Dz c1 (l, n, rings, (0 : Int), t1, (i : Int), ()) = some (.inl (n, zs, (0 : Int), b1, ())) ∧ AS Bk c2 (n, rings, (0 : Int), t2, l, (l.length : Int), (i : Int), ()) = some (.inl (n, zs, (0 : Int), b2, ())) ∧ FC n zs l := by
 intro m
 induction m with
 | zero =>
  intro i c1 c2 rings t1 t2 hi ht1 ht2 h hc1 hc2
  obtain ⟨c1, rfl⟩ : ∃ c, c1 = c + 1 := ⟨c1 - 1, by omega⟩
  obtain ⟨c2, rfl⟩ : ∃ c, c2 = c + 1 := ⟨c2 - 1, by omega⟩
  rw [List.take_of_length_le (by omega)] at h
  refine ⟨rings, t1, t2, ?_, ?_, h⟩
  ·rw [AS, Dz, AO, AM, decide_eq_false (by omega)]
  ·rw [AS, Bk, AM, decide_eq_false (by omega)]
 | succ m ih =>
  intro i c1 c2 rings t1 t2 hi ht1 ht2 h hc1 hc2
  obtain ⟨c1, rfl⟩ : ∃ c, c1 = c + 1 := ⟨c1 - 1, by omega⟩
  obtain ⟨c2, rfl⟩ : ∃ c, c2 = c + 1 := ⟨c2 - 1, by omega⟩
  have hi' : i < l.length := by omega
  have hx : l[i]? = some l[i] := List.getElem?_eq_getElem hi'
  obtain ⟨iu, iv⟩ := ha _ (List.getElem_mem hi')
  obtain ⟨zs, q, e1, e2, _⟩ := ASx h iu iv
  obtain ⟨zs', q', f1, f2, _⟩ := ARE (n := n) (rings := rings) l[i].1 l[i].2.1 h.fr.dom
  rw [e1] at f1
  cases f1
  rw [← List.take_succ_eq_append_getElem hi'] at e2
  obtain ⟨zs2, b1, b2, g1, g2, g3⟩ := ih (i + 1) c1 c2 zs (A8 t1 [ieq q 0]) (A8 t2 [ieq q 0]) (by omega) (by simp [B1, ht1]) (by simp [B1, ht2]) e2 (by omega) (by omega)
  refine ⟨zs2, b1, b2, ?_, ?_, g3⟩
  ·rw [AS, Dz, AO, AM, decide_eq_true hi']
   simp only [Ah hx, f2]
   rw [AL (by omega), BM (by simp only [AO, List.length_cons, List.length_nil]; omega)]
   exact g1
  ·rw [AS, Bk, AM, decide_eq_true hi']
   simp only [Ah hx, e1]
   rw [AL (by omega), BM (by simp only [AO, List.length_cons, List.length_nil]; omega)]
   exact g2
theorem AbW {N : Nat} (h1 : 1 ≤ N) (hN : N ≤ 64) (l : List Edge) (hs : l.length < 1073741824) (ha : ∀ e ∈ l, In (N : Int) e.1 ∧ In (N : Int) e.2.1) :
  ∃ zs, fof ((N : Int), l, ()) = some (((N : Int), (zs, ())), 0, ()) ∧ AYH ((N : Int), l, ()) = some (((N : Int), (zs, ())), 0, ()) ∧ FC (N : Int) zs l := by
 have hF := AAl h1 hN
 have hD := hF.fr.dom
 have hRF := K4.2 hF.fr
 obtain ⟨zs, b1, b2, e1, e2, h2⟩ := VW l hs ha l.length 0 many many (BD N) [] [] (by omega) rfl rfl (by simpa using hF) (by simp only [many]; omega) (by simp only [many]; omega)
 refine ⟨zs, ?_, ?_, h2⟩
 ·have hth : NT (((N : Int), (BD N, ())), l.flatMap fun e => [e.1, e.2.1], ()) = some (0, ()) := by
   have hfl := AL7 l
   rw [Zm _ _ _ hD (by omega), AL8, AMh, if_pos hRF]
   split
   ·rfl
   ·rename_i hc
    exact absurd (List.all_eq_true.2 fun e he => decide_eq_true (ha e he)) hc
  have hm : GQ (N : Int) = ((N : Int), BD N, 0, ()) := by
   unfold GQ
   rw [if_pos (show Sz (N : Int) from ⟨by omega, by omega⟩), Int.toNat_natCast]
  have e2' : AS Bk many ((N : Int), BD N, (0 : Int), [], l, (l.length : Int), (0 : Int), ()) = _ := e2
  rw [AQW, ALx]
  simp only [ACh, hm, O6, Bool.not_true]
  rw [SQ, Kj, Km, HN]
  simp only [Z7 l hs, hth, O6, Bool.not_true, Ai, AO, e2']
 ·have hall : (l.all fun e => decide (In (N : Int) e.1) && decide (In (N : Int) e.2.1)) = true := by
   rw [List.all_eq_true]
   intro e he
   obtain ⟨h1, h2⟩ := ha e he
   simp [h1, h2]
  have e1' : AX Dz many (l, (N : Int), BD N, (0 : Int), [], (0 : Int), ()) = _ := (Ai _ _ _).trans e1
  have hE : AMh (N : Int) (BD N) true = 0 := by
   unfold AMh
   simp [hRF]
  have hL : Ot (((N : Int), (BD N, ())), l, ()) = some (((N : Int), (zs, ())), b1, 0, ()) := by
   rw [ZF, Lw]
   simp only [AIx (N : Int) (BD N) l hD (by omega), hall]
   rw [hE]
   simp only [L0, Bool.not_true, e1']
  have hm : Rn ((N : Int), ()) = some ((N : Int), BD N, 0, ()) := by
   rw [APT]
   unfold GQ
   rw [if_pos (show Sz (N : Int) from ⟨by omega, by omega⟩), Int.toNat_natCast]
  rw [AR7, AGC]
  simp only [hm, L0, Bool.not_true, hL]
theorem RG2.both {N : Nat} {ts : List Tie} (h : RG2 N ts) (k : Int) : ∃ zs, GS (((N : Int), (ts, ())), k, ()) = some (((N : Int), (zs, ())), 0, ()) ∧ Ih (((N : Int), (ts, ())), k, ()) = some (((N : Int), (zs, ())), 0, ()) ∧ FC (N : Int) zs (trk ts k) := by
 have hl := h.AcI k
 obtain ⟨zs, e1, e2, hF⟩ := AbW h.h1 h.hN (trk ts k) (by omega) (h.inK k)
 refine ⟨zs, ?_, ?_, hF⟩
 ·rw [JM, Gf]
  simp only [h.lr, Bool.not_true, AK8 (N : Int) ts h.ht k, e1]
 ·rw [Ki, HJ]
  simp only [h.r21, Bool.not_true, ATB (N : Int) ts h.ht k, e2]
theorem AWi (n : Int) : ∃ x, Rp (n, ()) = some (x, ()) ∧ He (n, ()) = some (x, ()) := by
 by_cases h : 1 ≤ n ∧ n ≤ 64
 ·obtain ⟨m, rfl⟩ := Int.eq_ofNat_of_zero_le (show 0 ≤ n by omega)
  exact ⟨_, On m (by omega), Qb m (by omega)⟩
 ·refine ⟨0, ?_, ?_⟩
  ·have hz : NC (n, ()) = some (false, ()) := by
    rw [Lt, IV, Ao, Ao]
    by_cases h1 : 1 ≤ n
    ·rw [decide_eq_true h1, decide_eq_false (show ¬ n ≤ 64 by omega)]
    ·rw [decide_eq_false h1]
   rw [ASD, AGR]
   simp only [hz, Bool.not_false]
  ·rw [AIq, Vd, Am, Am]
   by_cases h1 : n < 1
   ·rw [decide_eq_true h1]
   ·rw [decide_eq_false h1, decide_eq_true (show 64 < n by omega)]
end Go.Pev.Pl
end
section
namespace Go.Pev.Pl
open Tok
set_option linter.unusedSimpArgs false
set_option maxRecDepth 100000
theorem AH0 : H5 () = some (true, ()) := by
 rw [show H5 () = @H5 idI () from congrArg (fun i => @H5 i ()) Y8]
 kernel_rfl
theorem T7 (n : Int) (ts : List Tie) : JQ ((n, (ts, ())), ()) = some (true, ()) ∨ (JQ ((n, (ts, ())), ()) = some (false, ()) ∧ ts.length ≤ 40 ∧ n ≤ 16) := by
 rw [Zk, L3]
 simp only [AO, Am]
 by_cases h1 : (40 : Int) < ts.length
 ·left; simp only [decide_eq_true h1]
 by_cases h2 : (16 : Int) < n
 ·left; simp only [decide_eq_false h1, decide_eq_true h2]
 ·right; simp only [decide_eq_false h1, decide_eq_false h2]; exact ⟨trivial, by omega, by omega⟩
section
variable (n : Int) (ts : List Tie)
theorem ALM (k : Int) (hr : CZ ((n, (ts, ())), ()) = some (false, ())) : GS ((n, (ts, ())), k, ()) = some ((0, ([], ())), 1, ()) := by
 rw [JM, Gf]
 simp only [hr, Bool.not_false]
theorem AHG (k : Int) (hr : Bl ((n, (ts, ())), ()) = some (false, ())) : Ih ((n, (ts, ())), k, ()) = some ((0, ([], ())), 1, ()) := by
 rw [Ki, HJ]
 simp only [hr, Bool.not_false]
theorem AUy (v k : Int) (b : Bool) (hr : CZ ((n, (ts, ())), ()) = some (false, ())) : Tx ((n, (ts, ())), v, k, b, ()) = some ([], 1, ()) := by
 rw [Y9, Oq]
 simp only [hr, Bool.not_false]
theorem APD (v k : Int) (b : Bool) (hr : Bl ((n, (ts, ())), ()) = some (false, ())) : RY ((n, (ts, ())), v, k, b, ()) = some ([], 1, ()) := by
 rw [RX, KS]
 simp only [hr, Bool.not_false]
theorem ALS (hr : CZ ((n, (ts, ())), ()) = some (false, ())) : JO ((n, (ts, ())), ()) = some ([], [], ()) := by
 rw [NF, IZ]
 simp only [hr, Bool.not_false]
theorem AHV (hr : Bl ((n, (ts, ())), ()) = some (false, ())) : Ip ((n, (ts, ())), ()) = some ([], [], ()) := by
 rw [Ko, HO]
 simp only [hr, Bool.not_false]
theorem AU5 (u v : Int) (hr : CZ ((n, (ts, ())), ()) = some (false, ())) : T1 ((n, (ts, ())), u, v, ()) = some (-1, ()) := by
 rw [ZK, Ou]
 simp only [hr, Bool.not_false]
theorem AQa (u v : Int) (hr : Bl ((n, (ts, ())), ()) = some (false, ())) : Nb ((n, (ts, ())), u, v, ()) = some (-1, ()) := by
 rw [SR, Kk]
 simp only [hr, Bool.not_false]
theorem APs (hr : CZ ((n, (ts, ())), ()) = some (false, ())) : ND ((n, (ts, ())), ()) = some ([], ()) := by
 rw [R9, Ka]
 simp only [hr, Bool.not_false]
theorem AMB (hr : Bl ((n, (ts, ())), ()) = some (false, ())) : L4 ((n, (ts, ())), ()) = some ([], ()) := by
 rw [Nc, Il]
 simp only [hr, Bool.not_false]
end
theorem AaS (x : Int) : ∃ y, rem? x (2 : Int) = some y := by
 rw [Xd, VH]
 exact ⟨_, by rw [if_neg (by omega)]⟩
theorem Ov (g : Int × List Tie × Unit) (g' : Int × List Tie × Unit) (th : List Int)
  (h0 : wfD (.prod (.int .i64) (.prod (.slice (.prod (.int .i64) (.prod (.int .i64) (.prod (.int .i64) (.prod .bool .unit))))) .unit)) g)
  (h1 : wfD (.prod (.int .i64) (.prod (.slice (.prod (.int .i64) (.prod (.int .i64) (.prod (.int .i64) (.prod .bool .unit))))) .unit)) g')
  (h2 : wfD (.arr 3 (.int .i64)) th) : DN (g, g', th, ()) = some (true, ()) := by
 obtain ⟨n, ts, ⟨⟩⟩ := g
 obtain ⟨n', ts', ⟨⟩⟩ := g'
 rw [Ju, Ec]
 simp only [AH0, Bool.not_true]
 rcases T7 n ts with g1 | ⟨g1, g2, g3⟩
 ·simp only [g1]
 rcases T7 n' ts' with g4 | ⟨g4, g5, g6⟩
 ·simp only [g1, g4]
 simp only [g1, g4]
 obtain ⟨y, hy⟩ := AaS (AT th 2 (0 : Int))
 obtain ⟨x, t1, t2⟩ := AWi (AT th 0 (0 : Int))
 have s1 := ADQ n n' ts ts' (by omega)
 have s2 := ANZ n n' ts ts' (by omega)
 have s3 := ADQ n n ts ts (by omega)
 rcases ATn n ts (by omega) with ⟨r1, r⟩ | ⟨N, rfl, h⟩
 ·have e1 := TR [] (by simp)
  have e2 := TQ 0 [] ⟨by simp, by simp⟩
  have e3 := D0 [] [] (by simp)
  simp only [ALM n ts _ r, AHG n ts _ r1, hy, AUy n ts _ _ _ r, APD n ts _ _ _ r1, ALS n ts r, AHV n ts r1, e2, Ap, decide_true, e3, r, r1, beq_self_eq_true, AU5 n ts _ _ r, AQa n ts _ _ r1,
   APs n ts r, AMB n ts r1, e1, t1, t2, s1, s2, s3, and_self]
 ·obtain ⟨zs, f1, f2, hF⟩ := h.both (AT th 0 (0 : Int))
  have e1 := TR (ts.map ed) (by rw [List.length_map]; omega)
  have e2 := TQ (N : Int) zs hF.fr.dom
  have hT := AEc h.hN
  have hN := h.hN
  have e4 := D0 (BH true ts (Eo N + 1)) (BH true ts (Eo N + 1)) (by rw [DR]; omega)
  have e5 := D0 (BH false ts (Eo N + 1)) (BH false ts (Eo N + 1)) (by rw [DR]; omega)
  have key : ∀ (w : List Int × Int × Unit), w.1.length < 9223372036854775808 → GD (w.1, w.1, ()) = some (true, ()) := fun w hw => by
   rw [D0 _ _ hw]; simp
  have hlen : ∀ (v k : Int) (b : Bool), (((List.range N).filter (nr ts v k b)).map (fun (u : Nat) => (u : Int))).length < 9223372036854775808 := fun v k b => by
   rw [List.length_map]
   have := List.length_filter_le (nr ts v k b) (List.range N)
   rw [List.length_range] at this
   omega
  simp only [f1, f2, hy, AUw h, APB h]
  have key2 := fun (v k : Int) (b : Bool) => D0 (((List.range N).filter (nr ts v k b)).map (fun (u : Nat) => (u : Int))) (((List.range N).filter (nr ts v k b)).map (fun (u : Nat) => (u : Int))) (hlen v k b)
  have e3 := D0 [] [] (by simp)
  by_cases hv : 0 ≤ AT th 1 (0 : Int) ∧ AT th 1 (0 : Int) < (N : Int)
  ·simp only [if_pos hv, T2 h, PO h, e2, Ap, decide_true, key2, e4, e5, h.lr, h.r21, beq_self_eq_true, ADU h, Na h, ZN _ _ h.ht h.lr, UA _ _ h.ht h.r21, e1, t1, t2, s1, s2, s3, and_self]
  ·simp only [if_neg hv, T2 h, PO h, e2, Ap, decide_true, e3, e4, e5, h.lr, h.r21, beq_self_eq_true, ADU h, Na h, ZN _ _ h.ht h.lr, UA _ _ h.ht h.r21, e1, t1, t2, s1, s2, s3, and_self]
end Go.Pev.Pl
end
section
namespace Go.Pev
open Go.Proofs
set_option maxRecDepth 100000
noncomputable section
abbrev Za : Hints := { loop := fun n => match n with | 0 => Ac 0 26 ADZ ADY EM | _ => fun _ _ _ => none, fp := fun n => match n with | 6 => [[], [], [], [], [], [], [], [], []] | _ => [] }
theorem AGu : ∀ v, EM v = roundOf Tryz.prog Env.none Za 1 0 26 (AB Tryz.f48 0) ADZ ADY v := by
 rintro ⟨a0, a1, a2, ⟨⟩⟩
 kernel_rfl
theorem AVE : AD (AB Tryz.f48 0) 1 = [] := by kernel_rfl
theorem AVF : Aa Tryz.prog 0 (.loop (AB Tryz.f48 0)) (Za.loop 0) := AW Env.AGD (AGu) (AA AVE trivial)
theorem AP2 : ∀ v, Oz v = AP Tryz.prog Env.none Za Tryz.f48 ZZ ZY ZX v := by
 rintro ⟨a0, a1, ⟨⟩⟩
 kernel_rfl
theorem AYg : AD (AU Tryz.f48) 0 = [(0, AB Tryz.f48 0)] := by kernel_rfl
theorem ALT : AQ Tryz.prog 48 (AF 2 ZZ ZY ZX GD) := AI Env.AGD Tryz.func48 (by kernel_rfl) (by kernel_rfl) rfl (fun v => (ADa v).trans (AP2 v)) (AA AYg ⟨AVF, trivial⟩)
def AA5 : Env := Env.none.ext 48 true true (AF 2 ZZ ZY ZX GD)
theorem UW : Ab Tryz.prog AA5 := Env.AZ Env.AGD ALT (fun _ => AJ rfl rfl) (fun _ => AH rfl rfl)
abbrev AWa : Hints := {  }
theorem AM1 : ∀ v, OB v = AP Tryz.prog AA5 AWa Tryz.f159 Wa WZ WY v := by
 rintro ⟨a0, ⟨⟩⟩
 kernel_rfl
theorem AWZ : AD (AU Tryz.f159) 0 = [] := by kernel_rfl
theorem AIf : AQ Tryz.prog 159 (AF 1 Wa WZ WY J6) := AI UW Tryz.func159 (by kernel_rfl) (by kernel_rfl) rfl (fun v => (ACR v).trans (AM1 v)) (AA AWZ trivial)
def AAo : Env := AA5.ext 159 true true (AF 1 Wa WZ WY J6)
theorem UL : Ab Tryz.prog AAo := Env.AZ UW AIf (fun _ => AJ rfl rfl) (fun _ => AH rfl rfl)
abbrev Acf : Hints := {  }
theorem AZ9 : ∀ v, ARd v = AP Tryz.prog AAo Acf Tryz.f156 AWr AWq AWp v := by
 rintro ⟨a0, a1, ⟨⟩⟩
 kernel_rfl
theorem Ace : AD (AU Tryz.f156) 0 = [] := by kernel_rfl
theorem AWo : AQ Tryz.prog 156 (AF 2 AWr AWq AWp tin) := AI UL Tryz.func156 (by kernel_rfl) (by kernel_rfl) rfl (fun v => (AWs v).trans (AZ9 v)) (AA Ace trivial)
def AZt : Env := AAo.ext 156 true true (AF 2 AWr AWq AWp tin)
theorem AMs : Ab Tryz.prog AZt := Env.AZ UL AWo (fun _ => AJ rfl rfl) (fun _ => AH rfl rfl)
abbrev Abw : Hints := {  }
theorem AWw : ∀ v, AEs v = AP Tryz.prog AZt Abw Tryz.f187 ANI ANH ANG v := by
 rintro ⟨a0, a1, a2, ⟨⟩⟩
 kernel_rfl
theorem Abv : AD (AU Tryz.f187) 0 = [] := by kernel_rfl
theorem ATR : AQ Tryz.prog 187 (AF 3 ANI ANH ANG ATS) := AI AMs Tryz.func187 (by kernel_rfl) (by kernel_rfl) rfl (fun v => (ARe v).trans (AWw v)) (AA Abv trivial)
def ARR : Env := AZt.ext 187 true true (AF 3 ANI ANH ANG ATS)
theorem AD6 : Ab Tryz.prog ARR := Env.AZ AMs ATR (fun _ => AJ rfl rfl) (fun _ => AH rfl rfl)
abbrev AWY : Hints := { fp := fun n => match n with | 5 => [[], [], [], [], [], [], [], [], []] | _ => [] }
theorem AM0 : ∀ v, OA v = AP Tryz.prog ARR AWY Tryz.f197 WW WV WU v := by
 rintro ⟨a0, a1, ⟨⟩⟩
 kernel_rfl
theorem AWX : AD (AU Tryz.f197) 0 = [] := by kernel_rfl
theorem AIe : AQ Tryz.prog 197 (AF 2 WW WV WU WX) := AI AD6 Tryz.func197 (by kernel_rfl) (by kernel_rfl) rfl (fun v => (ACQ v).trans (AM0 v)) (AA AWX trivial)
def Pk : Env := ARR.ext 197 true true (AF 2 WW WV WU WX)
theorem K8 : Ab Tryz.prog Pk := Env.AZ AD6 AIe (fun _ => AJ rfl rfl) (fun _ => AH rfl rfl)
abbrev AEm : Hints := { loop := fun n => match n with | 0 => Ac 0 25 AIu AIt Gv | _ => fun _ _ _ => none }
theorem AIs : ∀ v, Gv v = roundOf Tryz.prog Pk AEm 1 0 25 (AB Tryz.f129 0) AIu AIt v := by
 rintro ⟨a0, a1, a2, a3, a4, ⟨⟩⟩
 kernel_rfl
theorem AWm : AD (AB Tryz.f129 0) 1 = [] := by kernel_rfl
theorem AWn : Aa Tryz.prog 0 (.loop (AB Tryz.f129 0)) (AEm.loop 0) := AW K8 (AIs) (AA AWm trivial)
theorem ATO : ∀ v, Ve v = AP Tryz.prog Pk AEm Tryz.f129 AEl AEk AEj v := by
 rintro ⟨a0, ⟨⟩⟩
 kernel_rfl
theorem AZ6 : AD (AU Tryz.f129) 0 = [(0, AB Tryz.f129 0)] := by kernel_rfl
theorem ANB : AQ Tryz.prog 129 (AF 1 AEl AEk AEj AIw) := AI K8 Tryz.func129 (by kernel_rfl) (by kernel_rfl) rfl (fun v => (AIv v).trans (ATO v)) (AA AZ6 ⟨AWn, trivial⟩)
def WG : Env := Pk.ext 129 true true (AF 1 AEl AEk AEj AIw)
theorem Nu : Ab Tryz.prog WG := Env.AZ K8 ANB (fun _ => AJ rfl rfl) (fun _ => AH rfl rfl)
abbrev Zh : Hints := { loop := fun n => match n with | 0 => Ac 0 19 ADc ADb E6 | _ => fun _ _ _ => none }
theorem AGx : ∀ v, E6 v = roundOf Tryz.prog WG Zh 1 0 19 (AB Tryz.f146 0) ADc ADb v := by
 rintro ⟨a0, a1, a2, a3, ⟨⟩⟩
 kernel_rfl
theorem AVJ : AD (AB Tryz.f146 0) 1 = [] := by kernel_rfl
theorem AVK : Aa Tryz.prog 0 (.loop (AB Tryz.f146 0)) (Zh.loop 0) := AW Nu (AGx) (AA AVJ trivial)
theorem AQD : ∀ v, O3 v = AP Tryz.prog WG Zh Tryz.f146 Zg Zf Ze v := by
 rintro ⟨a0, a1, ⟨⟩⟩
 kernel_rfl
theorem AYp : AD (AU Tryz.f146) 0 = [(0, AB Tryz.f146 0)] := by kernel_rfl
theorem ALU : AQ Tryz.prog 146 (AF 2 Zg Zf Ze NO) := AI Nu Tryz.func146 (by kernel_rfl) (by kernel_rfl) rfl (fun v => (ADd v).trans (AQD v)) (AA AYp ⟨AVK, trivial⟩)
def AA6 : Env := WG.ext 146 true true (AF 2 Zg Zf Ze NO)
theorem UX : Ab Tryz.prog AA6 := Env.AZ Nu ALU (fun _ => AJ rfl rfl) (fun _ => AH rfl rfl)
abbrev AMK : Hints := {  }
theorem AB7 : ∀ v, Hz v = AP Tryz.prog AA6 AMK Tryz.f113 Kr Kq Kp v := by
 rintro ⟨a0, a1, ⟨⟩⟩
 kernel_rfl
theorem AMJ : AD (AU Tryz.f113) 0 = [] := by kernel_rfl
theorem AAG : AQ Tryz.prog 113 (AF 2 Kr Kq Kp FL) := AI UX Tryz.func113 (by kernel_rfl) (by kernel_rfl) rfl (fun v => (PQ v).trans (AB7 v)) (AA AMJ trivial)
def IA : Env := AA6.ext 113 true true (AF 2 Kr Kq Kp FL)
theorem Ha : Ab Tryz.prog IA := Env.AZ UX AAG (fun _ => AJ rfl rfl) (fun _ => AH rfl rfl)
abbrev APN : Hints := { loop := fun n => match n with | 0 => Ac 0 25 ASB ASA JI | _ => fun _ _ _ => none }
theorem APJ : ∀ v, JI v = roundOf Tryz.prog IA APN 1 0 25 (AB Tryz.f177 0) ASB ASA v := by
 rintro ⟨a0, a1, a2, ⟨⟩⟩
 kernel_rfl
theorem Aal : AD (AB Tryz.f177 0) 1 = [] := by kernel_rfl
theorem Aam : Aa Tryz.prog 0 (.loop (AB Tryz.f177 0)) (APN.loop 0) := AW Ha (APJ) (AA Aal trivial)
theorem AYN : ∀ v, AGH v = AP Tryz.prog IA APN Tryz.f177 APM APL APK v := by
 rintro ⟨a0, ⟨⟩⟩
 kernel_rfl
theorem AcF : AD (AU Tryz.f177) 0 = [(0, AB Tryz.f177 0)] := by kernel_rfl
theorem AUb : AQ Tryz.prog 177 (AF 1 APM APL APK AUc) := AI Ha Tryz.func177 (by kernel_rfl) (by kernel_rfl) rfl (fun v => (ASC v).trans (AYN v)) (AA AcF ⟨Aam, trivial⟩)
def ARW : Env := IA.ext 177 true true (AF 1 APM APL APK AUc)
theorem AEB : Ab Tryz.prog ARW := Env.AZ Ha AUb (fun _ => AJ rfl rfl) (fun _ => AH rfl rfl)
abbrev AbH : Hints := {  }
theorem AVa : ∀ v, V8 v = AP Tryz.prog ARW AbH Tryz.f201 AHC AHB AHA v := by
 rintro ⟨a0, ⟨⟩⟩
 kernel_rfl
theorem AbG : AD (AU Tryz.f201) 0 = [] := by kernel_rfl
theorem AQL : AQ Tryz.prog 201 (AF 2 AHC AHB AHA ALr) := AI AEB Tryz.func201 (by kernel_rfl) (by kernel_rfl) rfl (fun v => (ALq v).trans (AVa v)) (AA AbG trivial)
def QF : Env := ARW.ext 201 false true (AF 2 AHC AHB AHA ALr)
theorem Jr : Ab Tryz.prog QF := Env.AZ AEB AQL ((by simp)) (fun _ => AH rfl rfl)
abbrev Ir : Hints := { loop := fun n => match n with | 0 => Ac 0 36 AAL AAJ D4 | 1 => Ac 0 36 AAK AAI D3 | _ => fun _ _ _ => none }
theorem AB9 : ∀ v, D3 v = roundOf Tryz.prog QF Ir 2 0 36 (AB Tryz.f186 1) AAK AAI v := by
 rintro ⟨a0, a1, a2, a3, ⟨⟩⟩
 kernel_rfl
theorem AQv : AD (AB Tryz.f186 1) 2 = [] := by kernel_rfl
theorem AQx : Aa Tryz.prog 0 (.loop (AB Tryz.f186 1)) (Ir.loop 1) := AW Jr (AB9) (AA AQv trivial)
theorem ACA : ∀ v, D4 v = roundOf Tryz.prog QF Ir 1 0 36 (AB Tryz.f186 0) AAL AAJ v := by
 rintro ⟨a0, a1, a2, a3, a4, ⟨⟩⟩
 kernel_rfl
theorem AQw : AD (AB Tryz.f186 0) 1 = [] := by kernel_rfl
theorem AQy : Aa Tryz.prog 0 (.loop (AB Tryz.f186 0)) (Ir.loop 0) := AW Jr (ACA) (AA AQw trivial)
theorem AMN : ∀ v, L5 v = AP Tryz.prog QF Ir Tryz.f186 Sd Sc Sb v := by
 rintro ⟨a0, ⟨⟩⟩
 kernel_rfl
theorem AVx : AD (AU Tryz.f186) 0 = [(0, AB Tryz.f186 0), (1, AB Tryz.f186 1)] := by kernel_rfl
theorem AHX : AQ Tryz.prog 186 (AF 1 Sd Sc Sb H0) := AI Jr Tryz.func186 (by kernel_rfl) (by kernel_rfl) rfl (fun v => (AAM v).trans (AMN v)) (AA AVx ⟨AQy, AQx, trivial⟩)
def TE : Env := QF.ext 186 true true (AF 1 Sd Sc Sb H0)
theorem QK : Ab Tryz.prog TE := Env.AZ Jr AHX (fun _ => AJ rfl rfl) (fun _ => AH rfl rfl)
theorem ATj : Tryz.f195.body.isSome = true := by kernel_rfl
theorem ATi : (Tryz.f195.name == "runtime.NumGoroutine") = false := by kernel_rfl
theorem ATh : loops (AU Tryz.f195) = 0 := by kernel_rfl
def H8 : Env := TE.ext 195 false false (Fu Tryz.prog TE {} Tryz.f195)
theorem HY : Ab Tryz.prog H8 := Env.AZ QK (Hm QK Tryz.func195 ATj ATi ATh) (by simp) (by simp)
end
end Go.Pev
end
section
namespace Go.Pev
open Go.Proofs
set_option maxRecDepth 100000
noncomputable section
abbrev HG : Hints := { loop := fun n => match n with | 0 => Ac 0 19 Jw Jv Br | _ => fun _ _ _ => none }
theorem NS : ∀ v, Br v = roundOf Tryz.prog H8 HG 1 0 19 (AB Tryz.f174 0) Jw Jv v := by
 rintro ⟨a0, a1, a2, ⟨⟩⟩
 kernel_rfl
theorem VJ : AD (AB Tryz.f174 0) 1 = [] := by kernel_rfl
theorem VK : Aa Tryz.prog 0 (.loop (AB Tryz.f174 0)) (HG.loop 0) := AW HY (NS) (AA VJ trivial)
theorem SJ : ∀ v, Ef v = AP Tryz.prog H8 HG Tryz.f174 HF HE HD v := by
 rintro ⟨a0, ⟨⟩⟩
 kernel_rfl
theorem Zj : AD (AU Tryz.f174) 0 = [(0, AB Tryz.f174 0)] := by kernel_rfl
theorem PB : AQ Tryz.prog 174 (AF 2 HF HE HD GV) := AI HY Tryz.func174 (by kernel_rfl) (by kernel_rfl) rfl (fun v => (Jx v).trans (SJ v)) (AA Zj ⟨VK, trivial⟩)
def HZ : Env := H8.GF 174 1 195 (AF 2 HF HE HD GV)
theorem H9 : Ab Tryz.prog HZ := Env.Bg HY PB (AH rfl rfl)
abbrev VN : Hints := {  }
theorem PT : ∀ v, Dn v = AP Tryz.prog HZ VN Tryz.f154 GJ GH GG v := by
 rintro ⟨a0, ⟨⟩⟩
 kernel_rfl
theorem VM : AD (AU Tryz.f154) 0 = [] := by kernel_rfl
theorem Nm : AQ Tryz.prog 154 (AF 2 GJ GH GG Di) := AI H9 Tryz.func154 (by kernel_rfl) (by kernel_rfl) rfl (fun v => (Iq v).trans (PT v)) (AA VM trivial)
def Dp : Env := HZ.GF 154 1 195 (AF 2 GJ GH GG Di)
theorem D8 : Ab Tryz.prog Dp := Env.Bg H9 Nm (AH rfl rfl)
abbrev AO3 : Hints := { loop := fun n => match n with | 0 => Ac 0 23 AR2 AR1 JE | _ => fun _ _ _ => none }
theorem AOz : ∀ v, JE v = roundOf Tryz.prog Dp AO3 1 0 23 (AB Tryz.f196 0) AR2 AR1 v := by
 rintro ⟨a0, a1, a2, a3, a4, ⟨⟩⟩
 kernel_rfl
theorem Aah : AD (AB Tryz.f196 0) 1 = [] := by kernel_rfl
theorem Aai : Aa Tryz.prog 0 (.loop (AB Tryz.f196 0)) (AO3.loop 0) := AW D8 (AOz) (AA Aah trivial)
theorem AYF : ∀ v, AF9 v = AP Tryz.prog Dp AO3 Tryz.f196 AO2 AO1 AO0 v := by
 rintro ⟨a0, ⟨⟩⟩
 kernel_rfl
theorem Ab9 : AD (AU Tryz.f196) 0 = [(0, AB Tryz.f196 0)] := by kernel_rfl
theorem AUP : AQ Tryz.prog 196 (AF 1 AO2 AO1 AO0 once) := AI D8 Tryz.func196 (by kernel_rfl) (by kernel_rfl) rfl (fun v => (AR3 v).trans (AYF v)) (AA Ab9 ⟨Aai, trivial⟩)
def ARU : Env := Dp.ext 196 true true (AF 1 AO2 AO1 AO0 once)
theorem AD9 : Ab Tryz.prog ARU := Env.AZ D8 AUP (fun _ => AJ rfl rfl) (fun _ => AH rfl rfl)
abbrev AXF : Hints := {  }
theorem ANg : ∀ v, OM v = AP Tryz.prog ARU AXF Tryz.f176 XI XH XG v := by
 rintro ⟨a0, ⟨⟩⟩
 kernel_rfl
theorem AXE : AD (AU Tryz.f176) 0 = [] := by kernel_rfl
theorem AJM : AQ Tryz.prog 176 (AF 1 XI XH XG Mv) := AI AD9 Tryz.func176 (by kernel_rfl) (by kernel_rfl) rfl (fun v => (ACx v).trans (ANg v)) (AA AXE trivial)
def AAu : Env := ARU.ext 176 true true (AF 1 XI XH XG Mv)
theorem UP : Ab Tryz.prog AAu := Env.AZ AD9 AJM (fun _ => AJ rfl rfl) (fun _ => AH rfl rfl)
abbrev AWW : Hints := { fp := fun n => match n with | 1 => [[], [], [], [], [], [], [], [0], []] | _ => [] }
theorem AMy : ∀ v, N9 v = AP Tryz.prog AAu AWW Tryz.f200 WT WS WR v := by
 rintro ⟨a0, a1, ⟨⟩⟩
 kernel_rfl
theorem AWV : AD (AU Tryz.f200) 0 = [] := by kernel_rfl
theorem AId : AQ Tryz.prog 200 (AF 2 WT WS WR QT) := AI UP Tryz.func200 (by kernel_rfl) (by kernel_rfl) rfl (fun v => (ACP v).trans (AMy v)) (AA AWV trivial)
def Pj : Env := AAu.ext 200 true true (AF 2 WT WS WR QT)
theorem K7 : Ab Tryz.prog Pj := Env.AZ UP AId (fun _ => AJ rfl rfl) (fun _ => AH rfl rfl)
abbrev Xr : Hints := { loop := fun n => match n with | 0 => Ac 0 29 AC9 AC8 EF | _ => fun _ _ _ => none }
theorem AFc : ∀ v, EF v = roundOf Tryz.prog Pj Xr 1 0 29 (AB Tryz.f199 0) AC9 AC8 v := by
 rintro ⟨a0, a1, a2, a3, a4, ⟨⟩⟩
 kernel_rfl
theorem AT0 : AD (AB Tryz.f199 0) 1 = [] := by kernel_rfl
theorem AT1 : Aa Tryz.prog 0 (.loop (AB Tryz.f199 0)) (Xr.loop 0) := AW K7 (AFc) (AA AT0 trivial)
theorem AOJ : ∀ v, OS v = AP Tryz.prog Pj Xr Tryz.f199 Xq Xp Xo v := by
 rintro ⟨a0, a1, ⟨⟩⟩
 kernel_rfl
theorem AXW : AD (AU Tryz.f199) 0 = [(0, AB Tryz.f199 0)] := by kernel_rfl
theorem AJf : AQ Tryz.prog 199 (AF 2 Xq Xp Xo AFd) := AI K7 Tryz.func199 (by kernel_rfl) (by kernel_rfl) rfl (fun v => (ADA v).trans (AOJ v)) (AA AXW ⟨AT1, trivial⟩)
def AAy : Env := Pj.ext 199 true true (AF 2 Xq Xp Xo AFd)
theorem UR : Ab Tryz.prog AAy := Env.AZ K7 AJf (fun _ => AJ rfl rfl) (fun _ => AH rfl rfl)
abbrev AaK : Hints := {  }
theorem ATo : ∀ v, Vl v = AP Tryz.prog AAy AaK Tryz.f185 AFN AFM AFL v := by
 rintro ⟨a0, a1, ⟨⟩⟩
 kernel_rfl
theorem AaJ : AD (AU Tryz.f185) 0 = [] := by kernel_rfl
theorem ANu : AQ Tryz.prog 185 (AF 2 AFN AFM AFL AC0) := AI UR Tryz.func185 (by kernel_rfl) (by kernel_rfl) rfl (fun v => (AJW v).trans (ATo v)) (AA AaJ trivial)
def AIB : Env := AAy.ext 185 true true (AF 2 AFN AFM AFL AC0)
theorem AAw : Ab Tryz.prog AIB := Env.AZ UR ANu (fun _ => AJ rfl rfl) (fun _ => AH rfl rfl)
abbrev AXH : Hints := {  }
theorem ANi : ∀ v, ON v = AP Tryz.prog AIB AXH Tryz.f202 XL XK XJ v := by
 rintro ⟨a0, ⟨⟩⟩
 kernel_rfl
theorem AXG : AD (AU Tryz.f202) 0 = [] := by kernel_rfl
theorem AJN : AQ Tryz.prog 202 (AF 1 XL XK XJ XM) := AI AAw Tryz.func202 (by kernel_rfl) (by kernel_rfl) rfl (fun v => (ACy v).trans (ANi v)) (AA AXG trivial)
def AAv : Env := AIB.ext 202 true true (AF 1 XL XK XJ XM)
theorem UQ : Ab Tryz.prog AAv := Env.AZ AAw AJN (fun _ => AJ rfl rfl) (fun _ => AH rfl rfl)
theorem ATK : Tryz.f180.body.isSome = true := by kernel_rfl
theorem ATJ : (Tryz.f180.name == "runtime.NumGoroutine") = false := by kernel_rfl
theorem ATI : loops (AU Tryz.f180) = 0 := by kernel_rfl
def H7 : Env := AAv.ext 180 false false (Fu Tryz.prog AAv {} Tryz.f180)
theorem HX : Ab Tryz.prog H7 := Env.AZ UQ (Hm UQ Tryz.func180 ATK ATJ ATI) (by simp) (by simp)
abbrev FD : Hints := { loop := fun n => match n with | 0 => Ac 1 19 Ho Hn BX | _ => fun _ _ _ => none }
theorem Ke : ∀ v, BX v = roundOf Tryz.prog H7 FD 1 1 19 (AB Tryz.f179 0) Ho Hn v := by
 rintro ⟨a0, a1, a2, a3, ⟨⟩⟩
 kernel_rfl
theorem O7 : AD (AB Tryz.f179 0) 1 = [] := by kernel_rfl
theorem O8 : Aa Tryz.prog 1 (.loop (AB Tryz.f179 0)) (FD.loop 0) := AW HX (Ke) (AA O7 trivial)
theorem NQ : ∀ v, DO v = AP Tryz.prog H7 FD Tryz.f179 FA E9 E8 v := by
 rintro ⟨a0, a1, ⟨⟩⟩
 kernel_rfl
theorem SF : AD (AU Tryz.f179) 0 = [(0, AB Tryz.f179 0)] := by kernel_rfl
theorem MQ : AQ Tryz.prog 179 (AF 2 FA E9 E8 Ed) := AI HX Tryz.func179 (by kernel_rfl) (by kernel_rfl) rfl (fun v => (Hp v).trans (NQ v)) (AA SF ⟨O8, trivial⟩)
def FX : Env := H7.GF 179 1 180 (AF 2 FA E9 E8 Ed)
theorem GN : Ab Tryz.prog FX := Env.Bg HX MQ (AH rfl rfl)
abbrev AWh : Hints := {  }
theorem AM9 : ∀ v, OF v = AP Tryz.prog FX AWh Tryz.f157 Wr Wq Wp v := by
 rintro ⟨a0, a1, ⟨⟩⟩
 kernel_rfl
theorem AWg : AD (AU Tryz.f157) 0 = [] := by kernel_rfl
theorem AIl : AQ Tryz.prog 157 (AF 2 Wr Wq Wp Qa) := AI GN Tryz.func157 (by kernel_rfl) (by kernel_rfl) rfl (fun v => (ACg v).trans (AM9 v)) (AA AWg trivial)
def AAq : Env := FX.ext 157 true true (AF 2 Wr Wq Wp Qa)
theorem UN : Ab Tryz.prog AAq := Env.AZ GN AIl (fun _ => AJ rfl rfl) (fun _ => AH rfl rfl)
theorem Abg : Tryz.f198.body.isSome = true := by kernel_rfl
theorem Abf : (Tryz.f198.name == "runtime.NumGoroutine") = false := by kernel_rfl
theorem Abe : loops (AU Tryz.f198) = 0 := by kernel_rfl
def MN : Env := AAq.ext 198 false false (Fu Tryz.prog AAq {} Tryz.f198)
theorem Jt : Ab Tryz.prog MN := Env.AZ UN (Hm UN Tryz.func198 Abg Abf Abe) (by simp) (by simp)
end
end Go.Pev
end
section
namespace Go.Pev
open Go.Proofs
set_option maxRecDepth 100000
noncomputable section
abbrev AQQ : Hints := { loop := fun n => match n with | 0 => Ac 0 107 ASY ASX Ht | _ => fun _ _ _ => none, fp := fun n => match n with | 8 => [[], [], [], [], [], [], [], [], [1000003], [], [], [], [], [], [], [], [], [0], [0], [0], [], [0], [0], [0], [2, 26], [], [2, 26], [2, 26], [], [], [], [], []] | 13 => [[], [0], [0], [0], [2], [], [], [], [0], [0], [0], [6], [], [0], [0], [0], [4], [], [], []] | 3 => [[], [], [], [], [], [], [], [], [11], [], [], [], [8, 10, 12], []] | _ => [] }
theorem AQM : ∀ v, Ht v = roundOf Tryz.prog MN AQQ 1 0 107 (AB Tryz.f178 0) ASY ASX v := by
 rintro ⟨a0, a1, a2, a3, a4, a5, a6, ⟨⟩⟩
 kernel_rfl
theorem AbI : AD (AB Tryz.f178 0) 1 = [] := by kernel_rfl
theorem AbJ : Aa Tryz.prog 0 (.loop (AB Tryz.f178 0)) (AQQ.loop 0) := AW Jt (AQM) (AA AbI trivial)
theorem AY9 : ∀ v, AHE v = AP Tryz.prog MN AQQ Tryz.f178 AQP AQO AQN v := by
 rintro ⟨a0, a1, ⟨⟩⟩
 kernel_rfl
theorem AcP : AD (AU Tryz.f178) 0 = [(0, AB Tryz.f178 0)] := by kernel_rfl
theorem AVf : AQ Tryz.prog 178 (AF 2 AQP AQO AQN AZB) := AI Jt Tryz.func178 (by kernel_rfl) (by kernel_rfl) rfl (fun v => (ASZ v).trans (AY9 v)) (AA AcP ⟨AbJ, trivial⟩)
def TB : Env := MN.ext 178 true true (AF 2 AQP AQO AQN AZB)
theorem Iy : Ab Tryz.prog TB := Env.AZ Jt AVf (fun _ => AJ rfl rfl) (fun _ => AH rfl rfl)
abbrev Gr : Hints := { loop := fun n => match n with | 0 => Ac 0 87 ACX ACU DF | 1 => Ac 0 87 ACW ACT DE | 2 => Ac 0 87 ACV ACS EB | _ => fun _ _ _ => none, fp := fun n => match n with | 8 => [[], [], [], [], [], [], [], [], [], [], [], [], [], [], [], [], [], [], [], [], [], [], [], [], [0], [0], [], [], [], []] | _ => [] }
theorem AET : ∀ v, EB v = roundOf Tryz.prog TB Gr 3 0 87 (AB Tryz.f153 2) ACV ACS v := by
 rintro ⟨a0, a1, a2, ⟨⟩⟩
 kernel_rfl
theorem AS4 : AD (AB Tryz.f153 2) 3 = [] := by kernel_rfl
theorem AS7 : Aa Tryz.prog 0 (.loop (AB Tryz.f153 2)) (Gr.loop 2) := AW Iy (AET) (AA AS4 trivial)
theorem AEU : ∀ v, DE v = roundOf Tryz.prog TB Gr 2 0 87 (AB Tryz.f153 1) ACW ACT v := by
 rintro ⟨a0, a1, a2, a3, a4, a5, a6, a7, a8, a9, a10, a11, a12, a13, a14, a15, a16, a17, a18, a19, a20, a21, a22, a23, a24, a25, ⟨⟩⟩
 kernel_rfl
theorem AS5 : AD (AB Tryz.f153 1) 2 = [] := by kernel_rfl
theorem AS8 : Aa Tryz.prog 0 (.loop (AB Tryz.f153 1)) (Gr.loop 1) := AW Iy (AEU) (AA AS5 trivial)
theorem AEV : ∀ v, DF v = roundOf Tryz.prog TB Gr 1 0 87 (AB Tryz.f153 0) ACX ACU v := by
 rintro ⟨a0, a1, a2, a3, a4, a5, a6, ⟨⟩⟩
 kernel_rfl
theorem AS6 : AD (AB Tryz.f153 0) 1 = [(1, AB Tryz.f153 1)] := by kernel_rfl
theorem AS9 : Aa Tryz.prog 0 (.loop (AB Tryz.f153 0)) (Gr.loop 0) := AW Iy (AEV) (AA AS6 ⟨AS8, trivial⟩)
theorem AM3 : ∀ v, OC v = AP Tryz.prog TB Gr Tryz.f153 Wh Wg Wf v := by
 rintro ⟨a0, ⟨⟩⟩
 kernel_rfl
theorem AWe : AD (AU Tryz.f153) 0 = [(0, AB Tryz.f153 0), (2, AB Tryz.f153 2)] := by kernel_rfl
theorem AIi : AQ Tryz.prog 153 (AF 1 Wh Wg Wf QV) := AI Iy Tryz.func153 (by kernel_rfl) (by kernel_rfl) rfl (fun v => (ACY v).trans (AM3 v)) (AA AWe ⟨AS9, AS7, trivial⟩)
def AAp : Env := TB.ext 153 true true (AF 1 Wh Wg Wf QV)
theorem UM : Ab Tryz.prog AAp := Env.AZ Iy AIi (fun _ => AJ rfl rfl) (fun _ => AH rfl rfl)
abbrev Aba : Hints := {  }
theorem AWJ : ∀ v, WC v = AP Tryz.prog AAp Aba Tryz.f184 AHv AHu AHt v := by
 rintro ⟨a0, a1, a2, ⟨⟩⟩
 kernel_rfl
theorem AbZ : AD (AU Tryz.f184) 0 = [] := by kernel_rfl
theorem ARL : AQ Tryz.prog 184 (AF 3 AHv AHu AHt asked) := AI UM Tryz.func184 (by kernel_rfl) (by kernel_rfl) rfl (fun v => (AMg v).trans (AWJ v)) (AA AbZ trivial)
def AIM : Env := AAp.ext 184 true true (AF 3 AHv AHu AHt asked)
theorem ABC : Ab Tryz.prog AIM := Env.AZ UM ARL (fun _ => AJ rfl rfl) (fun _ => AH rfl rfl)
abbrev AcE : Hints := {  }
theorem AYM : ∀ v, RZ v = AP Tryz.prog AIM AcE Tryz.f118 APG APF APE v := by
 rintro ⟨a0, ⟨⟩⟩
 kernel_rfl
theorem AcD : AD (AU Tryz.f118) 0 = [] := by kernel_rfl
theorem AUY : AQ Tryz.prog 118 (AF 1 APG APF APE APH) := AI ABC Tryz.func118 (by kernel_rfl) (by kernel_rfl) rfl (fun v => (Vt v).trans (AYM v)) (AA AcD trivial)
def ARV : Env := AIM.ext 118 true true (AF 1 APG APF APE APH)
theorem AEA : Ab Tryz.prog ARV := Env.AZ ABC AUY (fun _ => AJ rfl rfl) (fun _ => AH rfl rfl)
abbrev AQ0 : Hints := {  }
theorem AHZ : ∀ v, HR v = AP Tryz.prog ARV AQ0 Tryz.f74 Np No Nn v := by
 rintro ⟨a0, a1, ⟨⟩⟩
 kernel_rfl
theorem AQz : AD (AU Tryz.f74) 0 = [] := by kernel_rfl
theorem ACB : AQ Tryz.prog 74 (AF 2 Np No Nn HS) := AI AEA Tryz.func74 (by kernel_rfl) (by kernel_rfl) rfl (fun v => (Ku v).trans (AHZ v)) (AA AQz trivial)
def N3 : Env := ARV.ext 74 true true (AF 2 Np No Nn HS)
theorem Mi : Ab Tryz.prog N3 := Env.AZ AEA ACB (fun _ => AJ rfl rfl) (fun _ => AH rfl rfl)
abbrev AZw : Hints := { fp := fun n => match n with | 1 => [[], [], [], [], [], [], [], []] | _ => [] }
theorem AS1 : ∀ v, VZ v = AP Tryz.prog N3 AZw Tryz.f204 AEM AEL AEK v := by
 rintro ⟨a0, a1, ⟨⟩⟩
 kernel_rfl
theorem AZv : AD (AU Tryz.f204) 0 = [] := by kernel_rfl
theorem AMu : AQ Tryz.prog 204 (AF 2 AEM AEL AEK A9) := AI Mi Tryz.func204 (by kernel_rfl) (by kernel_rfl) rfl (fun v => (AIS v).trans (AS1 v)) (AA AZv trivial)
def AH7 : Env := N3.ext 204 true true (AF 2 AEM AEL AEK A9)
theorem AAm : Ab Tryz.prog AH7 := Env.AZ Mi AMu (fun _ => AJ rfl rfl) (fun _ => AH rfl rfl)
abbrev Aax : Hints := {  }
theorem AVA : ∀ v, Vx v = AP Tryz.prog AH7 Aax Tryz.f134 AGn AGm AGl v := by
 rintro ⟨a0, ⟨⟩⟩
 kernel_rfl
theorem Aaw : AD (AU Tryz.f134) 0 = [] := by kernel_rfl
theorem APq : AQ Tryz.prog 134 (AF 1 AGn AGm AGl ALP) := AI AAm Tryz.func134 (by kernel_rfl) (by kernel_rfl) rfl (fun v => (ALO v).trans (AVA v)) (AA Aaw trivial)
def AIH : Env := AH7.ext 134 true true (AF 1 AGn AGm AGl ALP)
theorem AA4 : Ab Tryz.prog AIH := Env.AZ AAm APq (fun _ => AJ rfl rfl) (fun _ => AH rfl rfl)
abbrev AWG : Hints := {  }
theorem AMf : ∀ v, L8 v = AP Tryz.prog AIH AWG Tryz.f100 Sm Sl Sk v := by
 rintro ⟨a0, ⟨⟩⟩
 kernel_rfl
theorem AWF : AD (AU Tryz.f100) 0 = [] := by kernel_rfl
theorem AHr : AQ Tryz.prog 100 (AF 1 Sm Sl Sk bitsLen) := AI AA4 Tryz.func100 (by kernel_rfl) (by kernel_rfl) rfl (fun v => (AAf v).trans (AMf v)) (AA AWF trivial)
def TF : Env := AIH.ext 100 true true (AF 1 Sm Sl Sk bitsLen)
theorem QL : Ab Tryz.prog TF := Env.AZ AA4 AHr (fun _ => AJ rfl rfl) (fun _ => AH rfl rfl)
abbrev AS0 : Hints := { fp := fun n => match n with | 3 => [[], [0], [0], [], [0], [0], [], [], [0], [1]] | 2 => [[], [0], [0], [], [0], [0], [], [], [0], [1]] | 1 => [[], [0], [0], [], [0], [0], [], [], [0], [1]] | _ => [] }
theorem AIO : ∀ v, LM v = AP Tryz.prog TF AS0 Tryz.f191 QS QR QQ v := by
 rintro ⟨a0, ⟨⟩⟩
 kernel_rfl
theorem ASz : AD (AU Tryz.f191) 0 = [] := by kernel_rfl
theorem AEJ : AQ Tryz.prog 191 (AF 1 QS QR QQ xorNext) := AI QL Tryz.func191 (by kernel_rfl) (by kernel_rfl) rfl (fun v => (WM v).trans (AIO v)) (AA ASz trivial)
def Sv : Env := TF.ext 191 false true (AF 1 QS QR QQ xorNext)
theorem Ph : Ab Tryz.prog Sv := Env.AZ QL AEJ ((by simp)) (fun _ => AH rfl rfl)
abbrev AUU : Hints := {  }
theorem AKw : ∀ v, Ll v = AP Tryz.prog Sv AUU Tryz.f190 RW RV RU v := by
 rintro ⟨a0, ⟨⟩⟩
 kernel_rfl
theorem AUT : AD (AU Tryz.f190) 0 = [] := by kernel_rfl
theorem AGE : AQ Tryz.prog 190 (AF 1 RW RV RU Lm) := AI Ph Tryz.func190 (by kernel_rfl) (by kernel_rfl) rfl (fun v => (Yh v).trans (AKw v)) (AA AUT trivial)
def Iv : Env := Sv.ext 190 true true (AF 1 RW RV RU Lm)
theorem Ga : Ab Tryz.prog Iv := Env.AZ Ph AGE (fun _ => AJ rfl rfl) (fun _ => AH rfl rfl)
abbrev Zc : Hints := { loop := fun n => match n with | 0 => Ac 1 53 ASK ASI ASG | 1 => Ac 1 53 ASJ ASH ASF | _ => fun _ _ _ => none, fp := fun n => match n with | 4 => [[], [], [], [], [], [], [], [0], [0], [], [], [], [0], [0], [], [], []] | 6 => [[], [], [], [], [], [], [], [], [0], [0], [], [], [0], [0], [0], [1], [0], [1]] | _ => [] }
theorem AP3 : ∀ v, ASF v = roundOf Tryz.prog Iv Zc 2 1 53 (AB Tryz.f207 1) ASJ ASH v := by
 rintro ⟨a0, a1, a2, a3, a4, ⟨⟩⟩
 kernel_rfl
theorem Aaz : AD (AB Tryz.f207 1) 2 = [] := by kernel_rfl
theorem Aa1 : Aa Tryz.prog 1 (.loop (AB Tryz.f207 1)) (Zc.loop 1) := AW Ga (AP3) (AA Aaz trivial)
theorem AP4 : ∀ v, ASG v = roundOf Tryz.prog Iv Zc 1 1 53 (AB Tryz.f207 0) ASK ASI v := by
 rintro ⟨a0, a1, a2, a3, ⟨⟩⟩
 kernel_rfl
theorem Aa0 : AD (AB Tryz.f207 0) 1 = [(1, AB Tryz.f207 1)] := by kernel_rfl
theorem Aa2 : Aa Tryz.prog 1 (.loop (AB Tryz.f207 0)) (Zc.loop 0) := AW Ga (AP4) (AA Aa0 ⟨Aa1, trivial⟩)
theorem AYi : ∀ v, AYj v = AP Tryz.prog Iv Zc Tryz.f207 AP7 AP6 AP5 v := by
 rintro ⟨a0, a1, a2, ⟨⟩⟩
 kernel_rfl
theorem AcJ : AD (AU Tryz.f207) 0 = [(0, AB Tryz.f207 0)] := by kernel_rfl
theorem AVG : AQ Tryz.prog 207 (AF 4 AP7 AP6 AP5 AcK) := AI Ga Tryz.func207 (by kernel_rfl) (by kernel_rfl) rfl (fun v => (Aa3 v).trans (AYi v)) (AA AcJ ⟨Aa2, trivial⟩)
def AII : Env := Iv.GF 207 3 204 (AF 4 AP7 AP6 AP5 AcK)
theorem S9 : Ab Tryz.prog AII := Env.Bg Ga AVG (AH rfl rfl)
abbrev AE5 : Hints := { loop := fun n => match n with | 0 => Ac 1 82 AI7 AI6 AI5 | _ => fun _ _ _ => none, fp := fun n => match n with | 6 => [[], [], [], [], [], [], [], [], [], [], [], [], [0], [0], [], [], [], [], [0], [0], [0], [1], [0], [1]] | 5 => [[], [], [], [], [], [0], [0], [], [], [], [], [0], [0], [], [], []] | 3 => [[], [], [], [], [], [], [], [], [], [], [0], [0], [], [], [], [], [], [0], [0], [], [], []] | _ => [] }
theorem AI4 : ∀ v, AI5 v = roundOf Tryz.prog AII AE5 1 1 82 (AB Tryz.f215 0) AI7 AI6 v := by
 rintro ⟨a0, a1, a2, a3, ⟨⟩⟩
 kernel_rfl
theorem AW1 : AD (AB Tryz.f215 0) 1 = [] := by kernel_rfl
theorem AW2 : Aa Tryz.prog 1 (.loop (AB Tryz.f215 0)) (AE5.loop 0) := AW S9 (AI4) (AA AW1 trivial)
theorem ATa : ∀ v, ARi v = AP Tryz.prog AII AE5 Tryz.f215 AE4 AE3 AE2 v := by
 rintro ⟨a0, a1, a2, a3, ⟨⟩⟩
 kernel_rfl
theorem AaE : AD (AU Tryz.f215) 0 = [(0, AB Tryz.f215 0)] := by kernel_rfl
theorem ANT : AQ Tryz.prog 215 (AF 5 AE4 AE3 AE2 AW4) := AI S9 Tryz.func215 (by kernel_rfl) (by kernel_rfl) rfl (fun v => (AW3 v).trans (ATa v)) (AA AaE ⟨AW2, trivial⟩)
def Pr : Env := AII.GF 215 4 204 (AF 5 AE4 AE3 AE2 AW4)
theorem Jg : Ab Tryz.prog Pr := Env.Bg S9 ANT (AH rfl rfl)
end
end Go.Pev
end
