/- A part of the proofs of this seat: KD PlnC KE KF KG KH U24a U24b U24c U24d U23a U23b U24f U24g U24h U24i U24j U24k U24l U24m U24n PlnD U21a U21b SIa SIb SIc SId SIe SIf U21c U21d U21e U21f G24fP1 G24fP2 G24fP3 G24fP4. -/
import Derived.Test.YtaamkoofmojajaaGreatP211ba90b6c
import Derived.KernelRfl
import Derived.Test.YtaamkoofmojajaaGreatProg
set_option linter.unusedVariables false
set_option linter.unusedSimpArgs false
set_option linter.unusedSectionVars false
section
section
namespace Go.Pev.Pl
open Tok
def CQ {α : Type} (P : Nat → Bool) : Nat → List α → List α
 | _, [] => []
 | i, x :: xs => if P i then CQ P (i + 1) xs else x :: CQ P (i + 1) xs
theorem AJo {α : Type} (P : Nat → Bool) : ∀ (xs : List α) (s : Nat), (∀ k, s ≤ k → P k = false) → CQ P s xs = xs := by
 intro xs
 induction xs with
 | nil => intro s _; rfl
 | cons x xs ih =>
  intro s h
  rw [CQ, h s (Nat.le_refl _), ih (s + 1) fun k hk => h k (by omega)]
  rfl
theorem AN9 {α : Type} (P : Nat → Bool) (i : Nat) : ∀ (xs : List α) (s : Nat), s ≤ i → (∀ k, s ≤ k → P k = decide (k = i)) → CQ P s xs = xs.eraseIdx (i - s) := by
 intro xs
 induction xs with
 | nil => intro s _ _; rfl
 | cons x xs ih =>
  intro s hs h
  rw [CQ, h s (Nat.le_refl _)]
  by_cases e : s = i
  ·subst e
   rw [AJo P xs (s + 1) fun k hk => by rw [h k (by omega)]; simp; omega]
   simp
  ·rw [ih (s + 1) (by omega) fun k hk => h k (by omega)]
   rw [decide_eq_false e, if_neg (by simp), show i - s = (i - (s + 1)) + 1 by omega, List.eraseIdx_cons_succ]
theorem JD {α : Type} (P : Nat → Bool) (i j : Nat) (hij : i < j) : ∀ (xs : List α) (s : Nat), s ≤ i → (∀ k, s ≤ k → P k = decide (k = i ∨ k = j)) → CQ P s xs = (xs.eraseIdx (j - s)).eraseIdx (i - s) := by
 intro xs
 induction xs with
 | nil => intro s _ _; rfl
 | cons x xs ih =>
  intro s hs h
  rw [CQ, h s (Nat.le_refl _)]
  by_cases e : s = i
  ·subst e
   rw [AN9 P j xs (s + 1) (by omega) fun k hk => by rw [h k (by omega)]; exact decide_eq_decide.2 ⟨fun q => by omega, fun q => .inr q⟩]
   rw [decide_eq_true (.inl rfl), if_pos rfl, show j - s = (j - (s + 1)) + 1 by omega, List.eraseIdx_cons_succ, Nat.sub_self, List.eraseIdx_zero]
   rfl
  ·rw [ih (s + 1) (by omega) fun k hk => h k (by omega)]
   rw [decide_eq_false (by omega), if_neg (by simp), show j - s = (j - (s + 1)) + 1 by omega, List.eraseIdx_cons_succ, show i - s = (i - (s + 1)) + 1 by omega, List.eraseIdx_cons_succ]
theorem AJp {α : Type} (P : Nat → Bool) : ∀ (xs : List α) (acc : List α) (k : Nat), (xs.foldl (fun (a : List α × Nat) x => (if P a.2 then a.1 else a.1 ++ [x], a.2 + 1)) (acc, k)).1 = acc ++ CQ P k xs := by
 intro xs
 induction xs with
 | nil => intro acc k; simp [CQ]
 | cons x xs ih =>
  intro acc k
  rw [List.foldl_cons, ih, CQ]
  cases P k <;> simp
theorem AOA {α : Type} (P : Nat → Bool) : ∀ (xs : List α) (k : Nat), (CQ P k xs).length ≤ xs.length ∧ ∀ x ∈ CQ P k xs, x ∈ xs := by
 intro xs
 induction xs with
 | nil => intro k; simp [CQ]
 | cons x xs ih =>
  intro k
  obtain ⟨h1, h2⟩ := ih (k + 1)
  rw [CQ]
  split
  ·exact ⟨by simp only [List.length_cons]; omega, fun y hy => List.mem_cons_of_mem _ (h2 y hy)⟩
  ·refine ⟨by simp only [List.length_cons]; omega, fun y hy => ?_⟩
   rcases List.mem_cons.1 hy with rfl | hy
   ·simp
   ·exact List.mem_cons_of_mem _ (h2 y hy)
theorem AAY (n : Int) (rings : List (List Int)) (away : List Int) (come : List (List Int)) (hlen : rings.length < 1073741824) (ha : away.length < 1073741824) (hc : come.length < 1073741824)
  (hne : ∀ l ∈ rings, l ≠ []) (hce : ∀ r ∈ come, plain r ≠ []) :
  ∃ ys, AGK ((n, (rings, ())), away, come, ()) = some (n, ys, ()) ∧ ys.Perm (CQ (fun k => decide ((k : Int) ∈ away)) 0 rings ++ come.map plain) ∧ ys.Pairwise (fun a b => ¬ hd b < hd a) := by
 rw [AGJ, Te]
 have e := D2 (step := GY) (fun i (a : List (List Int) × Nat) => (away, come, n, rings, (0 : Int), a.1, rings, AM rings, (i : Int), ())) rings
  (fun x a => .inl (if decide ((a.2 : Int) ∈ away) then a.1 else a.1 ++ [x], a.2 + 1)) (fun a => .inl (come, n, rings, (0 : Int), a.1, ())) (fun i a => a.2 = i ∧ a.1.length ≤ i) (by omega)
  (fun i x a hi hx ⟨h1, h2⟩ => by
   refine ⟨fun m' h' => ?_, fun r h' => by cases h'⟩
   cases h'
   subst h1
   rw [GY, AO, AN, decide_eq_true hi]
   simp only [An hx, H4 away _ (show away.length < 9223372036854775808 by omega)]
   rw [AL (by omega), BY (by simp only [AO, List.length_cons, List.length_nil]; omega)]
   by_cases h : (a.2 : Int) ∈ away
   ·simp only [h, decide_true, Bool.not_true, if_true]
    exact ⟨by trivial, by trivial, by omega⟩
   ·simp only [h, decide_false, Bool.not_false]
    exact ⟨by trivial, by trivial, by simp; omega⟩)
  (fun a _ => by rw [GY, AO, AN, decide_eq_false (by omega)]) ([], 0) ⟨rfl, by simp⟩
 have e' : AY GY many (away, come, n, rings, (0 : Int), [], rings, AM rings, (0 : Int), ()) = _ := e
 rw [e', Bd]
 have hdf : (rings.foldl (fun (a : List (List Int) × Nat) x => (if decide ((a.2 : Int) ∈ away) then a.1 else a.1 ++ [x], a.2 + 1)) ([], 0)).1 = CQ (fun k => decide ((k : Int) ∈ away)) 0 rings := by
  have := AJp (fun k => decide ((k : Int) ∈ away)) rings [] 0
  rw [List.nil_append] at this
  exact this
 simp only [hdf]
 obtain ⟨g1, g2⟩ := AOA (fun k => decide ((k : Int) ∈ away)) rings 0
 generalize CQ (fun k => decide ((k : Int) ∈ away)) 0 rings = rest at *
 have f := D2 (step := GX) (fun i (a : List (List Int)) => (n, rings, (0 : Int), a, come, AM come, (i : Int), ())) come
  (fun x a => .inl (a ++ [plain x])) (fun a => .inl (n, rings, (0 : Int), a, ())) (fun i a => a.length = rest.length + i) (by omega)
  (fun i x a hi hx h1 => by
   refine ⟨fun m' h' => ?_, fun r h' => by cases h'⟩
   cases h'
   rw [GX, AO, AN, decide_eq_true hi]
   simp only [An hx, ALB]
   rw [AL (by omega), BY (by simp only [AO, List.length_cons, List.length_nil]; omega)]
   exact ⟨rfl, by simp; omega⟩)
  (fun a _ => by rw [GX, AO, AN, decide_eq_false (by omega)]) rest rfl
 have f' : AY GX many (n, rings, (0 : Int), rest, come, AM come, (0 : Int), ()) = _ := f
 rw [f', Bd]
 have hfold : ∀ (l acc : List (List Int)), l.foldl (fun a x => a ++ [plain x]) acc = acc ++ l.map plain := by
  intro l
  induction l with
  | nil => intro acc; simp
  | cons x l ih => intro acc; rw [List.foldl_cons, ih]; simp
 simp only [hfold]
 obtain ⟨ys, y1, y2, y3⟩ := SL.VO (rest ++ come.map plain) (by simp; omega) (fun x hx => by
  rcases List.mem_append.1 hx with h | h
  ·exact hne x (g2 x h)
  ·obtain ⟨r, hr, rfl⟩ := List.mem_map.1 h
   exact hce r hr)
 refine ⟨ys, by simp only [y1], y2, y3.imp fun {a b} h => ?_⟩
 simp only [SL.lt, Go.Sort.ltInt, decide_eq_false_iff_not] at h
 exact h
def Vu (rest : List (List Int)) (p : List Int) : List (List Int) := rest.take (rest.findIdx fun x => !decide (hd x < hd p)) ++ p :: rest.drop (rest.findIdx fun x => !decide (hd x < hd p))
theorem AA5 (rest : List (List Int)) (p : List Int) : (Vu rest p).Perm (p :: rest) := by
 rw [Vu]
 refine List.perm_middle.trans ?_
 rw [List.take_append_drop]
theorem APL {rest : List (List Int)} {p : List Int} (h : rest.Pairwise (fun a b => hd a < hd b)) (hne : ∀ x ∈ rest, hd x ≠ hd p) : (Vu rest p).Pairwise (fun a b => hd a < hd b) := by
 rw [Vu]
 have hlt : ∀ x ∈ rest.take (rest.findIdx fun x => !decide (hd x < hd p)), hd x < hd p := by
  intro x hx
  obtain ⟨j, hj, e⟩ := List.mem_take_iff_getElem.1 hx
  have := List.not_of_lt_findIdx (p := fun x => !decide (hd x < hd p)) (xs := rest) (i := j) (by omega)
  rw [e] at this
  simpa using this
 have hgt : ∀ x ∈ rest.drop (rest.findIdx fun x => !decide (hd x < hd p)), hd p < hd x := by
  intro x hx
  by_cases hk : (rest.findIdx fun x => !decide (hd x < hd p)) < rest.length
  ·have h0 := List.findIdx_getElem (p := fun x => !decide (hd x < hd p)) (xs := rest) (w := hk)
   rw [List.drop_eq_getElem_cons hk] at hx
   have h1 : ¬ hd rest[rest.findIdx fun x => !decide (hd x < hd p)] < hd p := by simpa using h0
   have h2 := hne _ (List.getElem_mem hk)
   rcases List.mem_cons.1 hx with rfl | hx
   ·omega
   ·have hpw : (rest.drop (rest.findIdx fun x => !decide (hd x < hd p))).Pairwise (fun a b => hd a < hd b) := h.sublist (List.drop_sublist _ _)
    rw [List.drop_eq_getElem_cons hk, List.pairwise_cons] at hpw
    have := hpw.1 x hx
    omega
  ·rw [List.drop_of_length_le (by omega)] at hx
   cases hx
 rw [List.pairwise_append, List.pairwise_cons]
 refine ⟨h.sublist (List.take_sublist _ _), ⟨hgt, h.sublist (List.drop_sublist _ _)⟩, fun a ha b hb => ?_⟩
 rcases List.mem_cons.1 hb with rfl | hb
 ·exact hlt a ha
 ·have := hlt a ha
  have := hgt b hb
  omega
theorem APv {l : List Int} (h : l ≠ []) : idx l (0 : Int) = some (hd l) := by
 cases l with
 | nil => exact absurd rfl h
 | cons x l => rw [FZ]; rfl
theorem AWd (l : List Int) : AS l 0 (0 : Int) = hd l := by cases l <;> rfl
end Go.Pev.Pl
end
section
namespace Go.Pev.Pl
open Tok
theorem AFi {n u v : Int} (h : okT n (.arc u v)) : n ≤ Cn n u v := by rw [Cm h]; exact (OJ h.1 h.2.1).1
def A5 (n : Int) (A B : List Int) (u v : Int) : List Int := u :: Cn n u v :: (A2 B v ++ Cn n v u :: (A2 A u).tail)
theorem LQ {n u v : Int} {A B : List Int} (hA : TI n A) (hB : TI n B) (hu : u ∈ A) (hv : v ∈ B) (iu : In n u) (iv : In n v) (hd : Dis n A B) :
  TI n (A5 n A B u v) ∧ A2 A u = u :: (A2 A u).tail ∧ (∀ t, t < n → (t ∈ A5 n A B u v ↔ t ∈ A ∨ t ∈ B)) ∧ u ≠ v ∧ okT n (.arc u v) := by
 obtain ⟨a, a1, a2, a3⟩ := AKM hA (t := .ver u) iu hu
 obtain ⟨b, b1, b2, b3⟩ := AKM hB (t := .ver v) iv hv
 have a1' : A2 A u = (Tok.ver u :: a).map (CS n) := a1
 have b1' : A2 B v = (Tok.ver v :: b).map (CS n) := b1
 have huv : u ≠ v := by rintro rfl; exact hd u hu iu.2.2.2 hv
 have ho : okT n (.arc u v) := ⟨iu, iv, huv⟩
 have pA := (CH hu).perm
 have pB := (CH hv).perm
 have ht : A2 A u = u :: (A2 A u).tail := by rw [a1']; rfl
 have hall : A5 n A B u v = (Tok.ver u :: .arc u v :: (.ver v :: b ++ .arc v u :: a)).map (CS n) := by
  rw [A5, a1', b1', Cm ho, Cm (EO ho)]
  simp [CS]
 refine ⟨⟨_, hall, fun t ht => ?_, T.join a2 b2 fun x hx hx2 => ?_⟩, ht, fun t ht2 => ?_, huv, ho⟩
 ·rcases List.mem_cons.1 ht with rfl | ht
  ·exact iu
  ·rcases List.mem_cons.1 ht with rfl | ht
   ·exact ho
   ·rcases List.mem_append.1 ht with ht | ht
    ·exact b3 t ht
    ·rcases List.mem_cons.1 ht with rfl | ht
     ·exact EO ho
     ·exact a3 t (List.mem_cons_of_mem _ ht)
 ·have ix := a3 _ hx
  have x1 : x ∈ A := pA.mem_iff.2 (by rw [a1']; exact List.mem_map.2 ⟨_, hx, rfl⟩)
  have x2 : x ∈ B := pB.mem_iff.2 (by rw [b1']; exact List.mem_map.2 ⟨_, hx2, rfl⟩)
  exact hd x x1 ix.2.2.2 x2
 ·have g1 := AFi ho
  have g2 := AFi (EO ho)
  have e1 : t ∈ A ↔ t = u ∨ t ∈ (A2 A u).tail := by rw [pA.mem_iff, ht, List.mem_cons, List.tail_cons]
  rw [A5, List.mem_cons, List.mem_cons, List.mem_append, List.mem_cons, e1, ← pB.mem_iff]
  constructor
  ·rintro (h | h | h | h | h)
   ·exact .inl (.inl h)
   ·omega
   ·exact .inr h
   ·omega
   ·exact .inl (.inr h)
  ·rintro ((h | h) | h)
   ·exact .inl h
   ·exact .inr (.inr (.inr (.inr h)))
   ·exact .inr (.inr (.inl h))
theorem IT {n : Int} {a b : List (List Int)} (h : a.Perm b) (ha : a.Pairwise (Dis n)) : b.Pairwise (Dis n) := (h.pairwise_iff fun {_ _} hh => hh.symm).1 ha
theorem AQN {n : Int} {rings rest zs : List (List Int)} {A B p : List Int} (h : FR n rings) (hp : rings.Perm (A :: B :: rest)) (hg : RG n p) (hm : ∀ t, t < n → (t ∈ p ↔ t ∈ A ∨ t ∈ B)) (hz : zs.Perm (p :: rest)) (hu : zs.Pairwise (fun a b => hd a < hd b)) : FR n zs := by
 have hd0 := IT hp h.dis
 rw [List.pairwise_cons, List.pairwise_cons] at hd0
 obtain ⟨h1, h2, h3⟩ := hd0
 refine ⟨h.sz, fun l hl => ?_, hu, IT hz.symm ?_, fun v hv => ?_⟩
 ·rcases List.mem_cons.1 (hz.mem_iff.1 hl) with rfl | hl
  ·exact hg
  ·exact h.rg l (hp.mem_iff.2 (by simp [hl]))
 ·rw [List.pairwise_cons]
  refine ⟨fun r hr t ht htn => ?_, h3⟩
  rcases (hm t htn).1 ht with g | g
  ·exact h1 r (by simp [hr]) t g htn
  ·exact h2 r hr t g htn
 ·obtain ⟨l, hl, hvl⟩ := h.cov v hv
  have := hp.mem_iff.1 hl
  simp only [List.mem_cons] at this
  rcases this with rfl | rfl | g
  ·exact ⟨p, hz.mem_iff.2 (by simp), (hm v hv.2.2.2).2 (.inl hvl)⟩
  ·exact ⟨p, hz.mem_iff.2 (by simp), (hm v hv.2.2.2).2 (.inr hvl)⟩
  ·exact ⟨l, hz.mem_iff.2 (by simp [g]), hvl⟩
theorem GS (n : Int) (rings : List (List Int)) (u v : Int) (hD : Dom rings) : asked ((n, (rings, ())), u, v, ()) = some (if RF n rings then if In n u ∧ In n v then 0 else 10 else 1, ()) := by
 rw [AKF, T4]
 simp only [UT n rings hD.1 hD.2, ACg]
 by_cases h : RF n rings
 ·by_cases h1 : In n u
  ·by_cases h2 : In n v <;> simp [h, h1, h2]
  ·simp [h, h1]
 ·simp [h]
theorem AV1 (a b : Nat) : imax (a : Int) (b : Int) = ((max a b : Nat) : Int) := by rw [imax]; split <;> omega
theorem AV0 (a b : Nat) : Cy (a : Int) (b : Int) = ((min a b : Nat) : Int) := by rw [Cy]; split <;> omega
theorem AX0 {n : Int} {rings : List (List Int)} {u v : Int} {i j : Nat} {A B : List Int} (h : FR n rings) (iu : In n u) (iv : In n v) (hi : rings[i]? = some A) (hj : rings[j]? = some B) (hu : u ∈ A) (hv : v ∈ B) (hij : i ≠ j) :
  ∃ zs rest, Jj ((n, (rings, ())), u, v, ()) = some (n, zs, 0, ()) ∧ FR n zs ∧ rings.Perm (A :: B :: rest) ∧ zs.Perm (plain (A5 n A B u v) :: rest) ∧ Dis n A B := by
 have hD := h.dom
 have hRF := HD.2 h
 have rA := h.rg A (List.mem_of_getElem? hi)
 have rB := h.rg B (List.mem_of_getElem? hj)
 have hil := (List.getElem?_eq_some_iff.1 hi).1
 have hjl := (List.getElem?_eq_some_iff.1 hj).1
 have pu : plc rings u = (i : Int) := h.ADM hi iu.2.2.2 hu
 have pv : plc rings v = (j : Int) := h.ADM hj iv.2.2.2 hv
 have hperm : rings.Perm (A :: B :: (rings.eraseIdx (max i j)).eraseIdx (min i j)) := by
  rcases Nat.lt_or_gt_of_ne hij with g | g
  ·rw [Nat.max_eq_right (by omega), Nat.min_eq_left (by omega)]
   exact Hg g hi hj
  ·rw [Nat.max_eq_left (by omega), Nat.min_eq_right (by omega)]
   exact (Hg g hj hi).trans (List.Perm.swap _ _ _)
 have hdis : Dis n A B := by
  have := IT hperm h.dis
  rw [List.pairwise_cons] at this
  exact this.1 B (by simp)
 obtain ⟨l1, l2, l3, huv, ho⟩ := LQ rA.2.2.2 rB.2.2.2 hu hv iu iv hdis
 obtain ⟨hRG, hrot⟩ := Y2 l1
 have hall : A5 n A B u v = u :: Cn n u v :: (A2 B v ++ Cn n v u :: (A2 A u).tail) := rfl
 have lA : (A2 A u).length ≤ 1000 := by rw [← (CH hu).perm.length_eq]; exact rA.1.1
 have lB : (A2 B v).length ≤ 1000 := by rw [← (CH hv).perm.length_eq]; exact rB.1.1
 have hsub : ((rings.eraseIdx (max i j)).eraseIdx (min i j)).Sublist rings := (List.eraseIdx_sublist _ _).trans (List.eraseIdx_sublist _ _)
 have hdrop : CQ (fun k => decide ((k : Int) ∈ [(i : Int), (j : Int)])) 0 rings = (rings.eraseIdx (max i j)).eraseIdx (min i j) := by
  rcases Nat.lt_or_gt_of_ne hij with g | g
  ·rw [Nat.max_eq_right (by omega), Nat.min_eq_left (by omega)]
   exact JD _ i j g rings 0 (by omega) fun k _ => decide_eq_decide.2 (by simp only [List.mem_cons, List.not_mem_nil, or_false]; omega)
  ·rw [Nat.max_eq_left (by omega), Nat.min_eq_right (by omega)]
   exact JD _ j i g rings 0 (by omega) fun k _ => decide_eq_decide.2 (by simp only [List.mem_cons, List.not_mem_nil, or_false]; omega)
 have hrl : ((rings.eraseIdx (max i j)).eraseIdx (min i j)).length ≤ rings.length := hsub.length_le
 generalize (rings.eraseIdx (max i j)).eraseIdx (min i j) = rest at *
 have hupr : rest.Pairwise (fun a b => hd a < hd b) := h.up.sublist hsub
 have hner : ∀ l ∈ rest, l ≠ [] := fun l hl => (h.rg l (hsub.subset hl)).2.1
 have hdd := IT hperm h.dis
 rw [List.pairwise_cons, List.pairwise_cons] at hdd
 have hheads : ∀ x ∈ rest, hd x ≠ hd (plain (A5 n A B u v)) := by
  intro x hx e
  have g1 := Lh hRG
  have g2 := (l3 _ g1.2.2.2).1 (hrot.perm.mem_iff.2 (Qy hRG.2.1))
  have g3 : hd (plain (A5 n A B u v)) ∈ x := e ▸ Qy (hner x hx)
  rcases g2 with g | g
  ·exact hdd.1 x (by simp [hx]) _ g g1.2.2.2 g3
  ·exact hdd.2.1 x hx _ g g1.2.2.2 g3
 have hup := APL hupr hheads
 have hpz := AA5 rest (plain (A5 n A B u v))
 refine ⟨Vu rest (plain (A5 n A B u v)), rest, ?_, AQN h hperm hRG (fun t ht => by rw [← hrot.perm.mem_iff]; exact l3 t ht) hpz hup, hperm, hpz, hdis⟩
 ·obtain ⟨ys, y1, y2, y3⟩ := AAY n rings [(i : Int), (j : Int)] [A5 n A B u v] hD.1 (by simp) (by simp) (fun l hl => (h.rg l hl).2.1) (by simp; exact hRG.2.1)
  have hys : ys = Vu rest (plain (A5 n A B u v)) := by
   refine R0 hup (y2.trans ?_) y3
   rw [hdrop]
   exact (List.perm_append_comm (l₁ := rest) (l₂ := [plain (A5 n A B u v)])).trans hpz.symm
  rw [hys] at y1
  rw [Gf, Fy]
  have s1 : DY (A2 A u) (0 : Int) (1 : Int) = some [u] := by
   have := ACj (xs := A2 A u) (l := 0) (h := 1) (by omega) (by rw [l2]; simp)
   rw [l2] at this ⊢
   exact this
  have s2 : DY (A2 A u) (1 : Int) (AM (A2 A u)) = some (A2 A u).tail := by
   have := Gg (xs := A2 A u) (l := 1) (by rw [l2]; simp)
   rw [List.drop_one] at this
   exact this
  have d1 : DE 0 (AG (AM [u])) (A2 A u) = [u] := by rw [l2]; rfl
  have d2 : DE 1 (AG (AM (A2 A u).tail)) (A2 A u) = (A2 A u).tail := by
   rw [DE, AO, Q8, List.drop_one, List.take_length]
  have hcat : Hi ([[u], [Cn n u v], A2 B v, [Cn n v u], (A2 A u).tail], ()) = some (A5 n A B u v, ()) := by
   rw [KZ _ (by simp) (by simp; omega)]
   simp [A5]
  have ne : ((i : Int)) ≠ (j : Int) := by omega
  simp only [GS n rings u v hD, hRF, iu, iv, and_self, if_true, A1, Ik n rings _ hD.1 (fun l hl => (hD.2 l hl).1), pu, pv, ne, decide_true, decide_false, Bool.not_true, An hi, An hj, AA0, Hd, rA.1, rB.1, hu, hv, s1, s2, AGe, d1, d2, hcat, y1]
theorem ANA {n : Int} {rings : List (List Int)} {u v : Int} (h : FR n rings) (iu : In n u) (iv : In n v) (hp : plc rings u = plc rings v) :
  Jj ((n, (rings, ())), u, v, ()) = some (n, rings, 5, ()) := by
 have hD := h.dom
 have hRF := HD.2 h
 rw [Gf, Fy]
 simp only [GS n rings u v hD, hRF, iu, iv, and_self, if_true, A1, Ik n rings _ hD.1 (fun l hl => (hD.2 l hl).1), hp, decide_true, Bool.not_true]
end Go.Pev.Pl
end
section
namespace Go.Pev.Pl
open Tok
def M9 (rings : List (List Int)) (a b : Int) : Prop := ∃ A ∈ rings, a ∈ A ∧ b ∈ A
structure FC (n : Int) (rings : List (List Int)) (l : List Edge) : Prop where
 fr : FR n rings
 sam : ∀ a b, In n a → In n b → (M9 rings a b ↔ Con l a b)
 arcs : ∀ A ∈ rings, ∀ u v, okT n (.arc u v) → Cn n u v ∈ A → ∃ e ∈ l, (e.1 = u ∧ e.2.1 = v) ∨ (e.1 = v ∧ e.2.1 = u)
theorem FR.AGu {n : Int} {rings : List (List Int)} (h : FR n rings) {a b : Int} (ia : In n a) (ib : In n b) : plc rings a = plc rings b ↔ M9 rings a b := by
 obtain ⟨i, A, pa, hi, ha, _⟩ := Jv (h.cov a ia)
 obtain ⟨j, B, pb, hj, hb, _⟩ := Jv (h.cov b ib)
 rw [pa, pb]
 constructor
 ·intro e
  have : i = j := by omega
  subst this
  rw [hi] at hj
  cases hj
  exact ⟨A, List.mem_of_getElem? hi, ha, hb⟩
 ·rintro ⟨K, hK, h1, h2⟩
  obtain ⟨k, hk⟩ : ∃ k : Nat, rings[k]? = some K := by
   obtain ⟨k, hk, rfl⟩ := List.getElem_of_mem hK
   exact ⟨k, List.getElem?_eq_getElem hk⟩
  rw [h.uniq hi hk ia.2.2.2 ha h1, h.uniq hj hk ib.2.2.2 hb h2]
theorem FR.one {n : Int} {rings : List (List Int)} (h : FR n rings) {A B : List Int} (hA : A ∈ rings) (hB : B ∈ rings) {v : Int} (iv : v < n) (h1 : v ∈ A) (h2 : v ∈ B) : A = B := by
 obtain ⟨i, hi, rfl⟩ := List.getElem_of_mem hA
 obtain ⟨j, hj, rfl⟩ := List.getElem_of_mem hB
 have := h.uniq (List.getElem?_eq_getElem hi) (List.getElem?_eq_getElem hj) iv h1 h2
 subst this
 rfl
theorem M9.perm {a b : List (List Int)} (h : a.Perm b) (x y : Int) : M9 a x y ↔ M9 b x y := by
 constructor
 ·rintro ⟨A, hA, h1⟩; exact ⟨A, h.mem_iff.1 hA, h1⟩
 ·rintro ⟨A, hA, h1⟩; exact ⟨A, h.mem_iff.2 hA, h1⟩
theorem ASH {n u v x y : Int} {A B : List Int} (hA : TI n A) (hB : TI n B) (hu : u ∈ A) (hv : v ∈ B) (iu : In n u) (iv : In n v) (hd : Dis n A B) (ho : okT n (.arc x y)) (h : Cn n x y ∈ A5 n A B u v) : Cn n x y ∈ A ∨ Cn n x y ∈ B ∨ (x = u ∧ y = v) ∨ (x = v ∧ y = u) := by
 obtain ⟨_, l2, _, huv, ho2⟩ := LQ hA hB hu hv iu iv hd
 have pA := (CH hu).perm
 have pB := (CH hv).perm
 have g := AFi ho
 rw [A5, List.mem_cons, List.mem_cons, List.mem_append, List.mem_cons] at h
 rcases h with h | h | h | h | h
 ·have := iu.2.2.2; omega
 ·rw [Cm ho, Cm ho2] at h
  have := FL ho ho2 h
  cases this
  exact .inr (.inr (.inl ⟨rfl, rfl⟩))
 ·exact .inr (.inl (pB.mem_iff.2 h))
 ·rw [Cm ho, Cm (EO ho2)] at h
  have := FL ho (EO ho2) h
  cases this
  exact .inr (.inr (.inr ⟨rfl, rfl⟩))
 ·refine .inl (pA.mem_iff.2 ?_)
  rw [l2]
  exact List.mem_cons_of_mem _ h
theorem AQO {n : Int} {rings : List (List Int)} {l : List Edge} {e : Edge} (h : FC n rings l) (iu : In n e.1) (iv : In n e.2.1) :
  ∃ zs q, Jj ((n, (rings, ())), e.1, e.2.1, ()) = some (n, zs, q, ()) ∧ FC n zs (l ++ [e]) ∧ (q = 0 ∧ zs.length + 1 = rings.length ∨ q = 5 ∧ zs = rings) := by
 have hF := h.fr
 obtain ⟨i, A, pu, hi, hu, _⟩ := Jv (hF.cov _ iu)
 obtain ⟨j, B, pv, hj, hv, _⟩ := Jv (hF.cov _ iv)
 have mA := List.mem_of_getElem? hi
 have mB := List.mem_of_getElem? hj
 by_cases hij : i = j
 ·have hpe : plc rings e.1 = plc rings e.2.1 := by rw [pu, pv, hij]
  refine ⟨rings, 5, ANA hF iu iv hpe, ⟨hF, fun a b ia ib => ?_, fun A hA u v ho hm => ?_⟩, .inr ⟨rfl, rfl⟩⟩
  ·rw [h.sam a b ia ib, Con.snoc]
   have hc : Con l e.1 e.2.1 := (h.sam _ _ iu iv).1 ((hF.AGu iu iv).1 hpe)
   constructor
   ·exact .inl
   ·rintro (g | ⟨g1, g2⟩ | ⟨g1, g2⟩)
    ·exact g
    ·exact g1.trans (hc.trans g2)
    ·exact g1.trans (hc.symm.trans g2)
  ·obtain ⟨e', h1, h2⟩ := h.arcs A hA u v ho hm
   exact ⟨e', by simp [h1], h2⟩
 ·obtain ⟨zs, rest, q1, q3, q4, q5, q6⟩ := AX0 hF iu iv hi hj hu hv hij
  have gA := hF.rg A mA
  have gB := hF.rg B mB
  obtain ⟨l1, l2, l3, huv, ho⟩ := LQ gA.2.2.2 gB.2.2.2 hu hv iu iv q6
  obtain ⟨hRG, hrot⟩ := Y2 l1
  have len1 := q4.length_eq
  have len2 := q5.length_eq
  simp only [List.length_cons] at len1 len2
  refine ⟨zs, 0, q1, ⟨q3, fun a b ia ib => ?_, fun K hK x y hxy hm => ?_⟩, .inl ⟨rfl, by omega⟩⟩
  ·rw [M9.perm q5, Con.snoc, ← h.sam a b ia ib, ← h.sam a _ ia iu, ← h.sam _ b iv ib, ← h.sam a _ ia iv, ← h.sam _ b iu ib]
   have pmem : ∀ x, In n x → (x ∈ plain (A5 n A B e.1 e.2.1) ↔ x ∈ A ∨ x ∈ B) := fun x ix => by rw [← hrot.perm.mem_iff]; exact l3 x ix.2.2.2
   have sA : ∀ x, In n x → (M9 rings x e.1 ↔ x ∈ A) := fun x ix => by
    constructor
    ·rintro ⟨K, hK, h1, h2⟩
     rw [hF.one mA hK iu.2.2.2 hu h2]; exact h1
    ·intro hx; exact ⟨A, mA, hx, hu⟩
   have sB : ∀ x, In n x → (M9 rings x e.2.1 ↔ x ∈ B) := fun x ix => by
    constructor
    ·rintro ⟨K, hK, h1, h2⟩
     rw [hF.one mB hK iv.2.2.2 hv h2]; exact h1
    ·intro hx; exact ⟨B, mB, hx, hv⟩
   have sy : ∀ x y, M9 rings x y ↔ M9 rings y x := fun x y => ⟨fun ⟨K, a, b, c⟩ => ⟨K, a, c, b⟩, fun ⟨K, a, b, c⟩ => ⟨K, a, c, b⟩⟩
   rw [sA a ia, sB a ia, sy e.2.1 b, sB b ib, sy e.1 b, sA b ib]
   have hs : M9 rings a b ↔ (a ∈ A ∧ b ∈ A) ∨ (a ∈ B ∧ b ∈ B) ∨ ∃ K ∈ rest, a ∈ K ∧ b ∈ K := by
    rw [M9.perm q4]
    simp only [M9, List.mem_cons, exists_eq_or_imp]
   have hz : M9 (plain (A5 n A B e.1 e.2.1) :: rest) a b ↔ ((a ∈ A ∨ a ∈ B) ∧ (b ∈ A ∨ b ∈ B)) ∨ ∃ K ∈ rest, a ∈ K ∧ b ∈ K := by
    simp only [M9, List.mem_cons, exists_eq_or_imp, pmem a ia, pmem b ib]
   rw [hs, hz]
   constructor
   ·rintro (⟨h1 | h1, h2 | h2⟩ | h)
    ·exact .inl (.inl ⟨h1, h2⟩)
    ·exact .inr (.inl ⟨h1, h2⟩)
    ·exact .inr (.inr ⟨h1, h2⟩)
    ·exact .inl (.inr (.inl ⟨h1, h2⟩))
    ·exact .inl (.inr (.inr h))
   ·rintro ((⟨h1, h2⟩ | ⟨h1, h2⟩ | h) | ⟨h1, h2⟩ | ⟨h1, h2⟩)
    ·exact .inl ⟨.inl h1, .inl h2⟩
    ·exact .inl ⟨.inr h1, .inr h2⟩
    ·exact .inr h
    ·exact .inl ⟨.inl h1, .inr h2⟩
    ·exact .inl ⟨.inr h1, .inl h2⟩
  ·have old : ∀ K ∈ rings, Cn n x y ∈ K → ∃ e' ∈ l ++ [e], (e'.1 = x ∧ e'.2.1 = y) ∨ (e'.1 = y ∧ e'.2.1 = x) := fun K hK hm => by
    obtain ⟨e', h1, h2⟩ := h.arcs K hK x y hxy hm
    exact ⟨e', by simp [h1], h2⟩
   rcases List.mem_cons.1 (q5.mem_iff.1 hK) with rfl | hK
   ·rcases ASH gA.2.2.2 gB.2.2.2 hu hv iu iv q6 hxy (hrot.perm.mem_iff.2 hm) with g | g | ⟨g1, g2⟩ | ⟨g1, g2⟩
    ·exact old A mA g
    ·exact old B mB g
    ·exact ⟨e, by simp, .inl ⟨g1.symm, g2.symm⟩⟩
    ·exact ⟨e, by simp, .inr ⟨g2.symm, g1.symm⟩⟩
   ·exact old K (q4.mem_iff.2 (by simp [hK])) hm
theorem Y3 {N : Nat} (h1 : 1 ≤ N) (h2 : N ≤ 64) : FC (N : Int) (BE N) [] := by
 have hS : ∀ A ∈ BE N, ∃ k : Nat, k < N ∧ A = [(k : Int)] := fun A hA => by
  simp only [BE, List.mem_map, List.mem_range] at hA
  obtain ⟨k, hk, rfl⟩ := hA
  exact ⟨k, hk, rfl⟩
 have key : ∀ k, k < N → In (N : Int) (k : Int) := fun k hk => ⟨by omega, by omega, by omega, by omega⟩
 refine ⟨⟨⟨by omega, by omega⟩, fun l hl => ?_, ?_, ?_, fun v hv => ?_⟩, fun a b ia ib => ?_, fun A hA u v ho hm => ?_⟩
 ·obtain ⟨k, hk, rfl⟩ := hS l hl
  refine ⟨⟨by simp, fun x hx => ?_, by simp⟩, by simp, rfl, (AWy (N : Int) k).2 (key k hk)⟩
  simp only [List.mem_singleton] at hx
  omega
 ·rw [BE, List.pairwise_map]
  exact List.pairwise_lt_range.imp fun h => by simp only [hd, List.headD_cons]; omega
 ·rw [BE, List.pairwise_map]
  exact List.pairwise_lt_range.imp fun {a b} h t ht _ ht2 => by
   simp only [List.mem_singleton] at ht ht2
   omega
 ·obtain ⟨k, rfl⟩ := Int.eq_ofNat_of_zero_le hv.2.2.1
  have := hv.2.2.2
  exact ⟨[(k : Int)], by simp only [BE, List.mem_map, List.mem_range]; exact ⟨k, by omega, rfl⟩, by simp⟩
 ·constructor
  ·rintro ⟨A, hA, h1, h2⟩
   obtain ⟨k, _, rfl⟩ := hS A hA
   simp only [List.mem_singleton] at h1 h2
   rw [h1, h2]
   exact .refl _
  ·intro hc
   have := hc.nil
   subst this
   obtain ⟨k, rfl⟩ := Int.eq_ofNat_of_zero_le ia.2.2.1
   have := ia.2.2.2
   exact ⟨[(k : Int)], by simp only [BE, List.mem_map, List.mem_range]; exact ⟨k, by omega, rfl⟩, by simp, by simp⟩
 ·obtain ⟨k, hk, rfl⟩ := hS A hA
  simp only [List.mem_singleton] at hm
  have := AFi ho
  omega
theorem YK (l : List Edge) (hs : l.length < 1073741824) : ends (l, ()) = some (l.flatMap fun e => [e.1, e.2.1], ()) := by
 rw [AP8, AFB]
 have e := D2 (step := JB) (fun i (a : List Int) => (a, l, AM l, (i : Int), ())) l (fun x a => .inl (a ++ [x.1, x.2.1])) (fun a => .inl (a, ())) (fun i a => a.length = 2 * i) (by omega)
  (fun i x a hi hx h1 => by
   refine ⟨fun m' h' => ?_, fun r h' => by cases h'⟩
   cases h'
   rw [JB, AO, AN, decide_eq_true hi]
   simp only [An hx]
   rw [AL (by omega), BY (by simp only [AO, List.length_cons, List.length_nil]; omega)]
   exact ⟨rfl, by simp; omega⟩)
  (fun a _ => by rw [JB, AO, AN, decide_eq_false (by omega)]) [] rfl
 have e' : AY JB many ([], l, AM l, (0 : Int), ()) = _ := e
 rw [e', Bd]
 have hf : ∀ (xs : List Edge) (acc : List Int), xs.foldl (fun a x => a ++ [x.1, x.2.1]) acc = acc ++ xs.flatMap fun e => [e.1, e.2.1] := by
  intro xs
  induction xs with
  | nil => intro acc; simp
  | cons x xs ih => intro acc; rw [List.foldl_cons, ih, List.flatMap_cons]; simp
 rw [hf]
 rfl
theorem AJf (n : Int) (l : List Edge) : ((l.flatMap fun e => [e.1, e.2.1]).all fun v => decide (In n v)) = l.all fun e => decide (In n e.1 ∧ In n e.2.1) := by
 induction l with
 | nil => rfl
 | cons e l ih =>
  rw [List.flatMap_cons, List.all_append, List.all_cons, ih]
  simp
theorem AJe (l : List Edge) : (l.flatMap fun e => [e.1, e.2.1]).length = 2 * l.length := by
 induction l with
 | nil => rfl
 | cons e l ih => rw [List.flatMap_cons, List.length_append, ih]; simp; omega
theorem AM8 {n : Int} (l : List Edge) (hs : l.length < 1073741824) (ha : ∀ e ∈ l, In n e.1 ∧ In n e.2.1) :
  ∀ (m i cnt : Nat) (rings : List (List Int)) (taken : List Bool), i + m = l.length → taken.length = i → FC n rings (l.take i) → m < cnt →
  ∃ zs taken', AQ Bo cnt (n, rings, (0 : Int), taken, l, (l.length : Int), (i : Int), ()) = some (.inl (n, zs, (0 : Int), taken', ())) ∧ FC n zs l ∧ taken'.length = l.length := by
 intro m
 induction m with
 | zero =>
  intro i cnt rings taken hi ht h hc
  obtain ⟨cnt, rfl⟩ : ∃ c, cnt = c + 1 := ⟨cnt - 1, by omega⟩
  rw [List.take_of_length_le (by omega)] at h
  refine ⟨rings, taken, ?_, h, by omega⟩
  rw [AQ, Bo, AN, decide_eq_false (by omega)]
 | succ m ih =>
  intro i cnt rings taken hi ht h hc
  obtain ⟨cnt, rfl⟩ : ∃ c, cnt = c + 1 := ⟨cnt - 1, by omega⟩
  have hi' : i < l.length := by omega
  have hx : l[i]? = some l[i] := List.getElem?_eq_getElem hi'
  obtain ⟨iu, iv⟩ := ha _ (List.getElem_mem hi')
  obtain ⟨zs, q, e1, e2, _⟩ := AQO h iu iv
  rw [AQ, Bo, AN, decide_eq_true hi']
  simp only [An hx, e1]
  rw [AL (by omega), BY (by simp only [AO, List.length_cons, List.length_nil]; omega)]
  rw [← List.take_succ_eq_append_getElem hi'] at e2
  exact ih (i + 1) cnt zs _ (by omega) (by simp [Cf, ht]) e2 (by omega)
theorem AP4 (k : Int) (l : List Edge) (hk : Sz k) (hs : l.length < 1073741824) :
  ((∀ e ∈ l, In k e.1 ∧ In k e.2.1) ∧ ∃ rings, fof (k, l, ()) = some ((k, (rings, ())), 0, ()) ∧ FC k rings l) ∨
  (¬ (∀ e ∈ l, In k e.1 ∧ In k e.2.1) ∧ fof (k, l, ()) = some ((0, ([], ())), 10, ())) := by
 have hmany : 9223372036854775808 < many := by simp only [many]; omega
 rw [ANt, AJV]
 have hm : F5 k = (k, BE k.toNat, 0, ()) := by rw [F5, if_pos hk]
 obtain ⟨s1, s2⟩ := hk
 obtain ⟨N, rfl⟩ := Int.eq_ofNat_of_zero_le (show 0 ≤ k by omega)
 have h0 := Y3 (N := N) (by omega) (by omega)
 have hD := h0.fr.dom
 have hRF := HD.2 h0.fr
 have hfl := AJe l
 have hth : Ms (((N : Int), (BE N, ())), l.flatMap fun e => [e.1, e.2.1], ()) = some (if ∀ e ∈ l, In (N : Int) e.1 ∧ In (N : Int) e.2.1 then 0 else 10, ()) := by
  rw [X3 _ _ _ hD (by omega), AJf, AFh, if_pos hRF]
  by_cases ha : ∀ e ∈ l, In (N : Int) e.1 ∧ In (N : Int) e.2.1
  ·rw [if_pos ha, if_pos (List.all_eq_true.2 fun e he => decide_eq_true (ha e he))]
  ·rw [if_neg ha, if_neg]
   intro hc
   exact ha fun e he => of_decide_eq_true (List.all_eq_true.1 hc e he)
 simp only [AAr, hm, Int.toNat_natCast, N4, Bool.not_true]
 rw [Q2, KP, KT, G3]
 by_cases ha : ∀ e ∈ l, In (N : Int) e.1 ∧ In (N : Int) e.2.1
 ·refine .inl ⟨ha, ?_⟩
  rw [if_pos ha] at hth
  obtain ⟨zs, taken, e1, e2, _⟩ := AM8 l hs ha l.length 0 many (BE N) [] (by omega) rfl (by rw [List.take_zero]; exact h0) (by omega)
  have e1' : AQ Bo many ((N : Int), BE N, (0 : Int), [], l, (l.length : Int), (0 : Int), ()) = _ := e1
  simp only [YK l hs, hth, N4, Bool.not_true, Aj, AO, e1']
  exact ⟨zs, rfl, e2⟩
 ·refine .inr ⟨ha, ?_⟩
  rw [if_neg ha] at hth
  simp only [YK l hs, hth, A1]
  rfl
end Go.Pev.Pl
end
section
namespace Go.Pev.Pl
open Tok
def cl (out : List Int) (v : Int) : Int := out.getD v.toNat 0
def CI (N : Nat) (l : List Edge) (out : List Int) : Prop := out.length = N ∧ ∀ k, k < N → 0 ≤ out.getD k 0 ∧ out.getD k 0 ≤ (k : Int) ∧ Con l (k : Int) (out.getD k 0)
theorem AO8 : ∀ (l : List Int) (k : Nat) (x : Int), k < l.length → (l.set k x).sum = l.sum - l.getD k 0 + x := by
 intro l
 induction l with
 | nil => intro k x h; simp at h
 | cons y l ih =>
  intro k x h
  cases k with
  | zero => simp; omega
  | succ k =>
   have := ih k x (by simpa using h)
   simp only [List.set_cons_succ, List.sum_cons, List.getD_cons_succ, this]
   omega
theorem MF {N : Nat} {l : List Edge} {out : List Int} (h : CI N l out) (hN : N ≤ 64) : 0 ≤ out.sum ∧ out.sum ≤ 4096 := by
 obtain ⟨h1, h2⟩ := h
 have key : ∀ (xs : List Int), (∀ x ∈ xs, 0 ≤ x ∧ x ≤ 64) → 0 ≤ xs.sum ∧ xs.sum ≤ 64 * (xs.length : Int) := by
  intro xs
  induction xs with
  | nil => intro _; simp
  | cons x xs ih =>
   intro h
   have h3 := ih fun y hy => h y (List.mem_cons_of_mem _ hy)
   have h4 := h x (by simp)
   simp only [List.sum_cons, List.length_cons]
   omega
 have := key out fun x hx => by
  obtain ⟨k, hk, rfl⟩ := List.getElem_of_mem hx
  have h5 := h2 k (by omega)
  rw [List.getD_eq_getElem?_getD, List.getElem?_eq_getElem hk, Option.getD_some] at h5
  omega
 omega
theorem AZq (N : Nat) (l : List Edge) (hs : l.length < 1073741824) (ha : ∀ e ∈ l, In (N : Int) e.1 ∧ In (N : Int) e.2.1) :
  ∀ (m i cnt : Nat) (out : List Int) (more : Bool), i + m = l.length → CI N l out → m < cnt →
  ∃ out' more', AQ Cg cnt ((N : Int), l, out, more, (i : Int), ()) = some (.inl ((N : Int), l, out', more', ())) ∧ CI N l out' ∧
   ((more' = more ∧ out' = out ∧ ∀ e ∈ l.drop i, cl out e.1 = cl out e.2.1) ∨ (more' = true ∧ out'.sum < out.sum)) := by
 intro m
 induction m with
 | zero =>
  intro i cnt out more hi h hc
  obtain ⟨cnt, rfl⟩ : ∃ c, cnt = c + 1 := ⟨cnt - 1, by omega⟩
  refine ⟨out, more, ?_, h, .inl ⟨rfl, rfl, ?_⟩⟩
  ·rw [AQ, Cg, AO, AN, decide_eq_false (by omega)]
  ·rw [List.drop_of_length_le (by omega)]
   intro e he; cases he
 | succ m ih =>
  intro i cnt out more hi h hc
  obtain ⟨cnt, rfl⟩ : ∃ c, cnt = c + 1 := ⟨cnt - 1, by omega⟩
  have hi' : i < l.length := by omega
  have hx : l[i]? = some l[i] := List.getElem?_eq_getElem hi'
  have hm := List.getElem_mem hi'
  have hdr : l.drop i = l[i] :: l.drop (i + 1) := List.drop_eq_getElem_cons hi'
  rw [AQ, Cg, AO, AN, decide_eq_true hi']
  simp only [An hx]
  rw [hdr, AL (by omega)]
  generalize l[i] = e at *
  obtain ⟨iu, iv⟩ := ha e hm
  have hcon := Con.edge e hm
  obtain ⟨eu, ev, eu'⟩ := e
  simp only at iu iv hcon ⊢
  obtain ⟨u, rfl⟩ := Int.eq_ofNat_of_zero_le iu.2.2.1
  obtain ⟨v, rfl⟩ := Int.eq_ofNat_of_zero_le iv.2.2.1
  have hu : u < N := by have := iu.2.2.2; omega
  have hv : v < N := by have := iv.2.2.2; omega
  have hul : u < out.length := by rw [h.1]; exact hu
  have hvl : v < out.length := by rw [h.1]; exact hv
  rw [Am, decide_eq_false (by omega)]
  simp only []
  rw [Am, decide_eq_false (by omega)]
  simp only []
  rw [Aq, decide_eq_false (by omega)]
  simp only []
  rw [Aq, decide_eq_false (by omega)]
  simp only [EC (0 : Int) hul, EC (0 : Int) hvl, JE, AWc, A1]
  by_cases hq : out.getD u 0 = out.getD v 0
  ·rw [decide_eq_true hq]
   obtain ⟨out', more', e1, e2, e3⟩ := ih (i + 1) cnt out more (by omega) h (by omega)
   refine ⟨out', more', e1, e2, ?_⟩
   rcases e3 with ⟨g1, g2, g3⟩ | g
   ·refine .inl ⟨g1, g2, fun e' he' => ?_⟩
    rcases List.mem_cons.1 he' with rfl | he'
    ·simpa [cl] using hq
    ·exact g3 e' he'
   ·exact .inr g
  ·rw [decide_eq_false hq]
   have hne : u ≠ v := by rintro rfl; exact hq rfl
   have hlow : Cy (out.getD u 0) (out.getD v 0) = if out.getD v 0 < out.getD u 0 then out.getD v 0 else out.getD u 0 := rfl
   generalize hlw : Cy (out.getD u 0) (out.getD v 0) = low at *
   have hvl2 : v < (out.set u low).length := by simp; exact hvl
   simp only [EC (0 : Int) hvl2]
   have cu := h.2 u hu
   have cv := h.2 v hv
   have hset : ∀ k, k < N → ((out.set u low).set v low).getD k 0 = if k = u ∨ k = v then low else out.getD k 0 := by
    intro k hk
    have hkl : k < out.length := by rw [h.1]; exact hk
    by_cases k2 : k = v
    ·subst k2
     simp [List.getD_eq_getElem?_getD, hkl]
    ·by_cases k1 : k = u
     ·subst k1
      rw [if_pos (.inl rfl), List.getD_eq_getElem?_getD, List.getElem?_set_ne (Ne.symm k2)]
      simp [hkl]
     ·rw [if_neg (by omega), List.getD_eq_getElem?_getD, List.getElem?_set_ne (Ne.symm k2), List.getElem?_set_ne (Ne.symm k1), List.getD_eq_getElem?_getD]
   have hlc : 0 ≤ low ∧ low ≤ (u : Int) ∧ low ≤ (v : Int) ∧ Con l (u : Int) low := by
    rw [hlow]
    split
    ·exact ⟨cv.1, by omega, cv.2.1, hcon.trans cv.2.2⟩
    ·exact ⟨cu.1, cu.2.1, by omega, cu.2.2⟩
   have hI : CI N l ((out.set u low).set v low) := by
    refine ⟨by simp [h.1], fun k hk => ?_⟩
    rw [hset k hk]
    split
    ·rename_i hkk
     rcases hkk with rfl | rfl
     ·exact ⟨hlc.1, hlc.2.1, hlc.2.2.2⟩
     ·exact ⟨hlc.1, hlc.2.2.1, hcon.symm.trans hlc.2.2.2⟩
    ·exact h.2 k hk
   have hsum : ((out.set u low).set v low).sum < out.sum := by
    rw [AO8 _ _ _ hvl2, AO8 _ _ _ hul]
    have : (out.set u low).getD v 0 = out.getD v 0 := by
     rw [List.getD_eq_getElem?_getD, List.getElem?_set_ne hne, ← List.getD_eq_getElem?_getD]
    rw [this, hlow]
    split <;> omega
   obtain ⟨out', more', e1, e2, e3⟩ := ih (i + 1) cnt _ true (by omega) hI (by omega)
   refine ⟨out', more', e1, e2, .inr ?_⟩
   rcases e3 with ⟨g1, g2, _⟩ | ⟨g1, g2⟩
   ·exact ⟨g1, by rw [g2]; exact hsum⟩
   ·exact ⟨g1, by omega⟩
theorem AZB (N : Nat) (hN : N ≤ 64) (l : List Edge) (hs : l.length < 1073741824) (ha : ∀ e ∈ l, In (N : Int) e.1 ∧ In (N : Int) e.2.1) :
  ∀ (m cnt : Nat) (out : List Int), out.sum.toNat = m → CI N l out → m + 1 < cnt →
  ∃ out', AQ DQ cnt ((N : Int), l, out, true, ()) = some (.inl (out', ())) ∧ CI N l out' ∧ ∀ e ∈ l, cl out' e.1 = cl out' e.2.1 := by
 have hmany : 9223372036854775808 < many := by simp only [many]; omega
 intro m
 induction m using Nat.strongRecOn with
 | _ m ih =>
 intro cnt out hm h hc
 obtain ⟨cnt, rfl⟩ : ∃ c, cnt = c + 1 := ⟨cnt - 1, by omega⟩
 rw [AQ, DQ]
 obtain ⟨out', more', e1, e2, e3⟩ := AZq N l hs ha l.length 0 many out false (by omega) h (by omega)
 have e1' : AQ Cg many ((N : Int), l, out, false, (0 : Int), ()) = _ := e1
 simp only [Aj, e1']
 rcases e3 with ⟨g1, g2, g3⟩ | ⟨g1, g2⟩
 ·subst g1 g2
  obtain ⟨cnt, rfl⟩ : ∃ c, cnt = c + 1 := ⟨cnt - 1, by omega⟩
  rw [AQ, DQ]
  exact ⟨_, rfl, e2, by simpa using g3⟩
 ·subst g1
  have b1 := MF h hN
  have b2 := MF e2 hN
  exact ih out'.sum.toNat (by omega) cnt out' rfl e2 (by omega)
structure Rr (n : Int) (l : List Edge) (out : List Int) : Prop where
 len : (out.length : Int) = n
 same : ∀ a b, In n a → In n b → (cl out a = cl out b ↔ Con l a b)
 isin : ∀ a, In n a → In n (cl out a)
 con : ∀ a, In n a → Con l a (cl out a)
 least : ∀ a b, In n a → In n b → Con l a b → cl out a ≤ b
theorem Dd (n : Int) (l : List Edge) (hn : Sz n) (hs : l.length < 1073741824) (ha : ∀ e ∈ l, In n e.1 ∧ In n e.2.1) : ∃ out, GQ (n, l, ()) = some (out, ()) ∧ Rr n l out := by
 have hmany : 9223372036854775808 < many := by simp only [many]; omega
 obtain ⟨s1, s2⟩ := hn
 obtain ⟨N, rfl⟩ := Int.eq_ofNat_of_zero_le (show 0 ≤ n by omega)
 rw [OX, Hj]
 have key : ∀ (m k cnt : Nat), k + m = N → m < cnt → AQ Ch cnt ((N : Int), l, (List.range k).map (fun (k : Nat) => (k : Int)), (k : Int), ()) = some (.inl ((N : Int), l, (List.range N).map (fun (k : Nat) => (k : Int)), ())) := by
  intro m
  induction m with
  | zero =>
   intro k cnt hk hc
   obtain ⟨cnt, rfl⟩ : ∃ c, cnt = c + 1 := ⟨cnt - 1, by omega⟩
   have : k = N := by omega
   subst this
   rw [AQ, Ch, AN, decide_eq_false (by omega)]
  | succ m ih =>
   intro k cnt hk hc
   obtain ⟨cnt, rfl⟩ : ∃ c, cnt = c + 1 := ⟨cnt - 1, by omega⟩
   have hih := ih (k + 1) cnt (by omega) (by omega)
   rw [List.range_succ, List.map_append] at hih
   rw [AQ, Ch, AN, decide_eq_true (by omega)]
   simp only []
   rw [AL (by omega), BY (by simp only [AO, List.length_cons, List.length_nil, List.length_map, List.length_range]; omega)]
   exact hih
 have e0 := key N 0 many (by omega) (by omega)
 have e0' : AQ Ch many ((N : Int), l, [], (0 : Int), ()) = _ := e0
 have h0 : CI N l ((List.range N).map (fun (k : Nat) => (k : Int))) := by
  refine ⟨by simp, fun k hk => ?_⟩
  have : ((List.range N).map (fun (k : Nat) => (k : Int))).getD k 0 = (k : Int) := by simp [List.getD_eq_getElem?_getD, hk]
  rw [this]
  exact ⟨by omega, by omega, .refl _⟩
 have hb := MF h0 (by omega)
 obtain ⟨out, e1, e2, e3⟩ := AZB N (by omega) l hs ha _ many _ rfl h0 (by omega)
 simp only [Aj, e0', e1]
 have fact : ∀ a, In (N : Int) a → 0 ≤ cl out a ∧ cl out a ≤ a ∧ Con l a (cl out a) := by
  intro a hia
  obtain ⟨k, rfl⟩ := Int.eq_ofNat_of_zero_le hia.2.2.1
  have := e2.2 k (by have := hia.2.2.2; omega)
  simpa [cl] using this
 refine ⟨out, rfl, by rw [e2.1], fun a b ia ib => ⟨fun h => ?_, fun h => h.const e3⟩, fun a ia => ?_, fun a ia => (fact a ia).2.2, fun a b ia ib h => ?_⟩
 ·have h1 := (fact a ia).2.2
  have h2 := (fact b ib).2.2
  rw [← h] at h2
  exact h1.trans h2.symm
 ·have := fact a ia
  have h3 := ia.2.2.2
  exact ⟨s1, s2, by omega, by omega⟩
 ·have h1 : cl out a = cl out b := h.const e3
  have := (fact b ib).2.1
  omega
end Go.Pev.Pl
end
end
section
namespace Go.Pev.Pl
end Go.Pev.Pl
end
section
section
namespace Go.Pev.Pl
set_option linter.unusedSimpArgs false
structure UF (N : Nat) (s : List Int) (c : Int → Int) : Prop where
 len : s.length = N
 lo : ∀ k, k < N → 0 ≤ s.getD k 0 ∧ s.getD k 0 ≤ (k : Int)
 par : ∀ k, k < N → c (s.getD k 0) = c (k : Int)
 root : ∀ k, k < N → s.getD k 0 = (k : Int) → c (k : Int) = (k : Int)
 le : ∀ k, k < N → 0 ≤ c (k : Int) ∧ c (k : Int) ≤ (k : Int)
theorem UF.idem {N : Nat} {s : List Int} {c : Int → Int} (h : UF N s c) : ∀ (m k : Nat), k ≤ m → k < N → c (c (k : Int)) = c (k : Int) := by
 intro m
 induction m with
 | zero =>
  intro k hk hN
  have := h.le k hN
  have e : c (k : Int) = (k : Int) := by omega
  rw [e, e]
 | succ m ih =>
  intro k hk hN
  have h1 := h.lo k hN
  by_cases hr : s.getD k 0 = (k : Int)
  ·have e := h.root k hN hr
   rw [e, e]
  ·obtain ⟨j, hj⟩ := Int.eq_ofNat_of_zero_le h1.1
   have hp := h.par k hN
   rw [hj] at hp
   rw [← hp]
   exact ih j (by omega) (by omega)
theorem UF.top {N : Nat} {s : List Int} {c : Int → Int} (h : UF N s c) {k : Nat} (hk : k < N) : s.getD (c (k : Int)).toNat 0 = c (k : Int) := by
 have h1 := h.le k hk
 obtain ⟨j, hj⟩ := Int.eq_ofNat_of_zero_le h1.1
 have hi := h.idem k k (Nat.le_refl _) hk
 rw [hj] at hi ⊢
 have hjN : j < N := by omega
 have h2 := h.lo j hjN
 have hp := h.par j hjN
 obtain ⟨i, hi'⟩ := Int.eq_ofNat_of_zero_le h2.1
 rw [hi'] at hp
 have h3 := h.le i (by omega)
 show s.getD j 0 = _
 omega
theorem Gj {N i x : Nat} (h : (List.range N)[i]? = some x) : x = i := by
 rw [List.getElem?_eq_some_iff] at h
 obtain ⟨h1, h2⟩ := h
 simpa using h2.symm
def AYw (c : Int → Int) (u v : Int) : Int → Int := fun x => if c x = max (c u) (c v) then min (c u) (c v) else c x
def AWw (N : Nat) (c : Int → Int) (l : List Edge) : Prop := ∀ a b, In (N : Int) a → In (N : Int) b → (c a = c b ↔ Con l a b)
theorem AWw.snoc {N : Nat} {c : Int → Int} {l : List Edge} {e : Edge} (h : AWw N c l) (h1 : In (N : Int) e.1) (h2 : In (N : Int) e.2.1) : AWw N (AYw c e.1 e.2.1) (l ++ [e]) := by
 intro a b ia ib
 rw [Con.snoc, ← h a b ia ib, ← h a _ ia h1, ← h _ b h2 ib, ← h a _ ia h2, ← h _ b h1 ib]
 unfold AYw
 generalize c a = x
 generalize c b = y
 generalize c e.1 = u
 generalize c e.2.1 = v
 split <;> split <;> omega
end Go.Pev.Pl
end
section
namespace Go.Pev.Pl
set_option linter.unusedSimpArgs false
def sh (n : Int) : Prop := 0 ≤ n ∧ n ≤ 65535
instance (n : Int) : Decidable (sh n) := inferInstanceAs (Decidable (_ ∧ _))
def tw (n : Int) : List Int := [n / 256, n % 256]
end Go.Pev.Pl
end
section
namespace Go.Pev.Pl
set_option linter.unusedSimpArgs false
abbrev Res := Int × Int × List Int × Unit
def val (r : Res) : Prop := (0 ≤ r.1 ∧ r.1 ≤ 255) ∧ sh r.2.1 ∧ sh (r.2.2.1.length : Int) ∧ ∀ x ∈ r.2.2.1, sh x
instance (r : Res) : Decidable (val r) := inferInstanceAs (Decidable (_ ∧ _ ∧ _ ∧ _))
def enc (r : Res) : List Int := r.1 :: (tw r.2.1 ++ (tw (r.2.2.1.length : Int) ++ r.2.2.1.flatMap tw))
end Go.Pev.Pl
end
section
namespace Go.Pev.Pl
set_option linter.unusedSimpArgs false
set_option maxRecDepth 100000
theorem GO (a : Int) : ieq a a = true := by rw [ES]; simp
end Go.Pev.Pl
end
section
namespace Go.Pev.Pl
open Go.RowKit Tok
def upT : Tok → Option Edge
 | .arc u v => if u < v then some (u, v, ()) else none
 | .ver _ => none
def upI (n t : Int) : Option Edge := (Bp n t).bind upT
def HC (n : Int) (xs : List Int) : List Edge := xs.filterMap (upI n)
theorem T.ups {l : List Tok} (h : T l) : (l.filterMap upT).length + 1 = (HL l).length := by
 induction h with
 | one v => rfl
 | add x l v h hne hv ih =>
  have : ((x :: Tok.arc x.st v :: .ver v :: .arc v x.st :: l).filterMap upT).length = ((x :: l).filterMap upT).length + 1 := by
   have u2 : upT (.ver v) = none := rfl
   by_cases hl : x.st < v
   ·have u1 : upT (.arc x.st v) = some (x.st, v, ()) := if_pos hl
    have u3 : upT (.arc v x.st) = none := if_neg (by omega)
    cases hx : upT x <;> simp only [List.filterMap_cons, hx, u1, u2, u3, List.length_cons]
   ·have u1 : upT (.arc x.st v) = none := if_neg hl
    have u3 : upT (.arc v x.st) = some (v, x.st, ()) := if_pos (by omega)
    cases hx : upT x <;> simp only [List.filterMap_cons, hx, u1, u2, u3, List.length_cons]
  rw [this]
  cases x <;> simp [HL] at ih ⊢ <;> omega
 | rot a b h ih =>
  simp only [Ru, List.length_append, List.filterMap_append] at ih ⊢
  omega
theorem AOl {n : Int} {L : List Tok} (h : ∀ t ∈ L, okT n t) : HC n (L.map (CS n)) = L.filterMap upT := by
 induction L with
 | nil => rfl
 | cons t L ih =>
  have h1 := ih fun t ht => h t (List.mem_cons_of_mem _ ht)
  have h2 : upI n (CS n t) = upT t := by rw [upI, B1 (h t (by simp))]; rfl
  rw [HC] at h1 ⊢
  rw [List.map_cons, List.filterMap_cons, List.filterMap_cons, h2, h1]
theorem AOm {n : Int} {A : List Int} (h : RG n A) : (HC n A).length + 1 = (JY n A).length := by
 have h1 := AVd h
 obtain ⟨L, q1, q2, q3⟩ := h.2.2.2
 have h2 := q3.len
 have h3 := T.ups q3
 rw [q1, List.length_map] at h1
 rw [q1, AOl q2]
 omega
theorem HB {n : Int} {A : List Int} {e : Edge} : e ∈ HC n A ↔ e.1 < e.2.1 ∧ okT n (.arc e.1 e.2.1) ∧ Cn n e.1 e.2.1 ∈ A := by
 rw [HC, List.mem_filterMap]
 constructor
 ·rintro ⟨t, ht, h⟩
  rw [upI, Option.bind_eq_some_iff] at h
  obtain ⟨x, h1, h2⟩ := h
  obtain ⟨g1, g2⟩ := IQ h1
  cases x with
  | ver v => cases h2
  | arc u v =>
   simp only [upT] at h2
   split at h2
   ·cases h2
    exact ⟨by assumption, g1, by rw [Cm g1, g2]; exact ht⟩
   ·cases h2
 ·rintro ⟨h1, h2, h3⟩
  refine ⟨_, h3, ?_⟩
  rw [upI, Cm h2, B1 h2]
  simp [upT, h1]
theorem AQW {N : Nat} {rings : List (List Int)} (h : FR (N : Int) rings) : ∀ (ls : List (List Int)), (∀ l ∈ ls, l ∈ rings) → (ls.flatMap (JY (N : Int))).length = (ls.flatMap (HC (N : Int))).length + ls.length := by
 intro ls
 induction ls with
 | nil => intro _; rfl
 | cons l ls ih =>
  intro hg
  have h1 := ih fun k hk => hg k (List.mem_cons_of_mem _ hk)
  have h2 := AOm (h.rg l (hg l (by simp)))
  rw [List.flatMap_cons, List.flatMap_cons, List.length_append, List.length_append, List.length_cons]
  omega
theorem AGC {N : Nat} {rings : List (List Int)} (h : FR (N : Int) rings) : (rings.flatMap (JY (N : Int))).length = N := by
 have hn : (rings.flatMap (JY (N : Int))).Nodup := by
  rw [List.Nodup, List.pairwise_flatMap]
  refine ⟨fun l hl => (AGB (N : Int) l).imp fun h => by omega, ?_⟩
  exact h.dis.imp fun {a b} hd x hx y hy e => by
   subst e
   exact hd x ((GK x).1 hx).2.2 ((GK x).1 hx).2.1 ((GK x).1 hy).2.2
 have hrn : ((List.range N).map (fun (k : Nat) => (k : Int))).Nodup := by
  rw [List.Nodup, List.pairwise_map]
  exact List.nodup_range.imp fun h e => h (by omega)
 have a1 := B0 (b := (List.range N).map (fun (k : Nat) => (k : Int))) hn fun x hx => by
  rw [List.mem_flatMap] at hx
  obtain ⟨l, _, hx⟩ := hx
  have := (GK x).1 hx
  rw [List.mem_map]
  exact ⟨x.toNat, by rw [List.mem_range]; omega, by omega⟩
 have a2 := B0 (b := rings.flatMap (JY (N : Int))) hrn fun x hx => by
  rw [List.mem_map] at hx
  obtain ⟨k, hk, rfl⟩ := hx
  rw [List.mem_range] at hk
  obtain ⟨l, hl, hm⟩ := h.cov (k : Int) ⟨h.sz.1, h.sz.2, by omega, by omega⟩
  rw [List.mem_flatMap]
  exact ⟨l, hl, (GK _).2 ⟨by omega, by omega, hm⟩⟩
 simp only [List.length_map, List.length_range] at a1 a2
 omega
theorem AJh {N : Nat} {rings : List (List Int)} (h : FR (N : Int) rings) : (rings.flatMap (HC (N : Int))).length + rings.length = N := by
 rw [← AQW h rings fun l hl => hl, AGC h]
section
variable {n : Int} {rings : List (List Int)}
theorem AJJ {l : List Edge} {out : List Int} (h : FC n rings l) (hc : Rr n l out) {A : List Int} {u : Int} (hA : A ∈ rings) (iu : In n u) (hu : u ∈ A) : hd A = cl out u := by
 have gA := h.fr.rg A hA
 have ih := Lh gA
 have hh := Qy gA.2.1
 have h1 : Con l u (hd A) := (h.sam u (hd A) iu ih).1 ⟨A, hA, hu, hh⟩
 have h2 := hc.least u (hd A) iu ih h1
 have h3 := hc.isin u iu
 obtain ⟨K, hK, k1, k2⟩ := (h.sam u _ iu h3).2 (hc.con u iu)
 have := h.fr.one hA hK iu.2.2.2 hu k1
 subst this
 have h4 := (D9 gA.2.1).2 _ k2
 rw [gA.2.2.1] at h4
 have : hd A = A.headD 0 := rfl
 omega
end
end Go.Pev.Pl
end
section
namespace Go.Pev.Pl
set_option linter.unusedSimpArgs false
set_option maxRecDepth 100000
def HM (n : Nat) : Int := ((@Lw idI ((n : Int), ())).getD (0, ())).1
theorem AZ2 : ((List.range 65).all fun k => decide (@Lw idI ((k : Int), ()) = some (HM k, ()))) = true := by kernel_rfl
theorem AZn : ((List.range 65).all fun k => decide (@XG idI ((k : Int), ()) = some (HM k, ()))) = true := by kernel_rfl
theorem AQo (n : Nat) (h : n ≤ 64) : Lw ((n : Int), ()) = some (HM n, ()) := by
 rw [show Lw ((n : Int), ()) = @Lw idI ((n : Int), ()) from congrArg (fun i => @Lw i ((n : Int), ())) XS]
 exact of_decide_eq_true (List.all_eq_true.1 AZ2 n (by simp; omega))
theorem AIe (n : Nat) (h : n ≤ 64) : XG ((n : Int), ()) = some (HM n, ()) := by
 rw [show XG ((n : Int), ()) = @XG idI ((n : Int), ()) from congrArg (fun i => @XG i ((n : Int), ())) XS]
 exact of_decide_eq_true (List.all_eq_true.1 AZn n (by simp; omega))
def AYe (a b : Int) : Int := if a < b then -1 else if b < a then 1 else 0
theorem AFJ (a b : Int) : G7 (a, b, ()) = some (AYe a b, ()) := by
 rw [Ka, G6]
 simp only [Ts, QM, GO, Bool.not_true]
 unfold AYe
 rw [Am, Am]
 by_cases h : a < b
 ·rw [decide_eq_true h, if_pos h]
 ·rw [decide_eq_false h, if_neg h]
  by_cases h' : b < a
  ·rw [decide_eq_true h', if_pos h']
  ·rw [decide_eq_false h', if_neg h']
theorem AXn (a b : Int) : orI ([a, b], ()) = some (if a = 0 then b else a, ()) := by
 rw [AVM, APT]
 have e := L4 (step := MW) (fun i => (0, [a, b], AM [a, b], (i : Int), ())) [a, b] (fun x => !decide (x = 0)) (fun i => .inl ([a, b].getD i 0, ())) (.inr (.inl (0, ()))) (by simp)
  (fun i x hi hx => by
   rw [MW, AO, AN, decide_eq_true hi]
   simp only [An hx, A1]
   have hi2 : i < 2 := hi
   rw [AL (by omega)]
   have hg : [a, b].getD i 0 = x := by rw [List.getD_eq_getElem?_getD, hx]; rfl
   rw [hg]
   by_cases h : x = 0
   ·simp [h]
   ·simp [h])
  (by rw [MW, AO, AN, decide_eq_false (by omega)])
 have e' : AY MW many (0, [a, b], AM [a, b], (0 : Int), ()) = _ := e
 rw [e']
 by_cases h : a = 0
 ·by_cases h' : b = 0
  ·simp [h, h']
  ·simp [h, h', List.findIdx_cons]
 ·simp [h, List.findIdx_cons]
theorem AEf (p x : Tie) : ∃ y, FY (p, x, ()) = some (y, ()) ∧ ile 0 y = !decide (ahead p x) := by
 rw [Sd, I7]
 simp only [AFJ, AXn]
 refine ⟨_, rfl, ?_⟩
 rw [Aq]
 by_cases h : ahead p x
 ·rw [decide_eq_true h]
  unfold ahead at h
  unfold AYe
  rw [decide_eq_false]; · rfl
  split <;> split <;> (try split) <;> omega
 ·rw [decide_eq_false h]
  unfold ahead at h
  unfold AYe
  rw [decide_eq_true]; · rfl
  split <;> split <;> (try split) <;> omega
def Jd (N : Nat) (ts : List Tie) (i : Nat) : Prop :=
 0 ≤ (ts.getD i zT).1 ∧ (ts.getD i zT).1 < (ts.getD i zT).2.1 ∧ (ts.getD i zT).2.1 < (N : Int) ∧ 0 ≤ (ts.getD i zT).2.2.1 ∧ (ts.getD i zT).2.2.1 ≤ HM N ∧ (i = 0 ∨ ahead (ts.getD (i - 1) zT) (ts.getD i zT))
instance (N : Nat) (ts : List Tie) (i : Nat) : Decidable (Jd N ts i) := inferInstanceAs (Decidable (_ ∧ _ ∧ _ ∧ _ ∧ _ ∧ _))
def trs (ts : List Tie) (k : Nat) : List Edge := (List.range k).foldl (fun a i => if (ts.getD i zT).2.2.2.1 = true then a ++ [ed (ts.getD i zT)] else a) []
theorem AGA {α β ρ : Type} (P : β → Prop) [DecidablePred P] (g : β → α → α) (fin : α → ρ) (rt : ρ) : ∀ (xs : List β) (a : α), walk (fun x a => if P x then .inl (g x a) else .inr rt) fin xs a = if ∀ x ∈ xs, P x then fin (xs.foldl (fun a x => g x a) a) else rt := by
 intro xs
 induction xs with
 | nil => intro a; simp [walk]
 | cons x xs ih =>
  intro a
  rw [walk]
  by_cases h : P x
  ·rw [if_pos h]
   simp only []
   rw [ih]
   simp [h]
  ·rw [if_neg h]
   simp [h]
theorem UR (ts : List Tie) (k : Nat) : trs ts (k + 1) = if (ts.getD k zT).2.2.2.1 = true then trs ts k ++ [ed (ts.getD k zT)] else trs ts k := by
 unfold trs
 rw [List.range_succ, List.foldl_append]
 rfl
theorem ACF (ts : List Tie) : ∀ k, (trs ts k).length ≤ k := by
 intro k
 induction k with
 | zero => exact Nat.le_refl _
 | succ k ih =>
  rw [UR]
  split
  ·rw [List.length_append]; simp; omega
  ·omega
theorem AW6 (ts : List Tie) (e : Edge) : ∀ k, e ∈ trs ts k → ∃ i, i < k ∧ e = ed (ts.getD i zT) := by
 intro k
 induction k with
 | zero => intro h; simp [trs] at h
 | succ k ih =>
  intro h
  rw [UR] at h
  split at h
  ·rcases List.mem_append.1 h with h | h
   ·obtain ⟨i, h1, h2⟩ := ih h; exact ⟨i, by omega, h2⟩
   ·simp only [List.mem_singleton] at h; exact ⟨k, by omega, h⟩
  ·obtain ⟨i, h1, h2⟩ := ih h; exact ⟨i, by omega, h2⟩
def oks (N : Nat) (ts : List Tie) : Prop := ∀ i ∈ List.range ts.length, Jd N ts i
instance (N : Nat) (ts : List Tie) : Decidable (oks N ts) := inferInstanceAs (Decidable (∀ i ∈ List.range ts.length, Jd N ts i))
theorem AIh (N : Nat) (hN : N ≤ 64) (ts : List Tie) (hs : ts.length ≤ 400) :
  AY DM many ((N : Int), ts, HM N, ts, AM ts, (0 : Int), ()) = some (if oks N ts then .inr (.inl ((N : Int), ts, ())) else .inl (false, ())) := by
 have e := D2 (step := DM) (fun i (_ : Unit) => ((N : Int), ts, HM N, ts, AM ts, (i : Int), ())) (List.range ts.length) (fun i a => if Jd N ts i then .inl a else .inr (.inl (false, ()))) (fun _ => .inr (.inl ((N : Int), ts, ()))) (fun _ _ => True) (by simp; omega)
  (fun i x a hi hx _ => by
   have := Gj hx
   subst this
   rw [List.length_range] at hi
   have step : DM ((N : Int), ts, HM N, ts, AM ts, (x : Int), ()) = if Jd N ts x then some (.inl ((N : Int), ts, HM N, ts, AM ts, ((x + 1 : Nat) : Int), ())) else some (.inr (.inl (false, ()))) := by
    rw [DM, AO, AN, decide_eq_true hi]
    simp only [EC zT hi]
    obtain ⟨t, ht⟩ : ∃ t, ts.getD x zT = t := ⟨_, rfl⟩
    have hk : Jd N ts x ↔ (0 ≤ t.1 ∧ t.1 < t.2.1 ∧ t.2.1 < (N : Int) ∧ 0 ≤ t.2.2.1 ∧ t.2.2.1 ≤ HM N ∧ (x = 0 ∨ ahead (ts.getD (x - 1) zT) t)) := by unfold Jd; rw [ht]
    rw [ht]
    rw [Am, Aq, Aq, Am, Am]
    by_cases h1 : t.1 < 0
    ·rw [decide_eq_true h1, if_neg (fun h => by obtain ⟨q1, q2, q3, q4, q5, _⟩ := hk.1 h; omega)]
    rw [decide_eq_false h1]
    by_cases h2 : t.2.1 ≤ t.1
    ·rw [decide_eq_true h2, if_neg (fun h => by obtain ⟨q1, q2, q3, q4, q5, _⟩ := hk.1 h; omega)]
    rw [decide_eq_false h2]
    by_cases h3 : (N : Int) ≤ t.2.1
    ·rw [decide_eq_true h3, if_neg (fun h => by obtain ⟨q1, q2, q3, q4, q5, _⟩ := hk.1 h; omega)]
    rw [decide_eq_false h3]
    by_cases h4 : t.2.2.1 < 0
    ·rw [decide_eq_true h4, if_neg (fun h => by obtain ⟨q1, q2, q3, q4, q5, _⟩ := hk.1 h; omega)]
    rw [decide_eq_false h4]
    by_cases h5 : HM N < t.2.2.1
    ·rw [decide_eq_true h5, if_neg (fun h => by obtain ⟨q1, q2, q3, q4, q5, _⟩ := hk.1 h; omega)]
    rw [decide_eq_false h5]
    simp only []
    rw [AL (by omega), Am]
    by_cases h6 : x = 0
    ·subst h6
     rw [decide_eq_false (by omega), if_pos (hk.2 ⟨by omega, by omega, by omega, by omega, by omega, .inl rfl⟩)]
    ·rw [decide_eq_true (by omega), Af (by omega), show ((x : Int) - 1) = ((x - 1 : Nat) : Int) by omega]
     simp only [EC zT (show x - 1 < ts.length by omega)]
     obtain ⟨y, ey, hy⟩ := AEf (ts.getD (x - 1) zT) t
     have ey' : FY (((ts.getD (x - 1) zT).1, ((ts.getD (x - 1) zT).2.1, ((ts.getD (x - 1) zT).2.2.1, ((ts.getD (x - 1) zT).2.2.2.1, ())))), (t.1, (t.2.1, (t.2.2.1, (t.2.2.2.1, ())))), ()) = some (y, ()) := ey
     simp only [ey', hy]
     by_cases h7 : ahead (ts.getD (x - 1) zT) t
     ·rw [decide_eq_true h7, if_pos (hk.2 ⟨by omega, by omega, by omega, by omega, by omega, .inr h7⟩)]
      rfl
     ·rw [decide_eq_false h7, if_neg (fun h => by rcases (hk.1 h).2.2.2.2.2 with h | h; exact h6 h; exact h7 h)]
      rfl
   by_cases h : Jd N ts x
   ·rw [if_pos h] at step ⊢
    refine ⟨fun m' h' => ?_, fun r h' => (by cases h')⟩
    cases h'
    exact ⟨step, trivial⟩
   ·rw [if_neg h] at step ⊢
    refine ⟨fun m' h' => (by cases h'), fun r h' => ?_⟩
    cases h'
    exact step)
  (fun a _ => by rw [DM, List.length_range, AO, AN, decide_eq_false (by omega)]) () trivial
 have e' : AY DM many ((N : Int), ts, HM N, ts, AM ts, (0 : Int), ()) = _ := e
 rw [e', AGA (Jd N ts) (fun _ a => a)]
 rfl
theorem NX (N : Nat) (hN : N ≤ 64) (ts : List Tie) (hs : ts.length ≤ 400) :
  AY CX many ((N : Int), ts, [], (0 : Int), ()) = some (if oks N ts then .inr (.inl ((N : Int), ts, trs ts ts.length, ())) else .inl (false, ())) := by
 have e := D2 (step := CX) (fun i (a : List Edge) => ((N : Int), ts, a, (i : Int), ())) (List.range ts.length) (fun i a => if Jd N ts i then .inl (if (ts.getD i zT).2.2.2.1 = true then a ++ [ed (ts.getD i zT)] else a) else .inr (.inl (false, ()))) (fun a => .inr (.inl ((N : Int), ts, a, ()))) (fun i a => a.length ≤ i) (by simp; omega)
  (fun i x a hi hx ha => by
   have := Gj hx
   subst this
   rw [List.length_range] at hi
   have step : CX ((N : Int), ts, a, (x : Int), ()) = if Jd N ts x then some (.inl ((N : Int), ts, if (ts.getD x zT).2.2.2.1 = true then a ++ [ed (ts.getD x zT)] else a, ((x + 1 : Nat) : Int), ())) else some (.inr (.inl (false, ()))) := by
    rw [CX, AO, AN, decide_eq_true hi]
    simp only [EC zT hi, AQo N hN]
    obtain ⟨t, ht⟩ : ∃ t, ts.getD x zT = t := ⟨_, rfl⟩
    have hk : Jd N ts x ↔ (0 ≤ t.1 ∧ t.1 < t.2.1 ∧ t.2.1 < (N : Int) ∧ 0 ≤ t.2.2.1 ∧ t.2.2.1 ≤ HM N ∧ (x = 0 ∨ ahead (ts.getD (x - 1) zT) t)) := by unfold Jd; rw [ht]
    rw [ht]
    rw [Am, Aq, Aq, Am, Am]
    by_cases h1 : t.1 < 0
    ·rw [decide_eq_true h1, if_neg (fun h => by obtain ⟨q1, q2, q3, q4, q5, _⟩ := hk.1 h; omega)]
    rw [decide_eq_false h1]
    by_cases h2 : t.2.1 ≤ t.1
    ·rw [decide_eq_true h2, if_neg (fun h => by obtain ⟨q1, q2, q3, q4, q5, _⟩ := hk.1 h; omega)]
    rw [decide_eq_false h2]
    by_cases h3 : (N : Int) ≤ t.2.1
    ·rw [decide_eq_true h3, if_neg (fun h => by obtain ⟨q1, q2, q3, q4, q5, _⟩ := hk.1 h; omega)]
    rw [decide_eq_false h3]
    by_cases h4 : t.2.2.1 < 0
    ·rw [decide_eq_true h4, if_neg (fun h => by obtain ⟨q1, q2, q3, q4, q5, _⟩ := hk.1 h; omega)]
    rw [decide_eq_false h4]
    by_cases h5 : HM N < t.2.2.1
    ·rw [decide_eq_true h5, if_neg (fun h => by obtain ⟨q1, q2, q3, q4, q5, _⟩ := hk.1 h; omega)]
    rw [decide_eq_false h5]
    simp only [AO]
    have hfit : fits ((a.length : Int) + (([(t.1, t.2.1, ())] : List Edge).length : Int)) = true := BY (by simp; omega)
    rw [AL (by omega), Am]
    by_cases h6 : x = 0
    ·subst h6
     rw [decide_eq_false (by omega), if_pos (hk.2 ⟨by omega, by omega, by omega, by omega, by omega, .inl rfl⟩)]
     cases ht4 : t.2.2.2.1
     ·simp
     ·simp only [hfit]
      simp [ed, A8]
    ·rw [decide_eq_true (by omega), Af (by omega), show ((x : Int) - 1) = ((x - 1 : Nat) : Int) by omega]
     simp only [EC zT (show x - 1 < ts.length by omega), A1]
     generalize ts.getD (x - 1) zT = p at hk ⊢
     rw [Am, Aq]
     by_cases h7 : t.1 < p.1
     ·rw [decide_eq_true h7, if_neg (fun h => by rcases (hk.1 h).2.2.2.2.2 with h | h | h <;> omega)]
     rw [decide_eq_false h7]
     by_cases h8 : p.1 = t.1
     ·rw [decide_eq_true h8]
      by_cases h9 : t.2.1 ≤ p.2.1
      ·rw [decide_eq_true h9, if_neg (fun h => by rcases (hk.1 h).2.2.2.2.2 with h | h | h <;> omega)]
      rw [decide_eq_false h9, if_pos (hk.2 ⟨by omega, by omega, by omega, by omega, by omega, .inr (.inr ⟨h8, by omega⟩)⟩)]
      cases ht4 : t.2.2.2.1
      ·simp
      ·simp only [hfit]
       simp [ed, A8]
     ·rw [decide_eq_false h8, if_pos (hk.2 ⟨by omega, by omega, by omega, by omega, by omega, .inr (.inl (by omega))⟩)]
      cases ht4 : t.2.2.2.1
      ·simp
      ·simp only [hfit]
       simp [ed, A8]
   by_cases h : Jd N ts x
   ·rw [if_pos h] at step ⊢
    refine ⟨fun m' h' => ?_, fun r h' => (by cases h')⟩
    cases h'
    refine ⟨step, ?_⟩
    split
    ·rw [List.length_append]; simp; omega
    ·omega
   ·rw [if_neg h] at step ⊢
    refine ⟨fun m' h' => (by cases h'), fun r h' => ?_⟩
    cases h'
    exact step)
  (fun a _ => by rw [CX, List.length_range, AO, AN, decide_eq_false (by omega)]) [] (Nat.le_refl _)
 have e' : AY CX many ((N : Int), ts, [], (0 : Int), ()) = _ := e
 rw [e', AGA (Jd N ts) (fun i a => if (ts.getD i zT).2.2.2.1 = true then a ++ [ed (ts.getD i zT)] else a)]
 rfl
end Go.Pev.Pl
end
end
section
section
namespace Go.Pev.Pl
set_option linter.unusedSimpArgs false
set_option maxRecDepth 100000
theorem APa {N : Nat} {ts : List Tie} (hN : N ≤ 64) {i : Nat} (h : Jd N ts i) : In (N : Int) (ed (ts.getD i zT)).1 ∧ In (N : Int) (ed (ts.getD i zT)).2.1 := by
 obtain ⟨q1, q2, q3, _⟩ := h
 exact ⟨⟨by omega, by omega, q1, by show (ts.getD i zT).1 < _; omega⟩, ⟨by omega, by omega, by show 0 ≤ (ts.getD i zT).2.1; omega, q3⟩⟩
theorem AKb {N : Nat} {ts : List Tie} (hN : N ≤ 64) (h : oks N ts) : ∀ e ∈ trs ts ts.length, In (N : Int) e.1 ∧ In (N : Int) e.2.1 := by
 intro e he
 obtain ⟨i, hi, rfl⟩ := AW6 ts e _ he
 exact APa hN (h i (by simp [hi]))
theorem AZf {N : Nat} {ts : List Tie} (hN : N ≤ 64) (h : oks N ts) : ∀ e ∈ ts.map ed, In (N : Int) e.1 ∧ In (N : Int) e.2.1 := by
 intro e he
 obtain ⟨t, ht, rfl⟩ := List.mem_map.1 he
 obtain ⟨i, hi, rfl⟩ := List.getElem_of_mem ht
 have := APa hN (h i (by simp [hi]))
 simpa [hi] using this
theorem AMv {N : Nat} (ts : List Tie) (hs : ts.length ≤ 400) (h : oks N ts) : Ma (((N : Int), (ts, ())), (0 : Int), ()) = some (trs ts ts.length, ()) := by
 rw [Qa, KB]
 have e := D2 (step := CO) (fun i (a : List Edge) => ((0 : Int), a, ts, AM ts, (i : Int), ())) (List.range ts.length) (fun i a => .inl (if (ts.getD i zT).2.2.2.1 = true then a ++ [ed (ts.getD i zT)] else a)) (fun a => .inl (a, ())) (fun i a => a.length ≤ i) (by simp; omega)
  (fun i x a hi hx ha => by
   refine ⟨fun m' h' => ?_, fun r h' => (by cases h')⟩
   cases h'
   have := Gj hx
   subst this
   rw [List.length_range] at hi
   have hlv := (h x (by simp [hi])).2.2.2.1
   constructor
   ·rw [CO, AO, AN, decide_eq_true hi]
    simp only [EC zT hi, AO]
    have hfit : fits ((a.length : Int) + (([((ts.getD x zT).1, (ts.getD x zT).2.1, ())] : List Edge).length : Int)) = true := BY (by simp; omega)
    rw [AL (by omega), Aq, decide_eq_true hlv]
    cases ht4 : (ts.getD x zT).2.2.2.1
    ·simp
    ·simp only [hfit]
     simp [ed, A8]
   ·split
    ·rw [List.length_append]; simp; omega
    ·omega)
  (fun a _ => by rw [CO, List.length_range, AO, AN, decide_eq_false (by omega)]) [] (Nat.le_refl _)
 have e' : AY CO many ((0 : Int), [], ts, AM ts, (0 : Int), ()) = _ := e
 simp only [e']
 rw [Bd (fun i a => if (ts.getD i zT).2.2.2.1 = true then a ++ [ed (ts.getD i zT)] else a)]
 rfl
def cnt (out : List Int) (N : Nat) : Nat := ((List.range N).filter fun k => decide (out.getD k 0 = (k : Int))).length
theorem R2 {N : Nat} {rings : List (List Int)} {l : List Edge} {out : List Int} (h : FC (N : Int) rings l) (hc : Rr (N : Int) l out) : rings.length = cnt out N := by
 have hsz := h.fr.sz
 have hp : (rings.map hd).Perm (((List.range N).filter fun k => decide (out.getD k 0 = (k : Int))).map fun (k : Nat) => (k : Int)) := by
  rw [List.perm_ext_iff_of_nodup]
  ·intro a
   simp only [List.mem_map, List.mem_filter, List.mem_range, decide_eq_true_eq]
   constructor
   ·rintro ⟨A, hA, rfl⟩
    have gA := h.fr.rg A hA
    have ih : In (N : Int) (hd A) := Lh gA
    have hh := Qy gA.2.1
    have := AJJ h hc hA ih hh
    obtain ⟨_, _, a1, a2⟩ := ih
    refine ⟨(hd A).toNat, ⟨by omega, ?_⟩, by omega⟩
    rw [show out.getD (hd A).toNat 0 = cl out (hd A) from rfl, ← this]
    omega
   ·rintro ⟨k, ⟨hk, ho⟩, rfl⟩
    have ik : In (N : Int) (k : Int) := ⟨hsz.1, hsz.2, by omega, by omega⟩
    obtain ⟨A, hA, hm⟩ := h.fr.cov _ ik
    refine ⟨A, hA, ?_⟩
    rw [AJJ h hc hA ik hm]
    unfold cl
    rw [Int.toNat_natCast]; exact ho
  ·exact (List.pairwise_map.2 h.fr.up).imp (fun h => by omega)
  ·refine List.Pairwise.map _ (S := fun a b => a ≠ b) (R := fun a b => a ≠ b) (fun a b h h' => h (by omega)) ?_
   exact (List.nodup_range).filter _
 have := hp.length_eq
 rw [List.length_map, List.length_map] at this
 exact this
theorem Ly (N : Nat) (hN : N ≤ 64) (p : List Tie) (q : List Edge) (out : List Int) (ho : out.length = N) : AY C6 many ((N : Int), p, q, out, (0 : Int), (0 : Int), ()) = some (.inl ((N : Int), p, q, (cnt out N : Int), ())) := by
 have e := D2 (step := C6) (fun i (a : Nat) => ((N : Int), p, q, out, (a : Int), (i : Int), ())) (List.range N) (fun k a => .inl (if out.getD k 0 = (k : Int) then a + 1 else a)) (fun a => .inl ((N : Int), p, q, (a : Int), ())) (fun i a => a ≤ i) (by simp; omega)
  (fun i x a hi hx ha => by
   refine ⟨fun m' h' => ?_, fun r h' => (by cases h')⟩
   cases h'
   have := Gj hx
   subst this
   rw [List.length_range] at hi
   constructor
   ·rw [C6, AN, decide_eq_true hi]
    simp only [EC 0 (show x < out.length by omega), JE, A1]
    rw [AL (by omega), AL (by omega)]
    by_cases h : out.getD x 0 = (x : Int)
    ·rw [decide_eq_true h, if_pos h]
    ·rw [decide_eq_false h, if_neg h]
   ·split <;> omega)
  (fun a _ => by rw [C6, List.length_range, AN, decide_eq_false (by omega)]) 0 (Nat.le_refl _)
 have e' : AY C6 many ((N : Int), p, q, out, (0 : Int), (0 : Int), ()) = _ := e
 rw [e', Bd (fun k a => if out.getD k 0 = (k : Int) then a + 1 else a)]
 have key : ∀ (xs : List Nat) (a : Nat), xs.foldl (fun a k => if out.getD k 0 = (k : Int) then a + 1 else a) a = a + (xs.filter fun k => decide (out.getD k 0 = (k : Int))).length := by
  intro xs
  induction xs with
  | nil => intro a; rfl
  | cons x xs ih =>
   intro a
   rw [List.foldl_cons, ih, List.filter_cons]
   by_cases h : out.getD x 0 = (x : Int)
   ·simp only [h, if_true, decide_true, List.length_cons]; omega
   ·simp only [h, if_false, decide_false, Bool.false_eq_true]
 rw [key, Nat.zero_add]
 rfl
theorem Yv (n : Int) (ts : List Tie) (hl : ts.length < 4611686018427387904) : ∃ b : Bool, FF ((n, (ts, ())), ()) = some (b, ()) ∧ Fl ((n, (ts, ())), ()) = some (b, ()) ∧ (b = true → ∃ N : Nat, n = (N : Int) ∧ 1 ≤ N ∧ N ≤ 64 ∧ ts.length ≤ 400 ∧ oks N ts) := by
 by_cases hn : ¬ (1 ≤ n ∧ n ≤ 64)
 ·refine ⟨false, ?_, ?_, fun h => by cases h⟩
  ·rw [Ef, D4, Am, Am]
   by_cases h : n < 1
   ·simp only [decide_eq_true h]
   ·simp only [decide_eq_false h, decide_eq_true (show 64 < n by omega)]
  ·rw [IF, Gq]
   simp only [Qb, KD, Aq]
   by_cases h : 1 ≤ n
   ·simp only [decide_eq_true h, decide_eq_false (show ¬ n ≤ 64 by omega), Bool.not_false]
   ·simp only [decide_eq_false h, Bool.not_false]
 have hn := Classical.not_not.1 hn
 obtain ⟨N, rfl⟩ := Int.eq_ofNat_of_zero_le (show 0 ≤ n by omega)
 have hsz : Qc ((N : Int), ()) = some (true, ()) := by
  simp only [Qb, KD, Aq, decide_eq_true hn.1, decide_eq_true hn.2]
 by_cases h4 : ¬ ts.length ≤ 400
 ·refine ⟨false, ?_, ?_, fun h => by cases h⟩
  ·rw [Ef, D4]
   simp only [Am, AO]
   rw [decide_eq_false (show ¬ (N : Int) < 1 by omega), decide_eq_false (show ¬ 64 < (N : Int) by omega), decide_eq_true (show 400 < (ts.length : Int) by omega)]
  ·rw [IF, Gq]
   simp only [hsz, Bool.not_true, Am, AO]
   rw [decide_eq_true (show 400 < (ts.length : Int) by omega)]
 have h4 := Classical.not_not.1 h4
 have R := NX N (by omega) ts h4
 have L := AIh N (by omega) ts h4
 by_cases ho : ¬ oks N ts
 ·rw [if_neg ho] at R L
  refine ⟨false, ?_, ?_, fun h => by cases h⟩
  ·rw [Ef, D4]
   simp only [Am, AO]
   rw [decide_eq_false (show ¬ (N : Int) < 1 by omega), decide_eq_false (show ¬ 64 < (N : Int) by omega), decide_eq_false (show ¬ 400 < (ts.length : Int) by omega)]
   simp only [R]
  ·rw [IF, Gq]
   simp only [hsz, Bool.not_true, Am, AO, AIe N (by omega)]
   rw [decide_eq_false (show ¬ 400 < (ts.length : Int) by omega)]
   rw [AO] at L
   simp only [L]
 have ho := Classical.not_not.1 ho
 rw [if_pos ho] at R L
 have hin := AKb (show N ≤ 64 by omega) ho
 have hlen := ACF ts ts.length
 obtain ⟨out, hc, hcl⟩ := Dd (N : Int) (trs ts ts.length) hn (by omega) hin
 rcases (AP4 (N : Int) (trs ts ts.length) hn (by omega)).symm with ⟨hno, _⟩ | ⟨_, rings, hf, hfc⟩
 ·exact absurd hin hno
 have hcount := R2 hfc hcl
 have hol : out.length = N := by have := hcl.len; omega
 refine ⟨decide ((cnt out N : Int) = (N : Int) - (trs ts ts.length).length), ?_, ?_, fun _ => ⟨N, rfl, by omega, by omega, h4, ho⟩⟩
 ·rw [Ef, D4]
  simp only [Am, AO]
  rw [decide_eq_false (show ¬ (N : Int) < 1 by omega), decide_eq_false (show ¬ 64 < (N : Int) by omega), decide_eq_false (show ¬ 400 < (ts.length : Int) by omega)]
  simp only [R, hc, Ly N (by omega) _ _ out hol, A1]
  rw [Af (by omega)]
 ·rw [IF, Gq]
  simp only [hsz, Bool.not_true, Am, AO, AIe N (by omega)]
  rw [decide_eq_false (show ¬ 400 < (ts.length : Int) by omega)]
  rw [AO] at L
  simp only [L, AMv ts h4 ho, hf, GO, A1, hcount]
  rw [Af (by omega)]
end Go.Pev.Pl
end
section
namespace Go.Pev.Pl
set_option linter.unusedSimpArgs false
set_option maxRecDepth 100000
theorem Rr.unique {N : Nat} {l : List Edge} {a b : List Int} (h1 : 1 ≤ N) (h2 : N ≤ 64) (ha : Rr (N : Int) l a) (hb : Rr (N : Int) l b) : a = b := by
 have la := ha.len
 have lb := hb.len
 refine JA (0 : Int) (by omega) fun k hk => ?_
 have ik : In (N : Int) (k : Int) := ⟨by omega, by omega, by omega, by omega⟩
 have e1 := ha.least _ _ ik (hb.isin _ ik) (hb.con _ ik)
 have e2 := hb.least _ _ ik (ha.isin _ ik) (ha.con _ ik)
 unfold cl at e1 e2
 rw [Int.toNat_natCast] at e1 e2
 omega
def InV (N : Nat) (x : Int) : Prop := 0 ≤ x ∧ x < (N : Int)
instance (N : Nat) (x : Int) : Decidable (InV N x) := inferInstanceAs (Decidable (_ ∧ _))
end Go.Pev.Pl
end
section
namespace Go.Pev.Pl
set_option linter.unusedSimpArgs false
set_option maxRecDepth 100000
end Go.Pev.Pl
end
section
namespace Go.Pev.Pl
set_option linter.unusedSimpArgs false
set_option maxRecDepth 100000
def AYP (l : List Edge) (u v : Int) : Prop := ((u, (v, ())) : Edge) ∈ l ∨ ((v, (u, ())) : Edge) ∈ l
instance (l : List Edge) (u v : Int) : Decidable (AYP l u v) := inferInstanceAs (Decidable (_ ∨ _))
def AXQ (N : Nat) (l : List Edge) (u : Nat) : List Edge := ((List.range (N - (u + 1))).filter fun i => decide (AYP l (u : Int) ((u + 1 + i : Nat) : Int))).map fun (i : Nat) => ((u : Int), ((u + 1 + i : Nat) : Int), ())
def Vz (N : Nat) (l : List Edge) : List Edge := (List.range N).flatMap fun u => AXQ N l u
end Go.Pev.Pl
end
section
namespace Go.Pev.Pl
set_option linter.unusedSimpArgs false
set_option maxRecDepth 100000
def IX (N : Nat) (ts : List Tie) (l : List Edge) : List Edge := (Vz N l).filter fun x => !decide (x ∈ ts.map ed)
def Vt (l : List Tie) (t : Tie) : List Tie := l.take (l.findIdx fun x => !decide (ahead x t)) ++ t :: l.drop (l.findIdx fun x => !decide (ahead x t))
end Go.Pev.Pl
end
section
namespace Go.Pev.Pl
set_option linter.unusedSimpArgs false
def valid (N : Nat) (t : Tie) : Prop := 0 ≤ t.1 ∧ t.1 < t.2.1 ∧ t.2.1 < (N : Int) ∧ 0 ≤ t.2.2.1 ∧ t.2.2.1 ≤ HM N
theorem ahead.trans {a b c : Tie} (h : ahead a b) (h' : ahead b c) : ahead a c := by
 unfold ahead at *
 omega
theorem ADw (N : Nat) (ts : List Tie) : oks N ts ↔ (∀ t ∈ ts, valid N t) ∧ ts.Pairwise ahead := by
 constructor
 ·intro h
  have hv : ∀ i, i < ts.length → Jd N ts i := fun i hi => h i (by simpa using hi)
  refine ⟨fun t ht => ?_, ?_⟩
  ·obtain ⟨i, hi, rfl⟩ := List.getElem_of_mem ht
   obtain ⟨q1, q2, q3, q4, q5, _⟩ := hv i hi
   simp only [List.getD_eq_getElem?_getD, List.getElem?_eq_getElem hi, Option.getD_some] at q1 q2 q3 q4 q5
   exact ⟨q1, q2, q3, q4, q5⟩
  ·have key : ∀ (d i : Nat), i + d + 1 < ts.length → ahead (ts.getD i zT) (ts.getD (i + d + 1) zT) := by
    intro d
    induction d with
    | zero =>
     intro i hi
     obtain ⟨_, _, _, _, _, q⟩ := hv (i + 0 + 1) hi
     rcases q with q | q
     ·omega
     ·simpa using q
    | succ d ih =>
     intro i hi
     have h1 := ih i (by omega)
     obtain ⟨_, _, _, _, _, q⟩ := hv (i + (d + 1) + 1) hi
     rcases q with q | q
     ·omega
     ·rw [show i + (d + 1) + 1 - 1 = i + d + 1 by omega] at q
      exact h1.trans q
   rw [List.pairwise_iff_getElem]
   intro i j hi hj hij
   have := key (j - i - 1) i (by omega)
   rw [show i + (j - i - 1) + 1 = j by omega] at this
   simpa only [List.getD_eq_getElem?_getD, List.getElem?_eq_getElem hi, List.getElem?_eq_getElem hj, Option.getD_some] using this
 ·rintro ⟨h1, h2⟩ i hi
  have hi : i < ts.length := by simpa using hi
  have e : ∀ j (hj : j < ts.length), ts.getD j zT = ts[j] := fun j hj => by
   simp only [List.getD_eq_getElem?_getD, List.getElem?_eq_getElem hj, Option.getD_some]
  obtain ⟨q1, q2, q3, q4, q5⟩ := h1 ts[i] (List.getElem_mem hi)
  unfold Jd
  rw [e i hi]
  refine ⟨q1, q2, q3, q4, q5, ?_⟩
  by_cases h0 : i = 0
  ·exact .inl h0
  ·right
   rw [e (i - 1) (by omega)]
   exact (List.pairwise_iff_getElem.1 h2) (i - 1) i (by omega) hi (by omega)
theorem AA4 (l : List Tie) (t : Tie) : (Vt l t).Perm (t :: l) := by
 unfold Vt
 refine List.perm_middle.trans ?_
 rw [List.take_append_drop]
theorem ARK {l : List Tie} {t : Tie} (h : l.Pairwise ahead) (hn : ∀ x ∈ l, ¬ (x.1 = t.1 ∧ x.2.1 = t.2.1)) : (Vt l t).Pairwise ahead := by
 induction l with
 | nil => simp [Vt]
 | cons a l ih =>
  rw [List.pairwise_cons] at h
  have hna := hn a (by simp)
  have hnl : ∀ x ∈ l, ¬ (x.1 = t.1 ∧ x.2.1 = t.2.1) := fun x hx => hn x (by simp [hx])
  by_cases ha : ahead a t
  ·have e : Vt (a :: l) t = a :: Vt l t := by
    unfold Vt
    rw [List.findIdx_cons]
    simp [ha]
   rw [e, List.pairwise_cons]
   refine ⟨fun x hx => ?_, ih h.2 hnl⟩
   rcases List.mem_cons.1 ((AA4 l t).mem_iff.1 hx) with rfl | hx
   ·exact ha
   ·exact h.1 x hx
  ·have e : Vt (a :: l) t = t :: a :: l := by
    unfold Vt
    rw [List.findIdx_cons]
    simp [ha]
   have hta : ahead t a := by unfold ahead at *; omega
   rw [e, List.pairwise_cons, List.pairwise_cons]
   refine ⟨fun x hx => ?_, h.1, h.2⟩
   rcases List.mem_cons.1 hx with rfl | hx
   ·exact hta
   ·exact hta.trans (h.1 x hx)
end Go.Pev.Pl
end
section
namespace Go.Pev.Pl
set_option linter.unusedSimpArgs false
theorem AMp (N : Nat) (l : List Edge) (x : Edge) : x ∈ Vz N l ↔ 0 ≤ x.1 ∧ x.1 < x.2.1 ∧ x.2.1 < (N : Int) ∧ AYP l x.1 x.2.1 := by
 unfold Vz AXQ
 simp only [List.mem_flatMap, List.mem_map, List.mem_filter, List.mem_range, decide_eq_true_eq]
 constructor
 ·rintro ⟨u, hu, i, ⟨hi, he⟩, rfl⟩
  exact ⟨by show (0 : Int) ≤ (u : Int); omega, by show (u : Int) < ((u + 1 + i : Nat) : Int); omega, by show ((u + 1 + i : Nat) : Int) < (N : Int); omega, he⟩
 ·obtain ⟨a, b, ⟨⟩⟩ := x
  rintro ⟨h1, h2, h3, h4⟩
  simp only at h1 h2 h3 h4
  obtain ⟨u, rfl⟩ := Int.eq_ofNat_of_zero_le h1
  obtain ⟨v, rfl⟩ := Int.eq_ofNat_of_zero_le (show 0 ≤ b by omega)
  refine ⟨u, by omega, v - (u + 1), ⟨by omega, ?_⟩, ?_⟩
  ·rw [show u + 1 + (v - (u + 1)) = v by omega]; exact h4
  ·rw [show u + 1 + (v - (u + 1)) = v by omega]
def AFo (p x : Edge) : Prop := p.1 < x.1 ∨ (p.1 = x.1 ∧ p.2.1 < x.2.1)
theorem AG9 (N : Nat) (l : List Edge) : (Vz N l).Pairwise AFo := by
 unfold Vz
 rw [List.pairwise_flatMap]
 refine ⟨fun u _ => ?_, ?_⟩
 ·unfold AXQ
  rw [List.pairwise_map]
  refine List.Pairwise.filter _ ?_
  refine List.pairwise_lt_range.imp fun h => ?_
  exact .inr ⟨rfl, by show ((u + 1 + _ : Nat) : Int) < ((u + 1 + _ : Nat) : Int); omega⟩
 ·refine List.pairwise_lt_range.imp fun h x hx y hy => ?_
  unfold AXQ at hx hy
  simp only [List.mem_map] at hx hy
  obtain ⟨i, _, rfl⟩ := hx
  obtain ⟨j, _, rfl⟩ := hy
  exact .inl (by simp only; omega)
theorem QN (N : Nat) (ts : List Tie) (l : List Edge) (x : Edge) : x ∈ IX N ts l ↔ (0 ≤ x.1 ∧ x.1 < x.2.1 ∧ x.2.1 < (N : Int) ∧ AYP l x.1 x.2.1) ∧ ¬ x ∈ ts.map ed := by
 unfold IX
 rw [List.mem_filter, AMp]
 simp
theorem AOO (N : Nat) (ts : List Tie) (l : List Edge) : (IX N ts l).Pairwise AFo := (AG9 N l).filter _
end Go.Pev.Pl
end
section
namespace Go.Pev.Pl
open Tok
instance (n v : Int) : Decidable (In n v) := inferInstanceAs (Decidable (_ ∧ _))
instance (n : Int) : Decidable (Sz n) := inferInstanceAs (Decidable (_ ∧ _))
theorem Gu (n v : Int) : Xx (n, v, ()) = some (decide (In n v), ()) := by
 rw [APu, AEn]
 simp only [Aq, Am]
 by_cases h1 : 1 ≤ n <;> by_cases h2 : n ≤ 64 <;> by_cases h3 : 0 ≤ v <;> simp [In, h1, h2, h3]
theorem RO (n u v : Int) : Sq (n, u, v, ()) = some (Cn n u v, ()) := by
 rw [AKH, T5]
 simp only [Gu, Cn, A1]
 by_cases h1 : In n u
 ·by_cases h2 : In n v
  ·by_cases h3 : u = v
   ·simp [h1, h2, h3]
   ·obtain ⟨a1, a2, a3, a4⟩ := h1
    obtain ⟨b1, b2, b3, b4⟩ := h2
    have hb := El a1 a2 a3 (by omega)
    have e1 : u * n = n * u := Int.mul_comm _ _
    have e2 : n * (u + 1) = n * u + n := by rw [Int.mul_add, Int.mul_one]
    rw [e1, Af (n := n * u) (by omega), Af (n := n + n * u) (by omega), Af (n := n + n * u + v) (by omega), e2]
    have e3 : n + n * u + v = n * u + n + v := by omega
    simp [In, a1, a2, a3, a4, b3, b4, h3, e3]
  ·simp [h1, h2]
 ·simp [h1]
theorem Rw (n t : Int) (ht : -9223372036854775808 ≤ t ∧ t ≤ 9223372036854775807) : Kt (n, t, ()) = some (Lq (Bp n t)) := by
 rw [VH, Ks]
 simp only [Gu, Am, Aq]
 by_cases hi : In n t
 ·simp only [hi, decide_true, Bp, if_true, Lq]
 ·simp only [hi, decide_false]
  by_cases h1 : n < 1
  ·have hs : ¬ Sz n := fun h => by have := h.1; omega
   simp only [h1, decide_true, Bp, hi, if_false, hs, false_and, Lq]
  ·simp only [h1, decide_false]
   by_cases h2 : 64 < n
   ·have hs : ¬ Sz n := fun h => by have := h.2; omega
    simp only [h2, decide_true, Bp, hi, if_false, hs, false_and, Lq]
   ·have a1 : 1 ≤ n := by omega
    have a2 : n ≤ 64 := by omega
    have hb := El (u := n) a1 a2 (by omega) (by omega)
    have e3 : n * (n + 1) = n * n + n := by rw [Int.mul_add, Int.mul_one]
    rw [Af (n := n * n) (by omega), Af (n := n + n * n) (by omega)]
    simp only [h2, decide_false]
    by_cases h3 : t < n
    ·have : ¬ n ≤ t := by omega
     simp only [h3, decide_true, Bp, hi, if_false, this, false_and, and_false, Lq]
    ·simp only [h3, decide_false]
     by_cases h4 : n + n * n ≤ t
     ·have : ¬ t < n * (n + 1) := by omega
      simp only [h4, decide_true, Bp, hi, if_false, this, false_and, and_false, Lq]
     ·obtain ⟨d1, d2, d3⟩ := AFE (t := t) ⟨a1, a2⟩ (by omega) (by omega)
      have q1 := d1.2.2.1
      have q2 := d1.2.2.2
      rw [Af (n := t - n) (by omega)]
      have hq : (t - n).tdiv n = t / n - 1 := by
       rw [Int.tdiv_eq_ediv_of_nonneg (by omega)]
       have := Int.add_mul_ediv_right t (-1) (show n ≠ 0 by omega)
       rw [show t - n = t + -1 * n by omega, this]; omega
      have hm : (t - n).tmod n = t % n := by
       rw [Int.tmod_eq_emod_of_nonneg (by omega)]
       have := Int.add_mul_emod_self_right t (-1) n
       rw [show t - n = t + -1 * n by omega, this]
      simp only [h4, decide_false, Po, Na, Vq, Pn]
      rw [if_neg (by omega), if_neg (by omega), hq, hm, Af (n := t / n - 1) (by omega)]
      simp only []
      rw [A1, Bp, if_neg hi]
      by_cases h5 : t / n - 1 = t % n
      ·rw [if_neg (by intro h; exact h.2.2.2 h5), decide_eq_true h5]; rfl
      ·rw [if_pos ⟨⟨a1, a2⟩, by omega, by omega, h5⟩, decide_eq_false h5]; rfl
theorem AIn (xs ys : List (List Int)) (hs : xs.length < 9223372036854775808) (hi : ∀ x ∈ xs, x.length < 9223372036854775808) : Nt (xs, ys, ()) = some (decide (xs = ys), ()) := by
 rw [XW, LP, Xz]
 by_cases hl : xs.length = ys.length
 ·rw [decide_eq_true hl]
  simp only [Bool.not_true]
  rcases APD (step := DB) (fun i => (xs, ys, ((i : Nat) : Int), ())) xs.length (fun i => !decide (xs.getD i [] = ys.getD i [])) (fun _ => .inl (false, ())) (.inr (.inl ())) hs (fun i hii => by
   have hm : (xs.getD i []).length < 9223372036854775808 := hi _ (by simp [hii])
   rw [DB, AO, AN, decide_eq_true hii]
   simp (disch := first | omega | exact hm) only [EC ([] : List Int), AL, ANQ]
   by_cases h : xs.getD i [] = ys.getD i []
   ·rw [decide_eq_true h]; simp
   ·rw [decide_eq_false h]; simp) (by rw [DB, AO, AN, decide_eq_false (by omega)]) with ⟨k, hk, hP, _, e⟩ | ⟨h, e⟩
  ·have e' : AY DB many (xs, ys, (0 : Int), ()) = _ := e
   rw [e']
   have : xs ≠ ys := Sa ([] : List Int) (j := k) (by simpa using hP)
   simp [this]
  ·have e' : AY DB many (xs, ys, (0 : Int), ()) = _ := e
   rw [e']
   have : xs = ys := JA ([] : List Int) hl fun j hj => by simpa using h j hj
   simp [this]
 ·rw [decide_eq_false hl]
  have : xs ≠ ys := fun e => hl (by rw [e])
  simp [this]
theorem AIb (N : Nat) (hN : N ≤ 64) (c : Int) : ∀ (k i n : Nat), i + k = N → k < n → AQ IE n ((N : Int), c, (N : Int), BE i, (i : Int), ()) = some (.inl (c, (N : Int), BE N, ())) := by
 intro k
 induction k with
 | zero =>
  intro i n hi hn
  obtain ⟨n, rfl⟩ : ∃ k, n = k + 1 := ⟨n - 1, by omega⟩
  have : i = N := by omega
  subst this
  rw [AQ, IE, AN, decide_eq_false (by omega)]
 | succ k ih =>
  intro i n hi hn
  obtain ⟨n, rfl⟩ : ∃ k, n = k + 1 := ⟨n - 1, by omega⟩
  rw [AQ, IE, AN, decide_eq_true (by omega)]
  simp only [AO, R1, List.length_cons, List.length_nil]
  rw [BY (by omega), AL (by omega)]
  simp only [Cf, ← NU]
  exact ih (i + 1) n (by omega) (by omega)
theorem AMu (n : Int) : AEB (n, ()) = some (F5 n) := by
 have hm : 4294967296 < many := by simp only [many]; omega
 rw [AR4, XB, F5]
 simp only [Am]
 by_cases h1 : n < 1
 ·have : ¬ Sz n := fun h => by have := h.1; omega
  simp [h1, this]
 ·by_cases h2 : 64 < n
  ·have : ¬ Sz n := fun h => by have := h.2; omega
   simp [h1, h2, this]
  ·obtain ⟨N, rfl⟩ := Int.eq_ofNat_of_zero_le (show 0 ≤ n by omega)
   have hS : Sz (N : Int) := ⟨by omega, by omega⟩
   have e := AIb N (by omega) 0 N 0 many (by omega) (by omega)
   have e' : AQ IE many ((N : Int), 0, (N : Int), [], (0 : Int), ()) = _ := e
   simp [h1, h2, hS, Aj, e']
end Go.Pev.Pl
end
section
namespace Go.Pev.Pl
theorem HQ (xs : List Int) (t : Int) (hs : xs.length < 9223372036854775808) : F4 (xs, t, ()) = some (pos xs t, ()) := by
 rw [WN, K7]
 have e := L4 (step := Ds) (fun i => (xs, t, (i : Int), ())) xs (fun x => decide (x = t)) (fun i => .inl ((i : Int), ())) (.inr (.inl ())) hs
  (fun i x hi hx => by
   rw [Ds, AO, AN, decide_eq_true hi]
   simp only [An hx, A1]
   by_cases h : x = t
   ·simp [h]
   ·simp only [h, decide_false]; rw [AL (by omega)]; simp)
  (by rw [Ds, AO, AN, decide_eq_false (by omega)])
 have e' : AY Ds many (xs, t, (0 : Int), ()) = _ := e
 rw [e', AQH, pos]
 by_cases h : t ∈ xs <;> simp [h]
instance (xs : List Int) : Decidable (Rt xs) := inferInstanceAs (Decidable (_ ∧ _ ∧ _))
theorem Js (xs : List Int) : Iq (xs, ()) = some (decide (Rt xs), ()) := by
 rw [Vo, Ky, AO, Am]
 by_cases hl : xs.length ≤ 1000
 ·rw [decide_eq_false (by omega)]
  simp only []
  rcases APD (step := C8) (fun i => (xs, ((i : Nat) : Int), ())) xs.length (fun i => decide (xs.getD i 0 < 0) || decide (10000 < xs.getD i 0) || decide (xs.getD i 0 ∈ xs.take i)) (fun _ => .inl (false, ())) (.inr (.inl ())) (by omega) (fun i hi => by
   rw [C8, AO, AN, decide_eq_true hi]
   have hpl : F4 (xs.take i, xs.getD i 0, ()) = some (pos (xs.take i) (xs.getD i 0), ()) := HQ _ _ (by simp; omega)
   simp (disch := omega) only [EC (0 : Int), PX, hpl, AL, Am, Aq]
   by_cases h1 : xs.getD i 0 < 0
   ·simp only [h1, decide_true]; simp
   ·by_cases h2 : 10000 < xs.getD i 0
    ·simp only [h1, h2, decide_true, decide_false]; simp
    ·by_cases h3 : xs.getD i 0 ∈ xs.take i
     ·obtain ⟨k, e, _⟩ := Vw h3
      rw [e]
      simp only [h1, h2, h3, decide_true, decide_false]; simp
     ·rw [K0 h3]
      simp only [h1, h2, h3, decide_false]; simp) (by rw [C8, AO, AN, decide_eq_false (by omega)]) with ⟨k, hk, hP, _, e⟩ | ⟨h, e⟩
  ·have e' : AY C8 many (xs, (0 : Int), ()) = _ := e
   rw [e']
   have : ¬ Rt xs := by
    rintro ⟨_, h1, h2⟩
    have hm : xs.getD k 0 ∈ xs := by
     rw [List.getD_eq_getElem?_getD, List.getElem?_eq_getElem hk, Option.getD_some]; exact List.getElem_mem hk
    have := h1 _ hm
    have h3 := (Nr xs).1 h2 k hk
    have c1 : ¬ xs.getD k 0 < 0 := by omega
    have c2 : ¬ 10000 < xs.getD k 0 := by omega
    rw [decide_eq_false c1, decide_eq_false c2, decide_eq_false h3] at hP
    cases hP
   simp [this]
  ·have e' : AY C8 many (xs, (0 : Int), ()) = _ := e
   rw [e']
   have : Rt xs := by
    have key : ∀ j, j < xs.length → ¬ xs.getD j 0 < 0 ∧ ¬ 10000 < xs.getD j 0 ∧ xs.getD j 0 ∉ xs.take j := fun j hj => by
     have := h j hj
     rw [Bool.or_eq_false_iff, Bool.or_eq_false_iff, decide_eq_false_iff_not, decide_eq_false_iff_not, decide_eq_false_iff_not] at this
     exact ⟨this.1.1, this.1.2, this.2⟩
    refine ⟨hl, fun x hx => ?_, (Nr xs).2 fun j hj => (key j hj).2.2⟩
    obtain ⟨j, hj, rfl⟩ := List.getElem_of_mem hx
    obtain ⟨k1, k2, _⟩ := key j hj
    rw [List.getD_eq_getElem?_getD, List.getElem?_eq_getElem hj, Option.getD_some] at k1 k2
    omega
   simp [this]
 ·rw [decide_eq_true (by omega)]
  have : ¬ Rt xs := fun h => hl h.1
  simp [this]
theorem Mt (xs : List Int) (t : Int) (hs : xs.length < 9223372036854775808) : Mu (xs, t, ()) = some (Hd xs t) := by
 rw [ABb, OE, Hd]
 simp only [HQ xs t hs, Js]
 by_cases hr : Rt xs
 ·have hl := hr.1
  simp only [hr, decide_true, Bool.not_true, true_and]
  by_cases h : t ∈ xs
  ·have hk : xs.findIdx (fun x => decide (x = t)) < xs.length := List.findIdx_lt_length.2 ⟨t, h, by simp⟩
   rw [pos, if_pos h, if_pos h, A2, rot]
   generalize xs.findIdx (fun x => decide (x = t)) = k at *
   rw [Am, decide_eq_false (by omega)]
   simp only [Gg (Nat.le_of_lt hk), PX (Nat.le_of_lt hk)]
   rw [BY (by simp only [AO, List.length_nil, List.length_drop]; omega)]
   simp only []
   rw [BY (by simp only [AO, Cf, List.nil_append, List.length_take, List.length_drop]; omega)]
   simp only [Cf, List.nil_append]
  ·rw [K0 h, if_neg h, Am]
   simp
 ·simp [hr]
theorem R4 (xs : List Int) : K5 (xs, ()) = some (plain xs, ()) := by
 rw [WC, K4, plain]
 simp only [Js]
 by_cases hr : Rt xs
 ·have hl := hr.1
  simp only [hr, decide_true, Bool.not_true, true_and]
  cases xs with
  | nil => simp [AO, ES]
  | cons x xs =>
   rw [AO, A1, decide_eq_false (by simp only [List.length_cons]; omega)]
   have i0 : idx (x :: xs) (0 : Int) = some x := by rw [FZ]; rfl
   simp only [i0]
   have e := D2 (step := Dq) (fun i (a : Int) => (x :: xs, a, (i : Int), ())) (x :: xs) (fun y a => .inl (Cy a y)) (fun a => .inl (x :: xs, a, ())) (fun _ _ => True) (by omega)
    (fun i y a hi hy _ => by
     refine ⟨fun m' h' => ?_, fun r h' => by cases h'⟩
     cases h'
     rw [Dq, AO, AN, decide_eq_true hi]
     simp only [An hy]
     rw [AL (by omega)]
     exact ⟨rfl, trivial⟩)
    (fun a _ => by rw [Dq, AO, AN, decide_eq_false (by omega)]) x trivial
   have e' : AY Dq many (x :: xs, x, (0 : Int), ()) = _ := e
   rw [e', Bd]
   have hmin : (x :: xs).foldl (fun a y => Cy a y) x = FX (x :: xs) := by
    rw [List.foldl_cons, FX]
    have : Cy x x = x := by rw [Cy]; split <;> rfl
    rw [this]
   rw [hmin]
   have hm := (D9 (xs := x :: xs) (by simp)).1
   simp only [Mt (x :: xs) _ (by omega), Hd, hr, hm, and_self, if_true]
   simp
 ·simp [hr]
end Go.Pev.Pl
end
section
namespace Go.Pev.Pl
open Tok
noncomputable instance (n : Int) (xs : List Int) : Decidable (TI n xs) := Classical.propDecidable _
end Go.Pev.Pl
end
section
namespace Go.Pev.Pl
open Tok
theorem ACk (n t u : Int) (ht : -9223372036854775808 ≤ t ∧ t ≤ 9223372036854775807) : Jl (n, t, u, ()) = some (Io n t u, ()) := by
 rw [Rz, Ip, Io]
 simp only [Rw n t ht, A1]
 cases Bp n t with
 | none => rfl
 | some x => cases x with
  | ver v =>
   by_cases h : v = u <;> simp [Lq, st, h]
  | arc p q =>
   by_cases h : q = u <;> simp [Lq, st, h]
end Go.Pev.Pl
end
section
namespace Go.Pev.Pl
open Tok
theorem AW8 (n : Int) (l : List Int) (i : Nat) (hi : i < l.length) (hl : l.length < 1073741824) (d5 d6 d7 d8 : Bool) (d9 d10 : Int) (d11 : Bool) (d12 d13 d14 d15 d16 : Int) (d17 : Bool) (d18 d19 d20 d21 d22 d23 d24 d25 d26 : Int) (d27 : Bool) :
  ∀ (m k cnt : Nat) (acc : List Int), k + m = l.length → acc.length ≤ k → m < cnt →
  AQ Ec cnt (n, l, (i : Int), acc, (k : Int), d5, d6, d7, d8, d9, d10, d11, d12, d13, d14, d15, d16, d17, d18, d19, d20, d21, d22, d23, d24, d25, d26, d27, ()) =
   some (.inl (n, (i : Int), acc ++ (List.range' k m).map (fun k => l.getD ((i + k) % l.length) 0), d5, d6, d7, d8, d9, d10, d11, d12, d13, d14, d15, d16, d17, d18, l, d19, d20, d21, d22, d23, d24, d25, d26, d27, ())) := by
 intro m
 induction m with
 | zero =>
  intro k cnt acc hk ha hc
  obtain ⟨cnt, rfl⟩ : ∃ c, cnt = c + 1 := ⟨cnt - 1, by omega⟩
  rw [AQ, Ec, AO, AN, decide_eq_false (by omega)]
  simp
 | succ m ih =>
  intro k cnt acc hk ha hc
  obtain ⟨cnt, rfl⟩ : ∃ c, cnt = c + 1 := ⟨cnt - 1, by omega⟩
  have hm : (i + k) % l.length < l.length := Nat.mod_lt _ (by omega)
  rw [AQ, Ec, AO, AN, decide_eq_true (by omega)]
  simp only []
  rw [wrap_add (by omega), Tn (by omega)]
  simp only [EC (0 : Int) hm, JE]
  rw [BY (by simp only [AO, List.length_cons, List.length_nil]; omega), AL (by omega)]
  simp only [Cf]
  rw [ih (k + 1) cnt _ (by omega) (by simp; omega) (by omega)]
  simp [List.range'_succ]
theorem AKe (n : Int) (l : List Int) (i : Nat) (hi : i < l.length) (h1 : 1 < l.length) (hl : l.length < 1073741824) (hr : ∀ x ∈ l, -9223372036854775808 ≤ x ∧ x ≤ 9223372036854775807) :
  CM (n, l, false, (i : Int), ()) = if I6 n l i then some (.inl (n, Eg l i, true, ((i + 1 : Nat) : Int), ())) else some (.inl (n, l, false, ((i + 1 : Nat) : Int), ())) := by
 have hmany : 4294967296 < many := by simp only [many]; omega
 have m1 : (i + 1) % l.length < l.length := Nat.mod_lt _ (by omega)
 have m2 : (i + 2) % l.length < l.length := Nat.mod_lt _ (by omega)
 have m0 : (i + l.length - 1) % l.length < l.length := Nat.mod_lt _ (by omega)
 have hin : ∀ {k : Nat}, k < l.length → l.getD k 0 ∈ l := fun {k} hk => by
  rw [List.getD_eq_getElem?_getD, List.getElem?_eq_getElem hk, Option.getD_some]; exact List.getElem_mem hk
 have w2 : IntKind.wrap .i64 ((i : Int) + 2) = ((i + 2 : Nat) : Int) := by rw [Af (by omega)]; omega
 have w3 : IntKind.wrap .i64 ((i : Int) + (l.length : Int)) = ((i + l.length : Nat) : Int) := wrap_add (by omega)
 have w4 : IntKind.wrap .i64 (((i + l.length : Nat) : Int) - 1) = ((i + l.length - 1 : Nat) : Int) := Ag (by omega)
 have f4 : ile (4 : Int) (l.length : Int) = decide (4 ≤ l.length) := by
  rw [Aq]
  by_cases h : 4 ≤ l.length
  ·rw [decide_eq_true h, decide_eq_true (by omega)]
  ·rw [decide_eq_false h, decide_eq_false (by omega)]
 rw [CM, AO, AN, decide_eq_true hi]
 simp only [Bool.not_false, EC (0 : Int) hi]
 rw [AL (by omega), w2, Tn (by omega), Tn (by omega)]
 simp only [EC (0 : Int) m1, EC (0 : Int) m2, JE, Rw n _ (hr _ (hin hi)), f4, I6]
 by_cases h4 : 4 ≤ l.length
 ·simp only [h4, decide_true, Bool.true_and]
  cases ht : Bp n (l.getD i 0) with
  | none => rfl
  | some t =>
   cases t with
   | ver v => rfl
   | arc u v =>
    simp only [Lq, A1, RO]
    by_cases c1 : l.getD ((i + 1) % l.length) 0 = v
    ·simp only [c1, decide_true, Bool.true_and]
     by_cases c2 : l.getD ((i + 2) % l.length) 0 = Cn n v u
     ·simp only [c2, decide_true, Bool.true_and, w3, w4]
      rw [Tn (by omega)]
      simp only [EC (0 : Int) m0, JE, ACk n _ u (hr _ (hin m0))]
      cases Io n (l.getD ((i + l.length - 1) % l.length) 0) u
      ·rfl
      ·simp only [if_true, Aj]
       have e := AW8 n l i hi hl false true true true v v true (Cn n v u) n v u (Cn n v u) true n (i : Int) (l.length : Int) ((i + l.length : Nat) : Int) ((i + l.length - 1 : Nat) : Int) (l.length : Int) (((i + l.length - 1) % l.length : Nat) : Int) (l.getD ((i + l.length - 1) % l.length) 0) u true (l.length - 3) 3 many [] (by omega) (by simp) (by omega)
       have e' : AQ Ec many (n, l, (i : Int), [], (3 : Int), _) = _ := e
       simp only [e', AL (show i + 1 < 9223372036854775808 by omega)]
       rfl
     ·simp only [c2, decide_false, Bool.false_and, Bool.false_eq_true, if_false]
    ·simp only [c1, decide_false, Bool.false_and, Bool.false_eq_true, if_false]
 ·simp only [h4, decide_false, Bool.false_and, Bool.false_eq_true, if_false]
theorem AW9 (n : Int) (l : List Int) (h1 : 1 < l.length) (hl : l.length < 1073741824) (hr : ∀ x ∈ l, -9223372036854775808 ≤ x ∧ x ≤ 9223372036854775807) :
  ∀ (m i cnt : Nat), i + m = l.length → m + 1 < cnt →
  (∃ k, k < l.length ∧ I6 n l k = true ∧ AQ CM cnt (n, l, false, (i : Int), ()) = some (.inl (n, Eg l k, true, ()))) ∨
  ((∀ k, i ≤ k → k < l.length → I6 n l k = false) ∧ AQ CM cnt (n, l, false, (i : Int), ()) = some (.inl (n, l, false, ()))) := by
 intro m
 induction m with
 | zero =>
  intro i cnt hi hc
  obtain ⟨cnt, rfl⟩ : ∃ c, cnt = c + 1 := ⟨cnt - 1, by omega⟩
  right
  refine ⟨fun k q1 q2 => by omega, ?_⟩
  rw [AQ, CM, AO, AN, decide_eq_false (by omega)]
 | succ m ih =>
  intro i cnt hi hc
  obtain ⟨cnt, rfl⟩ : ∃ c, cnt = c + 1 := ⟨cnt - 1, by omega⟩
  rw [AQ, AKe n l i (by omega) h1 hl hr]
  cases hlf : I6 n l i
  ·simp only [Bool.false_eq_true, if_false]
   rcases ih (i + 1) cnt (by omega) (by omega) with h | ⟨h, e⟩
   ·exact .inl h
   ·refine .inr ⟨fun k q1 q2 => ?_, e⟩
    by_cases ek : k = i
    ·rw [ek]; exact hlf
    ·exact h k (by omega) q2
  ·simp only [if_true]
   obtain ⟨cnt, rfl⟩ : ∃ c, cnt = c + 1 := ⟨cnt - 1, by omega⟩
   refine .inl ⟨i, by omega, hlf, ?_⟩
   rw [AQ, CM]
   cases ilt ((i + 1 : Nat) : Int) (AM (Eg l i)) <;> rfl
theorem AXA (n : Int) : ∀ (m : Nat) (l : List Int) (cnt : Nat), l.length = m → l.length < 1073741824 → (∀ x ∈ l, -9223372036854775808 ≤ x ∧ x ≤ 9223372036854775807) → l.Nodup → m < cnt →
  (¬ TI n l ∧ AQ GL cnt (n, l, ()) = some (.inl (false, ()))) ∨
  ∃ l', AQ GL cnt (n, l, ()) = some (.inr (.inl (n, l', ()))) ∧ l'.length ≤ 1 ∧ (TI n l ↔ TI n l') := by
 intro m
 induction m using Nat.strongRecOn with
 | _ m ih =>
 intro l cnt hm hl hr hn hc
 have hmany : 4294967296 < many := by simp only [many]; omega
 obtain ⟨cnt, rfl⟩ : ∃ c, cnt = c + 1 := ⟨cnt - 1, by omega⟩
 rw [AQ, GL, AO, Am]
 by_cases h1 : 1 < l.length
 ·rw [decide_eq_true (by omega)]
  simp only [Aj]
  rcases AW9 n l h1 hl hr l.length 0 many (by omega) (by omega) with ⟨k, k1, k2, e⟩ | ⟨k1, e⟩
  ·have e' : AQ CM many (n, l, false, (0 : Int), ()) = _ := e
   simp only [e', Bool.not_true]
   have hred := ANF k1 k2
   have hiff := AZH hred hn
   have hlen : (Eg l k).length = l.length - 3 := by simp [Eg]
   rcases ih (l.length - 3) (by omega) (Eg l k) cnt hlen (by omega) (fun x hx => hr x (ALZ k1 x hx)) (ARJ hred hn) (by omega) with ⟨q1, q2⟩ | ⟨l', q1, q2, q3⟩
   ·exact .inl ⟨fun h => q1 (hiff.1 h), q2⟩
   ·exact .inr ⟨l', q1, q2, hiff.trans q3⟩
  ·have e' : AQ CM many (n, l, false, (0 : Int), ()) = _ := e
   simp only [e', Bool.not_false]
   refine .inl ⟨fun h => ?_, by trivial⟩
   obtain ⟨l', hl'⟩ := AZk h h1
   obtain ⟨i, i1, i2⟩ := ALd hl'
   rw [k1 i (by omega) i1] at i2
   cases i2
 ·rw [decide_eq_false (by omega)]
  exact .inr ⟨l, rfl, by omega, Iff.rfl⟩
theorem AKf (n : Int) (l : List Int) (hl : l.length < 1073741824) (hr : ∀ x ∈ l, -9223372036854775808 ≤ x ∧ x ≤ 9223372036854775807) (hn : l.Nodup) : VC (n, l, ()) = some (decide (TI n l), ()) := by
 have hmany : 4294967296 < many := by simp only [many]; omega
 rw [AAp, NS, BY (by simp only [AO, List.length_nil]; omega)]
 simp only [Cf, List.nil_append, Aj]
 rcases AXA n l.length l many rfl hl hr hn (by omega) with ⟨q1, q2⟩ | ⟨l', q1, q2, q3⟩
 ·rw [q2, decide_eq_false q1]
 ·rw [q1]
  simp only [AO, A1]
  match l', q2, q3 with
  | [], _, q3 =>
   have : ¬ TI n l := fun h => AWz n (q3.1 h)
   simp [this]
  | [t], _, q3 =>
   rw [AWy] at q3
   have i0 : idx [t] (0 : Int) = some t := by rw [FZ]; rfl
   have d0 : AS [t] 0 (0 : Int) = t := rfl
   rw [decide_eq_true (by simp)]
   simp only [i0, d0, Gu]
   by_cases h : In n t
   ·rw [decide_eq_true h, decide_eq_true (q3.2 h)]
   ·rw [decide_eq_false h, decide_eq_false (fun h2 => h (q3.1 h2))]
end Go.Pev.Pl
end
section
namespace Go.Pev.Pl
open Tok
noncomputable instance (n : Int) (rings : List (List Int)) : Decidable (RF n rings) := Classical.propDecidable _
noncomputable instance (n : Int) (xs : List Int) : Decidable (RG n xs) := Classical.propDecidable _
end Go.Pev.Pl
end
end
section
section
namespace Go.Pev.Pl
open Tok
theorem Zd (N : Nat) (hN : N ≤ 64) (l : List Int) (hl : l.length < 1073741824) (h0 : ∀ t ∈ l, 0 ≤ t) (d1 : List (List Int)) (d3 d5 : Int) (d8 : List Int) (d9 : Int) (d10 : Bool) (d11 : Int) (d12 : List Int) (d13 d14 : Bool) (d15 d16 : List Int) (d17 : List (List Int)) (d18 : List Int) (d19 : List (List Int)) (d20 d21 : Bool) (d22 : List Int) (d23 d24 : Int) (d25 : Bool) :
  ∀ (m k cnt : Nat) (met : List Bool) (seen : List Int), k + m = l.length → MB N met seen → (l.drop k).Nodup → seen.length + m < 4611686018427387904 → m < cnt →
  ((∀ t ∈ l.drop k, t < (N : Int) → t ∉ seen) ∧ ∃ met', AQ CY cnt ((N : Int), d1, met, d3, (seen.length : Int), d5, l, (k : Int), d8, d9, d10, d11, d12, d13, d14, d15, d16, d17, d18, d19, d20, d21, d22, d23, d24, d25, ()) =
    some (.inr (.inl ((N : Int), d1, met', d3, ((seen ++ (l.drop k).filter (fun t => decide (t < (N : Int)))).length : Int), d5, d8, d9, d10, d11, d12, d13, d14, d15, d16, d17, d18, d19, d20, d21, d22, d23, d24, d25, ()))) ∧ MB N met' (seen ++ (l.drop k).filter (fun t => decide (t < (N : Int))))) ∨
  (¬ (∀ t ∈ l.drop k, t < (N : Int) → t ∉ seen) ∧ AQ CY cnt ((N : Int), d1, met, d3, (seen.length : Int), d5, l, (k : Int), d8, d9, d10, d11, d12, d13, d14, d15, d16, d17, d18, d19, d20, d21, d22, d23, d24, d25, ()) = some (.inl (false, ()))) := by
 intro m
 induction m with
 | zero =>
  intro k cnt met seen hk hm hn hsl hc
  obtain ⟨cnt, rfl⟩ : ∃ c, cnt = c + 1 := ⟨cnt - 1, by omega⟩
  have e : l.drop k = [] := List.drop_of_length_le (by omega)
  rw [e]
  refine .inl ⟨by simp, met, ?_, by simpa using hm⟩
  rw [AQ, CY, AO, AN, decide_eq_false (by omega)]
  simp
 | succ m ih =>
  intro k cnt met seen hk hm hn hsl hc
  obtain ⟨cnt, rfl⟩ : ∃ c, cnt = c + 1 := ⟨cnt - 1, by omega⟩
  have hk' : k < l.length := by omega
  have e : l.drop k = l.getD k 0 :: l.drop (k + 1) := by
   rw [List.drop_eq_getElem_cons hk', List.getD_eq_getElem?_getD, List.getElem?_eq_getElem hk', Option.getD_some]
  have hpos : 0 ≤ l.getD k 0 := h0 _ (by rw [List.getD_eq_getElem?_getD, List.getElem?_eq_getElem hk', Option.getD_some]; exact List.getElem_mem hk')
  rw [AQ, CY, AO, AN, decide_eq_true hk']
  simp only [EC (0 : Int) hk']
  rw [e] at hn ⊢
  generalize l.getD k 0 = t at *
  rw [List.nodup_cons] at hn
  rw [AL (show k + 1 < 9223372036854775808 by omega), Am]
  by_cases ht : t < (N : Int)
  ·rw [decide_eq_true ht]
   obtain ⟨q, rfl⟩ := Int.eq_ofNat_of_zero_le hpos
   have hq : q < met.length := by rw [hm.1]; omega
   have hmq := hm.2 q (by omega)
   simp only [EC false hq, JE, AWc, hmq]
   by_cases hs : (q : Int) ∈ seen
   ·rw [decide_eq_true hs]
    exact .inr ⟨fun h => h (q : Int) (by simp) ht hs, rfl⟩
   ·rw [decide_eq_false hs]
    simp only []
    have hm' : MB N (met.set q true) (seen ++ [(q : Int)]) := by
     refine ⟨by simp [hm.1], fun y hy => ?_⟩
     by_cases e2 : y = q
     ·subst e2
      simp [List.getD_eq_getElem?_getD, hq]
     ·have h3 := hm.2 y hy
      have e3 : ¬ (y : Int) = (q : Int) := by omega
      rw [List.getD_eq_getElem?_getD, List.getElem?_set_ne (Ne.symm e2), ← List.getD_eq_getElem?_getD, h3]
      simp [e3]
    have hlen : (((seen.length : Nat) : Int)) = ((seen.length : Nat) : Int) := rfl
    have hw : IntKind.wrap .i64 ((seen.length : Int) + 1) = ((seen ++ [(q : Int)]).length : Int) := by
     rw [Af (by omega)]; simp
    rw [hw]
    have hiff : (∀ y ∈ (q : Int) :: l.drop (k + 1), y < (N : Int) → y ∉ seen) ↔ ∀ y ∈ l.drop (k + 1), y < (N : Int) → y ∉ seen ++ [(q : Int)] := by
     constructor
     ·intro h y hy hyn hm2
      simp only [List.mem_append, List.mem_singleton] at hm2
      rcases hm2 with h2 | rfl
      ·exact h y (List.mem_cons_of_mem _ hy) hyn h2
      ·exact hn.1 hy
     ·intro h y hy hyn hm2
      rcases List.mem_cons.1 hy with rfl | hy
      ·exact hs hm2
      ·exact h y hy hyn (by simp [hm2])
    rcases ih (k + 1) cnt _ _ (by omega) hm' hn.2 (by simp; omega) (by omega) with ⟨q1, met', q2, q3⟩ | ⟨q1, q2⟩
    ·refine .inl ⟨hiff.2 q1, met', ?_, ?_⟩
     ·rw [List.filter_cons_of_pos (by simpa using ht)]
      rw [q2, List.append_assoc]
      rfl
     ·rw [List.filter_cons_of_pos (by simpa using ht)]
      simpa using q3
    ·exact .inr ⟨fun h => q1 (hiff.1 h), q2⟩
  ·rw [decide_eq_false ht]
   simp only []
   have hiff : (∀ y ∈ t :: l.drop (k + 1), y < (N : Int) → y ∉ seen) ↔ ∀ y ∈ l.drop (k + 1), y < (N : Int) → y ∉ seen := by
    constructor
    ·intro h y hy; exact h y (List.mem_cons_of_mem _ hy)
    ·intro h y hy hyn
     rcases List.mem_cons.1 hy with rfl | hy
     ·exact absurd hyn ht
     ·exact h y hy hyn
   rcases ih (k + 1) cnt _ _ (by omega) hm hn.2 (by omega) (by omega) with ⟨q1, met', q2, q3⟩ | ⟨q1, q2⟩
   ·refine .inl ⟨hiff.2 q1, met', ?_, ?_⟩
    ·rw [List.filter_cons_of_neg (by simpa using ht)]
     exact q2
    ·rw [List.filter_cons_of_neg (by simpa using ht)]
     exact q3
   ·exact .inr ⟨fun h => q1 (hiff.1 h), q2⟩
theorem TE (N : Nat) (hN1 : 1 ≤ N) (hN : N ≤ 64) (rings : List (List Int)) (hlen : rings.length ≤ 64) (hr : ∀ l ∈ rings, l.length < 9223372036854775808 ∧ ∀ x ∈ l, -9223372036854775808 ≤ x ∧ x ≤ 9223372036854775807) :
  ∀ (ls : List (List Int)) (i cnt : Nat) (met : List Bool) (last : Int) (seen : List Int), rings.drop i = ls → i ≤ rings.length → MB N met seen → seen.length ≤ i * 1073741824 → ls.length < cnt →
  (okR (N : Int) seen last ls ∧ ∃ met' seen', AQ CZ cnt ((N : Int), rings, met, last, (seen.length : Int), (i : Int), ()) = some (.inr (.inl ((N : Int), rings, (seen'.length : Int), ()))) ∧ MB N met' seen' ∧ seen' = seen ++ ls.flatten.filter (fun t => decide (t < (N : Int)))) ∨
  (¬ okR (N : Int) seen last ls ∧ AQ CZ cnt ((N : Int), rings, met, last, (seen.length : Int), (i : Int), ()) = some (.inl (false, ()))) := by
 have hmany : 4294967296 < many := by simp only [many]; omega
 intro ls
 induction ls with
 | nil =>
  intro i cnt met last seen hd hi hm hsl hc
  obtain ⟨cnt, rfl⟩ : ∃ c, cnt = c + 1 := ⟨cnt - 1, by simp at hc; omega⟩
  have : rings.length ≤ i := by simpa using hd
  refine .inl ⟨trivial, met, seen, ?_, hm, by simp⟩
  rw [AQ, CZ, AO, AN, decide_eq_false (by omega)]
 | cons l ls ih =>
  intro i cnt met last seen hd hi hm hsl hc
  simp only [List.length_cons] at hc
  obtain ⟨cnt, rfl⟩ : ∃ c, cnt = c + 1 := ⟨cnt - 1, by omega⟩
  have hi' : i < rings.length := by
   refine Classical.byContradiction fun h => ?_
   rw [List.drop_of_length_le (by omega)] at hd
   cases hd
  rw [List.drop_eq_getElem_cons hi'] at hd
  simp only [List.cons.injEq] at hd
  obtain ⟨hd1, hd2⟩ := hd
  have hx : rings[i]? = some l := by rw [List.getElem?_eq_getElem hi', hd1]
  have hmem : l ∈ rings := List.mem_of_getElem? hx
  obtain ⟨hl, hlr⟩ := hr l hmem
  rw [AQ, CZ, AO, AN, decide_eq_true hi', okR]
  simp only [An hx, Js]
  by_cases c2 : Rt l
  ·rw [decide_eq_true c2]
   have hl : l.length < 1073741824 := by have := c2.1; omega
   simp only [Bool.not_true]
   cases l with
   | nil =>
    rw [AO, A1, decide_eq_true (by simp)]
    exact .inr ⟨fun h => h.1.2.1 rfl, rfl⟩
   | cons x tl =>
    rw [AO, A1, decide_eq_false (by simp only [List.length_cons]; omega)]
    simp only [AKf (N : Int) (x :: tl) hl hlr c2.2.2]
    by_cases c4 : TI (N : Int) (x :: tl)
    ·rw [decide_eq_true c4]
     simp only [Bool.not_true, R4]
     rw [AIn _ _ (by simp) (by
      intro y hy
      simp only [List.mem_singleton] at hy
      subst hy
      obtain ⟨a, b, q1, q2⟩ := Gk c2 (by simp)
      have := congrArg List.length q1
      rw [q2]
      simp only [List.length_cons, List.length_append] at this hl ⊢
      omega)]
     have hps := Vy c2 (by simp)
     have hps2 : ([plain (x :: tl)] = [x :: tl]) ↔ FX (x :: tl) = x := by simpa using hps
     by_cases c3 : FX (x :: tl) = x
     ·rw [decide_eq_true (hps2.2 c3)]
      have i0 : idx (x :: tl) (0 : Int) = some x := by rw [FZ]; rfl
      simp only [Bool.not_true, i0, List.headD_cons, Aq]
      by_cases c1 : x ≤ last
      ·rw [decide_eq_true c1]
       exact .inr ⟨fun h => by omega, rfl⟩
      ·rw [decide_eq_false c1]
       simp only [Aj]
       have hRG : RG (N : Int) (x :: tl) := ⟨c2, by simp, c3, c4⟩
       rcases Zd N hN (x :: tl) hl (fun t ht => (c2.2.1 t ht).1) rings x (i : Int) (x :: tl) ((x :: tl).length : Int) false (N : Int) (x :: tl) true false (x :: tl) (plain (x :: tl)) [plain (x :: tl)] (x :: tl) [x :: tl] true false (x :: tl) x last false (x :: tl).length 0 many met seen (by omega) hm (by rw [List.drop_zero]; exact c2.2.2) (by omega) (by omega) with ⟨q1, met', q2, q3⟩ | ⟨q1, q2⟩
       ·rw [List.drop_zero] at q1 q3 q2
        have q2' : AQ CY many ((N : Int), rings, met, x, (seen.length : Int), (i : Int), x :: tl, (0 : Int), x :: tl, ((x :: tl).length : Int), false, (N : Int), x :: tl, true, false, x :: tl, plain (x :: tl), [plain (x :: tl)], x :: tl, [x :: tl], true, false, x :: tl, x, last, false, ()) = _ := q2
        simp only [q2', AL (show i + 1 < 9223372036854775808 by omega)]
        have hfl : ((x :: tl).filter (fun t => decide (t < (N : Int)))).length ≤ (x :: tl).length := List.length_filter_le _ _
        rcases ih (i + 1) cnt met' x (seen ++ (x :: tl).filter (fun t => decide (t < (N : Int)))) hd2 (by omega) q3 (by rw [List.length_append]; omega) (by omega) with ⟨p1, met2, seen2, p2, p3, p4⟩ | ⟨p1, p2⟩
        ·refine .inl ⟨⟨hRG, by omega, q1, p1⟩, met2, seen2, p2, p3, ?_⟩
         rw [p4, List.flatten_cons, List.filter_append, List.append_assoc]
        ·exact .inr ⟨fun h => p1 h.2.2.2, p2⟩
       ·rw [List.drop_zero] at q1
        have q2' : AQ CY many ((N : Int), rings, met, x, (seen.length : Int), (i : Int), x :: tl, (0 : Int), x :: tl, ((x :: tl).length : Int), false, (N : Int), x :: tl, true, false, x :: tl, plain (x :: tl), [plain (x :: tl)], x :: tl, [x :: tl], true, false, x :: tl, x, last, false, ()) = _ := q2
        simp only [q2']
        exact .inr ⟨fun h => q1 h.2.2.1, by trivial⟩
     ·rw [decide_eq_false (fun h => c3 (hps2.1 h))]
      exact .inr ⟨fun h => c3 h.1.2.2.1, rfl⟩
    ·rw [decide_eq_false c4]
     exact .inr ⟨fun h => c4 h.1.2.2.2, rfl⟩
  ·rw [decide_eq_false c2]
   exact .inr ⟨fun h => c2 h.1.1, rfl⟩
theorem C7 (n : Int) (rings : List (List Int)) (hlen : rings.length < 1073741824) (hr : ∀ l ∈ rings, l.length < 9223372036854775808 ∧ ∀ x ∈ l, -9223372036854775808 ≤ x ∧ x ≤ 9223372036854775807) :
  HP ((n, (rings, ())), ()) = some (decide (RF n rings), ()) := by
 have hmany : 4294967296 < many := by simp only [many]; omega
 rw [Vl, Kx]
 simp only [Am, AO]
 by_cases h1 : n < 1
 ·rw [decide_eq_true h1, decide_eq_false (show ¬ RF n rings from fun h => by have := h.1.1; omega)]
 ·rw [decide_eq_false h1]
  simp only []
  by_cases h2 : 64 < n
  ·rw [decide_eq_true h2, decide_eq_false (show ¬ RF n rings from fun h => by have := h.1.2; omega)]
  ·rw [decide_eq_false h2]
   simp only []
   by_cases h3 : n < (rings.length : Int)
   ·rw [decide_eq_true h3, decide_eq_false (show ¬ RF n rings from fun h => by
     have := APY (by omega) h.2.1 (by omega) (by omega)
     omega)]
   ·rw [decide_eq_false h3]
    obtain ⟨N, rfl⟩ := Int.eq_ofNat_of_zero_le (show 0 ≤ n by omega)
    have f1 : L3 (N : Int) = true := (LX _).2 (by omega)
    have f2 : ile (N : Int) (N : Int) = true := by rw [Aq]; simp
    simp only [f1, f2, Bool.and_self, Bool.and_true, Aj]
    have hMB : MB N (KU (AG (N : Int)) false) [] := by
     refine ⟨by simp [KU, Q8], fun k hk => ?_⟩
     simp [KU, Q8, hk]
    rcases TE N (by omega) (by omega) rings (by omega) hr rings 0 many _ (-1) [] (by simp) (by omega) hMB (by simp) (by omega) with ⟨p1, met, seen, p2, p3, p4⟩ | ⟨p1, p2⟩
    ·have p2' : AQ CZ many ((N : Int), rings, KU (AG (N : Int)) false, -1, (0 : Int), (0 : Int), ()) = _ := p2
     simp only [p2', A1]
     obtain ⟨q1, q2⟩ := ARm p1 (by simp)
     rw [← p4] at q1
     have hsub : ∀ x ∈ seen, x ∈ (List.range N).map (fun (k : Nat) => (k : Int)) := by
      intro x hx
      rw [p4] at hx
      simp only [List.nil_append, List.mem_filter, List.mem_flatten, decide_eq_true_eq] at hx
      obtain ⟨⟨l, hl, hxl⟩, hxn⟩ := hx
      have := ((q2 l hl).1.2.1 x hxl).1
      rw [List.mem_map]
      exact ⟨x.toNat, by rw [List.mem_range]; omega, by omega⟩
     have hv : ∀ v, v ∈ seen ↔ (v < (N : Int) ∧ v ∈ rings.flatten) := fun v => by rw [p4, List.nil_append, List.mem_filter, decide_eq_true_eq, and_comm]
     have hS : Sz (N : Int) := ⟨by omega, by omega⟩
     by_cases hc : (seen.length : Int) = (N : Int)
     ·rw [decide_eq_true hc, decide_eq_true]
      refine ⟨hS, p1, fun v v1 v2 => ?_⟩
      have := Nq q1 hsub (by simp; omega) v (by rw [List.mem_map]; exact ⟨v.toNat, by rw [List.mem_range]; omega, by omega⟩)
      exact ((hv v).1 this).2
     ·rw [decide_eq_false hc, decide_eq_false]
      rintro ⟨_, _, h⟩
      have a1 := B0 q1 hsub
      have hrn : ((List.range N).map (fun (k : Nat) => (k : Int))).Nodup := by
       rw [List.Nodup, List.pairwise_map]
       exact List.nodup_range.imp fun h e => h (by omega)
      have a2 := B0 (a := (List.range N).map (fun (k : Nat) => (k : Int))) (b := seen) hrn fun x hx => by
       rw [List.mem_map] at hx
       obtain ⟨k, hk, rfl⟩ := hx
       rw [List.mem_range] at hk
       exact (hv _).2 ⟨by omega, h (k : Int) (by omega) (by omega)⟩
      simp only [List.length_map, List.length_range] at a1 a2
      omega
    ·have p2' : AQ CZ many ((N : Int), rings, KU (AG (N : Int)) false, -1, (0 : Int), (0 : Int), ()) = _ := p2
     simp only [p2']
     rw [decide_eq_false (fun h => p1 h.2.1)]
end Go.Pev.Pl
end
section
namespace Go.Pev.Pl
open Tok
theorem Jw (n : Int) (rings : List (List Int)) (v : Int) (hlen : rings.length < 1073741824) (hr : ∀ l ∈ rings, l.length < 9223372036854775808) : Fz ((n, (rings, ())), v, ()) = some (plc rings v, ()) := by
 rw [WK, K6]
 have e := L4 (step := Dr) (fun i => (v, n, rings, (i : Int), ())) rings (fun l => decide (v ∈ l)) (fun i => .inl ((i : Int), ())) (.inr (.inl ())) (by omega)
  (fun i l hi hx => by
   have hl := hr l (List.mem_of_getElem? hx)
   rw [Dr, AO, AN, decide_eq_true hi]
   simp only [An hx, HQ l v (by omega)]
   rw [AL (by omega), Aq]
   by_cases h : v ∈ l
   ·obtain ⟨k, e, _⟩ := Vw h
    rw [e, decide_eq_true (by omega), decide_eq_true h]; rfl
   ·rw [K0 h, decide_eq_false (by omega), decide_eq_false h]; rfl)
  (by rw [Dr, AO, AN, decide_eq_false (by omega)])
 have e' : AY Dr many (v, n, rings, (0 : Int), ()) = _ := e
 simp only [e', plc]
 cases rings.any (fun l => decide (v ∈ l)) <;> rfl
end Go.Pev.Pl
end
section
namespace Go.Pev.Pl
open Tok
theorem ARL (rest : List (List Int)) (r : List Int) (hlen : rest.length < 1073741824) (hne : ∀ l ∈ rest, l ≠ []) (hp : plain r ≠ []) : APM (rest, r, ()) = some (Vu rest (plain r), ()) := by
 rw [AUc, ADL]
 simp only [R4]
 generalize plain r = p at *
 have e := L4 (step := Ju) (fun i => (rest, p, (i : Int), ())) rest (fun x => !decide (hd x < hd p)) (fun i => .inl (rest, p, (i : Int), ())) (.inl (rest, p, (rest.length : Int), ())) (by omega)
  (fun i x hi hx => by
   rw [Ju, AO, AN, decide_eq_true hi]
   simp only [An hx, APv (hne x (List.mem_of_getElem? hx)), APv hp, AWd, Am]
   rw [AL (by omega)]
   by_cases h : hd x < hd p
   ·rw [decide_eq_true h]; rfl
   ·rw [decide_eq_false h]; rfl)
  (by rw [Ju, AO, AN, decide_eq_false (by omega)])
 have e' : AY Ju many (rest, p, (0 : Int), ()) = _ := e
 have hk : (if rest.any (fun x => !decide (hd x < hd p)) then (.inl (rest, p, ((rest.findIdx fun x => !decide (hd x < hd p) : Nat) : Int), ()) : (List (List Int) × List Int × Int × Unit) ⊕ Unit) else .inl (rest, p, (rest.length : Int), ())) = .inl (rest, p, ((rest.findIdx fun x => !decide (hd x < hd p) : Nat) : Int), ()) := by
  split
  ·rfl
  ·rename_i h
   rw [List.findIdx_eq_length.2 fun x hx => by
    refine Classical.byContradiction fun hc => h (List.any_eq_true.2 ⟨x, hx, by simpa using hc⟩)]
 rw [e', hk]
 have hle : (rest.findIdx fun x => !decide (hd x < hd p)) ≤ rest.length := List.findIdx_le_length
 rw [Vu]
 generalize (rest.findIdx fun x => !decide (hd x < hd p)) = k at *
 simp only [PX hle, Gg hle]
 rw [BY (by simp only [AO, List.length_nil, List.length_take]; omega)]
 simp only []
 rw [BY (by simp only [AO, Cf, List.length_append, List.length_cons, List.length_nil, List.length_take]; omega)]
 simp only []
 rw [BY (by simp only [AO, Cf, List.length_append, List.length_cons, List.length_nil, List.length_take, List.length_drop]; omega)]
 simp only [Cf, List.nil_append, List.append_assoc, List.singleton_append]
theorem Lv (l : List (List Int)) (i : Nat) (hi : i < l.length) (hlen : l.length < 1073741824) : GJ (l, (i : Int), ()) = some (l.eraseIdx i, ()) := by
 rw [AB7, Jf]
 rw [AL (by omega)]
 simp only [PX (Nat.le_of_lt hi), Gg (show i + 1 ≤ l.length by omega)]
 rw [BY (by simp only [AO, List.length_nil, List.length_take]; omega)]
 simp only []
 rw [BY (by simp only [AO, Cf, List.length_append, List.length_nil, List.length_take, List.length_drop]; omega)]
 simp only [Cf, List.nil_append, List.eraseIdx_eq_take_drop_succ]
end Go.Pev.Pl
end
section
namespace Go.Pev.Pl
open Tok
end Go.Pev.Pl
end
section
namespace Go.Pev.Pl
open Go.RowKit Tok
end Go.Pev.Pl
end
section
namespace Go.Pev.Pl
open Tok
end Go.Pev.Pl
end
section
namespace Go.Pev.Pl
open Tok
set_option linter.unusedSimpArgs false
theorem AIp {n : Int} {rings : List (List Int)} {u v : Int} (h : FR n rings) (iu : In n u) (iv : In n v) (hp : plc rings u = plc rings v) :
  Jj ((n, (rings, ())), u, v, ()) = some (n, rings, 5, ()) ∧ Qj ((n, (rings, ())), u, v, ()) = some (n, rings, 5, ()) := by
 have hD := h.dom
 have hRF := HD.2 h
 constructor
 ·rw [Gf, Fy]
  simp only [GS n rings u v hD, hRF, iu, iv, and_self, if_true, A1, Ik n rings _ hD.1 (fun l hl => (hD.2 l hl).1), hp, decide_true, Bool.not_true]
 ·rw [LR, IG]
  simp only [C7 n rings hD.1 hD.2, hRF, Gu, iu, iv, decide_true, Bool.not_true, Jw n rings _ hD.1 (fun l hl => (hD.2 l hl).1), A1, hp]
theorem AVk {n : Int} {rings : List (List Int)} {u v : Int} {i j : Nat} {A B : List Int} (h : FR n rings) (iu : In n u) (iv : In n v) (hi : rings[i]? = some A) (hj : rings[j]? = some B) (hu : u ∈ A) (hv : v ∈ B) (hij : i ≠ j) :
  ∃ zs rest, Jj ((n, (rings, ())), u, v, ()) = some (n, zs, 0, ()) ∧ Qj ((n, (rings, ())), u, v, ()) = some (n, zs, 0, ()) ∧ FR n zs ∧ rings.Perm (A :: B :: rest) ∧ zs.Perm (plain (A5 n A B u v) :: rest) ∧ Dis n A B := by
 have hD := h.dom
 have hRF := HD.2 h
 have rA := h.rg A (List.mem_of_getElem? hi)
 have rB := h.rg B (List.mem_of_getElem? hj)
 have hil := (List.getElem?_eq_some_iff.1 hi).1
 have hjl := (List.getElem?_eq_some_iff.1 hj).1
 have pu : plc rings u = (i : Int) := h.ADM hi iu.2.2.2 hu
 have pv : plc rings v = (j : Int) := h.ADM hj iv.2.2.2 hv
 have hperm : rings.Perm (A :: B :: (rings.eraseIdx (max i j)).eraseIdx (min i j)) := by
  rcases Nat.lt_or_gt_of_ne hij with g | g
  ·rw [Nat.max_eq_right (by omega), Nat.min_eq_left (by omega)]
   exact Hg g hi hj
  ·rw [Nat.max_eq_left (by omega), Nat.min_eq_right (by omega)]
   exact (Hg g hj hi).trans (List.Perm.swap _ _ _)
 have hdis : Dis n A B := by
  have := IT hperm h.dis
  rw [List.pairwise_cons] at this
  exact this.1 B (by simp)
 obtain ⟨l1, l2, l3, huv, ho⟩ := LQ rA.2.2.2 rB.2.2.2 hu hv iu iv hdis
 obtain ⟨hRG, hrot⟩ := Y2 l1
 have hall : A5 n A B u v = u :: Cn n u v :: (A2 B v ++ Cn n v u :: (A2 A u).tail) := rfl
 have lA : (A2 A u).length ≤ 1000 := by rw [← (CH hu).perm.length_eq]; exact rA.1.1
 have lB : (A2 B v).length ≤ 1000 := by rw [← (CH hv).perm.length_eq]; exact rB.1.1
 have hsub : ((rings.eraseIdx (max i j)).eraseIdx (min i j)).Sublist rings := (List.eraseIdx_sublist _ _).trans (List.eraseIdx_sublist _ _)
 have hw1 : GJ (rings, ((max i j : Nat) : Int), ()) = some (rings.eraseIdx (max i j), ()) := Lv _ _ (by omega) hD.1
 have hel : (rings.eraseIdx (max i j)).length = rings.length - 1 := by rw [List.length_eraseIdx]; rw [if_pos (by omega)]
 have hw2 : GJ (rings.eraseIdx (max i j), ((min i j : Nat) : Int), ()) = some ((rings.eraseIdx (max i j)).eraseIdx (min i j), ()) := Lv _ _ (by omega) (by have := hD.1; omega)
 have hdrop : CQ (fun k => decide ((k : Int) ∈ [(i : Int), (j : Int)])) 0 rings = (rings.eraseIdx (max i j)).eraseIdx (min i j) := by
  rcases Nat.lt_or_gt_of_ne hij with g | g
  ·rw [Nat.max_eq_right (by omega), Nat.min_eq_left (by omega)]
   exact JD _ i j g rings 0 (by omega) fun k _ => decide_eq_decide.2 (by simp only [List.mem_cons, List.not_mem_nil, or_false]; omega)
  ·rw [Nat.max_eq_left (by omega), Nat.min_eq_right (by omega)]
   exact JD _ j i g rings 0 (by omega) fun k _ => decide_eq_decide.2 (by simp only [List.mem_cons, List.not_mem_nil, or_false]; omega)
 have hrl : ((rings.eraseIdx (max i j)).eraseIdx (min i j)).length ≤ rings.length := hsub.length_le
 generalize (rings.eraseIdx (max i j)).eraseIdx (min i j) = rest at *
 have hupr : rest.Pairwise (fun a b => hd a < hd b) := h.up.sublist hsub
 have hner : ∀ l ∈ rest, l ≠ [] := fun l hl => (h.rg l (hsub.subset hl)).2.1
 have hdd := IT hperm h.dis
 rw [List.pairwise_cons, List.pairwise_cons] at hdd
 have hheads : ∀ x ∈ rest, hd x ≠ hd (plain (A5 n A B u v)) := by
  intro x hx e
  have g1 := Lh hRG
  have g2 := (l3 _ g1.2.2.2).1 (hrot.perm.mem_iff.2 (Qy hRG.2.1))
  have g3 : hd (plain (A5 n A B u v)) ∈ x := e ▸ Qy (hner x hx)
  rcases g2 with g | g
  ·exact hdd.1 x (by simp [hx]) _ g g1.2.2.2 g3
  ·exact hdd.2.1 x hx _ g g1.2.2.2 g3
 have hup := APL hupr hheads
 have hpz := AA5 rest (plain (A5 n A B u v))
 refine ⟨Vu rest (plain (A5 n A B u v)), rest, ?_, ?_, AQN h hperm hRG (fun t ht => by rw [← hrot.perm.mem_iff]; exact l3 t ht) hpz hup, hperm, hpz, hdis⟩
 ·obtain ⟨ys, y1, y2, y3⟩ := AAY n rings [(i : Int), (j : Int)] [A5 n A B u v] hD.1 (by simp) (by simp) (fun l hl => (h.rg l hl).2.1) (by simp; exact hRG.2.1)
  have hys : ys = Vu rest (plain (A5 n A B u v)) := by
   refine R0 hup (y2.trans ?_) y3
   rw [hdrop]
   exact (List.perm_append_comm (l₁ := rest) (l₂ := [plain (A5 n A B u v)])).trans hpz.symm
  rw [hys] at y1
  rw [Gf, Fy]
  have s1 : DY (A2 A u) (0 : Int) (1 : Int) = some [u] := by
   have := ACj (xs := A2 A u) (l := 0) (h := 1) (by omega) (by rw [l2]; simp)
   rw [l2] at this ⊢
   exact this
  have s2 : DY (A2 A u) (1 : Int) (AM (A2 A u)) = some (A2 A u).tail := by
   have := Gg (xs := A2 A u) (l := 1) (by rw [l2]; simp)
   rw [List.drop_one] at this
   exact this
  have d1 : DE 0 (AG (AM [u])) (A2 A u) = [u] := by rw [l2]; rfl
  have d2 : DE 1 (AG (AM (A2 A u).tail)) (A2 A u) = (A2 A u).tail := by
   rw [DE, AO, Q8, List.drop_one, List.take_length]
  have hcat : Hi ([[u], [Cn n u v], A2 B v, [Cn n v u], (A2 A u).tail], ()) = some (A5 n A B u v, ()) := by
   rw [KZ _ (by simp) (by simp; omega)]
   simp [A5]
  have ne : ((i : Int)) ≠ (j : Int) := by omega
  simp only [GS n rings u v hD, hRF, iu, iv, and_self, if_true, A1, Ik n rings _ hD.1 (fun l hl => (hD.2 l hl).1), pu, pv, ne, decide_true, decide_false, Bool.not_true, An hi, An hj, AA0, Hd, rA.1, rB.1, hu, hv, s1, s2, AGe, d1, d2, hcat, y1]
 ·rw [LR, IG]
  have s2 : DY (A2 A u) (1 : Int) (AM (A2 A u)) = some (A2 A u).tail := by
   have := Gg (xs := A2 A u) (l := 1) (by rw [l2]; simp)
   rw [List.drop_one] at this
   exact this
  have d2 : DE 1 (AG (AM (A2 A u).tail)) (A2 A u) = (A2 A u).tail := by
   rw [DE, AO, Q8, List.drop_one, List.take_length]
  have ne : ((i : Int)) ≠ (j : Int) := by omega
  have f1 : fits (AM [u, Cn n u v] + AM (A2 B v)) = true := BY (by simp only [AO, List.length_cons, List.length_nil]; omega)
  have f2 : fits (AM (A8 [u, Cn n u v] (A2 B v)) + AM [Cn n v u]) = true := BY (by simp only [AO, Cf, List.length_append, List.length_cons, List.length_nil]; omega)
  have f3 : fits (AM (A8 (A8 [u, Cn n u v] (A2 B v)) [Cn n v u]) + AM (A2 A u).tail) = true := BY (by simp only [AO, Cf, List.length_append, List.length_cons, List.length_nil, List.length_tail]; omega)
  have hcat : A8 (A8 (A8 [u, Cn n u v] (A2 B v)) [Cn n v u]) (A2 A u).tail = A5 n A B u v := by simp [Cf, A5]
  have hput : APM (rest, A5 n A B u v, ()) = some (Vu rest (plain (A5 n A B u v)), ()) := ARL rest _ (by have := hD.1; omega) hner hRG.2.1
  simp only [C7 n rings hD.1 hD.2, hRF, Gu, iu, iv, decide_true, Bool.not_true, Jw n rings _ hD.1 (fun l hl => (hD.2 l hl).1), pu, pv, A1, ne, decide_false, An hi, An hj, Mt A u (by have := rA.1.1; omega), Mt B v (by have := rB.1.1; omega), Hd, rA.1, rB.1, hu, hv, and_self, if_true, RO, f1, f2, s2, d2, f3, AV1, AV0, hw1, hw2, hcat, hput]
theorem Z8 {n : Int} {rings : List (List Int)} {u v : Int} (hD : Dom rings) (h : ¬ (RF n rings ∧ In n u ∧ In n v)) :
  ∃ e, e ≠ 0 ∧ (∃ b, e = b ∧ (b = 1 ∨ b = 10)) ∧ Jj ((n, (rings, ())), u, v, ()) = some (n, rings, e, ()) ∧ Qj ((n, (rings, ())), u, v, ()) = some (n, rings, e, ()) := by
 by_cases h1 : RF n rings
 ·have h2 : ¬ (In n u ∧ In n v) := fun h2 => h ⟨h1, h2⟩
  refine ⟨10, by omega, ⟨10, rfl, .inr rfl⟩, ?_, ?_⟩
  ·rw [Gf, Fy]
   simp only [GS n rings u v hD, h1, h2, if_true, if_false, A1]
   rfl
  ·rw [LR, IG]
   simp only [C7 n rings hD.1 hD.2, h1, Gu, decide_true, Bool.not_true]
   by_cases hu : In n u
   ·have hv : ¬ In n v := fun hv => h2 ⟨hu, hv⟩
    simp [hu, hv]
   ·simp [hu]
 ·refine ⟨1, by omega, ⟨1, rfl, .inl rfl⟩, ?_, ?_⟩
  ·rw [Gf, Fy]
   simp only [GS n rings u v hD, h1, if_false, A1]
   rfl
  ·rw [LR, IG]
   simp only [C7 n rings hD.1 hD.2, h1, decide_false, Bool.not_false]
theorem AOb {n : Int} {rings : List (List Int)} (u v : Int) (hD : Dom rings) : ∃ zs e, Jj ((n, (rings, ())), u, v, ()) = some (n, zs, e, ()) ∧ Qj ((n, (rings, ())), u, v, ()) = some (n, zs, e, ()) ∧ Dom zs := by
 by_cases h : RF n rings ∧ In n u ∧ In n v
 ·obtain ⟨h1, iu, iv⟩ := h
  have hF := HD.1 h1
  obtain ⟨i, A, pu, hi, hu, _⟩ := Jv (hF.cov u iu)
  obtain ⟨j, B, pv, hj, hv, _⟩ := Jv (hF.cov v iv)
  by_cases hij : i = j
  ·obtain ⟨q1, q2⟩ := AIp hF iu iv (by rw [pu, pv, hij])
   exact ⟨_, _, q1, q2, hD⟩
  ·obtain ⟨zs, rest, q1, q2, q3, _⟩ := AVk hF iu iv hi hj hu hv hij
   exact ⟨_, _, q1, q2, q3.dom⟩
 ·obtain ⟨e, _, _, q1, q2⟩ := Z8 hD h
  exact ⟨_, _, q1, q2, hD⟩
end Go.Pev.Pl
end
section
namespace Go.Pev.Pl
open Tok
set_option linter.unusedSimpArgs false
def sel (l : List Edge) (bs : List Bool) : List Edge := ((l.zip bs).filter fun p => p.2).map fun p => p.1
end Go.Pev.Pl
end
section
namespace Go.Pev.Pl
open Tok
instance (n v : Int) : Decidable (In n v) := inferInstanceAs (Decidable (_ ∧ _))
instance (n : Int) : Decidable (Sz n) := inferInstanceAs (Decidable (_ ∧ _))
end Go.Pev.Pl
end
section
namespace Go.Pev.Pl
instance (xs : List Int) : Decidable (Rt xs) := inferInstanceAs (Decidable (_ ∧ _ ∧ _))
end Go.Pev.Pl
end
section
namespace Go.Pev.Pl
open Tok
noncomputable instance (n : Int) (xs : List Int) : Decidable (TI n xs) := Classical.propDecidable _
end Go.Pev.Pl
end
section
namespace Go.Pev.Pl
open Tok
noncomputable instance (n : Int) (rings : List (List Int)) : Decidable (RF n rings) := Classical.propDecidable _
noncomputable instance (n : Int) (xs : List Int) : Decidable (RG n xs) := Classical.propDecidable _
end Go.Pev.Pl
end
section
namespace Go.Pev.Pl
open Tok
theorem Rx (n : Int) (rings : List (List Int)) (l : List (Int × Int × Unit)) (hD : Dom rings) (hs : l.length < 9223372036854775808) : Im ((n, (rings, ())), l, ()) = some (AFh n rings (l.all fun e => decide (In n e.1) && decide (In n e.2.1)), ()) := by
 rw [VK, Ku]
 simp only [C7 n rings hD.1 hD.2, AFh]
 by_cases h : RF n rings
 ·simp only [h, decide_true, Bool.not_true, if_true]
  have e := L4 (step := Dn) (fun i => (l, n, rings, (i : Int), ())) l (fun e => !(decide (In n e.1) && decide (In n e.2.1))) (fun _ => .inl ((10 : Int), ())) (.inr (.inl ())) hs
   (fun i x hi hx => by
    rw [Dn, AO, AN, decide_eq_true hi]
    simp only [An hx, Am, Aq]
    rw [AL (by omega)]
    have q1 := AOq (v := x.1) h.1
    have q2 := AOq (v := x.2.1) h.1
    by_cases c1 : x.1 < 0
    ·rw [decide_eq_true c1, Bool.true_or] at q1
     have : decide (In n x.1) = false := by simpa using q1.symm
     simp [c1, this]
    ·by_cases c2 : n ≤ x.1
     ·rw [decide_eq_true c2, Bool.or_true] at q1
      have : decide (In n x.1) = false := by simpa using q1.symm
      simp [c1, c2, this]
     ·rw [decide_eq_false c1, decide_eq_false c2] at q1
      have g1 : decide (In n x.1) = true := by simpa using q1.symm
      by_cases c3 : x.2.1 < 0
      ·rw [decide_eq_true c3, Bool.true_or] at q2
       have : decide (In n x.2.1) = false := by simpa using q2.symm
       simp [c1, c2, c3, this]
      ·by_cases c4 : n ≤ x.2.1
       ·rw [decide_eq_true c4, Bool.or_true] at q2
        have : decide (In n x.2.1) = false := by simpa using q2.symm
        simp [c1, c2, c3, c4, this]
       ·rw [decide_eq_false c3, decide_eq_false c4] at q2
        have g2 : decide (In n x.2.1) = true := by simpa using q2.symm
        simp [c1, c2, c3, c4, g1, g2])
   (by rw [Dn, AO, AN, decide_eq_false (by omega)])
  have e' : AY Dn many (l, n, rings, (0 : Int), ()) = _ := e
  rw [e', List.any_eq_not_all_not]
  simp only [Bool.not_not]
  cases l.all fun e => decide (In n e.1) && decide (In n e.2.1) <;> rfl
 ·simp [h]
end Go.Pev.Pl
end
section
namespace Go.Pev.Pl
open Tok
set_option linter.unusedSimpArgs false
end Go.Pev.Pl
end
section
namespace Go.Pev.Pl
open Tok
set_option linter.unusedSimpArgs false
end Go.Pev.Pl
end
section
namespace Go.Pev.Pl
open Tok
set_option linter.unusedSimpArgs false
set_option maxRecDepth 100000
end Go.Pev.Pl
end
section
namespace Go.Pev.Pl
open Tok
theorem AG2 {N : Nat} (h1 : 1 ≤ N) (hN : N ≤ 64) {ts : List Tie} (hs : ts.length ≤ 400) (ho : oks N ts) {out : List Int} (hc : Rr (N : Int) (trs ts ts.length) out) :
  FF (((N : Int), (ts, ())), ()) = some (decide ((cnt out N : Int) = (N : Int) - (trs ts ts.length).length), ()) := by
 have R := NX N hN ts hs
 rw [if_pos ho] at R
 have hin := AKb hN ho
 have hlen := ACF ts ts.length
 obtain ⟨o2, e2, c2⟩ := Dd (N : Int) (trs ts ts.length) ⟨by omega, by omega⟩ (by omega) hin
 have := Rr.unique h1 hN hc c2
 subst this
 have hol : out.length = N := by have := hc.len; omega
 rw [Ef, D4]
 simp only [Am, AO]
 rw [decide_eq_false (show ¬ (N : Int) < 1 by omega), decide_eq_false (show ¬ 64 < (N : Int) by omega), decide_eq_false (show ¬ 400 < (ts.length : Int) by omega)]
 simp only [R, e2, Ly N hN _ _ out hol, A1]
 rw [Af (by omega)]
end Go.Pev.Pl
end
section
namespace Go.Pev.Pl
open Tok
set_option linter.unusedSimpArgs false
theorem Con.perm {l l' : List Edge} (h : ∀ e, e ∈ l ↔ e ∈ l') {a b : Int} : Con l a b ↔ Con l' a b :=
 ⟨fun c => c.mono fun e he => ⟨e, (h e).1 he, .inl ⟨rfl, rfl⟩⟩, fun c => c.mono fun e he => ⟨e, (h e).2 he, .inl ⟨rfl, rfl⟩⟩⟩
theorem Rr.congr {n : Int} {l l' : List Edge} {out : List Int} (h : ∀ a b, Con l a b ↔ Con l' a b) (hc : Rr n l out) : Rr n l' out :=
 ⟨hc.len, fun a b ia ib => (hc.same a b ia ib).trans (h a b), hc.isin, fun a ia => (h a _).1 (hc.con a ia), fun a b ia ib c => hc.least a b ia ib ((h a b).2 c)⟩
end Go.Pev.Pl
end
section
namespace Go.Pev.Pl
open Tok
set_option linter.unusedSimpArgs false
def AAs (x : Edge) (b : Bool) : Tie := (x.1, x.2.1, 0, b, ())
def Tc (ts : List Tie) (xs : List Edge) (bs : List Bool) (k : Nat) : List Tie := (List.range k).foldl (fun a i => Vt a (AAs (xs.getD i (0, 0, ())) (bs.getD i false))) ts
end Go.Pev.Pl
end
section
namespace Go.Pev.Pl
open Tok
set_option linter.unusedSimpArgs false
def AMf (xs : List Edge) (bs : List Bool) (k : Nat) : List Tie := (List.range k).map fun i => AAs (xs.getD i (0, 0, ())) (bs.getD i false)
theorem ABr (ts : List Tie) (xs : List Edge) (bs : List Bool) (k : Nat) : Tc ts xs bs (k + 1) = Vt (Tc ts xs bs k) (AAs (xs.getD k (0, 0, ())) (bs.getD k false)) := by
 unfold Tc
 rw [List.range_succ, List.foldl_append]
 rfl
theorem RU (ts : List Tie) (xs : List Edge) (bs : List Bool) : ∀ k, (Tc ts xs bs k).Perm (ts ++ AMf xs bs k) := by
 intro k
 induction k with
 | zero => simp [Tc, AMf]
 | succ k ih =>
  rw [ABr]
  refine (AA4 _ _).trans ?_
  unfold AMf at *
  rw [List.range_succ, List.map_append, ← List.append_assoc]
  refine (List.Perm.cons _ ih).trans ?_
  exact (List.perm_append_singleton _ _).symm
end Go.Pev.Pl
end
section
namespace Go.Pev.Pl
open Tok
set_option linter.unusedSimpArgs false
theorem AWu {N : Nat} {ts : List Tie} (h : oks N ts) (hv0 : 0 ≤ HM N) {xs : List Edge} (bs : List Bool) (hp : xs.Pairwise AFo) (hx : ∀ e ∈ xs, 0 ≤ e.1 ∧ e.1 < e.2.1 ∧ e.2.1 < (N : Int)) (hn : ∀ e ∈ xs, ¬ e ∈ ts.map ed) : oks N (Tc ts xs bs xs.length) := by
 rw [ADw] at h ⊢
 obtain ⟨h1, h2⟩ := h
 have hget : ∀ i (hi : i < xs.length), xs.getD i (0, 0, ()) = xs[i] := fun i hi => by
  simp only [List.getD_eq_getElem?_getD, List.getElem?_eq_getElem hi, Option.getD_some]
 have hmem : ∀ k, k ≤ xs.length → ∀ t ∈ Tc ts xs bs k, t ∈ ts ∨ ∃ i, i < k ∧ t = AAs (xs.getD i (0, 0, ())) (bs.getD i false) := by
  intro k hk t ht
  rcases List.mem_append.1 ((RU ts xs bs k).mem_iff.1 ht) with h | h
  ·exact .inl h
  ·unfold AMf at h
   obtain ⟨i, hi, rfl⟩ := List.mem_map.1 h
   exact .inr ⟨i, by simpa using hi, rfl⟩
 refine ⟨fun t ht => ?_, ?_⟩
 ·rcases hmem _ (Nat.le_refl _) t ht with h | ⟨i, hi, rfl⟩
  ·exact h1 t h
  ·rw [hget i hi]
   obtain ⟨q1, q2, q3⟩ := hx xs[i] (List.getElem_mem hi)
   exact ⟨q1, q2, q3, by show (0 : Int) ≤ 0; omega, hv0⟩
 ·have key : ∀ k, k ≤ xs.length → (Tc ts xs bs k).Pairwise ahead := by
   intro k
   induction k with
   | zero => intro _; exact h2
   | succ k ih =>
    intro hk
    rw [ABr]
    refine ARK (ih (by omega)) fun t ht => ?_
    rw [hget k (by omega)]
    rintro ⟨e1, e2⟩
    rcases hmem k (by omega) t ht with h | ⟨i, hi, rfl⟩
    ·refine hn xs[k] (List.getElem_mem (by omega)) (List.mem_map.2 ⟨t, h, ?_⟩)
     unfold ed
     rw [e1, e2]
     rfl
    ·rw [hget i (by omega)] at e1 e2
     have := (List.pairwise_iff_getElem.1 hp) i k (by omega) (by omega) hi
     unfold AFo at this
     simp only [AAs] at e1 e2
     omega
  exact key _ (Nat.le_refl _)
end Go.Pev.Pl
end
section
namespace Go.Pev.Pl
open Tok
set_option linter.unusedSimpArgs false
theorem ATo (ts : List Tie) : ∀ k, k ≤ ts.length → trs ts k = ((ts.take k).filter fun t => t.2.2.2.1).map ed := by
 intro k
 induction k with
 | zero => intro _; simp [trs]
 | succ k ih =>
  intro hk
  have hk' : k < ts.length := by omega
  rw [UR, ih (by omega), List.take_succ_eq_append_getElem hk', List.filter_append, List.map_append]
  simp only [List.getD_eq_getElem?_getD, List.getElem?_eq_getElem hk', Option.getD_some]
  cases h : ts[k].2.2.2.1
  ·simp [h]
  ·simp [h]
theorem ACG (ts : List Tie) : trs ts ts.length = (ts.filter fun t => t.2.2.2.1).map ed := by
 rw [ATo ts _ (Nat.le_refl _), List.take_length]
end Go.Pev.Pl
end
section
namespace Go.Pev.Pl
open Tok
set_option linter.unusedSimpArgs false
theorem AVR {xs : List Edge} {bs : List Bool} (h : bs.length = xs.length) : AMf xs bs xs.length = (xs.zip bs).map fun p => AAs p.1 p.2 := by
 unfold AMf
 apply List.ext_getElem
 ·simp [h]
 ·intro i h1 h2
  have hi : i < xs.length := by simpa using h1
  simp [hi, show i < bs.length by omega]
theorem AWt (ts : List Tie) {xs : List Edge} {bs : List Bool} (h : bs.length = xs.length) : (trs (Tc ts xs bs xs.length) (Tc ts xs bs xs.length).length).Perm (trs ts ts.length ++ sel xs bs) := by
 rw [ACG, ACG]
 refine (((RU ts xs bs xs.length).filter _).map ed).trans ?_
 rw [List.filter_append, List.map_append, AVR h, List.filter_map, List.map_map]
 exact List.Perm.refl _
theorem AWv (ts : List Tie) (xs : List Edge) (bs : List Bool) : ∀ k, (Tc ts xs bs k).length = ts.length + k := by
 intro k
 rw [(RU ts xs bs k).length_eq]
 simp [AMf]
end Go.Pev.Pl
end
end
section
section
namespace Go.Pev.Pl
open Tok
set_option linter.unusedSimpArgs false
set_option maxRecDepth 100000
theorem AWl {N : Nat} (hN : N ≤ 64) (ts : List Tie) (l : List Edge) : ∀ e ∈ IX N ts l, In (N : Int) e.1 ∧ In (N : Int) e.2.1 := by
 intro e he
 obtain ⟨⟨a, b, c, _⟩, _⟩ := (QN N ts l e).1 he
 exact ⟨⟨by omega, by omega, a, by omega⟩, ⟨by omega, by omega, by omega, c⟩⟩
end Go.Pev.Pl
end
section
namespace Go.Pev.Pl
open Tok
set_option linter.unusedSimpArgs false
set_option maxRecDepth 100000
theorem AY0 {N : Nat} (h1 : 1 ≤ N) (hN : N ≤ 64) {a : Int} (h : 0 ≤ a ∧ a < (N : Int)) : In (N : Int) a := ⟨by omega, by omega, h.1, h.2⟩
theorem AVy {N : Nat} {e : Edge} (h : In (N : Int) e.1 ∧ In (N : Int) e.2.1) : InE N e := ⟨⟨h.1.2.2.1, h.1.2.2.2⟩, ⟨h.2.2.2.1, h.2.2.2.2⟩⟩
theorem AWm {N : Nat} (h1 : 1 ≤ N) (hN : N ≤ 64) {l : List Edge} {out : List Int} (hc : Rr (N : Int) l out) : cnt out N = cc N l := by
 unfold cnt cc
 rw [List.countP_eq_length_filter]
 congr 1
 refine List.filter_congr fun k hk => ?_
 have hk : k < N := by simpa using hk
 have ik := AY0 h1 hN (a := (k : Int)) ⟨by omega, by omega⟩
 have hg : out.getD k 0 = cl out (k : Int) := by unfold cl; rw [Int.toNat_natCast]
 rw [hg, Bool.eq_iff_iff, decide_eq_true_iff, Gr]
 constructor
 ·intro h j hj hcn
  have := hc.least (k : Int) (j : Int) ik (AY0 h1 hN ⟨by omega, by omega⟩) hcn.symm
  omega
 ·intro h
  have a1 := hc.isin _ ik
  have a2 := hc.con _ ik
  have a3 := hc.least (k : Int) (k : Int) ik ik (.refl _)
  obtain ⟨m, hm⟩ := Int.eq_ofNat_of_zero_le a1.2.2.1
  rw [hm] at a2 a3 ⊢
  by_cases hlt : m < k
  ·exact absurd a2.symm (h m hlt)
  ·omega
theorem FC.count {N : Nat} (h1 : 1 ≤ N) (hN : N ≤ 64) {rings : List (List Int)} {l : List Edge} (h : FC (N : Int) rings l) (hs : l.length < 1073741824) (ha : ∀ e ∈ l, In (N : Int) e.1 ∧ In (N : Int) e.2.1) : rings.length = cc N l := by
 obtain ⟨o, _, c⟩ := Dd (N : Int) l ⟨by omega, by omega⟩ hs ha
 rw [R2 h c, AWm h1 hN c]
theorem FC.congr {n : Int} {rings : List (List Int)} {l l' : List Edge} (h : FC n rings l) (hm : ∀ e ∈ l, e ∈ l') (hc : ∀ e ∈ l', Con l e.1 e.2.1) : FC n rings l' :=
 ⟨h.fr, fun a b ia ib => (h.sam a b ia ib).trans ⟨fun c => c.sub hm, fun c => c.cut hc⟩, fun A hA u v ho hu => by
  obtain ⟨e, he, q⟩ := h.arcs A hA u v ho hu
  exact ⟨e, hm e he, q⟩⟩
theorem AG1 {N : Nat} (h1 : 1 ≤ N) (hN : N ≤ 64) {ts : List Tie} (hs : ts.length ≤ 400) (ho : oks N ts) : FF (((N : Int), (ts, ())), ()) = some (true, ()) ↔ Fo N (trs ts ts.length) := by
 have hlen := ACF ts ts.length
 obtain ⟨o, _, c⟩ := Dd (N : Int) (trs ts ts.length) ⟨by omega, by omega⟩ (by omega) (AKb hN ho)
 rw [AG2 h1 hN hs ho c, AWm h1 hN c]
 unfold Fo
 constructor
 ·intro h
  have : decide ((cc N (trs ts ts.length) : Int) = (N : Int) - (trs ts ts.length).length) = true := by injection h with h; injection h
  have := of_decide_eq_true this
  omega
 ·intro h
  rw [decide_eq_true (by omega)]
end Go.Pev.Pl
end
section
namespace Go.Pev.Pl
open Tok
set_option linter.unusedSimpArgs false
set_option maxRecDepth 100000
end Go.Pev.Pl
end
section
namespace Go.Pev.Pl.SE
open Go.Sort
def ok (_ : Int × Int × Unit) : Prop := True
def okz : Int × Int × Unit := (0, 0, ())
theorem W6 : ok okz := trivial
def lt (x y : Int × Int × Unit) : Bool := decide (x.1 < y.1 ∨ (x.1 = y.1 ∧ x.2.1 < y.2.1))
theorem swo : SWO lt := ⟨fun x => by simp [lt], fun x y z h1 h2 => by simp only [lt, decide_eq_true_eq] at *; omega, fun x y z h1 h2 => by simp only [lt, decide_eq_false_iff_not] at *; omega⟩
end Go.Pev.Pl.SE
end
section
namespace Go.Pev.Pl.ST
open Go.Sort
def ok (_ : Int × Int × Int × Bool × Unit) : Prop := True
def okz : Int × Int × Int × Bool × Unit := (0, 0, 0, false, ())
theorem W6 : ok okz := trivial
def lt (x y : Int × Int × Int × Bool × Unit) : Bool := decide (x.1 < y.1 ∨ (x.1 = y.1 ∧ x.2.1 < y.2.1))
theorem swo : SWO lt := ⟨fun x => by simp [lt], fun x y z h1 h2 => by simp only [lt, decide_eq_true_eq] at *; omega, fun x y z h1 h2 => by simp only [lt, decide_eq_false_iff_not] at *; omega⟩
end Go.Pev.Pl.ST
end
section
namespace Go.Pev.Pl
open Tok
set_option linter.unusedSimpArgs false
set_option maxRecDepth 100000
section
variable {α β : Type} [DecidableEq α]
end
end Go.Pev.Pl
end
section
namespace Go.Pev.Pl
open Tok
set_option linter.unusedSimpArgs false
set_option maxRecDepth 100000
theorem AXP : ∀ (xs b : List Edge), sel xs (gfl b xs) = Je b xs := by
 intro xs
 induction xs with
 | nil => intro b; rfl
 | cons x xs ih =>
  intro b
  have := ih (b ++ [x])
  unfold sel at *
  rw [gfl, Je, List.zip_cons_cons, List.filter_cons]
  by_cases h : IW b x.1 x.2.1 = true
  ·simp [h, this]
  ·simp [h, this]
theorem AYu {N : Nat} {b xs : List Edge} (h : Fo N b) (hx : ∀ e ∈ xs, InE N e) : Fo N (b ++ Je b xs) := by
 have h1 := Lc xs b hx
 have h2 : cc N (b ++ xs) = cc N (b ++ Je b xs) := Yl fun a c => Yg xs b
 unfold Fo at *
 rw [List.length_append]
 omega
theorem Rv {N : Nat} (hN : N ≤ 64) : 0 ≤ HM N := by
 have : ((List.range 65).all fun k => decide (0 ≤ HM k)) = true := by kernel_rfl
 exact of_decide_eq_true (List.all_eq_true.1 this N (by simp; omega))
noncomputable def grown (N : Nat) (ts : List Tie) (l : List Edge) : List Tie := Tc ts (IX N ts l) (gfl (trs ts ts.length) (IX N ts l)) (IX N ts l).length
theorem ASr (N : Nat) (ts : List Tie) (l : List Edge) : (grown N ts l).length = ts.length + (IX N ts l).length := AWv ..
theorem ASp (N : Nat) (ts : List Tie) (l : List Edge) : (trs (grown N ts l) (grown N ts l).length).Perm (trs ts ts.length ++ Je (trs ts ts.length) (IX N ts l)) := by
 have := AWt ts (xs := IX N ts l) (bs := gfl (trs ts ts.length) (IX N ts l)) (AYV _ _)
 rw [AXP] at this
 exact this
theorem ASq {N : Nat} (hN : N ≤ 64) {ts : List Tie} (ho : oks N ts) (l : List Edge) : oks N (grown N ts l) :=
 AWu ho (Rv hN) _ (AOO N ts l) (fun e he => by
  obtain ⟨⟨a, b, c, _⟩, _⟩ := (QN N ts l e).1 he
  exact ⟨a, b, c⟩) (fun e he => ((QN N ts l e).1 he).2)
theorem ATD {N : Nat} (hN : N ≤ 64) (ts : List Tie) (l : List Edge) : ∀ e ∈ IX N ts l, InE N e := fun e he => AVy (AWl hN ts l e he)
theorem AWD {N : Nat} (hN : N ≤ 64) {ts : List Tie} (h : Fo N (trs ts ts.length)) (l : List Edge) : Fo N (trs (grown N ts l) (grown N ts l).length) :=
 (AYu h (ATD hN ts l)).perm (ASp N ts l).symm
structure RG2 (N : Nat) (ts : List Tie) : Prop where
 h1 : 1 ≤ N
 hN : N ≤ 64
 ht : ts.length ≤ 400
 oks : oks N ts
 fo : Fo N (trs ts ts.length)
theorem RG2.r21 {N : Nat} {ts : List Tie} (h : RG2 N ts) : FF (((N : Int), (ts, ())), ()) = some (true, ()) := (AG1 h.h1 h.hN h.ht h.oks).2 h.fo
theorem RG2.lr {N : Nat} {ts : List Tie} (h : RG2 N ts) : Fl (((N : Int), (ts, ())), ()) = some (true, ()) := by
 obtain ⟨b, h1, h2, _⟩ := Yv (N : Int) ts (by have := h.ht; omega)
 rw [h.r21] at h1
 cases h1
 exact h2
theorem ARB (n : Int) (ts : List Tie) (hl : ts.length < 4611686018427387904) : (FF ((n, (ts, ())), ()) = some (false, ()) ∧ Fl ((n, (ts, ())), ()) = some (false, ())) ∨ ∃ N : Nat, n = (N : Int) ∧ RG2 N ts := by
 obtain ⟨b, h1, h2, h3⟩ := Yv n ts hl
 cases b
 ·exact .inl ⟨h1, h2⟩
 ·obtain ⟨N, rfl, q1, q2, q3, q4⟩ := h3 rfl
  exact .inr ⟨N, rfl, q1, q2, q3, q4, (AG1 q1 q2 q3 q4).1 h1⟩
theorem RG2.inE {N : Nat} {ts : List Tie} (h : RG2 N ts) : ∀ e ∈ ts.map ed, In (N : Int) e.1 ∧ In (N : Int) e.2.1 := AZf h.hN h.oks
theorem RG2.grown {N : Nat} {ts : List Tie} (h : RG2 N ts) {l : List Edge} (hf : ts.length + (IX N ts l).length ≤ 400) : RG2 N (grown N ts l) :=
 ⟨h.h1, h.hN, by rw [ASr]; exact hf, ASq h.hN h.oks l, AWD h.hN h.fo l⟩
end Go.Pev.Pl
end
section
namespace Go.Pev.Pl
open Tok
set_option linter.unusedSimpArgs false
set_option maxRecDepth 100000
end Go.Pev.Pl
end
end
section
namespace Go.Pev.Pl
open Tok
set_option linter.unusedSimpArgs false
set_option maxRecDepth 100000
theorem ATr (ts : List Tie) (t : Tie) (k : Int) : trk (ts ++ [t]) k = trk ts k ++ if t.2.2.2.1 = true ∧ k ≤ t.2.2.1 then [ed t] else [] := by
 rw [C0]
 congr 1
 unfold trk
 rw [List.filter_cons]
 by_cases h : t.2.2.2.1 = true ∧ k ≤ t.2.2.1
 ·rw [if_pos h, h.1, decide_eq_true h.2]; rfl
 ·rw [if_neg h, if_neg]
  ·rfl
  ·rw [Bool.and_eq_true, decide_eq_true_eq]; exact h
theorem AGP (k : Int) : ∀ (ts a : List Tie) (acc : List Edge), acc = trk a k → ts.foldl (fun acc t => if t.2.2.2.1 = true ∧ k ≤ t.2.2.1 then acc ++ [ed t] else acc) acc = trk (a ++ ts) k := by
 intro ts
 induction ts with
 | nil => intro a acc h; simpa using h
 | cons t ts ih =>
  intro a acc h
  rw [List.foldl_cons, ih (a ++ [t])]
  ·simp
  ·rw [ATr, ← h]
   split <;> simp
theorem AW7 (ts : List Tie) (k : Int) : (trk ts k).length ≤ ts.length := by
 unfold trk
 rw [List.length_map]
 exact List.length_filter_le _ _
theorem AO3 (ts : List Tie) (k : Int) : ∀ e ∈ trk ts k, e ∈ ts.map ed := by
 intro e he
 obtain ⟨t, h1, _, _, rfl⟩ := Cd.1 he
 exact List.mem_map.2 ⟨t, h1, rfl⟩
theorem AId (n : Int) (ts : List Tie) (hs : ts.length ≤ 400) (k : Int) : Ma ((n, (ts, ())), k, ()) = some (trk ts k, ()) := by
 rw [Qa, KB]
 have e := D2 (step := CO) (fun i (a : List Edge) => (k, a, ts, AM ts, (i : Int), ())) ts (fun t a => .inl (if t.2.2.2.1 = true ∧ k ≤ t.2.2.1 then a ++ [ed t] else a)) (fun a => .inl (a, ())) (fun i a => a.length ≤ i) (by omega)
  (fun i x a hi hx ha => by
   refine ⟨fun m' h' => ?_, fun r h' => (by cases h')⟩
   cases h'
   constructor
   ·rw [CO, AO, AN, decide_eq_true hi]
    simp only [An hx, AO]
    rw [AL (by omega), Aq, BY (by simp only [List.length_cons, List.length_nil]; omega)]
    cases h4 : x.2.2.2.1
    ·simp
    ·by_cases h5 : k ≤ x.2.2.1
     ·simp [h5, ed, A8]
     ·simp [h5]
   ·split
    ·rw [List.length_append]; simp; omega
    ·omega)
  (fun a _ => by rw [CO, AO, AN, decide_eq_false (by omega)]) [] (Nat.le_refl _)
 have e' : AY CO many (k, [], ts, AM ts, (0 : Int), ()) = _ := e
 simp only [e']
 rw [Bd (fun (t : Tie) (a : List Edge) => if t.2.2.2.1 = true ∧ k ≤ t.2.2.1 then a ++ [ed t] else a), AGP k ts [] [] rfl]
 rfl
theorem AQe (n : Int) (ts : List Tie) (hs : ts.length ≤ 400) (k : Int) : ACN ((n, (ts, ())), k, ()) = some (trk ts k, ()) := by
 rw [AKd, PN]
 have e := D2 (step := Gb) (fun i (a : List Edge) => (k, n, ts, a, (i : Int), ())) ts (fun t a => .inl (if t.2.2.2.1 = true ∧ k ≤ t.2.2.1 then a ++ [ed t] else a)) (fun a => .inl (a, ())) (fun i a => a.length ≤ i) (by omega)
  (fun i x a hi hx ha => by
   refine ⟨fun m' h' => ?_, fun r h' => (by cases h')⟩
   cases h'
   constructor
   ·rw [Gb, AO, AN, decide_eq_true hi]
    simp only [An hx, AO]
    rw [AL (by omega), Aq, BY (by simp only [List.length_cons, List.length_nil]; omega)]
    cases h4 : x.2.2.2.1
    ·simp
    ·by_cases h5 : k ≤ x.2.2.1
     ·simp [h5, ed, A8]
     ·simp [h5]
   ·split
    ·rw [List.length_append]; simp; omega
    ·omega)
  (fun a _ => by rw [Gb, AO, AN, decide_eq_false (by omega)]) [] (Nat.le_refl _)
 have e' : AY Gb many (k, n, ts, [], (0 : Int), ()) = _ := e
 simp only [e']
 rw [Bd (fun (t : Tie) (a : List Edge) => if t.2.2.2.1 = true ∧ k ≤ t.2.2.1 then a ++ [ed t] else a), AGP k ts [] [] rfl]
 rfl
theorem ATq {N : Nat} {ts : List Tie} (h : oks N ts) : trs ts ts.length = trk ts 0 := by
 rw [ACG]
 unfold trk
 congr 1
 refine List.filter_congr fun t ht => ?_
 have := ((ADw N ts).1 h).1 t ht
 rw [decide_eq_true this.2.2.2.1, Bool.and_true]
theorem RG2.fo0 {N : Nat} {ts : List Tie} (h : RG2 N ts) : Fo N (trk ts 0) := by rw [← ATq h.oks]; exact h.fo
theorem RG2.inK {N : Nat} {ts : List Tie} (h : RG2 N ts) (k : Int) : ∀ e ∈ trk ts k, In (N : Int) e.1 ∧ In (N : Int) e.2.1 := fun e he => h.inE e (AO3 ts k e he)
theorem RG2.AX7 {N : Nat} {ts : List Tie} (h : RG2 N ts) (k : Int) : (trk ts k).length ≤ 400 := Nat.le_trans (AW7 ts k) h.ht
theorem RG2.AWN {N : Nat} {ts : List Tie} (h : RG2 N ts) (k : Int) : ∃ zs, F7 (((N : Int), (ts, ())), k, ()) = some (((N : Int), (zs, ())), 0, ()) ∧ FC (N : Int) zs (trk ts k) := by
 have hl := h.AX7 k
 have h1 := h.h1
 have hN := h.hN
 rcases (AP4 (N : Int) (trk ts k) ⟨by omega, by omega⟩ (by omega)).symm with ⟨hno, _⟩ | ⟨_, zs, e, hF⟩
 ·exact absurd (h.inK k) hno
 refine ⟨zs, ?_, hF⟩
 rw [Mb, IH]
 simp only [h.lr, Bool.not_true, AId (N : Int) ts h.ht k, e]
theorem RG2.AZ0 {N : Nat} {ts : List Tie} (h : RG2 N ts) (k : Int) : ∃ out, GQ ((N : Int), trk ts k, ()) = some (out, ()) ∧ Rr (N : Int) (trk ts k) out := by
 have := h.AX7 k
 have h1 := h.h1
 have hN := h.hN
 exact Dd (N : Int) (trk ts k) ⟨by omega, by omega⟩ (by omega) (h.inK k)
end Go.Pev.Pl
end
section
namespace Go.Pev.Pl
open Tok
set_option linter.unusedSimpArgs false
set_option maxRecDepth 100000
def AZy (ts : List Tie) : Prop := ∀ e ∈ ts.map ed, Con (trk ts 0) e.1 e.2.1
def AZ5 (ts : List Tie) : Prop := ∀ t ∈ ts, t.2.2.2.1 = false → Con (trk ts t.2.2.1) t.1 t.2.1
def AZz (N : Nat) (ts : List Tie) : Prop := ∀ k : Nat, (k : Int) ≤ HM N → ∀ v : Nat, v < N → csz N (trk ts k) v ≤ max 1 (N / 2 ^ k)
theorem RG2.tie {N : Nat} {ts : List Tie} (h : RG2 N ts) {t : Tie} (ht : t ∈ ts) : In (N : Int) t.1 ∧ In (N : Int) t.2.1 ∧ t.1 < t.2.1 ∧ 0 ≤ t.2.2.1 ∧ t.2.2.1 ≤ HM N := by
 have h1 := ((ADw N ts).1 h.oks).1 t ht
 have h2 := h.inE (ed t) (List.mem_map.2 ⟨t, ht, rfl⟩)
 exact ⟨h2.1, h2.2, h1.2.1, h1.2.2.2.1, h1.2.2.2.2⟩
end Go.Pev.Pl
end
section
namespace Go.Pev.Pl
open Tok
set_option linter.unusedSimpArgs false
set_option maxRecDepth 100000
def AKi (N : Nat) : Nat := (HM N).toNat
theorem AXC {N : Nat} (hN : N ≤ 64) : HM N = (AKi N : Int) := by
 have := Rv hN
 unfold AKi
 omega
theorem Snd.parts {N : Nat} {ts : List Tie} (h : RG2 N ts) (hs : Snd N (AKi N : Int) ts) : AZy ts ∧ AZ5 ts ∧ AZz N ts := by
 refine ⟨fun e he => (hs.span _ _).1 (.edge e he), hs.lie, fun k hk v hv => hs.halv k (by rw [← AXC h.hN]; exact hk) v hv⟩
end Go.Pev.Pl
end
section
namespace Go.Pev.Pl
open Tok
set_option linter.unusedSimpArgs false
set_option maxRecDepth 100000
theorem AXB {N : Nat} (hN : N ≤ 64) : N / 2 ^ AKi N ≤ 1 := by
 have : ((List.range 65).all fun k => decide (k / 2 ^ AKi k ≤ 1)) = true := by kernel_rfl
 exact of_decide_eq_true (List.all_eq_true.1 this N (by simp; omega))
theorem RG2.below {N : Nat} {ts : List Tie} (h : RG2 N ts) (hs : Snd N (AKi N : Int) ts) {t : Tie} (ht : t ∈ ts) : t.2.2.1 < (AKi N : Int) :=
 hs.below (AXB h.hN) ht (by have := (h.tie ht).2.2.1; omega)
end Go.Pev.Pl
end
section
namespace Go.Pev.Pl
open Tok
set_option linter.unusedSimpArgs false
set_option maxRecDepth 100000
end Go.Pev.Pl
end
section
namespace Go.Pev.Pl
open Tok
set_option linter.unusedSimpArgs false
set_option maxRecDepth 100000
end Go.Pev.Pl
end
section
namespace Go.Pev.Pl
open Tok
set_option linter.unusedSimpArgs false
set_option maxRecDepth 100000
end Go.Pev.Pl
end
section
namespace Go.Pev.Pl
open Tok
set_option linter.unusedSimpArgs false
set_option maxRecDepth 100000
def bef (x y : Tie) : Prop := y.2.2.1 < x.2.2.1 ∨ (x.2.2.1 = y.2.2.1 ∧ ahead x y)
theorem bef.trans {x y z : Tie} (h : bef x y) (h' : bef y z) : bef x z := by
 unfold bef ahead at *
 omega
def Mrg (u v w : List Tie) : Prop := w.Perm (u ++ v) ∧ w.Pairwise bef
end Go.Pev.Pl
end
section
namespace Go.Pev.Pl
open Tok
set_option linter.unusedSimpArgs false
set_option maxRecDepth 100000
noncomputable section
end
theorem Mrg.append {u1 u2 v1 v2 w1 w2 : List Tie} (h1 : Mrg u1 v1 w1) (h2 : Mrg u2 v2 w2) (hu : (u1 ++ u2).Pairwise bef) (hv : (v1 ++ v2).Pairwise bef) (c1 : ∀ x ∈ u1, ∀ y ∈ v2, bef x y) (c2 : ∀ y ∈ v1, ∀ x ∈ u2, bef y x) : Mrg (u1 ++ u2) (v1 ++ v2) (w1 ++ w2) := by
 rw [List.pairwise_append] at hu hv
 refine ⟨?_, ?_⟩
 ·refine (h1.1.append h2.1).trans ?_
  rw [List.append_assoc, List.append_assoc]
  refine List.Perm.append_left _ ?_
  rw [← List.append_assoc, ← List.append_assoc]
  exact List.Perm.append_right _ List.perm_append_comm
 ·rw [List.pairwise_append]
  refine ⟨h1.2, h2.2, fun x hx y hy => ?_⟩
  have hx := List.mem_append.1 (h1.1.mem_iff.1 hx)
  have hy := List.mem_append.1 (h2.1.mem_iff.1 hy)
  rcases hx with hx | hx <;> rcases hy with hy | hy
  ·exact hu.2.2 x hx y hy
  ·exact c1 x hx y hy
  ·exact c2 x hx y hy
  ·exact hv.2.2 x hx y hy
end Go.Pev.Pl
end
section
namespace Go.Pev.Pl
open Tok
set_option linter.unusedSimpArgs false
set_option maxRecDepth 100000
end Go.Pev.Pl
end
section
namespace Go.Pev.Pl
open Tok
set_option linter.unusedSimpArgs false
set_option maxRecDepth 100000
end Go.Pev.Pl
end
section
namespace Go.Pev.Pl
open Tok
set_option linter.unusedSimpArgs false
set_option maxRecDepth 100000
def lvl (ts : List Tie) (k : Int) : List Tie := ts.filter fun t => decide (t.2.2.1 = k)
end Go.Pev.Pl
end
section
namespace Go.Pev.Pl
open Tok
set_option linter.unusedSimpArgs false
set_option maxRecDepth 100000
section
variable (n : Int) (ts : List Tie)
end
end Go.Pev.Pl
end
section
namespace Go.Pev.Pl
open Tok
set_option linter.unusedSimpArgs false
set_option maxRecDepth 100000
def mid (f : Int → Int) (xs : List Int) (i : Nat) : List Int := (xs.take i).map f ++ xs.drop i
def lb (at0 : List Int) (v : Int) : Int := at0.getD v.toNat 0
end Go.Pev.Pl
end
section
namespace Go.Pev.Pl
open Tok
set_option linter.unusedSimpArgs false
set_option maxRecDepth 100000
end Go.Pev.Pl
end
section
namespace Go.Pev.Pl
section
variable {α β : Type} [DecidableEq α]
end
end Go.Pev.Pl
end
section
namespace Go.Pev.Pl
open Tok
set_option linter.unusedSimpArgs false
set_option maxRecDepth 100000
end Go.Pev.Pl
end
section
namespace Go.Pev.Pl
open Tok
set_option linter.unusedSimpArgs false
set_option maxRecDepth 100000
end Go.Pev.Pl
end
section
namespace Go.Pev.Pl.SI
open Go.Sort
theorem Bq (x y : Int) : Db (x, y, ()) = some (ltInt x y, ()) := by
 simp only [AIs, Tu, Ts, QM, Am, ES, ltInt]
 by_cases h : x < y <;> simp [h]
theorem AYI (a b i : Nat) : ∀ (j : Nat) (d : Array Int) (n : Nat), j < d.size → d.size < 4611686018427387904 → j < n →
  AQ LS n (d.toList, (a : Int), (b : Int), (i : Int), (j : Int), ()) = some (.inl ((insInner ltInt a j d).toList, (a : Int), (b : Int), (i : Int), ())) := by
 intro j
 induction j with
 | zero =>
  intro d n hj hs hn
  obtain ⟨n, rfl⟩ : ∃ k, n = k + 1 := ⟨n - 1, by omega⟩
  have h0 : ilt (a : Int) ((0 : Nat) : Int) = false := by rw [AN]; simp
  simp only [AQ, LS, h0, insInner]
 | succ j ih =>
  intro d n hj hs hn
  obtain ⟨n, rfl⟩ : ∃ k, n = k + 1 := ⟨n - 1, by omega⟩
  have e1 : IntKind.wrap .i64 (((j + 1 : Nat) : Int) - 1) = (j : Int) := by rw [Af (by omega)]; omega
  have hj' : j < d.size := by omega
  simp only [AQ, LS, AN, e1, Ac hj, Ac hj', Al hj, Al hj', Bq, insInner, gt_iff_lt]
  by_cases h1 : a < j + 1
  ·cases h2 : ltInt d[j + 1]! d[j]!
   ·simp only [h1, decide_true, h2, Bool.and_false, Bool.false_eq_true, if_false]
   ·simp only [h1, decide_true, h2, Bool.and_true, if_true, Ce]
    rw [Ac (by simpa using hj')]
    simp only [Ck]
    exact ih (swp d (j + 1) j) n (by rw [size_swp]; omega) (by rw [size_swp]; omega) (by omega)
  ·simp only [h1, decide_false, Bool.false_and, Bool.false_eq_true, if_false]
theorem CG (lt : Int → Int → Bool) (a j : Nat) (d : Array Int) : (insInner lt a j d).size = d.size := by
 induction j generalizing d with
 | zero => rfl
 | succ j ih =>
  rw [insInner]
  split
  ·rw [ih, size_swp]
  ·rfl
theorem AVt (a b : Nat) : ∀ (k i : Nat) (d : Array Int) (n : Nat), b - i = k → b ≤ d.size → d.size < 4611686018427387904 → d.size < many → k < n →
  AQ LU n (d.toList, (a : Int), (b : Int), (i : Int), ()) = some (.inl ((insOuter ltInt a b i d).toList, ())) := by
 intro k
 induction k with
 | zero =>
  intro i d n hk hb hs hm hn
  obtain ⟨n, rfl⟩ : ∃ k, n = k + 1 := ⟨n - 1, by omega⟩
  have h0 : ¬ i < b := by omega
  rw [insOuter]
  simp only [AQ, LU, AN, h0, decide_false, if_false]
 | succ k ih =>
  intro i d n hk hb hs hm hn
  obtain ⟨n, rfl⟩ : ∃ k, n = k + 1 := ⟨n - 1, by omega⟩
  have h0 : i < b := by omega
  have e1 : IntKind.wrap .i64 ((i : Int) + 1) = ((i + 1 : Nat) : Int) := by rw [Af (by omega)]; omega
  rw [insOuter]
  simp only [AQ, LU, AN, h0, decide_true, if_true, Aj]
  rw [AYI a b i i d many (by omega) hs (by omega)]
  simp only [e1]
  exact ih (i + 1) _ n (by omega) (by rw [CG]; omega) (by rw [CG]; omega) (by rw [CG]; omega) (by omega)
theorem AVs (d : Array Int) (a b : Nat) (hab : a ≤ b) (hb : b ≤ d.size) (hs : d.size < 4294967296) : ASY (d.toList, (a : Int), (b : Int), ()) = some ((insertionSort ltInt d a b).toList, ()) := by
 have hm : d.size < many := by simp only [many]; omega
 have e1 : IntKind.wrap .i64 ((a : Int) + 1) = ((a + 1 : Nat) : Int) := by rw [Af (by omega)]; omega
 rw [APt, AEk]
 simp only [e1, Aj]
 rw [AVt a b (b - (a + 1)) (a + 1) d many rfl hb (by omega) hm (by omega)]
 rfl
end Go.Pev.Pl.SI
end
section
namespace Go.Pev.Pl.SI
open Go.Sort
theorem AK4 (hi first : Nat) : ∀ (k root : Nat) (d : Array Int) (n : Nat), hi - root = k → root ≤ hi → first + hi ≤ d.size → d.size < 4294967296 → (hi = 0 ∨ root < hi) → k < n →
  AQ H7 n (d.toList, (hi : Int), (first : Int), (root : Int), ()) = some (.inl ((siftDown ltInt hi first root d).toList, ())) ∨
  AQ H7 n (d.toList, (hi : Int), (first : Int), (root : Int), ()) = some (.inr (.inl ((siftDown ltInt hi first root d).toList, ()))) := by
 intro k
 induction k using Nat.strongRecOn with
 | _ k ih =>
 intro root d n hk hr hf hs hz hn
 obtain ⟨n, rfl⟩ : ∃ k, n = k + 1 := ⟨n - 1, by omega⟩
 rw [siftDown]
 simp (disch := omega) only [AQ, H7, AAX, AL, wrap_add, Br, AN]
 by_cases h1 : hi ≤ 2 * root + 1
 ·simp only [h1, decide_true, ge_iff_le, dite_true, true_or]
 ·have i0 : first + root < d.size := by omega
  have i1 : first + (2 * root + 1) < d.size := by omega
  simp only [h1, decide_false, ge_iff_le, if_false, dite_false]
  simp (disch := omega) only [Ac, Al, Bq]
  by_cases h2 : 2 * root + 1 + 1 < hi
  ·have i2 : first + (2 * root + 2) < d.size := by omega
   have i3 : 2 * root + 1 + 1 = 2 * root + 2 := by omega
   have i4 : first + (2 * root + 1) + 1 = first + (2 * root + 2) := by omega
   have h3 : 2 * root + 2 < hi := by omega
   simp only [i3, i4, h3, decide_true]
   simp (disch := omega) only [Ac, Al, Bq, Ce]
   cases h4 : ltInt d[first + (2 * root + 1)]! d[first + (2 * root + 2)]!
   ·simp only [Bool.and_false, Bool.false_eq_true, if_false]
    cases h5 : ltInt d[first + root]! d[first + (2 * root + 1)]!
    ·simp
    ·simp only [Bool.not_true, Bool.false_eq_true, if_false]
     rw [Ac (by simpa using i1)]
     simp only [Ck]
     exact ih (hi - (2 * root + 1)) (by omega) (2 * root + 1) _ n rfl (by omega) (by rw [size_swp]; omega) (by rw [size_swp]; omega) (by omega) (by omega)
   ·simp only [Bool.and_true, if_true]
    cases h5 : ltInt d[first + root]! d[first + (2 * root + 2)]!
    ·simp
    ·simp only [Bool.not_true, Bool.false_eq_true, if_false, dite_true]
     rw [Ac (by simpa using i2)]
     simp only [Ck]
     exact ih (hi - (2 * root + 2)) (by omega) (2 * root + 2) _ n rfl (by omega) (by rw [size_swp]; omega) (by rw [size_swp]; omega) (by omega) (by omega)
  ·simp only [h2, decide_false, Bool.false_and, Bool.false_eq_true, if_false, Ce]
   cases h5 : ltInt d[first + root]! d[first + (2 * root + 1)]!
   ·simp
   ·simp only [Bool.not_true, Bool.false_eq_true, if_false]
    rw [Ac (by simpa using i1)]
    simp only [Ck]
    exact ih (hi - (2 * root + 1)) (by omega) (2 * root + 1) _ n rfl (by omega) (by rw [size_swp]; omega) (by rw [size_swp]; omega) (by omega) (by omega)
theorem AAv (d : Array Int) (root hi first : Nat) (hf : first + hi ≤ d.size) (hs : d.size < 4294967296) (hz : hi = 0 ∧ root = 0 ∨ root < hi) : AAw (d.toList, (root : Int), (hi : Int), (first : Int), ()) = some ((siftDown ltInt hi first root d).toList, ()) := by
 have hm : d.size < many := by simp only [many]; omega
 rw [AGo, Tj]
 simp only [Aj]
 rcases AK4 hi first (hi - root) root d many rfl (by omega) hf hs (by omega) (by omega) with h | h <;> rw [h]
theorem BS (lt : Int → Int → Bool) (hi first : Nat) : ∀ (k root : Nat) (d : Array Int), hi - root = k → (siftDown lt hi first root d).size = d.size := by
 intro k
 induction k using Nat.strongRecOn with
 | _ k ih =>
 intro root d hk
 rw [siftDown]
 split
 ·rfl
 ·split
  ·split
   ·rfl
   ·split
    ·rw [ih (hi - (2 * root + 2)) (by omega) _ _ rfl, size_swp]
    ·rfl
  ·split
   ·rfl
   ·rw [ih (hi - (2 * root + 1)) (by omega) _ _ rfl, size_swp]
theorem AJH (hi first : Nat) : ∀ (k : Nat) (d : Array Int) (n : Nat), (hi = 0 ∧ k ≤ 1 ∨ k ≤ hi) → first + hi ≤ d.size → d.size < 4294967296 → k < n →
  AQ IL n (d.toList, (first : Int), (0 : Int), (hi : Int), (k : Int) - 1, ()) = some (.inl ((heapBuild ltInt hi first k d).toList, (first : Int), (0 : Int), (hi : Int), ())) := by
 intro k
 induction k with
 | zero =>
  intro d n hk hf hs hn
  obtain ⟨n, rfl⟩ : ∃ k, n = k + 1 := ⟨n - 1, by omega⟩
  rw [AQ, IL, Aq, decide_eq_false (by omega)]
  rfl
 | succ k ih =>
  intro d n hk hf hs hn
  obtain ⟨n, rfl⟩ : ∃ k, n = k + 1 := ⟨n - 1, by omega⟩
  have e0 : ((k + 1 : Nat) : Int) - 1 = (k : Int) := by omega
  rw [AQ, IL, e0, Aq, decide_eq_true (by omega)]
  simp only [AAv d k hi first hf hs (by omega)]
  rw [Af (by omega)]
  exact ih _ n (by omega) (by rw [BS _ _ _ _ _ _ rfl]; omega) (by rw [BS _ _ _ _ _ _ rfl]; omega) (by omega)
theorem C2 (lt : Int → Int → Bool) (hi first : Nat) : ∀ (k : Nat) (d : Array Int), (heapBuild lt hi first k d).size = d.size := by
 intro k
 induction k with
 | zero => intro d; rfl
 | succ k ih => intro d; rw [heapBuild, ih, BS _ _ _ _ _ _ rfl]
theorem ASl (first : Nat) : ∀ (k : Nat) (d : Array Int) (n : Nat), first + k ≤ d.size → d.size < 4294967296 → k < n →
  AQ IK n (d.toList, (first : Int), (0 : Int), (k : Int) - 1, ()) = some (.inl ((heapPop ltInt first k d).toList, ())) := by
 intro k
 induction k with
 | zero =>
  intro d n hf hs hn
  obtain ⟨n, rfl⟩ : ∃ k, n = k + 1 := ⟨n - 1, by omega⟩
  rw [AQ, IK, Aq, decide_eq_false (by omega)]
  rfl
 | succ k ih =>
  intro d n hf hs hn
  obtain ⟨n, rfl⟩ : ∃ k, n = k + 1 := ⟨n - 1, by omega⟩
  have e0 : ((k + 1 : Nat) : Int) - 1 = (k : Int) := by omega
  have i0 : first < d.size := by omega
  have i1 : first + k < d.size := by omega
  rw [AQ, IK, e0, Aq, decide_eq_true (by omega)]
  simp (disch := omega) only [wrap_add, Ac, Al, Ce]
  rw [Ac (by simpa using i1)]
  simp only [Ck]
  have := AAv (swp d first (first + k)) 0 k first (by rw [size_swp]; omega) (by rw [size_swp]; omega) (by omega)
  simp only [Int.natCast_zero] at this
  simp only [this]
  rw [Af (by omega)]
  exact ih _ n (by rw [BS _ _ _ _ _ _ rfl, size_swp]; omega) (by rw [BS _ _ _ _ _ _ rfl, size_swp]; omega) (by omega)
theorem ASk (d : Array Int) (a b : Nat) (hab : a < b) (hb : b ≤ d.size) (hs : d.size < 4294967296) : ABY (d.toList, (a : Int), (b : Int), ()) = some ((heapSort ltInt d a b).toList, ()) := by
 have hm : 4294967296 < many := by simp only [many]; omega
 rw [AJG, Tx]
 simp (disch := omega) only [BV, Ag, AYz, Aj]
 have e : (((b - a - 1) / 2 : Nat) : Int) = (((b - a - 1) / 2 + 1 : Nat) : Int) - 1 := by omega
 rw [e, AJH (b - a) a _ d many (by omega) (by omega) hs (by omega)]
 have e2 : (((b - a - 1 : Nat)) : Int) = ((b - a : Nat) : Int) - 1 := by omega
 simp (disch := omega) only [Ag, e2]
 rw [ASl a (b - a) _ many (by rw [C2]; omega) (by rw [C2]; omega) (by omega)]
 rfl
end Go.Pev.Pl.SI
end
section
namespace Go.Pev.Pl.SI
open Go.Sort
theorem ARF : ∀ (k i j : Nat) (d : Array Int) (n : Nat), j - i = k → (j < d.size) → d.size < 4294967296 → k < n →
  AQ NY n (d.toList, (i : Int), (j : Int), ()) = some (.inl ((reverseLoop i j d).toList, ())) := by
 intro k
 induction k using Nat.strongRecOn with
 | _ k ih =>
 intro i j d n hk hj hs hn
 obtain ⟨n, rfl⟩ : ∃ k, n = k + 1 := ⟨n - 1, by omega⟩
 rw [reverseLoop, AQ, NY]
 simp only [AN]
 by_cases h : i < j
 ·have hi : i < d.size := by omega
  simp only [h, decide_true, if_true, Ac hj, Ac hi, Al hi, Al hj, Ce]
  rw [Ac (by simpa using hj)]
  simp (disch := omega) only [Ck, AL, Ag]
  exact ih (j - 1 - (i + 1)) (by omega) (i + 1) (j - 1) _ n rfl (by rw [size_swp]; omega) (by rw [size_swp]; omega) (by omega)
 ·simp only [h, decide_false, if_false]
theorem AUU (d : Array Int) (a b : Nat) (hab : a < b) (hb : b ≤ d.size) (hs : d.size < 4294967296) : ARG (d.toList, (a : Int), (b : Int), ()) = some ((reverseRange d a b).toList, ()) := by
 have hm : 4294967296 < many := by simp only [many]; omega
 rw [APK, ADE]
 simp (disch := omega) only [Ag, Aj]
 rw [ARF (b - 1 - a) a (b - 1) d many rfl (by omega) hs (by omega)]
 rfl
theorem DU {d : Array Int} {i j : Nat} (hi : i < d.size) (hj : j < d.size) : idx (Ak d.toList (AG (i : Int)) (AS d.toList (AG (j : Int)) 0)) (j : Int) = some (d.setIfInBounds i d[j]!)[j]! ∧
  Ak (Ak d.toList (AG (i : Int)) (AS d.toList (AG (j : Int)) 0)) (AG (j : Int)) (AS d.toList (AG (i : Int)) 0) = (swp d i j).toList := by
 rw [Al hi, Al hj, Ce, Ce]
 exact ⟨Ac (by simpa using hj), rfl⟩
theorem AC6 (step : List Int × Int × Int × Int × Unit → Option ((List Int × Int × Int × Int × Unit) ⊕ (List Int × Int × Int × Int × Unit) ⊕ Unit)) (p : Int → Bool) (d : Array Int) (a j : Nat) (hs : d.size < 4294967296) (hj : j < d.size)
  (h : ∀ i : Nat, i ≤ d.size → step (d.toList, (a : Int), (i : Int), (j : Int), ()) = if i ≤ j ∧ p d[i]! then some (.inl (d.toList, (a : Int), ((i + 1 : Nat) : Int), (j : Int), ())) else some (.inr (.inl (d.toList, (a : Int), (i : Int), (j : Int), ())))) :
  ∀ (k i n : Nat), j + 1 - i = k → i ≤ d.size → k < n → AQ step n (d.toList, (a : Int), (i : Int), (j : Int), ()) = some (.inl (d.toList, (a : Int), ((scanUp p d j i : Nat) : Int), (j : Int), ())) := by
 intro k
 induction k using Nat.strongRecOn with
 | _ k ih =>
 intro i n hk hi hn
 obtain ⟨n, rfl⟩ : ∃ k, n = k + 1 := ⟨n - 1, by omega⟩
 rw [scanUp, AQ, h i hi]
 by_cases h1 : i ≤ j ∧ p d[i]! = true
 ·rw [if_pos h1, if_pos (by simpa using h1)]
  exact ih (j + 1 - (i + 1)) (by omega) (i + 1) n rfl (by omega) (by omega)
 ·rw [if_neg h1, if_neg (by simpa using h1)]
theorem PZ (step : List Int × Int × Int × Int × Unit → Option ((List Int × Int × Int × Int × Unit) ⊕ (List Int × Int × Int × Int × Unit) ⊕ Unit)) (p : Int → Bool) (d : Array Int) (a i : Nat) (hi : 1 ≤ i)
  (h : ∀ j : Nat, j < d.size → step (d.toList, (a : Int), (i : Int), (j : Int), ()) = if i ≤ j ∧ p d[j]! then some (.inl (d.toList, (a : Int), (i : Int), ((j - 1 : Nat) : Int), ())) else some (.inr (.inl (d.toList, (a : Int), (i : Int), (j : Int), ())))) :
  ∀ (j n : Nat), j < d.size → j < n → AQ step n (d.toList, (a : Int), (i : Int), (j : Int), ()) = some (.inl (d.toList, (a : Int), (i : Int), ((scanDown p d i j : Nat) : Int), ())) := by
 intro j
 induction j with
 | zero =>
  intro n hj hn
  obtain ⟨n, rfl⟩ : ∃ k, n = k + 1 := ⟨n - 1, by omega⟩
  rw [AQ, h 0 hj, if_neg (by omega)]
  rfl
 | succ j ih =>
  intro n hj hn
  obtain ⟨n, rfl⟩ : ∃ k, n = k + 1 := ⟨n - 1, by omega⟩
  rw [scanDown, AQ, h (j + 1) hj]
  by_cases h1 : i ≤ j + 1 ∧ p d[j + 1]! = true
  ·rw [if_pos h1, if_pos (by simpa using h1)]
   exact ih n (by omega) (by omega)
  ·rw [if_neg h1, if_neg (by simpa using h1)]
section
variable (d : Array Int) (a i j : Nat) (hs : d.size < 4294967296) (ha : a < d.size) (hj : j < d.size)
include hs ha hj
theorem AH4 (hi : i ≤ d.size) : J4 (d.toList, (a : Int), (i : Int), (j : Int), ()) = if i ≤ j ∧ (fun x => ltInt x d[a]!) d[i]! = true then some (.inl (d.toList, (a : Int), ((i + 1 : Nat) : Int), (j : Int), ())) else some (.inr (.inl (d.toList, (a : Int), (i : Int), (j : Int), ()))) := by
 rw [J4]
 simp only [Br]
 by_cases h : i ≤ j
 ·have hi' : i < d.size := by omega
  simp (disch := omega) only [h, decide_true, Ac, Al, Bq, AL, true_and]
  cases ltInt d[i]! d[a]! <;> simp
 ·simp only [h, decide_false, false_and, if_false]
theorem AHz (hi : i ≤ d.size) : J1 (d.toList, (a : Int), (i : Int), (j : Int), ()) = if i ≤ j ∧ (fun x => ltInt x d[a]!) d[i]! = true then some (.inl (d.toList, (a : Int), ((i + 1 : Nat) : Int), (j : Int), ())) else some (.inr (.inl (d.toList, (a : Int), (i : Int), (j : Int), ()))) := by
 rw [J1]
 simp only [Br]
 by_cases h : i ≤ j
 ·have hi' : i < d.size := by omega
  simp (disch := omega) only [h, decide_true, Ac, Al, Bq, AL, true_and]
  cases ltInt d[i]! d[a]! <;> simp
 ·simp only [h, decide_false, false_and, if_false]
theorem AH2 (hi : 1 ≤ i) : J3 (d.toList, (a : Int), (i : Int), (j : Int), ()) = if i ≤ j ∧ (fun x => !ltInt x d[a]!) d[j]! = true then some (.inl (d.toList, (a : Int), (i : Int), ((j - 1 : Nat) : Int), ())) else some (.inr (.inl (d.toList, (a : Int), (i : Int), (j : Int), ()))) := by
 rw [J3]
 simp only [Br]
 by_cases h : i ≤ j
 ·simp (disch := omega) only [h, decide_true, Ac, Al, Bq, Ag, true_and]
  cases ltInt d[j]! d[a]! <;> simp
 ·simp only [h, decide_false, false_and, if_false]
theorem AHx (hi : 1 ≤ i) : J0 (d.toList, (a : Int), (i : Int), (j : Int), ()) = if i ≤ j ∧ (fun x => !ltInt x d[a]!) d[j]! = true then some (.inl (d.toList, (a : Int), (i : Int), ((j - 1 : Nat) : Int), ())) else some (.inr (.inl (d.toList, (a : Int), (i : Int), (j : Int), ()))) := by
 rw [J0]
 simp only [Br]
 by_cases h : i ≤ j
 ·simp (disch := omega) only [h, decide_true, Ac, Al, Bq, Ag, true_and]
  cases ltInt d[j]! d[a]! <;> simp
 ·simp only [h, decide_false, false_and, if_false]
theorem Z0 (hi : i ≤ d.size) : Gn (d.toList, (a : Int), (i : Int), (j : Int), ()) = if i ≤ j ∧ (fun x => !ltInt d[a]! x) d[i]! = true then some (.inl (d.toList, (a : Int), ((i + 1 : Nat) : Int), (j : Int), ())) else some (.inr (.inl (d.toList, (a : Int), (i : Int), (j : Int), ()))) := by
 rw [Gn]
 simp only [Br]
 by_cases h : i ≤ j
 ·have hi' : i < d.size := by omega
  simp (disch := omega) only [h, decide_true, Ac, Al, Bq, AL, true_and]
  cases ltInt d[a]! d[i]! <;> simp
 ·simp only [h, decide_false, false_and, if_false]
theorem Zy (hi : 1 ≤ i) : Gm (d.toList, (a : Int), (i : Int), (j : Int), ()) = if i ≤ j ∧ (fun x => ltInt d[a]! x) d[j]! = true then some (.inl (d.toList, (a : Int), (i : Int), ((j - 1 : Nat) : Int), ())) else some (.inr (.inl (d.toList, (a : Int), (i : Int), (j : Int), ()))) := by
 rw [Gm]
 simp only [Br]
 by_cases h : i ≤ j
 ·simp (disch := omega) only [h, decide_true, Ac, Al, Bq, Ag, true_and]
  cases ltInt d[a]! d[j]! <;> simp
 ·simp only [h, decide_false, false_and, if_false]
end
theorem C3 (p : Int → Bool) (d : Array Int) (j i : Nat) (hj : j < d.size) (hi : i ≤ d.size) : scanUp p d j i ≤ d.size := by
 suffices h : ∀ (k i : Nat), j + 1 - i = k → i ≤ d.size → scanUp p d j i ≤ d.size from h _ i rfl hi
 intro k
 induction k using Nat.strongRecOn with
 | _ k ih =>
 intro i hk hi
 rw [scanUp]
 split
 ·rename_i h
  have : i ≤ j := by simp at h; exact h.1
  exact ih (j + 1 - (i + 1)) (by omega) (i + 1) rfl (by omega)
 ·exact hi
theorem AMA (a : Nat) : ∀ (k i j : Nat) (d : Array Int) (n : Nat), j + 1 - i = k → a < d.size → 1 ≤ i → i ≤ d.size → j < d.size → d.size < 4294967296 → k < n →
  AQ J2 n (d.toList, (a : Int), (i : Int), (j : Int), ()) = some (.inl ((partLoop ltInt a i j d).2.toList, (a : Int), (((partLoop ltInt a i j d).1 : Nat) : Int), ())) ∧ (partLoop ltInt a i j d).1 ≤ j ∧ (partLoop ltInt a i j d).2.size = d.size := by
 intro k
 induction k using Nat.strongRecOn with
 | _ k ih =>
 intro i j d n hk ha hi hi' hj hs hn
 have hm : 4294967296 < many := by simp only [many]; omega
 obtain ⟨n, rfl⟩ : ∃ k, n = k + 1 := ⟨n - 1, by omega⟩
 rw [partLoop_eq, AQ, J2]
 have u1 := scanUp_ge (fun x => ltInt x d[a]!) d j i
 have u2 := C3 (fun x => ltInt x d[a]!) d j i hj hi'
 rw [Aj, AC6 _ (fun x => ltInt x d[a]!) d a j hs hj (fun i h => AHz d a i j hs ha hj h) _ i many rfl hi' (by omega)]
 generalize scanUp (fun x => ltInt x d[a]!) d j i = i2 at *
 have v1 := scanDown_le (fun x => !ltInt x d[a]!) d i2 j
 simp only [Aj]
 rw [PZ _ (fun x => !ltInt x d[a]!) d a i2 (by omega) (fun j h => AHx d a i2 j hs ha h (by omega)) j many hj (by omega)]
 generalize scanDown (fun x => !ltInt x d[a]!) d i2 j = j2 at *
 simp only [AN]
 by_cases h : j2 < i2
 ·simp only [h, decide_true, gt_iff_lt, if_true]
  exact ⟨trivial, v1, trivial⟩
 ·have hi2 : i2 < d.size := by omega
  have hj2 : j2 < d.size := by omega
  simp only [h, decide_false, gt_iff_lt, if_false, Ac hi2, Ac hj2, (DU hi2 hj2).1, (DU hi2 hj2).2]
  simp (disch := omega) only [AL, Ag]
  obtain ⟨q1, q2, q3⟩ := ih (j2 - 1 + 1 - (i2 + 1)) (by omega) (i2 + 1) (j2 - 1) (swp d i2 j2) n rfl (by rw [size_swp]; omega) (by omega) (by rw [size_swp]; omega) (by rw [size_swp]; omega) (by rw [size_swp]; omega) (by omega)
  exact ⟨q1, by omega, by rw [q3, size_swp]⟩
theorem ARY (d : Array Int) (a b p : Nat) (ha : a ≤ p) (hp : p < b) (hb : b ≤ d.size) (hs : d.size < 4294967296) :
  Nj (d.toList, (a : Int), (b : Int), (p : Int), ()) = some ((partition ltInt d a b p).2.2.toList, (((partition ltInt d a b p).1 : Nat) : Int), (partition ltInt d a b p).2.1, ()) := by
 have hm : 4294967296 < many := by simp only [many]; omega
 have ha' : a < d.size := by omega
 have hp' : p < d.size := by omega
 rw [AIF, To, partition]
 simp only [Ac ha', Ac hp', (DU ha' hp').1, (DU ha' hp').2]
 have hs' := hs
 rw [← size_swp d a p] at ha' hs' hb
 generalize swp d a p = d at *
 simp (disch := omega) only [AL, Ag, Aj]
 have u1 := scanUp_ge (fun x => ltInt x d[a]!) d (b - 1) (a + 1)
 have u2 := C3 (fun x => ltInt x d[a]!) d (b - 1) (a + 1) (by omega) (by omega)
 rw [AC6 _ (fun x => ltInt x d[a]!) d a (b - 1) hs' (by omega) (fun i h => AH4 d a i (b - 1) hs' ha' (by omega) h) _ (a + 1) many rfl (by omega) (by omega)]
 generalize scanUp (fun x => ltInt x d[a]!) d (b - 1) (a + 1) = i2 at *
 have v1 := scanDown_le (fun x => !ltInt x d[a]!) d i2 (b - 1)
 simp only []
 rw [PZ _ (fun x => !ltInt x d[a]!) d a i2 (by omega) (fun j h => AH2 d a i2 j hs' ha' h (by omega)) (b - 1) many (by omega) (by omega)]
 generalize scanDown (fun x => !ltInt x d[a]!) d i2 (b - 1) = j2 at *
 simp only [AN]
 have hj2 : j2 < d.size := by omega
 by_cases h : j2 < i2
 ·simp only [h, decide_true, gt_iff_lt, if_true, Ac ha', Ac hj2, (DU hj2 ha').1, (DU hj2 ha').2]
 ·have hi2 : i2 < d.size := by omega
  simp only [h, decide_false, gt_iff_lt, if_false, Ac hi2, Ac hj2, (DU hi2 hj2).1, (DU hi2 hj2).2]
  simp (disch := omega) only [AL, Ag]
  obtain ⟨q1, q2, q3⟩ := AMA a (j2 - 1 + 1 - (i2 + 1)) (i2 + 1) (j2 - 1) (swp d i2 j2) many rfl (by rw [size_swp]; omega) (by omega) (by rw [size_swp]; omega) (by rw [size_swp]; omega) (by rw [size_swp]; omega) (by omega)
  simp only [q1]
  rw [size_swp] at q3
  generalize partLoop ltInt a (i2 + 1) (j2 - 1) (swp d i2 j2) = r at *
  have h1 : r.1 < r.2.size := by omega
  have h2 : a < r.2.size := by omega
  simp only [Ac h1, Ac h2, (DU h1 h2).1, (DU h1 h2).2]
theorem ADq (a : Nat) : ∀ (k i j : Nat) (d : Array Int) (n : Nat), j + 1 - i = k → a < d.size → 1 ≤ i → i ≤ d.size → j < d.size → d.size < 4294967296 → k < n →
  AQ Gp n (d.toList, (a : Int), (i : Int), (j : Int), ()) = some (.inl ((partEqLoop ltInt a i j d).2.toList, (((partEqLoop ltInt a i j d).1 : Nat) : Int), ())) := by
 intro k
 induction k using Nat.strongRecOn with
 | _ k ih =>
 intro i j d n hk ha hi hi' hj hs hn
 have hm : 4294967296 < many := by simp only [many]; omega
 obtain ⟨n, rfl⟩ : ∃ k, n = k + 1 := ⟨n - 1, by omega⟩
 rw [partEqLoop_eq, AQ, Gp]
 have u1 := scanUp_ge (fun x => !ltInt d[a]! x) d j i
 have u2 := C3 (fun x => !ltInt d[a]! x) d j i hj hi'
 rw [Aj, AC6 _ (fun x => !ltInt d[a]! x) d a j hs hj (fun i h => Z0 d a i j hs ha hj h) _ i many rfl hi' (by omega)]
 generalize scanUp (fun x => !ltInt d[a]! x) d j i = i2 at *
 have v1 := scanDown_le (fun x => ltInt d[a]! x) d i2 j
 simp only [Aj]
 rw [PZ _ (fun x => ltInt d[a]! x) d a i2 (by omega) (fun j h => Zy d a i2 j hs ha h (by omega)) j many hj (by omega)]
 generalize scanDown (fun x => ltInt d[a]! x) d i2 j = j2 at *
 simp only [AN]
 by_cases h : j2 < i2
 ·simp only [h, decide_true, gt_iff_lt, if_true]
 ·have hi2 : i2 < d.size := by omega
  have hj2 : j2 < d.size := by omega
  simp only [h, decide_false, gt_iff_lt, if_false, Ac hi2, Ac hj2, (DU hi2 hj2).1, (DU hi2 hj2).2]
  simp (disch := omega) only [AL, Ag]
  exact ih (j2 - 1 + 1 - (i2 + 1)) (by omega) (i2 + 1) (j2 - 1) (swp d i2 j2) n rfl (by rw [size_swp]; omega) (by omega) (by rw [size_swp]; omega) (by rw [size_swp]; omega) (by rw [size_swp]; omega) (by omega)
theorem AIM (d : Array Int) (a b p : Nat) (ha : a ≤ p) (hp : p < b) (hb : b ≤ d.size) (hs : d.size < 4294967296) :
  LB (d.toList, (a : Int), (b : Int), (p : Int), ()) = some ((partitionEqual ltInt d a b p).2.toList, (((partitionEqual ltInt d a b p).1 : Nat) : Int), ()) := by
 have hm : 4294967296 < many := by simp only [many]; omega
 have ha' : a < d.size := by omega
 have hp' : p < d.size := by omega
 rw [W1, LA, partitionEqual]
 simp only [Ac ha', Ac hp', (DU ha' hp').1, (DU ha' hp').2]
 have hs' := hs
 rw [← size_swp d a p] at ha' hs' hb
 generalize swp d a p = d at *
 simp (disch := omega) only [AL, Ag, Aj]
 rw [ADq a _ (a + 1) (b - 1) d many rfl ha' (by omega) (by omega) (by omega) hs' (by omega)]
end Go.Pev.Pl.SI
end
section
namespace Go.Pev.Pl.SI
open Go.Sort
theorem EI (d : Array Int) (b : Nat) : ∀ (k i : Nat), b - i = k → i ≤ b → i ≤ scanSorted ltInt d b i ∧ scanSorted ltInt d b i ≤ b := by
 intro k
 induction k using Nat.strongRecOn with
 | _ k ih =>
 intro i hk hi
 rw [scanSorted]
 split
 ·rename_i h
  have : i < b := by simp at h; exact h.1
  have := ih (b - (i + 1)) (by omega) (i + 1) rfl (by omega)
  omega
 ·omega
theorem Zo (d : Array Int) (a b s : Nat) (hb : b ≤ d.size) (hs : d.size < 4294967296) : ∀ (k i n : Nat), b - i = k → 1 ≤ i → i ≤ b → k < n →
  AQ FQ n (d.toList, (a : Int), (b : Int), (i : Int), (s : Int), ()) = some (.inl (d.toList, (a : Int), (b : Int), ((scanSorted ltInt d b i : Nat) : Int), (s : Int), ())) := by
 intro k
 induction k using Nat.strongRecOn with
 | _ k ih =>
 intro i n hk h1 hi hn
 obtain ⟨n, rfl⟩ : ∃ k, n = k + 1 := ⟨n - 1, by omega⟩
 rw [scanSorted, AQ, FQ]
 simp only [AN]
 by_cases h : i < b
 ·have i0 : i < d.size := by omega
  have i1 : i - 1 < d.size := by omega
  simp (disch := omega) only [h, decide_true, Ag, AL, Ac, Al, Bq, Bool.true_and]
  cases h2 : ltInt d[i]! d[i - 1]!
  ·simp only [Bool.not_false, if_true]
   exact ih (b - (i + 1)) (by omega) (i + 1) n rfl (by omega) (by omega) (by omega)
  ·simp only [Bool.not_true, Bool.false_eq_true, if_false]
 ·simp only [h, decide_false, Bool.false_and, Bool.false_eq_true, if_false]
theorem Zq (a b i s : Nat) : ∀ (j : Nat) (d : Array Int) (n : Nat), j < d.size → d.size < 4294967296 → j < n →
  AQ D7 n (d.toList, (a : Int), (b : Int), (i : Int), (s : Int), (j : Int), ()) = some (.inl ((shiftDown ltInt j d).toList, (a : Int), (b : Int), (i : Int), (s : Int), ())) := by
 intro j
 induction j with
 | zero =>
  intro d n hj hs hn
  obtain ⟨n, rfl⟩ : ∃ k, n = k + 1 := ⟨n - 1, by omega⟩
  rw [AQ, D7, Aq, decide_eq_false (by omega)]
  rfl
 | succ j ih =>
  intro d n hj hs hn
  obtain ⟨n, rfl⟩ : ∃ k, n = k + 1 := ⟨n - 1, by omega⟩
  have hj' : j < d.size := by omega
  rw [shiftDown, AQ, D7, Aq, decide_eq_true (by omega)]
  simp (disch := omega) only [Ag, Nat.add_sub_cancel, Ac, Al, Bq]
  cases h2 : ltInt d[j + 1]! d[j]!
  ·simp only [Bool.not_false, if_true]
  ·have e1 := DU hj hj'
   simp only [Al hj, Al hj'] at e1
   simp only [Bool.not_true, Bool.false_eq_true, if_false, e1]
   exact ih _ n (by rw [size_swp]; omega) (by rw [size_swp]; omega) (by omega)
theorem SM (a b i s : Nat) : ∀ (k j : Nat) (d : Array Int) (n : Nat), b - j = k → 1 ≤ j → b ≤ d.size → d.size < 4294967296 → k < n →
  AQ D6 n (d.toList, (a : Int), (b : Int), (i : Int), (s : Int), (j : Int), ()) = some (.inl ((shiftUp ltInt b j d).toList, (a : Int), (b : Int), (i : Int), (s : Int), ())) := by
 intro k
 induction k using Nat.strongRecOn with
 | _ k ih =>
 intro j d n hk h1 hb hs hn
 obtain ⟨n, rfl⟩ : ∃ k, n = k + 1 := ⟨n - 1, by omega⟩
 rw [shiftUp, AQ, D6]
 simp only [AN]
 by_cases h : j < b
 ·have i0 : j < d.size := by omega
  have i1 : j - 1 < d.size := by omega
  simp (disch := omega) only [h, decide_true, if_true, Ag, AL, Ac, Al, Bq]
  cases h2 : ltInt d[j]! d[j - 1]!
  ·simp only [Bool.not_false, if_true]
  ·have e1 := DU i0 i1
   simp only [Al i0, Al i1] at e1
   simp only [Bool.not_true, Bool.false_eq_true, if_false, e1]
   exact ih (b - (j + 1)) (by omega) (j + 1) _ n rfl (by omega) (by rw [size_swp]; omega) (by rw [size_swp]; omega) (by omega)
 ·simp only [h, decide_false, if_false]
theorem Gh : ∀ (j : Nat) (d : Array Int), (shiftDown ltInt j d).size = d.size := by
 intro j
 induction j with
 | zero => intro d; rfl
 | succ j ih =>
  intro d
  rw [shiftDown]
  split
  ·rfl
  ·rw [ih, size_swp]
theorem Bz (b : Nat) : ∀ (k j : Nat) (d : Array Int), b - j = k → (shiftUp ltInt b j d).size = d.size := by
 intro k
 induction k using Nat.strongRecOn with
 | _ k ih =>
 intro j d hk
 rw [shiftUp]
 split
 ·split
  ·rfl
  ·rw [ih (b - (j + 1)) (by omega) (j + 1) _ rfl, size_swp]
 ·rfl
theorem Zp (a b : Nat) (hab : a < b) : ∀ (k i s : Nat) (d : Array Int) (n : Nat), s + k = 5 → a + 1 ≤ i → i ≤ b → b ≤ d.size → d.size < 4294967296 → k < n →
  AQ B9 n (d.toList, (a : Int), (b : Int), (i : Int), (s : Int), ()) = some (.inl ((partialIns ltInt a b k i d).1.toList, (partialIns ltInt a b k i d).2, ())) ∨
  ((partialIns ltInt a b k i d).2 = false ∧ AQ B9 n (d.toList, (a : Int), (b : Int), (i : Int), (s : Int), ()) = some (.inr (.inl ((partialIns ltInt a b k i d).1.toList, ())))) := by
 intro k
 induction k with
 | zero =>
  intro i s d n hk h1 hi hb hs hn
  obtain ⟨n, rfl⟩ : ∃ k, n = k + 1 := ⟨n - 1, by omega⟩
  rw [AQ, B9, Am, decide_eq_false (by omega)]
  exact .inr ⟨rfl, rfl⟩
 | succ k ih =>
  intro i s d n hk h1 hi hb hs hn
  have hm : 4294967296 < many := by simp only [many]; omega
  have es : IntKind.wrap .i64 ((s : Int) + 1) = ((s + 1 : Nat) : Int) := AL (by omega)
  obtain ⟨n, rfl⟩ : ∃ k, n = k + 1 := ⟨n - 1, by omega⟩
  rw [AQ, B9, Am, decide_eq_true (by omega), partialIns]
  simp only [Aj, Zo d a b s hb hs (b - i) i many rfl (by omega) hi (by omega)]
  have hsc := EI d b _ i rfl hi
  generalize scanSorted ltInt d b i = i2 at *
  simp only [AEp]
  by_cases h2 : i2 = b
  ·simp only [h2, decide_true, if_true, true_or]
  ·simp (disch := omega) only [h2, decide_false, if_false, BV, Am, Aq]
   by_cases h3 : b - a < 50
   ·rw [if_pos h3, decide_eq_true (by omega)]
    exact .inl rfl
   ·have i0 : i2 < d.size := by omega
    have i1 : i2 - 1 < d.size := by omega
    rw [if_neg h3, decide_eq_false (by omega)]
    simp (disch := omega) only [Ag, AL, Ac i0, Ac i1, (DU i0 i1).1, (DU i0 i1).2]
    have hsz := size_swp d i2 (i2 - 1)
    generalize swp d i2 (i2 - 1) = d2 at *
    by_cases h4 : i2 - a ≥ 2
    ·rw [if_pos h4, decide_eq_true (show (2 : Int) ≤ ((i2 - a : Nat) : Int) by omega)]
     simp only [Zq a b i2 s (i2 - 1) d2 many (by omega) (by omega) (by omega)]
     have hsz2 := Gh (i2 - 1) d2
     generalize shiftDown ltInt (i2 - 1) d2 = d3 at *
     simp (disch := omega) only [BV, AL]
     by_cases h5 : b - i2 ≥ 2
     ·rw [if_pos h5, decide_eq_true (show (2 : Int) ≤ ((b - i2 : Nat) : Int) by omega)]
      simp only [SM a b i2 s _ (i2 + 1) d3 many rfl (by omega) (by omega) (by omega) (by omega)]
      simp only [es]
      exact ih i2 (s + 1) (shiftUp ltInt b (i2 + 1) d3) n (by omega) (by omega) (by omega) (by rw [Bz b (b - (i2 + 1)) (i2 + 1) _ rfl]; omega) (by rw [Bz b (b - (i2 + 1)) (i2 + 1) _ rfl]; omega) (by omega)
     ·rw [if_neg h5, decide_eq_false (show ¬ (2 : Int) ≤ ((b - i2 : Nat) : Int) by omega)]
      simp only [es]
      exact ih i2 (s + 1) d3 n (by omega) (by omega) (by omega) (by omega) (by omega) (by omega)
    ·rw [if_neg h4, decide_eq_false (show ¬ (2 : Int) ≤ ((i2 - a : Nat) : Int) by omega)]
     by_cases h5 : b - i2 ≥ 2
     ·rw [if_pos h5, decide_eq_true (show (2 : Int) ≤ ((b - i2 : Nat) : Int) by omega)]
      simp only [SM a b i2 s _ (i2 + 1) d2 many rfl (by omega) (by omega) (by omega) (by omega)]
      simp only [es]
      exact ih i2 (s + 1) (shiftUp ltInt b (i2 + 1) d2) n (by omega) (by omega) (by omega) (by rw [Bz b (b - (i2 + 1)) (i2 + 1) _ rfl]; omega) (by rw [Bz b (b - (i2 + 1)) (i2 + 1) _ rfl]; omega) (by omega)
     ·rw [if_neg h5, decide_eq_false (show ¬ (2 : Int) ≤ ((b - i2 : Nat) : Int) by omega)]
      simp only [es]
      exact ih i2 (s + 1) d2 n (by omega) (by omega) (by omega) (by omega) (by omega) (by omega)
theorem ADh (d : Array Int) (a b : Nat) (hab : a < b) (hb : b ≤ d.size) (hs : d.size < 4294967296) :
  IC (d.toList, (a : Int), (b : Int), ()) = some ((partialInsertionSort ltInt d a b).1.toList, (partialInsertionSort ltInt d a b).2, ()) := by
 have hm : 4294967296 < many := by simp only [many]; omega
 rw [SX, Is, partialInsertionSort]
 simp (disch := omega) only [AL, Aj]
 have h := Zp a b hab 5 (a + 1) 0 d many rfl (Nat.le_refl _) (by omega) hb hs (by omega)
 rcases h with h | ⟨h0, h⟩
 ·have h' : AQ B9 many (d.toList, (a : Int), (b : Int), ((a + 1 : Nat) : Int), (0 : Int), ()) = _ := h
  rw [h']
 ·have h' : AQ B9 many (d.toList, (a : Int), (b : Int), ((a + 1 : Nat) : Int), (0 : Int), ()) = _ := h
  rw [h', h0]
theorem J5 (d : Array Int) (a b : Nat) (s : Int) (ha : a < d.size) (hb : b < d.size) :
  ∃ s' p q, Ix (d.toList, (a : Int), (b : Int), s, ()) = some (d.toList, s', ((p : Nat) : Int), ((q : Nat) : Int), ()) ∧ (p = a ∧ q = b ∨ p = b ∧ q = a) := by
 rw [W3, LD]
 simp only [Ac ha, Ac hb, Al ha, Al hb, Bq]
 cases ltInt d[b]! d[a]!
 ·exact ⟨_, a, b, rfl, .inl ⟨rfl, rfl⟩⟩
 ·exact ⟨_, b, a, rfl, .inr ⟨rfl, rfl⟩⟩
theorem J7 (d : Array Int) (a b c : Nat) (s : Int) (ha : a < d.size) (hb : b < d.size) (hc : c < d.size) :
  ∃ s' p, I3 (d.toList, (a : Int), (b : Int), (c : Int), s, ()) = some (d.toList, s', ((p : Nat) : Int), ()) ∧ (p = a ∨ p = b ∨ p = c) := by
 rw [W9, LJ]
 obtain ⟨s1, p1, q1, e1, h1⟩ := J5 d a b s ha hb
 simp only [e1]
 obtain ⟨s2, p2, q2, e2, h2⟩ := J5 d q1 c s1 (by omega) hc
 simp only [e2]
 obtain ⟨s3, p3, q3, e3, h3⟩ := J5 d p1 p2 s2 (by omega) (by omega)
 simp only [e3]
 exact ⟨_, q3, rfl, by omega⟩
theorem J9 (d : Array Int) (a : Nat) (s : Int) (h1 : 1 ≤ a) (ha : a + 1 < d.size) (hs : d.size < 4294967296) :
  ∃ s' p, I4 (d.toList, (a : Int), s, ()) = some (d.toList, s', ((p : Nat) : Int), ()) ∧ a ≤ p + 1 ∧ p ≤ a + 1 := by
 rw [XA, LM]
 simp (disch := omega) only [Ag, AL]
 obtain ⟨s1, p1, e1, h1⟩ := J7 d (a - 1) a (a + 1) s (by omega) (by omega) ha
 simp only [e1]
 exact ⟨_, p1, rfl, by omega⟩
theorem ALw (d : Array Int) (a b : Nat) (hab : a + 8 ≤ b) (hb : b ≤ d.size) (hs : d.size < 4294967296) :
  ∃ p h, P2 (d.toList, (a : Int), (b : Int), ()) = some (d.toList, ((p : Nat) : Int), h, ()) ∧ a ≤ p ∧ p < b := by
 rw [AA9, Nc]
 simp (disch := omega) only [BV, R3, AAW, D1, AAV, wrap_add, Aq]
 rw [decide_eq_true (show (8 : Int) ≤ ((b - a : Nat) : Int) by omega)]
 simp only []
 by_cases h : 50 ≤ b - a
 ·rw [decide_eq_true (show (50 : Int) ≤ ((b - a : Nat) : Int) by omega)]
  simp only []
  obtain ⟨s1, p1, e1, h1⟩ := J9 d (a + (b - a) / 4 * 1) 0 (by omega) (by omega) hs
  simp only [e1]
  obtain ⟨s2, p2, e2, h2⟩ := J9 d (a + (b - a) / 4 * 2) s1 (by omega) (by omega) hs
  simp only [e2]
  obtain ⟨s3, p3, e3, h3⟩ := J9 d (a + (b - a) / 4 * 3) s2 (by omega) (by omega) hs
  simp only [e3]
  obtain ⟨s4, p4, e4, h4⟩ := J7 d p1 p2 p3 s3 (by omega) (by omega) (by omega)
  simp only [e4]
  cases ieq s4 0
  ·cases ieq s4 12
   ·exact ⟨p4, _, rfl, by omega, by omega⟩
   ·exact ⟨p4, _, rfl, by omega, by omega⟩
  ·exact ⟨p4, _, rfl, by omega, by omega⟩
 ·rw [decide_eq_false (show ¬ (50 : Int) ≤ ((b - a : Nat) : Int) by omega)]
  simp only []
  obtain ⟨s4, p4, e4, h4⟩ := J7 d (a + (b - a) / 4 * 1) (a + (b - a) / 4 * 2) (a + (b - a) / 4 * 3) 0 (by omega) (by omega) (by omega)
  simp only [e4]
  cases ieq s4 0
  ·cases ieq s4 12
   ·exact ⟨p4, _, rfl, by omega, by omega⟩
   ·exact ⟨p4, _, rfl, by omega, by omega⟩
  ·exact ⟨p4, _, rfl, by omega, by omega⟩
end Go.Pev.Pl.SI
end
section
namespace Go.Pev.Pl.SI
open Go.Sort
theorem AKC (a b : Nat) (m : Nat) (h8 : a + 8 ≤ b) (hm1 : 1 ≤ m) (hm : m ≤ 2 * (b - a)) : ∀ (k t : Nat) (d : Array Int) (r : Int) (n : Nat), t + k = 3 → b ≤ d.size → d.size < 4294967296 → k < n →
  ∃ d' : Array Int, AQ E2 n (d.toList, (a : Int), ((b - a : Nat) : Int), r, (m : Int), ((a + (b - a) / 4 * 2 - 1 + t : Nat) : Int), ()) = some (.inl (d'.toList, ())) ∧ PermIn a b d d' := by
 intro k
 induction k with
 | zero =>
  intro t d r n hk hb hs hn
  obtain ⟨n, rfl⟩ : ∃ k, n = k + 1 := ⟨n - 1, by omega⟩
  rw [AQ, E2]
  simp (disch := omega) only [R3, D1, wrap_add, AL, Br]
  rw [decide_eq_false (by omega)]
  exact ⟨d, rfl, permIn_refl d a b⟩
 | succ k ih =>
  intro t d r n hk hb hs hn
  obtain ⟨n, rfl⟩ : ∃ k, n = k + 1 := ⟨n - 1, by omega⟩
  rw [AQ, E2]
  simp (disch := omega) only [R3, D1, wrap_add, AL, Br]
  rw [decide_eq_true (show a + (b - a) / 4 * 2 - 1 + t ≤ a + (b - a) / 4 * 2 + 1 by omega)]
  obtain ⟨r', y, e⟩ := Rs r
  obtain ⟨o, e2, ho⟩ := AIP y m hm1 (by omega)
  simp only [e, e2]
  rw [Af (n := (o : Int)) (by omega)]
  simp only [Br]
  have i0 : a + (b - a) / 4 * 2 - 1 + t < d.size := by omega
  have fin : ∀ q : Nat, a ≤ q → q < b → ∃ d' : Array Int, AQ E2 n ((swp d (a + (b - a) / 4 * 2 - 1 + t) q).toList, (a : Int), ((b - a : Nat) : Int), r', (m : Int), ((a + (b - a) / 4 * 2 - 1 + t + 1 : Nat) : Int), ()) = some (.inl (d'.toList, ())) ∧ PermIn a b d d' := by
   intro q hq1 hq2
   obtain ⟨d', e', hp⟩ := ih (t + 1) (swp d (a + (b - a) / 4 * 2 - 1 + t) q) r' n (by omega) (by rw [size_swp]; omega) (by rw [size_swp]; omega) (by omega)
   exact ⟨d', e', permIn_trans _ _ _ a b (swp_permIn d a b _ q (by omega) (by omega) hq1 hq2 hb) hp⟩
  by_cases h : b - a ≤ o
  ·have i1 : a + (o - (b - a)) < d.size := by omega
   simp (disch := omega) only [h, decide_true, BV, wrap_add, AL, Ac i0, Ac i1, (DU i0 i1).1, (DU i0 i1).2]
   exact fin _ (by omega) (by omega)
  ·have i1 : a + o < d.size := by omega
   simp (disch := omega) only [h, decide_false, BV, wrap_add, AL, Ac i0, Ac i1, (DU i0 i1).1, (DU i0 i1).2]
   exact fin _ (by omega) (by omega)
theorem AOY (d : Array Int) (a b : Nat) (hab : a ≤ b) (hb : b ≤ d.size) (hs : d.size < 4294967296) :
  ∃ d' : Array Int, RK (d.toList, (a : Int), (b : Int), ()) = some (d'.toList, ()) ∧ PermIn a b d d' := by
 have hm : 4294967296 < many := by simp only [many]; omega
 rw [ABn, OY]
 simp (disch := omega) only [BV, Aq]
 by_cases h : 8 ≤ b - a
 ·rw [decide_eq_true (show (8 : Int) ≤ ((b - a : Nat) : Int) by omega)]
  obtain ⟨m, e, h1, h2⟩ := SZ (b - a) (by omega) (by omega)
  simp only [e]
  rw [u64_in (n := ((b - a : Nat) : Int)) (by omega)]
  simp (disch := omega) only [R3, D1, wrap_add, Ag, Aj]
  obtain ⟨d', e2, hp⟩ := AKC a b m (by omega) h1 h2 3 0 d ((b - a : Nat) : Int) many rfl hb hs (by omega)
  rw [Nat.add_zero] at e2
  simp only [e2]
  exact ⟨d', rfl, hp⟩
 ·rw [decide_eq_false (show ¬ (8 : Int) ≤ ((b - a : Nat) : Int) by omega)]
  exact ⟨d, rfl, permIn_refl d a b⟩
end Go.Pev.Pl.SI
end
section
namespace Go.Pev.Pl.SI
open Go.Sort
abbrev AQJ := List Int × Int × Int × Int × Bool × Bool × Unit
abbrev GD := AQJ ⊕ (List Int × Unit) ⊕ Unit
noncomputable section
def K8 (self : (List Int × Int × Int × Int × Unit) → Option ((List Int × Unit))) (y7 : List Int) (a1 a2 p l : Int) (a4 a5 : Bool) : Option GD :=
 match (ilt (0 : Int) a1) with
 | true => match idx y7 (IntKind.wrap .i64 (a1 - (1 : Int))) with
  | none => none
  | some x9 => match idx y7 p with
   | none => none
   | some x10 => match Db ((AS y7 (AG (IntKind.wrap .i64 (a1 - (1 : Int)))) (0 : Int)), (AS y7 (AG p) (0 : Int)), ()) with
    | none => none
    | some (y11, _) => match (!y11) with
     | true => match LB (y7, a1, a2, p, ()) with
      | none => none
      | some (y12, y13, _) => some (.inl (y12, y13, a2, l, a4, a5, ()))
     | false => match Nj (y7, a1, a2, p, ()) with
      | none => none
      | some (y14, y15, y16, _) => match quo? .i64 (IntKind.wrap .i64 (a2 - a1)) (8 : Int) with
       | none => none
       | some x17 => match (ilt (IntKind.wrap .i64 (y15 - a1)) (IntKind.wrap .i64 (a2 - y15))) with
        | true => match self (y14, a1, y15, l, ()) with
         | none => none
         | some (y18, _) => some (.inl (y18, (IntKind.wrap .i64 (y15 + (1 : Int))), a2, l, (ile x17 (IntKind.wrap .i64 (y15 - a1))), y16, ()))
        | false => match self (y14, (IntKind.wrap .i64 (y15 + (1 : Int))), a2, l, ()) with
         | none => none
         | some (y19, _) => some (.inl (y19, a1, y15, l, (ile x17 (IntKind.wrap .i64 (a2 - y15))), y16, ()))
 | false => match Nj (y7, a1, a2, p, ()) with
  | none => none
  | some (y20, y21, y22, _) => match quo? .i64 (IntKind.wrap .i64 (a2 - a1)) (8 : Int) with
   | none => none
   | some x23 => match (ilt (IntKind.wrap .i64 (y21 - a1)) (IntKind.wrap .i64 (a2 - y21))) with
    | true => match self (y20, a1, y21, l, ()) with
     | none => none
     | some (y24, _) => some (.inl (y24, (IntKind.wrap .i64 (y21 + (1 : Int))), a2, l, (ile x23 (IntKind.wrap .i64 (y21 - a1))), y22, ()))
    | false => match self (y20, (IntKind.wrap .i64 (y21 + (1 : Int))), a2, l, ()) with
     | none => none
     | some (y25, _) => some (.inl (y25, a1, y21, l, (ile x23 (IntKind.wrap .i64 (a2 - y21))), y22, ()))
def ADc (self : (List Int × Int × Int × Int × Unit) → Option ((List Int × Unit))) (y6 : List Int) (a1 a2 p h l : Int) (a4 a5 : Bool) : Option GD :=
 match a4 with
 | true => match a5 with
  | true => match (ieq h (1 : Int)) with
   | true => match IC (y6, a1, a2, ()) with
    | none => none
    | some (y7, y8, _) => match y8 with
     | true => some (.inr (.inl (y7, ())))
     | false => K8 self y7 a1 a2 p l a4 a5
   | false => K8 self y6 a1 a2 p l a4 a5
  | false => K8 self y6 a1 a2 p l a4 a5
 | false => K8 self y6 a1 a2 p l a4 a5
def ADU (self : (List Int × Int × Int × Int × Unit) → Option ((List Int × Unit))) (y2 : List Int) (a1 a2 l : Int) (a4 a5 : Bool) : Option GD :=
 match P2 (y2, a1, a2, ()) with
 | none => none
 | some (y3, y4, y5, _) => match (ieq y5 (2 : Int)) with
  | true => match ARG (y3, a1, a2, ()) with
   | none => none
   | some (y6, _) => ADc self y6 a1 a2 (IntKind.wrap .i64 ((IntKind.wrap .i64 (a2 - (1 : Int))) - (IntKind.wrap .i64 (y4 - a1)))) 1 l a4 a5
  | false => ADc self y3 a1 a2 y4 y5 l a4 a5
def AHJ (self : (List Int × Int × Int × Int × Unit) → Option ((List Int × Unit))) : AQJ → Option GD := fun (a0, a1, a2, a3, a4, a5, _) =>
 match (ile (IntKind.wrap .i64 (a2 - a1)) (12 : Int)) with
 | true => match ASY (a0, a1, a2, ()) with
  | none => none
  | some (y0, _) => some (.inr (.inl (y0, ())))
 | false => match (ieq a3 (0 : Int)) with
  | true => match ABY (a0, a1, a2, ()) with
   | none => none
   | some (y1, _) => some (.inr (.inl (y1, ())))
  | false => match (!a4) with
   | true => match RK (a0, a1, a2, ()) with
    | none => none
    | some (y2, _) => ADU self y2 a1 a2 (IntKind.wrap .i64 (a3 - (1 : Int))) a4 a5
   | false => ADU self a0 a1 a2 a3 a4 a5
theorem Zl : K9 = AHJ := rfl
end
def HE (d : Array Int) (a b : Nat) : GD → Prop
 | .inl (xs, x, y, l, _, _, _) => ∃ (e : Array Int) (i j : Nat), xs = e.toList ∧ x = (i : Int) ∧ y = (j : Int) ∧ 0 ≤ l ∧ l ≤ 100 ∧ i ≤ j ∧ j ≤ e.size ∧ e.size = d.size ∧ j - i < b - a ∧ Below ltInt i j e ∧
   ∀ R, PermIn i j e R → SortedIn ltInt i j R → PermIn a b d R ∧ SortedIn ltInt a b R
 | .inr (.inl (xs, _)) => ∃ R : Array Int, xs = R.toList ∧ PermIn a b d R ∧ SortedIn ltInt a b R
 | .inr (.inr _) => False
def BZ (self : (List Int × Int × Int × Int × Unit) → Option ((List Int × Unit))) (m : Nat) : Prop :=
 ∀ (d : Array Int) (a b : Nat) (l : Int), a ≤ b → b ≤ d.size → d.size < 4294967296 → 0 ≤ l → l ≤ 100 → Below ltInt a b d → 2 * (b - a) < m →
  ∃ R : Array Int, self (d.toList, (a : Int), (b : Int), l, ()) = some (R.toList, ()) ∧ PermIn a b d R ∧ SortedIn ltInt a b R
section
variable {self : (List Int × Int × Int × Int × Unit) → Option ((List Int × Unit))} {d : Array Int} {a b : Nat} {l : Int}
theorem Jx (hself : BZ self (b - a)) (hb : b ≤ d.size) (hs : d.size < 4294967296) (hl : 0 ≤ l ∧ l ≤ 100)
  {d3 : Array Int} {p : Nat} (P3 : PermIn a b d d3) (B3 : Below ltInt a b d3) (hp1 : a ≤ p) (hp2 : p < b) :
  ∃ o, (match Nj (d3.toList, (a : Int), (b : Int), (p : Int), ()) with
  | none => none
  | some (y20, y21, y22, _) => match quo? .i64 (IntKind.wrap .i64 ((b : Int) - (a : Int))) (8 : Int) with
   | none => none
   | some x23 => match (ilt (IntKind.wrap .i64 (y21 - (a : Int))) (IntKind.wrap .i64 ((b : Int) - y21))) with
    | true => match self (y20, (a : Int), y21, l, ()) with
     | none => none
     | some (y24, _) => some ((.inl (y24, (IntKind.wrap .i64 (y21 + (1 : Int))), (b : Int), l, (ile x23 (IntKind.wrap .i64 (y21 - (a : Int)))), y22, ())) : GD)
    | false => match self (y20, (IntKind.wrap .i64 (y21 + (1 : Int))), (b : Int), l, ()) with
     | none => none
     | some (y25, _) => some (.inl (y25, (a : Int), y21, l, (ile x23 (IntKind.wrap .i64 ((b : Int) - y21))), y22, ()))) = some o ∧ HE d a b o := by
 have b3 : b ≤ d3.size := by rw [P3.1]; exact hb
 have s3 : d3.size < 4294967296 := by rw [P3.1]; exact hs
 rw [ARY d3 a b p hp1 hp2 b3 s3]
 rcases hx : partition ltInt d3 a b p with ⟨mid, ap, d4⟩
 obtain ⟨g1, g2, hs4, hBa, hBr, hleft, hright⟩ := round_part swo_ltInt (partition_holds _) hp1 hp2 b3 B3 hx
 simp (disch := omega) only [BV, AL, AYy, AN]
 have b4 : b ≤ d4.size := by omega
 by_cases h : mid - a < b - mid
 ·obtain ⟨L, e, l1, l2⟩ := hself d4 a mid l g1 (by omega) (by omega) hl.1 hl.2 hBa (by omega)
  simp only [h, decide_true, e]
  obtain ⟨hBL, hfin⟩ := hleft _ l1 l2
  refine ⟨_, rfl, L, mid + 1, b, rfl, rfl, rfl, hl.1, hl.2, by omega, by rw [l1.1]; exact b4, by rw [l1.1, hs4, P3.1], by omega, hBL, fun R r1 r2 => ?_⟩
  obtain ⟨q1, q2⟩ := hfin R r1 r2
  exact ⟨permIn_trans _ _ _ a b P3 q1, q2⟩
 ·obtain ⟨L, e, l1, l2⟩ := hself d4 (mid + 1) b l (by omega) (by omega) (by omega) hl.1 hl.2 hBr (by omega)
  simp only [h, decide_false, e]
  obtain ⟨hBL, hfin⟩ := hright _ l1 l2
  refine ⟨_, rfl, L, a, mid, rfl, rfl, rfl, hl.1, hl.2, by omega, by rw [l1.1]; omega, by rw [l1.1, hs4, P3.1], by omega, hBL, fun R r1 r2 => ?_⟩
  obtain ⟨q1, q2⟩ := hfin R r1 r2
  exact ⟨permIn_trans _ _ _ a b P3 q1, q2⟩
theorem EK (hself : BZ self (b - a)) (hb : b ≤ d.size) (hs : d.size < 4294967296) (hl : 0 ≤ l ∧ l ≤ 100)
  {d3 : Array Int} {p : Nat} (wb wp : Bool) (P3 : PermIn a b d d3) (B3 : Below ltInt a b d3) (hp1 : a ≤ p) (hp2 : p < b) :
  ∃ o, K8 self d3.toList (a : Int) (b : Int) (p : Int) l wb wp = some o ∧ HE d a b o := by
 have b3 : b ≤ d3.size := by rw [P3.1]; exact hb
 have s3 : d3.size < 4294967296 := by rw [P3.1]; exact hs
 rw [K8, Am]
 by_cases h0 : 0 < a
 ·rw [decide_eq_true (by omega)]
  have i0 : a - 1 < d3.size := by omega
  have i1 : p < d3.size := by omega
  simp (disch := omega) only [Ag, Ac, Al, Bq]
  cases hc : ltInt d3[a - 1]! d3[p]!
  ·simp only [Bool.not_false]
   rw [AIM d3 a b p hp1 hp2 b3 s3]
   rcases hx : partitionEqual ltInt d3 a b p with ⟨mid, d4⟩
   obtain ⟨hm1, hm2, hs4, hB4, hfin⟩ := round_eq swo_ltInt (partitionEqual_holds _) h0 hp1 hp2 b3 B3 hc hx
   refine ⟨_, rfl, d4, mid, b, rfl, rfl, rfl, hl.1, hl.2, by omega, by omega, by rw [hs4, P3.1], by omega, hB4, fun R r1 r2 => ?_⟩
   obtain ⟨q1, q2⟩ := hfin R r1 r2
   exact ⟨permIn_trans _ _ _ a b P3 q1, q2⟩
  ·simp only [Bool.not_true]
   exact Jx hself hb hs hl P3 B3 hp1 hp2
 ·rw [decide_eq_false (by omega)]
  exact Jx hself hb hs hl P3 B3 hp1 hp2
theorem Ng (hself : BZ self (b - a)) (hab : a < b) (hb : b ≤ d.size) (hs : d.size < 4294967296) (hl : 0 ≤ l ∧ l ≤ 100)
  {d3 : Array Int} {p : Nat} (h : Int) (wb wp : Bool) (P3 : PermIn a b d d3) (B3 : Below ltInt a b d3) (hp1 : a ≤ p) (hp2 : p < b) :
  ∃ o, ADc self d3.toList (a : Int) (b : Int) (p : Int) h l wb wp = some o ∧ HE d a b o := by
 have b3 : b ≤ d3.size := by rw [P3.1]; exact hb
 have s3 : d3.size < 4294967296 := by rw [P3.1]; exact hs
 unfold ADc
 cases wb
 ·exact EK hself hb hs hl _ _ P3 B3 hp1 hp2
 ·cases wp
  ·exact EK hself hb hs hl _ _ P3 B3 hp1 hp2
  ·simp only []
   cases ieq h 1
   ·exact EK hself hb hs hl _ _ P3 B3 hp1 hp2
   ·simp only []
    rw [ADh d3 a b hab b3 s3]
    obtain ⟨q1, q2⟩ := partialInsertionSort_holds (lt := ltInt) swo_ltInt d3 a b hab b3 B3
    rcases hx : partialInsertionSort ltInt d3 a b with ⟨d4, fin⟩
    rw [hx] at q1 q2
    have P4 : PermIn a b d d4 := permIn_trans _ _ _ a b P3 q1
    cases fin
    ·exact EK hself hb hs hl _ _ P4 (B3.perm b3 q1) hp1 hp2
    ·exact ⟨_, rfl, d4, rfl, P4, q2 rfl⟩
theorem Nf (hself : BZ self (b - a)) (hab : a + 8 ≤ b) (hb : b ≤ d.size) (hs : d.size < 4294967296) (hl : 0 ≤ l ∧ l ≤ 100)
  {d3 : Array Int} (wb wp : Bool) (P3 : PermIn a b d d3) (B3 : Below ltInt a b d3) :
  ∃ o, ADU self d3.toList (a : Int) (b : Int) l wb wp = some o ∧ HE d a b o := by
 have b3 : b ≤ d3.size := by rw [P3.1]; exact hb
 have s3 : d3.size < 4294967296 := by rw [P3.1]; exact hs
 rw [ADU]
 obtain ⟨p, h, e, hp1, hp2⟩ := ALw d3 a b hab b3 s3
 simp only [e]
 cases ieq h 2
 ·exact Ng hself (by omega) hb hs hl h _ _ P3 B3 hp1 hp2
 ·simp only [AUU d3 a b (by omega) b3 s3]
  have q1 := reverseRange_holds (α := Int) d3 a b (by omega) b3
  simp (disch := omega) only [Ag, BV]
  exact Ng hself (by omega) hb hs hl 1 _ _ (permIn_trans _ _ _ a b P3 q1) (B3.perm b3 q1) (by omega) (by omega)
theorem P5 (hself : BZ self (b - a)) (hab : a ≤ b) (hb : b ≤ d.size) (hs : d.size < 4294967296) (hl : 0 ≤ l ∧ l ≤ 100) (wb wp : Bool) (B : Below ltInt a b d) :
  ∃ o, K9 self (d.toList, (a : Int), (b : Int), l, wb, wp, ()) = some o ∧ HE d a b o := by
 rw [Zl, AHJ]
 simp (disch := omega) only [BV, Aq, ES]
 by_cases h12 : b - a ≤ 12
 ·rw [decide_eq_true (show ((b - a : Nat) : Int) ≤ 12 by omega)]
  simp only [AVs d a b hab hb hs]
  obtain ⟨q1, q2⟩ := insertionSort_holds (lt := ltInt) swo_ltInt d a b hab hb
  exact ⟨_, rfl, _, rfl, q1, q2⟩
 ·rw [decide_eq_false (show ¬ ((b - a : Nat) : Int) ≤ 12 by omega)]
  simp only []
  by_cases h0 : l = 0
  ·subst h0
   simp only [BEq.rfl, ASk d a b (by omega) hb hs]
   obtain ⟨q1, q2⟩ := heapSort_holds (lt := ltInt) swo_ltInt d a b hab hb
   exact ⟨_, rfl, _, rfl, q1, q2⟩
  ·rw [show (l == 0) = false by simpa using h0]
   simp only []
   cases wb
   ·obtain ⟨d', e, q1⟩ := AOY d a b hab hb hs
    simp only [Bool.not_false, e]
    rw [Af (by omega)]
    exact Nf hself (by omega) hb hs (by omega) _ _ q1 (B.perm hb q1)
   ·simp only [Bool.not_true]
    exact Nf hself (by omega) hb hs hl _ _ (permIn_refl d a b) B
end
theorem Jy {self : (List Int × Int × Int × Int × Unit) → Option ((List Int × Unit))} {m : Nat} (hself : BZ self m) : ∀ (k : Nat) (d : Array Int) (a b : Nat) (l : Int) (wb wp : Bool) (n : Nat), b - a = k → k ≤ m → a ≤ b → b ≤ d.size → d.size < 4294967296 → 0 ≤ l → l ≤ 100 → Below ltInt a b d → k < n →
  ∃ R : Array Int, AQ (K9 self) n (d.toList, (a : Int), (b : Int), l, wb, wp, ()) = some (.inl (R.toList, ())) ∧ PermIn a b d R ∧ SortedIn ltInt a b R := by
 intro k
 induction k using Nat.strongRecOn with
 | _ k ih =>
 intro d a b l wb wp n hk hm hab hb hs hl1 hl2 B hn
 obtain ⟨n, rfl⟩ : ∃ k, n = k + 1 := ⟨n - 1, by omega⟩
 have hself' : BZ self (b - a) := fun d a' b' l h1 h2 h3 h4 h5 h6 h7 => hself d a' b' l h1 h2 h3 h4 h5 h6 (by omega)
 obtain ⟨o, e, ho⟩ := P5 hself' hab hb hs ⟨hl1, hl2⟩ wb wp B
 rw [AQ, e]
 match o, ho with
 | .inl (xs, x, y, l', wb', wp', _), ho =>
  obtain ⟨e', i, j, rfl, rfl, rfl, g1, g2, g3, g4, g5, g6, g7, hfin⟩ := ho
  obtain ⟨R, e2, r1, r2⟩ := ih (j - i) (by omega) e' i j l' wb' wp' n rfl (by omega) g3 g4 (by omega) g1 g2 g7 (by omega)
  exact ⟨R, e2, hfin R r1 r2⟩
 | .inr (.inl (xs, _)), ho =>
  obtain ⟨R, rfl, r1, r2⟩ := ho
  exact ⟨R, rfl, r1, r2⟩
theorem ABA : ∀ k : Nat, BZ (Gl (k + 1)) (2 ^ k) := by
 intro k
 have hmany : 4294967296 < many := by simp only [many]; omega
 induction k with
 | zero =>
  intro d a b l h1 h2 h3 h4 h5 h6 h7
  have : BZ (Gl 0) 0 := fun _ _ _ _ _ _ _ _ _ _ h => by omega
  obtain ⟨R, e, r1, r2⟩ := Jy this (b - a) d a b l true true many rfl (by omega) h1 h2 h3 h4 h5 h6 (by omega)
  refine ⟨R, ?_, r1, r2⟩
  rw [Gl, ADX]
  simp only [Aj, e]
 | succ k ih =>
  intro d a b l h1 h2 h3 h4 h5 h6 h7
  have hp : 2 ^ (k + 1) = 2 * 2 ^ k := by rw [Nat.pow_succ]; omega
  obtain ⟨R, e, r1, r2⟩ := Jy ih (b - a) d a b l true true many rfl (by omega) h1 h2 h3 h4 h5 h6 (by omega)
  refine ⟨R, ?_, r1, r2⟩
  rw [Gl, ADX]
  simp only [Aj, e]
end Go.Pev.Pl.SI
end
section
namespace Go.Pev.Pl
open Tok
set_option linter.unusedSimpArgs false
set_option maxRecDepth 100000
end Go.Pev.Pl
end
section
namespace Go.Pev.Pl
open Tok
set_option linter.unusedSimpArgs false
set_option maxRecDepth 100000
theorem Ta {n : Int} (l : List Edge) (hs : l.length < 1073741824) (ha : ∀ e ∈ l, In n e.1 ∧ In n e.2.1) :
  ∀ (m i c1 c2 : Nat) (rings : List (List Int)) (t1 t2 : List Bool), i + m = l.length → t1.length = i → t2.length = i → FC n rings (l.take i) → m < c1 → m < c2 →
  ∃ zs b1 b2, AQ Gs c1 (l, n, rings, (0 : Int), t1, (i : Int), ()) = some (.inl (n, zs, (0 : Int), b1, ())) ∧ AQ Bo c2 (n, rings, (0 : Int), t2, l, (l.length : Int), (i : Int), ()) = some (.inl (n, zs, (0 : Int), b2, ())) ∧ FC n zs l := by
 intro m
 induction m with
 | zero =>
  intro i c1 c2 rings t1 t2 hi ht1 ht2 h hc1 hc2
  obtain ⟨c1, rfl⟩ : ∃ c, c1 = c + 1 := ⟨c1 - 1, by omega⟩
  obtain ⟨c2, rfl⟩ : ∃ c, c2 = c + 1 := ⟨c2 - 1, by omega⟩
  rw [List.take_of_length_le (by omega)] at h
  refine ⟨rings, t1, t2, ?_, ?_, h⟩
  ·rw [AQ, Gs, AO, AN, decide_eq_false (by omega)]
  ·rw [AQ, Bo, AN, decide_eq_false (by omega)]
 | succ m ih =>
  intro i c1 c2 rings t1 t2 hi ht1 ht2 h hc1 hc2
  obtain ⟨c1, rfl⟩ : ∃ c, c1 = c + 1 := ⟨c1 - 1, by omega⟩
  obtain ⟨c2, rfl⟩ : ∃ c, c2 = c + 1 := ⟨c2 - 1, by omega⟩
  have hi' : i < l.length := by omega
  have hx : l[i]? = some l[i] := List.getElem?_eq_getElem hi'
  obtain ⟨iu, iv⟩ := ha _ (List.getElem_mem hi')
  obtain ⟨zs, q, e1, e2, _⟩ := AQO h iu iv
  obtain ⟨zs', q', f1, f2, _⟩ := AOb (n := n) (rings := rings) l[i].1 l[i].2.1 h.fr.dom
  rw [e1] at f1
  cases f1
  rw [← List.take_succ_eq_append_getElem hi'] at e2
  obtain ⟨zs2, b1, b2, g1, g2, g3⟩ := ih (i + 1) c1 c2 zs (A8 t1 [ieq q 0]) (A8 t2 [ieq q 0]) (by omega) (by simp [Cf, ht1]) (by simp [Cf, ht2]) e2 (by omega) (by omega)
  refine ⟨zs2, b1, b2, ?_, ?_, g3⟩
  ·rw [AQ, Gs, AO, AN, decide_eq_true hi']
   simp only [An hx, f2]
   rw [AL (by omega), BY (by simp only [AO, List.length_cons, List.length_nil]; omega)]
   exact g1
  ·rw [AQ, Bo, AN, decide_eq_true hi']
   simp only [An hx, e1]
   rw [AL (by omega), BY (by simp only [AO, List.length_cons, List.length_nil]; omega)]
   exact g2
theorem AYh {N : Nat} (h1 : 1 ≤ N) (hN : N ≤ 64) (l : List Edge) (hs : l.length < 1073741824) (ha : ∀ e ∈ l, In (N : Int) e.1 ∧ In (N : Int) e.2.1) :
  ∃ zs, fof ((N : Int), l, ()) = some (((N : Int), (zs, ())), 0, ()) ∧ AZP ((N : Int), l, ()) = some (((N : Int), (zs, ())), 0, ()) ∧ FC (N : Int) zs l := by
 have hF := Y3 h1 hN
 have hD := hF.fr.dom
 have hRF := HD.2 hF.fr
 obtain ⟨zs, b1, b2, e1, e2, h2⟩ := Ta l hs ha l.length 0 many many (BE N) [] [] (by omega) rfl rfl (by simpa using hF) (by simp only [many]; omega) (by simp only [many]; omega)
 refine ⟨zs, ?_, ?_, h2⟩
 ·have hth : Ms (((N : Int), (BE N, ())), l.flatMap fun e => [e.1, e.2.1], ()) = some (0, ()) := by
   have hfl := AJe l
   rw [X3 _ _ _ hD (by omega), AJf, AFh, if_pos hRF]
   split
   ·rfl
   ·rename_i hc
    exact absurd (List.all_eq_true.2 fun e he => decide_eq_true (ha e he)) hc
  have hm : F5 (N : Int) = ((N : Int), BE N, 0, ()) := by
   unfold F5
   rw [if_pos (show Sz (N : Int) from ⟨by omega, by omega⟩), Int.toNat_natCast]
  have e2' : AQ Bo many ((N : Int), BE N, (0 : Int), [], l, (l.length : Int), (0 : Int), ()) = _ := e2
  rw [ANt, AJV]
  simp only [AAr, hm, N4, Bool.not_true]
  rw [Q2, KP, KT, G3]
  simp only [YK l hs, hth, N4, Bool.not_true, Aj, AO, e2']
 ·have hall : (l.all fun e => decide (In (N : Int) e.1) && decide (In (N : Int) e.2.1)) = true := by
   rw [List.all_eq_true]
   intro e he
   obtain ⟨h1, h2⟩ := ha e he
   simp [h1, h2]
  have e1' : AY Gs many (l, (N : Int), BE N, (0 : Int), [], (0 : Int), ()) = _ := (Aj _ _ _).trans e1
  have hE : AFh (N : Int) (BE N) true = 0 := by
   unfold AFh
   simp [hRF]
  have hL : AEQ (((N : Int), (BE N, ())), l, ()) = some (((N : Int), (zs, ())), b1, 0, ()) := by
   rw [AM9, Qi]
   simp only [Rx (N : Int) (BE N) l hD (by omega), hall]
   rw [hE]
   simp only [GO, Bool.not_true, e1']
  have hm : AEB ((N : Int), ()) = some ((N : Int), BE N, 0, ()) := by
   rw [AMu]
   unfold F5
   rw [if_pos (show Sz (N : Int) from ⟨by omega, by omega⟩), Int.toNat_natCast]
  rw [AXr, AMZ]
  simp only [hm, GO, Bool.not_true, hL]
theorem RG2.both {N : Nat} {ts : List Tie} (h : RG2 N ts) (k : Int) : ∃ zs, F7 (((N : Int), (ts, ())), k, ()) = some (((N : Int), (zs, ())), 0, ()) ∧ AJU (((N : Int), (ts, ())), k, ()) = some (((N : Int), (zs, ())), 0, ()) ∧ FC (N : Int) zs (trk ts k) := by
 have hl := h.AX7 k
 obtain ⟨zs, e1, e2, hF⟩ := AYh h.h1 h.hN (trk ts k) (by omega) (h.inK k)
 refine ⟨zs, ?_, ?_, hF⟩
 ·rw [Mb, IH]
  simp only [h.lr, Bool.not_true, AId (N : Int) ts h.ht k, e1]
 ·rw [AJT, Mv]
  simp only [h.r21, Bool.not_true, AQe (N : Int) ts h.ht k, e2]
end Go.Pev.Pl
end
section
namespace Go.Pev.Pl
open Tok
set_option linter.unusedSimpArgs false
set_option maxRecDepth 100000
theorem AFm : Hl () = some (true, ()) := by
 rw [show Hl () = @Hl idI () from congrArg (fun i => @Hl i ()) XS]
 kernel_rfl
theorem AJN (n : Int) (ts : List Tie) : LW ((n, (ts, ())), ()) = some (true, ()) ∨ (LW ((n, (ts, ())), ()) = some (false, ()) ∧ ts.length ≤ 40 ∧ n ≤ 16) := by
 rw [X1, LV]
 simp only [AO, Am]
 by_cases h1 : (40 : Int) < ts.length
 ·left; simp only [decide_eq_true h1]
 by_cases h2 : (16 : Int) < n
 ·left; simp only [decide_eq_false h1, decide_eq_true h2]
 ·right; simp only [decide_eq_false h1, decide_eq_false h2]; exact ⟨trivial, by omega, by omega⟩
section
variable (n : Int) (ts : List Tie)
end
end Go.Pev.Pl
end
section
namespace Go.Pev.Pl
open Tok
set_option linter.unusedSimpArgs false
set_option maxRecDepth 100000
theorem ABG (n : Int) (rings : List (List Int)) (v : Int) (hD : Dom rings) : AMd ((n, (rings, ())), v, ()) = some (if RF n rings ∧ In n v then plc rings v else -1, ()) := by
 rw [APb, ADz]
 simp only [Gu, C7 n rings hD.1 hD.2, Jw n rings v hD.1 (fun l hl => (hD.2 l hl).1)]
 by_cases h1 : In n v
 ·by_cases h2 : RF n rings <;> simp [h1, h2]
 ·by_cases h2 : RF n rings <;> simp [h1, h2]
theorem Yx {n : Int} {A : List Int} (h : RG n A) {u v : Int} (ho : okT n (.arc u v)) (hm : Cn n u v ∈ A) : u ∈ A ∧ v ∈ A := by
 obtain ⟨_, _, _, L, q1, q2, q3⟩ := h
 rw [Cm ho, q1] at hm
 obtain ⟨t, ht, he⟩ := List.mem_map.1 hm
 have h1 := B1 (q2 t ht)
 rw [he, B1 ho] at h1
 cases h1
 obtain ⟨f1, f2, _⟩ := q3.facts.2.2 u v ht
 constructor
 ·rw [q1]; exact List.mem_map.2 ⟨.ver u, f1, rfl⟩
 ·rw [q1]; exact List.mem_map.2 ⟨.ver v, f2, rfl⟩
def AKG (n : Int) (rings : List (List Int)) (u v : Int) : Bool := rings.any fun A => decide (Cn n u v ∈ A)
theorem ATY {n : Int} {rings : List (List Int)} (h : FR n rings) {i : Nat} {A : List Int} {u v : Int} (iu : In n u) (iv : In n v) (hne : u ≠ v) (hi : rings[i]? = some A) (hu : u ∈ A) : AKG n rings u v = decide (Cn n u v ∈ A) := by
 have hA := List.mem_of_getElem? hi
 unfold AKG
 rw [Bool.eq_iff_iff, List.any_eq_true, decide_eq_true_iff]
 constructor
 ·rintro ⟨K, hK, hk⟩
  rw [decide_eq_true_iff] at hk
  have := (Yx (h.rg K hK) ⟨iu, iv, hne⟩ hk).1
  rw [h.one hA hK iu.2.2.2 hu this]
  exact hk
 ·intro hk
  exact ⟨A, hA, by rw [decide_eq_true_iff]; exact hk⟩
def AAH (N : Nat) (rings : List (List Int)) (u : Nat) : List Edge := ((List.range' (u + 1) (N - (u + 1))).filter fun (v : Nat) => AKG (N : Int) rings (u : Int) (v : Int)).map fun (v : Nat) => ((u : Int), (v : Int), ())
def AAI (N : Nat) (rings : List (List Int)) : List Edge := (List.range N).flatMap (AAH N rings)
theorem AJm (N : Nat) (hN : N ≤ 64) (rings : List (List Int)) (u : Nat) : (AAH N rings u).length ≤ 64 := by
 unfold AAH
 rw [List.length_map]
 refine Nat.le_trans (List.length_filter_le _ _) ?_
 rw [List.length_range']
 omega
theorem ALg {a n i x : Nat} (h : (List.range' a n)[i]? = some x) : x = a + i ∧ i < n := by
 obtain ⟨hi, rfl⟩ := List.getElem?_eq_some_iff.1 h
 rw [List.length_range'] at hi
 exact ⟨by simp, hi⟩
theorem ANw (u : Nat) (P : Nat → Bool) : ∀ (ks : List Nat) (a : List Edge), ks.foldl (fun (a : List Edge) (v : Nat) => if P v = true then a ++ [((u : Int), (v : Int), ())] else a) a = a ++ (ks.filter P).map fun (v : Nat) => ((u : Int), (v : Int), ()) := by
 intro ks
 induction ks with
 | nil => intro a; simp
 | cons x ks ih =>
  intro a
  rw [List.foldl_cons, ih, List.filter_cons]
  by_cases h : P x = true
  ·rw [if_pos h, if_pos h]; simp
  ·rw [if_neg h, if_neg h]
theorem AJi {N : Nat} {rings : List (List Int)} (h : FR (N : Int) rings) (u : Nat) (hu : u < N) (acc : List Edge) (ha : acc.length ≤ 100000) :
  AY DD many ((N : Int), rings, acc, (u : Int), ((u + 1 : Nat) : Int), ()) = some (.inl ((N : Int), rings, acc ++ AAH N rings u, (u : Int), ())) := by
 obtain ⟨s1, s2⟩ := h.sz
 have hD := h.dom
 have hRF := HD.2 h
 have iu : In (N : Int) (u : Int) := ⟨s1, s2, by omega, by omega⟩
 obtain ⟨i, A, pu, hi, hA, _⟩ := Jv (h.cov (u : Int) iu)
 have gA := h.rg A (List.mem_of_getElem? hi)
 have hl := gA.1.1
 have e := D2 (step := DD) (fun j (a : List Edge) => ((N : Int), rings, a, (u : Int), ((u + 1 + j : Nat) : Int), ())) (List.range' (u + 1) (N - (u + 1))) (fun v a => .inl (if AKG (N : Int) rings (u : Int) (v : Int) = true then a ++ [((u : Int), (v : Int), ())] else a)) (fun a => .inl ((N : Int), rings, a, (u : Int), ())) (fun j a => a.length ≤ 100000 + j) (by simp; omega)
  (fun j x a hj hx hI => by
   refine ⟨fun m' h' => ?_, fun r h' => (by cases h')⟩
   cases h'
   obtain ⟨rfl, hjn⟩ := ALg hx
   have iv : In (N : Int) ((u + 1 + j : Nat) : Int) := ⟨s1, s2, by omega, by omega⟩
   refine ⟨?_, by
    show (if _ then _ else _ : List Edge).length ≤ _
    split
    ·rw [List.length_append, List.length_singleton]; omega
    ·omega⟩
   rw [DD, AN, decide_eq_true (by omega)]
   simp only [ABG (N : Int) rings (u : Int) hD, hRF, iu, and_self, if_true, pu, An hi, RO, HQ A _ (show A.length < 9223372036854775808 by omega)]
   rw [ATY h iu iv (by omega) hi hA, AL (by omega)]
   by_cases hm : Cn (N : Int) (u : Int) ((u + 1 + j : Nat) : Int) ∈ A
   ·obtain ⟨k, hk, _⟩ := Vw hm
    rw [hk, Aq, decide_eq_true (by omega), decide_eq_true hm]
    simp only [if_true]
    rw [BY (by simp only [AO, List.length_cons, List.length_nil]; omega), Cf]
    rfl
   ·rw [K0 hm, Aq, decide_eq_false (by omega), decide_eq_false hm]
    rfl)
  (fun a _ => by rw [DD, List.length_range', AN, decide_eq_false (by omega)]) acc (by omega)
 have e' : AY DD many ((N : Int), rings, acc, (u : Int), ((u + 1 : Nat) : Int), ()) = _ := e
 rw [e', Bd (fun (v : Nat) (a : List Edge) => if AKG (N : Int) rings (u : Int) (v : Int) = true then a ++ [((u : Int), (v : Int), ())] else a), ANw]
 rfl
theorem Sk {N : Nat} {rings : List (List Int)} (h : FR (N : Int) rings) : LZ (((N : Int), (rings, ())), ()) = some (AAI N rings, ()) := by
 obtain ⟨s1, s2⟩ := h.sz
 have hD := h.dom
 have hRF := HD.2 h
 rw [YQ, LY]
 simp only [C7 (N : Int) rings hD.1 hD.2, hRF, decide_true, Bool.not_true]
 have e := D2 (step := Dv) (fun i (a : List Edge) => ((N : Int), rings, a, (i : Int), ())) (List.range N) (fun u a => .inl (a ++ AAH N rings u)) (fun a => .inl (a, ())) (fun i a => a.length ≤ 64 * i) (by simp; omega)
  (fun i x a hi hx hI => by
   refine ⟨fun m' h' => ?_, fun r h' => (by cases h')⟩
   cases h'
   have := Gj hx
   subst this
   rw [List.length_range] at hi
   have hr := AJm N (by omega) rings x
   refine ⟨?_, by rw [List.length_append]; omega⟩
   rw [Dv, AN, decide_eq_true hi, AL (by omega)]
   simp only [AJi h x hi a (by omega)]
   rw [AL (by omega)])
  (fun a _ => by rw [Dv, List.length_range, AN, decide_eq_false (by omega)]) [] (by simp)
 have e' : AY Dv many ((N : Int), rings, ([] : List Edge), (0 : Int), ()) = _ := e
 rw [Bd (fun (u : Nat) (a : List Edge) => a ++ AAH N rings u)] at e'
 have hf : ∀ (ks : List Nat) (a : List Edge), ks.foldl (fun (a : List Edge) u => a ++ AAH N rings u) a = a ++ ks.flatMap (AAH N rings) := by
  intro ks
  induction ks with
  | nil => intro a; simp
  | cons x ks ih => intro a; rw [List.foldl_cons, ih, List.flatMap_cons, List.append_assoc]
 rw [hf, List.nil_append] at e'
 simp only [e']
 rfl
theorem AJn {N : Nat} (hN : N ≤ 64) (rings : List (List Int)) : (AAI N rings).length ≤ 4096 := by
 have key : ∀ ks : List Nat, (ks.flatMap (AAH N rings)).length ≤ 64 * ks.length := by
  intro ks
  induction ks with
  | nil => simp
  | cons x ks ih =>
   have := AJm N hN rings x
   rw [List.flatMap_cons, List.length_append, List.length_cons]
   omega
 have := key (List.range N)
 rw [List.length_range] at this
 unfold AAI
 omega
theorem AWb {N : Nat} {rings : List (List Int)} {e : Edge} : e ∈ AAI N rings ↔ 0 ≤ e.1 ∧ e.1 < e.2.1 ∧ e.2.1 < (N : Int) ∧ AKG (N : Int) rings e.1 e.2.1 = true := by
 obtain ⟨a, b, ⟨⟩⟩ := e
 unfold AAI AAH
 simp only [List.mem_flatMap, List.mem_range, List.mem_map, List.mem_filter, List.mem_range']
 constructor
 ·rintro ⟨u, hu, v, ⟨⟨i, hi, rfl⟩, hb⟩, he⟩
  cases he
  exact ⟨by omega, by omega, by omega, hb⟩
 ·rintro ⟨h1, h2, h3, h4⟩
  obtain ⟨u, rfl⟩ := Int.eq_ofNat_of_zero_le h1
  obtain ⟨v, rfl⟩ := Int.eq_ofNat_of_zero_le (show 0 ≤ b by omega)
  exact ⟨u, by omega, v, ⟨⟨v - (u + 1), by omega, by omega⟩, h4⟩, rfl⟩
theorem AOk {N : Nat} {rings : List (List Int)} (h : FR (N : Int) rings) : (rings.flatMap (HC (N : Int))).Nodup := by
 rw [List.Nodup, List.pairwise_flatMap]
 refine ⟨fun A hA => ?_, ?_⟩
 ·unfold HC
  rw [List.pairwise_filterMap]
  refine (h.rg A hA).1.2.2.imp fun {x y} hxy e he e' he' hee => ?_
  subst hee
  have key : ∀ t, upI (N : Int) t = some e → t = CS (N : Int) (.arc e.1 e.2.1) := by
   intro t ht
   rw [upI, Option.bind_eq_some_iff] at ht
   obtain ⟨k, h1, h2⟩ := ht
   obtain ⟨_, g2⟩ := IQ h1
   cases k with
   | ver v => cases h2
   | arc u v =>
    simp only [upT] at h2
    split at h2
    ·cases h2; exact g2.symm
    ·cases h2
  exact hxy ((key x he).trans (key y he').symm)
 ·have hp : rings.Pairwise fun A B => Dis (N : Int) A B ∧ A ∈ rings ∧ B ∈ rings := h.dis.imp_of_mem fun ha hb hd => ⟨hd, ha, hb⟩
  refine hp.imp fun {A B} hd e he e' he' hee => ?_
  subst hee
  obtain ⟨hd, hA, hB⟩ := hd
  obtain ⟨h1, h2, h3⟩ := HB.1 he
  obtain ⟨_, _, k3⟩ := HB.1 he'
  exact hd e.1 (Yx (h.rg A hA) h2 h3).1 h2.1.2.2.2 (Yx (h.rg B hB) h2 k3).1
theorem FC.ATd {N : Nat} {rings : List (List Int)} {l : List Edge} (h : FC (N : Int) rings l) (hlt : ∀ e ∈ l, e.1 < e.2.1) {e : Edge} (he : e ∈ rings.flatMap (HC (N : Int))) : e ∈ l := by
 obtain ⟨A, hA, he⟩ := List.mem_flatMap.1 he
 obtain ⟨h1, h2, h3⟩ := HB.1 he
 obtain ⟨e', he', h4⟩ := h.arcs A hA e.1 e.2.1 h2 h3
 have := hlt e' he'
 have : e' = e := by
  obtain ⟨a, b, ⟨⟩⟩ := e
  obtain ⟨a', b', ⟨⟩⟩ := e'
  simp only at *
  have e1 : a' = a := by omega
  have e2 : b' = b := by omega
  rw [e1, e2]
 rw [← this]; exact he'
theorem W7 {a b : List Edge} (ha : a.Nodup) (h : ∀ x ∈ a, x ∈ b) : a.length ≤ b.length := by
 induction a generalizing b with
 | nil => simp
 | cons x a ih =>
  obtain ⟨b1, b2, rfl⟩ := List.append_of_mem (h x (by simp))
  have ha' := List.nodup_cons.1 ha
  have := ih (b := b1 ++ b2) ha'.2 fun y hy => by
   have := h y (by simp [hy])
   rw [List.mem_append, List.mem_cons] at this
   rw [List.mem_append]
   rcases this with h | rfl | h
   ·exact .inl h
   ·exact absurd hy ha'.1
   ·exact .inr h
  simp only [List.length_append, List.length_cons] at *
  omega
theorem FC.AY8 {N : Nat} (h1 : 1 ≤ N) (hN : N ≤ 64) {rings : List (List Int)} {l : List Edge} (h : FC (N : Int) rings l) (hs : l.length < 1073741824) (ha : ∀ e ∈ l, In (N : Int) e.1 ∧ In (N : Int) e.2.1) (hlt : ∀ e ∈ l, e.1 < e.2.1) (hf : Fo N l) {e : Edge} (he : e ∈ l) : e ∈ rings.flatMap (HC (N : Int)) := by
 refine Classical.byContradiction fun hc => ?_
 obtain ⟨b1, b2, rfl⟩ := List.append_of_mem he
 have h2 := W7 (b := b1 ++ b2) (AOk h.fr) fun x hx => by
  have := h.ATd hlt hx
  rw [List.mem_append, List.mem_cons] at this
  rw [List.mem_append]
  rcases this with h | rfl | h
  ·exact .inl h
  ·exact absurd hx hc
  ·exact .inr h
 have h3 := AJh h.fr
 have h4 := h.count h1 hN hs ha
 unfold Fo at hf
 simp only [List.length_append, List.length_cons] at *
 omega
theorem RG2.AZt {N : Nat} {ts : List Tie} (h : RG2 N ts) (k : Int) : ∀ e ∈ trk ts k, e.1 < e.2.1 := by
 intro e he
 obtain ⟨t, ht, rfl⟩ := List.mem_map.1 (AO3 ts k e he)
 exact (h.tie ht).2.2.1
theorem AO4 {ts : List Tie} {k : Int} {e : Edge} : e ∈ trk ts k ↔ ∃ t ∈ ts, t.2.2.2.1 = true ∧ k ≤ t.2.2.1 ∧ ed t = e := by
 unfold trk
 rw [List.mem_map]
 constructor
 ·rintro ⟨t, ht, rfl⟩
  rw [List.mem_filter] at ht
  simp only [Bool.and_eq_true, decide_eq_true_iff] at ht
  exact ⟨t, ht.1, ht.2.1, ht.2.2, rfl⟩
 ·rintro ⟨t, h1, h2, h3, rfl⟩
  exact ⟨t, by rw [List.mem_filter]; simp only [Bool.and_eq_true, decide_eq_true_iff]; exact ⟨h1, h2, h3⟩, rfl⟩
theorem RG2.foK {N : Nat} {ts : List Tie} (h : RG2 N ts) (k : Int) : Fo N (trk ts k) := by
 have hs : (trk ts k).Sublist (trk ts 0) := by
  unfold trk
  refine List.Sublist.map _ ?_
  have e : ts.filter (fun t => t.2.2.2.1 && decide (k ≤ t.2.2.1)) = (ts.filter fun t => t.2.2.2.1 && decide ((0 : Int) ≤ t.2.2.1)).filter fun t => decide (k ≤ t.2.2.1) := by
   rw [List.filter_filter]
   refine List.filter_congr fun t ht => ?_
   have := (h.tie ht).2.2.2.1
   rw [decide_eq_true this, Bool.and_true, Bool.and_comm]
  rw [e]
  exact List.filter_sublist
 exact h.fo0.sub hs (fun e he => AVy (h.inK 0 e he))
theorem AIW {N : Nat} {ts : List Tie} (h : RG2 N ts) {k : Int} {zs : List (List Int)} (hF : FC (N : Int) zs (trk ts k)) {e : Edge} : e ∈ AAI N zs ↔ e ∈ trk ts k := by
 have hl := h.AX7 k
 rw [AWb]
 constructor
 ·rintro ⟨h1, h2, h3, h4⟩
  refine hF.ATd (h.AZt k) ?_
  unfold AKG at h4
  rw [List.any_eq_true] at h4
  obtain ⟨A, hA, hm⟩ := h4
  rw [decide_eq_true_iff] at hm
  have hh := h.h1
  have hn := h.hN
  exact List.mem_flatMap.2 ⟨A, hA, HB.2 ⟨h2, ⟨⟨by omega, by omega, by omega, by omega⟩, ⟨by omega, by omega, by omega, by omega⟩, by omega⟩, hm⟩⟩
 ·intro he
  obtain ⟨A, hA, hm⟩ := List.mem_flatMap.1 (hF.AY8 h.h1 h.hN (by omega) (h.inK k) (h.AZt k) (h.foK k) he)
  obtain ⟨h1, h2, h3⟩ := HB.1 hm
  refine ⟨h2.1.2.2.1, h1, h2.2.1.2.2.2, ?_⟩
  unfold AKG
  rw [List.any_eq_true]
  exact ⟨A, hA, by rw [decide_eq_true_iff]; exact h3⟩
theorem Ya {n : Int} {rings : List (List Int)} {l : List Edge} (h : FC n rings l) {u v : Int} (iu : In n u) (iv : In n v) : RA ((n, (rings, ())), u, v, ()) = some (IW l u v, 0, ()) := by
 have hD := h.fr.dom
 have hRF := HD.2 h.fr
 have ht : Im ((n, (rings, ())), [(u, (v, ()))], ()) = some (0, ()) := by
  rw [Rx n rings _ hD (by simp), AFh]
  simp [hRF, iu, iv]
 rw [ABh, OQ]
 simp only [ht, GO, Bool.not_true, ABG n rings _ hD, hRF, iu, iv, and_self, if_true, A1]
 have : decide (plc rings u = plc rings v) = IW l u v := by
  rw [Bool.eq_iff_iff, decide_eq_true_iff, By, h.fr.AGu iu iv]
  exact h.sam u v iu iv
 rw [this]
theorem UE {x : Int} (h : 0 ≤ x ∧ x ≤ 255) {N : Nat} (hN : 1 ≤ N) (hN2 : N ≤ 64) : ∃ q : Nat, rem? (IntKind.wrap .i64 x) (N : Int) = some (q : Int) ∧ q < N := by
 rw [Af (by omega), Vq, Pn, if_neg (by omega), Int.tmod_eq_emod_of_nonneg h.1]
 have h1 := Int.emod_nonneg x (show (N : Int) ≠ 0 by omega)
 have h2 := Int.emod_lt_of_pos x (show (0 : Int) < N by omega)
 exact ⟨(x % (N : Int)).toNat, by congr 1; omega, by omega⟩
section
variable (a0 : Int) (a1 : List Tie) (a2 a3 a4 : Int) (a5 : List (List Int)) (a6 : Int) (a7 : List (List Int)) (p q : List Edge)
theorem AQS (hp : p.length ≤ 4096) (i : Nat) (x : Edge) (hx : q[i]? = some x) :
  AY Bm many (a0, a1, a2, a3, a4, a5, a6, a7, p, q, (i : Int), false, (0 : Int), ()) = some (.inl (a0, a1, a2, a3, a4, a5, a6, a7, p, q, (i : Int), p.any (fun y => decide (y = x)), ())) := by
 have e := D2 (step := Bm) (fun j (b : Bool) => (a0, a1, a2, a3, a4, a5, a6, a7, p, q, (i : Int), b, (j : Int), ())) p (fun y b => .inl (b || decide (y = x))) (fun b => .inl (a0, a1, a2, a3, a4, a5, a6, a7, p, q, (i : Int), b, ())) (fun _ _ => True) (by omega)
  (fun j y b hj hy _ => by
   refine ⟨fun m' h' => ?_, fun r h' => (by cases h')⟩
   cases h'
   refine ⟨?_, trivial⟩
   unfold Bm
   dsimp only
   rw [AO, AN, decide_eq_true hj, AL (by omega)]
   cases b with
   | true => rfl
   | false =>
    simp only [An hy, An hx, ABf hy, ABf hx, A1]
    have : (decide (y.1 = x.1) && (decide (y.2.1 = x.2.1) && true)) = decide (y = x) := by
     obtain ⟨u, v, ⟨⟩⟩ := x
     obtain ⟨u', v', ⟨⟩⟩ := y
     rw [Bool.eq_iff_iff]
     simp
    rw [this, Bool.false_or])
  (fun b _ => by
   unfold Bm
   dsimp only
   rw [AO, AN, decide_eq_false (by omega)]) false trivial
 have e' : AY Bm many (a0, a1, a2, a3, a4, a5, a6, a7, p, q, (i : Int), false, (0 : Int), ()) = _ := e
 rw [e', Bd (fun (y : Edge) (b : Bool) => b || decide (y = x))]
 have hf : ∀ (ys : List Edge) (b : Bool), ys.foldl (fun (b : Bool) y => b || decide (y = x)) b = (b || ys.any fun y => decide (y = x)) := by
  intro ys
  induction ys with
  | nil => intro b; simp
  | cons y ys ih => intro b; rw [List.foldl_cons, ih, List.any_cons, Bool.or_assoc]
 rw [hf, Bool.false_or]
theorem AQT (hp : p.length ≤ 4096) (hq : q.length ≤ 4096) (hs : ∀ x ∈ q, x ∈ p) :
  AY Bn many (a0, a1, a2, a3, a4, a5, a6, a7, p, q, (0 : Int), ()) = some (.inr (.inl (a0, a1, a2, a3, a4, a5, a6, a7, ()))) := by
 have e := L4 (step := Bn) (fun i => (a0, a1, a2, a3, a4, a5, a6, a7, p, q, (i : Int), ())) q (fun _ => false) (fun _ => .inl (false, ())) (.inr (.inl (a0, a1, a2, a3, a4, a5, a6, a7, ()))) (by omega)
  (fun i x hi hx => by
   have hany : (p.any fun y => decide (y = x)) = true := List.any_eq_true.2 ⟨x, hs x (List.mem_of_getElem? hx), by simp⟩
   rw [Bn, AO, AN, decide_eq_true hi]
   simp only [AQS a0 a1 a2 a3 a4 a5 a6 a7 p q hp i x hx, hany, Bool.not_true]
   rw [AL (by omega)]
   rfl)
  (by rw [Bn, AO, AN, decide_eq_false (by omega)])
 have e' : AY Bn many (a0, a1, a2, a3, a4, a5, a6, a7, p, q, (0 : Int), ()) = _ := e
 rw [e']
 simp
end
theorem Qn (g : Int × List Tie × Unit) (n1 : Int) (two : List Int)
  (h0 : wfD (.prod (.int .i64) (.prod (.slice (.prod (.int .i64) (.prod (.int .i64) (.prod (.int .i64) (.prod .bool .unit))))) .unit)) g)
  (h1 : wfD (.int .u8) n1) (h2 : wfD (.arr 2 (.int .u8)) two) : EA (g, n1, two, ()) = some (true, ()) := by
 obtain ⟨n, ts, ⟨⟩⟩ := g
 rw [KI, FJ]
 simp only [AFm, Bool.not_true]
 rcases AJN n ts with g1 | ⟨g1, g2, g3⟩
 ·simp only [g1]
 simp only [g1]
 rcases ARB n ts (by omega) with ⟨r1, r⟩ | ⟨N, rfl, h⟩
 ·simp only [r1, Bool.not_false]
 simp only [h.r21, Bool.not_true]
 have hb : ∀ k, 0 ≤ AS two k (0 : Int) ∧ AS two k (0 : Int) ≤ 255 := by
  intro k
  unfold AS
  by_cases h : k < two.length
  ·have := h2.2 two[k] (List.getElem_mem h)
   have h' : 0 ≤ two[k] ∧ two[k] ≤ 255 := this
   simpa [h] using h'
  ·simp [List.getElem?_eq_none (Nat.le_of_not_lt h)]
 have hn1 : 0 ≤ n1 ∧ n1 ≤ 255 := h1
 obtain ⟨k, ek, hk⟩ := UE hn1 (N := 7) (by omega) (by omega)
 have ek' : rem? (IntKind.wrap .i64 n1) (7 : Int) = some (k : Int) := ek
 obtain ⟨u, eu, hu⟩ := UE (hb 0) h.h1 h.hN
 obtain ⟨v, ev, hv⟩ := UE (hb 1) h.h1 h.hN
 obtain ⟨za, fa, hFa⟩ := h.AWN (k : Int)
 obtain ⟨zb, fb, hFb⟩ := h.AWN ((k : Int) + 1)
 have hk1 : IntKind.wrap .i64 ((k : Int) + 1) = (k : Int) + 1 := Af (by omega)
 have hh := h.h1
 have hN := h.hN
 have iu : In (N : Int) (u : Int) := ⟨by omega, by omega, by omega, by omega⟩
 have iv : In (N : Int) (v : Int) := ⟨by omega, by omega, by omega, by omega⟩
 have hsub : ∀ e ∈ trk ts ((k : Int) + 1), e ∈ trk ts (k : Int) := fun e he => by
  obtain ⟨t, h1, h2, h3, h4⟩ := AO4.1 he
  exact AO4.2 ⟨t, h1, h2, by omega, h4⟩
 have hs : ∀ x ∈ AAI N zb, x ∈ AAI N za := fun x hx => (AIW h hFa).2 (hsub x ((AIW h hFb).1 hx))
 have e0 := fun a2 a3 => AQT (N : Int) ts a2 a3 (N : Int) za (N : Int) zb (AAI N za) (AAI N zb) (AJn hN za) (AJn hN zb) hs
 simp only [ek', fa, hk1, fb, GO, Bool.not_true, Sk hFa.fr, Sk hFb.fr, e0, eu, ev, Ya hFa iu iv, Ya hFb iu iv]
 cases hc : IW (trk ts ((k : Int) + 1)) (u : Int) (v : Int) with
 | false => rfl
 | true =>
  have : IW (trk ts (k : Int)) (u : Int) (v : Int) = true := by
   rw [By] at hc ⊢
   exact hc.sub hsub
  rw [this]
  rfl
end Go.Pev.Pl
end
section
namespace Go.Pev
open Go.Proofs
set_option maxRecDepth 100000
noncomputable section
abbrev Xp : Hints := { loop := fun n => match n with | 0 => Ab 0 26 ABR ABQ EB | _ => fun _ _ _ => none, fp := fun n => match n with | 6 => [[], [], [], [], [], [], [], [], []] | _ => [] }
theorem AEj : ∀ v, EB v = roundOf Tryz.prog Env.none Xp 1 0 26 (AB Tryz.f48 0) ABR ABQ v := by
 rintro ⟨a0, a1, a2, ⟨⟩⟩
 kernel_rfl
theorem ASU : AD (AB Tryz.f48 0) 1 = [] := by kernel_rfl
theorem ASV : Aa Tryz.prog 0 (.loop (AB Tryz.f48 0)) (Xp.loop 0) := AW Env.AD0 (AEj) (AA ASU trivial)
theorem ANR : ∀ v, Nx v = AP Tryz.prog Env.none Xp Tryz.f48 Xo Xn Xm v := by
 rintro ⟨a0, a1, ⟨⟩⟩
 kernel_rfl
theorem AVo : AD (AU Tryz.f48) 0 = [(0, AB Tryz.f48 0)] := by kernel_rfl
theorem AIy : AR Tryz.prog 48 (AF 2 Xo Xn Xm KJ) := AI Env.AD0 Tryz.func48 (by kernel_rfl) (by kernel_rfl) rfl (fun v => (ABS v).trans (ANR v)) (AA AVo ⟨ASV, trivial⟩)
def ZK : Env := Env.none.ext 48 true true (AF 2 Xo Xn Xm KJ)
theorem S3 : Ad Tryz.prog ZK := Env.Ae Env.AD0 AIy (fun _ => AK rfl rfl) (fun _ => AH rfl rfl)
abbrev ATn : Hints := {  }
theorem AKa : ∀ v, NQ v = AP Tryz.prog ZK ATn Tryz.f159 UQ UP UO v := by
 rintro ⟨a0, ⟨⟩⟩
 kernel_rfl
theorem ATm : AD (AU Tryz.f159) 0 = [] := by kernel_rfl
theorem AGN : AR Tryz.prog 159 (AF 1 UQ UP UO Jh) := AI S3 Tryz.func159 (by kernel_rfl) (by kernel_rfl) rfl (fun v => (AAb v).trans (AKa v)) (AA ATm trivial)
def Y6 : Env := ZK.ext 159 true true (AF 1 UQ UP UO Jh)
theorem Su : Ad Tryz.prog Y6 := Env.Ae S3 AGN (fun _ => AK rfl rfl) (fun _ => AH rfl rfl)
abbrev AZp : Hints := {  }
theorem AXH : ∀ v, AO6 v = AP Tryz.prog Y6 AZp Tryz.f156 AT5 AT4 AT3 v := by
 rintro ⟨a0, a1, ⟨⟩⟩
 kernel_rfl
theorem AZo : AD (AU Tryz.f156) 0 = [] := by kernel_rfl
theorem AT2 : AR Tryz.prog 156 (AF 2 AT5 AT4 AT3 tin) := AI Su Tryz.func156 (by kernel_rfl) (by kernel_rfl) rfl (fun v => (AT6 v).trans (AXH v)) (AA AZo trivial)
def AW1 : Env := Y6.ext 156 true true (AF 2 AT5 AT4 AT3 tin)
theorem AKR : Ad Tryz.prog AW1 := Env.Ae Su AT2 (fun _ => AK rfl rfl) (fun _ => AH rfl rfl)
abbrev AZA : Hints := {  }
theorem AUA : ∀ v, ACi v = AP Tryz.prog AW1 AZA Tryz.f187 AKr AKq AKp v := by
 rintro ⟨a0, a1, a2, ⟨⟩⟩
 kernel_rfl
theorem AY9 : AD (AU Tryz.f187) 0 = [] := by kernel_rfl
theorem AQv : AR Tryz.prog 187 (AF 3 AKr AKq AKp AQw) := AI AKR Tryz.func187 (by kernel_rfl) (by kernel_rfl) rfl (fun v => (AO7 v).trans (AUA v)) (AA AY9 trivial)
def AOs : Env := AW1.ext 187 true true (AF 3 AKr AKq AKp AQw)
theorem ABt : Ad Tryz.prog AOs := Env.Ae AKR AQv (fun _ => AK rfl rfl) (fun _ => AH rfl rfl)
abbrev ATl : Hints := { fp := fun n => match n with | 5 => [[], [], [], [], [], [], [], [], []] | _ => [] }
theorem AKZ : ∀ v, NP v = AP Tryz.prog AOs ATl Tryz.f197 UM UL UK v := by
 rintro ⟨a0, a1, ⟨⟩⟩
 kernel_rfl
theorem ATk : AD (AU Tryz.f197) 0 = [] := by kernel_rfl
theorem AGM : AR Tryz.prog 197 (AF 2 UM UL UK UN) := AI ABt Tryz.func197 (by kernel_rfl) (by kernel_rfl) rfl (fun v => (AAa v).trans (AKZ v)) (AA ATk trivial)
def Of : Env := AOs.ext 197 true true (AF 2 UM UL UK UN)
theorem Kh : Ad Tryz.prog Of := Env.Ae ABt AGM (fun _ => AK rfl rfl) (fun _ => AH rfl rfl)
abbrev ACc : Hints := { loop := fun n => match n with | 0 => Ab 0 25 AGa AGZ Ge | _ => fun _ _ _ => none }
theorem AGY : ∀ v, Ge v = roundOf Tryz.prog Of ACc 1 0 25 (AB Tryz.f129 0) AGa AGZ v := by
 rintro ⟨a0, a1, a2, a3, a4, ⟨⟩⟩
 kernel_rfl
theorem AT0 : AD (AB Tryz.f129 0) 1 = [] := by kernel_rfl
theorem AT1 : Aa Tryz.prog 0 (.loop (AB Tryz.f129 0)) (ACc.loop 0) := AW Kh (AGY) (AA AT0 trivial)
theorem AQs : ∀ v, Tg v = AP Tryz.prog Of ACc Tryz.f129 ACb ACa ACZ v := by
 rintro ⟨a0, ⟨⟩⟩
 kernel_rfl
theorem AXE : AD (AU Tryz.f129) 0 = [(0, AB Tryz.f129 0)] := by kernel_rfl
theorem AKk : AR Tryz.prog 129 (AF 1 ACb ACa ACZ AGc) := AI Kh Tryz.func129 (by kernel_rfl) (by kernel_rfl) rfl (fun v => (AGb v).trans (AQs v)) (AA AXE ⟨AT1, trivial⟩)
def T7 : Env := Of.ext 129 true true (AF 1 ACb ACa ACZ AGc)
theorem NB : Ad Tryz.prog T7 := Env.Ae Kh AKk (fun _ => AK rfl rfl) (fun _ => AH rfl rfl)
abbrev Xw : Hints := { loop := fun n => match n with | 0 => Ab 0 19 ABU ABT En | _ => fun _ _ _ => none }
theorem AEm : ∀ v, En v = roundOf Tryz.prog T7 Xw 1 0 19 (AB Tryz.f146 0) ABU ABT v := by
 rintro ⟨a0, a1, a2, a3, ⟨⟩⟩
 kernel_rfl
theorem ASZ : AD (AB Tryz.f146 0) 1 = [] := by kernel_rfl
theorem ASa : Aa Tryz.prog 0 (.loop (AB Tryz.f146 0)) (Xw.loop 0) := AW NB (AEm) (AA ASZ trivial)
theorem ANc : ∀ v, N1 v = AP Tryz.prog T7 Xw Tryz.f146 Xv Xu Xt v := by
 rintro ⟨a0, a1, ⟨⟩⟩
 kernel_rfl
theorem AVx : AD (AU Tryz.f146) 0 = [(0, AB Tryz.f146 0)] := by kernel_rfl
theorem AIz : AR Tryz.prog 146 (AF 2 Xv Xu Xt Mn) := AI NB Tryz.func146 (by kernel_rfl) (by kernel_rfl) rfl (fun v => (ABV v).trans (ANc v)) (AA AVx ⟨ASa, trivial⟩)
def ZL : Env := T7.ext 146 true true (AF 2 Xv Xu Xt Mn)
theorem S4 : Ad Tryz.prog ZL := Env.Ae NB AIz (fun _ => AK rfl rfl) (fun _ => AH rfl rfl)
abbrev AJs : Hints := {  }
theorem AAJ : ∀ v, Hh v = AP Tryz.prog ZL AJs Tryz.f113 KX KW KV v := by
 rintro ⟨a0, a1, ⟨⟩⟩
 kernel_rfl
theorem AJr : AD (AU Tryz.f113) 0 = [] := by kernel_rfl
theorem YV : AR Tryz.prog 113 (AF 2 KX KW KV Ez) := AI S4 Tryz.func113 (by kernel_rfl) (by kernel_rfl) rfl (fun v => (OM v).trans (AAJ v)) (AA AJr trivial)
def Hq : Env := ZL.ext 113 true true (AF 2 KX KW KV Ez)
theorem HJ : Ad Tryz.prog Hq := Env.Ae S4 YV (fun _ => AK rfl rfl) (fun _ => AH rfl rfl)
abbrev AMo : Hints := { loop := fun n => match n with | 0 => Ab 0 25 APf APe I2 | _ => fun _ _ _ => none }
theorem AMk : ∀ v, I2 v = roundOf Tryz.prog Hq AMo 1 0 25 (AB Tryz.f177 0) APf APe v := by
 rintro ⟨a0, a1, a2, ⟨⟩⟩
 kernel_rfl
theorem AXt : AD (AB Tryz.f177 0) 1 = [] := by kernel_rfl
theorem AXu : Aa Tryz.prog 0 (.loop (AB Tryz.f177 0)) (AMo.loop 0) := AW HJ (AMk) (AA AXt trivial)
theorem AVU : ∀ v, AD3 v = AP Tryz.prog Hq AMo Tryz.f177 AMn AMm AMl v := by
 rintro ⟨a0, ⟨⟩⟩
 kernel_rfl
theorem AZU : AD (AU Tryz.f177) 0 = [(0, AB Tryz.f177 0)] := by kernel_rfl
theorem ARt : AR Tryz.prog 177 (AF 1 AMn AMm AMl ARu) := AI HJ Tryz.func177 (by kernel_rfl) (by kernel_rfl) rfl (fun v => (APg v).trans (AVU v)) (AA AZU ⟨AXu, trivial⟩)
def AOy : Env := Hq.ext 177 true true (AF 1 AMn AMm AMl ARu)
theorem ABz : Ad Tryz.prog AOy := Env.Ae HJ ARt (fun _ => AK rfl rfl) (fun _ => AH rfl rfl)
abbrev AYR : Hints := {  }
theorem ASt : ∀ v, T1 v = AP Tryz.prog AOy AYR Tryz.f201 AE1 AE0 AEz v := by
 rintro ⟨a0, ⟨⟩⟩
 kernel_rfl
theorem AYQ : AD (AU Tryz.f201) 0 = [] := by kernel_rfl
theorem ANk : AR Tryz.prog 201 (AF 2 AE1 AE0 AEz AJM) := AI ABz Tryz.func201 (by kernel_rfl) (by kernel_rfl) rfl (fun v => (AJL v).trans (ASt v)) (AA AYQ trivial)
def O6 : Env := AOy.ext 201 false true (AF 2 AE1 AE0 AEz AJM)
theorem JV : Ad Tryz.prog O6 := Env.Ae ABz ANk ((by simp)) (fun _ => AH rfl rfl)
abbrev IV : Hints := { loop := fun n => match n with | 0 => Ab 0 36 Ye Yc Dx | 1 => Ab 0 36 Yd Yb Dw | _ => fun _ _ _ => none }
theorem AAL : ∀ v, Dw v = roundOf Tryz.prog O6 IV 2 0 36 (AB Tryz.f186 1) Yd Yb v := by
 rintro ⟨a0, a1, a2, a3, ⟨⟩⟩
 kernel_rfl
theorem AOI : AD (AB Tryz.f186 1) 2 = [] := by kernel_rfl
theorem AOK : Aa Tryz.prog 0 (.loop (AB Tryz.f186 1)) (IV.loop 1) := AW JV (AAL) (AA AOI trivial)
theorem AAM : ∀ v, Dx v = roundOf Tryz.prog O6 IV 1 0 36 (AB Tryz.f186 0) Ye Yc v := by
 rintro ⟨a0, a1, a2, a3, a4, ⟨⟩⟩
 kernel_rfl
theorem AOJ : AD (AB Tryz.f186 0) 1 = [] := by kernel_rfl
theorem AOL : Aa Tryz.prog 0 (.loop (AB Tryz.f186 0)) (IV.loop 0) := AW JV (AAM) (AA AOJ trivial)
theorem AJw : ∀ v, La v = AP Tryz.prog O6 IV Tryz.f186 RD RC RB v := by
 rintro ⟨a0, ⟨⟩⟩
 kernel_rfl
theorem ATC : AD (AU Tryz.f186) 0 = [(0, AB Tryz.f186 0), (1, AB Tryz.f186 1)] := by kernel_rfl
theorem AFH : AR Tryz.prog 186 (AF 1 RD RC RB Hi) := AI JV Tryz.func186 (by kernel_rfl) (by kernel_rfl) rfl (fun v => (Yf v).trans (AJw v)) (AA ATC ⟨AOL, AOK, trivial⟩)
def Ro : Env := O6.ext 186 true true (AF 1 RD RC RB Hi)
theorem PB : Ad Tryz.prog Ro := Env.Ae JV AFH (fun _ => AK rfl rfl) (fun _ => AH rfl rfl)
theorem AQ7 : Tryz.f195.body.isSome = true := by kernel_rfl
theorem AQ6 : (Tryz.f195.name == "runtime.NumGoroutine") = false := by kernel_rfl
theorem AQ5 : loops (AU Tryz.f195) = 0 := by kernel_rfl
def Ho : Env := Ro.ext 195 false false (FW Tryz.prog Ro {} Tryz.f195)
theorem HG : Ad Tryz.prog Ho := Env.Ae PB (HV PB Tryz.func195 AQ7 AQ6 AQ5) (by simp) (by simp)
end
end Go.Pev
end
section
namespace Go.Pev
open Go.Proofs
set_option maxRecDepth 100000
noncomputable section
abbrev Gy : Hints := { loop := fun n => match n with | 0 => Ab 0 19 Ja JZ Bv | _ => fun _ _ _ => none }
theorem Mr : ∀ v, Bv v = roundOf Tryz.prog Ho Gy 1 0 19 (AB Tryz.f174 0) Ja JZ v := by
 rintro ⟨a0, a1, a2, ⟨⟩⟩
 kernel_rfl
theorem TN : AD (AB Tryz.f174 0) 1 = [] := by kernel_rfl
theorem TO : Aa Tryz.prog 0 (.loop (AB Tryz.f174 0)) (Gy.loop 0) := AW HG (Mr) (AA TN trivial)
theorem Qx : ∀ v, EV v = AP Tryz.prog Ho Gy Tryz.f174 Gx Gw Gv v := by
 rintro ⟨a0, ⟨⟩⟩
 kernel_rfl
theorem X0 : AD (AU Tryz.f174) 0 = [(0, AB Tryz.f174 0)] := by kernel_rfl
theorem N9 : AR Tryz.prog 174 (AF 2 Gx Gw Gv F9) := AI HG Tryz.func174 (by kernel_rfl) (by kernel_rfl) rfl (fun v => (Jb v).trans (Qx v)) (AA X0 ⟨TO, trivial⟩)
def HH : Env := Ho.Fp 174 1 195 (AF 2 Gx Gw Gv F9)
theorem Hp : Ad Tryz.prog HH := Env.Bh HG N9 (AH rfl rfl)
abbrev TR : Hints := {  }
theorem OP : ∀ v, Dk v = AP Tryz.prog HH TR Tryz.f154 Ft Fs Fq v := by
 rintro ⟨a0, ⟨⟩⟩
 kernel_rfl
theorem TQ : AD (AU Tryz.f154) 0 = [] := by kernel_rfl
theorem M3 : AR Tryz.prog 154 (AF 2 Ft Fs Fq Dc) := AI Hp Tryz.func154 (by kernel_rfl) (by kernel_rfl) rfl (fun v => (IU v).trans (OP v)) (AA TQ trivial)
def Dl : Env := HH.Fp 154 1 195 (AF 2 Ft Fs Fq Dc)
theorem D0 : Ad Tryz.prog Dl := Env.Bh Hp M3 (AH rfl rfl)
abbrev AMW : Hints := { loop := fun n => match n with | 0 => Ab 0 23 APW APV Iy | _ => fun _ _ _ => none }
theorem AMS : ∀ v, Iy v = roundOf Tryz.prog Dl AMW 1 0 23 (AB Tryz.f196 0) APW APV v := by
 rintro ⟨a0, a1, a2, a3, a4, ⟨⟩⟩
 kernel_rfl
theorem AXp : AD (AB Tryz.f196 0) 1 = [] := by kernel_rfl
theorem AXq : Aa Tryz.prog 0 (.loop (AB Tryz.f196 0)) (AMW.loop 0) := AW D0 (AMS) (AA AXp trivial)
theorem AVO : ∀ v, ADv v = AP Tryz.prog Dl AMW Tryz.f196 AMV AMU AMT v := by
 rintro ⟨a0, ⟨⟩⟩
 kernel_rfl
theorem AZN : AD (AU Tryz.f196) 0 = [(0, AB Tryz.f196 0)] := by kernel_rfl
theorem ARk : AR Tryz.prog 196 (AF 1 AMV AMU AMT once) := AI D0 Tryz.func196 (by kernel_rfl) (by kernel_rfl) rfl (fun v => (APX v).trans (AVO v)) (AA AZN ⟨AXq, trivial⟩)
def AOv : Env := Dl.ext 196 true true (AF 1 AMV AMU AMT once)
theorem ABw : Ad Tryz.prog AOv := Env.Ae D0 ARk (fun _ => AK rfl rfl) (fun _ => AH rfl rfl)
abbrev AUP : Hints := {  }
theorem ALA : ∀ v, NV v = AP Tryz.prog AOv AUP Tryz.f176 VU VT VS v := by
 rintro ⟨a0, ⟨⟩⟩
 kernel_rfl
theorem AUO : AD (AU Tryz.f176) 0 = [] := by kernel_rfl
theorem AGx : AR Tryz.prog 176 (AF 1 VU VT VS MN) := AI ABw Tryz.func176 (by kernel_rfl) (by kernel_rfl) rfl (fun v => (AAy v).trans (ALA v)) (AA AUO trivial)
def ZB : Env := AOv.ext 176 true true (AF 1 VU VT VS MN)
theorem Sx : Ad Tryz.prog ZB := Env.Ae ABw AGx (fun _ => AK rfl rfl) (fun _ => AH rfl rfl)
abbrev ATj : Hints := { fp := fun n => match n with | 1 => [[], [], [], [], [], [], [], [0], []] | _ => [] }
theorem AKX : ∀ v, NO v = AP Tryz.prog ZB ATj Tryz.f200 UJ UI UH v := by
 rintro ⟨a0, a1, ⟨⟩⟩
 kernel_rfl
theorem ATi : AD (AU Tryz.f200) 0 = [] := by kernel_rfl
theorem AGL : AR Tryz.prog 200 (AF 2 UJ UI UH PK) := AI Sx Tryz.func200 (by kernel_rfl) (by kernel_rfl) rfl (fun v => (AAZ v).trans (AKX v)) (AA ATi trivial)
def Oe : Env := ZB.ext 200 true true (AF 2 UJ UI UH PK)
theorem Kg : Ad Tryz.prog Oe := Env.Ae Sx AGL (fun _ => AK rfl rfl) (fun _ => AH rfl rfl)
abbrev WH : Hints := { loop := fun n => match n with | 0 => Ab 0 29 AA7 AA6 D5 | _ => fun _ _ _ => none }
theorem ADO : ∀ v, D5 v = roundOf Tryz.prog Oe WH 1 0 29 (AB Tryz.f199 0) AA7 AA6 v := by
 rintro ⟨a0, a1, a2, a3, a4, ⟨⟩⟩
 kernel_rfl
theorem ARN : AD (AB Tryz.f199 0) 1 = [] := by kernel_rfl
theorem ARO : Aa Tryz.prog 0 (.loop (AB Tryz.f199 0)) (WH.loop 0) := AW Kg (ADO) (AA ARN trivial)
theorem ALn : ∀ v, Nb v = AP Tryz.prog Oe WH Tryz.f199 WG WE WD v := by
 rintro ⟨a0, a1, ⟨⟩⟩
 kernel_rfl
theorem AUf : AD (AU Tryz.f199) 0 = [(0, AB Tryz.f199 0)] := by kernel_rfl
theorem AHB : AR Tryz.prog 199 (AF 2 WG WE WD ADP) := AI Kg Tryz.func199 (by kernel_rfl) (by kernel_rfl) rfl (fun v => (AA8 v).trans (ALn v)) (AA AUf ⟨ARO, trivial⟩)
def ZE : Env := Oe.ext 199 true true (AF 2 WG WE WD ADP)
theorem S0 : Ad Tryz.prog ZE := Env.Ae Kg AHB (fun _ => AK rfl rfl) (fun _ => AH rfl rfl)
abbrev AXS : Hints := {  }
theorem ARC : ∀ v, Tl v = AP Tryz.prog ZE AXS Tryz.f185 ADD ADC ADB v := by
 rintro ⟨a0, a1, ⟨⟩⟩
 kernel_rfl
theorem AXR : AD (AU Tryz.f185) 0 = [] := by kernel_rfl
theorem ALO : AR Tryz.prog 185 (AF 2 ADD ADC ADB AA1) := AI S0 Tryz.func185 (by kernel_rfl) (by kernel_rfl) rfl (fun v => (AG6 v).trans (ARC v)) (AA AXR trivial)
def AFx : Env := ZE.ext 185 true true (AF 2 ADD ADC ADB AA1)
theorem ZD : Ad Tryz.prog AFx := Env.Ae S0 ALO (fun _ => AK rfl rfl) (fun _ => AH rfl rfl)
abbrev AUR : Hints := {  }
theorem ALC : ∀ v, NW v = AP Tryz.prog AFx AUR Tryz.f202 VX VW VV v := by
 rintro ⟨a0, ⟨⟩⟩
 kernel_rfl
theorem AUQ : AD (AU Tryz.f202) 0 = [] := by kernel_rfl
theorem AGy : AR Tryz.prog 202 (AF 1 VX VW VV VY) := AI ZD Tryz.func202 (by kernel_rfl) (by kernel_rfl) rfl (fun v => (AAz v).trans (ALC v)) (AA AUQ trivial)
def ZC : Env := AFx.ext 202 true true (AF 1 VX VW VV VY)
theorem Sy : Ad Tryz.prog ZC := Env.Ae ZD AGy (fun _ => AK rfl rfl) (fun _ => AH rfl rfl)
theorem AQn : Tryz.f180.body.isSome = true := by kernel_rfl
theorem AQm : (Tryz.f180.name == "runtime.NumGoroutine") = false := by kernel_rfl
theorem AQl : loops (AU Tryz.f180) = 0 := by kernel_rfl
def Hn : Env := ZC.ext 180 false false (FW Tryz.prog ZC {} Tryz.f180)
theorem HF : Ad Tryz.prog Hn := Env.Ae Sy (HV Sy Tryz.func180 AQn AQm AQl) (by simp) (by simp)
abbrev Es : Hints := { loop := fun n => match n with | 0 => Ab 1 19 HX HW BW | _ => fun _ _ _ => none }
theorem KL : ∀ v, BW v = roundOf Tryz.prog Hn Es 1 1 19 (AB Tryz.f179 0) HX HW v := by
 rintro ⟨a0, a1, a2, a3, ⟨⟩⟩
 kernel_rfl
theorem N5 : AD (AB Tryz.f179 0) 1 = [] := by kernel_rfl
theorem N6 : Aa Tryz.prog 1 (.loop (AB Tryz.f179 0)) (Es.loop 0) := AW HF (KL) (AA N5 trivial)
theorem Mo : ∀ v, DO v = AP Tryz.prog Hn Es Tryz.f179 Er Ep Eo v := by
 rintro ⟨a0, a1, ⟨⟩⟩
 kernel_rfl
theorem Qv : AD (AU Tryz.f179) 0 = [(0, AB Tryz.f179 0)] := by kernel_rfl
theorem Ls : AR Tryz.prog 179 (AF 2 Er Ep Eo ET) := AI HF Tryz.func179 (by kernel_rfl) (by kernel_rfl) rfl (fun v => (HY v).trans (Mo v)) (AA Qv ⟨N6, trivial⟩)
def E9 : Env := Hn.Fp 179 1 180 (AF 2 Er Ep Eo ET)
theorem Fw : Ad Tryz.prog E9 := Env.Bh HF Ls (AH rfl rfl)
abbrev ATv : Hints := {  }
theorem AKh : ∀ v, NT v = AP Tryz.prog E9 ATv Tryz.f157 VF VE VD v := by
 rintro ⟨a0, a1, ⟨⟩⟩
 kernel_rfl
theorem ATu : AD (AU Tryz.f157) 0 = [] := by kernel_rfl
theorem AGS : AR Tryz.prog 157 (AF 2 VF VE VD PO) := AI Fw Tryz.func157 (by kernel_rfl) (by kernel_rfl) rfl (fun v => (AAq v).trans (AKh v)) (AA ATu trivial)
def Y8 : Env := E9.ext 157 true true (AF 2 VF VE VD PO)
theorem Sw : Ad Tryz.prog Y8 := Env.Ae Fw AGS (fun _ => AK rfl rfl) (fun _ => AH rfl rfl)
theorem AYt : Tryz.f198.body.isSome = true := by kernel_rfl
theorem AYs : (Tryz.f198.name == "runtime.NumGoroutine") = false := by kernel_rfl
theorem AYr : loops (AU Tryz.f198) = 0 := by kernel_rfl
def Lp : Env := Y8.ext 198 false false (FW Tryz.prog Y8 {} Tryz.f198)
theorem JX : Ad Tryz.prog Lp := Env.Ae Sw (HV Sw Tryz.func198 AYt AYs AYr) (by simp) (by simp)
end
end Go.Pev
end
section
namespace Go.Pev
open Go.Proofs
set_option maxRecDepth 100000
noncomputable section
abbrev ANp : Hints := { loop := fun n => match n with | 0 => Ab 0 107 AP0 APz Hc | _ => fun _ _ _ => none, fp := fun n => match n with | 8 => [[], [], [], [], [], [], [], [], [1000003], [], [], [], [], [], [], [], [], [0], [0], [0], [], [0], [0], [0], [2, 26], [], [2, 26], [2, 26], [], [], [], [], []] | 13 => [[], [0], [0], [0], [2], [], [], [], [0], [0], [0], [6], [], [0], [0], [0], [4], [], [], []] | 3 => [[], [], [], [], [], [], [], [], [11], [], [], [], [8, 10, 12], []] | _ => [] }
theorem ANl : ∀ v, Hc v = roundOf Tryz.prog Lp ANp 1 0 107 (AB Tryz.f178 0) AP0 APz v := by
 rintro ⟨a0, a1, a2, a3, a4, a5, a6, ⟨⟩⟩
 kernel_rfl
theorem AYS : AD (AB Tryz.f178 0) 1 = [] := by kernel_rfl
theorem AYT : Aa Tryz.prog 0 (.loop (AB Tryz.f178 0)) (ANp.loop 0) := AW JX (ANl) (AA AYS trivial)
theorem AWF : ∀ v, AE3 v = AP Tryz.prog Lp ANp Tryz.f178 ANo ANn ANm v := by
 rintro ⟨a0, a1, ⟨⟩⟩
 kernel_rfl
theorem AZc : AD (AU Tryz.f178) 0 = [(0, AB Tryz.f178 0)] := by kernel_rfl
theorem ASy : AR Tryz.prog 178 (AF 2 ANo ANn ANm AWH) := AI JX Tryz.func178 (by kernel_rfl) (by kernel_rfl) rfl (fun v => (AP1 v).trans (AWF v)) (AA AZc ⟨AYT, trivial⟩)
def Rl : Env := Lp.ext 178 true true (AF 2 ANo ANn ANm AWH)
theorem Ig : Ad Tryz.prog Rl := Env.Ae JX ASy (fun _ => AK rfl rfl) (fun _ => AH rfl rfl)
abbrev Ga : Hints := { loop := fun n => match n with | 0 => Ab 0 87 AAh AAe DH | 1 => Ab 0 87 AAg AAd DG | 2 => Ab 0 87 AAf AAc D3 | _ => fun _ _ _ => none, fp := fun n => match n with | 8 => [[], [], [], [], [], [], [], [], [], [], [], [], [], [], [], [], [], [], [], [], [], [], [], [], [0], [0], [], [], [], []] | _ => [] }
theorem ACI : ∀ v, D3 v = roundOf Tryz.prog Rl Ga 3 0 87 (AB Tryz.f153 2) AAf AAc v := by
 rintro ⟨a0, a1, a2, ⟨⟩⟩
 kernel_rfl
theorem AQY : AD (AB Tryz.f153 2) 3 = [] := by kernel_rfl
theorem AQb : Aa Tryz.prog 0 (.loop (AB Tryz.f153 2)) (Ga.loop 2) := AW Ig (ACI) (AA AQY trivial)
theorem ACJ : ∀ v, DG v = roundOf Tryz.prog Rl Ga 2 0 87 (AB Tryz.f153 1) AAg AAd v := by
 rintro ⟨a0, a1, a2, a3, a4, a5, a6, a7, a8, a9, a10, a11, a12, a13, a14, a15, a16, a17, a18, a19, a20, a21, a22, a23, a24, a25, ⟨⟩⟩
 kernel_rfl
theorem AQZ : AD (AB Tryz.f153 1) 2 = [] := by kernel_rfl
theorem AQc : Aa Tryz.prog 0 (.loop (AB Tryz.f153 1)) (Ga.loop 1) := AW Ig (ACJ) (AA AQZ trivial)
theorem ACK : ∀ v, DH v = roundOf Tryz.prog Rl Ga 1 0 87 (AB Tryz.f153 0) AAh AAe v := by
 rintro ⟨a0, a1, a2, a3, a4, a5, a6, ⟨⟩⟩
 kernel_rfl
theorem AQa : AD (AB Tryz.f153 0) 1 = [(1, AB Tryz.f153 1)] := by kernel_rfl
theorem AQd : Aa Tryz.prog 0 (.loop (AB Tryz.f153 0)) (Ga.loop 0) := AW Ig (ACK) (AA AQa ⟨AQc, trivial⟩)
theorem AKc : ∀ v, NR v = AP Tryz.prog Rl Ga Tryz.f153 UY UX UW v := by
 rintro ⟨a0, ⟨⟩⟩
 kernel_rfl
theorem ATs : AD (AU Tryz.f153) 0 = [(0, AB Tryz.f153 0), (2, AB Tryz.f153 2)] := by kernel_rfl
theorem AGQ : AR Tryz.prog 153 (AF 1 UY UX UW PM) := AI Ig Tryz.func153 (by kernel_rfl) (by kernel_rfl) rfl (fun v => (AAi v).trans (AKc v)) (AA ATs ⟨AQd, AQb, trivial⟩)
def Y7 : Env := Rl.ext 153 true true (AF 1 UY UX UW PM)
theorem Sv : Ad Tryz.prog Y7 := Env.Ae Ig AGQ (fun _ => AK rfl rfl) (fun _ => AH rfl rfl)
abbrev AYn : Hints := {  }
theorem ATV : ∀ v, T4 v = AP Tryz.prog Y7 AYn Tryz.f184 AFg AFf AFe v := by
 rintro ⟨a0, a1, a2, ⟨⟩⟩
 kernel_rfl
theorem AYm : AD (AU Tryz.f184) 0 = [] := by kernel_rfl
theorem AOj : AR Tryz.prog 184 (AF 3 AFg AFf AFe asked) := AI Sv Tryz.func184 (by kernel_rfl) (by kernel_rfl) rfl (fun v => (AKF v).trans (ATV v)) (AA AYm trivial)
def AF4 : Env := Y7.ext 184 true true (AF 3 AFg AFf AFe asked)
theorem ZR : Ad Tryz.prog AF4 := Env.Ae Sv AOj (fun _ => AK rfl rfl) (fun _ => AH rfl rfl)
abbrev AZT : Hints := {  }
theorem AVS : ∀ v, QM v = AP Tryz.prog AF4 AZT Tryz.f118 AMi AMh AMg v := by
 rintro ⟨a0, ⟨⟩⟩
 kernel_rfl
theorem AZS : AD (AU Tryz.f118) 0 = [] := by kernel_rfl
theorem ARq : AR Tryz.prog 118 (AF 1 AMi AMh AMg AMj) := AI ZR Tryz.func118 (by kernel_rfl) (by kernel_rfl) rfl (fun v => (Ts v).trans (AVS v)) (AA AZS trivial)
def AOx : Env := AF4.ext 118 true true (AF 1 AMi AMh AMg AMj)
theorem ABy : Ad Tryz.prog AOx := Env.Ae ZR ARq (fun _ => AK rfl rfl) (fun _ => AH rfl rfl)
abbrev AON : Hints := {  }
theorem AFK : ∀ v, G6 v = AP Tryz.prog AOx AON Tryz.f74 M6 M5 M4 v := by
 rintro ⟨a0, a1, ⟨⟩⟩
 kernel_rfl
theorem AOM : AD (AU Tryz.f74) 0 = [] := by kernel_rfl
theorem AAN : AR Tryz.prog 74 (AF 2 M6 M5 M4 G7) := AI ABy Tryz.func74 (by kernel_rfl) (by kernel_rfl) rfl (fun v => (Ka v).trans (AFK v)) (AA AOM trivial)
def NK : Env := AOx.ext 74 true true (AF 2 M6 M5 M4 G7)
theorem L9 : Ad Tryz.prog NK := Env.Ae ABy AAN (fun _ => AK rfl rfl) (fun _ => AH rfl rfl)
abbrev AW4 : Hints := { fp := fun n => match n with | 1 => [[], [], [], [], [], [], [], []] | _ => [] }
theorem AQU : ∀ v, Td v = AP Tryz.prog NK AW4 Tryz.f204 ACA AB9 AB8 v := by
 rintro ⟨a0, a1, ⟨⟩⟩
 kernel_rfl
theorem AW3 : AD (AU Tryz.f204) 0 = [] := by kernel_rfl
theorem AKT : AR Tryz.prog 204 (AF 2 ACA AB9 AB8 BC) := AI L9 Tryz.func204 (by kernel_rfl) (by kernel_rfl) rfl (fun v => (AF9 v).trans (AQU v)) (AA AW3 trivial)
def AFt : Env := NK.ext 204 true true (AF 2 ACA AB9 AB8 BC)
theorem Y4 : Ad Tryz.prog AFt := Env.Ae L9 AKT (fun _ => AK rfl rfl) (fun _ => AH rfl rfl)
abbrev AX6 : Hints := {  }
theorem ASP : ∀ v, Tv v = AP Tryz.prog AFt AX6 Tryz.f134 AEb AEa AEZ v := by
 rintro ⟨a0, ⟨⟩⟩
 kernel_rfl
theorem AX5 : AD (AU Tryz.f134) 0 = [] := by kernel_rfl
theorem AND : AR Tryz.prog 134 (AF 1 AEb AEa AEZ AIu) := AI Y4 Tryz.func134 (by kernel_rfl) (by kernel_rfl) rfl (fun v => (AIt v).trans (ASP v)) (AA AX5 trivial)
def AF0 : Env := AFt.ext 134 true true (AF 1 AEb AEa AEZ AIu)
theorem ZJ : Ad Tryz.prog AF0 := Env.Ae Y4 AND (fun _ => AK rfl rfl) (fun _ => AH rfl rfl)
abbrev ATT : Hints := {  }
theorem AKE : ∀ v, Ld v = AP Tryz.prog AF0 ATT Tryz.f100 RN RM RL v := by
 rintro ⟨a0, ⟨⟩⟩
 kernel_rfl
theorem ATS : AD (AU Tryz.f100) 0 = [] := by kernel_rfl
theorem AFc : AR Tryz.prog 100 (AF 1 RN RM RL bitsLen) := AI ZJ Tryz.func100 (by kernel_rfl) (by kernel_rfl) rfl (fun v => (Yw v).trans (AKE v)) (AA ATS trivial)
def Rp : Env := AF0.ext 100 true true (AF 1 RN RM RL bitsLen)
theorem PC : Ad Tryz.prog Rp := Env.Ae ZJ AFc (fun _ => AK rfl rfl) (fun _ => AH rfl rfl)
abbrev AQR : Hints := { fp := fun n => match n with | 3 => [[], [0], [0], [], [0], [0], [], [], [0], [1]] | 2 => [[], [0], [0], [], [0], [0], [], [], [0], [1]] | 1 => [[], [0], [0], [], [0], [0], [], [], [0], [1]] | _ => [] }
theorem AF7 : ∀ v, Kr v = AP Tryz.prog Rp AQR Tryz.f191 PJ PI PH v := by
 rintro ⟨a0, ⟨⟩⟩
 kernel_rfl
theorem AQQ : AD (AU Tryz.f191) 0 = [] := by kernel_rfl
theorem AB6 : AR Tryz.prog 191 (AF 1 PJ PI PH xorNext) := AI PC Tryz.func191 (by kernel_rfl) (by kernel_rfl) rfl (fun v => (UC v).trans (AF7 v)) (AA AQQ trivial)
def RX : Env := Rp.ext 191 false true (AF 1 PJ PI PH xorNext)
theorem Od : Ad Tryz.prog RX := Env.Ae PC AB6 ((by simp)) (fun _ => AH rfl rfl)
abbrev ARp : Hints := {  }
theorem AIT : ∀ v, LH v = AP Tryz.prog RX ARp Tryz.f190 QL QK QJ v := by
 rintro ⟨a0, ⟨⟩⟩
 kernel_rfl
theorem ARo : AD (AU Tryz.f190) 0 = [] := by kernel_rfl
theorem AD1 : AR Tryz.prog 190 (AF 1 QL QK QJ LI) := AI Od Tryz.func190 (by kernel_rfl) (by kernel_rfl) rfl (fun v => (W8 v).trans (AIT v)) (AA ARo trivial)
def Ia : Env := RX.ext 190 true true (AF 1 QL QK QJ LI)
theorem GF : Ad Tryz.prog Ia := Env.Ae Od AD1 (fun _ => AK rfl rfl) (fun _ => AH rfl rfl)
abbrev Xr : Hints := { loop := fun n => match n with | 0 => Ab 1 53 APo APm APk | 1 => Ab 1 53 APn APl APj | _ => fun _ _ _ => none, fp := fun n => match n with | 4 => [[], [], [], [], [], [], [], [0], [0], [], [], [], [0], [0], [], [], []] | 6 => [[], [], [], [], [], [], [], [], [0], [0], [], [], [0], [0], [0], [1], [0], [1]] | _ => [] }
theorem ANS : ∀ v, APj v = roundOf Tryz.prog Ia Xr 2 1 53 (AB Tryz.f207 1) APn APl v := by
 rintro ⟨a0, a1, a2, a3, a4, ⟨⟩⟩
 kernel_rfl
theorem AX9 : AD (AB Tryz.f207 1) 2 = [] := by kernel_rfl
theorem AYB : Aa Tryz.prog 1 (.loop (AB Tryz.f207 1)) (Xr.loop 1) := AW GF (ANS) (AA AX9 trivial)
theorem ANT : ∀ v, APk v = roundOf Tryz.prog Ia Xr 1 1 53 (AB Tryz.f207 0) APo APm v := by
 rintro ⟨a0, a1, a2, a3, ⟨⟩⟩
 kernel_rfl
theorem AYA : AD (AB Tryz.f207 0) 1 = [(1, AB Tryz.f207 1)] := by kernel_rfl
theorem AYC : Aa Tryz.prog 1 (.loop (AB Tryz.f207 0)) (Xr.loop 0) := AW GF (ANT) (AA AYA ⟨AYB, trivial⟩)
theorem AVq : ∀ v, AVr v = AP Tryz.prog Ia Xr Tryz.f207 ANW ANV ANU v := by
 rintro ⟨a0, a1, a2, ⟨⟩⟩
 kernel_rfl
theorem AZX : AD (AU Tryz.f207) 0 = [(0, AB Tryz.f207 0)] := by kernel_rfl
theorem ASW : AR Tryz.prog 207 (AF 4 ANW ANV ANU AZY) := AI GF Tryz.func207 (by kernel_rfl) (by kernel_rfl) rfl (fun v => (AYD v).trans (AVq v)) (AA AZX ⟨AYC, trivial⟩)
def AF1 : Env := Ia.Fp 207 3 204 (AF 4 ANW ANV ANU AZY)
theorem Rj : Ad Tryz.prog AF1 := Env.Bh GF ASW (AH rfl rfl)
abbrev ACw : Hints := { loop := fun n => match n with | 0 => Ab 1 82 AGk AGj AGi | _ => fun _ _ _ => none, fp := fun n => match n with | 6 => [[], [], [], [], [], [], [], [], [], [], [], [], [0], [0], [], [], [], [], [0], [0], [0], [1], [0], [1]] | 5 => [[], [], [], [], [], [0], [0], [], [], [], [], [0], [0], [], [], []] | 3 => [[], [], [], [], [], [], [], [], [], [], [0], [0], [], [], [], [], [], [0], [0], [], [], []] | _ => [] }
theorem AGh : ∀ v, AGi v = roundOf Tryz.prog AF1 ACw 1 1 82 (AB Tryz.f215 0) AGk AGj v := by
 rintro ⟨a0, a1, a2, a3, ⟨⟩⟩
 kernel_rfl
theorem AUG : AD (AB Tryz.f215 0) 1 = [] := by kernel_rfl
theorem AUH : Aa Tryz.prog 1 (.loop (AB Tryz.f215 0)) (ACw.loop 0) := AW Rj (AGh) (AA AUG trivial)
theorem AQ2 : ∀ v, APC v = AP Tryz.prog AF1 ACw Tryz.f215 ACv ACu ACt v := by
 rintro ⟨a0, a1, a2, a3, ⟨⟩⟩
 kernel_rfl
theorem AXM : AD (AU Tryz.f215) 0 = [(0, AB Tryz.f215 0)] := by kernel_rfl
theorem AK2 : AR Tryz.prog 215 (AF 5 ACv ACu ACt AUJ) := AI Rj Tryz.func215 (by kernel_rfl) (by kernel_rfl) rfl (fun v => (AUI v).trans (AQ2 v)) (AA AXM ⟨AUH, trivial⟩)
def Om : Env := AF1.Fp 215 4 204 (AF 5 ACv ACu ACt AUJ)
theorem JM : Ad Tryz.prog Om := Env.Bh Rj AK2 (AH rfl rfl)
end
end Go.Pev
end
section
namespace Go.Pev
open Go.Proofs
set_option maxRecDepth 100000
noncomputable section
abbrev OA : Hints := { loop := fun n => match n with | 0 => Ab 1 60 AI9 AI7 AI5 | 1 => Ab 1 60 AI8 AI6 AI3 | _ => fun _ _ _ => none, fp := fun n => match n with | 10 => [[], [], [], [], [], [], [], [], [], [], [0], [0], [], [], [0], [0], [0], [1], [0], [1]] | _ => [] }
theorem AI2 : ∀ v, AI3 v = roundOf Tryz.prog Om OA 2 1 60 (AB Tryz.f208 1) AI8 AI6 v := by
 rintro ⟨a0, a1, a2, a3, ⟨⟩⟩
 kernel_rfl
theorem AV2 : AD (AB Tryz.f208 1) 2 = [] := by kernel_rfl
theorem AV4 : Aa Tryz.prog 1 (.loop (AB Tryz.f208 1)) (OA.loop 1) := AW JM (AI2) (AA AV2 trivial)
theorem AI4 : ∀ v, AI5 v = roundOf Tryz.prog Om OA 1 1 60 (AB Tryz.f208 0) AI9 AI7 v := by
 rintro ⟨a0, a1, a2, a3, a4, ⟨⟩⟩
 kernel_rfl
theorem AV3 : AD (AB Tryz.f208 0) 1 = [] := by kernel_rfl
theorem AV5 : Aa Tryz.prog 1 (.loop (AB Tryz.f208 0)) (OA.loop 0) := AW JM (AI4) (AA AV3 trivial)
theorem ASj : ∀ v, APw v = AP Tryz.prog Om OA Tryz.f208 AEt AEs AEr v := by
 rintro ⟨a0, a1, a2, ⟨⟩⟩
 kernel_rfl
theorem AYN : AD (AU Tryz.f208) 0 = [(0, AB Tryz.f208 0), (1, AB Tryz.f208 1)] := by kernel_rfl
theorem ANh : AR Tryz.prog 208 (AF 4 AEt AEs AEr AV7) := AI JM Tryz.func208 (by kernel_rfl) (by kernel_rfl) rfl (fun v => (AV6 v).trans (ASj v)) (AA AYN ⟨AV5, AV4, trivial⟩)
def UA : Env := Om.Fp 208 3 204 (AF 4 AEt AEs AEr AV7)
theorem NH : Ad Tryz.prog UA := Env.Bh JM ANh (AH rfl rfl)
abbrev Yq : Hints := { loop := fun n => match n with | 0 => Ab 1 67 ABk ABj ABi | _ => fun _ _ _ => none, fp := fun n => match n with | 10 => [[], [], [], [], [], [], [], [], [], [], [0], [0], [], [], [0], [0], [0], [1], [0], [1]] | _ => [] }
theorem AFZ : ∀ v, ABi v = roundOf Tryz.prog UA Yq 1 1 67 (AB Tryz.f209 0) ABk ABj v := by
 rintro ⟨a0, a1, a2, a3, a4, a5, ⟨⟩⟩
 kernel_rfl
theorem ATM : AD (AB Tryz.f209 0) 1 = [] := by kernel_rfl
theorem ATN : Aa Tryz.prog 1 (.loop (AB Tryz.f209 0)) (Yq.loop 0) := AW NH (AFZ) (AA ATM trivial)
theorem AOW : ∀ v, AKA v = AP Tryz.prog UA Yq Tryz.f209 Yp Yo Yn v := by
 rintro ⟨a0, a1, a2, ⟨⟩⟩
 kernel_rfl
theorem AWp : AD (AU Tryz.f209) 0 = [(0, AB Tryz.f209 0)] := by kernel_rfl
theorem AJ9 : AR Tryz.prog 209 (AF 4 Yp Yo Yn AOX) := AI NH Tryz.func209 (by kernel_rfl) (by kernel_rfl) rfl (fun v => (ATO v).trans (AOW v)) (AA AWp ⟨ATN, trivial⟩)
def ZP : Env := UA.Fp 209 3 204 (AF 4 Yp Yo Yn AOX)
theorem S7 : Ad Tryz.prog ZP := Env.Bh NH AJ9 (AH rfl rfl)
abbrev ARf : Hints := { fp := fun n => match n with | 1 => [[], [], [], [0], [0], [], [], [0], [0], [], []] | _ => [] }
theorem AIQ : ∀ v, ABF v = AP Tryz.prog ZP ARf Tryz.f218 QF QE QD v := by
 rintro ⟨a0, a1, a2, a3, ⟨⟩⟩
 kernel_rfl
theorem ARe : AD (AU Tryz.f218) 0 = [] := by kernel_rfl
theorem ADs : AR Tryz.prog 218 (AF 5 QF QE QD ADt) := AI S7 Tryz.func218 (by kernel_rfl) (by kernel_rfl) rfl (fun v => (AMQ v).trans (AIQ v)) (AA ARe trivial)
def Rc : Env := ZP.Fp 218 4 204 (AF 5 QF QE QD ADt)
theorem Ov : Ad Tryz.prog Rc := Env.Bh S7 ADs (AH rfl rfl)
abbrev ARw : Hints := {  }
theorem AIX : ∀ v, ABH v = AP Tryz.prog Rc ARw Tryz.f217 QQ QP QO v := by
 rintro ⟨a0, a1, a2, a3, a4, ⟨⟩⟩
 kernel_rfl
theorem ARv : AD (AU Tryz.f217) 0 = [] := by kernel_rfl
theorem AD4 : AR Tryz.prog 217 (AF 6 QQ QP QO AD5) := AI Ov Tryz.func217 (by kernel_rfl) (by kernel_rfl) rfl (fun v => (AMq v).trans (AIX v)) (AA ARv trivial)
def Re : Env := Rc.Fp 217 5 204 (AF 6 QQ QP QO AD5)
theorem Ox : Ad Tryz.prog Re := Env.Bh Ov AD4 (AH rfl rfl)
abbrev AR0 : Hints := {  }
theorem AIZ : ∀ v, ABI v = AP Tryz.prog Re AR0 Tryz.f216 QW QV QU v := by
 rintro ⟨a0, a1, a2, ⟨⟩⟩
 kernel_rfl
theorem ARz : AD (AU Tryz.f216) 0 = [] := by kernel_rfl
theorem AD7 : AR Tryz.prog 216 (AF 4 QW QV QU AD8) := AI Ox Tryz.func216 (by kernel_rfl) (by kernel_rfl) rfl (fun v => (AMs v).trans (AIZ v)) (AA ARz trivial)
def Rg : Env := Re.Fp 216 3 204 (AF 4 QW QV QU AD8)
theorem Oz : Ad Tryz.prog Rg := Env.Bh Ox AD7 (AH rfl rfl)
abbrev AUh : Hints := {  }
theorem ALu : ∀ v, AHF v = AP Tryz.prog Rg AUh Tryz.f210 WR WQ WO v := by
 rintro ⟨a0, a1, a2, ⟨⟩⟩
 kernel_rfl
theorem AUg : AD (AU Tryz.f210) 0 = [] := by kernel_rfl
theorem AHE : AR Tryz.prog 210 (AF 4 WR WQ WO ALv) := AI Oz Tryz.func210 (by kernel_rfl) (by kernel_rfl) rfl (fun v => (ARR v).trans (ALu v)) (AA AUg trivial)
def Ot : Env := Rg.Fp 210 3 204 (AF 4 WR WQ WO ALv)
theorem Kj : Ad Tryz.prog Ot := Env.Bh Oz AHE (AH rfl rfl)
abbrev ALT : Hints := { loop := fun n => match n with | 0 => Ab 1 34 APH APG APF | _ => fun _ _ _ => none, fp := fun n => match n with | 3 => [[], [], [], [], [], [], [0], [0], [], [], [0], [0], [0], [1], [0], [1]] | _ => [] }
theorem ALP : ∀ v, APF v = roundOf Tryz.prog Ot ALT 1 1 34 (AB Tryz.f211 0) APH APG v := by
 rintro ⟨a0, a1, a2, ⟨⟩⟩
 kernel_rfl
theorem AXT : AD (AB Tryz.f211 0) 1 = [] := by kernel_rfl
theorem AXU : Aa Tryz.prog 1 (.loop (AB Tryz.f211 0)) (ALT.loop 0) := AW Kj (ALP) (AA AXT trivial)
theorem AUS : ∀ v, AUT v = AP Tryz.prog Ot ALT Tryz.f211 ALS ALR ALQ v := by
 rintro ⟨a0, a1, a2, ⟨⟩⟩
 kernel_rfl
theorem AZD : AD (AU Tryz.f211) 0 = [(0, AB Tryz.f211 0)] := by kernel_rfl
theorem ARD : AR Tryz.prog 211 (AF 4 ALS ALR ALQ AZE) := AI Kj Tryz.func211 (by kernel_rfl) (by kernel_rfl) rfl (fun v => (AXV v).trans (AUS v)) (AA AZD ⟨AXU, trivial⟩)
def NC : Env := Ot.Fp 211 3 204 (AF 4 ALS ALR ALQ AZE)
theorem GV : Ad Tryz.prog NC := Env.Bh Kj ARD (AH rfl rfl)
abbrev Ca : Hints := { loop := fun n => match n with | 0 => Ab 1 141 SK SD R9 | 1 => Ab 1 141 SJ SC R8 | 2 => Ab 1 141 SH SB R7 | 3 => Ab 1 141 SF SA R6 | _ => fun _ _ _ => none, fp := fun n => match n with | 11 => [[], [], [], [], [], [], [], [], [0], [0], [], [], [0], [0], [0], [1], [0], [1]] | 5 => [[], [], [], [], [], [], [], [0], [0], [], [], [], [0], [0], [], [], [], []] | 17 => [[], [], [], [], [], [], [], [], [0], [0], [], [], [0], [0], [0], [1], [0], [1]] | 16 => [[], [], [], [0], [0], [], [], [], [0], [0], [], [], []] | 23 => [[], [], [], [], [], [], [], [], [0], [0], [], [], [0], [0], [0], [1], [0], [1]] | 22 => [[], [], [], [0], [0], [], [], [], [0], [0], [], [], []] | _ => [] }
theorem Wc : ∀ v, R6 v = roundOf Tryz.prog NC Ca 4 1 141 (AB Tryz.f212 3) SF SA v := by
 rintro ⟨a0, a1, a2, a3, a4, a5, ⟨⟩⟩
 kernel_rfl
theorem AHe : AD (AB Tryz.f212 3) 4 = [] := by kernel_rfl
theorem AHi : Aa Tryz.prog 1 (.loop (AB Tryz.f212 3)) (Ca.loop 3) := AW GV (Wc) (AA AHe trivial)
theorem Wd : ∀ v, R7 v = roundOf Tryz.prog NC Ca 3 1 141 (AB Tryz.f212 2) SH SB v := by
 rintro ⟨a0, a1, a2, a3, a4, a5, ⟨⟩⟩
 kernel_rfl
theorem AHf : AD (AB Tryz.f212 2) 3 = [] := by kernel_rfl
theorem AHj : Aa Tryz.prog 1 (.loop (AB Tryz.f212 2)) (Ca.loop 2) := AW GV (Wd) (AA AHf trivial)
theorem We : ∀ v, R8 v = roundOf Tryz.prog NC Ca 2 1 141 (AB Tryz.f212 1) SJ SC v := by
 rintro ⟨a0, a1, a2, a3, a4, ⟨⟩⟩
 kernel_rfl
theorem AHg : AD (AB Tryz.f212 1) 2 = [] := by kernel_rfl
theorem AHk : Aa Tryz.prog 1 (.loop (AB Tryz.f212 1)) (Ca.loop 1) := AW GV (We) (AA AHg trivial)
theorem Wf : ∀ v, R9 v = roundOf Tryz.prog NC Ca 1 1 141 (AB Tryz.f212 0) SK SD v := by
 rintro ⟨a0, a1, a2, a3, a4, ⟨⟩⟩
 kernel_rfl
theorem AHh : AD (AB Tryz.f212 0) 1 = [(1, AB Tryz.f212 1), (2, AB Tryz.f212 2), (3, AB Tryz.f212 3)] := by kernel_rfl
theorem AHl : Aa Tryz.prog 1 (.loop (AB Tryz.f212 0)) (Ca.loop 0) := AW GV (Wf) (AA AHh ⟨AHk, AHj, AHi, trivial⟩)
theorem ADg : ∀ v, Wg v = AP Tryz.prog NC Ca Tryz.f212 MS MR MQ v := by
 rintro ⟨a0, a1, a2, ⟨⟩⟩
 kernel_rfl
theorem AL7 : AD (AU Tryz.f212) 0 = [(0, AB Tryz.f212 0)] := by kernel_rfl
theorem Zm : AR Tryz.prog 212 (AF 4 MS MR MQ Wh) := AI GV Tryz.func212 (by kernel_rfl) (by kernel_rfl) rfl (fun v => (AHm v).trans (ADg v)) (AA AL7 ⟨AHl, trivial⟩)
def E7 : Env := NC.Fp 212 3 204 (AF 4 MS MR MQ Wh)
theorem Dh : Ad Tryz.prog E7 := Env.Bh GV Zm (AH rfl rfl)
abbrev Ej : Hints := { loop := fun n => match n with | 0 => Ab 1 90 Wu Wr Wo | 1 => Ab 1 90 Wt Wq Wn | 2 => Ab 1 90 Ws Wp Wm | _ => fun _ _ _ => none, fp := fun n => match n with | 8 => [[], [], [], [], [], [], [0], [0], [], [], [0], [0], [0], [1], [0], [1]] | 3 => [[], [], [], [], [], [], [], [0], [0], [], [], [0], [0], [], [], [], []] | 5 => [[], [], [], [], [], [], [], [0], [0], [], [], [0], [0], [], [], []] | 1 => [[], [], [], [], [], [], [0], [0], [], [], [0], [0], [0], [1], [0], [1]] | _ => [] }
theorem Zu : ∀ v, Wm v = roundOf Tryz.prog E7 Ej 3 1 90 (AB Tryz.f213 2) Ws Wp v := by
 rintro ⟨a0, a1, a2, a3, ⟨⟩⟩
 kernel_rfl
theorem AMC : AD (AB Tryz.f213 2) 3 = [] := by kernel_rfl
theorem AMF : Aa Tryz.prog 1 (.loop (AB Tryz.f213 2)) (Ej.loop 2) := AW Dh (Zu) (AA AMC trivial)
theorem Zv : ∀ v, Wn v = roundOf Tryz.prog E7 Ej 2 1 90 (AB Tryz.f213 1) Wt Wq v := by
 rintro ⟨a0, a1, a2, a3, ⟨⟩⟩
 kernel_rfl
theorem AMD : AD (AB Tryz.f213 1) 2 = [] := by kernel_rfl
theorem AMG : Aa Tryz.prog 1 (.loop (AB Tryz.f213 1)) (Ej.loop 1) := AW Dh (Zv) (AA AMD trivial)
theorem Zw : ∀ v, Wo v = roundOf Tryz.prog E7 Ej 1 1 90 (AB Tryz.f213 0) Wu Wr v := by
 rintro ⟨a0, a1, a2, a3, ⟨⟩⟩
 kernel_rfl
theorem AME : AD (AB Tryz.f213 0) 1 = [(1, AB Tryz.f213 1), (2, AB Tryz.f213 2)] := by kernel_rfl
theorem AMH : Aa Tryz.prog 1 (.loop (AB Tryz.f213 0)) (Ej.loop 0) := AW Dh (Zw) (AA AME ⟨AMG, AMF, trivial⟩)
theorem AIL : ∀ v, ABC v = AP Tryz.prog E7 Ej Tryz.f213 P9 P8 P7 v := by
 rintro ⟨a0, a1, a2, a3, ⟨⟩⟩
 kernel_rfl
theorem ARb : AD (AU Tryz.f213) 0 = [(0, AB Tryz.f213 0)] := by kernel_rfl
theorem ADn : AR Tryz.prog 213 (AF 5 P9 P8 P7 ADo) := AI Dh Tryz.func213 (by kernel_rfl) (by kernel_rfl) rfl (fun v => (AMI v).trans (AIL v)) (AA ARb ⟨AMH, trivial⟩)
def EE : Env := E7.Fp 213 4 204 (AF 5 P9 P8 P7 ADo)
theorem Ci : Ad Tryz.prog EE := Env.Bh Dh ADn (AH rfl rfl)
abbrev EM : Hints := { loop := fun n => match n with | 0 => Ab 1 178 AHd AHY AHT | 1 => Ab 1 178 AHc AHX AHR | 2 => Ab 1 178 AHb AHW AHP | 3 => Ab 1 178 AHa AHV AHN | 4 => Ab 1 178 AHZ AHU AHL | _ => fun _ _ _ => none, fp := fun n => match n with | 3 => [[], [], [], [], [], [], [], [0], [0], [], [], [0], [0], [], [], []] | 5 => [[], [], [], [], [], [], [], [0], [0], [], [], [0], [0], [], [], [], []] | 18 => [[], [], [], [], [], [], [0], [0], [], [], [0], [0], [0], [1], [0], [1]] | 13 => [[], [], [], [], [], [], [], [0], [0], [], [], [0], [0], [], [], []] | 15 => [[], [], [], [], [], [], [], [0], [0], [], [], [0], [0], [], [], [], []] | 21 => [[], [], [], [], [], [], [0], [0], [], [], [0], [0], [0], [1], [0], [1]] | 10 => [[], [], [], [], [], [], [0], [0], [], [], [0], [0], [0], [1], [0], [1]] | 8 => [[], [], [], [], [], [], [0], [0], [], [], [0], [0], [0], [1], [0], [1]] | 1 => [[], [], [], [], [], [], [0], [0], [], [], [0], [0], [0], [1], [0], [1]] | _ => [] }
theorem AHK : ∀ v, AHL v = roundOf Tryz.prog EE EM 5 1 178 (AB Tryz.f214 4) AHZ AHU v := by
 rintro ⟨a0, a1, a2, a3, ⟨⟩⟩
 kernel_rfl
theorem AUq : AD (AB Tryz.f214 4) 5 = [] := by kernel_rfl
theorem AUv : Aa Tryz.prog 1 (.loop (AB Tryz.f214 4)) (EM.loop 4) := AW Ci (AHK) (AA AUq trivial)
theorem AHM : ∀ v, AHN v = roundOf Tryz.prog EE EM 4 1 178 (AB Tryz.f214 3) AHa AHV v := by
 rintro ⟨a0, a1, a2, a3, ⟨⟩⟩
 kernel_rfl
theorem AUr : AD (AB Tryz.f214 3) 4 = [] := by kernel_rfl
theorem AUw : Aa Tryz.prog 1 (.loop (AB Tryz.f214 3)) (EM.loop 3) := AW Ci (AHM) (AA AUr trivial)
theorem AHO : ∀ v, AHP v = roundOf Tryz.prog EE EM 3 1 178 (AB Tryz.f214 2) AHb AHW v := by
 rintro ⟨a0, a1, a2, a3, ⟨⟩⟩
 kernel_rfl
theorem AUs : AD (AB Tryz.f214 2) 3 = [(3, AB Tryz.f214 3), (4, AB Tryz.f214 4)] := by kernel_rfl
theorem AUx : Aa Tryz.prog 1 (.loop (AB Tryz.f214 2)) (EM.loop 2) := AW Ci (AHO) (AA AUs ⟨AUw, AUv, trivial⟩)
theorem AHQ : ∀ v, AHR v = roundOf Tryz.prog EE EM 2 1 178 (AB Tryz.f214 1) AHc AHX v := by
 rintro ⟨a0, a1, a2, a3, ⟨⟩⟩
 kernel_rfl
theorem AUt : AD (AB Tryz.f214 1) 2 = [] := by kernel_rfl
theorem AUy : Aa Tryz.prog 1 (.loop (AB Tryz.f214 1)) (EM.loop 1) := AW Ci (AHQ) (AA AUt trivial)
theorem AHS : ∀ v, AHT v = roundOf Tryz.prog EE EM 1 1 178 (AB Tryz.f214 0) AHd AHY v := by
 rintro ⟨a0, a1, a2, a3, ⟨⟩⟩
 kernel_rfl
theorem AUu : AD (AB Tryz.f214 0) 1 = [] := by kernel_rfl
theorem AUz : Aa Tryz.prog 1 (.loop (AB Tryz.f214 0)) (EM.loop 0) := AW Ci (AHS) (AA AUu trivial)
theorem ARX : ∀ v, APS v = AP Tryz.prog EE EM Tryz.f214 ADf ADe ADd v := by
 rintro ⟨a0, a1, a2, a3, ⟨⟩⟩
 kernel_rfl
theorem AXk : AD (AU Tryz.f214) 0 = [(0, AB Tryz.f214 0), (1, AB Tryz.f214 1), (2, AB Tryz.f214 2)] := by kernel_rfl
theorem AL6 : AR Tryz.prog 214 (AF 5 ADf ADe ADd AU1) := AI Ci Tryz.func214 (by kernel_rfl) (by kernel_rfl) rfl (fun v => (AU0 v).trans (ARX v)) (AA AXk ⟨AUz, AUy, AUx, trivial⟩)
def AFy : Env := EE.Fp 214 4 204 (AF 5 ADf ADe ADd AU1)
theorem ZF : Ad Tryz.prog AFy := Env.Bh Ci AL6 (AH rfl rfl)
abbrev AL1 (self : (List (List Int) × Int × Int × Int × Unit) → Option ((List (List Int) × Unit))) : Hints := { loop := fun n => match n with | 0 => Ab 1 148 APP APO (APN self) | _ => fun _ _ _ => none, fp := fun n => match n with | 17 => [[], [], [], [], [], [], [], [0], [0], [], [], [0], [0], [], [], [], []] | _ => [] }
abbrev ADV (self : (List (List Int) × Int × Int × Int × Unit) → Option ((List (List Int) × Unit))) : Env := AFy.ext 206 false true (AF 5 WX WW WV self)
theorem AL0 (self : (List (List Int) × Int × Int × Int × Unit) → Option ((List (List Int) × Unit))) : ∀ v, APN self v = roundOf Tryz.prog (ADV self) (AL1 self) 1 1 148 (AB Tryz.f206 0) APP APO v := by
 rintro ⟨a0, a1, a2, a3, a4, a5, ⟨⟩⟩
 kernel_rfl
theorem AXb : AD (AB Tryz.f206 0) 1 = [] := by kernel_rfl
theorem AXc (self : (List (List Int) × Int × Int × Int × Unit) → Option ((List (List Int) × Unit))) (hE : Ad Tryz.prog (ADV self)) : Aa Tryz.prog 1 (.loop (AB Tryz.f206 0)) ((AL1 self).loop 0) := AW hE (AL0 self) (AA AXb trivial)
theorem AUl (self : (List (List Int) × Int × Int × Int × Unit) → Option ((List (List Int) × Unit))) : ∀ v, AZJ self v = AP Tryz.prog (ADV self) (AL1 self) Tryz.f206 WX WW WV v := by
 rintro ⟨a0, a1, a2, a3, ⟨⟩⟩
 kernel_rfl
theorem AZI : AD (AU Tryz.f206) 0 = [(0, AB Tryz.f206 0)] := by kernel_rfl
theorem AL2 : ∀ n, AR Tryz.prog 206 (AF 5 WX WW WV (WY n)) := by
 intro n
 induction n with
 | zero => exact Sb fun _ => rfl
 | succ n ih =>
  have hE : Ad Tryz.prog (ADV (WY n)) := Env.Ae ZF ih ((by simp)) (fun _ => AH rfl rfl)
  let self := WY n
  exact AI hE Tryz.func206 (by kernel_rfl) (by kernel_rfl) rfl (AUl self) (AA AZI ⟨(AXc self hE), trivial⟩)
theorem ARV : AR Tryz.prog 206 (AF 5 WX WW WV AXe) := by
 have e : AXe = WY 100 := funext AXd
 rw [e]
 exact AL2 _
def AOt : Env := AFy.Fp 206 4 204 (AF 5 WX WW WV AXe)
theorem ABu : Ad Tryz.prog AOt := Env.Bh ZF ARV (AH rfl rfl)
abbrev AXJ : Hints := {  }
theorem AQz : ∀ v, APA v = AP Tryz.prog AOt AXJ Tryz.f203 ACo ACn ACm v := by
 rintro ⟨a0, ⟨⟩⟩
 kernel_rfl
theorem AXI : AD (AU Tryz.f203) 0 = [] := by kernel_rfl
theorem AK0 : AR Tryz.prog 203 (AF 2 ACo ACn ACm AGf) := AI ABu Tryz.func203 (by kernel_rfl) (by kernel_rfl) rfl (fun v => (AUC v).trans (AQz v)) (AA AXI trivial)
def Ol : Env := AOt.Fp 203 1 204 (AF 2 ACo ACn ACm AGf)
theorem JL : Ad Tryz.prog Ol := Env.Bh ABu AK0 (AH rfl rfl)
end
end Go.Pev
end
